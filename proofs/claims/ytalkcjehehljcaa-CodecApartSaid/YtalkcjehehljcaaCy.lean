/-
  Walks: the writer.
-/
import Derived.Test.YtalkcjehehljcaaCx
namespace Fb.Try
open Go Go.Proofs Fb Fb.Codec

theorem own_ne {w : World} {base e e' size b : Nat} {v : Value} {n : Nat} {xs cs : List Value} (h : w.ownsRow base e size v n xs) (hb : Blk w b e' cs) (he : e ≠ e') : v.ownBlock ≠ some b := by
  intro ho
  rcases h.2 with ⟨rfl, _⟩ | ⟨g, cap, cur, rfl, _, hg, _⟩
  · cases ho
  · cases ho
    unfold Blk at hb
    rw [hb] at hg
    cases hg
    exact he rfl
theorem _root_.Fb.Chg.cell {S : Nat → Prop} {w w' : World} {b o : Nat} {v : Value} (h : Chg S w w') (hc : w.cell? ⟨b, o, none⟩ = some v) (hs : ¬ S b) : w'.cell? ⟨b, o, none⟩ = some v := by
  have hb := World.block_lt_of_cell? w _ hc
  have he := h.block b hb hs
  simp only [World.cell?, he] at hc ⊢
  exact hc

theorem r_drawS {w : World} {B : (World → Prop) → World → Prop} (S : Nat → Prop) (k : ∀ w', Ext w w' → w'.heap = w.heap → B (Chg S w) w') : Draw w B :=
  r_draw (Chg S w) (Chg.mono (Ext.drew w) fun _ _ h => h.elim) (k _ (Ext.drew w) rfl)
theorem _root_.Fb.Chg.wide {w w' : World} (h : Ext w w') (S : Nat → Prop) : Chg S w w' := Chg.mono h fun _ _ h => h.elim
theorem own_ge {w : World} {base e size k : Nat} {v : Value} {n : Nat} {xs : List Value} (h : w.ownsRow base e size v n xs) (ho : v.ownBlock = some k) : base ≤ k := (h.lt k ho).1

/-- The writer, and what it wrote. -/
structure Wr (w : World) (base b : Nat) (l : List UInt8) (v : Value) : Prop where
  blk : Blk w b 71 [v]
  own : w.ownsRow base 5 1 v l.length (bvs l)
  lt : b < base
  le : base ≤ w.heap.size
theorem Wr.ext {w w' : World} {base b : Nat} {l : List UInt8} {v : Value} (h : Wr w base b l v) (k : Ext w w') : Wr w' base b l v :=
  ⟨h.blk.ext k, own_ext h.own k, h.lt, Nat.le_trans h.le k.size⟩

theorem Wr.keep {S : Nat → Prop} {w w' : World} {base b : Nat} {l : List UInt8} {v : Value} (h : Wr w base b l v) (k : Chg S w w') (hb : ¬ S b) (hv : ∀ g, v.ownBlock = some g → ¬ S g) : Wr w' base b l v :=
  ⟨h.blk.keep k hb, own_keep h.own k hv, h.lt, Nat.le_trans h.le k.size⟩
theorem oneCell_own {w : World} {base e size : Nat} {v : Value} {n : Nat} {xs : List Value} (h : w.ownsRow base e size v n xs) : v.oneCell' = true := by
  rcases h.2 with ⟨rfl, _⟩ | ⟨g, cap, cur, rfl, _⟩ <;> rfl
theorem _root_.Fb.View.keepN {S : Nat → Prop} {w w' : World} {a : Option Addr} {len cap size : Nat} {L : List Value} (h : View w a len cap size L) (k : Chg S w w') (hs : 0 < L.length → ¬ S (blk a)) : View w' a len cap size L :=
  ⟨h.length, h.le, h.max, h.plain, fun i u hu => Chg.cell k (h.cell i u hu) (hs (Nat.lt_of_le_of_lt (Nat.zero_le _) (List.getElem?_eq_some_iff.1 hu).1))⟩

theorem wnumber_ok {w : World} {base b : Nat} {l : List UInt8} {v : Value} (nb no : Nat) (z : Int) (h : Wr w base b l v) (hn : w.cell? ⟨nb, no, none⟩ = some (.int .i64 z)) (hne : v.ownBlock ≠ some nb) (hz : inI64 z) (hl : l.length ≤ 1000000) :
    Cal Try.prog 59 ⟨[.pointer (some ⟨b, 0, none⟩), .pointer (some ⟨nb, no, none⟩)]⟩ w fun _ w' => ∃ v', Wr w' base b (l ++ num z) v' ∧ Chg (fun k => k = b ∨ v.ownBlock = some k) w w' := by
  have hnl := num_len hz
  have hb : v.ownBlock ≠ some b := fun e => by have := own_ge h.own e; have := h.lt; omega
  refine go59 (by rfl) ?_
  (repeat ((conv => whnf); (first | with_reducible refine r_tt ?_ | with_reducible refine r_ff ?_ | with_reducible refine r_ntt ?_ | with_reducible refine r_nff ?_ | refine r_need (by omega) ?_ | refine r_i64 (by omega) ?_ | refine r_dect (by omega) ?_ | refine r_decf (by omega) ?_ | refine r_eqt (by omega) ?_ | refine r_eqf (by omega) ?_ | refine r_net (by omega) ?_ | refine r_nef (by omega) ?_ | refine r_u8 (by omega) ?_ | refine r_u64 (by omega) ?_ | refine r_i32 (by omega) ?_ | refine r_u32 (by omega) ?_ | refine r_rem (by omega) ?_ | refine r_quo (by omega) ?_ | refine r_ldb (by assumption) (by rfl) ?_ | refine r_ldbE (by assumption) (by rfl) ?_))); (conv => whnf)
  refine r_drawS (fun k => v.ownBlock = some k) fun w1 hx1 _ => ?_
  (repeat ((conv => whnf); (first | with_reducible refine r_tt ?_ | with_reducible refine r_ff ?_ | with_reducible refine r_ntt ?_ | with_reducible refine r_nff ?_ | refine r_need (by omega) ?_ | refine r_i64 (by omega) ?_ | refine r_dect (by omega) ?_ | refine r_decf (by omega) ?_ | refine r_eqt (by omega) ?_ | refine r_eqf (by omega) ?_ | refine r_net (by omega) ?_ | refine r_nef (by omega) ?_ | refine r_u8 (by omega) ?_ | refine r_u64 (by omega) ?_ | refine r_i32 (by omega) ?_ | refine r_u32 (by omega) ?_ | refine r_rem (by omega) ?_ | refine r_quo (by omega) ?_ | refine r_ldb (by assumption) (by rfl) ?_ | refine r_ldbE (by assumption) (by rfl) ?_))); (conv => whnf)
  refine r_ld (fun _ hx => Chg.cell hx ((h.blk.cell 0).trans rfl) hb) ?_
  (repeat ((conv => whnf); (first | with_reducible refine r_tt ?_ | with_reducible refine r_ff ?_ | with_reducible refine r_ntt ?_ | with_reducible refine r_nff ?_ | refine r_need (by omega) ?_ | refine r_i64 (by omega) ?_ | refine r_dect (by omega) ?_ | refine r_decf (by omega) ?_ | refine r_eqt (by omega) ?_ | refine r_eqf (by omega) ?_ | refine r_net (by omega) ?_ | refine r_nef (by omega) ?_ | refine r_u8 (by omega) ?_ | refine r_u64 (by omega) ?_ | refine r_i32 (by omega) ?_ | refine r_u32 (by omega) ?_ | refine r_rem (by omega) ?_ | refine r_quo (by omega) ?_ | refine r_ldb (by assumption) (by rfl) ?_ | refine r_ldbE (by assumption) (by rfl) ?_))); (conv => whnf)
  refine r_ld (fun _ hx => Chg.cell hx hn hne) ?_
  (repeat ((conv => whnf); (first | with_reducible refine r_tt ?_ | with_reducible refine r_ff ?_ | with_reducible refine r_ntt ?_ | with_reducible refine r_nff ?_ | refine r_need (by omega) ?_ | refine r_i64 (by omega) ?_ | refine r_dect (by omega) ?_ | refine r_decf (by omega) ?_ | refine r_eqt (by omega) ?_ | refine r_eqf (by omega) ?_ | refine r_net (by omega) ?_ | refine r_nef (by omega) ?_ | refine r_u8 (by omega) ?_ | refine r_u64 (by omega) ?_ | refine r_i32 (by omega) ?_ | refine r_u32 (by omega) ?_ | refine r_rem (by omega) ?_ | refine r_quo (by omega) ?_ | refine r_ldb (by assumption) (by rfl) ?_ | refine r_ldbE (by assumption) (by rfl) ?_))); (conv => whnf)
  refine r_cal (PutNumber_ok z w1 hz) ?_
  rintro pv w2 ⟨hx2, hown2⟩
  obtain ⟨pa, pc, rfl, hpv, _⟩ := View.of_own hown2
  (repeat ((conv => whnf); (first | with_reducible refine r_tt ?_ | with_reducible refine r_ff ?_ | with_reducible refine r_ntt ?_ | with_reducible refine r_nff ?_ | refine r_need (by omega) ?_ | refine r_i64 (by omega) ?_ | refine r_dect (by omega) ?_ | refine r_decf (by omega) ?_ | refine r_eqt (by omega) ?_ | refine r_eqf (by omega) ?_ | refine r_net (by omega) ?_ | refine r_nef (by omega) ?_ | refine r_u8 (by omega) ?_ | refine r_u64 (by omega) ?_ | refine r_i32 (by omega) ?_ | refine r_u32 (by omega) ?_ | refine r_rem (by omega) ?_ | refine r_quo (by omega) ?_ | refine r_ldb (by assumption) (by rfl) ?_ | refine r_ldbE (by assumption) (by rfl) ?_))); (conv => whnf)
  refine r_held ((hx1.trans hx2).wide _) ?_
  (repeat ((conv => whnf); (first | with_reducible refine r_tt ?_ | with_reducible refine r_ff ?_ | with_reducible refine r_ntt ?_ | with_reducible refine r_nff ?_ | refine r_need (by omega) ?_ | refine r_i64 (by omega) ?_ | refine r_dect (by omega) ?_ | refine r_decf (by omega) ?_ | refine r_eqt (by omega) ?_ | refine r_eqf (by omega) ?_ | refine r_net (by omega) ?_ | refine r_nef (by omega) ?_ | refine r_u8 (by omega) ?_ | refine r_u64 (by omega) ?_ | refine r_i32 (by omega) ?_ | refine r_u32 (by omega) ?_ | refine r_rem (by omega) ?_ | refine r_quo (by omega) ?_ | refine r_ldb (by assumption) (by rfl) ?_ | refine r_ldbE (by assumption) (by rfl) ?_))); (conv => whnf)
  have hw2 := h.ext (hx1.trans hx2)
  refine r_app el_bytes hw2.own hpv (by intro u hu; exact one_bvs _ u hu) (by omega) hw2.le fun v' w3 hown3 hchg _ => ?_
  (repeat ((conv => whnf); (first | with_reducible refine r_tt ?_ | with_reducible refine r_ff ?_ | with_reducible refine r_ntt ?_ | with_reducible refine r_nff ?_ | refine r_need (by omega) ?_ | refine r_i64 (by omega) ?_ | refine r_dect (by omega) ?_ | refine r_decf (by omega) ?_ | refine r_eqt (by omega) ?_ | refine r_eqf (by omega) ?_ | refine r_net (by omega) ?_ | refine r_nef (by omega) ?_ | refine r_u8 (by omega) ?_ | refine r_u64 (by omega) ?_ | refine r_i32 (by omega) ?_ | refine r_u32 (by omega) ?_ | refine r_rem (by omega) ?_ | refine r_quo (by omega) ?_ | refine r_ldb (by assumption) (by rfl) ?_ | refine r_ldbE (by assumption) (by rfl) ?_))); (conv => whnf)
  refine r_held (((hx1.trans hx2).wide _).trans hchg) ?_
  (repeat ((conv => whnf); (first | with_reducible refine r_tt ?_ | with_reducible refine r_ff ?_ | with_reducible refine r_ntt ?_ | with_reducible refine r_nff ?_ | refine r_need (by omega) ?_ | refine r_i64 (by omega) ?_ | refine r_dect (by omega) ?_ | refine r_decf (by omega) ?_ | refine r_eqt (by omega) ?_ | refine r_eqf (by omega) ?_ | refine r_net (by omega) ?_ | refine r_nef (by omega) ?_ | refine r_u8 (by omega) ?_ | refine r_u64 (by omega) ?_ | refine r_i32 (by omega) ?_ | refine r_u32 (by omega) ?_ | refine r_rem (by omega) ?_ | refine r_quo (by omega) ?_ | refine r_ldb (by assumption) (by rfl) ?_ | refine r_ldbE (by assumption) (by rfl) ?_))); (conv => whnf)
  have hblk3 := hw2.blk.keep hchg hb
  refine r_st hblk3 (by simp) (oneCell_own hown3) fun w4 hc4 hs4 hb4 => ?_
  (repeat ((conv => whnf); (first | with_reducible refine r_tt ?_ | with_reducible refine r_ff ?_ | with_reducible refine r_ntt ?_ | with_reducible refine r_nff ?_ | refine r_need (by omega) ?_ | refine r_i64 (by omega) ?_ | refine r_dect (by omega) ?_ | refine r_decf (by omega) ?_ | refine r_eqt (by omega) ?_ | refine r_eqf (by omega) ?_ | refine r_net (by omega) ?_ | refine r_nef (by omega) ?_ | refine r_u8 (by omega) ?_ | refine r_u64 (by omega) ?_ | refine r_i32 (by omega) ?_ | refine r_u32 (by omega) ?_ | refine r_rem (by omega) ?_ | refine r_quo (by omega) ?_ | refine r_ldb (by assumption) (by rfl) ?_ | refine r_ldbE (by assumption) (by rfl) ?_))); (conv => whnf)
  refine ⟨v', ⟨hb4, ?_, h.lt, ?_⟩, ?_⟩
  · have := own_keep hown3 hc4 (fun k hk e => by subst e; have := own_ge hown3 hk; have := h.lt; omega)
    simpa [bvs_append] using this
  · have := hw2.le; have := hchg.size; omega
  · exact Chg.step (Chg.mono (((hx1.trans hx2).wide _).trans hchg) fun k _ hk => .inr hk) hc4 fun k hk _ => .inl hk

/-- What a list's bytes are, up to the frame's bound. -/
def listW : List UInt8 → List Int → List UInt8
  | pre, [] => pre
  | pre, x :: r => if pre.length ≤ 65536 then listW (pre ++ num x) r else pre

theorem wlist_ok {w : World} {base b : Nat} {l : List UInt8} {v : Value} (nb no : Nat) (a : Option Addr) (len cap : Nat) (xs : List Int) (h : Wr w base b l v) (hn : w.cell? ⟨nb, no, none⟩ = some (.slice a len cap)) (hnb : nb < base) (hne : nb ≠ b)
    (hv : View w a len cap 1 (xs.map (.int .i64))) (hva : 0 < xs.length → blk a < base ∧ blk a ≠ b) (hxs : ∀ x ∈ xs, inI64 x) (hl : l.length ≤ 900000) :
    Cal Try.prog 58 ⟨[.pointer (some ⟨b, 0, none⟩), .pointer (some ⟨nb, no, none⟩)]⟩ w fun _ w' => ∃ v', Wr w' base b (listW (l ++ num len) xs) v' ∧ Chg (fun k => k = b ∨ base ≤ k) w w' := by
  have hxl : xs.length = len := hv.int
  have hmax : len ≤ 9223372036854775807 := by have h1 := hv.le; have h2 := hv.max; unfold maxLen at h2; omega
  refine go58 (by rfl) ?_
  (repeat ((conv => whnf); (first | with_reducible refine r_tt ?_ | with_reducible refine r_ff ?_ | with_reducible refine r_ntt ?_ | with_reducible refine r_nff ?_ | refine r_need (by omega) ?_ | refine r_i64 (by omega) ?_ | refine r_dect (by omega) ?_ | refine r_decf (by omega) ?_ | refine r_eqt (by omega) ?_ | refine r_eqf (by omega) ?_ | refine r_net (by omega) ?_ | refine r_nef (by omega) ?_ | refine r_u8 (by omega) ?_ | refine r_u64 (by omega) ?_ | refine r_i32 (by omega) ?_ | refine r_u32 (by omega) ?_ | refine r_rem (by omega) ?_ | refine r_quo (by omega) ?_ | refine r_ldb (by assumption) (by rfl) ?_ | refine r_ldbE (by assumption) (by rfl) ?_))); (conv => whnf)
  refine r_ldw hn ?_
  (repeat ((conv => whnf); (first | with_reducible refine r_tt ?_ | with_reducible refine r_ff ?_ | with_reducible refine r_ntt ?_ | with_reducible refine r_nff ?_ | refine r_need (by omega) ?_ | refine r_i64 (by omega) ?_ | refine r_dect (by omega) ?_ | refine r_decf (by omega) ?_ | refine r_eqt (by omega) ?_ | refine r_eqf (by omega) ?_ | refine r_net (by omega) ?_ | refine r_nef (by omega) ?_ | refine r_u8 (by omega) ?_ | refine r_u64 (by omega) ?_ | refine r_i32 (by omega) ?_ | refine r_u32 (by omega) ?_ | refine r_rem (by omega) ?_ | refine r_quo (by omega) ?_ | refine r_ldb (by assumption) (by rfl) ?_ | refine r_ldbE (by assumption) (by rfl) ?_))); (conv => whnf)
  refine r_new fun n w1 hx1 hn1 hs1 hblk1 => ?_
  (repeat ((conv => whnf); (first | with_reducible refine r_tt ?_ | with_reducible refine r_ff ?_ | with_reducible refine r_ntt ?_ | with_reducible refine r_nff ?_ | refine r_need (by omega) ?_ | refine r_i64 (by omega) ?_ | refine r_dect (by omega) ?_ | refine r_decf (by omega) ?_ | refine r_eqt (by omega) ?_ | refine r_eqf (by omega) ?_ | refine r_net (by omega) ?_ | refine r_nef (by omega) ?_ | refine r_u8 (by omega) ?_ | refine r_u64 (by omega) ?_ | refine r_i32 (by omega) ?_ | refine r_u32 (by omega) ?_ | refine r_rem (by omega) ?_ | refine r_quo (by omega) ?_ | refine r_ldb (by assumption) (by rfl) ?_ | refine r_ldbE (by assumption) (by rfl) ?_))); (conv => whnf)
  refine r_st hblk1 (by simp) (by rfl) fun w2 hc2 hs2 hblk2 => ?_
  (repeat ((conv => whnf); (first | with_reducible refine r_tt ?_ | with_reducible refine r_ff ?_ | with_reducible refine r_ntt ?_ | with_reducible refine r_nff ?_ | refine r_need (by omega) ?_ | refine r_i64 (by omega) ?_ | refine r_dect (by omega) ?_ | refine r_decf (by omega) ?_ | refine r_eqt (by omega) ?_ | refine r_eqf (by omega) ?_ | refine r_net (by omega) ?_ | refine r_nef (by omega) ?_ | refine r_u8 (by omega) ?_ | refine r_u64 (by omega) ?_ | refine r_i32 (by omega) ?_ | refine r_u32 (by omega) ?_ | refine r_rem (by omega) ?_ | refine r_quo (by omega) ?_ | refine r_ldb (by assumption) (by rfl) ?_ | refine r_ldbE (by assumption) (by rfl) ?_))); (conv => whnf)
  have hw1 := h.ext hx1
  have hlt1 := h.blk.lt
  have hw2 : Wr w2 base b l v := hw1.keep hc2 (by omega) (fun g hg e => by have := (h.own.lt g hg).2; omega)
  have hninl : inI64 (len : Int) := by unfold inI64; omega
  refine r_cal (wnumber_ok n 0 len hw2 ((hblk2.cell 0).trans rfl) (own_ne hw2.own hblk2 (by decide)) hninl (by omega)) ?_
  rintro _ w3 ⟨v3, hw3, hc3⟩
  (repeat ((conv => whnf); (first | with_reducible refine r_tt ?_ | with_reducible refine r_ff ?_ | with_reducible refine r_ntt ?_ | with_reducible refine r_nff ?_ | refine r_need (by omega) ?_ | refine r_i64 (by omega) ?_ | refine r_dect (by omega) ?_ | refine r_decf (by omega) ?_ | refine r_eqt (by omega) ?_ | refine r_eqf (by omega) ?_ | refine r_net (by omega) ?_ | refine r_nef (by omega) ?_ | refine r_u8 (by omega) ?_ | refine r_u64 (by omega) ?_ | refine r_i32 (by omega) ?_ | refine r_u32 (by omega) ?_ | refine r_rem (by omega) ?_ | refine r_quo (by omega) ?_ | refine r_ldb (by assumption) (by rfl) ?_ | refine r_ldbE (by assumption) (by rfl) ?_))); (conv => whnf)
  have hle1 := h.le
  have hblk3 : Blk w3 n 3 [.int .i64 (len : Int)] := hblk2.keep hc3 (fun e => e.elim (fun e => by omega) (fun e => own_ne hw2.own hblk2 (by decide) e))
  have hc : Chg (fun k => k = b ∨ base ≤ k) w w3 := Chg.step (Chg.step (hx1.wide _) hc2 (fun k hk _ => .inr (by omega))) hc3 (fun k hk _ => hk.elim .inl fun e => .inr (own_ge hw2.own e))
  have hn3 := Chg.cell hc hn (by omega)
  have hv3 := hv.keepN hc (fun hp => by have := hva (by simpa using hp); omega)
  refine r_loop (σ := Nat × Value × List UInt8) (fun s => [.int .i64 (s.1 : Int)]) (fun s w' => s.1 ≤ len ∧ Wr w' base b s.2.2 s.2.1 ∧ listW (l ++ num len) xs = listW s.2.2 (xs.drop s.1) ∧ s.2.2.length ≤ 900010 ∧ Blk w' n 3 [.int .i64 (len : Int)] ∧ Chg (fun k => k = b ∨ base ≤ k) w w' ∧ (∀ g, s.2.1.ownBlock = some g → g ≠ n))
    (fun s _ => len - s.1) (0, v3, l ++ num len) rfl ⟨by omega, hw3, rfl, by simp; have := num_len hninl; omega, hblk3, hc, fun g hg e => by subst e; exact own_ne hw3.own hblk3 (by decide) hg⟩ ?_
  rintro ⟨i, v', pre⟩ w4 again ⟨hi, hw4, hlw, hpre, hblk4, hc4, hg4⟩ hagain
  dsimp only at *
  have hn4 := Chg.cell hc4 hn (by omega)
  have hv4 := hv.keepN hc4 (fun hp => by have := hva (by simpa using hp); omega)
  obtain ⟨pa, pc, rfl, hpv, _⟩ := View.of_own hw4.own
  have hwblk := hw4.blk
  by_cases hil : i < len
  · by_cases hp : pre.length ≤ 65536
    · have hx : (xs.map (Value.int .i64))[i]? = some (.int .i64 xs[i]) := by simp
      have hxin : inI64 xs[i] := hxs _ (List.getElem_mem _)
      (repeat ((conv => whnf); (first | with_reducible refine r_tt ?_ | with_reducible refine r_ff ?_ | with_reducible refine r_ntt ?_ | with_reducible refine r_nff ?_ | refine r_need (by omega) ?_ | refine r_i64 (by omega) ?_ | refine r_dect (by omega) ?_ | refine r_decf (by omega) ?_ | refine r_eqt (by omega) ?_ | refine r_eqf (by omega) ?_ | refine r_net (by omega) ?_ | refine r_nef (by omega) ?_ | refine r_u8 (by omega) ?_ | refine r_u64 (by omega) ?_ | refine r_i32 (by omega) ?_ | refine r_u32 (by omega) ?_ | refine r_rem (by omega) ?_ | refine r_quo (by omega) ?_ | refine r_ldb (by assumption) (by rfl) ?_ | refine r_ldbE (by assumption) (by rfl) ?_))); (conv => whnf)
      refine r_ldw hn4 ?_
      (repeat ((conv => whnf); (first | with_reducible refine r_tt ?_ | with_reducible refine r_ff ?_ | with_reducible refine r_ntt ?_ | with_reducible refine r_nff ?_ | refine r_need (by omega) ?_ | refine r_i64 (by omega) ?_ | refine r_dect (by omega) ?_ | refine r_decf (by omega) ?_ | refine r_eqt (by omega) ?_ | refine r_eqf (by omega) ?_ | refine r_net (by omega) ?_ | refine r_nef (by omega) ?_ | refine r_u8 (by omega) ?_ | refine r_u64 (by omega) ?_ | refine r_i32 (by omega) ?_ | refine r_u32 (by omega) ?_ | refine r_rem (by omega) ?_ | refine r_quo (by omega) ?_ | refine r_ldb (by assumption) (by rfl) ?_ | refine r_ldbE (by assumption) (by rfl) ?_))); (conv => whnf)
      refine r_need (hv4.plain (by simp; omega)) ?_
      (repeat ((conv => whnf); (first | with_reducible refine r_tt ?_ | with_reducible refine r_ff ?_ | with_reducible refine r_ntt ?_ | with_reducible refine r_nff ?_ | refine r_need (by omega) ?_ | refine r_i64 (by omega) ?_ | refine r_dect (by omega) ?_ | refine r_decf (by omega) ?_ | refine r_eqt (by omega) ?_ | refine r_eqf (by omega) ?_ | refine r_net (by omega) ?_ | refine r_nef (by omega) ?_ | refine r_u8 (by omega) ?_ | refine r_u64 (by omega) ?_ | refine r_i32 (by omega) ?_ | refine r_u32 (by omega) ?_ | refine r_rem (by omega) ?_ | refine r_quo (by omega) ?_ | refine r_ldb (by assumption) (by rfl) ?_ | refine r_ldbE (by assumption) (by rfl) ?_))); (conv => whnf)
      refine r_cal (wnumber_ok (blk a) (ofs a + (i : Int).toNat * 1) xs[i] hw4 (by rw [show ofs a + (i : Int).toNat * 1 = ofs a + i by omega]; exact hv4.cell i _ hx) (fun e => by have := own_ge hw4.own e; have := hva (by omega); omega) hxin (by omega)) ?_
      rintro _ w5 ⟨v5, hw5, hc5⟩
      have hnl := num_len hxin
      have hblk5 : Blk w5 n 3 [.int .i64 (len : Int)] := hblk4.keep hc5 (fun e => e.elim (fun e => by omega) (fun e => own_ne hw4.own hblk4 (by decide) e))
      (repeat ((conv => whnf); (first | with_reducible refine r_tt ?_ | with_reducible refine r_ff ?_ | with_reducible refine r_ntt ?_ | with_reducible refine r_nff ?_ | refine r_need (by omega) ?_ | refine r_i64 (by omega) ?_ | refine r_dect (by omega) ?_ | refine r_decf (by omega) ?_ | refine r_eqt (by omega) ?_ | refine r_eqf (by omega) ?_ | refine r_net (by omega) ?_ | refine r_nef (by omega) ?_ | refine r_u8 (by omega) ?_ | refine r_u64 (by omega) ?_ | refine r_i32 (by omega) ?_ | refine r_u32 (by omega) ?_ | refine r_rem (by omega) ?_ | refine r_quo (by omega) ?_ | refine r_ldb (by assumption) (by rfl) ?_ | refine r_ldbE (by assumption) (by rfl) ?_))); (conv => whnf)
      refine hagain (i + 1, v5, pre ++ num xs[i]) w5 ⟨by dsimp only; omega, hw5, ?_, by simp; omega, hblk5, Chg.step hc4 hc5 (fun k hk _ => hk.elim .inl fun e => .inr (own_ge hw4.own e)), fun g hg e => by subst e; exact own_ne hw5.own hblk5 (by decide) hg⟩ (by dsimp only; omega)
      dsimp only
      rw [hlw, List.drop_eq_getElem_cons (by omega), listW, if_pos hp]
    · have hend : listW pre (xs.drop i) = pre := by
        rw [List.drop_eq_getElem_cons (by omega), listW, if_neg hp]
      (repeat ((conv => whnf); (first | with_reducible refine r_tt ?_ | with_reducible refine r_ff ?_ | with_reducible refine r_ntt ?_ | with_reducible refine r_nff ?_ | refine r_need (by omega) ?_ | refine r_i64 (by omega) ?_ | refine r_dect (by omega) ?_ | refine r_decf (by omega) ?_ | refine r_eqt (by omega) ?_ | refine r_eqf (by omega) ?_ | refine r_net (by omega) ?_ | refine r_nef (by omega) ?_ | refine r_u8 (by omega) ?_ | refine r_u64 (by omega) ?_ | refine r_i32 (by omega) ?_ | refine r_u32 (by omega) ?_ | refine r_rem (by omega) ?_ | refine r_quo (by omega) ?_ | refine r_ldb (by assumption) (by rfl) ?_ | refine r_ldbE (by assumption) (by rfl) ?_))); (conv => whnf)
      exact ⟨_, by rw [hlw, hend]; exact hw4, hc4⟩
  · have hend : listW pre (xs.drop i) = pre := by
      rw [List.drop_eq_nil_of_le (by omega), listW]
    (repeat ((conv => whnf); (first | with_reducible refine r_tt ?_ | with_reducible refine r_ff ?_ | with_reducible refine r_ntt ?_ | with_reducible refine r_nff ?_ | refine r_need (by omega) ?_ | refine r_i64 (by omega) ?_ | refine r_dect (by omega) ?_ | refine r_decf (by omega) ?_ | refine r_eqt (by omega) ?_ | refine r_eqf (by omega) ?_ | refine r_net (by omega) ?_ | refine r_nef (by omega) ?_ | refine r_u8 (by omega) ?_ | refine r_u64 (by omega) ?_ | refine r_i32 (by omega) ?_ | refine r_u32 (by omega) ?_ | refine r_rem (by omega) ?_ | refine r_quo (by omega) ?_ | refine r_ldb (by assumption) (by rfl) ?_ | refine r_ldbE (by assumption) (by rfl) ?_))); (conv => whnf)
    exact ⟨_, by rw [hlw, hend]; exact hw4, hc4⟩
end Fb.Try
