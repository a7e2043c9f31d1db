/-
  Walks: a reply is written.
-/
import Derived.Test.YtalkcjehehljcaaCi
namespace Fb.Try
open Go Go.Proofs Fb Fb.Codec

theorem n_wnumber (b : Nat) (w : World) : (nilAhead (Try.prog.types.size + Made.depth) 69 (.pointer (some ⟨b, 0, none⟩)) "footbridge/codec.number").run Try.prog w = .ok (some false) w := by kernel_rfl
theorem n_rnumber (b : Nat) (w : World) : (nilAhead (Try.prog.types.size + Made.depth) 75 (.pointer (some ⟨b, 0, none⟩)) "footbridge/codec.number").run Try.prog w = .ok (some false) w := by kernel_rfl

/-- A reply. -/
structure Rp where
  err : Int
  slot : Int
  gen : Int
  tr : Int
  ta : List Int
  dr : Int
  da : List Int
  tc : Int
  dc : Int
  rel : Int
  text : List Int
  phase : Int
  stop : Int
  ans : List Int
def Rp.items (r : Rp) : List It := [.n r.err, .n r.slot, .n r.gen, .n r.tr, .l r.ta, .n r.dr, .l r.da, .n r.tc, .n r.dc, .n r.rel, .l r.text, .n r.phase, .n r.stop, .l r.ans]
def rpShape : List Bool := [false, false, false, false, true, false, true, false, false, false, true, false, false, true]
theorem Rp.items_shape (r : Rp) : r.items.map It.isL = rpShape := rfl
theorem Rp.items_inj {r s : Rp} (h : r.items = s.items) : r = s := by
  cases r
  cases s
  simp only [Rp.items, List.cons.injEq, It.n.injEq, It.l.injEq] at h
  obtain ⟨rfl, rfl, rfl, rfl, rfl, rfl, rfl, rfl, rfl, rfl, rfl, rfl, rfl, rfl, _⟩ := h
  rfl
abbrev Sl := Option Addr × Nat × Nat
def Sl.v (s : Sl) : Value := .slice s.1 s.2.1 s.2.2
def Sl.is (w : World) (s : Sl) (xs : List Int) : Prop := View w s.1 s.2.1 s.2.2 1 (ivs xs) ∧ ∀ x ∈ xs, inI64 x
theorem Sl.is.len {w : World} {s : Sl} {xs : List Int} (h : s.is w xs) : xs.length = s.2.1 ∧ xs.length ≤ 9223372036854775807 := by
  have h1 : xs.length = s.2.1 := h.1.int
  have h2 := h.1.le
  have h3 := h.1.max
  unfold maxLen at h3
  omega
theorem Sl.is.ext {w w' : World} {s : Sl} {xs : List Int} (h : s.is w xs) (k : Ext w w') : s.is w' xs := ⟨h.1.ext k, h.2⟩
/-- A reply's cells. -/
def rpCells (r : Rp) (s1 s2 s3 s4 : Sl) : List Value :=
  [.int .i64 r.err, .int .i64 r.slot, .int .i64 r.gen, .int .i64 r.tr, s1.v, .int .i64 r.dr, s2.v, .int .i64 r.tc, .int .i64 r.dc, .int .i64 r.rel, s3.v, .int .i64 r.phase, .int .i64 r.stop, s4.v]
/-- A reply in memory. -/
def IsRp (w : World) (r : Rp) (cs : List Value) : Prop :=
  ∃ s1 s2 s3 s4, cs = rpCells r s1 s2 s3 s4 ∧ s1.is w r.ta ∧ s2.is w r.da ∧ s3.is w r.text ∧ s4.is w r.ans ∧ inI64 r.err ∧ inI64 r.slot ∧ inI64 r.gen ∧ inI64 r.tr ∧ inI64 r.dr ∧ inI64 r.tc ∧ inI64 r.dc ∧ inI64 r.rel ∧ inI64 r.phase ∧ inI64 r.stop
theorem IsRp.ext {w w' : World} {r : Rp} {cs : List Value} (h : IsRp w r cs) (k : Ext w w') : IsRp w' r cs := by
  obtain ⟨s1, s2, s3, s4, h1, h2, h3, h4, h5, h6⟩ := h
  exact ⟨s1, s2, s3, s4, h1, h2.ext k, h3.ext k, h4.ext k, h5.ext k, h6⟩
theorem IsRp.keep {S : Nat → Prop} {w w' : World} {base : Nat} {r : Rp} {cs : List Value} (h : IsRp w r cs) (k : Chg S w w') (hn : NewSl base cs) (hS : ∀ k, S k → k < base) : IsRp w' r cs := by
  obtain ⟨s1, s2, s3, s4, rfl, h2, h3, h4, h5, h6⟩ := h
  have key : ∀ (s : Sl) (xs : List Int), s.v ∈ rpCells r s1 s2 s3 s4 → s.is w xs → s.is w' xs := fun s xs hm hs => by
    have hl := hs.len
    refine ⟨hs.1.keepN k fun hp hk => ?_, hs.2⟩
    have := hn s.1 s.2.1 s.2.2 hm (by simp [ivs] at hp; omega)
    have := hS _ hk
    omega
  exact ⟨s1, s2, s3, s4, rfl, key s1 _ (by simp [rpCells]) h2, key s2 _ (by simp [rpCells]) h3, key s3 _ (by simp [rpCells]) h4, key s4 _ (by simp [rpCells]) h5, h6⟩
theorem IsRp.items_ok {w : World} {r : Rp} {cs : List Value} (h : IsRp w r cs) : ∀ i ∈ r.items, i.Ok := by
  obtain ⟨s1, s2, s3, s4, _, h2, h3, h4, h5, k⟩ := h
  intro i hi
  simp only [Rp.items, List.mem_cons, List.not_mem_nil, or_false] at hi
  obtain ⟨k0, k1, k2, k3, k4, k5, k6, k7, k8, k9⟩ := k
  rcases hi with rfl | rfl | rfl | rfl | rfl | rfl | rfl | rfl | rfl | rfl | rfl | rfl | rfl | rfl
  · exact k0
  · exact k1
  · exact k2
  · exact k3
  · exact ⟨h2.len.2, h2.2⟩
  · exact k4
  · exact ⟨h3.len.2, h3.2⟩
  · exact k5
  · exact k6
  · exact k7
  · exact ⟨h4.len.2, h4.2⟩
  · exact k8
  · exact k9
  · exact ⟨h5.len.2, h5.2⟩

/-- The writing under way. -/
def WSt (w0 w : World) (base b be : Nat) (cs : List Value) (l : List UInt8) (n : Nat) : Prop :=
  ∃ v, Wr w base b l v ∧ Blk w be 49 cs ∧ l.length ≤ 65546 + 10 * n ∧ Chg (fun k => k = b ∨ base ≤ k) w0 w ∧ be < base ∧ be ≠ b
theorem WSt.ext {w0 w w' : World} {base b be : Nat} {cs : List Value} {l : List UInt8} {n : Nat} (h : WSt w0 w base b be cs l n) (k : Ext w w') : WSt w0 w' base b be cs l n := by
  obtain ⟨v, h1, h2, h3, h4, h5⟩ := h
  exact ⟨v, h1.ext k, h2.ext k, h3, h4.ext k, h5⟩
theorem itW_len (l : List UInt8) (i : It) (n : Nat) (hl : l.length ≤ 65546 + 10 * n) (hi : i.Ok) : (itW l i).length ≤ 65546 + 10 * (n + 1) := by
  cases i with
  | n z =>
    have := num_len (show inI64 z from hi)
    simp only [itW, List.length_append]
    omega
  | l xs =>
    have hin : inI64 (xs.length : Int) := by have := hi.1; unfold inI64; omega
    have := num_len hin
    have h := listW_len xs (l ++ num xs.length) hi.2
    simp only [itW]
    rw [List.length_append] at h
    omega
theorem WSt.number {w0 w : World} {base b be : Nat} {cs : List Value} {l : List UInt8} {n : Nat} (h : WSt w0 w base b be cs l n) (no : Nat) (z : Int) (hno : cs[no]? = some (.int .i64 z)) (hz : inI64 z) (hn : n ≤ 50) :
    Cal Try.prog 59 ⟨[.pointer (some ⟨b, 0, none⟩), .pointer (some ⟨be, no, none⟩)]⟩ w fun _ w' => WSt w0 w' base b be cs (itW l (.n z)) (n + 1) := by
  obtain ⟨v, h1, h2, h3, h4, h5, h6⟩ := h
  have hlt := h1.lt
  refine r_cal (wnumber_ok be no z h1 ((h2.cell no).trans hno) (fun e => by have := own_ge h1.own e; omega) hz (by omega)) ?_
  rintro _ w' ⟨v', hw', hc'⟩
  exact ⟨v', hw', h2.keep hc' (fun hk => hk.elim (fun e => h6 e) fun e => by have := own_ge h1.own e; omega), itW_len l (.n z) n h3 hz, Chg.step h4 hc' (fun k hk _ => hk.elim .inl fun e => .inr (own_ge h1.own e)), h5, h6⟩
theorem WSt.list {w0 w : World} {base b be : Nat} {cs : List Value} {l : List UInt8} {n : Nat} (h : WSt w0 w base b be cs l n) (no : Nat) (s : Sl) (xs : List Int) (hno : cs[no]? = some s.v) (hs : s.is w0 xs) (hsb : 0 < xs.length → blk s.1 < base ∧ blk s.1 ≠ b) (hn : n ≤ 50) :
    Cal Try.prog 58 ⟨[.pointer (some ⟨b, 0, none⟩), .pointer (some ⟨be, no, none⟩)]⟩ w fun _ w' => WSt w0 w' base b be cs (itW l (.l xs)) (n + 1) := by
  obtain ⟨v, h1, h2, h3, h4, h5, h6⟩ := h
  have hlt := h1.lt
  refine r_cal (wlist_ok be no s.1 s.2.1 s.2.2 xs h1 ((h2.cell no).trans hno) h5 h6 (hs.1.keepN h4 (fun hp => by have := hsb (by simpa [ivs] using hp); omega)) hsb hs.2 (by omega)) ?_
  rintro _ w' ⟨v', hw', hc'⟩
  have hl := hs.len
  refine ⟨v', ?_, h2.keep hc' (fun hk => hk.elim (fun e => h6 e) fun e => by omega), itW_len l (.l xs) n h3 ⟨hl.2, hs.2⟩, h4.trans hc', h5, h6⟩
  simp only [itW]
  rw [hl.1]
  exact hw'

theorem wedit_ok {w0 w : World} {base b be : Nat} {cs : List Value} {l : List UInt8} {n : Nat} (h : WSt w0 w base b be cs l n) (no : Nat) (z : Int) (s : Sl) (xs : List Int) (hz : cs[no]? = some (.int .i64 z)) (hin : inI64 z) (hno : cs[no + 1]? = some s.v) (hs : s.is w0 xs) (hsb : 0 < xs.length → blk s.1 < base ∧ blk s.1 ≠ b) (hn : n ≤ 40) :
    Cal Try.prog 40 ⟨[.iface 69 (.pointer (some ⟨b, 0, none⟩)), .pointer (some ⟨be, no, none⟩)]⟩ w fun _ w' => WSt w0 w' base b be cs (itW (itW l (.n z)) (.l xs)) (n + 2) := by
  refine go40 (by rfl) ?_
  (repeat ((conv => whnf); (first | with_reducible refine r_tt ?_ | with_reducible refine r_ff ?_ | with_reducible refine r_ntt ?_ | with_reducible refine r_nff ?_ | refine r_need (by omega) ?_ | refine r_i64 (by omega) ?_ | refine r_dect (by omega) ?_ | refine r_decf (by omega) ?_ | refine r_eqt (by omega) ?_ | refine r_eqf (by omega) ?_ | refine r_net (by omega) ?_ | refine r_nef (by omega) ?_ | refine r_u8 (by omega) ?_ | refine r_u64 (by omega) ?_ | refine r_i32 (by omega) ?_ | refine r_u32 (by omega) ?_ | refine r_rem (by omega) ?_ | refine r_quo (by omega) ?_ | refine r_ldb (by assumption) (by rfl) ?_ | refine r_ldbE (by assumption) (by rfl) ?_))); (conv => whnf)
  refine r_drawE fun w1 hx1 _ => ?_
  (repeat ((conv => whnf); (first | with_reducible refine r_tt ?_ | with_reducible refine r_ff ?_ | with_reducible refine r_ntt ?_ | with_reducible refine r_nff ?_ | refine r_need (by omega) ?_ | refine r_i64 (by omega) ?_ | refine r_dect (by omega) ?_ | refine r_decf (by omega) ?_ | refine r_eqt (by omega) ?_ | refine r_eqf (by omega) ?_ | refine r_net (by omega) ?_ | refine r_nef (by omega) ?_ | refine r_u8 (by omega) ?_ | refine r_u64 (by omega) ?_ | refine r_i32 (by omega) ?_ | refine r_u32 (by omega) ?_ | refine r_rem (by omega) ?_ | refine r_quo (by omega) ?_ | refine r_ldb (by assumption) (by rfl) ?_ | refine r_ldbE (by assumption) (by rfl) ?_))); (conv => whnf)
  refine r_nilno (n_wnumber b) ?_
  (repeat ((conv => whnf); (first | with_reducible refine r_tt ?_ | with_reducible refine r_ff ?_ | with_reducible refine r_ntt ?_ | with_reducible refine r_nff ?_ | refine r_need (by omega) ?_ | refine r_i64 (by omega) ?_ | refine r_dect (by omega) ?_ | refine r_decf (by omega) ?_ | refine r_eqt (by omega) ?_ | refine r_eqf (by omega) ?_ | refine r_net (by omega) ?_ | refine r_nef (by omega) ?_ | refine r_u8 (by omega) ?_ | refine r_u64 (by omega) ?_ | refine r_i32 (by omega) ?_ | refine r_u32 (by omega) ?_ | refine r_rem (by omega) ?_ | refine r_quo (by omega) ?_ | refine r_ldb (by assumption) (by rfl) ?_ | refine r_ldbE (by assumption) (by rfl) ?_))); (conv => whnf)
  refine r_calI (m_wnumber b) (by kernel_rfl) ((h.ext hx1).number (no + 0) z hz hin (by omega)) ?_
  rintro _ w2 h2
  (repeat ((conv => whnf); (first | with_reducible refine r_tt ?_ | with_reducible refine r_ff ?_ | with_reducible refine r_ntt ?_ | with_reducible refine r_nff ?_ | refine r_need (by omega) ?_ | refine r_i64 (by omega) ?_ | refine r_dect (by omega) ?_ | refine r_decf (by omega) ?_ | refine r_eqt (by omega) ?_ | refine r_eqf (by omega) ?_ | refine r_net (by omega) ?_ | refine r_nef (by omega) ?_ | refine r_u8 (by omega) ?_ | refine r_u64 (by omega) ?_ | refine r_i32 (by omega) ?_ | refine r_u32 (by omega) ?_ | refine r_rem (by omega) ?_ | refine r_quo (by omega) ?_ | refine r_ldb (by assumption) (by rfl) ?_ | refine r_ldbE (by assumption) (by rfl) ?_))); (conv => whnf)
  refine r_drawE fun w3 hx3 _ => ?_
  (repeat ((conv => whnf); (first | with_reducible refine r_tt ?_ | with_reducible refine r_ff ?_ | with_reducible refine r_ntt ?_ | with_reducible refine r_nff ?_ | refine r_need (by omega) ?_ | refine r_i64 (by omega) ?_ | refine r_dect (by omega) ?_ | refine r_decf (by omega) ?_ | refine r_eqt (by omega) ?_ | refine r_eqf (by omega) ?_ | refine r_net (by omega) ?_ | refine r_nef (by omega) ?_ | refine r_u8 (by omega) ?_ | refine r_u64 (by omega) ?_ | refine r_i32 (by omega) ?_ | refine r_u32 (by omega) ?_ | refine r_rem (by omega) ?_ | refine r_quo (by omega) ?_ | refine r_ldb (by assumption) (by rfl) ?_ | refine r_ldbE (by assumption) (by rfl) ?_))); (conv => whnf)
  refine r_nilno (n_wlist b) ?_
  (repeat ((conv => whnf); (first | with_reducible refine r_tt ?_ | with_reducible refine r_ff ?_ | with_reducible refine r_ntt ?_ | with_reducible refine r_nff ?_ | refine r_need (by omega) ?_ | refine r_i64 (by omega) ?_ | refine r_dect (by omega) ?_ | refine r_decf (by omega) ?_ | refine r_eqt (by omega) ?_ | refine r_eqf (by omega) ?_ | refine r_net (by omega) ?_ | refine r_nef (by omega) ?_ | refine r_u8 (by omega) ?_ | refine r_u64 (by omega) ?_ | refine r_i32 (by omega) ?_ | refine r_u32 (by omega) ?_ | refine r_rem (by omega) ?_ | refine r_quo (by omega) ?_ | refine r_ldb (by assumption) (by rfl) ?_ | refine r_ldbE (by assumption) (by rfl) ?_))); (conv => whnf)
  refine r_calI (m_wlist b) (by kernel_rfl) ((h2.ext hx3).list (no + 1) s xs hno hs hsb (by omega)) ?_
  rintro _ w4 h4
  (repeat ((conv => whnf); (first | with_reducible refine r_tt ?_ | with_reducible refine r_ff ?_ | with_reducible refine r_ntt ?_ | with_reducible refine r_nff ?_ | refine r_need (by omega) ?_ | refine r_i64 (by omega) ?_ | refine r_dect (by omega) ?_ | refine r_decf (by omega) ?_ | refine r_eqt (by omega) ?_ | refine r_eqf (by omega) ?_ | refine r_net (by omega) ?_ | refine r_nef (by omega) ?_ | refine r_u8 (by omega) ?_ | refine r_u64 (by omega) ?_ | refine r_i32 (by omega) ?_ | refine r_u32 (by omega) ?_ | refine r_rem (by omega) ?_ | refine r_quo (by omega) ?_ | refine r_ldb (by assumption) (by rfl) ?_ | refine r_ldbE (by assumption) (by rfl) ?_))); (conv => whnf)
  exact h4

theorem wreply_ok {w : World} {base b be : Nat} {v : Value} {r : Rp} {cs : List Value} (h : Wr w base b [] v) (hbe : be < base ∧ be ≠ b) (he : Blk w be 49 cs) (hr : IsRp w r cs) (hcs : ∀ a len cap, .slice a len cap ∈ cs → 0 < len → blk a < base ∧ blk a ≠ b ∧ blk a ≠ be) :
    Cal Try.prog 34 ⟨[.iface 69 (.pointer (some ⟨b, 0, none⟩)), .pointer (some ⟨be, 0, none⟩)]⟩ w fun _ w' => ∃ v', Wr w' base b (encW r.items) v' ∧ ∃ S, (∀ k, S k → k = b ∨ k = be ∨ base ≤ k) ∧ Chg S w w' := by
  obtain ⟨s1, s2, s3, s4, rfl, h1, h2, h3, h4, k0, k1, k2, k3, k4, k5, k6, k7, k8, k9⟩ := hr
  have g1 := hcs s1.1 s1.2.1 s1.2.2 (by simp [rpCells, Sl.v])
  have g2 := hcs s2.1 s2.2.1 s2.2.2 (by simp [rpCells, Sl.v])
  have g3 := hcs s3.1 s3.2.1 s3.2.2 (by simp [rpCells, Sl.v])
  have g4 := hcs s4.1 s4.2.1 s4.2.2 (by simp [rpCells, Sl.v])
  rw [← h1.len.1] at g1
  rw [← h2.len.1] at g2
  rw [← h3.len.1] at g3
  rw [← h4.len.1] at g4
  have he0 : Blk w be 49 [.int .i64 r.err, .int .i64 r.slot, .int .i64 r.gen, .int .i64 r.tr, s1.v, .int .i64 r.dr, s2.v, .int .i64 r.tc, .int .i64 r.dc, .int .i64 r.rel, s3.v, .int .i64 r.phase, .int .i64 r.stop, s4.v] := he
  have hle := h.le
  have hblt := h.blk.lt
  refine go34 (by rfl) ?_
  (repeat ((conv => whnf); (first | with_reducible refine r_tt ?_ | with_reducible refine r_ff ?_ | with_reducible refine r_ntt ?_ | with_reducible refine r_nff ?_ | refine r_need (by omega) ?_ | refine r_i64 (by omega) ?_ | refine r_dect (by omega) ?_ | refine r_decf (by omega) ?_ | refine r_eqt (by omega) ?_ | refine r_eqf (by omega) ?_ | refine r_net (by omega) ?_ | refine r_nef (by omega) ?_ | refine r_u8 (by omega) ?_ | refine r_u64 (by omega) ?_ | refine r_i32 (by omega) ?_ | refine r_u32 (by omega) ?_ | refine r_rem (by omega) ?_ | refine r_quo (by omega) ?_ | refine r_ldb (by assumption) (by rfl) ?_ | refine r_ldbE (by assumption) (by rfl) ?_))); (conv => whnf)
  refine r_new fun n w1 hx1 hn1 hs1 hblk1 => ?_
  (repeat ((conv => whnf); (first | with_reducible refine r_tt ?_ | with_reducible refine r_ff ?_ | with_reducible refine r_ntt ?_ | with_reducible refine r_nff ?_ | refine r_need (by omega) ?_ | refine r_i64 (by omega) ?_ | refine r_dect (by omega) ?_ | refine r_decf (by omega) ?_ | refine r_eqt (by omega) ?_ | refine r_eqf (by omega) ?_ | refine r_net (by omega) ?_ | refine r_nef (by omega) ?_ | refine r_u8 (by omega) ?_ | refine r_u64 (by omega) ?_ | refine r_i32 (by omega) ?_ | refine r_u32 (by omega) ?_ | refine r_rem (by omega) ?_ | refine r_quo (by omega) ?_ | refine r_ldb (by assumption) (by rfl) ?_ | refine r_ldbE (by assumption) (by rfl) ?_))); (conv => whnf)
  refine r_st hblk1 (by simp) (by rfl) fun w2 hc2 hs2 hblk2 => ?_
  have hblk2 : Blk w2 n 3 [.int .i64 r.err] := hblk2
  have hw2 : Wr w2 base b [] v := (h.ext hx1).keep hc2 (by omega) (fun g hg e => by have := (h.own.lt g hg).2; omega)
  have hc02 : Chg (fun k => k = b ∨ base ≤ k) w w2 := Chg.step (hx1.wide _) hc2 fun k hk _ => .inr (by omega)
  have hne2 : v.ownBlock ≠ some n := fun e => by have := (h.own.lt n e).2; omega
  (repeat ((conv => whnf); (first | with_reducible refine r_tt ?_ | with_reducible refine r_ff ?_ | with_reducible refine r_ntt ?_ | with_reducible refine r_nff ?_ | refine r_need (by omega) ?_ | refine r_i64 (by omega) ?_ | refine r_dect (by omega) ?_ | refine r_decf (by omega) ?_ | refine r_eqt (by omega) ?_ | refine r_eqf (by omega) ?_ | refine r_net (by omega) ?_ | refine r_nef (by omega) ?_ | refine r_u8 (by omega) ?_ | refine r_u64 (by omega) ?_ | refine r_i32 (by omega) ?_ | refine r_u32 (by omega) ?_ | refine r_rem (by omega) ?_ | refine r_quo (by omega) ?_ | refine r_ldb (by assumption) (by rfl) ?_ | refine r_ldbE (by assumption) (by rfl) ?_))); (conv => whnf)
  refine r_calI (m_wnumber b) (by kernel_rfl) (wnumber_ok n 0 r.err hw2 ((hblk2.cell 0).trans rfl) hne2 k0 (by simp)) ?_
  rintro _ w3 ⟨v3, hw3, hc3⟩
  have hc03 : Chg (fun k => k = b ∨ base ≤ k) w w3 := Chg.step hc02 hc3 fun k hk _ => hk.elim .inl fun e => .inr (own_ge hw2.own e)
  have hn3 : Blk w3 n 3 [.int .i64 r.err] := hblk2.keep hc3 (fun hk => hk.elim (fun e => by omega) hne2)
  have he3 := he0.keep hc03 (by omega)
  (repeat ((conv => whnf); (first | with_reducible refine r_tt ?_ | with_reducible refine r_ff ?_ | with_reducible refine r_ntt ?_ | with_reducible refine r_nff ?_ | refine r_need (by omega) ?_ | refine r_i64 (by omega) ?_ | refine r_dect (by omega) ?_ | refine r_decf (by omega) ?_ | refine r_eqt (by omega) ?_ | refine r_eqf (by omega) ?_ | refine r_net (by omega) ?_ | refine r_nef (by omega) ?_ | refine r_u8 (by omega) ?_ | refine r_u64 (by omega) ?_ | refine r_i32 (by omega) ?_ | refine r_u32 (by omega) ?_ | refine r_rem (by omega) ?_ | refine r_quo (by omega) ?_ | refine r_ldb (by assumption) (by rfl) ?_ | refine r_ldbE (by assumption) (by rfl) ?_))); (conv => whnf)
  refine r_st he3 (by simp) (by rfl) fun w4 hc4 hs4 he4 => ?_
  have he4 : Blk w4 be 49 (rpCells r s1 s2 s3 s4) := he4
  have hw4 : Wr w4 base b ([] ++ num r.err) v3 := hw3.keep hc4 (fun e => hbe.2 e.symm) (fun g hg e => by have := own_ge hw3.own hg; omega)
  have hc04 : Chg (fun k => k = b ∨ k = be ∨ base ≤ k) w w4 := Chg.step (Chg.mono hc03 fun k _ hk => hk.elim .inl fun e => .inr (.inr e)) hc4 fun k hk _ => .inr (.inl hk)
  have n0 := num_len k0
  have hst : WSt w4 w4 base b be (rpCells r s1 s2 s3 s4) (itW [] (.n r.err)) 1 := ⟨v3, hw4, he4, by simp [itW]; omega, Chg.refl _ _, hbe⟩
  have up : ∀ {s : Sl} {xs : List Int}, s.is w xs → (0 < xs.length → blk s.1 < base ∧ blk s.1 ≠ b ∧ blk s.1 ≠ be) → s.is w4 xs ∧ (0 < xs.length → blk s.1 < base ∧ blk s.1 ≠ b) := fun hs hg => ⟨⟨hs.1.keepN hc04 fun hp hk => by
    have hp' := hg (by simpa [ivs] using hp)
    omega, hs.2⟩, fun hp => ⟨(hg hp).1, (hg hp).2.1⟩⟩
  obtain ⟨i1, g1⟩ := up h1 g1
  obtain ⟨i2, g2⟩ := up h2 g2
  obtain ⟨i3, g3⟩ := up h3 g3
  obtain ⟨i4, g4⟩ := up h4 g4
  clear up
  (repeat ((conv => whnf); (first | with_reducible refine r_tt ?_ | with_reducible refine r_ff ?_ | with_reducible refine r_ntt ?_ | with_reducible refine r_nff ?_ | refine r_need (by omega) ?_ | refine r_i64 (by omega) ?_ | refine r_dect (by omega) ?_ | refine r_decf (by omega) ?_ | refine r_eqt (by omega) ?_ | refine r_eqf (by omega) ?_ | refine r_net (by omega) ?_ | refine r_nef (by omega) ?_ | refine r_u8 (by omega) ?_ | refine r_u64 (by omega) ?_ | refine r_i32 (by omega) ?_ | refine r_u32 (by omega) ?_ | refine r_rem (by omega) ?_ | refine r_quo (by omega) ?_ | refine r_ldb (by assumption) (by rfl) ?_ | refine r_ldbE (by assumption) (by rfl) ?_))); (conv => whnf)
  refine r_drawE fun wd1 hd1 _ => ?_
  (repeat ((conv => whnf); (first | with_reducible refine r_tt ?_ | with_reducible refine r_ff ?_ | with_reducible refine r_ntt ?_ | with_reducible refine r_nff ?_ | refine r_need (by omega) ?_ | refine r_i64 (by omega) ?_ | refine r_dect (by omega) ?_ | refine r_decf (by omega) ?_ | refine r_eqt (by omega) ?_ | refine r_eqf (by omega) ?_ | refine r_net (by omega) ?_ | refine r_nef (by omega) ?_ | refine r_u8 (by omega) ?_ | refine r_u64 (by omega) ?_ | refine r_i32 (by omega) ?_ | refine r_u32 (by omega) ?_ | refine r_rem (by omega) ?_ | refine r_quo (by omega) ?_ | refine r_ldb (by assumption) (by rfl) ?_ | refine r_ldbE (by assumption) (by rfl) ?_))); (conv => whnf)
  refine r_nilno (n_wnumber b) ?_
  (repeat ((conv => whnf); (first | with_reducible refine r_tt ?_ | with_reducible refine r_ff ?_ | with_reducible refine r_ntt ?_ | with_reducible refine r_nff ?_ | refine r_need (by omega) ?_ | refine r_i64 (by omega) ?_ | refine r_dect (by omega) ?_ | refine r_decf (by omega) ?_ | refine r_eqt (by omega) ?_ | refine r_eqf (by omega) ?_ | refine r_net (by omega) ?_ | refine r_nef (by omega) ?_ | refine r_u8 (by omega) ?_ | refine r_u64 (by omega) ?_ | refine r_i32 (by omega) ?_ | refine r_u32 (by omega) ?_ | refine r_rem (by omega) ?_ | refine r_quo (by omega) ?_ | refine r_ldb (by assumption) (by rfl) ?_ | refine r_ldbE (by assumption) (by rfl) ?_))); (conv => whnf)
  refine r_calI (m_wnumber b) (by kernel_rfl) ((hst.ext hd1).number (0 + 1 + 0) r.slot rfl k1 (by omega)) ?_
  clear hst
  rintro _ wn1 hst
  (repeat ((conv => whnf); (first | with_reducible refine r_tt ?_ | with_reducible refine r_ff ?_ | with_reducible refine r_ntt ?_ | with_reducible refine r_nff ?_ | refine r_need (by omega) ?_ | refine r_i64 (by omega) ?_ | refine r_dect (by omega) ?_ | refine r_decf (by omega) ?_ | refine r_eqt (by omega) ?_ | refine r_eqf (by omega) ?_ | refine r_net (by omega) ?_ | refine r_nef (by omega) ?_ | refine r_u8 (by omega) ?_ | refine r_u64 (by omega) ?_ | refine r_i32 (by omega) ?_ | refine r_u32 (by omega) ?_ | refine r_rem (by omega) ?_ | refine r_quo (by omega) ?_ | refine r_ldb (by assumption) (by rfl) ?_ | refine r_ldbE (by assumption) (by rfl) ?_))); (conv => whnf)
  refine r_drawE fun wd2 hd2 _ => ?_
  (repeat ((conv => whnf); (first | with_reducible refine r_tt ?_ | with_reducible refine r_ff ?_ | with_reducible refine r_ntt ?_ | with_reducible refine r_nff ?_ | refine r_need (by omega) ?_ | refine r_i64 (by omega) ?_ | refine r_dect (by omega) ?_ | refine r_decf (by omega) ?_ | refine r_eqt (by omega) ?_ | refine r_eqf (by omega) ?_ | refine r_net (by omega) ?_ | refine r_nef (by omega) ?_ | refine r_u8 (by omega) ?_ | refine r_u64 (by omega) ?_ | refine r_i32 (by omega) ?_ | refine r_u32 (by omega) ?_ | refine r_rem (by omega) ?_ | refine r_quo (by omega) ?_ | refine r_ldb (by assumption) (by rfl) ?_ | refine r_ldbE (by assumption) (by rfl) ?_))); (conv => whnf)
  refine r_nilno (n_wnumber b) ?_
  (repeat ((conv => whnf); (first | with_reducible refine r_tt ?_ | with_reducible refine r_ff ?_ | with_reducible refine r_ntt ?_ | with_reducible refine r_nff ?_ | refine r_need (by omega) ?_ | refine r_i64 (by omega) ?_ | refine r_dect (by omega) ?_ | refine r_decf (by omega) ?_ | refine r_eqt (by omega) ?_ | refine r_eqf (by omega) ?_ | refine r_net (by omega) ?_ | refine r_nef (by omega) ?_ | refine r_u8 (by omega) ?_ | refine r_u64 (by omega) ?_ | refine r_i32 (by omega) ?_ | refine r_u32 (by omega) ?_ | refine r_rem (by omega) ?_ | refine r_quo (by omega) ?_ | refine r_ldb (by assumption) (by rfl) ?_ | refine r_ldbE (by assumption) (by rfl) ?_))); (conv => whnf)
  refine r_calI (m_wnumber b) (by kernel_rfl) ((hst.ext hd2).number (0 + 1 + 1) r.gen rfl k2 (by omega)) ?_
  clear hst
  rintro _ wn2 hst
  (repeat ((conv => whnf); (first | with_reducible refine r_tt ?_ | with_reducible refine r_ff ?_ | with_reducible refine r_ntt ?_ | with_reducible refine r_nff ?_ | refine r_need (by omega) ?_ | refine r_i64 (by omega) ?_ | refine r_dect (by omega) ?_ | refine r_decf (by omega) ?_ | refine r_eqt (by omega) ?_ | refine r_eqf (by omega) ?_ | refine r_net (by omega) ?_ | refine r_nef (by omega) ?_ | refine r_u8 (by omega) ?_ | refine r_u64 (by omega) ?_ | refine r_i32 (by omega) ?_ | refine r_u32 (by omega) ?_ | refine r_rem (by omega) ?_ | refine r_quo (by omega) ?_ | refine r_ldb (by assumption) (by rfl) ?_ | refine r_ldbE (by assumption) (by rfl) ?_))); (conv => whnf)
  refine r_cal (wedit_ok hst (0 + 3) r.tr s1 r.ta rfl k3 rfl i1 g1 (by omega)) ?_
  clear hst
  rintro _ wn3 hst
  (repeat ((conv => whnf); (first | with_reducible refine r_tt ?_ | with_reducible refine r_ff ?_ | with_reducible refine r_ntt ?_ | with_reducible refine r_nff ?_ | refine r_need (by omega) ?_ | refine r_i64 (by omega) ?_ | refine r_dect (by omega) ?_ | refine r_decf (by omega) ?_ | refine r_eqt (by omega) ?_ | refine r_eqf (by omega) ?_ | refine r_net (by omega) ?_ | refine r_nef (by omega) ?_ | refine r_u8 (by omega) ?_ | refine r_u64 (by omega) ?_ | refine r_i32 (by omega) ?_ | refine r_u32 (by omega) ?_ | refine r_rem (by omega) ?_ | refine r_quo (by omega) ?_ | refine r_ldb (by assumption) (by rfl) ?_ | refine r_ldbE (by assumption) (by rfl) ?_))); (conv => whnf)
  refine r_cal (wedit_ok hst (0 + 5) r.dr s2 r.da rfl k4 rfl i2 g2 (by omega)) ?_
  clear hst
  rintro _ wn4 hst
  (repeat ((conv => whnf); (first | with_reducible refine r_tt ?_ | with_reducible refine r_ff ?_ | with_reducible refine r_ntt ?_ | with_reducible refine r_nff ?_ | refine r_need (by omega) ?_ | refine r_i64 (by omega) ?_ | refine r_dect (by omega) ?_ | refine r_decf (by omega) ?_ | refine r_eqt (by omega) ?_ | refine r_eqf (by omega) ?_ | refine r_net (by omega) ?_ | refine r_nef (by omega) ?_ | refine r_u8 (by omega) ?_ | refine r_u64 (by omega) ?_ | refine r_i32 (by omega) ?_ | refine r_u32 (by omega) ?_ | refine r_rem (by omega) ?_ | refine r_quo (by omega) ?_ | refine r_ldb (by assumption) (by rfl) ?_ | refine r_ldbE (by assumption) (by rfl) ?_))); (conv => whnf)
  refine r_drawE fun wd5 hd5 _ => ?_
  (repeat ((conv => whnf); (first | with_reducible refine r_tt ?_ | with_reducible refine r_ff ?_ | with_reducible refine r_ntt ?_ | with_reducible refine r_nff ?_ | refine r_need (by omega) ?_ | refine r_i64 (by omega) ?_ | refine r_dect (by omega) ?_ | refine r_decf (by omega) ?_ | refine r_eqt (by omega) ?_ | refine r_eqf (by omega) ?_ | refine r_net (by omega) ?_ | refine r_nef (by omega) ?_ | refine r_u8 (by omega) ?_ | refine r_u64 (by omega) ?_ | refine r_i32 (by omega) ?_ | refine r_u32 (by omega) ?_ | refine r_rem (by omega) ?_ | refine r_quo (by omega) ?_ | refine r_ldb (by assumption) (by rfl) ?_ | refine r_ldbE (by assumption) (by rfl) ?_))); (conv => whnf)
  refine r_nilno (n_wnumber b) ?_
  (repeat ((conv => whnf); (first | with_reducible refine r_tt ?_ | with_reducible refine r_ff ?_ | with_reducible refine r_ntt ?_ | with_reducible refine r_nff ?_ | refine r_need (by omega) ?_ | refine r_i64 (by omega) ?_ | refine r_dect (by omega) ?_ | refine r_decf (by omega) ?_ | refine r_eqt (by omega) ?_ | refine r_eqf (by omega) ?_ | refine r_net (by omega) ?_ | refine r_nef (by omega) ?_ | refine r_u8 (by omega) ?_ | refine r_u64 (by omega) ?_ | refine r_i32 (by omega) ?_ | refine r_u32 (by omega) ?_ | refine r_rem (by omega) ?_ | refine r_quo (by omega) ?_ | refine r_ldb (by assumption) (by rfl) ?_ | refine r_ldbE (by assumption) (by rfl) ?_))); (conv => whnf)
  refine r_calI (m_wnumber b) (by kernel_rfl) ((hst.ext hd5).number (0 + 7) r.tc rfl k5 (by omega)) ?_
  clear hst
  rintro _ wn5 hst
  (repeat ((conv => whnf); (first | with_reducible refine r_tt ?_ | with_reducible refine r_ff ?_ | with_reducible refine r_ntt ?_ | with_reducible refine r_nff ?_ | refine r_need (by omega) ?_ | refine r_i64 (by omega) ?_ | refine r_dect (by omega) ?_ | refine r_decf (by omega) ?_ | refine r_eqt (by omega) ?_ | refine r_eqf (by omega) ?_ | refine r_net (by omega) ?_ | refine r_nef (by omega) ?_ | refine r_u8 (by omega) ?_ | refine r_u64 (by omega) ?_ | refine r_i32 (by omega) ?_ | refine r_u32 (by omega) ?_ | refine r_rem (by omega) ?_ | refine r_quo (by omega) ?_ | refine r_ldb (by assumption) (by rfl) ?_ | refine r_ldbE (by assumption) (by rfl) ?_))); (conv => whnf)
  refine r_drawE fun wd6 hd6 _ => ?_
  (repeat ((conv => whnf); (first | with_reducible refine r_tt ?_ | with_reducible refine r_ff ?_ | with_reducible refine r_ntt ?_ | with_reducible refine r_nff ?_ | refine r_need (by omega) ?_ | refine r_i64 (by omega) ?_ | refine r_dect (by omega) ?_ | refine r_decf (by omega) ?_ | refine r_eqt (by omega) ?_ | refine r_eqf (by omega) ?_ | refine r_net (by omega) ?_ | refine r_nef (by omega) ?_ | refine r_u8 (by omega) ?_ | refine r_u64 (by omega) ?_ | refine r_i32 (by omega) ?_ | refine r_u32 (by omega) ?_ | refine r_rem (by omega) ?_ | refine r_quo (by omega) ?_ | refine r_ldb (by assumption) (by rfl) ?_ | refine r_ldbE (by assumption) (by rfl) ?_))); (conv => whnf)
  refine r_nilno (n_wnumber b) ?_
  (repeat ((conv => whnf); (first | with_reducible refine r_tt ?_ | with_reducible refine r_ff ?_ | with_reducible refine r_ntt ?_ | with_reducible refine r_nff ?_ | refine r_need (by omega) ?_ | refine r_i64 (by omega) ?_ | refine r_dect (by omega) ?_ | refine r_decf (by omega) ?_ | refine r_eqt (by omega) ?_ | refine r_eqf (by omega) ?_ | refine r_net (by omega) ?_ | refine r_nef (by omega) ?_ | refine r_u8 (by omega) ?_ | refine r_u64 (by omega) ?_ | refine r_i32 (by omega) ?_ | refine r_u32 (by omega) ?_ | refine r_rem (by omega) ?_ | refine r_quo (by omega) ?_ | refine r_ldb (by assumption) (by rfl) ?_ | refine r_ldbE (by assumption) (by rfl) ?_))); (conv => whnf)
  refine r_calI (m_wnumber b) (by kernel_rfl) ((hst.ext hd6).number (0 + 8) r.dc rfl k6 (by omega)) ?_
  clear hst
  rintro _ wn6 hst
  (repeat ((conv => whnf); (first | with_reducible refine r_tt ?_ | with_reducible refine r_ff ?_ | with_reducible refine r_ntt ?_ | with_reducible refine r_nff ?_ | refine r_need (by omega) ?_ | refine r_i64 (by omega) ?_ | refine r_dect (by omega) ?_ | refine r_decf (by omega) ?_ | refine r_eqt (by omega) ?_ | refine r_eqf (by omega) ?_ | refine r_net (by omega) ?_ | refine r_nef (by omega) ?_ | refine r_u8 (by omega) ?_ | refine r_u64 (by omega) ?_ | refine r_i32 (by omega) ?_ | refine r_u32 (by omega) ?_ | refine r_rem (by omega) ?_ | refine r_quo (by omega) ?_ | refine r_ldb (by assumption) (by rfl) ?_ | refine r_ldbE (by assumption) (by rfl) ?_))); (conv => whnf)
  refine r_drawE fun wd7 hd7 _ => ?_
  (repeat ((conv => whnf); (first | with_reducible refine r_tt ?_ | with_reducible refine r_ff ?_ | with_reducible refine r_ntt ?_ | with_reducible refine r_nff ?_ | refine r_need (by omega) ?_ | refine r_i64 (by omega) ?_ | refine r_dect (by omega) ?_ | refine r_decf (by omega) ?_ | refine r_eqt (by omega) ?_ | refine r_eqf (by omega) ?_ | refine r_net (by omega) ?_ | refine r_nef (by omega) ?_ | refine r_u8 (by omega) ?_ | refine r_u64 (by omega) ?_ | refine r_i32 (by omega) ?_ | refine r_u32 (by omega) ?_ | refine r_rem (by omega) ?_ | refine r_quo (by omega) ?_ | refine r_ldb (by assumption) (by rfl) ?_ | refine r_ldbE (by assumption) (by rfl) ?_))); (conv => whnf)
  refine r_nilno (n_wnumber b) ?_
  (repeat ((conv => whnf); (first | with_reducible refine r_tt ?_ | with_reducible refine r_ff ?_ | with_reducible refine r_ntt ?_ | with_reducible refine r_nff ?_ | refine r_need (by omega) ?_ | refine r_i64 (by omega) ?_ | refine r_dect (by omega) ?_ | refine r_decf (by omega) ?_ | refine r_eqt (by omega) ?_ | refine r_eqf (by omega) ?_ | refine r_net (by omega) ?_ | refine r_nef (by omega) ?_ | refine r_u8 (by omega) ?_ | refine r_u64 (by omega) ?_ | refine r_i32 (by omega) ?_ | refine r_u32 (by omega) ?_ | refine r_rem (by omega) ?_ | refine r_quo (by omega) ?_ | refine r_ldb (by assumption) (by rfl) ?_ | refine r_ldbE (by assumption) (by rfl) ?_))); (conv => whnf)
  refine r_calI (m_wnumber b) (by kernel_rfl) ((hst.ext hd7).number (0 + 9) r.rel rfl k7 (by omega)) ?_
  clear hst
  rintro _ wn7 hst
  (repeat ((conv => whnf); (first | with_reducible refine r_tt ?_ | with_reducible refine r_ff ?_ | with_reducible refine r_ntt ?_ | with_reducible refine r_nff ?_ | refine r_need (by omega) ?_ | refine r_i64 (by omega) ?_ | refine r_dect (by omega) ?_ | refine r_decf (by omega) ?_ | refine r_eqt (by omega) ?_ | refine r_eqf (by omega) ?_ | refine r_net (by omega) ?_ | refine r_nef (by omega) ?_ | refine r_u8 (by omega) ?_ | refine r_u64 (by omega) ?_ | refine r_i32 (by omega) ?_ | refine r_u32 (by omega) ?_ | refine r_rem (by omega) ?_ | refine r_quo (by omega) ?_ | refine r_ldb (by assumption) (by rfl) ?_ | refine r_ldbE (by assumption) (by rfl) ?_))); (conv => whnf)
  refine r_drawE fun wd8 hd8 _ => ?_
  (repeat ((conv => whnf); (first | with_reducible refine r_tt ?_ | with_reducible refine r_ff ?_ | with_reducible refine r_ntt ?_ | with_reducible refine r_nff ?_ | refine r_need (by omega) ?_ | refine r_i64 (by omega) ?_ | refine r_dect (by omega) ?_ | refine r_decf (by omega) ?_ | refine r_eqt (by omega) ?_ | refine r_eqf (by omega) ?_ | refine r_net (by omega) ?_ | refine r_nef (by omega) ?_ | refine r_u8 (by omega) ?_ | refine r_u64 (by omega) ?_ | refine r_i32 (by omega) ?_ | refine r_u32 (by omega) ?_ | refine r_rem (by omega) ?_ | refine r_quo (by omega) ?_ | refine r_ldb (by assumption) (by rfl) ?_ | refine r_ldbE (by assumption) (by rfl) ?_))); (conv => whnf)
  refine r_nilno (n_wlist b) ?_
  (repeat ((conv => whnf); (first | with_reducible refine r_tt ?_ | with_reducible refine r_ff ?_ | with_reducible refine r_ntt ?_ | with_reducible refine r_nff ?_ | refine r_need (by omega) ?_ | refine r_i64 (by omega) ?_ | refine r_dect (by omega) ?_ | refine r_decf (by omega) ?_ | refine r_eqt (by omega) ?_ | refine r_eqf (by omega) ?_ | refine r_net (by omega) ?_ | refine r_nef (by omega) ?_ | refine r_u8 (by omega) ?_ | refine r_u64 (by omega) ?_ | refine r_i32 (by omega) ?_ | refine r_u32 (by omega) ?_ | refine r_rem (by omega) ?_ | refine r_quo (by omega) ?_ | refine r_ldb (by assumption) (by rfl) ?_ | refine r_ldbE (by assumption) (by rfl) ?_))); (conv => whnf)
  refine r_calI (m_wlist b) (by kernel_rfl) ((hst.ext hd8).list (0 + 10) s3 r.text rfl i3 g3 (by omega)) ?_
  clear hst
  rintro _ wn8 hst
  (repeat ((conv => whnf); (first | with_reducible refine r_tt ?_ | with_reducible refine r_ff ?_ | with_reducible refine r_ntt ?_ | with_reducible refine r_nff ?_ | refine r_need (by omega) ?_ | refine r_i64 (by omega) ?_ | refine r_dect (by omega) ?_ | refine r_decf (by omega) ?_ | refine r_eqt (by omega) ?_ | refine r_eqf (by omega) ?_ | refine r_net (by omega) ?_ | refine r_nef (by omega) ?_ | refine r_u8 (by omega) ?_ | refine r_u64 (by omega) ?_ | refine r_i32 (by omega) ?_ | refine r_u32 (by omega) ?_ | refine r_rem (by omega) ?_ | refine r_quo (by omega) ?_ | refine r_ldb (by assumption) (by rfl) ?_ | refine r_ldbE (by assumption) (by rfl) ?_))); (conv => whnf)
  refine r_drawE fun wd9 hd9 _ => ?_
  (repeat ((conv => whnf); (first | with_reducible refine r_tt ?_ | with_reducible refine r_ff ?_ | with_reducible refine r_ntt ?_ | with_reducible refine r_nff ?_ | refine r_need (by omega) ?_ | refine r_i64 (by omega) ?_ | refine r_dect (by omega) ?_ | refine r_decf (by omega) ?_ | refine r_eqt (by omega) ?_ | refine r_eqf (by omega) ?_ | refine r_net (by omega) ?_ | refine r_nef (by omega) ?_ | refine r_u8 (by omega) ?_ | refine r_u64 (by omega) ?_ | refine r_i32 (by omega) ?_ | refine r_u32 (by omega) ?_ | refine r_rem (by omega) ?_ | refine r_quo (by omega) ?_ | refine r_ldb (by assumption) (by rfl) ?_ | refine r_ldbE (by assumption) (by rfl) ?_))); (conv => whnf)
  refine r_nilno (n_wnumber b) ?_
  (repeat ((conv => whnf); (first | with_reducible refine r_tt ?_ | with_reducible refine r_ff ?_ | with_reducible refine r_ntt ?_ | with_reducible refine r_nff ?_ | refine r_need (by omega) ?_ | refine r_i64 (by omega) ?_ | refine r_dect (by omega) ?_ | refine r_decf (by omega) ?_ | refine r_eqt (by omega) ?_ | refine r_eqf (by omega) ?_ | refine r_net (by omega) ?_ | refine r_nef (by omega) ?_ | refine r_u8 (by omega) ?_ | refine r_u64 (by omega) ?_ | refine r_i32 (by omega) ?_ | refine r_u32 (by omega) ?_ | refine r_rem (by omega) ?_ | refine r_quo (by omega) ?_ | refine r_ldb (by assumption) (by rfl) ?_ | refine r_ldbE (by assumption) (by rfl) ?_))); (conv => whnf)
  refine r_calI (m_wnumber b) (by kernel_rfl) ((hst.ext hd9).number (0 + 11) r.phase rfl k8 (by omega)) ?_
  clear hst
  rintro _ wn9 hst
  (repeat ((conv => whnf); (first | with_reducible refine r_tt ?_ | with_reducible refine r_ff ?_ | with_reducible refine r_ntt ?_ | with_reducible refine r_nff ?_ | refine r_need (by omega) ?_ | refine r_i64 (by omega) ?_ | refine r_dect (by omega) ?_ | refine r_decf (by omega) ?_ | refine r_eqt (by omega) ?_ | refine r_eqf (by omega) ?_ | refine r_net (by omega) ?_ | refine r_nef (by omega) ?_ | refine r_u8 (by omega) ?_ | refine r_u64 (by omega) ?_ | refine r_i32 (by omega) ?_ | refine r_u32 (by omega) ?_ | refine r_rem (by omega) ?_ | refine r_quo (by omega) ?_ | refine r_ldb (by assumption) (by rfl) ?_ | refine r_ldbE (by assumption) (by rfl) ?_))); (conv => whnf)
  refine r_drawE fun wd10 hd10 _ => ?_
  (repeat ((conv => whnf); (first | with_reducible refine r_tt ?_ | with_reducible refine r_ff ?_ | with_reducible refine r_ntt ?_ | with_reducible refine r_nff ?_ | refine r_need (by omega) ?_ | refine r_i64 (by omega) ?_ | refine r_dect (by omega) ?_ | refine r_decf (by omega) ?_ | refine r_eqt (by omega) ?_ | refine r_eqf (by omega) ?_ | refine r_net (by omega) ?_ | refine r_nef (by omega) ?_ | refine r_u8 (by omega) ?_ | refine r_u64 (by omega) ?_ | refine r_i32 (by omega) ?_ | refine r_u32 (by omega) ?_ | refine r_rem (by omega) ?_ | refine r_quo (by omega) ?_ | refine r_ldb (by assumption) (by rfl) ?_ | refine r_ldbE (by assumption) (by rfl) ?_))); (conv => whnf)
  refine r_nilno (n_wnumber b) ?_
  (repeat ((conv => whnf); (first | with_reducible refine r_tt ?_ | with_reducible refine r_ff ?_ | with_reducible refine r_ntt ?_ | with_reducible refine r_nff ?_ | refine r_need (by omega) ?_ | refine r_i64 (by omega) ?_ | refine r_dect (by omega) ?_ | refine r_decf (by omega) ?_ | refine r_eqt (by omega) ?_ | refine r_eqf (by omega) ?_ | refine r_net (by omega) ?_ | refine r_nef (by omega) ?_ | refine r_u8 (by omega) ?_ | refine r_u64 (by omega) ?_ | refine r_i32 (by omega) ?_ | refine r_u32 (by omega) ?_ | refine r_rem (by omega) ?_ | refine r_quo (by omega) ?_ | refine r_ldb (by assumption) (by rfl) ?_ | refine r_ldbE (by assumption) (by rfl) ?_))); (conv => whnf)
  refine r_calI (m_wnumber b) (by kernel_rfl) ((hst.ext hd10).number (0 + 12) r.stop rfl k9 (by omega)) ?_
  clear hst
  rintro _ wn10 hst
  (repeat ((conv => whnf); (first | with_reducible refine r_tt ?_ | with_reducible refine r_ff ?_ | with_reducible refine r_ntt ?_ | with_reducible refine r_nff ?_ | refine r_need (by omega) ?_ | refine r_i64 (by omega) ?_ | refine r_dect (by omega) ?_ | refine r_decf (by omega) ?_ | refine r_eqt (by omega) ?_ | refine r_eqf (by omega) ?_ | refine r_net (by omega) ?_ | refine r_nef (by omega) ?_ | refine r_u8 (by omega) ?_ | refine r_u64 (by omega) ?_ | refine r_i32 (by omega) ?_ | refine r_u32 (by omega) ?_ | refine r_rem (by omega) ?_ | refine r_quo (by omega) ?_ | refine r_ldb (by assumption) (by rfl) ?_ | refine r_ldbE (by assumption) (by rfl) ?_))); (conv => whnf)
  refine r_drawE fun wd11 hd11 _ => ?_
  (repeat ((conv => whnf); (first | with_reducible refine r_tt ?_ | with_reducible refine r_ff ?_ | with_reducible refine r_ntt ?_ | with_reducible refine r_nff ?_ | refine r_need (by omega) ?_ | refine r_i64 (by omega) ?_ | refine r_dect (by omega) ?_ | refine r_decf (by omega) ?_ | refine r_eqt (by omega) ?_ | refine r_eqf (by omega) ?_ | refine r_net (by omega) ?_ | refine r_nef (by omega) ?_ | refine r_u8 (by omega) ?_ | refine r_u64 (by omega) ?_ | refine r_i32 (by omega) ?_ | refine r_u32 (by omega) ?_ | refine r_rem (by omega) ?_ | refine r_quo (by omega) ?_ | refine r_ldb (by assumption) (by rfl) ?_ | refine r_ldbE (by assumption) (by rfl) ?_))); (conv => whnf)
  refine r_nilno (n_wlist b) ?_
  (repeat ((conv => whnf); (first | with_reducible refine r_tt ?_ | with_reducible refine r_ff ?_ | with_reducible refine r_ntt ?_ | with_reducible refine r_nff ?_ | refine r_need (by omega) ?_ | refine r_i64 (by omega) ?_ | refine r_dect (by omega) ?_ | refine r_decf (by omega) ?_ | refine r_eqt (by omega) ?_ | refine r_eqf (by omega) ?_ | refine r_net (by omega) ?_ | refine r_nef (by omega) ?_ | refine r_u8 (by omega) ?_ | refine r_u64 (by omega) ?_ | refine r_i32 (by omega) ?_ | refine r_u32 (by omega) ?_ | refine r_rem (by omega) ?_ | refine r_quo (by omega) ?_ | refine r_ldb (by assumption) (by rfl) ?_ | refine r_ldbE (by assumption) (by rfl) ?_))); (conv => whnf)
  refine r_calI (m_wlist b) (by kernel_rfl) ((hst.ext hd11).list (0 + 13) s4 r.ans rfl i4 g4 (by omega)) ?_
  clear hst
  rintro _ wn11 hst
  (repeat ((conv => whnf); (first | with_reducible refine r_tt ?_ | with_reducible refine r_ff ?_ | with_reducible refine r_ntt ?_ | with_reducible refine r_nff ?_ | refine r_need (by omega) ?_ | refine r_i64 (by omega) ?_ | refine r_dect (by omega) ?_ | refine r_decf (by omega) ?_ | refine r_eqt (by omega) ?_ | refine r_eqf (by omega) ?_ | refine r_net (by omega) ?_ | refine r_nef (by omega) ?_ | refine r_u8 (by omega) ?_ | refine r_u64 (by omega) ?_ | refine r_i32 (by omega) ?_ | refine r_u32 (by omega) ?_ | refine r_rem (by omega) ?_ | refine r_quo (by omega) ?_ | refine r_ldb (by assumption) (by rfl) ?_ | refine r_ldbE (by assumption) (by rfl) ?_))); (conv => whnf)
  obtain ⟨v', hw', _, _, hc', _⟩ := hst
  exact ⟨v', hw', _, fun k hk => hk, hc04.trans (Chg.mono hc' fun k _ hk => hk.elim .inl fun e => .inr (.inr e))⟩

theorem PutReply_ok {w : World} {r : Rp} {cs : List Value} (h : IsRp w r cs) : Cal Try.prog 21 ⟨[.agg ⟨cs⟩]⟩ w fun v w' => Ext w w' ∧ PutRes w.heap.size w' (encs r.items) v := by
  have h0 := h
  obtain ⟨s1, s2, s3, s4, rfl, h1, h2, h3, h4, _⟩ := h
  refine go21 (by rfl) ?_
  (repeat ((conv => whnf); (first | with_reducible refine r_tt ?_ | with_reducible refine r_ff ?_ | with_reducible refine r_ntt ?_ | with_reducible refine r_nff ?_ | refine r_need (by omega) ?_ | refine r_i64 (by omega) ?_ | refine r_dect (by omega) ?_ | refine r_decf (by omega) ?_ | refine r_eqt (by omega) ?_ | refine r_eqf (by omega) ?_ | refine r_net (by omega) ?_ | refine r_nef (by omega) ?_ | refine r_u8 (by omega) ?_ | refine r_u64 (by omega) ?_ | refine r_i32 (by omega) ?_ | refine r_u32 (by omega) ?_ | refine r_rem (by omega) ?_ | refine r_quo (by omega) ?_ | refine r_ldb (by assumption) (by rfl) ?_ | refine r_ldbE (by assumption) (by rfl) ?_))); (conv => whnf)
  refine r_new fun be w1 hx1 hbe hs1 hblk1 => ?_
  have hblk1 : Blk w1 be 49 (rpCells r s1 s2 s3 s4) := hblk1
  (repeat ((conv => whnf); (first | with_reducible refine r_tt ?_ | with_reducible refine r_ff ?_ | with_reducible refine r_ntt ?_ | with_reducible refine r_nff ?_ | refine r_need (by omega) ?_ | refine r_i64 (by omega) ?_ | refine r_dect (by omega) ?_ | refine r_decf (by omega) ?_ | refine r_eqt (by omega) ?_ | refine r_eqf (by omega) ?_ | refine r_net (by omega) ?_ | refine r_nef (by omega) ?_ | refine r_u8 (by omega) ?_ | refine r_u64 (by omega) ?_ | refine r_i32 (by omega) ?_ | refine r_u32 (by omega) ?_ | refine r_rem (by omega) ?_ | refine r_quo (by omega) ?_ | refine r_ldb (by assumption) (by rfl) ?_ | refine r_ldbE (by assumption) (by rfl) ?_))); (conv => whnf)
  refine r_new fun b w2 hx2 hb hs2 hblk2 => ?_
  have hblk2 : Blk w2 b 71 [.slice none 0 0] := hblk2
  have hlt1 := hblk1.lt
  have hlt2 := hblk2.lt
  have hx := hx1.trans hx2
  have key : ∀ {s : Sl} {xs : List Int}, s.is w xs → 0 < s.2.1 → blk s.1 < w.heap.size := fun hs hp => hs.1.lt (by have := hs.len.1; simp [ivs]; omega)
  (repeat ((conv => whnf); (first | with_reducible refine r_tt ?_ | with_reducible refine r_ff ?_ | with_reducible refine r_ntt ?_ | with_reducible refine r_nff ?_ | refine r_need (by omega) ?_ | refine r_i64 (by omega) ?_ | refine r_dect (by omega) ?_ | refine r_decf (by omega) ?_ | refine r_eqt (by omega) ?_ | refine r_eqf (by omega) ?_ | refine r_net (by omega) ?_ | refine r_nef (by omega) ?_ | refine r_u8 (by omega) ?_ | refine r_u64 (by omega) ?_ | refine r_i32 (by omega) ?_ | refine r_u32 (by omega) ?_ | refine r_rem (by omega) ?_ | refine r_quo (by omega) ?_ | refine r_ldb (by assumption) (by rfl) ?_ | refine r_ldbE (by assumption) (by rfl) ?_))); (conv => whnf)
  refine r_cal (wreply_ok (base := w2.heap.size) ⟨hblk2, World.ownsRow_nil w2 _ _ _, by omega, Nat.le_refl _⟩ (by omega) (hblk1.ext hx2) (h0.ext hx) (fun a len cap hm hp => ?_)) ?_
  · simp [rpCells, Sl.v] at hm
    rcases hm with ⟨rfl, rfl, rfl⟩ | ⟨rfl, rfl, rfl⟩ | ⟨rfl, rfl, rfl⟩ | ⟨rfl, rfl, rfl⟩
    · have := key h1 hp; omega
    · have := key h2 hp; omega
    · have := key h3 hp; omega
    · have := key h4 hp; omega
  rintro _ w3 ⟨v3, hw3, S, hS, hc3⟩
  (repeat ((conv => whnf); (first | with_reducible refine r_tt ?_ | with_reducible refine r_ff ?_ | with_reducible refine r_ntt ?_ | with_reducible refine r_nff ?_ | refine r_need (by omega) ?_ | refine r_i64 (by omega) ?_ | refine r_dect (by omega) ?_ | refine r_decf (by omega) ?_ | refine r_eqt (by omega) ?_ | refine r_eqf (by omega) ?_ | refine r_net (by omega) ?_ | refine r_nef (by omega) ?_ | refine r_u8 (by omega) ?_ | refine r_u64 (by omega) ?_ | refine r_i32 (by omega) ?_ | refine r_u32 (by omega) ?_ | refine r_rem (by omega) ?_ | refine r_quo (by omega) ?_ | refine r_ldb (by assumption) (by rfl) ?_ | refine r_ldbE (by assumption) (by rfl) ?_))); (conv => whnf)
  refine r_cal (wdone_ok hw3) ?_
  rintro q w4 ⟨rfl, hr⟩
  have hr := putRes_enc hr
  have hxx : Ext w w4 := Chg.step hx hc3 fun k hk hlt => by rcases hS k hk with h | h | h <;> omega
  rcases hr with ⟨hl, s, rfl, hown⟩ | ⟨hl, rfl⟩
  · (repeat ((conv => whnf); (first | with_reducible refine r_tt ?_ | with_reducible refine r_ff ?_ | with_reducible refine r_ntt ?_ | with_reducible refine r_nff ?_ | refine r_need (by omega) ?_ | refine r_i64 (by omega) ?_ | refine r_dect (by omega) ?_ | refine r_decf (by omega) ?_ | refine r_eqt (by omega) ?_ | refine r_eqf (by omega) ?_ | refine r_net (by omega) ?_ | refine r_nef (by omega) ?_ | refine r_u8 (by omega) ?_ | refine r_u64 (by omega) ?_ | refine r_i32 (by omega) ?_ | refine r_u32 (by omega) ?_ | refine r_rem (by omega) ?_ | refine r_quo (by omega) ?_ | refine r_ldb (by assumption) (by rfl) ?_ | refine r_ldbE (by assumption) (by rfl) ?_))); (conv => whnf)
    exact ⟨hxx, .inl ⟨hl, s, rfl, own_mono hown (by omega)⟩⟩
  · (repeat ((conv => whnf); (first | with_reducible refine r_tt ?_ | with_reducible refine r_ff ?_ | with_reducible refine r_ntt ?_ | with_reducible refine r_nff ?_ | refine r_need (by omega) ?_ | refine r_i64 (by omega) ?_ | refine r_dect (by omega) ?_ | refine r_decf (by omega) ?_ | refine r_eqt (by omega) ?_ | refine r_eqf (by omega) ?_ | refine r_net (by omega) ?_ | refine r_nef (by omega) ?_ | refine r_u8 (by omega) ?_ | refine r_u64 (by omega) ?_ | refine r_i32 (by omega) ?_ | refine r_u32 (by omega) ?_ | refine r_rem (by omega) ?_ | refine r_quo (by omega) ?_ | refine r_ldb (by assumption) (by rfl) ?_ | refine r_ldbE (by assumption) (by rfl) ?_))); (conv => whnf)
    exact ⟨hxx, .inr ⟨hl, rfl⟩⟩
end Fb.Try
