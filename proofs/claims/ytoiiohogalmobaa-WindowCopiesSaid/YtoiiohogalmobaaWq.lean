/-
  Walks: a window and its copy.
-/
import Derived.Test.YtoiiohogalmobaaWk
namespace Fb
open Go Go.Proofs
theorem r_ldnvT {S : Nat → Prop} {w : World} {a : Option Addr} {len cap size j n : Nat} {L vs : List Value} {K : Value → Prop} (h : View w a len cap size L) (hv : (L.drop j).take n = vs) (hl : vs.length = n) (hs : 0 < L.length → ¬ S (blk a)) (k : K (.agg ⟨vs⟩)) : LoadN ⟨blk a, ofs a + j, none⟩ n (Chg S w) K :=
  r_ldn vs hl (fun w' hw i v hi => by
    rw [Addr.add_plain, Nat.add_assoc]
    refine (h.keepN hw hs).cell _ v ?_
    rw [← hv, List.getElem?_take] at hi
    split at hi
    · rwa [List.getElem?_drop] at hi
    · cases hi) k
end Fb
namespace Fb.Try.WN
open Go Go.Proofs Fb Fb.Try.RW
structure TwoW (S1 S2 : Nat → Prop) (a1 : Option Addr) (l1 : Nat) (a2 : Option Addr) (l2 : Nat) (d1 : Option Addr) (k1 : Nat) (d2 : Option Addr) (k2 : Nat) : Prop where
  d : ∀ k, S1 k → ¬ S2 k
  o1 : WOff S1 d1 k1 d2 k2
  o2 : WOff S2 a1 l1 a2 l2
theorem TwoW.symm {S1 S2 : Nat → Prop} {a1 : Option Addr} {l1 : Nat} {a2 : Option Addr} {l2 : Nat} {d1 : Option Addr} {k1 : Nat} {d2 : Option Addr} {k2 : Nat} (h : TwoW S1 S2 a1 l1 a2 l2 d1 k1 d2 k2) : TwoW S2 S1 d1 k1 d2 k2 a1 l1 a2 l2 :=
  ⟨fun k x y => h.d k y x, h.o2, h.o1⟩
section
variable {w0 w w' : World} {wb eb b mv n : Nat} {s z : St} {g : Option Nat} {a1 : Option Addr} {l1 c1 : Nat} {a2 : Option Addr} {l2 c2 : Nat}
variable {wb2 eb2 b2 mv2 n2 : Nat} {s2 z2 : St} {g2 : Option Nat} {d1 : Option Addr} {k1 e1 : Nat} {d2 : Option Addr} {k2 e2 : Nat}
theorem PlayW.old (h : PlayW w0 w wb eb b mv n s z g a1 l1 c1 a2 l2 c2) {k : Nat} (hk : WD wb eb b g mv k) : k < w.heap.size ∧ w0.heap.size ≤ k := by
  rcases hk with e | e
  · exact ⟨h.win.lt e, h.new k e⟩
  · subst e; exact ⟨h.mlt, h.nm⟩
theorem PlayW.mono {m : Nat} (h : PlayW w0 w wb eb b mv n s z g a1 l1 c1 a2 l2 c2) (hn : n ≤ m) (hm : m ≤ 1000) : PlayW w0 w wb eb b mv m s z g a1 l1 c1 a2 l2 c2 :=
  ⟨h.win.more hn hm, h.isw, h.zok.mono hn hm, h.off, h.mb, h.mlt, h.ext, h.new, h.nm⟩
theorem WD_arr {w1 : World} {g' : Option Nat} {k : Nat} (ha : RW.Arr w1 g g') (hk : WD wb eb b g' mv k) : WD wb eb b g mv k ∨ w1.heap.size ≤ k := by
  rcases ha with rfl | ⟨x, rfl, hx⟩
  · exact .inl hk
  · rcases hk with (e | e | e | e) | e
    · exact .inl (.inl (.inl e))
    · exact .inl (.inl (.inr (.inl e)))
    · exact .inl (.inl (.inr (.inr (.inl e))))
    · cases e; exact .inr hx
    · exact .inl (.inr e)
/-- One of the two is told something. -/
theorem PlayW.done2 {v : Value} {kd x y : Int} (h : PlayW w0 w wb eb b mv n s z g a1 l1 c1 a2 l2 c2) (h2 : PlayW w0 w wb2 eb2 b2 mv2 n2 s2 z2 g2 d1 k1 e1 d2 k2 e2) (ht : TwoW (WD wb eb b g mv) (WD wb2 eb2 b2 g2 mv2) a1 l1 a2 l2 d1 k1 d2 k2) (hn : n + 1 ≤ 1000) (hx : -9223372036854775808 ≤ x ∧ x ≤ 9223372036854775807) (hd : DoneW w wb eb b g n (s.step kd x y) (z.step kd x y) a1 l1 a2 l2 v w') :
    ∃ g' p1 m1 q1 p2 m2 q2 r, v = .tuple ⟨[.agg ⟨wCells p1 m1 q1 p2 m2 q2 (z.step kd x y).1⟩, .bool r]⟩ ∧ (r = true ↔ (s.step kd x y).2 = (z.step kd x y).2) ∧ PlayW w0 w' wb eb b mv (n + 1) (s.step kd x y).1 (z.step kd x y).1 g' p1 m1 q1 p2 m2 q2 ∧ PlayW w0 w' wb2 eb2 b2 mv2 n2 s2 z2 g2 d1 k1 e1 d2 k2 e2 ∧ TwoW (WD wb eb b g' mv) (WD wb2 eb2 b2 g2 mv2) p1 m1 p2 m2 d1 k1 d2 k2 ∧ Chg (WS wb eb b g) w w' ∧ Sub w a1 l1 a2 l2 p1 m1 p2 m2 ∧ RW.Arr w g g' := by
  obtain ⟨g', p1, m1, q1, p2, m2, q2, r, rfl, hr, hp, hc, hs, ha⟩ := h.done hn hx hd
  have hl2 := h2.isw.lens
  refine ⟨g', p1, m1, q1, p2, m2, q2, r, rfl, hr, hp, ?_, ⟨fun k hk1 hk2 => ?_, ?_, ?_⟩, hc, hs, ha⟩
  · exact h2.keep hc (fun k hk hk2 => ht.d k (.inl hk) (.inl hk2)) (ht.o1.mono fun k hk => .inl hk) (fun k hk => h.new k hk)
  · have := (h2.old hk2).1
    rcases WD_arr ha hk1 with e | e
    · exact ht.d k e hk2
    · omega
  · refine ⟨fun hpp e => ?_, fun hpp e => ?_⟩
    · have := h2.isw.t.lt (by rw [iv_len]; omega)
      rcases WD_arr ha e with e | e
      · exact ht.o1.1 hpp e
      · omega
    · have := h2.isw.l.lt (by rw [iv_len]; omega)
      rcases WD_arr ha e with e | e
      · exact ht.o1.2 hpp e
      · omega
  · exact hs _ (fun k hk => (h2.old hk).1) ht.o2
theorem PlayW.done3 {w1 : World} {bn : Nat} {v : Value} {kd x y : Int} (h : PlayW w0 w wb eb b mv n s z g a1 l1 c1 a2 l2 c2) (h2 : PlayW w0 w wb2 eb2 b2 mv2 n2 s2 z2 g2 d1 k1 e1 d2 k2 e2) (ht : TwoW (WD wb eb b g mv) (WD wb2 eb2 b2 g2 mv2) a1 l1 a2 l2 d1 k1 d2 k2) (hn : n + 1 ≤ 1000) (hx : -9223372036854775808 ≤ x ∧ x ≤ 9223372036854775807) (hxt : Ext w w1) (hb : w.heap.size ≤ bn) (hl : bn < w1.heap.size) (hd : DoneW w1 wb eb b g n (s.step kd x y) (z.step kd x y) a1 l1 a2 l2 v w') :
    ∃ g' p1 m1 q1 p2 m2 q2 r, v = .tuple ⟨[.agg ⟨wCells p1 m1 q1 p2 m2 q2 (z.step kd x y).1⟩, .bool r]⟩ ∧ (r = true ↔ (s.step kd x y).2 = (z.step kd x y).2) ∧ Chg (WS wb eb b g) w1 w' ∧ ∀ w2, Chg (· = bn) w' w2 → PlayW w0 w2 wb eb b mv (n + 1) (s.step kd x y).1 (z.step kd x y).1 g' p1 m1 q1 p2 m2 q2 ∧ PlayW w0 w2 wb2 eb2 b2 mv2 n2 s2 z2 g2 d1 k1 e1 d2 k2 e2 ∧ TwoW (WD wb eb b g' mv) (WD wb2 eb2 b2 g2 mv2) p1 m1 p2 m2 d1 k1 d2 k2 := by
  obtain ⟨g', p1, m1, q1, p2, m2, q2, r, rfl, hr, hp, hq, ht', hc, hs, ha⟩ := (h.ext' hxt).done2 (h2.ext' hxt) ht hn hx hd
  have hse := h.ext.size
  refine ⟨g', p1, m1, q1, p2, m2, q2, r, rfl, hr, hc, fun w2 hc2 => ⟨hp.keep hc2 (fun k hk e => ?_) ?_ (fun k hk => by subst hk; omega), hq.keep hc2 (fun k hk e => ?_) (h2.isw.off fun k hk => by omega) (fun k hk => by subst hk; omega), ht'⟩⟩
  · subst hk
    rcases WD_arr (mv := mv) ha (.inl e) with e | e
    · have := (h.old e).1; omega
    · omega
  · exact hs _ (fun k hk => by omega) (h.isw.off fun k hk => by omega)
  · subst hk
    have := (h2.old (.inl e)).1; omega
theorem PlayW.var2 (h2 : PlayW w0 w wb2 eb2 b2 mv2 n2 s2 z2 g2 d1 k1 e1 d2 k2 e2) (ht : TwoW (WD wb eb b g mv) (WD wb2 eb2 b2 g2 mv2) a1 l1 a2 l2 d1 k1 d2 k2) (k : Chg (· = mv) w w') (hm : w0.heap.size ≤ mv) : PlayW w0 w' wb2 eb2 b2 mv2 n2 s2 z2 g2 d1 k1 e1 d2 k2 e2 :=
  h2.keep k (fun k hk h => ht.d k (.inr hk) (.inl h)) (ht.o1.mono fun _ hk => .inr hk) (fun k hk => by subst hk; exact hm)
end
set_option maxHeartbeats 4000000 in
set_option maxRecDepth 100000 in
theorem copies_ok {w : World} (keep : Int) (hk : 0 ≤ keep ∧ keep ≤ 255) {a : Option Addr} {len cap : Nat} {os : List OpW} (hos : OpsW w a len cap os) {aa2 : Option Addr} {len2 cap2 : Nat} {os2 : List OpW} (hos2 : OpsW w aa2 len2 cap2 os2) {aa3 : Option Addr} {len3 cap3 : Nat} {os3 : List OpW} (hos3 : OpsW w aa3 len3 cap3 os3) :
    Cal Try.prog 11 ⟨[.int .u8 keep, .slice a len cap, .slice aa2 len2 cap2, .slice aa3 len3 cap3]⟩ w fun v w' => v = .bool true ∧ Ext w w' := by
  refine go11 (by rfl) ?_
  by_cases hlen : 40 < len
  · (repeat ((conv => whnf); (first | with_reducible refine r_tt ?_ | with_reducible refine r_ff ?_ | with_reducible refine r_ntt ?_ | with_reducible refine r_nff ?_ | refine r_need (by omega) ?_ | refine r_i64 (by omega) ?_ | refine r_dect (by omega) ?_ | refine r_decf (by omega) ?_ | refine r_eqt (by omega) ?_ | refine r_eqf (by omega) ?_ | refine r_net (by omega) ?_ | refine r_nef (by omega) ?_ | refine r_u8 (by omega) ?_ | refine r_u64 (by omega) ?_ | refine r_i32 (by omega) ?_ | refine r_u32 (by omega) ?_ | refine r_rem (by omega) ?_ | refine r_quo (by omega) ?_ | refine r_ldb (by assumption) (by rfl) ?_ | refine r_ldbE (by assumption) (by rfl) ?_))); (conv => whnf)
    refine r_cal (fixed_ok _) ?_
    rintro _ w4 ⟨hx4, rfl⟩
    (repeat ((conv => whnf); (first | with_reducible refine r_tt ?_ | with_reducible refine r_ff ?_ | with_reducible refine r_ntt ?_ | with_reducible refine r_nff ?_ | refine r_need (by omega) ?_ | refine r_i64 (by omega) ?_ | refine r_dect (by omega) ?_ | refine r_decf (by omega) ?_ | refine r_eqt (by omega) ?_ | refine r_eqf (by omega) ?_ | refine r_net (by omega) ?_ | refine r_nef (by omega) ?_ | refine r_u8 (by omega) ?_ | refine r_u64 (by omega) ?_ | refine r_i32 (by omega) ?_ | refine r_u32 (by omega) ?_ | refine r_rem (by omega) ?_ | refine r_quo (by omega) ?_ | refine r_ldb (by assumption) (by rfl) ?_ | refine r_ldbE (by assumption) (by rfl) ?_))); (conv => whnf)
    exact ⟨rfl, hx4⟩
  by_cases hlen2 : 40 < len2
  · (repeat ((conv => whnf); (first | with_reducible refine r_tt ?_ | with_reducible refine r_ff ?_ | with_reducible refine r_ntt ?_ | with_reducible refine r_nff ?_ | refine r_need (by omega) ?_ | refine r_i64 (by omega) ?_ | refine r_dect (by omega) ?_ | refine r_decf (by omega) ?_ | refine r_eqt (by omega) ?_ | refine r_eqf (by omega) ?_ | refine r_net (by omega) ?_ | refine r_nef (by omega) ?_ | refine r_u8 (by omega) ?_ | refine r_u64 (by omega) ?_ | refine r_i32 (by omega) ?_ | refine r_u32 (by omega) ?_ | refine r_rem (by omega) ?_ | refine r_quo (by omega) ?_ | refine r_ldb (by assumption) (by rfl) ?_ | refine r_ldbE (by assumption) (by rfl) ?_))); (conv => whnf)
    refine r_cal (fixed_ok _) ?_
    rintro _ w4 ⟨hx4, rfl⟩
    (repeat ((conv => whnf); (first | with_reducible refine r_tt ?_ | with_reducible refine r_ff ?_ | with_reducible refine r_ntt ?_ | with_reducible refine r_nff ?_ | refine r_need (by omega) ?_ | refine r_i64 (by omega) ?_ | refine r_dect (by omega) ?_ | refine r_decf (by omega) ?_ | refine r_eqt (by omega) ?_ | refine r_eqf (by omega) ?_ | refine r_net (by omega) ?_ | refine r_nef (by omega) ?_ | refine r_u8 (by omega) ?_ | refine r_u64 (by omega) ?_ | refine r_i32 (by omega) ?_ | refine r_u32 (by omega) ?_ | refine r_rem (by omega) ?_ | refine r_quo (by omega) ?_ | refine r_ldb (by assumption) (by rfl) ?_ | refine r_ldbE (by assumption) (by rfl) ?_))); (conv => whnf)
    exact ⟨rfl, hx4⟩
  by_cases hlen3 : 40 < len3
  · (repeat ((conv => whnf); (first | with_reducible refine r_tt ?_ | with_reducible refine r_ff ?_ | with_reducible refine r_ntt ?_ | with_reducible refine r_nff ?_ | refine r_need (by omega) ?_ | refine r_i64 (by omega) ?_ | refine r_dect (by omega) ?_ | refine r_decf (by omega) ?_ | refine r_eqt (by omega) ?_ | refine r_eqf (by omega) ?_ | refine r_net (by omega) ?_ | refine r_nef (by omega) ?_ | refine r_u8 (by omega) ?_ | refine r_u64 (by omega) ?_ | refine r_i32 (by omega) ?_ | refine r_u32 (by omega) ?_ | refine r_rem (by omega) ?_ | refine r_quo (by omega) ?_ | refine r_ldb (by assumption) (by rfl) ?_ | refine r_ldbE (by assumption) (by rfl) ?_))); (conv => whnf)
    refine r_cal (fixed_ok _) ?_
    rintro _ w4 ⟨hx4, rfl⟩
    (repeat ((conv => whnf); (first | with_reducible refine r_tt ?_ | with_reducible refine r_ff ?_ | with_reducible refine r_ntt ?_ | with_reducible refine r_nff ?_ | refine r_need (by omega) ?_ | refine r_i64 (by omega) ?_ | refine r_dect (by omega) ?_ | refine r_decf (by omega) ?_ | refine r_eqt (by omega) ?_ | refine r_eqf (by omega) ?_ | refine r_net (by omega) ?_ | refine r_nef (by omega) ?_ | refine r_u8 (by omega) ?_ | refine r_u64 (by omega) ?_ | refine r_i32 (by omega) ?_ | refine r_u32 (by omega) ?_ | refine r_rem (by omega) ?_ | refine r_quo (by omega) ?_ | refine r_ldb (by assumption) (by rfl) ?_ | refine r_ldbE (by assumption) (by rfl) ?_))); (conv => whnf)
    exact ⟨rfl, hx4⟩
  obtain ⟨k, rfl⟩ : ∃ k : Nat, keep = k := ⟨keep.toNat, by omega⟩
  (repeat ((conv => whnf); (first | with_reducible refine r_tt ?_ | with_reducible refine r_ff ?_ | with_reducible refine r_ntt ?_ | with_reducible refine r_nff ?_ | refine r_need (by omega) ?_ | refine r_i64 (by omega) ?_ | refine r_dect (by omega) ?_ | refine r_decf (by omega) ?_ | refine r_eqt (by omega) ?_ | refine r_eqf (by omega) ?_ | refine r_net (by omega) ?_ | refine r_nef (by omega) ?_ | refine r_u8 (by omega) ?_ | refine r_u64 (by omega) ?_ | refine r_i32 (by omega) ?_ | refine r_u32 (by omega) ?_ | refine r_rem (by omega) ?_ | refine r_quo (by omega) ?_ | refine r_ldb (by assumption) (by rfl) ?_ | refine r_ldbE (by assumption) (by rfl) ?_))); (conv => whnf)
  refine r_cal (New_ok w k (by omega)) ?_
  rintro _ w1 ⟨wb, eb, b, rfl, hx1, h1, h2, h3, hw1⟩
  rw [Int.toNat_natCast] at hw1
  (repeat ((conv => whnf); (first | with_reducible refine r_tt ?_ | with_reducible refine r_ff ?_ | with_reducible refine r_ntt ?_ | with_reducible refine r_nff ?_ | refine r_need (by omega) ?_ | refine r_i64 (by omega) ?_ | refine r_dect (by omega) ?_ | refine r_decf (by omega) ?_ | refine r_eqt (by omega) ?_ | refine r_eqf (by omega) ?_ | refine r_net (by omega) ?_ | refine r_nef (by omega) ?_ | refine r_u8 (by omega) ?_ | refine r_u64 (by omega) ?_ | refine r_i32 (by omega) ?_ | refine r_u32 (by omega) ?_ | refine r_rem (by omega) ?_ | refine r_quo (by omega) ?_ | refine r_ldb (by assumption) (by rfl) ?_ | refine r_ldbE (by assumption) (by rfl) ?_))); (conv => whnf)
  refine r_new fun mv w3 hx3 hb3 hs3 hblk3 => ?_
  (repeat ((conv => whnf); (first | with_reducible refine r_tt ?_ | with_reducible refine r_ff ?_ | with_reducible refine r_ntt ?_ | with_reducible refine r_nff ?_ | refine r_need (by omega) ?_ | refine r_i64 (by omega) ?_ | refine r_dect (by omega) ?_ | refine r_decf (by omega) ?_ | refine r_eqt (by omega) ?_ | refine r_eqf (by omega) ?_ | refine r_net (by omega) ?_ | refine r_nef (by omega) ?_ | refine r_u8 (by omega) ?_ | refine r_u64 (by omega) ?_ | refine r_i32 (by omega) ?_ | refine r_u32 (by omega) ?_ | refine r_rem (by omega) ?_ | refine r_quo (by omega) ?_ | refine r_ldb (by assumption) (by rfl) ?_ | refine r_ldbE (by assumption) (by rfl) ?_))); (conv => whnf)
  refine r_stn hblk3 (by simp) (w_one none 0 0 none 0 0 ⟨[], [], 0, k⟩) fun w4 hc4 hs4 hblk4 => ?_
  have hblk4 : Blk w4 mv 60 (wCells none 0 0 none 0 0 ⟨[], [], 0, k⟩) := hblk4
  have hx14 : Ext w1 w4 := Chg.step hx3 hc4 fun k hk hlt => by omega
  have hp4 := PlayW.start hx1 h1 h2 h3 hw1 hx14 hb3 hblk4.lt
  (repeat ((conv => whnf); (first | with_reducible refine r_tt ?_ | with_reducible refine r_ff ?_ | with_reducible refine r_ntt ?_ | with_reducible refine r_nff ?_ | refine r_need (by omega) ?_ | refine r_i64 (by omega) ?_ | refine r_dect (by omega) ?_ | refine r_decf (by omega) ?_ | refine r_eqt (by omega) ?_ | refine r_eqf (by omega) ?_ | refine r_net (by omega) ?_ | refine r_nef (by omega) ?_ | refine r_u8 (by omega) ?_ | refine r_u64 (by omega) ?_ | refine r_i32 (by omega) ?_ | refine r_u32 (by omega) ?_ | refine r_rem (by omega) ?_ | refine r_quo (by omega) ?_ | refine r_ldb (by assumption) (by rfl) ?_ | refine r_ldbE (by assumption) (by rfl) ?_))); (conv => whnf)
  refine r_loop (σ := Nat) (fun i => [.bool true, .int .i64 (i : Int)]) (fun i w' => i ≤ len ∧ ∃ s g a1 l1 c1 a2 l2 c2, PlayW w w' wb eb b mv i s s g a1 l1 c1 a2 l2 c2 ∧ Blk w' mv 60 (wCells a1 l1 c1 a2 l2 c2 s)) (fun i _ => len - i) 0 rfl ⟨by omega, _, _, _, _, _, _, _, _, hp4, hblk4⟩ ?_
  clear hp4 hblk4 hblk3
  rintro i w5 again ⟨hi, s, g, a1, l1, c1, a2, l2, c2, hp, hm⟩ hagain
  by_cases hil : i < len
  focus
    obtain ⟨o, ho, hol, hob⟩ := hos.get hil
    have hpl := hos.plain (by omega)
    (repeat ((conv => whnf); (first | with_reducible refine r_tt ?_ | with_reducible refine r_ff ?_ | with_reducible refine r_ntt ?_ | with_reducible refine r_nff ?_ | refine r_need (by omega) ?_ | refine r_i64 (by omega) ?_ | refine r_dect (by omega) ?_ | refine r_decf (by omega) ?_ | refine r_eqt (by omega) ?_ | refine r_eqf (by omega) ?_ | refine r_net (by omega) ?_ | refine r_nef (by omega) ?_ | refine r_u8 (by omega) ?_ | refine r_u64 (by omega) ?_ | refine r_i32 (by omega) ?_ | refine r_u32 (by omega) ?_ | refine r_rem (by omega) ?_ | refine r_quo (by omega) ?_ | refine r_ldb (by assumption) (by rfl) ?_ | refine r_ldbE (by assumption) (by rfl) ?_))); (conv => whnf)
    refine r_ldnv (j := (i : Int).toNat * 3) (hos.view.ext hp.ext) (by simpa using ho) hol ?_
    (repeat ((conv => whnf); (first | with_reducible refine r_tt ?_ | with_reducible refine r_ff ?_ | with_reducible refine r_ntt ?_ | with_reducible refine r_nff ?_ | refine r_need (by omega) ?_ | refine r_i64 (by omega) ?_ | refine r_dect (by omega) ?_ | refine r_decf (by omega) ?_ | refine r_eqt (by omega) ?_ | refine r_eqf (by omega) ?_ | refine r_net (by omega) ?_ | refine r_nef (by omega) ?_ | refine r_u8 (by omega) ?_ | refine r_u64 (by omega) ?_ | refine r_i32 (by omega) ?_ | refine r_u32 (by omega) ?_ | refine r_rem (by omega) ?_ | refine r_quo (by omega) ?_ | refine r_ldb (by assumption) (by rfl) ?_ | refine r_ldbE (by assumption) (by rfl) ?_))); (conv => whnf)
    refine r_new fun bo w6 hx6 hb6 hs6 hblk6 => ?_
    (repeat ((conv => whnf); (first | with_reducible refine r_tt ?_ | with_reducible refine r_ff ?_ | with_reducible refine r_ntt ?_ | with_reducible refine r_nff ?_ | refine r_need (by omega) ?_ | refine r_i64 (by omega) ?_ | refine r_dect (by omega) ?_ | refine r_decf (by omega) ?_ | refine r_eqt (by omega) ?_ | refine r_eqf (by omega) ?_ | refine r_net (by omega) ?_ | refine r_nef (by omega) ?_ | refine r_u8 (by omega) ?_ | refine r_u64 (by omega) ?_ | refine r_i32 (by omega) ?_ | refine r_u32 (by omega) ?_ | refine r_rem (by omega) ?_ | refine r_quo (by omega) ?_ | refine r_ldb (by assumption) (by rfl) ?_ | refine r_ldbE (by assumption) (by rfl) ?_))); (conv => whnf)
    refine r_stn hblk6 (by simp [OpW.cells]) (opW_one o) fun w7 hc7 hs7 hblk7 => ?_
    have hblk7 : Blk w7 bo 62 o.cells := hblk7
    have hx57 : Ext w5 w7 := Chg.step hx6 hc7 fun k hk hlt => by omega
    have hp7 := hp.ext' hx57
    have hm7 := hm.ext hx57
    (repeat ((conv => whnf); (first | with_reducible refine r_tt ?_ | with_reducible refine r_ff ?_ | with_reducible refine r_ntt ?_ | with_reducible refine r_nff ?_ | refine r_need (by omega) ?_ | refine r_i64 (by omega) ?_ | refine r_dect (by omega) ?_ | refine r_decf (by omega) ?_ | refine r_eqt (by omega) ?_ | refine r_eqf (by omega) ?_ | refine r_net (by omega) ?_ | refine r_nef (by omega) ?_ | refine r_u8 (by omega) ?_ | refine r_u64 (by omega) ?_ | refine r_i32 (by omega) ?_ | refine r_u32 (by omega) ?_ | refine r_rem (by omega) ?_ | refine r_quo (by omega) ?_ | refine r_ldb (by assumption) (by rfl) ?_ | refine r_ldbE (by assumption) (by rfl) ?_))); (conv => whnf)
    refine r_ldnb (vs := wCells a1 l1 c1 a2 l2 c2 s) hm7 rfl rfl ?_
    (repeat ((conv => whnf); (first | with_reducible refine r_tt ?_ | with_reducible refine r_ff ?_ | with_reducible refine r_ntt ?_ | with_reducible refine r_nff ?_ | refine r_need (by omega) ?_ | refine r_i64 (by omega) ?_ | refine r_dect (by omega) ?_ | refine r_decf (by omega) ?_ | refine r_eqt (by omega) ?_ | refine r_eqf (by omega) ?_ | refine r_net (by omega) ?_ | refine r_nef (by omega) ?_ | refine r_u8 (by omega) ?_ | refine r_u64 (by omega) ?_ | refine r_i32 (by omega) ?_ | refine r_u32 (by omega) ?_ | refine r_rem (by omega) ?_ | refine r_quo (by omega) ?_ | refine r_ldb (by assumption) (by rfl) ?_ | refine r_ldbE (by assumption) (by rfl) ?_))); (conv => whnf)
    refine r_ldnb (vs := o.cells) hblk7 rfl rfl ?_
    (repeat ((conv => whnf); (first | with_reducible refine r_tt ?_ | with_reducible refine r_ff ?_ | with_reducible refine r_ntt ?_ | with_reducible refine r_nff ?_ | refine r_need (by omega) ?_ | refine r_i64 (by omega) ?_ | refine r_dect (by omega) ?_ | refine r_decf (by omega) ?_ | refine r_eqt (by omega) ?_ | refine r_eqf (by omega) ?_ | refine r_net (by omega) ?_ | refine r_nef (by omega) ?_ | refine r_u8 (by omega) ?_ | refine r_u64 (by omega) ?_ | refine r_i32 (by omega) ?_ | refine r_u32 (by omega) ?_ | refine r_rem (by omega) ?_ | refine r_quo (by omega) ?_ | refine r_ldb (by assumption) (by rfl) ?_ | refine r_ldbE (by assumption) (by rfl) ?_))); (conv => whnf)
    refine r_cal (does_ok hp7.win hp7.isw hp7.zok hp7.off' (by omega) o.kd o.x o.y hob) ?_
    rintro _ w8 hd
    obtain ⟨g', b1, m1, d1, b2, m2, d2, r, rfl, hr, hp8, hc8, -, -⟩ := hp7.done (by omega) hob hd
    have hr : r = true := hr.2 rfl
    subst hr
    have hm8 := hm7.keep hc8 hp7.mb
    generalize (s.step o.kd o.x o.y).1 = s' at hp8
    (repeat ((conv => whnf); (first | with_reducible refine r_tt ?_ | with_reducible refine r_ff ?_ | with_reducible refine r_ntt ?_ | with_reducible refine r_nff ?_ | refine r_need (by omega) ?_ | refine r_i64 (by omega) ?_ | refine r_dect (by omega) ?_ | refine r_decf (by omega) ?_ | refine r_eqt (by omega) ?_ | refine r_eqf (by omega) ?_ | refine r_net (by omega) ?_ | refine r_nef (by omega) ?_ | refine r_u8 (by omega) ?_ | refine r_u64 (by omega) ?_ | refine r_i32 (by omega) ?_ | refine r_u32 (by omega) ?_ | refine r_rem (by omega) ?_ | refine r_quo (by omega) ?_ | refine r_ldb (by assumption) (by rfl) ?_ | refine r_ldbE (by assumption) (by rfl) ?_))); (conv => whnf)
    refine r_new fun bn w9 hx9 hb9 hs9 hblk9 => ?_
    (repeat ((conv => whnf); (first | with_reducible refine r_tt ?_ | with_reducible refine r_ff ?_ | with_reducible refine r_ntt ?_ | with_reducible refine r_nff ?_ | refine r_need (by omega) ?_ | refine r_i64 (by omega) ?_ | refine r_dect (by omega) ?_ | refine r_decf (by omega) ?_ | refine r_eqt (by omega) ?_ | refine r_eqf (by omega) ?_ | refine r_net (by omega) ?_ | refine r_nef (by omega) ?_ | refine r_u8 (by omega) ?_ | refine r_u64 (by omega) ?_ | refine r_i32 (by omega) ?_ | refine r_u32 (by omega) ?_ | refine r_rem (by omega) ?_ | refine r_quo (by omega) ?_ | refine r_ldb (by assumption) (by rfl) ?_ | refine r_ldbE (by assumption) (by rfl) ?_))); (conv => whnf)
    refine r_stn hblk9 (by simp [wCells]) (w_one _ _ _ _ _ _ _) fun w10 hc10 hs10 hblk10 => ?_
    have hblk10 : Blk w10 bn 60 (wCells b1 m1 d1 b2 m2 d2 s') := hblk10
    have hx810 : Ext w8 w10 := Chg.step hx9 hc10 fun k hk hlt => by omega
    (repeat ((conv => whnf); (first | with_reducible refine r_tt ?_ | with_reducible refine r_ff ?_ | with_reducible refine r_ntt ?_ | with_reducible refine r_nff ?_ | refine r_need (by omega) ?_ | refine r_i64 (by omega) ?_ | refine r_dect (by omega) ?_ | refine r_decf (by omega) ?_ | refine r_eqt (by omega) ?_ | refine r_eqf (by omega) ?_ | refine r_net (by omega) ?_ | refine r_nef (by omega) ?_ | refine r_u8 (by omega) ?_ | refine r_u64 (by omega) ?_ | refine r_i32 (by omega) ?_ | refine r_u32 (by omega) ?_ | refine r_rem (by omega) ?_ | refine r_quo (by omega) ?_ | refine r_ldb (by assumption) (by rfl) ?_ | refine r_ldbE (by assumption) (by rfl) ?_))); (conv => whnf)
    refine r_ldnb (vs := wCells b1 m1 d1 b2 m2 d2 s') hblk10 rfl rfl ?_
    (repeat ((conv => whnf); (first | with_reducible refine r_tt ?_ | with_reducible refine r_ff ?_ | with_reducible refine r_ntt ?_ | with_reducible refine r_nff ?_ | refine r_need (by omega) ?_ | refine r_i64 (by omega) ?_ | refine r_dect (by omega) ?_ | refine r_decf (by omega) ?_ | refine r_eqt (by omega) ?_ | refine r_eqf (by omega) ?_ | refine r_net (by omega) ?_ | refine r_nef (by omega) ?_ | refine r_u8 (by omega) ?_ | refine r_u64 (by omega) ?_ | refine r_i32 (by omega) ?_ | refine r_u32 (by omega) ?_ | refine r_rem (by omega) ?_ | refine r_quo (by omega) ?_ | refine r_ldb (by assumption) (by rfl) ?_ | refine r_ldbE (by assumption) (by rfl) ?_))); (conv => whnf)
    refine r_stn (hm8.ext hx810) (by simp [wCells]) (w_one _ _ _ _ _ _ _) fun w11 hc11 hs11 hblk11 => ?_
    have hblk11 : Blk w11 mv 60 (wCells b1 m1 d1 b2 m2 d2 s') := hblk11
    have hp11 := (hp8.ext' hx810).var hc11
    (repeat ((conv => whnf); (first | with_reducible refine r_tt ?_ | with_reducible refine r_ff ?_ | with_reducible refine r_ntt ?_ | with_reducible refine r_nff ?_ | refine r_need (by omega) ?_ | refine r_i64 (by omega) ?_ | refine r_dect (by omega) ?_ | refine r_decf (by omega) ?_ | refine r_eqt (by omega) ?_ | refine r_eqf (by omega) ?_ | refine r_net (by omega) ?_ | refine r_nef (by omega) ?_ | refine r_u8 (by omega) ?_ | refine r_u64 (by omega) ?_ | refine r_i32 (by omega) ?_ | refine r_u32 (by omega) ?_ | refine r_rem (by omega) ?_ | refine r_quo (by omega) ?_ | refine r_ldb (by assumption) (by rfl) ?_ | refine r_ldbE (by assumption) (by rfl) ?_))); (conv => whnf)
    exact hagain (i + 1) _ ⟨by omega, _, _, _, _, _, _, _, _, hp11, hblk11⟩ (by omega)
  clear hagain
  (repeat ((conv => whnf); (first | with_reducible refine r_tt ?_ | with_reducible refine r_ff ?_ | with_reducible refine r_ntt ?_ | with_reducible refine r_nff ?_ | refine r_need (by omega) ?_ | refine r_i64 (by omega) ?_ | refine r_dect (by omega) ?_ | refine r_decf (by omega) ?_ | refine r_eqt (by omega) ?_ | refine r_eqf (by omega) ?_ | refine r_net (by omega) ?_ | refine r_nef (by omega) ?_ | refine r_u8 (by omega) ?_ | refine r_u64 (by omega) ?_ | refine r_i32 (by omega) ?_ | refine r_u32 (by omega) ?_ | refine r_rem (by omega) ?_ | refine r_quo (by omega) ?_ | refine r_ldb (by assumption) (by rfl) ?_ | refine r_ldbE (by assumption) (by rfl) ?_))); (conv => whnf)
  refine r_drawE fun w6 hx6 hh6 => ?_
  (repeat ((conv => whnf); (first | refine r_ldnbE (vs := wCells a1 l1 c1 a2 l2 c2 s) hm rfl rfl ?_ | with_reducible refine r_tt ?_ | with_reducible refine r_ff ?_ | with_reducible refine r_ntt ?_ | with_reducible refine r_nff ?_ | refine r_need (by omega) ?_ | refine r_i64 (by omega) ?_ | refine r_dect (by omega) ?_ | refine r_decf (by omega) ?_ | refine r_eqt (by omega) ?_ | refine r_eqf (by omega) ?_ | refine r_net (by omega) ?_ | refine r_nef (by omega) ?_ | refine r_u8 (by omega) ?_ | refine r_u64 (by omega) ?_ | refine r_i32 (by omega) ?_ | refine r_u32 (by omega) ?_ | refine r_rem (by omega) ?_ | refine r_quo (by omega) ?_ | refine r_ldb (by assumption) (by rfl) ?_ | refine r_ldbE (by assumption) (by rfl) ?_))); (conv => whnf)
  have hp6 := hp.ext' hx6
  have hm6 := hm.ext hx6
  clear hm hp hh6
  have hp := hp6
  have hm := hm6
  clear hp6 hm6
  refine r_both ?_ ?_
  focus
    (repeat ((conv => whnf); (first | with_reducible refine r_tt ?_ | with_reducible refine r_ff ?_ | with_reducible refine r_ntt ?_ | with_reducible refine r_nff ?_ | refine r_need (by omega) ?_ | refine r_i64 (by omega) ?_ | refine r_dect (by omega) ?_ | refine r_decf (by omega) ?_ | refine r_eqt (by omega) ?_ | refine r_eqf (by omega) ?_ | refine r_net (by omega) ?_ | refine r_nef (by omega) ?_ | refine r_u8 (by omega) ?_ | refine r_u64 (by omega) ?_ | refine r_i32 (by omega) ?_ | refine r_u32 (by omega) ?_ | refine r_rem (by omega) ?_ | refine r_quo (by omega) ?_ | refine r_ldb (by assumption) (by rfl) ?_ | refine r_ldbE (by assumption) (by rfl) ?_))); (conv => whnf)
    refine r_cal (Copy_ok hp.win) ?_
    rintro _ w7 ⟨wb2, eb2, b2, g2, rfl, hx7, hR7, hn7⟩
    (repeat ((conv => whnf); (first | with_reducible refine r_tt ?_ | with_reducible refine r_ff ?_ | with_reducible refine r_ntt ?_ | with_reducible refine r_nff ?_ | refine r_need (by omega) ?_ | refine r_i64 (by omega) ?_ | refine r_dect (by omega) ?_ | refine r_decf (by omega) ?_ | refine r_eqt (by omega) ?_ | refine r_eqf (by omega) ?_ | refine r_net (by omega) ?_ | refine r_nef (by omega) ?_ | refine r_u8 (by omega) ?_ | refine r_u64 (by omega) ?_ | refine r_i32 (by omega) ?_ | refine r_u32 (by omega) ?_ | refine r_rem (by omega) ?_ | refine r_quo (by omega) ?_ | refine r_ldb (by assumption) (by rfl) ?_ | refine r_ldbE (by assumption) (by rfl) ?_))); (conv => whnf)
    refine r_held (hx6.trans hx7) ?_
    (repeat ((conv => whnf); (first | with_reducible refine r_tt ?_ | with_reducible refine r_ff ?_ | with_reducible refine r_ntt ?_ | with_reducible refine r_nff ?_ | refine r_need (by omega) ?_ | refine r_i64 (by omega) ?_ | refine r_dect (by omega) ?_ | refine r_decf (by omega) ?_ | refine r_eqt (by omega) ?_ | refine r_eqf (by omega) ?_ | refine r_net (by omega) ?_ | refine r_nef (by omega) ?_ | refine r_u8 (by omega) ?_ | refine r_u64 (by omega) ?_ | refine r_i32 (by omega) ?_ | refine r_u32 (by omega) ?_ | refine r_rem (by omega) ?_ | refine r_quo (by omega) ?_ | refine r_ldb (by assumption) (by rfl) ?_ | refine r_ldbE (by assumption) (by rfl) ?_))); (conv => whnf)
    refine r_new fun mv2 w8 hx8 hb8 hs8 hblk8 => ?_
    (repeat ((conv => whnf); (first | with_reducible refine r_tt ?_ | with_reducible refine r_ff ?_ | with_reducible refine r_ntt ?_ | with_reducible refine r_nff ?_ | refine r_need (by omega) ?_ | refine r_i64 (by omega) ?_ | refine r_dect (by omega) ?_ | refine r_decf (by omega) ?_ | refine r_eqt (by omega) ?_ | refine r_eqf (by omega) ?_ | refine r_net (by omega) ?_ | refine r_nef (by omega) ?_ | refine r_u8 (by omega) ?_ | refine r_u64 (by omega) ?_ | refine r_i32 (by omega) ?_ | refine r_u32 (by omega) ?_ | refine r_rem (by omega) ?_ | refine r_quo (by omega) ?_ | refine r_ldb (by assumption) (by rfl) ?_ | refine r_ldbE (by assumption) (by rfl) ?_))); (conv => whnf)
    refine r_held ((hx6.trans hx7).trans hx8) ?_
    (repeat ((conv => whnf); (first | with_reducible refine r_tt ?_ | with_reducible refine r_ff ?_ | with_reducible refine r_ntt ?_ | with_reducible refine r_nff ?_ | refine r_need (by omega) ?_ | refine r_i64 (by omega) ?_ | refine r_dect (by omega) ?_ | refine r_decf (by omega) ?_ | refine r_eqt (by omega) ?_ | refine r_eqf (by omega) ?_ | refine r_net (by omega) ?_ | refine r_nef (by omega) ?_ | refine r_u8 (by omega) ?_ | refine r_u64 (by omega) ?_ | refine r_i32 (by omega) ?_ | refine r_u32 (by omega) ?_ | refine r_rem (by omega) ?_ | refine r_quo (by omega) ?_ | refine r_ldb (by assumption) (by rfl) ?_ | refine r_ldbE (by assumption) (by rfl) ?_))); (conv => whnf)
    refine r_stn hblk8 (by simp [wCells]) (w_one _ _ _ _ _ _ _) fun w9 hc9 hs9 hblk9 => ?_
    have hblk9 : Blk w9 mv2 60 (wCells a1 l1 c1 a2 l2 c2 s) := hblk9
    have hs7 := hx7.size
    have hm2n : ¬ WS wb2 eb2 b2 g2 mv2 := fun e => by have := hR7.lt e; omega
    have hx79 : Ext w7 w9 := Chg.step hx8 hc9 fun k hk hlt => by omega
    have hR9 := hR7.ext hx79
    have hx69 := hx7.trans hx79
    have hm2w : w6.heap.size ≤ mv2 := by omega
    clear hblk8 hc9 hx8 hR7 hx7 hx79
    (repeat ((conv => whnf); (first | with_reducible refine r_tt ?_ | with_reducible refine r_ff ?_ | with_reducible refine r_ntt ?_ | with_reducible refine r_nff ?_ | refine r_need (by omega) ?_ | refine r_i64 (by omega) ?_ | refine r_dect (by omega) ?_ | refine r_decf (by omega) ?_ | refine r_eqt (by omega) ?_ | refine r_eqf (by omega) ?_ | refine r_net (by omega) ?_ | refine r_nef (by omega) ?_ | refine r_u8 (by omega) ?_ | refine r_u64 (by omega) ?_ | refine r_i32 (by omega) ?_ | refine r_u32 (by omega) ?_ | refine r_rem (by omega) ?_ | refine r_quo (by omega) ?_ | refine r_ldb (by assumption) (by rfl) ?_ | refine r_ldbE (by assumption) (by rfl) ?_))); (conv => whnf)
  rotate_left
  focus
    (repeat ((conv => whnf); (first | with_reducible refine r_tt ?_ | with_reducible refine r_ff ?_ | with_reducible refine r_ntt ?_ | with_reducible refine r_nff ?_ | refine r_need (by omega) ?_ | refine r_i64 (by omega) ?_ | refine r_dect (by omega) ?_ | refine r_decf (by omega) ?_ | refine r_eqt (by omega) ?_ | refine r_eqf (by omega) ?_ | refine r_net (by omega) ?_ | refine r_nef (by omega) ?_ | refine r_u8 (by omega) ?_ | refine r_u64 (by omega) ?_ | refine r_i32 (by omega) ?_ | refine r_u32 (by omega) ?_ | refine r_rem (by omega) ?_ | refine r_quo (by omega) ?_ | refine r_ldb (by assumption) (by rfl) ?_ | refine r_ldbE (by assumption) (by rfl) ?_))); (conv => whnf)
    refine r_new fun mv2 w7 hx7 hb7 hs7 hblk7 => ?_
    have hl7 := hblk7.lt
    (repeat ((conv => whnf); (first | with_reducible refine r_tt ?_ | with_reducible refine r_ff ?_ | with_reducible refine r_ntt ?_ | with_reducible refine r_nff ?_ | refine r_need (by omega) ?_ | refine r_i64 (by omega) ?_ | refine r_dect (by omega) ?_ | refine r_decf (by omega) ?_ | refine r_eqt (by omega) ?_ | refine r_eqf (by omega) ?_ | refine r_net (by omega) ?_ | refine r_nef (by omega) ?_ | refine r_u8 (by omega) ?_ | refine r_u64 (by omega) ?_ | refine r_i32 (by omega) ?_ | refine r_u32 (by omega) ?_ | refine r_rem (by omega) ?_ | refine r_quo (by omega) ?_ | refine r_ldb (by assumption) (by rfl) ?_ | refine r_ldbE (by assumption) (by rfl) ?_))); (conv => whnf)
    refine r_held (hx6.trans hx7) ?_
    (repeat ((conv => whnf); (first | with_reducible refine r_tt ?_ | with_reducible refine r_ff ?_ | with_reducible refine r_ntt ?_ | with_reducible refine r_nff ?_ | refine r_need (by omega) ?_ | refine r_i64 (by omega) ?_ | refine r_dect (by omega) ?_ | refine r_decf (by omega) ?_ | refine r_eqt (by omega) ?_ | refine r_eqf (by omega) ?_ | refine r_net (by omega) ?_ | refine r_nef (by omega) ?_ | refine r_u8 (by omega) ?_ | refine r_u64 (by omega) ?_ | refine r_i32 (by omega) ?_ | refine r_u32 (by omega) ?_ | refine r_rem (by omega) ?_ | refine r_quo (by omega) ?_ | refine r_ldb (by assumption) (by rfl) ?_ | refine r_ldbE (by assumption) (by rfl) ?_))); (conv => whnf)
    refine r_cal (Copy_ok (hp.win.ext hx7)) ?_
    rintro _ w8 ⟨wb2, eb2, b2, g2, rfl, hx8, hR8, hn8⟩
    (repeat ((conv => whnf); (first | with_reducible refine r_tt ?_ | with_reducible refine r_ff ?_ | with_reducible refine r_ntt ?_ | with_reducible refine r_nff ?_ | refine r_need (by omega) ?_ | refine r_i64 (by omega) ?_ | refine r_dect (by omega) ?_ | refine r_decf (by omega) ?_ | refine r_eqt (by omega) ?_ | refine r_eqf (by omega) ?_ | refine r_net (by omega) ?_ | refine r_nef (by omega) ?_ | refine r_u8 (by omega) ?_ | refine r_u64 (by omega) ?_ | refine r_i32 (by omega) ?_ | refine r_u32 (by omega) ?_ | refine r_rem (by omega) ?_ | refine r_quo (by omega) ?_ | refine r_ldb (by assumption) (by rfl) ?_ | refine r_ldbE (by assumption) (by rfl) ?_))); (conv => whnf)
    refine r_held ((hx6.trans hx7).trans hx8) ?_
    (repeat ((conv => whnf); (first | with_reducible refine r_tt ?_ | with_reducible refine r_ff ?_ | with_reducible refine r_ntt ?_ | with_reducible refine r_nff ?_ | refine r_need (by omega) ?_ | refine r_i64 (by omega) ?_ | refine r_dect (by omega) ?_ | refine r_decf (by omega) ?_ | refine r_eqt (by omega) ?_ | refine r_eqf (by omega) ?_ | refine r_net (by omega) ?_ | refine r_nef (by omega) ?_ | refine r_u8 (by omega) ?_ | refine r_u64 (by omega) ?_ | refine r_i32 (by omega) ?_ | refine r_u32 (by omega) ?_ | refine r_rem (by omega) ?_ | refine r_quo (by omega) ?_ | refine r_ldb (by assumption) (by rfl) ?_ | refine r_ldbE (by assumption) (by rfl) ?_))); (conv => whnf)
    refine r_stn (hblk7.ext hx8) (by simp [wCells]) (w_one _ _ _ _ _ _ _) fun w9 hc9 hs9 hblk9 => ?_
    have hblk9 : Blk w9 mv2 60 (wCells a1 l1 c1 a2 l2 c2 s) := hblk9
    have hs7 := hx7.size
    have hm2n : ¬ WS wb2 eb2 b2 g2 mv2 := fun e => by have := hn8 _ e; omega
    have hn7 : ∀ k, WS wb2 eb2 b2 g2 k → w6.heap.size ≤ k := fun k hk => by have := hn8 k hk; omega
    have hR9 := hR8.keepS hc9 (fun k hk e => by subst hk; exact hm2n e)
    have hx69 : Ext w6 w9 := Chg.step (hx7.trans hx8) hc9 fun k hk hlt => by omega
    have hm2w : w6.heap.size ≤ mv2 := by omega
    clear hblk7 hc9 hx8 hR8 hx7 hn8
    (repeat ((conv => whnf); (first | with_reducible refine r_tt ?_ | with_reducible refine r_ff ?_ | with_reducible refine r_ntt ?_ | with_reducible refine r_nff ?_ | refine r_need (by omega) ?_ | refine r_i64 (by omega) ?_ | refine r_dect (by omega) ?_ | refine r_decf (by omega) ?_ | refine r_eqt (by omega) ?_ | refine r_eqf (by omega) ?_ | refine r_net (by omega) ?_ | refine r_nef (by omega) ?_ | refine r_u8 (by omega) ?_ | refine r_u64 (by omega) ?_ | refine r_i32 (by omega) ?_ | refine r_u32 (by omega) ?_ | refine r_rem (by omega) ?_ | refine r_quo (by omega) ?_ | refine r_ldb (by assumption) (by rfl) ?_ | refine r_ldbE (by assumption) (by rfl) ?_))); (conv => whnf)
  all_goals
    have hp9 := (hp.ext' hx69).mono (show i ≤ 100 by omega) (by omega)
    have hm9 := hm.ext hx69
    have hs06 := hp.ext.size
    have hWD2 : ∀ k, WD wb2 eb2 b2 g2 mv2 k → w6.heap.size ≤ k := fun k hk => hk.elim (hn7 k) fun e => by omega
    have hq9 : PlayW w w9 wb2 eb2 b2 mv2 100 s s g2 a1 l1 c1 a2 l2 c2 :=
      ⟨hR9.more (by omega) (by omega), hp9.isw, hp9.zok, hp.isw.off hWD2, hm2n, hblk9.lt, hp9.ext, fun k hk => by have := hn7 k hk; omega, by omega⟩
    have ht9 : TwoW (WD wb eb b g mv) (WD wb2 eb2 b2 g2 mv2) a1 l1 a2 l2 a1 l1 a2 l2 :=
      ⟨fun k h1 h2 => by have := (hp.old h1).1; have := hWD2 k h2; omega, hp.off, hq9.off⟩
    clear hp hm hR9 hm2n hn7 hm2w hx69 hs7 hWD2
    refine r_loop (σ := Nat) (fun j => [.bool true, .int .i64 (j : Int)]) (fun j w' => (j ≤ len2 ∨ j ≤ len3) ∧ ∃ s g a1 l1 c1 a2 l2 c2 s2 g2 d1 k1 e1 d2 k2 e2, PlayW w w' wb eb b mv (100 + j) s s g a1 l1 c1 a2 l2 c2 ∧ PlayW w w' wb2 eb2 b2 mv2 (100 + j) s2 s2 g2 d1 k1 e1 d2 k2 e2 ∧ TwoW (WD wb eb b g mv) (WD wb2 eb2 b2 g2 mv2) a1 l1 a2 l2 d1 k1 d2 k2 ∧ Blk w' mv 60 (wCells a1 l1 c1 a2 l2 c2 s) ∧ Blk w' mv2 60 (wCells d1 k1 e1 d2 k2 e2 s2)) (fun j _ => max len2 len3 - j) 0 rfl ⟨by omega, _, _, _, _, _, _, _, _, _, _, _, _, _, _, _, _, hp9, hq9, ht9, hm9, hblk9⟩ ?_
    clear hp9 hq9 ht9 hm9 hblk9
    rintro j w10 again10 ⟨hj, s, g, a1, l1, c1, a2, l2, c2, s2, g2, d1, k1, e1, d2, k2, e2, hp, hq, ht, hm, hm2⟩ hagain
    by_cases hA : j < len2
    focus
      obtain ⟨oA, hoA, holA, hobA⟩ := hos2.get hA
      have hplA := hos2.plain (by omega)
      have hnmA : ¬ WS wb eb b g mv := hp.mb
      have hnvA : 0 < ((os2.map OpW.cells).flatten).length → ¬ WS wb eb b g (blk aa2) := fun h0 e => by
        have := hos2.view.lt h0; have := hp.new _ e; omega
      (repeat ((conv => whnf); (first | with_reducible refine r_tt ?_ | with_reducible refine r_ff ?_ | with_reducible refine r_ntt ?_ | with_reducible refine r_nff ?_ | refine r_need (by omega) ?_ | refine r_i64 (by omega) ?_ | refine r_dect (by omega) ?_ | refine r_decf (by omega) ?_ | refine r_eqt (by omega) ?_ | refine r_eqf (by omega) ?_ | refine r_net (by omega) ?_ | refine r_nef (by omega) ?_ | refine r_u8 (by omega) ?_ | refine r_u64 (by omega) ?_ | refine r_i32 (by omega) ?_ | refine r_u32 (by omega) ?_ | refine r_rem (by omega) ?_ | refine r_quo (by omega) ?_ | refine r_ldb (by assumption) (by rfl) ?_ | refine r_ldbE (by assumption) (by rfl) ?_))); (conv => whnf)
      refine r_drawS (WS wb eb b g) fun w1A hx1A hh1A => ?_
      (repeat ((conv => whnf); (first | refine r_ldnbT (vs := wCells a1 l1 c1 a2 l2 c2 s) hm rfl rfl hnmA ?_ | refine r_ldnvT (j := (j : Int).toNat * 3) (hos2.view.ext hp.ext) (by simpa using hoA) holA hnvA ?_ | with_reducible refine r_tt ?_ | with_reducible refine r_ff ?_ | with_reducible refine r_ntt ?_ | with_reducible refine r_nff ?_ | refine r_need (by omega) ?_ | refine r_i64 (by omega) ?_ | refine r_dect (by omega) ?_ | refine r_decf (by omega) ?_ | refine r_eqt (by omega) ?_ | refine r_eqf (by omega) ?_ | refine r_net (by omega) ?_ | refine r_nef (by omega) ?_ | refine r_u8 (by omega) ?_ | refine r_u64 (by omega) ?_ | refine r_i32 (by omega) ?_ | refine r_u32 (by omega) ?_ | refine r_rem (by omega) ?_ | refine r_quo (by omega) ?_ | refine r_ldb (by assumption) (by rfl) ?_ | refine r_ldbE (by assumption) (by rfl) ?_))); (conv => whnf)
      have hp1A := hp.ext' hx1A
      have hq1A := hq.ext' hx1A
      have hm1A := hm.ext hx1A
      have hn1A := hm2.ext hx1A
      have hnnA : ¬ WS wb eb b g mv2 := fun e => ht.d _ (.inl e) (.inr rfl)
      refine r_both ?_ ?_
      focus
        (repeat ((conv => whnf); (first | with_reducible refine r_tt ?_ | with_reducible refine r_ff ?_ | with_reducible refine r_ntt ?_ | with_reducible refine r_nff ?_ | refine r_need (by omega) ?_ | refine r_i64 (by omega) ?_ | refine r_dect (by omega) ?_ | refine r_decf (by omega) ?_ | refine r_eqt (by omega) ?_ | refine r_eqf (by omega) ?_ | refine r_net (by omega) ?_ | refine r_nef (by omega) ?_ | refine r_u8 (by omega) ?_ | refine r_u64 (by omega) ?_ | refine r_i32 (by omega) ?_ | refine r_u32 (by omega) ?_ | refine r_rem (by omega) ?_ | refine r_quo (by omega) ?_ | refine r_ldb (by assumption) (by rfl) ?_ | refine r_ldbE (by assumption) (by rfl) ?_))); (conv => whnf)
        refine r_cal (does_ok hp1A.win hp1A.isw hp1A.zok hp1A.off' (by omega) oA.kd oA.x oA.y hobA) ?_
        rintro _ w2A hdA
        obtain ⟨gA, x1A, m1A, y1A, x2A, m2A, y2A, rA, rfl, hrA, hp2A, hq2A, ht2A, hc2A, -, -⟩ := hp1A.done2 hq1A ht (by omega) hobA hdA
        have hrA : rA = true := hrA.2 rfl
        subst hrA
        generalize (St.step s oA.kd oA.x oA.y).1 = sA at hp2A
        (repeat ((conv => whnf); (first | with_reducible refine r_tt ?_ | with_reducible refine r_ff ?_ | with_reducible refine r_ntt ?_ | with_reducible refine r_nff ?_ | refine r_need (by omega) ?_ | refine r_i64 (by omega) ?_ | refine r_dect (by omega) ?_ | refine r_decf (by omega) ?_ | refine r_eqt (by omega) ?_ | refine r_eqf (by omega) ?_ | refine r_net (by omega) ?_ | refine r_nef (by omega) ?_ | refine r_u8 (by omega) ?_ | refine r_u64 (by omega) ?_ | refine r_i32 (by omega) ?_ | refine r_u32 (by omega) ?_ | refine r_rem (by omega) ?_ | refine r_quo (by omega) ?_ | refine r_ldb (by assumption) (by rfl) ?_ | refine r_ldbE (by assumption) (by rfl) ?_))); (conv => whnf)
        refine r_new fun bnA w3A hx3A hb3A hs3A hblk3A => ?_
        (repeat ((conv => whnf); (first | with_reducible refine r_tt ?_ | with_reducible refine r_ff ?_ | with_reducible refine r_ntt ?_ | with_reducible refine r_nff ?_ | refine r_need (by omega) ?_ | refine r_i64 (by omega) ?_ | refine r_dect (by omega) ?_ | refine r_decf (by omega) ?_ | refine r_eqt (by omega) ?_ | refine r_eqf (by omega) ?_ | refine r_net (by omega) ?_ | refine r_nef (by omega) ?_ | refine r_u8 (by omega) ?_ | refine r_u64 (by omega) ?_ | refine r_i32 (by omega) ?_ | refine r_u32 (by omega) ?_ | refine r_rem (by omega) ?_ | refine r_quo (by omega) ?_ | refine r_ldb (by assumption) (by rfl) ?_ | refine r_ldbE (by assumption) (by rfl) ?_))); (conv => whnf)
        refine r_held (((hx1A.wide _).trans hc2A).ext hx3A) ?_
        (repeat ((conv => whnf); (first | with_reducible refine r_tt ?_ | with_reducible refine r_ff ?_ | with_reducible refine r_ntt ?_ | with_reducible refine r_nff ?_ | refine r_need (by omega) ?_ | refine r_i64 (by omega) ?_ | refine r_dect (by omega) ?_ | refine r_decf (by omega) ?_ | refine r_eqt (by omega) ?_ | refine r_eqf (by omega) ?_ | refine r_net (by omega) ?_ | refine r_nef (by omega) ?_ | refine r_u8 (by omega) ?_ | refine r_u64 (by omega) ?_ | refine r_i32 (by omega) ?_ | refine r_u32 (by omega) ?_ | refine r_rem (by omega) ?_ | refine r_quo (by omega) ?_ | refine r_ldb (by assumption) (by rfl) ?_ | refine r_ldbE (by assumption) (by rfl) ?_))); (conv => whnf)
        refine r_stn hblk3A (by simp [wCells]) (w_one _ _ _ _ _ _ _) fun w4A hc4A hs4A hblk4A => ?_
        have hblk4A : Blk w4A bnA 60 (wCells x1A m1A y1A x2A m2A y2A sA) := hblk4A
        have hx24A : Ext w2A w4A := Chg.step hx3A hc4A fun k hk hlt => by omega
        have hp4A := hp2A.ext' hx24A
        have hq4A := hq2A.ext' hx24A
        have hm4A := (hm1A.keep hc2A hnmA).ext hx24A
        have hn4A := (hn1A.keep hc2A hnnA).ext hx24A
        (repeat ((conv => whnf); (first | with_reducible refine r_tt ?_ | with_reducible refine r_ff ?_ | with_reducible refine r_ntt ?_ | with_reducible refine r_nff ?_ | refine r_need (by omega) ?_ | refine r_i64 (by omega) ?_ | refine r_dect (by omega) ?_ | refine r_decf (by omega) ?_ | refine r_eqt (by omega) ?_ | refine r_eqf (by omega) ?_ | refine r_net (by omega) ?_ | refine r_nef (by omega) ?_ | refine r_u8 (by omega) ?_ | refine r_u64 (by omega) ?_ | refine r_i32 (by omega) ?_ | refine r_u32 (by omega) ?_ | refine r_rem (by omega) ?_ | refine r_quo (by omega) ?_ | refine r_ldb (by assumption) (by rfl) ?_ | refine r_ldbE (by assumption) (by rfl) ?_))); (conv => whnf)
      rotate_left
      focus
        (repeat ((conv => whnf); (first | with_reducible refine r_tt ?_ | with_reducible refine r_ff ?_ | with_reducible refine r_ntt ?_ | with_reducible refine r_nff ?_ | refine r_need (by omega) ?_ | refine r_i64 (by omega) ?_ | refine r_dect (by omega) ?_ | refine r_decf (by omega) ?_ | refine r_eqt (by omega) ?_ | refine r_eqf (by omega) ?_ | refine r_net (by omega) ?_ | refine r_nef (by omega) ?_ | refine r_u8 (by omega) ?_ | refine r_u64 (by omega) ?_ | refine r_i32 (by omega) ?_ | refine r_u32 (by omega) ?_ | refine r_rem (by omega) ?_ | refine r_quo (by omega) ?_ | refine r_ldb (by assumption) (by rfl) ?_ | refine r_ldbE (by assumption) (by rfl) ?_))); (conv => whnf)
        refine r_new fun bnA w2A hx2A hb2A hs2A hblk2A => ?_
        have hl2A := hblk2A.lt
        (repeat ((conv => whnf); (first | with_reducible refine r_tt ?_ | with_reducible refine r_ff ?_ | with_reducible refine r_ntt ?_ | with_reducible refine r_nff ?_ | refine r_need (by omega) ?_ | refine r_i64 (by omega) ?_ | refine r_dect (by omega) ?_ | refine r_decf (by omega) ?_ | refine r_eqt (by omega) ?_ | refine r_eqf (by omega) ?_ | refine r_net (by omega) ?_ | refine r_nef (by omega) ?_ | refine r_u8 (by omega) ?_ | refine r_u64 (by omega) ?_ | refine r_i32 (by omega) ?_ | refine r_u32 (by omega) ?_ | refine r_rem (by omega) ?_ | refine r_quo (by omega) ?_ | refine r_ldb (by assumption) (by rfl) ?_ | refine r_ldbE (by assumption) (by rfl) ?_))); (conv => whnf)
        refine r_held ((hx1A.trans hx2A).wide _) ?_
        (repeat ((conv => whnf); (first | with_reducible refine r_tt ?_ | with_reducible refine r_ff ?_ | with_reducible refine r_ntt ?_ | with_reducible refine r_nff ?_ | refine r_need (by omega) ?_ | refine r_i64 (by omega) ?_ | refine r_dect (by omega) ?_ | refine r_decf (by omega) ?_ | refine r_eqt (by omega) ?_ | refine r_eqf (by omega) ?_ | refine r_net (by omega) ?_ | refine r_nef (by omega) ?_ | refine r_u8 (by omega) ?_ | refine r_u64 (by omega) ?_ | refine r_i32 (by omega) ?_ | refine r_u32 (by omega) ?_ | refine r_rem (by omega) ?_ | refine r_quo (by omega) ?_ | refine r_ldb (by assumption) (by rfl) ?_ | refine r_ldbE (by assumption) (by rfl) ?_))); (conv => whnf)
        have hpxA := hp1A.ext' hx2A
        refine r_cal (does_ok hpxA.win hpxA.isw hpxA.zok hpxA.off' (by omega) oA.kd oA.x oA.y hobA) ?_
        rintro _ w3A hdA
        obtain ⟨gA, x1A, m1A, y1A, x2A, m2A, y2A, rA, rfl, hrA, hc3A, hallA⟩ := hp1A.done3 hq1A ht (by omega) hobA hx2A hb2A hl2A hdA
        have hrA : rA = true := hrA.2 rfl
        subst hrA
        generalize (St.step s oA.kd oA.x oA.y).1 = sA at hallA
        have hnbA : ¬ WS wb eb b g bnA := fun e => by have := (hp1A.old (.inl e)).1; omega
        (repeat ((conv => whnf); (first | with_reducible refine r_tt ?_ | with_reducible refine r_ff ?_ | with_reducible refine r_ntt ?_ | with_reducible refine r_nff ?_ | refine r_need (by omega) ?_ | refine r_i64 (by omega) ?_ | refine r_dect (by omega) ?_ | refine r_decf (by omega) ?_ | refine r_eqt (by omega) ?_ | refine r_eqf (by omega) ?_ | refine r_net (by omega) ?_ | refine r_nef (by omega) ?_ | refine r_u8 (by omega) ?_ | refine r_u64 (by omega) ?_ | refine r_i32 (by omega) ?_ | refine r_u32 (by omega) ?_ | refine r_rem (by omega) ?_ | refine r_quo (by omega) ?_ | refine r_ldb (by assumption) (by rfl) ?_ | refine r_ldbE (by assumption) (by rfl) ?_))); (conv => whnf)
        refine r_stn (hblk2A.keep hc3A hnbA) (by simp [wCells]) (w_one _ _ _ _ _ _ _) fun w4A hc4A hs4A hblk4A => ?_
        have hblk4A : Blk w4A bnA 60 (wCells x1A m1A y1A x2A m2A y2A sA) := hblk4A
        obtain ⟨hp4A, hq4A, ht2A⟩ := hallA _ hc4A
        have hm4A := (((hm1A.ext hx2A).keep hc3A hnmA).keep hc4A (fun e => by have := hm1A.lt; omega))
        have hn4A := (((hn1A.ext hx2A).keep hc3A hnnA).keep hc4A (fun e => by have := hn1A.lt; omega))
        (repeat ((conv => whnf); (first | with_reducible refine r_tt ?_ | with_reducible refine r_ff ?_ | with_reducible refine r_ntt ?_ | with_reducible refine r_nff ?_ | refine r_need (by omega) ?_ | refine r_i64 (by omega) ?_ | refine r_dect (by omega) ?_ | refine r_decf (by omega) ?_ | refine r_eqt (by omega) ?_ | refine r_eqf (by omega) ?_ | refine r_net (by omega) ?_ | refine r_nef (by omega) ?_ | refine r_u8 (by omega) ?_ | refine r_u64 (by omega) ?_ | refine r_i32 (by omega) ?_ | refine r_u32 (by omega) ?_ | refine r_rem (by omega) ?_ | refine r_quo (by omega) ?_ | refine r_ldb (by assumption) (by rfl) ?_ | refine r_ldbE (by assumption) (by rfl) ?_))); (conv => whnf)
      all_goals
        refine r_ldnb (vs := wCells x1A m1A y1A x2A m2A y2A sA) hblk4A rfl rfl ?_
        (repeat ((conv => whnf); (first | with_reducible refine r_tt ?_ | with_reducible refine r_ff ?_ | with_reducible refine r_ntt ?_ | with_reducible refine r_nff ?_ | refine r_need (by omega) ?_ | refine r_i64 (by omega) ?_ | refine r_dect (by omega) ?_ | refine r_decf (by omega) ?_ | refine r_eqt (by omega) ?_ | refine r_eqf (by omega) ?_ | refine r_net (by omega) ?_ | refine r_nef (by omega) ?_ | refine r_u8 (by omega) ?_ | refine r_u64 (by omega) ?_ | refine r_i32 (by omega) ?_ | refine r_u32 (by omega) ?_ | refine r_rem (by omega) ?_ | refine r_quo (by omega) ?_ | refine r_ldb (by assumption) (by rfl) ?_ | refine r_ldbE (by assumption) (by rfl) ?_))); (conv => whnf)
        refine r_stn hm4A (by simp [wCells]) (w_one _ _ _ _ _ _ _) fun w5A hc5A hs5A hm5A => ?_
        have hm5A : Blk w5A mv 60 (wCells x1A m1A y1A x2A m2A y2A sA) := hm5A
        have hp5A := hp4A.var hc5A
        have hq5A := hq4A.var2 ht2A hc5A hp4A.nm
        have hn5A := hn4A.keep hc5A (fun e => ht2A.d _ (.inr e) (.inr rfl))
      all_goals
        by_cases hB : j < len3
        focus
          obtain ⟨oB, hoB, holB, hobB⟩ := hos3.get hB
          have hplB := hos3.plain (by omega)
          have hnmB : ¬ WS wb2 eb2 b2 g2 mv2 := hq5A.mb
          have hnvB : 0 < ((os3.map OpW.cells).flatten).length → ¬ WS wb2 eb2 b2 g2 (blk aa3) := fun h0 e => by
            have := hos3.view.lt h0; have := hq5A.new _ e; omega
          (repeat ((conv => whnf); (first | with_reducible refine r_tt ?_ | with_reducible refine r_ff ?_ | with_reducible refine r_ntt ?_ | with_reducible refine r_nff ?_ | refine r_need (by omega) ?_ | refine r_i64 (by omega) ?_ | refine r_dect (by omega) ?_ | refine r_decf (by omega) ?_ | refine r_eqt (by omega) ?_ | refine r_eqf (by omega) ?_ | refine r_net (by omega) ?_ | refine r_nef (by omega) ?_ | refine r_u8 (by omega) ?_ | refine r_u64 (by omega) ?_ | refine r_i32 (by omega) ?_ | refine r_u32 (by omega) ?_ | refine r_rem (by omega) ?_ | refine r_quo (by omega) ?_ | refine r_ldb (by assumption) (by rfl) ?_ | refine r_ldbE (by assumption) (by rfl) ?_))); (conv => whnf)
          refine r_drawS (WS wb2 eb2 b2 g2) fun w1B hx1B hh1B => ?_
          (repeat ((conv => whnf); (first | refine r_ldnbT (vs := wCells d1 k1 e1 d2 k2 e2 s2) hn5A rfl rfl hnmB ?_ | refine r_ldnvT (j := (j : Int).toNat * 3) (hos3.view.ext hq5A.ext) (by simpa using hoB) holB hnvB ?_ | with_reducible refine r_tt ?_ | with_reducible refine r_ff ?_ | with_reducible refine r_ntt ?_ | with_reducible refine r_nff ?_ | refine r_need (by omega) ?_ | refine r_i64 (by omega) ?_ | refine r_dect (by omega) ?_ | refine r_decf (by omega) ?_ | refine r_eqt (by omega) ?_ | refine r_eqf (by omega) ?_ | refine r_net (by omega) ?_ | refine r_nef (by omega) ?_ | refine r_u8 (by omega) ?_ | refine r_u64 (by omega) ?_ | refine r_i32 (by omega) ?_ | refine r_u32 (by omega) ?_ | refine r_rem (by omega) ?_ | refine r_quo (by omega) ?_ | refine r_ldb (by assumption) (by rfl) ?_ | refine r_ldbE (by assumption) (by rfl) ?_))); (conv => whnf)
          have hp1B := hq5A.ext' hx1B
          have hq1B := hp5A.ext' hx1B
          have hm1B := hn5A.ext hx1B
          have hn1B := hm5A.ext hx1B
          have hnnB : ¬ WS wb2 eb2 b2 g2 mv := fun e => ht2A.symm.d _ (.inl e) (.inr rfl)
          refine r_both ?_ ?_
          focus
            (repeat ((conv => whnf); (first | with_reducible refine r_tt ?_ | with_reducible refine r_ff ?_ | with_reducible refine r_ntt ?_ | with_reducible refine r_nff ?_ | refine r_need (by omega) ?_ | refine r_i64 (by omega) ?_ | refine r_dect (by omega) ?_ | refine r_decf (by omega) ?_ | refine r_eqt (by omega) ?_ | refine r_eqf (by omega) ?_ | refine r_net (by omega) ?_ | refine r_nef (by omega) ?_ | refine r_u8 (by omega) ?_ | refine r_u64 (by omega) ?_ | refine r_i32 (by omega) ?_ | refine r_u32 (by omega) ?_ | refine r_rem (by omega) ?_ | refine r_quo (by omega) ?_ | refine r_ldb (by assumption) (by rfl) ?_ | refine r_ldbE (by assumption) (by rfl) ?_))); (conv => whnf)
            refine r_cal (does_ok hp1B.win hp1B.isw hp1B.zok hp1B.off' (by omega) oB.kd oB.x oB.y hobB) ?_
            rintro _ w2B hdB
            obtain ⟨gB, x1B, m1B, y1B, x2B, m2B, y2B, rB, rfl, hrB, hp2B, hq2B, ht2B, hc2B, -, -⟩ := hp1B.done2 hq1B ht2A.symm (by omega) hobB hdB
            have hrB : rB = true := hrB.2 rfl
            subst hrB
            generalize (St.step s2 oB.kd oB.x oB.y).1 = sB at hp2B
            (repeat ((conv => whnf); (first | with_reducible refine r_tt ?_ | with_reducible refine r_ff ?_ | with_reducible refine r_ntt ?_ | with_reducible refine r_nff ?_ | refine r_need (by omega) ?_ | refine r_i64 (by omega) ?_ | refine r_dect (by omega) ?_ | refine r_decf (by omega) ?_ | refine r_eqt (by omega) ?_ | refine r_eqf (by omega) ?_ | refine r_net (by omega) ?_ | refine r_nef (by omega) ?_ | refine r_u8 (by omega) ?_ | refine r_u64 (by omega) ?_ | refine r_i32 (by omega) ?_ | refine r_u32 (by omega) ?_ | refine r_rem (by omega) ?_ | refine r_quo (by omega) ?_ | refine r_ldb (by assumption) (by rfl) ?_ | refine r_ldbE (by assumption) (by rfl) ?_))); (conv => whnf)
            refine r_new fun bnB w3B hx3B hb3B hs3B hblk3B => ?_
            (repeat ((conv => whnf); (first | with_reducible refine r_tt ?_ | with_reducible refine r_ff ?_ | with_reducible refine r_ntt ?_ | with_reducible refine r_nff ?_ | refine r_need (by omega) ?_ | refine r_i64 (by omega) ?_ | refine r_dect (by omega) ?_ | refine r_decf (by omega) ?_ | refine r_eqt (by omega) ?_ | refine r_eqf (by omega) ?_ | refine r_net (by omega) ?_ | refine r_nef (by omega) ?_ | refine r_u8 (by omega) ?_ | refine r_u64 (by omega) ?_ | refine r_i32 (by omega) ?_ | refine r_u32 (by omega) ?_ | refine r_rem (by omega) ?_ | refine r_quo (by omega) ?_ | refine r_ldb (by assumption) (by rfl) ?_ | refine r_ldbE (by assumption) (by rfl) ?_))); (conv => whnf)
            refine r_held (((hx1B.wide _).trans hc2B).ext hx3B) ?_
            (repeat ((conv => whnf); (first | with_reducible refine r_tt ?_ | with_reducible refine r_ff ?_ | with_reducible refine r_ntt ?_ | with_reducible refine r_nff ?_ | refine r_need (by omega) ?_ | refine r_i64 (by omega) ?_ | refine r_dect (by omega) ?_ | refine r_decf (by omega) ?_ | refine r_eqt (by omega) ?_ | refine r_eqf (by omega) ?_ | refine r_net (by omega) ?_ | refine r_nef (by omega) ?_ | refine r_u8 (by omega) ?_ | refine r_u64 (by omega) ?_ | refine r_i32 (by omega) ?_ | refine r_u32 (by omega) ?_ | refine r_rem (by omega) ?_ | refine r_quo (by omega) ?_ | refine r_ldb (by assumption) (by rfl) ?_ | refine r_ldbE (by assumption) (by rfl) ?_))); (conv => whnf)
            refine r_stn hblk3B (by simp [wCells]) (w_one _ _ _ _ _ _ _) fun w4B hc4B hs4B hblk4B => ?_
            have hblk4B : Blk w4B bnB 60 (wCells x1B m1B y1B x2B m2B y2B sB) := hblk4B
            have hx24B : Ext w2B w4B := Chg.step hx3B hc4B fun k hk hlt => by omega
            have hp4B := hp2B.ext' hx24B
            have hq4B := hq2B.ext' hx24B
            have hm4B := (hm1B.keep hc2B hnmB).ext hx24B
            have hn4B := (hn1B.keep hc2B hnnB).ext hx24B
            (repeat ((conv => whnf); (first | with_reducible refine r_tt ?_ | with_reducible refine r_ff ?_ | with_reducible refine r_ntt ?_ | with_reducible refine r_nff ?_ | refine r_need (by omega) ?_ | refine r_i64 (by omega) ?_ | refine r_dect (by omega) ?_ | refine r_decf (by omega) ?_ | refine r_eqt (by omega) ?_ | refine r_eqf (by omega) ?_ | refine r_net (by omega) ?_ | refine r_nef (by omega) ?_ | refine r_u8 (by omega) ?_ | refine r_u64 (by omega) ?_ | refine r_i32 (by omega) ?_ | refine r_u32 (by omega) ?_ | refine r_rem (by omega) ?_ | refine r_quo (by omega) ?_ | refine r_ldb (by assumption) (by rfl) ?_ | refine r_ldbE (by assumption) (by rfl) ?_))); (conv => whnf)
          rotate_left
          focus
            (repeat ((conv => whnf); (first | with_reducible refine r_tt ?_ | with_reducible refine r_ff ?_ | with_reducible refine r_ntt ?_ | with_reducible refine r_nff ?_ | refine r_need (by omega) ?_ | refine r_i64 (by omega) ?_ | refine r_dect (by omega) ?_ | refine r_decf (by omega) ?_ | refine r_eqt (by omega) ?_ | refine r_eqf (by omega) ?_ | refine r_net (by omega) ?_ | refine r_nef (by omega) ?_ | refine r_u8 (by omega) ?_ | refine r_u64 (by omega) ?_ | refine r_i32 (by omega) ?_ | refine r_u32 (by omega) ?_ | refine r_rem (by omega) ?_ | refine r_quo (by omega) ?_ | refine r_ldb (by assumption) (by rfl) ?_ | refine r_ldbE (by assumption) (by rfl) ?_))); (conv => whnf)
            refine r_new fun bnB w2B hx2B hb2B hs2B hblk2B => ?_
            have hl2B := hblk2B.lt
            (repeat ((conv => whnf); (first | with_reducible refine r_tt ?_ | with_reducible refine r_ff ?_ | with_reducible refine r_ntt ?_ | with_reducible refine r_nff ?_ | refine r_need (by omega) ?_ | refine r_i64 (by omega) ?_ | refine r_dect (by omega) ?_ | refine r_decf (by omega) ?_ | refine r_eqt (by omega) ?_ | refine r_eqf (by omega) ?_ | refine r_net (by omega) ?_ | refine r_nef (by omega) ?_ | refine r_u8 (by omega) ?_ | refine r_u64 (by omega) ?_ | refine r_i32 (by omega) ?_ | refine r_u32 (by omega) ?_ | refine r_rem (by omega) ?_ | refine r_quo (by omega) ?_ | refine r_ldb (by assumption) (by rfl) ?_ | refine r_ldbE (by assumption) (by rfl) ?_))); (conv => whnf)
            refine r_held ((hx1B.trans hx2B).wide _) ?_
            (repeat ((conv => whnf); (first | with_reducible refine r_tt ?_ | with_reducible refine r_ff ?_ | with_reducible refine r_ntt ?_ | with_reducible refine r_nff ?_ | refine r_need (by omega) ?_ | refine r_i64 (by omega) ?_ | refine r_dect (by omega) ?_ | refine r_decf (by omega) ?_ | refine r_eqt (by omega) ?_ | refine r_eqf (by omega) ?_ | refine r_net (by omega) ?_ | refine r_nef (by omega) ?_ | refine r_u8 (by omega) ?_ | refine r_u64 (by omega) ?_ | refine r_i32 (by omega) ?_ | refine r_u32 (by omega) ?_ | refine r_rem (by omega) ?_ | refine r_quo (by omega) ?_ | refine r_ldb (by assumption) (by rfl) ?_ | refine r_ldbE (by assumption) (by rfl) ?_))); (conv => whnf)
            have hpxB := hp1B.ext' hx2B
            refine r_cal (does_ok hpxB.win hpxB.isw hpxB.zok hpxB.off' (by omega) oB.kd oB.x oB.y hobB) ?_
            rintro _ w3B hdB
            obtain ⟨gB, x1B, m1B, y1B, x2B, m2B, y2B, rB, rfl, hrB, hc3B, hallB⟩ := hp1B.done3 hq1B ht2A.symm (by omega) hobB hx2B hb2B hl2B hdB
            have hrB : rB = true := hrB.2 rfl
            subst hrB
            generalize (St.step s2 oB.kd oB.x oB.y).1 = sB at hallB
            have hnbB : ¬ WS wb2 eb2 b2 g2 bnB := fun e => by have := (hp1B.old (.inl e)).1; omega
            (repeat ((conv => whnf); (first | with_reducible refine r_tt ?_ | with_reducible refine r_ff ?_ | with_reducible refine r_ntt ?_ | with_reducible refine r_nff ?_ | refine r_need (by omega) ?_ | refine r_i64 (by omega) ?_ | refine r_dect (by omega) ?_ | refine r_decf (by omega) ?_ | refine r_eqt (by omega) ?_ | refine r_eqf (by omega) ?_ | refine r_net (by omega) ?_ | refine r_nef (by omega) ?_ | refine r_u8 (by omega) ?_ | refine r_u64 (by omega) ?_ | refine r_i32 (by omega) ?_ | refine r_u32 (by omega) ?_ | refine r_rem (by omega) ?_ | refine r_quo (by omega) ?_ | refine r_ldb (by assumption) (by rfl) ?_ | refine r_ldbE (by assumption) (by rfl) ?_))); (conv => whnf)
            refine r_stn (hblk2B.keep hc3B hnbB) (by simp [wCells]) (w_one _ _ _ _ _ _ _) fun w4B hc4B hs4B hblk4B => ?_
            have hblk4B : Blk w4B bnB 60 (wCells x1B m1B y1B x2B m2B y2B sB) := hblk4B
            obtain ⟨hp4B, hq4B, ht2B⟩ := hallB _ hc4B
            have hm4B := (((hm1B.ext hx2B).keep hc3B hnmB).keep hc4B (fun e => by have := hm1B.lt; omega))
            have hn4B := (((hn1B.ext hx2B).keep hc3B hnnB).keep hc4B (fun e => by have := hn1B.lt; omega))
            (repeat ((conv => whnf); (first | with_reducible refine r_tt ?_ | with_reducible refine r_ff ?_ | with_reducible refine r_ntt ?_ | with_reducible refine r_nff ?_ | refine r_need (by omega) ?_ | refine r_i64 (by omega) ?_ | refine r_dect (by omega) ?_ | refine r_decf (by omega) ?_ | refine r_eqt (by omega) ?_ | refine r_eqf (by omega) ?_ | refine r_net (by omega) ?_ | refine r_nef (by omega) ?_ | refine r_u8 (by omega) ?_ | refine r_u64 (by omega) ?_ | refine r_i32 (by omega) ?_ | refine r_u32 (by omega) ?_ | refine r_rem (by omega) ?_ | refine r_quo (by omega) ?_ | refine r_ldb (by assumption) (by rfl) ?_ | refine r_ldbE (by assumption) (by rfl) ?_))); (conv => whnf)
          all_goals
            refine r_ldnb (vs := wCells x1B m1B y1B x2B m2B y2B sB) hblk4B rfl rfl ?_
            (repeat ((conv => whnf); (first | with_reducible refine r_tt ?_ | with_reducible refine r_ff ?_ | with_reducible refine r_ntt ?_ | with_reducible refine r_nff ?_ | refine r_need (by omega) ?_ | refine r_i64 (by omega) ?_ | refine r_dect (by omega) ?_ | refine r_decf (by omega) ?_ | refine r_eqt (by omega) ?_ | refine r_eqf (by omega) ?_ | refine r_net (by omega) ?_ | refine r_nef (by omega) ?_ | refine r_u8 (by omega) ?_ | refine r_u64 (by omega) ?_ | refine r_i32 (by omega) ?_ | refine r_u32 (by omega) ?_ | refine r_rem (by omega) ?_ | refine r_quo (by omega) ?_ | refine r_ldb (by assumption) (by rfl) ?_ | refine r_ldbE (by assumption) (by rfl) ?_))); (conv => whnf)
            refine r_stn hm4B (by simp [wCells]) (w_one _ _ _ _ _ _ _) fun w5B hc5B hs5B hm5B => ?_
            have hm5B : Blk w5B mv2 60 (wCells x1B m1B y1B x2B m2B y2B sB) := hm5B
            have hp5B := hp4B.var hc5B
            have hq5B := hq4B.var2 ht2B hc5B hp4B.nm
            have hn5B := hn4B.keep hc5B (fun e => ht2B.d _ (.inr e) (.inr rfl))
          all_goals
            (repeat ((conv => whnf); (first | with_reducible refine r_tt ?_ | with_reducible refine r_ff ?_ | with_reducible refine r_ntt ?_ | with_reducible refine r_nff ?_ | refine r_need (by omega) ?_ | refine r_i64 (by omega) ?_ | refine r_dect (by omega) ?_ | refine r_decf (by omega) ?_ | refine r_eqt (by omega) ?_ | refine r_eqf (by omega) ?_ | refine r_net (by omega) ?_ | refine r_nef (by omega) ?_ | refine r_u8 (by omega) ?_ | refine r_u64 (by omega) ?_ | refine r_i32 (by omega) ?_ | refine r_u32 (by omega) ?_ | refine r_rem (by omega) ?_ | refine r_quo (by omega) ?_ | refine r_ldb (by assumption) (by rfl) ?_ | refine r_ldbE (by assumption) (by rfl) ?_))); (conv => whnf)
            exact hagain (j + 1) _ ⟨by omega, _, _, _, _, _, _, _, _, _, _, _, _, _, _, _, _, hq5B.mono (by omega) (by omega), hp5B.mono (by omega) (by omega), ht2B.symm, hn5B, hm5B⟩ (by omega)
        (repeat ((conv => whnf); (first | with_reducible refine r_tt ?_ | with_reducible refine r_ff ?_ | with_reducible refine r_ntt ?_ | with_reducible refine r_nff ?_ | refine r_need (by omega) ?_ | refine r_i64 (by omega) ?_ | refine r_dect (by omega) ?_ | refine r_decf (by omega) ?_ | refine r_eqt (by omega) ?_ | refine r_eqf (by omega) ?_ | refine r_net (by omega) ?_ | refine r_nef (by omega) ?_ | refine r_u8 (by omega) ?_ | refine r_u64 (by omega) ?_ | refine r_i32 (by omega) ?_ | refine r_u32 (by omega) ?_ | refine r_rem (by omega) ?_ | refine r_quo (by omega) ?_ | refine r_ldb (by assumption) (by rfl) ?_ | refine r_ldbE (by assumption) (by rfl) ?_))); (conv => whnf)
        exact hagain (j + 1) _ ⟨by omega, _, _, _, _, _, _, _, _, _, _, _, _, _, _, _, _, hp5A.mono (by omega) (by omega), hq5A.mono (by omega) (by omega), ht2A, hm5A, hn5A⟩ (by omega)
    by_cases hB : j < len3
    focus
      obtain ⟨oB, hoB, holB, hobB⟩ := hos3.get hB
      have hplB := hos3.plain (by omega)
      have hnmB : ¬ WS wb2 eb2 b2 g2 mv2 := hq.mb
      have hnvB : 0 < ((os3.map OpW.cells).flatten).length → ¬ WS wb2 eb2 b2 g2 (blk aa3) := fun h0 e => by
        have := hos3.view.lt h0; have := hq.new _ e; omega
      (repeat ((conv => whnf); (first | with_reducible refine r_tt ?_ | with_reducible refine r_ff ?_ | with_reducible refine r_ntt ?_ | with_reducible refine r_nff ?_ | refine r_need (by omega) ?_ | refine r_i64 (by omega) ?_ | refine r_dect (by omega) ?_ | refine r_decf (by omega) ?_ | refine r_eqt (by omega) ?_ | refine r_eqf (by omega) ?_ | refine r_net (by omega) ?_ | refine r_nef (by omega) ?_ | refine r_u8 (by omega) ?_ | refine r_u64 (by omega) ?_ | refine r_i32 (by omega) ?_ | refine r_u32 (by omega) ?_ | refine r_rem (by omega) ?_ | refine r_quo (by omega) ?_ | refine r_ldb (by assumption) (by rfl) ?_ | refine r_ldbE (by assumption) (by rfl) ?_))); (conv => whnf)
      refine r_drawS (WS wb2 eb2 b2 g2) fun w1B hx1B hh1B => ?_
      (repeat ((conv => whnf); (first | refine r_ldnbT (vs := wCells d1 k1 e1 d2 k2 e2 s2) hm2 rfl rfl hnmB ?_ | refine r_ldnvT (j := (j : Int).toNat * 3) (hos3.view.ext hq.ext) (by simpa using hoB) holB hnvB ?_ | with_reducible refine r_tt ?_ | with_reducible refine r_ff ?_ | with_reducible refine r_ntt ?_ | with_reducible refine r_nff ?_ | refine r_need (by omega) ?_ | refine r_i64 (by omega) ?_ | refine r_dect (by omega) ?_ | refine r_decf (by omega) ?_ | refine r_eqt (by omega) ?_ | refine r_eqf (by omega) ?_ | refine r_net (by omega) ?_ | refine r_nef (by omega) ?_ | refine r_u8 (by omega) ?_ | refine r_u64 (by omega) ?_ | refine r_i32 (by omega) ?_ | refine r_u32 (by omega) ?_ | refine r_rem (by omega) ?_ | refine r_quo (by omega) ?_ | refine r_ldb (by assumption) (by rfl) ?_ | refine r_ldbE (by assumption) (by rfl) ?_))); (conv => whnf)
      have hp1B := hq.ext' hx1B
      have hq1B := hp.ext' hx1B
      have hm1B := hm2.ext hx1B
      have hn1B := hm.ext hx1B
      have hnnB : ¬ WS wb2 eb2 b2 g2 mv := fun e => ht.symm.d _ (.inl e) (.inr rfl)
      refine r_both ?_ ?_
      focus
        (repeat ((conv => whnf); (first | with_reducible refine r_tt ?_ | with_reducible refine r_ff ?_ | with_reducible refine r_ntt ?_ | with_reducible refine r_nff ?_ | refine r_need (by omega) ?_ | refine r_i64 (by omega) ?_ | refine r_dect (by omega) ?_ | refine r_decf (by omega) ?_ | refine r_eqt (by omega) ?_ | refine r_eqf (by omega) ?_ | refine r_net (by omega) ?_ | refine r_nef (by omega) ?_ | refine r_u8 (by omega) ?_ | refine r_u64 (by omega) ?_ | refine r_i32 (by omega) ?_ | refine r_u32 (by omega) ?_ | refine r_rem (by omega) ?_ | refine r_quo (by omega) ?_ | refine r_ldb (by assumption) (by rfl) ?_ | refine r_ldbE (by assumption) (by rfl) ?_))); (conv => whnf)
        refine r_cal (does_ok hp1B.win hp1B.isw hp1B.zok hp1B.off' (by omega) oB.kd oB.x oB.y hobB) ?_
        rintro _ w2B hdB
        obtain ⟨gB, x1B, m1B, y1B, x2B, m2B, y2B, rB, rfl, hrB, hp2B, hq2B, ht2B, hc2B, -, -⟩ := hp1B.done2 hq1B ht.symm (by omega) hobB hdB
        have hrB : rB = true := hrB.2 rfl
        subst hrB
        generalize (St.step s2 oB.kd oB.x oB.y).1 = sB at hp2B
        (repeat ((conv => whnf); (first | with_reducible refine r_tt ?_ | with_reducible refine r_ff ?_ | with_reducible refine r_ntt ?_ | with_reducible refine r_nff ?_ | refine r_need (by omega) ?_ | refine r_i64 (by omega) ?_ | refine r_dect (by omega) ?_ | refine r_decf (by omega) ?_ | refine r_eqt (by omega) ?_ | refine r_eqf (by omega) ?_ | refine r_net (by omega) ?_ | refine r_nef (by omega) ?_ | refine r_u8 (by omega) ?_ | refine r_u64 (by omega) ?_ | refine r_i32 (by omega) ?_ | refine r_u32 (by omega) ?_ | refine r_rem (by omega) ?_ | refine r_quo (by omega) ?_ | refine r_ldb (by assumption) (by rfl) ?_ | refine r_ldbE (by assumption) (by rfl) ?_))); (conv => whnf)
        refine r_new fun bnB w3B hx3B hb3B hs3B hblk3B => ?_
        (repeat ((conv => whnf); (first | with_reducible refine r_tt ?_ | with_reducible refine r_ff ?_ | with_reducible refine r_ntt ?_ | with_reducible refine r_nff ?_ | refine r_need (by omega) ?_ | refine r_i64 (by omega) ?_ | refine r_dect (by omega) ?_ | refine r_decf (by omega) ?_ | refine r_eqt (by omega) ?_ | refine r_eqf (by omega) ?_ | refine r_net (by omega) ?_ | refine r_nef (by omega) ?_ | refine r_u8 (by omega) ?_ | refine r_u64 (by omega) ?_ | refine r_i32 (by omega) ?_ | refine r_u32 (by omega) ?_ | refine r_rem (by omega) ?_ | refine r_quo (by omega) ?_ | refine r_ldb (by assumption) (by rfl) ?_ | refine r_ldbE (by assumption) (by rfl) ?_))); (conv => whnf)
        refine r_held (((hx1B.wide _).trans hc2B).ext hx3B) ?_
        (repeat ((conv => whnf); (first | with_reducible refine r_tt ?_ | with_reducible refine r_ff ?_ | with_reducible refine r_ntt ?_ | with_reducible refine r_nff ?_ | refine r_need (by omega) ?_ | refine r_i64 (by omega) ?_ | refine r_dect (by omega) ?_ | refine r_decf (by omega) ?_ | refine r_eqt (by omega) ?_ | refine r_eqf (by omega) ?_ | refine r_net (by omega) ?_ | refine r_nef (by omega) ?_ | refine r_u8 (by omega) ?_ | refine r_u64 (by omega) ?_ | refine r_i32 (by omega) ?_ | refine r_u32 (by omega) ?_ | refine r_rem (by omega) ?_ | refine r_quo (by omega) ?_ | refine r_ldb (by assumption) (by rfl) ?_ | refine r_ldbE (by assumption) (by rfl) ?_))); (conv => whnf)
        refine r_stn hblk3B (by simp [wCells]) (w_one _ _ _ _ _ _ _) fun w4B hc4B hs4B hblk4B => ?_
        have hblk4B : Blk w4B bnB 60 (wCells x1B m1B y1B x2B m2B y2B sB) := hblk4B
        have hx24B : Ext w2B w4B := Chg.step hx3B hc4B fun k hk hlt => by omega
        have hp4B := hp2B.ext' hx24B
        have hq4B := hq2B.ext' hx24B
        have hm4B := (hm1B.keep hc2B hnmB).ext hx24B
        have hn4B := (hn1B.keep hc2B hnnB).ext hx24B
        (repeat ((conv => whnf); (first | with_reducible refine r_tt ?_ | with_reducible refine r_ff ?_ | with_reducible refine r_ntt ?_ | with_reducible refine r_nff ?_ | refine r_need (by omega) ?_ | refine r_i64 (by omega) ?_ | refine r_dect (by omega) ?_ | refine r_decf (by omega) ?_ | refine r_eqt (by omega) ?_ | refine r_eqf (by omega) ?_ | refine r_net (by omega) ?_ | refine r_nef (by omega) ?_ | refine r_u8 (by omega) ?_ | refine r_u64 (by omega) ?_ | refine r_i32 (by omega) ?_ | refine r_u32 (by omega) ?_ | refine r_rem (by omega) ?_ | refine r_quo (by omega) ?_ | refine r_ldb (by assumption) (by rfl) ?_ | refine r_ldbE (by assumption) (by rfl) ?_))); (conv => whnf)
      rotate_left
      focus
        (repeat ((conv => whnf); (first | with_reducible refine r_tt ?_ | with_reducible refine r_ff ?_ | with_reducible refine r_ntt ?_ | with_reducible refine r_nff ?_ | refine r_need (by omega) ?_ | refine r_i64 (by omega) ?_ | refine r_dect (by omega) ?_ | refine r_decf (by omega) ?_ | refine r_eqt (by omega) ?_ | refine r_eqf (by omega) ?_ | refine r_net (by omega) ?_ | refine r_nef (by omega) ?_ | refine r_u8 (by omega) ?_ | refine r_u64 (by omega) ?_ | refine r_i32 (by omega) ?_ | refine r_u32 (by omega) ?_ | refine r_rem (by omega) ?_ | refine r_quo (by omega) ?_ | refine r_ldb (by assumption) (by rfl) ?_ | refine r_ldbE (by assumption) (by rfl) ?_))); (conv => whnf)
        refine r_new fun bnB w2B hx2B hb2B hs2B hblk2B => ?_
        have hl2B := hblk2B.lt
        (repeat ((conv => whnf); (first | with_reducible refine r_tt ?_ | with_reducible refine r_ff ?_ | with_reducible refine r_ntt ?_ | with_reducible refine r_nff ?_ | refine r_need (by omega) ?_ | refine r_i64 (by omega) ?_ | refine r_dect (by omega) ?_ | refine r_decf (by omega) ?_ | refine r_eqt (by omega) ?_ | refine r_eqf (by omega) ?_ | refine r_net (by omega) ?_ | refine r_nef (by omega) ?_ | refine r_u8 (by omega) ?_ | refine r_u64 (by omega) ?_ | refine r_i32 (by omega) ?_ | refine r_u32 (by omega) ?_ | refine r_rem (by omega) ?_ | refine r_quo (by omega) ?_ | refine r_ldb (by assumption) (by rfl) ?_ | refine r_ldbE (by assumption) (by rfl) ?_))); (conv => whnf)
        refine r_held ((hx1B.trans hx2B).wide _) ?_
        (repeat ((conv => whnf); (first | with_reducible refine r_tt ?_ | with_reducible refine r_ff ?_ | with_reducible refine r_ntt ?_ | with_reducible refine r_nff ?_ | refine r_need (by omega) ?_ | refine r_i64 (by omega) ?_ | refine r_dect (by omega) ?_ | refine r_decf (by omega) ?_ | refine r_eqt (by omega) ?_ | refine r_eqf (by omega) ?_ | refine r_net (by omega) ?_ | refine r_nef (by omega) ?_ | refine r_u8 (by omega) ?_ | refine r_u64 (by omega) ?_ | refine r_i32 (by omega) ?_ | refine r_u32 (by omega) ?_ | refine r_rem (by omega) ?_ | refine r_quo (by omega) ?_ | refine r_ldb (by assumption) (by rfl) ?_ | refine r_ldbE (by assumption) (by rfl) ?_))); (conv => whnf)
        have hpxB := hp1B.ext' hx2B
        refine r_cal (does_ok hpxB.win hpxB.isw hpxB.zok hpxB.off' (by omega) oB.kd oB.x oB.y hobB) ?_
        rintro _ w3B hdB
        obtain ⟨gB, x1B, m1B, y1B, x2B, m2B, y2B, rB, rfl, hrB, hc3B, hallB⟩ := hp1B.done3 hq1B ht.symm (by omega) hobB hx2B hb2B hl2B hdB
        have hrB : rB = true := hrB.2 rfl
        subst hrB
        generalize (St.step s2 oB.kd oB.x oB.y).1 = sB at hallB
        have hnbB : ¬ WS wb2 eb2 b2 g2 bnB := fun e => by have := (hp1B.old (.inl e)).1; omega
        (repeat ((conv => whnf); (first | with_reducible refine r_tt ?_ | with_reducible refine r_ff ?_ | with_reducible refine r_ntt ?_ | with_reducible refine r_nff ?_ | refine r_need (by omega) ?_ | refine r_i64 (by omega) ?_ | refine r_dect (by omega) ?_ | refine r_decf (by omega) ?_ | refine r_eqt (by omega) ?_ | refine r_eqf (by omega) ?_ | refine r_net (by omega) ?_ | refine r_nef (by omega) ?_ | refine r_u8 (by omega) ?_ | refine r_u64 (by omega) ?_ | refine r_i32 (by omega) ?_ | refine r_u32 (by omega) ?_ | refine r_rem (by omega) ?_ | refine r_quo (by omega) ?_ | refine r_ldb (by assumption) (by rfl) ?_ | refine r_ldbE (by assumption) (by rfl) ?_))); (conv => whnf)
        refine r_stn (hblk2B.keep hc3B hnbB) (by simp [wCells]) (w_one _ _ _ _ _ _ _) fun w4B hc4B hs4B hblk4B => ?_
        have hblk4B : Blk w4B bnB 60 (wCells x1B m1B y1B x2B m2B y2B sB) := hblk4B
        obtain ⟨hp4B, hq4B, ht2B⟩ := hallB _ hc4B
        have hm4B := (((hm1B.ext hx2B).keep hc3B hnmB).keep hc4B (fun e => by have := hm1B.lt; omega))
        have hn4B := (((hn1B.ext hx2B).keep hc3B hnnB).keep hc4B (fun e => by have := hn1B.lt; omega))
        (repeat ((conv => whnf); (first | with_reducible refine r_tt ?_ | with_reducible refine r_ff ?_ | with_reducible refine r_ntt ?_ | with_reducible refine r_nff ?_ | refine r_need (by omega) ?_ | refine r_i64 (by omega) ?_ | refine r_dect (by omega) ?_ | refine r_decf (by omega) ?_ | refine r_eqt (by omega) ?_ | refine r_eqf (by omega) ?_ | refine r_net (by omega) ?_ | refine r_nef (by omega) ?_ | refine r_u8 (by omega) ?_ | refine r_u64 (by omega) ?_ | refine r_i32 (by omega) ?_ | refine r_u32 (by omega) ?_ | refine r_rem (by omega) ?_ | refine r_quo (by omega) ?_ | refine r_ldb (by assumption) (by rfl) ?_ | refine r_ldbE (by assumption) (by rfl) ?_))); (conv => whnf)
      all_goals
        refine r_ldnb (vs := wCells x1B m1B y1B x2B m2B y2B sB) hblk4B rfl rfl ?_
        (repeat ((conv => whnf); (first | with_reducible refine r_tt ?_ | with_reducible refine r_ff ?_ | with_reducible refine r_ntt ?_ | with_reducible refine r_nff ?_ | refine r_need (by omega) ?_ | refine r_i64 (by omega) ?_ | refine r_dect (by omega) ?_ | refine r_decf (by omega) ?_ | refine r_eqt (by omega) ?_ | refine r_eqf (by omega) ?_ | refine r_net (by omega) ?_ | refine r_nef (by omega) ?_ | refine r_u8 (by omega) ?_ | refine r_u64 (by omega) ?_ | refine r_i32 (by omega) ?_ | refine r_u32 (by omega) ?_ | refine r_rem (by omega) ?_ | refine r_quo (by omega) ?_ | refine r_ldb (by assumption) (by rfl) ?_ | refine r_ldbE (by assumption) (by rfl) ?_))); (conv => whnf)
        refine r_stn hm4B (by simp [wCells]) (w_one _ _ _ _ _ _ _) fun w5B hc5B hs5B hm5B => ?_
        have hm5B : Blk w5B mv2 60 (wCells x1B m1B y1B x2B m2B y2B sB) := hm5B
        have hp5B := hp4B.var hc5B
        have hq5B := hq4B.var2 ht2B hc5B hp4B.nm
        have hn5B := hn4B.keep hc5B (fun e => ht2B.d _ (.inr e) (.inr rfl))
      all_goals
        (repeat ((conv => whnf); (first | with_reducible refine r_tt ?_ | with_reducible refine r_ff ?_ | with_reducible refine r_ntt ?_ | with_reducible refine r_nff ?_ | refine r_need (by omega) ?_ | refine r_i64 (by omega) ?_ | refine r_dect (by omega) ?_ | refine r_decf (by omega) ?_ | refine r_eqt (by omega) ?_ | refine r_eqf (by omega) ?_ | refine r_net (by omega) ?_ | refine r_nef (by omega) ?_ | refine r_u8 (by omega) ?_ | refine r_u64 (by omega) ?_ | refine r_i32 (by omega) ?_ | refine r_u32 (by omega) ?_ | refine r_rem (by omega) ?_ | refine r_quo (by omega) ?_ | refine r_ldb (by assumption) (by rfl) ?_ | refine r_ldbE (by assumption) (by rfl) ?_))); (conv => whnf)
        exact hagain (j + 1) _ ⟨by omega, _, _, _, _, _, _, _, _, _, _, _, _, _, _, _, _, hq5B.mono (by omega) (by omega), hp5B.mono (by omega) (by omega), ht2B.symm, hn5B, hm5B⟩ (by omega)
    clear hagain
    (repeat ((conv => whnf); (first | with_reducible refine r_tt ?_ | with_reducible refine r_ff ?_ | with_reducible refine r_ntt ?_ | with_reducible refine r_nff ?_ | refine r_need (by omega) ?_ | refine r_i64 (by omega) ?_ | refine r_dect (by omega) ?_ | refine r_decf (by omega) ?_ | refine r_eqt (by omega) ?_ | refine r_eqf (by omega) ?_ | refine r_net (by omega) ?_ | refine r_nef (by omega) ?_ | refine r_u8 (by omega) ?_ | refine r_u64 (by omega) ?_ | refine r_i32 (by omega) ?_ | refine r_u32 (by omega) ?_ | refine r_rem (by omega) ?_ | refine r_quo (by omega) ?_ | refine r_ldb (by assumption) (by rfl) ?_ | refine r_ldbE (by assumption) (by rfl) ?_))); (conv => whnf)
    refine r_cal (fixed_ok _) ?_
    rintro _ w12 ⟨hx12, rfl⟩
    (repeat ((conv => whnf); (first | with_reducible refine r_tt ?_ | with_reducible refine r_ff ?_ | with_reducible refine r_ntt ?_ | with_reducible refine r_nff ?_ | refine r_need (by omega) ?_ | refine r_i64 (by omega) ?_ | refine r_dect (by omega) ?_ | refine r_decf (by omega) ?_ | refine r_eqt (by omega) ?_ | refine r_eqf (by omega) ?_ | refine r_net (by omega) ?_ | refine r_nef (by omega) ?_ | refine r_u8 (by omega) ?_ | refine r_u64 (by omega) ?_ | refine r_i32 (by omega) ?_ | refine r_u32 (by omega) ?_ | refine r_rem (by omega) ?_ | refine r_quo (by omega) ?_ | refine r_ldb (by assumption) (by rfl) ?_ | refine r_ldbE (by assumption) (by rfl) ?_))); (conv => whnf)
    refine r_ldnb (vs := wCells a1 l1 c1 a2 l2 c2 s) (hm.ext hx12) rfl rfl ?_
    (repeat ((conv => whnf); (first | with_reducible refine r_tt ?_ | with_reducible refine r_ff ?_ | with_reducible refine r_ntt ?_ | with_reducible refine r_nff ?_ | refine r_need (by omega) ?_ | refine r_i64 (by omega) ?_ | refine r_dect (by omega) ?_ | refine r_decf (by omega) ?_ | refine r_eqt (by omega) ?_ | refine r_eqf (by omega) ?_ | refine r_net (by omega) ?_ | refine r_nef (by omega) ?_ | refine r_u8 (by omega) ?_ | refine r_u64 (by omega) ?_ | refine r_i32 (by omega) ?_ | refine r_u32 (by omega) ?_ | refine r_rem (by omega) ?_ | refine r_quo (by omega) ?_ | refine r_ldb (by assumption) (by rfl) ?_ | refine r_ldbE (by assumption) (by rfl) ?_))); (conv => whnf)
    refine r_cal (is_ok (hp.ext' hx12).win (hp.ext' hx12).isw) ?_
    rintro _ w13 ⟨hx13, rfl⟩
    have hy := hx12.trans hx13
    (repeat ((conv => whnf); (first | with_reducible refine r_tt ?_ | with_reducible refine r_ff ?_ | with_reducible refine r_ntt ?_ | with_reducible refine r_nff ?_ | refine r_need (by omega) ?_ | refine r_i64 (by omega) ?_ | refine r_dect (by omega) ?_ | refine r_decf (by omega) ?_ | refine r_eqt (by omega) ?_ | refine r_eqf (by omega) ?_ | refine r_net (by omega) ?_ | refine r_nef (by omega) ?_ | refine r_u8 (by omega) ?_ | refine r_u64 (by omega) ?_ | refine r_i32 (by omega) ?_ | refine r_u32 (by omega) ?_ | refine r_rem (by omega) ?_ | refine r_quo (by omega) ?_ | refine r_ldb (by assumption) (by rfl) ?_ | refine r_ldbE (by assumption) (by rfl) ?_))); (conv => whnf)
    refine r_ldnb (vs := wCells d1 k1 e1 d2 k2 e2 s2) (hm2.ext hy) rfl rfl ?_
    (repeat ((conv => whnf); (first | with_reducible refine r_tt ?_ | with_reducible refine r_ff ?_ | with_reducible refine r_ntt ?_ | with_reducible refine r_nff ?_ | refine r_need (by omega) ?_ | refine r_i64 (by omega) ?_ | refine r_dect (by omega) ?_ | refine r_decf (by omega) ?_ | refine r_eqt (by omega) ?_ | refine r_eqf (by omega) ?_ | refine r_net (by omega) ?_ | refine r_nef (by omega) ?_ | refine r_u8 (by omega) ?_ | refine r_u64 (by omega) ?_ | refine r_i32 (by omega) ?_ | refine r_u32 (by omega) ?_ | refine r_rem (by omega) ?_ | refine r_quo (by omega) ?_ | refine r_ldb (by assumption) (by rfl) ?_ | refine r_ldbE (by assumption) (by rfl) ?_))); (conv => whnf)
    refine r_cal (is_ok (hq.ext' hy).win (hq.ext' hy).isw) ?_
    rintro _ w14 ⟨hx14, rfl⟩
    (repeat ((conv => whnf); (first | with_reducible refine r_tt ?_ | with_reducible refine r_ff ?_ | with_reducible refine r_ntt ?_ | with_reducible refine r_nff ?_ | refine r_need (by omega) ?_ | refine r_i64 (by omega) ?_ | refine r_dect (by omega) ?_ | refine r_decf (by omega) ?_ | refine r_eqt (by omega) ?_ | refine r_eqf (by omega) ?_ | refine r_net (by omega) ?_ | refine r_nef (by omega) ?_ | refine r_u8 (by omega) ?_ | refine r_u64 (by omega) ?_ | refine r_i32 (by omega) ?_ | refine r_u32 (by omega) ?_ | refine r_rem (by omega) ?_ | refine r_quo (by omega) ?_ | refine r_ldb (by assumption) (by rfl) ?_ | refine r_ldbE (by assumption) (by rfl) ?_))); (conv => whnf)
    exact ⟨rfl, hp.ext.trans (hy.trans hx14)⟩
end Fb.Try.WN
