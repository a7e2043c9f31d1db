/-
  Walks: a window and the document's view are told an operation.
-/
import Derived.Test.YtoiiohogalmobaaWf
import Derived.Test.YtoiiohogalmobaaWh
namespace Fb
open Go Go.Proofs
theorem r_ldnbT {S : Nat → Prop} {w : World} {b o n : Nat} {e : TypeId} {cs vs : List Value} {K : Value → Prop} (h : Blk w b e cs) (hv : (cs.drop o).take n = vs) (hl : vs.length = n) (hs : ¬ S b) (k : K (.agg ⟨vs⟩)) : LoadN ⟨b, o, none⟩ n (Chg S w) K := r_ldnbS' h hv hl hs k
end Fb
namespace Fb.Try.WN
open Go Go.Proofs Fb Fb.Try.RW
def WD (wb eb b : Nat) (g : Option Nat) (c : Nat) : Nat → Prop := fun k => WS wb eb b g k ∨ k = c
def DoneW (w : World) (wb eb b : Nat) (g : Option Nat) (n : Nat) (r1 r2 : St × Int) (a1 : Option Addr) (l1 : Nat) (a2 : Option Addr) (l2 : Nat) (v : Value) (w' : World) : Prop :=
  ∃ g' b1 m1 d1 b2 m2 d2 r, v = .tuple ⟨[.agg ⟨wCells b1 m1 d1 b2 m2 d2 r2.1⟩, .bool r]⟩ ∧ (r = true ↔ r1.2 = r2.2) ∧ Win w' wb eb b g' r1.1 (n + 1) ∧ IsW w' r2.1 b1 m1 d1 b2 m2 d2 ∧ RW.Arr w g g' ∧ Chg (WS wb eb b g) w w' ∧ Sub w a1 l1 a2 l2 b1 m1 b2 m2 ∧ WOff (WS wb eb b g') b1 m1 b2 m2
section
variable {w w' : World} {wb eb b : Nat} {g : Option Nat} {s z : St} {n m : Nat} {a1 : Option Addr} {l1 c1 : Nat} {a2 : Option Addr} {l2 c2 : Nat}

set_option maxHeartbeats 1000000 in
set_option maxRecDepth 100000 in
theorem does0 (h : Win w wb eb b g s n) (hw : IsW w z a1 l1 c1 a2 l2 c2) (hz : z.Ok m) (ho : WOff (WS wb eb b g) a1 l1 a2 l2) (hn : n + 1 ≤ 1000) (x y : Int) (hx : -9223372036854775808 ≤ x ∧ x ≤ 9223372036854775807) :
    Cal Try.prog 34 ⟨[.pointer (some ⟨wb, 0, none⟩), .agg ⟨wCells a1 l1 c1 a2 l2 c2 z⟩, .agg ⟨[.int .u8 0, .int .i64 x, .int .i64 y]⟩]⟩ w (DoneW w wb eb b g n (s.push x y) (z.push x y) a1 l1 a2 l2) := by
  refine go34 (by rfl) ?_
  (repeat ((conv => whnf); (first | with_reducible refine r_tt ?_ | with_reducible refine r_ff ?_ | with_reducible refine r_ntt ?_ | with_reducible refine r_nff ?_ | refine r_need (by omega) ?_ | refine r_i64 (by omega) ?_ | refine r_dect (by omega) ?_ | refine r_decf (by omega) ?_ | refine r_eqt (by omega) ?_ | refine r_eqf (by omega) ?_ | refine r_net (by omega) ?_ | refine r_nef (by omega) ?_ | refine r_u8 (by omega) ?_ | refine r_u64 (by omega) ?_ | refine r_i32 (by omega) ?_ | refine r_u32 (by omega) ?_ | refine r_rem (by omega) ?_ | refine r_quo (by omega) ?_ | refine r_ldb (by assumption) (by rfl) ?_ | refine r_ldbE (by assumption) (by rfl) ?_))); (conv => whnf)
  refine r_new fun b4 w1 hx1 hb1 hs1 hblk4 => ?_
  (repeat ((conv => whnf); (first | with_reducible refine r_tt ?_ | with_reducible refine r_ff ?_ | with_reducible refine r_ntt ?_ | with_reducible refine r_nff ?_ | refine r_need (by omega) ?_ | refine r_i64 (by omega) ?_ | refine r_dect (by omega) ?_ | refine r_decf (by omega) ?_ | refine r_eqt (by omega) ?_ | refine r_eqf (by omega) ?_ | refine r_net (by omega) ?_ | refine r_nef (by omega) ?_ | refine r_u8 (by omega) ?_ | refine r_u64 (by omega) ?_ | refine r_i32 (by omega) ?_ | refine r_u32 (by omega) ?_ | refine r_rem (by omega) ?_ | refine r_quo (by omega) ?_ | refine r_ldb (by assumption) (by rfl) ?_ | refine r_ldbE (by assumption) (by rfl) ?_))); (conv => whnf)
  refine r_new fun b5 w2 hx2 hb2 hs2 hblk5 => ?_
  have hl52 := hblk5.lt
  (repeat ((conv => whnf); (first | with_reducible refine r_tt ?_ | with_reducible refine r_ff ?_ | with_reducible refine r_ntt ?_ | with_reducible refine r_nff ?_ | refine r_need (by omega) ?_ | refine r_i64 (by omega) ?_ | refine r_dect (by omega) ?_ | refine r_decf (by omega) ?_ | refine r_eqt (by omega) ?_ | refine r_eqf (by omega) ?_ | refine r_net (by omega) ?_ | refine r_nef (by omega) ?_ | refine r_u8 (by omega) ?_ | refine r_u64 (by omega) ?_ | refine r_i32 (by omega) ?_ | refine r_u32 (by omega) ?_ | refine r_rem (by omega) ?_ | refine r_quo (by omega) ?_ | refine r_ldb (by assumption) (by rfl) ?_ | refine r_ldbE (by assumption) (by rfl) ?_))); (conv => whnf)
  refine r_new fun b6 w3 hx3 hb3 hs3 hblk6 => ?_
  have hblk4 : Blk w3 b4 60 (wCells a1 l1 c1 a2 l2 c2 z) := (hblk4.ext hx2).ext hx3
  have hblk5 : Blk w3 b5 62 [.int .u8 0, .int .i64 x, .int .i64 y] := hblk5.ext hx3
  have hx03 := (hx1.trans hx2).trans hx3
  have hs03 := hx03.size
  have hs01 := hx1.size
  have hs02 := hx2.size
  have hl6 := hblk6.lt
  have h3 := h.ext hx03
  have hw3 := hw.ext hx03
  have hWS : ∀ k, WS wb eb b g k → k < w.heap.size := fun k hk => h.lt hk
  (repeat ((conv => whnf); (first | with_reducible refine r_tt ?_ | with_reducible refine r_ff ?_ | with_reducible refine r_ntt ?_ | with_reducible refine r_nff ?_ | refine r_need (by omega) ?_ | refine r_i64 (by omega) ?_ | refine r_dect (by omega) ?_ | refine r_decf (by omega) ?_ | refine r_eqt (by omega) ?_ | refine r_eqf (by omega) ?_ | refine r_net (by omega) ?_ | refine r_nef (by omega) ?_ | refine r_u8 (by omega) ?_ | refine r_u64 (by omega) ?_ | refine r_i32 (by omega) ?_ | refine r_u32 (by omega) ?_ | refine r_rem (by omega) ?_ | refine r_quo (by omega) ?_ | refine r_ldb (by assumption) (by rfl) ?_ | refine r_ldbE (by assumption) (by rfl) ?_))); (conv => whnf)
  refine r_ldnb (vs := wCells a1 l1 c1 a2 l2 c2 z) hblk4 rfl rfl ?_
  (repeat ((conv => whnf); (first | with_reducible refine r_tt ?_ | with_reducible refine r_ff ?_ | with_reducible refine r_ntt ?_ | with_reducible refine r_nff ?_ | refine r_need (by omega) ?_ | refine r_i64 (by omega) ?_ | refine r_dect (by omega) ?_ | refine r_decf (by omega) ?_ | refine r_eqt (by omega) ?_ | refine r_eqf (by omega) ?_ | refine r_net (by omega) ?_ | refine r_nef (by omega) ?_ | refine r_u8 (by omega) ?_ | refine r_u64 (by omega) ?_ | refine r_i32 (by omega) ?_ | refine r_u32 (by omega) ?_ | refine r_rem (by omega) ?_ | refine r_quo (by omega) ?_ | refine r_ldb (by assumption) (by rfl) ?_ | refine r_ldbE (by assumption) (by rfl) ?_))); (conv => whnf)
  refine r_cal (rPush_ok hw3 hz x y) ?_
  rintro _ w4 ⟨hx4, q1, m1, d1, q2, m2, d2, rfl, hw4, hsub⟩
  have hs4 := hx4.size
  have ho4 := hsub (WS wb eb b g) (fun k hk => by have := hWS k hk; omega) ho
  have ho6 : WOff (fun k => k = b6) q1 m1 q2 m2 := hsub _ (fun k hk => by omega) (hw.off fun k hk => by omega)
  (repeat ((conv => whnf); (first | with_reducible refine r_tt ?_ | with_reducible refine r_ff ?_ | with_reducible refine r_ntt ?_ | with_reducible refine r_nff ?_ | refine r_need (by omega) ?_ | refine r_i64 (by omega) ?_ | refine r_dect (by omega) ?_ | refine r_decf (by omega) ?_ | refine r_eqt (by omega) ?_ | refine r_eqf (by omega) ?_ | refine r_net (by omega) ?_ | refine r_nef (by omega) ?_ | refine r_u8 (by omega) ?_ | refine r_u64 (by omega) ?_ | refine r_i32 (by omega) ?_ | refine r_u32 (by omega) ?_ | refine r_rem (by omega) ?_ | refine r_quo (by omega) ?_ | refine r_ldb (by assumption) (by rfl) ?_ | refine r_ldbE (by assumption) (by rfl) ?_))); (conv => whnf)
  refine r_new fun b8 w5 hx5 hb5 hs5 hblk8 => ?_
  (repeat ((conv => whnf); (first | with_reducible refine r_tt ?_ | with_reducible refine r_ff ?_ | with_reducible refine r_ntt ?_ | with_reducible refine r_nff ?_ | refine r_need (by omega) ?_ | refine r_i64 (by omega) ?_ | refine r_dect (by omega) ?_ | refine r_decf (by omega) ?_ | refine r_eqt (by omega) ?_ | refine r_eqf (by omega) ?_ | refine r_net (by omega) ?_ | refine r_nef (by omega) ?_ | refine r_u8 (by omega) ?_ | refine r_u64 (by omega) ?_ | refine r_i32 (by omega) ?_ | refine r_u32 (by omega) ?_ | refine r_rem (by omega) ?_ | refine r_quo (by omega) ?_ | refine r_ldb (by assumption) (by rfl) ?_ | refine r_ldbE (by assumption) (by rfl) ?_))); (conv => whnf)
  refine r_stn hblk8 (by simp [wCells]) (w_one _ _ _ _ _ _ _) fun w6 hc6 hs6 hblk8 => ?_
  have hblk8 : Blk w6 b8 60 (wCells q1 m1 d1 q2 m2 d2 (z.push x y).1) := hblk8
  have hx46 : Ext w4 w6 := Chg.step hx5 hc6 fun k hk hlt => by omega
  have hx36 := hx4.trans hx46
  have hblk5 := hblk5.ext hx36
  have hblk6 := hblk6.ext hx36
  have hn5 : ¬ WD wb eb b g b6 b5 := by
    rintro (e | e)
    · have := hWS _ e; omega
    · omega
  have hn8 : ¬ WD wb eb b g b6 b8 := by
    rintro (e | e)
    · have := hWS _ e; omega
    · omega
  (repeat ((conv => whnf); (first | with_reducible refine r_tt ?_ | with_reducible refine r_ff ?_ | with_reducible refine r_ntt ?_ | with_reducible refine r_nff ?_ | refine r_need (by omega) ?_ | refine r_i64 (by omega) ?_ | refine r_dect (by omega) ?_ | refine r_decf (by omega) ?_ | refine r_eqt (by omega) ?_ | refine r_eqf (by omega) ?_ | refine r_net (by omega) ?_ | refine r_nef (by omega) ?_ | refine r_u8 (by omega) ?_ | refine r_u64 (by omega) ?_ | refine r_i32 (by omega) ?_ | refine r_u32 (by omega) ?_ | refine r_rem (by omega) ?_ | refine r_quo (by omega) ?_ | refine r_ldb (by assumption) (by rfl) ?_ | refine r_ldbE (by assumption) (by rfl) ?_))); (conv => whnf)
  refine r_drawS (WD wb eb b g b6) fun w7 hx7 hh7 => ?_
  have hx37 := hx36.trans hx7
  have h7 := h3.ext hx37
  (repeat ((conv => whnf); (first | refine r_ldbS hblk5 (by rfl) hn5 ?_ | refine r_ldnbT (vs := wCells q1 m1 d1 q2 m2 d2 (z.push x y).1) hblk8 rfl rfl hn8 ?_ | with_reducible refine r_tt ?_ | with_reducible refine r_ff ?_ | with_reducible refine r_ntt ?_ | with_reducible refine r_nff ?_ | refine r_need (by omega) ?_ | refine r_i64 (by omega) ?_ | refine r_dect (by omega) ?_ | refine r_decf (by omega) ?_ | refine r_eqt (by omega) ?_ | refine r_eqf (by omega) ?_ | refine r_net (by omega) ?_ | refine r_nef (by omega) ?_ | refine r_u8 (by omega) ?_ | refine r_u64 (by omega) ?_ | refine r_i32 (by omega) ?_ | refine r_u32 (by omega) ?_ | refine r_rem (by omega) ?_ | refine r_quo (by omega) ?_ | refine r_ldb (by assumption) (by rfl) ?_ | refine r_ldbE (by assumption) (by rfl) ?_))); (conv => whnf)
  refine r_cal (Push_ok h7 hn x y hx) ?_
  rintro _ w8 ⟨g', rfl, h8, ha8, hc8⟩
  have hc68 : Chg (WD wb eb b g b6) w6 w8 := Chg.step (hx7.wide _) hc8 fun k hk _ => .inl hk
  (repeat ((conv => whnf); (first | with_reducible refine r_tt ?_ | with_reducible refine r_ff ?_ | with_reducible refine r_ntt ?_ | with_reducible refine r_nff ?_ | refine r_need (by omega) ?_ | refine r_i64 (by omega) ?_ | refine r_dect (by omega) ?_ | refine r_decf (by omega) ?_ | refine r_eqt (by omega) ?_ | refine r_eqf (by omega) ?_ | refine r_net (by omega) ?_ | refine r_nef (by omega) ?_ | refine r_u8 (by omega) ?_ | refine r_u64 (by omega) ?_ | refine r_i32 (by omega) ?_ | refine r_u32 (by omega) ?_ | refine r_rem (by omega) ?_ | refine r_quo (by omega) ?_ | refine r_ldb (by assumption) (by rfl) ?_ | refine r_ldbE (by assumption) (by rfl) ?_))); (conv => whnf)
  refine r_held hc68 ?_
  (repeat ((conv => whnf); (first | with_reducible refine r_tt ?_ | with_reducible refine r_ff ?_ | with_reducible refine r_ntt ?_ | with_reducible refine r_nff ?_ | refine r_need (by omega) ?_ | refine r_i64 (by omega) ?_ | refine r_dect (by omega) ?_ | refine r_decf (by omega) ?_ | refine r_eqt (by omega) ?_ | refine r_eqf (by omega) ?_ | refine r_net (by omega) ?_ | refine r_nef (by omega) ?_ | refine r_u8 (by omega) ?_ | refine r_u64 (by omega) ?_ | refine r_i32 (by omega) ?_ | refine r_u32 (by omega) ?_ | refine r_rem (by omega) ?_ | refine r_quo (by omega) ?_ | refine r_ldb (by assumption) (by rfl) ?_ | refine r_ldbE (by assumption) (by rfl) ?_))); (conv => whnf)
  have hn6 : ¬ WS wb eb b g b6 := fun e => by have := hWS _ e; omega
  refine r_stn ((hblk6.ext hx7).keep hc8 hn6) (by simp [wCells]) (w_one _ _ _ _ _ _ _) fun w9 hc9 hs9 hblk9 => ?_
  have hblk9 : Blk w9 b6 60 (wCells q1 m1 d1 q2 m2 d2 (z.push x y).1) := hblk9
  have hc69 : Chg (WD wb eb b g b6) w6 w9 := Chg.step hc68 hc9 fun k hk _ => .inr hk
  (repeat ((conv => whnf); (first | with_reducible refine r_tt ?_ | with_reducible refine r_ff ?_ | with_reducible refine r_ntt ?_ | with_reducible refine r_nff ?_ | refine r_need (by omega) ?_ | refine r_i64 (by omega) ?_ | refine r_dect (by omega) ?_ | refine r_decf (by omega) ?_ | refine r_eqt (by omega) ?_ | refine r_eqf (by omega) ?_ | refine r_net (by omega) ?_ | refine r_nef (by omega) ?_ | refine r_u8 (by omega) ?_ | refine r_u64 (by omega) ?_ | refine r_i32 (by omega) ?_ | refine r_u32 (by omega) ?_ | refine r_rem (by omega) ?_ | refine r_quo (by omega) ?_ | refine r_ldb (by assumption) (by rfl) ?_ | refine r_ldbE (by assumption) (by rfl) ?_))); (conv => whnf)
  refine r_held hc69 ?_
  (repeat ((conv => whnf); (first | with_reducible refine r_tt ?_ | with_reducible refine r_ff ?_ | with_reducible refine r_ntt ?_ | with_reducible refine r_nff ?_ | refine r_need (by omega) ?_ | refine r_i64 (by omega) ?_ | refine r_dect (by omega) ?_ | refine r_decf (by omega) ?_ | refine r_eqt (by omega) ?_ | refine r_eqf (by omega) ?_ | refine r_net (by omega) ?_ | refine r_nef (by omega) ?_ | refine r_u8 (by omega) ?_ | refine r_u64 (by omega) ?_ | refine r_i32 (by omega) ?_ | refine r_u32 (by omega) ?_ | refine r_rem (by omega) ?_ | refine r_quo (by omega) ?_ | refine r_ldb (by assumption) (by rfl) ?_ | refine r_ldbE (by assumption) (by rfl) ?_))); (conv => whnf)
  refine r_ldnb (vs := wCells q1 m1 d1 q2 m2 d2 (z.push x y).1) hblk9 rfl rfl ?_
  (repeat ((conv => whnf); (first | with_reducible refine r_tt ?_ | with_reducible refine r_ff ?_ | with_reducible refine r_ntt ?_ | with_reducible refine r_nff ?_ | refine r_need (by omega) ?_ | refine r_i64 (by omega) ?_ | refine r_dect (by omega) ?_ | refine r_decf (by omega) ?_ | refine r_eqt (by omega) ?_ | refine r_eqf (by omega) ?_ | refine r_net (by omega) ?_ | refine r_nef (by omega) ?_ | refine r_u8 (by omega) ?_ | refine r_u64 (by omega) ?_ | refine r_i32 (by omega) ?_ | refine r_u32 (by omega) ?_ | refine r_rem (by omega) ?_ | refine r_quo (by omega) ?_ | refine r_ldb (by assumption) (by rfl) ?_ | refine r_ldbE (by assumption) (by rfl) ?_))); (conv => whnf)
  have hs37 := hx37.size
  have ho9 : WOff (WS wb eb b g') q1 m1 q2 m2 := by
    rcases ha8 with rfl | ⟨y', rfl, hy'⟩
    · exact ho4
    · have hq := ((hw4.ext hx46).ext hx7).off (S := fun k => k = y') (fun k hk => by omega)
      refine ⟨fun hp e => ?_, fun hp e => ?_⟩
      · rcases e with e | e | e | e
        · exact ho4.1 hp (.inl e)
        · exact ho4.1 hp (.inr (.inl e))
        · exact ho4.1 hp (.inr (.inr (.inl e)))
        · exact hq.1 hp (by cases e; rfl)
      · rcases e with e | e | e | e
        · exact ho4.2 hp (.inl e)
        · exact ho4.2 hp (.inr (.inl e))
        · exact ho4.2 hp (.inr (.inr (.inl e)))
        · exact hq.2 hp (by cases e; rfl)
  refine ⟨g', q1, m1, d1, q2, m2, d2, _, rfl, by simp, h8.keepS hc9 (fun k hk e => ?_), ?_, ha8.imp id (fun ⟨x, e, hx⟩ => ⟨x, e, by omega⟩), ?_, fun S hS ho => hsub S (fun k hk => by have := hS k hk; omega) ho, ho9⟩
  · subst hk
    rcases ha8 with rfl | ⟨y', rfl, hy'⟩
    · exact hn6 e
    · rcases e with e | e | e | e
      · exact hn6 (.inl e)
      · exact hn6 (.inr (.inl e))
      · exact hn6 (.inr (.inr (.inl e)))
      · cases e; omega
  · exact (((hw4.ext hx46).ext hx7).keep hc8 ho4).keep hc9 ho6
  · exact Chg.step (Chg.step ((hx03.trans hx37).wide _) hc8 fun k hk _ => hk) hc9 fun k hk hlt => by omega

set_option maxHeartbeats 1000000 in
set_option maxRecDepth 100000 in
theorem does1 (h : Win w wb eb b g s n) (hw : IsW w z a1 l1 c1 a2 l2 c2) (hz : z.Ok m) (ho : WOff (WS wb eb b g) a1 l1 a2 l2) (hn : n + 1 ≤ 1000) (x y : Int) (hx : -9223372036854775808 ≤ x ∧ x ≤ 9223372036854775807) :
    Cal Try.prog 34 ⟨[.pointer (some ⟨wb, 0, none⟩), .agg ⟨wCells a1 l1 c1 a2 l2 c2 z⟩, .agg ⟨[.int .u8 1, .int .i64 x, .int .i64 y]⟩]⟩ w (DoneW w wb eb b g n (s.retract x) (z.retract x) a1 l1 a2 l2) := by
  refine go34 (by rfl) ?_
  (repeat ((conv => whnf); (first | with_reducible refine r_tt ?_ | with_reducible refine r_ff ?_ | with_reducible refine r_ntt ?_ | with_reducible refine r_nff ?_ | refine r_need (by omega) ?_ | refine r_i64 (by omega) ?_ | refine r_dect (by omega) ?_ | refine r_decf (by omega) ?_ | refine r_eqt (by omega) ?_ | refine r_eqf (by omega) ?_ | refine r_net (by omega) ?_ | refine r_nef (by omega) ?_ | refine r_u8 (by omega) ?_ | refine r_u64 (by omega) ?_ | refine r_i32 (by omega) ?_ | refine r_u32 (by omega) ?_ | refine r_rem (by omega) ?_ | refine r_quo (by omega) ?_ | refine r_ldb (by assumption) (by rfl) ?_ | refine r_ldbE (by assumption) (by rfl) ?_))); (conv => whnf)
  refine r_new fun b4 w1 hx1 hb1 hs1 hblk4 => ?_
  (repeat ((conv => whnf); (first | with_reducible refine r_tt ?_ | with_reducible refine r_ff ?_ | with_reducible refine r_ntt ?_ | with_reducible refine r_nff ?_ | refine r_need (by omega) ?_ | refine r_i64 (by omega) ?_ | refine r_dect (by omega) ?_ | refine r_decf (by omega) ?_ | refine r_eqt (by omega) ?_ | refine r_eqf (by omega) ?_ | refine r_net (by omega) ?_ | refine r_nef (by omega) ?_ | refine r_u8 (by omega) ?_ | refine r_u64 (by omega) ?_ | refine r_i32 (by omega) ?_ | refine r_u32 (by omega) ?_ | refine r_rem (by omega) ?_ | refine r_quo (by omega) ?_ | refine r_ldb (by assumption) (by rfl) ?_ | refine r_ldbE (by assumption) (by rfl) ?_))); (conv => whnf)
  refine r_new fun b5 w2 hx2 hb2 hs2 hblk5 => ?_
  have hl52 := hblk5.lt
  (repeat ((conv => whnf); (first | with_reducible refine r_tt ?_ | with_reducible refine r_ff ?_ | with_reducible refine r_ntt ?_ | with_reducible refine r_nff ?_ | refine r_need (by omega) ?_ | refine r_i64 (by omega) ?_ | refine r_dect (by omega) ?_ | refine r_decf (by omega) ?_ | refine r_eqt (by omega) ?_ | refine r_eqf (by omega) ?_ | refine r_net (by omega) ?_ | refine r_nef (by omega) ?_ | refine r_u8 (by omega) ?_ | refine r_u64 (by omega) ?_ | refine r_i32 (by omega) ?_ | refine r_u32 (by omega) ?_ | refine r_rem (by omega) ?_ | refine r_quo (by omega) ?_ | refine r_ldb (by assumption) (by rfl) ?_ | refine r_ldbE (by assumption) (by rfl) ?_))); (conv => whnf)
  refine r_new fun b6 w3 hx3 hb3 hs3 hblk6 => ?_
  have hblk4 : Blk w3 b4 60 (wCells a1 l1 c1 a2 l2 c2 z) := (hblk4.ext hx2).ext hx3
  have hblk5 : Blk w3 b5 62 [.int .u8 1, .int .i64 x, .int .i64 y] := hblk5.ext hx3
  have hx03 := (hx1.trans hx2).trans hx3
  have hs03 := hx03.size
  have hs01 := hx1.size
  have hs02 := hx2.size
  have hl6 := hblk6.lt
  have h3 := h.ext hx03
  have hw3 := hw.ext hx03
  have hWS : ∀ k, WS wb eb b g k → k < w.heap.size := fun k hk => h.lt hk
  (repeat ((conv => whnf); (first | with_reducible refine r_tt ?_ | with_reducible refine r_ff ?_ | with_reducible refine r_ntt ?_ | with_reducible refine r_nff ?_ | refine r_need (by omega) ?_ | refine r_i64 (by omega) ?_ | refine r_dect (by omega) ?_ | refine r_decf (by omega) ?_ | refine r_eqt (by omega) ?_ | refine r_eqf (by omega) ?_ | refine r_net (by omega) ?_ | refine r_nef (by omega) ?_ | refine r_u8 (by omega) ?_ | refine r_u64 (by omega) ?_ | refine r_i32 (by omega) ?_ | refine r_u32 (by omega) ?_ | refine r_rem (by omega) ?_ | refine r_quo (by omega) ?_ | refine r_ldb (by assumption) (by rfl) ?_ | refine r_ldbE (by assumption) (by rfl) ?_))); (conv => whnf)
  refine r_ldnb (vs := wCells a1 l1 c1 a2 l2 c2 z) hblk4 rfl rfl ?_
  (repeat ((conv => whnf); (first | with_reducible refine r_tt ?_ | with_reducible refine r_ff ?_ | with_reducible refine r_ntt ?_ | with_reducible refine r_nff ?_ | refine r_need (by omega) ?_ | refine r_i64 (by omega) ?_ | refine r_dect (by omega) ?_ | refine r_decf (by omega) ?_ | refine r_eqt (by omega) ?_ | refine r_eqf (by omega) ?_ | refine r_net (by omega) ?_ | refine r_nef (by omega) ?_ | refine r_u8 (by omega) ?_ | refine r_u64 (by omega) ?_ | refine r_i32 (by omega) ?_ | refine r_u32 (by omega) ?_ | refine r_rem (by omega) ?_ | refine r_quo (by omega) ?_ | refine r_ldb (by assumption) (by rfl) ?_ | refine r_ldbE (by assumption) (by rfl) ?_))); (conv => whnf)
  refine r_cal (rRetract_ok hw3 hz x) ?_
  rintro _ w4 ⟨hx4, q1, m1, d1, q2, m2, d2, rfl, hw4, hsub⟩
  have hs4 := hx4.size
  have ho4 := hsub (WS wb eb b g) (fun k hk => by have := hWS k hk; omega) ho
  have ho6 : WOff (fun k => k = b6) q1 m1 q2 m2 := hsub _ (fun k hk => by omega) (hw.off fun k hk => by omega)
  (repeat ((conv => whnf); (first | with_reducible refine r_tt ?_ | with_reducible refine r_ff ?_ | with_reducible refine r_ntt ?_ | with_reducible refine r_nff ?_ | refine r_need (by omega) ?_ | refine r_i64 (by omega) ?_ | refine r_dect (by omega) ?_ | refine r_decf (by omega) ?_ | refine r_eqt (by omega) ?_ | refine r_eqf (by omega) ?_ | refine r_net (by omega) ?_ | refine r_nef (by omega) ?_ | refine r_u8 (by omega) ?_ | refine r_u64 (by omega) ?_ | refine r_i32 (by omega) ?_ | refine r_u32 (by omega) ?_ | refine r_rem (by omega) ?_ | refine r_quo (by omega) ?_ | refine r_ldb (by assumption) (by rfl) ?_ | refine r_ldbE (by assumption) (by rfl) ?_))); (conv => whnf)
  refine r_new fun b8 w5 hx5 hb5 hs5 hblk8 => ?_
  (repeat ((conv => whnf); (first | with_reducible refine r_tt ?_ | with_reducible refine r_ff ?_ | with_reducible refine r_ntt ?_ | with_reducible refine r_nff ?_ | refine r_need (by omega) ?_ | refine r_i64 (by omega) ?_ | refine r_dect (by omega) ?_ | refine r_decf (by omega) ?_ | refine r_eqt (by omega) ?_ | refine r_eqf (by omega) ?_ | refine r_net (by omega) ?_ | refine r_nef (by omega) ?_ | refine r_u8 (by omega) ?_ | refine r_u64 (by omega) ?_ | refine r_i32 (by omega) ?_ | refine r_u32 (by omega) ?_ | refine r_rem (by omega) ?_ | refine r_quo (by omega) ?_ | refine r_ldb (by assumption) (by rfl) ?_ | refine r_ldbE (by assumption) (by rfl) ?_))); (conv => whnf)
  refine r_stn hblk8 (by simp [wCells]) (w_one _ _ _ _ _ _ _) fun w6 hc6 hs6 hblk8 => ?_
  have hblk8 : Blk w6 b8 60 (wCells q1 m1 d1 q2 m2 d2 (z.retract x).1) := hblk8
  have hx46 : Ext w4 w6 := Chg.step hx5 hc6 fun k hk hlt => by omega
  have hx36 := hx4.trans hx46
  have hblk5 := hblk5.ext hx36
  have hblk6 := hblk6.ext hx36
  have hn5 : ¬ WD wb eb b g b6 b5 := by
    rintro (e | e)
    · have := hWS _ e; omega
    · omega
  have hn8 : ¬ WD wb eb b g b6 b8 := by
    rintro (e | e)
    · have := hWS _ e; omega
    · omega
  (repeat ((conv => whnf); (first | with_reducible refine r_tt ?_ | with_reducible refine r_ff ?_ | with_reducible refine r_ntt ?_ | with_reducible refine r_nff ?_ | refine r_need (by omega) ?_ | refine r_i64 (by omega) ?_ | refine r_dect (by omega) ?_ | refine r_decf (by omega) ?_ | refine r_eqt (by omega) ?_ | refine r_eqf (by omega) ?_ | refine r_net (by omega) ?_ | refine r_nef (by omega) ?_ | refine r_u8 (by omega) ?_ | refine r_u64 (by omega) ?_ | refine r_i32 (by omega) ?_ | refine r_u32 (by omega) ?_ | refine r_rem (by omega) ?_ | refine r_quo (by omega) ?_ | refine r_ldb (by assumption) (by rfl) ?_ | refine r_ldbE (by assumption) (by rfl) ?_))); (conv => whnf)
  refine r_drawS (WD wb eb b g b6) fun w7 hx7 hh7 => ?_
  have hx37 := hx36.trans hx7
  have h7 := h3.ext hx37
  (repeat ((conv => whnf); (first | refine r_ldbS hblk5 (by rfl) hn5 ?_ | refine r_ldnbT (vs := wCells q1 m1 d1 q2 m2 d2 (z.retract x).1) hblk8 rfl rfl hn8 ?_ | with_reducible refine r_tt ?_ | with_reducible refine r_ff ?_ | with_reducible refine r_ntt ?_ | with_reducible refine r_nff ?_ | refine r_need (by omega) ?_ | refine r_i64 (by omega) ?_ | refine r_dect (by omega) ?_ | refine r_decf (by omega) ?_ | refine r_eqt (by omega) ?_ | refine r_eqf (by omega) ?_ | refine r_net (by omega) ?_ | refine r_nef (by omega) ?_ | refine r_u8 (by omega) ?_ | refine r_u64 (by omega) ?_ | refine r_i32 (by omega) ?_ | refine r_u32 (by omega) ?_ | refine r_rem (by omega) ?_ | refine r_quo (by omega) ?_ | refine r_ldb (by assumption) (by rfl) ?_ | refine r_ldbE (by assumption) (by rfl) ?_))); (conv => whnf)
  refine r_cal (Retract_ok h7 hn x hx) ?_
  rintro _ w8 ⟨g', rfl, h8, ha8, hc8⟩
  have hc68 : Chg (WD wb eb b g b6) w6 w8 := Chg.step (hx7.wide _) hc8 fun k hk _ => .inl hk
  (repeat ((conv => whnf); (first | with_reducible refine r_tt ?_ | with_reducible refine r_ff ?_ | with_reducible refine r_ntt ?_ | with_reducible refine r_nff ?_ | refine r_need (by omega) ?_ | refine r_i64 (by omega) ?_ | refine r_dect (by omega) ?_ | refine r_decf (by omega) ?_ | refine r_eqt (by omega) ?_ | refine r_eqf (by omega) ?_ | refine r_net (by omega) ?_ | refine r_nef (by omega) ?_ | refine r_u8 (by omega) ?_ | refine r_u64 (by omega) ?_ | refine r_i32 (by omega) ?_ | refine r_u32 (by omega) ?_ | refine r_rem (by omega) ?_ | refine r_quo (by omega) ?_ | refine r_ldb (by assumption) (by rfl) ?_ | refine r_ldbE (by assumption) (by rfl) ?_))); (conv => whnf)
  refine r_held hc68 ?_
  (repeat ((conv => whnf); (first | with_reducible refine r_tt ?_ | with_reducible refine r_ff ?_ | with_reducible refine r_ntt ?_ | with_reducible refine r_nff ?_ | refine r_need (by omega) ?_ | refine r_i64 (by omega) ?_ | refine r_dect (by omega) ?_ | refine r_decf (by omega) ?_ | refine r_eqt (by omega) ?_ | refine r_eqf (by omega) ?_ | refine r_net (by omega) ?_ | refine r_nef (by omega) ?_ | refine r_u8 (by omega) ?_ | refine r_u64 (by omega) ?_ | refine r_i32 (by omega) ?_ | refine r_u32 (by omega) ?_ | refine r_rem (by omega) ?_ | refine r_quo (by omega) ?_ | refine r_ldb (by assumption) (by rfl) ?_ | refine r_ldbE (by assumption) (by rfl) ?_))); (conv => whnf)
  have hn6 : ¬ WS wb eb b g b6 := fun e => by have := hWS _ e; omega
  refine r_stn ((hblk6.ext hx7).keep hc8 hn6) (by simp [wCells]) (w_one _ _ _ _ _ _ _) fun w9 hc9 hs9 hblk9 => ?_
  have hblk9 : Blk w9 b6 60 (wCells q1 m1 d1 q2 m2 d2 (z.retract x).1) := hblk9
  have hc69 : Chg (WD wb eb b g b6) w6 w9 := Chg.step hc68 hc9 fun k hk _ => .inr hk
  (repeat ((conv => whnf); (first | with_reducible refine r_tt ?_ | with_reducible refine r_ff ?_ | with_reducible refine r_ntt ?_ | with_reducible refine r_nff ?_ | refine r_need (by omega) ?_ | refine r_i64 (by omega) ?_ | refine r_dect (by omega) ?_ | refine r_decf (by omega) ?_ | refine r_eqt (by omega) ?_ | refine r_eqf (by omega) ?_ | refine r_net (by omega) ?_ | refine r_nef (by omega) ?_ | refine r_u8 (by omega) ?_ | refine r_u64 (by omega) ?_ | refine r_i32 (by omega) ?_ | refine r_u32 (by omega) ?_ | refine r_rem (by omega) ?_ | refine r_quo (by omega) ?_ | refine r_ldb (by assumption) (by rfl) ?_ | refine r_ldbE (by assumption) (by rfl) ?_))); (conv => whnf)
  refine r_held hc69 ?_
  (repeat ((conv => whnf); (first | with_reducible refine r_tt ?_ | with_reducible refine r_ff ?_ | with_reducible refine r_ntt ?_ | with_reducible refine r_nff ?_ | refine r_need (by omega) ?_ | refine r_i64 (by omega) ?_ | refine r_dect (by omega) ?_ | refine r_decf (by omega) ?_ | refine r_eqt (by omega) ?_ | refine r_eqf (by omega) ?_ | refine r_net (by omega) ?_ | refine r_nef (by omega) ?_ | refine r_u8 (by omega) ?_ | refine r_u64 (by omega) ?_ | refine r_i32 (by omega) ?_ | refine r_u32 (by omega) ?_ | refine r_rem (by omega) ?_ | refine r_quo (by omega) ?_ | refine r_ldb (by assumption) (by rfl) ?_ | refine r_ldbE (by assumption) (by rfl) ?_))); (conv => whnf)
  refine r_ldnb (vs := wCells q1 m1 d1 q2 m2 d2 (z.retract x).1) hblk9 rfl rfl ?_
  (repeat ((conv => whnf); (first | with_reducible refine r_tt ?_ | with_reducible refine r_ff ?_ | with_reducible refine r_ntt ?_ | with_reducible refine r_nff ?_ | refine r_need (by omega) ?_ | refine r_i64 (by omega) ?_ | refine r_dect (by omega) ?_ | refine r_decf (by omega) ?_ | refine r_eqt (by omega) ?_ | refine r_eqf (by omega) ?_ | refine r_net (by omega) ?_ | refine r_nef (by omega) ?_ | refine r_u8 (by omega) ?_ | refine r_u64 (by omega) ?_ | refine r_i32 (by omega) ?_ | refine r_u32 (by omega) ?_ | refine r_rem (by omega) ?_ | refine r_quo (by omega) ?_ | refine r_ldb (by assumption) (by rfl) ?_ | refine r_ldbE (by assumption) (by rfl) ?_))); (conv => whnf)
  have hs37 := hx37.size
  have ho9 : WOff (WS wb eb b g') q1 m1 q2 m2 := by
    rcases ha8 with rfl | ⟨y', rfl, hy'⟩
    · exact ho4
    · have hq := ((hw4.ext hx46).ext hx7).off (S := fun k => k = y') (fun k hk => by omega)
      refine ⟨fun hp e => ?_, fun hp e => ?_⟩
      · rcases e with e | e | e | e
        · exact ho4.1 hp (.inl e)
        · exact ho4.1 hp (.inr (.inl e))
        · exact ho4.1 hp (.inr (.inr (.inl e)))
        · exact hq.1 hp (by cases e; rfl)
      · rcases e with e | e | e | e
        · exact ho4.2 hp (.inl e)
        · exact ho4.2 hp (.inr (.inl e))
        · exact ho4.2 hp (.inr (.inr (.inl e)))
        · exact hq.2 hp (by cases e; rfl)
  refine ⟨g', q1, m1, d1, q2, m2, d2, _, rfl, by simp, h8.keepS hc9 (fun k hk e => ?_), ?_, ha8.imp id (fun ⟨x, e, hx⟩ => ⟨x, e, by omega⟩), ?_, fun S hS ho => hsub S (fun k hk => by have := hS k hk; omega) ho, ho9⟩
  · subst hk
    rcases ha8 with rfl | ⟨y', rfl, hy'⟩
    · exact hn6 e
    · rcases e with e | e | e | e
      · exact hn6 (.inl e)
      · exact hn6 (.inr (.inl e))
      · exact hn6 (.inr (.inr (.inl e)))
      · cases e; omega
  · exact (((hw4.ext hx46).ext hx7).keep hc8 ho4).keep hc9 ho6
  · exact Chg.step (Chg.step ((hx03.trans hx37).wide _) hc8 fun k hk _ => hk) hc9 fun k hk hlt => by omega

set_option maxHeartbeats 1000000 in
set_option maxRecDepth 100000 in
theorem does2 (h : Win w wb eb b g s n) (hw : IsW w z a1 l1 c1 a2 l2 c2) (hz : z.Ok m) (ho : WOff (WS wb eb b g) a1 l1 a2 l2) (hn : n + 1 ≤ 1000) (x y : Int) (hx : -9223372036854775808 ≤ x ∧ x ≤ 9223372036854775807) (kd : Int) (hkd : kd ≠ 0 ∧ kd ≠ 1) :
    Cal Try.prog 34 ⟨[.pointer (some ⟨wb, 0, none⟩), .agg ⟨wCells a1 l1 c1 a2 l2 c2 z⟩, .agg ⟨[.int .u8 kd, .int .i64 x, .int .i64 y]⟩]⟩ w (DoneW w wb eb b g n (s.commit x) (z.commit x) a1 l1 a2 l2) := by
  refine go34 (by rfl) ?_
  (repeat ((conv => whnf); (first | with_reducible refine r_tt ?_ | with_reducible refine r_ff ?_ | with_reducible refine r_ntt ?_ | with_reducible refine r_nff ?_ | refine r_need (by omega) ?_ | refine r_i64 (by omega) ?_ | refine r_dect (by omega) ?_ | refine r_decf (by omega) ?_ | refine r_eqt (by omega) ?_ | refine r_eqf (by omega) ?_ | refine r_net (by omega) ?_ | refine r_nef (by omega) ?_ | refine r_u8 (by omega) ?_ | refine r_u64 (by omega) ?_ | refine r_i32 (by omega) ?_ | refine r_u32 (by omega) ?_ | refine r_rem (by omega) ?_ | refine r_quo (by omega) ?_ | refine r_ldb (by assumption) (by rfl) ?_ | refine r_ldbE (by assumption) (by rfl) ?_))); (conv => whnf)
  refine r_new fun b4 w1 hx1 hb1 hs1 hblk4 => ?_
  (repeat ((conv => whnf); (first | with_reducible refine r_tt ?_ | with_reducible refine r_ff ?_ | with_reducible refine r_ntt ?_ | with_reducible refine r_nff ?_ | refine r_need (by omega) ?_ | refine r_i64 (by omega) ?_ | refine r_dect (by omega) ?_ | refine r_decf (by omega) ?_ | refine r_eqt (by omega) ?_ | refine r_eqf (by omega) ?_ | refine r_net (by omega) ?_ | refine r_nef (by omega) ?_ | refine r_u8 (by omega) ?_ | refine r_u64 (by omega) ?_ | refine r_i32 (by omega) ?_ | refine r_u32 (by omega) ?_ | refine r_rem (by omega) ?_ | refine r_quo (by omega) ?_ | refine r_ldb (by assumption) (by rfl) ?_ | refine r_ldbE (by assumption) (by rfl) ?_))); (conv => whnf)
  refine r_new fun b5 w2 hx2 hb2 hs2 hblk5 => ?_
  have hl52 := hblk5.lt
  (repeat ((conv => whnf); (first | with_reducible refine r_tt ?_ | with_reducible refine r_ff ?_ | with_reducible refine r_ntt ?_ | with_reducible refine r_nff ?_ | refine r_need (by omega) ?_ | refine r_i64 (by omega) ?_ | refine r_dect (by omega) ?_ | refine r_decf (by omega) ?_ | refine r_eqt (by omega) ?_ | refine r_eqf (by omega) ?_ | refine r_net (by omega) ?_ | refine r_nef (by omega) ?_ | refine r_u8 (by omega) ?_ | refine r_u64 (by omega) ?_ | refine r_i32 (by omega) ?_ | refine r_u32 (by omega) ?_ | refine r_rem (by omega) ?_ | refine r_quo (by omega) ?_ | refine r_ldb (by assumption) (by rfl) ?_ | refine r_ldbE (by assumption) (by rfl) ?_))); (conv => whnf)
  refine r_new fun b6 w3 hx3 hb3 hs3 hblk6 => ?_
  have hblk4 : Blk w3 b4 60 (wCells a1 l1 c1 a2 l2 c2 z) := (hblk4.ext hx2).ext hx3
  have hblk5 : Blk w3 b5 62 [.int .u8 kd, .int .i64 x, .int .i64 y] := hblk5.ext hx3
  have hx03 := (hx1.trans hx2).trans hx3
  have hs03 := hx03.size
  have hs01 := hx1.size
  have hs02 := hx2.size
  have hl6 := hblk6.lt
  have h3 := h.ext hx03
  have hw3 := hw.ext hx03
  have hWS : ∀ k, WS wb eb b g k → k < w.heap.size := fun k hk => h.lt hk
  (repeat ((conv => whnf); (first | with_reducible refine r_tt ?_ | with_reducible refine r_ff ?_ | with_reducible refine r_ntt ?_ | with_reducible refine r_nff ?_ | refine r_need (by omega) ?_ | refine r_i64 (by omega) ?_ | refine r_dect (by omega) ?_ | refine r_decf (by omega) ?_ | refine r_eqt (by omega) ?_ | refine r_eqf (by omega) ?_ | refine r_net (by omega) ?_ | refine r_nef (by omega) ?_ | refine r_u8 (by omega) ?_ | refine r_u64 (by omega) ?_ | refine r_i32 (by omega) ?_ | refine r_u32 (by omega) ?_ | refine r_rem (by omega) ?_ | refine r_quo (by omega) ?_ | refine r_ldb (by assumption) (by rfl) ?_ | refine r_ldbE (by assumption) (by rfl) ?_))); (conv => whnf)
  refine r_ldnb (vs := wCells a1 l1 c1 a2 l2 c2 z) hblk4 rfl rfl ?_
  (repeat ((conv => whnf); (first | with_reducible refine r_tt ?_ | with_reducible refine r_ff ?_ | with_reducible refine r_ntt ?_ | with_reducible refine r_nff ?_ | refine r_need (by omega) ?_ | refine r_i64 (by omega) ?_ | refine r_dect (by omega) ?_ | refine r_decf (by omega) ?_ | refine r_eqt (by omega) ?_ | refine r_eqf (by omega) ?_ | refine r_net (by omega) ?_ | refine r_nef (by omega) ?_ | refine r_u8 (by omega) ?_ | refine r_u64 (by omega) ?_ | refine r_i32 (by omega) ?_ | refine r_u32 (by omega) ?_ | refine r_rem (by omega) ?_ | refine r_quo (by omega) ?_ | refine r_ldb (by assumption) (by rfl) ?_ | refine r_ldbE (by assumption) (by rfl) ?_))); (conv => whnf)
  refine r_cal (rCommit_ok hw3 hz x) ?_
  rintro _ w4 ⟨hx4, q1, m1, d1, q2, m2, d2, rfl, hw4, hsub⟩
  have hs4 := hx4.size
  have ho4 := hsub (WS wb eb b g) (fun k hk => by have := hWS k hk; omega) ho
  have ho6 : WOff (fun k => k = b6) q1 m1 q2 m2 := hsub _ (fun k hk => by omega) (hw.off fun k hk => by omega)
  (repeat ((conv => whnf); (first | with_reducible refine r_tt ?_ | with_reducible refine r_ff ?_ | with_reducible refine r_ntt ?_ | with_reducible refine r_nff ?_ | refine r_need (by omega) ?_ | refine r_i64 (by omega) ?_ | refine r_dect (by omega) ?_ | refine r_decf (by omega) ?_ | refine r_eqt (by omega) ?_ | refine r_eqf (by omega) ?_ | refine r_net (by omega) ?_ | refine r_nef (by omega) ?_ | refine r_u8 (by omega) ?_ | refine r_u64 (by omega) ?_ | refine r_i32 (by omega) ?_ | refine r_u32 (by omega) ?_ | refine r_rem (by omega) ?_ | refine r_quo (by omega) ?_ | refine r_ldb (by assumption) (by rfl) ?_ | refine r_ldbE (by assumption) (by rfl) ?_))); (conv => whnf)
  refine r_new fun b8 w5 hx5 hb5 hs5 hblk8 => ?_
  (repeat ((conv => whnf); (first | with_reducible refine r_tt ?_ | with_reducible refine r_ff ?_ | with_reducible refine r_ntt ?_ | with_reducible refine r_nff ?_ | refine r_need (by omega) ?_ | refine r_i64 (by omega) ?_ | refine r_dect (by omega) ?_ | refine r_decf (by omega) ?_ | refine r_eqt (by omega) ?_ | refine r_eqf (by omega) ?_ | refine r_net (by omega) ?_ | refine r_nef (by omega) ?_ | refine r_u8 (by omega) ?_ | refine r_u64 (by omega) ?_ | refine r_i32 (by omega) ?_ | refine r_u32 (by omega) ?_ | refine r_rem (by omega) ?_ | refine r_quo (by omega) ?_ | refine r_ldb (by assumption) (by rfl) ?_ | refine r_ldbE (by assumption) (by rfl) ?_))); (conv => whnf)
  refine r_stn hblk8 (by simp [wCells]) (w_one _ _ _ _ _ _ _) fun w6 hc6 hs6 hblk8 => ?_
  have hblk8 : Blk w6 b8 60 (wCells q1 m1 d1 q2 m2 d2 (z.commit x).1) := hblk8
  have hx46 : Ext w4 w6 := Chg.step hx5 hc6 fun k hk hlt => by omega
  have hx36 := hx4.trans hx46
  have hblk5 := hblk5.ext hx36
  have hblk6 := hblk6.ext hx36
  have hn5 : ¬ WD wb eb b g b6 b5 := by
    rintro (e | e)
    · have := hWS _ e; omega
    · omega
  have hn8 : ¬ WD wb eb b g b6 b8 := by
    rintro (e | e)
    · have := hWS _ e; omega
    · omega
  (repeat ((conv => whnf); (first | with_reducible refine r_tt ?_ | with_reducible refine r_ff ?_ | with_reducible refine r_ntt ?_ | with_reducible refine r_nff ?_ | refine r_need (by omega) ?_ | refine r_i64 (by omega) ?_ | refine r_dect (by omega) ?_ | refine r_decf (by omega) ?_ | refine r_eqt (by omega) ?_ | refine r_eqf (by omega) ?_ | refine r_net (by omega) ?_ | refine r_nef (by omega) ?_ | refine r_u8 (by omega) ?_ | refine r_u64 (by omega) ?_ | refine r_i32 (by omega) ?_ | refine r_u32 (by omega) ?_ | refine r_rem (by omega) ?_ | refine r_quo (by omega) ?_ | refine r_ldb (by assumption) (by rfl) ?_ | refine r_ldbE (by assumption) (by rfl) ?_))); (conv => whnf)
  refine r_drawS (WD wb eb b g b6) fun w7 hx7 hh7 => ?_
  have hx37 := hx36.trans hx7
  have h7 := h3.ext hx37
  (repeat ((conv => whnf); (first | refine r_ldbS hblk5 (by rfl) hn5 ?_ | refine r_ldnbT (vs := wCells q1 m1 d1 q2 m2 d2 (z.commit x).1) hblk8 rfl rfl hn8 ?_ | with_reducible refine r_tt ?_ | with_reducible refine r_ff ?_ | with_reducible refine r_ntt ?_ | with_reducible refine r_nff ?_ | refine r_need (by omega) ?_ | refine r_i64 (by omega) ?_ | refine r_dect (by omega) ?_ | refine r_decf (by omega) ?_ | refine r_eqt (by omega) ?_ | refine r_eqf (by omega) ?_ | refine r_net (by omega) ?_ | refine r_nef (by omega) ?_ | refine r_u8 (by omega) ?_ | refine r_u64 (by omega) ?_ | refine r_i32 (by omega) ?_ | refine r_u32 (by omega) ?_ | refine r_rem (by omega) ?_ | refine r_quo (by omega) ?_ | refine r_ldb (by assumption) (by rfl) ?_ | refine r_ldbE (by assumption) (by rfl) ?_))); (conv => whnf)
  refine r_cal (Commit_ok h7 hn x hx) ?_
  rintro _ w8 ⟨g', rfl, h8, ha8, hc8⟩
  have hc68 : Chg (WD wb eb b g b6) w6 w8 := Chg.step (hx7.wide _) hc8 fun k hk _ => .inl hk
  (repeat ((conv => whnf); (first | with_reducible refine r_tt ?_ | with_reducible refine r_ff ?_ | with_reducible refine r_ntt ?_ | with_reducible refine r_nff ?_ | refine r_need (by omega) ?_ | refine r_i64 (by omega) ?_ | refine r_dect (by omega) ?_ | refine r_decf (by omega) ?_ | refine r_eqt (by omega) ?_ | refine r_eqf (by omega) ?_ | refine r_net (by omega) ?_ | refine r_nef (by omega) ?_ | refine r_u8 (by omega) ?_ | refine r_u64 (by omega) ?_ | refine r_i32 (by omega) ?_ | refine r_u32 (by omega) ?_ | refine r_rem (by omega) ?_ | refine r_quo (by omega) ?_ | refine r_ldb (by assumption) (by rfl) ?_ | refine r_ldbE (by assumption) (by rfl) ?_))); (conv => whnf)
  refine r_held hc68 ?_
  (repeat ((conv => whnf); (first | with_reducible refine r_tt ?_ | with_reducible refine r_ff ?_ | with_reducible refine r_ntt ?_ | with_reducible refine r_nff ?_ | refine r_need (by omega) ?_ | refine r_i64 (by omega) ?_ | refine r_dect (by omega) ?_ | refine r_decf (by omega) ?_ | refine r_eqt (by omega) ?_ | refine r_eqf (by omega) ?_ | refine r_net (by omega) ?_ | refine r_nef (by omega) ?_ | refine r_u8 (by omega) ?_ | refine r_u64 (by omega) ?_ | refine r_i32 (by omega) ?_ | refine r_u32 (by omega) ?_ | refine r_rem (by omega) ?_ | refine r_quo (by omega) ?_ | refine r_ldb (by assumption) (by rfl) ?_ | refine r_ldbE (by assumption) (by rfl) ?_))); (conv => whnf)
  have hn6 : ¬ WS wb eb b g b6 := fun e => by have := hWS _ e; omega
  refine r_stn ((hblk6.ext hx7).keep hc8 hn6) (by simp [wCells]) (w_one _ _ _ _ _ _ _) fun w9 hc9 hs9 hblk9 => ?_
  have hblk9 : Blk w9 b6 60 (wCells q1 m1 d1 q2 m2 d2 (z.commit x).1) := hblk9
  have hc69 : Chg (WD wb eb b g b6) w6 w9 := Chg.step hc68 hc9 fun k hk _ => .inr hk
  (repeat ((conv => whnf); (first | with_reducible refine r_tt ?_ | with_reducible refine r_ff ?_ | with_reducible refine r_ntt ?_ | with_reducible refine r_nff ?_ | refine r_need (by omega) ?_ | refine r_i64 (by omega) ?_ | refine r_dect (by omega) ?_ | refine r_decf (by omega) ?_ | refine r_eqt (by omega) ?_ | refine r_eqf (by omega) ?_ | refine r_net (by omega) ?_ | refine r_nef (by omega) ?_ | refine r_u8 (by omega) ?_ | refine r_u64 (by omega) ?_ | refine r_i32 (by omega) ?_ | refine r_u32 (by omega) ?_ | refine r_rem (by omega) ?_ | refine r_quo (by omega) ?_ | refine r_ldb (by assumption) (by rfl) ?_ | refine r_ldbE (by assumption) (by rfl) ?_))); (conv => whnf)
  refine r_held hc69 ?_
  (repeat ((conv => whnf); (first | with_reducible refine r_tt ?_ | with_reducible refine r_ff ?_ | with_reducible refine r_ntt ?_ | with_reducible refine r_nff ?_ | refine r_need (by omega) ?_ | refine r_i64 (by omega) ?_ | refine r_dect (by omega) ?_ | refine r_decf (by omega) ?_ | refine r_eqt (by omega) ?_ | refine r_eqf (by omega) ?_ | refine r_net (by omega) ?_ | refine r_nef (by omega) ?_ | refine r_u8 (by omega) ?_ | refine r_u64 (by omega) ?_ | refine r_i32 (by omega) ?_ | refine r_u32 (by omega) ?_ | refine r_rem (by omega) ?_ | refine r_quo (by omega) ?_ | refine r_ldb (by assumption) (by rfl) ?_ | refine r_ldbE (by assumption) (by rfl) ?_))); (conv => whnf)
  refine r_ldnb (vs := wCells q1 m1 d1 q2 m2 d2 (z.commit x).1) hblk9 rfl rfl ?_
  (repeat ((conv => whnf); (first | with_reducible refine r_tt ?_ | with_reducible refine r_ff ?_ | with_reducible refine r_ntt ?_ | with_reducible refine r_nff ?_ | refine r_need (by omega) ?_ | refine r_i64 (by omega) ?_ | refine r_dect (by omega) ?_ | refine r_decf (by omega) ?_ | refine r_eqt (by omega) ?_ | refine r_eqf (by omega) ?_ | refine r_net (by omega) ?_ | refine r_nef (by omega) ?_ | refine r_u8 (by omega) ?_ | refine r_u64 (by omega) ?_ | refine r_i32 (by omega) ?_ | refine r_u32 (by omega) ?_ | refine r_rem (by omega) ?_ | refine r_quo (by omega) ?_ | refine r_ldb (by assumption) (by rfl) ?_ | refine r_ldbE (by assumption) (by rfl) ?_))); (conv => whnf)
  have hs37 := hx37.size
  have ho9 : WOff (WS wb eb b g') q1 m1 q2 m2 := by
    rcases ha8 with rfl | ⟨y', rfl, hy'⟩
    · exact ho4
    · have hq := ((hw4.ext hx46).ext hx7).off (S := fun k => k = y') (fun k hk => by omega)
      refine ⟨fun hp e => ?_, fun hp e => ?_⟩
      · rcases e with e | e | e | e
        · exact ho4.1 hp (.inl e)
        · exact ho4.1 hp (.inr (.inl e))
        · exact ho4.1 hp (.inr (.inr (.inl e)))
        · exact hq.1 hp (by cases e; rfl)
      · rcases e with e | e | e | e
        · exact ho4.2 hp (.inl e)
        · exact ho4.2 hp (.inr (.inl e))
        · exact ho4.2 hp (.inr (.inr (.inl e)))
        · exact hq.2 hp (by cases e; rfl)
  refine ⟨g', q1, m1, d1, q2, m2, d2, _, rfl, by simp, h8.keepS hc9 (fun k hk e => ?_), ?_, ha8.imp id (fun ⟨x, e, hx⟩ => ⟨x, e, by omega⟩), ?_, fun S hS ho => hsub S (fun k hk => by have := hS k hk; omega) ho, ho9⟩
  · subst hk
    rcases ha8 with rfl | ⟨y', rfl, hy'⟩
    · exact hn6 e
    · rcases e with e | e | e | e
      · exact hn6 (.inl e)
      · exact hn6 (.inr (.inl e))
      · exact hn6 (.inr (.inr (.inl e)))
      · cases e; omega
  · exact (((hw4.ext hx46).ext hx7).keep hc8 ho4).keep hc9 ho6
  · exact Chg.step (Chg.step ((hx03.trans hx37).wide _) hc8 fun k hk _ => hk) hc9 fun k hk hlt => by omega
theorem does_ok (h : Win w wb eb b g s n) (hw : IsW w z a1 l1 c1 a2 l2 c2) (hz : z.Ok m) (ho : WOff (WS wb eb b g) a1 l1 a2 l2) (hn : n + 1 ≤ 1000) (kd x y : Int) (hx : -9223372036854775808 ≤ x ∧ x ≤ 9223372036854775807) :
    Cal Try.prog 34 ⟨[.pointer (some ⟨wb, 0, none⟩), .agg ⟨wCells a1 l1 c1 a2 l2 c2 z⟩, .agg ⟨[.int .u8 kd, .int .i64 x, .int .i64 y]⟩]⟩ w (DoneW w wb eb b g n (s.step kd x y) (z.step kd x y) a1 l1 a2 l2) := by
  unfold St.step
  by_cases h0 : kd = 0
  · subst h0
    simp only [if_true]
    exact does0 h hw hz ho hn x y hx
  by_cases h1 : kd = 1
  · subst h1
    rw [if_neg (by omega), if_pos rfl, if_neg (by omega), if_pos rfl]
    exact does1 h hw hz ho hn x y hx
  rw [if_neg h0, if_neg h1, if_neg h0, if_neg h1]
  exact does2 h hw hz ho hn x y hx kd ⟨h0, h1⟩
end
end Fb.Try.WN
