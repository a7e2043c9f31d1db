/-
  Walks: the chapter's example; a nil agenda.
-/
import Derived.Test.YtnofndhlhbbhdaaQg
namespace Fb.Try.QU
open Go Go.Proofs Fb
theorem take_first {w : World} {ab mb c : Nat} {g : Option Nat} {l : List En} (h : Ag w ab mb g c l) {e : En} (he : e ∈ l) (hle : ∀ x ∈ l, x = e ∨ less e x) : gt l 0 = e ∧ 0 < l.length := by
  have h0 : 0 < l.length := List.length_pos_of_mem he
  refine ⟨?_, h0⟩
  rcases hle (gt l 0) (mem_gt.2 ⟨0, h0, rfl⟩) with h1 | h1
  · exact h1
  · exact absurd h1 (h.least e he)
theorem Arr.new {w1 : World} {ab mb B : Nat} {g g' : Option Nat} (ha : Arr w1 g g') (hn : ∀ k, PS ab mb g k → B ≤ k) (hB : B ≤ w1.heap.size) : ∀ k, PS ab mb g' k → B ≤ k := by
  intro k hk
  rcases ha with rfl | ⟨y, rfl, hy⟩
  · exact hn k hk
  · rcases hk with e | e | e
    · exact hn k (.inl e)
    · exact hn k (.inr (.inl e))
    · cases e; omega
theorem Chg.ps {w w1 w2 : World} {ab mb : Nat} {g : Option Nat} (h : Ext w w1) (hc : Chg (PS ab mb g) w1 w2) (hn : ∀ k, PS ab mb g k → w.heap.size ≤ k) : Ext w w2 :=
  Chg.step h hc fun k hk hlt => by have := hn k hk; omega
theorem ps_new {w : World} {ab mb : Nat} (h1 : w.heap.size ≤ ab) (h2 : w.heap.size ≤ mb) : ∀ k, PS ab mb none k → w.heap.size ≤ k := by
  rintro k (rfl | rfl | e)
  · exact h1
  · exact h2
  · cases e
def E5 : En := ⟨5, 1, 0⟩
def E2 : En := ⟨2, 1, 0⟩
def E9 : En := ⟨9, 0, 0⟩
set_option maxRecDepth 100000 in
theorem fixed_ok (w : World) : Cal Try.prog 18 ⟨[]⟩ w fun v w' => Ext w w' ∧ v = .bool true := by
  refine go18 (by rfl) ?_
  (repeat ((conv => whnf); (first | (with_reducible first | refine jA ?_ | refine jB ?_ | refine jC ?_ | refine jD ?_) | refine jE ?_ | refine jF ?_ | refine jG ?_ | refine jH ?_ | refine jI ?_ | refine jJ ?_ | refine jK ?_ | refine jL ?_ | refine jM ?_ | refine jN ?_ | refine jO ?_ | refine jP ?_ | refine jQ ?_ | refine jR ?_ | refine jS (k := ?_) | refine jT (k := ?_)))); (conv => whnf)
  refine r_cal (New_ok w) ?_
  rintro _ w1 ⟨ab, mb, rfl, hx1, ha, hm, h1⟩
  have n1 := ps_new ha hm
  (repeat ((conv => whnf); (first | (with_reducible first | refine jA ?_ | refine jB ?_ | refine jC ?_ | refine jD ?_) | refine jE ?_ | refine jF ?_ | refine jG ?_ | refine jH ?_ | refine jI ?_ | refine jJ ?_ | refine jK ?_ | refine jL ?_ | refine jM ?_ | refine jN ?_ | refine jO ?_ | refine jP ?_ | refine jQ ?_ | refine jR ?_ | refine jS (k := ?_) | refine jT (k := ?_)))); (conv => whnf)
  refine r_cal (Put_ok h1 (e := E5) (by unfold Wf; decide) (by simp)) ?_
  rintro _ w2 ⟨g2, c2, l2, h2, m2, a2, k2⟩
  have hx2 := Chg.ps hx1 k2 n1
  have n2 := a2.new n1 hx1.size
  have M2 : ∀ x, x ∈ l2 ↔ x = E5 := fun x => by rw [m2]; simp
  have L2 : l2.length ≤ 1 := dist_le (r := [E5]) h2.pile.dist fun x hx => by simp [(M2 x).1 hx]
  (repeat ((conv => whnf); (first | (with_reducible first | refine jA ?_ | refine jB ?_ | refine jC ?_ | refine jD ?_) | refine jE ?_ | refine jF ?_ | refine jG ?_ | refine jH ?_ | refine jI ?_ | refine jJ ?_ | refine jK ?_ | refine jL ?_ | refine jM ?_ | refine jN ?_ | refine jO ?_ | refine jP ?_ | refine jQ ?_ | refine jR ?_ | refine jS (k := ?_) | refine jT (k := ?_)))); (conv => whnf)
  refine r_cal (Put_ok h2 (e := E2) (by unfold Wf; decide) (by omega)) ?_
  rintro _ w3 ⟨g3, c3, l3, h3, m3, a3, k3⟩
  have hx3 := Chg.ps hx2 k3 n2
  have n3 := a3.new n2 hx2.size
  have M3 : ∀ x, x ∈ l3 ↔ x = E2 ∨ x = E5 := fun x => by
    rw [m3, M2]
    constructor
    · rintro (h | h)
      · exact .inl h
      · exact .inr h.1
    · rintro (h | h)
      · exact .inl h
      · subst h; exact .inr ⟨rfl, by decide⟩
  have L3 : l3.length ≤ 2 := dist_le (r := [E2, E5]) h3.pile.dist fun x hx => by simpa using (M3 x).1 hx
  (repeat ((conv => whnf); (first | (with_reducible first | refine jA ?_ | refine jB ?_ | refine jC ?_ | refine jD ?_) | refine jE ?_ | refine jF ?_ | refine jG ?_ | refine jH ?_ | refine jI ?_ | refine jJ ?_ | refine jK ?_ | refine jL ?_ | refine jM ?_ | refine jN ?_ | refine jO ?_ | refine jP ?_ | refine jQ ?_ | refine jR ?_ | refine jS (k := ?_) | refine jT (k := ?_)))); (conv => whnf)
  refine r_cal (Put_ok h3 (e := E9) (by unfold Wf; decide) (by omega)) ?_
  rintro _ w4 ⟨g4, c4, l4, h4, m4, a4, k4⟩
  have hx4 := Chg.ps hx3 k4 n3
  have n4 := a4.new n3 hx3.size
  have M4 : ∀ x, x ∈ l4 ↔ x = E9 ∨ x = E2 ∨ x = E5 := fun x => by
    rw [m4, M3]
    constructor
    · rintro (h | h)
      · exact .inl h
      · exact .inr h.1
    · rintro (h | h | h)
      · exact .inl h
      · subst h; exact .inr ⟨.inl rfl, by decide⟩
      · subst h; exact .inr ⟨.inr rfl, by decide⟩
  obtain ⟨f4, p4⟩ := take_first h4 ((M4 E9).2 (.inl rfl)) fun x hx => by
    rcases (M4 x).1 hx with h | h | h
    · exact .inl h
    · subst h; exact .inr (by decide)
    · subst h; exact .inr (by decide)
  (repeat ((conv => whnf); (first | (with_reducible first | refine jA ?_ | refine jB ?_ | refine jC ?_ | refine jD ?_) | refine jE ?_ | refine jF ?_ | refine jG ?_ | refine jH ?_ | refine jI ?_ | refine jJ ?_ | refine jK ?_ | refine jL ?_ | refine jM ?_ | refine jN ?_ | refine jO ?_ | refine jP ?_ | refine jQ ?_ | refine jR ?_ | refine jS (k := ?_) | refine jT (k := ?_)))); (conv => whnf)
  refine r_cal (Take_ok h4) ?_
  rintro _ w5 ⟨rfl, l5, h5, m5, k5⟩
  rw [f4, decide_eq_true p4]
  rw [f4] at m5
  have hx5 := Chg.ps hx4 k5 n4
  have M5 : ∀ x, x ∈ l5 ↔ x = E2 ∨ x = E5 := fun x => by
    rw [m5, M4]
    constructor
    · rintro ⟨h | h, h'⟩
      · subst h; exact absurd rfl h'
      · exact h
    · rintro (h | h)
      · subst h; exact ⟨.inr (.inl rfl), by decide⟩
      · subst h; exact ⟨.inr (.inr rfl), by decide⟩
  obtain ⟨f5, p5⟩ := take_first h5 ((M5 E2).2 (.inl rfl)) fun x hx => by
    rcases (M5 x).1 hx with h | h
    · exact .inl h
    · subst h; exact .inr (by decide)
  (repeat ((conv => whnf); (first | (with_reducible first | refine jA ?_ | refine jB ?_ | refine jC ?_ | refine jD ?_) | refine jE ?_ | refine jF ?_ | refine jG ?_ | refine jH ?_ | refine jI ?_ | refine jJ ?_ | refine jK ?_ | refine jL ?_ | refine jM ?_ | refine jN ?_ | refine jO ?_ | refine jP ?_ | refine jQ ?_ | refine jR ?_ | refine jS (k := ?_) | refine jT (k := ?_)))); (conv => whnf)
  refine r_new fun b1 w6 hx6 hb6 hs6 hblk6 => ?_
  (repeat ((conv => whnf); (first | (with_reducible first | refine jA ?_ | refine jB ?_ | refine jC ?_ | refine jD ?_) | refine jE ?_ | refine jF ?_ | refine jG ?_ | refine jH ?_ | refine jI ?_ | refine jJ ?_ | refine jK ?_ | refine jL ?_ | refine jM ?_ | refine jN ?_ | refine jO ?_ | refine jP ?_ | refine jQ ?_ | refine jR ?_ | refine jS (k := ?_) | refine jT (k := ?_)))); (conv => whnf)
  refine r_stn hblk6 (by simp [En.cells]) (cells_one E9) fun w7 hc7 hs7 hblk7 => ?_
  have hblk7 : Blk w7 b1 28 [.int .i64 9, .int .i64 0, .int .i64 0] := hblk7
  have y7 : Ext w5 w7 := Chg.step hx6 hc7 fun k hk hlt => by omega
  have hx7 := hx5.trans y7
  have q1 : ¬ PS ab mb g4 b1 := fun e => by have := h5.pile.lt e; omega
  (repeat ((conv => whnf); (first | (with_reducible first | refine jA ?_ | refine jB ?_ | refine jC ?_ | refine jD ?_) | refine jE ?_ | refine jF ?_ | refine jG ?_ | refine jH ?_ | refine jI ?_ | refine jJ ?_ | refine jK ?_ | refine jL ?_ | refine jM ?_ | refine jN ?_ | refine jO ?_ | refine jP ?_ | refine jQ ?_ | refine jR ?_ | refine jS (k := ?_) | refine jT (k := ?_)))); (conv => whnf)
  refine r_cal (Take_ok (h5.ext y7)) ?_
  rintro _ w8 ⟨rfl, l8, h8, m8, k8⟩
  rw [f5, decide_eq_true p5]
  rw [f5] at m8
  have hblk7 := hblk7.keep k8 q1
  have lb1 := hblk7.lt
  have hx8 := Chg.ps hx7 k8 n4
  have M8 : ∀ x, x ∈ l8 ↔ x = E5 := fun x => by
    rw [m8, M5]
    constructor
    · rintro ⟨h | h, h'⟩
      · subst h; exact absurd rfl h'
      · exact h
    · intro h
      subst h; exact ⟨.inr rfl, by decide⟩
  obtain ⟨f8, p8⟩ := take_first h8 ((M8 E5).2 rfl) fun x hx => .inl ((M8 x).1 hx)
  (repeat ((conv => whnf); (first | (with_reducible first | refine jA ?_ | refine jB ?_ | refine jC ?_ | refine jD ?_) | refine jE ?_ | refine jF ?_ | refine jG ?_ | refine jH ?_ | refine jI ?_ | refine jJ ?_ | refine jK ?_ | refine jL ?_ | refine jM ?_ | refine jN ?_ | refine jO ?_ | refine jP ?_ | refine jQ ?_ | refine jR ?_ | refine jS (k := ?_) | refine jT (k := ?_)))); (conv => whnf)
  refine r_new fun b2 w9 hx9 hb9 hs9 hblk9 => ?_
  have hblk7 := hblk7.ext hx9
  have hne12 : ¬ b1 = b2 := by omega
  (repeat ((conv => whnf); (first | (with_reducible first | refine jA ?_ | refine jB ?_ | refine jC ?_ | refine jD ?_) | refine jE ?_ | refine jF ?_ | refine jG ?_ | refine jH ?_ | refine jI ?_ | refine jJ ?_ | refine jK ?_ | refine jL ?_ | refine jM ?_ | refine jN ?_ | refine jO ?_ | refine jP ?_ | refine jQ ?_ | refine jR ?_ | refine jS (k := ?_) | refine jT (k := ?_)))); (conv => whnf)
  refine r_stn hblk9 (by simp [En.cells]) (cells_one E2) fun w10 hc10 hs10 hblk10 => ?_
  have hblk10 : Blk w10 b2 28 [.int .i64 2, .int .i64 1, .int .i64 0] := hblk10
  have hblk7 := hblk7.keep hc10 hne12
  have y10 : Ext w8 w10 := Chg.step hx9 hc10 fun k hk hlt => by omega
  have hx10 := hx8.trans y10
  have q2 : ¬ PS ab mb g4 b2 := fun e => by have := h8.pile.lt e; omega
  (repeat ((conv => whnf); (first | (with_reducible first | refine jA ?_ | refine jB ?_ | refine jC ?_ | refine jD ?_) | refine jE ?_ | refine jF ?_ | refine jG ?_ | refine jH ?_ | refine jI ?_ | refine jJ ?_ | refine jK ?_ | refine jL ?_ | refine jM ?_ | refine jN ?_ | refine jO ?_ | refine jP ?_ | refine jQ ?_ | refine jR ?_ | refine jS (k := ?_) | refine jT (k := ?_)))); (conv => whnf)
  refine r_cal (Take_ok (h8.ext y10)) ?_
  rintro _ w11 ⟨rfl, l11, h11, m11, k11⟩
  rw [f8, decide_eq_true p8]
  rw [f8] at m11
  have hblk7 := hblk7.keep k11 q1
  have hblk10 := hblk10.keep k11 q2
  have lb2 := hblk7.lt
  have lb3 := hblk10.lt
  have hx11 := Chg.ps hx10 k11 n4
  have L11 : l11.length = 0 := by
    have : l11 = [] := List.eq_nil_iff_forall_not_mem.2 fun x hx => by
      obtain ⟨h, h'⟩ := (m11 x).1 hx
      rw [(M8 x).1 h] at h'
      exact h' rfl
    rw [this]
    rfl
  (repeat ((conv => whnf); (first | (with_reducible first | refine jA ?_ | refine jB ?_ | refine jC ?_ | refine jD ?_) | refine jE ?_ | refine jF ?_ | refine jG ?_ | refine jH ?_ | refine jI ?_ | refine jJ ?_ | refine jK ?_ | refine jL ?_ | refine jM ?_ | refine jN ?_ | refine jO ?_ | refine jP ?_ | refine jQ ?_ | refine jR ?_ | refine jS (k := ?_) | refine jT (k := ?_)))); (conv => whnf)
  refine r_new fun b3 w12 hx12 hb12' hs12 hblk12 => ?_
  have hblk7 := hblk7.ext hx12
  have hblk10 := hblk10.ext hx12
  have hl1 := hblk7.lt
  have hl2 := hblk10.lt
  have z8 := k11.size
  have z10 := y10.size
  have z8' := k8.size
  have z7 := y7.size
  (repeat ((conv => whnf); (first | (with_reducible first | refine jA ?_ | refine jB ?_ | refine jC ?_ | refine jD ?_) | refine jE ?_ | refine jF ?_ | refine jG ?_ | refine jH ?_ | refine jI ?_ | refine jJ ?_ | refine jK ?_ | refine jL ?_ | refine jM ?_ | refine jN ?_ | refine jO ?_ | refine jP ?_ | refine jQ ?_ | refine jR ?_ | refine jS (k := ?_) | refine jT (k := ?_)))); (conv => whnf)
  refine r_stn hblk12 (by simp [En.cells]) (cells_one E5) fun w13 hc13 hs13 hblk13 => ?_
  have hblk13 : Blk w13 b3 28 [.int .i64 5, .int .i64 1, .int .i64 0] := hblk13
  have hblk7 := hblk7.keep hc13 (by omega)
  have hblk10 := hblk10.keep hc13 (by omega)
  have y13 : Ext w11 w13 := Chg.step hx12 hc13 fun k hk hlt => by omega
  (repeat ((conv => whnf); (first | (with_reducible first | refine jA ?_ | refine jB ?_ | refine jC ?_ | refine jD ?_) | refine jE ?_ | refine jF ?_ | refine jG ?_ | refine jH ?_ | refine jI ?_ | refine jJ ?_ | refine jK ?_ | refine jL ?_ | refine jM ?_ | refine jN ?_ | refine jO ?_ | refine jP ?_ | refine jQ ?_ | refine jR ?_ | refine jS (k := ?_) | refine jT (k := ?_)))); (conv => whnf)
  refine r_cal (aLen_ok (h11.ext y13)) ?_
  rintro _ w14 ⟨rfl, rfl⟩
  (repeat ((conv => whnf); (first | (with_reducible first | refine jA ?_ | refine jB ?_ | refine jC ?_ | refine jD ?_) | refine jE ?_ | refine jF ?_ | refine jG ?_ | refine jH ?_ | refine jI ?_ | refine jJ ?_ | refine jK ?_ | refine jL ?_ | refine jM ?_ | refine jN ?_ | refine jO ?_ | refine jP ?_ | refine jQ ?_ | refine jR ?_ | refine jS (k := ?_) | refine jT (k := ?_)))); (conv => whnf)
  exact ⟨hx11.trans y13, by simp [L11]⟩
set_option maxRecDepth 100000 in
theorem nilLaw_ok (w : World) (e : En) : Cal Try.prog 6 ⟨[.agg ⟨e.cells⟩]⟩ w fun v w' => v = .bool true ∧ Ext w w' := by
  refine go6 (by rfl) ?_
  (repeat ((conv => whnf); (first | (with_reducible first | refine jA ?_ | refine jB ?_ | refine jC ?_ | refine jD ?_) | refine jE ?_ | refine jF ?_ | refine jG ?_ | refine jH ?_ | refine jI ?_ | refine jJ ?_ | refine jK ?_ | refine jL ?_ | refine jM ?_ | refine jN ?_ | refine jO ?_ | refine jP ?_ | refine jQ ?_ | refine jR ?_ | refine jS (k := ?_) | refine jT (k := ?_)))); (conv => whnf)
  refine r_new fun q w1 hx1 hb1 hs1 hblk => ?_
  have hblk : Blk w1 q 28 [.int .i64 e.place, .int .i64 e.order, .int .i64 e.out] := hblk
  (repeat ((conv => whnf); (first | (with_reducible first | refine jA ?_ | refine jB ?_ | refine jC ?_ | refine jD ?_) | refine jE ?_ | refine jF ?_ | refine jG ?_ | refine jH ?_ | refine jI ?_ | refine jJ ?_ | refine jK ?_ | refine jL ?_ | refine jM ?_ | refine jN ?_ | refine jO ?_ | refine jP ?_ | refine jQ ?_ | refine jR ?_ | refine jS (k := ?_) | refine jT (k := ?_)))); (conv => whnf)
  refine r_ldnb (vs := e.cells) hblk rfl rfl ?_
  (repeat ((conv => whnf); (first | (with_reducible first | refine jA ?_ | refine jB ?_ | refine jC ?_ | refine jD ?_) | refine jE ?_ | refine jF ?_ | refine jG ?_ | refine jH ?_ | refine jI ?_ | refine jJ ?_ | refine jK ?_ | refine jL ?_ | refine jM ?_ | refine jN ?_ | refine jO ?_ | refine jP ?_ | refine jQ ?_ | refine jR ?_ | refine jS (k := ?_) | refine jT (k := ?_)))); (conv => whnf)
  refine r_cal (Put_nil w1 e) ?_
  intro _ w2 hx2
  have hblk := hblk.ext hx2
  have y2 := hx1.trans hx2
  (repeat ((conv => whnf); (first | (with_reducible first | refine jA ?_ | refine jB ?_ | refine jC ?_ | refine jD ?_) | refine jE ?_ | refine jF ?_ | refine jG ?_ | refine jH ?_ | refine jI ?_ | refine jJ ?_ | refine jK ?_ | refine jL ?_ | refine jM ?_ | refine jN ?_ | refine jO ?_ | refine jP ?_ | refine jQ ?_ | refine jR ?_ | refine jS (k := ?_) | refine jT (k := ?_)))); (conv => whnf)
  refine r_cal (Has_nil w2 e.place) ?_
  rintro _ w3 ⟨hx3, rfl⟩
  have hblk := hblk.ext hx3
  have y3 := y2.trans hx3
  (repeat ((conv => whnf); (first | (with_reducible first | refine jA ?_ | refine jB ?_ | refine jC ?_ | refine jD ?_) | refine jE ?_ | refine jF ?_ | refine jG ?_ | refine jH ?_ | refine jI ?_ | refine jJ ?_ | refine jK ?_ | refine jL ?_ | refine jM ?_ | refine jN ?_ | refine jO ?_ | refine jP ?_ | refine jQ ?_ | refine jR ?_ | refine jS (k := ?_) | refine jT (k := ?_)))); (conv => whnf)
  refine r_new fun b1 w4 hx4 hb4 hs4 hblk4 => ?_
  (repeat ((conv => whnf); (first | (with_reducible first | refine jA ?_ | refine jB ?_ | refine jC ?_ | refine jD ?_) | refine jE ?_ | refine jF ?_ | refine jG ?_ | refine jH ?_ | refine jI ?_ | refine jJ ?_ | refine jK ?_ | refine jL ?_ | refine jM ?_ | refine jN ?_ | refine jO ?_ | refine jP ?_ | refine jQ ?_ | refine jR ?_ | refine jS (k := ?_) | refine jT (k := ?_)))); (conv => whnf)
  refine r_stn hblk4 (by simp [En.cells]) (cells_one ⟨0, 0, 0⟩) fun w5 hc5 hs5 hblk5 => ?_
  have hx5 : Ext w3 w5 := Chg.step hx4 hc5 fun k hk hlt => by omega
  have hblk := hblk.ext hx5
  have y5 := y3.trans hx5
  (repeat ((conv => whnf); (first | (with_reducible first | refine jA ?_ | refine jB ?_ | refine jC ?_ | refine jD ?_) | refine jE ?_ | refine jF ?_ | refine jG ?_ | refine jH ?_ | refine jI ?_ | refine jJ ?_ | refine jK ?_ | refine jL ?_ | refine jM ?_ | refine jN ?_ | refine jO ?_ | refine jP ?_ | refine jQ ?_ | refine jR ?_ | refine jS (k := ?_) | refine jT (k := ?_)))); (conv => whnf)
  refine r_cal (Take_nil w5) ?_
  rintro _ w6 ⟨hx6, rfl⟩
  have hblk := hblk.ext hx6
  have y6 := y5.trans hx6
  (repeat ((conv => whnf); (first | (with_reducible first | refine jA ?_ | refine jB ?_ | refine jC ?_ | refine jD ?_) | refine jE ?_ | refine jF ?_ | refine jG ?_ | refine jH ?_ | refine jI ?_ | refine jJ ?_ | refine jK ?_ | refine jL ?_ | refine jM ?_ | refine jN ?_ | refine jO ?_ | refine jP ?_ | refine jQ ?_ | refine jR ?_ | refine jS (k := ?_) | refine jT (k := ?_)))); (conv => whnf)
  refine r_new fun b2 w7 hx7 hb7 hs7 hblk7 => ?_
  (repeat ((conv => whnf); (first | (with_reducible first | refine jA ?_ | refine jB ?_ | refine jC ?_ | refine jD ?_) | refine jE ?_ | refine jF ?_ | refine jG ?_ | refine jH ?_ | refine jI ?_ | refine jJ ?_ | refine jK ?_ | refine jL ?_ | refine jM ?_ | refine jN ?_ | refine jO ?_ | refine jP ?_ | refine jQ ?_ | refine jR ?_ | refine jS (k := ?_) | refine jT (k := ?_)))); (conv => whnf)
  refine r_stn hblk7 (by simp [En.cells]) (cells_one ⟨0, 0, 0⟩) fun w8 hc8 hs8 hblk8 => ?_
  have hx8 : Ext w6 w8 := Chg.step hx7 hc8 fun k hk hlt => by omega
  have hblk := hblk.ext hx8
  have y8 := y6.trans hx8
  (repeat ((conv => whnf); (first | (with_reducible first | refine jA ?_ | refine jB ?_ | refine jC ?_ | refine jD ?_) | refine jE ?_ | refine jF ?_ | refine jG ?_ | refine jH ?_ | refine jI ?_ | refine jJ ?_ | refine jK ?_ | refine jL ?_ | refine jM ?_ | refine jN ?_ | refine jO ?_ | refine jP ?_ | refine jQ ?_ | refine jR ?_ | refine jS (k := ?_) | refine jT (k := ?_)))); (conv => whnf)
  refine r_cal (fixed_ok w8) ?_
  rintro _ w9 ⟨hx9, rfl⟩
  have hblk := hblk.ext hx9
  (repeat ((conv => whnf); (first | (with_reducible first | refine jA ?_ | refine jB ?_ | refine jC ?_ | refine jD ?_) | refine jE ?_ | refine jF ?_ | refine jG ?_ | refine jH ?_ | refine jI ?_ | refine jJ ?_ | refine jK ?_ | refine jL ?_ | refine jM ?_ | refine jN ?_ | refine jO ?_ | refine jP ?_ | refine jQ ?_ | refine jR ?_ | refine jS (k := ?_) | refine jT (k := ?_)))); (conv => whnf)
  refine r_cal (Len_nil w9) ?_
  rintro _ w10 ⟨rfl, rfl⟩
  (repeat ((conv => whnf); (first | (with_reducible first | refine jA ?_ | refine jB ?_ | refine jC ?_ | refine jD ?_) | refine jE ?_ | refine jF ?_ | refine jG ?_ | refine jH ?_ | refine jI ?_ | refine jJ ?_ | refine jK ?_ | refine jL ?_ | refine jM ?_ | refine jN ?_ | refine jO ?_ | refine jP ?_ | refine jQ ?_ | refine jR ?_ | refine jS (k := ?_) | refine jT (k := ?_)))); (conv => whnf)
  refine r_cal (Drop_nil _ e.place) ?_
  rintro _ w11 ⟨rfl, rfl⟩
  (repeat ((conv => whnf); (first | (with_reducible first | refine jA ?_ | refine jB ?_ | refine jC ?_ | refine jD ?_) | refine jE ?_ | refine jF ?_ | refine jG ?_ | refine jH ?_ | refine jI ?_ | refine jJ ?_ | refine jK ?_ | refine jL ?_ | refine jM ?_ | refine jN ?_ | refine jO ?_ | refine jP ?_ | refine jQ ?_ | refine jR ?_ | refine jS (k := ?_) | refine jT (k := ?_)))); (conv => whnf)
  exact ⟨rfl, y8.trans hx9⟩
end Fb.Try.QU
