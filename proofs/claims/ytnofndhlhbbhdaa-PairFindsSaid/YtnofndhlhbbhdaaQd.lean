/-
  Walks: the heap's operations.
-/
import Derived.Test.YtnofndhlhbbhdaaQc
namespace Fb.Try.QU
open Go Go.Proofs Fb
theorem dist_le {l r : List En} (hl : Dist l) (h : ∀ x, x ∈ l → x ∈ r) : l.length ≤ r.length := by
  have := nodup_sub (l.map fun e => Value.int .i64 e.place) (r.map fun e => Value.int .i64 e.place) (by
    rw [List.pairwise_map, List.pairwise_iff_getElem]
    intro i j hi hj hij he
    have h1 := gt_get hi
    have h2 := gt_get hj
    rw [List.getElem?_eq_getElem hi] at h1
    rw [List.getElem?_eq_getElem hj] at h2
    have := hl i j hi hj (by rw [← Option.some.inj h1, ← Option.some.inj h2]; exact key_inj.1 he)
    omega) (fun x hx => by
    obtain ⟨e, he, rfl⟩ := List.mem_map.1 hx
    exact List.mem_map.2 ⟨e, h e he, rfl⟩)
  simpa using this
theorem take_mem {l : List En} (hd : Dist l) (h0 : 0 < l.length) (x : En) : x ∈ l.take (l.length - 1) ↔ x ∈ l ∧ x.place ≠ (gt l (l.length - 1)).place := by
  rw [mem_gt, mem_gt]
  constructor
  · rintro ⟨k, hk, rfl⟩
    rw [List.length_take] at hk
    rw [gt_take (n := l.length - 1) (k := k) (by omega)]
    refine ⟨⟨k, by omega, rfl⟩, fun e => ?_⟩
    have := hd k (l.length - 1) (by omega) (by omega) e
    omega
  · rintro ⟨⟨k, hk, rfl⟩, hne⟩
    have : k ≠ l.length - 1 := fun e => hne (by rw [e])
    exact ⟨k, by rw [List.length_take]; omega, by rw [gt_take (by omega)]⟩
theorem hp.congr {f f' : Nat → En} {n : Nat} (h : hp f n) (he : ∀ k, k < n → f' k = f k) : hp f' n := fun i h0 hi => by
  have : par i < i := by unfold par; omega
  rw [he i hi, he (par i) (by omega)]
  exact h i h0 hi
/-- The array is the one that there was, or a new one. -/
def Arr (w : World) (g g' : Option Nat) : Prop := g' = g ∨ ∃ y, g' = some y ∧ w.heap.size ≤ y
structure Ag (w : World) (ab mb : Nat) (g : Option Nat) (c : Nat) (l : List En) : Prop where
  pile : Pile w ab mb g c l
  heap : hp (gt l) l.length
section
variable {w w' : World} {ab mb c : Nat} {g : Option Nat} {l : List En}
theorem RS_PS (k : Nat) (h : RS mb g k) : PS ab mb g k := .inr h
theorem hPush_ok (h : Ag w ab mb g c l) {e : En} (he : Wf e) (hn : pos l e.place = none) (hl : l.length < 1000) : Cal Try.prog 51 ⟨[.iface 95 (.pointer (some ⟨ab, 0, none⟩)), .iface 28 (.agg ⟨e.cells⟩)]⟩ w fun _ w' => ∃ g' c' l', Ag w' ab mb g' c' l' ∧ (∀ x, x ∈ l' ↔ x = e ∨ x ∈ l) ∧ Arr w g g' ∧ Chg (PS ab mb g) w w' := by
  refine go51 (by rfl) ?_
  (repeat ((conv => whnf); (first | (with_reducible first | refine jA ?_ | refine jB ?_ | refine jC ?_ | refine jD ?_) | refine jE ?_ | refine jF ?_ | refine jG ?_ | refine jH ?_ | refine jI ?_ | refine jJ ?_ | refine jK ?_ | refine jL ?_ | refine jM ?_ | refine jN ?_ | refine jO ?_ | refine jP ?_ | refine jQ ?_ | refine jR ?_ | refine jS (k := ?_) | refine jT (k := ?_)))); (conv => whnf)
  refine r_calI (m_Push _) (by kernel_rfl) (Push_ok h.pile he hn hl) ?_
  rintro _ w1 ⟨g1, c1, h1, ha1, hc1⟩
  (repeat ((conv => whnf); (first | (with_reducible first | refine jA ?_ | refine jB ?_ | refine jC ?_ | refine jD ?_) | refine jE ?_ | refine jF ?_ | refine jG ?_ | refine jH ?_ | refine jI ?_ | refine jJ ?_ | refine jK ?_ | refine jL ?_ | refine jM ?_ | refine jN ?_ | refine jO ?_ | refine jP ?_ | refine jQ ?_ | refine jR ?_ | refine jS (k := ?_) | refine jT (k := ?_)))); (conv => whnf)
  refine r_calI (m_Len _) (by kernel_rfl) (Len_ok h1) ?_
  rintro _ w2 ⟨rfl, rfl⟩
  have hlen : (l ++ [e]).length = l.length + 1 := by simp
  (repeat ((conv => whnf); (first | (with_reducible first | refine jA ?_ | refine jB ?_ | refine jC ?_ | refine jD ?_) | refine jE ?_ | refine jF ?_ | refine jG ?_ | refine jH ?_ | refine jI ?_ | refine jJ ?_ | refine jK ?_ | refine jL ?_ | refine jM ?_ | refine jN ?_ | refine jO ?_ | refine jP ?_ | refine jQ ?_ | refine jR ?_ | refine jS (k := ?_) | refine jT (k := ?_)))); (conv => whnf)
  rw [show ((l ++ [e]).length : Int) - 1 = (l.length : Int) by omega]
  refine r_cal (up_ok h1 (n := l.length + 1) (j := l.length) (by omega) (by omega) ⟨fun i h0 hi hne => ?_, fun i h0 hi hp _ => ?_⟩) ?_
  · have : par i < i := by unfold par; omega
    rw [gt_app, gt_app, if_pos (by omega), if_pos (by omega)]
    exact h.heap i h0 (by omega)
  · unfold par at hp; omega
  rintro _ w3 ⟨l3, h3, hh, hs, hc3⟩
  (repeat ((conv => whnf); (first | (with_reducible first | refine jA ?_ | refine jB ?_ | refine jC ?_ | refine jD ?_) | refine jE ?_ | refine jF ?_ | refine jG ?_ | refine jH ?_ | refine jI ?_ | refine jJ ?_ | refine jK ?_ | refine jL ?_ | refine jM ?_ | refine jN ?_ | refine jO ?_ | refine jP ?_ | refine jQ ?_ | refine jR ?_ | refine jS (k := ?_) | refine jT (k := ?_)))); (conv => whnf)
  have hl3 := hs.len
  refine ⟨g1, c1, l3, ⟨h3, by rw [hl3, hlen]; exact hh⟩, fun x => ?_, ha1, Chg.step hc1 hc3 fun k hk hlt => ?_⟩
  · rw [hs.mem]
    simp only [List.mem_append, List.mem_singleton]
    exact or_comm
  · rcases hk with e' | e'
    · exact .inr (.inl e')
    · rcases ha1 with rfl | ⟨y, rfl, hy⟩
      · exact .inr (.inr e')
      · have := Option.some.inj e'; omega
theorem hPop_ok (h : Ag w ab mb g c l) (h0 : 0 < l.length) : Cal Try.prog 53 ⟨[.iface 95 (.pointer (some ⟨ab, 0, none⟩))]⟩ w fun _ w' => ∃ l', Ag w' ab mb g c l' ∧ (∀ x, x ∈ l' ↔ x ∈ l ∧ x.place ≠ (gt l 0).place) ∧ Chg (PS ab mb g) w w' := by
  have hlen := h.pile.len
  refine go53 (by rfl) ?_
  (repeat ((conv => whnf); (first | (with_reducible first | refine jA ?_ | refine jB ?_ | refine jC ?_ | refine jD ?_) | refine jE ?_ | refine jF ?_ | refine jG ?_ | refine jH ?_ | refine jI ?_ | refine jJ ?_ | refine jK ?_ | refine jL ?_ | refine jM ?_ | refine jN ?_ | refine jO ?_ | refine jP ?_ | refine jQ ?_ | refine jR ?_ | refine jS (k := ?_) | refine jT (k := ?_)))); (conv => whnf)
  refine r_calI (m_Len _) (by kernel_rfl) (Len_ok h.pile) ?_
  rintro _ w1 ⟨rfl, rfl⟩
  (repeat ((conv => whnf); (first | (with_reducible first | refine jA ?_ | refine jB ?_ | refine jC ?_ | refine jD ?_) | refine jE ?_ | refine jF ?_ | refine jG ?_ | refine jH ?_ | refine jI ?_ | refine jJ ?_ | refine jK ?_ | refine jL ?_ | refine jM ?_ | refine jN ?_ | refine jO ?_ | refine jP ?_ | refine jQ ?_ | refine jR ?_ | refine jS (k := ?_) | refine jT (k := ?_)))); (conv => whnf)
  rw [show (l.length : Int) - 1 = ((l.length - 1 : Nat) : Int) by omega]
  refine r_calI (m_Swap _) (by kernel_rfl) (Swap_ok h.pile (i := 0) (j := l.length - 1) (by omega) (by omega)) ?_
  rintro _ w2 ⟨h2, hc2⟩
  have hl2 := swL_len l 0 (l.length - 1)
  have hg2 := gt_sw_fun (l := l) (i := 0) (j := l.length - 1) (by omega) (by omega)
  (repeat ((conv => whnf); (first | (with_reducible first | refine jA ?_ | refine jB ?_ | refine jC ?_ | refine jD ?_) | refine jE ?_ | refine jF ?_ | refine jG ?_ | refine jH ?_ | refine jI ?_ | refine jJ ?_ | refine jK ?_ | refine jL ?_ | refine jM ?_ | refine jN ?_ | refine jO ?_ | refine jP ?_ | refine jQ ?_ | refine jR ?_ | refine jS (k := ?_) | refine jT (k := ?_)))); (conv => whnf)
  refine r_cal (down_ok h2 (n := l.length - 1) (i0 := 0) (by omega) (by omega) ?_) ?_
  · refine ⟨⟨fun i hi0 hi hne hp => ?_, fun i _ _ _ h => by omega⟩, fun h => absurd rfl h⟩
    have : par i < i := by unfold par; omega
    rw [hg2, sw_n _ hne (by omega), sw_n _ hp (by omega)]
    exact h.heap i hi0 (by omega)
  rintro _ w3 ⟨l3, b, rfl, h3, ht, hf, hs, hc3⟩
  have hl3 := hs.len
  have hh : hp (gt l3) (l.length - 1) := by
    cases b with
    | true => exact ht rfl
    | false => exact (hf rfl).done fun h => by omega
  (repeat ((conv => whnf); (first | (with_reducible first | refine jA ?_ | refine jB ?_ | refine jC ?_ | refine jD ?_) | refine jE ?_ | refine jF ?_ | refine jG ?_ | refine jH ?_ | refine jI ?_ | refine jJ ?_ | refine jK ?_ | refine jL ?_ | refine jM ?_ | refine jN ?_ | refine jO ?_ | refine jP ?_ | refine jQ ?_ | refine jR ?_ | refine jS (k := ?_) | refine jT (k := ?_)))); (conv => whnf)
  refine r_calI (m_Pop _) (by kernel_rfl) (Pop_ok h3 (by omega)) ?_
  rintro _ w4 ⟨h4, rfl, hc4⟩
  have ht3 : gt l3 (l3.length - 1) = gt l 0 := by
    rw [hs.tail _ (by omega), hg2, show l3.length - 1 = l.length - 1 by omega, sw_r]
  (repeat ((conv => whnf); (first | (with_reducible first | refine jA ?_ | refine jB ?_ | refine jC ?_ | refine jD ?_) | refine jE ?_ | refine jF ?_ | refine jG ?_ | refine jH ?_ | refine jI ?_ | refine jJ ?_ | refine jK ?_ | refine jL ?_ | refine jM ?_ | refine jN ?_ | refine jO ?_ | refine jP ?_ | refine jQ ?_ | refine jR ?_ | refine jS (k := ?_) | refine jT (k := ?_)))); (conv => whnf)
  refine ⟨_, ⟨h4, ?_⟩, fun x => ?_, ((hc2.mono fun k _ e => RS_PS k e).trans (hc3.mono fun k _ e => RS_PS k e)).trans hc4⟩
  · rw [List.length_take, show min (l3.length - 1) l3.length = l.length - 1 by omega]
    exact hh.congr fun k hk => gt_take (by omega)
  · rw [take_mem h3.dist (by omega), hs.mem, swL_mem (by omega) (by omega), ht3]
theorem hFix_ok {f : Nat → En} (h : Pile w ab mb g c l) (hf : hp f l.length) {i : Nat} (hi : i < l.length) (hg : ∀ k, k < l.length → k ≠ i → gt l k = f k) : Cal Try.prog 52 ⟨[.iface 95 (.pointer (some ⟨ab, 0, none⟩)), .int .i64 (i : Int)]⟩ w fun _ w' => ∃ l', Ag w' ab mb g c l' ∧ (∀ x, x ∈ l' ↔ x ∈ l) ∧ Chg (PS ab mb g) w w' := by
  have hlen := h.len
  refine go52 (by rfl) ?_
  (repeat ((conv => whnf); (first | (with_reducible first | refine jA ?_ | refine jB ?_ | refine jC ?_ | refine jD ?_) | refine jE ?_ | refine jF ?_ | refine jG ?_ | refine jH ?_ | refine jI ?_ | refine jJ ?_ | refine jK ?_ | refine jL ?_ | refine jM ?_ | refine jN ?_ | refine jO ?_ | refine jP ?_ | refine jQ ?_ | refine jR ?_ | refine jS (k := ?_) | refine jT (k := ?_)))); (conv => whnf)
  refine r_calI (m_Len _) (by kernel_rfl) (Len_ok h) ?_
  rintro _ w1 ⟨rfl, rfl⟩
  (repeat ((conv => whnf); (first | (with_reducible first | refine jA ?_ | refine jB ?_ | refine jC ?_ | refine jD ?_) | refine jE ?_ | refine jF ?_ | refine jG ?_ | refine jH ?_ | refine jI ?_ | refine jJ ?_ | refine jK ?_ | refine jL ?_ | refine jM ?_ | refine jN ?_ | refine jO ?_ | refine jP ?_ | refine jQ ?_ | refine jR ?_ | refine jS (k := ?_) | refine jT (k := ?_)))); (conv => whnf)
  refine r_cal (down_ok h (n := l.length) (i0 := i) (Nat.le_refl _) (by omega) (hole_of hf (Nat.le_refl _) hg hi)) ?_
  rintro _ w2 ⟨l2, b, rfl, h2, ht, hff, hs, hc2⟩
  have hl2 := hs.len
  cases b with
  | true =>
    (repeat ((conv => whnf); (first | (with_reducible first | refine jA ?_ | refine jB ?_ | refine jC ?_ | refine jD ?_) | refine jE ?_ | refine jF ?_ | refine jG ?_ | refine jH ?_ | refine jI ?_ | refine jJ ?_ | refine jK ?_ | refine jL ?_ | refine jM ?_ | refine jN ?_ | refine jO ?_ | refine jP ?_ | refine jQ ?_ | refine jR ?_ | refine jS (k := ?_) | refine jT (k := ?_)))); (conv => whnf)
    exact ⟨l2, ⟨h2, by rw [hl2]; exact ht rfl⟩, hs.mem, hc2.mono fun k _ e => RS_PS k e⟩
  | false =>
    (repeat ((conv => whnf); (first | (with_reducible first | refine jA ?_ | refine jB ?_ | refine jC ?_ | refine jD ?_) | refine jE ?_ | refine jF ?_ | refine jG ?_ | refine jH ?_ | refine jI ?_ | refine jJ ?_ | refine jK ?_ | refine jL ?_ | refine jM ?_ | refine jN ?_ | refine jO ?_ | refine jP ?_ | refine jQ ?_ | refine jR ?_ | refine jS (k := ?_) | refine jT (k := ?_)))); (conv => whnf)
    refine r_cal (up_ok h2 (n := l.length) (j := i) hi (by omega) (hff rfl)) ?_
    rintro _ w3 ⟨l3, h3, hh, hs3, hc3⟩
    (repeat ((conv => whnf); (first | (with_reducible first | refine jA ?_ | refine jB ?_ | refine jC ?_ | refine jD ?_) | refine jE ?_ | refine jF ?_ | refine jG ?_ | refine jH ?_ | refine jI ?_ | refine jJ ?_ | refine jK ?_ | refine jL ?_ | refine jM ?_ | refine jN ?_ | refine jO ?_ | refine jP ?_ | refine jQ ?_ | refine jR ?_ | refine jS (k := ?_) | refine jT (k := ?_)))); (conv => whnf)
    exact ⟨l3, ⟨h3, by rw [hs3.len, hl2]; exact hh⟩, fun x => (hs3.mem x).trans (hs.mem x), (hc2.trans hc3).mono fun k _ e => RS_PS k e⟩
theorem hRemove_ok (h : Ag w ab mb g c l) {i : Nat} (hi : i < l.length) : Cal Try.prog 55 ⟨[.iface 95 (.pointer (some ⟨ab, 0, none⟩)), .int .i64 (i : Int)]⟩ w fun _ w' => ∃ l', Ag w' ab mb g c l' ∧ (∀ x, x ∈ l' ↔ x ∈ l ∧ x.place ≠ (gt l i).place) ∧ Chg (PS ab mb g) w w' := by
  have hlen := h.pile.len
  refine go55 (by rfl) ?_
  (repeat ((conv => whnf); (first | (with_reducible first | refine jA ?_ | refine jB ?_ | refine jC ?_ | refine jD ?_) | refine jE ?_ | refine jF ?_ | refine jG ?_ | refine jH ?_ | refine jI ?_ | refine jJ ?_ | refine jK ?_ | refine jL ?_ | refine jM ?_ | refine jN ?_ | refine jO ?_ | refine jP ?_ | refine jQ ?_ | refine jR ?_ | refine jS (k := ?_) | refine jT (k := ?_)))); (conv => whnf)
  refine r_calI (m_Len _) (by kernel_rfl) (Len_ok h.pile) ?_
  rintro _ w1 ⟨rfl, rfl⟩
  by_cases hn : l.length - 1 = i
  · (repeat ((conv => whnf); (first | (with_reducible first | refine jA ?_ | refine jB ?_ | refine jC ?_ | refine jD ?_) | refine jE ?_ | refine jF ?_ | refine jG ?_ | refine jH ?_ | refine jI ?_ | refine jJ ?_ | refine jK ?_ | refine jL ?_ | refine jM ?_ | refine jN ?_ | refine jO ?_ | refine jP ?_ | refine jQ ?_ | refine jR ?_ | refine jS (k := ?_) | refine jT (k := ?_)))); (conv => whnf)
    refine r_calI (m_Pop _) (by kernel_rfl) (Pop_ok h.pile (by omega)) ?_
    rintro _ w2 ⟨h2, rfl, hc2⟩
    (repeat ((conv => whnf); (first | (with_reducible first | refine jA ?_ | refine jB ?_ | refine jC ?_ | refine jD ?_) | refine jE ?_ | refine jF ?_ | refine jG ?_ | refine jH ?_ | refine jI ?_ | refine jJ ?_ | refine jK ?_ | refine jL ?_ | refine jM ?_ | refine jN ?_ | refine jO ?_ | refine jP ?_ | refine jQ ?_ | refine jR ?_ | refine jS (k := ?_) | refine jT (k := ?_)))); (conv => whnf)
    refine ⟨_, ⟨h2, ?_⟩, fun x => by rw [take_mem h.pile.dist (by omega), hn], hc2⟩
    rw [List.length_take]
    intro k h0 hk
    have : par k < k := by unfold par; omega
    rw [gt_take (by omega), gt_take (by omega)]
    exact h.heap k h0 (by omega)
  · (repeat ((conv => whnf); (first | (with_reducible first | refine jA ?_ | refine jB ?_ | refine jC ?_ | refine jD ?_) | refine jE ?_ | refine jF ?_ | refine jG ?_ | refine jH ?_ | refine jI ?_ | refine jJ ?_ | refine jK ?_ | refine jL ?_ | refine jM ?_ | refine jN ?_ | refine jO ?_ | refine jP ?_ | refine jQ ?_ | refine jR ?_ | refine jS (k := ?_) | refine jT (k := ?_)))); (conv => whnf)
    rw [show (l.length : Int) - 1 = ((l.length - 1 : Nat) : Int) by omega]
    refine r_calI (m_Swap _) (by kernel_rfl) (Swap_ok h.pile (i := i) (j := l.length - 1) (by omega) (by omega)) ?_
    rintro _ w2 ⟨h2, hc2⟩
    have hl2 := swL_len l i (l.length - 1)
    have hg2 := gt_sw_fun (l := l) (i := i) (j := l.length - 1) (by omega) (by omega)
    (repeat ((conv => whnf); (first | (with_reducible first | refine jA ?_ | refine jB ?_ | refine jC ?_ | refine jD ?_) | refine jE ?_ | refine jF ?_ | refine jG ?_ | refine jH ?_ | refine jI ?_ | refine jJ ?_ | refine jK ?_ | refine jL ?_ | refine jM ?_ | refine jN ?_ | refine jO ?_ | refine jP ?_ | refine jQ ?_ | refine jR ?_ | refine jS (k := ?_) | refine jT (k := ?_)))); (conv => whnf)
    refine r_cal (down_ok h2 (n := l.length - 1) (i0 := i) (by omega) (by omega) (hole_of h.heap (by omega) (fun k hk hne => by rw [hg2, sw_n _ hne (by omega)]) (by omega))) ?_
    rintro _ w3 ⟨l3, b, rfl, h3, ht, hff, hs, hc3⟩
    have hl3 := hs.len
    have fin : ∀ (w4 : World) (l4 : List En), Pile w4 ab mb g c l4 → hp (gt l4) (l.length - 1) → Shuf (l.length - 1) (swL l i (l.length - 1)) l4 → 0 < l4.length ∧ (hp (gt (l4.take (l4.length - 1))) (l4.take (l4.length - 1)).length ∧ ∀ x, x ∈ l4.take (l4.length - 1) ↔ x ∈ l ∧ x.place ≠ (gt l i).place) := by
      intro w4 l4 h4 hh hs4
      have hl4 := hs4.len
      have ht4 : gt l4 (l4.length - 1) = gt l i := by
        rw [hs4.tail _ (by omega), hg2, show l4.length - 1 = l.length - 1 by omega, sw_r]
      refine ⟨by omega, ?_, fun x => ?_⟩
      · rw [List.length_take, show min (l4.length - 1) l4.length = l.length - 1 by omega]
        exact hh.congr fun k hk => gt_take (by omega)
      · rw [take_mem h4.dist (by omega), hs4.mem, swL_mem (by omega) (by omega), ht4]
    cases b with
    | true =>
      obtain ⟨f1, f2, f3⟩ := fin w3 l3 h3 (ht rfl) hs
      (repeat ((conv => whnf); (first | (with_reducible first | refine jA ?_ | refine jB ?_ | refine jC ?_ | refine jD ?_) | refine jE ?_ | refine jF ?_ | refine jG ?_ | refine jH ?_ | refine jI ?_ | refine jJ ?_ | refine jK ?_ | refine jL ?_ | refine jM ?_ | refine jN ?_ | refine jO ?_ | refine jP ?_ | refine jQ ?_ | refine jR ?_ | refine jS (k := ?_) | refine jT (k := ?_)))); (conv => whnf)
      refine r_calI (m_Pop _) (by kernel_rfl) (Pop_ok h3 f1) ?_
      rintro _ w4 ⟨h4, rfl, hc4⟩
      (repeat ((conv => whnf); (first | (with_reducible first | refine jA ?_ | refine jB ?_ | refine jC ?_ | refine jD ?_) | refine jE ?_ | refine jF ?_ | refine jG ?_ | refine jH ?_ | refine jI ?_ | refine jJ ?_ | refine jK ?_ | refine jL ?_ | refine jM ?_ | refine jN ?_ | refine jO ?_ | refine jP ?_ | refine jQ ?_ | refine jR ?_ | refine jS (k := ?_) | refine jT (k := ?_)))); (conv => whnf)
      exact ⟨_, ⟨h4, f2⟩, f3, ((hc2.mono fun k _ e => RS_PS k e).trans (hc3.mono fun k _ e => RS_PS k e)).trans hc4⟩
    | false =>
      (repeat ((conv => whnf); (first | (with_reducible first | refine jA ?_ | refine jB ?_ | refine jC ?_ | refine jD ?_) | refine jE ?_ | refine jF ?_ | refine jG ?_ | refine jH ?_ | refine jI ?_ | refine jJ ?_ | refine jK ?_ | refine jL ?_ | refine jM ?_ | refine jN ?_ | refine jO ?_ | refine jP ?_ | refine jQ ?_ | refine jR ?_ | refine jS (k := ?_) | refine jT (k := ?_)))); (conv => whnf)
      refine r_cal (up_ok h3 (n := l.length - 1) (j := i) (by omega) (by omega) (hff rfl)) ?_
      rintro _ w5 ⟨l5, h5, hh5, hs5, hc5⟩
      obtain ⟨f1, f2, f3⟩ := fin w5 l5 h5 hh5 (hs.trans hs5)
      (repeat ((conv => whnf); (first | (with_reducible first | refine jA ?_ | refine jB ?_ | refine jC ?_ | refine jD ?_) | refine jE ?_ | refine jF ?_ | refine jG ?_ | refine jH ?_ | refine jI ?_ | refine jJ ?_ | refine jK ?_ | refine jL ?_ | refine jM ?_ | refine jN ?_ | refine jO ?_ | refine jP ?_ | refine jQ ?_ | refine jR ?_ | refine jS (k := ?_) | refine jT (k := ?_)))); (conv => whnf)
      refine r_calI (m_Pop _) (by kernel_rfl) (Pop_ok h5 f1) ?_
      rintro _ w6 ⟨h6, rfl, hc6⟩
      (repeat ((conv => whnf); (first | (with_reducible first | refine jA ?_ | refine jB ?_ | refine jC ?_ | refine jD ?_) | refine jE ?_ | refine jF ?_ | refine jG ?_ | refine jH ?_ | refine jI ?_ | refine jJ ?_ | refine jK ?_ | refine jL ?_ | refine jM ?_ | refine jN ?_ | refine jO ?_ | refine jP ?_ | refine jQ ?_ | refine jR ?_ | refine jS (k := ?_) | refine jT (k := ?_)))); (conv => whnf)
      exact ⟨_, ⟨h6, f2⟩, f3, (((hc2.mono fun k _ e => RS_PS k e).trans (hc3.mono fun k _ e => RS_PS k e)).trans (hc5.mono fun k _ e => RS_PS k e)).trans hc6⟩
end
end Fb.Try.QU
