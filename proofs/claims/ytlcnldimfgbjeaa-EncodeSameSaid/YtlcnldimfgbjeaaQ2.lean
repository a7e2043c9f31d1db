/-
  Texts of ours in one file.
-/
import Derived.Test.YtlcnldimfgbjeaaQ1
/-
  Walks: the heap's operations.
-/
namespace Fb.Try.QU
open Go Go.Proofs Fb
theorem dist_le {l r : List En} (hl : Dist l) (h : ∀ x, x ∈ l → x ∈ r) : l.length ≤ r.length := by
  have := nodup_sub (l.map fun e => Value.int .i64 e.place) (r.map fun e => Value.int .i64 e.place) (by
    rw [List.pairwise_map, List.pairwise_iff_getElem]
    intro i j hi hj hij he
    have h1 := gt_get hi
    have h2 := gt_get hj
    rw [List.getElem?_eq_getElem hi] at h1
    rw [List.getElem?_eq_getElem hj] at h2
    have := hl i j hi hj (by rw [← Option.some.inj h1, ← Option.some.inj h2]; exact key_inj.1 he)
    omega) (fun x hx => by
    obtain ⟨e, he, rfl⟩ := List.mem_map.1 hx
    exact List.mem_map.2 ⟨e, h e he, rfl⟩)
  simpa using this
theorem take_mem {l : List En} (hd : Dist l) (h0 : 0 < l.length) (x : En) : x ∈ l.take (l.length - 1) ↔ x ∈ l ∧ x.place ≠ (gt l (l.length - 1)).place := by
  rw [mem_gt, mem_gt]
  constructor
  · rintro ⟨k, hk, rfl⟩
    rw [List.length_take] at hk
    rw [gt_take (n := l.length - 1) (k := k) (by omega)]
    refine ⟨⟨k, by omega, rfl⟩, fun e => ?_⟩
    have := hd k (l.length - 1) (by omega) (by omega) e
    omega
  · rintro ⟨⟨k, hk, rfl⟩, hne⟩
    have : k ≠ l.length - 1 := fun e => hne (by rw [e])
    exact ⟨k, by rw [List.length_take]; omega, by rw [gt_take (by omega)]⟩
theorem hp.congr {f f' : Nat → En} {n : Nat} (h : hp f n) (he : ∀ k, k < n → f' k = f k) : hp f' n := fun i h0 hi => by
  have : par i < i := by unfold par; omega
  rw [he i hi, he (par i) (by omega)]
  exact h i h0 hi
/-- The array is the one that there was, or a new one. -/
def Arr (w : World) (g g' : Option Nat) : Prop := g' = g ∨ ∃ y, g' = some y ∧ w.heap.size ≤ y
structure Ag (w : World) (ab mb : Nat) (g : Option Nat) (c : Nat) (l : List En) : Prop where
  pile : Pile w ab mb g c l
  heap : hp (gt l) l.length
section
variable {w w' : World} {ab mb c : Nat} {g : Option Nat} {l : List En}
theorem RS_PS (k : Nat) (h : RS mb g k) : PS ab mb g k := .inr h
theorem hPush_ok (h : Ag w ab mb g c l) {e : En} (he : Wf e) (hn : pos l e.place = none) (hl : l.length < 1000) : Cal Try.prog 41 ⟨[.iface 85 (.pointer (some ⟨ab, 0, none⟩)), .iface 28 (.agg ⟨e.cells⟩)]⟩ w fun _ w' => ∃ g' c' l', Ag w' ab mb g' c' l' ∧ (∀ x, x ∈ l' ↔ x = e ∨ x ∈ l) ∧ Arr w g g' ∧ Chg (PS ab mb g) w w' := by
  refine go41 (by rfl) ?_
  (repeat ((conv => whnf); (first | (with_reducible first | refine jA ?_ | refine jB ?_ | refine jC ?_ | refine jD ?_) | refine jE ?_ | refine jF ?_ | refine jG ?_ | refine jH ?_ | refine jI ?_ | refine jJ ?_ | refine jK ?_ | refine jL ?_ | refine jM ?_ | refine jN ?_ | refine jO ?_ | refine jP ?_ | refine jQ ?_ | refine jR ?_ | refine jS (k := ?_) | refine jT (k := ?_)))); (conv => whnf)
  refine r_calI (m_Push _) (by kernel_rfl) (Push_ok h.pile he hn hl) ?_
  rintro _ w1 ⟨g1, c1, h1, ha1, hc1⟩
  (repeat ((conv => whnf); (first | (with_reducible first | refine jA ?_ | refine jB ?_ | refine jC ?_ | refine jD ?_) | refine jE ?_ | refine jF ?_ | refine jG ?_ | refine jH ?_ | refine jI ?_ | refine jJ ?_ | refine jK ?_ | refine jL ?_ | refine jM ?_ | refine jN ?_ | refine jO ?_ | refine jP ?_ | refine jQ ?_ | refine jR ?_ | refine jS (k := ?_) | refine jT (k := ?_)))); (conv => whnf)
  refine r_calI (m_Len _) (by kernel_rfl) (Len_ok h1) ?_
  rintro _ w2 ⟨rfl, rfl⟩
  have hlen : (l ++ [e]).length = l.length + 1 := by simp
  (repeat ((conv => whnf); (first | (with_reducible first | refine jA ?_ | refine jB ?_ | refine jC ?_ | refine jD ?_) | refine jE ?_ | refine jF ?_ | refine jG ?_ | refine jH ?_ | refine jI ?_ | refine jJ ?_ | refine jK ?_ | refine jL ?_ | refine jM ?_ | refine jN ?_ | refine jO ?_ | refine jP ?_ | refine jQ ?_ | refine jR ?_ | refine jS (k := ?_) | refine jT (k := ?_)))); (conv => whnf)
  rw [show ((l ++ [e]).length : Int) - 1 = (l.length : Int) by omega]
  refine r_cal (up_ok h1 (n := l.length + 1) (j := l.length) (by omega) (by omega) ⟨fun i h0 hi hne => ?_, fun i h0 hi hp _ => ?_⟩) ?_
  · have : par i < i := by unfold par; omega
    rw [gt_app, gt_app, if_pos (by omega), if_pos (by omega)]
    exact h.heap i h0 (by omega)
  · unfold par at hp; omega
  rintro _ w3 ⟨l3, h3, hh, hs, hc3⟩
  (repeat ((conv => whnf); (first | (with_reducible first | refine jA ?_ | refine jB ?_ | refine jC ?_ | refine jD ?_) | refine jE ?_ | refine jF ?_ | refine jG ?_ | refine jH ?_ | refine jI ?_ | refine jJ ?_ | refine jK ?_ | refine jL ?_ | refine jM ?_ | refine jN ?_ | refine jO ?_ | refine jP ?_ | refine jQ ?_ | refine jR ?_ | refine jS (k := ?_) | refine jT (k := ?_)))); (conv => whnf)
  have hl3 := hs.len
  refine ⟨g1, c1, l3, ⟨h3, by rw [hl3, hlen]; exact hh⟩, fun x => ?_, ha1, Chg.step hc1 hc3 fun k hk hlt => ?_⟩
  · rw [hs.mem]
    simp only [List.mem_append, List.mem_singleton]
    exact or_comm
  · rcases hk with e' | e'
    · exact .inr (.inl e')
    · rcases ha1 with rfl | ⟨y, rfl, hy⟩
      · exact .inr (.inr e')
      · have := Option.some.inj e'; omega
theorem hPop_ok (h : Ag w ab mb g c l) (h0 : 0 < l.length) : Cal Try.prog 44 ⟨[.iface 85 (.pointer (some ⟨ab, 0, none⟩))]⟩ w fun _ w' => ∃ l', Ag w' ab mb g c l' ∧ (∀ x, x ∈ l' ↔ x ∈ l ∧ x.place ≠ (gt l 0).place) ∧ Chg (PS ab mb g) w w' := by
  have hlen := h.pile.len
  refine go44 (by rfl) ?_
  (repeat ((conv => whnf); (first | (with_reducible first | refine jA ?_ | refine jB ?_ | refine jC ?_ | refine jD ?_) | refine jE ?_ | refine jF ?_ | refine jG ?_ | refine jH ?_ | refine jI ?_ | refine jJ ?_ | refine jK ?_ | refine jL ?_ | refine jM ?_ | refine jN ?_ | refine jO ?_ | refine jP ?_ | refine jQ ?_ | refine jR ?_ | refine jS (k := ?_) | refine jT (k := ?_)))); (conv => whnf)
  refine r_calI (m_Len _) (by kernel_rfl) (Len_ok h.pile) ?_
  rintro _ w1 ⟨rfl, rfl⟩
  (repeat ((conv => whnf); (first | (with_reducible first | refine jA ?_ | refine jB ?_ | refine jC ?_ | refine jD ?_) | refine jE ?_ | refine jF ?_ | refine jG ?_ | refine jH ?_ | refine jI ?_ | refine jJ ?_ | refine jK ?_ | refine jL ?_ | refine jM ?_ | refine jN ?_ | refine jO ?_ | refine jP ?_ | refine jQ ?_ | refine jR ?_ | refine jS (k := ?_) | refine jT (k := ?_)))); (conv => whnf)
  rw [show (l.length : Int) - 1 = ((l.length - 1 : Nat) : Int) by omega]
  refine r_calI (m_Swap _) (by kernel_rfl) (Swap_ok h.pile (i := 0) (j := l.length - 1) (by omega) (by omega)) ?_
  rintro _ w2 ⟨h2, hc2⟩
  have hl2 := swL_len l 0 (l.length - 1)
  have hg2 := gt_sw_fun (l := l) (i := 0) (j := l.length - 1) (by omega) (by omega)
  (repeat ((conv => whnf); (first | (with_reducible first | refine jA ?_ | refine jB ?_ | refine jC ?_ | refine jD ?_) | refine jE ?_ | refine jF ?_ | refine jG ?_ | refine jH ?_ | refine jI ?_ | refine jJ ?_ | refine jK ?_ | refine jL ?_ | refine jM ?_ | refine jN ?_ | refine jO ?_ | refine jP ?_ | refine jQ ?_ | refine jR ?_ | refine jS (k := ?_) | refine jT (k := ?_)))); (conv => whnf)
  refine r_cal (down_ok h2 (n := l.length - 1) (i0 := 0) (by omega) (by omega) ?_) ?_
  · refine ⟨⟨fun i hi0 hi hne hp => ?_, fun i _ _ _ h => by omega⟩, fun h => absurd rfl h⟩
    have : par i < i := by unfold par; omega
    rw [hg2, sw_n _ hne (by omega), sw_n _ hp (by omega)]
    exact h.heap i hi0 (by omega)
  rintro _ w3 ⟨l3, b, rfl, h3, ht, hf, hs, hc3⟩
  have hl3 := hs.len
  have hh : hp (gt l3) (l.length - 1) := by
    cases b with
    | true => exact ht rfl
    | false => exact (hf rfl).done fun h => by omega
  (repeat ((conv => whnf); (first | (with_reducible first | refine jA ?_ | refine jB ?_ | refine jC ?_ | refine jD ?_) | refine jE ?_ | refine jF ?_ | refine jG ?_ | refine jH ?_ | refine jI ?_ | refine jJ ?_ | refine jK ?_ | refine jL ?_ | refine jM ?_ | refine jN ?_ | refine jO ?_ | refine jP ?_ | refine jQ ?_ | refine jR ?_ | refine jS (k := ?_) | refine jT (k := ?_)))); (conv => whnf)
  refine r_calI (m_Pop _) (by kernel_rfl) (Pop_ok h3 (by omega)) ?_
  rintro _ w4 ⟨h4, rfl, hc4⟩
  have ht3 : gt l3 (l3.length - 1) = gt l 0 := by
    rw [hs.tail _ (by omega), hg2, show l3.length - 1 = l.length - 1 by omega, sw_r]
  (repeat ((conv => whnf); (first | (with_reducible first | refine jA ?_ | refine jB ?_ | refine jC ?_ | refine jD ?_) | refine jE ?_ | refine jF ?_ | refine jG ?_ | refine jH ?_ | refine jI ?_ | refine jJ ?_ | refine jK ?_ | refine jL ?_ | refine jM ?_ | refine jN ?_ | refine jO ?_ | refine jP ?_ | refine jQ ?_ | refine jR ?_ | refine jS (k := ?_) | refine jT (k := ?_)))); (conv => whnf)
  refine ⟨_, ⟨h4, ?_⟩, fun x => ?_, ((hc2.mono fun k _ e => RS_PS k e).trans (hc3.mono fun k _ e => RS_PS k e)).trans hc4⟩
  · rw [List.length_take, show min (l3.length - 1) l3.length = l.length - 1 by omega]
    exact hh.congr fun k hk => gt_take (by omega)
  · rw [take_mem h3.dist (by omega), hs.mem, swL_mem (by omega) (by omega), ht3]
theorem hFix_ok {f : Nat → En} (h : Pile w ab mb g c l) (hf : hp f l.length) {i : Nat} (hi : i < l.length) (hg : ∀ k, k < l.length → k ≠ i → gt l k = f k) : Cal Try.prog 42 ⟨[.iface 85 (.pointer (some ⟨ab, 0, none⟩)), .int .i64 (i : Int)]⟩ w fun _ w' => ∃ l', Ag w' ab mb g c l' ∧ (∀ x, x ∈ l' ↔ x ∈ l) ∧ Chg (PS ab mb g) w w' := by
  have hlen := h.len
  refine go42 (by rfl) ?_
  (repeat ((conv => whnf); (first | (with_reducible first | refine jA ?_ | refine jB ?_ | refine jC ?_ | refine jD ?_) | refine jE ?_ | refine jF ?_ | refine jG ?_ | refine jH ?_ | refine jI ?_ | refine jJ ?_ | refine jK ?_ | refine jL ?_ | refine jM ?_ | refine jN ?_ | refine jO ?_ | refine jP ?_ | refine jQ ?_ | refine jR ?_ | refine jS (k := ?_) | refine jT (k := ?_)))); (conv => whnf)
  refine r_calI (m_Len _) (by kernel_rfl) (Len_ok h) ?_
  rintro _ w1 ⟨rfl, rfl⟩
  (repeat ((conv => whnf); (first | (with_reducible first | refine jA ?_ | refine jB ?_ | refine jC ?_ | refine jD ?_) | refine jE ?_ | refine jF ?_ | refine jG ?_ | refine jH ?_ | refine jI ?_ | refine jJ ?_ | refine jK ?_ | refine jL ?_ | refine jM ?_ | refine jN ?_ | refine jO ?_ | refine jP ?_ | refine jQ ?_ | refine jR ?_ | refine jS (k := ?_) | refine jT (k := ?_)))); (conv => whnf)
  refine r_cal (down_ok h (n := l.length) (i0 := i) (Nat.le_refl _) (by omega) (hole_of hf (Nat.le_refl _) hg hi)) ?_
  rintro _ w2 ⟨l2, b, rfl, h2, ht, hff, hs, hc2⟩
  have hl2 := hs.len
  cases b with
  | true =>
    (repeat ((conv => whnf); (first | (with_reducible first | refine jA ?_ | refine jB ?_ | refine jC ?_ | refine jD ?_) | refine jE ?_ | refine jF ?_ | refine jG ?_ | refine jH ?_ | refine jI ?_ | refine jJ ?_ | refine jK ?_ | refine jL ?_ | refine jM ?_ | refine jN ?_ | refine jO ?_ | refine jP ?_ | refine jQ ?_ | refine jR ?_ | refine jS (k := ?_) | refine jT (k := ?_)))); (conv => whnf)
    exact ⟨l2, ⟨h2, by rw [hl2]; exact ht rfl⟩, hs.mem, hc2.mono fun k _ e => RS_PS k e⟩
  | false =>
    (repeat ((conv => whnf); (first | (with_reducible first | refine jA ?_ | refine jB ?_ | refine jC ?_ | refine jD ?_) | refine jE ?_ | refine jF ?_ | refine jG ?_ | refine jH ?_ | refine jI ?_ | refine jJ ?_ | refine jK ?_ | refine jL ?_ | refine jM ?_ | refine jN ?_ | refine jO ?_ | refine jP ?_ | refine jQ ?_ | refine jR ?_ | refine jS (k := ?_) | refine jT (k := ?_)))); (conv => whnf)
    refine r_cal (up_ok h2 (n := l.length) (j := i) hi (by omega) (hff rfl)) ?_
    rintro _ w3 ⟨l3, h3, hh, hs3, hc3⟩
    (repeat ((conv => whnf); (first | (with_reducible first | refine jA ?_ | refine jB ?_ | refine jC ?_ | refine jD ?_) | refine jE ?_ | refine jF ?_ | refine jG ?_ | refine jH ?_ | refine jI ?_ | refine jJ ?_ | refine jK ?_ | refine jL ?_ | refine jM ?_ | refine jN ?_ | refine jO ?_ | refine jP ?_ | refine jQ ?_ | refine jR ?_ | refine jS (k := ?_) | refine jT (k := ?_)))); (conv => whnf)
    exact ⟨l3, ⟨h3, by rw [hs3.len, hl2]; exact hh⟩, fun x => (hs3.mem x).trans (hs.mem x), (hc2.trans hc3).mono fun k _ e => RS_PS k e⟩
theorem hRemove_ok (h : Ag w ab mb g c l) {i : Nat} (hi : i < l.length) : Cal Try.prog 43 ⟨[.iface 85 (.pointer (some ⟨ab, 0, none⟩)), .int .i64 (i : Int)]⟩ w fun _ w' => ∃ l', Ag w' ab mb g c l' ∧ (∀ x, x ∈ l' ↔ x ∈ l ∧ x.place ≠ (gt l i).place) ∧ Chg (PS ab mb g) w w' := by
  have hlen := h.pile.len
  refine go43 (by rfl) ?_
  (repeat ((conv => whnf); (first | (with_reducible first | refine jA ?_ | refine jB ?_ | refine jC ?_ | refine jD ?_) | refine jE ?_ | refine jF ?_ | refine jG ?_ | refine jH ?_ | refine jI ?_ | refine jJ ?_ | refine jK ?_ | refine jL ?_ | refine jM ?_ | refine jN ?_ | refine jO ?_ | refine jP ?_ | refine jQ ?_ | refine jR ?_ | refine jS (k := ?_) | refine jT (k := ?_)))); (conv => whnf)
  refine r_calI (m_Len _) (by kernel_rfl) (Len_ok h.pile) ?_
  rintro _ w1 ⟨rfl, rfl⟩
  by_cases hn : l.length - 1 = i
  · (repeat ((conv => whnf); (first | (with_reducible first | refine jA ?_ | refine jB ?_ | refine jC ?_ | refine jD ?_) | refine jE ?_ | refine jF ?_ | refine jG ?_ | refine jH ?_ | refine jI ?_ | refine jJ ?_ | refine jK ?_ | refine jL ?_ | refine jM ?_ | refine jN ?_ | refine jO ?_ | refine jP ?_ | refine jQ ?_ | refine jR ?_ | refine jS (k := ?_) | refine jT (k := ?_)))); (conv => whnf)
    refine r_calI (m_Pop _) (by kernel_rfl) (Pop_ok h.pile (by omega)) ?_
    rintro _ w2 ⟨h2, rfl, hc2⟩
    (repeat ((conv => whnf); (first | (with_reducible first | refine jA ?_ | refine jB ?_ | refine jC ?_ | refine jD ?_) | refine jE ?_ | refine jF ?_ | refine jG ?_ | refine jH ?_ | refine jI ?_ | refine jJ ?_ | refine jK ?_ | refine jL ?_ | refine jM ?_ | refine jN ?_ | refine jO ?_ | refine jP ?_ | refine jQ ?_ | refine jR ?_ | refine jS (k := ?_) | refine jT (k := ?_)))); (conv => whnf)
    refine ⟨_, ⟨h2, ?_⟩, fun x => by rw [take_mem h.pile.dist (by omega), hn], hc2⟩
    rw [List.length_take]
    intro k h0 hk
    have : par k < k := by unfold par; omega
    rw [gt_take (by omega), gt_take (by omega)]
    exact h.heap k h0 (by omega)
  · (repeat ((conv => whnf); (first | (with_reducible first | refine jA ?_ | refine jB ?_ | refine jC ?_ | refine jD ?_) | refine jE ?_ | refine jF ?_ | refine jG ?_ | refine jH ?_ | refine jI ?_ | refine jJ ?_ | refine jK ?_ | refine jL ?_ | refine jM ?_ | refine jN ?_ | refine jO ?_ | refine jP ?_ | refine jQ ?_ | refine jR ?_ | refine jS (k := ?_) | refine jT (k := ?_)))); (conv => whnf)
    rw [show (l.length : Int) - 1 = ((l.length - 1 : Nat) : Int) by omega]
    refine r_calI (m_Swap _) (by kernel_rfl) (Swap_ok h.pile (i := i) (j := l.length - 1) (by omega) (by omega)) ?_
    rintro _ w2 ⟨h2, hc2⟩
    have hl2 := swL_len l i (l.length - 1)
    have hg2 := gt_sw_fun (l := l) (i := i) (j := l.length - 1) (by omega) (by omega)
    (repeat ((conv => whnf); (first | (with_reducible first | refine jA ?_ | refine jB ?_ | refine jC ?_ | refine jD ?_) | refine jE ?_ | refine jF ?_ | refine jG ?_ | refine jH ?_ | refine jI ?_ | refine jJ ?_ | refine jK ?_ | refine jL ?_ | refine jM ?_ | refine jN ?_ | refine jO ?_ | refine jP ?_ | refine jQ ?_ | refine jR ?_ | refine jS (k := ?_) | refine jT (k := ?_)))); (conv => whnf)
    refine r_cal (down_ok h2 (n := l.length - 1) (i0 := i) (by omega) (by omega) (hole_of h.heap (by omega) (fun k hk hne => by rw [hg2, sw_n _ hne (by omega)]) (by omega))) ?_
    rintro _ w3 ⟨l3, b, rfl, h3, ht, hff, hs, hc3⟩
    have hl3 := hs.len
    have fin : ∀ (w4 : World) (l4 : List En), Pile w4 ab mb g c l4 → hp (gt l4) (l.length - 1) → Shuf (l.length - 1) (swL l i (l.length - 1)) l4 → 0 < l4.length ∧ (hp (gt (l4.take (l4.length - 1))) (l4.take (l4.length - 1)).length ∧ ∀ x, x ∈ l4.take (l4.length - 1) ↔ x ∈ l ∧ x.place ≠ (gt l i).place) := by
      intro w4 l4 h4 hh hs4
      have hl4 := hs4.len
      have ht4 : gt l4 (l4.length - 1) = gt l i := by
        rw [hs4.tail _ (by omega), hg2, show l4.length - 1 = l.length - 1 by omega, sw_r]
      refine ⟨by omega, ?_, fun x => ?_⟩
      · rw [List.length_take, show min (l4.length - 1) l4.length = l.length - 1 by omega]
        exact hh.congr fun k hk => gt_take (by omega)
      · rw [take_mem h4.dist (by omega), hs4.mem, swL_mem (by omega) (by omega), ht4]
    cases b with
    | true =>
      obtain ⟨f1, f2, f3⟩ := fin w3 l3 h3 (ht rfl) hs
      (repeat ((conv => whnf); (first | (with_reducible first | refine jA ?_ | refine jB ?_ | refine jC ?_ | refine jD ?_) | refine jE ?_ | refine jF ?_ | refine jG ?_ | refine jH ?_ | refine jI ?_ | refine jJ ?_ | refine jK ?_ | refine jL ?_ | refine jM ?_ | refine jN ?_ | refine jO ?_ | refine jP ?_ | refine jQ ?_ | refine jR ?_ | refine jS (k := ?_) | refine jT (k := ?_)))); (conv => whnf)
      refine r_calI (m_Pop _) (by kernel_rfl) (Pop_ok h3 f1) ?_
      rintro _ w4 ⟨h4, rfl, hc4⟩
      (repeat ((conv => whnf); (first | (with_reducible first | refine jA ?_ | refine jB ?_ | refine jC ?_ | refine jD ?_) | refine jE ?_ | refine jF ?_ | refine jG ?_ | refine jH ?_ | refine jI ?_ | refine jJ ?_ | refine jK ?_ | refine jL ?_ | refine jM ?_ | refine jN ?_ | refine jO ?_ | refine jP ?_ | refine jQ ?_ | refine jR ?_ | refine jS (k := ?_) | refine jT (k := ?_)))); (conv => whnf)
      exact ⟨_, ⟨h4, f2⟩, f3, ((hc2.mono fun k _ e => RS_PS k e).trans (hc3.mono fun k _ e => RS_PS k e)).trans hc4⟩
    | false =>
      (repeat ((conv => whnf); (first | (with_reducible first | refine jA ?_ | refine jB ?_ | refine jC ?_ | refine jD ?_) | refine jE ?_ | refine jF ?_ | refine jG ?_ | refine jH ?_ | refine jI ?_ | refine jJ ?_ | refine jK ?_ | refine jL ?_ | refine jM ?_ | refine jN ?_ | refine jO ?_ | refine jP ?_ | refine jQ ?_ | refine jR ?_ | refine jS (k := ?_) | refine jT (k := ?_)))); (conv => whnf)
      refine r_cal (up_ok h3 (n := l.length - 1) (j := i) (by omega) (by omega) (hff rfl)) ?_
      rintro _ w5 ⟨l5, h5, hh5, hs5, hc5⟩
      obtain ⟨f1, f2, f3⟩ := fin w5 l5 h5 hh5 (hs.trans hs5)
      (repeat ((conv => whnf); (first | (with_reducible first | refine jA ?_ | refine jB ?_ | refine jC ?_ | refine jD ?_) | refine jE ?_ | refine jF ?_ | refine jG ?_ | refine jH ?_ | refine jI ?_ | refine jJ ?_ | refine jK ?_ | refine jL ?_ | refine jM ?_ | refine jN ?_ | refine jO ?_ | refine jP ?_ | refine jQ ?_ | refine jR ?_ | refine jS (k := ?_) | refine jT (k := ?_)))); (conv => whnf)
      refine r_calI (m_Pop _) (by kernel_rfl) (Pop_ok h5 f1) ?_
      rintro _ w6 ⟨h6, rfl, hc6⟩
      (repeat ((conv => whnf); (first | (with_reducible first | refine jA ?_ | refine jB ?_ | refine jC ?_ | refine jD ?_) | refine jE ?_ | refine jF ?_ | refine jG ?_ | refine jH ?_ | refine jI ?_ | refine jJ ?_ | refine jK ?_ | refine jL ?_ | refine jM ?_ | refine jN ?_ | refine jO ?_ | refine jP ?_ | refine jQ ?_ | refine jR ?_ | refine jS (k := ?_) | refine jT (k := ?_)))); (conv => whnf)
      exact ⟨_, ⟨h6, f2⟩, f3, (((hc2.mono fun k _ e => RS_PS k e).trans (hc3.mono fun k _ e => RS_PS k e)).trans (hc5.mono fun k _ e => RS_PS k e)).trans hc6⟩
end
end Fb.Try.QU

/-
  Walks: an agenda's operations.
-/
namespace Fb.Try.QU
open Go Go.Proofs Fb
theorem idx_nil : (fun _ => none) = idx [] := idx_ext (fun _ => rfl) fun _ _ => rfl
theorem idx_at {l : List En} {p : Int} {i : Nat} (h : pos l p = some i) : idx l (.int .i64 p) = some (.int .i64 (i : Int)) := by simp [idx, h]
theorem idx_no {l : List En} {p : Int} (h : pos l p = none) : idx l (.int .i64 p) = none := by simp [idx, h]
section
variable {w w' : World} {ab mb c : Nat} {g : Option Nat} {l : List En}
theorem Ag.ext (h : Ag w ab mb g c l) (k : Ext w w') : Ag w' ab mb g c l := ⟨h.pile.ext k, h.heap⟩
theorem Ag.keep {S : Nat → Prop} (h : Ag w ab mb g c l) (k : Chg S w w') (hs : ∀ x, PS ab mb g x → ¬ S x) : Ag w' ab mb g c l := ⟨h.pile.keep k hs, h.heap⟩
theorem Pile.lt (h : Pile w ab mb g c l) {k : Nat} (hk : PS ab mb g k) : k < w.heap.size := by
  rcases hk with rfl | rfl | rfl
  · exact h.blk.lt
  · exact h.map.lt
  · obtain ⟨R, h1, _⟩ := h.row
    exact h1.lt
theorem New_ok (w : World) : Cal Try.prog 12 ⟨[]⟩ w fun v w' => ∃ ab mb, v = .pointer (some ⟨ab, 0, none⟩) ∧ Ext w w' ∧ w.heap.size ≤ ab ∧ w.heap.size ≤ mb ∧ Ag w' ab mb none 0 [] := by
  refine go12 (by rfl) ?_
  (repeat ((conv => whnf); (first | (with_reducible first | refine jA ?_ | refine jB ?_ | refine jC ?_ | refine jD ?_) | refine jE ?_ | refine jF ?_ | refine jG ?_ | refine jH ?_ | refine jI ?_ | refine jJ ?_ | refine jK ?_ | refine jL ?_ | refine jM ?_ | refine jN ?_ | refine jO ?_ | refine jP ?_ | refine jQ ?_ | refine jR ?_ | refine jS (k := ?_) | refine jT (k := ?_)))); (conv => whnf)
  refine r_makeMap (k := 3) fun w1 hx1 hs1 hm1 => ?_
  (repeat ((conv => whnf); (first | (with_reducible first | refine jA ?_ | refine jB ?_ | refine jC ?_ | refine jD ?_) | refine jE ?_ | refine jF ?_ | refine jG ?_ | refine jH ?_ | refine jI ?_ | refine jJ ?_ | refine jK ?_ | refine jL ?_ | refine jM ?_ | refine jN ?_ | refine jO ?_ | refine jP ?_ | refine jQ ?_ | refine jR ?_ | refine jS (k := ?_) | refine jT (k := ?_)))); (conv => whnf)
  refine r_new fun b w2 hx2 hb2 hs2 hblk2 => ?_
  have hblk2 : Blk w2 b 82 [.slice none 0 0, .map (some w.heap.size)] := hblk2
  (repeat ((conv => whnf); (first | (with_reducible first | refine jA ?_ | refine jB ?_ | refine jC ?_ | refine jD ?_) | refine jE ?_ | refine jF ?_ | refine jG ?_ | refine jH ?_ | refine jI ?_ | refine jJ ?_ | refine jK ?_ | refine jL ?_ | refine jM ?_ | refine jN ?_ | refine jO ?_ | refine jP ?_ | refine jQ ?_ | refine jR ?_ | refine jS (k := ?_) | refine jT (k := ?_)))); (conv => whnf)
  rw [idx_nil] at hm1
  refine ⟨b, w.heap.size, rfl, hx1.trans hx2, by omega, Nat.le_refl _, ⟨hblk2, ⟨rfl, rfl⟩, hm1.ext hx2, fun i j hi => absurd hi (Nat.not_lt_zero _), by simp, by simp⟩, fun i _ hi => absurd hi (Nat.not_lt_zero _)⟩
theorem aLen_ok (h : Ag w ab mb g c l) : Cal Try.prog 20 ⟨[.pointer (some ⟨ab, 0, none⟩)]⟩ w fun v w' => w' = w ∧ v = .int .i64 (l.length : Int) := by
  refine go20 (by rfl) ?_
  (repeat ((conv => whnf); (first | (with_reducible first | refine jA ?_ | refine jB ?_ | refine jC ?_ | refine jD ?_) | refine jE ?_ | refine jF ?_ | refine jG ?_ | refine jH ?_ | refine jI ?_ | refine jJ ?_ | refine jK ?_ | refine jL ?_ | refine jM ?_ | refine jN ?_ | refine jO ?_ | refine jP ?_ | refine jQ ?_ | refine jR ?_ | refine jS (k := ?_) | refine jT (k := ?_)))); (conv => whnf)
  refine r_cal (Len_ok h.pile) ?_
  rintro _ w1 ⟨rfl, rfl⟩
  (repeat ((conv => whnf); (first | (with_reducible first | refine jA ?_ | refine jB ?_ | refine jC ?_ | refine jD ?_) | refine jE ?_ | refine jF ?_ | refine jG ?_ | refine jH ?_ | refine jI ?_ | refine jJ ?_ | refine jK ?_ | refine jL ?_ | refine jM ?_ | refine jN ?_ | refine jO ?_ | refine jP ?_ | refine jQ ?_ | refine jR ?_ | refine jS (k := ?_) | refine jT (k := ?_)))); (conv => whnf)
  exact ⟨rfl, rfl⟩
theorem Put_ok (h : Ag w ab mb g c l) {e : En} (he : Wf e) (hl : l.length < 1000) : Cal Try.prog 13 ⟨[.pointer (some ⟨ab, 0, none⟩), .agg ⟨e.cells⟩]⟩ w fun _ w' => ∃ g' c' l', Ag w' ab mb g' c' l' ∧ (∀ x, x ∈ l' ↔ x = e ∨ (x ∈ l ∧ x.place ≠ e.place)) ∧ Arr w g g' ∧ Chg (PS ab mb g) w w' := by
  have hblk := h.pile.blk
  have hla := hblk.lt
  refine go13 (by rfl) ?_
  (repeat ((conv => whnf); (first | (with_reducible first | refine jA ?_ | refine jB ?_ | refine jC ?_ | refine jD ?_) | refine jE ?_ | refine jF ?_ | refine jG ?_ | refine jH ?_ | refine jI ?_ | refine jJ ?_ | refine jK ?_ | refine jL ?_ | refine jM ?_ | refine jN ?_ | refine jO ?_ | refine jP ?_ | refine jQ ?_ | refine jR ?_ | refine jS (k := ?_) | refine jT (k := ?_)))); (conv => whnf)
  refine r_new fun q w1 hx1 hb1 hs1 hblk1 => ?_
  have hblk1 : Blk w1 q 28 [.int .i64 e.place, .int .i64 e.order, .int .i64 e.out] := hblk1
  have hblka := hblk.ext hx1
  have hq : ¬ PS ab mb g q := fun e => by have := h.pile.lt e; omega
  (repeat ((conv => whnf); (first | (with_reducible first | refine jA ?_ | refine jB ?_ | refine jC ?_ | refine jD ?_) | refine jE ?_ | refine jF ?_ | refine jG ?_ | refine jH ?_ | refine jI ?_ | refine jJ ?_ | refine jK ?_ | refine jL ?_ | refine jM ?_ | refine jN ?_ | refine jO ?_ | refine jP ?_ | refine jQ ?_ | refine jR ?_ | refine jS (k := ?_) | refine jT (k := ?_)))); (conv => whnf)
  refine r_drawE fun w2 hx2 hh2 => ?_
  (repeat ((conv => whnf); (first | (with_reducible first | refine jA ?_ | refine jB ?_ | refine jC ?_ | refine jD ?_) | refine jE ?_ | refine jF ?_ | refine jG ?_ | refine jH ?_ | refine jI ?_ | refine jJ ?_ | refine jK ?_ | refine jL ?_ | refine jM ?_ | refine jN ?_ | refine jO ?_ | refine jP ?_ | refine jQ ?_ | refine jR ?_ | refine jS (k := ?_) | refine jT (k := ?_)))); (conv => whnf)
  refine r_lookE (h.pile.map.ext hx1) keyed umap zint (key_of he) ?_
  have hx02 := hx1.trans hx2
  have hblka := hblka.ext hx2
  have hblkq := hblk1.ext hx2
  cases hp : pos l e.place with
  | none =>
    rw [idx_no hp]
    (repeat ((conv => whnf); (first | (with_reducible first | refine jA ?_ | refine jB ?_ | refine jC ?_ | refine jD ?_) | refine jE ?_ | refine jF ?_ | refine jG ?_ | refine jH ?_ | refine jI ?_ | refine jJ ?_ | refine jK ?_ | refine jL ?_ | refine jM ?_ | refine jN ?_ | refine jO ?_ | refine jP ?_ | refine jQ ?_ | refine jR ?_ | refine jS (k := ?_) | refine jT (k := ?_)))); (conv => whnf)
    refine r_true (by rfl) ?_
    (repeat ((conv => whnf); (first | (with_reducible first | refine jA ?_ | refine jB ?_ | refine jC ?_ | refine jD ?_) | refine jE ?_ | refine jF ?_ | refine jG ?_ | refine jH ?_ | refine jI ?_ | refine jJ ?_ | refine jK ?_ | refine jL ?_ | refine jM ?_ | refine jN ?_ | refine jO ?_ | refine jP ?_ | refine jQ ?_ | refine jR ?_ | refine jS (k := ?_) | refine jT (k := ?_)))); (conv => whnf)
    refine r_drawS (PS ab mb g) fun w3 hx3 hh3 => ?_
    (repeat ((conv => whnf); (first | refine r_ldnbS' (vs := e.cells) hblkq rfl rfl hq ?_ | (with_reducible first | refine jA ?_ | refine jB ?_ | refine jC ?_ | refine jD ?_) | refine jE ?_ | refine jF ?_ | refine jG ?_ | refine jH ?_ | refine jI ?_ | refine jJ ?_ | refine jK ?_ | refine jL ?_ | refine jM ?_ | refine jN ?_ | refine jO ?_ | refine jP ?_ | refine jQ ?_ | refine jR ?_ | refine jS (k := ?_) | refine jT (k := ?_)))); (conv => whnf)
    have hx03 := hx02.trans hx3
    refine r_cal (hPush_ok (h.ext hx03) he hp hl) ?_
    rintro _ w4 ⟨g', c', l', h4, hm4, ha4, hc4⟩
    (repeat ((conv => whnf); (first | (with_reducible first | refine jA ?_ | refine jB ?_ | refine jC ?_ | refine jD ?_) | refine jE ?_ | refine jF ?_ | refine jG ?_ | refine jH ?_ | refine jI ?_ | refine jJ ?_ | refine jK ?_ | refine jL ?_ | refine jM ?_ | refine jN ?_ | refine jO ?_ | refine jP ?_ | refine jQ ?_ | refine jR ?_ | refine jS (k := ?_) | refine jT (k := ?_)))); (conv => whnf)
    refine r_held (Chg.step (hx3.wide _) hc4 fun k hk _ => hk) ?_
    (repeat ((conv => whnf); (first | (with_reducible first | refine jA ?_ | refine jB ?_ | refine jC ?_ | refine jD ?_) | refine jE ?_ | refine jF ?_ | refine jG ?_ | refine jH ?_ | refine jI ?_ | refine jJ ?_ | refine jK ?_ | refine jL ?_ | refine jM ?_ | refine jN ?_ | refine jO ?_ | refine jP ?_ | refine jQ ?_ | refine jR ?_ | refine jS (k := ?_) | refine jT (k := ?_)))); (conv => whnf)
    refine ⟨g', c', l', h4, fun x => ?_, ?_, Chg.step (hx03.wide _) hc4 fun k hk _ => hk⟩
    · rw [hm4]
      constructor
      · rintro (h1 | h1)
        · exact .inl h1
        · obtain ⟨k, hk, rfl⟩ := mem_gt.1 h1
          exact .inr ⟨h1, pos_none hp k hk⟩
      · rintro (h1 | h1)
        · exact .inl h1
        · exact .inr h1.1
    · rcases ha4 with rfl | ⟨y, rfl, hy⟩
      · exact .inl rfl
      · exact .inr ⟨y, rfl, by have := hx03.size; omega⟩
  | some i =>
    rw [idx_at hp]
    obtain ⟨hi, hpl⟩ := pos_some hp
    obtain ⟨x, R, rfl, hrow, hR, hlc, hc⟩ := h.pile.at (by omega)
    have hblka : Blk w2 ab 82 [.slice (some ⟨x, 0, none⟩) l.length c, .map (some mb)] := hblka
    have hax : ¬ ab = x := Blk.ne hblk hrow (by decide)
    have hfl := flat_len l
    (repeat ((conv => whnf); (first | (with_reducible first | refine jA ?_ | refine jB ?_ | refine jC ?_ | refine jD ?_) | refine jE ?_ | refine jF ?_ | refine jG ?_ | refine jH ?_ | refine jI ?_ | refine jJ ?_ | refine jK ?_ | refine jL ?_ | refine jM ?_ | refine jN ?_ | refine jO ?_ | refine jP ?_ | refine jQ ?_ | refine jR ?_ | refine jS (k := ?_) | refine jT (k := ?_)))); (conv => whnf)
    refine r_false (by rfl) ?_
    (repeat ((conv => whnf); (first | (with_reducible first | refine jA ?_ | refine jB ?_ | refine jC ?_ | refine jD ?_) | refine jE ?_ | refine jF ?_ | refine jG ?_ | refine jH ?_ | refine jI ?_ | refine jJ ?_ | refine jK ?_ | refine jL ?_ | refine jM ?_ | refine jN ?_ | refine jO ?_ | refine jP ?_ | refine jQ ?_ | refine jR ?_ | refine jS (k := ?_) | refine jT (k := ?_)))); (conv => whnf)
    refine r_drawE fun w3 hx3 hh3 => ?_
    (repeat ((conv => whnf); (first | refine r_ldnbE (vs := e.cells) hblkq rfl rfl ?_ | refine r_need rfl ?_ | (with_reducible first | refine jA ?_ | refine jB ?_ | refine jC ?_ | refine jD ?_) | refine jE ?_ | refine jF ?_ | refine jG ?_ | refine jH ?_ | refine jI ?_ | refine jJ ?_ | refine jK ?_ | refine jL ?_ | refine jM ?_ | refine jN ?_ | refine jO ?_ | refine jP ?_ | refine jQ ?_ | refine jR ?_ | refine jS (k := ?_) | refine jT (k := ?_)))); (conv => whnf)
    rw [adr0]
    have hx03 := hx02.trans hx3
    refine r_stn (hrow.ext hx03) (by rw [List.length_append]; simp [En.cells]; omega) (cells_one e) fun w4 hc4 hs4 hrow4 => ?_
    rw [flat_set hi] at hrow4
    have hx04 : Chg (fun k => k = x) w w4 := Chg.step (hx03.wide _) hc4 fun k hk _ => hk
    have hmx : ¬ mb = x := fun e => h.pile.map.ne hrow e.symm
    have h4 : Pile w4 ab mb (some x) c (l.set i e) := by
      refine ⟨by rw [List.length_set]; exact hblk.keep hx04 hax, ⟨R, hrow4, by rw [List.length_set]; exact hR, by rw [List.length_set]; exact hlc, hc⟩, ?_, set_dist h.pile.dist hi hpl.symm, by rw [List.length_set]; exact h.pile.len, fun y hy => ?_⟩
      · rw [idx_set h.pile.dist hi hpl.symm]
        exact h.pile.map.keep hx04 hmx
      · rcases List.mem_or_eq_of_mem_set hy with h1 | rfl
        · exact h.pile.wf y h1
        · exact he
    (repeat ((conv => whnf); (first | (with_reducible first | refine jA ?_ | refine jB ?_ | refine jC ?_ | refine jD ?_) | refine jE ?_ | refine jF ?_ | refine jG ?_ | refine jH ?_ | refine jI ?_ | refine jJ ?_ | refine jK ?_ | refine jL ?_ | refine jM ?_ | refine jN ?_ | refine jO ?_ | refine jP ?_ | refine jQ ?_ | refine jR ?_ | refine jS (k := ?_) | refine jT (k := ?_)))); (conv => whnf)
    refine r_cal (hFix_ok h4 (f := gt l) (i := i) (by rw [List.length_set]; exact h.heap) (by rw [List.length_set]; exact hi) (fun k _ hne => by rw [gt_set e hi, if_neg hne])) ?_
    rintro _ w5 ⟨l', h5, hm5, hc5⟩
    (repeat ((conv => whnf); (first | (with_reducible first | refine jA ?_ | refine jB ?_ | refine jC ?_ | refine jD ?_) | refine jE ?_ | refine jF ?_ | refine jG ?_ | refine jH ?_ | refine jI ?_ | refine jJ ?_ | refine jK ?_ | refine jL ?_ | refine jM ?_ | refine jN ?_ | refine jO ?_ | refine jP ?_ | refine jQ ?_ | refine jR ?_ | refine jS (k := ?_) | refine jT (k := ?_)))); (conv => whnf)
    refine ⟨some x, c, l', h5, fun y => ?_, .inl rfl, (hx04.mono fun k _ e => .inr (.inr (by rw [e]))).trans hc5⟩
    rw [hm5, mem_gt, List.length_set]
    constructor
    · rintro ⟨k, hk, rfl⟩
      rw [gt_set e hi]
      by_cases hki : k = i
      · rw [if_pos hki]; exact .inl rfl
      · rw [if_neg hki]
        refine .inr ⟨mem_gt.2 ⟨k, hk, rfl⟩, fun e' => hki ?_⟩
        exact h.pile.dist k i hk hi (by rw [e', hpl])
    · rintro (rfl | ⟨h1, h2⟩)
      · exact ⟨i, hi, by rw [gt_set _ hi, if_pos rfl]⟩
      · obtain ⟨k, hk, rfl⟩ := mem_gt.1 h1
        exact ⟨k, hk, by rw [gt_set _ hi, if_neg fun e' => h2 (by rw [e', hpl])]⟩
end
end Fb.Try.QU

/-
  Walks: an agenda's other operations; a nil agenda.
-/
namespace Fb.Try.QU
open Go Go.Proofs Fb
def hasE (l : List En) (p : Int) : En × Bool := match pos l p with
  | some i => (gt l i, true)
  | none => (⟨0, 0, 0⟩, false)
section
variable {w w' : World} {ab mb c : Nat} {g : Option Nat} {l : List En}
theorem Drop_ok (h : Ag w ab mb g c l) {p : Int} (hp : -9223372036854775808 ≤ p ∧ p ≤ 9223372036854775807) : Cal Try.prog 15 ⟨[.pointer (some ⟨ab, 0, none⟩), .int .i64 p]⟩ w fun v w' => v = .bool (pos l p).isSome ∧ ∃ l', Ag w' ab mb g c l' ∧ (∀ x, x ∈ l' ↔ x ∈ l ∧ x.place ≠ p) ∧ Chg (PS ab mb g) w w' := by
  have hblk := h.pile.blk
  refine go15 (by rfl) ?_
  (repeat ((conv => whnf); (first | (with_reducible first | refine jA ?_ | refine jB ?_ | refine jC ?_ | refine jD ?_) | refine jE ?_ | refine jF ?_ | refine jG ?_ | refine jH ?_ | refine jI ?_ | refine jJ ?_ | refine jK ?_ | refine jL ?_ | refine jM ?_ | refine jN ?_ | refine jO ?_ | refine jP ?_ | refine jQ ?_ | refine jR ?_ | refine jS (k := ?_) | refine jT (k := ?_)))); (conv => whnf)
  refine r_look h.pile.map keyed umap zint (key_of hp) ?_
  cases hq : pos l p with
  | none =>
    rw [idx_no hq]
    (repeat ((conv => whnf); (first | (with_reducible first | refine jA ?_ | refine jB ?_ | refine jC ?_ | refine jD ?_) | refine jE ?_ | refine jF ?_ | refine jG ?_ | refine jH ?_ | refine jI ?_ | refine jJ ?_ | refine jK ?_ | refine jL ?_ | refine jM ?_ | refine jN ?_ | refine jO ?_ | refine jP ?_ | refine jQ ?_ | refine jR ?_ | refine jS (k := ?_) | refine jT (k := ?_)))); (conv => whnf)
    refine r_false (by rfl) ?_
    (repeat ((conv => whnf); (first | (with_reducible first | refine jA ?_ | refine jB ?_ | refine jC ?_ | refine jD ?_) | refine jE ?_ | refine jF ?_ | refine jG ?_ | refine jH ?_ | refine jI ?_ | refine jJ ?_ | refine jK ?_ | refine jL ?_ | refine jM ?_ | refine jN ?_ | refine jO ?_ | refine jP ?_ | refine jQ ?_ | refine jR ?_ | refine jS (k := ?_) | refine jT (k := ?_)))); (conv => whnf)
    refine ⟨rfl, l, h, fun x => ⟨fun hx => ⟨hx, ?_⟩, fun hx => hx.1⟩, Chg.refl _ _⟩
    obtain ⟨k, hk, rfl⟩ := mem_gt.1 hx
    exact pos_none hq k hk
  | some i =>
    rw [idx_at hq]
    obtain ⟨hi, hpl⟩ := pos_some hq
    (repeat ((conv => whnf); (first | (with_reducible first | refine jA ?_ | refine jB ?_ | refine jC ?_ | refine jD ?_) | refine jE ?_ | refine jF ?_ | refine jG ?_ | refine jH ?_ | refine jI ?_ | refine jJ ?_ | refine jK ?_ | refine jL ?_ | refine jM ?_ | refine jN ?_ | refine jO ?_ | refine jP ?_ | refine jQ ?_ | refine jR ?_ | refine jS (k := ?_) | refine jT (k := ?_)))); (conv => whnf)
    refine r_true (by rfl) ?_
    (repeat ((conv => whnf); (first | (with_reducible first | refine jA ?_ | refine jB ?_ | refine jC ?_ | refine jD ?_) | refine jE ?_ | refine jF ?_ | refine jG ?_ | refine jH ?_ | refine jI ?_ | refine jJ ?_ | refine jK ?_ | refine jL ?_ | refine jM ?_ | refine jN ?_ | refine jO ?_ | refine jP ?_ | refine jQ ?_ | refine jR ?_ | refine jS (k := ?_) | refine jT (k := ?_)))); (conv => whnf)
    refine r_cal (hRemove_ok h hi) ?_
    rintro _ w1 ⟨l', h1, hm, hc⟩
    (repeat ((conv => whnf); (first | (with_reducible first | refine jA ?_ | refine jB ?_ | refine jC ?_ | refine jD ?_) | refine jE ?_ | refine jF ?_ | refine jG ?_ | refine jH ?_ | refine jI ?_ | refine jJ ?_ | refine jK ?_ | refine jL ?_ | refine jM ?_ | refine jN ?_ | refine jO ?_ | refine jP ?_ | refine jQ ?_ | refine jR ?_ | refine jS (k := ?_) | refine jT (k := ?_)))); (conv => whnf)
    exact ⟨rfl, l', h1, fun x => by rw [hm, hpl], hc⟩
theorem Has_ok (h : Ag w ab mb g c l) {p : Int} (hp : -9223372036854775808 ≤ p ∧ p ≤ 9223372036854775807) : Cal Try.prog 16 ⟨[.pointer (some ⟨ab, 0, none⟩), .int .i64 p]⟩ w fun v w' => Ext w w' ∧ v = .tuple ⟨[.agg ⟨(hasE l p).1.cells⟩, .bool (hasE l p).2]⟩ := by
  have hblk := h.pile.blk
  refine go16 (by rfl) ?_
  (repeat ((conv => whnf); (first | (with_reducible first | refine jA ?_ | refine jB ?_ | refine jC ?_ | refine jD ?_) | refine jE ?_ | refine jF ?_ | refine jG ?_ | refine jH ?_ | refine jI ?_ | refine jJ ?_ | refine jK ?_ | refine jL ?_ | refine jM ?_ | refine jN ?_ | refine jO ?_ | refine jP ?_ | refine jQ ?_ | refine jR ?_ | refine jS (k := ?_) | refine jT (k := ?_)))); (conv => whnf)
  refine r_new fun q w1 hx1 hb1 hs1 hblk1 => ?_
  have hblka := hblk.ext hx1
  (repeat ((conv => whnf); (first | (with_reducible first | refine jA ?_ | refine jB ?_ | refine jC ?_ | refine jD ?_) | refine jE ?_ | refine jF ?_ | refine jG ?_ | refine jH ?_ | refine jI ?_ | refine jJ ?_ | refine jK ?_ | refine jL ?_ | refine jM ?_ | refine jN ?_ | refine jO ?_ | refine jP ?_ | refine jQ ?_ | refine jR ?_ | refine jS (k := ?_) | refine jT (k := ?_)))); (conv => whnf)
  refine r_look (h.pile.map.ext hx1) keyed umap zint (key_of hp) ?_
  unfold hasE
  cases hq : pos l p with
  | none =>
    rw [idx_no hq]
    (repeat ((conv => whnf); (first | (with_reducible first | refine jA ?_ | refine jB ?_ | refine jC ?_ | refine jD ?_) | refine jE ?_ | refine jF ?_ | refine jG ?_ | refine jH ?_ | refine jI ?_ | refine jJ ?_ | refine jK ?_ | refine jL ?_ | refine jM ?_ | refine jN ?_ | refine jO ?_ | refine jP ?_ | refine jQ ?_ | refine jR ?_ | refine jS (k := ?_) | refine jT (k := ?_)))); (conv => whnf)
    refine r_true (by rfl) ?_
    (repeat ((conv => whnf); (first | (with_reducible first | refine jA ?_ | refine jB ?_ | refine jC ?_ | refine jD ?_) | refine jE ?_ | refine jF ?_ | refine jG ?_ | refine jH ?_ | refine jI ?_ | refine jJ ?_ | refine jK ?_ | refine jL ?_ | refine jM ?_ | refine jN ?_ | refine jO ?_ | refine jP ?_ | refine jQ ?_ | refine jR ?_ | refine jS (k := ?_) | refine jT (k := ?_)))); (conv => whnf)
    refine r_stn hblk1 (by simp) (cells_one ⟨0, 0, 0⟩) fun w2 hc2 hs2 hblk2 => ?_
    have hblk2 : Blk w2 q 28 (En.cells ⟨0, 0, 0⟩) := hblk2
    (repeat ((conv => whnf); (first | (with_reducible first | refine jA ?_ | refine jB ?_ | refine jC ?_ | refine jD ?_) | refine jE ?_ | refine jF ?_ | refine jG ?_ | refine jH ?_ | refine jI ?_ | refine jJ ?_ | refine jK ?_ | refine jL ?_ | refine jM ?_ | refine jN ?_ | refine jO ?_ | refine jP ?_ | refine jQ ?_ | refine jR ?_ | refine jS (k := ?_) | refine jT (k := ?_)))); (conv => whnf)
    refine r_ldnb (vs := En.cells ⟨0, 0, 0⟩) hblk2 rfl rfl ?_
    (repeat ((conv => whnf); (first | (with_reducible first | refine jA ?_ | refine jB ?_ | refine jC ?_ | refine jD ?_) | refine jE ?_ | refine jF ?_ | refine jG ?_ | refine jH ?_ | refine jI ?_ | refine jJ ?_ | refine jK ?_ | refine jL ?_ | refine jM ?_ | refine jN ?_ | refine jO ?_ | refine jP ?_ | refine jQ ?_ | refine jR ?_ | refine jS (k := ?_) | refine jT (k := ?_)))); (conv => whnf)
    exact ⟨Chg.step hx1 hc2 fun k hk hlt => by omega, rfl⟩
  | some i =>
    rw [idx_at hq]
    obtain ⟨hi, hpl⟩ := pos_some hq
    obtain ⟨x, R, rfl, hrow, hR, hlc, hc⟩ := h.pile.at (by omega)
    have hblka : Blk w1 ab 82 [.slice (some ⟨x, 0, none⟩) l.length c, .map (some mb)] := hblka
    (repeat ((conv => whnf); (first | (with_reducible first | refine jA ?_ | refine jB ?_ | refine jC ?_ | refine jD ?_) | refine jE ?_ | refine jF ?_ | refine jG ?_ | refine jH ?_ | refine jI ?_ | refine jJ ?_ | refine jK ?_ | refine jL ?_ | refine jM ?_ | refine jN ?_ | refine jO ?_ | refine jP ?_ | refine jQ ?_ | refine jR ?_ | refine jS (k := ?_) | refine jT (k := ?_)))); (conv => whnf)
    refine r_false (by rfl) ?_
    (repeat ((conv => whnf); (first | refine r_need rfl ?_ | (with_reducible first | refine jA ?_ | refine jB ?_ | refine jC ?_ | refine jD ?_) | refine jE ?_ | refine jF ?_ | refine jG ?_ | refine jH ?_ | refine jI ?_ | refine jJ ?_ | refine jK ?_ | refine jL ?_ | refine jM ?_ | refine jN ?_ | refine jO ?_ | refine jP ?_ | refine jQ ?_ | refine jR ?_ | refine jS (k := ?_) | refine jT (k := ?_)))); (conv => whnf)
    rw [adr0]
    refine r_ldnb (vs := (gt l i).cells) (hrow.ext hx1) (flat_get hi R) rfl ?_
    (repeat ((conv => whnf); (first | (with_reducible first | refine jA ?_ | refine jB ?_ | refine jC ?_ | refine jD ?_) | refine jE ?_ | refine jF ?_ | refine jG ?_ | refine jH ?_ | refine jI ?_ | refine jJ ?_ | refine jK ?_ | refine jL ?_ | refine jM ?_ | refine jN ?_ | refine jO ?_ | refine jP ?_ | refine jQ ?_ | refine jR ?_ | refine jS (k := ?_) | refine jT (k := ?_)))); (conv => whnf)
    refine r_stn hblk1 (by simp [En.cells]) (cells_one (gt l i)) fun w2 hc2 hs2 hblk2 => ?_
    have hblk2 : Blk w2 q 28 (gt l i).cells := hblk2
    (repeat ((conv => whnf); (first | (with_reducible first | refine jA ?_ | refine jB ?_ | refine jC ?_ | refine jD ?_) | refine jE ?_ | refine jF ?_ | refine jG ?_ | refine jH ?_ | refine jI ?_ | refine jJ ?_ | refine jK ?_ | refine jL ?_ | refine jM ?_ | refine jN ?_ | refine jO ?_ | refine jP ?_ | refine jQ ?_ | refine jR ?_ | refine jS (k := ?_) | refine jT (k := ?_)))); (conv => whnf)
    refine r_ldnb (vs := (gt l i).cells) hblk2 rfl rfl ?_
    (repeat ((conv => whnf); (first | (with_reducible first | refine jA ?_ | refine jB ?_ | refine jC ?_ | refine jD ?_) | refine jE ?_ | refine jF ?_ | refine jG ?_ | refine jH ?_ | refine jI ?_ | refine jJ ?_ | refine jK ?_ | refine jL ?_ | refine jM ?_ | refine jN ?_ | refine jO ?_ | refine jP ?_ | refine jQ ?_ | refine jR ?_ | refine jS (k := ?_) | refine jT (k := ?_)))); (conv => whnf)
    exact ⟨Chg.step hx1 hc2 fun k hk hlt => by omega, rfl⟩
theorem Take_ok (h : Ag w ab mb g c l) : Cal Try.prog 18 ⟨[.pointer (some ⟨ab, 0, none⟩)]⟩ w fun v w' => v = .tuple ⟨[.agg ⟨(gt l 0).cells⟩, .bool (decide (0 < l.length))]⟩ ∧ ∃ l', Ag w' ab mb g c l' ∧ (∀ x, x ∈ l' ↔ x ∈ l ∧ x.place ≠ (gt l 0).place) ∧ Chg (PS ab mb g) w w' := by
  have hblk := h.pile.blk
  refine go18 (by rfl) ?_
  (repeat ((conv => whnf); (first | (with_reducible first | refine jA ?_ | refine jB ?_ | refine jC ?_ | refine jD ?_) | refine jE ?_ | refine jF ?_ | refine jG ?_ | refine jH ?_ | refine jI ?_ | refine jJ ?_ | refine jK ?_ | refine jL ?_ | refine jM ?_ | refine jN ?_ | refine jO ?_ | refine jP ?_ | refine jQ ?_ | refine jR ?_ | refine jS (k := ?_) | refine jT (k := ?_)))); (conv => whnf)
  refine r_new fun q w1 hx1 hb1 hs1 hblk1 => ?_
  have hblka := hblk.ext hx1
  (repeat ((conv => whnf); (first | (with_reducible first | refine jA ?_ | refine jB ?_ | refine jC ?_ | refine jD ?_) | refine jE ?_ | refine jF ?_ | refine jG ?_ | refine jH ?_ | refine jI ?_ | refine jJ ?_ | refine jK ?_ | refine jL ?_ | refine jM ?_ | refine jN ?_ | refine jO ?_ | refine jP ?_ | refine jQ ?_ | refine jR ?_ | refine jS (k := ?_) | refine jT (k := ?_)))); (conv => whnf)
  refine r_cal (aLen_ok (h.ext hx1)) ?_
  rintro _ w1' ⟨rfl, rfl⟩
  by_cases hl : l.length = 0
  · have hnil : l = [] := List.length_eq_zero_iff.1 hl
    subst hnil
    (repeat ((conv => whnf); (first | (with_reducible first | refine jA ?_ | refine jB ?_ | refine jC ?_ | refine jD ?_) | refine jE ?_ | refine jF ?_ | refine jG ?_ | refine jH ?_ | refine jI ?_ | refine jJ ?_ | refine jK ?_ | refine jL ?_ | refine jM ?_ | refine jN ?_ | refine jO ?_ | refine jP ?_ | refine jQ ?_ | refine jR ?_ | refine jS (k := ?_) | refine jT (k := ?_)))); (conv => whnf)
    refine r_stn hblk1 (by simp) (cells_one ⟨0, 0, 0⟩) fun w2 hc2 hs2 hblk2 => ?_
    have hblk2 : Blk w2 q 28 (En.cells ⟨0, 0, 0⟩) := hblk2
    (repeat ((conv => whnf); (first | (with_reducible first | refine jA ?_ | refine jB ?_ | refine jC ?_ | refine jD ?_) | refine jE ?_ | refine jF ?_ | refine jG ?_ | refine jH ?_ | refine jI ?_ | refine jJ ?_ | refine jK ?_ | refine jL ?_ | refine jM ?_ | refine jN ?_ | refine jO ?_ | refine jP ?_ | refine jQ ?_ | refine jR ?_ | refine jS (k := ?_) | refine jT (k := ?_)))); (conv => whnf)
    refine r_ldnb (vs := En.cells ⟨0, 0, 0⟩) hblk2 rfl rfl ?_
    (repeat ((conv => whnf); (first | (with_reducible first | refine jA ?_ | refine jB ?_ | refine jC ?_ | refine jD ?_) | refine jE ?_ | refine jF ?_ | refine jG ?_ | refine jH ?_ | refine jI ?_ | refine jJ ?_ | refine jK ?_ | refine jL ?_ | refine jM ?_ | refine jN ?_ | refine jO ?_ | refine jP ?_ | refine jQ ?_ | refine jR ?_ | refine jS (k := ?_) | refine jT (k := ?_)))); (conv => whnf)
    have hx2 : Ext w w2 := Chg.step hx1 hc2 fun k hk hlt => by omega
    exact ⟨rfl, [], h.ext hx2, by simp, hx2.wide _⟩
  · obtain ⟨x, R, rfl, hrow, hR, hlc, hc⟩ := h.pile.at (by omega)
    have hblka : Blk w1' ab 82 [.slice (some ⟨x, 0, none⟩) l.length c, .map (some mb)] := hblka
    (repeat ((conv => whnf); (first | refine r_need rfl ?_ | (with_reducible first | refine jA ?_ | refine jB ?_ | refine jC ?_ | refine jD ?_) | refine jE ?_ | refine jF ?_ | refine jG ?_ | refine jH ?_ | refine jI ?_ | refine jJ ?_ | refine jK ?_ | refine jL ?_ | refine jM ?_ | refine jN ?_ | refine jO ?_ | refine jP ?_ | refine jQ ?_ | refine jR ?_ | refine jS (k := ?_) | refine jT (k := ?_)))); (conv => whnf)
    rw [show (0 : Int) = ((0 : Nat) : Int) from rfl, adr0]
    refine r_ldnb (vs := (gt l 0).cells) (hrow.ext hx1) (flat_get (by omega) R) rfl ?_
    (repeat ((conv => whnf); (first | (with_reducible first | refine jA ?_ | refine jB ?_ | refine jC ?_ | refine jD ?_) | refine jE ?_ | refine jF ?_ | refine jG ?_ | refine jH ?_ | refine jI ?_ | refine jJ ?_ | refine jK ?_ | refine jL ?_ | refine jM ?_ | refine jN ?_ | refine jO ?_ | refine jP ?_ | refine jQ ?_ | refine jR ?_ | refine jS (k := ?_) | refine jT (k := ?_)))); (conv => whnf)
    refine r_new fun q2 w2 hx2 hb2 hs2 hblk2 => ?_
    have hlq := hblk1.lt
    (repeat ((conv => whnf); (first | (with_reducible first | refine jA ?_ | refine jB ?_ | refine jC ?_ | refine jD ?_) | refine jE ?_ | refine jF ?_ | refine jG ?_ | refine jH ?_ | refine jI ?_ | refine jJ ?_ | refine jK ?_ | refine jL ?_ | refine jM ?_ | refine jN ?_ | refine jO ?_ | refine jP ?_ | refine jQ ?_ | refine jR ?_ | refine jS (k := ?_) | refine jT (k := ?_)))); (conv => whnf)
    refine r_stn hblk2 (by simp [En.cells]) (cells_one (gt l 0)) fun w3 hc3 hs3 hblk3 => ?_
    have hblk3 : Blk w3 q2 28 (gt l 0).cells := hblk3
    have hx03 : Ext w w3 := Chg.step (hx1.trans hx2) hc3 fun k hk hlt => by have := hx1.size; omega
    have hblkq := (hblk1.ext hx2).keep hc3 (by omega)
    (repeat ((conv => whnf); (first | (with_reducible first | refine jA ?_ | refine jB ?_ | refine jC ?_ | refine jD ?_) | refine jE ?_ | refine jF ?_ | refine jG ?_ | refine jH ?_ | refine jI ?_ | refine jJ ?_ | refine jK ?_ | refine jL ?_ | refine jM ?_ | refine jN ?_ | refine jO ?_ | refine jP ?_ | refine jQ ?_ | refine jR ?_ | refine jS (k := ?_) | refine jT (k := ?_)))); (conv => whnf)
    refine r_cal (hPop_ok (h.ext hx03) (by omega)) ?_
    rintro _ w4 ⟨l', h4, hm4, hc4⟩
    have hn1 : ¬ PS ab mb (some x) q := fun e => by have := h.pile.lt e; omega
    have hn2 : ¬ PS ab mb (some x) q2 := fun e => by have := h.pile.lt e; have := hx1.size; omega
    have hblkq := hblkq.keep hc4 hn1
    have hblkq2 := hblk3.keep hc4 hn2
    (repeat ((conv => whnf); (first | (with_reducible first | refine jA ?_ | refine jB ?_ | refine jC ?_ | refine jD ?_) | refine jE ?_ | refine jF ?_ | refine jG ?_ | refine jH ?_ | refine jI ?_ | refine jJ ?_ | refine jK ?_ | refine jL ?_ | refine jM ?_ | refine jN ?_ | refine jO ?_ | refine jP ?_ | refine jQ ?_ | refine jR ?_ | refine jS (k := ?_) | refine jT (k := ?_)))); (conv => whnf)
    refine r_ldnb (vs := (gt l 0).cells) hblkq2 rfl rfl ?_
    (repeat ((conv => whnf); (first | (with_reducible first | refine jA ?_ | refine jB ?_ | refine jC ?_ | refine jD ?_) | refine jE ?_ | refine jF ?_ | refine jG ?_ | refine jH ?_ | refine jI ?_ | refine jJ ?_ | refine jK ?_ | refine jL ?_ | refine jM ?_ | refine jN ?_ | refine jO ?_ | refine jP ?_ | refine jQ ?_ | refine jR ?_ | refine jS (k := ?_) | refine jT (k := ?_)))); (conv => whnf)
    refine r_stn hblkq (by simp [En.cells]) (cells_one (gt l 0)) fun w5 hc5 hs5 hblk5 => ?_
    have hblk5 : Blk w5 q 28 (gt l 0).cells := hblk5
    (repeat ((conv => whnf); (first | (with_reducible first | refine jA ?_ | refine jB ?_ | refine jC ?_ | refine jD ?_) | refine jE ?_ | refine jF ?_ | refine jG ?_ | refine jH ?_ | refine jI ?_ | refine jJ ?_ | refine jK ?_ | refine jL ?_ | refine jM ?_ | refine jN ?_ | refine jO ?_ | refine jP ?_ | refine jQ ?_ | refine jR ?_ | refine jS (k := ?_) | refine jT (k := ?_)))); (conv => whnf)
    refine r_ldnb (vs := (gt l 0).cells) hblk5 rfl rfl ?_
    (repeat ((conv => whnf); (first | (with_reducible first | refine jA ?_ | refine jB ?_ | refine jC ?_ | refine jD ?_) | refine jE ?_ | refine jF ?_ | refine jG ?_ | refine jH ?_ | refine jI ?_ | refine jJ ?_ | refine jK ?_ | refine jL ?_ | refine jM ?_ | refine jN ?_ | refine jO ?_ | refine jP ?_ | refine jQ ?_ | refine jR ?_ | refine jS (k := ?_) | refine jT (k := ?_)))); (conv => whnf)
    refine ⟨by rw [decide_eq_true (show 0 < l.length by omega)], l', h4.keep hc5 (fun k hk e => hn1 (by rw [← e]; exact hk)), hm4, ?_⟩
    exact Chg.step (Chg.step (hx03.wide _) hc4 fun k hk _ => hk) hc5 fun k hk hlt => by omega
end
theorem Len_nil (w : World) : Cal Try.prog 20 ⟨[.pointer none]⟩ w fun v w' => w' = w ∧ v = .int .i64 0 := by
  refine go20 (by rfl) ?_
  (repeat ((conv => whnf); (first | (with_reducible first | refine jA ?_ | refine jB ?_ | refine jC ?_ | refine jD ?_) | refine jE ?_ | refine jF ?_ | refine jG ?_ | refine jH ?_ | refine jI ?_ | refine jJ ?_ | refine jK ?_ | refine jL ?_ | refine jM ?_ | refine jN ?_ | refine jO ?_ | refine jP ?_ | refine jQ ?_ | refine jR ?_ | refine jS (k := ?_) | refine jT (k := ?_)))); (conv => whnf)
  exact ⟨rfl, rfl⟩
theorem Put_nil (w : World) (e : En) : Cal Try.prog 13 ⟨[.pointer none, .agg ⟨e.cells⟩]⟩ w fun _ w' => Ext w w' := by
  refine go13 (by rfl) ?_
  (repeat ((conv => whnf); (first | (with_reducible first | refine jA ?_ | refine jB ?_ | refine jC ?_ | refine jD ?_) | refine jE ?_ | refine jF ?_ | refine jG ?_ | refine jH ?_ | refine jI ?_ | refine jJ ?_ | refine jK ?_ | refine jL ?_ | refine jM ?_ | refine jN ?_ | refine jO ?_ | refine jP ?_ | refine jQ ?_ | refine jR ?_ | refine jS (k := ?_) | refine jT (k := ?_)))); (conv => whnf)
  refine r_new fun q w1 hx1 hb1 hs1 hblk1 => ?_
  (repeat ((conv => whnf); (first | (with_reducible first | refine jA ?_ | refine jB ?_ | refine jC ?_ | refine jD ?_) | refine jE ?_ | refine jF ?_ | refine jG ?_ | refine jH ?_ | refine jI ?_ | refine jJ ?_ | refine jK ?_ | refine jL ?_ | refine jM ?_ | refine jN ?_ | refine jO ?_ | refine jP ?_ | refine jQ ?_ | refine jR ?_ | refine jS (k := ?_) | refine jT (k := ?_)))); (conv => whnf)
  exact hx1
theorem Drop_nil (w : World) (p : Int) : Cal Try.prog 15 ⟨[.pointer none, .int .i64 p]⟩ w fun v w' => w' = w ∧ v = .bool false := by
  refine go15 (by rfl) ?_
  (repeat ((conv => whnf); (first | (with_reducible first | refine jA ?_ | refine jB ?_ | refine jC ?_ | refine jD ?_) | refine jE ?_ | refine jF ?_ | refine jG ?_ | refine jH ?_ | refine jI ?_ | refine jJ ?_ | refine jK ?_ | refine jL ?_ | refine jM ?_ | refine jN ?_ | refine jO ?_ | refine jP ?_ | refine jQ ?_ | refine jR ?_ | refine jS (k := ?_) | refine jT (k := ?_)))); (conv => whnf)
  exact ⟨rfl, rfl⟩
theorem Has_nil (w : World) (p : Int) : Cal Try.prog 16 ⟨[.pointer none, .int .i64 p]⟩ w fun v w' => Ext w w' ∧ v = .tuple ⟨[.agg ⟨En.cells ⟨0, 0, 0⟩⟩, .bool false]⟩ := by
  refine go16 (by rfl) ?_
  (repeat ((conv => whnf); (first | (with_reducible first | refine jA ?_ | refine jB ?_ | refine jC ?_ | refine jD ?_) | refine jE ?_ | refine jF ?_ | refine jG ?_ | refine jH ?_ | refine jI ?_ | refine jJ ?_ | refine jK ?_ | refine jL ?_ | refine jM ?_ | refine jN ?_ | refine jO ?_ | refine jP ?_ | refine jQ ?_ | refine jR ?_ | refine jS (k := ?_) | refine jT (k := ?_)))); (conv => whnf)
  refine r_new fun q w1 hx1 hb1 hs1 hblk1 => ?_
  (repeat ((conv => whnf); (first | (with_reducible first | refine jA ?_ | refine jB ?_ | refine jC ?_ | refine jD ?_) | refine jE ?_ | refine jF ?_ | refine jG ?_ | refine jH ?_ | refine jI ?_ | refine jJ ?_ | refine jK ?_ | refine jL ?_ | refine jM ?_ | refine jN ?_ | refine jO ?_ | refine jP ?_ | refine jQ ?_ | refine jR ?_ | refine jS (k := ?_) | refine jT (k := ?_)))); (conv => whnf)
  refine r_stn hblk1 (by simp) (cells_one ⟨0, 0, 0⟩) fun w2 hc2 hs2 hblk2 => ?_
  have hblk2 : Blk w2 q 28 (En.cells ⟨0, 0, 0⟩) := hblk2
  (repeat ((conv => whnf); (first | (with_reducible first | refine jA ?_ | refine jB ?_ | refine jC ?_ | refine jD ?_) | refine jE ?_ | refine jF ?_ | refine jG ?_ | refine jH ?_ | refine jI ?_ | refine jJ ?_ | refine jK ?_ | refine jL ?_ | refine jM ?_ | refine jN ?_ | refine jO ?_ | refine jP ?_ | refine jQ ?_ | refine jR ?_ | refine jS (k := ?_) | refine jT (k := ?_)))); (conv => whnf)
  refine r_ldnb (vs := En.cells ⟨0, 0, 0⟩) hblk2 rfl rfl ?_
  (repeat ((conv => whnf); (first | (with_reducible first | refine jA ?_ | refine jB ?_ | refine jC ?_ | refine jD ?_) | refine jE ?_ | refine jF ?_ | refine jG ?_ | refine jH ?_ | refine jI ?_ | refine jJ ?_ | refine jK ?_ | refine jL ?_ | refine jM ?_ | refine jN ?_ | refine jO ?_ | refine jP ?_ | refine jQ ?_ | refine jR ?_ | refine jS (k := ?_) | refine jT (k := ?_)))); (conv => whnf)
  exact ⟨Chg.step hx1 hc2 fun k hk hlt => by omega, rfl⟩
theorem Take_nil (w : World) : Cal Try.prog 18 ⟨[.pointer none]⟩ w fun v w' => Ext w w' ∧ v = .tuple ⟨[.agg ⟨En.cells ⟨0, 0, 0⟩⟩, .bool false]⟩ := by
  refine go18 (by rfl) ?_
  (repeat ((conv => whnf); (first | (with_reducible first | refine jA ?_ | refine jB ?_ | refine jC ?_ | refine jD ?_) | refine jE ?_ | refine jF ?_ | refine jG ?_ | refine jH ?_ | refine jI ?_ | refine jJ ?_ | refine jK ?_ | refine jL ?_ | refine jM ?_ | refine jN ?_ | refine jO ?_ | refine jP ?_ | refine jQ ?_ | refine jR ?_ | refine jS (k := ?_) | refine jT (k := ?_)))); (conv => whnf)
  refine r_new fun q w1 hx1 hb1 hs1 hblk1 => ?_
  (repeat ((conv => whnf); (first | (with_reducible first | refine jA ?_ | refine jB ?_ | refine jC ?_ | refine jD ?_) | refine jE ?_ | refine jF ?_ | refine jG ?_ | refine jH ?_ | refine jI ?_ | refine jJ ?_ | refine jK ?_ | refine jL ?_ | refine jM ?_ | refine jN ?_ | refine jO ?_ | refine jP ?_ | refine jQ ?_ | refine jR ?_ | refine jS (k := ?_) | refine jT (k := ?_)))); (conv => whnf)
  refine r_cal (Len_nil _) ?_
  rintro _ w1' ⟨rfl, rfl⟩
  (repeat ((conv => whnf); (first | (with_reducible first | refine jA ?_ | refine jB ?_ | refine jC ?_ | refine jD ?_) | refine jE ?_ | refine jF ?_ | refine jG ?_ | refine jH ?_ | refine jI ?_ | refine jJ ?_ | refine jK ?_ | refine jL ?_ | refine jM ?_ | refine jN ?_ | refine jO ?_ | refine jP ?_ | refine jQ ?_ | refine jR ?_ | refine jS (k := ?_) | refine jT (k := ?_)))); (conv => whnf)
  refine r_stn hblk1 (by simp) (cells_one ⟨0, 0, 0⟩) fun w2 hc2 hs2 hblk2 => ?_
  have hblk2 : Blk w2 q 28 (En.cells ⟨0, 0, 0⟩) := hblk2
  (repeat ((conv => whnf); (first | (with_reducible first | refine jA ?_ | refine jB ?_ | refine jC ?_ | refine jD ?_) | refine jE ?_ | refine jF ?_ | refine jG ?_ | refine jH ?_ | refine jI ?_ | refine jJ ?_ | refine jK ?_ | refine jL ?_ | refine jM ?_ | refine jN ?_ | refine jO ?_ | refine jP ?_ | refine jQ ?_ | refine jR ?_ | refine jS (k := ?_) | refine jT (k := ?_)))); (conv => whnf)
  refine r_ldnb (vs := En.cells ⟨0, 0, 0⟩) hblk2 rfl rfl ?_
  (repeat ((conv => whnf); (first | (with_reducible first | refine jA ?_ | refine jB ?_ | refine jC ?_ | refine jD ?_) | refine jE ?_ | refine jF ?_ | refine jG ?_ | refine jH ?_ | refine jI ?_ | refine jJ ?_ | refine jK ?_ | refine jL ?_ | refine jM ?_ | refine jN ?_ | refine jO ?_ | refine jP ?_ | refine jQ ?_ | refine jR ?_ | refine jS (k := ?_) | refine jT (k := ?_)))); (conv => whnf)
  exact ⟨Chg.step hx1 hc2 fun k hk hlt => by omega, rfl⟩
end Fb.Try.QU
