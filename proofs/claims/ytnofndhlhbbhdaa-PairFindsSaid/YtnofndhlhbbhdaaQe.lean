/-
  Walks: an agenda's operations.
-/
import Derived.Test.YtnofndhlhbbhdaaQd
namespace Fb.Try.QU
open Go Go.Proofs Fb
theorem idx_nil : (fun _ => none) = idx [] := idx_ext (fun _ => rfl) fun _ _ => rfl
theorem idx_at {l : List En} {p : Int} {i : Nat} (h : pos l p = some i) : idx l (.int .i64 p) = some (.int .i64 (i : Int)) := by simp [idx, h]
theorem idx_no {l : List En} {p : Int} (h : pos l p = none) : idx l (.int .i64 p) = none := by simp [idx, h]
section
variable {w w' : World} {ab mb c : Nat} {g : Option Nat} {l : List En}
theorem Ag.ext (h : Ag w ab mb g c l) (k : Ext w w') : Ag w' ab mb g c l := ⟨h.pile.ext k, h.heap⟩
theorem Ag.keep {S : Nat → Prop} (h : Ag w ab mb g c l) (k : Chg S w w') (hs : ∀ x, PS ab mb g x → ¬ S x) : Ag w' ab mb g c l := ⟨h.pile.keep k hs, h.heap⟩
theorem Pile.lt (h : Pile w ab mb g c l) {k : Nat} (hk : PS ab mb g k) : k < w.heap.size := by
  rcases hk with rfl | rfl | rfl
  · exact h.blk.lt
  · exact h.map.lt
  · obtain ⟨R, h1, _⟩ := h.row
    exact h1.lt
theorem New_ok (w : World) : Cal Try.prog 19 ⟨[]⟩ w fun v w' => ∃ ab mb, v = .pointer (some ⟨ab, 0, none⟩) ∧ Ext w w' ∧ w.heap.size ≤ ab ∧ w.heap.size ≤ mb ∧ Ag w' ab mb none 0 [] := by
  refine go19 (by rfl) ?_
  (repeat ((conv => whnf); (first | (with_reducible first | refine jA ?_ | refine jB ?_ | refine jC ?_ | refine jD ?_) | refine jE ?_ | refine jF ?_ | refine jG ?_ | refine jH ?_ | refine jI ?_ | refine jJ ?_ | refine jK ?_ | refine jL ?_ | refine jM ?_ | refine jN ?_ | refine jO ?_ | refine jP ?_ | refine jQ ?_ | refine jR ?_ | refine jS (k := ?_) | refine jT (k := ?_)))); (conv => whnf)
  refine r_makeMap (k := 3) fun w1 hx1 hs1 hm1 => ?_
  (repeat ((conv => whnf); (first | (with_reducible first | refine jA ?_ | refine jB ?_ | refine jC ?_ | refine jD ?_) | refine jE ?_ | refine jF ?_ | refine jG ?_ | refine jH ?_ | refine jI ?_ | refine jJ ?_ | refine jK ?_ | refine jL ?_ | refine jM ?_ | refine jN ?_ | refine jO ?_ | refine jP ?_ | refine jQ ?_ | refine jR ?_ | refine jS (k := ?_) | refine jT (k := ?_)))); (conv => whnf)
  refine r_new fun b w2 hx2 hb2 hs2 hblk2 => ?_
  have hblk2 : Blk w2 b 92 [.slice none 0 0, .map (some w.heap.size)] := hblk2
  (repeat ((conv => whnf); (first | (with_reducible first | refine jA ?_ | refine jB ?_ | refine jC ?_ | refine jD ?_) | refine jE ?_ | refine jF ?_ | refine jG ?_ | refine jH ?_ | refine jI ?_ | refine jJ ?_ | refine jK ?_ | refine jL ?_ | refine jM ?_ | refine jN ?_ | refine jO ?_ | refine jP ?_ | refine jQ ?_ | refine jR ?_ | refine jS (k := ?_) | refine jT (k := ?_)))); (conv => whnf)
  rw [idx_nil] at hm1
  refine ⟨b, w.heap.size, rfl, hx1.trans hx2, by omega, Nat.le_refl _, ⟨hblk2, ⟨rfl, rfl⟩, hm1.ext hx2, fun i j hi => absurd hi (Nat.not_lt_zero _), by simp, by simp⟩, fun i _ hi => absurd hi (Nat.not_lt_zero _)⟩
theorem aLen_ok (h : Ag w ab mb g c l) : Cal Try.prog 22 ⟨[.pointer (some ⟨ab, 0, none⟩)]⟩ w fun v w' => w' = w ∧ v = .int .i64 (l.length : Int) := by
  refine go22 (by rfl) ?_
  (repeat ((conv => whnf); (first | (with_reducible first | refine jA ?_ | refine jB ?_ | refine jC ?_ | refine jD ?_) | refine jE ?_ | refine jF ?_ | refine jG ?_ | refine jH ?_ | refine jI ?_ | refine jJ ?_ | refine jK ?_ | refine jL ?_ | refine jM ?_ | refine jN ?_ | refine jO ?_ | refine jP ?_ | refine jQ ?_ | refine jR ?_ | refine jS (k := ?_) | refine jT (k := ?_)))); (conv => whnf)
  refine r_cal (Len_ok h.pile) ?_
  rintro _ w1 ⟨rfl, rfl⟩
  (repeat ((conv => whnf); (first | (with_reducible first | refine jA ?_ | refine jB ?_ | refine jC ?_ | refine jD ?_) | refine jE ?_ | refine jF ?_ | refine jG ?_ | refine jH ?_ | refine jI ?_ | refine jJ ?_ | refine jK ?_ | refine jL ?_ | refine jM ?_ | refine jN ?_ | refine jO ?_ | refine jP ?_ | refine jQ ?_ | refine jR ?_ | refine jS (k := ?_) | refine jT (k := ?_)))); (conv => whnf)
  exact ⟨rfl, rfl⟩
theorem Put_ok (h : Ag w ab mb g c l) {e : En} (he : Wf e) (hl : l.length < 1000) : Cal Try.prog 20 ⟨[.pointer (some ⟨ab, 0, none⟩), .agg ⟨e.cells⟩]⟩ w fun _ w' => ∃ g' c' l', Ag w' ab mb g' c' l' ∧ (∀ x, x ∈ l' ↔ x = e ∨ (x ∈ l ∧ x.place ≠ e.place)) ∧ Arr w g g' ∧ Chg (PS ab mb g) w w' := by
  have hblk := h.pile.blk
  have hla := hblk.lt
  refine go20 (by rfl) ?_
  (repeat ((conv => whnf); (first | (with_reducible first | refine jA ?_ | refine jB ?_ | refine jC ?_ | refine jD ?_) | refine jE ?_ | refine jF ?_ | refine jG ?_ | refine jH ?_ | refine jI ?_ | refine jJ ?_ | refine jK ?_ | refine jL ?_ | refine jM ?_ | refine jN ?_ | refine jO ?_ | refine jP ?_ | refine jQ ?_ | refine jR ?_ | refine jS (k := ?_) | refine jT (k := ?_)))); (conv => whnf)
  refine r_new fun q w1 hx1 hb1 hs1 hblk1 => ?_
  have hblk1 : Blk w1 q 28 [.int .i64 e.place, .int .i64 e.order, .int .i64 e.out] := hblk1
  have hblka := hblk.ext hx1
  have hq : ¬ PS ab mb g q := fun e => by have := h.pile.lt e; omega
  (repeat ((conv => whnf); (first | (with_reducible first | refine jA ?_ | refine jB ?_ | refine jC ?_ | refine jD ?_) | refine jE ?_ | refine jF ?_ | refine jG ?_ | refine jH ?_ | refine jI ?_ | refine jJ ?_ | refine jK ?_ | refine jL ?_ | refine jM ?_ | refine jN ?_ | refine jO ?_ | refine jP ?_ | refine jQ ?_ | refine jR ?_ | refine jS (k := ?_) | refine jT (k := ?_)))); (conv => whnf)
  refine r_drawE fun w2 hx2 hh2 => ?_
  (repeat ((conv => whnf); (first | (with_reducible first | refine jA ?_ | refine jB ?_ | refine jC ?_ | refine jD ?_) | refine jE ?_ | refine jF ?_ | refine jG ?_ | refine jH ?_ | refine jI ?_ | refine jJ ?_ | refine jK ?_ | refine jL ?_ | refine jM ?_ | refine jN ?_ | refine jO ?_ | refine jP ?_ | refine jQ ?_ | refine jR ?_ | refine jS (k := ?_) | refine jT (k := ?_)))); (conv => whnf)
  refine r_lookE (h.pile.map.ext hx1) keyed umap zint (key_of he) ?_
  have hx02 := hx1.trans hx2
  have hblka := hblka.ext hx2
  have hblkq := hblk1.ext hx2
  cases hp : pos l e.place with
  | none =>
    rw [idx_no hp]
    (repeat ((conv => whnf); (first | (with_reducible first | refine jA ?_ | refine jB ?_ | refine jC ?_ | refine jD ?_) | refine jE ?_ | refine jF ?_ | refine jG ?_ | refine jH ?_ | refine jI ?_ | refine jJ ?_ | refine jK ?_ | refine jL ?_ | refine jM ?_ | refine jN ?_ | refine jO ?_ | refine jP ?_ | refine jQ ?_ | refine jR ?_ | refine jS (k := ?_) | refine jT (k := ?_)))); (conv => whnf)
    refine r_true (by rfl) ?_
    (repeat ((conv => whnf); (first | (with_reducible first | refine jA ?_ | refine jB ?_ | refine jC ?_ | refine jD ?_) | refine jE ?_ | refine jF ?_ | refine jG ?_ | refine jH ?_ | refine jI ?_ | refine jJ ?_ | refine jK ?_ | refine jL ?_ | refine jM ?_ | refine jN ?_ | refine jO ?_ | refine jP ?_ | refine jQ ?_ | refine jR ?_ | refine jS (k := ?_) | refine jT (k := ?_)))); (conv => whnf)
    refine r_drawS (PS ab mb g) fun w3 hx3 hh3 => ?_
    (repeat ((conv => whnf); (first | refine r_ldnbS' (vs := e.cells) hblkq rfl rfl hq ?_ | (with_reducible first | refine jA ?_ | refine jB ?_ | refine jC ?_ | refine jD ?_) | refine jE ?_ | refine jF ?_ | refine jG ?_ | refine jH ?_ | refine jI ?_ | refine jJ ?_ | refine jK ?_ | refine jL ?_ | refine jM ?_ | refine jN ?_ | refine jO ?_ | refine jP ?_ | refine jQ ?_ | refine jR ?_ | refine jS (k := ?_) | refine jT (k := ?_)))); (conv => whnf)
    have hx03 := hx02.trans hx3
    refine r_cal (hPush_ok (h.ext hx03) he hp hl) ?_
    rintro _ w4 ⟨g', c', l', h4, hm4, ha4, hc4⟩
    (repeat ((conv => whnf); (first | (with_reducible first | refine jA ?_ | refine jB ?_ | refine jC ?_ | refine jD ?_) | refine jE ?_ | refine jF ?_ | refine jG ?_ | refine jH ?_ | refine jI ?_ | refine jJ ?_ | refine jK ?_ | refine jL ?_ | refine jM ?_ | refine jN ?_ | refine jO ?_ | refine jP ?_ | refine jQ ?_ | refine jR ?_ | refine jS (k := ?_) | refine jT (k := ?_)))); (conv => whnf)
    refine r_held (Chg.step (hx3.wide _) hc4 fun k hk _ => hk) ?_
    (repeat ((conv => whnf); (first | (with_reducible first | refine jA ?_ | refine jB ?_ | refine jC ?_ | refine jD ?_) | refine jE ?_ | refine jF ?_ | refine jG ?_ | refine jH ?_ | refine jI ?_ | refine jJ ?_ | refine jK ?_ | refine jL ?_ | refine jM ?_ | refine jN ?_ | refine jO ?_ | refine jP ?_ | refine jQ ?_ | refine jR ?_ | refine jS (k := ?_) | refine jT (k := ?_)))); (conv => whnf)
    refine ⟨g', c', l', h4, fun x => ?_, ?_, Chg.step (hx03.wide _) hc4 fun k hk _ => hk⟩
    · rw [hm4]
      constructor
      · rintro (h1 | h1)
        · exact .inl h1
        · obtain ⟨k, hk, rfl⟩ := mem_gt.1 h1
          exact .inr ⟨h1, pos_none hp k hk⟩
      · rintro (h1 | h1)
        · exact .inl h1
        · exact .inr h1.1
    · rcases ha4 with rfl | ⟨y, rfl, hy⟩
      · exact .inl rfl
      · exact .inr ⟨y, rfl, by have := hx03.size; omega⟩
  | some i =>
    rw [idx_at hp]
    obtain ⟨hi, hpl⟩ := pos_some hp
    obtain ⟨x, R, rfl, hrow, hR, hlc, hc⟩ := h.pile.at (by omega)
    have hblka : Blk w2 ab 92 [.slice (some ⟨x, 0, none⟩) l.length c, .map (some mb)] := hblka
    have hax : ¬ ab = x := Blk.ne hblk hrow (by decide)
    have hfl := flat_len l
    (repeat ((conv => whnf); (first | (with_reducible first | refine jA ?_ | refine jB ?_ | refine jC ?_ | refine jD ?_) | refine jE ?_ | refine jF ?_ | refine jG ?_ | refine jH ?_ | refine jI ?_ | refine jJ ?_ | refine jK ?_ | refine jL ?_ | refine jM ?_ | refine jN ?_ | refine jO ?_ | refine jP ?_ | refine jQ ?_ | refine jR ?_ | refine jS (k := ?_) | refine jT (k := ?_)))); (conv => whnf)
    refine r_false (by rfl) ?_
    (repeat ((conv => whnf); (first | (with_reducible first | refine jA ?_ | refine jB ?_ | refine jC ?_ | refine jD ?_) | refine jE ?_ | refine jF ?_ | refine jG ?_ | refine jH ?_ | refine jI ?_ | refine jJ ?_ | refine jK ?_ | refine jL ?_ | refine jM ?_ | refine jN ?_ | refine jO ?_ | refine jP ?_ | refine jQ ?_ | refine jR ?_ | refine jS (k := ?_) | refine jT (k := ?_)))); (conv => whnf)
    refine r_drawE fun w3 hx3 hh3 => ?_
    (repeat ((conv => whnf); (first | refine r_ldnbE (vs := e.cells) hblkq rfl rfl ?_ | refine r_need rfl ?_ | (with_reducible first | refine jA ?_ | refine jB ?_ | refine jC ?_ | refine jD ?_) | refine jE ?_ | refine jF ?_ | refine jG ?_ | refine jH ?_ | refine jI ?_ | refine jJ ?_ | refine jK ?_ | refine jL ?_ | refine jM ?_ | refine jN ?_ | refine jO ?_ | refine jP ?_ | refine jQ ?_ | refine jR ?_ | refine jS (k := ?_) | refine jT (k := ?_)))); (conv => whnf)
    rw [adr0]
    have hx03 := hx02.trans hx3
    refine r_stn (hrow.ext hx03) (by rw [List.length_append]; simp [En.cells]; omega) (cells_one e) fun w4 hc4 hs4 hrow4 => ?_
    rw [flat_set hi] at hrow4
    have hx04 : Chg (fun k => k = x) w w4 := Chg.step (hx03.wide _) hc4 fun k hk _ => hk
    have hmx : ¬ mb = x := fun e => h.pile.map.ne hrow e.symm
    have h4 : Pile w4 ab mb (some x) c (l.set i e) := by
      refine ⟨by rw [List.length_set]; exact hblk.keep hx04 hax, ⟨R, hrow4, by rw [List.length_set]; exact hR, by rw [List.length_set]; exact hlc, hc⟩, ?_, set_dist h.pile.dist hi hpl.symm, by rw [List.length_set]; exact h.pile.len, fun y hy => ?_⟩
      · rw [idx_set h.pile.dist hi hpl.symm]
        exact h.pile.map.keep hx04 hmx
      · rcases List.mem_or_eq_of_mem_set hy with h1 | rfl
        · exact h.pile.wf y h1
        · exact he
    (repeat ((conv => whnf); (first | (with_reducible first | refine jA ?_ | refine jB ?_ | refine jC ?_ | refine jD ?_) | refine jE ?_ | refine jF ?_ | refine jG ?_ | refine jH ?_ | refine jI ?_ | refine jJ ?_ | refine jK ?_ | refine jL ?_ | refine jM ?_ | refine jN ?_ | refine jO ?_ | refine jP ?_ | refine jQ ?_ | refine jR ?_ | refine jS (k := ?_) | refine jT (k := ?_)))); (conv => whnf)
    refine r_cal (hFix_ok h4 (f := gt l) (i := i) (by rw [List.length_set]; exact h.heap) (by rw [List.length_set]; exact hi) (fun k _ hne => by rw [gt_set e hi, if_neg hne])) ?_
    rintro _ w5 ⟨l', h5, hm5, hc5⟩
    (repeat ((conv => whnf); (first | (with_reducible first | refine jA ?_ | refine jB ?_ | refine jC ?_ | refine jD ?_) | refine jE ?_ | refine jF ?_ | refine jG ?_ | refine jH ?_ | refine jI ?_ | refine jJ ?_ | refine jK ?_ | refine jL ?_ | refine jM ?_ | refine jN ?_ | refine jO ?_ | refine jP ?_ | refine jQ ?_ | refine jR ?_ | refine jS (k := ?_) | refine jT (k := ?_)))); (conv => whnf)
    refine ⟨some x, c, l', h5, fun y => ?_, .inl rfl, (hx04.mono fun k _ e => .inr (.inr (by rw [e]))).trans hc5⟩
    rw [hm5, mem_gt, List.length_set]
    constructor
    · rintro ⟨k, hk, rfl⟩
      rw [gt_set e hi]
      by_cases hki : k = i
      · rw [if_pos hki]; exact .inl rfl
      · rw [if_neg hki]
        refine .inr ⟨mem_gt.2 ⟨k, hk, rfl⟩, fun e' => hki ?_⟩
        exact h.pile.dist k i hk hi (by rw [e', hpl])
    · rintro (rfl | ⟨h1, h2⟩)
      · exact ⟨i, hi, by rw [gt_set _ hi, if_pos rfl]⟩
      · obtain ⟨k, hk, rfl⟩ := mem_gt.1 h1
        exact ⟨k, hk, by rw [gt_set _ hi, if_neg fun e' => h2 (by rw [e', hpl])]⟩
end
end Fb.Try.QU
