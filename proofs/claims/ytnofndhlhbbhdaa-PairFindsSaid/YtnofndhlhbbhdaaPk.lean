/-
  Walks: the package's best place.
-/
import Derived.Test.YtnofndhlhbbhdaaPj
namespace Fb.Try.VO
open Go Go.Proofs Fb Fb.Bytes
def bat : Option (Nat × Nat) → Int
  | some p => p.1
  | none => 0
def bm (M : List Mg) : Option (Nat × Nat) → Mg
  | some p => gm M p.2
  | none => ⟨0, 0, 0, 0⟩
section
variable {w w' : World} {v : Voc} {x : VA} {a : Option Addr} {len cap : Nat} {row : List Int} {M : List Mg} {tb : Nat}
theorem gi_i64 (hI : ∀ i ∈ row, I64 i) {i : Nat} (h : i < row.length) : I64 (gi row i) := hI _ (List.mem_of_getElem? (gi_get h))
set_option maxHeartbeats 1000000 in
set_option maxRecDepth 100000 in
theorem pBest_ok (h : Tab w tb M) (hI : ∀ i ∈ row, I64 i) (hv : View w a len cap 1 (ri row)) (hl : len ≤ 1000) : Cal Try.prog 35 ⟨[.pointer (some ⟨tb, 0, none⟩), .slice a len cap]⟩ w fun u w' => Ext w w' ∧ u = .tuple ⟨[.int .i64 (bat (bst M row)), .agg ⟨(bm M (bst M row)).cells⟩, .bool (bst M row).isSome]⟩ := by
  have hrl := ri_lens hv
  refine go35 (by rfl) ?_
  (repeat ((conv => whnf); (first | (with_reducible first | refine jA ?_ | refine jB ?_ | refine jC ?_ | refine jD ?_) | refine jE ?_ | refine jF ?_ | refine jG ?_ | refine jH ?_ | refine jI ?_ | refine jJ ?_ | refine jK ?_ | refine jL ?_ | refine jM ?_ | refine jN ?_ | refine jO ?_ | refine jP ?_ | refine jQ ?_ | refine jR ?_ | refine jS (k := ?_) | refine jT (k := ?_)))); (conv => whnf)
  refine r_new fun b5 w1 hx1 hb1 hs1 hblk5 => ?_
  (repeat ((conv => whnf); (first | (with_reducible first | refine jA ?_ | refine jB ?_ | refine jC ?_ | refine jD ?_) | refine jE ?_ | refine jF ?_ | refine jG ?_ | refine jH ?_ | refine jI ?_ | refine jJ ?_ | refine jK ?_ | refine jL ?_ | refine jM ?_ | refine jN ?_ | refine jO ?_ | refine jP ?_ | refine jQ ?_ | refine jR ?_ | refine jS (k := ?_) | refine jT (k := ?_)))); (conv => whnf)
  refine r_new fun b8 w2 hx2 hb2 hs2 hblk8 => ?_
  have h58 : b5 ≠ b8 := by have := hblk5.lt; omega
  have hblk5 := hblk5.ext hx2
  (repeat ((conv => whnf); (first | (with_reducible first | refine jA ?_ | refine jB ?_ | refine jC ?_ | refine jD ?_) | refine jE ?_ | refine jF ?_ | refine jG ?_ | refine jH ?_ | refine jI ?_ | refine jJ ?_ | refine jK ?_ | refine jL ?_ | refine jM ?_ | refine jN ?_ | refine jO ?_ | refine jP ?_ | refine jQ ?_ | refine jR ?_ | refine jS (k := ?_) | refine jT (k := ?_)))); (conv => whnf)
  refine r_stn hblk8 (by simp) (mg_one ⟨0, 0, 0, 0⟩) fun w3 hc3 hs3 hblk8 => ?_
  have hblk8 : Blk w3 b8 57 (bm M (bstN M row 0)).cells := hblk8
  have hz1 := hx1.size
  have hz2 := hx2.size
  have hx03 : Ext w w3 := Chg.step (hx1.trans hx2) hc3 fun k hk hlt => by omega
  have hblk5 := hblk5.keep hc3 h58
  (repeat ((conv => whnf); (first | (with_reducible first | refine jA ?_ | refine jB ?_ | refine jC ?_ | refine jD ?_) | refine jE ?_ | refine jF ?_ | refine jG ?_ | refine jH ?_ | refine jI ?_ | refine jJ ?_ | refine jK ?_ | refine jL ?_ | refine jM ?_ | refine jN ?_ | refine jO ?_ | refine jP ?_ | refine jQ ?_ | refine jR ?_ | refine jS (k := ?_) | refine jT (k := ?_)))); (conv => whnf)
  refine r_loop (σ := Nat) (fun n => [.int .i64 (bat (bstN M row n)), .bool (bstN M row n).isSome, .int .i64 ((n + 1 : Nat) : Int)]) (fun n w' => n ≤ len - 1 ∧ Ext w w' ∧ (∃ m : Mg, Blk w' b5 57 m.cells) ∧ Blk w' b8 57 (bm M (bstN M row n)).cells) (fun n _ => len - 1 - n) 0 rfl ⟨by omega, hx03, ⟨⟨0, 0, 0, 0⟩, hblk5⟩, hblk8⟩ ?_
  clear hblk5 hblk8
  rintro n w4 again ⟨hn, hx4, ⟨c5, hblk5⟩, hblk8⟩ hagain
  by_cases hnl : n + 1 < len
  rotate_left
  · have : n = row.length - 1 := by omega
    subst this
    (repeat ((conv => whnf); (first | (with_reducible first | refine jA ?_ | refine jB ?_ | refine jC ?_ | refine jD ?_) | refine jE ?_ | refine jF ?_ | refine jG ?_ | refine jH ?_ | refine jI ?_ | refine jJ ?_ | refine jK ?_ | refine jL ?_ | refine jM ?_ | refine jN ?_ | refine jO ?_ | refine jP ?_ | refine jQ ?_ | refine jR ?_ | refine jS (k := ?_) | refine jT (k := ?_)))); (conv => whnf)
    refine r_drawE fun w5 hx5 hh5 => ?_
    (repeat ((conv => whnf); (first | refine r_ldnbE (vs := (bm M (bstN M row (row.length - 1))).cells) hblk8 rfl rfl ?_ | (with_reducible first | refine jA ?_ | refine jB ?_ | refine jC ?_ | refine jD ?_) | refine jE ?_ | refine jF ?_ | refine jG ?_ | refine jH ?_ | refine jI ?_ | refine jJ ?_ | refine jK ?_ | refine jL ?_ | refine jM ?_ | refine jN ?_ | refine jO ?_ | refine jP ?_ | refine jQ ?_ | refine jR ?_ | refine jS (k := ?_) | refine jT (k := ?_)))); (conv => whnf)
    refine r_stn (hblk5.ext hx5) (by simp [Mg.cells]) (mg_one _) fun w6 hc6 hs6 hblk6 => ?_
    have hblk6 : Blk w6 b5 57 (bm M (bstN M row (row.length - 1))).cells := hblk6
    (repeat ((conv => whnf); (first | (with_reducible first | refine jA ?_ | refine jB ?_ | refine jC ?_ | refine jD ?_) | refine jE ?_ | refine jF ?_ | refine jG ?_ | refine jH ?_ | refine jI ?_ | refine jJ ?_ | refine jK ?_ | refine jL ?_ | refine jM ?_ | refine jN ?_ | refine jO ?_ | refine jP ?_ | refine jQ ?_ | refine jR ?_ | refine jS (k := ?_) | refine jT (k := ?_)))); (conv => whnf)
    refine r_ldnb (vs := (bm M (bstN M row (row.length - 1))).cells) hblk6 rfl rfl ?_
    (repeat ((conv => whnf); (first | (with_reducible first | refine jA ?_ | refine jB ?_ | refine jC ?_ | refine jD ?_) | refine jE ?_ | refine jF ?_ | refine jG ?_ | refine jH ?_ | refine jI ?_ | refine jJ ?_ | refine jK ?_ | refine jL ?_ | refine jM ?_ | refine jN ?_ | refine jO ?_ | refine jP ?_ | refine jQ ?_ | refine jR ?_ | refine jS (k := ?_) | refine jT (k := ?_)))); (conv => whnf)
    exact ⟨Chg.step (hx4.trans hx5) hc6 fun k hk hlt => by omega, rfl⟩
  have hp := hv.plain (by rw [ri_len]; omega)
  have g1 : (ri row)[(((n + 1 : Nat) : Int) - 1).toNat * 1]? = some (.int .i64 (gi row n)) := by
    rw [show (((n + 1 : Nat) : Int) - 1).toNat * 1 = n by omega]
    exact ri_get (by omega)
  have g2 : (ri row)[((n + 1 : Nat) : Int).toNat * 1]? = some (.int .i64 (gi row (n + 1))) := by
    rw [show ((n + 1 : Nat) : Int).toNat * 1 = n + 1 by omega]
    exact ri_get (by omega)
  have hv4 := hv.ext hx4
  have hst : bstN M row (n + 1) = better M (bstN M row n) (cand M row n) := rfl
  have hz4 := hx4.size
  have hl5 := hblk5.lt
  have hl8 := hblk8.lt
  (repeat ((conv => whnf); (first | (with_reducible first | refine jA ?_ | refine jB ?_ | refine jC ?_ | refine jD ?_) | refine jE ?_ | refine jF ?_ | refine jG ?_ | refine jH ?_ | refine jI ?_ | refine jJ ?_ | refine jK ?_ | refine jL ?_ | refine jM ?_ | refine jN ?_ | refine jO ?_ | refine jP ?_ | refine jQ ?_ | refine jR ?_ | refine jS (k := ?_) | refine jT (k := ?_)))); (conv => whnf)
  refine r_drawE fun w5 hx5 hh5 => ?_
  (repeat ((conv => whnf); (first | refine r_ldvE hv4 g1 ?_ | refine r_ldvE hv4 g2 ?_ | (with_reducible first | refine jA ?_ | refine jB ?_ | refine jC ?_ | refine jD ?_) | refine jE ?_ | refine jF ?_ | refine jG ?_ | refine jH ?_ | refine jI ?_ | refine jJ ?_ | refine jK ?_ | refine jL ?_ | refine jM ?_ | refine jN ?_ | refine jO ?_ | refine jP ?_ | refine jQ ?_ | refine jR ?_ | refine jS (k := ?_) | refine jT (k := ?_)))); (conv => whnf)
  have h5 := h.ext (hx4.trans hx5)
  refine r_both ?_ ?_
  focus
    (conv => whnf)
    refine r_cal (pFind_ok h5 (gi_i64 hI (by omega)) (gi_i64 hI (by omega))) ?_
    rintro _ w6 ⟨hx6, rfl⟩
    have hx46 := hx5.trans hx6
    (repeat ((conv => whnf); (first | (with_reducible first | refine jA ?_ | refine jB ?_ | refine jC ?_ | refine jD ?_) | refine jE ?_ | refine jF ?_ | refine jG ?_ | refine jH ?_ | refine jI ?_ | refine jJ ?_ | refine jK ?_ | refine jL ?_ | refine jM ?_ | refine jN ?_ | refine jO ?_ | refine jP ?_ | refine jQ ?_ | refine jR ?_ | refine jS (k := ?_) | refine jT (k := ?_)))); (conv => whnf)
    refine r_new fun b11 w7 hx7 hb7 hs7 hblk11 => ?_
    have hx47 := hx46.trans hx7
    (repeat ((conv => whnf); (first | (with_reducible first | refine jA ?_ | refine jB ?_ | refine jC ?_ | refine jD ?_) | refine jE ?_ | refine jF ?_ | refine jG ?_ | refine jH ?_ | refine jI ?_ | refine jJ ?_ | refine jK ?_ | refine jL ?_ | refine jM ?_ | refine jN ?_ | refine jO ?_ | refine jP ?_ | refine jQ ?_ | refine jR ?_ | refine jS (k := ?_) | refine jT (k := ?_)))); (conv => whnf)
    refine r_held hx47 ?_
    (repeat ((conv => whnf); (first | (with_reducible first | refine jA ?_ | refine jB ?_ | refine jC ?_ | refine jD ?_) | refine jE ?_ | refine jF ?_ | refine jG ?_ | refine jH ?_ | refine jI ?_ | refine jJ ?_ | refine jK ?_ | refine jL ?_ | refine jM ?_ | refine jN ?_ | refine jO ?_ | refine jP ?_ | refine jQ ?_ | refine jR ?_ | refine jS (k := ?_) | refine jT (k := ?_)))); (conv => whnf)
  rotate_left
  focus
    (conv => whnf)
    refine r_new fun b11 w6 hx6 hb6 hs6 hblk11 => ?_
    have hx46 := hx5.trans hx6
    (repeat ((conv => whnf); (first | (with_reducible first | refine jA ?_ | refine jB ?_ | refine jC ?_ | refine jD ?_) | refine jE ?_ | refine jF ?_ | refine jG ?_ | refine jH ?_ | refine jI ?_ | refine jJ ?_ | refine jK ?_ | refine jL ?_ | refine jM ?_ | refine jN ?_ | refine jO ?_ | refine jP ?_ | refine jQ ?_ | refine jR ?_ | refine jS (k := ?_) | refine jT (k := ?_)))); (conv => whnf)
    refine r_held hx46 ?_
    (repeat ((conv => whnf); (first | (with_reducible first | refine jA ?_ | refine jB ?_ | refine jC ?_ | refine jD ?_) | refine jE ?_ | refine jF ?_ | refine jG ?_ | refine jH ?_ | refine jI ?_ | refine jJ ?_ | refine jK ?_ | refine jL ?_ | refine jM ?_ | refine jN ?_ | refine jO ?_ | refine jP ?_ | refine jQ ?_ | refine jR ?_ | refine jS (k := ?_) | refine jT (k := ?_)))); (conv => whnf)
    refine r_cal (pFind_ok (h5.ext hx6) (gi_i64 hI (by omega)) (gi_i64 hI (by omega))) ?_
    rintro _ w7 ⟨hx7, rfl⟩
    have hx47 := hx46.trans hx7
    have hblk11 := hblk11.ext hx7
    have hb6 : w4.heap.size ≤ b11 := by have := hx5.size; omega
    (repeat ((conv => whnf); (first | (with_reducible first | refine jA ?_ | refine jB ?_ | refine jC ?_ | refine jD ?_) | refine jE ?_ | refine jF ?_ | refine jG ?_ | refine jH ?_ | refine jI ?_ | refine jJ ?_ | refine jK ?_ | refine jL ?_ | refine jM ?_ | refine jN ?_ | refine jO ?_ | refine jP ?_ | refine jQ ?_ | refine jR ?_ | refine jS (k := ?_) | refine jT (k := ?_)))); (conv => whnf)
  rotate_left
  all_goals
    have hb11 : w4.heap.size ≤ b11 := by have := hx46.size; omega
    have hblk5 := hblk5.ext hx47
    have hblk8 := hblk8.ext hx47
    refine r_stn hblk11 (by simp [Mg.cells]) (mg_one _) fun w8 hc8 hs8 hblk11 => ?_
    have hblk11 : Blk w8 b11 57 (fdM M (gi row n) (gi row (n + 1))).cells := hblk11
    have hx48 : Ext w4 w8 := Chg.step hx47 hc8 fun k hk hlt => by omega
    have hblk5 := hblk5.keep hc8 (by omega)
    have hblk8 := hblk8.keep hc8 (by omega)
    clear hc8
    clear hx47
    clear hx7
    clear hx46
    clear hx6
    have hag := hagain (n + 1)
    rw [hst] at hag
    unfold cand at hag
    unfold fdM at hblk11
    (repeat ((conv => whnf); (first | (with_reducible first | refine jA ?_ | refine jB ?_ | refine jC ?_ | refine jD ?_) | refine jE ?_ | refine jF ?_ | refine jG ?_ | refine jH ?_ | refine jI ?_ | refine jJ ?_ | refine jK ?_ | refine jL ?_ | refine jM ?_ | refine jN ?_ | refine jO ?_ | refine jP ?_ | refine jQ ?_ | refine jR ?_ | refine jS (k := ?_) | refine jT (k := ?_)))); (conv => whnf)
    cases hf : fd M (gi row n) (gi row (n + 1)) with
    | none =>
      rw [hf] at hag
      refine r_false (by rfl) ?_
      (repeat ((conv => whnf); (first | (with_reducible first | refine jA ?_ | refine jB ?_ | refine jC ?_ | refine jD ?_) | refine jE ?_ | refine jF ?_ | refine jG ?_ | refine jH ?_ | refine jI ?_ | refine jJ ?_ | refine jK ?_ | refine jL ?_ | refine jM ?_ | refine jN ?_ | refine jO ?_ | refine jP ?_ | refine jQ ?_ | refine jR ?_ | refine jS (k := ?_) | refine jT (k := ?_)))); (conv => whnf)
      exact hag w8 ⟨by omega, hx4.trans hx48, ⟨_, hblk5⟩, hblk8⟩ (by omega)
    | some i =>
      rw [hf] at hag hblk11
      obtain ⟨hi1, -⟩ := fd_some hf
      have hblk11 : Blk w8 b11 57 (gm M i).cells := hblk11
      refine r_true (by rfl) ?_
      (repeat ((conv => whnf); (first | (with_reducible first | refine jA ?_ | refine jB ?_ | refine jC ?_ | refine jD ?_) | refine jE ?_ | refine jF ?_ | refine jG ?_ | refine jH ?_ | refine jI ?_ | refine jJ ?_ | refine jK ?_ | refine jL ?_ | refine jM ?_ | refine jN ?_ | refine jO ?_ | refine jP ?_ | refine jQ ?_ | refine jR ?_ | refine jS (k := ?_) | refine jT (k := ?_)))); (conv => whnf)
      cases hb : bstN M row n with
      | none =>
        rw [hb] at hag hblk8
        refine r_true (by rfl) ?_
        (repeat ((conv => whnf); (first | (with_reducible first | refine jA ?_ | refine jB ?_ | refine jC ?_ | refine jD ?_) | refine jE ?_ | refine jF ?_ | refine jG ?_ | refine jH ?_ | refine jI ?_ | refine jJ ?_ | refine jK ?_ | refine jL ?_ | refine jM ?_ | refine jN ?_ | refine jO ?_ | refine jP ?_ | refine jQ ?_ | refine jR ?_ | refine jS (k := ?_) | refine jT (k := ?_)))); (conv => whnf)
        refine r_drawE fun w9 hx9 hh9 => ?_
        (repeat ((conv => whnf); (first | refine r_ldnbE (vs := (gm M i).cells) hblk11 rfl rfl ?_ | (with_reducible first | refine jA ?_ | refine jB ?_ | refine jC ?_ | refine jD ?_) | refine jE ?_ | refine jF ?_ | refine jG ?_ | refine jH ?_ | refine jI ?_ | refine jJ ?_ | refine jK ?_ | refine jL ?_ | refine jM ?_ | refine jN ?_ | refine jO ?_ | refine jP ?_ | refine jQ ?_ | refine jR ?_ | refine jS (k := ?_) | refine jT (k := ?_)))); (conv => whnf)
        refine r_stn (hblk8.ext hx9) (by simp [Mg.cells]) (mg_one _) fun w10 hc10 hs10 hblk8 => ?_
        have hblk8 : Blk w10 b8 57 (gm M i).cells := hblk8
        (repeat ((conv => whnf); (first | (with_reducible first | refine jA ?_ | refine jB ?_ | refine jC ?_ | refine jD ?_) | refine jE ?_ | refine jF ?_ | refine jG ?_ | refine jH ?_ | refine jI ?_ | refine jJ ?_ | refine jK ?_ | refine jL ?_ | refine jM ?_ | refine jN ?_ | refine jO ?_ | refine jP ?_ | refine jQ ?_ | refine jR ?_ | refine jS (k := ?_) | refine jT (k := ?_)))); (conv => whnf)
        have hz9 := hx9.size
        have hx8' := hx4.trans hx48
        rw [show ((n + 1 : Nat) : Int) - 1 = (n : Int) by omega]
        exact hag w10 ⟨by omega, Chg.step (hx8'.trans hx9) hc10 fun k hk hlt => by omega, ⟨_, (hblk5.ext hx9).keep hc10 h58⟩, hblk8⟩ (by omega)
      | some q =>
        rw [hb] at hag hblk8
        have hblk8 : Blk w8 b8 57 (gm M q.2).cells := hblk8
        simp only [Option.map_some, better_ss] at hag
        unfold Mg.cells at hblk8 hblk11
        refine r_false (by rfl) ?_
        by_cases hlt : (gm M i).d < (gm M q.2).d
        · simp only [hlt, if_true] at hag
          (repeat ((conv => whnf); (first | (with_reducible first | refine jA ?_ | refine jB ?_ | refine jC ?_ | refine jD ?_) | refine jE ?_ | refine jF ?_ | refine jG ?_ | refine jH ?_ | refine jI ?_ | refine jJ ?_ | refine jK ?_ | refine jL ?_ | refine jM ?_ | refine jN ?_ | refine jO ?_ | refine jP ?_ | refine jQ ?_ | refine jR ?_ | refine jS (k := ?_) | refine jT (k := ?_)))); (conv => whnf)
          refine r_drawE fun w9 hx9 hh9 => ?_
          (repeat ((conv => whnf); (first | refine r_ldnbE (vs := (gm M i).cells) hblk11 rfl rfl ?_ | (with_reducible first | refine jA ?_ | refine jB ?_ | refine jC ?_ | refine jD ?_) | refine jE ?_ | refine jF ?_ | refine jG ?_ | refine jH ?_ | refine jI ?_ | refine jJ ?_ | refine jK ?_ | refine jL ?_ | refine jM ?_ | refine jN ?_ | refine jO ?_ | refine jP ?_ | refine jQ ?_ | refine jR ?_ | refine jS (k := ?_) | refine jT (k := ?_)))); (conv => whnf)
          refine r_stn (hblk8.ext hx9) (by simp [Mg.cells]) (mg_one _) fun w10 hc10 hs10 hblk8 => ?_
          have hblk8 : Blk w10 b8 57 (gm M i).cells := hblk8
          (repeat ((conv => whnf); (first | (with_reducible first | refine jA ?_ | refine jB ?_ | refine jC ?_ | refine jD ?_) | refine jE ?_ | refine jF ?_ | refine jG ?_ | refine jH ?_ | refine jI ?_ | refine jJ ?_ | refine jK ?_ | refine jL ?_ | refine jM ?_ | refine jN ?_ | refine jO ?_ | refine jP ?_ | refine jQ ?_ | refine jR ?_ | refine jS (k := ?_) | refine jT (k := ?_)))); (conv => whnf)
          have hz9 := hx9.size
          have hx8' := hx4.trans hx48
          rw [show ((n + 1 : Nat) : Int) - 1 = (n : Int) by omega]
          exact hag w10 ⟨by omega, Chg.step (hx8'.trans hx9) hc10 fun k hk hlt => by omega, ⟨_, (hblk5.ext hx9).keep hc10 h58⟩, hblk8⟩ (by omega)
        · simp only [hlt, if_false] at hag
          (repeat ((conv => whnf); (first | (with_reducible first | refine jA ?_ | refine jB ?_ | refine jC ?_ | refine jD ?_) | refine jE ?_ | refine jF ?_ | refine jG ?_ | refine jH ?_ | refine jI ?_ | refine jJ ?_ | refine jK ?_ | refine jL ?_ | refine jM ?_ | refine jN ?_ | refine jO ?_ | refine jP ?_ | refine jQ ?_ | refine jR ?_ | refine jS (k := ?_) | refine jT (k := ?_)))); (conv => whnf)
          exact hag w8 ⟨by omega, hx4.trans hx48, ⟨_, hblk5⟩, hblk8⟩ (by omega)
end
end Fb.Try.VO
