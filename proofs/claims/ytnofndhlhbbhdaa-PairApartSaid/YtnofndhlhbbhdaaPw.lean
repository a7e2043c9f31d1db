/-
  Walks: the law PairApart.
-/
import Derived.Test.YtnofndhlhbbhdaaPv
namespace Fb.Try.VO
open Go Go.Proofs Fb Fb.Bytes
theorem odd_of {T : List (List UInt8)} {M : List Mg} {o : Int} (h : MgOk T M) (ho : ¬ IsT T o) : Odd M o := fun m hm => by
  obtain ⟨i, hi, rfl⟩ := gm_mem.1 hm
  have hf := (h i hi).1
  exact ⟨fun e => ho (e ▸ hf.1), fun e => ho (e ▸ hf.2.1)⟩
section
variable {w w' : World} {v : Voc} {x : VA} {a b : Option Addr} {len cap len2 cap2 : Nat} {A B : List Int} {o : Int}
set_option maxHeartbeats 2000000 in
set_option maxRecDepth 100000 in
theorem apart_ok (h : IsV w v x) (hw : Wfv v) (hv : View w a len cap 1 (ri A)) (hI : ∀ i ∈ A, I64 i) (hv2 : View w b len2 cap2 1 (ri B)) (hI2 : ∀ i ∈ B, I64 i) (hIo : I64 o) : Cal Try.prog 11 ⟨[.agg ⟨vcs x⟩, .slice a len cap, .slice b len2 cap2, .int .i64 o]⟩ w fun v w' => v = .bool true ∧ Ext w w' := by
  have hrl := ri_lens hv
  have hrl2 := ri_lens hv2
  have hMi : ∀ m ∈ v.M, I64 m.o := fun m hm => (hw.mw m hm).2.2
  obtain ⟨hlT, hlM, hlS⟩ := h.lens
  refine go11 (by rfl) ?_
  (repeat ((conv => whnf); (first | (with_reducible first | refine jA ?_ | refine jB ?_ | refine jC ?_ | refine jD ?_) | refine jE ?_ | refine jF ?_ | refine jG ?_ | refine jH ?_ | refine jI ?_ | refine jJ ?_ | refine jK ?_ | refine jL ?_ | refine jM ?_ | refine jN ?_ | refine jO ?_ | refine jP ?_ | refine jQ ?_ | refine jR ?_ | refine jS (k := ?_) | refine jT (k := ?_)))); (conv => whnf)
  refine r_new fun b2 w1 hx1 hb1 hs1 hblk => ?_
  have hblk : Blk w1 b2 50 [.slice x.aT x.lT x.cT, .slice x.aM x.lM x.cM, .slice x.aS x.lS x.cS] := hblk
  (repeat ((conv => whnf); (first | (with_reducible first | refine jA ?_ | refine jB ?_ | refine jC ?_ | refine jD ?_) | refine jE ?_ | refine jF ?_ | refine jG ?_ | refine jH ?_ | refine jI ?_ | refine jJ ?_ | refine jK ?_ | refine jL ?_ | refine jM ?_ | refine jN ?_ | refine jO ?_ | refine jP ?_ | refine jQ ?_ | refine jR ?_ | refine jS (k := ?_) | refine jT (k := ?_)))); (conv => whnf)
  refine r_ldnb (vs := vcs x) hblk rfl rfl ?_
  (repeat ((conv => whnf); (first | (with_reducible first | refine jA ?_ | refine jB ?_ | refine jC ?_ | refine jD ?_) | refine jE ?_ | refine jF ?_ | refine jG ?_ | refine jH ?_ | refine jI ?_ | refine jJ ?_ | refine jK ?_ | refine jL ?_ | refine jM ?_ | refine jN ?_ | refine jO ?_ | refine jP ?_ | refine jQ ?_ | refine jR ?_ | refine jS (k := ?_) | refine jT (k := ?_)))); (conv => whnf)
  refine r_cal (great_ok (row := []) (h.ext hx1) (View.nil _ _)) ?_
  rintro _ w2 ⟨hx2, b, rfl, hb⟩
  have hx02 := hx1.trans hx2
  cases b with
  | true =>
    (repeat ((conv => whnf); (first | (with_reducible first | refine jA ?_ | refine jB ?_ | refine jC ?_ | refine jD ?_) | refine jE ?_ | refine jF ?_ | refine jG ?_ | refine jH ?_ | refine jI ?_ | refine jJ ?_ | refine jK ?_ | refine jL ?_ | refine jM ?_ | refine jN ?_ | refine jO ?_ | refine jP ?_ | refine jQ ?_ | refine jR ?_ | refine jS (k := ?_) | refine jT (k := ?_)))); (conv => whnf)
    refine r_cal (fixed_ok _) ?_
    rintro _ w3 ⟨hx3, rfl⟩
    (repeat ((conv => whnf); (first | (with_reducible first | refine jA ?_ | refine jB ?_ | refine jC ?_ | refine jD ?_) | refine jE ?_ | refine jF ?_ | refine jG ?_ | refine jH ?_ | refine jI ?_ | refine jJ ?_ | refine jK ?_ | refine jL ?_ | refine jM ?_ | refine jN ?_ | refine jO ?_ | refine jP ?_ | refine jQ ?_ | refine jR ?_ | refine jS (k := ?_) | refine jT (k := ?_)))); (conv => whnf)
    exact ⟨rfl, hx02.trans hx3⟩
  | false =>
  obtain ⟨hs, -⟩ := hb rfl
  have hblk2 := hblk.ext hx2
  by_cases c1 : 30 < len
  · (repeat ((conv => whnf); (first | (with_reducible first | refine jA ?_ | refine jB ?_ | refine jC ?_ | refine jD ?_) | refine jE ?_ | refine jF ?_ | refine jG ?_ | refine jH ?_ | refine jI ?_ | refine jJ ?_ | refine jK ?_ | refine jL ?_ | refine jM ?_ | refine jN ?_ | refine jO ?_ | refine jP ?_ | refine jQ ?_ | refine jR ?_ | refine jS (k := ?_) | refine jT (k := ?_)))); (conv => whnf)
    refine r_cal (fixed_ok _) ?_
    rintro _ w3 ⟨hx3, rfl⟩
    (repeat ((conv => whnf); (first | (with_reducible first | refine jA ?_ | refine jB ?_ | refine jC ?_ | refine jD ?_) | refine jE ?_ | refine jF ?_ | refine jG ?_ | refine jH ?_ | refine jI ?_ | refine jJ ?_ | refine jK ?_ | refine jL ?_ | refine jM ?_ | refine jN ?_ | refine jO ?_ | refine jP ?_ | refine jQ ?_ | refine jR ?_ | refine jS (k := ?_) | refine jT (k := ?_)))); (conv => whnf)
    exact ⟨rfl, hx02.trans hx3⟩
  by_cases c2 : 30 < len2
  · (repeat ((conv => whnf); (first | (with_reducible first | refine jA ?_ | refine jB ?_ | refine jC ?_ | refine jD ?_) | refine jE ?_ | refine jF ?_ | refine jG ?_ | refine jH ?_ | refine jI ?_ | refine jJ ?_ | refine jK ?_ | refine jL ?_ | refine jM ?_ | refine jN ?_ | refine jO ?_ | refine jP ?_ | refine jQ ?_ | refine jR ?_ | refine jS (k := ?_) | refine jT (k := ?_)))); (conv => whnf)
    refine r_cal (fixed_ok _) ?_
    rintro _ w3 ⟨hx3, rfl⟩
    (repeat ((conv => whnf); (first | (with_reducible first | refine jA ?_ | refine jB ?_ | refine jC ?_ | refine jD ?_) | refine jE ?_ | refine jF ?_ | refine jG ?_ | refine jH ?_ | refine jI ?_ | refine jJ ?_ | refine jK ?_ | refine jL ?_ | refine jM ?_ | refine jN ?_ | refine jO ?_ | refine jP ?_ | refine jQ ?_ | refine jR ?_ | refine jS (k := ?_) | refine jT (k := ?_)))); (conv => whnf)
    exact ⟨rfl, hx02.trans hx3⟩
  (repeat ((conv => whnf); (first | (with_reducible first | refine jA ?_ | refine jB ?_ | refine jC ?_ | refine jD ?_) | refine jE ?_ | refine jF ?_ | refine jG ?_ | refine jH ?_ | refine jI ?_ | refine jJ ?_ | refine jK ?_ | refine jL ?_ | refine jM ?_ | refine jN ?_ | refine jO ?_ | refine jP ?_ | refine jQ ?_ | refine jR ?_ | refine jS (k := ?_) | refine jT (k := ?_)))); (conv => whnf)
  refine r_ldnb (vs := vcs x) hblk2 rfl rfl ?_
  (repeat ((conv => whnf); (first | (with_reducible first | refine jA ?_ | refine jB ?_ | refine jC ?_ | refine jD ?_) | refine jE ?_ | refine jF ?_ | refine jG ?_ | refine jH ?_ | refine jI ?_ | refine jJ ?_ | refine jK ?_ | refine jL ?_ | refine jM ?_ | refine jN ?_ | refine jO ?_ | refine jP ?_ | refine jQ ?_ | refine jR ?_ | refine jS (k := ?_) | refine jT (k := ?_)))); (conv => whnf)
  refine r_cal (rMay_ok (h.ext hx02) hs) ?_
  rintro _ w3 ⟨hx3, b, rfl, hb⟩
  have hx03 := hx02.trans hx3
  have hblk3 := hblk2.ext hx3
  cases b with
  | false =>
    (repeat ((conv => whnf); (first | (with_reducible first | refine jA ?_ | refine jB ?_ | refine jC ?_ | refine jD ?_) | refine jE ?_ | refine jF ?_ | refine jG ?_ | refine jH ?_ | refine jI ?_ | refine jJ ?_ | refine jK ?_ | refine jL ?_ | refine jM ?_ | refine jN ?_ | refine jO ?_ | refine jP ?_ | refine jQ ?_ | refine jR ?_ | refine jS (k := ?_) | refine jT (k := ?_)))); (conv => whnf)
    refine r_cal (fixed_ok _) ?_
    rintro _ w4 ⟨hx4, rfl⟩
    (repeat ((conv => whnf); (first | (with_reducible first | refine jA ?_ | refine jB ?_ | refine jC ?_ | refine jD ?_) | refine jE ?_ | refine jF ?_ | refine jG ?_ | refine jH ?_ | refine jI ?_ | refine jJ ?_ | refine jK ?_ | refine jL ?_ | refine jM ?_ | refine jN ?_ | refine jO ?_ | refine jP ?_ | refine jQ ?_ | refine jR ?_ | refine jS (k := ?_) | refine jT (k := ?_)))); (conv => whnf)
    exact ⟨rfl, hx03.trans hx4⟩
  | true =>
  have hmay := hb.1 rfl
  by_cases d : IsT v.T o
  · have d0 := d.1
    have d1 := d.2.1
    have hpt := h.t.plain (by rw [tv_len]; omega)
    have gt1 := tv_getI (T := v.T) (i := o) d0 (by omega)
    (repeat ((conv => whnf); (first | (with_reducible first | refine jA ?_ | refine jB ?_ | refine jC ?_ | refine jD ?_) | refine jE ?_ | refine jF ?_ | refine jG ?_ | refine jH ?_ | refine jI ?_ | refine jJ ?_ | refine jK ?_ | refine jL ?_ | refine jM ?_ | refine jN ?_ | refine jO ?_ | refine jP ?_ | refine jQ ?_ | refine jR ?_ | refine jS (k := ?_) | refine jT (k := ?_)))); (conv => whnf)
    refine r_ldv (h.ext hx03).t gt1 ?_
    (repeat ((conv => whnf); (first | (with_reducible first | refine jA ?_ | refine jB ?_ | refine jC ?_ | refine jD ?_) | refine jE ?_ | refine jF ?_ | refine jG ?_ | refine jH ?_ | refine jI ?_ | refine jJ ?_ | refine jK ?_ | refine jL ?_ | refine jM ?_ | refine jN ?_ | refine jO ?_ | refine jP ?_ | refine jQ ?_ | refine jR ?_ | refine jS (k := ?_) | refine jT (k := ?_)))); (conv => whnf)
    refine r_n0t d.2.2 ?_
    (repeat ((conv => whnf); (first | (with_reducible first | refine jA ?_ | refine jB ?_ | refine jC ?_ | refine jD ?_) | refine jE ?_ | refine jF ?_ | refine jG ?_ | refine jH ?_ | refine jI ?_ | refine jJ ?_ | refine jK ?_ | refine jL ?_ | refine jM ?_ | refine jN ?_ | refine jO ?_ | refine jP ?_ | refine jQ ?_ | refine jR ?_ | refine jS (k := ?_) | refine jT (k := ?_)))); (conv => whnf)
    refine r_cal (fixed_ok _) ?_
    rintro _ w4 ⟨hx4, rfl⟩
    (repeat ((conv => whnf); (first | (with_reducible first | refine jA ?_ | refine jB ?_ | refine jC ?_ | refine jD ?_) | refine jE ?_ | refine jF ?_ | refine jG ?_ | refine jH ?_ | refine jI ?_ | refine jJ ?_ | refine jK ?_ | refine jL ?_ | refine jM ?_ | refine jN ?_ | refine jO ?_ | refine jP ?_ | refine jQ ?_ | refine jR ?_ | refine jS (k := ?_) | refine jT (k := ?_)))); (conv => whnf)
    exact ⟨rfl, hx03.trans hx4⟩
  have hodd := odd_of hmay.mg d
  have hcase : ¬ 0 ≤ o ∨ (0 ≤ o ∧ ¬ o < x.lT) ∨ (0 ≤ o ∧ o < x.lT ∧ tk v.T o = []) := by
    by_cases d0 : 0 ≤ o
    · by_cases d1 : o < x.lT
      · exact .inr (.inr ⟨d0, d1, Classical.not_not.1 fun hn => d ⟨d0, by omega, hn⟩⟩)
      · exact .inr (.inl ⟨d0, d1⟩)
    · exact .inl d0
  rcases hcase with d0 | ⟨d0, d1⟩ | ⟨d0, d1, d2⟩
  focus
    (repeat ((conv => whnf); (first | (with_reducible first | refine jA ?_ | refine jB ?_ | refine jC ?_ | refine jD ?_) | refine jE ?_ | refine jF ?_ | refine jG ?_ | refine jH ?_ | refine jI ?_ | refine jJ ?_ | refine jK ?_ | refine jL ?_ | refine jM ?_ | refine jN ?_ | refine jO ?_ | refine jP ?_ | refine jQ ?_ | refine jR ?_ | refine jS (k := ?_) | refine jT (k := ?_)))); (conv => whnf)
  rotate_left
  focus
    (repeat ((conv => whnf); (first | (with_reducible first | refine jA ?_ | refine jB ?_ | refine jC ?_ | refine jD ?_) | refine jE ?_ | refine jF ?_ | refine jG ?_ | refine jH ?_ | refine jI ?_ | refine jJ ?_ | refine jK ?_ | refine jL ?_ | refine jM ?_ | refine jN ?_ | refine jO ?_ | refine jP ?_ | refine jQ ?_ | refine jR ?_ | refine jS (k := ?_) | refine jT (k := ?_)))); (conv => whnf)
  rotate_left
  focus
    have hpt := h.t.plain (by rw [tv_len]; omega)
    have gt1 := tv_getI (T := v.T) (i := o) d0 (by omega)
    (repeat ((conv => whnf); (first | (with_reducible first | refine jA ?_ | refine jB ?_ | refine jC ?_ | refine jD ?_) | refine jE ?_ | refine jF ?_ | refine jG ?_ | refine jH ?_ | refine jI ?_ | refine jJ ?_ | refine jK ?_ | refine jL ?_ | refine jM ?_ | refine jN ?_ | refine jO ?_ | refine jP ?_ | refine jQ ?_ | refine jR ?_ | refine jS (k := ?_) | refine jT (k := ?_)))); (conv => whnf)
    refine r_ldv (h.ext hx03).t gt1 ?_
    (repeat ((conv => whnf); (first | (with_reducible first | refine jA ?_ | refine jB ?_ | refine jC ?_ | refine jD ?_) | refine jE ?_ | refine jF ?_ | refine jG ?_ | refine jH ?_ | refine jI ?_ | refine jJ ?_ | refine jK ?_ | refine jL ?_ | refine jM ?_ | refine jN ?_ | refine jO ?_ | refine jP ?_ | refine jQ ?_ | refine jR ?_ | refine jS (k := ?_) | refine jT (k := ?_)))); (conv => whnf)
    refine r_n0f d2 ?_
    (repeat ((conv => whnf); (first | (with_reducible first | refine jA ?_ | refine jB ?_ | refine jC ?_ | refine jD ?_) | refine jE ?_ | refine jF ?_ | refine jG ?_ | refine jH ?_ | refine jI ?_ | refine jJ ?_ | refine jK ?_ | refine jL ?_ | refine jM ?_ | refine jN ?_ | refine jO ?_ | refine jP ?_ | refine jQ ?_ | refine jR ?_ | refine jS (k := ?_) | refine jT (k := ?_)))); (conv => whnf)
  rotate_left
  all_goals
    refine r_ldnb (vs := vcs x) hblk3 rfl rfl ?_
    (repeat ((conv => whnf); (first | (with_reducible first | refine jA ?_ | refine jB ?_ | refine jC ?_ | refine jD ?_) | refine jE ?_ | refine jF ?_ | refine jG ?_ | refine jH ?_ | refine jI ?_ | refine jJ ?_ | refine jK ?_ | refine jL ?_ | refine jM ?_ | refine jN ?_ | refine jO ?_ | refine jP ?_ | refine jQ ?_ | refine jR ?_ | refine jS (k := ?_) | refine jT (k := ?_)))); (conv => whnf)
    refine r_cal (pNew_ok (h.ext hx03) hs hw) ?_
    rintro _ w4 ⟨hx4, ⟨-, tb, rfl, hT⟩ | ⟨hn, -⟩⟩
    rotate_left
    · exact absurd hmay hn
    have hx04 := hx03.trans hx4
    (repeat ((conv => whnf); (first | (with_reducible first | refine jA ?_ | refine jB ?_ | refine jC ?_ | refine jD ?_) | refine jE ?_ | refine jF ?_ | refine jG ?_ | refine jH ?_ | refine jI ?_ | refine jJ ?_ | refine jK ?_ | refine jL ?_ | refine jM ?_ | refine jN ?_ | refine jO ?_ | refine jP ?_ | refine jQ ?_ | refine jR ?_ | refine jS (k := ?_) | refine jT (k := ?_)))); (conv => whnf)
    refine r_new fun o5 w5 hx5 hb5 hs5 hblk5 => ?_
    (repeat ((conv => whnf); (first | (with_reducible first | refine jA ?_ | refine jB ?_ | refine jC ?_ | refine jD ?_) | refine jE ?_ | refine jF ?_ | refine jG ?_ | refine jH ?_ | refine jI ?_ | refine jJ ?_ | refine jK ?_ | refine jL ?_ | refine jM ?_ | refine jN ?_ | refine jO ?_ | refine jP ?_ | refine jQ ?_ | refine jR ?_ | refine jS (k := ?_) | refine jT (k := ?_)))); (conv => whnf)
    have hown5 := empty_own (base := w4.heap.size) hblk5 hb5
    have hx05 := hx04.trans hx5
    refine r_app eli hown5 (hv.ext hx05) (ri_one _) (by omega) (by have := hx5.size; omega) fun v6 w6 hown6 hc6 _ => ?_
    have hx46 : Ext w4 w6 := Chg.own hx5 hc6 hown5
    (repeat ((conv => whnf); (first | (with_reducible first | refine jA ?_ | refine jB ?_ | refine jC ?_ | refine jD ?_) | refine jE ?_ | refine jF ?_ | refine jG ?_ | refine jH ?_ | refine jI ?_ | refine jJ ?_ | refine jK ?_ | refine jL ?_ | refine jM ?_ | refine jN ?_ | refine jO ?_ | refine jP ?_ | refine jQ ?_ | refine jR ?_ | refine jS (k := ?_) | refine jT (k := ?_)))); (conv => whnf)
    refine r_new fun o7 w7 hx7 hb7 hs7 hblk7 => ?_
    have hx47 := hx46.trans hx7
    (repeat ((conv => whnf); (first | (with_reducible first | refine jA ?_ | refine jB ?_ | refine jC ?_ | refine jD ?_) | refine jE ?_ | refine jF ?_ | refine jG ?_ | refine jH ?_ | refine jI ?_ | refine jJ ?_ | refine jK ?_ | refine jL ?_ | refine jM ?_ | refine jN ?_ | refine jO ?_ | refine jP ?_ | refine jQ ?_ | refine jR ?_ | refine jS (k := ?_) | refine jT (k := ?_)))); (conv => whnf)
    refine r_app eli (own_ext hown6 hx7) (View.of_blk (n := 1) hblk7 rfl (by simp [maxLen])) (by simp [Value.oneCell']) (by omega) (by have := hx47.size; omega) fun v8 w8 hown8 hc8 _ => ?_
    have hx48 : Ext w4 w8 := Chg.own hx47 hc8 (own_ext hown6 hx7)
    (repeat ((conv => whnf); (first | (with_reducible first | refine jA ?_ | refine jB ?_ | refine jC ?_ | refine jD ?_) | refine jE ?_ | refine jF ?_ | refine jG ?_ | refine jH ?_ | refine jI ?_ | refine jJ ?_ | refine jK ?_ | refine jL ?_ | refine jM ?_ | refine jN ?_ | refine jO ?_ | refine jP ?_ | refine jQ ?_ | refine jR ?_ | refine jS (k := ?_) | refine jT (k := ?_)))); (conv => whnf)
    refine r_app eli hown8 (hv2.ext (hx04.trans hx48)) (ri_one _) (by omega) (by have := hx48.size; omega) fun v9 w9 hown9 hc9 _ => ?_
    have hx49 : Ext w4 w9 := Chg.own hx48 hc9 hown8
    have hx09 := hx04.trans hx49
    obtain ⟨aA, cA, rfl, hvA, -, -⟩ := View.of_own hown9
    have eA : [] ++ ri A ++ [.int .i64 o] ++ ri B = ri (A ++ o :: B) := by simp [ri]
    rw [eA] at hvA
    (repeat ((conv => whnf); (first | (with_reducible first | refine jA ?_ | refine jB ?_ | refine jC ?_ | refine jD ?_) | refine jE ?_ | refine jF ?_ | refine jG ?_ | refine jH ?_ | refine jI ?_ | refine jJ ?_ | refine jK ?_ | refine jL ?_ | refine jM ?_ | refine jN ?_ | refine jO ?_ | refine jP ?_ | refine jQ ?_ | refine jR ?_ | refine jS (k := ?_) | refine jT (k := ?_)))); (conv => whnf)
    refine r_new fun o10 w10 hx10 hb10 hs10 hblk10 => ?_
    have hown10 := empty_own (base := w9.heap.size) hblk10 hb10
    have hx410 := hx49.trans hx10
    (repeat ((conv => whnf); (first | (with_reducible first | refine jA ?_ | refine jB ?_ | refine jC ?_ | refine jD ?_) | refine jE ?_ | refine jF ?_ | refine jG ?_ | refine jH ?_ | refine jI ?_ | refine jJ ?_ | refine jK ?_ | refine jL ?_ | refine jM ?_ | refine jN ?_ | refine jO ?_ | refine jP ?_ | refine jQ ?_ | refine jR ?_ | refine jS (k := ?_) | refine jT (k := ?_)))); (conv => whnf)
    refine r_cal (pRun_ok (hT.ext hx410) hMi hI (hv.ext (hx04.trans hx410)) (by omega)) ?_
    rintro _ w11 ⟨hx11, a11, l11, c11, rfl, hv11⟩
    have hx911 := hx10.trans hx11
    have hl11 := ri_lens hv11
    have hr11 := run_len v.M A.length A (Nat.le_refl _)
    (repeat ((conv => whnf); (first | (with_reducible first | refine jA ?_ | refine jB ?_ | refine jC ?_ | refine jD ?_) | refine jE ?_ | refine jF ?_ | refine jG ?_ | refine jH ?_ | refine jI ?_ | refine jJ ?_ | refine jK ?_ | refine jL ?_ | refine jM ?_ | refine jN ?_ | refine jO ?_ | refine jP ?_ | refine jQ ?_ | refine jR ?_ | refine jS (k := ?_) | refine jT (k := ?_)))); (conv => whnf)
    refine r_app eli (own_ext hown10 hx11) hv11 (ri_one _) (by omega) (by have := hx911.size; omega) fun v12 w12 hown12 hc12 _ => ?_
    have hx912 : Ext w9 w12 := Chg.own hx911 hc12 (own_ext hown10 hx11)
    (repeat ((conv => whnf); (first | (with_reducible first | refine jA ?_ | refine jB ?_ | refine jC ?_ | refine jD ?_) | refine jE ?_ | refine jF ?_ | refine jG ?_ | refine jH ?_ | refine jI ?_ | refine jJ ?_ | refine jK ?_ | refine jL ?_ | refine jM ?_ | refine jN ?_ | refine jO ?_ | refine jP ?_ | refine jQ ?_ | refine jR ?_ | refine jS (k := ?_) | refine jT (k := ?_)))); (conv => whnf)
    refine r_new fun o13 w13 hx13 hb13 hs13 hblk13 => ?_
    have hx913 := hx912.trans hx13
    (repeat ((conv => whnf); (first | (with_reducible first | refine jA ?_ | refine jB ?_ | refine jC ?_ | refine jD ?_) | refine jE ?_ | refine jF ?_ | refine jG ?_ | refine jH ?_ | refine jI ?_ | refine jJ ?_ | refine jK ?_ | refine jL ?_ | refine jM ?_ | refine jN ?_ | refine jO ?_ | refine jP ?_ | refine jQ ?_ | refine jR ?_ | refine jS (k := ?_) | refine jT (k := ?_)))); (conv => whnf)
    refine r_app eli (own_ext hown12 hx13) (View.of_blk (n := 1) hblk13 rfl (by simp [maxLen])) (by simp [Value.oneCell']) (by omega) (by have := hx913.size; omega) fun v14 w14 hown14 hc14 _ => ?_
    have hx914 : Ext w9 w14 := Chg.own hx913 hc14 (own_ext hown12 hx13)
    have hx414 := hx49.trans hx914
    (repeat ((conv => whnf); (first | (with_reducible first | refine jA ?_ | refine jB ?_ | refine jC ?_ | refine jD ?_) | refine jE ?_ | refine jF ?_ | refine jG ?_ | refine jH ?_ | refine jI ?_ | refine jJ ?_ | refine jK ?_ | refine jL ?_ | refine jM ?_ | refine jN ?_ | refine jO ?_ | refine jP ?_ | refine jQ ?_ | refine jR ?_ | refine jS (k := ?_) | refine jT (k := ?_)))); (conv => whnf)
    refine r_cal (pRun_ok (hT.ext hx414) hMi hI2 (hv2.ext (hx04.trans hx414)) (by omega)) ?_
    rintro _ w15 ⟨hx15, a15, l15, c15, rfl, hv15⟩
    have hx915 := hx914.trans hx15
    have hl15 := ri_lens hv15
    have hr15 := run_len v.M B.length B (Nat.le_refl _)
    (repeat ((conv => whnf); (first | (with_reducible first | refine jA ?_ | refine jB ?_ | refine jC ?_ | refine jD ?_) | refine jE ?_ | refine jF ?_ | refine jG ?_ | refine jH ?_ | refine jI ?_ | refine jJ ?_ | refine jK ?_ | refine jL ?_ | refine jM ?_ | refine jN ?_ | refine jO ?_ | refine jP ?_ | refine jQ ?_ | refine jR ?_ | refine jS (k := ?_) | refine jT (k := ?_)))); (conv => whnf)
    refine r_app eli (own_ext hown14 hx15) hv15 (ri_one _) (by omega) (by have := hx915.size; omega) fun v16 w16 hown16 hc16 _ => ?_
    have hx916 : Ext w9 w16 := Chg.own hx915 hc16 (own_ext hown14 hx15)
    obtain ⟨aB, cB, rfl, hvB, -, -⟩ := View.of_own hown16
    have eB : [] ++ ri (run v.M A) ++ [.int .i64 o] ++ ri (run v.M B) = ri (run v.M A ++ o :: run v.M B) := by simp [ri]
    rw [eB] at hvB
    have hx416 := hx49.trans hx916
    (repeat ((conv => whnf); (first | (with_reducible first | refine jA ?_ | refine jB ?_ | refine jC ?_ | refine jD ?_) | refine jE ?_ | refine jF ?_ | refine jG ?_ | refine jH ?_ | refine jI ?_ | refine jJ ?_ | refine jK ?_ | refine jL ?_ | refine jM ?_ | refine jN ?_ | refine jO ?_ | refine jP ?_ | refine jQ ?_ | refine jR ?_ | refine jS (k := ?_) | refine jT (k := ?_)))); (conv => whnf)
    refine r_cal (fixed_ok _) ?_
    rintro _ w17 ⟨hx17, rfl⟩
    have hx417 := hx416.trans hx17
    have hx917 := hx916.trans hx17
    (repeat ((conv => whnf); (first | (with_reducible first | refine jA ?_ | refine jB ?_ | refine jC ?_ | refine jD ?_) | refine jE ?_ | refine jF ?_ | refine jG ?_ | refine jH ?_ | refine jI ?_ | refine jJ ?_ | refine jK ?_ | refine jL ?_ | refine jM ?_ | refine jN ?_ | refine jO ?_ | refine jP ?_ | refine jQ ?_ | refine jR ?_ | refine jS (k := ?_) | refine jT (k := ?_)))); (conv => whnf)
    refine r_cal (pRun_ok (hT.ext hx417) hMi (row := A ++ o :: B) ?_ (hvA.ext hx917) (by omega)) ?_
    · intro i hi
      simp at hi
      rcases hi with hi | rfl | hi
      · exact hI i hi
      · exact hIo
      · exact hI2 i hi
    rintro _ w18 ⟨hx18, a18, l18, c18, rfl, hv18⟩
    rw [run_apart hodd (A.length + B.length) A B (Nat.le_refl _)] at hv18
    (repeat ((conv => whnf); (first | (with_reducible first | refine jA ?_ | refine jB ?_ | refine jC ?_ | refine jD ?_) | refine jE ?_ | refine jF ?_ | refine jG ?_ | refine jH ?_ | refine jI ?_ | refine jJ ?_ | refine jK ?_ | refine jL ?_ | refine jM ?_ | refine jN ?_ | refine jO ?_ | refine jP ?_ | refine jQ ?_ | refine jR ?_ | refine jS (k := ?_) | refine jT (k := ?_)))); (conv => whnf)
    refine r_cal (Same_ok hv18 ((hvB.ext hx17).ext hx18)) ?_
    rintro _ w19 ⟨hx19, rfl⟩
    (repeat ((conv => whnf); (first | (with_reducible first | refine jA ?_ | refine jB ?_ | refine jC ?_ | refine jD ?_) | refine jE ?_ | refine jF ?_ | refine jG ?_ | refine jH ?_ | refine jI ?_ | refine jJ ?_ | refine jK ?_ | refine jL ?_ | refine jM ?_ | refine jN ?_ | refine jO ?_ | refine jP ?_ | refine jQ ?_ | refine jR ?_ | refine jS (k := ?_) | refine jT (k := ?_)))); (conv => whnf)
    exact ⟨rfl, hx04.trans ((hx417.trans hx18).trans hx19)⟩
end
end Fb.Try.VO
