/-
  Walks: the document's vocabularies by rank: what they begin with.
-/
import Derived.Test.YtnofndhlhbbhdaaPm
namespace Fb.Try.VO
open Go Go.Proofs Fb Fb.Bytes
theorem mks : MakeE Try.prog 46 9 1 16 [.string ⟨#[]⟩] := MakeE.of (by kernel_rfl)
def names (R : List Sp) : List (List UInt8) := R.map Sp.name
theorem names_len (R : List Sp) : (names R).length = R.length := by simp [names]
theorem names_at {R : List Sp} {i : Nat} (h : i < R.length) : (names R)[i]? = some (gs R i).name := by
  unfold names
  rw [List.getElem?_map, gs_get h]
  rfl
def part (T : List (List UInt8)) (i : Nat) : List (List UInt8) := T.take i ++ List.replicate (T.length - i) []
theorem part_len {T : List (List UInt8)} {i : Nat} (h : i ≤ T.length) : (part T i).length = T.length := by
  simp [part]
  omega
theorem part_all (T : List (List UInt8)) : part T T.length = T := by simp [part]
theorem part_zero (T : List (List UInt8)) : (List.replicate T.length [Value.string ⟨#[]⟩]).flatten = tv (part T 0) := by
  have : ∀ n : Nat, (List.replicate n [Value.string ⟨#[]⟩]).flatten = tv (List.replicate n []) := by
    intro n
    induction n with
    | zero => rfl
    | succ n ih => rw [List.replicate_succ, List.replicate_succ, List.flatten_cons, ih]; rfl
  rw [this]
  simp [part]
theorem part_set {T : List (List UInt8)} {i : Nat} {s : List UInt8} (h : T[i]? = some s) : (tv (part T i)).set i (.string (bstr s)) = tv (part T (i + 1)) := by
  obtain ⟨hi, hs⟩ := List.getElem?_eq_some_iff.1 h
  have e : tv (part T (i + 1)) = (tv (part T i)).set i (.string (bstr s)) := by
    unfold tv
    rw [← List.map_set]
    congr 1
    unfold part
    have e1 : (T.take i).length = i := by simp; omega
    rw [List.set_append_right _ _ (by omega), e1, Nat.sub_self, show T.length - i = (T.length - (i + 1)) + 1 by omega, List.replicate_succ, List.set_cons_zero, List.take_succ_eq_append_getElem hi, hs]
    simp
  rw [e]
section
variable {w w' : World} {a aS : Option Addr} {len cap cS : Nat} {R : List Sp}
theorem sv_lens (hv : View w a len cap 2 (sv R)) : R.length = len := by
  have h1 := hv.length
  rw [sv_len] at h1
  omega
set_option maxHeartbeats 1000000 in
set_option maxRecDepth 100000 in
theorem base_ok (hv : View w a len cap 2 (sv R)) (hl : R.length ≤ 400) (hid : ∀ i, i < R.length → (gs R i).id = (i : Int)) (hn : ∀ s ∈ names R, s.length ≤ 80) : Cal Try.prog 80 ⟨[.slice a len cap, .slice aS 0 cS]⟩ w fun u w' => Ext w w' ∧ ∃ b x, u = .tuple ⟨[.agg ⟨vcs x⟩, .bool b]⟩ ∧ IsV w' ⟨names R, [], []⟩ x ∧ (b = true ↔ TokOk (names R)) := by
  have hrl := sv_lens hv
  have hcell : ∀ i, i < len → (sv R)[(i : Int).toNat * 2]? = some (.string (bstr (gs R i).name)) ∧ (sv R)[(i : Int).toNat * 2 + 1]? = some (.int .i64 (i : Int)) := fun i hi => by
    have h1 := sv_cell (S := R) (i := i) (by omega) 0 (by omega)
    have h2 := sv_cell (S := R) (i := i) (by omega) 1 (by omega)
    rw [Int.toNat_natCast]
    refine ⟨h1, h2.trans ?_⟩
    show some (Value.int .i64 (gs R i).id) = _
    rw [hid i (by omega)]
  refine go80 (by rfl) ?_
  (repeat ((conv => whnf); (first | (with_reducible first | refine jA ?_ | refine jB ?_ | refine jC ?_ | refine jD ?_) | refine jE ?_ | refine jF ?_ | refine jG ?_ | refine jH ?_ | refine jI ?_ | refine jJ ?_ | refine jK ?_ | refine jL ?_ | refine jM ?_ | refine jN ?_ | refine jO ?_ | refine jP ?_ | refine jQ ?_ | refine jR ?_ | refine jS (k := ?_) | refine jT (k := ?_)))); (conv => whnf)
  refine r_new fun b4 w1 hx1 hb1 hs1 hblk4 => ?_
  (repeat ((conv => whnf); (first | (with_reducible first | refine jA ?_ | refine jB ?_ | refine jC ?_ | refine jD ?_) | refine jE ?_ | refine jF ?_ | refine jG ?_ | refine jH ?_ | refine jI ?_ | refine jJ ?_ | refine jK ?_ | refine jL ?_ | refine jM ?_ | refine jN ?_ | refine jO ?_ | refine jP ?_ | refine jQ ?_ | refine jR ?_ | refine jS (k := ?_) | refine jT (k := ?_)))); (conv => whnf)
  refine r_loop (σ := Unit) (fun _ => [.int .i64 0, .int .i64 0]) (fun _ w' => w' = w1) (fun _ _ => 0) () rfl rfl ?_
  rintro - w1 again1 rfl hagain1
  (repeat ((conv => whnf); (first | (with_reducible first | refine jA ?_ | refine jB ?_ | refine jC ?_ | refine jD ?_) | refine jE ?_ | refine jF ?_ | refine jG ?_ | refine jH ?_ | refine jI ?_ | refine jJ ?_ | refine jK ?_ | refine jL ?_ | refine jM ?_ | refine jN ?_ | refine jO ?_ | refine jP ?_ | refine jQ ?_ | refine jR ?_ | refine jS (k := ?_) | refine jT (k := ?_)))); (conv => whnf)
  refine r_loop (σ := Nat) (fun i => [.int .i64 (i : Int), .int .i64 (i : Int)]) (fun i w' => i ≤ len ∧ w' = w1) (fun i _ => len - i) 0 rfl ⟨by omega, rfl⟩ ?_
  rintro i w1 again2 ⟨hi, rfl⟩ hagain2
  have hv1 := hv.ext hx1
  by_cases hil : i < len
  · have hp := hv.plain (by rw [sv_len]; omega)
    obtain ⟨c1, c2⟩ := hcell i hil
    (repeat ((conv => whnf); (first | (with_reducible first | refine jA ?_ | refine jB ?_ | refine jC ?_ | refine jD ?_) | refine jE ?_ | refine jF ?_ | refine jG ?_ | refine jH ?_ | refine jI ?_ | refine jJ ?_ | refine jK ?_ | refine jL ?_ | refine jM ?_ | refine jN ?_ | refine jO ?_ | refine jP ?_ | refine jQ ?_ | refine jR ?_ | refine jS (k := ?_) | refine jT (k := ?_)))); (conv => whnf)
    rw [adrV]
    refine r_ldv hv1 c2 ?_
    (repeat ((conv => whnf); (first | (with_reducible first | refine jA ?_ | refine jB ?_ | refine jC ?_ | refine jD ?_) | refine jE ?_ | refine jF ?_ | refine jG ?_ | refine jH ?_ | refine jI ?_ | refine jJ ?_ | refine jK ?_ | refine jL ?_ | refine jM ?_ | refine jN ?_ | refine jO ?_ | refine jP ?_ | refine jQ ?_ | refine jR ?_ | refine jS (k := ?_) | refine jT (k := ?_)))); (conv => whnf)
    rw [adrV]
    refine r_ldv hv1 c2 ?_
    (repeat ((conv => whnf); (first | (with_reducible first | refine jA ?_ | refine jB ?_ | refine jC ?_ | refine jD ?_) | refine jE ?_ | refine jF ?_ | refine jG ?_ | refine jH ?_ | refine jI ?_ | refine jJ ?_ | refine jK ?_ | refine jL ?_ | refine jM ?_ | refine jN ?_ | refine jO ?_ | refine jP ?_ | refine jQ ?_ | refine jR ?_ | refine jS (k := ?_) | refine jT (k := ?_)))); (conv => whnf)
    rw [adrV]
    refine r_ldv hv1 c2 ?_
    (repeat ((conv => whnf); (first | (with_reducible first | refine jA ?_ | refine jB ?_ | refine jC ?_ | refine jD ?_) | refine jE ?_ | refine jF ?_ | refine jG ?_ | refine jH ?_ | refine jI ?_ | refine jJ ?_ | refine jK ?_ | refine jL ?_ | refine jM ?_ | refine jN ?_ | refine jO ?_ | refine jP ?_ | refine jQ ?_ | refine jR ?_ | refine jS (k := ?_) | refine jT (k := ?_)))); (conv => whnf)
    have hmx : max (i : Int) ((i : Int) + 1) = ((i + 1 : Nat) : Int) := by omega
    rw [hmx]
    exact hagain2 (i + 1) _ ⟨by omega, rfl⟩ (by omega)
  have : i = len := by omega
  subst this
  (repeat ((conv => whnf); (first | (with_reducible first | refine jA ?_ | refine jB ?_ | refine jC ?_ | refine jD ?_) | refine jE ?_ | refine jF ?_ | refine jG ?_ | refine jH ?_ | refine jI ?_ | refine jJ ?_ | refine jK ?_ | refine jL ?_ | refine jM ?_ | refine jN ?_ | refine jO ?_ | refine jP ?_ | refine jQ ?_ | refine jR ?_ | refine jS (k := ?_) | refine jT (k := ?_)))); (conv => whnf)
  refine r_make mks (by omega) fun b9 w2 hx2 hb2 hs2 hblk9 => ?_
  rw [Int.toNat_natCast, ← hrl, ← names_len, part_zero] at hblk9
  rw [Int.toNat_natCast]
  have h49 : ¬ b4 = b9 := by have := hblk4.lt; omega
  have hx02 := hx1.trans hx2
  have hz1 := hx1.size
  have hblk4 := hblk4.ext hx2
  have hv2 := hv.ext hx02
  (repeat ((conv => whnf); (first | (with_reducible first | refine jA ?_ | refine jB ?_ | refine jC ?_ | refine jD ?_) | refine jE ?_ | refine jF ?_ | refine jG ?_ | refine jH ?_ | refine jI ?_ | refine jJ ?_ | refine jK ?_ | refine jL ?_ | refine jM ?_ | refine jN ?_ | refine jO ?_ | refine jP ?_ | refine jQ ?_ | refine jR ?_ | refine jS (k := ?_) | refine jT (k := ?_)))); (conv => whnf)
  refine r_loop (σ := Nat) (fun i => [.int .i64 (i : Int)]) (fun i w' => i ≤ R.length ∧ Chg (· = b9) w2 w' ∧ Blk w' b9 9 (tv (part (names R) i))) (fun i _ => R.length - i) 0 rfl ⟨by omega, Chg.refl _ _, hblk9⟩ ?_
  clear hblk9
  rintro j w3 again3 ⟨hj, hc3, hblk9⟩ hagain3
  have hx03 : Ext w w3 := Chg.step hx02 hc3 fun k hk hlt => by omega
  have hz3 := hx03.size
  have hv3 := hv.ext hx03
  by_cases hjl : j < R.length
  · have hp := hv.plain (by rw [sv_len]; omega)
    obtain ⟨c1, c2⟩ := hcell j (by omega)
    (repeat ((conv => whnf); (first | (with_reducible first | refine jA ?_ | refine jB ?_ | refine jC ?_ | refine jD ?_) | refine jE ?_ | refine jF ?_ | refine jG ?_ | refine jH ?_ | refine jI ?_ | refine jJ ?_ | refine jK ?_ | refine jL ?_ | refine jM ?_ | refine jN ?_ | refine jO ?_ | refine jP ?_ | refine jQ ?_ | refine jR ?_ | refine jS (k := ?_) | refine jT (k := ?_)))); (conv => whnf)
    refine r_loop (σ := Nat) (fun k => [.int .i64 (k : Int)]) (fun k w' => k ≤ j ∧ Ext w3 w') (fun k _ => j - k) 0 rfl ⟨by omega, Ext.refl _⟩ ?_
    rintro k w4 again4 ⟨hk, hx4⟩ hagain4
    by_cases hkj : k < j
    · obtain ⟨d1, d2⟩ := hcell k (by omega)
      (repeat ((conv => whnf); (first | (with_reducible first | refine jA ?_ | refine jB ?_ | refine jC ?_ | refine jD ?_) | refine jE ?_ | refine jF ?_ | refine jG ?_ | refine jH ?_ | refine jI ?_ | refine jJ ?_ | refine jK ?_ | refine jL ?_ | refine jM ?_ | refine jN ?_ | refine jO ?_ | refine jP ?_ | refine jQ ?_ | refine jR ?_ | refine jS (k := ?_) | refine jT (k := ?_)))); (conv => whnf)
      refine r_drawE fun w5 hx5 hh5 => ?_
      (repeat ((conv => whnf); (first | (with_reducible first | refine jA ?_ | refine jB ?_ | refine jC ?_ | refine jD ?_) | refine jE ?_ | refine jF ?_ | refine jG ?_ | refine jH ?_ | refine jI ?_ | refine jJ ?_ | refine jK ?_ | refine jL ?_ | refine jM ?_ | refine jN ?_ | refine jO ?_ | refine jP ?_ | refine jQ ?_ | refine jR ?_ | refine jS (k := ?_) | refine jT (k := ?_)))); (conv => whnf)
      rw [adrV]
      refine r_ldvE (hv3.ext hx4) d2 ?_
      (repeat ((conv => whnf); (first | (with_reducible first | refine jA ?_ | refine jB ?_ | refine jC ?_ | refine jD ?_) | refine jE ?_ | refine jF ?_ | refine jG ?_ | refine jH ?_ | refine jI ?_ | refine jJ ?_ | refine jK ?_ | refine jL ?_ | refine jM ?_ | refine jN ?_ | refine jO ?_ | refine jP ?_ | refine jQ ?_ | refine jR ?_ | refine jS (k := ?_) | refine jT (k := ?_)))); (conv => whnf)
      rw [adrV]
      refine r_ldvE (hv3.ext hx4) c2 ?_
      (repeat ((conv => whnf); (first | (with_reducible first | refine jA ?_ | refine jB ?_ | refine jC ?_ | refine jD ?_) | refine jE ?_ | refine jF ?_ | refine jG ?_ | refine jH ?_ | refine jI ?_ | refine jJ ?_ | refine jK ?_ | refine jL ?_ | refine jM ?_ | refine jN ?_ | refine jO ?_ | refine jP ?_ | refine jQ ?_ | refine jR ?_ | refine jS (k := ?_) | refine jT (k := ?_)))); (conv => whnf)
      exact hagain4 (k + 1) w5 ⟨by omega, hx4.trans hx5⟩ (by omega)
    · have hv4 := hv3.ext hx4
      (repeat ((conv => whnf); (first | (with_reducible first | refine jA ?_ | refine jB ?_ | refine jC ?_ | refine jD ?_) | refine jE ?_ | refine jF ?_ | refine jG ?_ | refine jH ?_ | refine jI ?_ | refine jJ ?_ | refine jK ?_ | refine jL ?_ | refine jM ?_ | refine jN ?_ | refine jO ?_ | refine jP ?_ | refine jQ ?_ | refine jR ?_ | refine jS (k := ?_) | refine jT (k := ?_)))); (conv => whnf)
      refine r_drawE fun w5 hx5 hh5 => ?_
      (repeat ((conv => whnf); (first | (with_reducible first | refine jA ?_ | refine jB ?_ | refine jC ?_ | refine jD ?_) | refine jE ?_ | refine jF ?_ | refine jG ?_ | refine jH ?_ | refine jI ?_ | refine jJ ?_ | refine jK ?_ | refine jL ?_ | refine jM ?_ | refine jN ?_ | refine jO ?_ | refine jP ?_ | refine jQ ?_ | refine jR ?_ | refine jS (k := ?_) | refine jT (k := ?_)))); (conv => whnf)
      rw [adrV]
      refine r_ldvE hv4 c2 ?_
      (repeat ((conv => whnf); (first | (with_reducible first | refine jA ?_ | refine jB ?_ | refine jC ?_ | refine jD ?_) | refine jE ?_ | refine jF ?_ | refine jG ?_ | refine jH ?_ | refine jI ?_ | refine jJ ?_ | refine jK ?_ | refine jL ?_ | refine jM ?_ | refine jN ?_ | refine jO ?_ | refine jP ?_ | refine jQ ?_ | refine jR ?_ | refine jS (k := ?_) | refine jT (k := ?_)))); (conv => whnf)
      refine r_ldvE hv4 c1 ?_
      (repeat ((conv => whnf); (first | refine r_need rfl ?_ | (with_reducible first | refine jA ?_ | refine jB ?_ | refine jC ?_ | refine jD ?_) | refine jE ?_ | refine jF ?_ | refine jG ?_ | refine jH ?_ | refine jI ?_ | refine jJ ?_ | refine jK ?_ | refine jL ?_ | refine jM ?_ | refine jN ?_ | refine jO ?_ | refine jP ?_ | refine jQ ?_ | refine jR ?_ | refine jS (k := ?_) | refine jT (k := ?_)))); (conv => whnf)
      rw [adr0, Nat.mul_one]
      have hx35 := hx4.trans hx5
      refine r_st (hblk9.ext hx35) (by rw [tv_len, part_len (by rw [names_len]; omega), names_len]; omega) (by rfl) fun w6 hc6 hs6 hblk6 => ?_
      rw [part_set (names_at hjl)] at hblk6
      (repeat ((conv => whnf); (first | (with_reducible first | refine jA ?_ | refine jB ?_ | refine jC ?_ | refine jD ?_) | refine jE ?_ | refine jF ?_ | refine jG ?_ | refine jH ?_ | refine jI ?_ | refine jJ ?_ | refine jK ?_ | refine jL ?_ | refine jM ?_ | refine jN ?_ | refine jO ?_ | refine jP ?_ | refine jQ ?_ | refine jR ?_ | refine jS (k := ?_) | refine jT (k := ?_)))); (conv => whnf)
      exact hagain3 (j + 1) w6 ⟨by omega, Chg.trans hc3 (Chg.trans (hx35.wide _) hc6), hblk6⟩ (by omega)
  · have : j = R.length := by omega
    subst this
    rw [← names_len, part_all] at hblk9
    have hblk4 := hblk4.keep hc3 h49
    (repeat ((conv => whnf); (first | (with_reducible first | refine jA ?_ | refine jB ?_ | refine jC ?_ | refine jD ?_) | refine jE ?_ | refine jF ?_ | refine jG ?_ | refine jH ?_ | refine jI ?_ | refine jJ ?_ | refine jK ?_ | refine jL ?_ | refine jM ?_ | refine jN ?_ | refine jO ?_ | refine jP ?_ | refine jQ ?_ | refine jR ?_ | refine jS (k := ?_) | refine jT (k := ?_)))); (conv => whnf)
    refine r_new fun b12 w4 hx4 hb4 hs4 hblk12 => ?_
    have hx04 := hx03.trans hx4
    (repeat ((conv => whnf); (first | (with_reducible first | refine jA ?_ | refine jB ?_ | refine jC ?_ | refine jD ?_) | refine jE ?_ | refine jF ?_ | refine jG ?_ | refine jH ?_ | refine jI ?_ | refine jJ ?_ | refine jK ?_ | refine jL ?_ | refine jM ?_ | refine jN ?_ | refine jO ?_ | refine jP ?_ | refine jQ ?_ | refine jR ?_ | refine jS (k := ?_) | refine jT (k := ?_)))); (conv => whnf)
    refine r_loop (σ := Unit) (fun _ => [.slice (some ⟨b12, 0, none⟩) 0 0, .int .i64 0]) (fun _ w' => w' = w4) (fun _ _ => 0) () rfl rfl ?_
    rintro - w4 again5 rfl hagain5
    have hvT := View.of_blk (n := R.length) (size := 1) (hblk9.ext hx4) (by rw [tv_len, names_len, Nat.mul_one]) (by simp [maxLen]; omega)
    rw [hrl] at hvT
    (repeat ((conv => whnf); (first | (with_reducible first | refine jA ?_ | refine jB ?_ | refine jC ?_ | refine jD ?_) | refine jE ?_ | refine jF ?_ | refine jG ?_ | refine jH ?_ | refine jI ?_ | refine jJ ?_ | refine jK ?_ | refine jL ?_ | refine jM ?_ | refine jN ?_ | refine jO ?_ | refine jP ?_ | refine jQ ?_ | refine jR ?_ | refine jS (k := ?_) | refine jT (k := ?_)))); (conv => whnf)
    refine r_cal (rTok_ok hvT (by rw [names_len]; omega) hn) ?_
    rintro _ w5 ⟨hx5, b, rfl, hb⟩
    (repeat ((conv => whnf); (first | (with_reducible first | refine jA ?_ | refine jB ?_ | refine jC ?_ | refine jD ?_) | refine jE ?_ | refine jF ?_ | refine jG ?_ | refine jH ?_ | refine jI ?_ | refine jJ ?_ | refine jK ?_ | refine jL ?_ | refine jM ?_ | refine jN ?_ | refine jO ?_ | refine jP ?_ | refine jQ ?_ | refine jR ?_ | refine jS (k := ?_) | refine jT (k := ?_)))); (conv => whnf)
    refine r_stn ((hblk4.ext hx4).ext hx5) (by simp) (by simp [Value.oneCell']) fun w6 hc6 hs6 hblk6 => ?_
    have hx05 := hx04.trans hx5
    have hx06 : Ext w w6 := Chg.step hx05 hc6 fun k hk hlt => by omega
    let x : VA := ⟨some ⟨b9, 0, none⟩, i, i, none, 0, 0, some ⟨b12, 0, none⟩, 0, 0⟩
    have hblk6 : Blk w6 b4 50 (vcs x) := hblk6
    have h94 : ¬ b9 = b4 := fun e => h49 e.symm
    have hvT6 := View.of_blk (n := R.length) (size := 1) (((hblk9.ext hx4).ext hx5).keep hc6 h94) (by rw [tv_len, names_len, Nat.mul_one]) (by simp [maxLen]; omega)
    rw [hrl] at hvT6
    (repeat ((conv => whnf); (first | (with_reducible first | refine jA ?_ | refine jB ?_ | refine jC ?_ | refine jD ?_) | refine jE ?_ | refine jF ?_ | refine jG ?_ | refine jH ?_ | refine jI ?_ | refine jJ ?_ | refine jK ?_ | refine jL ?_ | refine jM ?_ | refine jN ?_ | refine jO ?_ | refine jP ?_ | refine jQ ?_ | refine jR ?_ | refine jS (k := ?_) | refine jT (k := ?_)))); (conv => whnf)
    refine r_ldnb (vs := vcs x) hblk6 rfl rfl ?_
    (repeat ((conv => whnf); (first | (with_reducible first | refine jA ?_ | refine jB ?_ | refine jC ?_ | refine jD ?_) | refine jE ?_ | refine jF ?_ | refine jG ?_ | refine jH ?_ | refine jI ?_ | refine jJ ?_ | refine jK ?_ | refine jL ?_ | refine jM ?_ | refine jN ?_ | refine jO ?_ | refine jP ?_ | refine jQ ?_ | refine jR ?_ | refine jS (k := ?_) | refine jT (k := ?_)))); (conv => whnf)
    exact ⟨hx06, b, x, rfl, ⟨hvT6, View.nil _ _, ⟨rfl, Nat.le_refl _, by simp [x, maxLen], fun h => absurd h (by simp [sv]), fun k u hu => by simp [sv] at hu⟩⟩, hb⟩
end
end Fb.Try.VO
