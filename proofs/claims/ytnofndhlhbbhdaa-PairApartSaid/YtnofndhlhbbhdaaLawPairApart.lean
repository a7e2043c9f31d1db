/-
  PairApart: whatever the input the law returns true, and the input reads as it did. No condition.
-/
import Derived.Test.YtnofndhlhbbhdaaPw
import Derived.Test.YtnofndhlhbbhdaaPu
namespace Go.Proofs.Ytnofndhlhbbhdaa.pairApart
open Go Go.Proofs Go.ChangeShapes Go.WideShapes Go.ChangeAt Go.RowKit Fb Fb.Try
set_option maxRecDepth 100000 in
theorem lifted (os : Os) (started : os.Started) (H : Type) (enc : TypeId × Value → H) :
    ReturnsInHanded {} Try.checked os 11 .any (Rows.pairApartSpec.pre6 enc Try.prog Try.f11 Rows.pairApartRow.domain false) (Rows.pairApartSpec.post enc Try.prog Try.f11 false true false false) := by
  refine returnsInHanded_of_change (C := Try.checked) own_knob started (by kernel_rfl) Try.func11
    (ChangeSpec.witness6 (enc := enc) (C := Try.checked) false ⟨#[], #[.agg #[.slice none 0 0, .slice none 0 0, .slice none 0 0], .slice none 0 0, .slice none 0 0, .int .i64 0], []⟩ 8 (by kernel_rfl) (by kernel_rfl) (by kernel_rfl) (by kernel_rfl)) ?_
  intro W base args ds gs before hval0 hW _ _
  have hval : ∀ (j : Nat) t v, Try.f11.params[j]? = some t → args[j]? = some v → Value.okWide Try.prog W .any base t v := hval0
  have hW' := hW
  obtain ⟨p, q, hA0, hV, rfl, hfz, hnd⟩ := hW
  have hA : DataW.TrodAll enc Try.prog W 0 (fun _ => true) true Try.f11.params.toList args.toList ds p := hA0
  rw [Try.params11] at hA hval
  obtain ⟨v0, vs0, d0, ds0, p0, q0, hargs, rfl, rfl, h0, r0⟩ := trodAll_cons hA
  obtain ⟨v1, vs1, d1, ds1, p1, q1, rfl, rfl, rfl, h1, r1⟩ := trodAll_cons r0
  obtain ⟨v2, vs2, d2, ds2, p2, q2, rfl, rfl, rfl, h2, r2⟩ := trodAll_cons r1
  obtain ⟨v3, vs3, d3, ds3, p3, q3, rfl, rfl, rfl, h3, r3⟩ := trodAll_cons r2
  obtain ⟨rfl, rfl, rfl⟩ := trodAll_nil r3
  obtain rfl : args = #[v0, v1, v2, v3] := by cases args; simp_all
  obtain ⟨rfl, rfl⟩ := trodVars_none hV
  have k0 := hval 0 _ v0 rfl rfl
  have k1 := hval 1 _ v1 rfl rfl
  have k2 := hval 2 _ v2 rfl rfl
  have k3 := hval 3 _ v3 rfl rfl
  refine law_calls (tb := 4) laid_out (by kernel_rfl) (by kernel_rfl) (by kernel_rfl) rfl rfl hW' ?_
  clear hA0 hval0 hval hA hW' hfz hnd hargs
  obtain ⟨c, x, rfl, hV, hW⟩ := arg_voc k0 h0
  obtain ⟨a, len, cap, A, rfl, hv, hI⟩ := arg_row (by kernel_rfl) k1 h1
  obtain ⟨b, len2, cap2, B, rfl, hv2, hI2⟩ := arg_row (by kernel_rfl) k2 h2
  obtain ⟨i, rfl, -, -, b3⟩ := open_int (k := .i64) (by kernel_rfl) k3 h3
  exact VO.apart_ok hV hW hv hI hv2 hI2 (bounds_i64 b3)

theorem over : Rows.pairApartRow.holds Try.pinned (OpenSpec.ofChange Rows.pairApartSpec) :=
  OpenClaim.holds_of_wide 11 Try.f11 rfl rfl rfl rfl rfl rfl rfl ⟨rfl, rfl, rfl, rfl, rfl⟩ rfl rfl rfl rfl rfl (by kernel_rfl) Try.func11 (by kernel_rfl)
    (of_decide_eq_true (by kernel_rfl)) (by unfold Func.isWrapper; first | (rw [if_pos (by decide +kernel)]; kernel_rfl) | (rw [if_neg (by decide +kernel)]; exact ⟨rfl, rfl⟩))
    (fun os started H enc _ => lifted os started H enc)
theorem proved : Rows.PairApartSaid := over
end Go.Proofs.Ytnofndhlhbbhdaa.pairApart

