/-
  EncodeCuts: whatever the input the law returns true, and the input reads as it did. No condition.
-/
import Derived.Test.YtlcnldimfgbjeaaEh
import Derived.Test.YtlcnldimfgbjeaaPu
namespace Go.Proofs.Ytlcnldimfgbjeaa.encodeCuts
open Go Go.Proofs Go.ChangeShapes Go.WideShapes Go.ChangeAt Go.RowKit Fb Fb.Try
set_option maxRecDepth 100000 in
theorem lifted (os : Os) (started : os.Started) (H : Type) (enc : TypeId × Value → H) :
    ReturnsInHanded {} Try.checked os 7 .any (Rows.encodeCutsSpec.pre6 enc Try.prog Try.f7 Rows.encodeCutsRow.domain false) (Rows.encodeCutsSpec.post enc Try.prog Try.f7 false true false false) := by
  refine returnsInHanded_of_change (C := Try.checked) own_knob started (by kernel_rfl) Try.func7
    (ChangeSpec.witness6 (enc := enc) (C := Try.checked) false ⟨#[], #[.agg #[.slice none 0 0, .slice none 0 0, .slice none 0 0], .slice none 0 0, .int .u8 0], []⟩ 8 (by kernel_rfl) (by kernel_rfl) (by kernel_rfl) (by kernel_rfl)) ?_
  intro W base args ds gs before hval0 hW _ _
  have hval : ∀ (j : Nat) t v, Try.f7.params[j]? = some t → args[j]? = some v → Value.okWide Try.prog W .any base t v := hval0
  have hW' := hW
  obtain ⟨p, q, hA0, hV, rfl, hfz, hnd⟩ := hW
  have hA : DataW.TrodAll enc Try.prog W 0 (fun _ => true) true Try.f7.params.toList args.toList ds p := hA0
  rw [Try.params7] at hA hval
  obtain ⟨v0, vs0, d0, ds0, p0, q0, hargs, rfl, rfl, h0, r0⟩ := trodAll_cons hA
  obtain ⟨v1, vs1, d1, ds1, p1, q1, rfl, rfl, rfl, h1, r1⟩ := trodAll_cons r0
  obtain ⟨v2, vs2, d2, ds2, p2, q2, rfl, rfl, rfl, h2, r2⟩ := trodAll_cons r1
  obtain ⟨rfl, rfl, rfl⟩ := trodAll_nil r2
  obtain rfl : args = #[v0, v1, v2] := by cases args; simp_all
  obtain ⟨rfl, rfl⟩ := trodVars_none hV
  have k0 := hval 0 _ v0 rfl rfl
  have k1 := hval 1 _ v1 rfl rfl
  have k2 := hval 2 _ v2 rfl rfl
  refine law_calls (tb := 4) laid_out (by kernel_rfl) (by kernel_rfl) (by kernel_rfl) rfl rfl hW' ?_
  clear hA0 hval0 hval hA hW' hfz hnd hargs
  obtain ⟨c, x, rfl, hV, hW⟩ := arg_voc k0 h0
  obtain ⟨a, len, cap, xs, rfl, hv, hxs⟩ := open_sl_int (e := 5) (k := .u8) (by kernel_rfl) (by kernel_rfl) (by kernel_rfl) (open_arg_sl (e := 5) (by kernel_rfl) k1 h1)
  obtain ⟨l, hl⟩ := u8_list xs hxs
  rw [hl] at hv
  obtain ⟨n, rfl, _, _, hn⟩ := open_int (k := .u8) (by kernel_rfl) k2 h2
  exact VO.ecuts_ok hV hW hv (bounds_u8 hn)

theorem over : Rows.encodeCutsRow.holds Try.pinned (OpenSpec.ofChange Rows.encodeCutsSpec) :=
  OpenClaim.holds_of_wide 7 Try.f7 rfl rfl rfl rfl rfl rfl rfl ⟨rfl, rfl, rfl, rfl, rfl⟩ rfl rfl rfl rfl rfl (by kernel_rfl) Try.func7 (by kernel_rfl)
    (of_decide_eq_true (by kernel_rfl)) (by unfold Func.isWrapper; first | (rw [if_pos (by decide +kernel)]; kernel_rfl) | (rw [if_neg (by decide +kernel)]; exact ⟨rfl, rfl⟩))
    (fun os started H enc _ => lifted os started H enc)
theorem proved : Rows.EncodeCutsSaid := over
end Go.Proofs.Ytlcnldimfgbjeaa.encodeCuts

