/-
  Windows: what the arguments are.
-/
import Derived.Test.YtoiiohogalmobaaWk
import Derived.Test.YtoiiohogalmobaaVf
import Derived.Test.YtoiiohogalmobaaRows
namespace Fb.Try
open Go Go.Proofs Fb
theorem own_knob : ownKnob Try.prog.godebug = none := by kernel_rfl
theorem laid_out : laidOutB Try.prog = true := by kernel_rfl
variable {H : Type} {enc : TypeId × Value → H} {W : World}
theorem opW_of {c : List Value} (h : AllOk enc Try.prog W [.int .u8, .int .i64, .int .i64] c) : ∃ o : WN.OpW, c = o.cells ∧ (-9223372036854775808 ≤ o.x ∧ o.x ≤ 9223372036854775807) := by
  obtain ⟨u0, us0, rfl, ⟨n0, rfl, b0⟩, h⟩ := h
  obtain ⟨u1, us1, rfl, ⟨n1, rfl, b1⟩, h⟩ := h
  obtain ⟨u2, us2, rfl, ⟨n2, rfl, b2⟩, h⟩ := h
  cases h
  exact ⟨⟨n0, n1, n2⟩, rfl, bounds_i64 b1⟩
theorem opsW_of {L : List (List Value)} (h : ∀ c ∈ L, c.length = 3 ∧ AllOk enc Try.prog W [.int .u8, .int .i64, .int .i64] c) : ∃ os : List WN.OpW, L = os.map WN.OpW.cells ∧ ∀ o ∈ os, -9223372036854775808 ≤ o.x ∧ o.x ≤ 9223372036854775807 := by
  induction L with
  | nil => exact ⟨[], rfl, by simp⟩
  | cons c L ih =>
    obtain ⟨os, rfl, h2⟩ := ih fun c hc => h c (by simp [hc])
    obtain ⟨o, rfl, h1⟩ := opW_of (h c (by simp)).2
    exact ⟨o :: os, rfl, by
      intro p hp
      simp at hp
      rcases hp with rfl | hp
      · exact h1
      · exact h2 p hp⟩
set_option maxRecDepth 10000 in
theorem arg_opsW {t : TypeId} (ht : Try.prog.underlying t = some (.slice 62)) {b0 : Nat} {r : Reach} {v : Value} {d : DataW H} {ps : List MemPlace} (hval : Value.okWide Try.prog W r b0 t v) (hd : DataW.Trod enc Try.prog W 0 (fun _ => true) true t v d ps) :
    ∃ a len cap os, v = .slice a len cap ∧ WN.OpsW W a len cap os := by
  have h := open_arg_sl (P := Try.prog) (t := t) (e := 62) ht hval hd
  obtain ⟨a, len, cap, L, rfl, hl, hv, hc⟩ := open_sl_leafs (e := 62) (size := 3) (ls := [.int .u8, .int .i64, .int .i64]) 3 ht (by kernel_rfl) (by kernel_rfl) (by omega) h
  obtain ⟨os, rfl, hb⟩ := opsW_of hc
  exact ⟨a, len, cap, os, rfl, by simpa using hl, hv, hb⟩
end Fb.Try
