/-
  Cuts: what the arguments are.
-/
import Derived.Test.YtlnmllpmnhiidaaAh
import Derived.Test.YtlnmllpmnhiidaaVf
import Derived.Test.YtlnmllpmnhiidaaRows
namespace Fb.Try
open Go Go.Proofs Fb
theorem own_knob : ownKnob Try.prog.godebug = none := by kernel_rfl
theorem laid_out : laidOutB Try.prog = true := by kernel_rfl
variable {H : Type} {enc : TypeId × Value → H} {W : World}
set_option maxRecDepth 10000 in
theorem arg_cuts {b0 : Nat} {r : Reach} {v : Value} {d : DataW H} {ps : List MemPlace} (hval : Value.okWide Try.prog W r b0 24 v) (hd : DataW.Trod enc Try.prog W 0 (fun _ => true) true 24 v d ps) :
    ∃ (c : AL.Cu) (a : Option Addr) (len cap : Nat), v = .agg ⟨AL.cc c a len cap⟩ ∧ View W a len cap 1 (AL.iv c.L) := by
  obtain ⟨fs, ht⟩ : ∃ fs, Try.prog.underlying 24 = some (.struct fs) := by
    have h : (match Try.prog.underlying 24 with | some (.struct _) => true | _ => false) = true := by kernel_rfl
    split at h
    · rename_i fs e
      exact ⟨fs, e⟩
    · cases h
  obtain ⟨cs, rfl, h⟩ := open_agg (P := Try.prog) (t := 24) (ls := [.int .i64, .int .i64, .sl 22]) 3 ht (by kernel_rfl) hval hd
  obtain ⟨u0, us0, rfl, ⟨n0, rfl, b0⟩, h⟩ := h
  obtain ⟨u1, us1, rfl, ⟨n1, rfl, b1⟩, h⟩ := h
  obtain ⟨u2, us2, rfl, h2, h⟩ := h
  cases h
  obtain ⟨a, len, cap, xs, rfl, hv, -⟩ := open_sl_int (e := 3) (k := .i64) (by kernel_rfl) (by kernel_rfl) (by kernel_rfl) h2
  exact ⟨⟨n0, n1, xs⟩, a, len, cap, rfl, hv⟩
end Fb.Try
