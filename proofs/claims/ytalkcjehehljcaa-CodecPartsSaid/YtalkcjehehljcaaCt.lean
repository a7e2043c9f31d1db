/-
  What a reply reads as.
-/
import Derived.Test.YtalkcjehehljcaaCl
import Derived.Test.YtalkcjehehljcaaCn
namespace Fb.Try
open Go Go.Proofs Fb Fb.Codec

section
variable {H : Type} {enc : TypeId × Value → H} {W : World}
def rpLeafs : List Leaf := [.int .i64, .int .i64, .int .i64, .int .i64, .sl 34, .int .i64, .sl 34, .int .i64, .int .i64, .int .i64, .sl 34, .int .i64, .int .i64, .sl 34]
theorem sl_is {v : Value} (h : LeafOk enc Try.prog W (.sl 34) v) : ∃ (s : Sl) (xs : List Int), v = s.v ∧ s.is W xs := by
  obtain ⟨a, len, cap, xs, rfl, hv, hx⟩ := sl_ints h
  exact ⟨(a, len, cap), xs, rfl, hv, hx⟩
theorem isRp_of {cs : List Value} (h : AllOk enc Try.prog W rpLeafs cs) : ∃ e, IsRp W e cs := by
  obtain ⟨_, _, rfl, ⟨x0, rfl, h0⟩, _, _, rfl, ⟨x1, rfl, h1⟩, _, _, rfl, ⟨x2, rfl, h2⟩, _, _, rfl, ⟨x3, rfl, h3⟩, _, _, rfl, k4, _, _, rfl, ⟨x5, rfl, h5⟩, _, _, rfl, k6, h⟩ := h
  obtain ⟨_, _, rfl, ⟨x7, rfl, h7⟩, _, _, rfl, ⟨x8, rfl, h8⟩, _, _, rfl, ⟨x9, rfl, h9⟩, _, _, rfl, k10, _, _, rfl, ⟨x11, rfl, h11⟩, _, _, rfl, ⟨x12, rfl, h12⟩, _, _, rfl, k13, h14⟩ := h
  have h14 : _ = [] := h14
  subst h14
  obtain ⟨s4, y4, rfl, i4⟩ := sl_is k4
  obtain ⟨s6, y6, rfl, i6⟩ := sl_is k6
  obtain ⟨s10, y10, rfl, i10⟩ := sl_is k10
  obtain ⟨s13, y13, rfl, i13⟩ := sl_is k13
  exact ⟨⟨x0, x1, x2, x3, y4, x5, y6, x7, x8, x9, y10, x11, x12, y13⟩, s4, s6, s10, s13, rfl, i4, i6, i10, i13, bounds_i64 h0, bounds_i64 h1, bounds_i64 h2, bounds_i64 h3, bounds_i64 h5, bounds_i64 h7, bounds_i64 h8, bounds_i64 h9, bounds_i64 h11, bounds_i64 h12⟩
theorem arg_rp {r : Reach} {b0 : Nat} {v : Value} {d : DataW H} {ps : List MemPlace} (hval : Value.okWide Try.prog W r b0 49 v) (hd : DataW.Trod enc Try.prog W 0 (fun _ => true) true 49 v d ps) : ∃ e cs, v = .agg ⟨cs⟩ ∧ IsRp W e cs := by
  obtain ⟨fs, ht, hls⟩ : ∃ fs, Try.prog.underlying 49 = some (.struct fs) ∧ leafs Try.prog 5 49 = some rpLeafs := ⟨_, rfl, by kernel_rfl⟩
  obtain ⟨cs, rfl, h⟩ := open_agg 5 ht hls hval hd
  obtain ⟨e, he⟩ := isRp_of h
  exact ⟨e, cs, rfl, he⟩
end
end Fb.Try
