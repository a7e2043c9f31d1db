/-
  What the codec's arguments read as.
-/
import Derived.Test.YtalkcjehehljcaaCi
import Derived.Test.YtalkcjehehljcaaVf
import Derived.Test.YtalkcjehehljcaaRows
namespace Fb.Try
open Go Go.Proofs Fb Fb.Codec

theorem own_knob : ownKnob Try.prog.godebug = none := by kernel_rfl
theorem laid_out : laidOutB Try.prog = true := by kernel_rfl

theorem u8s : ∀ (xs : List Int), (∀ x ∈ xs, (Lit.int .u8 x).wf = true) → ∃ l : List UInt8, xs.map (Value.int .u8) = bvs l
  | [], _ => ⟨[], rfl⟩
  | x :: xs, h => by
    obtain ⟨l, hl⟩ := u8s xs fun y hy => h y (by simp [hy])
    have hx := bounds_u8 (h x (by simp))
    refine ⟨UInt8.ofNat x.toNat :: l, ?_⟩
    have e : ((UInt8.ofNat x.toNat).toNat : Int) = x := by rw [UInt8.toNat_ofNat']; omega
    rw [List.map_cons, hl, bvs, bvs, List.map_cons, e]

section
variable {H : Type} {enc : TypeId × Value → H} {W : World}
theorem sl_ints {v : Value} (h : LeafOk enc Try.prog W (.sl 34) v) : ∃ a len cap xs, v = .slice a len cap ∧ View W a len cap 1 (ivs xs) ∧ ∀ x ∈ xs, inI64 x := by
  obtain ⟨a, len, cap, xs, rfl, hv, hx⟩ := open_sl_int (e := 3) (k := .i64) (by kernel_rfl) (by kernel_rfl) (by kernel_rfl) h
  exact ⟨a, len, cap, xs, rfl, hv, fun x hxm => bounds_i64 (hx x hxm)⟩
theorem sl_bytes {v : Value} (h : LeafOk enc Try.prog W (.sl 22) v) : ∃ a len cap l, v = .slice a len cap ∧ View W a len cap 1 (bvs l) := by
  obtain ⟨a, len, cap, xs, rfl, hv, hx⟩ := open_sl_int (e := 5) (k := .u8) (by kernel_rfl) (by kernel_rfl) (by kernel_rfl) h
  obtain ⟨l, hl⟩ := u8s xs hx
  rw [hl] at hv
  exact ⟨a, len, cap, l, rfl, hv⟩
def evLeafs : List Leaf := [.int .i64, .int .i64, .int .i64, .sl 34, .sl 34, .int .i64, .int .i64]
theorem isEv_of {cs : List Value} (h : AllOk enc Try.prog W evLeafs cs) : ∃ e, IsEv W e cs := by
  obtain ⟨_, _, rfl, ⟨x0, rfl, h0⟩, _, _, rfl, ⟨x1, rfl, h1⟩, _, _, rfl, ⟨x2, rfl, h2⟩, _, _, rfl, k3, _, _, rfl, k4, _, _, rfl, ⟨x5, rfl, h5⟩, _, _, rfl, ⟨x6, rfl, h6⟩, h7⟩ := h
  have h7 : _ = [] := h7
  subst h7
  obtain ⟨a3, l3, c3, xs3, rfl, v3, r3⟩ := sl_ints k3
  obtain ⟨a4, l4, c4, xs4, rfl, v4, r4⟩ := sl_ints k4
  exact ⟨⟨x0, x1, x2, xs3, xs4, x5, x6⟩, a3, l3, c3, a4, l4, c4, rfl, v3, v4, ⟨bounds_i64 h0, bounds_i64 h1, bounds_i64 h2, r3, r4, bounds_i64 h5, bounds_i64 h6⟩⟩
theorem arg_ev {r : Reach} {b0 : Nat} {v : Value} {d : DataW H} {ps : List MemPlace} (hval : Value.okWide Try.prog W r b0 36 v) (hd : DataW.Trod enc Try.prog W 0 (fun _ => true) true 36 v d ps) : ∃ e cs, v = .agg ⟨cs⟩ ∧ IsEv W e cs := by
  obtain ⟨fs, ht, hls⟩ : ∃ fs, Try.prog.underlying 36 = some (.struct fs) ∧ leafs Try.prog 4 36 = some evLeafs := ⟨_, rfl, by kernel_rfl⟩
  obtain ⟨cs, rfl, h⟩ := open_agg 4 ht hls hval hd
  obtain ⟨e, he⟩ := isEv_of h
  exact ⟨e, cs, rfl, he⟩
end
end Fb.Try
