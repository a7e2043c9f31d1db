/-
  Agendas: what the arguments are.
-/
import Derived.Test.YtnofndhlhbbhdaaQi
import Derived.Test.YtnofndhlhbbhdaaVf
import Derived.Test.YtnofndhlhbbhdaaRows
namespace Fb.Try
open Go Go.Proofs Fb
theorem own_knob : ownKnob Try.prog.godebug = none := by kernel_rfl
theorem laid_out : laidOutB Try.prog = true := by kernel_rfl
variable {H : Type} {enc : TypeId × Value → H} {W : World}
theorem opQ_of {c : List Value} (h : AllOk enc Try.prog W [.int .u8, .int .i64, .int .i64, .int .i64] c) : ∃ o : QU.OpQ, c = o.cells ∧ QU.Wf o.e := by
  obtain ⟨u0, us0, rfl, ⟨n0, rfl, b0⟩, h⟩ := h
  obtain ⟨u1, us1, rfl, ⟨n1, rfl, b1⟩, h⟩ := h
  obtain ⟨u2, us2, rfl, ⟨n2, rfl, b2⟩, h⟩ := h
  obtain ⟨u3, us3, rfl, ⟨n3, rfl, b3⟩, h⟩ := h
  cases h
  exact ⟨⟨n0, ⟨n1, n2, n3⟩⟩, rfl, bounds_i64 b1⟩
theorem opsQ_of {L : List (List Value)} (h : ∀ c ∈ L, c.length = 4 ∧ AllOk enc Try.prog W [.int .u8, .int .i64, .int .i64, .int .i64] c) : ∃ os : List QU.OpQ, L = os.map QU.OpQ.cells ∧ ∀ o ∈ os, QU.Wf o.e := by
  induction L with
  | nil => exact ⟨[], rfl, by simp⟩
  | cons c L ih =>
    obtain ⟨os, rfl, h2⟩ := ih fun c hc => h c (by simp [hc])
    obtain ⟨o, rfl, h1⟩ := opQ_of (h c (by simp)).2
    exact ⟨o :: os, rfl, by
      intro p hp
      simp at hp
      rcases hp with rfl | hp
      · exact h1
      · exact h2 p hp⟩
theorem en_of {c : List Value} (h : AllOk enc Try.prog W [.int .i64, .int .i64, .int .i64] c) : ∃ e : QU.En, c = e.cells ∧ QU.Wf e := by
  obtain ⟨u1, us1, rfl, ⟨n1, rfl, b1⟩, h⟩ := h
  obtain ⟨u2, us2, rfl, ⟨n2, rfl, b2⟩, h⟩ := h
  obtain ⟨u3, us3, rfl, ⟨n3, rfl, b3⟩, h⟩ := h
  cases h
  exact ⟨⟨n1, n2, n3⟩, rfl, bounds_i64 b1⟩
theorem ens_of {L : List (List Value)} (h : ∀ c ∈ L, c.length = 3 ∧ AllOk enc Try.prog W [.int .i64, .int .i64, .int .i64] c) : ∃ os : List QU.En, L = os.map QU.En.cells ∧ ∀ o ∈ os, QU.Wf o := by
  induction L with
  | nil => exact ⟨[], rfl, by simp⟩
  | cons c L ih =>
    obtain ⟨os, rfl, h2⟩ := ih fun c hc => h c (by simp [hc])
    obtain ⟨o, rfl, h1⟩ := en_of (h c (by simp)).2
    exact ⟨o :: os, rfl, by
      intro p hp
      simp at hp
      rcases hp with rfl | hp
      · exact h1
      · exact h2 p hp⟩
set_option maxRecDepth 10000 in
theorem arg_opsQ {t : TypeId} (ht : Try.prog.underlying t = some (.slice 38)) {b0 : Nat} {r : Reach} {v : Value} {d : DataW H} {ps : List MemPlace} (hval : Value.okWide Try.prog W r b0 t v) (hd : DataW.Trod enc Try.prog W 0 (fun _ => true) true t v d ps) :
    ∃ a len cap os, v = .slice a len cap ∧ QU.OpsQ W a len cap os := by
  have h := open_arg_sl (P := Try.prog) (t := t) (e := 38) ht hval hd
  obtain ⟨a, len, cap, L, rfl, hl, hv, hc⟩ := open_sl_leafs (e := 38) (size := 4) (ls := [.int .u8, .int .i64, .int .i64, .int .i64]) 4 ht (by kernel_rfl) (by kernel_rfl) (by omega) h
  obtain ⟨os, rfl, hb⟩ := opsQ_of hc
  exact ⟨a, len, cap, os, rfl, by simpa using hl, hv, hb⟩
set_option maxRecDepth 10000 in
theorem arg_ens {t : TypeId} (ht : Try.prog.underlying t = some (.slice 28)) {b0 : Nat} {r : Reach} {v : Value} {d : DataW H} {ps : List MemPlace} (hval : Value.okWide Try.prog W r b0 t v) (hd : DataW.Trod enc Try.prog W 0 (fun _ => true) true t v d ps) :
    ∃ a len cap l, v = .slice a len cap ∧ View W a len cap 3 (QU.flat l) ∧ ∀ e ∈ l, QU.Wf e := by
  have h := open_arg_sl (P := Try.prog) (t := t) (e := 28) ht hval hd
  obtain ⟨a, len, cap, L, rfl, hl, hv, hc⟩ := open_sl_leafs (e := 28) (size := 3) (ls := [.int .i64, .int .i64, .int .i64]) 3 ht (by kernel_rfl) (by kernel_rfl) (by omega) h
  obtain ⟨os, rfl, hb⟩ := ens_of hc
  exact ⟨a, len, cap, os, rfl, hv, hb⟩
set_option maxRecDepth 10000 in
theorem arg_en {b0 : Nat} {r : Reach} {v : Value} {d : DataW H} {ps : List MemPlace} (hval : Value.okWide Try.prog W r b0 28 v) (hd : DataW.Trod enc Try.prog W 0 (fun _ => true) true 28 v d ps) :
    ∃ e : QU.En, v = .agg ⟨e.cells⟩ ∧ QU.Wf e := by
  obtain ⟨fs, ht⟩ : ∃ fs, Try.prog.underlying 28 = some (.struct fs) := by
    have h : (match Try.prog.underlying 28 with | some (.struct _) => true | _ => false) = true := by kernel_rfl
    split at h
    · rename_i fs e
      exact ⟨fs, e⟩
    · cases h
  obtain ⟨cs, rfl, h⟩ := open_agg (P := Try.prog) (t := 28) (ls := [.int .i64, .int .i64, .int .i64]) 3 ht (by kernel_rfl) hval hd
  obtain ⟨e, rfl, hw⟩ := en_of h
  exact ⟨e, rfl, hw⟩
end Fb.Try
