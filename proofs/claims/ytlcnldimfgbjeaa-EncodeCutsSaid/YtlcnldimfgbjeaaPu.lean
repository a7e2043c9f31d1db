/-
  Arguments: a vocabulary, rows of numbers.
-/
import Derived.Test.YtlcnldimfgbjeaaPe
import Derived.Test.YtlcnldimfgbjeaaQ4
namespace Fb.Try
open Go Go.Proofs Fb Fb.Bytes
section
variable {H : Type} {enc : TypeId × Value → H} {W : World}
theorem str_of (s : ByteArray) : ∃ l : List UInt8, s = bstr l := ⟨s.data.toList, by
  apply ByteArray.ext
  simp [bstr]⟩
theorem toks_of {L : List (List Value)} (h : ∀ c ∈ L, c.length = 1 ∧ AllOk enc Try.prog W [.str] c) : ∃ T : List (List UInt8), L.flatten = VO.tv T := by
  induction L with
  | nil => exact ⟨[], rfl⟩
  | cons c L ih =>
    obtain ⟨T, hT⟩ := ih fun c hc => h c (by simp [hc])
    obtain ⟨u, us, rfl, ⟨s, rfl, _⟩, hk⟩ := (h c (by simp)).2
    cases hk
    obtain ⟨l, rfl⟩ := str_of s
    exact ⟨l :: T, by rw [List.flatten_cons, hT]; rfl⟩
theorem mgs_of {L : List (List Value)} (h : ∀ c ∈ L, c.length = 4 ∧ AllOk enc Try.prog W [.int .i64, .int .i64, .int .i64, .int .i64] c) : ∃ M : List VO.Mg, L.flatten = VO.mv M ∧ ∀ m ∈ M, VO.I64 m.l ∧ VO.I64 m.r ∧ VO.I64 m.o := by
  induction L with
  | nil => exact ⟨[], rfl, by simp⟩
  | cons c L ih =>
    obtain ⟨M, hM, hw⟩ := ih fun c hc => h c (by simp [hc])
    obtain ⟨u1, us1, rfl, ⟨n1, rfl, b1⟩, k⟩ := (h c (by simp)).2
    obtain ⟨u2, us2, rfl, ⟨n2, rfl, b2⟩, k⟩ := k
    obtain ⟨u3, us3, rfl, ⟨n3, rfl, b3⟩, k⟩ := k
    obtain ⟨u4, us4, rfl, ⟨n4, rfl, b4⟩, k⟩ := k
    cases k
    refine ⟨⟨n1, n2, n3, n4⟩ :: M, by rw [List.flatten_cons, hM]; rfl, fun m hm => ?_⟩
    rcases List.mem_cons.1 hm with rfl | hm
    · exact ⟨bounds_i64 b1, bounds_i64 b2, bounds_i64 b3⟩
    · exact hw m hm
theorem sps_of {L : List (List Value)} (h : ∀ c ∈ L, c.length = 2 ∧ AllOk enc Try.prog W [.str, .int .i64] c) : ∃ S : List VO.Sp, L.flatten = VO.sv S ∧ ∀ s ∈ S, VO.I64 s.id := by
  induction L with
  | nil => exact ⟨[], rfl, by simp⟩
  | cons c L ih =>
    obtain ⟨S, hS, hw⟩ := ih fun c hc => h c (by simp [hc])
    obtain ⟨u1, us1, rfl, ⟨s, rfl, _⟩, k⟩ := (h c (by simp)).2
    obtain ⟨u2, us2, rfl, ⟨n2, rfl, b2⟩, k⟩ := k
    cases k
    obtain ⟨l, rfl⟩ := str_of s
    refine ⟨⟨l, n2⟩ :: S, by rw [List.flatten_cons, hS]; rfl, fun m hm => ?_⟩
    rcases List.mem_cons.1 hm with rfl | hm
    · exact bounds_i64 b2
    · exact hw m hm
set_option maxRecDepth 10000 in
theorem arg_voc {b0 : Nat} {r : Reach} {v : Value} {d : DataW H} {ps : List MemPlace} (hval : Value.okWide Try.prog W r b0 46 v) (hd : DataW.Trod enc Try.prog W 0 (fun _ => true) true 46 v d ps) :
    ∃ (c : VO.Voc) (x : VO.VA), v = .agg ⟨VO.vcs x⟩ ∧ VO.IsV W c x ∧ VO.Wfv c := by
  obtain ⟨fs, ht⟩ : ∃ fs, Try.prog.underlying 46 = some (.struct fs) := by
    have h : (match Try.prog.underlying 46 with | some (.struct _) => true | _ => false) = true := by kernel_rfl
    split at h
    · rename_i fs e
      exact ⟨fs, e⟩
    · cases h
  obtain ⟨cs, rfl, h⟩ := open_agg (P := Try.prog) (t := 46) (ls := [.sl 42, .sl 43, .sl 44]) 3 ht (by kernel_rfl) hval hd
  obtain ⟨u0, us0, rfl, h0, h⟩ := h
  obtain ⟨u1, us1, rfl, h1, h⟩ := h
  obtain ⟨u2, us2, rfl, h2, h⟩ := h
  cases h
  obtain ⟨aT, lT, cT, L0, rfl, hl0, hv0, hc0⟩ := open_sl_leafs (e := 9) (size := 1) (ls := [.str]) 3 (by kernel_rfl) (by kernel_rfl) (by kernel_rfl) (by omega) h0
  obtain ⟨aM, lM, cM, L1, rfl, hl1, hv1, hc1⟩ := open_sl_leafs (e := 55) (size := 4) (ls := [.int .i64, .int .i64, .int .i64, .int .i64]) 3 (by kernel_rfl) (by kernel_rfl) (by kernel_rfl) (by omega) h1
  obtain ⟨aS, lS, cS, L2, rfl, hl2, hv2, hc2⟩ := open_sl_leafs (e := 112) (size := 2) (ls := [.str, .int .i64]) 3 (by kernel_rfl) (by kernel_rfl) (by kernel_rfl) (by omega) h2
  obtain ⟨T, hT⟩ := toks_of hc0
  obtain ⟨M, hM, hMw⟩ := mgs_of hc1
  obtain ⟨S, hS, hSw⟩ := sps_of hc2
  rw [hT] at hv0
  rw [hM] at hv1
  rw [hS] at hv2
  exact ⟨⟨T, M, S⟩, ⟨aT, lT, cT, aM, lM, cM, aS, lS, cS⟩, rfl, ⟨hv0, hv1, hv2⟩, hMw, hSw⟩
set_option maxRecDepth 10000 in
theorem arg_row {t : TypeId} (ht : Try.prog.underlying t = some (.slice 3)) {b0 : Nat} {r : Reach} {v : Value} {d : DataW H} {ps : List MemPlace} (hval : Value.okWide Try.prog W r b0 t v) (hd : DataW.Trod enc Try.prog W 0 (fun _ => true) true t v d ps) :
    ∃ (a : Option Addr) (len cap : Nat) (row : List Int), v = .slice a len cap ∧ View W a len cap 1 (row.map (.int .i64)) ∧ ∀ i ∈ row, VO.I64 i := by
  have h := open_arg_sl (P := Try.prog) (t := t) (e := 3) ht hval hd
  obtain ⟨a, len, cap, xs, rfl, hv, hb⟩ := open_sl_int (e := 3) (k := .i64) ht (by kernel_rfl) (by kernel_rfl) h
  exact ⟨a, len, cap, xs, rfl, hv, fun i hi => bounds_i64 (hb i hi)⟩
end
end Fb.Try
