/-
  Vocabularies of letters: the plain law of the examples.
-/
import Derived.Test.YtlcnldimfgbjeaaPq
import Derived.Test.YtlcnldimfgbjeaaPl
namespace Fb.Try.VO
open Go Go.Proofs Fb Fb.Bytes
theorem let_len (more : List (List UInt8)) : (letT more).length = 256 + more.length := by simp [letT]
theorem let_lo (more : List (List UInt8)) {i : Nat} (h : i < 256) : tk (letT more) (i : Nat) = [UInt8.ofNat i] := by
  unfold tk letT
  rw [Int.toNat_natCast, List.getElem?_append_left (by simp; omega), List.getElem?_map, List.getElem?_range h]
  rfl
theorem let_hi (more : List (List UInt8)) {i : Nat} (h : 256 ≤ i) : tk (letT more) (i : Nat) = tk more ((i - 256 : Nat) : Int) := by
  unfold tk letT
  rw [Int.toNat_natCast, Int.toNat_natCast, List.getElem?_append_right (by simp; omega)]
  simp
theorem ofNat_inj8 {i j : Nat} (hi : i < 256) (hj : j < 256) (h : UInt8.ofNat i = UInt8.ofNat j) : i = j := by
  have := congrArg UInt8.toNat h
  simp at this
  omega
set_option maxRecDepth 100000 in
theorem let_tok {more : List (List UInt8)} (h2 : ∀ s ∈ more, 2 ≤ s.length ∧ s.length ≤ 64) (hd : more.Nodup) : TokOk (letT more) := by
  have hmem : ∀ i, 256 ≤ i → i < (letT more).length → tk (letT more) (i : Nat) ∈ more := fun i h h' => by
    rw [let_hi more h]
    rw [let_len] at h'
    exact tk_mem.2 ⟨i - 256, by omega, rfl⟩
  refine ⟨fun s hs => ?_, uniq_iff.1 fun i j hi hj hn he => ?_, fun b hb => ?_⟩
  · unfold letT at hs
    rcases List.mem_append.1 hs with h | h
    · obtain ⟨b, _, rfl⟩ := List.mem_map.1 h
      simp
    · exact (h2 s h).2
  · by_cases c1 : i < 256
    · by_cases c2 : j < 256
      · rw [let_lo more c1, let_lo more c2] at he
        exact ofNat_inj8 c1 c2 (List.singleton_inj.1 he)
      · have := (h2 _ (hmem j (by omega) hj)).1
        rw [← he, let_lo more c1] at this
        simp at this
    · by_cases c2 : j < 256
      · have := (h2 _ (hmem i (by omega) hi)).1
        rw [he, let_lo more c2] at this
        simp at this
      · rw [let_hi more (by omega), let_hi more (by omega)] at he
        rw [let_len] at hi hj
        have hii : i - 256 < more.length := by omega
        have hjj : j - 256 < more.length := by omega
        have e1 := tk_get (T := more) hii
        have e2 := tk_get (T := more) hjj
        rw [List.getElem?_eq_getElem hii] at e1
        rw [List.getElem?_eq_getElem hjj] at e2
        have e3 : more[i - 256] = more[j - 256] := by rw [Option.some.inj e1, Option.some.inj e2, he]
        have hpw := List.pairwise_iff_getElem.1 hd
        rcases Nat.lt_trichotomy (i - 256) (j - 256) with hlt | hlt | hlt
        · exact absurd e3 (hpw _ _ hii hjj hlt)
        · omega
        · exact absurd e3.symm (hpw _ _ hjj hii hlt)
  · exact tk_mem.2 ⟨b, by rw [let_len]; omega, let_lo more hb⟩
instance (T : List (List UInt8)) (i : Int) : Decidable (IsT T i) := by unfold IsT; infer_instance
instance (T : List (List UInt8)) (m : Mg) : Decidable (Fits T m) := by unfold Fits; infer_instance
instance (a m : Mg) : Decidable (Pair2 a m) := by unfold Pair2; infer_instance
instance (T : List (List UInt8)) (M : List Mg) : Decidable (MgOk T M) := by unfold MgOk; infer_instance
theorem let_may {more : List (List UInt8)} {M : List Mg} (h2 : ∀ s ∈ more, 2 ≤ s.length ∧ s.length ≤ 64) (hd : more.Nodup) (hM : MgOk (letT more) M) (hm : ∀ i, i < more.length → ∃ m ∈ M, m.o = ((256 + i : Nat) : Int)) : MayP ⟨letT more, M, []⟩ := by
  refine ⟨let_tok h2 hd, hM, fun i hi => ?_, ⟨by simp, fun i hi => by simp at hi⟩⟩
  by_cases c1 : i < 256
  · left
    show (tk (letT more) (i : Nat)).length < 2
    rw [let_lo more c1]
    simp
  · right
    have hi : i < (letT more).length := hi
    rw [let_len] at hi
    obtain ⟨m, h1, h2⟩ := hm (i - 256) (by omega)
    exact ⟨m, h1, by rw [h2]; omega⟩
def ex1 : List (List UInt8) := [[97, 98], [98, 99]]
def ex1M : List Mg := [⟨97, 98, 256, 256⟩, ⟨98, 99, 257, 257⟩]
set_option maxRecDepth 100000 in
theorem ex1_fr : frO (letT ex1) (letT ex1).length = ex1M := by kernel_rfl
set_option maxRecDepth 100000 in
theorem ex1_mg : MgOk (letT ex1) ex1M := of_decide_eq_true (by kernel_rfl)
theorem ex1_may : MayP ⟨letT ex1, ex1M, []⟩ := let_may (by decide) (by decide) ex1_mg (by decide)
theorem ex1_small : Small ⟨letT ex1, ex1M, []⟩ := ⟨by rw [show (Voc.mk (letT ex1) ex1M []).T = letT ex1 from rfl, let_len]; decide, by decide, by decide, fun s hs => by have := ex1_may.tok.len s hs; omega, fun s hs => by simp at hs⟩
theorem ex1_wf : Wfv ⟨letT ex1, ex1M, []⟩ := ⟨by
  have : ∀ m ∈ ex1M, I64 m.l ∧ I64 m.r ∧ I64 m.o := by
    intro m hm
    simp [ex1M] at hm
    rcases hm with rfl | rfl <;> (unfold I64; decide)
  exact this, fun s hs => by simp at hs⟩
theorem ex1_a : run ex1M [97, 98, 99] = [256, 99] := by kernel_rfl
theorem ex1_b : run ex1M [98, 99, 98] = [257, 98] := by kernel_rfl
end Fb.Try.VO
