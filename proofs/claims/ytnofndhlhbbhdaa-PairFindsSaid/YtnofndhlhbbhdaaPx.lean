/-
  Walks: a byte looked for in a text.
-/
import Derived.Test.YtnofndhlhbbhdaaPp
import Derived.Test.YtnofndhlhbbhdaaS3
import Derived.Lib.Bytealg
import Derived.Laws.Externs
import Derived.Laws.Strings3
namespace Fb.Try.VO
open Go Go.Proofs Fb Fb.Bytes Go.RowKit
set_option maxHeartbeats 1000000 in
set_option maxRecDepth 100000 in
theorem index_lite (s : ByteArray) (c : Int) (w : World) :
    Calls Try.prog 93 #[.string s, .int .u8 c] w fun e w' => e = .returned (.int .i64 (Lib.indexByte s.data.toList c.toNat.toUInt8)) ∧ w' = w := by
  go_enter Try.func93, Try.ntmps93
  go_wp2
  rw [run_callFunc_extern Try.func94 (by kernel_rfl) (by kernel_rfl) (by kernel_rfl) (e := Extern.BytealgIndexByte.indexByte) (by kernel_rfl), Lib.run_indexByteString]
  simp only [Result.andThen]
  rw [Oper.upon_value]
  go_wp2
  go_ret
  exact ⟨rfl, rfl⟩
/-- The signs that names are made of. -/
def sig : List UInt8 := [97, 98, 99, 100, 101, 102, 103, 104, 105, 106, 107, 108, 109, 110, 111, 112, 113, 114, 115, 116, 117, 118, 119, 120, 121, 122, 48, 49, 50, 51, 52, 53, 54, 55, 56, 57, 95]
theorem lib_no : ∀ (l : List UInt8) (c : UInt8), Lib.indexByte l c < 0 ↔ c ∉ l
  | [], c => by simp [Lib.indexByte]
  | b :: l, c => by
    have ih := lib_no l c
    have hge : ∀ l : List UInt8, -1 ≤ Lib.indexByte l c := by
      intro l
      induction l with
      | nil => simp [Lib.indexByte]
      | cons a l ih =>
        unfold Lib.indexByte
        split
        · omega
        · split
          · omega
          · omega
    have := hge l
    unfold Lib.indexByte
    by_cases h : b = c
    · subst h; simp
    · have h' : (b == c) = false := by simpa using h
      rw [h']
      simp only [Bool.false_eq_true, if_false, List.mem_cons, not_or]
      by_cases h2 : Lib.indexByte l c = -1
      · rw [h2] at ih
        simp only [h2, beq_self_eq_true, if_true]
        exact ⟨fun _ => ⟨fun e => h e.symm, ih.1 (by omega)⟩, fun _ => by omega⟩
      · have h3 : (Lib.indexByte l c == -1) = false := by simpa using h2
        rw [h3]
        simp only [Bool.false_eq_true, if_false]
        constructor
        · intro h4; omega
        · rintro ⟨_, h4⟩
          have := ih.2 h4
          omega
theorem sig_mem (c : UInt8) : c ∈ sig ↔ okc c := by
  have : ∀ n : Nat, n < 256 → (UInt8.ofNat n ∈ sig ↔ ((97 ≤ n ∧ n ≤ 122) ∨ (48 ≤ n ∧ n ≤ 57) ∨ n = 95)) := by decide +kernel
  have h := this c.toNat c.toNat_lt
  rw [UInt8.ofNat_toNat] at h
  exact h
theorem Index_ok (c : UInt8) (w : World) : Cal Try.prog 91 ⟨[.string (bstr sig), .int .u8 c.toNat]⟩ w fun v w' => w' = w ∧ ∃ i, v = .int .i64 i ∧ (i < 0 ↔ ¬ okc c) := by
  refine go91 (by rfl) ?_
  (repeat ((conv => whnf); (first | (with_reducible first | refine jA ?_ | refine jB ?_ | refine jC ?_ | refine jD ?_) | refine jE ?_ | refine jF ?_ | refine jG ?_ | refine jH ?_ | refine jI ?_ | refine jJ ?_ | refine jK ?_ | refine jL ?_ | refine jM ?_ | refine jN ?_ | refine jO ?_ | refine jP ?_ | refine jQ ?_ | refine jR ?_ | refine jS (k := ?_) | refine jT (k := ?_)))); (conv => whnf)
  refine r_cal (R := fun v w' => w' = w ∧ ∃ i, v = .int .i64 i ∧ (i < 0 ↔ ¬ okc c)) ?_ ?_
  · rw [Cal_eq]
    refine (index_lite (bstr sig) c.toNat w).mono ?_
    rintro e w' ⟨rfl, rfl⟩
    refine ⟨_, rfl, rfl, _, rfl, ?_⟩
    have e1 : (bstr sig).data.toList = sig := rfl
    have e2 : ((c.toNat : Int)).toNat.toUInt8 = c := by simp
    rw [e1, e2, lib_no, sig_mem]
  · rintro _ w1 ⟨rfl, i, rfl, hi⟩
    (repeat ((conv => whnf); (first | (with_reducible first | refine jA ?_ | refine jB ?_ | refine jC ?_ | refine jD ?_) | refine jE ?_ | refine jF ?_ | refine jG ?_ | refine jH ?_ | refine jI ?_ | refine jJ ?_ | refine jK ?_ | refine jL ?_ | refine jM ?_ | refine jN ?_ | refine jO ?_ | refine jP ?_ | refine jQ ?_ | refine jR ?_ | refine jS (k := ?_) | refine jT (k := ?_)))); (conv => whnf)
    exact ⟨rfl, i, rfl, hi⟩
end Fb.Try.VO
