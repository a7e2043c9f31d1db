/-
  Rows of numbers and lists, their bytes, and what bytes are read as: plain Lean, no program in sight.
-/
import Derived.Test.YtalkcjehehljcaaCp
namespace Fb.Codec
open Go Fb

inductive It where
  | n (x : Int)
  | l (xs : List Int)

def numsB (xs : List Int) : List UInt8 := xs.flatMap num
def It.enc : It → List UInt8
  | .n x => num x
  | .l xs => num xs.length ++ numsB xs
def encs (D : List It) : List UInt8 := D.flatMap It.enc
def It.isL : It → Bool
  | .n _ => false
  | .l _ => true
def It.Ok : It → Prop
  | .n x => inI64 x
  | .l xs => xs.length ≤ 9223372036854775807 ∧ ∀ x ∈ xs, inI64 x

/-- So many numbers: they, and what is left. -/
def getNs : Nat → List UInt8 → Option (List Int × List UInt8)
  | 0, l => some ([], l)
  | m + 1, l => match get l with
    | some (x, k) => (getNs m (l.drop k)).map fun p => (x :: p.1, p.2)
    | none => none
def getIt (isL : Bool) (l : List UInt8) : Option (It × List UInt8) :=
  match get l with
  | none => none
  | some (x, k) => if isL then (if x < 0 ∨ ((l.drop k).length : Int) < x then none else (getNs x.toNat (l.drop k)).map fun p => (.l p.1, p.2)) else some (.n x, l.drop k)
def dec : List Bool → List UInt8 → Option (List It × List UInt8)
  | [], l => some ([], l)
  | b :: bs, l => match getIt b l with
    | none => none
    | some (i, r) => (dec bs r).map fun p => (i :: p.1, p.2)

theorem get_num' {x : Int} (h : inI64 x) (r : List UInt8) : get (num x ++ r) = some (x, (num x).length) ∧ (num x ++ r).drop (num x).length = r := ⟨get_num h r, by simp⟩

theorem getNs_enc : ∀ (xs : List Int) (r : List UInt8), (∀ x ∈ xs, inI64 x) → getNs xs.length (numsB xs ++ r) = some (xs, r)
  | [], r, _ => rfl
  | x :: xs, r, h => by
    have e : numsB (x :: xs) ++ r = num x ++ (numsB xs ++ r) := by simp [numsB]
    obtain ⟨h1, h2⟩ := get_num' (h x (by simp)) (numsB xs ++ r)
    simp only [List.length_cons, getNs, e, h1, h2, getNs_enc xs r fun y hy => h y (by simp [hy]), Option.map_some]
theorem numsB_len : ∀ (xs : List Int), (∀ x ∈ xs, inI64 x) → xs.length ≤ (numsB xs).length ∧ (numsB xs).length ≤ 10 * xs.length
  | [], _ => by simp [numsB]
  | x :: xs, h => by
    have h1 := num_len (h x (by simp))
    have h2 := numsB_len xs fun y hy => h y (by simp [hy])
    have e : numsB (x :: xs) = num x ++ numsB xs := by simp [numsB]
    rw [e, List.length_append, List.length_cons]
    omega
theorem getIt_enc (i : It) (r : List UInt8) (h : i.Ok) : getIt i.isL (i.enc ++ r) = some (i, r) := by
  cases i with
  | n x =>
    obtain ⟨h1, h2⟩ := get_num' (show inI64 x from h) r
    simp [getIt, It.isL, It.enc, h1, h2]
  | l xs =>
    obtain ⟨hl, hx⟩ := h
    have hin : inI64 (xs.length : Int) := by unfold inI64; omega
    have e : (It.l xs).enc ++ r = num xs.length ++ (numsB xs ++ r) := by simp [It.enc]
    obtain ⟨h1, h2⟩ := get_num' hin (numsB xs ++ r)
    have h3 := numsB_len xs hx
    simp only [getIt, It.isL, e, h1, h2, if_true, Int.toNat_natCast, getNs_enc xs r hx, Option.map_some]
    rw [if_neg]
    rw [List.length_append]
    omega
theorem dec_enc : ∀ (D : List It) (r : List UInt8), (∀ i ∈ D, i.Ok) → dec (D.map It.isL) (encs D ++ r) = some (D, r)
  | [], r, _ => rfl
  | i :: D, r, h => by
    have e : encs (i :: D) ++ r = i.enc ++ (encs D ++ r) := by simp [encs]
    simp only [List.map_cons, dec, e, getIt_enc i _ (h i (by simp)), dec_enc D r fun j hj => h j (by simp [hj]), Option.map_some]

theorem getNs_some : ∀ (m : Nat) (l : List UInt8) (xs : List Int) (r : List UInt8), getNs m l = some (xs, r) → l = numsB xs ++ r ∧ xs.length = m ∧ ∀ x ∈ xs, inI64 x
  | 0, l, xs, r, h => by
    simp only [getNs, Option.some.injEq, Prod.mk.injEq] at h
    obtain ⟨rfl, rfl⟩ := h
    simp [numsB]
  | m + 1, l, xs, r, h => by
    simp only [getNs] at h
    split at h
    · rename_i x k hg
      simp only [Option.map_eq_some_iff] at h
      obtain ⟨⟨ys, r'⟩, hy, he⟩ := h
      simp only [Prod.mk.injEq] at he
      obtain ⟨rfl, rfl⟩ := he
      obtain ⟨h1, h2, h3⟩ := get_some hg
      obtain ⟨k1, k2, k3⟩ := getNs_some m _ _ _ hy
      refine ⟨?_, by simp [k2], by simpa using ⟨h3, k3⟩⟩
      have e : numsB (x :: ys) ++ r' = num x ++ (numsB ys ++ r') := by simp [numsB]
      rw [e, ← k1, ← h1, List.take_append_drop]
    · cases h
theorem getIt_some {b : Bool} {l r : List UInt8} {i : It} (h : getIt b l = some (i, r)) (hl : l.length ≤ 9223372036854775807) : l = i.enc ++ r ∧ i.isL = b ∧ i.Ok := by
  unfold getIt at h
  split at h
  · cases h
  · rename_i x k hg
    obtain ⟨h1, h2, h3⟩ := get_some hg
    split at h
    · rename_i hb
      split at h
      · cases h
      · rename_i hx
        simp only [Option.map_eq_some_iff] at h
        obtain ⟨⟨ys, r'⟩, hy, he⟩ := h
        simp only [Prod.mk.injEq] at he
        obtain ⟨rfl, rfl⟩ := he
        obtain ⟨k1, k2, k3⟩ := getNs_some _ _ _ _ hy
        have hxl : x = (ys.length : Int) := by omega
        refine ⟨?_, by simp [It.isL, hb], ⟨?_, k3⟩⟩
        · rw [It.enc, ← hxl, ← h1, List.append_assoc, ← k1, List.take_append_drop]
        · have := h2
          rw [List.length_drop] at hx
          omega
    · rename_i hb
      simp only [Option.some.injEq, Prod.mk.injEq] at h
      obtain ⟨rfl, rfl⟩ := h
      exact ⟨by rw [It.enc, ← h1, List.take_append_drop], by cases b <;> simp_all [It.isL], h3⟩
theorem dec_some : ∀ (bs : List Bool) (l r : List UInt8) (D : List It), dec bs l = some (D, r) → l.length ≤ 9223372036854775807 → l = encs D ++ r ∧ D.map It.isL = bs ∧ ∀ i ∈ D, i.Ok
  | [], l, r, D, h, _ => by
    simp only [dec, Option.some.injEq, Prod.mk.injEq] at h
    obtain ⟨rfl, rfl⟩ := h
    simp [encs]
  | b :: bs, l, r, D, h, hl => by
    simp only [dec] at h
    split at h
    · cases h
    · rename_i i r1 hi
      simp only [Option.map_eq_some_iff] at h
      obtain ⟨⟨D', r'⟩, hd, he⟩ := h
      simp only [Prod.mk.injEq] at he
      obtain ⟨rfl, rfl⟩ := he
      obtain ⟨h1, h2, h3⟩ := getIt_some hi hl
      have hl1 : r1.length ≤ 9223372036854775807 := by
        have := congrArg List.length h1
        rw [List.length_append] at this
        omega
      obtain ⟨k1, k2, k3⟩ := dec_some bs r1 r' D' hd hl1
      refine ⟨?_, by simp [h2, k2], by simpa using ⟨h3, k3⟩⟩
      have e : encs (i :: D') ++ r' = i.enc ++ (encs D' ++ r') := by simp [encs]
      rw [e, ← k1, ← h1]

/-- Whole: nothing is left. -/
def decW (bs : List Bool) (l : List UInt8) : Option (List It) := match dec bs l with
  | some (D, []) => some D
  | _ => none
theorem decW_enc {D : List It} (h : ∀ i ∈ D, i.Ok) : decW (D.map It.isL) (encs D) = some D := by
  have := dec_enc D [] h
  rw [List.append_nil] at this
  simp [decW, this]
theorem decW_some {bs : List Bool} {l : List UInt8} {D : List It} (h : decW bs l = some D) (hl : l.length ≤ 9223372036854775807) : l = encs D ∧ D.map It.isL = bs ∧ ∀ i ∈ D, i.Ok := by
  unfold decW at h
  split at h
  · rename_i D' hd
    cases h
    have := dec_some bs l [] D hd hl
    simpa using this
  · cases h
theorem encs_inj {D E : List It} (h : encs D = encs E) (hs : D.map It.isL = E.map It.isL) (hD : ∀ i ∈ D, i.Ok) (hE : ∀ i ∈ E, i.Ok) : D = E := by
  have h1 := decW_enc hD
  have h2 := decW_enc hE
  rw [h, hs, h2] at h1
  cases h1
  rfl
/-- No first part of the bytes is one. -/
theorem decW_part {D : List It} (h : ∀ i ∈ D, i.Ok) (hl : (encs D).length ≤ 9223372036854775807) {k : Nat} (hk : k < (encs D).length) : decW (D.map It.isL) ((encs D).take k) = none := by
  cases hd : decW (D.map It.isL) ((encs D).take k) with
  | none => rfl
  | some E =>
    exfalso
    obtain ⟨h1, h2, h3⟩ := decW_some hd (by rw [List.length_take]; omega)
    have h4 := dec_enc E ((encs D).drop k) h3
    rw [← h1, List.take_append_drop, h2] at h4
    have h5 := dec_enc D [] h
    rw [List.append_nil, h4] at h5
    simp only [Option.some.injEq, Prod.mk.injEq] at h5
    have := congrArg List.length h5.2
    simp at this
    omega
/-- Nor with bytes behind. -/
theorem decW_behind {D : List It} (h : ∀ i ∈ D, i.Ok) {r : List UInt8} (hr : r ≠ []) : decW (D.map It.isL) (encs D ++ r) = none := by
  unfold decW
  rw [dec_enc D r h]
  cases r with
  | nil => exact absurd rfl hr
  | cons b r => rfl
theorem encs_append (D E : List It) : encs (D ++ E) = encs D ++ encs E := by simp [encs]
end Fb.Codec
