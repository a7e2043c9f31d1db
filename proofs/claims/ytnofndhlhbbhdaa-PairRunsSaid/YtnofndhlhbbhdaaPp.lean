/-
  Vocabularies: the plain law.
-/
import Derived.Test.YtnofndhlhbbhdaaQg
namespace Fb.Try.VO
open Go Go.Proofs Fb Fb.Bytes
structure Mg where
  l : Int
  r : Int
  o : Int
  d : Int
structure Sp where
  name : List UInt8
  id : Int
structure Voc where
  T : List (List UInt8)
  M : List Mg
  S : List Sp
def tk (T : List (List UInt8)) (i : Int) : List UInt8 := (T[i.toNat]?).getD []
theorem tk_get {T : List (List UInt8)} {i : Nat} (h : i < T.length) : T[i]? = some (tk T i) := by
  unfold tk
  rw [Int.toNat_natCast, List.getElem?_eq_getElem h]
  rfl
theorem tk_mem {T : List (List UInt8)} {s : List UInt8} : s ∈ T ↔ ∃ i : Nat, i < T.length ∧ tk T i = s := by
  constructor
  · intro h
    obtain ⟨k, hk, rfl⟩ := List.getElem_of_mem h
    have := tk_get hk
    rw [List.getElem?_eq_getElem hk] at this
    exact ⟨k, hk, (Option.some.inj this).symm⟩
  · rintro ⟨k, hk, rfl⟩
    exact List.mem_of_getElem? (tk_get hk)
def IsT (T : List (List UInt8)) (i : Int) : Prop := 0 ≤ i ∧ i < T.length ∧ tk T i ≠ []
/-- The least number of a token of such bytes. -/
def ofT (T : List (List UInt8)) (s : List UInt8) : Int := if s = [] then -1 else match T.findIdx? (fun t => t == s) with
  | some i => i
  | none => -1
theorem ofT_nil (T : List (List UInt8)) : ofT T [] = -1 := rfl
theorem ofT_at {T : List (List UInt8)} {s : List UInt8} (hs : s ≠ []) {i : Nat} (hi : i < T.length) (he : tk T i = s) (hmin : ∀ k, k < i → tk T (k : Nat) ≠ s) : ofT T s = i := by
  unfold ofT
  rw [if_neg hs]
  have : T.findIdx? (fun t => t == s) = some i := by
    rw [List.findIdx?_eq_some_iff_getElem]
    have e : ∀ (k : Nat) (h : k < T.length), T[k] = tk T k := fun k h => by
      have := tk_get h
      rw [List.getElem?_eq_getElem h] at this
      exact Option.some.inj this
    refine ⟨hi, by rw [e i hi, he]; simp, fun j hj => ?_⟩
    rw [e j (by omega)]
    simpa using hmin j hj
  rw [this]
theorem ofT_no {T : List (List UInt8)} {s : List UInt8} (h : s ∉ T) : ofT T s = -1 := by
  unfold ofT
  split
  · rfl
  · have : T.findIdx? (fun t => t == s) = none := by
      rw [List.findIdx?_eq_none_iff]
      intro x hx
      simp only [beq_eq_false_iff_ne]
      rintro rfl
      exact h hx
    rw [this]
theorem ofT_spec {T : List (List UInt8)} {s : List UInt8} (hs : s ≠ []) (h : s ∈ T) : ∃ i : Nat, i < T.length ∧ tk T i = s ∧ ofT T s = i ∧ ∀ k, k < i → tk T (k : Nat) ≠ s := by
  obtain ⟨i, hi, he⟩ := tk_mem.1 h
  induction i using Nat.strongRecOn with
  | ind i ih =>
    by_cases hx : ∃ k, k < i ∧ tk T (k : Nat) = s
    · obtain ⟨k, hk, hke⟩ := hx
      exact ih k hk (by omega) hke
    · have hm : ∀ k, k < i → tk T (k : Nat) ≠ s := fun k hk he => hx ⟨k, hk, he⟩
      exact ⟨i, hi, he, ofT_at hs hi he hm, hm⟩
theorem ofT_nonneg {T : List (List UInt8)} {s : List UInt8} : 0 ≤ ofT T s ↔ s ≠ [] ∧ s ∈ T := by
  constructor
  · intro h
    by_cases hs : s = []
    · subst hs; rw [ofT_nil] at h; omega
    · by_cases hm : s ∈ T
      · exact ⟨hs, hm⟩
      · rw [ofT_no hm] at h; omega
  · rintro ⟨h1, h2⟩
    obtain ⟨i, _, _, e, _⟩ := ofT_spec h1 h2
    omega
/-- Rule 1. -/
structure TokOk (T : List (List UInt8)) : Prop where
  len : ∀ s ∈ T, s.length ≤ 64
  one : ∀ i : Nat, i < T.length → tk T i ≠ [] → ofT T (tk T i) = i
  all : ∀ b : Nat, b < 256 → [UInt8.ofNat b] ∈ T
/-- No two are alike. -/
def Uniq (T : List (List UInt8)) : Prop := ∀ i j : Nat, i < T.length → j < T.length → tk T i ≠ [] → tk T i = tk T j → i = j
theorem uniq_iff {T : List (List UInt8)} : Uniq T ↔ ∀ i : Nat, i < T.length → tk T i ≠ [] → ofT T (tk T i) = i := by
  constructor
  · intro h i hi hn
    refine ofT_at hn hi rfl fun k hk he => ?_
    have := h i k hi (by omega) hn he.symm
    omega
  · intro h i j hi hj hn he
    have h1 := h i hi hn
    have h2 := h j hj (by rw [← he]; exact hn)
    rw [← he, h1] at h2
    omega
theorem TokOk.uniq {T : List (List UInt8)} (h : TokOk T) : Uniq T := uniq_iff.2 h.one
def Ahead (a b : Mg) : Prop := a.d < b.d ∨ a.d = b.d ∧ (a.l < b.l ∨ a.l = b.l ∧ a.r < b.r)
theorem Ahead.trans {a b c : Mg} (h : Ahead a b) (k : Ahead b c) : Ahead a c := by unfold Ahead at *; omega
def gm (M : List Mg) (i : Nat) : Mg := (M[i]?).getD ⟨0, 0, 0, 0⟩
theorem gm_get {M : List Mg} {i : Nat} (h : i < M.length) : M[i]? = some (gm M i) := by
  unfold gm
  rw [List.getElem?_eq_getElem h]
  rfl
theorem gm_mem {M : List Mg} {m : Mg} : m ∈ M ↔ ∃ i, i < M.length ∧ gm M i = m := by
  constructor
  · intro h
    obtain ⟨k, hk, rfl⟩ := List.getElem_of_mem h
    have := gm_get hk
    rw [List.getElem?_eq_getElem hk] at this
    exact ⟨k, hk, (Option.some.inj this).symm⟩
  · rintro ⟨k, hk, rfl⟩
    exact List.mem_of_getElem? (gm_get hk)
/-- A merge by itself. -/
def Fits (T : List (List UInt8)) (m : Mg) : Prop := IsT T m.l ∧ IsT T m.r ∧ IsT T m.o ∧ 0 ≤ m.d ∧ m.d ≤ 1048576 ∧ tk T m.o = tk T m.l ++ tk T m.r
def Pair2 (a m : Mg) : Prop := Ahead a m ∧ ¬ (a.l = m.l ∧ a.r = m.r) ∧ ¬ (a.d = m.d ∧ a.o ≠ m.o)
/-- Rule 2. -/
def MgOk (T : List (List UInt8)) (M : List Mg) : Prop := ∀ i, i < M.length → Fits T (gm M i) ∧ ∀ k, k < i → Pair2 (gm M k) (gm M i)
/-- Rule 2, step by step. -/
def MgStep (T : List (List UInt8)) (M : List Mg) (i : Nat) : Prop := Fits T (gm M i) ∧ (0 < i → Ahead (gm M (i - 1)) (gm M i) ∧ ¬ ((gm M (i - 1)).d = (gm M i).d ∧ (gm M (i - 1)).o ≠ (gm M i).o)) ∧ ∀ k, k < i → ¬ ((gm M k).l = (gm M i).l ∧ (gm M k).r = (gm M i).r)
theorem mgOk_steps {T : List (List UInt8)} {M : List Mg} : MgOk T M ↔ ∀ i, i < M.length → MgStep T M i := by
  constructor
  · intro h i hi
    obtain ⟨h1, h2⟩ := h i hi
    exact ⟨h1, fun h0 => ⟨(h2 (i - 1) (by omega)).1, (h2 (i - 1) (by omega)).2.2⟩, fun k hk => (h2 k hk).2.1⟩
  · intro h i hi
    refine ⟨(h i hi).1, fun k hk => ?_⟩
    have key : ∀ i, i < M.length → ∀ k, k < i → Ahead (gm M k) (gm M i) ∧ ¬ ((gm M k).d = (gm M i).d ∧ (gm M k).o ≠ (gm M i).o) := by
      intro i
      induction i with
      | zero => intro _ k hk; omega
      | succ i ih =>
        intro hi k hk
        obtain ⟨a1, a2⟩ := (h (i + 1) hi).2.1 (by omega)
        rw [Nat.add_sub_cancel] at a1 a2
        by_cases hki : k = i
        · subst hki; exact ⟨a1, a2⟩
        · obtain ⟨b1, b2⟩ := ih (by omega) k (by omega)
          refine ⟨b1.trans a1, fun ⟨e1, e2⟩ => ?_⟩
          unfold Ahead at a1 b1
          have e3 : (gm M k).d = (gm M i).d := by omega
          have e4 : (gm M i).d = (gm M (i + 1)).d := by omega
          have e5 : (gm M k).o = (gm M i).o := Classical.not_not.1 fun hn => b2 ⟨e3, hn⟩
          exact a2 ⟨e4, by rw [← e5]; exact e2⟩
    obtain ⟨a, b⟩ := key i hi k hk
    exact ⟨a, (h i hi).2.2 k hk, b⟩
/-- Rule 3. -/
def MadeOk (T : List (List UInt8)) (M : List Mg) : Prop := ∀ i : Nat, i < T.length → (tk T i).length < 2 ∨ ∃ m ∈ M, m.o = i
def okc (c : UInt8) : Prop := (97 ≤ c.toNat ∧ c.toNat ≤ 122) ∨ (48 ≤ c.toNat ∧ c.toNat ≤ 57) ∨ c.toNat = 95
def NameOk (s : List UInt8) : Prop := (∀ c ∈ s, okc c) ∧ 1 ≤ s.length ∧ s.length ≤ 24
def gs (S : List Sp) (i : Nat) : Sp := (S[i]?).getD ⟨[], 0⟩
theorem gs_get {S : List Sp} {i : Nat} (h : i < S.length) : S[i]? = some (gs S i) := by
  unfold gs
  rw [List.getElem?_eq_getElem h]
  rfl
def SpFits (T : List (List UInt8)) (s : Sp) : Prop := NameOk s.name ∧ 0 ≤ s.id ∧ s.id < T.length ∧ tk T s.id = []
/-- Rule 4. -/
def SpOk (T : List (List UInt8)) (S : List Sp) : Prop := S.length ≤ 16 ∧ ∀ i, i < S.length → SpFits T (gs S i) ∧ ∀ k, k < i → Op.bytesLess (gs S k).name (gs S i).name = true ∧ (gs S k).id ≠ (gs S i).id
def SpStep (T : List (List UInt8)) (S : List Sp) (i : Nat) : Prop := SpFits T (gs S i) ∧ (0 < i → Op.bytesLess (gs S (i - 1)).name (gs S i).name = true) ∧ ∀ k, k < i → (gs S k).id ≠ (gs S i).id
theorem bl_trans : ∀ (a b c : List UInt8), Op.bytesLess a b = true → Op.bytesLess b c = true → Op.bytesLess a c = true
  | [], [], _, h, _ => by simp [Op.bytesLess] at h
  | [], _ :: _, [], _, k => by simp [Op.bytesLess] at k
  | [], _ :: _, _ :: _, _, _ => by simp [Op.bytesLess]
  | _ :: _, [], _, h, _ => by simp [Op.bytesLess] at h
  | _ :: _, _ :: _, [], _, k => by simp [Op.bytesLess] at k
  | a :: x, b :: y, c :: z, h, k => by
    simp only [Op.bytesLess, Bool.or_eq_true, Bool.and_eq_true, decide_eq_true_eq, beq_iff_eq] at h k ⊢
    rcases h with h | ⟨rfl, h⟩
    · rcases k with k | ⟨rfl, k⟩
      · exact .inl (by rw [UInt8.lt_iff_toNat_lt] at *; omega)
      · exact .inl h
    · rcases k with k | ⟨rfl, k⟩
      · exact .inl k
      · exact .inr ⟨rfl, bl_trans x y z h k⟩
theorem spOk_steps {T : List (List UInt8)} {S : List Sp} : SpOk T S ↔ S.length ≤ 16 ∧ ∀ i, i < S.length → SpStep T S i := by
  constructor
  · rintro ⟨h0, h⟩
    refine ⟨h0, fun i hi => ?_⟩
    obtain ⟨h1, h2⟩ := h i hi
    exact ⟨h1, fun h0 => (h2 (i - 1) (by omega)).1, fun k hk => (h2 k hk).2⟩
  · rintro ⟨h0, h⟩
    refine ⟨h0, fun i hi => ⟨(h i hi).1, fun k hk => ⟨?_, (h i hi).2.2 k hk⟩⟩⟩
    have key : ∀ i, i < S.length → ∀ k, k < i → Op.bytesLess (gs S k).name (gs S i).name = true := by
      intro i
      induction i with
      | zero => intro _ k hk; omega
      | succ i ih =>
        intro hi k hk
        have a1 := (h (i + 1) hi).2.1 (by omega)
        rw [Nat.add_sub_cancel] at a1
        by_cases hki : k = i
        · subst hki; exact a1
        · exact bl_trans _ _ _ (ih (by omega) k (by omega)) a1
    exact key i hi k hk
structure MayP (v : Voc) : Prop where
  tok : TokOk v.T
  mg : MgOk v.T v.M
  made : MadeOk v.T v.M
  sp : SpOk v.T v.S
end Fb.Try.VO
