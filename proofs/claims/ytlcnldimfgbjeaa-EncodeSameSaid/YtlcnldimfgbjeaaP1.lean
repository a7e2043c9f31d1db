/-
  Texts of ours in one file.
-/
import Derived.Test.YtlcnldimfgbjeaaQ3
/-
  Vocabularies: the plain law.
-/
namespace Fb.Try.VO
open Go Go.Proofs Fb Fb.Bytes
structure Mg where
  l : Int
  r : Int
  o : Int
  d : Int
structure Sp where
  name : List UInt8
  id : Int
structure Voc where
  T : List (List UInt8)
  M : List Mg
  S : List Sp
def tk (T : List (List UInt8)) (i : Int) : List UInt8 := (T[i.toNat]?).getD []
theorem tk_get {T : List (List UInt8)} {i : Nat} (h : i < T.length) : T[i]? = some (tk T i) := by
  unfold tk
  rw [Int.toNat_natCast, List.getElem?_eq_getElem h]
  rfl
theorem tk_mem {T : List (List UInt8)} {s : List UInt8} : s ∈ T ↔ ∃ i : Nat, i < T.length ∧ tk T i = s := by
  constructor
  · intro h
    obtain ⟨k, hk, rfl⟩ := List.getElem_of_mem h
    have := tk_get hk
    rw [List.getElem?_eq_getElem hk] at this
    exact ⟨k, hk, (Option.some.inj this).symm⟩
  · rintro ⟨k, hk, rfl⟩
    exact List.mem_of_getElem? (tk_get hk)
def IsT (T : List (List UInt8)) (i : Int) : Prop := 0 ≤ i ∧ i < T.length ∧ tk T i ≠ []
/-- The least number of a token of such bytes. -/
def ofT (T : List (List UInt8)) (s : List UInt8) : Int := if s = [] then -1 else match T.findIdx? (fun t => t == s) with
  | some i => i
  | none => -1
theorem ofT_nil (T : List (List UInt8)) : ofT T [] = -1 := rfl
theorem ofT_at {T : List (List UInt8)} {s : List UInt8} (hs : s ≠ []) {i : Nat} (hi : i < T.length) (he : tk T i = s) (hmin : ∀ k, k < i → tk T (k : Nat) ≠ s) : ofT T s = i := by
  unfold ofT
  rw [if_neg hs]
  have : T.findIdx? (fun t => t == s) = some i := by
    rw [List.findIdx?_eq_some_iff_getElem]
    have e : ∀ (k : Nat) (h : k < T.length), T[k] = tk T k := fun k h => by
      have := tk_get h
      rw [List.getElem?_eq_getElem h] at this
      exact Option.some.inj this
    refine ⟨hi, by rw [e i hi, he]; simp, fun j hj => ?_⟩
    rw [e j (by omega)]
    simpa using hmin j hj
  rw [this]
theorem ofT_no {T : List (List UInt8)} {s : List UInt8} (h : s ∉ T) : ofT T s = -1 := by
  unfold ofT
  split
  · rfl
  · have : T.findIdx? (fun t => t == s) = none := by
      rw [List.findIdx?_eq_none_iff]
      intro x hx
      simp only [beq_eq_false_iff_ne]
      rintro rfl
      exact h hx
    rw [this]
theorem ofT_spec {T : List (List UInt8)} {s : List UInt8} (hs : s ≠ []) (h : s ∈ T) : ∃ i : Nat, i < T.length ∧ tk T i = s ∧ ofT T s = i ∧ ∀ k, k < i → tk T (k : Nat) ≠ s := by
  obtain ⟨i, hi, he⟩ := tk_mem.1 h
  induction i using Nat.strongRecOn with
  | ind i ih =>
    by_cases hx : ∃ k, k < i ∧ tk T (k : Nat) = s
    · obtain ⟨k, hk, hke⟩ := hx
      exact ih k hk (by omega) hke
    · have hm : ∀ k, k < i → tk T (k : Nat) ≠ s := fun k hk he => hx ⟨k, hk, he⟩
      exact ⟨i, hi, he, ofT_at hs hi he hm, hm⟩
theorem ofT_nonneg {T : List (List UInt8)} {s : List UInt8} : 0 ≤ ofT T s ↔ s ≠ [] ∧ s ∈ T := by
  constructor
  · intro h
    by_cases hs : s = []
    · subst hs; rw [ofT_nil] at h; omega
    · by_cases hm : s ∈ T
      · exact ⟨hs, hm⟩
      · rw [ofT_no hm] at h; omega
  · rintro ⟨h1, h2⟩
    obtain ⟨i, _, _, e, _⟩ := ofT_spec h1 h2
    omega
/-- Rule 1. -/
structure TokOk (T : List (List UInt8)) : Prop where
  len : ∀ s ∈ T, s.length ≤ 64
  one : ∀ i : Nat, i < T.length → tk T i ≠ [] → ofT T (tk T i) = i
  all : ∀ b : Nat, b < 256 → [UInt8.ofNat b] ∈ T
/-- No two are alike. -/
def Uniq (T : List (List UInt8)) : Prop := ∀ i j : Nat, i < T.length → j < T.length → tk T i ≠ [] → tk T i = tk T j → i = j
theorem uniq_iff {T : List (List UInt8)} : Uniq T ↔ ∀ i : Nat, i < T.length → tk T i ≠ [] → ofT T (tk T i) = i := by
  constructor
  · intro h i hi hn
    refine ofT_at hn hi rfl fun k hk he => ?_
    have := h i k hi (by omega) hn he.symm
    omega
  · intro h i j hi hj hn he
    have h1 := h i hi hn
    have h2 := h j hj (by rw [← he]; exact hn)
    rw [← he, h1] at h2
    omega
theorem TokOk.uniq {T : List (List UInt8)} (h : TokOk T) : Uniq T := uniq_iff.2 h.one
def Ahead (a b : Mg) : Prop := a.d < b.d ∨ a.d = b.d ∧ (a.l < b.l ∨ a.l = b.l ∧ a.r < b.r)
theorem Ahead.trans {a b c : Mg} (h : Ahead a b) (k : Ahead b c) : Ahead a c := by unfold Ahead at *; omega
def gm (M : List Mg) (i : Nat) : Mg := (M[i]?).getD ⟨0, 0, 0, 0⟩
theorem gm_get {M : List Mg} {i : Nat} (h : i < M.length) : M[i]? = some (gm M i) := by
  unfold gm
  rw [List.getElem?_eq_getElem h]
  rfl
theorem gm_mem {M : List Mg} {m : Mg} : m ∈ M ↔ ∃ i, i < M.length ∧ gm M i = m := by
  constructor
  · intro h
    obtain ⟨k, hk, rfl⟩ := List.getElem_of_mem h
    have := gm_get hk
    rw [List.getElem?_eq_getElem hk] at this
    exact ⟨k, hk, (Option.some.inj this).symm⟩
  · rintro ⟨k, hk, rfl⟩
    exact List.mem_of_getElem? (gm_get hk)
/-- A merge by itself. -/
def Fits (T : List (List UInt8)) (m : Mg) : Prop := IsT T m.l ∧ IsT T m.r ∧ IsT T m.o ∧ 0 ≤ m.d ∧ m.d ≤ 1048576 ∧ tk T m.o = tk T m.l ++ tk T m.r
def Pair2 (a m : Mg) : Prop := Ahead a m ∧ ¬ (a.l = m.l ∧ a.r = m.r) ∧ ¬ (a.d = m.d ∧ a.o ≠ m.o)
/-- Rule 2. -/
def MgOk (T : List (List UInt8)) (M : List Mg) : Prop := ∀ i, i < M.length → Fits T (gm M i) ∧ ∀ k, k < i → Pair2 (gm M k) (gm M i)
/-- Rule 2, step by step. -/
def MgStep (T : List (List UInt8)) (M : List Mg) (i : Nat) : Prop := Fits T (gm M i) ∧ (0 < i → Ahead (gm M (i - 1)) (gm M i) ∧ ¬ ((gm M (i - 1)).d = (gm M i).d ∧ (gm M (i - 1)).o ≠ (gm M i).o)) ∧ ∀ k, k < i → ¬ ((gm M k).l = (gm M i).l ∧ (gm M k).r = (gm M i).r)
theorem mgOk_steps {T : List (List UInt8)} {M : List Mg} : MgOk T M ↔ ∀ i, i < M.length → MgStep T M i := by
  constructor
  · intro h i hi
    obtain ⟨h1, h2⟩ := h i hi
    exact ⟨h1, fun h0 => ⟨(h2 (i - 1) (by omega)).1, (h2 (i - 1) (by omega)).2.2⟩, fun k hk => (h2 k hk).2.1⟩
  · intro h i hi
    refine ⟨(h i hi).1, fun k hk => ?_⟩
    have key : ∀ i, i < M.length → ∀ k, k < i → Ahead (gm M k) (gm M i) ∧ ¬ ((gm M k).d = (gm M i).d ∧ (gm M k).o ≠ (gm M i).o) := by
      intro i
      induction i with
      | zero => intro _ k hk; omega
      | succ i ih =>
        intro hi k hk
        obtain ⟨a1, a2⟩ := (h (i + 1) hi).2.1 (by omega)
        rw [Nat.add_sub_cancel] at a1 a2
        by_cases hki : k = i
        · subst hki; exact ⟨a1, a2⟩
        · obtain ⟨b1, b2⟩ := ih (by omega) k (by omega)
          refine ⟨b1.trans a1, fun ⟨e1, e2⟩ => ?_⟩
          unfold Ahead at a1 b1
          have e3 : (gm M k).d = (gm M i).d := by omega
          have e4 : (gm M i).d = (gm M (i + 1)).d := by omega
          have e5 : (gm M k).o = (gm M i).o := Classical.not_not.1 fun hn => b2 ⟨e3, hn⟩
          exact a2 ⟨e4, by rw [← e5]; exact e2⟩
    obtain ⟨a, b⟩ := key i hi k hk
    exact ⟨a, (h i hi).2.2 k hk, b⟩
/-- Rule 3. -/
def MadeOk (T : List (List UInt8)) (M : List Mg) : Prop := ∀ i : Nat, i < T.length → (tk T i).length < 2 ∨ ∃ m ∈ M, m.o = i
def okc (c : UInt8) : Prop := (97 ≤ c.toNat ∧ c.toNat ≤ 122) ∨ (48 ≤ c.toNat ∧ c.toNat ≤ 57) ∨ c.toNat = 95
def NameOk (s : List UInt8) : Prop := (∀ c ∈ s, okc c) ∧ 1 ≤ s.length ∧ s.length ≤ 24
def gs (S : List Sp) (i : Nat) : Sp := (S[i]?).getD ⟨[], 0⟩
theorem gs_get {S : List Sp} {i : Nat} (h : i < S.length) : S[i]? = some (gs S i) := by
  unfold gs
  rw [List.getElem?_eq_getElem h]
  rfl
def SpFits (T : List (List UInt8)) (s : Sp) : Prop := NameOk s.name ∧ 0 ≤ s.id ∧ s.id < T.length ∧ tk T s.id = []
/-- Rule 4. -/
def SpOk (T : List (List UInt8)) (S : List Sp) : Prop := S.length ≤ 16 ∧ ∀ i, i < S.length → SpFits T (gs S i) ∧ ∀ k, k < i → Op.bytesLess (gs S k).name (gs S i).name = true ∧ (gs S k).id ≠ (gs S i).id
def SpStep (T : List (List UInt8)) (S : List Sp) (i : Nat) : Prop := SpFits T (gs S i) ∧ (0 < i → Op.bytesLess (gs S (i - 1)).name (gs S i).name = true) ∧ ∀ k, k < i → (gs S k).id ≠ (gs S i).id
theorem bl_trans : ∀ (a b c : List UInt8), Op.bytesLess a b = true → Op.bytesLess b c = true → Op.bytesLess a c = true
  | [], [], _, h, _ => by simp [Op.bytesLess] at h
  | [], _ :: _, [], _, k => by simp [Op.bytesLess] at k
  | [], _ :: _, _ :: _, _, _ => by simp [Op.bytesLess]
  | _ :: _, [], _, h, _ => by simp [Op.bytesLess] at h
  | _ :: _, _ :: _, [], _, k => by simp [Op.bytesLess] at k
  | a :: x, b :: y, c :: z, h, k => by
    simp only [Op.bytesLess, Bool.or_eq_true, Bool.and_eq_true, decide_eq_true_eq, beq_iff_eq] at h k ⊢
    rcases h with h | ⟨rfl, h⟩
    · rcases k with k | ⟨rfl, k⟩
      · exact .inl (by rw [UInt8.lt_iff_toNat_lt] at *; omega)
      · exact .inl h
    · rcases k with k | ⟨rfl, k⟩
      · exact .inl k
      · exact .inr ⟨rfl, bl_trans x y z h k⟩
theorem spOk_steps {T : List (List UInt8)} {S : List Sp} : SpOk T S ↔ S.length ≤ 16 ∧ ∀ i, i < S.length → SpStep T S i := by
  constructor
  · rintro ⟨h0, h⟩
    refine ⟨h0, fun i hi => ?_⟩
    obtain ⟨h1, h2⟩ := h i hi
    exact ⟨h1, fun h0 => (h2 (i - 1) (by omega)).1, fun k hk => (h2 k hk).2⟩
  · rintro ⟨h0, h⟩
    refine ⟨h0, fun i hi => ⟨(h i hi).1, fun k hk => ⟨?_, (h i hi).2.2 k hk⟩⟩⟩
    have key : ∀ i, i < S.length → ∀ k, k < i → Op.bytesLess (gs S k).name (gs S i).name = true := by
      intro i
      induction i with
      | zero => intro _ k hk; omega
      | succ i ih =>
        intro hi k hk
        have a1 := (h (i + 1) hi).2.1 (by omega)
        rw [Nat.add_sub_cancel] at a1
        by_cases hki : k = i
        · subst hki; exact a1
        · exact bl_trans _ _ _ (ih (by omega) k (by omega)) a1
    exact key i hi k hk
structure MayP (v : Voc) : Prop where
  tok : TokOk v.T
  mg : MgOk v.T v.M
  made : MadeOk v.T v.M
  sp : SpOk v.T v.S
end Fb.Try.VO

/-
  Pairs: the plain law of steps.
-/
namespace Fb.Try.VO
open Go Go.Proofs Fb Fb.Bytes
def gi (row : List Int) (i : Nat) : Int := (row[i]?).getD 0
theorem gi_get {row : List Int} {i : Nat} (h : i < row.length) : row[i]? = some (gi row i) := by
  unfold gi
  rw [List.getElem?_eq_getElem h]
  rfl
theorem gi_app {a b : List Int} (i : Nat) : gi (a ++ b) i = if i < a.length then gi a i else gi b (i - a.length) := by
  unfold gi
  rw [List.getElem?_append]
  split <;> rfl
/-- The place of the merge of two tokens. -/
def fd (M : List Mg) (a b : Int) : Option Nat := M.findIdx? fun m => decide (m.l = a ∧ m.r = b)
theorem fd_some {M : List Mg} {a b : Int} {i : Nat} (h : fd M a b = some i) : i < M.length ∧ (gm M i).l = a ∧ (gm M i).r = b ∧ ∀ k, k < i → ¬ ((gm M k).l = a ∧ (gm M k).r = b) := by
  unfold fd at h
  rw [List.findIdx?_eq_some_iff_getElem] at h
  obtain ⟨h1, h2, h3⟩ := h
  have e : ∀ (k : Nat) (h : k < M.length), M[k] = gm M k := fun k h => by
    have := gm_get h
    rw [List.getElem?_eq_getElem h] at this
    exact Option.some.inj this
  rw [e i h1] at h2
  simp only [decide_eq_true_eq] at h2
  refine ⟨h1, h2.1, h2.2, fun k hk => ?_⟩
  have := h3 k hk
  rw [e k (by omega)] at this
  simpa using this
theorem fd_none {M : List Mg} {a b : Int} (h : fd M a b = none) : ∀ k, k < M.length → ¬ ((gm M k).l = a ∧ (gm M k).r = b) := by
  unfold fd at h
  rw [List.findIdx?_eq_none_iff] at h
  intro k hk
  have := h (gm M k) (gm_mem.2 ⟨k, hk, rfl⟩)
  simpa using this
theorem fd_at {M : List Mg} {a b : Int} {i : Nat} (hi : i < M.length) (h1 : (gm M i).l = a ∧ (gm M i).r = b) (h2 : ∀ k, k < i → ¬ ((gm M k).l = a ∧ (gm M k).r = b)) : fd M a b = some i := by
  cases hf : fd M a b with
  | none => exact absurd h1 (fd_none hf i hi)
  | some j =>
    obtain ⟨k1, k2, k3, k4⟩ := fd_some hf
    rcases Nat.lt_trichotomy i j with h | h | h
    · exact absurd h1 (k4 i h)
    · rw [h]
    · exact absurd ⟨k2, k3⟩ (h2 j h)
theorem fd_no {M : List Mg} {a b : Int} (h : ∀ k, k < M.length → ¬ ((gm M k).l = a ∧ (gm M k).r = b)) : fd M a b = none := by
  cases hf : fd M a b with
  | none => rfl
  | some j =>
    obtain ⟨k1, k2, k3, _⟩ := fd_some hf
    exact absurd ⟨k2, k3⟩ (h j k1)
def better (M : List Mg) (x y : Option (Nat × Nat)) : Option (Nat × Nat) := match y with
  | none => x
  | some p => match x with
    | none => some p
    | some q => if (gm M p.2).d < (gm M q.2).d then some p else some q
theorem better_ss (M : List Mg) (p q : Nat × Nat) : better M (some p) (some q) = if (gm M q.2).d < (gm M p.2).d then some q else some p := rfl
theorem better_assoc (M : List Mg) (x y z : Option (Nat × Nat)) : better M (better M x y) z = better M x (better M y z) := by
  rcases z with _ | r
  · rfl
  rcases y with _ | q
  · rcases x with _ | p <;> rfl
  rcases x with _ | p
  · have : ∀ u, better M none u = u := fun u => by cases u <;> rfl
    rw [this, this]
  rw [better_ss, better_ss]
  by_cases h1 : (gm M q.2).d < (gm M p.2).d
  · by_cases h2 : (gm M r.2).d < (gm M q.2).d
    · rw [if_pos h1, if_pos h2, better_ss, better_ss, if_pos h2, if_pos (by omega)]
    · rw [if_pos h1, if_neg h2, better_ss, better_ss, if_neg h2, if_pos h1]
  · by_cases h2 : (gm M r.2).d < (gm M q.2).d
    · rw [if_neg h1, if_pos h2]
    · rw [if_neg h1, if_neg h2, better_ss, better_ss, if_neg h1, if_neg (by omega)]
def cand (M : List Mg) (row : List Int) (i : Nat) : Option (Nat × Nat) := (fd M (gi row i) (gi row (i + 1))).map fun m => (i, m)
def bstN (M : List Mg) (row : List Int) : Nat → Option (Nat × Nat)
  | 0 => none
  | n + 1 => better M (bstN M row n) (cand M row n)
def bst (M : List Mg) (row : List Int) : Option (Nat × Nat) := bstN M row (row.length - 1)
theorem bstN_some {M : List Mg} {row : List Int} : ∀ {n : Nat} {p : Nat × Nat}, bstN M row n = some p → p.1 < n ∧ p.2 < M.length ∧ (gm M p.2).l = gi row p.1 ∧ (gm M p.2).r = gi row (p.1 + 1)
  | 0, _, h => by cases h
  | n + 1, p, h => by
    unfold bstN at h
    have key : ∀ q, cand M row n = some q → q.1 < n + 1 ∧ q.2 < M.length ∧ (gm M q.2).l = gi row q.1 ∧ (gm M q.2).r = gi row (q.1 + 1) := by
      intro q hq
      unfold cand at hq
      rw [Option.map_eq_some_iff] at hq
      obtain ⟨m, hm, rfl⟩ := hq
      obtain ⟨h1, h2, h3, _⟩ := fd_some hm
      exact ⟨by dsimp only; omega, h1, h2, h3⟩
    cases hc : cand M row n with
    | none =>
      rw [hc] at h
      have := bstN_some (n := n) (p := p) h
      exact ⟨by omega, this.2⟩
    | some q =>
      rw [hc] at h
      cases hb : bstN M row n with
      | none =>
        rw [hb] at h
        cases h
        exact key _ hc
      | some r =>
        rw [hb] at h
        unfold better at h
        dsimp only at h
        split at h
        · cases h; exact key _ hc
        · cases h
          have := bstN_some (n := n) (p := p) hb
          exact ⟨by omega, this.2⟩
theorem bst_some {M : List Mg} {row : List Int} {p : Nat × Nat} (h : bst M row = some p) : p.1 + 1 < row.length ∧ p.2 < M.length ∧ (gm M p.2).l = gi row p.1 ∧ (gm M p.2).r = gi row (p.1 + 1) := by
  have := bstN_some h
  exact ⟨by omega, this.2⟩
def repl (row : List Int) (i : Nat) (o : Int) : List Int := row.take i ++ [o] ++ row.drop (i + 2)
theorem repl_len {row : List Int} {i : Nat} (h : i + 1 < row.length) (o : Int) : (repl row i o).length + 1 = row.length := by
  unfold repl
  simp
  omega
def stp (M : List Mg) (row : List Int) : Option (List Int) := (bst M row).map fun p => repl row p.1 (gm M p.2).o
theorem stp_len {M : List Mg} {row r : List Int} (h : stp M row = some r) : r.length + 1 = row.length ∧ 2 ≤ row.length := by
  unfold stp at h
  rw [Option.map_eq_some_iff] at h
  obtain ⟨p, hp, rfl⟩ := h
  obtain ⟨h1, _⟩ := bst_some hp
  exact ⟨repl_len h1 _, by omega⟩
def runF (M : List Mg) : Nat → List Int → List Int
  | 0, r => r
  | n + 1, r => match stp M r with
    | none => r
    | some r' => runF M n r'
def run (M : List Mg) (row : List Int) : List Int := runF M row.length row
theorem runF_none {M : List Mg} {r : List Int} (h : stp M r = none) : ∀ n, runF M n r = r
  | 0 => rfl
  | n + 1 => by simp [runF, h]
theorem runF_enough (M : List Mg) : ∀ (n : Nat) (r : List Int), r.length ≤ n → runF M n r = run M r := by
  intro n
  induction n with
  | zero =>
    intro r h
    have : r.length = 0 := by omega
    unfold run
    rw [this]
  | succ n ih =>
    intro r h
    cases hs : stp M r with
    | none => rw [runF_none hs]; unfold run; rw [runF_none hs]
    | some r' =>
      have hl := stp_len hs
      have e1 : runF M (n + 1) r = runF M n r' := by simp [runF, hs]
      have e2 : run M r = runF M r'.length r' := by
        unfold run
        rw [← hl.1]
        simp [runF, hs]
      rw [e1, e2, ih r' (by omega)]
      rfl
theorem run_step {M : List Mg} {r r' : List Int} (h : stp M r = some r') : run M r = run M r' := by
  have hl := stp_len h
  unfold run
  rw [← hl.1]
  simp [runF, h]
theorem run_done {M : List Mg} {r : List Int} (h : stp M r = none) : run M r = r := runF_none h _
/-- The end of a row: no step can be done in it. -/
theorem run_end (M : List Mg) : ∀ (n : Nat) (r : List Int), r.length ≤ n → stp M (run M r) = none := by
  intro n
  induction n with
  | zero =>
    intro r h
    cases hs : stp M r with
    | none => rw [run_done hs]; exact hs
    | some r' => have := stp_len hs; omega
  | succ n ih =>
    intro r h
    cases hs : stp M r with
    | none => rw [run_done hs]; exact hs
    | some r' =>
      rw [run_step hs]
      exact ih r' (by have := stp_len hs; omega)
theorem run_fix (M : List Mg) (r : List Int) : run M (run M r) = run M r := run_done (run_end M r.length r (Nat.le_refl _))
theorem run_len (M : List Mg) : ∀ (n : Nat) (r : List Int), r.length ≤ n → (run M r).length ≤ r.length := by
  intro n
  induction n with
  | zero =>
    intro r h
    cases hs : stp M r with
    | none => rw [run_done hs]; exact Nat.le_refl _
    | some r' => have := stp_len hs; omega
  | succ n ih =>
    intro r h
    cases hs : stp M r with
    | none => rw [run_done hs]; exact Nat.le_refl _
    | some r' =>
      have hl := stp_len hs
      rw [run_step hs]
      have := ih r' (by omega)
      omega
/-! ### Bytes -/
def txt (T : List (List UInt8)) (row : List Int) : List UInt8 := (row.map (tk T)).flatten
theorem txt_app (T : List (List UInt8)) (a b : List Int) : txt T (a ++ b) = txt T a ++ txt T b := by simp [txt]
def AllT (T : List (List UInt8)) (row : List Int) : Prop := ∀ i ∈ row, IsT T i
theorem row_split {row : List Int} {i : Nat} (h : i + 1 < row.length) : row = row.take i ++ [gi row i, gi row (i + 1)] ++ row.drop (i + 2) := by
  have h1 := gi_get (row := row) (i := i) (by omega)
  have h2 := gi_get (row := row) (i := i + 1) h
  rw [List.getElem?_eq_getElem (by omega)] at h1 h2
  rw [← Option.some.inj h1, ← Option.some.inj h2]
  have e1 : row.drop i = row[i] :: row[i + 1] :: row.drop (i + 2) := by
    rw [List.drop_eq_getElem_cons (by omega), List.drop_eq_getElem_cons h]
  conv => lhs; rw [← List.take_append_drop i row, e1]
  simp
theorem stp_txt {T : List (List UInt8)} {M : List Mg} (hM : MgOk T M) {row r : List Int} (h : stp M row = some r) (ha : AllT T row) : AllT T r ∧ txt T r = txt T row := by
  unfold stp at h
  rw [Option.map_eq_some_iff] at h
  obtain ⟨p, hp, rfl⟩ := h
  obtain ⟨h1, h2, h3, h4⟩ := bst_some hp
  have hf := (hM p.2 h2).1
  refine ⟨fun i hi => ?_, ?_⟩
  · unfold repl at hi
    simp only [List.mem_append, List.mem_singleton] at hi
    rcases hi with (hi | rfl) | hi
    · exact ha i (List.mem_of_mem_take hi)
    · exact hf.2.2.1
    · exact ha i (List.mem_of_mem_drop hi)
  · conv => rhs; rw [row_split h1]
    unfold repl
    simp only [txt_app]
    congr 2
    simp only [txt, List.map_cons, List.map_nil, List.flatten_cons, List.flatten_nil, List.append_nil]
    rw [hf.2.2.2.2.2, h3, h4]
theorem run_txt {T : List (List UInt8)} {M : List Mg} (hM : MgOk T M) : ∀ (n : Nat) (r : List Int), r.length ≤ n → AllT T r → AllT T (run M r) ∧ txt T (run M r) = txt T r := by
  intro n
  induction n with
  | zero =>
    intro r h ha
    cases hs : stp M r with
    | none => rw [run_done hs]; exact ⟨ha, rfl⟩
    | some r' => have := stp_len hs; omega
  | succ n ih =>
    intro r h ha
    cases hs : stp M r with
    | none => rw [run_done hs]; exact ⟨ha, rfl⟩
    | some r' =>
      have hl := stp_len hs
      have ht := stp_txt hM hs ha
      rw [run_step hs, ← ht.2]
      exact ih r' (by omega) ht.1
/-! ### Parts that stand apart -/
def sh (n : Nat) (x : Option (Nat × Nat)) : Option (Nat × Nat) := x.map fun p => (p.1 + n, p.2)
theorem sh_better (M : List Mg) (n : Nat) (x y : Option (Nat × Nat)) : sh n (better M x y) = better M (sh n x) (sh n y) := by
  cases x <;> cases y <;> simp only [better, sh, Option.map_some, Option.map_none]
  split <;> rfl
theorem better_none (M : List Mg) (x : Option (Nat × Nat)) : better M x none = x := rfl
theorem none_better (M : List Mg) (x : Option (Nat × Nat)) : better M none x = x := by cases x <;> rfl
/-- A number that is in no merge. -/
def Odd (M : List Mg) (o : Int) : Prop := ∀ m ∈ M, m.l ≠ o ∧ m.r ≠ o
theorem Odd.fd_l {M : List Mg} {o : Int} (h : Odd M o) (b : Int) : fd M o b = none := fd_no fun k hk e => (h _ (gm_mem.2 ⟨k, hk, rfl⟩)).1 e.1
theorem Odd.fd_r {M : List Mg} {o : Int} (h : Odd M o) (a : Int) : fd M a o = none := fd_no fun k hk e => (h _ (gm_mem.2 ⟨k, hk, rfl⟩)).2 e.2
theorem bstN_app {M : List Mg} {a c : List Int} : ∀ n, n ≤ a.length - 1 → bstN M (a ++ c) n = bstN M a n
  | 0, _ => rfl
  | n + 1, h => by
    have e : cand M (a ++ c) n = cand M a n := by
      unfold cand
      rw [gi_app, gi_app, if_pos (by omega), if_pos (by omega)]
    unfold bstN
    rw [bstN_app n (by omega), e]
theorem bst_apart {M : List Mg} {o : Int} (ho : Odd M o) (a b : List Int) : bst M (a ++ o :: b) = better M (bst M a) (sh (a.length + 1) (bst M b)) := by
  have start : bstN M (a ++ o :: b) a.length = bst M a := by
    cases ha : a.length with
    | zero =>
      have : a = [] := List.length_eq_zero_iff.1 ha
      subst this
      rfl
    | succ n =>
      have e : cand M (a ++ o :: b) n = none := by
        unfold cand
        rw [gi_app (n + 1), if_neg (by omega), show n + 1 - a.length = 0 by omega]
        have : gi (o :: b) 0 = o := rfl
        rw [this, ho.fd_r]
        rfl
      unfold bstN
      rw [e, better_none, bstN_app n (by omega)]
      unfold bst
      rw [show a.length - 1 = n by omega]
  have key : ∀ k, k ≤ b.length - 1 → 0 < b.length → bstN M (a ++ o :: b) (a.length + 1 + k) = better M (bst M a) (sh (a.length + 1) (bstN M b k)) := by
    intro k
    induction k with
    | zero =>
      intro _ hb
      have e : cand M (a ++ o :: b) a.length = none := by
        unfold cand
        rw [gi_app a.length, if_neg (by omega), Nat.sub_self]
        have : gi (o :: b) 0 = o := rfl
        rw [this, ho.fd_l]
        rfl
      show bstN M (a ++ o :: b) (a.length + 1) = _
      unfold bstN
      rw [e, better_none, start]
      rfl
    | succ k ih =>
      intro hk hb
      have e : cand M (a ++ o :: b) (a.length + 1 + k) = sh (a.length + 1) (cand M b k) := by
        unfold cand sh
        rw [gi_app, gi_app, if_neg (by omega), if_neg (by omega), show a.length + 1 + k - a.length = k + 1 by omega, show a.length + 1 + k + 1 - a.length = k + 1 + 1 by omega]
        have e1 : ∀ j, gi (o :: b) (j + 1) = gi b j := fun j => rfl
        rw [e1, e1, Option.map_map]
        congr 1
        funext m
        simp
        omega
      show bstN M (a ++ o :: b) (a.length + 1 + k + 1) = _
      unfold bstN
      rw [ih (by omega) hb, e, better_assoc, ← sh_better]
  by_cases hb : 0 < b.length
  · have := key (b.length - 1) (Nat.le_refl _) hb
    unfold bst at this ⊢
    rw [show (a ++ o :: b).length - 1 = a.length + 1 + (b.length - 1) by simp; omega]
    exact this
  · have : b = [] := List.length_eq_zero_iff.1 (by omega)
    subst this
    unfold bst at start ⊢
    rw [show (a ++ [o]).length - 1 = a.length by simp, start]
    rfl
theorem stp_apart {M : List Mg} {o : Int} (ho : Odd M o) (a b : List Int) : (∃ a', stp M a = some a' ∧ stp M (a ++ o :: b) = some (a' ++ o :: b)) ∨ (∃ b', stp M b = some b' ∧ stp M (a ++ o :: b) = some (a ++ o :: b')) ∨ (stp M a = none ∧ stp M b = none ∧ stp M (a ++ o :: b) = none) := by
  have hb := bst_apart ho a b
  have left : ∀ p, bst M a = some p → bst M (a ++ o :: b) = some p → ∃ a', stp M a = some a' ∧ stp M (a ++ o :: b) = some (a' ++ o :: b) := by
    intro p h1 h2
    obtain ⟨h3, _⟩ := bst_some h1
    refine ⟨repl a p.1 (gm M p.2).o, by simp [stp, h1], ?_⟩
    unfold stp
    rw [h2]
    simp only [Option.map_some, repl]
    rw [List.take_append_of_le_length (by omega), List.drop_append_of_le_length (by omega)]
    simp
  have right : ∀ p, bst M b = some p → bst M (a ++ o :: b) = some (p.1 + (a.length + 1), p.2) → ∃ b', stp M b = some b' ∧ stp M (a ++ o :: b) = some (a ++ o :: b') := by
    intro p h1 h2
    refine ⟨repl b p.1 (gm M p.2).o, by simp [stp, h1], ?_⟩
    unfold stp
    rw [h2]
    simp only [Option.map_some, repl]
    have e1 : (a ++ o :: b).take (p.1 + (a.length + 1)) = a ++ o :: b.take p.1 := by
      rw [show p.1 + (a.length + 1) = a.length + (p.1 + 1) by omega, List.take_length_add_append, List.take_succ_cons]
    have e2 : (a ++ o :: b).drop (p.1 + (a.length + 1) + 2) = b.drop (p.1 + 2) := by
      rw [show p.1 + (a.length + 1) + 2 = a.length + (p.1 + 2 + 1) by omega, List.drop_length_add_append, List.drop_succ_cons]
    rw [e1, e2]
    simp
  cases h1 : bst M a with
  | none =>
    cases h2 : bst M b with
    | none =>
      rw [h1, h2] at hb
      exact .inr (.inr ⟨by simp [stp, h1], by simp [stp, h2], by rw [stp, hb]; rfl⟩)
    | some q =>
      rw [h1, h2] at hb
      exact .inr (.inl (right q h2 hb))
  | some p =>
    cases h2 : bst M b with
    | none =>
      rw [h1, h2] at hb
      exact .inl (left p h1 hb)
    | some q =>
      rw [h1, h2] at hb
      simp only [better, sh, Option.map_some] at hb
      split at hb
      · exact .inr (.inl (right q h2 hb))
      · exact .inl (left p h1 hb)
theorem run_apart {M : List Mg} {o : Int} (ho : Odd M o) : ∀ (n : Nat) (a b : List Int), a.length + b.length ≤ n → run M (a ++ o :: b) = run M a ++ o :: run M b := by
  intro n
  induction n with
  | zero =>
    intro a b h
    have h1 : a = [] := List.length_eq_zero_iff.1 (by omega)
    have h2 : b = [] := List.length_eq_zero_iff.1 (by omega)
    subst h1 h2
    rfl
  | succ n ih =>
    intro a b h
    rcases stp_apart ho a b with ⟨a', h1, h2⟩ | ⟨b', h1, h2⟩ | ⟨h1, h2, h3⟩
    · have := stp_len h1
      rw [run_step h2, run_step h1]
      exact ih a' b (by omega)
    · have := stp_len h1
      rw [run_step h2, run_step h1]
      exact ih a b' (by omega)
    · rw [run_done h3, run_done h1, run_done h2]
end Fb.Try.VO

/-
  Coders: the plain law of the chain.
-/
namespace Fb.Try.VO
open Go Go.Proofs Fb Fb.Bytes
open QU (En less)
/-! ### What a step takes -/
def Bst (M : List Mg) (row : List Int) (n : Nat) : Option (Nat × Nat) → Prop
  | none => ∀ j, j < n → cand M row j = none
  | some p => p.1 < n ∧ cand M row p.1 = some p ∧ ∀ j q, j < n → cand M row j = some q → (gm M p.2).d ≤ (gm M q.2).d ∧ (j < p.1 → (gm M p.2).d < (gm M q.2).d)
theorem cand_fst {M : List Mg} {row : List Int} {i : Nat} {p : Nat × Nat} (h : cand M row i = some p) : p.1 = i ∧ fd M (gi row i) (gi row (i + 1)) = some p.2 := by
  unfold cand at h
  rw [Option.map_eq_some_iff] at h
  obtain ⟨m, hm, rfl⟩ := h
  exact ⟨rfl, hm⟩
theorem bst_spec (M : List Mg) (row : List Int) : ∀ n, Bst M row n (bstN M row n)
  | 0 => fun j hj => by omega
  | n + 1 => by
    have ih := bst_spec M row n
    unfold bstN
    cases hc : cand M row n with
    | none =>
      rw [better_none]
      cases hb : bstN M row n with
      | none =>
        rw [hb] at ih
        intro j hj
        rcases Nat.lt_succ_iff_lt_or_eq.1 hj with h | rfl
        · exact ih j h
        · exact hc
      | some p =>
        rw [hb] at ih
        obtain ⟨h1, h2, h3⟩ := ih
        refine ⟨by omega, h2, fun j q hj hq => ?_⟩
        rcases Nat.lt_succ_iff_lt_or_eq.1 hj with h | rfl
        · exact h3 j q h hq
        · rw [hc] at hq; cases hq
    | some r =>
      have hr := (cand_fst hc).1
      cases hb : bstN M row n with
      | none =>
        rw [hb] at ih
        rw [none_better]
        refine ⟨by omega, by rw [hr]; exact hc, fun j q hj hq => ?_⟩
        rcases Nat.lt_succ_iff_lt_or_eq.1 hj with h | rfl
        · rw [ih j h] at hq; cases hq
        · rw [hc] at hq; cases hq; exact ⟨Int.le_refl _, fun h => by omega⟩
      | some p =>
        rw [hb] at ih
        obtain ⟨h1, h2, h3⟩ := ih
        rw [better_ss]
        split
        · rename_i hlt
          refine ⟨by omega, by rw [hr]; exact hc, fun j q hj hq => ?_⟩
          rcases Nat.lt_succ_iff_lt_or_eq.1 hj with h | rfl
          · have := h3 j q h hq
            exact ⟨by omega, fun _ => by omega⟩
          · rw [hc] at hq; cases hq; exact ⟨Int.le_refl _, fun h => by omega⟩
        · refine ⟨by omega, h2, fun j q hj hq => ?_⟩
          rcases Nat.lt_succ_iff_lt_or_eq.1 hj with h | rfl
          · exact h3 j q h hq
          · rw [hc] at hq; cases hq; exact ⟨by omega, fun h => by omega⟩
theorem cand_of {M : List Mg} {row : List Int} {i m : Nat} (h : fd M (gi row i) (gi row (i + 1)) = some m) : cand M row i = some (i, m) := by
  unfold cand
  rw [h]
  rfl
theorem bst_is {M : List Mg} {row : List Int} {i m : Nat} (hi : i + 1 < row.length) (hf : fd M (gi row i) (gi row (i + 1)) = some m)
    (hmin : ∀ j q, j + 1 < row.length → fd M (gi row j) (gi row (j + 1)) = some q → (gm M m).d ≤ (gm M q).d ∧ (j < i → (gm M m).d < (gm M q).d)) : bst M row = some (i, m) := by
  have hs := bst_spec M row (row.length - 1)
  have hc := cand_of hf
  unfold bst
  cases hb : bstN M row (row.length - 1) with
  | none =>
    rw [hb] at hs
    have := hs i (by omega)
    rw [hc] at this
    cases this
  | some p =>
    rw [hb] at hs
    obtain ⟨h1, h2, h3⟩ := hs
    have a := h3 i (i, m) (by omega) hc
    have b := hmin p.1 p.2 (by omega) (cand_fst h2).2
    dsimp only at a
    have e : p.1 = i := by omega
    rw [e, hc] at h2
    exact h2.symm
theorem bst_no {M : List Mg} {row : List Int} (h : ∀ j, j + 1 < row.length → fd M (gi row j) (gi row (j + 1)) = none) : bst M row = none := by
  cases hb : bst M row with
  | none => rfl
  | some p =>
    have hs := bst_spec M row (row.length - 1)
    unfold bst at hb
    rw [hb] at hs
    obtain ⟨h1, h2, _⟩ := hs
    have := (cand_fst h2).2
    rw [h p.1 (by omega)] at this
    cases this
/-! ### The chain -/
def gp (P : List Nat) (i : Nat) : Nat := (P[i]?).getD 0
theorem gp_erase (P : List Nat) (k j : Nat) : gp (P.eraseIdx k) j = if j < k then gp P j else gp P (j + 1) := by
  unfold gp
  rw [List.getElem?_eraseIdx]
  split <;> rfl
theorem gi_repl {V : List Int} {i : Nat} (h : i + 1 < V.length) (o : Int) (j : Nat) : gi (repl V i o) j = if j < i then gi V j else if j = i then o else gi V (j + 1) := by
  unfold repl
  rw [List.append_assoc, gi_app, gi_app]
  have e : (V.take i).length = i := by simp; omega
  rw [e]
  by_cases h1 : j < i
  · rw [if_pos h1, if_pos h1]
    unfold gi
    rw [List.getElem?_take, if_pos h1]
  · rw [if_neg h1, if_neg h1]
    by_cases h2 : j = i
    · rw [if_pos h2, if_pos (by simp; omega), h2, Nat.sub_self]
      rfl
    · rw [if_neg h2, if_neg (by simp; omega)]
      unfold gi
      rw [List.getElem?_drop]
      congr 2
      simp
      omega
theorem gi_set {R : List Int} {k : Nat} (hk : k < R.length) (o : Int) (j : Nat) : gi (R.set k o) j = if j = k then o else gi R j := by
  unfold gi
  rw [List.getElem?_set]
  by_cases h : j = k
  · subst h
    rw [if_pos rfl, if_pos hk, if_pos rfl]
    rfl
  · rw [if_neg (fun e => h e.symm), if_neg h]
structure Ch (n : Nat) (P : List Nat) (V R L Rt : List Int) : Prop where
  pv : P.length = V.length
  pos : 0 < P.length
  p0 : gp P 0 = 0
  asc : ∀ i, i + 1 < P.length → gp P i < gp P (i + 1)
  lt : ∀ i, i < P.length → gp P i < n
  lr : R.length = n
  ll : L.length = n
  lt' : Rt.length = n
  rv : ∀ i, i < P.length → gi R (gp P i) = gi V i
  rt : ∀ i, i + 1 < P.length → gi Rt (gp P i) = (gp P (i + 1) : Nat)
  rl : ∀ i, i + 1 = P.length → gi Rt (gp P i) = -1
  lf : ∀ i, i + 1 < P.length → gi L (gp P (i + 1)) = (gp P i : Nat)
  l0 : gi L 0 = -1
theorem Ch.mono {n : Nat} {P : List Nat} {V R L Rt : List Int} (h : Ch n P V R L Rt) {i : Nat} : ∀ {j : Nat}, i < j → j < P.length → gp P i < gp P j
  | 0, hj, _ => by omega
  | j + 1, hj, hl => by
    have := h.asc j hl
    rcases Nat.lt_succ_iff_lt_or_eq.1 hj with hk | rfl
    · have := Ch.mono h (j := j) hk (by omega)
      omega
    · exact this
theorem Ch.ne {n : Nat} {P : List Nat} {V R L Rt : List Int} (h : Ch n P V R L Rt) {i j : Nat} (hi : i < P.length) (hj : j < P.length) (hne : i ≠ j) : gp P i ≠ gp P j := by
  rcases Nat.lt_or_gt_of_ne hne with k | k
  · have := h.mono k hj
    omega
  · have := h.mono k hi
    omega
theorem Ch.step {n : Nat} {P : List Nat} {V R L Rt : List Int} (h : Ch n P V R L Rt) {i : Nat} (hi : i + 1 < P.length) (o : Int) :
    (i + 2 = P.length ∧ gi Rt (gp P (i + 1)) = -1 ∧ Ch n (P.eraseIdx (i + 1)) (repl V i o) (R.set (gp P i) o) L (Rt.set (gp P i) (-1))) ∨
    (i + 2 < P.length ∧ gi Rt (gp P (i + 1)) = (gp P (i + 2) : Nat) ∧ Ch n (P.eraseIdx (i + 1)) (repl V i o) (R.set (gp P i) o) (L.set (gp P (i + 2)) (gp P i : Nat)) (Rt.set (gp P i) (gp P (i + 2) : Nat))) := by
  have hpv := h.pv
  have hPl : (P.eraseIdx (i + 1)).length = P.length - 1 := by rw [List.length_eraseIdx, if_pos hi]
  have hVl := repl_len (row := V) (i := i) (by omega) o
  have hpi := h.lt i (by omega)
  have e1 := gp_erase P (i + 1)
  have e2 := gi_repl (V := V) (i := i) (by omega) o
  have e3 := gi_set (R := R) (k := gp P i) (by rw [h.lr]; exact hpi) o
  have e4 := fun z => gi_set (R := Rt) (k := gp P i) (by rw [h.lt']; exact hpi) z
  have f1 : ∀ j, j < i + 1 → gp (P.eraseIdx (i + 1)) j = gp P j := fun j hj => by rw [e1, if_pos hj]
  have f2 : ∀ j, i < j → gp (P.eraseIdx (i + 1)) j = gp P (j + 1) := fun j hj => by rw [e1, if_neg (by omega)]
  have hasc : ∀ j, j + 1 < P.length - 1 → gp (P.eraseIdx (i + 1)) j < gp (P.eraseIdx (i + 1)) (j + 1) := by
    intro j hj
    rw [e1, e1]
    by_cases h1 : j + 1 < i + 1
    · rw [if_pos (by omega), if_pos h1]
      exact h.asc j (by omega)
    · by_cases h2 : j < i + 1
      · rw [if_pos h2, if_neg h1]
        exact h.mono (by omega) (by omega)
      · rw [if_neg h2, if_neg (by omega)]
        exact h.asc (j + 1) (by omega)
  have hlt : ∀ j, j < P.length - 1 → gp (P.eraseIdx (i + 1)) j < n := by
    intro j hj
    rw [e1]
    split
    · exact h.lt j (by omega)
    · exact h.lt (j + 1) (by omega)
  have hrv : ∀ j, j < P.length - 1 → gi (R.set (gp P i) o) (gp (P.eraseIdx (i + 1)) j) = gi (repl V i o) j := by
    intro j hj
    rw [e3, e2, e1]
    by_cases h1 : j < i
    · rw [if_pos (show j < i + 1 by omega), if_neg (h.ne (by omega) (by omega) (by omega)), if_pos h1]
      exact h.rv j (by omega)
    · by_cases h2 : j = i
      · subst h2
        rw [if_pos (show j < j + 1 by omega), if_pos rfl, if_neg h1, if_pos rfl]
      · rw [if_neg (show ¬ j < i + 1 by omega), if_neg (h.ne (by omega) (by omega) (by omega)), if_neg h1, if_neg h2]
        exact h.rv (j + 1) (by omega)
  have hp0 : gp (P.eraseIdx (i + 1)) 0 = 0 := by rw [e1, if_pos (by omega)]; exact h.p0
  by_cases hl : i + 2 = P.length
  · left
    refine ⟨hl, h.rl (i + 1) hl, ⟨by omega, by omega, hp0, fun j hj => hasc j (by omega), fun j hj => hlt j (by omega), by simp [h.lr], h.ll, by simp [h.lt'], fun j hj => hrv j (by omega), fun j hj => ?_, fun j hj => ?_, fun j hj => ?_, h.l0⟩⟩
    · rw [f1 j (by omega), f1 (j + 1) (by omega), e4, if_neg (h.ne (by omega) (by omega) (by omega))]
      exact h.rt j (by omega)
    · have : j = i := by omega
      subst this
      rw [f1 j (by omega), e4, if_pos rfl]
    · rw [f1 j (by omega), f1 (j + 1) (by omega)]
      exact h.lf j (by omega)
  · right
    have hnx := h.lt (i + 2) (by omega)
    have e5 := gi_set (R := L) (k := gp P (i + 2)) (by rw [h.ll]; exact hnx) (gp P i : Nat)
    refine ⟨by omega, h.rt (i + 1) (by omega), ⟨by omega, by omega, hp0, fun j hj => hasc j (by omega), fun j hj => hlt j (by omega), by simp [h.lr], by simp [h.ll], by simp [h.lt'], fun j hj => hrv j (by omega), fun j hj => ?_, fun j hj => ?_, fun j hj => ?_, ?_⟩⟩
    · by_cases h1 : j < i
      · rw [f1 j (by omega), f1 (j + 1) (by omega), e4, if_neg (h.ne (by omega) (by omega) (by omega))]
        exact h.rt j (by omega)
      · by_cases h2 : j = i
        · subst h2
          rw [f1 j (by omega), f2 (j + 1) (by omega), e4, if_pos rfl]
        · rw [f2 j (by omega), f2 (j + 1) (by omega), e4, if_neg (h.ne (by omega) (by omega) (by omega))]
          exact h.rt (j + 1) (by omega)
    · rw [f2 j (by omega), e4, if_neg (h.ne (by omega) (by omega) (by omega))]
      exact h.rl (j + 1) (by omega)
    · by_cases h1 : j < i
      · rw [f1 j (by omega), f1 (j + 1) (by omega), e5, if_neg (h.ne (by omega) (by omega) (by omega))]
        exact h.lf j (by omega)
      · by_cases h2 : j = i
        · subst h2
          rw [f1 j (by omega), f2 (j + 1) (by omega), e5, if_pos rfl]
        · rw [f2 j (by omega), f2 (j + 1) (by omega), e5, if_neg (h.ne (by omega) (by omega) (by omega))]
          exact h.lf (j + 1) (by omega)
    · rw [e5, if_neg]
      · exact h.l0
      · have := h.mono (i := 0) (j := i + 2) (by omega) (by omega)
        omega
def rowL (n : Nat) : List Int := (List.range n).map fun i : Nat => (i : Int) - 1
def rowR (n : Nat) : List Int := (List.range n).map fun i : Nat => (i : Int) + 1
theorem gi_range {n i : Nat} (f : Nat → Int) (h : i < n) : gi ((List.range n).map f) i = f i := by
  unfold gi
  rw [List.getElem?_map, List.getElem?_range h]
  rfl
theorem gp_range {n i : Nat} (h : i < n) : gp (List.range n) i = i := by
  unfold gp
  rw [List.getElem?_range h]
  rfl
theorem Ch.start {V : List Int} (h : 0 < V.length) : Ch V.length (List.range V.length) V V (rowL V.length) ((rowR V.length).set (V.length - 1) (-1)) := by
  have e := gi_set (R := rowR V.length) (k := V.length - 1) (by simp [rowR]; omega) (-1)
  refine ⟨by simp, by simpa using h, gp_range h, fun i hi => ?_, fun i hi => ?_, rfl, by simp [rowL], by simp [rowR], fun i hi => ?_, fun i hi => ?_, fun i hi => ?_, fun i hi => ?_, ?_⟩
  · simp at hi
    rw [gp_range hi, gp_range (by omega)]
    omega
  · simp at hi
    rw [gp_range hi]
    exact hi
  · simp at hi
    rw [gp_range hi]
  · simp at hi
    rw [gp_range hi, gp_range (by omega), e, if_neg (by omega)]
    unfold rowR
    rw [gi_range _ (by omega)]
    omega
  · simp at hi
    rw [gp_range (by omega), e, if_pos (by omega)]
  · simp at hi
    rw [gp_range hi, gp_range (by omega)]
    unfold rowL
    rw [gi_range _ hi]
    omega
  · unfold rowL
    rw [gi_range _ h]
    rfl
/-! ### What waits -/
def Ent (M : List Mg) (P : List Nat) (V : List Int) (e : En) : Prop := ∃ i m, i + 1 < V.length ∧ fd M (gi V i) (gi V (i + 1)) = some m ∧ e = ⟨(gp P i : Nat), (gm M m).d, (gm M m).o⟩
theorem Ent.take {M : List Mg} {n : Nat} {P : List Nat} {V R L Rt : List Int} {e : En} (h : Ch n P V R L Rt) (he : Ent M P V e) (hl : ∀ x, Ent M P V x → ¬ less x e) : ∃ i m, i + 1 < V.length ∧ fd M (gi V i) (gi V (i + 1)) = some m ∧ e = ⟨(gp P i : Nat), (gm M m).d, (gm M m).o⟩ ∧ stp M V = some (repl V i e.out) := by
  have hpv := h.pv
  obtain ⟨i, m, hi, hf, rfl⟩ := he
  refine ⟨i, m, hi, hf, rfl, ?_⟩
  unfold stp
  rw [bst_is hi hf]
  · rfl
  · intro j q hj hq
    have := hl ⟨(gp P j : Nat), (gm M q).d, (gm M q).o⟩ ⟨j, q, hj, hq, rfl⟩
    unfold less at this
    dsimp only at this
    refine ⟨by omega, fun hji => ?_⟩
    have := h.mono hji (by omega)
    omega
theorem Ent.none {M : List Mg} {P : List Nat} {V : List Int} (h : ∀ x, ¬ Ent M P V x) : stp M V = none := by
  unfold stp
  rw [bst_no]
  · rfl
  · intro j hj
    cases hf : fd M (gi V j) (gi V (j + 1)) with
    | none => rfl
    | some m => exact absurd ⟨j, m, hj, hf, rfl⟩ (h ⟨(gp P j : Nat), (gm M m).d, (gm M m).o⟩)
theorem Ent.step {M : List Mg} {n : Nat} {P : List Nat} {V R L Rt : List Int} (h : Ch n P V R L Rt) {i : Nat} (hi : i + 1 < P.length) (o : Int) {x : En} (h1 : x.place ≠ (gp P i : Nat)) (h2 : 0 < i → x.place ≠ (gp P (i - 1) : Nat)) :
    Ent M (P.eraseIdx (i + 1)) (repl V i o) x ↔ Ent M P V x ∧ x.place ≠ (gp P (i + 1) : Nat) := by
  have hpv := h.pv
  have hVl := repl_len (row := V) (i := i) (by omega) o
  have e1 := gp_erase P (i + 1)
  have e2 := gi_repl (V := V) (i := i) (by omega) o
  constructor
  · rintro ⟨j, m, hj, hf, rfl⟩
    dsimp only at h1 h2 ⊢
    rw [e1] at h1 h2 ⊢
    rw [e2, e2] at hf
    by_cases c1 : j < i
    · rw [if_pos (show j < i + 1 by omega)] at h1 h2 ⊢
      have c2 : j + 1 < i := by
        by_cases c : j + 1 = i
        · refine absurd ?_ (h2 (by omega))
          rw [show i - 1 = j by omega]
        · omega
      rw [if_pos c1, if_pos c2] at hf
      refine ⟨⟨j, m, by omega, hf, rfl⟩, fun e => ?_⟩
      exact h.ne (i := j) (j := i + 1) (by omega) (by omega) (by omega) (by omega)
    · by_cases c2 : j = i
      · subst c2
        rw [if_pos (show j < j + 1 by omega)] at h1
        exact absurd rfl h1
      · rw [if_neg (show ¬ j < i + 1 by omega)] at h1 h2 ⊢
        rw [if_neg c1, if_neg c2, if_neg (by omega), if_neg (by omega)] at hf
        refine ⟨⟨j + 1, m, by omega, hf, rfl⟩, fun e => ?_⟩
        exact h.ne (i := j + 1) (j := i + 1) (by omega) (by omega) (by omega) (by omega)
  · rintro ⟨⟨j, m, hj, hf, rfl⟩, h3⟩
    dsimp only at h1 h2 h3
    have c0 : j ≠ i := fun e => h1 (by rw [e])
    have c1 : j ≠ i + 1 := fun e => h3 (by rw [e])
    have c2 : j + 1 ≠ i := fun e => h2 (by omega) (by rw [show i - 1 = j by omega])
    by_cases c : j < i
    · refine ⟨j, m, by omega, ?_, ?_⟩
      · rw [e2, e2, if_pos c, if_pos (by omega)]
        exact hf
      · rw [e1, if_pos (by omega)]
    · refine ⟨j - 1, m, by omega, ?_, ?_⟩
      · rw [e2, e2, if_neg (by omega), if_neg (by omega), if_neg (by omega), if_neg (by omega), show j - 1 + 1 = j by omega]
        exact hf
      · rw [e1, if_neg (by omega), show j - 1 + 1 = j by omega]
theorem Ent.place {M : List Mg} {n : Nat} {P : List Nat} {V R L Rt : List Int} (h : Ch n P V R L Rt) {x : En} (hx : Ent M P V x) : 0 ≤ x.place ∧ x.place < n := by
  have hpv := h.pv
  obtain ⟨i, m, hi, _, rfl⟩ := hx
  have := h.lt i (by omega)
  dsimp only
  omega
end Fb.Try.VO
