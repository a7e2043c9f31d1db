/-
  Pairs: the plain law of steps.
-/
import Derived.Test.YtnofndhlhbbhdaaPp
namespace Fb.Try.VO
open Go Go.Proofs Fb Fb.Bytes
def gi (row : List Int) (i : Nat) : Int := (row[i]?).getD 0
theorem gi_get {row : List Int} {i : Nat} (h : i < row.length) : row[i]? = some (gi row i) := by
  unfold gi
  rw [List.getElem?_eq_getElem h]
  rfl
theorem gi_app {a b : List Int} (i : Nat) : gi (a ++ b) i = if i < a.length then gi a i else gi b (i - a.length) := by
  unfold gi
  rw [List.getElem?_append]
  split <;> rfl
/-- The place of the merge of two tokens. -/
def fd (M : List Mg) (a b : Int) : Option Nat := M.findIdx? fun m => decide (m.l = a ∧ m.r = b)
theorem fd_some {M : List Mg} {a b : Int} {i : Nat} (h : fd M a b = some i) : i < M.length ∧ (gm M i).l = a ∧ (gm M i).r = b ∧ ∀ k, k < i → ¬ ((gm M k).l = a ∧ (gm M k).r = b) := by
  unfold fd at h
  rw [List.findIdx?_eq_some_iff_getElem] at h
  obtain ⟨h1, h2, h3⟩ := h
  have e : ∀ (k : Nat) (h : k < M.length), M[k] = gm M k := fun k h => by
    have := gm_get h
    rw [List.getElem?_eq_getElem h] at this
    exact Option.some.inj this
  rw [e i h1] at h2
  simp only [decide_eq_true_eq] at h2
  refine ⟨h1, h2.1, h2.2, fun k hk => ?_⟩
  have := h3 k hk
  rw [e k (by omega)] at this
  simpa using this
theorem fd_none {M : List Mg} {a b : Int} (h : fd M a b = none) : ∀ k, k < M.length → ¬ ((gm M k).l = a ∧ (gm M k).r = b) := by
  unfold fd at h
  rw [List.findIdx?_eq_none_iff] at h
  intro k hk
  have := h (gm M k) (gm_mem.2 ⟨k, hk, rfl⟩)
  simpa using this
theorem fd_at {M : List Mg} {a b : Int} {i : Nat} (hi : i < M.length) (h1 : (gm M i).l = a ∧ (gm M i).r = b) (h2 : ∀ k, k < i → ¬ ((gm M k).l = a ∧ (gm M k).r = b)) : fd M a b = some i := by
  cases hf : fd M a b with
  | none => exact absurd h1 (fd_none hf i hi)
  | some j =>
    obtain ⟨k1, k2, k3, k4⟩ := fd_some hf
    rcases Nat.lt_trichotomy i j with h | h | h
    · exact absurd h1 (k4 i h)
    · rw [h]
    · exact absurd ⟨k2, k3⟩ (h2 j h)
theorem fd_no {M : List Mg} {a b : Int} (h : ∀ k, k < M.length → ¬ ((gm M k).l = a ∧ (gm M k).r = b)) : fd M a b = none := by
  cases hf : fd M a b with
  | none => rfl
  | some j =>
    obtain ⟨k1, k2, k3, _⟩ := fd_some hf
    exact absurd ⟨k2, k3⟩ (h j k1)
def better (M : List Mg) (x y : Option (Nat × Nat)) : Option (Nat × Nat) := match y with
  | none => x
  | some p => match x with
    | none => some p
    | some q => if (gm M p.2).d < (gm M q.2).d then some p else some q
theorem better_ss (M : List Mg) (p q : Nat × Nat) : better M (some p) (some q) = if (gm M q.2).d < (gm M p.2).d then some q else some p := rfl
theorem better_assoc (M : List Mg) (x y z : Option (Nat × Nat)) : better M (better M x y) z = better M x (better M y z) := by
  rcases z with _ | r
  · rfl
  rcases y with _ | q
  · rcases x with _ | p <;> rfl
  rcases x with _ | p
  · have : ∀ u, better M none u = u := fun u => by cases u <;> rfl
    rw [this, this]
  rw [better_ss, better_ss]
  by_cases h1 : (gm M q.2).d < (gm M p.2).d
  · by_cases h2 : (gm M r.2).d < (gm M q.2).d
    · rw [if_pos h1, if_pos h2, better_ss, better_ss, if_pos h2, if_pos (by omega)]
    · rw [if_pos h1, if_neg h2, better_ss, better_ss, if_neg h2, if_pos h1]
  · by_cases h2 : (gm M r.2).d < (gm M q.2).d
    · rw [if_neg h1, if_pos h2]
    · rw [if_neg h1, if_neg h2, better_ss, better_ss, if_neg h1, if_neg (by omega)]
def cand (M : List Mg) (row : List Int) (i : Nat) : Option (Nat × Nat) := (fd M (gi row i) (gi row (i + 1))).map fun m => (i, m)
def bstN (M : List Mg) (row : List Int) : Nat → Option (Nat × Nat)
  | 0 => none
  | n + 1 => better M (bstN M row n) (cand M row n)
def bst (M : List Mg) (row : List Int) : Option (Nat × Nat) := bstN M row (row.length - 1)
theorem bstN_some {M : List Mg} {row : List Int} : ∀ {n : Nat} {p : Nat × Nat}, bstN M row n = some p → p.1 < n ∧ p.2 < M.length ∧ (gm M p.2).l = gi row p.1 ∧ (gm M p.2).r = gi row (p.1 + 1)
  | 0, _, h => by cases h
  | n + 1, p, h => by
    unfold bstN at h
    have key : ∀ q, cand M row n = some q → q.1 < n + 1 ∧ q.2 < M.length ∧ (gm M q.2).l = gi row q.1 ∧ (gm M q.2).r = gi row (q.1 + 1) := by
      intro q hq
      unfold cand at hq
      rw [Option.map_eq_some_iff] at hq
      obtain ⟨m, hm, rfl⟩ := hq
      obtain ⟨h1, h2, h3, _⟩ := fd_some hm
      exact ⟨by dsimp only; omega, h1, h2, h3⟩
    cases hc : cand M row n with
    | none =>
      rw [hc] at h
      have := bstN_some (n := n) (p := p) h
      exact ⟨by omega, this.2⟩
    | some q =>
      rw [hc] at h
      cases hb : bstN M row n with
      | none =>
        rw [hb] at h
        cases h
        exact key _ hc
      | some r =>
        rw [hb] at h
        unfold better at h
        dsimp only at h
        split at h
        · cases h; exact key _ hc
        · cases h
          have := bstN_some (n := n) (p := p) hb
          exact ⟨by omega, this.2⟩
theorem bst_some {M : List Mg} {row : List Int} {p : Nat × Nat} (h : bst M row = some p) : p.1 + 1 < row.length ∧ p.2 < M.length ∧ (gm M p.2).l = gi row p.1 ∧ (gm M p.2).r = gi row (p.1 + 1) := by
  have := bstN_some h
  exact ⟨by omega, this.2⟩
def repl (row : List Int) (i : Nat) (o : Int) : List Int := row.take i ++ [o] ++ row.drop (i + 2)
theorem repl_len {row : List Int} {i : Nat} (h : i + 1 < row.length) (o : Int) : (repl row i o).length + 1 = row.length := by
  unfold repl
  simp
  omega
def stp (M : List Mg) (row : List Int) : Option (List Int) := (bst M row).map fun p => repl row p.1 (gm M p.2).o
theorem stp_len {M : List Mg} {row r : List Int} (h : stp M row = some r) : r.length + 1 = row.length ∧ 2 ≤ row.length := by
  unfold stp at h
  rw [Option.map_eq_some_iff] at h
  obtain ⟨p, hp, rfl⟩ := h
  obtain ⟨h1, _⟩ := bst_some hp
  exact ⟨repl_len h1 _, by omega⟩
def runF (M : List Mg) : Nat → List Int → List Int
  | 0, r => r
  | n + 1, r => match stp M r with
    | none => r
    | some r' => runF M n r'
def run (M : List Mg) (row : List Int) : List Int := runF M row.length row
theorem runF_none {M : List Mg} {r : List Int} (h : stp M r = none) : ∀ n, runF M n r = r
  | 0 => rfl
  | n + 1 => by simp [runF, h]
theorem runF_enough (M : List Mg) : ∀ (n : Nat) (r : List Int), r.length ≤ n → runF M n r = run M r := by
  intro n
  induction n with
  | zero =>
    intro r h
    have : r.length = 0 := by omega
    unfold run
    rw [this]
  | succ n ih =>
    intro r h
    cases hs : stp M r with
    | none => rw [runF_none hs]; unfold run; rw [runF_none hs]
    | some r' =>
      have hl := stp_len hs
      have e1 : runF M (n + 1) r = runF M n r' := by simp [runF, hs]
      have e2 : run M r = runF M r'.length r' := by
        unfold run
        rw [← hl.1]
        simp [runF, hs]
      rw [e1, e2, ih r' (by omega)]
      rfl
theorem run_step {M : List Mg} {r r' : List Int} (h : stp M r = some r') : run M r = run M r' := by
  have hl := stp_len h
  unfold run
  rw [← hl.1]
  simp [runF, h]
theorem run_done {M : List Mg} {r : List Int} (h : stp M r = none) : run M r = r := runF_none h _
/-- The end of a row: no step can be done in it. -/
theorem run_end (M : List Mg) : ∀ (n : Nat) (r : List Int), r.length ≤ n → stp M (run M r) = none := by
  intro n
  induction n with
  | zero =>
    intro r h
    cases hs : stp M r with
    | none => rw [run_done hs]; exact hs
    | some r' => have := stp_len hs; omega
  | succ n ih =>
    intro r h
    cases hs : stp M r with
    | none => rw [run_done hs]; exact hs
    | some r' =>
      rw [run_step hs]
      exact ih r' (by have := stp_len hs; omega)
theorem run_fix (M : List Mg) (r : List Int) : run M (run M r) = run M r := run_done (run_end M r.length r (Nat.le_refl _))
theorem run_len (M : List Mg) : ∀ (n : Nat) (r : List Int), r.length ≤ n → (run M r).length ≤ r.length := by
  intro n
  induction n with
  | zero =>
    intro r h
    cases hs : stp M r with
    | none => rw [run_done hs]; exact Nat.le_refl _
    | some r' => have := stp_len hs; omega
  | succ n ih =>
    intro r h
    cases hs : stp M r with
    | none => rw [run_done hs]; exact Nat.le_refl _
    | some r' =>
      have hl := stp_len hs
      rw [run_step hs]
      have := ih r' (by omega)
      omega
/-! ### Bytes -/
def txt (T : List (List UInt8)) (row : List Int) : List UInt8 := (row.map (tk T)).flatten
theorem txt_app (T : List (List UInt8)) (a b : List Int) : txt T (a ++ b) = txt T a ++ txt T b := by simp [txt]
def AllT (T : List (List UInt8)) (row : List Int) : Prop := ∀ i ∈ row, IsT T i
theorem row_split {row : List Int} {i : Nat} (h : i + 1 < row.length) : row = row.take i ++ [gi row i, gi row (i + 1)] ++ row.drop (i + 2) := by
  have h1 := gi_get (row := row) (i := i) (by omega)
  have h2 := gi_get (row := row) (i := i + 1) h
  rw [List.getElem?_eq_getElem (by omega)] at h1 h2
  rw [← Option.some.inj h1, ← Option.some.inj h2]
  have e1 : row.drop i = row[i] :: row[i + 1] :: row.drop (i + 2) := by
    rw [List.drop_eq_getElem_cons (by omega), List.drop_eq_getElem_cons h]
  conv => lhs; rw [← List.take_append_drop i row, e1]
  simp
theorem stp_txt {T : List (List UInt8)} {M : List Mg} (hM : MgOk T M) {row r : List Int} (h : stp M row = some r) (ha : AllT T row) : AllT T r ∧ txt T r = txt T row := by
  unfold stp at h
  rw [Option.map_eq_some_iff] at h
  obtain ⟨p, hp, rfl⟩ := h
  obtain ⟨h1, h2, h3, h4⟩ := bst_some hp
  have hf := (hM p.2 h2).1
  refine ⟨fun i hi => ?_, ?_⟩
  · unfold repl at hi
    simp only [List.mem_append, List.mem_singleton] at hi
    rcases hi with (hi | rfl) | hi
    · exact ha i (List.mem_of_mem_take hi)
    · exact hf.2.2.1
    · exact ha i (List.mem_of_mem_drop hi)
  · conv => rhs; rw [row_split h1]
    unfold repl
    simp only [txt_app]
    congr 2
    simp only [txt, List.map_cons, List.map_nil, List.flatten_cons, List.flatten_nil, List.append_nil]
    rw [hf.2.2.2.2.2, h3, h4]
theorem run_txt {T : List (List UInt8)} {M : List Mg} (hM : MgOk T M) : ∀ (n : Nat) (r : List Int), r.length ≤ n → AllT T r → AllT T (run M r) ∧ txt T (run M r) = txt T r := by
  intro n
  induction n with
  | zero =>
    intro r h ha
    cases hs : stp M r with
    | none => rw [run_done hs]; exact ⟨ha, rfl⟩
    | some r' => have := stp_len hs; omega
  | succ n ih =>
    intro r h ha
    cases hs : stp M r with
    | none => rw [run_done hs]; exact ⟨ha, rfl⟩
    | some r' =>
      have hl := stp_len hs
      have ht := stp_txt hM hs ha
      rw [run_step hs, ← ht.2]
      exact ih r' (by omega) ht.1
/-! ### Parts that stand apart -/
def sh (n : Nat) (x : Option (Nat × Nat)) : Option (Nat × Nat) := x.map fun p => (p.1 + n, p.2)
theorem sh_better (M : List Mg) (n : Nat) (x y : Option (Nat × Nat)) : sh n (better M x y) = better M (sh n x) (sh n y) := by
  cases x <;> cases y <;> simp only [better, sh, Option.map_some, Option.map_none]
  split <;> rfl
theorem better_none (M : List Mg) (x : Option (Nat × Nat)) : better M x none = x := rfl
theorem none_better (M : List Mg) (x : Option (Nat × Nat)) : better M none x = x := by cases x <;> rfl
/-- A number that is in no merge. -/
def Odd (M : List Mg) (o : Int) : Prop := ∀ m ∈ M, m.l ≠ o ∧ m.r ≠ o
theorem Odd.fd_l {M : List Mg} {o : Int} (h : Odd M o) (b : Int) : fd M o b = none := fd_no fun k hk e => (h _ (gm_mem.2 ⟨k, hk, rfl⟩)).1 e.1
theorem Odd.fd_r {M : List Mg} {o : Int} (h : Odd M o) (a : Int) : fd M a o = none := fd_no fun k hk e => (h _ (gm_mem.2 ⟨k, hk, rfl⟩)).2 e.2
theorem bstN_app {M : List Mg} {a c : List Int} : ∀ n, n ≤ a.length - 1 → bstN M (a ++ c) n = bstN M a n
  | 0, _ => rfl
  | n + 1, h => by
    have e : cand M (a ++ c) n = cand M a n := by
      unfold cand
      rw [gi_app, gi_app, if_pos (by omega), if_pos (by omega)]
    unfold bstN
    rw [bstN_app n (by omega), e]
theorem bst_apart {M : List Mg} {o : Int} (ho : Odd M o) (a b : List Int) : bst M (a ++ o :: b) = better M (bst M a) (sh (a.length + 1) (bst M b)) := by
  have start : bstN M (a ++ o :: b) a.length = bst M a := by
    cases ha : a.length with
    | zero =>
      have : a = [] := List.length_eq_zero_iff.1 ha
      subst this
      rfl
    | succ n =>
      have e : cand M (a ++ o :: b) n = none := by
        unfold cand
        rw [gi_app (n + 1), if_neg (by omega), show n + 1 - a.length = 0 by omega]
        have : gi (o :: b) 0 = o := rfl
        rw [this, ho.fd_r]
        rfl
      unfold bstN
      rw [e, better_none, bstN_app n (by omega)]
      unfold bst
      rw [show a.length - 1 = n by omega]
  have key : ∀ k, k ≤ b.length - 1 → 0 < b.length → bstN M (a ++ o :: b) (a.length + 1 + k) = better M (bst M a) (sh (a.length + 1) (bstN M b k)) := by
    intro k
    induction k with
    | zero =>
      intro _ hb
      have e : cand M (a ++ o :: b) a.length = none := by
        unfold cand
        rw [gi_app a.length, if_neg (by omega), Nat.sub_self]
        have : gi (o :: b) 0 = o := rfl
        rw [this, ho.fd_l]
        rfl
      show bstN M (a ++ o :: b) (a.length + 1) = _
      unfold bstN
      rw [e, better_none, start]
      rfl
    | succ k ih =>
      intro hk hb
      have e : cand M (a ++ o :: b) (a.length + 1 + k) = sh (a.length + 1) (cand M b k) := by
        unfold cand sh
        rw [gi_app, gi_app, if_neg (by omega), if_neg (by omega), show a.length + 1 + k - a.length = k + 1 by omega, show a.length + 1 + k + 1 - a.length = k + 1 + 1 by omega]
        have e1 : ∀ j, gi (o :: b) (j + 1) = gi b j := fun j => rfl
        rw [e1, e1, Option.map_map]
        congr 1
        funext m
        simp
        omega
      show bstN M (a ++ o :: b) (a.length + 1 + k + 1) = _
      unfold bstN
      rw [ih (by omega) hb, e, better_assoc, ← sh_better]
  by_cases hb : 0 < b.length
  · have := key (b.length - 1) (Nat.le_refl _) hb
    unfold bst at this ⊢
    rw [show (a ++ o :: b).length - 1 = a.length + 1 + (b.length - 1) by simp; omega]
    exact this
  · have : b = [] := List.length_eq_zero_iff.1 (by omega)
    subst this
    unfold bst at start ⊢
    rw [show (a ++ [o]).length - 1 = a.length by simp, start]
    rfl
theorem stp_apart {M : List Mg} {o : Int} (ho : Odd M o) (a b : List Int) : (∃ a', stp M a = some a' ∧ stp M (a ++ o :: b) = some (a' ++ o :: b)) ∨ (∃ b', stp M b = some b' ∧ stp M (a ++ o :: b) = some (a ++ o :: b')) ∨ (stp M a = none ∧ stp M b = none ∧ stp M (a ++ o :: b) = none) := by
  have hb := bst_apart ho a b
  have left : ∀ p, bst M a = some p → bst M (a ++ o :: b) = some p → ∃ a', stp M a = some a' ∧ stp M (a ++ o :: b) = some (a' ++ o :: b) := by
    intro p h1 h2
    obtain ⟨h3, _⟩ := bst_some h1
    refine ⟨repl a p.1 (gm M p.2).o, by simp [stp, h1], ?_⟩
    unfold stp
    rw [h2]
    simp only [Option.map_some, repl]
    rw [List.take_append_of_le_length (by omega), List.drop_append_of_le_length (by omega)]
    simp
  have right : ∀ p, bst M b = some p → bst M (a ++ o :: b) = some (p.1 + (a.length + 1), p.2) → ∃ b', stp M b = some b' ∧ stp M (a ++ o :: b) = some (a ++ o :: b') := by
    intro p h1 h2
    refine ⟨repl b p.1 (gm M p.2).o, by simp [stp, h1], ?_⟩
    unfold stp
    rw [h2]
    simp only [Option.map_some, repl]
    have e1 : (a ++ o :: b).take (p.1 + (a.length + 1)) = a ++ o :: b.take p.1 := by
      rw [show p.1 + (a.length + 1) = a.length + (p.1 + 1) by omega, List.take_length_add_append, List.take_succ_cons]
    have e2 : (a ++ o :: b).drop (p.1 + (a.length + 1) + 2) = b.drop (p.1 + 2) := by
      rw [show p.1 + (a.length + 1) + 2 = a.length + (p.1 + 2 + 1) by omega, List.drop_length_add_append, List.drop_succ_cons]
    rw [e1, e2]
    simp
  cases h1 : bst M a with
  | none =>
    cases h2 : bst M b with
    | none =>
      rw [h1, h2] at hb
      exact .inr (.inr ⟨by simp [stp, h1], by simp [stp, h2], by rw [stp, hb]; rfl⟩)
    | some q =>
      rw [h1, h2] at hb
      exact .inr (.inl (right q h2 hb))
  | some p =>
    cases h2 : bst M b with
    | none =>
      rw [h1, h2] at hb
      exact .inl (left p h1 hb)
    | some q =>
      rw [h1, h2] at hb
      simp only [better, sh, Option.map_some] at hb
      split at hb
      · exact .inr (.inl (right q h2 hb))
      · exact .inl (left p h1 hb)
theorem run_apart {M : List Mg} {o : Int} (ho : Odd M o) : ∀ (n : Nat) (a b : List Int), a.length + b.length ≤ n → run M (a ++ o :: b) = run M a ++ o :: run M b := by
  intro n
  induction n with
  | zero =>
    intro a b h
    have h1 : a = [] := List.length_eq_zero_iff.1 (by omega)
    have h2 : b = [] := List.length_eq_zero_iff.1 (by omega)
    subst h1 h2
    rfl
  | succ n ih =>
    intro a b h
    rcases stp_apart ho a b with ⟨a', h1, h2⟩ | ⟨b', h1, h2⟩ | ⟨h1, h2, h3⟩
    · have := stp_len h1
      rw [run_step h2, run_step h1]
      exact ih a' b (by omega)
    · have := stp_len h1
      rw [run_step h2, run_step h1]
      exact ih a b' (by omega)
    · rw [run_done h3, run_done h1, run_done h2]
end Fb.Try.VO
