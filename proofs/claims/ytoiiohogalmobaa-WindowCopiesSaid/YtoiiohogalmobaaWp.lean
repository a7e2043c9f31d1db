/-
  Windows: the plain law.
-/
import Derived.Test.YtoiiohogalmobaaRz
namespace Fb.Try.WN
open Go Go.Proofs Fb Fb.Try.RW

def sm (l : List Int) (n : Nat) : Int := (l.take n).sum
theorem sm_zero (l : List Int) : sm l 0 = 0 := by simp [sm]
theorem sm_succ (l : List Int) (n : Nat) (h : n < l.length) : sm l (n + 1) = sm l n + l[n] := by
  unfold sm
  rw [List.take_succ_eq_append_getElem h, List.sum_append]
  simp
theorem sm_bound {l : List Int} (hl : ∀ x ∈ l, 1 ≤ x ∧ x ≤ 64) : ∀ n, n ≤ l.length → (n : Int) ≤ sm l n ∧ sm l n ≤ 64 * n
  | 0, _ => by simp [sm_zero]
  | n + 1, h => by
    have ih := sm_bound hl n (by omega)
    have := hl l[n] (List.getElem_mem _)
    rw [sm_succ l n (by omega)]
    omega
theorem sm_mono {l : List Int} (hl : ∀ x ∈ l, 1 ≤ x ∧ x ≤ 64) (n : Nat) : ∀ m, n + m ≤ l.length → sm l n + m ≤ sm l (n + m)
  | 0, _ => by simp
  | m + 1, h => by
    have ih := sm_mono hl n m (by omega)
    have := hl l[n + m] (List.getElem_mem _)
    rw [← Nat.add_assoc, sm_succ l (n + m) (by omega)]
    omega
theorem sm_take (l : List Int) (n m : Nat) (h : n ≤ m) : sm (l.take m) n = sm l n := by
  unfold sm
  rw [List.take_take, Nat.min_eq_left h]
theorem sm_app (l k : List Int) (n : Nat) (h : n ≤ l.length) : sm (l ++ k) n = sm l n := by
  unfold sm
  rw [List.take_append_of_le_length h]

def plA : List Int → List Int → Int → List Pl
  | t :: T, l :: Ls, a => ⟨t, a + l⟩ :: plA T Ls (a + l)
  | _, _, _ => []
theorem plA_len : ∀ (T Ls : List Int) (a : Int), T.length = Ls.length → (plA T Ls a).length = T.length
  | [], _, _, _ => by simp [plA]
  | t :: T, [], _, h => by simp at h
  | t :: T, l :: Ls, a, h => by simp [plA, plA_len T Ls (a + l) (by simpa using h)]
theorem plA_get : ∀ (T Ls : List Int) (a : Int), T.length = Ls.length → ∀ (i : Nat) (hi : i < T.length), (plA T Ls a)[i]? = some ⟨T[i], a + sm Ls (i + 1)⟩
  | t :: T, l :: Ls, a, h, 0, _ => by simp [plA, sm]
  | t :: T, l :: Ls, a, h, i + 1, hi => by
    have ih := plA_get T Ls (a + l) (by simpa using h) i (by simpa using hi)
    simp only [plA, List.getElem?_cons_succ, ih, List.getElem_cons_succ, sm, List.take_succ_cons, List.sum_cons]
    rw [Int.add_assoc]
theorem plA_snoc : ∀ (T Ls : List Int) (a t l : Int), T.length = Ls.length → plA (T ++ [t]) (Ls ++ [l]) a = plA T Ls a ++ [⟨t, a + sm Ls Ls.length + l⟩]
  | [], [], a, t, l, _ => by simp [plA, sm]
  | x :: T, y :: Ls, a, t, l, h => by
    have ih := plA_snoc T Ls (a + y) t l (by simpa using h)
    simp only [List.cons_append, plA, ih, sm, List.length_cons, List.take_succ_cons, List.sum_cons]
    rw [Int.add_assoc a y]
theorem plA_take : ∀ (T Ls : List Int) (a : Int) (n : Nat), plA (T.take n) (Ls.take n) a = (plA T Ls a).take n
  | _, _, _, 0 => by simp [plA]
  | [], _, _, n + 1 => by simp [plA]
  | t :: T, [], _, n + 1 => by simp [plA]
  | t :: T, l :: Ls, a, n + 1 => by simp [plA, plA_take T Ls (a + l) n]

/-- A view: its tokens, how many symbols each has, how many are committed, how many of these are kept. -/
structure St where
  T : List Int
  Ls : List Int
  done : Nat
  keep : Nat
def St.base (s : St) : Nat := s.done - s.keep
def St.places (s : St) : List Pl := (plA s.T s.Ls 0).drop s.base
structure St.Ok (s : St) (n : Nat) : Prop where
  eq : s.T.length = s.Ls.length
  lens : ∀ x ∈ s.Ls, 1 ≤ x ∧ x ≤ 64
  done : s.done ≤ s.T.length
  len : s.T.length ≤ n
  n : n ≤ 1000
  keep : s.keep ≤ 4096
  tok : ∀ x ∈ s.T, -9223372036854775808 ≤ x ∧ x ≤ 9223372036854775807
theorem St.Ok.base {s : St} {n : Nat} (h : s.Ok n) : s.base ≤ s.done ∧ s.base ≤ s.T.length := by
  have := h.done
  unfold St.base
  omega
theorem St.Ok.plen {s : St} {n : Nat} (h : s.Ok n) : s.places.length = s.T.length - s.base := by
  unfold St.places
  rw [List.length_drop, plA_len _ _ _ h.eq]
theorem St.Ok.pget {s : St} {n : Nat} (h : s.Ok n) (i : Nat) (hi : s.base + i < s.T.length) : s.places[i]? = some ⟨s.T[s.base + i], sm s.Ls (s.base + i + 1)⟩ := by
  unfold St.places
  rw [List.getElem?_drop, plA_get _ _ _ h.eq _ hi]
  simp
theorem St.Ok.sum {s : St} {n : Nat} (h : s.Ok n) (i : Nat) (hi : i ≤ s.T.length) : (i : Int) ≤ sm s.Ls i ∧ sm s.Ls i ≤ 64 * i := sm_bound h.lens i (by rw [← h.eq]; exact hi)

/-! What is done to it; the error's number. -/
def St.push (s : St) (t l : Int) : St × Int := if 1 ≤ l ∧ l ≤ 64 then ({ s with T := s.T ++ [t], Ls := s.Ls ++ [l] }, 0) else (s, 1)
def St.retract (s : St) (n : Int) : St × Int := if 0 ≤ n ∧ n ≤ s.T.length - s.done then ({ s with T := s.T.take (s.T.length - n.toNat), Ls := s.Ls.take (s.T.length - n.toNat) }, 0) else (s, 1)
def St.commit (s : St) (n : Int) : St × Int := if s.done ≤ n ∧ n ≤ s.T.length then ({ s with done := n.toNat }, 0) else (s, 1)
def St.step (s : St) (kd a b : Int) : St × Int := if kd = 0 then s.push a b else if kd = 1 then s.retract a else s.commit a
theorem St.Ok.push {s : St} {n : Nat} (h : s.Ok n) (t l : Int) (ht : -9223372036854775808 ≤ t ∧ t ≤ 9223372036854775807) (hn : n + 1 ≤ 1000) : (s.push t l).1.Ok (n + 1) := by
  unfold St.push
  have h1 := h.len
  have h2 := h.done
  split
  · refine ⟨by simp [h.eq], fun x hx => ?_, by simp; omega, by simp; omega, hn, h.keep, fun x hx => ?_⟩
    · simp at hx
      rcases hx with hx | rfl
      · exact h.lens x hx
      · assumption
    · simp at hx
      rcases hx with hx | rfl
      · exact h.tok x hx
      · exact ht
  · exact ⟨h.eq, h.lens, h.done, by dsimp only; omega, hn, h.keep, h.tok⟩
theorem St.Ok.retract {s : St} {n : Nat} (h : s.Ok n) (m : Int) : (s.retract m).1.Ok n := by
  unfold St.retract
  have h1 := h.len
  have h2 := h.done
  have h3 := h.eq
  split
  · refine ⟨by simp only [List.length_take]; omega, fun x hx => h.lens x (List.mem_of_mem_take hx), by simp only [List.length_take]; omega, by simp only [List.length_take]; omega, h.n, h.keep, fun x hx => h.tok x (List.mem_of_mem_take hx)⟩
  · exact h
theorem St.Ok.commit {s : St} {n : Nat} (h : s.Ok n) (m : Int) : (s.commit m).1.Ok n := by
  unfold St.commit
  split
  · exact ⟨h.eq, h.lens, by dsimp only; omega, h.len, h.n, h.keep, h.tok⟩
  · exact h
theorem St.Ok.mono {s : St} {n m : Nat} (h : s.Ok n) (hn : n ≤ m) (hm : m ≤ 1000) : s.Ok m := ⟨h.eq, h.lens, h.done, Nat.le_trans h.len hn, hm, h.keep, h.tok⟩
theorem St.Ok.step {s : St} {n : Nat} (h : s.Ok n) (kd a b : Int) (ha : -9223372036854775808 ≤ a ∧ a ≤ 9223372036854775807) (hn : n + 1 ≤ 1000) : (s.step kd a b).1.Ok (n + 1) := by
  unfold St.step
  split
  · exact h.push a b ha hn
  · split
    · exact (h.retract a).mono (by omega) hn
    · exact (h.commit a).mono (by omega) hn
/-- The ring behind each. -/
theorem St.Ok.places_push {s : St} {n : Nat} (h : s.Ok n) (t l : Int) : St.places { s with T := s.T ++ [t], Ls := s.Ls ++ [l] } = s.places ++ [⟨t, sm s.Ls s.Ls.length + l⟩] := by
  unfold St.places St.base
  dsimp only
  rw [plA_snoc _ _ _ _ _ h.eq, List.drop_append_of_le_length (by rw [plA_len _ _ _ h.eq]; have := h.done; omega), Int.zero_add]
theorem St.places_take (s : St) (m : Nat) : St.places { s with T := s.T.take m, Ls := s.Ls.take m } = s.places.take (m - s.base) := by
  unfold St.places St.base
  dsimp only
  rw [plA_take, List.drop_take]
theorem St.places_done (s : St) (d : Nat) (h : s.base ≤ d - s.keep) : St.places { s with done := d } = s.places.drop (d - s.keep - s.base) := by
  unfold St.places St.base at *
  dsimp only
  rw [List.drop_drop]
  congr 1
  omega
end Fb.Try.WN
