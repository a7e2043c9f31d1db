/-
  Cuts: the plain law.
-/
import Derived.Test.YtlnmllpmnhiidaaS
import Derived.Test.YtlnmllpmnhiidaaVr
namespace Fb.Try.AL
open Go Go.Proofs Fb

def iv (l : List Int) : List Value := l.map (.int .i64)
theorem iv_len (l : List Int) : (iv l).length = l.length := by simp [iv]
theorem iv_one (l : List Int) : ∀ v ∈ iv l, v.oneCell' = true := by
  intro v hv
  simp [iv] at hv
  obtain ⟨x, _, rfl⟩ := hv
  rfl
def sm (l : List Int) (n : Nat) : Int := (l.take n).sum
theorem sm_zero (l : List Int) : sm l 0 = 0 := by simp [sm]
theorem sm_succ (l : List Int) (n : Nat) (h : n < l.length) : sm l (n + 1) = sm l n + l[n] := by
  unfold sm
  rw [List.take_succ_eq_append_getElem h, List.sum_append]
  simp
theorem sm_bound {l : List Int} (hl : ∀ x ∈ l, 1 ≤ x ∧ x ≤ 64) : ∀ n, n ≤ l.length → (n : Int) ≤ sm l n ∧ sm l n ≤ 64 * n
  | 0, _ => by simp [sm_zero]
  | n + 1, h => by
    have ih := sm_bound hl n (by omega)
    have := hl l[n] (List.getElem_mem _)
    rw [sm_succ l n (by omega)]
    omega
theorem sm_mono {l : List Int} (hl : ∀ x ∈ l, 1 ≤ x ∧ x ≤ 64) (n : Nat) : ∀ m, n + m ≤ l.length → sm l n + m ≤ sm l (n + m)
  | 0, _ => by simp
  | m + 1, h => by
    have ih := sm_mono hl n m (by omega)
    have := hl l[n + m] (List.getElem_mem _)
    rw [← Nat.add_assoc, sm_succ l (n + m) (by omega)]
    omega
def fk : List Int → Int → Nat
  | [], _ => 0
  | x :: l, y => if y < x then 0 else fk l (y - x) + 1
theorem fk_eq : ∀ (l : List Int), (∀ x ∈ l, 1 ≤ x ∧ x ≤ 64) → ∀ (k : Nat) (y : Int), k < l.length → sm l k ≤ y → y < sm l (k + 1) → fk l y = k
  | x :: l, hl, 0, y, _, _, h2 => by
    have : sm (x :: l) 1 = x := by simp [sm]
    rw [Nat.zero_add, this] at h2
    unfold fk
    rw [if_pos h2]
  | x :: l, hl, k + 1, y, hk, h1, h2 => by
    have e : ∀ j, sm (x :: l) (j + 1) = x + sm l j := fun j => by simp [sm]
    rw [e] at h1 h2
    have hl' : ∀ z ∈ l, 1 ≤ z ∧ z ≤ 64 := fun z hz => hl z (by simp [hz])
    have hk' : k < l.length := by simpa using hk
    have := (sm_bound hl' k (by omega)).1
    unfold fk
    rw [if_neg (by omega), fk_eq l hl' k (y - x) hk' (by omega) (by omega)]

/-- Cuts: the number of what is gone, where the first token begins, the tokens' lengths. -/
structure Cu where
  base : Int
  pos : Int
  L : List Int
def Cu.Ok (c : Cu) : Prop := 0 ≤ c.base ∧ c.base ≤ 1048576 ∧ c.base ≤ c.pos ∧ c.pos ≤ 64 * c.base ∧ ∀ x ∈ c.L, 1 ≤ x ∧ x ≤ 64
instance (c : Cu) : Decidable c.Ok := by unfold Cu.Ok; infer_instance
/-- The end of the n first tokens. -/
def Cu.e (c : Cu) (n : Nat) : Int := c.pos + sm c.L n
def Cu.n (c : Cu) : Nat := c.L.length
def Cu.ends (c : Cu) : List Int := (List.range (c.n + 1)).map c.e
def Cu.total (c : Cu) : Int := c.e c.n
theorem Cu.ends_len (c : Cu) : c.ends.length = c.n + 1 := by simp [Cu.ends]
theorem Cu.ends_get (c : Cu) (k : Nat) (h : k < c.n + 1) : c.ends[k]? = some (c.e k) := by
  unfold Cu.ends
  rw [List.getElem?_map, List.getElem?_range h]
  rfl
theorem Cu.e_zero (c : Cu) : c.e 0 = c.pos := by simp [Cu.e, sm_zero]
theorem Cu.e_succ (c : Cu) (k : Nat) (h : k < c.L.length) : c.e (k + 1) = c.e k + c.L[k] := by
  unfold Cu.e
  rw [sm_succ _ _ h, Int.add_assoc]
theorem Cu.Ok.lt {c : Cu} (h : c.Ok) {j k : Nat} (hjk : j < k) (hk : k ≤ c.n) : c.e j < c.e k := by
  have := sm_mono h.2.2.2.2 j (k - j) (by unfold Cu.n at hk; omega)
  rw [show j + (k - j) = k by omega] at this
  unfold Cu.e
  omega
theorem Cu.Ok.le {c : Cu} (h : c.Ok) {j k : Nat} (hjk : j ≤ k) (hk : k ≤ c.n) : c.e j ≤ c.e k := by
  rcases Nat.lt_or_eq_of_le hjk with h1 | rfl
  · exact Int.le_of_lt (h.lt h1 hk)
  · exact Int.le_refl _
theorem Cu.Ok.lt_iff {c : Cu} (h : c.Ok) {j k : Nat} (hj : j ≤ c.n) (hk : k ≤ c.n) : c.e j < c.e k ↔ j < k := by
  constructor
  · intro hlt
    rcases Nat.lt_or_ge j k with h1 | h1
    · exact h1
    · have := h.le h1 hj; omega
  · intro hlt; exact h.lt hlt hk
theorem Cu.Ok.inj {c : Cu} (h : c.Ok) {j k : Nat} (hj : j ≤ c.n) (hk : k ≤ c.n) (he : c.e j = c.e k) : j = k := by
  rcases Nat.lt_trichotomy j k with h1 | h1 | h1
  · have := h.lt h1 hk; omega
  · exact h1
  · have := h.lt h1 hj; omega
theorem Cu.Ok.bound {c : Cu} (h : c.Ok) {k : Nat} (hk : k ≤ c.n) : c.pos + k ≤ c.e k ∧ c.e k ≤ 67108864 + 64 * k ∧ 0 ≤ c.pos := by
  have := sm_bound h.2.2.2.2 k hk
  obtain ⟨h1, h2, h3, h4, -⟩ := h
  unfold Cu.e
  omega
/-- In which token a symbol lies. -/
theorem Cu.find {c : Cu} {s : Int} (h1 : c.pos ≤ s) (h2 : s < c.total) : ∃ k, k < c.n ∧ c.e k ≤ s ∧ s < c.e (k + 1) := by
  have key : ∀ n, n ≤ c.n → s < c.e n → ∃ k, k < n ∧ c.e k ≤ s ∧ s < c.e (k + 1) := by
    intro n
    induction n with
    | zero => intro _ h3; rw [Cu.e_zero] at h3; omega
    | succ n ih =>
      intro h3 h4
      by_cases h5 : s < c.e n
      · obtain ⟨k, h6, h7⟩ := ih (by omega) h5
        exact ⟨k, by omega, h7⟩
      · exact ⟨n, by omega, by omega, h4⟩
  exact key c.n (Nat.le_refl _) h2
def Cu.f (c : Cu) (s : Int) : Nat := fk c.L (s - c.pos)
theorem Cu.Ok.f_eq {c : Cu} (h : c.Ok) {s : Int} {k : Nat} (hk : k < c.n) (h1 : c.e k ≤ s) (h2 : s < c.e (k + 1)) : c.f s = k := by
  unfold Cu.f
  unfold Cu.e at h1 h2
  exact fk_eq c.L h.2.2.2.2 k _ hk (by omega) (by omega)
theorem Cu.Ok.f_spec {c : Cu} (h : c.Ok) {s : Int} (h1 : c.pos ≤ s) (h2 : s < c.total) : c.f s < c.n ∧ c.e (c.f s) ≤ s ∧ s < c.e (c.f s + 1) := by
  obtain ⟨k, h3, h4, h5⟩ := Cu.find h1 h2
  rw [h.f_eq h3 h4 h5]
  exact ⟨h3, h4, h5⟩
theorem Cu.Ok.f_le {c : Cu} (h : c.Ok) {s : Int} {k : Nat} (h1 : c.pos ≤ s) (h2 : s < c.total) (hk : k < c.n) : c.f s ≤ k ↔ s < c.e (k + 1) := by
  obtain ⟨h3, h4, h5⟩ := h.f_spec h1 h2
  constructor
  · intro h6
    have := h.le (show c.f s + 1 ≤ k + 1 by omega) (by omega)
    omega
  · intro h6
    have : c.e (c.f s) < c.e (k + 1) := by omega
    have := (h.lt_iff (by omega) (by omega)).1 this
    omega
theorem Cu.Ok.le_f {c : Cu} (h : c.Ok) {s : Int} {k : Nat} (h1 : c.pos ≤ s) (h2 : s < c.total) (hk : k < c.n) : k ≤ c.f s ↔ c.e k ≤ s := by
  obtain ⟨h3, h4, h5⟩ := h.f_spec h1 h2
  constructor
  · intro h6
    have := h.le h6 (by omega)
    omega
  · intro h6
    have : c.e k < c.e (c.f s + 1) := by omega
    have := (h.lt_iff (by omega) (by omega)).1 this
    omega

def Cu.span (c : Cu) (i : Int) : Int × Int × Int :=
  if ¬ c.Ok then (0, 0, 1) else if i < 0 ∨ i ≥ c.base + c.n then (0, 0, 13) else if i < c.base then (0, 0, 12) else (c.e (i - c.base).toNat, c.e ((i - c.base).toNat + 1), 0)
def Cu.sym (c : Cu) (s : Int) : Int × Int :=
  if ¬ c.Ok then (0, 1) else if s < 0 ∨ s ≥ c.total then (0, 13) else if s < c.pos then (0, 12) else (c.base + c.f s, 0)
def Both2 (a b : Cu) : Prop := a.Ok ∧ b.Ok ∧ a.total = b.total
instance (a b : Cu) : Decidable (Both2 a b) := by unfold Both2; infer_instance
def mapT (a b : Cu) (i : Int) : Int × Int × Int :=
  if ¬ Both2 a b then (0, 0, 1) else
  if (a.span i).2.2 ≠ 0 then (0, 0, (a.span i).2.2) else
  if (a.span i).1 < b.pos then (0, 0, 12) else (b.base + b.f (a.span i).1, b.base + b.f ((a.span i).2.1 - 1) + 1, 0)
def common (a b : Cu) : List Int := if Both2 a b then a.ends.filter (fun x => decide (x ∈ b.ends)) else []
/-- The last one that isn't above a number. -/
def lastLe (l : List Int) (x : Int) : Int := l.foldl (fun r y => if y ≤ x then y else r) (-1)
def floorT (a b : Cu) (x : Int) : Int × Int :=
  if ¬ Both2 a b then (0, 1) else if x < 0 ∨ x > a.total then (0, 13) else if lastLe (common a b) x < 0 then (0, 12) else (lastLe (common a b) x, 0)

theorem Cu.span_ok {c : Cu} (h : c.Ok) {k : Nat} (hk : k < c.n) : c.span (c.base + k) = (c.e k, c.e (k + 1), 0) := by
  have := h.1
  unfold Cu.span
  rw [if_neg (by simpa using h), if_neg (by omega), if_neg (by omega), show (c.base + (k : Int) - c.base).toNat = k by omega]
theorem mapT_ok {a b : Cu} (h : Both2 a b) {k : Nat} (hk : k < a.n) (hp : b.pos ≤ a.e k) : mapT a b (a.base + k) = (b.base + b.f (a.e k), b.base + b.f (a.e (k + 1) - 1) + 1, 0) := by
  unfold mapT
  rw [Cu.span_ok h.1 hk]
  simp only [h, not_true_eq_false, if_false, ne_eq]
  rw [if_neg (by omega)]
theorem mapT_ev {a b : Cu} (h : Both2 a b) {k : Nat} (hk : k < a.n) (hp : ¬ b.pos ≤ a.e k) : mapT a b (a.base + k) = (0, 0, 12) := by
  unfold mapT
  rw [Cu.span_ok h.1 hk]
  simp only [h, not_true_eq_false, if_false, ne_eq]
  rw [if_pos (by omega)]
/-- To itself alone in its own view. -/
theorem mapT_self {a : Cu} (h : a.Ok) {k : Nat} (hk : k < a.n) : mapT a a (a.base + k) = (a.base + k, a.base + k + 1, 0) := by
  have h1 := h.le (Nat.zero_le k) (show k ≤ a.n by omega)
  rw [Cu.e_zero] at h1
  have h2 := h.lt (show k < k + 1 by omega) (by omega)
  rw [mapT_ok ⟨h, h, rfl⟩ hk h1, h.f_eq hk (Int.le_refl _) h2, h.f_eq (s := a.e (k + 1) - 1) hk (by omega) (by omega)]
/-- The other way about. -/
theorem back {a b : Cu} (h : Both2 a b) {i k : Nat} (hi : i < a.n) (hk : k < b.n) (h1 : b.pos ≤ a.e i) (h2 : a.pos ≤ b.e k) :
    ((b.f (a.e i) ≤ k ∧ k ≤ b.f (a.e (i + 1) - 1)) ↔ (a.f (b.e k) ≤ i ∧ i ≤ a.f (b.e (k + 1) - 1))) := by
  obtain ⟨ha, hb, ht⟩ := h
  have e1 := ha.lt (show i < i + 1 by omega) (by omega)
  have e2 := hb.lt (show k < k + 1 by omega) (by omega)
  have e3 := ha.le (show i + 1 ≤ a.n by omega) (Nat.le_refl _)
  have e4 := hb.le (show k + 1 ≤ b.n by omega) (Nat.le_refl _)
  have t1 : a.e a.n = a.total := rfl
  have t2 : b.e b.n = b.total := rfl
  rw [hb.f_le h1 (by omega) hk, hb.le_f (by omega) (by omega) hk, ha.f_le h2 (by omega) hi, ha.le_f (by omega) (by omega) hi]
  omega
/-- The next token's first is no more than one behind the last of this one. -/
theorem next {b : Cu} (h : b.Ok) {s : Int} (h1 : b.pos < s) (h2 : s < b.total) : b.f s ≤ b.f (s - 1) + 1 := by
  obtain ⟨h3, h4, h5⟩ := h.f_spec (s := s - 1) (by omega) (by omega)
  by_cases h6 : b.f (s - 1) + 1 < b.n
  · have := h.lt (show b.f (s - 1) + 1 < b.f (s - 1) + 1 + 1 by omega) (by omega)
    exact (h.f_le (by omega) h2 h6).2 (by omega)
  · have := (h.f_spec (by omega) h2).1
    omega

theorem mem_ends {c : Cu} {x : Int} : x ∈ c.ends ↔ ∃ k, k ≤ c.n ∧ c.e k = x := by
  unfold Cu.ends
  simp only [List.mem_map, List.mem_range]
  constructor
  · rintro ⟨k, h1, h2⟩; exact ⟨k, by omega, h2⟩
  · rintro ⟨k, h1, h2⟩; exact ⟨k, by omega, h2⟩
theorem ends_sorted {c : Cu} (h : c.Ok) : c.ends.Pairwise (· < ·) := by
  unfold Cu.ends
  rw [List.pairwise_map]
  exact List.Pairwise.imp_of_mem (fun h1 h2 h3 => by
    simp only [List.mem_range] at h1 h2
    exact h.lt h3 (by omega)) (List.pairwise_lt_range)
theorem common_sorted (a b : Cu) : (common a b).Pairwise (· < ·) := by
  unfold common
  split
  · rename_i h
    exact List.Pairwise.filter _ (ends_sorted h.1)
  · exact List.Pairwise.nil
theorem mem_common {a b : Cu} (h : Both2 a b) {x : Int} : x ∈ common a b ↔ (∃ k, k ≤ a.n ∧ a.e k = x) ∧ ∃ k, k ≤ b.n ∧ b.e k = x := by
  unfold common
  rw [if_pos h, List.mem_filter, decide_eq_true_eq, mem_ends, mem_ends]
theorem common_len (a b : Cu) : (common a b).length ≤ a.n + 1 := by
  unfold common
  split
  · refine Nat.le_trans (List.length_filter_le _ _) ?_
    rw [a.ends_len]
    exact Nat.le_refl _
  · simp
theorem filter_lastG {p : Int → Bool} : ∀ (l : List Int) (x : Int), l.getLast? = some x → p x = true → (l.filter p).getLast? = some x := by
  intro l x h hp
  obtain ⟨l', rfl⟩ : ∃ l', l = l' ++ [x] := by
    rw [List.getLast?_eq_some_iff] at h
    exact h
  simp [hp]
theorem common_last {a b : Cu} (h : Both2 a b) : (common a b).getLast? = some a.total := by
  unfold common
  rw [if_pos h]
  refine filter_lastG _ _ ?_ ?_
  · rw [List.getLast?_eq_getElem?, a.ends_len, Nat.add_sub_cancel, a.ends_get a.n (by omega)]
    rfl
  · rw [decide_eq_true_eq, mem_ends]
    exact ⟨b.n, Nat.le_refl _, h.2.2.symm⟩
theorem common_first {a b : Cu} (h : Both2 a b) (he : a.pos = b.pos) : (common a b)[0]? = some a.pos := by
  unfold common
  rw [if_pos h]
  have : a.ends = a.pos :: a.ends.tail := by
    have h0 := a.ends_get 0 (by omega)
    rw [a.e_zero] at h0
    cases hl : a.ends with
    | nil => rw [hl] at h0; simp at h0
    | cons x l => rw [hl] at h0; simpa using h0
  rw [this, List.filter_cons, if_pos]
  · rfl
  · rw [decide_eq_true_eq, mem_ends]
    exact ⟨0, by omega, by rw [b.e_zero, he]⟩
end Fb.Try.AL
