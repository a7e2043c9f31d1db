/-
  Agendas: the plain law of heaps.
-/
import Derived.Test.YtnofndhlhbbhdaaVy
import Derived.Test.YtnofndhlhbbhdaaVn
namespace Fb.Try.QU
open Go Go.Proofs Fb
structure En where
  place : Int
  order : Int
  out : Int
def less (a b : En) : Prop := a.order < b.order ∨ a.order = b.order ∧ a.place < b.place
instance (a b : En) : Decidable (less a b) := by unfold less; infer_instance
theorem less_asymm {a b : En} (h : less a b) : ¬ less b a := by unfold less at *; omega
theorem less_trans {a b c : En} (h : ¬ less a b) (k : ¬ less b c) : ¬ less a c := by unfold less at *; omega
theorem less_lt {a b c : En} (h : ¬ less a b) (k : less c b) : ¬ less a c := less_trans h (less_asymm k)
theorem less_irrefl (a : En) : ¬ less a a := by unfold less; omega
theorem less_or {a b : En} (h : a.place ≠ b.place) : less a b ∨ less b a := by unfold less; omega

def par (i : Nat) : Nat := (i - 1) / 2
def hp (f : Nat → En) (n : Nat) : Prop := ∀ i, 0 < i → i < n → ¬ less (f i) (f (par i))
def hole (f : Nat → En) (n k : Nat) : Prop := (∀ i, 0 < i → i < n → i ≠ k → par i ≠ k → ¬ less (f i) (f (par i))) ∧ ∀ i, 0 < i → i < n → par i = k → 0 < k → ¬ less (f i) (f (par k))
def upI (f : Nat → En) (n j : Nat) : Prop := (∀ i, 0 < i → i < n → i ≠ j → ¬ less (f i) (f (par i))) ∧ ∀ i, 0 < i → i < n → par i = j → 0 < j → ¬ less (f i) (f (par j))
def downI (f : Nat → En) (n i0 i : Nat) : Prop := hole f n i ∧ (i ≠ i0 → 0 < i ∧ ¬ less (f i) (f (par i)))
def sw (f : Nat → En) (i j k : Nat) : En := if k = i then f j else if k = j then f i else f k
theorem sw_l (f : Nat → En) (i j : Nat) : sw f i j i = f j := by simp [sw]
theorem sw_r (f : Nat → En) (i j : Nat) : sw f i j j = f i := by
  unfold sw
  split
  · rename_i h; rw [h]
  · simp
theorem sw_n (f : Nat → En) {i j k : Nat} (h1 : k ≠ i) (h2 : k ≠ j) : sw f i j k = f k := by simp [sw, h1, h2]
theorem upI.step {f : Nat → En} {n j : Nat} (h : upI f n j) (hj : 0 < j) (hn : j < n) (hl : less (f j) (f (par j))) : upI (sw f (par j) j) n (par j) := by
  have hp : par j < j := by unfold par; omega
  refine ⟨fun k h0 hk hne => ?_, fun k h0 hk hpk hi => ?_⟩
  · by_cases hkj : k = j
    · subst hkj
      rw [sw_r, sw_l]
      exact less_asymm hl
    · rw [sw_n f hne hkj]
      by_cases hpi : par k = par j
      · rw [hpi, sw_l]
        have := h.1 k h0 hk hkj
        rw [hpi] at this
        exact less_lt this hl
      · by_cases hpj : par k = j
        · rw [hpj, sw_r]
          exact h.2 k h0 hk hpj hj
        · rw [sw_n f hpi hpj]
          exact h.1 k h0 hk hkj
  · have hpp : par (par j) < par j := by unfold par at *; omega
    rw [sw_n f (i := par j) (j := j) (k := par (par j)) (by omega) (by omega)]
    have h2 := h.1 (par j) hi (by omega) (by omega)
    by_cases hkj : k = j
    · subst hkj
      rw [sw_r]
      exact h2
    · have hkp : k ≠ par j := by intro e; unfold par at *; omega
      rw [sw_n f hkp hkj]
      have h3 := h.1 k h0 hk hkj
      rw [hpk] at h3
      exact less_trans h3 h2
theorem upI.done {f : Nat → En} {n j : Nat} (h : upI f n j) (hl : 0 < j → ¬ less (f j) (f (par j))) : hp f n := by
  intro i h0 hn
  by_cases hi : i = j
  · subst hi; exact hl h0
  · exact h.1 i h0 hn hi
/-- The lesser child. -/
theorem downI.step {f : Nat → En} {n i0 i j : Nat} (h : downI f n i0 i) (hj : par j = i) (h0 : 0 < j) (hn : j < n) (hmin : ∀ k, 0 < k → k < n → par k = i → ¬ less (f k) (f j)) (hl : less (f j) (f i)) (hii : i0 ≤ i) : downI (sw f i j) n i0 j ∧ i0 ≤ j ∧ i < j := by
  have hij : i < j := by unfold par at hj; omega
  refine ⟨⟨⟨fun k hk0 hk hkj hpk => ?_, fun k hk0 hk hpk _ => ?_⟩, fun _ => ⟨h0, ?_⟩⟩, by omega, hij⟩
  · by_cases hki : k = i
    · subst hki
      rw [sw_l]
      have hpp : par k < k := by unfold par; omega
      rw [sw_n f (by omega) (by omega)]
      exact h.1.2 j h0 hn hj hk0
    · rw [sw_n f hki hkj]
      by_cases hpi : par k = i
      · rw [hpi, sw_l]
        exact hmin k hk0 hk hpi
      · rw [sw_n f hpi hpk]
        exact h.1.1 k hk0 hk hki hpi
  · have hkj : k ≠ j := by intro e; unfold par at hpk; omega
    have hki : k ≠ i := by intro e; unfold par at hpk; omega
    rw [sw_n f hki hkj, hj, sw_l]
    have := h.1.1 k hk0 hk hki (by omega)
    rw [hpk] at this
    exact this
  · rw [sw_r, hj, sw_l]
    exact less_asymm hl
theorem downI.done {f : Nat → En} {n i0 i : Nat} (h : downI f n i0 i) (hc : ∀ k, 0 < k → k < n → par k = i → ¬ less (f k) (f i)) : (i ≠ i0 → hp f n) ∧ (i = i0 → upI f n i0) := by
  refine ⟨fun hne k h0 hn => ?_, fun he => ?_⟩
  · by_cases hk : k = i
    · subst hk; exact (h.2 hne).2
    · by_cases hp : par k = i
      · rw [hp]; exact hc k h0 hn hp
      · exact h.1.1 k h0 hn hk hp
  · subst he
    refine ⟨fun k h0 hn hk => ?_, h.1.2⟩
    by_cases hp : par k = i
    · rw [hp]; exact hc k h0 hn hp
    · exact h.1.1 k h0 hn hk hp
/-- One is written anew. -/
theorem hole_of {f g : Nat → En} {n m k : Nat} (h : hp f n) (hm : m ≤ n) (hg : ∀ i, i < m → i ≠ k → g i = f i) (hk : k < m) : downI g m k k := by
  refine ⟨⟨fun i h0 hi hik hpk => ?_, fun i h0 hi hpi hk0 => ?_⟩, fun hne => absurd rfl hne⟩
  · have : par i < i := by unfold par; omega
    rw [hg i hi hik, hg (par i) (by omega) hpk]
    exact h i h0 (by omega)
  · have h1 : par k < k := by unfold par; omega
    have h2 : k < i := by unfold par at hpi; omega
    rw [hg i hi (by omega), hg (par k) (by omega) (by omega)]
    have h3 := h i h0 (by omega)
    rw [hpi] at h3
    exact less_trans h3 (h k hk0 (by omega))
theorem hp.least {f : Nat → En} {n : Nat} (h : hp f n) : ∀ i, i < n → ¬ less (f i) (f 0) := by
  intro i
  induction i using Nat.strongRecOn with
  | ind i ih =>
    intro hi
    by_cases h0 : i = 0
    · subst h0; exact less_irrefl _
    · have hp : par i < i := by unfold par; omega
      exact less_trans (h i (by omega) hi) (ih (par i) hp (by omega))

/-! ### Rows -/
def gt (l : List En) (i : Nat) : En := (l[i]?).getD ⟨0, 0, 0⟩
theorem gt_get {l : List En} {i : Nat} (h : i < l.length) : l[i]? = some (gt l i) := by
  unfold gt
  rw [List.getElem?_eq_getElem h]
  rfl
theorem gt_set {l : List En} {i : Nat} (e : En) (h : i < l.length) (k : Nat) : gt (l.set i e) k = if k = i then e else gt l k := by
  unfold gt
  rw [List.getElem?_set]
  by_cases hk : i = k
  · subst hk
    simp [h]
  · rw [if_neg hk, if_neg (fun e => hk e.symm)]
theorem gt_app {l : List En} (e : En) (k : Nat) : gt (l ++ [e]) k = if k < l.length then gt l k else if k = l.length then e else ⟨0, 0, 0⟩ := by
  unfold gt
  rw [List.getElem?_append]
  split
  · rfl
  · split
    · rename_i h; subst h; simp
    · rename_i h1 h2
      rw [List.getElem?_eq_none (by simp; omega)]
      rfl
theorem gt_take {l : List En} {n k : Nat} (h : k < n) : gt (l.take n) k = gt l k := by
  unfold gt
  rw [List.getElem?_take_of_lt h]
def swL (l : List En) (i j : Nat) : List En := (l.set i (gt l j)).set j (gt l i)
theorem swL_len (l : List En) (i j : Nat) : (swL l i j).length = l.length := by simp [swL]
theorem gt_swL {l : List En} {i j : Nat} (hi : i < l.length) (hj : j < l.length) (k : Nat) : gt (swL l i j) k = sw (gt l) i j k := by
  unfold swL
  rw [gt_set _ (by simpa using hj), gt_set _ hi]
  unfold sw
  by_cases h1 : k = j
  · subst h1
    by_cases h2 : k = i
    · subst h2; simp
    · simp [h2]
  · simp [h1]
/-- The places are distinct. -/
def Dist (l : List En) : Prop := ∀ i j, i < l.length → j < l.length → (gt l i).place = (gt l j).place → i = j
def pos (l : List En) (p : Int) : Option Nat := l.findIdx? (fun e => e.place == p)
theorem pos_some {l : List En} {p : Int} {i : Nat} (h : pos l p = some i) : i < l.length ∧ (gt l i).place = p := by
  unfold pos at h
  rw [List.findIdx?_eq_some_iff_getElem] at h
  obtain ⟨h1, h2, _⟩ := h
  refine ⟨h1, ?_⟩
  unfold gt
  rw [List.getElem?_eq_getElem h1]
  simpa using h2
theorem pos_none {l : List En} {p : Int} (h : pos l p = none) : ∀ i, i < l.length → (gt l i).place ≠ p := by
  unfold pos at h
  rw [List.findIdx?_eq_none_iff] at h
  intro i hi he
  have := h l[i] (List.getElem_mem _)
  unfold gt at he
  rw [List.getElem?_eq_getElem hi] at he
  simp at he this
  exact this he
theorem pos_iff {l : List En} (hd : Dist l) {p : Int} {i : Nat} : pos l p = some i ↔ i < l.length ∧ (gt l i).place = p := by
  refine ⟨pos_some, fun ⟨h1, h2⟩ => ?_⟩
  cases hp : pos l p with
  | none => exact absurd h2 (pos_none hp i h1)
  | some j =>
    obtain ⟨h3, h4⟩ := pos_some hp
    rw [hd i j h1 h3 (by rw [h2, h4])]
theorem swL_dist {l : List En} (hd : Dist l) {i j : Nat} (hi : i < l.length) (hj : j < l.length) : Dist (swL l i j) := by
  intro a b ha hb he
  rw [swL_len] at ha hb
  rw [gt_swL hi hj, gt_swL hi hj] at he
  unfold sw at he
  have k1 := hd i j hi hj
  have k2 := hd a b ha hb
  have k3 := hd j b hj hb
  have k4 := hd i b hi hb
  have k5 := hd a i ha hi
  have k6 := hd a j ha hj
  have k7 := hd j i hj hi
  split at he
  · split at he
    · omega
    · split at he
      · have := k7 he; omega
      · have := k3 he; omega
  · split at he
    · split at he
      · have := k1 he; omega
      · split at he
        · omega
        · have := k4 he; omega
    · split at he
      · have := k6 he; omega
      · split at he
        · have := k5 he; omega
        · exact k2 he
/-- What a map of places holds. -/
def idx (l : List En) : Value → Option Value
  | .int .i64 p => (pos l p).map fun i => .int .i64 (i : Int)
  | _ => none
theorem idx_key {l : List En} {v : Value} (h : idx l v ≠ none) : v ∈ l.map fun e => Value.int .i64 e.place := by
  unfold idx at h
  split at h
  · rename_i p
    cases hp : pos l p with
    | none => rw [hp] at h; exact absurd rfl h
    | some i =>
      obtain ⟨h1, h2⟩ := pos_some hp
      refine List.mem_map.2 ⟨gt l i, List.mem_of_getElem? (gt_get h1), by rw [h2]⟩
  · exact absurd rfl h
theorem idx_ext {l : List En} {f : Value → Option Value} (h1 : ∀ p, f (.int .i64 p) = idx l (.int .i64 p)) (h2 : ∀ v, (∀ p, v ≠ .int .i64 p) → f v = none) : f = idx l := by
  funext v
  by_cases h : ∃ p, v = .int .i64 p
  · obtain ⟨p, rfl⟩ := h
    exact h1 p
  · rw [h2 v fun p e => h ⟨p, e⟩]
    unfold idx
    split
    · rename_i p; exact absurd ⟨p, rfl⟩ h
    · rfl
theorem idx_out {l : List En} {v : Value} (h : ∀ p, v ≠ .int .i64 p) : idx l v = none := by
  unfold idx
  split
  · rename_i p; exact absurd rfl (h p)
  · rfl
theorem opt_ext {a b : Option Nat} (h : ∀ i, a = some i ↔ b = some i) : a = b := by
  cases a with
  | none =>
    cases b with
    | none => rfl
    | some j => exact absurd ((h j).2 rfl) (by simp)
  | some i => exact ((h i).1 rfl).symm
theorem key_inj {p q : Int} : (Value.int .i64 p = .int .i64 q) ↔ p = q := by
  constructor
  · intro h; cases h; rfl
  · intro h; rw [h]
theorem upd_int (f : Value → Option Value) (p q : Int) (o : Option Value) : upd f (.int .i64 q) o (.int .i64 p) = if p = q then o else f (.int .i64 p) := by
  by_cases h : p = q
  · subst h; rw [upd_same, if_pos rfl]
  · rw [upd_ne _ _ (fun e => h (key_inj.1 e)), if_neg h]
theorem upd_out (f : Value → Option Value) {v : Value} (q : Int) (o : Option Value) (h : ∀ p, v ≠ .int .i64 p) : upd f (.int .i64 q) o v = f v := upd_ne _ _ (h q)
theorem idx_swap {l : List En} (hd : Dist l) {i j : Nat} (hi : i < l.length) (hj : j < l.length) : upd (upd (idx l) (.int .i64 (gt l j).place) (some (.int .i64 (i : Int)))) (.int .i64 (gt l i).place) (some (.int .i64 (j : Int))) = idx (swL l i j) := by
  have hd' := swL_dist hd hi hj
  refine idx_ext (fun p => ?_) fun v hv => by rw [upd_out _ _ _ hv, upd_out _ _ _ hv, idx_out hv]
  rw [upd_int, upd_int]
  have key : ∀ k, k < l.length → (gt (swL l i j) k).place = p → idx (swL l i j) (.int .i64 p) = some (.int .i64 (k : Int)) := fun k hk he => by
    have := (pos_iff hd').2 ⟨by rw [swL_len]; exact hk, he⟩
    simp [idx, this]
  by_cases h1 : p = (gt l i).place
  · rw [if_pos h1, key j hj (by rw [gt_swL hi hj, sw_r, h1])]
  · rw [if_neg h1]
    by_cases h2 : p = (gt l j).place
    · rw [if_pos h2, key i hi (by rw [gt_swL hi hj, sw_l, h2])]
    · rw [if_neg h2]
      have : pos l p = pos (swL l i j) p := opt_ext fun k => by
        rw [pos_iff hd, pos_iff hd', swL_len, gt_swL hi hj]
        by_cases hki : k = i
        · subst hki
          rw [sw_l]
          exact ⟨fun h => absurd h.2.symm h1, fun h => absurd h.2.symm h2⟩
        · by_cases hkj : k = j
          · subst hkj
            rw [sw_r]
            exact ⟨fun h => absurd h.2.symm h2, fun h => absurd h.2.symm h1⟩
          · rw [sw_n _ hki hkj]
      simp [idx, this]
theorem app_dist {l : List En} (hd : Dist l) {e : En} (h : pos l e.place = none) : Dist (l ++ [e]) := by
  intro i j hi hj he
  simp at hi hj
  rw [gt_app, gt_app] at he
  have hn := pos_none h
  split at he
  · split at he
    · exact hd i j (by omega) (by omega) he
    · rw [if_pos (by omega)] at he
      exact absurd he (hn i (by omega))
  · rw [if_pos (show i = l.length by omega)] at he
    split at he
    · exact absurd he.symm (hn j (by omega))
    · omega
theorem idx_app {l : List En} (hd : Dist l) {e : En} (h : pos l e.place = none) : upd (idx l) (.int .i64 e.place) (some (.int .i64 (l.length : Int))) = idx (l ++ [e]) := by
  have hd' := app_dist hd h
  refine idx_ext (fun p => ?_) fun v hv => by rw [upd_out _ _ _ hv, idx_out hv]
  rw [upd_int]
  have hlen : (l ++ [e]).length = l.length + 1 := by simp
  by_cases h1 : p = e.place
  · have := (pos_iff hd' (p := p) (i := l.length)).2 ⟨by omega, by rw [gt_app, if_neg (by omega), if_pos rfl, h1]⟩
    rw [if_pos h1]
    simp [idx, this]
  · rw [if_neg h1]
    have : pos l p = pos (l ++ [e]) p := opt_ext fun k => by
      rw [pos_iff hd, pos_iff hd', hlen, gt_app]
      constructor
      · rintro ⟨h2, h3⟩
        exact ⟨by omega, by rw [if_pos h2]; exact h3⟩
      · rintro ⟨h2, h3⟩
        by_cases hk : k < l.length
        · rw [if_pos hk] at h3; exact ⟨hk, h3⟩
        · rw [if_neg hk, if_pos (by omega)] at h3
          exact absurd h3.symm h1
    simp [idx, this]
theorem take_dist {l : List En} (hd : Dist l) (n : Nat) : Dist (l.take n) := by
  intro i j hi hj he
  rw [List.length_take] at hi hj
  rw [gt_take (n := n) (k := i) (by omega), gt_take (n := n) (k := j) (by omega)] at he
  exact hd i j (by omega) (by omega) he
theorem idx_pop {l : List En} (hd : Dist l) (h0 : 0 < l.length) : upd (idx l) (.int .i64 (gt l (l.length - 1)).place) none = idx (l.take (l.length - 1)) := by
  have hd' := take_dist hd (l.length - 1)
  have hlen : (l.take (l.length - 1)).length = l.length - 1 := by simp
  refine idx_ext (fun p => ?_) fun v hv => by rw [upd_out _ _ _ hv, idx_out hv]
  rw [upd_int]
  by_cases h1 : p = (gt l (l.length - 1)).place
  · rw [if_pos h1]
    have : pos (l.take (l.length - 1)) p = none := by
      cases hp : pos (l.take (l.length - 1)) p with
      | none => rfl
      | some k =>
        obtain ⟨h2, h3⟩ := pos_some hp
        rw [hlen] at h2
        rw [gt_take h2, h1] at h3
        have := hd k (l.length - 1) (by omega) (by omega) h3
        omega
    simp [idx, this]
  · rw [if_neg h1]
    have : pos l p = pos (l.take (l.length - 1)) p := opt_ext fun k => by
      rw [pos_iff hd, pos_iff hd', hlen]
      constructor
      · rintro ⟨h2, h3⟩
        have : k ≠ l.length - 1 := fun e => by subst e; exact h1 h3.symm
        exact ⟨by omega, by rw [gt_take (by omega)]; exact h3⟩
      · rintro ⟨h2, h3⟩
        rw [gt_take h2] at h3
        exact ⟨by omega, h3⟩
    simp [idx, this]
theorem set_dist {l : List En} (hd : Dist l) {i : Nat} (hi : i < l.length) {e : En} (he : e.place = (gt l i).place) : Dist (l.set i e) := by
  have key : ∀ k, (gt (l.set i e) k).place = (gt l k).place := fun k => by
    rw [gt_set e hi]
    split
    · rename_i h; rw [h, he]
    · rfl
  intro a b ha hb hab
  simp at ha hb
  rw [key, key] at hab
  exact hd a b ha hb hab
theorem idx_set {l : List En} (hd : Dist l) {i : Nat} (hi : i < l.length) {e : En} (he : e.place = (gt l i).place) : idx (l.set i e) = idx l := by
  refine (idx_ext (fun p => ?_) fun v hv => by rw [idx_out hv]).symm
  have : pos l p = pos (l.set i e) p := opt_ext fun k => by
    rw [pos_iff hd, pos_iff (set_dist hd hi he), List.length_set, gt_set e hi]
    split
    · rename_i h; rw [h, he]
    · exact Iff.rfl
  simp [idx, this]
end Fb.Try.QU
