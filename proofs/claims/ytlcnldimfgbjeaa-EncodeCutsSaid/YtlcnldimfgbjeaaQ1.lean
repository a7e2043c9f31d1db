/-
  Texts of ours in one file.
-/
import Derived.Test.YtlcnldimfgbjeaaB3
import Derived.Test.YtlcnldimfgbjeaaB2
/-
  Agendas: the plain law of heaps.
-/
namespace Fb.Try.QU
open Go Go.Proofs Fb
structure En where
  place : Int
  order : Int
  out : Int
def less (a b : En) : Prop := a.order < b.order ∨ a.order = b.order ∧ a.place < b.place
instance (a b : En) : Decidable (less a b) := by unfold less; infer_instance
theorem less_asymm {a b : En} (h : less a b) : ¬ less b a := by unfold less at *; omega
theorem less_trans {a b c : En} (h : ¬ less a b) (k : ¬ less b c) : ¬ less a c := by unfold less at *; omega
theorem less_lt {a b c : En} (h : ¬ less a b) (k : less c b) : ¬ less a c := less_trans h (less_asymm k)
theorem less_irrefl (a : En) : ¬ less a a := by unfold less; omega
theorem less_or {a b : En} (h : a.place ≠ b.place) : less a b ∨ less b a := by unfold less; omega

def par (i : Nat) : Nat := (i - 1) / 2
def hp (f : Nat → En) (n : Nat) : Prop := ∀ i, 0 < i → i < n → ¬ less (f i) (f (par i))
def hole (f : Nat → En) (n k : Nat) : Prop := (∀ i, 0 < i → i < n → i ≠ k → par i ≠ k → ¬ less (f i) (f (par i))) ∧ ∀ i, 0 < i → i < n → par i = k → 0 < k → ¬ less (f i) (f (par k))
def upI (f : Nat → En) (n j : Nat) : Prop := (∀ i, 0 < i → i < n → i ≠ j → ¬ less (f i) (f (par i))) ∧ ∀ i, 0 < i → i < n → par i = j → 0 < j → ¬ less (f i) (f (par j))
def downI (f : Nat → En) (n i0 i : Nat) : Prop := hole f n i ∧ (i ≠ i0 → 0 < i ∧ ¬ less (f i) (f (par i)))
def sw (f : Nat → En) (i j k : Nat) : En := if k = i then f j else if k = j then f i else f k
theorem sw_l (f : Nat → En) (i j : Nat) : sw f i j i = f j := by simp [sw]
theorem sw_r (f : Nat → En) (i j : Nat) : sw f i j j = f i := by
  unfold sw
  split
  · rename_i h; rw [h]
  · simp
theorem sw_n (f : Nat → En) {i j k : Nat} (h1 : k ≠ i) (h2 : k ≠ j) : sw f i j k = f k := by simp [sw, h1, h2]
theorem upI.step {f : Nat → En} {n j : Nat} (h : upI f n j) (hj : 0 < j) (hn : j < n) (hl : less (f j) (f (par j))) : upI (sw f (par j) j) n (par j) := by
  have hp : par j < j := by unfold par; omega
  refine ⟨fun k h0 hk hne => ?_, fun k h0 hk hpk hi => ?_⟩
  · by_cases hkj : k = j
    · subst hkj
      rw [sw_r, sw_l]
      exact less_asymm hl
    · rw [sw_n f hne hkj]
      by_cases hpi : par k = par j
      · rw [hpi, sw_l]
        have := h.1 k h0 hk hkj
        rw [hpi] at this
        exact less_lt this hl
      · by_cases hpj : par k = j
        · rw [hpj, sw_r]
          exact h.2 k h0 hk hpj hj
        · rw [sw_n f hpi hpj]
          exact h.1 k h0 hk hkj
  · have hpp : par (par j) < par j := by unfold par at *; omega
    rw [sw_n f (i := par j) (j := j) (k := par (par j)) (by omega) (by omega)]
    have h2 := h.1 (par j) hi (by omega) (by omega)
    by_cases hkj : k = j
    · subst hkj
      rw [sw_r]
      exact h2
    · have hkp : k ≠ par j := by intro e; unfold par at *; omega
      rw [sw_n f hkp hkj]
      have h3 := h.1 k h0 hk hkj
      rw [hpk] at h3
      exact less_trans h3 h2
theorem upI.done {f : Nat → En} {n j : Nat} (h : upI f n j) (hl : 0 < j → ¬ less (f j) (f (par j))) : hp f n := by
  intro i h0 hn
  by_cases hi : i = j
  · subst hi; exact hl h0
  · exact h.1 i h0 hn hi
/-- The lesser child. -/
theorem downI.step {f : Nat → En} {n i0 i j : Nat} (h : downI f n i0 i) (hj : par j = i) (h0 : 0 < j) (hn : j < n) (hmin : ∀ k, 0 < k → k < n → par k = i → ¬ less (f k) (f j)) (hl : less (f j) (f i)) (hii : i0 ≤ i) : downI (sw f i j) n i0 j ∧ i0 ≤ j ∧ i < j := by
  have hij : i < j := by unfold par at hj; omega
  refine ⟨⟨⟨fun k hk0 hk hkj hpk => ?_, fun k hk0 hk hpk _ => ?_⟩, fun _ => ⟨h0, ?_⟩⟩, by omega, hij⟩
  · by_cases hki : k = i
    · subst hki
      rw [sw_l]
      have hpp : par k < k := by unfold par; omega
      rw [sw_n f (by omega) (by omega)]
      exact h.1.2 j h0 hn hj hk0
    · rw [sw_n f hki hkj]
      by_cases hpi : par k = i
      · rw [hpi, sw_l]
        exact hmin k hk0 hk hpi
      · rw [sw_n f hpi hpk]
        exact h.1.1 k hk0 hk hki hpi
  · have hkj : k ≠ j := by intro e; unfold par at hpk; omega
    have hki : k ≠ i := by intro e; unfold par at hpk; omega
    rw [sw_n f hki hkj, hj, sw_l]
    have := h.1.1 k hk0 hk hki (by omega)
    rw [hpk] at this
    exact this
  · rw [sw_r, hj, sw_l]
    exact less_asymm hl
theorem downI.done {f : Nat → En} {n i0 i : Nat} (h : downI f n i0 i) (hc : ∀ k, 0 < k → k < n → par k = i → ¬ less (f k) (f i)) : (i ≠ i0 → hp f n) ∧ (i = i0 → upI f n i0) := by
  refine ⟨fun hne k h0 hn => ?_, fun he => ?_⟩
  · by_cases hk : k = i
    · subst hk; exact (h.2 hne).2
    · by_cases hp : par k = i
      · rw [hp]; exact hc k h0 hn hp
      · exact h.1.1 k h0 hn hk hp
  · subst he
    refine ⟨fun k h0 hn hk => ?_, h.1.2⟩
    by_cases hp : par k = i
    · rw [hp]; exact hc k h0 hn hp
    · exact h.1.1 k h0 hn hk hp
/-- One is written anew. -/
theorem hole_of {f g : Nat → En} {n m k : Nat} (h : hp f n) (hm : m ≤ n) (hg : ∀ i, i < m → i ≠ k → g i = f i) (hk : k < m) : downI g m k k := by
  refine ⟨⟨fun i h0 hi hik hpk => ?_, fun i h0 hi hpi hk0 => ?_⟩, fun hne => absurd rfl hne⟩
  · have : par i < i := by unfold par; omega
    rw [hg i hi hik, hg (par i) (by omega) hpk]
    exact h i h0 (by omega)
  · have h1 : par k < k := by unfold par; omega
    have h2 : k < i := by unfold par at hpi; omega
    rw [hg i hi (by omega), hg (par k) (by omega) (by omega)]
    have h3 := h i h0 (by omega)
    rw [hpi] at h3
    exact less_trans h3 (h k hk0 (by omega))
theorem hp.least {f : Nat → En} {n : Nat} (h : hp f n) : ∀ i, i < n → ¬ less (f i) (f 0) := by
  intro i
  induction i using Nat.strongRecOn with
  | ind i ih =>
    intro hi
    by_cases h0 : i = 0
    · subst h0; exact less_irrefl _
    · have hp : par i < i := by unfold par; omega
      exact less_trans (h i (by omega) hi) (ih (par i) hp (by omega))

/-! ### Rows -/
def gt (l : List En) (i : Nat) : En := (l[i]?).getD ⟨0, 0, 0⟩
theorem gt_get {l : List En} {i : Nat} (h : i < l.length) : l[i]? = some (gt l i) := by
  unfold gt
  rw [List.getElem?_eq_getElem h]
  rfl
theorem gt_set {l : List En} {i : Nat} (e : En) (h : i < l.length) (k : Nat) : gt (l.set i e) k = if k = i then e else gt l k := by
  unfold gt
  rw [List.getElem?_set]
  by_cases hk : i = k
  · subst hk
    simp [h]
  · rw [if_neg hk, if_neg (fun e => hk e.symm)]
theorem gt_app {l : List En} (e : En) (k : Nat) : gt (l ++ [e]) k = if k < l.length then gt l k else if k = l.length then e else ⟨0, 0, 0⟩ := by
  unfold gt
  rw [List.getElem?_append]
  split
  · rfl
  · split
    · rename_i h; subst h; simp
    · rename_i h1 h2
      rw [List.getElem?_eq_none (by simp; omega)]
      rfl
theorem gt_take {l : List En} {n k : Nat} (h : k < n) : gt (l.take n) k = gt l k := by
  unfold gt
  rw [List.getElem?_take_of_lt h]
def swL (l : List En) (i j : Nat) : List En := (l.set i (gt l j)).set j (gt l i)
theorem swL_len (l : List En) (i j : Nat) : (swL l i j).length = l.length := by simp [swL]
theorem gt_swL {l : List En} {i j : Nat} (hi : i < l.length) (hj : j < l.length) (k : Nat) : gt (swL l i j) k = sw (gt l) i j k := by
  unfold swL
  rw [gt_set _ (by simpa using hj), gt_set _ hi]
  unfold sw
  by_cases h1 : k = j
  · subst h1
    by_cases h2 : k = i
    · subst h2; simp
    · simp [h2]
  · simp [h1]
/-- The places are distinct. -/
def Dist (l : List En) : Prop := ∀ i j, i < l.length → j < l.length → (gt l i).place = (gt l j).place → i = j
def pos (l : List En) (p : Int) : Option Nat := l.findIdx? (fun e => e.place == p)
theorem pos_some {l : List En} {p : Int} {i : Nat} (h : pos l p = some i) : i < l.length ∧ (gt l i).place = p := by
  unfold pos at h
  rw [List.findIdx?_eq_some_iff_getElem] at h
  obtain ⟨h1, h2, _⟩ := h
  refine ⟨h1, ?_⟩
  unfold gt
  rw [List.getElem?_eq_getElem h1]
  simpa using h2
theorem pos_none {l : List En} {p : Int} (h : pos l p = none) : ∀ i, i < l.length → (gt l i).place ≠ p := by
  unfold pos at h
  rw [List.findIdx?_eq_none_iff] at h
  intro i hi he
  have := h l[i] (List.getElem_mem _)
  unfold gt at he
  rw [List.getElem?_eq_getElem hi] at he
  simp at he this
  exact this he
theorem pos_iff {l : List En} (hd : Dist l) {p : Int} {i : Nat} : pos l p = some i ↔ i < l.length ∧ (gt l i).place = p := by
  refine ⟨pos_some, fun ⟨h1, h2⟩ => ?_⟩
  cases hp : pos l p with
  | none => exact absurd h2 (pos_none hp i h1)
  | some j =>
    obtain ⟨h3, h4⟩ := pos_some hp
    rw [hd i j h1 h3 (by rw [h2, h4])]
theorem swL_dist {l : List En} (hd : Dist l) {i j : Nat} (hi : i < l.length) (hj : j < l.length) : Dist (swL l i j) := by
  intro a b ha hb he
  rw [swL_len] at ha hb
  rw [gt_swL hi hj, gt_swL hi hj] at he
  unfold sw at he
  have k1 := hd i j hi hj
  have k2 := hd a b ha hb
  have k3 := hd j b hj hb
  have k4 := hd i b hi hb
  have k5 := hd a i ha hi
  have k6 := hd a j ha hj
  have k7 := hd j i hj hi
  split at he
  · split at he
    · omega
    · split at he
      · have := k7 he; omega
      · have := k3 he; omega
  · split at he
    · split at he
      · have := k1 he; omega
      · split at he
        · omega
        · have := k4 he; omega
    · split at he
      · have := k6 he; omega
      · split at he
        · have := k5 he; omega
        · exact k2 he
/-- What a map of places holds. -/
def idx (l : List En) : Value → Option Value
  | .int .i64 p => (pos l p).map fun i => .int .i64 (i : Int)
  | _ => none
theorem idx_key {l : List En} {v : Value} (h : idx l v ≠ none) : v ∈ l.map fun e => Value.int .i64 e.place := by
  unfold idx at h
  split at h
  · rename_i p
    cases hp : pos l p with
    | none => rw [hp] at h; exact absurd rfl h
    | some i =>
      obtain ⟨h1, h2⟩ := pos_some hp
      refine List.mem_map.2 ⟨gt l i, List.mem_of_getElem? (gt_get h1), by rw [h2]⟩
  · exact absurd rfl h
theorem idx_ext {l : List En} {f : Value → Option Value} (h1 : ∀ p, f (.int .i64 p) = idx l (.int .i64 p)) (h2 : ∀ v, (∀ p, v ≠ .int .i64 p) → f v = none) : f = idx l := by
  funext v
  by_cases h : ∃ p, v = .int .i64 p
  · obtain ⟨p, rfl⟩ := h
    exact h1 p
  · rw [h2 v fun p e => h ⟨p, e⟩]
    unfold idx
    split
    · rename_i p; exact absurd ⟨p, rfl⟩ h
    · rfl
theorem idx_out {l : List En} {v : Value} (h : ∀ p, v ≠ .int .i64 p) : idx l v = none := by
  unfold idx
  split
  · rename_i p; exact absurd rfl (h p)
  · rfl
theorem opt_ext {a b : Option Nat} (h : ∀ i, a = some i ↔ b = some i) : a = b := by
  cases a with
  | none =>
    cases b with
    | none => rfl
    | some j => exact absurd ((h j).2 rfl) (by simp)
  | some i => exact ((h i).1 rfl).symm
theorem key_inj {p q : Int} : (Value.int .i64 p = .int .i64 q) ↔ p = q := by
  constructor
  · intro h; cases h; rfl
  · intro h; rw [h]
theorem upd_int (f : Value → Option Value) (p q : Int) (o : Option Value) : upd f (.int .i64 q) o (.int .i64 p) = if p = q then o else f (.int .i64 p) := by
  by_cases h : p = q
  · subst h; rw [upd_same, if_pos rfl]
  · rw [upd_ne _ _ (fun e => h (key_inj.1 e)), if_neg h]
theorem upd_out (f : Value → Option Value) {v : Value} (q : Int) (o : Option Value) (h : ∀ p, v ≠ .int .i64 p) : upd f (.int .i64 q) o v = f v := upd_ne _ _ (h q)
theorem idx_swap {l : List En} (hd : Dist l) {i j : Nat} (hi : i < l.length) (hj : j < l.length) : upd (upd (idx l) (.int .i64 (gt l j).place) (some (.int .i64 (i : Int)))) (.int .i64 (gt l i).place) (some (.int .i64 (j : Int))) = idx (swL l i j) := by
  have hd' := swL_dist hd hi hj
  refine idx_ext (fun p => ?_) fun v hv => by rw [upd_out _ _ _ hv, upd_out _ _ _ hv, idx_out hv]
  rw [upd_int, upd_int]
  have key : ∀ k, k < l.length → (gt (swL l i j) k).place = p → idx (swL l i j) (.int .i64 p) = some (.int .i64 (k : Int)) := fun k hk he => by
    have := (pos_iff hd').2 ⟨by rw [swL_len]; exact hk, he⟩
    simp [idx, this]
  by_cases h1 : p = (gt l i).place
  · rw [if_pos h1, key j hj (by rw [gt_swL hi hj, sw_r, h1])]
  · rw [if_neg h1]
    by_cases h2 : p = (gt l j).place
    · rw [if_pos h2, key i hi (by rw [gt_swL hi hj, sw_l, h2])]
    · rw [if_neg h2]
      have : pos l p = pos (swL l i j) p := opt_ext fun k => by
        rw [pos_iff hd, pos_iff hd', swL_len, gt_swL hi hj]
        by_cases hki : k = i
        · subst hki
          rw [sw_l]
          exact ⟨fun h => absurd h.2.symm h1, fun h => absurd h.2.symm h2⟩
        · by_cases hkj : k = j
          · subst hkj
            rw [sw_r]
            exact ⟨fun h => absurd h.2.symm h2, fun h => absurd h.2.symm h1⟩
          · rw [sw_n _ hki hkj]
      simp [idx, this]
theorem app_dist {l : List En} (hd : Dist l) {e : En} (h : pos l e.place = none) : Dist (l ++ [e]) := by
  intro i j hi hj he
  simp at hi hj
  rw [gt_app, gt_app] at he
  have hn := pos_none h
  split at he
  · split at he
    · exact hd i j (by omega) (by omega) he
    · rw [if_pos (by omega)] at he
      exact absurd he (hn i (by omega))
  · rw [if_pos (show i = l.length by omega)] at he
    split at he
    · exact absurd he.symm (hn j (by omega))
    · omega
theorem idx_app {l : List En} (hd : Dist l) {e : En} (h : pos l e.place = none) : upd (idx l) (.int .i64 e.place) (some (.int .i64 (l.length : Int))) = idx (l ++ [e]) := by
  have hd' := app_dist hd h
  refine idx_ext (fun p => ?_) fun v hv => by rw [upd_out _ _ _ hv, idx_out hv]
  rw [upd_int]
  have hlen : (l ++ [e]).length = l.length + 1 := by simp
  by_cases h1 : p = e.place
  · have := (pos_iff hd' (p := p) (i := l.length)).2 ⟨by omega, by rw [gt_app, if_neg (by omega), if_pos rfl, h1]⟩
    rw [if_pos h1]
    simp [idx, this]
  · rw [if_neg h1]
    have : pos l p = pos (l ++ [e]) p := opt_ext fun k => by
      rw [pos_iff hd, pos_iff hd', hlen, gt_app]
      constructor
      · rintro ⟨h2, h3⟩
        exact ⟨by omega, by rw [if_pos h2]; exact h3⟩
      · rintro ⟨h2, h3⟩
        by_cases hk : k < l.length
        · rw [if_pos hk] at h3; exact ⟨hk, h3⟩
        · rw [if_neg hk, if_pos (by omega)] at h3
          exact absurd h3.symm h1
    simp [idx, this]
theorem take_dist {l : List En} (hd : Dist l) (n : Nat) : Dist (l.take n) := by
  intro i j hi hj he
  rw [List.length_take] at hi hj
  rw [gt_take (n := n) (k := i) (by omega), gt_take (n := n) (k := j) (by omega)] at he
  exact hd i j (by omega) (by omega) he
theorem idx_pop {l : List En} (hd : Dist l) (h0 : 0 < l.length) : upd (idx l) (.int .i64 (gt l (l.length - 1)).place) none = idx (l.take (l.length - 1)) := by
  have hd' := take_dist hd (l.length - 1)
  have hlen : (l.take (l.length - 1)).length = l.length - 1 := by simp
  refine idx_ext (fun p => ?_) fun v hv => by rw [upd_out _ _ _ hv, idx_out hv]
  rw [upd_int]
  by_cases h1 : p = (gt l (l.length - 1)).place
  · rw [if_pos h1]
    have : pos (l.take (l.length - 1)) p = none := by
      cases hp : pos (l.take (l.length - 1)) p with
      | none => rfl
      | some k =>
        obtain ⟨h2, h3⟩ := pos_some hp
        rw [hlen] at h2
        rw [gt_take h2, h1] at h3
        have := hd k (l.length - 1) (by omega) (by omega) h3
        omega
    simp [idx, this]
  · rw [if_neg h1]
    have : pos l p = pos (l.take (l.length - 1)) p := opt_ext fun k => by
      rw [pos_iff hd, pos_iff hd', hlen]
      constructor
      · rintro ⟨h2, h3⟩
        have : k ≠ l.length - 1 := fun e => by subst e; exact h1 h3.symm
        exact ⟨by omega, by rw [gt_take (by omega)]; exact h3⟩
      · rintro ⟨h2, h3⟩
        rw [gt_take h2] at h3
        exact ⟨by omega, h3⟩
    simp [idx, this]
theorem set_dist {l : List En} (hd : Dist l) {i : Nat} (hi : i < l.length) {e : En} (he : e.place = (gt l i).place) : Dist (l.set i e) := by
  have key : ∀ k, (gt (l.set i e) k).place = (gt l k).place := fun k => by
    rw [gt_set e hi]
    split
    · rename_i h; rw [h, he]
    · rfl
  intro a b ha hb hab
  simp at ha hb
  rw [key, key] at hab
  exact hd a b ha hb hab
theorem idx_set {l : List En} (hd : Dist l) {i : Nat} (hi : i < l.length) {e : En} (he : e.place = (gt l i).place) : idx (l.set i e) = idx l := by
  refine (idx_ext (fun p => ?_) fun v hv => by rw [idx_out hv]).symm
  have : pos l p = pos (l.set i e) p := opt_ext fun k => by
    rw [pos_iff hd, pos_iff (set_dist hd hi he), List.length_set, gt_set e hi]
    split
    · rename_i h; rw [h, he]
    · exact Iff.rfl
  simp [idx, this]
end Fb.Try.QU

/-
  Walks: the heap's own methods.
-/
namespace Fb
open Go Go.Proofs
theorem r_ldnbS' {S : Nat → Prop} {w : World} {b o n : Nat} {e : TypeId} {cs vs : List Value} {K : Value → Prop} (h : Blk w b e cs) (hv : (cs.drop o).take n = vs) (hl : vs.length = n) (hs : ¬ S b) (k : K (.agg ⟨vs⟩)) : LoadN ⟨b, o, none⟩ n (Chg S w) K :=
  r_ldn vs hl (fun w' hw i v hi => by
    rw [Addr.add_plain, (h.keep hw hs).cell]
    rw [← hv, List.getElem?_take] at hi
    split at hi
    · rwa [List.getElem?_drop] at hi
    · cases hi) k
theorem Blk.ne {w : World} {a b : Nat} {t t' : TypeId} {cs cs' : List Value} (h : Blk w a t cs) (h' : Blk w b t' cs') (ht : t ≠ t') : a ≠ b := by
  rintro rfl
  unfold Blk at h h'
  rw [h] at h'
  cases h'
  exact ht rfl
theorem adr0 (x p s : Nat) : (⟨blk (some ⟨x, 0, none⟩), ofs (some ⟨x, 0, none⟩) + (p : Int).toNat * s, none⟩ : Addr) = ⟨x, p * s, none⟩ := by simp [blk, ofs]
theorem adrF (x p s f : Nat) : (⟨blk (some ⟨x, 0, none⟩), ofs (some ⟨x, 0, none⟩) + (p : Int).toNat * s + f, none⟩ : Addr) = ⟨x, p * s + f, none⟩ := by simp [blk, ofs]
end Fb
namespace Fb.Try.QU
open Go Go.Proofs Fb
def En.cells (e : En) : List Value := [.int .i64 e.place, .int .i64 e.order, .int .i64 e.out]
def flat (l : List En) : List Value := (l.map En.cells).flatten
theorem flat_len : ∀ l : List En, (flat l).length = l.length * 3
  | [] => rfl
  | e :: l => by
    have := flat_len l
    unfold flat at this ⊢
    simp only [List.map_cons, List.flatten_cons, List.length_append, List.length_cons, this, En.cells, List.length_nil]
    omega
theorem cells_one (e : En) : ∀ v ∈ e.cells, v.oneCell' = true := by
  intro v hv
  simp [En.cells] at hv
  rcases hv with rfl | rfl | rfl <;> rfl
theorem flat_app (l k : List En) : flat (l ++ k) = flat l ++ flat k := by simp [flat]
theorem flat_split {l : List En} {i : Nat} (h : i < l.length) : flat l = flat (l.take i) ++ (gt l i).cells ++ flat (l.drop (i + 1)) := by
  have e : l = l.take i ++ [gt l i] ++ l.drop (i + 1) := by
    have h1 := gt_get h
    rw [List.getElem?_eq_getElem h] at h1
    rw [← Option.some.inj h1]
    simp
  have h2 : flat [gt l i] = (gt l i).cells := by simp [flat]
  rw [← h2, ← flat_app, ← flat_app]
  exact congrArg flat e
theorem flat_get {l : List En} {i : Nat} (h : i < l.length) (R : List Value) : ((flat l ++ R).drop (i * 3)).take 3 = (gt l i).cells := by
  have hl : (flat (l.take i)).length = i * 3 := by rw [flat_len, List.length_take]; omega
  rw [flat_split h, List.append_assoc, List.append_assoc, List.drop_append_of_le_length (by omega), List.drop_of_length_le (by omega), List.nil_append]
  rfl
theorem flat_cell {l : List En} {i : Nat} (h : i < l.length) (R : List Value) (j : Nat) (hj : j < 3) : (flat l ++ R)[i * 3 + j]? = (gt l i).cells[j]? := by
  rw [← flat_get h R, List.getElem?_take_of_lt hj, List.getElem?_drop]
theorem flat_set {l : List En} {i : Nat} (h : i < l.length) (R : List Value) (e : En) : setL (flat l ++ R) (i * 3) e.cells = flat (l.set i e) ++ R := by
  have hl : (flat (l.take i)).length = i * 3 := by rw [flat_len, List.length_take]; omega
  have hf := flat_len l
  have hc : e.cells.length = 3 := rfl
  rw [setL_put _ _ _ _ (by omega), hc]
  congr 1
  have h1 : (flat l).take (i * 3) = flat (l.take i) := by
    rw [flat_split h, List.append_assoc, List.take_append_of_le_length (by omega), List.take_of_length_le (by omega)]
  have h2 : (flat l).drop (i * 3 + 3) = flat (l.drop (i + 1)) := by
    rw [flat_split h, List.append_assoc, ← List.drop_drop, List.drop_append_of_le_length (by omega), List.drop_of_length_le (l := flat (l.take i)) (by omega), List.nil_append]
    rfl
  rw [h1, h2]
  have e1 : l.set i e = l.take i ++ [e] ++ l.drop (i + 1) := by
    rw [List.set_eq_take_append_cons_drop, if_pos h]
    simp
  rw [e1, flat_app, flat_app]
  simp [flat]
def adr (g : Option Nat) : Option Addr := g.map fun x => ⟨x, 0, none⟩
/-- The row's array. -/
def Row (w : World) (g : Option Nat) (c : Nat) (l : List En) : Prop :=
  match g with
  | none => l = [] ∧ c = 0
  | some x => ∃ R, Blk w x 28 (flat l ++ R) ∧ R.length = (c - l.length) * 3 ∧ l.length ≤ c ∧ c ≤ maxLen
structure Pile (w : World) (ab mb : Nat) (g : Option Nat) (c : Nat) (l : List En) : Prop where
  blk : Blk w ab 82 [.slice (adr g) l.length c, .map (some mb)]
  row : Row w g c l
  map : MapV Try.prog 3 w mb (idx l)
  dist : Dist l
  len : l.length ≤ 1000
  wf : ∀ e ∈ l, -9223372036854775808 ≤ e.place ∧ e.place ≤ 9223372036854775807
def PS (ab mb : Nat) (g : Option Nat) (k : Nat) : Prop := k = ab ∨ k = mb ∨ g = some k
theorem wf_i64 {a : Int} (h : -9223372036854775808 ≤ a ∧ a ≤ 9223372036854775807) : (Lit.int .i64 a).wf = true := by
  have h1 : IntKind.min .i64 = -9223372036854775808 := by decide
  have h2 : IntKind.max .i64 = 9223372036854775807 := by decide
  simp only [Lit.wf, h1, h2, Bool.and_eq_true, decide_eq_true_eq]
  exact h
theorem ukey : Try.prog.underlying 3 = some (.int .i64) := by kernel_rfl
theorem umap : Try.prog.underlying 78 = some (.map 3 3) := by kernel_rfl
theorem key_of {a : Int} (h : -9223372036854775808 ≤ a ∧ a ≤ 9223372036854775807) : keyOf Try.prog 3 (.int .i64 a) = some (.int .i64 a) := Maps.keyOf_int_mk ukey (wf_i64 h)
theorem keyed : Maps.Keyed Try.prog 3 := Maps.int_keyed ukey
theorem zero_run {P : Program} {t : TypeId} {z : Value} (h : (P.info? t).bind (·.zero) = some z) (w : World) : (zeroValue t).run P w = .ok z w := by
  rw [Option.bind_eq_some_iff] at h
  obtain ⟨i, h1, h2⟩ := h
  simp [zeroValue, typeInfo, h1, h2, Result.andThen]
theorem zint (w : World) : (zeroValue 3).run Try.prog w = .ok (.int .i64 0) w := zero_run (by kernel_rfl) w
section
variable {w w' : World} {ab mb c : Nat} {g : Option Nat} {l : List En}
theorem Pile.wfAt (h : Pile w ab mb g c l) {i : Nat} (hi : i < l.length) : -9223372036854775808 ≤ (gt l i).place ∧ (gt l i).place ≤ 9223372036854775807 := h.wf _ (List.mem_of_getElem? (gt_get hi))
theorem Row.keep {S : Nat → Prop} (h : Row w g c l) (k : Chg S w w') (hs : ∀ x, g = some x → ¬ S x) : Row w' g c l := by
  cases g with
  | none => exact h
  | some x =>
    obtain ⟨R, h1, h2⟩ := h
    exact ⟨R, h1.keep k (hs x rfl), h2⟩
theorem Pile.keep {S : Nat → Prop} (h : Pile w ab mb g c l) (k : Chg S w w') (hs : ∀ x, PS ab mb g x → ¬ S x) : Pile w' ab mb g c l :=
  ⟨h.blk.keep k (hs _ (.inl rfl)), h.row.keep k fun x e => hs x (.inr (.inr e)), h.map.keep k (hs _ (.inr (.inl rfl))), h.dist, h.len, h.wf⟩
theorem Pile.ext (h : Pile w ab mb g c l) (k : Ext w w') : Pile w' ab mb g c l := h.keep k fun _ _ f => f
theorem Pile.at (h : Pile w ab mb g c l) (hl : 0 < l.length) : ∃ x R, g = some x ∧ Blk w x 28 (flat l ++ R) ∧ R.length = (c - l.length) * 3 ∧ l.length ≤ c ∧ c ≤ maxLen := by
  have hr := h.row
  cases g with
  | none => rw [hr.1] at hl; simp at hl
  | some x =>
    obtain ⟨R, h1, h2, h3, h4⟩ := hr
    exact ⟨x, R, rfl, h1, h2, h3, h4⟩
theorem Len_ok (h : Pile w ab mb g c l) : Cal Try.prog 45 ⟨[.pointer (some ⟨ab, 0, none⟩)]⟩ w fun v w' => w' = w ∧ v = .int .i64 (l.length : Int) := by
  have hblk := h.blk
  refine go45 (by rfl) ?_
  (repeat ((conv => whnf); (first | (with_reducible first | refine jA ?_ | refine jB ?_ | refine jC ?_ | refine jD ?_) | refine jE ?_ | refine jF ?_ | refine jG ?_ | refine jH ?_ | refine jI ?_ | refine jJ ?_ | refine jK ?_ | refine jL ?_ | refine jM ?_ | refine jN ?_ | refine jO ?_ | refine jP ?_ | refine jQ ?_ | refine jR ?_ | refine jS (k := ?_) | refine jT (k := ?_)))); (conv => whnf)
  exact ⟨rfl, rfl⟩
theorem Less_ok (h : Pile w ab mb g c l) {i j : Nat} (hi : i < l.length) (hj : j < l.length) : Cal Try.prog 105 ⟨[.pointer (some ⟨ab, 0, none⟩), .int .i64 (i : Int), .int .i64 (j : Int)]⟩ w fun v w' => Ext w w' ∧ v = .bool (decide (less (gt l i) (gt l j))) := by
  obtain ⟨x, R, rfl, hrow, hR, hlc, hc⟩ := h.at (by omega)
  have hblk : Blk w ab 82 [.slice (some ⟨x, 0, none⟩) l.length c, .map (some mb)] := h.blk
  have hlen := h.len
  unfold maxLen at hc
  refine go105 (by rfl) ?_
  (repeat ((conv => whnf); (first | (with_reducible first | refine jA ?_ | refine jB ?_ | refine jC ?_ | refine jD ?_) | refine jE ?_ | refine jF ?_ | refine jG ?_ | refine jH ?_ | refine jI ?_ | refine jJ ?_ | refine jK ?_ | refine jL ?_ | refine jM ?_ | refine jN ?_ | refine jO ?_ | refine jP ?_ | refine jQ ?_ | refine jR ?_ | refine jS (k := ?_) | refine jT (k := ?_)))); (conv => whnf)
  refine r_drawE fun w1 hx1 hh1 => ?_
  (repeat ((conv => whnf); (first | refine r_need rfl ?_ | (with_reducible first | refine jA ?_ | refine jB ?_ | refine jC ?_ | refine jD ?_) | refine jE ?_ | refine jF ?_ | refine jG ?_ | refine jH ?_ | refine jI ?_ | refine jJ ?_ | refine jK ?_ | refine jL ?_ | refine jM ?_ | refine jN ?_ | refine jO ?_ | refine jP ?_ | refine jQ ?_ | refine jR ?_ | refine jS (k := ?_) | refine jT (k := ?_)))); (conv => whnf)
  rw [adr0]
  refine r_ldnbE (vs := (gt l i).cells) hrow (flat_get hi R) rfl ?_
  (repeat ((conv => whnf); (first | refine r_need rfl ?_ | (with_reducible first | refine jA ?_ | refine jB ?_ | refine jC ?_ | refine jD ?_) | refine jE ?_ | refine jF ?_ | refine jG ?_ | refine jH ?_ | refine jI ?_ | refine jJ ?_ | refine jK ?_ | refine jL ?_ | refine jM ?_ | refine jN ?_ | refine jO ?_ | refine jP ?_ | refine jQ ?_ | refine jR ?_ | refine jS (k := ?_) | refine jT (k := ?_)))); (conv => whnf)
  rw [adr0]
  refine r_ldnbE (vs := (gt l j).cells) hrow (flat_get hj R) rfl ?_
  (repeat ((conv => whnf); (first | (with_reducible first | refine jA ?_ | refine jB ?_ | refine jC ?_ | refine jD ?_) | refine jE ?_ | refine jF ?_ | refine jG ?_ | refine jH ?_ | refine jI ?_ | refine jJ ?_ | refine jK ?_ | refine jL ?_ | refine jM ?_ | refine jN ?_ | refine jO ?_ | refine jP ?_ | refine jQ ?_ | refine jR ?_ | refine jS (k := ?_) | refine jT (k := ?_)))); (conv => whnf)
  refine r_both ?_ ?_
  focus
    (conv => whnf)
    refine r_new fun ba w2 hx2 hb2 hs2 hblkba => ?_
    have y2 := hx1.trans hx2
    (repeat ((conv => whnf); (first | (with_reducible first | refine jA ?_ | refine jB ?_ | refine jC ?_ | refine jD ?_) | refine jE ?_ | refine jF ?_ | refine jG ?_ | refine jH ?_ | refine jI ?_ | refine jJ ?_ | refine jK ?_ | refine jL ?_ | refine jM ?_ | refine jN ?_ | refine jO ?_ | refine jP ?_ | refine jQ ?_ | refine jR ?_ | refine jS (k := ?_) | refine jT (k := ?_)))); (conv => whnf)
    refine r_held y2 ?_
    (repeat ((conv => whnf); (first | (with_reducible first | refine jA ?_ | refine jB ?_ | refine jC ?_ | refine jD ?_) | refine jE ?_ | refine jF ?_ | refine jG ?_ | refine jH ?_ | refine jI ?_ | refine jJ ?_ | refine jK ?_ | refine jL ?_ | refine jM ?_ | refine jN ?_ | refine jO ?_ | refine jP ?_ | refine jQ ?_ | refine jR ?_ | refine jS (k := ?_) | refine jT (k := ?_)))); (conv => whnf)
    refine r_new fun bb w3 hx3 hb3 hs3 hblkbb => ?_
    have y3 := y2.trans hx3
    have l2 := hblkba.lt
    (repeat ((conv => whnf); (first | (with_reducible first | refine jA ?_ | refine jB ?_ | refine jC ?_ | refine jD ?_) | refine jE ?_ | refine jF ?_ | refine jG ?_ | refine jH ?_ | refine jI ?_ | refine jJ ?_ | refine jK ?_ | refine jL ?_ | refine jM ?_ | refine jN ?_ | refine jO ?_ | refine jP ?_ | refine jQ ?_ | refine jR ?_ | refine jS (k := ?_) | refine jT (k := ?_)))); (conv => whnf)
    refine r_held y3 ?_
    (repeat ((conv => whnf); (first | (with_reducible first | refine jA ?_ | refine jB ?_ | refine jC ?_ | refine jD ?_) | refine jE ?_ | refine jF ?_ | refine jG ?_ | refine jH ?_ | refine jI ?_ | refine jJ ?_ | refine jK ?_ | refine jL ?_ | refine jM ?_ | refine jN ?_ | refine jO ?_ | refine jP ?_ | refine jQ ?_ | refine jR ?_ | refine jS (k := ?_) | refine jT (k := ?_)))); (conv => whnf)
    have hblkba := hblkba.ext hx3
    refine r_stn hblkba (by simp [En.cells]) (cells_one _) fun w4 hc4 hs4 hblkba => ?_
    have hblkba : Blk w4 ba 28 (gt l i).cells := hblkba
    have y4 : Ext w w4 := Chg.step y3 hc4 fun k hk hlt => by have := hx1.size; have := hx2.size; omega
    (repeat ((conv => whnf); (first | (with_reducible first | refine jA ?_ | refine jB ?_ | refine jC ?_ | refine jD ?_) | refine jE ?_ | refine jF ?_ | refine jG ?_ | refine jH ?_ | refine jI ?_ | refine jJ ?_ | refine jK ?_ | refine jL ?_ | refine jM ?_ | refine jN ?_ | refine jO ?_ | refine jP ?_ | refine jQ ?_ | refine jR ?_ | refine jS (k := ?_) | refine jT (k := ?_)))); (conv => whnf)
    refine r_held y4 ?_
    (repeat ((conv => whnf); (first | (with_reducible first | refine jA ?_ | refine jB ?_ | refine jC ?_ | refine jD ?_) | refine jE ?_ | refine jF ?_ | refine jG ?_ | refine jH ?_ | refine jI ?_ | refine jJ ?_ | refine jK ?_ | refine jL ?_ | refine jM ?_ | refine jN ?_ | refine jO ?_ | refine jP ?_ | refine jQ ?_ | refine jR ?_ | refine jS (k := ?_) | refine jT (k := ?_)))); (conv => whnf)
    refine r_stn (hblkbb.keep hc4 (by omega)) (by simp [En.cells]) (cells_one _) fun w5 hc5 hs5 hblkbb => ?_
    have hblkbb : Blk w5 bb 28 (gt l j).cells := hblkbb
    have y5 : Ext w w5 := Chg.step y4 hc5 fun k hk hlt => by have := hx1.size; have := hx2.size; omega
    have hblkba := hblkba.keep hc5 (by omega)
    unfold En.cells at hblkba hblkbb
    (repeat ((conv => whnf); (first | (with_reducible first | refine jA ?_ | refine jB ?_ | refine jC ?_ | refine jD ?_) | refine jE ?_ | refine jF ?_ | refine jG ?_ | refine jH ?_ | refine jI ?_ | refine jJ ?_ | refine jK ?_ | refine jL ?_ | refine jM ?_ | refine jN ?_ | refine jO ?_ | refine jP ?_ | refine jQ ?_ | refine jR ?_ | refine jS (k := ?_) | refine jT (k := ?_)))); (conv => whnf)
  rotate_left
  focus
    (conv => whnf)
    refine r_new fun bb w2 hx2 hb2 hs2 hblkbb => ?_
    have y2 := hx1.trans hx2
    (repeat ((conv => whnf); (first | (with_reducible first | refine jA ?_ | refine jB ?_ | refine jC ?_ | refine jD ?_) | refine jE ?_ | refine jF ?_ | refine jG ?_ | refine jH ?_ | refine jI ?_ | refine jJ ?_ | refine jK ?_ | refine jL ?_ | refine jM ?_ | refine jN ?_ | refine jO ?_ | refine jP ?_ | refine jQ ?_ | refine jR ?_ | refine jS (k := ?_) | refine jT (k := ?_)))); (conv => whnf)
    refine r_held y2 ?_
    (repeat ((conv => whnf); (first | (with_reducible first | refine jA ?_ | refine jB ?_ | refine jC ?_ | refine jD ?_) | refine jE ?_ | refine jF ?_ | refine jG ?_ | refine jH ?_ | refine jI ?_ | refine jJ ?_ | refine jK ?_ | refine jL ?_ | refine jM ?_ | refine jN ?_ | refine jO ?_ | refine jP ?_ | refine jQ ?_ | refine jR ?_ | refine jS (k := ?_) | refine jT (k := ?_)))); (conv => whnf)
    refine r_new fun ba w3 hx3 hb3 hs3 hblkba => ?_
    have y3 := y2.trans hx3
    have l2 := hblkbb.lt
    (repeat ((conv => whnf); (first | (with_reducible first | refine jA ?_ | refine jB ?_ | refine jC ?_ | refine jD ?_) | refine jE ?_ | refine jF ?_ | refine jG ?_ | refine jH ?_ | refine jI ?_ | refine jJ ?_ | refine jK ?_ | refine jL ?_ | refine jM ?_ | refine jN ?_ | refine jO ?_ | refine jP ?_ | refine jQ ?_ | refine jR ?_ | refine jS (k := ?_) | refine jT (k := ?_)))); (conv => whnf)
    refine r_held y3 ?_
    (repeat ((conv => whnf); (first | (with_reducible first | refine jA ?_ | refine jB ?_ | refine jC ?_ | refine jD ?_) | refine jE ?_ | refine jF ?_ | refine jG ?_ | refine jH ?_ | refine jI ?_ | refine jJ ?_ | refine jK ?_ | refine jL ?_ | refine jM ?_ | refine jN ?_ | refine jO ?_ | refine jP ?_ | refine jQ ?_ | refine jR ?_ | refine jS (k := ?_) | refine jT (k := ?_)))); (conv => whnf)
    have hblkbb := hblkbb.ext hx3
    refine r_stn hblkba (by simp [En.cells]) (cells_one _) fun w4 hc4 hs4 hblkba => ?_
    have hblkba : Blk w4 ba 28 (gt l i).cells := hblkba
    have y4 : Ext w w4 := Chg.step y3 hc4 fun k hk hlt => by have := hx1.size; have := hx2.size; omega
    (repeat ((conv => whnf); (first | (with_reducible first | refine jA ?_ | refine jB ?_ | refine jC ?_ | refine jD ?_) | refine jE ?_ | refine jF ?_ | refine jG ?_ | refine jH ?_ | refine jI ?_ | refine jJ ?_ | refine jK ?_ | refine jL ?_ | refine jM ?_ | refine jN ?_ | refine jO ?_ | refine jP ?_ | refine jQ ?_ | refine jR ?_ | refine jS (k := ?_) | refine jT (k := ?_)))); (conv => whnf)
    refine r_held y4 ?_
    (repeat ((conv => whnf); (first | (with_reducible first | refine jA ?_ | refine jB ?_ | refine jC ?_ | refine jD ?_) | refine jE ?_ | refine jF ?_ | refine jG ?_ | refine jH ?_ | refine jI ?_ | refine jJ ?_ | refine jK ?_ | refine jL ?_ | refine jM ?_ | refine jN ?_ | refine jO ?_ | refine jP ?_ | refine jQ ?_ | refine jR ?_ | refine jS (k := ?_) | refine jT (k := ?_)))); (conv => whnf)
    refine r_stn (hblkbb.keep hc4 (by omega)) (by simp [En.cells]) (cells_one _) fun w5 hc5 hs5 hblkbb => ?_
    have hblkbb : Blk w5 bb 28 (gt l j).cells := hblkbb
    have y5 : Ext w w5 := Chg.step y4 hc5 fun k hk hlt => by have := hx1.size; have := hx2.size; omega
    have hblkba := hblkba.keep hc5 (by omega)
    unfold En.cells at hblkba hblkbb
    (repeat ((conv => whnf); (first | (with_reducible first | refine jA ?_ | refine jB ?_ | refine jC ?_ | refine jD ?_) | refine jE ?_ | refine jF ?_ | refine jG ?_ | refine jH ?_ | refine jI ?_ | refine jJ ?_ | refine jK ?_ | refine jL ?_ | refine jM ?_ | refine jN ?_ | refine jO ?_ | refine jP ?_ | refine jQ ?_ | refine jR ?_ | refine jS (k := ?_) | refine jT (k := ?_)))); (conv => whnf)
  all_goals
    by_cases h1 : (gt l i).order < (gt l j).order
    · (repeat ((conv => whnf); (first | (with_reducible first | refine jA ?_ | refine jB ?_ | refine jC ?_ | refine jD ?_) | refine jE ?_ | refine jF ?_ | refine jG ?_ | refine jH ?_ | refine jI ?_ | refine jJ ?_ | refine jK ?_ | refine jL ?_ | refine jM ?_ | refine jN ?_ | refine jO ?_ | refine jP ?_ | refine jQ ?_ | refine jR ?_ | refine jS (k := ?_) | refine jT (k := ?_)))); (conv => whnf)
      exact ⟨y5, by simp [less, h1]⟩
    · by_cases h2 : (gt l i).order = (gt l j).order
      all_goals
        (repeat ((conv => whnf); (first | (with_reducible first | refine jA ?_ | refine jB ?_ | refine jC ?_ | refine jD ?_) | refine jE ?_ | refine jF ?_ | refine jG ?_ | refine jH ?_ | refine jI ?_ | refine jJ ?_ | refine jK ?_ | refine jL ?_ | refine jM ?_ | refine jN ?_ | refine jO ?_ | refine jP ?_ | refine jQ ?_ | refine jR ?_ | refine jS (k := ?_) | refine jT (k := ?_)))); (conv => whnf)
        exact ⟨y5, by simp [less, h2] <;> omega⟩
theorem Swap_ok (h : Pile w ab mb g c l) {i j : Nat} (hi : i < l.length) (hj : j < l.length) : Cal Try.prog 108 ⟨[.pointer (some ⟨ab, 0, none⟩), .int .i64 (i : Int), .int .i64 (j : Int)]⟩ w fun _ w' => Pile w' ab mb g c (swL l i j) ∧ Chg (fun k => k = mb ∨ g = some k) w w' := by
  obtain ⟨x, R, rfl, hrow, hR, hlc, hc⟩ := h.at (by omega)
  have hblk : Blk w ab 82 [.slice (some ⟨x, 0, none⟩) l.length c, .map (some mb)] := h.blk
  have hlen := h.len
  have hmap := h.map
  have hfl := flat_len l
  have hax : ¬ ab = x := Blk.ne hblk hrow (by decide)
  have ham : ¬ ab = mb := hmap.ne hblk
  have hxm : ¬ x = mb := hmap.ne hrow
  have hwi := h.wfAt hi
  have hwj := h.wfAt hj
  unfold maxLen at hc
  refine go108 (by rfl) ?_
  (repeat ((conv => whnf); (first | (with_reducible first | refine jA ?_ | refine jB ?_ | refine jC ?_ | refine jD ?_) | refine jE ?_ | refine jF ?_ | refine jG ?_ | refine jH ?_ | refine jI ?_ | refine jJ ?_ | refine jK ?_ | refine jL ?_ | refine jM ?_ | refine jN ?_ | refine jO ?_ | refine jP ?_ | refine jQ ?_ | refine jR ?_ | refine jS (k := ?_) | refine jT (k := ?_)))); (conv => whnf)
  refine r_drawE fun w1 hx1 hh1 => ?_
  (repeat ((conv => whnf); (first | refine r_need rfl ?_ | (with_reducible first | refine jA ?_ | refine jB ?_ | refine jC ?_ | refine jD ?_) | refine jE ?_ | refine jF ?_ | refine jG ?_ | refine jH ?_ | refine jI ?_ | refine jJ ?_ | refine jK ?_ | refine jL ?_ | refine jM ?_ | refine jN ?_ | refine jO ?_ | refine jP ?_ | refine jQ ?_ | refine jR ?_ | refine jS (k := ?_) | refine jT (k := ?_)))); (conv => whnf)
  rw [adr0]
  refine r_ldnbE (vs := (gt l j).cells) hrow (flat_get hj R) rfl ?_
  (repeat ((conv => whnf); (first | refine r_need rfl ?_ | (with_reducible first | refine jA ?_ | refine jB ?_ | refine jC ?_ | refine jD ?_) | refine jE ?_ | refine jF ?_ | refine jG ?_ | refine jH ?_ | refine jI ?_ | refine jJ ?_ | refine jK ?_ | refine jL ?_ | refine jM ?_ | refine jN ?_ | refine jO ?_ | refine jP ?_ | refine jQ ?_ | refine jR ?_ | refine jS (k := ?_) | refine jT (k := ?_)))); (conv => whnf)
  rw [adr0]
  refine r_ldnbE (vs := (gt l i).cells) hrow (flat_get hi R) rfl ?_
  (repeat ((conv => whnf); (first | refine r_need rfl ?_ | (with_reducible first | refine jA ?_ | refine jB ?_ | refine jC ?_ | refine jD ?_) | refine jE ?_ | refine jF ?_ | refine jG ?_ | refine jH ?_ | refine jI ?_ | refine jJ ?_ | refine jK ?_ | refine jL ?_ | refine jM ?_ | refine jN ?_ | refine jO ?_ | refine jP ?_ | refine jQ ?_ | refine jR ?_ | refine jS (k := ?_) | refine jT (k := ?_)))); (conv => whnf)
  rw [adr0]
  refine r_stn (hrow.ext hx1) (by rw [List.length_append]; simp [En.cells]; omega) (cells_one _) fun w2 hc2 hs2 hrow2 => ?_
  rw [flat_set hi] at hrow2
  (repeat ((conv => whnf); (first | refine r_need rfl ?_ | (with_reducible first | refine jA ?_ | refine jB ?_ | refine jC ?_ | refine jD ?_) | refine jE ?_ | refine jF ?_ | refine jG ?_ | refine jH ?_ | refine jI ?_ | refine jJ ?_ | refine jK ?_ | refine jL ?_ | refine jM ?_ | refine jN ?_ | refine jO ?_ | refine jP ?_ | refine jQ ?_ | refine jR ?_ | refine jS (k := ?_) | refine jT (k := ?_)))); (conv => whnf)
  rw [adr0]
  refine r_stn hrow2 (by rw [List.length_append, flat_len]; simp [En.cells]; omega) (cells_one _) fun w3 hc3 hs3 hrow3 => ?_
  rw [flat_set (by simpa using hj)] at hrow3
  have hrow3 : Blk w3 x 28 (flat (swL l i j) ++ R) := hrow3
  have hl' : (swL l i j).length = l.length := swL_len l i j
  have hx3 : Chg (fun k => k = x) w w3 := (hx1.wide _).trans (hc2.trans hc3)
  have hblk3 := hblk.keep hx3 hax
  have hmap3 := hmap.keep hx3 fun e => hxm e.symm
  have gi := gt_swL hi hj i
  have gj := gt_swL hi hj j
  rw [sw_l] at gi
  rw [sw_r] at gj
  have ci := flat_cell (l := swL l i j) (i := i) (by omega) R 0 (by omega)
  have cj := flat_cell (l := swL l i j) (i := j) (by omega) R 0 (by omega)
  rw [gi] at ci
  rw [gj] at cj
  (repeat ((conv => whnf); (first | (with_reducible first | refine jA ?_ | refine jB ?_ | refine jC ?_ | refine jD ?_) | refine jE ?_ | refine jF ?_ | refine jG ?_ | refine jH ?_ | refine jI ?_ | refine jJ ?_ | refine jK ?_ | refine jL ?_ | refine jM ?_ | refine jN ?_ | refine jO ?_ | refine jP ?_ | refine jQ ?_ | refine jR ?_ | refine jS (k := ?_) | refine jT (k := ?_)))); (conv => whnf)
  refine r_drawS (fun k => k = mb) fun w4 hx4 hh4 => ?_
  (repeat ((conv => whnf); (first | refine r_ldbS hblk3 (by rfl) ham ?_ | refine r_need rfl ?_ | (with_reducible first | refine jA ?_ | refine jB ?_ | refine jC ?_ | refine jD ?_) | refine jE ?_ | refine jF ?_ | refine jG ?_ | refine jH ?_ | refine jI ?_ | refine jJ ?_ | refine jK ?_ | refine jL ?_ | refine jM ?_ | refine jN ?_ | refine jO ?_ | refine jP ?_ | refine jQ ?_ | refine jR ?_ | refine jS (k := ?_) | refine jT (k := ?_)))); (conv => whnf)
  rw [adrF]
  refine r_ldbS hrow3 ci hxm ?_
  (repeat ((conv => whnf); (first | refine r_ldbS hblk3 (by rfl) ham ?_ | refine r_need rfl ?_ | (with_reducible first | refine jA ?_ | refine jB ?_ | refine jC ?_ | refine jD ?_) | refine jE ?_ | refine jF ?_ | refine jG ?_ | refine jH ?_ | refine jI ?_ | refine jJ ?_ | refine jK ?_ | refine jL ?_ | refine jM ?_ | refine jN ?_ | refine jO ?_ | refine jP ?_ | refine jQ ?_ | refine jR ?_ | refine jS (k := ?_) | refine jT (k := ?_)))); (conv => whnf)
  rw [adrF]
  refine r_ldbS hrow3 cj hxm ?_
  (repeat ((conv => whnf); (first | (with_reducible first | refine jA ?_ | refine jB ?_ | refine jC ?_ | refine jD ?_) | refine jE ?_ | refine jF ?_ | refine jG ?_ | refine jH ?_ | refine jI ?_ | refine jJ ?_ | refine jK ?_ | refine jL ?_ | refine jM ?_ | refine jN ?_ | refine jO ?_ | refine jP ?_ | refine jQ ?_ | refine jR ?_ | refine jS (k := ?_) | refine jT (k := ?_)))); (conv => whnf)
  refine r_entry (hmap3.ext hx4) keyed umap zint _ (fun key hk => idx_key hk) (by simp [maxLen]; omega) (key_of hwj) fun v0 st w5 hc5 hs5 hst => ?_
  (repeat ((conv => whnf); (first | (with_reducible first | refine jA ?_ | refine jB ?_ | refine jC ?_ | refine jD ?_) | refine jE ?_ | refine jF ?_ | refine jG ?_ | refine jH ?_ | refine jI ?_ | refine jJ ?_ | refine jK ?_ | refine jL ?_ | refine jM ?_ | refine jN ?_ | refine jO ?_ | refine jP ?_ | refine jQ ?_ | refine jR ?_ | refine jS (k := ?_) | refine jT (k := ?_)))); (conv => whnf)
  refine r_held (Chg.step (hx4.wide _) hc5 fun k hk _ => hk) ?_
  (repeat ((conv => whnf); (first | (with_reducible first | refine jA ?_ | refine jB ?_ | refine jC ?_ | refine jD ?_) | refine jE ?_ | refine jF ?_ | refine jG ?_ | refine jH ?_ | refine jI ?_ | refine jJ ?_ | refine jK ?_ | refine jL ?_ | refine jM ?_ | refine jN ?_ | refine jO ?_ | refine jP ?_ | refine jQ ?_ | refine jR ?_ | refine jS (k := ?_) | refine jT (k := ?_)))); (conv => whnf)
  refine hst _ _ fun w6 hc6 hs6 hmap6 => ?_
  (repeat ((conv => whnf); (first | (with_reducible first | refine jA ?_ | refine jB ?_ | refine jC ?_ | refine jD ?_) | refine jE ?_ | refine jF ?_ | refine jG ?_ | refine jH ?_ | refine jI ?_ | refine jJ ?_ | refine jK ?_ | refine jL ?_ | refine jM ?_ | refine jN ?_ | refine jO ?_ | refine jP ?_ | refine jQ ?_ | refine jR ?_ | refine jS (k := ?_) | refine jT (k := ?_)))); (conv => whnf)
  have hL : ∀ key, upd (idx l) (.int .i64 (gt l j).place) (some (.int .i64 (i : Int))) key ≠ none → key ∈ Value.int .i64 (gt l j).place :: l.map fun e => Value.int .i64 e.place := fun key hk => by
    by_cases e : key = .int .i64 (gt l j).place
    · rw [e]; simp
    · rw [upd_ne _ _ e] at hk
      exact List.mem_cons_of_mem _ (idx_key hk)
  refine r_entry hmap6 keyed umap zint _ hL (by simp [maxLen]; omega) (key_of hwi) fun v1 st1 w7 hc7 hs7 hst1 => ?_
  (repeat ((conv => whnf); (first | (with_reducible first | refine jA ?_ | refine jB ?_ | refine jC ?_ | refine jD ?_) | refine jE ?_ | refine jF ?_ | refine jG ?_ | refine jH ?_ | refine jI ?_ | refine jJ ?_ | refine jK ?_ | refine jL ?_ | refine jM ?_ | refine jN ?_ | refine jO ?_ | refine jP ?_ | refine jQ ?_ | refine jR ?_ | refine jS (k := ?_) | refine jT (k := ?_)))); (conv => whnf)
  refine hst1 _ _ fun w8 hc8 hs8 hmap8 => ?_
  rw [idx_swap h.dist hi hj] at hmap8
  have hx8 : Chg (fun k => k = mb) w3 w8 := ((((hx4.wide _).trans hc5).trans hc6).trans hc7).trans hc8
  (repeat ((conv => whnf); (first | (with_reducible first | refine jA ?_ | refine jB ?_ | refine jC ?_ | refine jD ?_) | refine jE ?_ | refine jF ?_ | refine jG ?_ | refine jH ?_ | refine jI ?_ | refine jJ ?_ | refine jK ?_ | refine jL ?_ | refine jM ?_ | refine jN ?_ | refine jO ?_ | refine jP ?_ | refine jQ ?_ | refine jR ?_ | refine jS (k := ?_) | refine jT (k := ?_)))); (conv => whnf)
  refine ⟨⟨by rw [hl']; exact hblk3.keep hx8 ham, ⟨R, hrow3.keep hx8 hxm, by omega, by omega, by unfold maxLen; omega⟩, hmap8, swL_dist h.dist hi hj, by omega, fun e he => ?_⟩, ?_⟩
  · obtain ⟨k, hk, rfl⟩ := List.getElem_of_mem he
    rw [hl'] at hk
    have e1 := gt_get (l := swL l i j) (i := k) (by omega)
    rw [List.getElem?_eq_getElem (by omega)] at e1
    rw [Option.some.inj e1, gt_swL hi hj]
    unfold sw
    split
    · exact hwj
    · split
      · exact hwi
      · exact h.wfAt hk
  · exact Chg.step (hx3.mono fun k _ e => .inr (by rw [e])) hx8 fun k hk _ => .inl hk
end
end Fb.Try.QU

/-
  Walks: Push and Pop of the heap's own.
-/
namespace Fb.Try.QU
open Go Go.Proofs Fb
theorem een : Elem Try.prog 26 28 3 24 := Elem.of (by kernel_rfl)
def Wf (e : En) : Prop := -9223372036854775808 ≤ e.place ∧ e.place ≤ 9223372036854775807
section
variable {w w' : World} {ab mb c : Nat} {g : Option Nat} {l : List En}
theorem row_own (h : Row w g c l) : w.ownsRow 0 28 3 (.slice (adr g) l.length c) l.length (flat l) := by
  refine ⟨flat_len l, ?_⟩
  cases g with
  | none =>
    obtain ⟨rfl, rfl⟩ := h
    exact .inl ⟨rfl, rfl⟩
  | some x =>
    obtain ⟨R, h1, h2, h3, h4⟩ := h
    have hf := flat_len l
    refine .inr ⟨x, c, ⟨flat l ++ R⟩, rfl, Nat.zero_le _, h1, h3, h4, ?_, ?_⟩
    · simp [hf, h2]
      omega
    · dsimp only
      rw [List.take_append_of_le_length (by omega), List.take_of_length_le (by omega)]
theorem own_row {v : Value} {n : Nat} (h : w.ownsRow 0 28 3 v n (flat l)) (hn : l.length = n) : ∃ g c, v = .slice (adr g) n c ∧ Row w g c l ∧ v.ownBlock = g := by
  obtain ⟨h1, h2⟩ := h
  rcases h2 with ⟨rfl, h0⟩ | ⟨x, cap, ⟨cur⟩, rfl, _, hg, hc, hm, hs, ht⟩
  · have : l = [] := List.length_eq_zero_iff.1 (by omega)
    exact ⟨none, 0, by rw [← hn, this]; rfl, ⟨this, rfl⟩, rfl⟩
  · dsimp only at ht
    have hs : cur.length = cap * 3 := by simpa using hs
    refine ⟨some x, cap, rfl, ⟨cur.drop (n * 3), ?_, ?_, by omega, hm⟩, rfl⟩
    · rw [← ht, List.take_append_drop]
      exact hg
    · rw [List.length_drop, hs, hn, Nat.sub_mul]
theorem Push_ok (h : Pile w ab mb g c l) {e : En} (he : Wf e) (hn : pos l e.place = none) (hl : l.length < 1000) : Cal Try.prog 107 ⟨[.pointer (some ⟨ab, 0, none⟩), .iface 28 (.agg ⟨e.cells⟩)]⟩ w fun _ w' => ∃ g' c', Pile w' ab mb g' c' (l ++ [e]) ∧ (g' = g ∨ ∃ y, g' = some y ∧ w.heap.size ≤ y) ∧ Chg (PS ab mb g) w w' := by
  have hblk := h.blk
  have hmap := h.map
  have hla := hblk.lt
  have hlm := hmap.lt
  have ham : ¬ ab = mb := hmap.ne hblk
  refine go107 (by rfl) ?_
  (repeat ((conv => whnf); (first | (with_reducible first | refine jA ?_ | refine jB ?_ | refine jC ?_ | refine jD ?_) | refine jE ?_ | refine jF ?_ | refine jG ?_ | refine jH ?_ | refine jI ?_ | refine jJ ?_ | refine jK ?_ | refine jL ?_ | refine jM ?_ | refine jN ?_ | refine jO ?_ | refine jP ?_ | refine jQ ?_ | refine jR ?_ | refine jS (k := ?_) | refine jT (k := ?_)))); (conv => whnf)
  refine r_new fun q w1 hx1 hb1 hs1 hblk1 => ?_
  (repeat ((conv => whnf); (first | (with_reducible first | refine jA ?_ | refine jB ?_ | refine jC ?_ | refine jD ?_) | refine jE ?_ | refine jF ?_ | refine jG ?_ | refine jH ?_ | refine jI ?_ | refine jJ ?_ | refine jK ?_ | refine jL ?_ | refine jM ?_ | refine jN ?_ | refine jO ?_ | refine jP ?_ | refine jQ ?_ | refine jR ?_ | refine jS (k := ?_) | refine jT (k := ?_)))); (conv => whnf)
  refine r_stn hblk1 (by simp [En.cells]) (cells_one e) fun w2 hc2 hs2 hblk2 => ?_
  have hblk2 : Blk w2 q 28 [.int .i64 e.place, .int .i64 e.order, .int .i64 e.out] := hblk2
  have hx02 : Ext w w2 := Chg.step hx1 hc2 fun k hk hlt => by omega
  have hblka := hblk.ext hx02
  (repeat ((conv => whnf); (first | (with_reducible first | refine jA ?_ | refine jB ?_ | refine jC ?_ | refine jD ?_) | refine jE ?_ | refine jF ?_ | refine jG ?_ | refine jH ?_ | refine jI ?_ | refine jJ ?_ | refine jK ?_ | refine jL ?_ | refine jM ?_ | refine jN ?_ | refine jO ?_ | refine jP ?_ | refine jQ ?_ | refine jR ?_ | refine jS (k := ?_) | refine jT (k := ?_)))); (conv => whnf)
  refine r_drawE fun w3 hx3 hh3 => ?_
  (repeat ((conv => whnf); (first | (with_reducible first | refine jA ?_ | refine jB ?_ | refine jC ?_ | refine jD ?_) | refine jE ?_ | refine jF ?_ | refine jG ?_ | refine jH ?_ | refine jI ?_ | refine jJ ?_ | refine jK ?_ | refine jL ?_ | refine jM ?_ | refine jN ?_ | refine jO ?_ | refine jP ?_ | refine jQ ?_ | refine jR ?_ | refine jS (k := ?_) | refine jT (k := ?_)))); (conv => whnf)
  refine r_mapSet (hmap.ext (hx02.trans hx3)) keyed umap _ (fun key hk => idx_key hk) (by simp [maxLen]; omega) (key_of he) fun w4 hc4 hs4 hmap4 => ?_
  rw [idx_app h.dist hn] at hmap4
  have hx24 : Chg (fun k => k = mb) w2 w4 := (hx3.wide _).trans hc4
  have hqm : ¬ q = mb := by omega
  have hblkq := hblk2.keep hx24 hqm
  have hblka := hblka.keep hx24 ham
  have hrow0 : Row w g c l := h.row
  have hrow4 : Row w4 g c l := Row.keep (Row.keep hrow0 hx02 fun _ _ f => f) hx24 fun x e => by
    subst e
    obtain ⟨R, h1, _⟩ := h.row
    exact hmap.ne h1
  have hga : ¬ g = some ab := fun e => by
    subst e
    obtain ⟨R, h1, _⟩ := h.row
    exact Blk.ne h1 hblk (by decide) rfl
  have hgm : ¬ g = some mb := fun e => by
    subst e
    obtain ⟨R, h1, _⟩ := h.row
    exact hmap.ne h1 rfl
  have hgq : ¬ g = some q := fun e => by
    subst e
    obtain ⟨R, h1, _⟩ := h.row
    have := h1.lt
    omega
  (repeat ((conv => whnf); (first | (with_reducible first | refine jA ?_ | refine jB ?_ | refine jC ?_ | refine jD ?_) | refine jE ?_ | refine jF ?_ | refine jG ?_ | refine jH ?_ | refine jI ?_ | refine jJ ?_ | refine jK ?_ | refine jL ?_ | refine jM ?_ | refine jN ?_ | refine jO ?_ | refine jP ?_ | refine jQ ?_ | refine jR ?_ | refine jS (k := ?_) | refine jT (k := ?_)))); (conv => whnf)
  refine r_drawS (fun k => g = some k) fun w5 hx5 hh5 => ?_
  (repeat ((conv => whnf); (first | refine r_ldbS hblka (by rfl) hga ?_ | refine r_ldnbS' (vs := e.cells) hblkq rfl rfl hgq ?_ | (with_reducible first | refine jA ?_ | refine jB ?_ | refine jC ?_ | refine jD ?_) | refine jE ?_ | refine jF ?_ | refine jG ?_ | refine jH ?_ | refine jI ?_ | refine jJ ?_ | refine jK ?_ | refine jL ?_ | refine jM ?_ | refine jN ?_ | refine jO ?_ | refine jP ?_ | refine jQ ?_ | refine jR ?_ | refine jS (k := ?_) | refine jT (k := ?_)))); (conv => whnf)
  refine r_new fun b6 w6 hx6 hb6 hs6 hblk6 => ?_
  have y6 := hx5.trans hx6
  (repeat ((conv => whnf); (first | (with_reducible first | refine jA ?_ | refine jB ?_ | refine jC ?_ | refine jD ?_) | refine jE ?_ | refine jF ?_ | refine jG ?_ | refine jH ?_ | refine jI ?_ | refine jJ ?_ | refine jK ?_ | refine jL ?_ | refine jM ?_ | refine jN ?_ | refine jO ?_ | refine jP ?_ | refine jQ ?_ | refine jR ?_ | refine jS (k := ?_) | refine jT (k := ?_)))); (conv => whnf)
  refine r_held (y6.wide _) ?_
  (repeat ((conv => whnf); (first | (with_reducible first | refine jA ?_ | refine jB ?_ | refine jC ?_ | refine jD ?_) | refine jE ?_ | refine jF ?_ | refine jG ?_ | refine jH ?_ | refine jI ?_ | refine jJ ?_ | refine jK ?_ | refine jL ?_ | refine jM ?_ | refine jN ?_ | refine jO ?_ | refine jP ?_ | refine jQ ?_ | refine jR ?_ | refine jS (k := ?_) | refine jT (k := ?_)))); (conv => whnf)
  have ho6 : (Value.slice (adr g) l.length c).ownBlock = g := by
    cases g with
    | none => rfl
    | some x => rfl
  refine r_appAt een (row_own (Row.keep hrow4 y6 fun _ _ f => f)) (View.of_blk (n := 1) (size := 3) hblk6 (by rfl) (by simp [maxLen])) (cells_one e) (by omega) (Nat.zero_le _) fun v7 w7 hown7 hc7 _ hv7 => ?_
  have hfl : flat l ++ [.int .i64 e.place, .int .i64 e.order, .int .i64 e.out] = flat (l ++ [e]) := by
    rw [flat_app]
    simp [flat, En.cells]
  rw [ho6] at hc7 hv7
  obtain ⟨g7, c7, rfl, hrow7, hg7⟩ := own_row (l := l ++ [e]) (by rw [← hfl]; exact hown7) (by simp)
  rw [hg7] at hv7
  have hc57 : Chg (fun k => g = some k) w4 w7 := Chg.step (y6.wide _) hc7 fun k hk _ => hk
  have hblka := hblka.keep hc57 hga
  (repeat ((conv => whnf); (first | (with_reducible first | refine jA ?_ | refine jB ?_ | refine jC ?_ | refine jD ?_) | refine jE ?_ | refine jF ?_ | refine jG ?_ | refine jH ?_ | refine jI ?_ | refine jJ ?_ | refine jK ?_ | refine jL ?_ | refine jM ?_ | refine jN ?_ | refine jO ?_ | refine jP ?_ | refine jQ ?_ | refine jR ?_ | refine jS (k := ?_) | refine jT (k := ?_)))); (conv => whnf)
  refine r_held hc57 ?_
  (repeat ((conv => whnf); (first | (with_reducible first | refine jA ?_ | refine jB ?_ | refine jC ?_ | refine jD ?_) | refine jE ?_ | refine jF ?_ | refine jG ?_ | refine jH ?_ | refine jI ?_ | refine jJ ?_ | refine jK ?_ | refine jL ?_ | refine jM ?_ | refine jN ?_ | refine jO ?_ | refine jP ?_ | refine jQ ?_ | refine jR ?_ | refine jS (k := ?_) | refine jT (k := ?_)))); (conv => whnf)
  refine r_st hblka (by simp) rfl fun w8 hc8 hs8 hblk8 => ?_
  have hblk8 : Blk w8 ab 82 [.slice (adr g7) (l.length + 1) c7, .map (some mb)] := hblk8
  (repeat ((conv => whnf); (first | (with_reducible first | refine jA ?_ | refine jB ?_ | refine jC ?_ | refine jD ?_) | refine jE ?_ | refine jF ?_ | refine jG ?_ | refine jH ?_ | refine jI ?_ | refine jJ ?_ | refine jK ?_ | refine jL ?_ | refine jM ?_ | refine jN ?_ | refine jO ?_ | refine jP ?_ | refine jQ ?_ | refine jR ?_ | refine jS (k := ?_) | refine jT (k := ?_)))); (conv => whnf)
  have hs03 := hx02.size
  have hs6' := y6.size
  have hwf : ∀ x ∈ l ++ [e], -9223372036854775808 ≤ x.place ∧ x.place ≤ 9223372036854775807 := by
    intro x hx
    simp only [List.mem_append, List.mem_singleton] at hx
    rcases hx with hx | rfl
    · exact h.wf x hx
    · exact he
  have hg7' : g7 = g ∨ g7 = some w6.heap.size := hv7
  have hg7a : ¬ g7 = some ab := by
    rcases hg7' with rfl | rfl
    · exact hga
    · intro e'; have := Option.some.inj e'; have := hx24.size; omega
  refine ⟨g7, c7, ⟨by simpa using hblk8, Row.keep hrow7 hc8 fun x e' hx' => hg7a (by rw [e', hx']), (hmap4.keep hc57 hgm).keep hc8 fun e' => ham e'.symm, app_dist h.dist hn, by simp; omega, hwf⟩, ?_, ?_⟩
  · rcases hg7' with rfl | rfl
    · exact .inl rfl
    · exact .inr ⟨_, rfl, by have := hx24.size; omega⟩
  · refine Chg.step (Chg.step (Chg.step (hx02.wide _) hx24 fun k hk _ => .inr (.inl hk)) hc57 fun k hk _ => .inr (.inr hk)) hc8 fun k hk _ => .inl hk
theorem Pop_ok (h : Pile w ab mb g c l) (h0 : 0 < l.length) : Cal Try.prog 106 ⟨[.pointer (some ⟨ab, 0, none⟩)]⟩ w fun v w' => Pile w' ab mb g c (l.take (l.length - 1)) ∧ v = .iface 28 (.agg ⟨(gt l (l.length - 1)).cells⟩) ∧ Chg (PS ab mb g) w w' := by
  obtain ⟨x, R, rfl, hrow, hR, hlc, hc⟩ := h.at h0
  have hblk : Blk w ab 82 [.slice (some ⟨x, 0, none⟩) l.length c, .map (some mb)] := h.blk
  have hlen := h.len
  have hmap := h.map
  have hfl := flat_len l
  have hax : ¬ ab = x := Blk.ne hblk hrow (by decide)
  have ham : ¬ ab = mb := hmap.ne hblk
  have hxm : ¬ x = mb := hmap.ne hrow
  have hla := hblk.lt
  have hlm := hmap.lt
  have hlx := hrow.lt
  unfold maxLen at hc
  refine go106 (by rfl) ?_
  (repeat ((conv => whnf); (first | (with_reducible first | refine jA ?_ | refine jB ?_ | refine jC ?_ | refine jD ?_) | refine jE ?_ | refine jF ?_ | refine jG ?_ | refine jH ?_ | refine jI ?_ | refine jJ ?_ | refine jK ?_ | refine jL ?_ | refine jM ?_ | refine jN ?_ | refine jO ?_ | refine jP ?_ | refine jQ ?_ | refine jR ?_ | refine jS (k := ?_) | refine jT (k := ?_)))); (conv => whnf)
  refine r_drawE fun w1 hx1 hh1 => ?_
  (repeat ((conv => whnf); (first | refine r_need rfl ?_ | (with_reducible first | refine jA ?_ | refine jB ?_ | refine jC ?_ | refine jD ?_) | refine jE ?_ | refine jF ?_ | refine jG ?_ | refine jH ?_ | refine jI ?_ | refine jJ ?_ | refine jK ?_ | refine jL ?_ | refine jM ?_ | refine jN ?_ | refine jO ?_ | refine jP ?_ | refine jQ ?_ | refine jR ?_ | refine jS (k := ?_) | refine jT (k := ?_)))); (conv => whnf)
  rw [show (l.length : Int) - 1 = ((l.length - 1 : Nat) : Int) by omega, adr0]
  refine r_ldnbE (vs := (gt l (l.length - 1)).cells) hrow (flat_get (by omega) R) rfl ?_
  (repeat ((conv => whnf); (first | (with_reducible first | refine jA ?_ | refine jB ?_ | refine jC ?_ | refine jD ?_) | refine jE ?_ | refine jF ?_ | refine jG ?_ | refine jH ?_ | refine jI ?_ | refine jJ ?_ | refine jK ?_ | refine jL ?_ | refine jM ?_ | refine jN ?_ | refine jO ?_ | refine jP ?_ | refine jQ ?_ | refine jR ?_ | refine jS (k := ?_) | refine jT (k := ?_)))); (conv => whnf)
  refine r_new fun q w2 hx2 hb2 hs2 hblk2 => ?_
  have y2 := hx1.trans hx2
  (repeat ((conv => whnf); (first | (with_reducible first | refine jA ?_ | refine jB ?_ | refine jC ?_ | refine jD ?_) | refine jE ?_ | refine jF ?_ | refine jG ?_ | refine jH ?_ | refine jI ?_ | refine jJ ?_ | refine jK ?_ | refine jL ?_ | refine jM ?_ | refine jN ?_ | refine jO ?_ | refine jP ?_ | refine jQ ?_ | refine jR ?_ | refine jS (k := ?_) | refine jT (k := ?_)))); (conv => whnf)
  refine r_held y2 ?_
  (repeat ((conv => whnf); (first | (with_reducible first | refine jA ?_ | refine jB ?_ | refine jC ?_ | refine jD ?_) | refine jE ?_ | refine jF ?_ | refine jG ?_ | refine jH ?_ | refine jI ?_ | refine jJ ?_ | refine jK ?_ | refine jL ?_ | refine jM ?_ | refine jN ?_ | refine jO ?_ | refine jP ?_ | refine jQ ?_ | refine jR ?_ | refine jS (k := ?_) | refine jT (k := ?_)))); (conv => whnf)
  refine r_stn hblk2 (by simp [En.cells]) (cells_one _) fun w3 hc3 hs3 hblk3 => ?_
  have hblk3 : Blk w3 q 28 [.int .i64 (gt l (l.length - 1)).place, .int .i64 (gt l (l.length - 1)).order, .int .i64 (gt l (l.length - 1)).out] := hblk3
  have hz1 := hx1.size
  have hx03 : Ext w w3 := Chg.step y2 hc3 fun k hk hlt => by omega
  have hblka := hblk.ext hx03
  (repeat ((conv => whnf); (first | (with_reducible first | refine jA ?_ | refine jB ?_ | refine jC ?_ | refine jD ?_) | refine jE ?_ | refine jF ?_ | refine jG ?_ | refine jH ?_ | refine jI ?_ | refine jJ ?_ | refine jK ?_ | refine jL ?_ | refine jM ?_ | refine jN ?_ | refine jO ?_ | refine jP ?_ | refine jQ ?_ | refine jR ?_ | refine jS (k := ?_) | refine jT (k := ?_)))); (conv => whnf)
  refine r_drawE fun w4 hx4 hh4 => ?_
  (repeat ((conv => whnf); (first | (with_reducible first | refine jA ?_ | refine jB ?_ | refine jC ?_ | refine jD ?_) | refine jE ?_ | refine jF ?_ | refine jG ?_ | refine jH ?_ | refine jI ?_ | refine jJ ?_ | refine jK ?_ | refine jL ?_ | refine jM ?_ | refine jN ?_ | refine jO ?_ | refine jP ?_ | refine jQ ?_ | refine jR ?_ | refine jS (k := ?_) | refine jT (k := ?_)))); (conv => whnf)
  rw [show ((l.length : Int) - 1).toNat = l.length - 1 by omega]
  refine r_st (hblka.ext hx4) (by simp) rfl fun w5 hc5 hs5 hblk5 => ?_
  have hblk5 : Blk w5 ab 82 [.slice (some ⟨x, 0, none⟩) (l.length - 1) c, .map (some mb)] := hblk5
  have hblkq := (hblk3.ext hx4).keep hc5 (by omega)
  have hx05 : Chg (fun k => k = ab) w w5 := Chg.step ((hx03.trans hx4).wide _) hc5 fun k hk _ => hk
  have hmap5 := hmap.keep hx05 fun e => ham e.symm
  (repeat ((conv => whnf); (first | (with_reducible first | refine jA ?_ | refine jB ?_ | refine jC ?_ | refine jD ?_) | refine jE ?_ | refine jF ?_ | refine jG ?_ | refine jH ?_ | refine jI ?_ | refine jJ ?_ | refine jK ?_ | refine jL ?_ | refine jM ?_ | refine jN ?_ | refine jO ?_ | refine jP ?_ | refine jQ ?_ | refine jR ?_ | refine jS (k := ?_) | refine jT (k := ?_)))); (conv => whnf)
  refine r_drawE fun w6 hx6 hh6 => ?_
  (repeat ((conv => whnf); (first | (with_reducible first | refine jA ?_ | refine jB ?_ | refine jC ?_ | refine jD ?_) | refine jE ?_ | refine jF ?_ | refine jG ?_ | refine jH ?_ | refine jI ?_ | refine jJ ?_ | refine jK ?_ | refine jL ?_ | refine jM ?_ | refine jN ?_ | refine jO ?_ | refine jP ?_ | refine jQ ?_ | refine jR ?_ | refine jS (k := ?_) | refine jT (k := ?_)))); (conv => whnf)
  refine r_delete (hmap5.ext hx6) keyed umap (key_of (h.wfAt (by omega))) fun w7 hc7 hs7 hmap7 => ?_
  rw [idx_pop h.dist h0] at hmap7
  have hx57 : Chg (fun k => k = mb) w5 w7 := (hx6.wide _).trans hc7
  have hblkq := hblkq.keep hx57 (show ¬ q = mb by omega)
  (repeat ((conv => whnf); (first | (with_reducible first | refine jA ?_ | refine jB ?_ | refine jC ?_ | refine jD ?_) | refine jE ?_ | refine jF ?_ | refine jG ?_ | refine jH ?_ | refine jI ?_ | refine jJ ?_ | refine jK ?_ | refine jL ?_ | refine jM ?_ | refine jN ?_ | refine jO ?_ | refine jP ?_ | refine jQ ?_ | refine jR ?_ | refine jS (k := ?_) | refine jT (k := ?_)))); (conv => whnf)
  refine r_ldnb (vs := (gt l (l.length - 1)).cells) hblkq rfl rfl ?_
  (repeat ((conv => whnf); (first | (with_reducible first | refine jA ?_ | refine jB ?_ | refine jC ?_ | refine jD ?_) | refine jE ?_ | refine jF ?_ | refine jG ?_ | refine jH ?_ | refine jI ?_ | refine jJ ?_ | refine jK ?_ | refine jL ?_ | refine jM ?_ | refine jN ?_ | refine jO ?_ | refine jP ?_ | refine jQ ?_ | refine jR ?_ | refine jS (k := ?_) | refine jT (k := ?_)))); (conv => whnf)
  have hsp := flat_split (l := l) (i := l.length - 1) (by omega)
  have hdr : l.drop (l.length - 1 + 1) = [] := List.drop_of_length_le (by omega)
  have hrow7 := (hrow.keep hx05 fun e => hax e.symm).keep hx57 hxm
  have htl : (l.take (l.length - 1)).length = l.length - 1 := by simp
  refine ⟨⟨by rw [htl]; exact hblk5.keep hx57 ham, ⟨(gt l (l.length - 1)).cells ++ R, ?_, ?_, by omega, by unfold maxLen; omega⟩, hmap7, take_dist h.dist _, by omega, fun e he => h.wf e (List.mem_of_mem_take he)⟩, rfl, ?_⟩
  · rw [hsp, hdr] at hrow7
    simpa [flat] using hrow7
  · rw [List.length_append, hR, htl]
    simp [En.cells]
    omega
  · exact Chg.step (hx05.mono fun k _ e => .inl e) hx57 fun k hk _ => .inr (.inl hk)
end
end Fb.Try.QU

/-
  Walks: up and down a heap.
-/
namespace Fb.Try.QU
open Go Go.Proofs Fb
theorem r_quoN {x y r : Int} {K : Int → Prop} (h : Int.tdiv x y = r) (k : K r) : Quo x y K := by rw [Quo_eq, h]; exact k
/-- The same entries, in another order; behind the n first ones nothing has moved. -/
structure Shuf (n : Nat) (l l' : List En) : Prop where
  len : l'.length = l.length
  mem : ∀ e, e ∈ l' ↔ e ∈ l
  tail : ∀ k, n ≤ k → gt l' k = gt l k
theorem Shuf.refl (n : Nat) (l : List En) : Shuf n l l := ⟨rfl, fun _ => Iff.rfl, fun _ _ => rfl⟩
theorem Shuf.trans {n : Nat} {a b c : List En} (h : Shuf n a b) (k : Shuf n b c) : Shuf n a c := ⟨k.len.trans h.len, fun e => (k.mem e).trans (h.mem e), fun i hi => (k.tail i hi).trans (h.tail i hi)⟩
theorem mem_gt {l : List En} {e : En} : e ∈ l ↔ ∃ k, k < l.length ∧ gt l k = e := by
  constructor
  · intro h
    obtain ⟨k, hk, rfl⟩ := List.getElem_of_mem h
    have := gt_get hk
    rw [List.getElem?_eq_getElem hk] at this
    exact ⟨k, hk, (Option.some.inj this).symm⟩
  · rintro ⟨k, hk, rfl⟩
    exact List.mem_of_getElem? (gt_get hk)
theorem swL_mem {l : List En} {i j : Nat} (hi : i < l.length) (hj : j < l.length) (e : En) : e ∈ swL l i j ↔ e ∈ l := by
  rw [mem_gt, mem_gt, swL_len]
  constructor
  · rintro ⟨k, hk, rfl⟩
    rw [gt_swL hi hj]
    unfold sw
    split
    · exact ⟨j, hj, rfl⟩
    · split
      · exact ⟨i, hi, rfl⟩
      · exact ⟨k, hk, rfl⟩
  · rintro ⟨k, hk, rfl⟩
    by_cases h1 : k = i
    · subst h1; exact ⟨j, hj, by rw [gt_swL hi hj, sw_r]⟩
    · by_cases h2 : k = j
      · subst h2; exact ⟨i, hi, by rw [gt_swL hi hj, sw_l]⟩
      · exact ⟨k, hk, by rw [gt_swL hi hj, sw_n _ h1 h2]⟩
theorem Shuf.swap {n : Nat} {l : List En} {i j : Nat} (hi : i < l.length) (hj : j < l.length) (hin : i < n) (hjn : j < n) : Shuf n l (swL l i j) :=
  ⟨swL_len l i j, swL_mem hi hj, fun k hk => by rw [gt_swL hi hj, sw_n _ (by omega) (by omega)]⟩
theorem gt_sw_fun {l : List En} {i j : Nat} (hi : i < l.length) (hj : j < l.length) : gt (swL l i j) = sw (gt l) i j := funext fun k => gt_swL hi hj k
def RS (mb : Nat) (g : Option Nat) (k : Nat) : Prop := k = mb ∨ g = some k
set_option maxRecDepth 100000
theorem m_Len (a : Option Addr) (w : World) : (method (Try.prog.types.size + Made.depth) 85 (.pointer a) "Len").run Try.prog w = .ok (45, .pointer a) w := by kernel_rfl
theorem m_Less (a : Option Addr) (w : World) : (method (Try.prog.types.size + Made.depth) 85 (.pointer a) "Less").run Try.prog w = .ok (105, .pointer a) w := by kernel_rfl
theorem m_Swap (a : Option Addr) (w : World) : (method (Try.prog.types.size + Made.depth) 85 (.pointer a) "Swap").run Try.prog w = .ok (108, .pointer a) w := by kernel_rfl
theorem m_Push (a : Option Addr) (w : World) : (method (Try.prog.types.size + Made.depth) 85 (.pointer a) "Push").run Try.prog w = .ok (107, .pointer a) w := by kernel_rfl
theorem m_Pop (a : Option Addr) (w : World) : (method (Try.prog.types.size + Made.depth) 85 (.pointer a) "Pop").run Try.prog w = .ok (106, .pointer a) w := by kernel_rfl
section
variable {w w' : World} {ab mb c : Nat} {g : Option Nat} {l : List En}
theorem up_ok (h : Pile w ab mb g c l) {n j : Nat} (hj : j < n) (hn : n ≤ l.length) (hu : upI (gt l) n j) : Cal Try.prog 62 ⟨[.iface 85 (.pointer (some ⟨ab, 0, none⟩)), .int .i64 (j : Int)]⟩ w fun _ w' => ∃ l', Pile w' ab mb g c l' ∧ hp (gt l') n ∧ Shuf n l l' ∧ Chg (RS mb g) w w' := by
  have hlen := h.len
  refine go62 (by rfl) ?_
  (repeat ((conv => whnf); (first | (with_reducible first | refine jA ?_ | refine jB ?_ | refine jC ?_ | refine jD ?_) | refine jE ?_ | refine jF ?_ | refine jG ?_ | refine jH ?_ | refine jI ?_ | refine jJ ?_ | refine jK ?_ | refine jL ?_ | refine jM ?_ | refine jN ?_ | refine jO ?_ | refine jP ?_ | refine jQ ?_ | refine jR ?_ | refine jS (k := ?_) | refine jT (k := ?_)))); (conv => whnf)
  refine r_loop (σ := Nat) (fun j => [.int .i64 (j : Int)]) (fun j w' => j < n ∧ ∃ l', Pile w' ab mb g c l' ∧ upI (gt l') n j ∧ Shuf n l l' ∧ Chg (RS mb g) w w') (fun j _ => j) j rfl ⟨hj, l, h, hu, Shuf.refl _ _, Chg.refl _ _⟩ ?_
  clear hj hu
  rintro j w1 again ⟨hj, l', h1, hu, hs, hc⟩ hagain
  have hl' := hs.len
  by_cases hj0 : j = 0
  · subst hj0
    (repeat ((conv => whnf); (first | (with_reducible first | refine jA ?_ | refine jB ?_ | refine jC ?_ | refine jD ?_) | refine jE ?_ | refine jF ?_ | refine jG ?_ | refine jH ?_ | refine jI ?_ | refine jJ ?_ | refine jK ?_ | refine jL ?_ | refine jM ?_ | refine jN ?_ | refine jO ?_ | refine jP ?_ | refine jQ ?_ | refine jR ?_ | refine jS (k := ?_) | refine jT (k := ?_)))); (conv => whnf)
    refine r_quoN (r := 0) (by decide) ?_
    (repeat ((conv => whnf); (first | (with_reducible first | refine jA ?_ | refine jB ?_ | refine jC ?_ | refine jD ?_) | refine jE ?_ | refine jF ?_ | refine jG ?_ | refine jH ?_ | refine jI ?_ | refine jJ ?_ | refine jK ?_ | refine jL ?_ | refine jM ?_ | refine jN ?_ | refine jO ?_ | refine jP ?_ | refine jQ ?_ | refine jR ?_ | refine jS (k := ?_) | refine jT (k := ?_)))); (conv => whnf)
    exact ⟨l', h1, hu.done fun h => by omega, hs, hc⟩
  have hp : par j < j := by unfold par; omega
  have hi : ((j : Int) - 1) / 2 = (par j : Int) := by unfold par; omega
  (repeat ((conv => whnf); (first | (with_reducible first | refine jA ?_ | refine jB ?_ | refine jC ?_ | refine jD ?_) | refine jE ?_ | refine jF ?_ | refine jG ?_ | refine jH ?_ | refine jI ?_ | refine jJ ?_ | refine jK ?_ | refine jL ?_ | refine jM ?_ | refine jN ?_ | refine jO ?_ | refine jP ?_ | refine jQ ?_ | refine jR ?_ | refine jS (k := ?_) | refine jT (k := ?_)))); (conv => whnf)
  rw [hi]
  (repeat ((conv => whnf); (first | (with_reducible first | refine jA ?_ | refine jB ?_ | refine jC ?_ | refine jD ?_) | refine jE ?_ | refine jF ?_ | refine jG ?_ | refine jH ?_ | refine jI ?_ | refine jJ ?_ | refine jK ?_ | refine jL ?_ | refine jM ?_ | refine jN ?_ | refine jO ?_ | refine jP ?_ | refine jQ ?_ | refine jR ?_ | refine jS (k := ?_) | refine jT (k := ?_)))); (conv => whnf)
  refine r_calI (m_Less _) (by kernel_rfl) (Less_ok h1 (i := j) (j := par j) (by omega) (by omega)) ?_
  rintro _ w2 ⟨hx2, rfl⟩
  by_cases hl : less (gt l' j) (gt l' (par j))
  · simp only [hl, decide_true]
    (repeat ((conv => whnf); (first | (with_reducible first | refine jA ?_ | refine jB ?_ | refine jC ?_ | refine jD ?_) | refine jE ?_ | refine jF ?_ | refine jG ?_ | refine jH ?_ | refine jI ?_ | refine jJ ?_ | refine jK ?_ | refine jL ?_ | refine jM ?_ | refine jN ?_ | refine jO ?_ | refine jP ?_ | refine jQ ?_ | refine jR ?_ | refine jS (k := ?_) | refine jT (k := ?_)))); (conv => whnf)
    refine r_calI (m_Swap _) (by kernel_rfl) (Swap_ok (h1.ext hx2) (i := par j) (j := j) (by omega) (by omega)) ?_
    rintro _ w3 ⟨h3, hc3⟩
    (repeat ((conv => whnf); (first | (with_reducible first | refine jA ?_ | refine jB ?_ | refine jC ?_ | refine jD ?_) | refine jE ?_ | refine jF ?_ | refine jG ?_ | refine jH ?_ | refine jI ?_ | refine jJ ?_ | refine jK ?_ | refine jL ?_ | refine jM ?_ | refine jN ?_ | refine jO ?_ | refine jP ?_ | refine jQ ?_ | refine jR ?_ | refine jS (k := ?_) | refine jT (k := ?_)))); (conv => whnf)
    refine hagain (par j) w3 ⟨by omega, _, h3, ?_, hs.trans (Shuf.swap (by omega) (by omega) (by omega) hj), (hc.ext hx2).trans (hc3.mono fun k _ e => e)⟩ hp
    rw [gt_sw_fun (by omega) (by omega)]
    exact hu.step (by omega) hj hl
  · simp only [hl, decide_false]
    (repeat ((conv => whnf); (first | (with_reducible first | refine jA ?_ | refine jB ?_ | refine jC ?_ | refine jD ?_) | refine jE ?_ | refine jF ?_ | refine jG ?_ | refine jH ?_ | refine jI ?_ | refine jJ ?_ | refine jK ?_ | refine jL ?_ | refine jM ?_ | refine jN ?_ | refine jO ?_ | refine jP ?_ | refine jQ ?_ | refine jR ?_ | refine jS (k := ?_) | refine jT (k := ?_)))); (conv => whnf)
    exact ⟨l', h1.ext hx2, hu.done fun _ => hl, hs, hc.ext hx2⟩
set_option maxHeartbeats 1000000 in
theorem down_ok (h : Pile w ab mb g c l) {n i0 : Nat} (hn : n ≤ l.length) (hi0 : i0 ≤ 1000) (hd : downI (gt l) n i0 i0) : Cal Try.prog 63 ⟨[.iface 85 (.pointer (some ⟨ab, 0, none⟩)), .int .i64 (i0 : Int), .int .i64 (n : Int)]⟩ w fun v w' => ∃ l' b, v = .bool b ∧ Pile w' ab mb g c l' ∧ (b = true → hp (gt l') n) ∧ (b = false → upI (gt l') n i0) ∧ Shuf n l l' ∧ Chg (RS mb g) w w' := by
  have hlen := h.len
  refine go63 (by rfl) ?_
  (repeat ((conv => whnf); (first | (with_reducible first | refine jA ?_ | refine jB ?_ | refine jC ?_ | refine jD ?_) | refine jE ?_ | refine jF ?_ | refine jG ?_ | refine jH ?_ | refine jI ?_ | refine jJ ?_ | refine jK ?_ | refine jL ?_ | refine jM ?_ | refine jN ?_ | refine jO ?_ | refine jP ?_ | refine jQ ?_ | refine jR ?_ | refine jS (k := ?_) | refine jT (k := ?_)))); (conv => whnf)
  refine r_loop (σ := Nat) (fun i => [.int .i64 (i : Int)]) (fun i w' => i0 ≤ i ∧ i ≤ 1000 ∧ ∃ l', Pile w' ab mb g c l' ∧ downI (gt l') n i0 i ∧ Shuf n l l' ∧ Chg (RS mb g) w w') (fun i _ => 1001 - i) i0 rfl ⟨Nat.le_refl _, hi0, l, h, hd, Shuf.refl _ _, Chg.refl _ _⟩ ?_
  clear hd
  rintro i w1 again ⟨hii, hi1, l', h1, hd, hs, hc⟩ hagain
  have hl' := hs.len
  by_cases hj : 2 * i + 1 < n
  rotate_left
  · have hfin := hd.done fun k h0 hk hp => by unfold par at hp; omega
    by_cases hne : i = i0
    all_goals
      (repeat ((conv => whnf); (first | (with_reducible first | refine jA ?_ | refine jB ?_ | refine jC ?_ | refine jD ?_) | refine jE ?_ | refine jF ?_ | refine jG ?_ | refine jH ?_ | refine jI ?_ | refine jJ ?_ | refine jK ?_ | refine jL ?_ | refine jM ?_ | refine jN ?_ | refine jO ?_ | refine jP ?_ | refine jQ ?_ | refine jR ?_ | refine jS (k := ?_) | refine jT (k := ?_)))); (conv => whnf)
      refine ⟨l', _, rfl, h1, fun e => ?_, fun e => ?_, hs, hc⟩
      · exact hfin.1 (by simp at e; omega)
      · exact hfin.2 (by simp at e; omega)
  have fin : ∀ (w2 : World) (j : Nat), Ext w1 w2 → j < n → par j = i → 0 < j → (∀ k, 0 < k → k < n → par k = i → ¬ less (gt l' k) (gt l' j)) → ¬ less (gt l' j) (gt l' i) → ∃ l'' b, Value.bool (decide ((i : Int) > i0)) = .bool b ∧ Pile w2 ab mb g c l'' ∧ (b = true → hp (gt l'') n) ∧ (b = false → upI (gt l'') n i0) ∧ Shuf n l l'' ∧ Chg (RS mb g) w w2 := by
    intro w2 j hx hjn hpj h0 hmin hno
    have hfin := hd.done fun k h0 hk hp => fun hl => (hmin k h0 hk hp) (by unfold less at *; omega)
    refine ⟨l', _, rfl, h1.ext hx, fun e => hfin.1 (by simp at e; omega), fun e => hfin.2 (by simp at e; omega), hs, hc.ext hx⟩
  have stp : ∀ (w3 : World) (j : Nat), Pile w3 ab mb g c (swL l' i j) → Chg (RS mb g) w w3 → j < n → par j = i → 0 < j → (∀ k, 0 < k → k < n → par k = i → ¬ less (gt l' k) (gt l' j)) → less (gt l' j) (gt l' i) → again [.int .i64 (j : Int)] w3 := by
    intro w3 j h3 hc3 hjn hpj h0 hmin hl
    obtain ⟨hd3, e1, e2⟩ := hd.step hpj h0 hjn hmin hl hii
    refine hagain j w3 ⟨e1, by omega, _, h3, ?_, hs.trans (Shuf.swap (by omega) (by omega) (by omega) hjn), hc3⟩ (by omega)
    rw [gt_sw_fun (by omega) (by omega)]
    exact hd3
  have pc : ∀ k, par k = i → 0 < k → k = 2 * i + 1 ∨ k = 2 * i + 1 + 1 := fun k hk h0 => by unfold par at hk; omega
  have p1 : par (2 * i + 1) = i := by unfold par; omega
  have p2 : par (2 * i + 1 + 1) = i := by unfold par; omega
  have ji : 2 * (i : Int) + 1 = ((2 * i + 1 : Nat) : Int) := by omega
  have ji2 : ((2 * i + 1 : Nat) : Int) + 1 = ((2 * i + 1 + 1 : Nat) : Int) := by omega
  (repeat ((conv => whnf); (first | (with_reducible first | refine jA ?_ | refine jB ?_ | refine jC ?_ | refine jD ?_) | refine jE ?_ | refine jF ?_ | refine jG ?_ | refine jH ?_ | refine jI ?_ | refine jJ ?_ | refine jK ?_ | refine jL ?_ | refine jM ?_ | refine jN ?_ | refine jO ?_ | refine jP ?_ | refine jQ ?_ | refine jR ?_ | refine jS (k := ?_) | refine jT (k := ?_)))); (conv => whnf)
  rw [ji, ji2]
  by_cases h2 : 2 * i + 1 + 1 < n
  · (repeat ((conv => whnf); (first | (with_reducible first | refine jA ?_ | refine jB ?_ | refine jC ?_ | refine jD ?_) | refine jE ?_ | refine jF ?_ | refine jG ?_ | refine jH ?_ | refine jI ?_ | refine jJ ?_ | refine jK ?_ | refine jL ?_ | refine jM ?_ | refine jN ?_ | refine jO ?_ | refine jP ?_ | refine jQ ?_ | refine jR ?_ | refine jS (k := ?_) | refine jT (k := ?_)))); (conv => whnf)
    refine r_calI (m_Less _) (by kernel_rfl) (Less_ok h1 (i := 2 * i + 1 + 1) (j := 2 * i + 1) (by omega) (by omega)) ?_
    rintro _ w2 ⟨hx2, rfl⟩
    by_cases hl2 : less (gt l' (2 * i + 1 + 1)) (gt l' (2 * i + 1))
    · simp only [hl2, decide_true]
      have hmin : ∀ k, 0 < k → k < n → par k = i → ¬ less (gt l' k) (gt l' (2 * i + 1 + 1)) := fun k h0 _ hk => by
        rcases pc k hk h0 with rfl | rfl
        · exact less_asymm hl2
        · exact less_irrefl _
      (repeat ((conv => whnf); (first | (with_reducible first | refine jA ?_ | refine jB ?_ | refine jC ?_ | refine jD ?_) | refine jE ?_ | refine jF ?_ | refine jG ?_ | refine jH ?_ | refine jI ?_ | refine jJ ?_ | refine jK ?_ | refine jL ?_ | refine jM ?_ | refine jN ?_ | refine jO ?_ | refine jP ?_ | refine jQ ?_ | refine jR ?_ | refine jS (k := ?_) | refine jT (k := ?_)))); (conv => whnf)
      refine r_calI (m_Less _) (by kernel_rfl) (Less_ok (h1.ext hx2) (i := 2 * i + 1 + 1) (j := i) (by omega) (by omega)) ?_
      rintro _ w3 ⟨hx3, rfl⟩
      have y3 := hx2.trans hx3
      by_cases hl : less (gt l' (2 * i + 1 + 1)) (gt l' i)
      · simp only [hl, decide_true]
        (repeat ((conv => whnf); (first | (with_reducible first | refine jA ?_ | refine jB ?_ | refine jC ?_ | refine jD ?_) | refine jE ?_ | refine jF ?_ | refine jG ?_ | refine jH ?_ | refine jI ?_ | refine jJ ?_ | refine jK ?_ | refine jL ?_ | refine jM ?_ | refine jN ?_ | refine jO ?_ | refine jP ?_ | refine jQ ?_ | refine jR ?_ | refine jS (k := ?_) | refine jT (k := ?_)))); (conv => whnf)
        refine r_calI (m_Swap _) (by kernel_rfl) (Swap_ok (h1.ext y3) (i := i) (j := 2 * i + 1 + 1) (by omega) (by omega)) ?_
        rintro _ w4 ⟨h4, hc4⟩
        (repeat ((conv => whnf); (first | (with_reducible first | refine jA ?_ | refine jB ?_ | refine jC ?_ | refine jD ?_) | refine jE ?_ | refine jF ?_ | refine jG ?_ | refine jH ?_ | refine jI ?_ | refine jJ ?_ | refine jK ?_ | refine jL ?_ | refine jM ?_ | refine jN ?_ | refine jO ?_ | refine jP ?_ | refine jQ ?_ | refine jR ?_ | refine jS (k := ?_) | refine jT (k := ?_)))); (conv => whnf)
        exact stp w4 (2 * i + 1 + 1) h4 ((hc.ext y3).trans (hc4.mono fun k _ e => e)) (by omega) p2 (by omega) hmin hl
      · simp only [hl, decide_false]
        (repeat ((conv => whnf); (first | (with_reducible first | refine jA ?_ | refine jB ?_ | refine jC ?_ | refine jD ?_) | refine jE ?_ | refine jF ?_ | refine jG ?_ | refine jH ?_ | refine jI ?_ | refine jJ ?_ | refine jK ?_ | refine jL ?_ | refine jM ?_ | refine jN ?_ | refine jO ?_ | refine jP ?_ | refine jQ ?_ | refine jR ?_ | refine jS (k := ?_) | refine jT (k := ?_)))); (conv => whnf)
        exact fin w3 (2 * i + 1 + 1) y3 (by omega) p2 (by omega) hmin hl
    · simp only [hl2, decide_false]
      have hmin : ∀ k, 0 < k → k < n → par k = i → ¬ less (gt l' k) (gt l' (2 * i + 1)) := fun k h0 _ hk => by
        rcases pc k hk h0 with rfl | rfl
        · exact less_irrefl _
        · exact hl2
      (repeat ((conv => whnf); (first | (with_reducible first | refine jA ?_ | refine jB ?_ | refine jC ?_ | refine jD ?_) | refine jE ?_ | refine jF ?_ | refine jG ?_ | refine jH ?_ | refine jI ?_ | refine jJ ?_ | refine jK ?_ | refine jL ?_ | refine jM ?_ | refine jN ?_ | refine jO ?_ | refine jP ?_ | refine jQ ?_ | refine jR ?_ | refine jS (k := ?_) | refine jT (k := ?_)))); (conv => whnf)
      refine r_calI (m_Less _) (by kernel_rfl) (Less_ok (h1.ext hx2) (i := 2 * i + 1) (j := i) (by omega) (by omega)) ?_
      rintro _ w3 ⟨hx3, rfl⟩
      have y3 := hx2.trans hx3
      by_cases hl : less (gt l' (2 * i + 1)) (gt l' i)
      · simp only [hl, decide_true]
        (repeat ((conv => whnf); (first | (with_reducible first | refine jA ?_ | refine jB ?_ | refine jC ?_ | refine jD ?_) | refine jE ?_ | refine jF ?_ | refine jG ?_ | refine jH ?_ | refine jI ?_ | refine jJ ?_ | refine jK ?_ | refine jL ?_ | refine jM ?_ | refine jN ?_ | refine jO ?_ | refine jP ?_ | refine jQ ?_ | refine jR ?_ | refine jS (k := ?_) | refine jT (k := ?_)))); (conv => whnf)
        refine r_calI (m_Swap _) (by kernel_rfl) (Swap_ok (h1.ext y3) (i := i) (j := 2 * i + 1) (by omega) (by omega)) ?_
        rintro _ w4 ⟨h4, hc4⟩
        (repeat ((conv => whnf); (first | (with_reducible first | refine jA ?_ | refine jB ?_ | refine jC ?_ | refine jD ?_) | refine jE ?_ | refine jF ?_ | refine jG ?_ | refine jH ?_ | refine jI ?_ | refine jJ ?_ | refine jK ?_ | refine jL ?_ | refine jM ?_ | refine jN ?_ | refine jO ?_ | refine jP ?_ | refine jQ ?_ | refine jR ?_ | refine jS (k := ?_) | refine jT (k := ?_)))); (conv => whnf)
        exact stp w4 (2 * i + 1) h4 ((hc.ext y3).trans (hc4.mono fun k _ e => e)) (by omega) p1 (by omega) hmin hl
      · simp only [hl, decide_false]
        (repeat ((conv => whnf); (first | (with_reducible first | refine jA ?_ | refine jB ?_ | refine jC ?_ | refine jD ?_) | refine jE ?_ | refine jF ?_ | refine jG ?_ | refine jH ?_ | refine jI ?_ | refine jJ ?_ | refine jK ?_ | refine jL ?_ | refine jM ?_ | refine jN ?_ | refine jO ?_ | refine jP ?_ | refine jQ ?_ | refine jR ?_ | refine jS (k := ?_) | refine jT (k := ?_)))); (conv => whnf)
        exact fin w3 (2 * i + 1) y3 (by omega) p1 (by omega) hmin hl
  · have hmin : ∀ k, 0 < k → k < n → par k = i → ¬ less (gt l' k) (gt l' (2 * i + 1)) := fun k h0 hkn hk => by
      rcases pc k hk h0 with rfl | rfl
      · exact less_irrefl _
      · omega
    have hx2 := Ext.refl w1
    (repeat ((conv => whnf); (first | (with_reducible first | refine jA ?_ | refine jB ?_ | refine jC ?_ | refine jD ?_) | refine jE ?_ | refine jF ?_ | refine jG ?_ | refine jH ?_ | refine jI ?_ | refine jJ ?_ | refine jK ?_ | refine jL ?_ | refine jM ?_ | refine jN ?_ | refine jO ?_ | refine jP ?_ | refine jQ ?_ | refine jR ?_ | refine jS (k := ?_) | refine jT (k := ?_)))); (conv => whnf)
    refine r_calI (m_Less _) (by kernel_rfl) (Less_ok (h1.ext hx2) (i := 2 * i + 1) (j := i) (by omega) (by omega)) ?_
    rintro _ w3 ⟨hx3, rfl⟩
    have y3 := hx2.trans hx3
    by_cases hl : less (gt l' (2 * i + 1)) (gt l' i)
    · simp only [hl, decide_true]
      (repeat ((conv => whnf); (first | (with_reducible first | refine jA ?_ | refine jB ?_ | refine jC ?_ | refine jD ?_) | refine jE ?_ | refine jF ?_ | refine jG ?_ | refine jH ?_ | refine jI ?_ | refine jJ ?_ | refine jK ?_ | refine jL ?_ | refine jM ?_ | refine jN ?_ | refine jO ?_ | refine jP ?_ | refine jQ ?_ | refine jR ?_ | refine jS (k := ?_) | refine jT (k := ?_)))); (conv => whnf)
      refine r_calI (m_Swap _) (by kernel_rfl) (Swap_ok (h1.ext y3) (i := i) (j := 2 * i + 1) (by omega) (by omega)) ?_
      rintro _ w4 ⟨h4, hc4⟩
      (repeat ((conv => whnf); (first | (with_reducible first | refine jA ?_ | refine jB ?_ | refine jC ?_ | refine jD ?_) | refine jE ?_ | refine jF ?_ | refine jG ?_ | refine jH ?_ | refine jI ?_ | refine jJ ?_ | refine jK ?_ | refine jL ?_ | refine jM ?_ | refine jN ?_ | refine jO ?_ | refine jP ?_ | refine jQ ?_ | refine jR ?_ | refine jS (k := ?_) | refine jT (k := ?_)))); (conv => whnf)
      exact stp w4 (2 * i + 1) h4 ((hc.ext y3).trans (hc4.mono fun k _ e => e)) (by omega) p1 (by omega) hmin hl
    · simp only [hl, decide_false]
      (repeat ((conv => whnf); (first | (with_reducible first | refine jA ?_ | refine jB ?_ | refine jC ?_ | refine jD ?_) | refine jE ?_ | refine jF ?_ | refine jG ?_ | refine jH ?_ | refine jI ?_ | refine jJ ?_ | refine jK ?_ | refine jL ?_ | refine jM ?_ | refine jN ?_ | refine jO ?_ | refine jP ?_ | refine jQ ?_ | refine jR ?_ | refine jS (k := ?_) | refine jT (k := ?_)))); (conv => whnf)
      exact fin w3 (2 * i + 1) y3 (by omega) p1 (by omega) hmin hl
end
end Fb.Try.QU
