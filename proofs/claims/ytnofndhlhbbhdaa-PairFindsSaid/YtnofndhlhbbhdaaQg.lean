/-
  Walks: the document's rows of entries; the chapter's example; a nil agenda.
-/
import Derived.Test.YtnofndhlhbbhdaaQf
import Derived.Test.YtnofndhlhbbhdaaVq
namespace Fb
open Go Go.Proofs
theorem adrV (a : Option Addr) (x f : Nat) : (⟨blk a, ofs a + x + f, none⟩ : Addr) = ⟨blk a, ofs a + (x + f), none⟩ := by rw [Nat.add_assoc]
end Fb
namespace Fb.Try.QU
open Go Go.Proofs Fb
theorem dist_pw {l : List En} : Dist l ↔ l.Pairwise (fun a b => a.place ≠ b.place) := by
  rw [List.pairwise_iff_getElem]
  have e : ∀ (i : Nat) (h : i < l.length), l[i] = gt l i := fun i h => by
    have := gt_get h
    rw [List.getElem?_eq_getElem h] at this
    exact Option.some.inj this
  constructor
  · intro h i j hi hj hij he
    rw [e i hi, e j hj] at he
    have := h i j hi hj he
    omega
  · intro h i j hi hj he
    rcases Nat.lt_trichotomy i j with h1 | h1 | h1
    · exact absurd (by rw [e i hi, e j hj]; exact he) (h i j hi hj h1)
    · exact h1
    · exact absurd (by rw [e i hi, e j hj]; exact he.symm) (h j i hj hi h1)
def wo (l : List En) (p : Int) : List En := l.filter fun e => decide (e.place ≠ p)
theorem wo_mem {l : List En} {p : Int} {x : En} : x ∈ wo l p ↔ x ∈ l ∧ x.place ≠ p := by simp [wo]
theorem wo_dist {l : List En} (h : Dist l) (p : Int) : Dist (wo l p) := dist_pw.2 (List.Pairwise.filter _ (dist_pw.1 h))
theorem wo_lt {l : List En} (p : Int) : (wo l p).length < l.length ↔ (pos l p).isSome = true := by
  constructor
  · intro h
    cases hp : pos l p with
    | some i => rfl
    | none =>
      have : wo l p = l := by
        unfold wo
        rw [List.filter_eq_self]
        intro x hx
        obtain ⟨k, hk, rfl⟩ := mem_gt.1 hx
        simpa using pos_none hp k hk
      rw [this] at h
      omega
  · intro h
    rw [Option.isSome_iff_exists] at h
    obtain ⟨i, hi⟩ := h
    obtain ⟨h1, h2⟩ := pos_some hi
    unfold wo
    rw [List.length_filter_lt_length_iff_exists]
    exact ⟨gt l i, mem_gt.2 ⟨i, h1, rfl⟩, by simp [h2]⟩
theorem wo_succ {l : List En} {i : Nat} (h : i < l.length) (p : Int) : wo (l.take (i + 1)) p = wo (l.take i) p ++ (if (gt l i).place ≠ p then [gt l i] else []) := by
  have e : l[i] = gt l i := by
    have := gt_get h
    rw [List.getElem?_eq_getElem h] at this
    exact Option.some.inj this
  unfold wo
  rw [List.take_succ_eq_append_getElem h, List.filter_append, e]
  congr 1
  by_cases hp : (gt l i).place = p <;> simp [hp]
theorem flat_at {l : List En} {i : Nat} (h : i < l.length) (f : Nat) (hf : f < 3) : (flat l)[i * 3 + f]? = (gt l i).cells[f]? := by
  have := flat_cell h [] f hf
  rwa [List.append_nil] at this
theorem flat_ent {l : List En} {i : Nat} (h : i < l.length) : ((flat l).drop (i * 3)).take 3 = (gt l i).cells := by
  have := flat_get h []
  rwa [List.append_nil] at this
theorem mem_place {l : List En} (h : Dist l) {x y : En} (hx : x ∈ l) (hy : y ∈ l) (he : x.place = y.place) : x = y := by
  obtain ⟨i, hi, rfl⟩ := mem_gt.1 hx
  obtain ⟨j, hj, rfl⟩ := mem_gt.1 hy
  rw [h i j hi hj he]
theorem cells_inj {x y : En} (h : x.cells = y.cells) : x = y := by
  cases x
  cases y
  simp [En.cells] at h
  simp [h]
/-- Two rows of the same entries. -/
structure Agr (l r : List En) : Prop where
  dl : Dist l
  dr : Dist r
  mem : ∀ x, x ∈ l ↔ x ∈ r
theorem Agr.len {l r : List En} (h : Agr l r) : l.length = r.length := Nat.le_antisymm (dist_le h.dl fun x hx => (h.mem x).1 hx) (dist_le h.dr fun x hx => (h.mem x).2 hx)
theorem Agr.pos {l r : List En} (h : Agr l r) (p : Int) : (pos l p).isSome = (pos r p).isSome := by
  have key : ∀ {a b : List En}, (∀ x, x ∈ a → x ∈ b) → (QU.pos a p).isSome = true → (QU.pos b p).isSome = true := by
    intro a b hab ha
    rw [Option.isSome_iff_exists] at ha
    obtain ⟨i, hi⟩ := ha
    obtain ⟨h1, h2⟩ := pos_some hi
    obtain ⟨j, h3, h4⟩ := mem_gt.1 (hab _ (mem_gt.2 ⟨i, h1, rfl⟩))
    cases hb : QU.pos b p with
    | some k => rfl
    | none => exact absurd (by rw [h4, h2]) (pos_none hb j h3)
  rw [Bool.eq_iff_iff]
  exact ⟨key fun x => (h.mem x).1, key fun x => (h.mem x).2⟩
theorem Agr.has {l r : List En} (h : Agr l r) (p : Int) : hasE l p = hasE r p := by
  have hp := h.pos p
  unfold hasE
  cases hl : QU.pos l p with
  | none =>
    cases hr : QU.pos r p with
    | none => rfl
    | some j => rw [hl, hr] at hp; cases hp
  | some i =>
    cases hr : QU.pos r p with
    | none => rw [hl, hr] at hp; cases hp
    | some j =>
      obtain ⟨h1, h2⟩ := pos_some hl
      obtain ⟨h3, h4⟩ := pos_some hr
      have := mem_place h.dr ((h.mem _).1 (mem_gt.2 ⟨i, h1, rfl⟩)) (mem_gt.2 ⟨j, h3, rfl⟩) (by rw [h2, h4])
      simp [this]
theorem Agr.least {l r : List En} (h : Agr l r) {x y : En} (hx : x ∈ l) (hy : y ∈ r) (h1 : ∀ e ∈ l, ¬ less e x) (h2 : ∀ e ∈ r, ¬ less e y) : x = y := by
  have a := h1 y ((h.mem y).2 hy)
  have b := h2 x ((h.mem x).1 hx)
  by_cases hp : x.place = y.place
  · exact mem_place h.dr ((h.mem x).1 hx) hy hp
  · rcases less_or hp with h3 | h3
    · exact absurd h3 b
    · exact absurd h3 a
theorem Ag.least {w : World} {ab mb c : Nat} {g : Option Nat} {l : List En} (h : Ag w ab mb g c l) : ∀ e ∈ l, ¬ less e (gt l 0) := fun e he => by
  obtain ⟨k, hk, rfl⟩ := mem_gt.1 he
  exact h.heap.least k hk
theorem empty_own {w : World} {b base : Nat} (h : Blk w b 28 []) (hb : base ≤ b) : w.ownsRow base 28 3 (.slice (some ⟨b, 0, none⟩) 0 0) 0 [] :=
  ⟨rfl, .inr ⟨b, 0, #[], rfl, hb, h, Nat.le_refl _, by simp [maxLen], rfl, rfl⟩⟩
section
variable {w w' : World} {a : Option Addr} {len cap : Nat} {l : List En}
theorem Without_ok (hv : View w a len cap 3 (flat l)) (hl : len ≤ 1000) (p : Int) : Cal Try.prog 24 ⟨[.slice a len cap, .int .i64 p]⟩ w fun v w' => Ext w w' ∧ ∃ u, v = .tuple ⟨[u, .bool (pos l p).isSome]⟩ ∧ w'.ownsRow w.heap.size 28 3 u (wo l p).length (flat (wo l p)) := by
  have hlen : l.length = len := by have := hv.length; rw [flat_len] at this; omega
  refine go24 (by rfl) ?_
  (repeat ((conv => whnf); (first | (with_reducible first | refine jA ?_ | refine jB ?_ | refine jC ?_ | refine jD ?_) | refine jE ?_ | refine jF ?_ | refine jG ?_ | refine jH ?_ | refine jI ?_ | refine jJ ?_ | refine jK ?_ | refine jL ?_ | refine jM ?_ | refine jN ?_ | refine jO ?_ | refine jP ?_ | refine jQ ?_ | refine jR ?_ | refine jS (k := ?_) | refine jT (k := ?_)))); (conv => whnf)
  refine r_new fun o w1 hx1 hb1 hs1 hblk1 => ?_
  (repeat ((conv => whnf); (first | (with_reducible first | refine jA ?_ | refine jB ?_ | refine jC ?_ | refine jD ?_) | refine jE ?_ | refine jF ?_ | refine jG ?_ | refine jH ?_ | refine jI ?_ | refine jJ ?_ | refine jK ?_ | refine jL ?_ | refine jM ?_ | refine jN ?_ | refine jO ?_ | refine jP ?_ | refine jQ ?_ | refine jR ?_ | refine jS (k := ?_) | refine jT (k := ?_)))); (conv => whnf)
  refine r_loop (σ := Value × Nat) (fun x => [x.1, .int .i64 (x.2 : Int)]) (fun x w' => x.2 ≤ len ∧ Ext w w' ∧ w'.ownsRow w.heap.size 28 3 x.1 (wo (l.take x.2) p).length (flat (wo (l.take x.2) p))) (fun x _ => len - x.2) (_, 0) rfl ⟨Nat.zero_le _, hx1, empty_own hblk1 hb1⟩ ?_
  clear hblk1
  rintro ⟨v, i⟩ w2 again ⟨hi, hx2, hown⟩ hagain
  dsimp only at hi hx2 hown hagain ⊢
  have hz2 := hx2.size
  have hwl : (wo (l.take i) p).length ≤ i := by
    refine Nat.le_trans (List.length_filter_le _ _) ?_
    rw [List.length_take]
    omega
  by_cases hil : i < len
  · have hp := hv.plain (by rw [flat_len]; omega)
    have hws := wo_succ (l := l) (i := i) (by omega) p
    have hv2 := hv.ext hx2
    by_cases hne : (gt l i).place = p
    · rw [if_neg (by simpa using hne), List.append_nil] at hws
      (repeat ((conv => whnf); (first | (with_reducible first | refine jA ?_ | refine jB ?_ | refine jC ?_ | refine jD ?_) | refine jE ?_ | refine jF ?_ | refine jG ?_ | refine jH ?_ | refine jI ?_ | refine jJ ?_ | refine jK ?_ | refine jL ?_ | refine jM ?_ | refine jN ?_ | refine jO ?_ | refine jP ?_ | refine jQ ?_ | refine jR ?_ | refine jS (k := ?_) | refine jT (k := ?_)))); (conv => whnf)
      rw [adrV]
      refine r_ldv hv2 (flat_at (i := i) (by omega) 0 (by omega)) ?_
      (repeat ((conv => whnf); (first | (with_reducible first | refine jA ?_ | refine jB ?_ | refine jC ?_ | refine jD ?_) | refine jE ?_ | refine jF ?_ | refine jG ?_ | refine jH ?_ | refine jI ?_ | refine jJ ?_ | refine jK ?_ | refine jL ?_ | refine jM ?_ | refine jN ?_ | refine jO ?_ | refine jP ?_ | refine jQ ?_ | refine jR ?_ | refine jS (k := ?_) | refine jT (k := ?_)))); (conv => whnf)
      refine hagain (v, i + 1) w2 ⟨by dsimp only; omega, hx2, ?_⟩ (by dsimp only; omega)
      rw [hws]
      exact hown
    · rw [if_pos hne] at hws
      (repeat ((conv => whnf); (first | (with_reducible first | refine jA ?_ | refine jB ?_ | refine jC ?_ | refine jD ?_) | refine jE ?_ | refine jF ?_ | refine jG ?_ | refine jH ?_ | refine jI ?_ | refine jJ ?_ | refine jK ?_ | refine jL ?_ | refine jM ?_ | refine jN ?_ | refine jO ?_ | refine jP ?_ | refine jQ ?_ | refine jR ?_ | refine jS (k := ?_) | refine jT (k := ?_)))); (conv => whnf)
      rw [adrV]
      refine r_ldv hv2 (flat_at (i := i) (by omega) 0 (by omega)) ?_
      (repeat ((conv => whnf); (first | (with_reducible first | refine jA ?_ | refine jB ?_ | refine jC ?_ | refine jD ?_) | refine jE ?_ | refine jF ?_ | refine jG ?_ | refine jH ?_ | refine jI ?_ | refine jJ ?_ | refine jK ?_ | refine jL ?_ | refine jM ?_ | refine jN ?_ | refine jO ?_ | refine jP ?_ | refine jQ ?_ | refine jR ?_ | refine jS (k := ?_) | refine jT (k := ?_)))); (conv => whnf)
      refine r_ldnv (j := (i : Int).toNat * 3) (vs := (gt l i).cells) hv2 (flat_ent (by omega)) rfl ?_
      (repeat ((conv => whnf); (first | (with_reducible first | refine jA ?_ | refine jB ?_ | refine jC ?_ | refine jD ?_) | refine jE ?_ | refine jF ?_ | refine jG ?_ | refine jH ?_ | refine jI ?_ | refine jJ ?_ | refine jK ?_ | refine jL ?_ | refine jM ?_ | refine jN ?_ | refine jO ?_ | refine jP ?_ | refine jQ ?_ | refine jR ?_ | refine jS (k := ?_) | refine jT (k := ?_)))); (conv => whnf)
      refine r_new fun b6 w6 hx6 hb6 hs6 hblk6 => ?_
      (repeat ((conv => whnf); (first | (with_reducible first | refine jA ?_ | refine jB ?_ | refine jC ?_ | refine jD ?_) | refine jE ?_ | refine jF ?_ | refine jG ?_ | refine jH ?_ | refine jI ?_ | refine jJ ?_ | refine jK ?_ | refine jL ?_ | refine jM ?_ | refine jN ?_ | refine jO ?_ | refine jP ?_ | refine jQ ?_ | refine jR ?_ | refine jS (k := ?_) | refine jT (k := ?_)))); (conv => whnf)
      refine r_app een (own_ext hown hx6) (View.of_blk (n := 1) (size := 3) hblk6 (by rfl) (by simp [maxLen])) (cells_one (gt l i)) (by omega) (by have := hx6.size; omega) fun v7 w7 hown7 hc7 _ => ?_
      (repeat ((conv => whnf); (first | (with_reducible first | refine jA ?_ | refine jB ?_ | refine jC ?_ | refine jD ?_) | refine jE ?_ | refine jF ?_ | refine jG ?_ | refine jH ?_ | refine jI ?_ | refine jJ ?_ | refine jK ?_ | refine jL ?_ | refine jM ?_ | refine jN ?_ | refine jO ?_ | refine jP ?_ | refine jQ ?_ | refine jR ?_ | refine jS (k := ?_) | refine jT (k := ?_)))); (conv => whnf)
      refine hagain (v7, i + 1) w7 ⟨by dsimp only; omega, Chg.own (hx2.trans hx6) hc7 (own_ext hown hx6), ?_⟩ (by dsimp only; omega)
      rw [hws, flat_app, List.length_append]
      have : flat [gt l i] = (gt l i).cells := by simp [flat]
      rw [this]
      exact hown7
  · have : l.take i = l := List.take_of_length_le (by omega)
    rw [this] at hown hwl
    obtain ⟨va, vc, rfl, -, -, -⟩ := View.of_own hown
    (repeat ((conv => whnf); (first | (with_reducible first | refine jA ?_ | refine jB ?_ | refine jC ?_ | refine jD ?_) | refine jE ?_ | refine jF ?_ | refine jG ?_ | refine jH ?_ | refine jI ?_ | refine jJ ?_ | refine jK ?_ | refine jL ?_ | refine jM ?_ | refine jN ?_ | refine jO ?_ | refine jP ?_ | refine jQ ?_ | refine jR ?_ | refine jS (k := ?_) | refine jT (k := ?_)))); (conv => whnf)
    refine ⟨hx2, _, ?_, hown⟩
    rw [show decide (((wo l p).length : Int) < (len : Int)) = (pos l p).isSome by
      rw [Bool.eq_iff_iff, decide_eq_true_eq, ← wo_lt]
      omega]
theorem rHas_ok (hv : View w a len cap 3 (flat l)) (hl : len ≤ 1000) (hd : Dist l) (p : Int) : Cal Try.prog 26 ⟨[.slice a len cap, .int .i64 p]⟩ w fun v w' => Ext w w' ∧ v = .tuple ⟨[.agg ⟨(hasE l p).1.cells⟩, .bool (hasE l p).2]⟩ := by
  have hlen : l.length = len := by have := hv.length; rw [flat_len] at this; omega
  refine go26 (by rfl) ?_
  (repeat ((conv => whnf); (first | (with_reducible first | refine jA ?_ | refine jB ?_ | refine jC ?_ | refine jD ?_) | refine jE ?_ | refine jF ?_ | refine jG ?_ | refine jH ?_ | refine jI ?_ | refine jJ ?_ | refine jK ?_ | refine jL ?_ | refine jM ?_ | refine jN ?_ | refine jO ?_ | refine jP ?_ | refine jQ ?_ | refine jR ?_ | refine jS (k := ?_) | refine jT (k := ?_)))); (conv => whnf)
  refine r_new fun q w1 hx1 hb1 hs1 hblk1 => ?_
  (repeat ((conv => whnf); (first | (with_reducible first | refine jA ?_ | refine jB ?_ | refine jC ?_ | refine jD ?_) | refine jE ?_ | refine jF ?_ | refine jG ?_ | refine jH ?_ | refine jI ?_ | refine jJ ?_ | refine jK ?_ | refine jL ?_ | refine jM ?_ | refine jN ?_ | refine jO ?_ | refine jP ?_ | refine jQ ?_ | refine jR ?_ | refine jS (k := ?_) | refine jT (k := ?_)))); (conv => whnf)
  refine r_loop (σ := Nat) (fun i => [.int .i64 (i : Int)]) (fun i w' => i ≤ len ∧ w' = w1 ∧ ∀ k, k < i → (gt l k).place ≠ p) (fun i _ => len - i) 0 rfl ⟨by omega, rfl, fun k hk => by omega⟩ ?_
  rintro i w2 again ⟨hi, rfl, hno⟩ hagain
  by_cases hil : i < len
  · have hp := hv.plain (by rw [flat_len]; omega)
    have hv2 := hv.ext hx1
    by_cases he : (gt l i).place = p
    · have hh : hasE l p = (gt l i, true) := by
        have := (pos_iff hd).2 ⟨by omega, he⟩
        simp [hasE, this]
      rw [hh]
      (repeat ((conv => whnf); (first | (with_reducible first | refine jA ?_ | refine jB ?_ | refine jC ?_ | refine jD ?_) | refine jE ?_ | refine jF ?_ | refine jG ?_ | refine jH ?_ | refine jI ?_ | refine jJ ?_ | refine jK ?_ | refine jL ?_ | refine jM ?_ | refine jN ?_ | refine jO ?_ | refine jP ?_ | refine jQ ?_ | refine jR ?_ | refine jS (k := ?_) | refine jT (k := ?_)))); (conv => whnf)
      rw [adrV]
      refine r_ldv hv2 (flat_at (i := i) (by omega) 0 (by omega)) ?_
      (repeat ((conv => whnf); (first | (with_reducible first | refine jA ?_ | refine jB ?_ | refine jC ?_ | refine jD ?_) | refine jE ?_ | refine jF ?_ | refine jG ?_ | refine jH ?_ | refine jI ?_ | refine jJ ?_ | refine jK ?_ | refine jL ?_ | refine jM ?_ | refine jN ?_ | refine jO ?_ | refine jP ?_ | refine jQ ?_ | refine jR ?_ | refine jS (k := ?_) | refine jT (k := ?_)))); (conv => whnf)
      refine r_ldnv (j := (i : Int).toNat * 3) (vs := (gt l i).cells) hv2 (flat_ent (by omega)) rfl ?_
      (repeat ((conv => whnf); (first | (with_reducible first | refine jA ?_ | refine jB ?_ | refine jC ?_ | refine jD ?_) | refine jE ?_ | refine jF ?_ | refine jG ?_ | refine jH ?_ | refine jI ?_ | refine jJ ?_ | refine jK ?_ | refine jL ?_ | refine jM ?_ | refine jN ?_ | refine jO ?_ | refine jP ?_ | refine jQ ?_ | refine jR ?_ | refine jS (k := ?_) | refine jT (k := ?_)))); (conv => whnf)
      refine r_stn hblk1 (by simp [En.cells]) (cells_one (gt l i)) fun w3 hc3 hs3 hblk3 => ?_
      have hblk3 : Blk w3 q 28 (gt l i).cells := hblk3
      (repeat ((conv => whnf); (first | (with_reducible first | refine jA ?_ | refine jB ?_ | refine jC ?_ | refine jD ?_) | refine jE ?_ | refine jF ?_ | refine jG ?_ | refine jH ?_ | refine jI ?_ | refine jJ ?_ | refine jK ?_ | refine jL ?_ | refine jM ?_ | refine jN ?_ | refine jO ?_ | refine jP ?_ | refine jQ ?_ | refine jR ?_ | refine jS (k := ?_) | refine jT (k := ?_)))); (conv => whnf)
      refine r_ldnb (vs := (gt l i).cells) hblk3 rfl rfl ?_
      (repeat ((conv => whnf); (first | (with_reducible first | refine jA ?_ | refine jB ?_ | refine jC ?_ | refine jD ?_) | refine jE ?_ | refine jF ?_ | refine jG ?_ | refine jH ?_ | refine jI ?_ | refine jJ ?_ | refine jK ?_ | refine jL ?_ | refine jM ?_ | refine jN ?_ | refine jO ?_ | refine jP ?_ | refine jQ ?_ | refine jR ?_ | refine jS (k := ?_) | refine jT (k := ?_)))); (conv => whnf)
      exact ⟨Chg.step hx1 hc3 fun k hk hlt => by omega, rfl⟩
    · (repeat ((conv => whnf); (first | (with_reducible first | refine jA ?_ | refine jB ?_ | refine jC ?_ | refine jD ?_) | refine jE ?_ | refine jF ?_ | refine jG ?_ | refine jH ?_ | refine jI ?_ | refine jJ ?_ | refine jK ?_ | refine jL ?_ | refine jM ?_ | refine jN ?_ | refine jO ?_ | refine jP ?_ | refine jQ ?_ | refine jR ?_ | refine jS (k := ?_) | refine jT (k := ?_)))); (conv => whnf)
      rw [adrV]
      refine r_ldv hv2 (flat_at (i := i) (by omega) 0 (by omega)) ?_
      (repeat ((conv => whnf); (first | (with_reducible first | refine jA ?_ | refine jB ?_ | refine jC ?_ | refine jD ?_) | refine jE ?_ | refine jF ?_ | refine jG ?_ | refine jH ?_ | refine jI ?_ | refine jJ ?_ | refine jK ?_ | refine jL ?_ | refine jM ?_ | refine jN ?_ | refine jO ?_ | refine jP ?_ | refine jQ ?_ | refine jR ?_ | refine jS (k := ?_) | refine jT (k := ?_)))); (conv => whnf)
      refine hagain (i + 1) _ ⟨by omega, rfl, fun k hk => ?_⟩ (by omega)
      by_cases hki : k = i
      · subst hki; exact he
      · exact hno k (by omega)
  · have hh : hasE l p = (⟨0, 0, 0⟩, false) := by
      have : pos l p = none := by
        cases hq : pos l p with
        | none => rfl
        | some k =>
          obtain ⟨h1, h2⟩ := pos_some hq
          exact absurd h2 (hno k (by omega))
      simp [hasE, this]
    rw [hh]
    (repeat ((conv => whnf); (first | (with_reducible first | refine jA ?_ | refine jB ?_ | refine jC ?_ | refine jD ?_) | refine jE ?_ | refine jF ?_ | refine jG ?_ | refine jH ?_ | refine jI ?_ | refine jJ ?_ | refine jK ?_ | refine jL ?_ | refine jM ?_ | refine jN ?_ | refine jO ?_ | refine jP ?_ | refine jQ ?_ | refine jR ?_ | refine jS (k := ?_) | refine jT (k := ?_)))); (conv => whnf)
    refine r_stn hblk1 (by simp) (cells_one ⟨0, 0, 0⟩) fun w3 hc3 hs3 hblk3 => ?_
    have hblk3 : Blk w3 q 28 (En.cells ⟨0, 0, 0⟩) := hblk3
    (repeat ((conv => whnf); (first | (with_reducible first | refine jA ?_ | refine jB ?_ | refine jC ?_ | refine jD ?_) | refine jE ?_ | refine jF ?_ | refine jG ?_ | refine jH ?_ | refine jI ?_ | refine jJ ?_ | refine jK ?_ | refine jL ?_ | refine jM ?_ | refine jN ?_ | refine jO ?_ | refine jP ?_ | refine jQ ?_ | refine jR ?_ | refine jS (k := ?_) | refine jT (k := ?_)))); (conv => whnf)
    refine r_ldnb (vs := En.cells ⟨0, 0, 0⟩) hblk3 rfl rfl ?_
    (repeat ((conv => whnf); (first | (with_reducible first | refine jA ?_ | refine jB ?_ | refine jC ?_ | refine jD ?_) | refine jE ?_ | refine jF ?_ | refine jG ?_ | refine jH ?_ | refine jI ?_ | refine jJ ?_ | refine jK ?_ | refine jL ?_ | refine jM ?_ | refine jN ?_ | refine jO ?_ | refine jP ?_ | refine jQ ?_ | refine jR ?_ | refine jS (k := ?_) | refine jT (k := ?_)))); (conv => whnf)
    exact ⟨Chg.step hx1 hc3 fun k hk hlt => by omega, rfl⟩
theorem First_ok (hv : View w a len cap 3 (flat l)) (hl : len ≤ 1000) : Cal Try.prog 27 ⟨[.slice a len cap]⟩ w fun v w' => Ext w w' ∧ ∃ b : Int, v = .int .i64 b ∧ (len = 0 → b = -1) ∧ (0 < len → ∃ j : Nat, j < len ∧ b = j ∧ ∀ k, k < len → ¬ less (gt l k) (gt l j)) := by
  have hlen : l.length = len := by have := hv.length; rw [flat_len] at this; omega
  refine go27 (by rfl) ?_
  (repeat ((conv => whnf); (first | (with_reducible first | refine jA ?_ | refine jB ?_ | refine jC ?_ | refine jD ?_) | refine jE ?_ | refine jF ?_ | refine jG ?_ | refine jH ?_ | refine jI ?_ | refine jJ ?_ | refine jK ?_ | refine jL ?_ | refine jM ?_ | refine jN ?_ | refine jO ?_ | refine jP ?_ | refine jQ ?_ | refine jR ?_ | refine jS (k := ?_) | refine jT (k := ?_)))); (conv => whnf)
  refine r_loop (σ := Int × Nat) (fun x => [.int .i64 x.1, .int .i64 (x.2 : Int)]) (fun x w' => x.2 ≤ len ∧ Ext w w' ∧ (x.2 = 0 → x.1 = -1) ∧ (0 < x.2 → ∃ j : Nat, j < x.2 ∧ x.1 = j ∧ ∀ k, k < x.2 → ¬ less (gt l k) (gt l j))) (fun x _ => len - x.2) (-1, 0) rfl ⟨Nat.zero_le _, Ext.refl _, fun _ => rfl, fun h => absurd h (Nat.lt_irrefl _)⟩ ?_
  rintro ⟨b, i⟩ w1 again ⟨hi, hx1, h0, h1⟩ hagain
  dsimp only at hi h0 h1 hagain ⊢
  by_cases hil : i < len
  · have hp := hv.plain (by rw [flat_len]; omega)
    have hv1 := hv.ext hx1
    by_cases hi0 : i = 0
    · have hb := h0 hi0
      subst hi0 hb
      (repeat ((conv => whnf); (first | (with_reducible first | refine jA ?_ | refine jB ?_ | refine jC ?_ | refine jD ?_) | refine jE ?_ | refine jF ?_ | refine jG ?_ | refine jH ?_ | refine jI ?_ | refine jJ ?_ | refine jK ?_ | refine jL ?_ | refine jM ?_ | refine jN ?_ | refine jO ?_ | refine jP ?_ | refine jQ ?_ | refine jR ?_ | refine jS (k := ?_) | refine jT (k := ?_)))); (conv => whnf)
      refine r_drawE fun w2 hx2 hh2 => ?_
      (repeat ((conv => whnf); (first | (with_reducible first | refine jA ?_ | refine jB ?_ | refine jC ?_ | refine jD ?_) | refine jE ?_ | refine jF ?_ | refine jG ?_ | refine jH ?_ | refine jI ?_ | refine jJ ?_ | refine jK ?_ | refine jL ?_ | refine jM ?_ | refine jN ?_ | refine jO ?_ | refine jP ?_ | refine jQ ?_ | refine jR ?_ | refine jS (k := ?_) | refine jT (k := ?_)))); (conv => whnf)
      refine hagain (((0 : Nat) : Int), 1) w2 ⟨by dsimp only; omega, hx1.trans hx2, fun h => absurd h (by decide), fun _ => ⟨0, by dsimp only; omega, rfl, fun k hk => ?_⟩⟩ (by dsimp only; omega)
      have : k = 0 := by dsimp only at hk; omega
      subst this
      exact less_irrefl _
    · obtain ⟨j, hj, rfl, hmin⟩ := h1 (by omega)
      have yes : ∀ w2, Ext w1 w2 → less (gt l i) (gt l j) → again [.int .i64 (i : Int), .int .i64 ((i + 1 : Nat) : Int)] w2 := by
        intro w2 hx2 hl
        refine hagain ((i : Int), i + 1) w2 ⟨by dsimp only; omega, hx1.trans hx2, fun h => absurd h (Nat.succ_ne_zero _), fun _ => ⟨i, by dsimp only; omega, rfl, fun k hk => ?_⟩⟩ (by dsimp only; omega)
        by_cases hki : k = i
        · subst hki; exact less_irrefl _
        · exact less_lt (hmin k (by dsimp only at hk; omega)) hl
      have no : ∀ w2, Ext w1 w2 → ¬ less (gt l i) (gt l j) → again [.int .i64 (j : Int), .int .i64 ((i + 1 : Nat) : Int)] w2 := by
        intro w2 hx2 hl
        refine hagain ((j : Int), i + 1) w2 ⟨by dsimp only; omega, hx1.trans hx2, fun h => absurd h (Nat.succ_ne_zero _), fun _ => ⟨j, by dsimp only; omega, rfl, fun k hk => ?_⟩⟩ (by dsimp only; omega)
        by_cases hki : k = i
        · subst hki; exact hl
        · exact hmin k (by dsimp only at hk; omega)
      (repeat ((conv => whnf); (first | (with_reducible first | refine jA ?_ | refine jB ?_ | refine jC ?_ | refine jD ?_) | refine jE ?_ | refine jF ?_ | refine jG ?_ | refine jH ?_ | refine jI ?_ | refine jJ ?_ | refine jK ?_ | refine jL ?_ | refine jM ?_ | refine jN ?_ | refine jO ?_ | refine jP ?_ | refine jQ ?_ | refine jR ?_ | refine jS (k := ?_) | refine jT (k := ?_)))); (conv => whnf)
      refine r_drawE fun w2 hx2 hh2 => ?_
      (repeat ((conv => whnf); (first | (with_reducible first | refine jA ?_ | refine jB ?_ | refine jC ?_ | refine jD ?_) | refine jE ?_ | refine jF ?_ | refine jG ?_ | refine jH ?_ | refine jI ?_ | refine jJ ?_ | refine jK ?_ | refine jL ?_ | refine jM ?_ | refine jN ?_ | refine jO ?_ | refine jP ?_ | refine jQ ?_ | refine jR ?_ | refine jS (k := ?_) | refine jT (k := ?_)))); (conv => whnf)
      rw [adrV]
      refine r_ldvE hv1 (flat_at (i := i) (by omega) 1 (by omega)) ?_
      (repeat ((conv => whnf); (first | (with_reducible first | refine jA ?_ | refine jB ?_ | refine jC ?_ | refine jD ?_) | refine jE ?_ | refine jF ?_ | refine jG ?_ | refine jH ?_ | refine jI ?_ | refine jJ ?_ | refine jK ?_ | refine jL ?_ | refine jM ?_ | refine jN ?_ | refine jO ?_ | refine jP ?_ | refine jQ ?_ | refine jR ?_ | refine jS (k := ?_) | refine jT (k := ?_)))); (conv => whnf)
      rw [adrV]
      refine r_ldvE hv1 (flat_at (i := j) (by omega) 1 (by omega)) ?_
      by_cases h1 : (gt l i).order < (gt l j).order
      · (repeat ((conv => whnf); (first | (with_reducible first | refine jA ?_ | refine jB ?_ | refine jC ?_ | refine jD ?_) | refine jE ?_ | refine jF ?_ | refine jG ?_ | refine jH ?_ | refine jI ?_ | refine jJ ?_ | refine jK ?_ | refine jL ?_ | refine jM ?_ | refine jN ?_ | refine jO ?_ | refine jP ?_ | refine jQ ?_ | refine jR ?_ | refine jS (k := ?_) | refine jT (k := ?_)))); (conv => whnf)
        exact yes w2 hx2 (.inl h1)
      by_cases h2 : (gt l i).order = (gt l j).order
      · (repeat ((conv => whnf); (first | (with_reducible first | refine jA ?_ | refine jB ?_ | refine jC ?_ | refine jD ?_) | refine jE ?_ | refine jF ?_ | refine jG ?_ | refine jH ?_ | refine jI ?_ | refine jJ ?_ | refine jK ?_ | refine jL ?_ | refine jM ?_ | refine jN ?_ | refine jO ?_ | refine jP ?_ | refine jQ ?_ | refine jR ?_ | refine jS (k := ?_) | refine jT (k := ?_)))); (conv => whnf)
        rw [adrV]
        refine r_ldvE hv1 (flat_at (i := i) (by omega) 1 (by omega)) ?_
        (repeat ((conv => whnf); (first | (with_reducible first | refine jA ?_ | refine jB ?_ | refine jC ?_ | refine jD ?_) | refine jE ?_ | refine jF ?_ | refine jG ?_ | refine jH ?_ | refine jI ?_ | refine jJ ?_ | refine jK ?_ | refine jL ?_ | refine jM ?_ | refine jN ?_ | refine jO ?_ | refine jP ?_ | refine jQ ?_ | refine jR ?_ | refine jS (k := ?_) | refine jT (k := ?_)))); (conv => whnf)
        rw [adrV]
        refine r_ldvE hv1 (flat_at (i := j) (by omega) 1 (by omega)) ?_
        (repeat ((conv => whnf); (first | (with_reducible first | refine jA ?_ | refine jB ?_ | refine jC ?_ | refine jD ?_) | refine jE ?_ | refine jF ?_ | refine jG ?_ | refine jH ?_ | refine jI ?_ | refine jJ ?_ | refine jK ?_ | refine jL ?_ | refine jM ?_ | refine jN ?_ | refine jO ?_ | refine jP ?_ | refine jQ ?_ | refine jR ?_ | refine jS (k := ?_) | refine jT (k := ?_)))); (conv => whnf)
        rw [adrV]
        refine r_ldvE hv1 (flat_at (i := i) (by omega) 0 (by omega)) ?_
        (repeat ((conv => whnf); (first | (with_reducible first | refine jA ?_ | refine jB ?_ | refine jC ?_ | refine jD ?_) | refine jE ?_ | refine jF ?_ | refine jG ?_ | refine jH ?_ | refine jI ?_ | refine jJ ?_ | refine jK ?_ | refine jL ?_ | refine jM ?_ | refine jN ?_ | refine jO ?_ | refine jP ?_ | refine jQ ?_ | refine jR ?_ | refine jS (k := ?_) | refine jT (k := ?_)))); (conv => whnf)
        rw [adrV]
        refine r_ldvE hv1 (flat_at (i := j) (by omega) 0 (by omega)) ?_
        by_cases h3 : (gt l i).place < (gt l j).place
        · (repeat ((conv => whnf); (first | (with_reducible first | refine jA ?_ | refine jB ?_ | refine jC ?_ | refine jD ?_) | refine jE ?_ | refine jF ?_ | refine jG ?_ | refine jH ?_ | refine jI ?_ | refine jJ ?_ | refine jK ?_ | refine jL ?_ | refine jM ?_ | refine jN ?_ | refine jO ?_ | refine jP ?_ | refine jQ ?_ | refine jR ?_ | refine jS (k := ?_) | refine jT (k := ?_)))); (conv => whnf)
          exact yes w2 hx2 (.inr ⟨h2, h3⟩)
        · (repeat ((conv => whnf); (first | (with_reducible first | refine jA ?_ | refine jB ?_ | refine jC ?_ | refine jD ?_) | refine jE ?_ | refine jF ?_ | refine jG ?_ | refine jH ?_ | refine jI ?_ | refine jJ ?_ | refine jK ?_ | refine jL ?_ | refine jM ?_ | refine jN ?_ | refine jO ?_ | refine jP ?_ | refine jQ ?_ | refine jR ?_ | refine jS (k := ?_) | refine jT (k := ?_)))); (conv => whnf)
          exact no w2 hx2 (by unfold less; omega)
      · (repeat ((conv => whnf); (first | (with_reducible first | refine jA ?_ | refine jB ?_ | refine jC ?_ | refine jD ?_) | refine jE ?_ | refine jF ?_ | refine jG ?_ | refine jH ?_ | refine jI ?_ | refine jJ ?_ | refine jK ?_ | refine jL ?_ | refine jM ?_ | refine jN ?_ | refine jO ?_ | refine jP ?_ | refine jQ ?_ | refine jR ?_ | refine jS (k := ?_) | refine jT (k := ?_)))); (conv => whnf)
        rw [adrV]
        refine r_ldvE hv1 (flat_at (i := i) (by omega) 1 (by omega)) ?_
        (repeat ((conv => whnf); (first | (with_reducible first | refine jA ?_ | refine jB ?_ | refine jC ?_ | refine jD ?_) | refine jE ?_ | refine jF ?_ | refine jG ?_ | refine jH ?_ | refine jI ?_ | refine jJ ?_ | refine jK ?_ | refine jL ?_ | refine jM ?_ | refine jN ?_ | refine jO ?_ | refine jP ?_ | refine jQ ?_ | refine jR ?_ | refine jS (k := ?_) | refine jT (k := ?_)))); (conv => whnf)
        rw [adrV]
        refine r_ldvE hv1 (flat_at (i := j) (by omega) 1 (by omega)) ?_
        (repeat ((conv => whnf); (first | (with_reducible first | refine jA ?_ | refine jB ?_ | refine jC ?_ | refine jD ?_) | refine jE ?_ | refine jF ?_ | refine jG ?_ | refine jH ?_ | refine jI ?_ | refine jJ ?_ | refine jK ?_ | refine jL ?_ | refine jM ?_ | refine jN ?_ | refine jO ?_ | refine jP ?_ | refine jQ ?_ | refine jR ?_ | refine jS (k := ?_) | refine jT (k := ?_)))); (conv => whnf)
        exact no w2 hx2 (by unfold less; omega)
  · have : i = len := by omega
    subst this
    (repeat ((conv => whnf); (first | (with_reducible first | refine jA ?_ | refine jB ?_ | refine jC ?_ | refine jD ?_) | refine jE ?_ | refine jF ?_ | refine jG ?_ | refine jH ?_ | refine jI ?_ | refine jJ ?_ | refine jK ?_ | refine jL ?_ | refine jM ?_ | refine jN ?_ | refine jO ?_ | refine jP ?_ | refine jQ ?_ | refine jR ?_ | refine jS (k := ?_) | refine jT (k := ?_)))); (conv => whnf)
    exact ⟨hx1, b, rfl, h0, h1⟩
end
end Fb.Try.QU
