/-
  Walks: up and down a heap.
-/
import Derived.Test.YtnofndhlhbbhdaaQb
namespace Fb.Try.QU
open Go Go.Proofs Fb
theorem r_quoN {x y r : Int} {K : Int → Prop} (h : Int.tdiv x y = r) (k : K r) : Quo x y K := by rw [Quo_eq, h]; exact k
/-- The same entries, in another order; behind the n first ones nothing has moved. -/
structure Shuf (n : Nat) (l l' : List En) : Prop where
  len : l'.length = l.length
  mem : ∀ e, e ∈ l' ↔ e ∈ l
  tail : ∀ k, n ≤ k → gt l' k = gt l k
theorem Shuf.refl (n : Nat) (l : List En) : Shuf n l l := ⟨rfl, fun _ => Iff.rfl, fun _ _ => rfl⟩
theorem Shuf.trans {n : Nat} {a b c : List En} (h : Shuf n a b) (k : Shuf n b c) : Shuf n a c := ⟨k.len.trans h.len, fun e => (k.mem e).trans (h.mem e), fun i hi => (k.tail i hi).trans (h.tail i hi)⟩
theorem mem_gt {l : List En} {e : En} : e ∈ l ↔ ∃ k, k < l.length ∧ gt l k = e := by
  constructor
  · intro h
    obtain ⟨k, hk, rfl⟩ := List.getElem_of_mem h
    have := gt_get hk
    rw [List.getElem?_eq_getElem hk] at this
    exact ⟨k, hk, (Option.some.inj this).symm⟩
  · rintro ⟨k, hk, rfl⟩
    exact List.mem_of_getElem? (gt_get hk)
theorem swL_mem {l : List En} {i j : Nat} (hi : i < l.length) (hj : j < l.length) (e : En) : e ∈ swL l i j ↔ e ∈ l := by
  rw [mem_gt, mem_gt, swL_len]
  constructor
  · rintro ⟨k, hk, rfl⟩
    rw [gt_swL hi hj]
    unfold sw
    split
    · exact ⟨j, hj, rfl⟩
    · split
      · exact ⟨i, hi, rfl⟩
      · exact ⟨k, hk, rfl⟩
  · rintro ⟨k, hk, rfl⟩
    by_cases h1 : k = i
    · subst h1; exact ⟨j, hj, by rw [gt_swL hi hj, sw_r]⟩
    · by_cases h2 : k = j
      · subst h2; exact ⟨i, hi, by rw [gt_swL hi hj, sw_l]⟩
      · exact ⟨k, hk, by rw [gt_swL hi hj, sw_n _ h1 h2]⟩
theorem Shuf.swap {n : Nat} {l : List En} {i j : Nat} (hi : i < l.length) (hj : j < l.length) (hin : i < n) (hjn : j < n) : Shuf n l (swL l i j) :=
  ⟨swL_len l i j, swL_mem hi hj, fun k hk => by rw [gt_swL hi hj, sw_n _ (by omega) (by omega)]⟩
theorem gt_sw_fun {l : List En} {i j : Nat} (hi : i < l.length) (hj : j < l.length) : gt (swL l i j) = sw (gt l) i j := funext fun k => gt_swL hi hj k
def RS (mb : Nat) (g : Option Nat) (k : Nat) : Prop := k = mb ∨ g = some k
set_option maxRecDepth 100000
theorem m_Len (a : Option Addr) (w : World) : (method (Try.prog.types.size + Made.depth) 95 (.pointer a) "Len").run Try.prog w = .ok (54, .pointer a) w := by kernel_rfl
theorem m_Less (a : Option Addr) (w : World) : (method (Try.prog.types.size + Made.depth) 95 (.pointer a) "Less").run Try.prog w = .ok (112, .pointer a) w := by kernel_rfl
theorem m_Swap (a : Option Addr) (w : World) : (method (Try.prog.types.size + Made.depth) 95 (.pointer a) "Swap").run Try.prog w = .ok (115, .pointer a) w := by kernel_rfl
theorem m_Push (a : Option Addr) (w : World) : (method (Try.prog.types.size + Made.depth) 95 (.pointer a) "Push").run Try.prog w = .ok (114, .pointer a) w := by kernel_rfl
theorem m_Pop (a : Option Addr) (w : World) : (method (Try.prog.types.size + Made.depth) 95 (.pointer a) "Pop").run Try.prog w = .ok (113, .pointer a) w := by kernel_rfl
section
variable {w w' : World} {ab mb c : Nat} {g : Option Nat} {l : List En}
theorem up_ok (h : Pile w ab mb g c l) {n j : Nat} (hj : j < n) (hn : n ≤ l.length) (hu : upI (gt l) n j) : Cal Try.prog 69 ⟨[.iface 95 (.pointer (some ⟨ab, 0, none⟩)), .int .i64 (j : Int)]⟩ w fun _ w' => ∃ l', Pile w' ab mb g c l' ∧ hp (gt l') n ∧ Shuf n l l' ∧ Chg (RS mb g) w w' := by
  have hlen := h.len
  refine go69 (by rfl) ?_
  (repeat ((conv => whnf); (first | (with_reducible first | refine jA ?_ | refine jB ?_ | refine jC ?_ | refine jD ?_) | refine jE ?_ | refine jF ?_ | refine jG ?_ | refine jH ?_ | refine jI ?_ | refine jJ ?_ | refine jK ?_ | refine jL ?_ | refine jM ?_ | refine jN ?_ | refine jO ?_ | refine jP ?_ | refine jQ ?_ | refine jR ?_ | refine jS (k := ?_) | refine jT (k := ?_)))); (conv => whnf)
  refine r_loop (σ := Nat) (fun j => [.int .i64 (j : Int)]) (fun j w' => j < n ∧ ∃ l', Pile w' ab mb g c l' ∧ upI (gt l') n j ∧ Shuf n l l' ∧ Chg (RS mb g) w w') (fun j _ => j) j rfl ⟨hj, l, h, hu, Shuf.refl _ _, Chg.refl _ _⟩ ?_
  clear hj hu
  rintro j w1 again ⟨hj, l', h1, hu, hs, hc⟩ hagain
  have hl' := hs.len
  by_cases hj0 : j = 0
  · subst hj0
    (repeat ((conv => whnf); (first | (with_reducible first | refine jA ?_ | refine jB ?_ | refine jC ?_ | refine jD ?_) | refine jE ?_ | refine jF ?_ | refine jG ?_ | refine jH ?_ | refine jI ?_ | refine jJ ?_ | refine jK ?_ | refine jL ?_ | refine jM ?_ | refine jN ?_ | refine jO ?_ | refine jP ?_ | refine jQ ?_ | refine jR ?_ | refine jS (k := ?_) | refine jT (k := ?_)))); (conv => whnf)
    refine r_quoN (r := 0) (by decide) ?_
    (repeat ((conv => whnf); (first | (with_reducible first | refine jA ?_ | refine jB ?_ | refine jC ?_ | refine jD ?_) | refine jE ?_ | refine jF ?_ | refine jG ?_ | refine jH ?_ | refine jI ?_ | refine jJ ?_ | refine jK ?_ | refine jL ?_ | refine jM ?_ | refine jN ?_ | refine jO ?_ | refine jP ?_ | refine jQ ?_ | refine jR ?_ | refine jS (k := ?_) | refine jT (k := ?_)))); (conv => whnf)
    exact ⟨l', h1, hu.done fun h => by omega, hs, hc⟩
  have hp : par j < j := by unfold par; omega
  have hi : ((j : Int) - 1) / 2 = (par j : Int) := by unfold par; omega
  (repeat ((conv => whnf); (first | (with_reducible first | refine jA ?_ | refine jB ?_ | refine jC ?_ | refine jD ?_) | refine jE ?_ | refine jF ?_ | refine jG ?_ | refine jH ?_ | refine jI ?_ | refine jJ ?_ | refine jK ?_ | refine jL ?_ | refine jM ?_ | refine jN ?_ | refine jO ?_ | refine jP ?_ | refine jQ ?_ | refine jR ?_ | refine jS (k := ?_) | refine jT (k := ?_)))); (conv => whnf)
  rw [hi]
  (repeat ((conv => whnf); (first | (with_reducible first | refine jA ?_ | refine jB ?_ | refine jC ?_ | refine jD ?_) | refine jE ?_ | refine jF ?_ | refine jG ?_ | refine jH ?_ | refine jI ?_ | refine jJ ?_ | refine jK ?_ | refine jL ?_ | refine jM ?_ | refine jN ?_ | refine jO ?_ | refine jP ?_ | refine jQ ?_ | refine jR ?_ | refine jS (k := ?_) | refine jT (k := ?_)))); (conv => whnf)
  refine r_calI (m_Less _) (by kernel_rfl) (Less_ok h1 (i := j) (j := par j) (by omega) (by omega)) ?_
  rintro _ w2 ⟨hx2, rfl⟩
  by_cases hl : less (gt l' j) (gt l' (par j))
  · simp only [hl, decide_true]
    (repeat ((conv => whnf); (first | (with_reducible first | refine jA ?_ | refine jB ?_ | refine jC ?_ | refine jD ?_) | refine jE ?_ | refine jF ?_ | refine jG ?_ | refine jH ?_ | refine jI ?_ | refine jJ ?_ | refine jK ?_ | refine jL ?_ | refine jM ?_ | refine jN ?_ | refine jO ?_ | refine jP ?_ | refine jQ ?_ | refine jR ?_ | refine jS (k := ?_) | refine jT (k := ?_)))); (conv => whnf)
    refine r_calI (m_Swap _) (by kernel_rfl) (Swap_ok (h1.ext hx2) (i := par j) (j := j) (by omega) (by omega)) ?_
    rintro _ w3 ⟨h3, hc3⟩
    (repeat ((conv => whnf); (first | (with_reducible first | refine jA ?_ | refine jB ?_ | refine jC ?_ | refine jD ?_) | refine jE ?_ | refine jF ?_ | refine jG ?_ | refine jH ?_ | refine jI ?_ | refine jJ ?_ | refine jK ?_ | refine jL ?_ | refine jM ?_ | refine jN ?_ | refine jO ?_ | refine jP ?_ | refine jQ ?_ | refine jR ?_ | refine jS (k := ?_) | refine jT (k := ?_)))); (conv => whnf)
    refine hagain (par j) w3 ⟨by omega, _, h3, ?_, hs.trans (Shuf.swap (by omega) (by omega) (by omega) hj), (hc.ext hx2).trans (hc3.mono fun k _ e => e)⟩ hp
    rw [gt_sw_fun (by omega) (by omega)]
    exact hu.step (by omega) hj hl
  · simp only [hl, decide_false]
    (repeat ((conv => whnf); (first | (with_reducible first | refine jA ?_ | refine jB ?_ | refine jC ?_ | refine jD ?_) | refine jE ?_ | refine jF ?_ | refine jG ?_ | refine jH ?_ | refine jI ?_ | refine jJ ?_ | refine jK ?_ | refine jL ?_ | refine jM ?_ | refine jN ?_ | refine jO ?_ | refine jP ?_ | refine jQ ?_ | refine jR ?_ | refine jS (k := ?_) | refine jT (k := ?_)))); (conv => whnf)
    exact ⟨l', h1.ext hx2, hu.done fun _ => hl, hs, hc.ext hx2⟩
set_option maxHeartbeats 1000000 in
theorem down_ok (h : Pile w ab mb g c l) {n i0 : Nat} (hn : n ≤ l.length) (hi0 : i0 ≤ 1000) (hd : downI (gt l) n i0 i0) : Cal Try.prog 70 ⟨[.iface 95 (.pointer (some ⟨ab, 0, none⟩)), .int .i64 (i0 : Int), .int .i64 (n : Int)]⟩ w fun v w' => ∃ l' b, v = .bool b ∧ Pile w' ab mb g c l' ∧ (b = true → hp (gt l') n) ∧ (b = false → upI (gt l') n i0) ∧ Shuf n l l' ∧ Chg (RS mb g) w w' := by
  have hlen := h.len
  refine go70 (by rfl) ?_
  (repeat ((conv => whnf); (first | (with_reducible first | refine jA ?_ | refine jB ?_ | refine jC ?_ | refine jD ?_) | refine jE ?_ | refine jF ?_ | refine jG ?_ | refine jH ?_ | refine jI ?_ | refine jJ ?_ | refine jK ?_ | refine jL ?_ | refine jM ?_ | refine jN ?_ | refine jO ?_ | refine jP ?_ | refine jQ ?_ | refine jR ?_ | refine jS (k := ?_) | refine jT (k := ?_)))); (conv => whnf)
  refine r_loop (σ := Nat) (fun i => [.int .i64 (i : Int)]) (fun i w' => i0 ≤ i ∧ i ≤ 1000 ∧ ∃ l', Pile w' ab mb g c l' ∧ downI (gt l') n i0 i ∧ Shuf n l l' ∧ Chg (RS mb g) w w') (fun i _ => 1001 - i) i0 rfl ⟨Nat.le_refl _, hi0, l, h, hd, Shuf.refl _ _, Chg.refl _ _⟩ ?_
  clear hd
  rintro i w1 again ⟨hii, hi1, l', h1, hd, hs, hc⟩ hagain
  have hl' := hs.len
  by_cases hj : 2 * i + 1 < n
  rotate_left
  · have hfin := hd.done fun k h0 hk hp => by unfold par at hp; omega
    by_cases hne : i = i0
    all_goals
      (repeat ((conv => whnf); (first | (with_reducible first | refine jA ?_ | refine jB ?_ | refine jC ?_ | refine jD ?_) | refine jE ?_ | refine jF ?_ | refine jG ?_ | refine jH ?_ | refine jI ?_ | refine jJ ?_ | refine jK ?_ | refine jL ?_ | refine jM ?_ | refine jN ?_ | refine jO ?_ | refine jP ?_ | refine jQ ?_ | refine jR ?_ | refine jS (k := ?_) | refine jT (k := ?_)))); (conv => whnf)
      refine ⟨l', _, rfl, h1, fun e => ?_, fun e => ?_, hs, hc⟩
      · exact hfin.1 (by simp at e; omega)
      · exact hfin.2 (by simp at e; omega)
  have fin : ∀ (w2 : World) (j : Nat), Ext w1 w2 → j < n → par j = i → 0 < j → (∀ k, 0 < k → k < n → par k = i → ¬ less (gt l' k) (gt l' j)) → ¬ less (gt l' j) (gt l' i) → ∃ l'' b, Value.bool (decide ((i : Int) > i0)) = .bool b ∧ Pile w2 ab mb g c l'' ∧ (b = true → hp (gt l'') n) ∧ (b = false → upI (gt l'') n i0) ∧ Shuf n l l'' ∧ Chg (RS mb g) w w2 := by
    intro w2 j hx hjn hpj h0 hmin hno
    have hfin := hd.done fun k h0 hk hp => fun hl => (hmin k h0 hk hp) (by unfold less at *; omega)
    refine ⟨l', _, rfl, h1.ext hx, fun e => hfin.1 (by simp at e; omega), fun e => hfin.2 (by simp at e; omega), hs, hc.ext hx⟩
  have stp : ∀ (w3 : World) (j : Nat), Pile w3 ab mb g c (swL l' i j) → Chg (RS mb g) w w3 → j < n → par j = i → 0 < j → (∀ k, 0 < k → k < n → par k = i → ¬ less (gt l' k) (gt l' j)) → less (gt l' j) (gt l' i) → again [.int .i64 (j : Int)] w3 := by
    intro w3 j h3 hc3 hjn hpj h0 hmin hl
    obtain ⟨hd3, e1, e2⟩ := hd.step hpj h0 hjn hmin hl hii
    refine hagain j w3 ⟨e1, by omega, _, h3, ?_, hs.trans (Shuf.swap (by omega) (by omega) (by omega) hjn), hc3⟩ (by omega)
    rw [gt_sw_fun (by omega) (by omega)]
    exact hd3
  have pc : ∀ k, par k = i → 0 < k → k = 2 * i + 1 ∨ k = 2 * i + 1 + 1 := fun k hk h0 => by unfold par at hk; omega
  have p1 : par (2 * i + 1) = i := by unfold par; omega
  have p2 : par (2 * i + 1 + 1) = i := by unfold par; omega
  have ji : 2 * (i : Int) + 1 = ((2 * i + 1 : Nat) : Int) := by omega
  have ji2 : ((2 * i + 1 : Nat) : Int) + 1 = ((2 * i + 1 + 1 : Nat) : Int) := by omega
  (repeat ((conv => whnf); (first | (with_reducible first | refine jA ?_ | refine jB ?_ | refine jC ?_ | refine jD ?_) | refine jE ?_ | refine jF ?_ | refine jG ?_ | refine jH ?_ | refine jI ?_ | refine jJ ?_ | refine jK ?_ | refine jL ?_ | refine jM ?_ | refine jN ?_ | refine jO ?_ | refine jP ?_ | refine jQ ?_ | refine jR ?_ | refine jS (k := ?_) | refine jT (k := ?_)))); (conv => whnf)
  rw [ji, ji2]
  by_cases h2 : 2 * i + 1 + 1 < n
  · (repeat ((conv => whnf); (first | (with_reducible first | refine jA ?_ | refine jB ?_ | refine jC ?_ | refine jD ?_) | refine jE ?_ | refine jF ?_ | refine jG ?_ | refine jH ?_ | refine jI ?_ | refine jJ ?_ | refine jK ?_ | refine jL ?_ | refine jM ?_ | refine jN ?_ | refine jO ?_ | refine jP ?_ | refine jQ ?_ | refine jR ?_ | refine jS (k := ?_) | refine jT (k := ?_)))); (conv => whnf)
    refine r_calI (m_Less _) (by kernel_rfl) (Less_ok h1 (i := 2 * i + 1 + 1) (j := 2 * i + 1) (by omega) (by omega)) ?_
    rintro _ w2 ⟨hx2, rfl⟩
    by_cases hl2 : less (gt l' (2 * i + 1 + 1)) (gt l' (2 * i + 1))
    · simp only [hl2, decide_true]
      have hmin : ∀ k, 0 < k → k < n → par k = i → ¬ less (gt l' k) (gt l' (2 * i + 1 + 1)) := fun k h0 _ hk => by
        rcases pc k hk h0 with rfl | rfl
        · exact less_asymm hl2
        · exact less_irrefl _
      (repeat ((conv => whnf); (first | (with_reducible first | refine jA ?_ | refine jB ?_ | refine jC ?_ | refine jD ?_) | refine jE ?_ | refine jF ?_ | refine jG ?_ | refine jH ?_ | refine jI ?_ | refine jJ ?_ | refine jK ?_ | refine jL ?_ | refine jM ?_ | refine jN ?_ | refine jO ?_ | refine jP ?_ | refine jQ ?_ | refine jR ?_ | refine jS (k := ?_) | refine jT (k := ?_)))); (conv => whnf)
      refine r_calI (m_Less _) (by kernel_rfl) (Less_ok (h1.ext hx2) (i := 2 * i + 1 + 1) (j := i) (by omega) (by omega)) ?_
      rintro _ w3 ⟨hx3, rfl⟩
      have y3 := hx2.trans hx3
      by_cases hl : less (gt l' (2 * i + 1 + 1)) (gt l' i)
      · simp only [hl, decide_true]
        (repeat ((conv => whnf); (first | (with_reducible first | refine jA ?_ | refine jB ?_ | refine jC ?_ | refine jD ?_) | refine jE ?_ | refine jF ?_ | refine jG ?_ | refine jH ?_ | refine jI ?_ | refine jJ ?_ | refine jK ?_ | refine jL ?_ | refine jM ?_ | refine jN ?_ | refine jO ?_ | refine jP ?_ | refine jQ ?_ | refine jR ?_ | refine jS (k := ?_) | refine jT (k := ?_)))); (conv => whnf)
        refine r_calI (m_Swap _) (by kernel_rfl) (Swap_ok (h1.ext y3) (i := i) (j := 2 * i + 1 + 1) (by omega) (by omega)) ?_
        rintro _ w4 ⟨h4, hc4⟩
        (repeat ((conv => whnf); (first | (with_reducible first | refine jA ?_ | refine jB ?_ | refine jC ?_ | refine jD ?_) | refine jE ?_ | refine jF ?_ | refine jG ?_ | refine jH ?_ | refine jI ?_ | refine jJ ?_ | refine jK ?_ | refine jL ?_ | refine jM ?_ | refine jN ?_ | refine jO ?_ | refine jP ?_ | refine jQ ?_ | refine jR ?_ | refine jS (k := ?_) | refine jT (k := ?_)))); (conv => whnf)
        exact stp w4 (2 * i + 1 + 1) h4 ((hc.ext y3).trans (hc4.mono fun k _ e => e)) (by omega) p2 (by omega) hmin hl
      · simp only [hl, decide_false]
        (repeat ((conv => whnf); (first | (with_reducible first | refine jA ?_ | refine jB ?_ | refine jC ?_ | refine jD ?_) | refine jE ?_ | refine jF ?_ | refine jG ?_ | refine jH ?_ | refine jI ?_ | refine jJ ?_ | refine jK ?_ | refine jL ?_ | refine jM ?_ | refine jN ?_ | refine jO ?_ | refine jP ?_ | refine jQ ?_ | refine jR ?_ | refine jS (k := ?_) | refine jT (k := ?_)))); (conv => whnf)
        exact fin w3 (2 * i + 1 + 1) y3 (by omega) p2 (by omega) hmin hl
    · simp only [hl2, decide_false]
      have hmin : ∀ k, 0 < k → k < n → par k = i → ¬ less (gt l' k) (gt l' (2 * i + 1)) := fun k h0 _ hk => by
        rcases pc k hk h0 with rfl | rfl
        · exact less_irrefl _
        · exact hl2
      (repeat ((conv => whnf); (first | (with_reducible first | refine jA ?_ | refine jB ?_ | refine jC ?_ | refine jD ?_) | refine jE ?_ | refine jF ?_ | refine jG ?_ | refine jH ?_ | refine jI ?_ | refine jJ ?_ | refine jK ?_ | refine jL ?_ | refine jM ?_ | refine jN ?_ | refine jO ?_ | refine jP ?_ | refine jQ ?_ | refine jR ?_ | refine jS (k := ?_) | refine jT (k := ?_)))); (conv => whnf)
      refine r_calI (m_Less _) (by kernel_rfl) (Less_ok (h1.ext hx2) (i := 2 * i + 1) (j := i) (by omega) (by omega)) ?_
      rintro _ w3 ⟨hx3, rfl⟩
      have y3 := hx2.trans hx3
      by_cases hl : less (gt l' (2 * i + 1)) (gt l' i)
      · simp only [hl, decide_true]
        (repeat ((conv => whnf); (first | (with_reducible first | refine jA ?_ | refine jB ?_ | refine jC ?_ | refine jD ?_) | refine jE ?_ | refine jF ?_ | refine jG ?_ | refine jH ?_ | refine jI ?_ | refine jJ ?_ | refine jK ?_ | refine jL ?_ | refine jM ?_ | refine jN ?_ | refine jO ?_ | refine jP ?_ | refine jQ ?_ | refine jR ?_ | refine jS (k := ?_) | refine jT (k := ?_)))); (conv => whnf)
        refine r_calI (m_Swap _) (by kernel_rfl) (Swap_ok (h1.ext y3) (i := i) (j := 2 * i + 1) (by omega) (by omega)) ?_
        rintro _ w4 ⟨h4, hc4⟩
        (repeat ((conv => whnf); (first | (with_reducible first | refine jA ?_ | refine jB ?_ | refine jC ?_ | refine jD ?_) | refine jE ?_ | refine jF ?_ | refine jG ?_ | refine jH ?_ | refine jI ?_ | refine jJ ?_ | refine jK ?_ | refine jL ?_ | refine jM ?_ | refine jN ?_ | refine jO ?_ | refine jP ?_ | refine jQ ?_ | refine jR ?_ | refine jS (k := ?_) | refine jT (k := ?_)))); (conv => whnf)
        exact stp w4 (2 * i + 1) h4 ((hc.ext y3).trans (hc4.mono fun k _ e => e)) (by omega) p1 (by omega) hmin hl
      · simp only [hl, decide_false]
        (repeat ((conv => whnf); (first | (with_reducible first | refine jA ?_ | refine jB ?_ | refine jC ?_ | refine jD ?_) | refine jE ?_ | refine jF ?_ | refine jG ?_ | refine jH ?_ | refine jI ?_ | refine jJ ?_ | refine jK ?_ | refine jL ?_ | refine jM ?_ | refine jN ?_ | refine jO ?_ | refine jP ?_ | refine jQ ?_ | refine jR ?_ | refine jS (k := ?_) | refine jT (k := ?_)))); (conv => whnf)
        exact fin w3 (2 * i + 1) y3 (by omega) p1 (by omega) hmin hl
  · have hmin : ∀ k, 0 < k → k < n → par k = i → ¬ less (gt l' k) (gt l' (2 * i + 1)) := fun k h0 hkn hk => by
      rcases pc k hk h0 with rfl | rfl
      · exact less_irrefl _
      · omega
    have hx2 := Ext.refl w1
    (repeat ((conv => whnf); (first | (with_reducible first | refine jA ?_ | refine jB ?_ | refine jC ?_ | refine jD ?_) | refine jE ?_ | refine jF ?_ | refine jG ?_ | refine jH ?_ | refine jI ?_ | refine jJ ?_ | refine jK ?_ | refine jL ?_ | refine jM ?_ | refine jN ?_ | refine jO ?_ | refine jP ?_ | refine jQ ?_ | refine jR ?_ | refine jS (k := ?_) | refine jT (k := ?_)))); (conv => whnf)
    refine r_calI (m_Less _) (by kernel_rfl) (Less_ok (h1.ext hx2) (i := 2 * i + 1) (j := i) (by omega) (by omega)) ?_
    rintro _ w3 ⟨hx3, rfl⟩
    have y3 := hx2.trans hx3
    by_cases hl : less (gt l' (2 * i + 1)) (gt l' i)
    · simp only [hl, decide_true]
      (repeat ((conv => whnf); (first | (with_reducible first | refine jA ?_ | refine jB ?_ | refine jC ?_ | refine jD ?_) | refine jE ?_ | refine jF ?_ | refine jG ?_ | refine jH ?_ | refine jI ?_ | refine jJ ?_ | refine jK ?_ | refine jL ?_ | refine jM ?_ | refine jN ?_ | refine jO ?_ | refine jP ?_ | refine jQ ?_ | refine jR ?_ | refine jS (k := ?_) | refine jT (k := ?_)))); (conv => whnf)
      refine r_calI (m_Swap _) (by kernel_rfl) (Swap_ok (h1.ext y3) (i := i) (j := 2 * i + 1) (by omega) (by omega)) ?_
      rintro _ w4 ⟨h4, hc4⟩
      (repeat ((conv => whnf); (first | (with_reducible first | refine jA ?_ | refine jB ?_ | refine jC ?_ | refine jD ?_) | refine jE ?_ | refine jF ?_ | refine jG ?_ | refine jH ?_ | refine jI ?_ | refine jJ ?_ | refine jK ?_ | refine jL ?_ | refine jM ?_ | refine jN ?_ | refine jO ?_ | refine jP ?_ | refine jQ ?_ | refine jR ?_ | refine jS (k := ?_) | refine jT (k := ?_)))); (conv => whnf)
      exact stp w4 (2 * i + 1) h4 ((hc.ext y3).trans (hc4.mono fun k _ e => e)) (by omega) p1 (by omega) hmin hl
    · simp only [hl, decide_false]
      (repeat ((conv => whnf); (first | (with_reducible first | refine jA ?_ | refine jB ?_ | refine jC ?_ | refine jD ?_) | refine jE ?_ | refine jF ?_ | refine jG ?_ | refine jH ?_ | refine jI ?_ | refine jJ ?_ | refine jK ?_ | refine jL ?_ | refine jM ?_ | refine jN ?_ | refine jO ?_ | refine jP ?_ | refine jQ ?_ | refine jR ?_ | refine jS (k := ?_) | refine jT (k := ?_)))); (conv => whnf)
      exact fin w3 (2 * i + 1) y3 (by omega) p1 (by omega) hmin hl
end
end Fb.Try.QU
