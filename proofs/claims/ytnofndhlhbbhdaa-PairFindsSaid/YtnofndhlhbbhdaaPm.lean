/-
  Walks: the document's vocabularies by rank: what they begin with, a merge among others.
-/
import Derived.Test.YtnofndhlhbbhdaaPc
import Derived.Test.YtnofndhlhbbhdaaPh
import Derived.Test.YtnofndhlhbbhdaaVm
namespace Fb.Try.VO
open Go Go.Proofs Fb Fb.Bytes
/-! ### The plain law -/
instance (a b : Mg) : Decidable (Ahead a b) := by unfold Ahead; infer_instance
def putM (M : List Mg) (m : Mg) : List Mg := M.takeWhile (fun a => decide (Ahead a m)) ++ m :: M.dropWhile (fun a => decide (Ahead a m))
theorem putM_len (M : List Mg) (m : Mg) : (putM M m).length = M.length + 1 := by
  unfold putM
  rw [List.length_append, List.length_cons]
  have := congrArg List.length (List.takeWhile_append_dropWhile (p := fun a => decide (Ahead a m)) (l := M))
  rw [List.length_append] at this
  omega
theorem putM_at {m : Mg} : ∀ {M : List Mg} {n : Nat}, n ≤ M.length → (∀ k, k < n → Ahead (gm M k) m) → (n = M.length ∨ ¬ Ahead (gm M n) m) → putM M m = M.take n ++ [m] ++ M.drop n
  | [], n, h, _, _ => by
    have : n = 0 := by simpa using h
    subst this
    rfl
  | a :: M, 0, h, _, h2 => by
    have : ¬ Ahead a m := by
      rcases h2 with h2 | h2
      · simp at h2
      · exact h2
    simp [putM, this]
  | a :: M, n + 1, h, h1, h2 => by
    have h0 : Ahead a m := h1 0 (by omega)
    have ih := putM_at (m := m) (M := M) (n := n) (by simpa using h) (fun k hk => h1 (k + 1) (by omega)) (by
      rcases h2 with h2 | h2
      · exact .inl (by simpa using h2)
      · exact .inr h2)
    simp only [putM, List.takeWhile_cons, List.dropWhile_cons, h0, decide_true, if_true, List.take_succ_cons, List.drop_succ_cons, List.cons_append]
    congr 1
theorem mv_app (a b : List Mg) : mv (a ++ b) = mv a ++ mv b := by simp [mv]
theorem mv_take (M : List Mg) (k : Nat) : mv (M.take k) = (mv M).take (k * 4) := by
  induction M generalizing k with
  | nil => simp [mv]
  | cons m M ih =>
    cases k with
    | zero => simp [mv]
    | succ k =>
      have e : mv (m :: M) = m.cells ++ mv M := by simp [mv]
      have e2 : mv (m :: M.take k) = m.cells ++ mv (M.take k) := by simp [mv]
      rw [List.take_succ_cons, e, e2, ih, show (k + 1) * 4 = m.cells.length + k * 4 by simp [Mg.cells]; omega, List.take_length_add_append]
theorem mv_drop (M : List Mg) (k : Nat) : mv (M.drop k) = (mv M).drop (k * 4) := by
  induction M generalizing k with
  | nil => simp [mv]
  | cons m M ih =>
    cases k with
    | zero => simp [mv]
    | succ k =>
      have e : mv (m :: M) = m.cells ++ mv M := by simp [mv]
      rw [List.drop_succ_cons, e, ih, show (k + 1) * 4 = m.cells.length + k * 4 by simp [Mg.cells]; omega, List.drop_length_add_append]
theorem View.loM {w : World} {a : Option Addr} {len cap : Nat} {L : List Mg} (h : View w a len cap 4 (mv L)) (k : Nat) (hk : k ≤ len) : View w (slcA a cap k 4) (len - k) (cap - k) 4 (mv (L.drop k)) := by
  have hl := h.length
  rw [mv_len] at hl
  have := h.sub k len hk (Nat.le_refl _)
  have e : ((mv L).drop (k * 4)).take ((len - k) * 4) = mv (L.drop k) := by
    rw [← mv_drop, List.take_of_length_le (by rw [mv_len]; simp; omega)]
  rw [e] at this
  exact this
theorem View.hiM {w : World} {a : Option Addr} {len cap : Nat} {L : List Mg} (h : View w a len cap 4 (mv L)) (k : Nat) (hk : k ≤ len) : View w a k cap 4 (mv (L.take k)) := by
  have hl := h.length
  rw [mv_len] at hl
  rw [mv_take]
  refine ⟨by rw [List.length_take, mv_len]; omega, by have := h.le; omega, h.max, fun hp => h.plain (by rw [List.length_take] at hp; omega), fun i u hu => h.cell i u ?_⟩
  rw [List.getElem?_take] at hu
  split at hu
  · exact hu
  · cases hu
theorem mv_one (M : List Mg) : ∀ v ∈ mv M, v.oneCell' = true := fun u hu => by
  obtain ⟨cs, hcs, hu⟩ := List.mem_flatten.1 hu
  obtain ⟨m, _, rfl⟩ := List.mem_map.1 hcs
  exact mg_one m u hu
theorem emgR : Elem Try.prog 47 57 4 32 := Elem.of (by kernel_rfl)
theorem emgE {w : World} {b base : Nat} (h : Blk w b 57 []) (hb : base ≤ b) : w.ownsRow base 57 4 (.slice (some ⟨b, 0, none⟩) 0 0) 0 [] :=
  ⟨rfl, .inr ⟨b, 0, #[], rfl, hb, h, Nat.le_refl _, by simp [maxLen], rfl, rfl⟩⟩
section
variable {w w' : World} {a : Option Addr} {len cap : Nat} {M : List Mg}
theorem mv_lens (hv : View w a len cap 4 (mv M)) : M.length = len := by
  have h1 := hv.length
  rw [mv_len] at h1
  omega
set_option maxHeartbeats 1000000 in
theorem put_ok (hv : View w a len cap 4 (mv M)) (m : Mg) (hl : len ≤ 100000) : Cal Try.prog 81 ⟨[.slice a len cap, .agg ⟨m.cells⟩]⟩ w fun u w' => Ext w w' ∧ ∃ a' len' cap', u = .slice a' len' cap' ∧ View w' a' len' cap' 4 (mv (putM M m)) := by
  have hml := mv_lens hv
  have hcap := hv.le
  refine go81 (by rfl) ?_
  (repeat ((conv => whnf); (first | (with_reducible first | refine jA ?_ | refine jB ?_ | refine jC ?_ | refine jD ?_) | refine jE ?_ | refine jF ?_ | refine jG ?_ | refine jH ?_ | refine jI ?_ | refine jJ ?_ | refine jK ?_ | refine jL ?_ | refine jM ?_ | refine jN ?_ | refine jO ?_ | refine jP ?_ | refine jQ ?_ | refine jR ?_ | refine jS (k := ?_) | refine jT (k := ?_)))); (conv => whnf)
  refine r_new fun b3 w1 hx1 hb1 hs1 hblk => ?_
  have hblk : Blk w1 b3 57 m.cells := hblk
  have hz1 := hx1.size
  (repeat ((conv => whnf); (first | (with_reducible first | refine jA ?_ | refine jB ?_ | refine jC ?_ | refine jD ?_) | refine jE ?_ | refine jF ?_ | refine jG ?_ | refine jH ?_ | refine jI ?_ | refine jJ ?_ | refine jK ?_ | refine jL ?_ | refine jM ?_ | refine jN ?_ | refine jO ?_ | refine jP ?_ | refine jQ ?_ | refine jR ?_ | refine jS (k := ?_) | refine jT (k := ?_)))); (conv => whnf)
  refine r_loop (σ := Nat) (fun n => [.int .i64 (n : Int)]) (fun n w' => n ≤ len ∧ Ext w1 w' ∧ ∀ k, k < n → Ahead (gm M k) m) (fun n _ => len - n) 0 rfl ⟨by omega, Ext.refl _, fun k hk => by omega⟩ ?_
  rintro n w2 again ⟨hn, hx2, hall⟩ hagain
  have hx02 := hx1.trans hx2
  have hz2 := hx2.size
  have hblk2 := hblk.ext hx2
  (repeat ((conv => whnf); (first | (with_reducible first | refine jA ?_ | refine jB ?_ | refine jC ?_ | refine jD ?_) | refine jE ?_ | refine jF ?_ | refine jG ?_ | refine jH ?_ | refine jI ?_ | refine jJ ?_ | refine jK ?_ | refine jL ?_ | refine jM ?_ | refine jN ?_ | refine jO ?_ | refine jP ?_ | refine jQ ?_ | refine jR ?_ | refine jS (k := ?_) | refine jT (k := ?_)))); (conv => whnf)
  refine r_drawE fun w3 hx3 hh3 => ?_
  have hx03 := hx02.trans hx3
  by_cases hnl : n < len
  · have hp := hv.plain (by rw [mv_len]; omega)
    (repeat ((conv => whnf); (first | (with_reducible first | refine jA ?_ | refine jB ?_ | refine jC ?_ | refine jD ?_) | refine jE ?_ | refine jF ?_ | refine jG ?_ | refine jH ?_ | refine jI ?_ | refine jJ ?_ | refine jK ?_ | refine jL ?_ | refine jM ?_ | refine jN ?_ | refine jO ?_ | refine jP ?_ | refine jQ ?_ | refine jR ?_ | refine jS (k := ?_) | refine jT (k := ?_)))); (conv => whnf)
    refine r_ldnvE (vs := (gm M n).cells) (hv.ext hx02) (mv_ent (by omega)) rfl ?_
    (repeat ((conv => whnf); (first | refine r_ldnbE (vs := m.cells) hblk2 rfl rfl ?_ | (with_reducible first | refine jA ?_ | refine jB ?_ | refine jC ?_ | refine jD ?_) | refine jE ?_ | refine jF ?_ | refine jG ?_ | refine jH ?_ | refine jI ?_ | refine jJ ?_ | refine jK ?_ | refine jL ?_ | refine jM ?_ | refine jN ?_ | refine jO ?_ | refine jP ?_ | refine jQ ?_ | refine jR ?_ | refine jS (k := ?_) | refine jT (k := ?_)))); (conv => whnf)
    refine r_cal (ahead_ok _ (gm M n) m) ?_
    rintro _ w4 ⟨hx4, b, rfl, hb⟩
    have hx24 := hx3.trans hx4
    have hx04 := hx02.trans hx24
    have hblk4 := hblk2.ext hx24
    have hz4 := hx24.size
    (repeat ((conv => whnf); (first | (with_reducible first | refine jA ?_ | refine jB ?_ | refine jC ?_ | refine jD ?_) | refine jE ?_ | refine jF ?_ | refine jG ?_ | refine jH ?_ | refine jI ?_ | refine jJ ?_ | refine jK ?_ | refine jL ?_ | refine jM ?_ | refine jN ?_ | refine jO ?_ | refine jP ?_ | refine jQ ?_ | refine jR ?_ | refine jS (k := ?_) | refine jT (k := ?_)))); (conv => whnf)
    cases b with
    | true =>
      (repeat ((conv => whnf); (first | (with_reducible first | refine jA ?_ | refine jB ?_ | refine jC ?_ | refine jD ?_) | refine jE ?_ | refine jF ?_ | refine jG ?_ | refine jH ?_ | refine jI ?_ | refine jJ ?_ | refine jK ?_ | refine jL ?_ | refine jM ?_ | refine jN ?_ | refine jO ?_ | refine jP ?_ | refine jQ ?_ | refine jR ?_ | refine jS (k := ?_) | refine jT (k := ?_)))); (conv => whnf)
      exact hagain (n + 1) w4 ⟨by omega, hx2.trans hx24, fun k hk => by
        by_cases hkn : k = n
        · subst hkn; exact hb.1 rfl
        · exact hall k (by omega)⟩ (by omega)
    | false =>
      have hend : n = M.length ∨ ¬ Ahead (gm M n) m := .inr fun h => absurd (hb.2 h) (by decide)
      (repeat ((conv => whnf); (first | (with_reducible first | refine jA ?_ | refine jB ?_ | refine jC ?_ | refine jD ?_) | refine jE ?_ | refine jF ?_ | refine jG ?_ | refine jH ?_ | refine jI ?_ | refine jJ ?_ | refine jK ?_ | refine jL ?_ | refine jM ?_ | refine jN ?_ | refine jO ?_ | refine jP ?_ | refine jQ ?_ | refine jR ?_ | refine jS (k := ?_) | refine jT (k := ?_)))); (conv => whnf)
      refine r_new fun o w5 hx5 hb5 hs5 hblk5 => ?_
      have hx05 := hx04.trans hx5
      have hown5 := emgE (base := w.heap.size) hblk5 (by have := hx04.size; omega)
      (repeat ((conv => whnf); (first | (with_reducible first | refine jA ?_ | refine jB ?_ | refine jC ?_ | refine jD ?_) | refine jE ?_ | refine jF ?_ | refine jG ?_ | refine jH ?_ | refine jI ?_ | refine jJ ?_ | refine jK ?_ | refine jL ?_ | refine jM ?_ | refine jN ?_ | refine jO ?_ | refine jP ?_ | refine jQ ?_ | refine jR ?_ | refine jS (k := ?_) | refine jT (k := ?_)))); (conv => whnf)
      rw [Int.toNat_natCast]
      refine r_app emgR hown5 (View.hiM (hv.ext hx05) n (by omega)) (mv_one _) (by omega) (by have := hx05.size; omega) fun v6 w6 hown6 hc6 _ => ?_
      have hx06 : Ext w w6 := Chg.own hx05 hc6 hown5
      have hblk6 := (hblk4.ext hx5).keep hc6 (fun e => by have := hblk4.lt; have := Option.some.inj e; dsimp only at this; omega)
      rw [Nat.zero_add, List.nil_append] at hown6
      (repeat ((conv => whnf); (first | (with_reducible first | refine jA ?_ | refine jB ?_ | refine jC ?_ | refine jD ?_) | refine jE ?_ | refine jF ?_ | refine jG ?_ | refine jH ?_ | refine jI ?_ | refine jJ ?_ | refine jK ?_ | refine jL ?_ | refine jM ?_ | refine jN ?_ | refine jO ?_ | refine jP ?_ | refine jQ ?_ | refine jR ?_ | refine jS (k := ?_) | refine jT (k := ?_)))); (conv => whnf)
      refine r_ldnb (vs := m.cells) hblk6 rfl rfl ?_
      (repeat ((conv => whnf); (first | (with_reducible first | refine jA ?_ | refine jB ?_ | refine jC ?_ | refine jD ?_) | refine jE ?_ | refine jF ?_ | refine jG ?_ | refine jH ?_ | refine jI ?_ | refine jJ ?_ | refine jK ?_ | refine jL ?_ | refine jM ?_ | refine jN ?_ | refine jO ?_ | refine jP ?_ | refine jQ ?_ | refine jR ?_ | refine jS (k := ?_) | refine jT (k := ?_)))); (conv => whnf)
      refine r_new fun o7 w7 hx7 hb7 hs7 hblk7 => ?_
      (repeat ((conv => whnf); (first | (with_reducible first | refine jA ?_ | refine jB ?_ | refine jC ?_ | refine jD ?_) | refine jE ?_ | refine jF ?_ | refine jG ?_ | refine jH ?_ | refine jI ?_ | refine jJ ?_ | refine jK ?_ | refine jL ?_ | refine jM ?_ | refine jN ?_ | refine jO ?_ | refine jP ?_ | refine jQ ?_ | refine jR ?_ | refine jS (k := ?_) | refine jT (k := ?_)))); (conv => whnf)
      refine r_app emgR (own_ext hown6 hx7) (View.of_blk (n := 1) hblk7 rfl (by simp [maxLen])) (mg_one m) (by omega) (by have := (hx06.trans hx7).size; omega) fun v8 w8 hown8 hc8 _ => ?_
      have hx08 : Ext w w8 := Chg.own (hx06.trans hx7) hc8 (own_ext hown6 hx7)
      (repeat ((conv => whnf); (first | (with_reducible first | refine jA ?_ | refine jB ?_ | refine jC ?_ | refine jD ?_) | refine jE ?_ | refine jF ?_ | refine jG ?_ | refine jH ?_ | refine jI ?_ | refine jJ ?_ | refine jK ?_ | refine jL ?_ | refine jM ?_ | refine jN ?_ | refine jO ?_ | refine jP ?_ | refine jQ ?_ | refine jR ?_ | refine jS (k := ?_) | refine jT (k := ?_)))); (conv => whnf)
      rw [Int.toNat_natCast]
      refine r_app emgR hown8 (View.loM (hv.ext hx08) n (by omega)) (mv_one _) (by omega) (by have := hx08.size; omega) fun v9 w9 hown9 hc9 _ => ?_
      obtain ⟨a2, c2, rfl, hv2, -, -⟩ := View.of_own hown9
      (repeat ((conv => whnf); (first | (with_reducible first | refine jA ?_ | refine jB ?_ | refine jC ?_ | refine jD ?_) | refine jE ?_ | refine jF ?_ | refine jG ?_ | refine jH ?_ | refine jI ?_ | refine jJ ?_ | refine jK ?_ | refine jL ?_ | refine jM ?_ | refine jN ?_ | refine jO ?_ | refine jP ?_ | refine jQ ?_ | refine jR ?_ | refine jS (k := ?_) | refine jT (k := ?_)))); (conv => whnf)
      refine ⟨Chg.own hx08 hc9 hown8, a2, _, c2, rfl, ?_⟩
      rw [putM_at (by omega) hall hend, mv_app, mv_app]
      exact hv2
  · have hend : n = M.length ∨ ¬ Ahead (gm M n) m := .inl (by omega)
    have hx04 := hx03
    have hblk4 := hblk2.ext hx3
    have hz4 := hx3.size
    (repeat ((conv => whnf); (first | (with_reducible first | refine jA ?_ | refine jB ?_ | refine jC ?_ | refine jD ?_) | refine jE ?_ | refine jF ?_ | refine jG ?_ | refine jH ?_ | refine jI ?_ | refine jJ ?_ | refine jK ?_ | refine jL ?_ | refine jM ?_ | refine jN ?_ | refine jO ?_ | refine jP ?_ | refine jQ ?_ | refine jR ?_ | refine jS (k := ?_) | refine jT (k := ?_)))); (conv => whnf)
    refine r_new fun o w5 hx5 hb5 hs5 hblk5 => ?_
    have hx05 := hx04.trans hx5
    have hown5 := emgE (base := w.heap.size) hblk5 (by have := hx04.size; omega)
    (repeat ((conv => whnf); (first | (with_reducible first | refine jA ?_ | refine jB ?_ | refine jC ?_ | refine jD ?_) | refine jE ?_ | refine jF ?_ | refine jG ?_ | refine jH ?_ | refine jI ?_ | refine jJ ?_ | refine jK ?_ | refine jL ?_ | refine jM ?_ | refine jN ?_ | refine jO ?_ | refine jP ?_ | refine jQ ?_ | refine jR ?_ | refine jS (k := ?_) | refine jT (k := ?_)))); (conv => whnf)
    rw [Int.toNat_natCast]
    refine r_app emgR hown5 (View.hiM (hv.ext hx05) n (by omega)) (mv_one _) (by omega) (by have := hx05.size; omega) fun v6 w6 hown6 hc6 _ => ?_
    have hx06 : Ext w w6 := Chg.own hx05 hc6 hown5
    have hblk6 := (hblk4.ext hx5).keep hc6 (fun e => by have := hblk4.lt; have := Option.some.inj e; dsimp only at this; omega)
    rw [Nat.zero_add, List.nil_append] at hown6
    (repeat ((conv => whnf); (first | (with_reducible first | refine jA ?_ | refine jB ?_ | refine jC ?_ | refine jD ?_) | refine jE ?_ | refine jF ?_ | refine jG ?_ | refine jH ?_ | refine jI ?_ | refine jJ ?_ | refine jK ?_ | refine jL ?_ | refine jM ?_ | refine jN ?_ | refine jO ?_ | refine jP ?_ | refine jQ ?_ | refine jR ?_ | refine jS (k := ?_) | refine jT (k := ?_)))); (conv => whnf)
    refine r_ldnb (vs := m.cells) hblk6 rfl rfl ?_
    (repeat ((conv => whnf); (first | (with_reducible first | refine jA ?_ | refine jB ?_ | refine jC ?_ | refine jD ?_) | refine jE ?_ | refine jF ?_ | refine jG ?_ | refine jH ?_ | refine jI ?_ | refine jJ ?_ | refine jK ?_ | refine jL ?_ | refine jM ?_ | refine jN ?_ | refine jO ?_ | refine jP ?_ | refine jQ ?_ | refine jR ?_ | refine jS (k := ?_) | refine jT (k := ?_)))); (conv => whnf)
    refine r_new fun o7 w7 hx7 hb7 hs7 hblk7 => ?_
    (repeat ((conv => whnf); (first | (with_reducible first | refine jA ?_ | refine jB ?_ | refine jC ?_ | refine jD ?_) | refine jE ?_ | refine jF ?_ | refine jG ?_ | refine jH ?_ | refine jI ?_ | refine jJ ?_ | refine jK ?_ | refine jL ?_ | refine jM ?_ | refine jN ?_ | refine jO ?_ | refine jP ?_ | refine jQ ?_ | refine jR ?_ | refine jS (k := ?_) | refine jT (k := ?_)))); (conv => whnf)
    refine r_app emgR (own_ext hown6 hx7) (View.of_blk (n := 1) hblk7 rfl (by simp [maxLen])) (mg_one m) (by omega) (by have := (hx06.trans hx7).size; omega) fun v8 w8 hown8 hc8 _ => ?_
    have hx08 : Ext w w8 := Chg.own (hx06.trans hx7) hc8 (own_ext hown6 hx7)
    (repeat ((conv => whnf); (first | (with_reducible first | refine jA ?_ | refine jB ?_ | refine jC ?_ | refine jD ?_) | refine jE ?_ | refine jF ?_ | refine jG ?_ | refine jH ?_ | refine jI ?_ | refine jJ ?_ | refine jK ?_ | refine jL ?_ | refine jM ?_ | refine jN ?_ | refine jO ?_ | refine jP ?_ | refine jQ ?_ | refine jR ?_ | refine jS (k := ?_) | refine jT (k := ?_)))); (conv => whnf)
    rw [Int.toNat_natCast]
    refine r_app emgR hown8 (View.loM (hv.ext hx08) n (by omega)) (mv_one _) (by omega) (by have := hx08.size; omega) fun v9 w9 hown9 hc9 _ => ?_
    obtain ⟨a2, c2, rfl, hv2, -, -⟩ := View.of_own hown9
    (repeat ((conv => whnf); (first | (with_reducible first | refine jA ?_ | refine jB ?_ | refine jC ?_ | refine jD ?_) | refine jE ?_ | refine jF ?_ | refine jG ?_ | refine jH ?_ | refine jI ?_ | refine jJ ?_ | refine jK ?_ | refine jL ?_ | refine jM ?_ | refine jN ?_ | refine jO ?_ | refine jP ?_ | refine jQ ?_ | refine jR ?_ | refine jS (k := ?_) | refine jT (k := ?_)))); (conv => whnf)
    refine ⟨Chg.own hx08 hc9 hown8, a2, _, c2, rfl, ?_⟩
    rw [putM_at (by omega) hall hend, mv_app, mv_app]
    exact hv2
end
end Fb.Try.VO
