/-
  Walks: the document's steps.
-/
import Derived.Test.YtnofndhlhbbhdaaPg
import Derived.Test.YtnofndhlhbbhdaaPc
namespace Fb.Try.VO
open Go Go.Proofs Fb Fb.Bytes
def ri (row : List Int) : List Value := row.map (.int .i64)
theorem ri_len (row : List Int) : (ri row).length = row.length := by simp [ri]
theorem ri_get {row : List Int} {i : Nat} (h : i < row.length) : (ri row)[i]? = some (.int .i64 (gi row i)) := by
  unfold ri
  rw [List.getElem?_map, gi_get h]
  rfl
theorem ri_app (a b : List Int) : ri (a ++ b) = ri a ++ ri b := by simp [ri]
theorem ri_one (row : List Int) : ∀ v ∈ ri row, v.oneCell' = true := by
  intro v hv
  simp [ri] at hv
  obtain ⟨x, _, rfl⟩ := hv
  rfl
theorem eli : Elem Try.prog 62 3 1 8 := Elem.of (by kernel_rfl)
theorem empty_own {w : World} {b base : Nat} (h : Blk w b 3 []) (hb : base ≤ b) : w.ownsRow base 3 1 (.slice (some ⟨b, 0, none⟩) 0 0) 0 [] :=
  ⟨rfl, .inr ⟨b, 0, #[], rfl, hb, h, Nat.le_refl _, by simp [maxLen], rfl, rfl⟩⟩
theorem View.lo {w : World} {a : Option Addr} {len cap : Nat} {L : List Int} (h : View w a len cap 1 (ri L)) (k : Nat) (hk : k ≤ len) : View w (slcA a cap k 1) (len - k) (cap - k) 1 (ri (L.drop k)) := by
  have hl := h.length
  rw [ri_len] at hl
  have := h.sub k len hk (Nat.le_refl _)
  have e : ((ri L).drop (k * 1)).take ((len - k) * 1) = ri (L.drop k) := by
    rw [Nat.mul_one, Nat.mul_one, ri, ← List.map_drop, List.take_of_length_le (by simp; omega)]
    rfl
  rw [e] at this
  exact this
theorem View.hi {w : World} {a : Option Addr} {len cap : Nat} {L : List Int} (h : View w a len cap 1 (ri L)) (k : Nat) (hk : k ≤ len) : View w a k cap 1 (ri (L.take k)) := by
  have hl := h.length
  rw [ri_len] at hl
  have e : ri (L.take k) = (ri L).take k := by simp [ri, List.map_take]
  rw [e]
  refine ⟨by rw [List.length_take, ri_len]; omega, by have := h.le; omega, h.max, fun hp => h.plain (by rw [List.length_take] at hp; omega), fun i u hu => h.cell i u ?_⟩
  rw [List.getElem?_take] at hu
  split at hu
  · exact hu
  · cases hu
def fdI (M : List Mg) (a b : Int) : Int := match fd M a b with
  | some i => i
  | none => -1
def atI : Option (Nat × Nat) → Int
  | some p => p.1
  | none => -1
def mI : Option (Nat × Nat) → Int
  | some p => p.2
  | none => -1
section
variable {w w' : World} {v : Voc} {x : VA} {a : Option Addr} {len cap : Nat} {row : List Int}
theorem ri_lens (hv : View w a len cap 1 (ri row)) : row.length = len := by
  have h1 := hv.length
  rw [ri_len] at h1
  omega
theorem rFind_ok (h : IsV w v x) (hs : Small v) (p q : Int) : Cal Try.prog 33 ⟨[.agg ⟨vcs x⟩, .int .i64 p, .int .i64 q]⟩ w fun u w' => Ext w w' ∧ u = .int .i64 (fdI v.M p q) := by
  obtain ⟨hlT, hlM, hlS⟩ := h.lens
  have hnm := hs.nm
  refine go33 (by rfl) ?_
  (repeat ((conv => whnf); (first | (with_reducible first | refine jA ?_ | refine jB ?_ | refine jC ?_ | refine jD ?_) | refine jE ?_ | refine jF ?_ | refine jG ?_ | refine jH ?_ | refine jI ?_ | refine jJ ?_ | refine jK ?_ | refine jL ?_ | refine jM ?_ | refine jN ?_ | refine jO ?_ | refine jP ?_ | refine jQ ?_ | refine jR ?_ | refine jS (k := ?_) | refine jT (k := ?_)))); (conv => whnf)
  refine r_new fun b w1 hx1 hb1 hs1 hblk => ?_
  have hblk : Blk w1 b 50 [.slice x.aT x.lT x.cT, .slice x.aM x.lM x.cM, .slice x.aS x.lS x.cS] := hblk
  have h1 := h.ext hx1
  (repeat ((conv => whnf); (first | (with_reducible first | refine jA ?_ | refine jB ?_ | refine jC ?_ | refine jD ?_) | refine jE ?_ | refine jF ?_ | refine jG ?_ | refine jH ?_ | refine jI ?_ | refine jJ ?_ | refine jK ?_ | refine jL ?_ | refine jM ?_ | refine jN ?_ | refine jO ?_ | refine jP ?_ | refine jQ ?_ | refine jR ?_ | refine jS (k := ?_) | refine jT (k := ?_)))); (conv => whnf)
  refine r_loop (σ := Nat) (fun i => [.int .i64 (i : Int)]) (fun i w' => i ≤ x.lM ∧ w' = w1 ∧ ∀ k, k < i → ¬ ((gm v.M k).l = p ∧ (gm v.M k).r = q)) (fun i _ => x.lM - i) 0 rfl ⟨by omega, rfl, fun k hk => by omega⟩ ?_
  rintro i w2 again ⟨hi, rfl, hno⟩ hagain
  by_cases hil : i < x.lM
  · have hpm := h1.m.plain (by rw [mv_len]; omega)
    have nxt : ¬ ((gm v.M i).l = p ∧ (gm v.M i).r = q) → again [.int .i64 ((i + 1 : Nat) : Int)] w2 := fun hn => hagain (i + 1) w2 ⟨by omega, rfl, fun k hk => by
      by_cases hki : k = i
      · subst hki; exact hn
      · exact hno k (by omega)⟩ (by omega)
    by_cases e1 : (gm v.M i).l = p
    · by_cases e2 : (gm v.M i).r = q
      · have hf := fd_at (by omega) ⟨e1, e2⟩ hno
        (repeat ((conv => whnf); (first | (with_reducible first | refine jA ?_ | refine jB ?_ | refine jC ?_ | refine jD ?_) | refine jE ?_ | refine jF ?_ | refine jG ?_ | refine jH ?_ | refine jI ?_ | refine jJ ?_ | refine jK ?_ | refine jL ?_ | refine jM ?_ | refine jN ?_ | refine jO ?_ | refine jP ?_ | refine jQ ?_ | refine jR ?_ | refine jS (k := ?_) | refine jT (k := ?_)))); (conv => whnf)
        rw [adrV]
        refine r_ldv h1.m (mv_cell (M := v.M) (i := i) (by omega) 0 (by omega)) ?_
        (repeat ((conv => whnf); (first | (with_reducible first | refine jA ?_ | refine jB ?_ | refine jC ?_ | refine jD ?_) | refine jE ?_ | refine jF ?_ | refine jG ?_ | refine jH ?_ | refine jI ?_ | refine jJ ?_ | refine jK ?_ | refine jL ?_ | refine jM ?_ | refine jN ?_ | refine jO ?_ | refine jP ?_ | refine jQ ?_ | refine jR ?_ | refine jS (k := ?_) | refine jT (k := ?_)))); (conv => whnf)
        rw [adrV]
        refine r_ldv h1.m (mv_cell (M := v.M) (i := i) (by omega) 1 (by omega)) ?_
        (repeat ((conv => whnf); (first | (with_reducible first | refine jA ?_ | refine jB ?_ | refine jC ?_ | refine jD ?_) | refine jE ?_ | refine jF ?_ | refine jG ?_ | refine jH ?_ | refine jI ?_ | refine jJ ?_ | refine jK ?_ | refine jL ?_ | refine jM ?_ | refine jN ?_ | refine jO ?_ | refine jP ?_ | refine jQ ?_ | refine jR ?_ | refine jS (k := ?_) | refine jT (k := ?_)))); (conv => whnf)
        exact ⟨hx1, by simp [fdI, hf]⟩
      · (repeat ((conv => whnf); (first | (with_reducible first | refine jA ?_ | refine jB ?_ | refine jC ?_ | refine jD ?_) | refine jE ?_ | refine jF ?_ | refine jG ?_ | refine jH ?_ | refine jI ?_ | refine jJ ?_ | refine jK ?_ | refine jL ?_ | refine jM ?_ | refine jN ?_ | refine jO ?_ | refine jP ?_ | refine jQ ?_ | refine jR ?_ | refine jS (k := ?_) | refine jT (k := ?_)))); (conv => whnf)
        rw [adrV]
        refine r_ldv h1.m (mv_cell (M := v.M) (i := i) (by omega) 0 (by omega)) ?_
        (repeat ((conv => whnf); (first | (with_reducible first | refine jA ?_ | refine jB ?_ | refine jC ?_ | refine jD ?_) | refine jE ?_ | refine jF ?_ | refine jG ?_ | refine jH ?_ | refine jI ?_ | refine jJ ?_ | refine jK ?_ | refine jL ?_ | refine jM ?_ | refine jN ?_ | refine jO ?_ | refine jP ?_ | refine jQ ?_ | refine jR ?_ | refine jS (k := ?_) | refine jT (k := ?_)))); (conv => whnf)
        rw [adrV]
        refine r_ldv h1.m (mv_cell (M := v.M) (i := i) (by omega) 1 (by omega)) ?_
        (repeat ((conv => whnf); (first | (with_reducible first | refine jA ?_ | refine jB ?_ | refine jC ?_ | refine jD ?_) | refine jE ?_ | refine jF ?_ | refine jG ?_ | refine jH ?_ | refine jI ?_ | refine jJ ?_ | refine jK ?_ | refine jL ?_ | refine jM ?_ | refine jN ?_ | refine jO ?_ | refine jP ?_ | refine jQ ?_ | refine jR ?_ | refine jS (k := ?_) | refine jT (k := ?_)))); (conv => whnf)
        exact nxt fun e => e2 e.2
    · (repeat ((conv => whnf); (first | (with_reducible first | refine jA ?_ | refine jB ?_ | refine jC ?_ | refine jD ?_) | refine jE ?_ | refine jF ?_ | refine jG ?_ | refine jH ?_ | refine jI ?_ | refine jJ ?_ | refine jK ?_ | refine jL ?_ | refine jM ?_ | refine jN ?_ | refine jO ?_ | refine jP ?_ | refine jQ ?_ | refine jR ?_ | refine jS (k := ?_) | refine jT (k := ?_)))); (conv => whnf)
      rw [adrV]
      refine r_ldv h1.m (mv_cell (M := v.M) (i := i) (by omega) 0 (by omega)) ?_
      (repeat ((conv => whnf); (first | (with_reducible first | refine jA ?_ | refine jB ?_ | refine jC ?_ | refine jD ?_) | refine jE ?_ | refine jF ?_ | refine jG ?_ | refine jH ?_ | refine jI ?_ | refine jJ ?_ | refine jK ?_ | refine jL ?_ | refine jM ?_ | refine jN ?_ | refine jO ?_ | refine jP ?_ | refine jQ ?_ | refine jR ?_ | refine jS (k := ?_) | refine jT (k := ?_)))); (conv => whnf)
      exact nxt fun e => e1 e.1
  · have hf := fd_no (M := v.M) (a := p) (b := q) fun k hk => hno k (by omega)
    (repeat ((conv => whnf); (first | (with_reducible first | refine jA ?_ | refine jB ?_ | refine jC ?_ | refine jD ?_) | refine jE ?_ | refine jF ?_ | refine jG ?_ | refine jH ?_ | refine jI ?_ | refine jJ ?_ | refine jK ?_ | refine jL ?_ | refine jM ?_ | refine jN ?_ | refine jO ?_ | refine jP ?_ | refine jQ ?_ | refine jR ?_ | refine jS (k := ?_) | refine jT (k := ?_)))); (conv => whnf)
    exact ⟨hx1, by simp [fdI, hf]⟩
theorem rBest_ok (h : IsV w v x) (hs : Small v) (hv : View w a len cap 1 (ri row)) (hl : len ≤ 1000) : Cal Try.prog 36 ⟨[.agg ⟨vcs x⟩, .slice a len cap]⟩ w fun u w' => Ext w w' ∧ u = .tuple ⟨[.int .i64 (atI (bst v.M row)), .int .i64 (mI (bst v.M row))]⟩ := by
  obtain ⟨hlT, hlM, hlS⟩ := h.lens
  have hnm := hs.nm
  have hrl := ri_lens hv
  refine go36 (by rfl) ?_
  (repeat ((conv => whnf); (first | (with_reducible first | refine jA ?_ | refine jB ?_ | refine jC ?_ | refine jD ?_) | refine jE ?_ | refine jF ?_ | refine jG ?_ | refine jH ?_ | refine jI ?_ | refine jJ ?_ | refine jK ?_ | refine jL ?_ | refine jM ?_ | refine jN ?_ | refine jO ?_ | refine jP ?_ | refine jQ ?_ | refine jR ?_ | refine jS (k := ?_) | refine jT (k := ?_)))); (conv => whnf)
  refine r_new fun b w1 hx1 hb1 hs1 hblk => ?_
  have hblk : Blk w1 b 50 [.slice x.aT x.lT x.cT, .slice x.aM x.lM x.cM, .slice x.aS x.lS x.cS] := hblk
  (repeat ((conv => whnf); (first | (with_reducible first | refine jA ?_ | refine jB ?_ | refine jC ?_ | refine jD ?_) | refine jE ?_ | refine jF ?_ | refine jG ?_ | refine jH ?_ | refine jI ?_ | refine jJ ?_ | refine jK ?_ | refine jL ?_ | refine jM ?_ | refine jN ?_ | refine jO ?_ | refine jP ?_ | refine jQ ?_ | refine jR ?_ | refine jS (k := ?_) | refine jT (k := ?_)))); (conv => whnf)
  refine r_loop (σ := Nat) (fun n => [.int .i64 (atI (bstN v.M row n)), .int .i64 (mI (bstN v.M row n)), .int .i64 (n : Int)]) (fun n w' => n ≤ len - 1 ∧ Ext w1 w') (fun n _ => len - 1 - n) 0 rfl ⟨by omega, Ext.refl _⟩ ?_
  rintro n w2 again ⟨hn, hx2⟩ hagain
  have hx02 := hx1.trans hx2
  have hblk := hblk.ext hx2
  have h2 := h.ext hx02
  have hv2 := hv.ext hx02
  by_cases hnl : n + 1 < len
  rotate_left
  · have : n = row.length - 1 := by omega
    subst this
    (repeat ((conv => whnf); (first | (with_reducible first | refine jA ?_ | refine jB ?_ | refine jC ?_ | refine jD ?_) | refine jE ?_ | refine jF ?_ | refine jG ?_ | refine jH ?_ | refine jI ?_ | refine jJ ?_ | refine jK ?_ | refine jL ?_ | refine jM ?_ | refine jN ?_ | refine jO ?_ | refine jP ?_ | refine jQ ?_ | refine jR ?_ | refine jS (k := ?_) | refine jT (k := ?_)))); (conv => whnf)
    exact ⟨hx02, rfl⟩
  have hp := hv.plain (by rw [ri_len]; omega)
  have g1 : (ri row)[(n : Int).toNat * 1]? = some (.int .i64 (gi row n)) := by simpa using ri_get (row := row) (i := n) (by omega)
  have g2 : (ri row)[((n : Int) + 1).toNat * 1]? = some (.int .i64 (gi row (n + 1))) := by
    rw [show ((n : Int) + 1).toNat * 1 = n + 1 by omega]
    exact ri_get (by omega)
  (repeat ((conv => whnf); (first | (with_reducible first | refine jA ?_ | refine jB ?_ | refine jC ?_ | refine jD ?_) | refine jE ?_ | refine jF ?_ | refine jG ?_ | refine jH ?_ | refine jI ?_ | refine jJ ?_ | refine jK ?_ | refine jL ?_ | refine jM ?_ | refine jN ?_ | refine jO ?_ | refine jP ?_ | refine jQ ?_ | refine jR ?_ | refine jS (k := ?_) | refine jT (k := ?_)))); (conv => whnf)
  refine r_drawE fun w3 hx3 hh3 => ?_
  (repeat ((conv => whnf); (first | refine r_ldnbE (vs := vcs x) hblk rfl rfl ?_ | refine r_ldvE hv2 g1 ?_ | refine r_ldvE hv2 g2 ?_ | (with_reducible first | refine jA ?_ | refine jB ?_ | refine jC ?_ | refine jD ?_) | refine jE ?_ | refine jF ?_ | refine jG ?_ | refine jH ?_ | refine jI ?_ | refine jJ ?_ | refine jK ?_ | refine jL ?_ | refine jM ?_ | refine jN ?_ | refine jO ?_ | refine jP ?_ | refine jQ ?_ | refine jR ?_ | refine jS (k := ?_) | refine jT (k := ?_)))); (conv => whnf)
  refine r_cal (rFind_ok (h2.ext hx3) hs (gi row n) (gi row (n + 1))) ?_
  rintro _ w4 ⟨hx4, rfl⟩
  have hx24 := hx3.trans hx4
  have hblk4 := hblk.ext hx24
  have h4 := h2.ext hx24
  have hag := hagain (n + 1)
  have hst : bstN v.M row (n + 1) = better v.M (bstN v.M row n) (cand v.M row n) := rfl
  (repeat ((conv => whnf); (first | (with_reducible first | refine jA ?_ | refine jB ?_ | refine jC ?_ | refine jD ?_) | refine jE ?_ | refine jF ?_ | refine jG ?_ | refine jH ?_ | refine jI ?_ | refine jJ ?_ | refine jK ?_ | refine jL ?_ | refine jM ?_ | refine jN ?_ | refine jO ?_ | refine jP ?_ | refine jQ ?_ | refine jR ?_ | refine jS (k := ?_) | refine jT (k := ?_)))); (conv => whnf)
  refine r_drawE fun w5 hx5 hh5 => ?_
  have hag := hag w5 ⟨by omega, hx2.trans (hx24.trans hx5)⟩ (by omega)
  rw [hst] at hag
  unfold fdI
  unfold cand at hag
  cases hf : fd v.M (gi row n) (gi row (n + 1)) with
  | none =>
    rw [hf] at hag
    dsimp only
    (repeat ((conv => whnf); (first | (with_reducible first | refine jA ?_ | refine jB ?_ | refine jC ?_ | refine jD ?_) | refine jE ?_ | refine jF ?_ | refine jG ?_ | refine jH ?_ | refine jI ?_ | refine jJ ?_ | refine jK ?_ | refine jL ?_ | refine jM ?_ | refine jN ?_ | refine jO ?_ | refine jP ?_ | refine jQ ?_ | refine jR ?_ | refine jS (k := ?_) | refine jT (k := ?_)))); (conv => whnf)
    exact hag
  | some m =>
    rw [hf] at hag
    obtain ⟨hm1, -⟩ := fd_some hf
    have hpm := h4.m.plain (by rw [mv_len]; omega)
    cases hb : bstN v.M row n with
    | none =>
      rw [hb] at hag
      have hmi : mI none = -1 := rfl
      rw [hmi]
      dsimp only
      (repeat ((conv => whnf); (first | (with_reducible first | refine jA ?_ | refine jB ?_ | refine jC ?_ | refine jD ?_) | refine jE ?_ | refine jF ?_ | refine jG ?_ | refine jH ?_ | refine jI ?_ | refine jJ ?_ | refine jK ?_ | refine jL ?_ | refine jM ?_ | refine jN ?_ | refine jO ?_ | refine jP ?_ | refine jQ ?_ | refine jR ?_ | refine jS (k := ?_) | refine jT (k := ?_)))); (conv => whnf)
      exact hag
    | some q =>
      obtain ⟨hq1, hq2, -, -⟩ := bstN_some hb
      rw [hb] at hag
      simp only [Option.map_some, better_ss] at hag
      have hmi : mI (some q) = q.2 := rfl
      rw [hmi]
      dsimp only
      (repeat ((conv => whnf); (first | (with_reducible first | refine jA ?_ | refine jB ?_ | refine jC ?_ | refine jD ?_) | refine jE ?_ | refine jF ?_ | refine jG ?_ | refine jH ?_ | refine jI ?_ | refine jJ ?_ | refine jK ?_ | refine jL ?_ | refine jM ?_ | refine jN ?_ | refine jO ?_ | refine jP ?_ | refine jQ ?_ | refine jR ?_ | refine jS (k := ?_) | refine jT (k := ?_)))); (conv => whnf)
      rw [adrV]
      refine r_ldvE h4.m (mv_cell (M := v.M) (i := m) hm1 3 (by omega)) ?_
      (repeat ((conv => whnf); (first | (with_reducible first | refine jA ?_ | refine jB ?_ | refine jC ?_ | refine jD ?_) | refine jE ?_ | refine jF ?_ | refine jG ?_ | refine jH ?_ | refine jI ?_ | refine jJ ?_ | refine jK ?_ | refine jL ?_ | refine jM ?_ | refine jN ?_ | refine jO ?_ | refine jP ?_ | refine jQ ?_ | refine jR ?_ | refine jS (k := ?_) | refine jT (k := ?_)))); (conv => whnf)
      rw [adrV]
      refine r_ldvE h4.m (mv_cell (M := v.M) (i := q.2) hq2 3 (by omega)) ?_
      by_cases hlt : (gm v.M m).d < (gm v.M q.2).d
      · rw [if_pos hlt] at hag
        (repeat ((conv => whnf); (first | (with_reducible first | refine jA ?_ | refine jB ?_ | refine jC ?_ | refine jD ?_) | refine jE ?_ | refine jF ?_ | refine jG ?_ | refine jH ?_ | refine jI ?_ | refine jJ ?_ | refine jK ?_ | refine jL ?_ | refine jM ?_ | refine jN ?_ | refine jO ?_ | refine jP ?_ | refine jQ ?_ | refine jR ?_ | refine jS (k := ?_) | refine jT (k := ?_)))); (conv => whnf)
        exact hag
      · rw [if_neg hlt] at hag
        (repeat ((conv => whnf); (first | (with_reducible first | refine jA ?_ | refine jB ?_ | refine jC ?_ | refine jD ?_) | refine jE ?_ | refine jF ?_ | refine jG ?_ | refine jH ?_ | refine jI ?_ | refine jJ ?_ | refine jK ?_ | refine jL ?_ | refine jM ?_ | refine jN ?_ | refine jO ?_ | refine jP ?_ | refine jQ ?_ | refine jR ?_ | refine jS (k := ?_) | refine jT (k := ?_)))); (conv => whnf)
        exact hag
end
end Fb.Try.VO
