/-
  Walks: the package's rules for merges and specials; whether a vocabulary may be.
-/
import Derived.Test.YtnofndhlhbbhdaaPe
namespace Fb.Try.VO
open Go Go.Proofs Fb Fb.Bytes
def kv2 (m : Mg) : Value := .agg ⟨[.int .i64 m.l, .int .i64 m.r]⟩
theorem kv2_inj {m n : Mg} : kv2 m = kv2 n ↔ m.l = n.l ∧ m.r = n.r := by
  unfold kv2
  constructor
  · intro h
    simp at h
    exact h
  · rintro ⟨h1, h2⟩
    rw [h1, h2]
/-- What a map of parts tells. -/
structure SeM (M : List Mg) (i : Nat) (f : Value → Option Value) : Prop where
  yes : ∀ k, k < i → f (kv2 (gm M k)) = some (.int .i64 1)
  no : ∀ m : Mg, (∀ k, k < i → ¬ ((gm M k).l = m.l ∧ (gm M k).r = m.r)) → f (kv2 m) = none
  key : ∀ key, f key ≠ none → ∃ k, k < i ∧ key = kv2 (gm M k)
theorem SeM.nil (M : List Mg) : SeM M 0 (fun _ => none) := ⟨fun k hk => by omega, fun _ _ => rfl, fun _ hk => absurd rfl hk⟩
theorem SeM.list {M : List Mg} {i : Nat} {f : Value → Option Value} (h : SeM M i f) : ∀ key, f key ≠ none → key ∈ (List.range i).map fun k => kv2 (gm M k) := fun key hk => by
  obtain ⟨k, h1, h2⟩ := h.key key hk
  exact List.mem_map.2 ⟨k, by simpa using h1, h2.symm⟩
theorem SeM.step {M : List Mg} {i : Nat} {f : Value → Option Value} (h : SeM M i f) : SeM M (i + 1) (upd f (kv2 (gm M i)) (some (.int .i64 1))) := by
  refine ⟨fun k hk => ?_, fun m hm => ?_, fun key hk => ?_⟩
  · by_cases he : kv2 (gm M k) = kv2 (gm M i)
    · rw [he, upd_same]
    · rw [upd_ne _ _ he]
      exact h.yes k (by
        have : k ≠ i := fun e => he (by rw [e])
        omega)
  · rw [upd_ne _ _ fun e => hm i (by omega) (by
      have := kv2_inj.1 e
      exact ⟨this.1.symm, this.2.symm⟩)]
    exact h.no m fun k hk => hm k (by omega)
  · by_cases he : key = kv2 (gm M i)
    · exact ⟨i, by omega, he⟩
    · rw [upd_ne _ _ he] at hk
      obtain ⟨k, h1, h2⟩ := h.key key hk
      exact ⟨k, by omega, h2⟩
section
variable {w w' : World} {v : Voc} {x : VA}
set_option maxHeartbeats 4000000 in
set_option maxRecDepth 100000 in
theorem mg_ok (h : IsV w v x) (hs : Small v) (hw : Wfv v) : Cal Try.prog 73 ⟨[.slice x.aT x.lT x.cT, .slice x.aM x.lM x.cM]⟩ w fun u w' => Ext w w' ∧ ∃ b, u = .bool b ∧ (b = true ↔ MgOk v.T v.M) := by
  obtain ⟨hlT, hlM, hlS⟩ := h.lens
  have hnt := hs.nt
  have hnm := hs.nm
  refine go73 (by rfl) ?_
  (repeat ((conv => whnf); (first | (with_reducible first | refine jA ?_ | refine jB ?_ | refine jC ?_ | refine jD ?_) | refine jE ?_ | refine jF ?_ | refine jG ?_ | refine jH ?_ | refine jI ?_ | refine jJ ?_ | refine jK ?_ | refine jL ?_ | refine jM ?_ | refine jN ?_ | refine jO ?_ | refine jP ?_ | refine jQ ?_ | refine jR ?_ | refine jS (k := ?_) | refine jT (k := ?_)))); (conv => whnf)
  refine r_makeMap (k := 143) fun w1 hx1 hs1 hm1 => ?_
  have hsb : w.heap.size ≤ w.heap.size := Nat.le_refl _
  generalize hsbe : w.heap.size = sb at hm1 hsb ⊢
  (repeat ((conv => whnf); (first | (with_reducible first | refine jA ?_ | refine jB ?_ | refine jC ?_ | refine jD ?_) | refine jE ?_ | refine jF ?_ | refine jG ?_ | refine jH ?_ | refine jI ?_ | refine jJ ?_ | refine jK ?_ | refine jL ?_ | refine jM ?_ | refine jN ?_ | refine jO ?_ | refine jP ?_ | refine jQ ?_ | refine jR ?_ | refine jS (k := ?_) | refine jT (k := ?_)))); (conv => whnf)
  refine r_loop (σ := Nat) (fun i => [.int .i64 (i : Int)]) (fun i w' => i ≤ x.lM ∧ Ext w w' ∧ (∀ j, j < i → MgStep v.T v.M j) ∧ ∃ f, MapV Try.prog 143 w' sb f ∧ SeM v.M i f) (fun i _ => x.lM - i) 0 rfl ⟨by omega, hx1, fun j hj => by omega, _, hm1, SeM.nil _⟩ ?_
  clear hm1
  rintro i w2 again ⟨hi, hx2, hall, f, hm, hse⟩ hagain
  by_cases hil : i < x.lM
  rotate_left
  · (repeat ((conv => whnf); (first | (with_reducible first | refine jA ?_ | refine jB ?_ | refine jC ?_ | refine jD ?_) | refine jE ?_ | refine jF ?_ | refine jG ?_ | refine jH ?_ | refine jI ?_ | refine jJ ?_ | refine jK ?_ | refine jL ?_ | refine jM ?_ | refine jN ?_ | refine jO ?_ | refine jP ?_ | refine jQ ?_ | refine jR ?_ | refine jS (k := ?_) | refine jT (k := ?_)))); (conv => whnf)
    exact ⟨hx2, true, rfl, tt_iff (mgOk_steps.2 fun j hj => hall j (by omega))⟩
  have hpm := h.m.plain (by rw [mv_len]; omega)
  have hwf := hw.mw _ (gm_mem.2 ⟨i, by omega, rfl⟩)
  (repeat ((conv => whnf); (first | (with_reducible first | refine jA ?_ | refine jB ?_ | refine jC ?_ | refine jD ?_) | refine jE ?_ | refine jF ?_ | refine jG ?_ | refine jH ?_ | refine jI ?_ | refine jJ ?_ | refine jK ?_ | refine jL ?_ | refine jM ?_ | refine jN ?_ | refine jO ?_ | refine jP ?_ | refine jQ ?_ | refine jR ?_ | refine jS (k := ?_) | refine jT (k := ?_)))); (conv => whnf)
  refine r_ldnv (j := (i : Int).toNat * 4) (vs := (gm v.M i).cells) (h.ext hx2).m (mv_ent (by omega)) rfl ?_
  (repeat ((conv => whnf); (first | (with_reducible first | refine jA ?_ | refine jB ?_ | refine jC ?_ | refine jD ?_) | refine jE ?_ | refine jF ?_ | refine jG ?_ | refine jH ?_ | refine jI ?_ | refine jJ ?_ | refine jK ?_ | refine jL ?_ | refine jM ?_ | refine jN ?_ | refine jO ?_ | refine jP ?_ | refine jQ ?_ | refine jR ?_ | refine jS (k := ?_) | refine jT (k := ?_)))); (conv => whnf)
  refine r_new fun bm w3 hx3 hb3 hs3 hblk3 => ?_
  (repeat ((conv => whnf); (first | (with_reducible first | refine jA ?_ | refine jB ?_ | refine jC ?_ | refine jD ?_) | refine jE ?_ | refine jF ?_ | refine jG ?_ | refine jH ?_ | refine jI ?_ | refine jJ ?_ | refine jK ?_ | refine jL ?_ | refine jM ?_ | refine jN ?_ | refine jO ?_ | refine jP ?_ | refine jQ ?_ | refine jR ?_ | refine jS (k := ?_) | refine jT (k := ?_)))); (conv => whnf)
  refine r_stn hblk3 (by simp [Mg.cells]) (mg_one _) fun w4 hc4 hs4 hm4 => ?_
  have hm4 : Blk w4 bm 57 [.int .i64 (gm v.M i).l, .int .i64 (gm v.M i).r, .int .i64 (gm v.M i).o, .int .i64 (gm v.M i).d] := hm4
  have hx24 : Ext w2 w4 := Chg.step hx3 hc4 fun k hk hlt => by omega
  have hx04 := hx2.trans hx24
  have h4 := h.ext hx04
  have hmp4 := hm.ext hx24
  have fin : ∀ w', Ext w4 w' → ¬ MgStep v.T v.M i → Ext w w' ∧ ∃ b, Value.bool false = .bool b ∧ (b = true ↔ MgOk v.T v.M) := fun w' hx' hno => ⟨hx04.trans hx', false, rfl, ff_iff fun hmo => hno (mgOk_steps.1 hmo i (by omega))⟩
  (repeat ((conv => whnf); (first | (with_reducible first | refine jA ?_ | refine jB ?_ | refine jC ?_ | refine jD ?_) | refine jE ?_ | refine jF ?_ | refine jG ?_ | refine jH ?_ | refine jI ?_ | refine jJ ?_ | refine jK ?_ | refine jL ?_ | refine jM ?_ | refine jN ?_ | refine jO ?_ | refine jP ?_ | refine jQ ?_ | refine jR ?_ | refine jS (k := ?_) | refine jT (k := ?_)))); (conv => whnf)
  refine r_drawE fun w5 hx5 hh5 => ?_
  (repeat ((conv => whnf); (first | (with_reducible first | refine jA ?_ | refine jB ?_ | refine jC ?_ | refine jD ?_) | refine jE ?_ | refine jF ?_ | refine jG ?_ | refine jH ?_ | refine jI ?_ | refine jJ ?_ | refine jK ?_ | refine jL ?_ | refine jM ?_ | refine jN ?_ | refine jO ?_ | refine jP ?_ | refine jQ ?_ | refine jR ?_ | refine jS (k := ?_) | refine jT (k := ?_)))); (conv => whnf)
  refine r_cal (vis_ok (h4.ext hx5).t (gm v.M i).l) ?_
  rintro _ w6 ⟨rfl, b1, rfl, hb1⟩
  cases b1 with
  | false =>
    (repeat ((conv => whnf); (first | (with_reducible first | refine jA ?_ | refine jB ?_ | refine jC ?_ | refine jD ?_) | refine jE ?_ | refine jF ?_ | refine jG ?_ | refine jH ?_ | refine jI ?_ | refine jJ ?_ | refine jK ?_ | refine jL ?_ | refine jM ?_ | refine jN ?_ | refine jO ?_ | refine jP ?_ | refine jQ ?_ | refine jR ?_ | refine jS (k := ?_) | refine jT (k := ?_)))); (conv => whnf)
    refine r_held hx5 ?_
    (repeat ((conv => whnf); (first | (with_reducible first | refine jA ?_ | refine jB ?_ | refine jC ?_ | refine jD ?_) | refine jE ?_ | refine jF ?_ | refine jG ?_ | refine jH ?_ | refine jI ?_ | refine jJ ?_ | refine jK ?_ | refine jL ?_ | refine jM ?_ | refine jN ?_ | refine jO ?_ | refine jP ?_ | refine jQ ?_ | refine jR ?_ | refine jS (k := ?_) | refine jT (k := ?_)))); (conv => whnf)
    exact fin _ hx5 fun hh => by have := hb1.2 hh.1.1; cases this
  | true =>
  have hi1 := hb1.1 rfl
  (repeat ((conv => whnf); (first | (with_reducible first | refine jA ?_ | refine jB ?_ | refine jC ?_ | refine jD ?_) | refine jE ?_ | refine jF ?_ | refine jG ?_ | refine jH ?_ | refine jI ?_ | refine jJ ?_ | refine jK ?_ | refine jL ?_ | refine jM ?_ | refine jN ?_ | refine jO ?_ | refine jP ?_ | refine jQ ?_ | refine jR ?_ | refine jS (k := ?_) | refine jT (k := ?_)))); (conv => whnf)
  refine r_held hx5 ?_
  (repeat ((conv => whnf); (first | (with_reducible first | refine jA ?_ | refine jB ?_ | refine jC ?_ | refine jD ?_) | refine jE ?_ | refine jF ?_ | refine jG ?_ | refine jH ?_ | refine jI ?_ | refine jJ ?_ | refine jK ?_ | refine jL ?_ | refine jM ?_ | refine jN ?_ | refine jO ?_ | refine jP ?_ | refine jQ ?_ | refine jR ?_ | refine jS (k := ?_) | refine jT (k := ?_)))); (conv => whnf)
  refine r_cal (vis_ok (h4.ext hx5).t (gm v.M i).r) ?_
  rintro _ w7 ⟨rfl, b2, rfl, hb2⟩
  cases b2 with
  | false =>
    (repeat ((conv => whnf); (first | (with_reducible first | refine jA ?_ | refine jB ?_ | refine jC ?_ | refine jD ?_) | refine jE ?_ | refine jF ?_ | refine jG ?_ | refine jH ?_ | refine jI ?_ | refine jJ ?_ | refine jK ?_ | refine jL ?_ | refine jM ?_ | refine jN ?_ | refine jO ?_ | refine jP ?_ | refine jQ ?_ | refine jR ?_ | refine jS (k := ?_) | refine jT (k := ?_)))); (conv => whnf)
    refine r_held hx5 ?_
    (repeat ((conv => whnf); (first | (with_reducible first | refine jA ?_ | refine jB ?_ | refine jC ?_ | refine jD ?_) | refine jE ?_ | refine jF ?_ | refine jG ?_ | refine jH ?_ | refine jI ?_ | refine jJ ?_ | refine jK ?_ | refine jL ?_ | refine jM ?_ | refine jN ?_ | refine jO ?_ | refine jP ?_ | refine jQ ?_ | refine jR ?_ | refine jS (k := ?_) | refine jT (k := ?_)))); (conv => whnf)
    exact fin _ hx5 fun hh => by have := hb2.2 hh.1.2.1; cases this
  | true =>
  have hi2 := hb2.1 rfl
  (repeat ((conv => whnf); (first | (with_reducible first | refine jA ?_ | refine jB ?_ | refine jC ?_ | refine jD ?_) | refine jE ?_ | refine jF ?_ | refine jG ?_ | refine jH ?_ | refine jI ?_ | refine jJ ?_ | refine jK ?_ | refine jL ?_ | refine jM ?_ | refine jN ?_ | refine jO ?_ | refine jP ?_ | refine jQ ?_ | refine jR ?_ | refine jS (k := ?_) | refine jT (k := ?_)))); (conv => whnf)
  refine r_held hx5 ?_
  (repeat ((conv => whnf); (first | (with_reducible first | refine jA ?_ | refine jB ?_ | refine jC ?_ | refine jD ?_) | refine jE ?_ | refine jF ?_ | refine jG ?_ | refine jH ?_ | refine jI ?_ | refine jJ ?_ | refine jK ?_ | refine jL ?_ | refine jM ?_ | refine jN ?_ | refine jO ?_ | refine jP ?_ | refine jQ ?_ | refine jR ?_ | refine jS (k := ?_) | refine jT (k := ?_)))); (conv => whnf)
  refine r_cal (vis_ok (h4.ext hx5).t (gm v.M i).o) ?_
  rintro _ w8 ⟨rfl, b3, rfl, hb3⟩
  cases b3 with
  | false =>
    (repeat ((conv => whnf); (first | (with_reducible first | refine jA ?_ | refine jB ?_ | refine jC ?_ | refine jD ?_) | refine jE ?_ | refine jF ?_ | refine jG ?_ | refine jH ?_ | refine jI ?_ | refine jJ ?_ | refine jK ?_ | refine jL ?_ | refine jM ?_ | refine jN ?_ | refine jO ?_ | refine jP ?_ | refine jQ ?_ | refine jR ?_ | refine jS (k := ?_) | refine jT (k := ?_)))); (conv => whnf)
    refine r_held hx5 ?_
    (repeat ((conv => whnf); (first | (with_reducible first | refine jA ?_ | refine jB ?_ | refine jC ?_ | refine jD ?_) | refine jE ?_ | refine jF ?_ | refine jG ?_ | refine jH ?_ | refine jI ?_ | refine jJ ?_ | refine jK ?_ | refine jL ?_ | refine jM ?_ | refine jN ?_ | refine jO ?_ | refine jP ?_ | refine jQ ?_ | refine jR ?_ | refine jS (k := ?_) | refine jT (k := ?_)))); (conv => whnf)
    exact fin _ hx5 fun hh => by have := hb3.2 hh.1.2.2.1; cases this
  | true =>
  have hi3 := hb3.1 rfl
  have z1 := hi1.1
  have z2 := hi1.2.1
  have z3 := hi2.1
  have z4 := hi2.2.1
  have z5 := hi3.1
  have z6 := hi3.2.1
  have hpt := h4.t.plain (by rw [tv_len]; omega)
  have y1 := bstr_size (tk v.T (gm v.M i).l)
  have y2 := bstr_size (tk v.T (gm v.M i).r)
  have y3 := tk_len hs.tl (gm v.M i).l
  have y4 := tk_len hs.tl (gm v.M i).r
  (repeat ((conv => whnf); (first | (with_reducible first | refine jA ?_ | refine jB ?_ | refine jC ?_ | refine jD ?_) | refine jE ?_ | refine jF ?_ | refine jG ?_ | refine jH ?_ | refine jI ?_ | refine jJ ?_ | refine jK ?_ | refine jL ?_ | refine jM ?_ | refine jN ?_ | refine jO ?_ | refine jP ?_ | refine jQ ?_ | refine jR ?_ | refine jS (k := ?_) | refine jT (k := ?_)))); (conv => whnf)
  refine r_held hx5 ?_
  (repeat ((conv => whnf); (first | (with_reducible first | refine jA ?_ | refine jB ?_ | refine jC ?_ | refine jD ?_) | refine jE ?_ | refine jF ?_ | refine jG ?_ | refine jH ?_ | refine jI ?_ | refine jJ ?_ | refine jK ?_ | refine jL ?_ | refine jM ?_ | refine jN ?_ | refine jO ?_ | refine jP ?_ | refine jQ ?_ | refine jR ?_ | refine jS (k := ?_) | refine jT (k := ?_)))); (conv => whnf)
  refine r_ldvE h4.t (tv_getI (T := v.T) (i := (gm v.M i).o) z5 z6) ?_
  (repeat ((conv => whnf); (first | (with_reducible first | refine jA ?_ | refine jB ?_ | refine jC ?_ | refine jD ?_) | refine jE ?_ | refine jF ?_ | refine jG ?_ | refine jH ?_ | refine jI ?_ | refine jJ ?_ | refine jK ?_ | refine jL ?_ | refine jM ?_ | refine jN ?_ | refine jO ?_ | refine jP ?_ | refine jQ ?_ | refine jR ?_ | refine jS (k := ?_) | refine jT (k := ?_)))); (conv => whnf)
  refine r_ldvE h4.t (tv_getI (T := v.T) (i := (gm v.M i).l) z1 z2) ?_
  (repeat ((conv => whnf); (first | (with_reducible first | refine jA ?_ | refine jB ?_ | refine jC ?_ | refine jD ?_) | refine jE ?_ | refine jF ?_ | refine jG ?_ | refine jH ?_ | refine jI ?_ | refine jJ ?_ | refine jK ?_ | refine jL ?_ | refine jM ?_ | refine jN ?_ | refine jO ?_ | refine jP ?_ | refine jQ ?_ | refine jR ?_ | refine jS (k := ?_) | refine jT (k := ?_)))); (conv => whnf)
  refine r_ldvE h4.t (tv_getI (T := v.T) (i := (gm v.M i).r) z3 z4) ?_
  (repeat ((conv => whnf); (first | (with_reducible first | refine jA ?_ | refine jB ?_ | refine jC ?_ | refine jD ?_) | refine jE ?_ | refine jF ?_ | refine jG ?_ | refine jH ?_ | refine jI ?_ | refine jJ ?_ | refine jK ?_ | refine jL ?_ | refine jM ?_ | refine jN ?_ | refine jO ?_ | refine jP ?_ | refine jQ ?_ | refine jR ?_ | refine jS (k := ?_) | refine jT (k := ?_)))); (conv => whnf)
  rw [bstr_app]
  by_cases hcat : tk v.T (gm v.M i).o = tk v.T (gm v.M i).l ++ tk v.T (gm v.M i).r
  rotate_left
  · refine r_snt hcat ?_
    (repeat ((conv => whnf); (first | (with_reducible first | refine jA ?_ | refine jB ?_ | refine jC ?_ | refine jD ?_) | refine jE ?_ | refine jF ?_ | refine jG ?_ | refine jH ?_ | refine jI ?_ | refine jJ ?_ | refine jK ?_ | refine jL ?_ | refine jM ?_ | refine jN ?_ | refine jO ?_ | refine jP ?_ | refine jQ ?_ | refine jR ?_ | refine jS (k := ?_) | refine jT (k := ?_)))); (conv => whnf)
    exact fin _ hx5 fun hh => hcat hh.1.2.2.2.2.2
  refine r_snf hcat ?_
  by_cases hd0 : 0 ≤ (gm v.M i).d
  rotate_left
  · (repeat ((conv => whnf); (first | (with_reducible first | refine jA ?_ | refine jB ?_ | refine jC ?_ | refine jD ?_) | refine jE ?_ | refine jF ?_ | refine jG ?_ | refine jH ?_ | refine jI ?_ | refine jJ ?_ | refine jK ?_ | refine jL ?_ | refine jM ?_ | refine jN ?_ | refine jO ?_ | refine jP ?_ | refine jQ ?_ | refine jR ?_ | refine jS (k := ?_) | refine jT (k := ?_)))); (conv => whnf)
    exact fin _ hx5 fun hh => hd0 hh.1.2.2.2.1
  by_cases hd1 : (gm v.M i).d ≤ 1048576
  rotate_left
  · (repeat ((conv => whnf); (first | (with_reducible first | refine jA ?_ | refine jB ?_ | refine jC ?_ | refine jD ?_) | refine jE ?_ | refine jF ?_ | refine jG ?_ | refine jH ?_ | refine jI ?_ | refine jJ ?_ | refine jK ?_ | refine jL ?_ | refine jM ?_ | refine jN ?_ | refine jO ?_ | refine jP ?_ | refine jQ ?_ | refine jR ?_ | refine jS (k := ?_) | refine jT (k := ?_)))); (conv => whnf)
    exact fin _ hx5 fun hh => hd1 hh.1.2.2.2.2.1
  have hfit : Fits v.T (gm v.M i) := ⟨hi1, hi2, hi3, hd0, hd1, hcat⟩
  have hm8 := hm4.ext hx5
  have hmp8 := hmp4.ext hx5
  by_cases hi0 : 0 < i
  focus
    have hgp : ((i : Int) - 1).toNat * 4 = (i - 1) * 4 := by omega
    (repeat ((conv => whnf); (first | (with_reducible first | refine jA ?_ | refine jB ?_ | refine jC ?_ | refine jD ?_) | refine jE ?_ | refine jF ?_ | refine jG ?_ | refine jH ?_ | refine jI ?_ | refine jJ ?_ | refine jK ?_ | refine jL ?_ | refine jM ?_ | refine jN ?_ | refine jO ?_ | refine jP ?_ | refine jQ ?_ | refine jR ?_ | refine jS (k := ?_) | refine jT (k := ?_)))); (conv => whnf)
    refine r_drawE fun w9 hx9 hh9 => ?_
    (repeat ((conv => whnf); (first | (with_reducible first | refine jA ?_ | refine jB ?_ | refine jC ?_ | refine jD ?_) | refine jE ?_ | refine jF ?_ | refine jG ?_ | refine jH ?_ | refine jI ?_ | refine jJ ?_ | refine jK ?_ | refine jL ?_ | refine jM ?_ | refine jN ?_ | refine jO ?_ | refine jP ?_ | refine jQ ?_ | refine jR ?_ | refine jS (k := ?_) | refine jT (k := ?_)))); (conv => whnf)
    refine r_ldnvE (j := ((i : Int) - 1).toNat * 4) (vs := (gm v.M (i - 1)).cells) (h4.ext hx5).m (by rw [hgp]; exact mv_ent (by omega)) rfl ?_
    (repeat ((conv => whnf); (first | (with_reducible first | refine jA ?_ | refine jB ?_ | refine jC ?_ | refine jD ?_) | refine jE ?_ | refine jF ?_ | refine jG ?_ | refine jH ?_ | refine jI ?_ | refine jJ ?_ | refine jK ?_ | refine jL ?_ | refine jM ?_ | refine jN ?_ | refine jO ?_ | refine jP ?_ | refine jQ ?_ | refine jR ?_ | refine jS (k := ?_) | refine jT (k := ?_)))); (conv => whnf)
    refine r_ldnbE (vs := (gm v.M i).cells) hm8 rfl rfl ?_
    (repeat ((conv => whnf); (first | (with_reducible first | refine jA ?_ | refine jB ?_ | refine jC ?_ | refine jD ?_) | refine jE ?_ | refine jF ?_ | refine jG ?_ | refine jH ?_ | refine jI ?_ | refine jJ ?_ | refine jK ?_ | refine jL ?_ | refine jM ?_ | refine jN ?_ | refine jO ?_ | refine jP ?_ | refine jQ ?_ | refine jR ?_ | refine jS (k := ?_) | refine jT (k := ?_)))); (conv => whnf)
    refine r_cal (order_ok w9 (gm v.M (i - 1)) (gm v.M i)) ?_
    rintro _ w10 ⟨hx10, co, rfl, hco⟩
    have y10 := hx9.trans hx10
    by_cases hah : Ahead (gm v.M (i - 1)) (gm v.M i)
    rotate_left
    · have := hco.2 hah
      (repeat ((conv => whnf); (first | (with_reducible first | refine jA ?_ | refine jB ?_ | refine jC ?_ | refine jD ?_) | refine jE ?_ | refine jF ?_ | refine jG ?_ | refine jH ?_ | refine jI ?_ | refine jJ ?_ | refine jK ?_ | refine jL ?_ | refine jM ?_ | refine jN ?_ | refine jO ?_ | refine jP ?_ | refine jQ ?_ | refine jR ?_ | refine jS (k := ?_) | refine jT (k := ?_)))); (conv => whnf)
      refine r_held y10 ?_
      (repeat ((conv => whnf); (first | (with_reducible first | refine jA ?_ | refine jB ?_ | refine jC ?_ | refine jD ?_) | refine jE ?_ | refine jF ?_ | refine jG ?_ | refine jH ?_ | refine jI ?_ | refine jJ ?_ | refine jK ?_ | refine jL ?_ | refine jM ?_ | refine jN ?_ | refine jO ?_ | refine jP ?_ | refine jQ ?_ | refine jR ?_ | refine jS (k := ?_) | refine jT (k := ?_)))); (conv => whnf)
      exact fin _ (hx5.trans y10) fun hh => hah (hh.2.1 hi0).1
    have hco' : ¬ 0 ≤ co := fun h => hco.1 h hah
    (repeat ((conv => whnf); (first | (with_reducible first | refine jA ?_ | refine jB ?_ | refine jC ?_ | refine jD ?_) | refine jE ?_ | refine jF ?_ | refine jG ?_ | refine jH ?_ | refine jI ?_ | refine jJ ?_ | refine jK ?_ | refine jL ?_ | refine jM ?_ | refine jN ?_ | refine jO ?_ | refine jP ?_ | refine jQ ?_ | refine jR ?_ | refine jS (k := ?_) | refine jT (k := ?_)))); (conv => whnf)
    refine r_held y10 ?_
    (repeat ((conv => whnf); (first | (with_reducible first | refine jA ?_ | refine jB ?_ | refine jC ?_ | refine jD ?_) | refine jE ?_ | refine jF ?_ | refine jG ?_ | refine jH ?_ | refine jI ?_ | refine jJ ?_ | refine jK ?_ | refine jL ?_ | refine jM ?_ | refine jN ?_ | refine jO ?_ | refine jP ?_ | refine jQ ?_ | refine jR ?_ | refine jS (k := ?_) | refine jT (k := ?_)))); (conv => whnf)
    rw [adrV]
    refine r_ldvE (v := .int .i64 (gm v.M (i - 1)).d) (h4.ext hx5).m (by rw [hgp]; exact mv_cell (M := v.M) (i := i - 1) (by omega) 3 (by omega)) ?_
    by_cases e3 : (gm v.M (i - 1)).d = (gm v.M i).d
    focus
      (repeat ((conv => whnf); (first | (with_reducible first | refine jA ?_ | refine jB ?_ | refine jC ?_ | refine jD ?_) | refine jE ?_ | refine jF ?_ | refine jG ?_ | refine jH ?_ | refine jI ?_ | refine jJ ?_ | refine jK ?_ | refine jL ?_ | refine jM ?_ | refine jN ?_ | refine jO ?_ | refine jP ?_ | refine jQ ?_ | refine jR ?_ | refine jS (k := ?_) | refine jT (k := ?_)))); (conv => whnf)
      rw [adrV]
      refine r_ldvE (v := .int .i64 (gm v.M (i - 1)).o) (h4.ext hx5).m (by rw [hgp]; exact mv_cell (M := v.M) (i := i - 1) (by omega) 2 (by omega)) ?_
      by_cases e4 : (gm v.M (i - 1)).o = (gm v.M i).o
      rotate_left
      · (repeat ((conv => whnf); (first | (with_reducible first | refine jA ?_ | refine jB ?_ | refine jC ?_ | refine jD ?_) | refine jE ?_ | refine jF ?_ | refine jG ?_ | refine jH ?_ | refine jI ?_ | refine jJ ?_ | refine jK ?_ | refine jL ?_ | refine jM ?_ | refine jN ?_ | refine jO ?_ | refine jP ?_ | refine jQ ?_ | refine jR ?_ | refine jS (k := ?_) | refine jT (k := ?_)))); (conv => whnf)
        exact fin _ (hx5.trans y10) fun hh => (hh.2.1 hi0).2 ⟨e3, e4⟩
      have hprev : 0 < i → Ahead (gm v.M (i - 1)) (gm v.M i) ∧ ¬ ((gm v.M (i - 1)).d = (gm v.M i).d ∧ (gm v.M (i - 1)).o ≠ (gm v.M i).o) := fun _ => ⟨hah, fun e => e.2 e4⟩
      (repeat ((conv => whnf); (first | (with_reducible first | refine jA ?_ | refine jB ?_ | refine jC ?_ | refine jD ?_) | refine jE ?_ | refine jF ?_ | refine jG ?_ | refine jH ?_ | refine jI ?_ | refine jJ ?_ | refine jK ?_ | refine jL ?_ | refine jM ?_ | refine jN ?_ | refine jO ?_ | refine jP ?_ | refine jQ ?_ | refine jR ?_ | refine jS (k := ?_) | refine jT (k := ?_)))); (conv => whnf)
    rotate_left
    focus
      have hprev : 0 < i → Ahead (gm v.M (i - 1)) (gm v.M i) ∧ ¬ ((gm v.M (i - 1)).d = (gm v.M i).d ∧ (gm v.M (i - 1)).o ≠ (gm v.M i).o) := fun _ => ⟨hah, fun e => e3 e.1⟩
      (repeat ((conv => whnf); (first | (with_reducible first | refine jA ?_ | refine jB ?_ | refine jC ?_ | refine jD ?_) | refine jE ?_ | refine jF ?_ | refine jG ?_ | refine jH ?_ | refine jI ?_ | refine jJ ?_ | refine jK ?_ | refine jL ?_ | refine jM ?_ | refine jN ?_ | refine jO ?_ | refine jP ?_ | refine jQ ?_ | refine jR ?_ | refine jS (k := ?_) | refine jT (k := ?_)))); (conv => whnf)
  rotate_left
  rotate_left
  focus
    have hprev : 0 < i → Ahead (gm v.M (i - 1)) (gm v.M i) ∧ ¬ ((gm v.M (i - 1)).d = (gm v.M i).d ∧ (gm v.M (i - 1)).o ≠ (gm v.M i).o) := fun h => absurd h hi0
    (repeat ((conv => whnf); (first | (with_reducible first | refine jA ?_ | refine jB ?_ | refine jC ?_ | refine jD ?_) | refine jE ?_ | refine jF ?_ | refine jG ?_ | refine jH ?_ | refine jI ?_ | refine jJ ?_ | refine jK ?_ | refine jL ?_ | refine jM ?_ | refine jN ?_ | refine jO ?_ | refine jP ?_ | refine jQ ?_ | refine jR ?_ | refine jS (k := ?_) | refine jT (k := ?_)))); (conv => whnf)
    refine r_drawE fun w10 y10 hh9 => ?_
    (repeat ((conv => whnf); (first | (with_reducible first | refine jA ?_ | refine jB ?_ | refine jC ?_ | refine jD ?_) | refine jE ?_ | refine jF ?_ | refine jG ?_ | refine jH ?_ | refine jI ?_ | refine jJ ?_ | refine jK ?_ | refine jL ?_ | refine jM ?_ | refine jN ?_ | refine jO ?_ | refine jP ?_ | refine jQ ?_ | refine jR ?_ | refine jS (k := ?_) | refine jT (k := ?_)))); (conv => whnf)
  all_goals
    have hm10 := hm8.ext y10
    have hmp10 := hmp8.ext y10
    obtain ⟨kl, hkl⟩ := two_key two_ok (QU.wf_i64 hwf.1) (QU.wf_i64 hwf.2.1)
    (repeat ((conv => whnf); (first | (with_reducible first | refine jA ?_ | refine jB ?_ | refine jC ?_ | refine jD ?_) | refine jE ?_ | refine jF ?_ | refine jG ?_ | refine jH ?_ | refine jI ?_ | refine jJ ?_ | refine jK ?_ | refine jL ?_ | refine jM ?_ | refine jN ?_ | refine jO ?_ | refine jP ?_ | refine jQ ?_ | refine jR ?_ | refine jS (k := ?_) | refine jT (k := ?_)))); (conv => whnf)
    refine r_new fun b11 w11 hx11 hb11 hs11 hblk11 => ?_
    (repeat ((conv => whnf); (first | (with_reducible first | refine jA ?_ | refine jB ?_ | refine jC ?_ | refine jD ?_) | refine jE ?_ | refine jF ?_ | refine jG ?_ | refine jH ?_ | refine jI ?_ | refine jJ ?_ | refine jK ?_ | refine jL ?_ | refine jM ?_ | refine jN ?_ | refine jO ?_ | refine jP ?_ | refine jQ ?_ | refine jR ?_ | refine jS (k := ?_) | refine jT (k := ?_)))); (conv => whnf)
    refine r_stn hblk11 (by simp) (by intro u hu; simp at hu; rcases hu with rfl | rfl <;> rfl) fun w12 hc12 hs12 hb12 => ?_
    have hb12 : Blk w12 b11 143 [.int .i64 (gm v.M i).l, .int .i64 (gm v.M i).r] := hb12
    have hx1012 : Ext w10 w12 := Chg.step hx11 hc12 fun k hk hlt => by omega
    have hmp12 := hmp10.ext hx1012
    have hx412 := hx5.trans (y10.trans hx1012)
    have hx012 := hx04.trans hx412
    (repeat ((conv => whnf); (first | (with_reducible first | refine jA ?_ | refine jB ?_ | refine jC ?_ | refine jD ?_) | refine jE ?_ | refine jF ?_ | refine jG ?_ | refine jH ?_ | refine jI ?_ | refine jJ ?_ | refine jK ?_ | refine jL ?_ | refine jM ?_ | refine jN ?_ | refine jO ?_ | refine jP ?_ | refine jQ ?_ | refine jR ?_ | refine jS (k := ?_) | refine jT (k := ?_)))); (conv => whnf)
    refine r_ldnb (vs := [.int .i64 (gm v.M i).l, .int .i64 (gm v.M i).r]) hb12 rfl rfl ?_
    (repeat ((conv => whnf); (first | (with_reducible first | refine jA ?_ | refine jB ?_ | refine jC ?_ | refine jD ?_) | refine jE ?_ | refine jF ?_ | refine jG ?_ | refine jH ?_ | refine jI ?_ | refine jJ ?_ | refine jK ?_ | refine jL ?_ | refine jM ?_ | refine jN ?_ | refine jO ?_ | refine jP ?_ | refine jQ ?_ | refine jR ?_ | refine jS (k := ?_) | refine jT (k := ?_)))); (conv => whnf)
    refine r_look1 hmp12 keyed2 umap2 QU.zint hkl ?_
    by_cases hdup : ∃ k, k < i ∧ (gm v.M k).l = (gm v.M i).l ∧ (gm v.M k).r = (gm v.M i).r
    · obtain ⟨k, hk, hk1, hk2⟩ := hdup
      have e1 : f (.agg ⟨[.int .i64 (gm v.M i).l, .int .i64 (gm v.M i).r]⟩) = some (.int .i64 1) := by
        have := hse.yes k hk
        unfold kv2 at this
        rw [hk1, hk2] at this
        exact this
      rw [e1]
      (repeat ((conv => whnf); (first | (with_reducible first | refine jA ?_ | refine jB ?_ | refine jC ?_ | refine jD ?_) | refine jE ?_ | refine jF ?_ | refine jG ?_ | refine jH ?_ | refine jI ?_ | refine jJ ?_ | refine jK ?_ | refine jL ?_ | refine jM ?_ | refine jN ?_ | refine jO ?_ | refine jP ?_ | refine jQ ?_ | refine jR ?_ | refine jS (k := ?_) | refine jT (k := ?_)))); (conv => whnf)
      exact fin _ hx412 fun hh => hh.2.2 k hk ⟨hk1, hk2⟩
    · have hnd : ∀ k, k < i → ¬ ((gm v.M k).l = (gm v.M i).l ∧ (gm v.M k).r = (gm v.M i).r) := fun k hk e => hdup ⟨k, hk, e⟩
      have e1 : f (.agg ⟨[.int .i64 (gm v.M i).l, .int .i64 (gm v.M i).r]⟩) = none := hse.no (gm v.M i) hnd
      rw [e1]
      (repeat ((conv => whnf); (first | (with_reducible first | refine jA ?_ | refine jB ?_ | refine jC ?_ | refine jD ?_) | refine jE ?_ | refine jF ?_ | refine jG ?_ | refine jH ?_ | refine jI ?_ | refine jJ ?_ | refine jK ?_ | refine jL ?_ | refine jM ?_ | refine jN ?_ | refine jO ?_ | refine jP ?_ | refine jQ ?_ | refine jR ?_ | refine jS (k := ?_) | refine jT (k := ?_)))); (conv => whnf)
      have hlk : ∀ w', Ext w12 w' → (Instr.lookup 140 (.map (some sb)) (.agg ⟨[.int .i64 (gm v.M i).l, .int .i64 (gm v.M i).r]⟩) false).run Try.prog w' = .ok (.int .i64 0) w' := fun w' hx' => by
        have := look1_run (hmp12.ext hx') keyed2 umap2 (QU.zint w') hkl
        rw [e1] at this
        exact this
      have hbs : ¬ b11 = sb := hmp12.ne hb12
      refine r_draw (fun w' => Chg (· = sb) w12 w' ∧ (Instr.lookup 140 (.map (some sb)) (.agg ⟨[.int .i64 (gm v.M i).l, .int .i64 (gm v.M i).r]⟩) false).run Try.prog w' = .ok (.int .i64 0) w') ⟨(Ext.drew w12).wide _, hlk _ (Ext.drew w12)⟩ ?_
      have hxd := Ext.drew w12
      generalize w12.drew = w13 at hxd ⊢
      (repeat ((conv => whnf); (first | (with_reducible first | refine jA ?_ | refine jB ?_ | refine jC ?_ | refine jD ?_) | refine jE ?_ | refine jF ?_ | refine jG ?_ | refine jH ?_ | refine jI ?_ | refine jJ ?_ | refine jK ?_ | refine jL ?_ | refine jM ?_ | refine jN ?_ | refine jO ?_ | refine jP ?_ | refine jQ ?_ | refine jR ?_ | refine jS (k := ?_) | refine jT (k := ?_)))); (conv => whnf)
      refine r_ldnbC (fun w' hw' => hw'.1) (vs := [.int .i64 (gm v.M i).l, .int .i64 (gm v.M i).r]) hb12 rfl rfl hbs ?_
      (repeat ((conv => whnf); (first | (with_reducible first | refine jA ?_ | refine jB ?_ | refine jC ?_ | refine jD ?_) | refine jE ?_ | refine jF ?_ | refine jG ?_ | refine jH ?_ | refine jI ?_ | refine jJ ?_ | refine jK ?_ | refine jL ?_ | refine jM ?_ | refine jN ?_ | refine jO ?_ | refine jP ?_ | refine jQ ?_ | refine jR ?_ | refine jS (k := ?_) | refine jT (k := ?_)))); (conv => whnf)
      refine r_look1C (fun w' hw' => hw'.2) ?_
      (repeat ((conv => whnf); (first | (with_reducible first | refine jA ?_ | refine jB ?_ | refine jC ?_ | refine jD ?_) | refine jE ?_ | refine jF ?_ | refine jG ?_ | refine jH ?_ | refine jI ?_ | refine jJ ?_ | refine jK ?_ | refine jL ?_ | refine jM ?_ | refine jN ?_ | refine jO ?_ | refine jP ?_ | refine jQ ?_ | refine jR ?_ | refine jS (k := ?_) | refine jT (k := ?_)))); (conv => whnf)
      refine r_entry2 (hmp12.ext hxd) keyed2 umap2 QU.zint _ hse.list (by simp [maxLen]; omega) hkl fun st w14 hc14 hs14 hm14 hst => ?_
      rw [e1] at hm14 ⊢
      (repeat ((conv => whnf); (first | (with_reducible first | refine jA ?_ | refine jB ?_ | refine jC ?_ | refine jD ?_) | refine jE ?_ | refine jF ?_ | refine jG ?_ | refine jH ?_ | refine jI ?_ | refine jJ ?_ | refine jK ?_ | refine jL ?_ | refine jM ?_ | refine jN ?_ | refine jO ?_ | refine jP ?_ | refine jQ ?_ | refine jR ?_ | refine jS (k := ?_) | refine jT (k := ?_)))); (conv => whnf)
      refine r_held ⟨Chg.step (hxd.wide _) hc14 fun k hk _ => hk, ?_⟩ ?_
      · have := look1_run hm14 keyed2 umap2 (QU.zint w14) hkl
        rw [upd_same] at this
        exact this
      (repeat ((conv => whnf); (first | (with_reducible first | refine jA ?_ | refine jB ?_ | refine jC ?_ | refine jD ?_) | refine jE ?_ | refine jF ?_ | refine jG ?_ | refine jH ?_ | refine jI ?_ | refine jJ ?_ | refine jK ?_ | refine jL ?_ | refine jM ?_ | refine jN ?_ | refine jO ?_ | refine jP ?_ | refine jQ ?_ | refine jR ?_ | refine jS (k := ?_) | refine jT (k := ?_)))); (conv => whnf)
      refine hst _ _ fun w15 hc15 hs15 hm15 => ?_
      have hm15 : MapV Try.prog 143 w15 sb (upd f (kv2 (gm v.M i)) (some (.int .i64 1))) := hm15
      (repeat ((conv => whnf); (first | (with_reducible first | refine jA ?_ | refine jB ?_ | refine jC ?_ | refine jD ?_) | refine jE ?_ | refine jF ?_ | refine jG ?_ | refine jH ?_ | refine jI ?_ | refine jJ ?_ | refine jK ?_ | refine jL ?_ | refine jM ?_ | refine jN ?_ | refine jO ?_ | refine jP ?_ | refine jQ ?_ | refine jR ?_ | refine jS (k := ?_) | refine jT (k := ?_)))); (conv => whnf)
      refine hagain (i + 1) w15 ⟨by omega, Chg.step (Chg.step (hx012.trans hxd) hc14 fun k hk hlt => by omega) hc15 fun k hk hlt => by omega, fun j hj => ?_, _, hm15, hse.step⟩ (by omega)
      by_cases hji : j = i
      · subst hji; exact ⟨hfit, hprev, hnd⟩
      · exact hall j (by omega)
set_option maxHeartbeats 4000000 in
set_option maxRecDepth 100000 in
theorem sp_ok (h : IsV w v x) (hs : Small v) (hw : Wfv v) : Cal Try.prog 75 ⟨[.slice x.aT x.lT x.cT, .slice x.aS x.lS x.cS]⟩ w fun u w' => Ext w w' ∧ ∃ b, u = .bool b ∧ (b = true ↔ SpOk v.T v.S) := by
  obtain ⟨hlT, hlM, hlS⟩ := h.lens
  have hnt := hs.nt
  have hns := hs.ns
  refine go75 (by rfl) ?_
  (repeat ((conv => whnf); (first | (with_reducible first | refine jA ?_ | refine jB ?_ | refine jC ?_ | refine jD ?_) | refine jE ?_ | refine jF ?_ | refine jG ?_ | refine jH ?_ | refine jI ?_ | refine jJ ?_ | refine jK ?_ | refine jL ?_ | refine jM ?_ | refine jN ?_ | refine jO ?_ | refine jP ?_ | refine jQ ?_ | refine jR ?_ | refine jS (k := ?_) | refine jT (k := ?_)))); (conv => whnf)
  refine r_makeMap (k := 3) fun w1 hx1 hs1 hm1 => ?_
  have hsb : w.heap.size ≤ w.heap.size := Nat.le_refl _
  generalize hsbe : w.heap.size = sb at hm1 hsb ⊢
  (repeat ((conv => whnf); (first | (with_reducible first | refine jA ?_ | refine jB ?_ | refine jC ?_ | refine jD ?_) | refine jE ?_ | refine jF ?_ | refine jG ?_ | refine jH ?_ | refine jI ?_ | refine jJ ?_ | refine jK ?_ | refine jL ?_ | refine jM ?_ | refine jN ?_ | refine jO ?_ | refine jP ?_ | refine jQ ?_ | refine jR ?_ | refine jS (k := ?_) | refine jT (k := ?_)))); (conv => whnf)
  refine r_loop (σ := Nat) (fun i => [.int .i64 (i : Int)]) (fun i w' => i ≤ x.lS ∧ Ext w w' ∧ (∀ j, j < i → SpStep v.T v.S j) ∧ ∃ f, MapV Try.prog 3 w' sb f ∧ CnM (fun k => (gs v.S k).id) i f) (fun i _ => x.lS - i) 0 rfl ⟨by omega, hx1, fun j hj => by omega, _, hm1, CnM.nil _⟩ ?_
  clear hm1
  rintro i w2 again ⟨hi, hx2, hall, f, hm, hcn⟩ hagain
  by_cases hil : i < x.lS
  rotate_left
  · (repeat ((conv => whnf); (first | (with_reducible first | refine jA ?_ | refine jB ?_ | refine jC ?_ | refine jD ?_) | refine jE ?_ | refine jF ?_ | refine jG ?_ | refine jH ?_ | refine jI ?_ | refine jJ ?_ | refine jK ?_ | refine jL ?_ | refine jM ?_ | refine jN ?_ | refine jO ?_ | refine jP ?_ | refine jQ ?_ | refine jR ?_ | refine jS (k := ?_) | refine jT (k := ?_)))); (conv => whnf)
    refine ⟨hx2, _, rfl, ?_⟩
    rw [decide_eq_true_eq, spOk_steps]
    exact ⟨fun h => ⟨by omega, fun j hj => hall j (by omega)⟩, fun h => by have := h.1; omega⟩
  have hps := h.s.plain (by rw [sv_len]; omega)
  have hwf := hw.sw _ (List.mem_of_getElem? (gs_get (S := v.S) (i := i) (by omega)))
  have hnl : (gs v.S i).name.length ≤ 40 := hs.nl _ (List.mem_of_getElem? (gs_get (by omega)))
  (repeat ((conv => whnf); (first | (with_reducible first | refine jA ?_ | refine jB ?_ | refine jC ?_ | refine jD ?_) | refine jE ?_ | refine jF ?_ | refine jG ?_ | refine jH ?_ | refine jI ?_ | refine jJ ?_ | refine jK ?_ | refine jL ?_ | refine jM ?_ | refine jN ?_ | refine jO ?_ | refine jP ?_ | refine jQ ?_ | refine jR ?_ | refine jS (k := ?_) | refine jT (k := ?_)))); (conv => whnf)
  refine r_ldnv (j := (i : Int).toNat * 2) (vs := (gs v.S i).cells) (h.ext hx2).s (sv_ent (by omega)) rfl ?_
  (repeat ((conv => whnf); (first | (with_reducible first | refine jA ?_ | refine jB ?_ | refine jC ?_ | refine jD ?_) | refine jE ?_ | refine jF ?_ | refine jG ?_ | refine jH ?_ | refine jI ?_ | refine jJ ?_ | refine jK ?_ | refine jL ?_ | refine jM ?_ | refine jN ?_ | refine jO ?_ | refine jP ?_ | refine jQ ?_ | refine jR ?_ | refine jS (k := ?_) | refine jT (k := ?_)))); (conv => whnf)
  refine r_new fun bm w3 hx3 hb3 hs3 hblk3 => ?_
  (repeat ((conv => whnf); (first | (with_reducible first | refine jA ?_ | refine jB ?_ | refine jC ?_ | refine jD ?_) | refine jE ?_ | refine jF ?_ | refine jG ?_ | refine jH ?_ | refine jI ?_ | refine jJ ?_ | refine jK ?_ | refine jL ?_ | refine jM ?_ | refine jN ?_ | refine jO ?_ | refine jP ?_ | refine jQ ?_ | refine jR ?_ | refine jS (k := ?_) | refine jT (k := ?_)))); (conv => whnf)
  refine r_stn hblk3 (by simp [Sp.cells]) (sp_one _) fun w4 hc4 hs4 hm4 => ?_
  have hm4 : Blk w4 bm 100 [.string (bstr (gs v.S i).name), .int .i64 (gs v.S i).id] := hm4
  have hx24 : Ext w2 w4 := Chg.step hx3 hc4 fun k hk hlt => by omega
  have hx04 := hx2.trans hx24
  have h4 := h.ext hx04
  have hmp4 := hm.ext hx24
  have fin : ∀ w', Ext w4 w' → ¬ SpStep v.T v.S i → Ext w w' ∧ ∃ b, Value.bool false = .bool b ∧ (b = true ↔ SpOk v.T v.S) := fun w' hx' hno => ⟨hx04.trans hx', false, rfl, ff_iff fun hmo => hno ((spOk_steps.1 hmo).2 i (by omega))⟩
  (repeat ((conv => whnf); (first | (with_reducible first | refine jA ?_ | refine jB ?_ | refine jC ?_ | refine jD ?_) | refine jE ?_ | refine jF ?_ | refine jG ?_ | refine jH ?_ | refine jI ?_ | refine jJ ?_ | refine jK ?_ | refine jL ?_ | refine jM ?_ | refine jN ?_ | refine jO ?_ | refine jP ?_ | refine jQ ?_ | refine jR ?_ | refine jS (k := ?_) | refine jT (k := ?_)))); (conv => whnf)
  refine r_drawE fun w5 hx5 hh5 => ?_
  (repeat ((conv => whnf); (first | (with_reducible first | refine jA ?_ | refine jB ?_ | refine jC ?_ | refine jD ?_) | refine jE ?_ | refine jF ?_ | refine jG ?_ | refine jH ?_ | refine jI ?_ | refine jJ ?_ | refine jK ?_ | refine jL ?_ | refine jM ?_ | refine jN ?_ | refine jO ?_ | refine jP ?_ | refine jQ ?_ | refine jR ?_ | refine jS (k := ?_) | refine jT (k := ?_)))); (conv => whnf)
  refine r_cal (name_ok w5 (gs v.S i).name (by omega)) ?_
  rintro _ w6 ⟨rfl, b1, rfl, hb1⟩
  cases b1 with
  | false =>
    (repeat ((conv => whnf); (first | (with_reducible first | refine jA ?_ | refine jB ?_ | refine jC ?_ | refine jD ?_) | refine jE ?_ | refine jF ?_ | refine jG ?_ | refine jH ?_ | refine jI ?_ | refine jJ ?_ | refine jK ?_ | refine jL ?_ | refine jM ?_ | refine jN ?_ | refine jO ?_ | refine jP ?_ | refine jQ ?_ | refine jR ?_ | refine jS (k := ?_) | refine jT (k := ?_)))); (conv => whnf)
    refine r_held hx5 ?_
    (repeat ((conv => whnf); (first | (with_reducible first | refine jA ?_ | refine jB ?_ | refine jC ?_ | refine jD ?_) | refine jE ?_ | refine jF ?_ | refine jG ?_ | refine jH ?_ | refine jI ?_ | refine jJ ?_ | refine jK ?_ | refine jL ?_ | refine jM ?_ | refine jN ?_ | refine jO ?_ | refine jP ?_ | refine jQ ?_ | refine jR ?_ | refine jS (k := ?_) | refine jT (k := ?_)))); (conv => whnf)
    exact fin _ hx5 fun hh => by have := hb1.2 hh.1.1; cases this
  | true =>
  (repeat ((conv => whnf); (first | (with_reducible first | refine jA ?_ | refine jB ?_ | refine jC ?_ | refine jD ?_) | refine jE ?_ | refine jF ?_ | refine jG ?_ | refine jH ?_ | refine jI ?_ | refine jJ ?_ | refine jK ?_ | refine jL ?_ | refine jM ?_ | refine jN ?_ | refine jO ?_ | refine jP ?_ | refine jQ ?_ | refine jR ?_ | refine jS (k := ?_) | refine jT (k := ?_)))); (conv => whnf)
  refine r_held hx5 ?_
  by_cases hi0 : 0 < i
  focus
    have hgp : ((i : Int) - 1).toNat * 2 = (i - 1) * 2 := by omega
    (repeat ((conv => whnf); (first | (with_reducible first | refine jA ?_ | refine jB ?_ | refine jC ?_ | refine jD ?_) | refine jE ?_ | refine jF ?_ | refine jG ?_ | refine jH ?_ | refine jI ?_ | refine jJ ?_ | refine jK ?_ | refine jL ?_ | refine jM ?_ | refine jN ?_ | refine jO ?_ | refine jP ?_ | refine jQ ?_ | refine jR ?_ | refine jS (k := ?_) | refine jT (k := ?_)))); (conv => whnf)
    rw [adrV]
    refine r_ldvE (v := .string (bstr (gs v.S (i - 1)).name)) h4.s (by rw [hgp]; exact sv_cell (S := v.S) (i := i - 1) (by omega) 0 (by omega)) ?_
    (repeat ((conv => whnf); (first | (with_reducible first | refine jA ?_ | refine jB ?_ | refine jC ?_ | refine jD ?_) | refine jE ?_ | refine jF ?_ | refine jG ?_ | refine jH ?_ | refine jI ?_ | refine jJ ?_ | refine jK ?_ | refine jL ?_ | refine jM ?_ | refine jN ?_ | refine jO ?_ | refine jP ?_ | refine jQ ?_ | refine jR ?_ | refine jS (k := ?_) | refine jT (k := ?_)))); (conv => whnf)
    rw [bstr_list, bstr_list]
    by_cases c3 : Op.bytesLess (gs v.S (i - 1)).name (gs v.S i).name = true
    rotate_left
    · refine r_true (by simpa using c3) ?_
      (repeat ((conv => whnf); (first | (with_reducible first | refine jA ?_ | refine jB ?_ | refine jC ?_ | refine jD ?_) | refine jE ?_ | refine jF ?_ | refine jG ?_ | refine jH ?_ | refine jI ?_ | refine jJ ?_ | refine jK ?_ | refine jL ?_ | refine jM ?_ | refine jN ?_ | refine jO ?_ | refine jP ?_ | refine jQ ?_ | refine jR ?_ | refine jS (k := ?_) | refine jT (k := ?_)))); (conv => whnf)
      exact fin _ hx5 fun hh => c3 (hh.2.1 hi0)
    have hprev : 0 < i → Op.bytesLess (gs v.S (i - 1)).name (gs v.S i).name = true := fun _ => c3
    refine r_false (by rw [c3]; rfl) ?_
    (repeat ((conv => whnf); (first | (with_reducible first | refine jA ?_ | refine jB ?_ | refine jC ?_ | refine jD ?_) | refine jE ?_ | refine jF ?_ | refine jG ?_ | refine jH ?_ | refine jI ?_ | refine jJ ?_ | refine jK ?_ | refine jL ?_ | refine jM ?_ | refine jN ?_ | refine jO ?_ | refine jP ?_ | refine jQ ?_ | refine jR ?_ | refine jS (k := ?_) | refine jT (k := ?_)))); (conv => whnf)
  rotate_left
  focus
    have hprev : 0 < i → Op.bytesLess (gs v.S (i - 1)).name (gs v.S i).name = true := fun h => absurd h hi0
    (repeat ((conv => whnf); (first | (with_reducible first | refine jA ?_ | refine jB ?_ | refine jC ?_ | refine jD ?_) | refine jE ?_ | refine jF ?_ | refine jG ?_ | refine jH ?_ | refine jI ?_ | refine jJ ?_ | refine jK ?_ | refine jL ?_ | refine jM ?_ | refine jN ?_ | refine jO ?_ | refine jP ?_ | refine jQ ?_ | refine jR ?_ | refine jS (k := ?_) | refine jT (k := ?_)))); (conv => whnf)
  all_goals
    by_cases c0 : 0 ≤ (gs v.S i).id
    rotate_left
    · (repeat ((conv => whnf); (first | (with_reducible first | refine jA ?_ | refine jB ?_ | refine jC ?_ | refine jD ?_) | refine jE ?_ | refine jF ?_ | refine jG ?_ | refine jH ?_ | refine jI ?_ | refine jJ ?_ | refine jK ?_ | refine jL ?_ | refine jM ?_ | refine jN ?_ | refine jO ?_ | refine jP ?_ | refine jQ ?_ | refine jR ?_ | refine jS (k := ?_) | refine jT (k := ?_)))); (conv => whnf)
      exact fin _ hx5 fun hh => c0 hh.1.2.1
    by_cases c1 : (gs v.S i).id < v.T.length
    rotate_left
    · (repeat ((conv => whnf); (first | (with_reducible first | refine jA ?_ | refine jB ?_ | refine jC ?_ | refine jD ?_) | refine jE ?_ | refine jF ?_ | refine jG ?_ | refine jH ?_ | refine jI ?_ | refine jJ ?_ | refine jK ?_ | refine jL ?_ | refine jM ?_ | refine jN ?_ | refine jO ?_ | refine jP ?_ | refine jQ ?_ | refine jR ?_ | refine jS (k := ?_) | refine jT (k := ?_)))); (conv => whnf)
      exact fin _ hx5 fun hh => c1 hh.1.2.2.1
    have hpt := h4.t.plain (by rw [tv_len]; omega)
    (repeat ((conv => whnf); (first | (with_reducible first | refine jA ?_ | refine jB ?_ | refine jC ?_ | refine jD ?_) | refine jE ?_ | refine jF ?_ | refine jG ?_ | refine jH ?_ | refine jI ?_ | refine jJ ?_ | refine jK ?_ | refine jL ?_ | refine jM ?_ | refine jN ?_ | refine jO ?_ | refine jP ?_ | refine jQ ?_ | refine jR ?_ | refine jS (k := ?_) | refine jT (k := ?_)))); (conv => whnf)
    refine r_ldvE h4.t (tv_getI (T := v.T) (i := (gs v.S i).id) c0 c1) ?_
    (repeat ((conv => whnf); (first | (with_reducible first | refine jA ?_ | refine jB ?_ | refine jC ?_ | refine jD ?_) | refine jE ?_ | refine jF ?_ | refine jG ?_ | refine jH ?_ | refine jI ?_ | refine jJ ?_ | refine jK ?_ | refine jL ?_ | refine jM ?_ | refine jN ?_ | refine jO ?_ | refine jP ?_ | refine jQ ?_ | refine jR ?_ | refine jS (k := ?_) | refine jT (k := ?_)))); (conv => whnf)
    by_cases c2 : tk v.T (gs v.S i).id = []
    rotate_left
    · refine r_n0t c2 ?_
      (repeat ((conv => whnf); (first | (with_reducible first | refine jA ?_ | refine jB ?_ | refine jC ?_ | refine jD ?_) | refine jE ?_ | refine jF ?_ | refine jG ?_ | refine jH ?_ | refine jI ?_ | refine jJ ?_ | refine jK ?_ | refine jL ?_ | refine jM ?_ | refine jN ?_ | refine jO ?_ | refine jP ?_ | refine jQ ?_ | refine jR ?_ | refine jS (k := ?_) | refine jT (k := ?_)))); (conv => whnf)
      exact fin _ hx5 fun hh => c2 hh.1.2.2.2
    refine r_n0f c2 ?_
    have hfit : SpFits v.T (gs v.S i) := ⟨hb1.1 rfl, c0, c1, c2⟩
    obtain ⟨c, hc1, hc2, hc3⟩ := hcn.cases (gs v.S i).id
    (repeat ((conv => whnf); (first | (with_reducible first | refine jA ?_ | refine jB ?_ | refine jC ?_ | refine jD ?_) | refine jE ?_ | refine jF ?_ | refine jG ?_ | refine jH ?_ | refine jI ?_ | refine jJ ?_ | refine jK ?_ | refine jL ?_ | refine jM ?_ | refine jN ?_ | refine jO ?_ | refine jP ?_ | refine jQ ?_ | refine jR ?_ | refine jS (k := ?_) | refine jT (k := ?_)))); (conv => whnf)
    refine r_look1E hmp4 QU.keyed QU.umap QU.zint (QU.key_of hwf) ?_
    rw [hc2]
    by_cases hc0 : c = 0
    rotate_left
    · (repeat ((conv => whnf); (first | (with_reducible first | refine jA ?_ | refine jB ?_ | refine jC ?_ | refine jD ?_) | refine jE ?_ | refine jF ?_ | refine jG ?_ | refine jH ?_ | refine jI ?_ | refine jJ ?_ | refine jK ?_ | refine jL ?_ | refine jM ?_ | refine jN ?_ | refine jO ?_ | refine jP ?_ | refine jQ ?_ | refine jR ?_ | refine jS (k := ?_) | refine jT (k := ?_)))); (conv => whnf)
      refine fin _ hx5 fun hh => ?_
      obtain ⟨k, hk, he⟩ := hc3.1 (by omega)
      exact hh.2.2 k hk he
    subst hc0
    have hm6 := hm4.ext hx5
    have hmp6 := hmp4.ext hx5
    (repeat ((conv => whnf); (first | (with_reducible first | refine jA ?_ | refine jB ?_ | refine jC ?_ | refine jD ?_) | refine jE ?_ | refine jF ?_ | refine jG ?_ | refine jH ?_ | refine jI ?_ | refine jJ ?_ | refine jK ?_ | refine jL ?_ | refine jM ?_ | refine jN ?_ | refine jO ?_ | refine jP ?_ | refine jQ ?_ | refine jR ?_ | refine jS (k := ?_) | refine jT (k := ?_)))); (conv => whnf)
    refine r_look1 hmp6 QU.keyed QU.umap QU.zint (QU.key_of hwf) ?_
    rw [hc2]
    (repeat ((conv => whnf); (first | (with_reducible first | refine jA ?_ | refine jB ?_ | refine jC ?_ | refine jD ?_) | refine jE ?_ | refine jF ?_ | refine jG ?_ | refine jH ?_ | refine jI ?_ | refine jJ ?_ | refine jK ?_ | refine jL ?_ | refine jM ?_ | refine jN ?_ | refine jO ?_ | refine jP ?_ | refine jQ ?_ | refine jR ?_ | refine jS (k := ?_) | refine jT (k := ?_)))); (conv => whnf)
    refine r_mapSet hmp6 QU.keyed QU.umap _ hcn.list (by simp [maxLen]; omega) (QU.key_of hwf) fun w7 hc7 hs7 hm7 => ?_
    (repeat ((conv => whnf); (first | (with_reducible first | refine jA ?_ | refine jB ?_ | refine jC ?_ | refine jD ?_) | refine jE ?_ | refine jF ?_ | refine jG ?_ | refine jH ?_ | refine jI ?_ | refine jJ ?_ | refine jK ?_ | refine jL ?_ | refine jM ?_ | refine jN ?_ | refine jO ?_ | refine jP ?_ | refine jQ ?_ | refine jR ?_ | refine jS (k := ?_) | refine jT (k := ?_)))); (conv => whnf)
    refine hagain (i + 1) w7 ⟨by omega, Chg.step (hx04.trans hx5) hc7 fun k hk hlt => by omega, fun j hj => ?_, _, hm7, hcn.step hc1⟩ (by omega)
    by_cases hji : j = i
    · subst hji; exact ⟨hfit, hprev, fun k hk e => by have := hc3.2 ⟨k, hk, e⟩; omega⟩
    · exact hall j (by omega)
theorem vMay_ok (h : IsV w v x) (hs : Small v) (hw : Wfv v) : Cal Try.prog 57 ⟨[.agg ⟨vcs x⟩]⟩ w fun u w' => Ext w w' ∧ ∃ b, u = .bool b ∧ (b = true ↔ MayP v) := by
  refine go57 (by rfl) ?_
  (repeat ((conv => whnf); (first | (with_reducible first | refine jA ?_ | refine jB ?_ | refine jC ?_ | refine jD ?_) | refine jE ?_ | refine jF ?_ | refine jG ?_ | refine jH ?_ | refine jI ?_ | refine jJ ?_ | refine jK ?_ | refine jL ?_ | refine jM ?_ | refine jN ?_ | refine jO ?_ | refine jP ?_ | refine jQ ?_ | refine jR ?_ | refine jS (k := ?_) | refine jT (k := ?_)))); (conv => whnf)
  refine r_new fun p w1 hx1 hb1 hs1 hblk => ?_
  have hblk : Blk w1 p 50 [.slice x.aT x.lT x.cT, .slice x.aM x.lM x.cM, .slice x.aS x.lS x.cS] := hblk
  (repeat ((conv => whnf); (first | (with_reducible first | refine jA ?_ | refine jB ?_ | refine jC ?_ | refine jD ?_) | refine jE ?_ | refine jF ?_ | refine jG ?_ | refine jH ?_ | refine jI ?_ | refine jJ ?_ | refine jK ?_ | refine jL ?_ | refine jM ?_ | refine jN ?_ | refine jO ?_ | refine jP ?_ | refine jQ ?_ | refine jR ?_ | refine jS (k := ?_) | refine jT (k := ?_)))); (conv => whnf)
  refine r_cal (tok_ok (h.ext hx1).t hs.nt hs.tl) ?_
  rintro _ w2 ⟨hx2, b1, rfl, hb1⟩
  have y2 := hx1.trans hx2
  have hblk := hblk.ext hx2
  cases b1 with
  | false =>
    (repeat ((conv => whnf); (first | (with_reducible first | refine jA ?_ | refine jB ?_ | refine jC ?_ | refine jD ?_) | refine jE ?_ | refine jF ?_ | refine jG ?_ | refine jH ?_ | refine jI ?_ | refine jJ ?_ | refine jK ?_ | refine jL ?_ | refine jM ?_ | refine jN ?_ | refine jO ?_ | refine jP ?_ | refine jQ ?_ | refine jR ?_ | refine jS (k := ?_) | refine jT (k := ?_)))); (conv => whnf)
    exact ⟨y2, false, rfl, ff_iff fun hh => by have := hb1.2 hh.tok; cases this⟩
  | true =>
  (repeat ((conv => whnf); (first | (with_reducible first | refine jA ?_ | refine jB ?_ | refine jC ?_ | refine jD ?_) | refine jE ?_ | refine jF ?_ | refine jG ?_ | refine jH ?_ | refine jI ?_ | refine jJ ?_ | refine jK ?_ | refine jL ?_ | refine jM ?_ | refine jN ?_ | refine jO ?_ | refine jP ?_ | refine jQ ?_ | refine jR ?_ | refine jS (k := ?_) | refine jT (k := ?_)))); (conv => whnf)
  refine r_cal (mg_ok (h.ext y2) hs hw) ?_
  rintro _ w3 ⟨hx3, b2, rfl, hb2⟩
  have y3 := y2.trans hx3
  have hblk := hblk.ext hx3
  cases b2 with
  | false =>
    (repeat ((conv => whnf); (first | (with_reducible first | refine jA ?_ | refine jB ?_ | refine jC ?_ | refine jD ?_) | refine jE ?_ | refine jF ?_ | refine jG ?_ | refine jH ?_ | refine jI ?_ | refine jJ ?_ | refine jK ?_ | refine jL ?_ | refine jM ?_ | refine jN ?_ | refine jO ?_ | refine jP ?_ | refine jQ ?_ | refine jR ?_ | refine jS (k := ?_) | refine jT (k := ?_)))); (conv => whnf)
    exact ⟨y3, false, rfl, ff_iff fun hh => by have := hb2.2 hh.mg; cases this⟩
  | true =>
  (repeat ((conv => whnf); (first | (with_reducible first | refine jA ?_ | refine jB ?_ | refine jC ?_ | refine jD ?_) | refine jE ?_ | refine jF ?_ | refine jG ?_ | refine jH ?_ | refine jI ?_ | refine jJ ?_ | refine jK ?_ | refine jL ?_ | refine jM ?_ | refine jN ?_ | refine jO ?_ | refine jP ?_ | refine jQ ?_ | refine jR ?_ | refine jS (k := ?_) | refine jT (k := ?_)))); (conv => whnf)
  refine r_ldnb (vs := vcs x) hblk rfl rfl ?_
  (repeat ((conv => whnf); (first | (with_reducible first | refine jA ?_ | refine jB ?_ | refine jC ?_ | refine jD ?_) | refine jE ?_ | refine jF ?_ | refine jG ?_ | refine jH ?_ | refine jI ?_ | refine jJ ?_ | refine jK ?_ | refine jL ?_ | refine jM ?_ | refine jN ?_ | refine jO ?_ | refine jP ?_ | refine jQ ?_ | refine jR ?_ | refine jS (k := ?_) | refine jT (k := ?_)))); (conv => whnf)
  refine r_cal (made_ok (h.ext y3) hs hw) ?_
  rintro _ w4 ⟨hx4, b3, rfl, hb3⟩
  have y4 := y3.trans hx4
  have hblk := hblk.ext hx4
  cases b3 with
  | false =>
    (repeat ((conv => whnf); (first | (with_reducible first | refine jA ?_ | refine jB ?_ | refine jC ?_ | refine jD ?_) | refine jE ?_ | refine jF ?_ | refine jG ?_ | refine jH ?_ | refine jI ?_ | refine jJ ?_ | refine jK ?_ | refine jL ?_ | refine jM ?_ | refine jN ?_ | refine jO ?_ | refine jP ?_ | refine jQ ?_ | refine jR ?_ | refine jS (k := ?_) | refine jT (k := ?_)))); (conv => whnf)
    exact ⟨y4, false, rfl, ff_iff fun hh => by have := hb3.2 hh.made; cases this⟩
  | true =>
  (repeat ((conv => whnf); (first | (with_reducible first | refine jA ?_ | refine jB ?_ | refine jC ?_ | refine jD ?_) | refine jE ?_ | refine jF ?_ | refine jG ?_ | refine jH ?_ | refine jI ?_ | refine jJ ?_ | refine jK ?_ | refine jL ?_ | refine jM ?_ | refine jN ?_ | refine jO ?_ | refine jP ?_ | refine jQ ?_ | refine jR ?_ | refine jS (k := ?_) | refine jT (k := ?_)))); (conv => whnf)
  refine r_cal (sp_ok (h.ext y4) hs hw) ?_
  rintro _ w5 ⟨hx5, b4, rfl, hb4⟩
  (repeat ((conv => whnf); (first | (with_reducible first | refine jA ?_ | refine jB ?_ | refine jC ?_ | refine jD ?_) | refine jE ?_ | refine jF ?_ | refine jG ?_ | refine jH ?_ | refine jI ?_ | refine jJ ?_ | refine jK ?_ | refine jL ?_ | refine jM ?_ | refine jN ?_ | refine jO ?_ | refine jP ?_ | refine jQ ?_ | refine jR ?_ | refine jS (k := ?_) | refine jT (k := ?_)))); (conv => whnf)
  refine ⟨y4.trans hx5, b4, rfl, ⟨fun e => ⟨hb1.1 rfl, hb2.1 rfl, hb3.1 rfl, hb4.1 e⟩, fun hh => hb4.2 hh.sp⟩⟩
end
end Fb.Try.VO
