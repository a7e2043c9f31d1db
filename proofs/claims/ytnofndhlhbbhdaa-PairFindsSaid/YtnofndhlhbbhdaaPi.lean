/-
  Walks: the document's rows: a step, the end, the bytes.
-/
import Derived.Test.YtnofndhlhbbhdaaPh
namespace Fb.Try.VO
open Go Go.Proofs Fb Fb.Bytes
section
variable {w w' : World} {v : Voc} {x : VA} {a : Option Addr} {len cap : Nat} {row : List Int}
theorem atI_nn {M : List Mg} {row : List Int} {p : Nat × Nat} (h : bst M row = some p) : p.1 + 1 < row.length ∧ p.2 < M.length := by
  obtain ⟨h1, h2, _⟩ := bst_some h
  exact ⟨h1, h2⟩
set_option maxHeartbeats 1000000 in
theorem rStep_ok (h : IsV w v x) (hs : Small v) (hv : View w a len cap 1 (ri row)) (hl : len ≤ 1000) : Cal Try.prog 38 ⟨[.agg ⟨vcs x⟩, .slice a len cap]⟩ w fun u w' => Ext w w' ∧ ∃ y, u = .tuple ⟨[y, .bool (stp v.M row).isSome]⟩ ∧ w'.ownsRow w.heap.size 3 1 y ((stp v.M row).getD []).length (ri ((stp v.M row).getD [])) := by
  obtain ⟨hlT, hlM, hlS⟩ := h.lens
  have hnm := hs.nm
  have hrl := ri_lens hv
  have hcap := hv.le
  have hcapm := hv.max
  unfold maxLen at hcapm
  refine go38 (by rfl) ?_
  (repeat ((conv => whnf); (first | (with_reducible first | refine jA ?_ | refine jB ?_ | refine jC ?_ | refine jD ?_) | refine jE ?_ | refine jF ?_ | refine jG ?_ | refine jH ?_ | refine jI ?_ | refine jJ ?_ | refine jK ?_ | refine jL ?_ | refine jM ?_ | refine jN ?_ | refine jO ?_ | refine jP ?_ | refine jQ ?_ | refine jR ?_ | refine jS (k := ?_) | refine jT (k := ?_)))); (conv => whnf)
  refine r_new fun b w1 hx1 hb1 hs1 hblk => ?_
  have hblk : Blk w1 b 50 [.slice x.aT x.lT x.cT, .slice x.aM x.lM x.cM, .slice x.aS x.lS x.cS] := hblk
  have hz1 := hx1.size
  (repeat ((conv => whnf); (first | (with_reducible first | refine jA ?_ | refine jB ?_ | refine jC ?_ | refine jD ?_) | refine jE ?_ | refine jF ?_ | refine jG ?_ | refine jH ?_ | refine jI ?_ | refine jJ ?_ | refine jK ?_ | refine jL ?_ | refine jM ?_ | refine jN ?_ | refine jO ?_ | refine jP ?_ | refine jQ ?_ | refine jR ?_ | refine jS (k := ?_) | refine jT (k := ?_)))); (conv => whnf)
  refine r_ldnb (vs := vcs x) hblk rfl rfl ?_
  (repeat ((conv => whnf); (first | (with_reducible first | refine jA ?_ | refine jB ?_ | refine jC ?_ | refine jD ?_) | refine jE ?_ | refine jF ?_ | refine jG ?_ | refine jH ?_ | refine jI ?_ | refine jJ ?_ | refine jK ?_ | refine jL ?_ | refine jM ?_ | refine jN ?_ | refine jO ?_ | refine jP ?_ | refine jQ ?_ | refine jR ?_ | refine jS (k := ?_) | refine jT (k := ?_)))); (conv => whnf)
  refine r_cal (rBest_ok (h.ext hx1) hs (hv.ext hx1) hl) ?_
  rintro _ w2 ⟨hx2, rfl⟩
  have hx02 := hx1.trans hx2
  have hblk := hblk.ext hx2
  have h2 := h.ext hx02
  have hz2 := hx02.size
  unfold stp
  cases hb : bst v.M row with
  | none =>
    have e1 : mI none = -1 := rfl
    have e2 : atI none = -1 := rfl
    rw [e1, e2]
    (repeat ((conv => whnf); (first | (with_reducible first | refine jA ?_ | refine jB ?_ | refine jC ?_ | refine jD ?_) | refine jE ?_ | refine jF ?_ | refine jG ?_ | refine jH ?_ | refine jI ?_ | refine jJ ?_ | refine jK ?_ | refine jL ?_ | refine jM ?_ | refine jN ?_ | refine jO ?_ | refine jP ?_ | refine jQ ?_ | refine jR ?_ | refine jS (k := ?_) | refine jT (k := ?_)))); (conv => whnf)
    refine r_new fun o w3 hx3 hb3 hs3 hblk3 => ?_
    (repeat ((conv => whnf); (first | (with_reducible first | refine jA ?_ | refine jB ?_ | refine jC ?_ | refine jD ?_) | refine jE ?_ | refine jF ?_ | refine jG ?_ | refine jH ?_ | refine jI ?_ | refine jJ ?_ | refine jK ?_ | refine jL ?_ | refine jM ?_ | refine jN ?_ | refine jO ?_ | refine jP ?_ | refine jQ ?_ | refine jR ?_ | refine jS (k := ?_) | refine jT (k := ?_)))); (conv => whnf)
    exact ⟨hx02.trans hx3, _, rfl, empty_own hblk3 (by omega)⟩
  | some p =>
    obtain ⟨hp1, hp2⟩ := atI_nn hb
    have e1 : mI (some p) = p.2 := rfl
    have e2 : atI (some p) = p.1 := rfl
    rw [e1, e2]
    have hpm := h2.m.plain (by rw [mv_len]; omega)
    (repeat ((conv => whnf); (first | (with_reducible first | refine jA ?_ | refine jB ?_ | refine jC ?_ | refine jD ?_) | refine jE ?_ | refine jF ?_ | refine jG ?_ | refine jH ?_ | refine jI ?_ | refine jJ ?_ | refine jK ?_ | refine jL ?_ | refine jM ?_ | refine jN ?_ | refine jO ?_ | refine jP ?_ | refine jQ ?_ | refine jR ?_ | refine jS (k := ?_) | refine jT (k := ?_)))); (conv => whnf)
    refine r_new fun o w3 hx3 hb3 hs3 hblk3 => ?_
    have hx03 := hx02.trans hx3
    have hblk := hblk.ext hx3
    have hown3 := empty_own (base := w.heap.size) hblk3 (by omega)
    (repeat ((conv => whnf); (first | (with_reducible first | refine jA ?_ | refine jB ?_ | refine jC ?_ | refine jD ?_) | refine jE ?_ | refine jF ?_ | refine jG ?_ | refine jH ?_ | refine jI ?_ | refine jJ ?_ | refine jK ?_ | refine jL ?_ | refine jM ?_ | refine jN ?_ | refine jO ?_ | refine jP ?_ | refine jQ ?_ | refine jR ?_ | refine jS (k := ?_) | refine jT (k := ?_)))); (conv => whnf)
    rw [Int.toNat_natCast]
    refine r_app eli hown3 (View.hi (hv.ext hx03) p.1 (by omega)) (ri_one _) (by omega) (by omega) fun v4 w4 hown4 hc4 _ => ?_
    have hc04 : Ext w w4 := Chg.own hx03 hc4 hown3
    have hblk4 := hblk.keep hc4 (own_ne hown3 hblk (by decide))
    have hz4 := hc04.size
    rw [Nat.zero_add, List.nil_append] at hown4
    (repeat ((conv => whnf); (first | (with_reducible first | refine jA ?_ | refine jB ?_ | refine jC ?_ | refine jD ?_) | refine jE ?_ | refine jF ?_ | refine jG ?_ | refine jH ?_ | refine jI ?_ | refine jJ ?_ | refine jK ?_ | refine jL ?_ | refine jM ?_ | refine jN ?_ | refine jO ?_ | refine jP ?_ | refine jQ ?_ | refine jR ?_ | refine jS (k := ?_) | refine jT (k := ?_)))); (conv => whnf)
    rw [adrV]
    refine r_ldv (h.ext hc04).m (mv_cell (M := v.M) (i := p.2) hp2 2 (by omega)) ?_
    (repeat ((conv => whnf); (first | (with_reducible first | refine jA ?_ | refine jB ?_ | refine jC ?_ | refine jD ?_) | refine jE ?_ | refine jF ?_ | refine jG ?_ | refine jH ?_ | refine jI ?_ | refine jJ ?_ | refine jK ?_ | refine jL ?_ | refine jM ?_ | refine jN ?_ | refine jO ?_ | refine jP ?_ | refine jQ ?_ | refine jR ?_ | refine jS (k := ?_) | refine jT (k := ?_)))); (conv => whnf)
    refine r_new fun b5 w5 hx5 hb5 hs5 hblk5 => ?_
    (repeat ((conv => whnf); (first | (with_reducible first | refine jA ?_ | refine jB ?_ | refine jC ?_ | refine jD ?_) | refine jE ?_ | refine jF ?_ | refine jG ?_ | refine jH ?_ | refine jI ?_ | refine jJ ?_ | refine jK ?_ | refine jL ?_ | refine jM ?_ | refine jN ?_ | refine jO ?_ | refine jP ?_ | refine jQ ?_ | refine jR ?_ | refine jS (k := ?_) | refine jT (k := ?_)))); (conv => whnf)
    refine r_app eli (own_ext hown4 hx5) (View.of_blk (n := 1) hblk5 rfl (by simp [maxLen])) (by simp [Value.oneCell']) (by omega) (by have := hx5.size; omega) fun v6 w6 hown6 hc6 _ => ?_
    have hc06 : Ext w w6 := Chg.own (hc04.trans hx5) hc6 (own_ext hown4 hx5)
    have hz6 := hc06.size
    (repeat ((conv => whnf); (first | (with_reducible first | refine jA ?_ | refine jB ?_ | refine jC ?_ | refine jD ?_) | refine jE ?_ | refine jF ?_ | refine jG ?_ | refine jH ?_ | refine jI ?_ | refine jJ ?_ | refine jK ?_ | refine jL ?_ | refine jM ?_ | refine jN ?_ | refine jO ?_ | refine jP ?_ | refine jQ ?_ | refine jR ?_ | refine jS (k := ?_) | refine jT (k := ?_)))); (conv => whnf)
    rw [show ((p.1 : Int) + 2).toNat = p.1 + 2 by omega]
    refine r_app eli hown6 (View.lo (hv.ext hc06) (p.1 + 2) (by omega)) (ri_one _) (by omega) (by omega) fun v7 w7 hown7 hc7 _ => ?_
    (repeat ((conv => whnf); (first | (with_reducible first | refine jA ?_ | refine jB ?_ | refine jC ?_ | refine jD ?_) | refine jE ?_ | refine jF ?_ | refine jG ?_ | refine jH ?_ | refine jI ?_ | refine jJ ?_ | refine jK ?_ | refine jL ?_ | refine jM ?_ | refine jN ?_ | refine jO ?_ | refine jP ?_ | refine jQ ?_ | refine jR ?_ | refine jS (k := ?_) | refine jT (k := ?_)))); (conv => whnf)
    refine ⟨Chg.own hc06 hc7 hown6, v7, rfl, ?_⟩
    have e3 : (Option.map (fun p : Nat × Nat => repl row p.1 (gm v.M p.2).o) (some p)).getD [] = repl row p.1 (gm v.M p.2).o := rfl
    rw [e3]
    have e4 : ri (repl row p.1 (gm v.M p.2).o) = ri (row.take p.1) ++ [.int .i64 (gm v.M p.2).o] ++ ri (row.drop (p.1 + 2)) := by
      unfold repl
      rw [ri_app, ri_app]
      rfl
    have e5 : (repl row p.1 (gm v.M p.2).o).length = p.1 + 1 + (len - (p.1 + 2)) := by
      unfold repl
      simp
      omega
    rw [e4, e5]
    exact hown7
theorem rRun_ok (h : IsV w v x) (hs : Small v) (hv : View w a len cap 1 (ri row)) (hl : len ≤ 1000) : Cal Try.prog 41 ⟨[.agg ⟨vcs x⟩, .slice a len cap]⟩ w fun u w' => Ext w w' ∧ ∃ a' len' cap', u = .slice a' len' cap' ∧ View w' a' len' cap' 1 (ri (run v.M row)) := by
  have hrl := ri_lens hv
  refine go41 (by rfl) ?_
  (repeat ((conv => whnf); (first | (with_reducible first | refine jA ?_ | refine jB ?_ | refine jC ?_ | refine jD ?_) | refine jE ?_ | refine jF ?_ | refine jG ?_ | refine jH ?_ | refine jI ?_ | refine jJ ?_ | refine jK ?_ | refine jL ?_ | refine jM ?_ | refine jN ?_ | refine jO ?_ | refine jP ?_ | refine jQ ?_ | refine jR ?_ | refine jS (k := ?_) | refine jT (k := ?_)))); (conv => whnf)
  refine r_new fun b w1 hx1 hb1 hs1 hblk => ?_
  have hblk : Blk w1 b 50 [.slice x.aT x.lT x.cT, .slice x.aM x.lM x.cM, .slice x.aS x.lS x.cS] := hblk
  (repeat ((conv => whnf); (first | (with_reducible first | refine jA ?_ | refine jB ?_ | refine jC ?_ | refine jD ?_) | refine jE ?_ | refine jF ?_ | refine jG ?_ | refine jH ?_ | refine jI ?_ | refine jJ ?_ | refine jK ?_ | refine jL ?_ | refine jM ?_ | refine jN ?_ | refine jO ?_ | refine jP ?_ | refine jQ ?_ | refine jR ?_ | refine jS (k := ?_) | refine jT (k := ?_)))); (conv => whnf)
  refine r_loop (σ := (Option Addr × Nat × Nat) × Nat) (fun s => [.slice s.1.1 s.1.2.1 s.1.2.2, .int .i64 (s.2 : Int)]) (fun s w' => s.2 ≤ len ∧ Ext w1 w' ∧ ∃ r, View w' s.1.1 s.1.2.1 s.1.2.2 1 (ri r) ∧ r.length + s.2 ≤ len ∧ runF v.M (len - s.2) r = run v.M row) (fun s _ => len - s.2) ((a, len, cap), 0) rfl ⟨Nat.zero_le _, Ext.refl _, row, hv.ext hx1, by dsimp only; omega, by rw [← hrl]; rfl⟩ ?_
  rintro ⟨⟨a1, l1, c1⟩, i⟩ w2 again ⟨hi, hx2, r, hr, hrl2, hrun⟩ hagain
  dsimp only at hi hr hrl2 hrun hagain ⊢
  have hx02 := hx1.trans hx2
  have hblk := hblk.ext hx2
  have hl1 := ri_lens hr
  by_cases hil : i < len
  · (repeat ((conv => whnf); (first | (with_reducible first | refine jA ?_ | refine jB ?_ | refine jC ?_ | refine jD ?_) | refine jE ?_ | refine jF ?_ | refine jG ?_ | refine jH ?_ | refine jI ?_ | refine jJ ?_ | refine jK ?_ | refine jL ?_ | refine jM ?_ | refine jN ?_ | refine jO ?_ | refine jP ?_ | refine jQ ?_ | refine jR ?_ | refine jS (k := ?_) | refine jT (k := ?_)))); (conv => whnf)
    refine r_ldnb (vs := vcs x) hblk rfl rfl ?_
    (repeat ((conv => whnf); (first | (with_reducible first | refine jA ?_ | refine jB ?_ | refine jC ?_ | refine jD ?_) | refine jE ?_ | refine jF ?_ | refine jG ?_ | refine jH ?_ | refine jI ?_ | refine jJ ?_ | refine jK ?_ | refine jL ?_ | refine jM ?_ | refine jN ?_ | refine jO ?_ | refine jP ?_ | refine jQ ?_ | refine jR ?_ | refine jS (k := ?_) | refine jT (k := ?_)))); (conv => whnf)
    refine r_cal (rStep_ok (h.ext hx02) hs hr (by omega)) ?_
    rintro _ w3 ⟨hx3, y, rfl, hown⟩
    cases hst : stp v.M r with
    | none =>
      rw [runF_none hst] at hrun
      (repeat ((conv => whnf); (first | (with_reducible first | refine jA ?_ | refine jB ?_ | refine jC ?_ | refine jD ?_) | refine jE ?_ | refine jF ?_ | refine jG ?_ | refine jH ?_ | refine jI ?_ | refine jJ ?_ | refine jK ?_ | refine jL ?_ | refine jM ?_ | refine jN ?_ | refine jO ?_ | refine jP ?_ | refine jQ ?_ | refine jR ?_ | refine jS (k := ?_) | refine jT (k := ?_)))); (conv => whnf)
      refine r_true (by rfl) ?_
      (repeat ((conv => whnf); (first | (with_reducible first | refine jA ?_ | refine jB ?_ | refine jC ?_ | refine jD ?_) | refine jE ?_ | refine jF ?_ | refine jG ?_ | refine jH ?_ | refine jI ?_ | refine jJ ?_ | refine jK ?_ | refine jL ?_ | refine jM ?_ | refine jN ?_ | refine jO ?_ | refine jP ?_ | refine jQ ?_ | refine jR ?_ | refine jS (k := ?_) | refine jT (k := ?_)))); (conv => whnf)
      exact ⟨hx02.trans hx3, a1, l1, c1, rfl, by rw [← hrun]; exact hr.ext hx3⟩
    | some r' =>
      rw [hst] at hown
      obtain ⟨a2, c2, rfl, hv2, -, -⟩ := View.of_own hown
      have hsl := stp_len hst
      (repeat ((conv => whnf); (first | (with_reducible first | refine jA ?_ | refine jB ?_ | refine jC ?_ | refine jD ?_) | refine jE ?_ | refine jF ?_ | refine jG ?_ | refine jH ?_ | refine jI ?_ | refine jJ ?_ | refine jK ?_ | refine jL ?_ | refine jM ?_ | refine jN ?_ | refine jO ?_ | refine jP ?_ | refine jQ ?_ | refine jR ?_ | refine jS (k := ?_) | refine jT (k := ?_)))); (conv => whnf)
      refine r_false (by rfl) ?_
      (repeat ((conv => whnf); (first | (with_reducible first | refine jA ?_ | refine jB ?_ | refine jC ?_ | refine jD ?_) | refine jE ?_ | refine jF ?_ | refine jG ?_ | refine jH ?_ | refine jI ?_ | refine jJ ?_ | refine jK ?_ | refine jL ?_ | refine jM ?_ | refine jN ?_ | refine jO ?_ | refine jP ?_ | refine jQ ?_ | refine jR ?_ | refine jS (k := ?_) | refine jT (k := ?_)))); (conv => whnf)
      refine hagain ((a2, r'.length, c2), i + 1) w3 ⟨by dsimp only; omega, hx2.trans hx3, r', hv2, by dsimp only; omega, ?_⟩ (by dsimp only; omega)
      rw [← hrun, show len - i = (len - (i + 1)) + 1 by omega]
      simp [runF, hst]
  · have : i = len := by omega
    subst this
    rw [Nat.sub_self] at hrun
    have hrun : r = run v.M row := hrun
    (repeat ((conv => whnf); (first | (with_reducible first | refine jA ?_ | refine jB ?_ | refine jC ?_ | refine jD ?_) | refine jE ?_ | refine jF ?_ | refine jG ?_ | refine jH ?_ | refine jI ?_ | refine jJ ?_ | refine jK ?_ | refine jL ?_ | refine jM ?_ | refine jN ?_ | refine jO ?_ | refine jP ?_ | refine jQ ?_ | refine jR ?_ | refine jS (k := ?_) | refine jT (k := ?_)))); (conv => whnf)
    exact ⟨hx02, a1, l1, c1, rfl, by rw [← hrun]; exact hr⟩
theorem txt_len {T : List (List UInt8)} (h : ∀ s ∈ T, s.length ≤ 80) (row : List Int) : (txt T row).length ≤ 80 * row.length := by
  induction row with
  | nil => simp [txt]
  | cons i row ih =>
    have e : txt T (i :: row) = tk T i ++ txt T row := by simp [txt]
    have := tk_len h i
    rw [e, List.length_append, List.length_cons]
    omega
theorem txt_succ {T : List (List UInt8)} {row : List Int} {i : Nat} (h : i < row.length) : txt T (row.take (i + 1)) = txt T (row.take i) ++ tk T (gi row i) := by
  have h1 := gi_get h
  rw [List.getElem?_eq_getElem h] at h1
  rw [List.take_succ_eq_append_getElem h, txt_app, Option.some.inj h1]
  simp [txt]
theorem Text_ok (h : IsV w v x) (hs : Small v) (hv : View w a len cap 1 (ri row)) (hl : len ≤ 1000) : Cal Try.prog 42 ⟨[.agg ⟨vcs x⟩, .slice a len cap]⟩ w fun u w' => Ext w w' ∧ ((AllT v.T row ∧ u = .tuple ⟨[.string (bstr (txt v.T row)), .bool true]⟩) ∨ (¬ AllT v.T row ∧ u = .tuple ⟨[.string ⟨#[]⟩, .bool false]⟩)) := by
  obtain ⟨hlT, hlM, hlS⟩ := h.lens
  have hnt := hs.nt
  have hrl := ri_lens hv
  refine go42 (by rfl) ?_
  (repeat ((conv => whnf); (first | (with_reducible first | refine jA ?_ | refine jB ?_ | refine jC ?_ | refine jD ?_) | refine jE ?_ | refine jF ?_ | refine jG ?_ | refine jH ?_ | refine jI ?_ | refine jJ ?_ | refine jK ?_ | refine jL ?_ | refine jM ?_ | refine jN ?_ | refine jO ?_ | refine jP ?_ | refine jQ ?_ | refine jR ?_ | refine jS (k := ?_) | refine jT (k := ?_)))); (conv => whnf)
  refine r_new fun b w1 hx1 hb1 hs1 hblk => ?_
  have hblk : Blk w1 b 50 [.slice x.aT x.lT x.cT, .slice x.aM x.lM x.cM, .slice x.aS x.lS x.cS] := hblk
  (repeat ((conv => whnf); (first | (with_reducible first | refine jA ?_ | refine jB ?_ | refine jC ?_ | refine jD ?_) | refine jE ?_ | refine jF ?_ | refine jG ?_ | refine jH ?_ | refine jI ?_ | refine jJ ?_ | refine jK ?_ | refine jL ?_ | refine jM ?_ | refine jN ?_ | refine jO ?_ | refine jP ?_ | refine jQ ?_ | refine jR ?_ | refine jS (k := ?_) | refine jT (k := ?_)))); (conv => whnf)
  refine r_loop (σ := Nat) (fun i => [.string (bstr (txt v.T (row.take i))), .int .i64 (i : Int)]) (fun i w' => i ≤ len ∧ Ext w1 w' ∧ ∀ k, k < i → IsT v.T (gi row k)) (fun i _ => len - i) 0 rfl ⟨by omega, Ext.refl _, fun k hk => by omega⟩ ?_
  rintro i w2 again ⟨hi, hx2, hall⟩ hagain
  have hx02 := hx1.trans hx2
  have hblk := hblk.ext hx2
  have h2 := h.ext hx02
  have hv2 := hv.ext hx02
  by_cases hil : i < len
  rotate_left
  · have : row.take i = row := List.take_of_length_le (by omega)
    rw [this]
    (repeat ((conv => whnf); (first | (with_reducible first | refine jA ?_ | refine jB ?_ | refine jC ?_ | refine jD ?_) | refine jE ?_ | refine jF ?_ | refine jG ?_ | refine jH ?_ | refine jI ?_ | refine jJ ?_ | refine jK ?_ | refine jL ?_ | refine jM ?_ | refine jN ?_ | refine jO ?_ | refine jP ?_ | refine jQ ?_ | refine jR ?_ | refine jS (k := ?_) | refine jT (k := ?_)))); (conv => whnf)
    refine ⟨hx02, .inl ⟨fun k hk => ?_, rfl⟩⟩
    obtain ⟨j, hj, rfl⟩ := List.getElem_of_mem hk
    have h1 := gi_get hj
    rw [List.getElem?_eq_getElem hj] at h1
    rw [Option.some.inj h1]
    exact hall j (by omega)
  have hp := hv.plain (by rw [ri_len]; omega)
  have g1 : (ri row)[(i : Int).toNat * 1]? = some (.int .i64 (gi row i)) := by simpa using ri_get (row := row) (i := i) (by omega)
  have hmem : gi row i ∈ row := List.mem_of_getElem? (gi_get (by omega))
  have bad : ¬ IsT v.T (gi row i) → ∀ w', Ext w2 w' → Ext w w' ∧ ((AllT v.T row ∧ Value.tuple ⟨[.string ⟨#[]⟩, .bool false]⟩ = .tuple ⟨[.string (bstr (txt v.T row)), .bool true]⟩) ∨ (¬ AllT v.T row ∧ Value.tuple ⟨[.string ⟨#[]⟩, .bool false]⟩ = .tuple ⟨[.string ⟨#[]⟩, .bool false]⟩)) := fun hn w' hx' => ⟨hx02.trans hx', .inr ⟨fun ha => hn (ha _ hmem), rfl⟩⟩
  (repeat ((conv => whnf); (first | (with_reducible first | refine jA ?_ | refine jB ?_ | refine jC ?_ | refine jD ?_) | refine jE ?_ | refine jF ?_ | refine jG ?_ | refine jH ?_ | refine jI ?_ | refine jJ ?_ | refine jK ?_ | refine jL ?_ | refine jM ?_ | refine jN ?_ | refine jO ?_ | refine jP ?_ | refine jQ ?_ | refine jR ?_ | refine jS (k := ?_) | refine jT (k := ?_)))); (conv => whnf)
  refine r_drawE fun w3 hx3 hh3 => ?_
  (repeat ((conv => whnf); (first | (with_reducible first | refine jA ?_ | refine jB ?_ | refine jC ?_ | refine jD ?_) | refine jE ?_ | refine jF ?_ | refine jG ?_ | refine jH ?_ | refine jI ?_ | refine jJ ?_ | refine jK ?_ | refine jL ?_ | refine jM ?_ | refine jN ?_ | refine jO ?_ | refine jP ?_ | refine jQ ?_ | refine jR ?_ | refine jS (k := ?_) | refine jT (k := ?_)))); (conv => whnf)
  refine r_ldvE hv2 g1 ?_
  by_cases c0 : 0 ≤ gi row i
  rotate_left
  · (repeat ((conv => whnf); (first | (with_reducible first | refine jA ?_ | refine jB ?_ | refine jC ?_ | refine jD ?_) | refine jE ?_ | refine jF ?_ | refine jG ?_ | refine jH ?_ | refine jI ?_ | refine jJ ?_ | refine jK ?_ | refine jL ?_ | refine jM ?_ | refine jN ?_ | refine jO ?_ | refine jP ?_ | refine jQ ?_ | refine jR ?_ | refine jS (k := ?_) | refine jT (k := ?_)))); (conv => whnf)
    exact bad (fun hh => c0 hh.1) w3 hx3
  (repeat ((conv => whnf); (first | (with_reducible first | refine jA ?_ | refine jB ?_ | refine jC ?_ | refine jD ?_) | refine jE ?_ | refine jF ?_ | refine jG ?_ | refine jH ?_ | refine jI ?_ | refine jJ ?_ | refine jK ?_ | refine jL ?_ | refine jM ?_ | refine jN ?_ | refine jO ?_ | refine jP ?_ | refine jQ ?_ | refine jR ?_ | refine jS (k := ?_) | refine jT (k := ?_)))); (conv => whnf)
  refine r_ldvE hv2 g1 ?_
  by_cases c1 : gi row i < v.T.length
  rotate_left
  · (repeat ((conv => whnf); (first | (with_reducible first | refine jA ?_ | refine jB ?_ | refine jC ?_ | refine jD ?_) | refine jE ?_ | refine jF ?_ | refine jG ?_ | refine jH ?_ | refine jI ?_ | refine jJ ?_ | refine jK ?_ | refine jL ?_ | refine jM ?_ | refine jN ?_ | refine jO ?_ | refine jP ?_ | refine jQ ?_ | refine jR ?_ | refine jS (k := ?_) | refine jT (k := ?_)))); (conv => whnf)
    exact bad (fun hh => c1 hh.2.1) w3 hx3
  have hpt := h2.t.plain (by rw [tv_len]; omega)
  have gt1 := tv_getI (T := v.T) (i := gi row i) c0 c1
  (repeat ((conv => whnf); (first | (with_reducible first | refine jA ?_ | refine jB ?_ | refine jC ?_ | refine jD ?_) | refine jE ?_ | refine jF ?_ | refine jG ?_ | refine jH ?_ | refine jI ?_ | refine jJ ?_ | refine jK ?_ | refine jL ?_ | refine jM ?_ | refine jN ?_ | refine jO ?_ | refine jP ?_ | refine jQ ?_ | refine jR ?_ | refine jS (k := ?_) | refine jT (k := ?_)))); (conv => whnf)
  refine r_ldvE hv2 g1 ?_
  (repeat ((conv => whnf); (first | (with_reducible first | refine jA ?_ | refine jB ?_ | refine jC ?_ | refine jD ?_) | refine jE ?_ | refine jF ?_ | refine jG ?_ | refine jH ?_ | refine jI ?_ | refine jJ ?_ | refine jK ?_ | refine jL ?_ | refine jM ?_ | refine jN ?_ | refine jO ?_ | refine jP ?_ | refine jQ ?_ | refine jR ?_ | refine jS (k := ?_) | refine jT (k := ?_)))); (conv => whnf)
  refine r_ldvE h2.t gt1 ?_
  (repeat ((conv => whnf); (first | (with_reducible first | refine jA ?_ | refine jB ?_ | refine jC ?_ | refine jD ?_) | refine jE ?_ | refine jF ?_ | refine jG ?_ | refine jH ?_ | refine jI ?_ | refine jJ ?_ | refine jK ?_ | refine jL ?_ | refine jM ?_ | refine jN ?_ | refine jO ?_ | refine jP ?_ | refine jQ ?_ | refine jR ?_ | refine jS (k := ?_) | refine jT (k := ?_)))); (conv => whnf)
  by_cases c2 : tk v.T (gi row i) = []
  · refine r_s0t c2 ?_
    (repeat ((conv => whnf); (first | (with_reducible first | refine jA ?_ | refine jB ?_ | refine jC ?_ | refine jD ?_) | refine jE ?_ | refine jF ?_ | refine jG ?_ | refine jH ?_ | refine jI ?_ | refine jJ ?_ | refine jK ?_ | refine jL ?_ | refine jM ?_ | refine jN ?_ | refine jO ?_ | refine jP ?_ | refine jQ ?_ | refine jR ?_ | refine jS (k := ?_) | refine jT (k := ?_)))); (conv => whnf)
    exact bad (fun hh => hh.2.2 c2) w3 hx3
  refine r_s0f c2 ?_
  have y1 := bstr_size (txt v.T (row.take i))
  have y2 := bstr_size (tk v.T (gi row i))
  have y3 := txt_len hs.tl (row.take i)
  have y4 := tk_len hs.tl (gi row i)
  rw [List.length_take] at y3
  have hblk3 := hblk.ext hx3
  (repeat ((conv => whnf); (first | (with_reducible first | refine jA ?_ | refine jB ?_ | refine jC ?_ | refine jD ?_) | refine jE ?_ | refine jF ?_ | refine jG ?_ | refine jH ?_ | refine jI ?_ | refine jJ ?_ | refine jK ?_ | refine jL ?_ | refine jM ?_ | refine jN ?_ | refine jO ?_ | refine jP ?_ | refine jQ ?_ | refine jR ?_ | refine jS (k := ?_) | refine jT (k := ?_)))); (conv => whnf)
  refine r_drawE fun w4 hx4 hh4 => ?_
  (repeat ((conv => whnf); (first | (with_reducible first | refine jA ?_ | refine jB ?_ | refine jC ?_ | refine jD ?_) | refine jE ?_ | refine jF ?_ | refine jG ?_ | refine jH ?_ | refine jI ?_ | refine jJ ?_ | refine jK ?_ | refine jL ?_ | refine jM ?_ | refine jN ?_ | refine jO ?_ | refine jP ?_ | refine jQ ?_ | refine jR ?_ | refine jS (k := ?_) | refine jT (k := ?_)))); (conv => whnf)
  refine r_ldvE (hv2.ext hx3) g1 ?_
  (repeat ((conv => whnf); (first | (with_reducible first | refine jA ?_ | refine jB ?_ | refine jC ?_ | refine jD ?_) | refine jE ?_ | refine jF ?_ | refine jG ?_ | refine jH ?_ | refine jI ?_ | refine jJ ?_ | refine jK ?_ | refine jL ?_ | refine jM ?_ | refine jN ?_ | refine jO ?_ | refine jP ?_ | refine jQ ?_ | refine jR ?_ | refine jS (k := ?_) | refine jT (k := ?_)))); (conv => whnf)
  refine r_ldvE (h2.ext hx3).t gt1 ?_
  (repeat ((conv => whnf); (first | (with_reducible first | refine jA ?_ | refine jB ?_ | refine jC ?_ | refine jD ?_) | refine jE ?_ | refine jF ?_ | refine jG ?_ | refine jH ?_ | refine jI ?_ | refine jJ ?_ | refine jK ?_ | refine jL ?_ | refine jM ?_ | refine jN ?_ | refine jO ?_ | refine jP ?_ | refine jQ ?_ | refine jR ?_ | refine jS (k := ?_) | refine jT (k := ?_)))); (conv => whnf)
  rw [bstr_app, ← txt_succ (by omega)]
  exact hagain (i + 1) w4 ⟨by omega, hx2.trans (hx3.trans hx4), fun k hk => by
    by_cases hki : k = i
    · subst hki; exact ⟨c0, c1, c2⟩
    · exact hall k (by omega)⟩ (by omega)
theorem Same_ok {a' : Option Addr} {len' cap' : Nat} {L : List Int} (ha : View w a len cap 1 (ri L)) (hb : View w a' len' cap' 1 (ri L)) :
    Cal Try.prog 39 ⟨[.slice a len cap, .slice a' len' cap']⟩ w fun v w' => Ext w w' ∧ v = .bool true := by
  have hal := ri_lens ha
  have hbl := ri_lens hb
  have m1 := ha.le
  have m2 := ha.max
  unfold maxLen at m2
  have hll : len' = len := by omega
  subst hll
  refine go39 (by rfl) ?_
  (repeat ((conv => whnf); (first | (with_reducible first | refine jA ?_ | refine jB ?_ | refine jC ?_ | refine jD ?_) | refine jE ?_ | refine jF ?_ | refine jG ?_ | refine jH ?_ | refine jI ?_ | refine jJ ?_ | refine jK ?_ | refine jL ?_ | refine jM ?_ | refine jN ?_ | refine jO ?_ | refine jP ?_ | refine jQ ?_ | refine jR ?_ | refine jS (k := ?_) | refine jT (k := ?_)))); (conv => whnf)
  refine r_loop (σ := Nat) (fun i => [.int .i64 (i : Int)]) (fun i w' => i ≤ len' ∧ Ext w w') (fun i _ => len' - i) 0 rfl ⟨by omega, Ext.refl w⟩ ?_
  rintro i w1 again ⟨hi, hx1⟩ hagain
  by_cases hil : i < len'
  · have ea := ri_get (row := L) (i := i) (by omega)
    have hpa := ha.plain (by rw [ri_len]; omega)
    have hpb := hb.plain (by rw [ri_len]; omega)
    (repeat ((conv => whnf); (first | (with_reducible first | refine jA ?_ | refine jB ?_ | refine jC ?_ | refine jD ?_) | refine jE ?_ | refine jF ?_ | refine jG ?_ | refine jH ?_ | refine jI ?_ | refine jJ ?_ | refine jK ?_ | refine jL ?_ | refine jM ?_ | refine jN ?_ | refine jO ?_ | refine jP ?_ | refine jQ ?_ | refine jR ?_ | refine jS (k := ?_) | refine jT (k := ?_)))); (conv => whnf)
    refine r_drawE fun w2 hx2 _ => ?_
    (repeat ((conv => whnf); (first | (with_reducible first | refine jA ?_ | refine jB ?_ | refine jC ?_ | refine jD ?_) | refine jE ?_ | refine jF ?_ | refine jG ?_ | refine jH ?_ | refine jI ?_ | refine jJ ?_ | refine jK ?_ | refine jL ?_ | refine jM ?_ | refine jN ?_ | refine jO ?_ | refine jP ?_ | refine jQ ?_ | refine jR ?_ | refine jS (k := ?_) | refine jT (k := ?_)))); (conv => whnf)
    refine r_ldvE (j := (i : Int).toNat * 1) (ha.ext hx1) (by simpa using ea) ?_
    (repeat ((conv => whnf); (first | (with_reducible first | refine jA ?_ | refine jB ?_ | refine jC ?_ | refine jD ?_) | refine jE ?_ | refine jF ?_ | refine jG ?_ | refine jH ?_ | refine jI ?_ | refine jJ ?_ | refine jK ?_ | refine jL ?_ | refine jM ?_ | refine jN ?_ | refine jO ?_ | refine jP ?_ | refine jQ ?_ | refine jR ?_ | refine jS (k := ?_) | refine jT (k := ?_)))); (conv => whnf)
    refine r_ldvE (j := (i : Int).toNat * 1) (hb.ext hx1) (by simpa using ea) ?_
    (repeat ((conv => whnf); (first | (with_reducible first | refine jA ?_ | refine jB ?_ | refine jC ?_ | refine jD ?_) | refine jE ?_ | refine jF ?_ | refine jG ?_ | refine jH ?_ | refine jI ?_ | refine jJ ?_ | refine jK ?_ | refine jL ?_ | refine jM ?_ | refine jN ?_ | refine jO ?_ | refine jP ?_ | refine jQ ?_ | refine jR ?_ | refine jS (k := ?_) | refine jT (k := ?_)))); (conv => whnf)
    exact hagain (i + 1) w2 ⟨by omega, hx1.trans hx2⟩ (by omega)
  · (repeat ((conv => whnf); (first | (with_reducible first | refine jA ?_ | refine jB ?_ | refine jC ?_ | refine jD ?_) | refine jE ?_ | refine jF ?_ | refine jG ?_ | refine jH ?_ | refine jI ?_ | refine jJ ?_ | refine jK ?_ | refine jL ?_ | refine jM ?_ | refine jN ?_ | refine jO ?_ | refine jP ?_ | refine jQ ?_ | refine jR ?_ | refine jS (k := ?_) | refine jT (k := ?_)))); (conv => whnf)
    exact ⟨hx1, rfl⟩
end
end Fb.Try.VO
