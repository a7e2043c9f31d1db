/-
  Walks: the law's helpers for pairs.
-/
import Derived.Test.YtnofndhlhbbhdaaPr
namespace Fb.Try.VO
open Go Go.Proofs Fb Fb.Bytes
section
variable {w w' : World} {v : Voc} {x : VA}
theorem Great4_ok (h : IsV w v x) : Cal Try.prog 28 ⟨[.agg ⟨vcs x⟩]⟩ w fun u w' => Ext w w' ∧ ∃ b, u = .bool b ∧ (b = false → Small v ∧ v.T.length ≤ 400) := by
  obtain ⟨hlT, hlM, hlS⟩ := h.lens
  refine go28 (by rfl) ?_
  (repeat ((conv => whnf); (first | (with_reducible first | refine jA ?_ | refine jB ?_ | refine jC ?_ | refine jD ?_) | refine jE ?_ | refine jF ?_ | refine jG ?_ | refine jH ?_ | refine jI ?_ | refine jJ ?_ | refine jK ?_ | refine jL ?_ | refine jM ?_ | refine jN ?_ | refine jO ?_ | refine jP ?_ | refine jQ ?_ | refine jR ?_ | refine jS (k := ?_) | refine jT (k := ?_)))); (conv => whnf)
  refine r_new fun p w1 hx1 hb1 hs1 hblk => ?_
  have hblk : Blk w1 p 50 [.slice x.aT x.lT x.cT, .slice x.aM x.lM x.cM, .slice x.aS x.lS x.cS] := hblk
  have h1 := h.ext hx1
  have yes : Ext w w1 ∧ ∃ b, Value.bool true = .bool b ∧ (b = false → Small v ∧ v.T.length ≤ 400) := ⟨hx1, true, rfl, fun h => by cases h⟩
  by_cases c1 : 400 < x.lT
  · (repeat ((conv => whnf); (first | (with_reducible first | refine jA ?_ | refine jB ?_ | refine jC ?_ | refine jD ?_) | refine jE ?_ | refine jF ?_ | refine jG ?_ | refine jH ?_ | refine jI ?_ | refine jJ ?_ | refine jK ?_ | refine jL ?_ | refine jM ?_ | refine jN ?_ | refine jO ?_ | refine jP ?_ | refine jQ ?_ | refine jR ?_ | refine jS (k := ?_) | refine jT (k := ?_)))); (conv => whnf)
    exact yes
  by_cases c2 : 300 < x.lM
  · (repeat ((conv => whnf); (first | (with_reducible first | refine jA ?_ | refine jB ?_ | refine jC ?_ | refine jD ?_) | refine jE ?_ | refine jF ?_ | refine jG ?_ | refine jH ?_ | refine jI ?_ | refine jJ ?_ | refine jK ?_ | refine jL ?_ | refine jM ?_ | refine jN ?_ | refine jO ?_ | refine jP ?_ | refine jQ ?_ | refine jR ?_ | refine jS (k := ?_) | refine jT (k := ?_)))); (conv => whnf)
    exact yes
  by_cases c3 : 20 < x.lS
  · (repeat ((conv => whnf); (first | (with_reducible first | refine jA ?_ | refine jB ?_ | refine jC ?_ | refine jD ?_) | refine jE ?_ | refine jF ?_ | refine jG ?_ | refine jH ?_ | refine jI ?_ | refine jJ ?_ | refine jK ?_ | refine jL ?_ | refine jM ?_ | refine jN ?_ | refine jO ?_ | refine jP ?_ | refine jQ ?_ | refine jR ?_ | refine jS (k := ?_) | refine jT (k := ?_)))); (conv => whnf)
    exact yes
  (repeat ((conv => whnf); (first | (with_reducible first | refine jA ?_ | refine jB ?_ | refine jC ?_ | refine jD ?_) | refine jE ?_ | refine jF ?_ | refine jG ?_ | refine jH ?_ | refine jI ?_ | refine jJ ?_ | refine jK ?_ | refine jL ?_ | refine jM ?_ | refine jN ?_ | refine jO ?_ | refine jP ?_ | refine jQ ?_ | refine jR ?_ | refine jS (k := ?_) | refine jT (k := ?_)))); (conv => whnf)
  refine r_loop (σ := Nat) (fun i => [.int .i64 (i : Int)]) (fun i w' => i ≤ x.lT ∧ w' = w1 ∧ ∀ k : Nat, k < i → (tk v.T k).length ≤ 80) (fun i _ => x.lT - i) 0 rfl ⟨by omega, rfl, fun k hk => by omega⟩ ?_
  rintro i w1 again1 ⟨hi, rfl, hall⟩ hagain1
  by_cases hil : i < x.lT
  · have hp := h1.t.plain (by rw [tv_len]; omega)
    have hg := tv_get (T := v.T) (i := i) (by omega)
    have hg' : (tv v.T)[(i : Int).toNat * 1]? = some (.string (bstr (tk v.T i))) := by simpa using hg
    have hsz := bstr_size (tk v.T i)
    (repeat ((conv => whnf); (first | (with_reducible first | refine jA ?_ | refine jB ?_ | refine jC ?_ | refine jD ?_) | refine jE ?_ | refine jF ?_ | refine jG ?_ | refine jH ?_ | refine jI ?_ | refine jJ ?_ | refine jK ?_ | refine jL ?_ | refine jM ?_ | refine jN ?_ | refine jO ?_ | refine jP ?_ | refine jQ ?_ | refine jR ?_ | refine jS (k := ?_) | refine jT (k := ?_)))); (conv => whnf)
    refine r_ldv h1.t hg' ?_
    by_cases c4 : 80 < (tk v.T i).length
    · (repeat ((conv => whnf); (first | (with_reducible first | refine jA ?_ | refine jB ?_ | refine jC ?_ | refine jD ?_) | refine jE ?_ | refine jF ?_ | refine jG ?_ | refine jH ?_ | refine jI ?_ | refine jJ ?_ | refine jK ?_ | refine jL ?_ | refine jM ?_ | refine jN ?_ | refine jO ?_ | refine jP ?_ | refine jQ ?_ | refine jR ?_ | refine jS (k := ?_) | refine jT (k := ?_)))); (conv => whnf)
      exact yes
    · (repeat ((conv => whnf); (first | (with_reducible first | refine jA ?_ | refine jB ?_ | refine jC ?_ | refine jD ?_) | refine jE ?_ | refine jF ?_ | refine jG ?_ | refine jH ?_ | refine jI ?_ | refine jJ ?_ | refine jK ?_ | refine jL ?_ | refine jM ?_ | refine jN ?_ | refine jO ?_ | refine jP ?_ | refine jQ ?_ | refine jR ?_ | refine jS (k := ?_) | refine jT (k := ?_)))); (conv => whnf)
      exact hagain1 (i + 1) _ ⟨by omega, rfl, fun k hk => by
        by_cases hki : k = i
        · subst hki; omega
        · exact hall k (by omega)⟩ (by omega)
  (repeat ((conv => whnf); (first | (with_reducible first | refine jA ?_ | refine jB ?_ | refine jC ?_ | refine jD ?_) | refine jE ?_ | refine jF ?_ | refine jG ?_ | refine jH ?_ | refine jI ?_ | refine jJ ?_ | refine jK ?_ | refine jL ?_ | refine jM ?_ | refine jN ?_ | refine jO ?_ | refine jP ?_ | refine jQ ?_ | refine jR ?_ | refine jS (k := ?_) | refine jT (k := ?_)))); (conv => whnf)
  refine r_loop (σ := Nat) (fun i => [.int .i64 (i : Int)]) (fun i w' => i ≤ x.lS ∧ w' = w1 ∧ ∀ k : Nat, k < i → (gs v.S k).name.length ≤ 40) (fun i _ => x.lS - i) 0 rfl ⟨by omega, rfl, fun k hk => by omega⟩ ?_
  rintro j w1 again2 ⟨hj, rfl, hall2⟩ hagain2
  by_cases hjl : j < x.lS
  · have hp := h1.s.plain (by rw [sv_len]; omega)
    have hg := sv_cell (S := v.S) (i := j) (by omega) 0 (by omega)
    have hg' : (sv v.S)[(j : Int).toNat * 2]? = some (.string (bstr (gs v.S j).name)) := by rw [Int.toNat_natCast]; exact hg
    have hsz := bstr_size (gs v.S j).name
    (repeat ((conv => whnf); (first | (with_reducible first | refine jA ?_ | refine jB ?_ | refine jC ?_ | refine jD ?_) | refine jE ?_ | refine jF ?_ | refine jG ?_ | refine jH ?_ | refine jI ?_ | refine jJ ?_ | refine jK ?_ | refine jL ?_ | refine jM ?_ | refine jN ?_ | refine jO ?_ | refine jP ?_ | refine jQ ?_ | refine jR ?_ | refine jS (k := ?_) | refine jT (k := ?_)))); (conv => whnf)
    refine r_ldv h1.s hg' ?_
    by_cases c4 : 40 < (gs v.S j).name.length
    · (repeat ((conv => whnf); (first | (with_reducible first | refine jA ?_ | refine jB ?_ | refine jC ?_ | refine jD ?_) | refine jE ?_ | refine jF ?_ | refine jG ?_ | refine jH ?_ | refine jI ?_ | refine jJ ?_ | refine jK ?_ | refine jL ?_ | refine jM ?_ | refine jN ?_ | refine jO ?_ | refine jP ?_ | refine jQ ?_ | refine jR ?_ | refine jS (k := ?_) | refine jT (k := ?_)))); (conv => whnf)
      exact yes
    · (repeat ((conv => whnf); (first | (with_reducible first | refine jA ?_ | refine jB ?_ | refine jC ?_ | refine jD ?_) | refine jE ?_ | refine jF ?_ | refine jG ?_ | refine jH ?_ | refine jI ?_ | refine jJ ?_ | refine jK ?_ | refine jL ?_ | refine jM ?_ | refine jN ?_ | refine jO ?_ | refine jP ?_ | refine jQ ?_ | refine jR ?_ | refine jS (k := ?_) | refine jT (k := ?_)))); (conv => whnf)
      exact hagain2 (j + 1) _ ⟨by omega, rfl, fun k hk => by
        by_cases hki : k = j
        · subst hki; omega
        · exact hall2 k (by omega)⟩ (by omega)
  (repeat ((conv => whnf); (first | (with_reducible first | refine jA ?_ | refine jB ?_ | refine jC ?_ | refine jD ?_) | refine jE ?_ | refine jF ?_ | refine jG ?_ | refine jH ?_ | refine jI ?_ | refine jJ ?_ | refine jK ?_ | refine jL ?_ | refine jM ?_ | refine jN ?_ | refine jO ?_ | refine jP ?_ | refine jQ ?_ | refine jR ?_ | refine jS (k := ?_) | refine jT (k := ?_)))); (conv => whnf)
  refine ⟨hx1, false, rfl, fun _ => ⟨⟨by omega, by omega, by omega, fun s hs => ?_, fun s hs => ?_⟩, by omega⟩⟩
  · obtain ⟨k, hk, rfl⟩ := tk_mem.1 hs
    exact hall k (by omega)
  · obtain ⟨k, hk, rfl⟩ := List.getElem_of_mem hs
    have e := gs_get hk
    rw [List.getElem?_eq_getElem hk] at e
    rw [Option.some.inj e]
    exact hall2 k (by omega)
theorem Great_ok (h : IsV w v x) : Cal Try.prog 28 ⟨[.agg ⟨vcs x⟩]⟩ w fun u w' => Ext w w' ∧ ∃ b, u = .bool b ∧ (b = false → Small v) := by
  refine r_cal (Great4_ok h) ?_
  rintro _ w' ⟨hx, b, rfl, hb⟩
  exact ⟨hx, b, rfl, fun h => (hb h).1⟩
theorem great_ok (h : IsV w v x) {a : Option Addr} {len cap : Nat} {row : List Int} (hv : View w a len cap 1 (ri row)) : Cal Try.prog 34 ⟨[.agg ⟨vcs x⟩, .slice a len cap]⟩ w fun u w' => Ext w w' ∧ ∃ b, u = .bool b ∧ (b = false → Small v ∧ len ≤ 60) := by
  refine go34 (by rfl) ?_
  (repeat ((conv => whnf); (first | (with_reducible first | refine jA ?_ | refine jB ?_ | refine jC ?_ | refine jD ?_) | refine jE ?_ | refine jF ?_ | refine jG ?_ | refine jH ?_ | refine jI ?_ | refine jJ ?_ | refine jK ?_ | refine jL ?_ | refine jM ?_ | refine jN ?_ | refine jO ?_ | refine jP ?_ | refine jQ ?_ | refine jR ?_ | refine jS (k := ?_) | refine jT (k := ?_)))); (conv => whnf)
  refine r_new fun p w1 hx1 hb1 hs1 hblk => ?_
  have hblk : Blk w1 p 50 [.slice x.aT x.lT x.cT, .slice x.aM x.lM x.cM, .slice x.aS x.lS x.cS] := hblk
  (repeat ((conv => whnf); (first | (with_reducible first | refine jA ?_ | refine jB ?_ | refine jC ?_ | refine jD ?_) | refine jE ?_ | refine jF ?_ | refine jG ?_ | refine jH ?_ | refine jI ?_ | refine jJ ?_ | refine jK ?_ | refine jL ?_ | refine jM ?_ | refine jN ?_ | refine jO ?_ | refine jP ?_ | refine jQ ?_ | refine jR ?_ | refine jS (k := ?_) | refine jT (k := ?_)))); (conv => whnf)
  refine r_ldnb (vs := vcs x) hblk rfl rfl ?_
  (repeat ((conv => whnf); (first | (with_reducible first | refine jA ?_ | refine jB ?_ | refine jC ?_ | refine jD ?_) | refine jE ?_ | refine jF ?_ | refine jG ?_ | refine jH ?_ | refine jI ?_ | refine jJ ?_ | refine jK ?_ | refine jL ?_ | refine jM ?_ | refine jN ?_ | refine jO ?_ | refine jP ?_ | refine jQ ?_ | refine jR ?_ | refine jS (k := ?_) | refine jT (k := ?_)))); (conv => whnf)
  refine r_cal (Great_ok (h.ext hx1)) ?_
  rintro _ w2 ⟨hx2, b, rfl, hb⟩
  cases b with
  | true =>
    (repeat ((conv => whnf); (first | (with_reducible first | refine jA ?_ | refine jB ?_ | refine jC ?_ | refine jD ?_) | refine jE ?_ | refine jF ?_ | refine jG ?_ | refine jH ?_ | refine jI ?_ | refine jJ ?_ | refine jK ?_ | refine jL ?_ | refine jM ?_ | refine jN ?_ | refine jO ?_ | refine jP ?_ | refine jQ ?_ | refine jR ?_ | refine jS (k := ?_) | refine jT (k := ?_)))); (conv => whnf)
    exact ⟨hx1.trans hx2, true, rfl, fun h => by cases h⟩
  | false =>
    (repeat ((conv => whnf); (first | (with_reducible first | refine jA ?_ | refine jB ?_ | refine jC ?_ | refine jD ?_) | refine jE ?_ | refine jF ?_ | refine jG ?_ | refine jH ?_ | refine jI ?_ | refine jJ ?_ | refine jK ?_ | refine jL ?_ | refine jM ?_ | refine jN ?_ | refine jO ?_ | refine jP ?_ | refine jQ ?_ | refine jR ?_ | refine jS (k := ?_) | refine jT (k := ?_)))); (conv => whnf)
    refine ⟨hx1.trans hx2, _, rfl, fun h => ⟨hb rfl, ?_⟩⟩
    simp at h
    omega
set_option maxHeartbeats 1000000 in
set_option maxRecDepth 100000 in
theorem fixed_ok (w : World) : Cal Try.prog 29 ⟨[]⟩ w fun u w' => Ext w w' ∧ u = .bool true := by
  refine go29 (by rfl) ?_
  (repeat ((conv => whnf); (first | (with_reducible first | refine jA ?_ | refine jB ?_ | refine jC ?_ | refine jD ?_) | refine jE ?_ | refine jF ?_ | refine jG ?_ | refine jH ?_ | refine jI ?_ | refine jJ ?_ | refine jK ?_ | refine jL ?_ | refine jM ?_ | refine jN ?_ | refine jO ?_ | refine jP ?_ | refine jQ ?_ | refine jR ?_ | refine jS (k := ?_) | refine jT (k := ?_)))); (conv => whnf)
  refine r_new fun b6 w1 hx1 hb1 hs1 hblk6 => ?_
  have hvm : View w1 (some ⟨b6, 0, none⟩) 2 2 1 (tv ex1) := View.of_blk hblk6 rfl (by simp [maxLen])
  (repeat ((conv => whnf); (first | (with_reducible first | refine jA ?_ | refine jB ?_ | refine jC ?_ | refine jD ?_) | refine jE ?_ | refine jF ?_ | refine jG ?_ | refine jH ?_ | refine jI ?_ | refine jJ ?_ | refine jK ?_ | refine jL ?_ | refine jM ?_ | refine jN ?_ | refine jO ?_ | refine jP ?_ | refine jQ ?_ | refine jR ?_ | refine jS (k := ?_) | refine jT (k := ?_)))); (conv => whnf)
  refine r_cal (letters_ok (more := ex1) hvm (by decide) (by decide) ex1_may.tok (by rw [ex1_fr]; decide) (by rw [ex1_fr]; exact ex1_may)) ?_
  rintro _ w2 ⟨hx2, y, rfl, hV⟩
  rw [ex1_fr] at hV
  have hx02 := hx1.trans hx2
  have hz2 := hx02.size
  (repeat ((conv => whnf); (first | (with_reducible first | refine jA ?_ | refine jB ?_ | refine jC ?_ | refine jD ?_) | refine jE ?_ | refine jF ?_ | refine jG ?_ | refine jH ?_ | refine jI ?_ | refine jJ ?_ | refine jK ?_ | refine jL ?_ | refine jM ?_ | refine jN ?_ | refine jO ?_ | refine jP ?_ | refine jQ ?_ | refine jR ?_ | refine jS (k := ?_) | refine jT (k := ?_)))); (conv => whnf)
  refine r_new fun b1 w3 hx3 hb3 hs3 hblk1 => ?_
  (repeat ((conv => whnf); (first | (with_reducible first | refine jA ?_ | refine jB ?_ | refine jC ?_ | refine jD ?_) | refine jE ?_ | refine jF ?_ | refine jG ?_ | refine jH ?_ | refine jI ?_ | refine jJ ?_ | refine jK ?_ | refine jL ?_ | refine jM ?_ | refine jN ?_ | refine jO ?_ | refine jP ?_ | refine jQ ?_ | refine jR ?_ | refine jS (k := ?_) | refine jT (k := ?_)))); (conv => whnf)
  refine r_stn hblk1 (by simp [vcs]) (by simp [vcs, Value.oneCell']) fun w4 hc4 hs4 hblk1 => ?_
  have hblk1 : Blk w4 b1 50 (vcs y) := hblk1
  have hx24 : Ext w2 w4 := Chg.step hx3 hc4 fun k hk hlt => by omega
  have hx04 := hx02.trans hx24
  (repeat ((conv => whnf); (first | (with_reducible first | refine jA ?_ | refine jB ?_ | refine jC ?_ | refine jD ?_) | refine jE ?_ | refine jF ?_ | refine jG ?_ | refine jH ?_ | refine jI ?_ | refine jJ ?_ | refine jK ?_ | refine jL ?_ | refine jM ?_ | refine jN ?_ | refine jO ?_ | refine jP ?_ | refine jQ ?_ | refine jR ?_ | refine jS (k := ?_) | refine jT (k := ?_)))); (conv => whnf)
  refine r_ldnb (vs := vcs y) hblk1 rfl rfl ?_
  (repeat ((conv => whnf); (first | (with_reducible first | refine jA ?_ | refine jB ?_ | refine jC ?_ | refine jD ?_) | refine jE ?_ | refine jF ?_ | refine jG ?_ | refine jH ?_ | refine jI ?_ | refine jJ ?_ | refine jK ?_ | refine jL ?_ | refine jM ?_ | refine jN ?_ | refine jO ?_ | refine jP ?_ | refine jQ ?_ | refine jR ?_ | refine jS (k := ?_) | refine jT (k := ?_)))); (conv => whnf)
  refine r_cal (pNew_ok (hV.ext hx24) ex1_small ex1_wf) ?_
  rintro _ w5 ⟨hx5, ⟨-, tb, rfl, hT⟩ | ⟨hn, -⟩⟩
  rotate_left
  · exact absurd ex1_may hn
  have hT : Tab w5 tb ex1M := hT
  have hMi : ∀ m ∈ ex1M, I64 m.o := fun m hm => (ex1_wf.mw m hm).2.2
  have hx05 := hx04.trans hx5
  (repeat ((conv => whnf); (first | (with_reducible first | refine jA ?_ | refine jB ?_ | refine jC ?_ | refine jD ?_) | refine jE ?_ | refine jF ?_ | refine jG ?_ | refine jH ?_ | refine jI ?_ | refine jJ ?_ | refine jK ?_ | refine jL ?_ | refine jM ?_ | refine jN ?_ | refine jO ?_ | refine jP ?_ | refine jQ ?_ | refine jR ?_ | refine jS (k := ?_) | refine jT (k := ?_)))); (conv => whnf)
  refine r_new fun q1 u1 hq1 hqb1 hqs1 hblkq1 => ?_
  have hvq1 : View u1 (some ⟨q1, 0, none⟩) 3 3 1 (ri [97, 98, 99]) := View.of_blk hblkq1 rfl (by simp [maxLen])
  have hy1 := (Ext.refl w5).trans hq1
  (repeat ((conv => whnf); (first | (with_reducible first | refine jA ?_ | refine jB ?_ | refine jC ?_ | refine jD ?_) | refine jE ?_ | refine jF ?_ | refine jG ?_ | refine jH ?_ | refine jI ?_ | refine jJ ?_ | refine jK ?_ | refine jL ?_ | refine jM ?_ | refine jN ?_ | refine jO ?_ | refine jP ?_ | refine jQ ?_ | refine jR ?_ | refine jS (k := ?_) | refine jT (k := ?_)))); (conv => whnf)
  refine r_cal (pRun_ok (hT.ext hy1) hMi (by intro i hi; simp at hi; unfold I64; omega) hvq1 (by omega)) ?_
  rintro _ y1 ⟨hr1, a1, l1, c1, rfl, hvr1⟩
  rw [ex1_a] at hvr1
  have hyr1 := hy1.trans hr1
  (repeat ((conv => whnf); (first | (with_reducible first | refine jA ?_ | refine jB ?_ | refine jC ?_ | refine jD ?_) | refine jE ?_ | refine jF ?_ | refine jG ?_ | refine jH ?_ | refine jI ?_ | refine jJ ?_ | refine jK ?_ | refine jL ?_ | refine jM ?_ | refine jN ?_ | refine jO ?_ | refine jP ?_ | refine jQ ?_ | refine jR ?_ | refine jS (k := ?_) | refine jT (k := ?_)))); (conv => whnf)
  refine r_new fun p1 z1 hp1 hpb1 hps1 hblkp1 => ?_
  have hvp1 : View z1 (some ⟨p1, 0, none⟩) 2 2 1 (ri [256, 99]) := View.of_blk hblkp1 rfl (by simp [maxLen])
  have hyp1 := hyr1.trans hp1
  (repeat ((conv => whnf); (first | (with_reducible first | refine jA ?_ | refine jB ?_ | refine jC ?_ | refine jD ?_) | refine jE ?_ | refine jF ?_ | refine jG ?_ | refine jH ?_ | refine jI ?_ | refine jJ ?_ | refine jK ?_ | refine jL ?_ | refine jM ?_ | refine jN ?_ | refine jO ?_ | refine jP ?_ | refine jQ ?_ | refine jR ?_ | refine jS (k := ?_) | refine jT (k := ?_)))); (conv => whnf)
  refine r_cal (Same_ok (hvr1.ext hp1) hvp1) ?_
  rintro _ x1 ⟨hs1, rfl⟩
  have hys1 := hyp1.trans hs1
  (repeat ((conv => whnf); (first | (with_reducible first | refine jA ?_ | refine jB ?_ | refine jC ?_ | refine jD ?_) | refine jE ?_ | refine jF ?_ | refine jG ?_ | refine jH ?_ | refine jI ?_ | refine jJ ?_ | refine jK ?_ | refine jL ?_ | refine jM ?_ | refine jN ?_ | refine jO ?_ | refine jP ?_ | refine jQ ?_ | refine jR ?_ | refine jS (k := ?_) | refine jT (k := ?_)))); (conv => whnf)
  refine r_new fun q2 u2 hq2 hqb2 hqs2 hblkq2 => ?_
  have hvq2 : View u2 (some ⟨q2, 0, none⟩) 3 3 1 (ri [98, 99, 98]) := View.of_blk hblkq2 rfl (by simp [maxLen])
  have hy2 := hys1.trans hq2
  (repeat ((conv => whnf); (first | (with_reducible first | refine jA ?_ | refine jB ?_ | refine jC ?_ | refine jD ?_) | refine jE ?_ | refine jF ?_ | refine jG ?_ | refine jH ?_ | refine jI ?_ | refine jJ ?_ | refine jK ?_ | refine jL ?_ | refine jM ?_ | refine jN ?_ | refine jO ?_ | refine jP ?_ | refine jQ ?_ | refine jR ?_ | refine jS (k := ?_) | refine jT (k := ?_)))); (conv => whnf)
  refine r_cal (pRun_ok (hT.ext hy2) hMi (by intro i hi; simp at hi; unfold I64; omega) hvq2 (by omega)) ?_
  rintro _ y2 ⟨hr2, a2, l2, c2, rfl, hvr2⟩
  rw [ex1_b] at hvr2
  have hyr2 := hy2.trans hr2
  (repeat ((conv => whnf); (first | (with_reducible first | refine jA ?_ | refine jB ?_ | refine jC ?_ | refine jD ?_) | refine jE ?_ | refine jF ?_ | refine jG ?_ | refine jH ?_ | refine jI ?_ | refine jJ ?_ | refine jK ?_ | refine jL ?_ | refine jM ?_ | refine jN ?_ | refine jO ?_ | refine jP ?_ | refine jQ ?_ | refine jR ?_ | refine jS (k := ?_) | refine jT (k := ?_)))); (conv => whnf)
  refine r_new fun p2 z2 hp2 hpb2 hps2 hblkp2 => ?_
  have hvp2 : View z2 (some ⟨p2, 0, none⟩) 2 2 1 (ri [257, 98]) := View.of_blk hblkp2 rfl (by simp [maxLen])
  have hyp2 := hyr2.trans hp2
  (repeat ((conv => whnf); (first | (with_reducible first | refine jA ?_ | refine jB ?_ | refine jC ?_ | refine jD ?_) | refine jE ?_ | refine jF ?_ | refine jG ?_ | refine jH ?_ | refine jI ?_ | refine jJ ?_ | refine jK ?_ | refine jL ?_ | refine jM ?_ | refine jN ?_ | refine jO ?_ | refine jP ?_ | refine jQ ?_ | refine jR ?_ | refine jS (k := ?_) | refine jT (k := ?_)))); (conv => whnf)
  refine r_cal (Same_ok (hvr2.ext hp2) hvp2) ?_
  rintro _ x2 ⟨hs2, rfl⟩
  have hys2 := hyp2.trans hs2
  (repeat ((conv => whnf); (first | (with_reducible first | refine jA ?_ | refine jB ?_ | refine jC ?_ | refine jD ?_) | refine jE ?_ | refine jF ?_ | refine jG ?_ | refine jH ?_ | refine jI ?_ | refine jJ ?_ | refine jK ?_ | refine jL ?_ | refine jM ?_ | refine jN ?_ | refine jO ?_ | refine jP ?_ | refine jQ ?_ | refine jR ?_ | refine jS (k := ?_) | refine jT (k := ?_)))); (conv => whnf)
  exact ⟨hx05.trans hys2, rfl⟩
end
end Fb.Try.VO
