/-
  Walks: the document's vocabularies by rank.
-/
import Derived.Test.YtnofndhlhbbhdaaPn
namespace Fb.Try.VO
open Go Go.Proofs Fb Fb.Bytes
/-! ### The plain law -/
def frS (T : List (List UInt8)) (i : Nat) (s : List UInt8) (k : Nat) (M : List Mg) : List Mg := if 0 ≤ ofT T (s.take k) ∧ 0 ≤ ofT T (s.drop k) then putM M ⟨ofT T (s.take k), ofT T (s.drop k), i, i⟩ else M
/-- The merges that make a token, cut at the first places. -/
def frI (T : List (List UInt8)) (i : Nat) (s : List UInt8) (M : List Mg) : Nat → List Mg
  | 0 => M
  | k + 1 => frS T i s (k + 1) (frI T i s M k)
def frO (T : List (List UInt8)) : Nat → List Mg
  | 0 => []
  | i + 1 => frI T i (tk T i) (frO T i) ((tk T i).length - 1)
theorem frS_len (T : List (List UInt8)) (i : Nat) (s : List UInt8) (k : Nat) (M : List Mg) : (frS T i s k M).length ≤ M.length + 1 := by
  unfold frS
  split
  · rw [putM_len]; omega
  · omega
theorem frI_len (T : List (List UInt8)) (i : Nat) (s : List UInt8) (M : List Mg) : ∀ k, (frI T i s M k).length ≤ M.length + k
  | 0 => Nat.le_refl _
  | k + 1 => by
    have h1 := frI_len T i s M k
    have h2 := frS_len T i s (k + 1) (frI T i s M k)
    unfold frI
    omega
theorem frO_len {T : List (List UInt8)} (h : ∀ s ∈ T, s.length ≤ 80) : ∀ i, (frO T i).length ≤ 80 * i
  | 0 => Nat.le_refl _
  | i + 1 => by
    have h1 := frO_len h i
    have h2 := frI_len T i (tk T i) (frO T i) ((tk T i).length - 1)
    have h3 := tk_len h i
    unfold frO
    omega
/-- A row that is unlike a block's cells lies elsewhere. -/
theorem View.off {w : World} {a : Option Addr} {len cap size b : Nat} {e : TypeId} {L cs : List Value} (h : View w a len cap size L) (hb : Blk w b e cs) (hne : ∀ u ∈ cs, ∀ v, L[0]? = some v → u ≠ v) (hp : 0 < L.length) : ¬ blk a = b := by
  intro e0
  have h0 : L[0]? = some L[0] := List.getElem?_eq_getElem hp
  have h1 := h.cell 0 _ h0
  rw [e0, hb.cell] at h1
  exact hne _ (List.mem_of_getElem? h1) _ h0 rfl
theorem tv_0 {T : List (List UInt8)} {v : Value} (h : (tv T)[0]? = some v) : ∃ s, v = .string s := by
  cases T with
  | nil => simp [tv] at h
  | cons s T => exact ⟨bstr s, by simp [tv] at h; exact h.symm⟩
theorem mv_0 {M : List Mg} {v : Value} (h : (mv M)[0]? = some v) : ∃ i, v = .int .i64 i := by
  cases M with
  | nil => simp [mv] at h
  | cons m M => exact ⟨m.l, by simp [mv, Mg.cells] at h; exact h.symm⟩
section
variable {w w' : World} {a aS : Option Addr} {len cap cS : Nat} {R : List Sp}
set_option maxHeartbeats 1000000 in
set_option maxRecDepth 100000 in
theorem rows_ok (hv : View w a len cap 2 (sv R)) (hl : R.length ≤ 400) (hid : ∀ i, i < R.length → (gs R i).id = (i : Int)) (hn : ∀ s ∈ names R, s.length ≤ 80) (hT : TokOk (names R)) (hS : (frO (names R) R.length).length ≤ 300) (hM : MayP ⟨names R, frO (names R) R.length, []⟩) : Cal Try.prog 71 ⟨[.slice a len cap, .slice aS 0 cS]⟩ w fun u w' => Ext w w' ∧ ∃ x, u = .tuple ⟨[.agg ⟨vcs x⟩, .bool true]⟩ ∧ IsV w' ⟨names R, frO (names R) R.length, []⟩ x := by
  have hrl := sv_lens hv
  refine go71 (by rfl) ?_
  (repeat ((conv => whnf); (first | (with_reducible first | refine jA ?_ | refine jB ?_ | refine jC ?_ | refine jD ?_) | refine jE ?_ | refine jF ?_ | refine jG ?_ | refine jH ?_ | refine jI ?_ | refine jJ ?_ | refine jK ?_ | refine jL ?_ | refine jM ?_ | refine jN ?_ | refine jO ?_ | refine jP ?_ | refine jQ ?_ | refine jR ?_ | refine jS (k := ?_) | refine jT (k := ?_)))); (conv => whnf)
  refine r_new fun b4 w1 hx1 hb1 hs1 hblk4 => ?_
  (repeat ((conv => whnf); (first | (with_reducible first | refine jA ?_ | refine jB ?_ | refine jC ?_ | refine jD ?_) | refine jE ?_ | refine jF ?_ | refine jG ?_ | refine jH ?_ | refine jI ?_ | refine jJ ?_ | refine jK ?_ | refine jL ?_ | refine jM ?_ | refine jN ?_ | refine jO ?_ | refine jP ?_ | refine jQ ?_ | refine jR ?_ | refine jS (k := ?_) | refine jT (k := ?_)))); (conv => whnf)
  refine r_cal (base_ok (aS := aS) (cS := cS) (hv.ext hx1) hl hid hn) ?_
  rintro _ w2 ⟨hx2, b, x, rfl, hV, hb⟩
  have hb : b = true := hb.2 hT
  subst hb
  have hx02 := hx1.trans hx2
  have hblk4 := hblk4.ext hx2
  have hz2 := hx02.size
  obtain ⟨hlT, hlM, hlS⟩ := hV.lens
  have hlT : (names R).length = x.lT := hlT
  rw [names_len] at hlT
  (repeat ((conv => whnf); (first | (with_reducible first | refine jA ?_ | refine jB ?_ | refine jC ?_ | refine jD ?_) | refine jE ?_ | refine jF ?_ | refine jG ?_ | refine jH ?_ | refine jI ?_ | refine jJ ?_ | refine jK ?_ | refine jL ?_ | refine jM ?_ | refine jN ?_ | refine jO ?_ | refine jP ?_ | refine jQ ?_ | refine jR ?_ | refine jS (k := ?_) | refine jT (k := ?_)))); (conv => whnf)
  refine r_new fun b6 w3 hx3 hb3 hs3 hblk6 => ?_
  have h46 : ¬ b4 = b6 := by have := hblk4.lt; omega
  have hz1 := hx1.size
  (repeat ((conv => whnf); (first | (with_reducible first | refine jA ?_ | refine jB ?_ | refine jC ?_ | refine jD ?_) | refine jE ?_ | refine jF ?_ | refine jG ?_ | refine jH ?_ | refine jI ?_ | refine jJ ?_ | refine jK ?_ | refine jL ?_ | refine jM ?_ | refine jN ?_ | refine jO ?_ | refine jP ?_ | refine jQ ?_ | refine jR ?_ | refine jS (k := ?_) | refine jT (k := ?_)))); (conv => whnf)
  refine r_stn hblk6 (by simp [vcs]) (by simp [vcs, Value.oneCell']) fun w4 hc4 hs4 hblk6 => ?_
  have hblk6 : Blk w4 b6 50 (vcs x) := hblk6
  have hx24 : Ext w2 w4 := Chg.step hx3 hc4 fun k hk hlt => by omega
  have hx04 := hx02.trans hx24
  have hV4 := hV.ext hx24
  (repeat ((conv => whnf); (first | (with_reducible first | refine jA ?_ | refine jB ?_ | refine jC ?_ | refine jD ?_) | refine jE ?_ | refine jF ?_ | refine jG ?_ | refine jH ?_ | refine jI ?_ | refine jJ ?_ | refine jK ?_ | refine jL ?_ | refine jM ?_ | refine jN ?_ | refine jO ?_ | refine jP ?_ | refine jQ ?_ | refine jR ?_ | refine jS (k := ?_) | refine jT (k := ?_)))); (conv => whnf)
  refine r_loop (σ := Nat) (fun i => [.int .i64 (i : Int)]) (fun i w' => i ≤ R.length ∧ Ext w2 w' ∧ ∃ aM lM cM, Blk w' b6 50 [.slice x.aT x.lT x.cT, .slice aM lM cM, .slice x.aS x.lS x.cS] ∧ View w' aM lM cM 4 (mv (frO (names R) i))) (fun i _ => R.length - i) 0 rfl ⟨by omega, hx24, x.aM, x.lM, x.cM, hblk6, hV4.m⟩ ?_
  clear hblk6
  rintro i w5 again1 ⟨hi, hx5, aM, lM, cM, hblk6, hvM⟩ hagain1
  have hx05 := hx02.trans hx5
  have hV5 := hV.ext hx5
  have hb6lt := hblk6.lt
  by_cases hil : i < R.length
  rotate_left
  · have : i = R.length := by omega
    subst this
    have hVf : IsV w5 ⟨names R, frO (names R) R.length, []⟩ ⟨x.aT, x.lT, x.cT, aM, lM, cM, x.aS, x.lS, x.cS⟩ := ⟨hV5.t, hvM, hV5.s⟩
    (repeat ((conv => whnf); (first | (with_reducible first | refine jA ?_ | refine jB ?_ | refine jC ?_ | refine jD ?_) | refine jE ?_ | refine jF ?_ | refine jG ?_ | refine jH ?_ | refine jI ?_ | refine jJ ?_ | refine jK ?_ | refine jL ?_ | refine jM ?_ | refine jN ?_ | refine jO ?_ | refine jP ?_ | refine jQ ?_ | refine jR ?_ | refine jS (k := ?_) | refine jT (k := ?_)))); (conv => whnf)
    refine r_ldnb (vs := vcs ⟨x.aT, x.lT, x.cT, aM, lM, cM, x.aS, x.lS, x.cS⟩) hblk6 rfl rfl ?_
    (repeat ((conv => whnf); (first | (with_reducible first | refine jA ?_ | refine jB ?_ | refine jC ?_ | refine jD ?_) | refine jE ?_ | refine jF ?_ | refine jG ?_ | refine jH ?_ | refine jI ?_ | refine jJ ?_ | refine jK ?_ | refine jL ?_ | refine jM ?_ | refine jN ?_ | refine jO ?_ | refine jP ?_ | refine jQ ?_ | refine jR ?_ | refine jS (k := ?_) | refine jT (k := ?_)))); (conv => whnf)
    refine r_cal (rMay_ok hVf ⟨by rw [names_len]; omega, hS, by simp, hn, by simp⟩) ?_
    rintro _ w6 ⟨hx6, b, rfl, hb⟩
    have hb : b = true := hb.2 hM
    subst hb
    (repeat ((conv => whnf); (first | (with_reducible first | refine jA ?_ | refine jB ?_ | refine jC ?_ | refine jD ?_) | refine jE ?_ | refine jF ?_ | refine jG ?_ | refine jH ?_ | refine jI ?_ | refine jJ ?_ | refine jK ?_ | refine jL ?_ | refine jM ?_ | refine jN ?_ | refine jO ?_ | refine jP ?_ | refine jQ ?_ | refine jR ?_ | refine jS (k := ?_) | refine jT (k := ?_)))); (conv => whnf)
    refine r_ldnb (vs := vcs ⟨x.aT, x.lT, x.cT, aM, lM, cM, x.aS, x.lS, x.cS⟩) (hblk6.ext hx6) rfl rfl ?_
    (repeat ((conv => whnf); (first | (with_reducible first | refine jA ?_ | refine jB ?_ | refine jC ?_ | refine jD ?_) | refine jE ?_ | refine jF ?_ | refine jG ?_ | refine jH ?_ | refine jI ?_ | refine jJ ?_ | refine jK ?_ | refine jL ?_ | refine jM ?_ | refine jN ?_ | refine jO ?_ | refine jP ?_ | refine jQ ?_ | refine jR ?_ | refine jS (k := ?_) | refine jT (k := ?_)))); (conv => whnf)
    refine r_stn ((hblk4.ext hx5).ext hx6) (by simp [vcs]) (by simp [vcs, Value.oneCell']) fun w7 hc7 hs7 hblk7 => ?_
    have hblk7 : Blk w7 b4 50 (vcs ⟨x.aT, x.lT, x.cT, aM, lM, cM, x.aS, x.lS, x.cS⟩) := hblk7
    have hx06 := hx05.trans hx6
    have hx07 : Ext w w7 := Chg.step hx06 hc7 fun k hk hlt => by omega
    have hblk46 := (hblk4.ext hx5).ext hx6
    have hVf6 := hVf.ext hx6
    have oT := View.off hVf6.t hblk46 (fun u hu v hv => by
      obtain ⟨s, rfl⟩ := tv_0 hv
      simp at hu
      subst hu
      intro hh
      cases hh)
    have oM := View.off hVf6.m hblk46 (fun u hu v hv => by
      obtain ⟨s, rfl⟩ := mv_0 hv
      simp at hu
      subst hu
      intro hh
      cases hh)
    have hVf7 : IsV w7 ⟨names R, frO (names R) R.length, []⟩ ⟨x.aT, x.lT, x.cT, aM, lM, cM, x.aS, x.lS, x.cS⟩ := ⟨hVf6.t.keepN hc7 oT, hVf6.m.keepN hc7 oM, hVf6.s.keepN hc7 fun hp => absurd hp (by simp [sv])⟩
    (repeat ((conv => whnf); (first | (with_reducible first | refine jA ?_ | refine jB ?_ | refine jC ?_ | refine jD ?_) | refine jE ?_ | refine jF ?_ | refine jG ?_ | refine jH ?_ | refine jI ?_ | refine jJ ?_ | refine jK ?_ | refine jL ?_ | refine jM ?_ | refine jN ?_ | refine jO ?_ | refine jP ?_ | refine jQ ?_ | refine jR ?_ | refine jS (k := ?_) | refine jT (k := ?_)))); (conv => whnf)
    refine r_ldnb (vs := vcs ⟨x.aT, x.lT, x.cT, aM, lM, cM, x.aS, x.lS, x.cS⟩) hblk7 rfl rfl ?_
    (repeat ((conv => whnf); (first | (with_reducible first | refine jA ?_ | refine jB ?_ | refine jC ?_ | refine jD ?_) | refine jE ?_ | refine jF ?_ | refine jG ?_ | refine jH ?_ | refine jI ?_ | refine jJ ?_ | refine jK ?_ | refine jL ?_ | refine jM ?_ | refine jN ?_ | refine jO ?_ | refine jP ?_ | refine jQ ?_ | refine jR ?_ | refine jS (k := ?_) | refine jT (k := ?_)))); (conv => whnf)
    exact ⟨hx07, ⟨x.aT, x.lT, x.cT, aM, lM, cM, x.aS, x.lS, x.cS⟩, rfl, hVf7⟩
  have hg := tv_get (T := names R) (i := i) (by rw [names_len]; omega)
  have hg' : (tv (names R))[(i : Int).toNat * 1]? = some (.string (bstr (tk (names R) i))) := by simpa using hg
  have hp := hV5.t.plain (by rw [tv_len]; show 0 < (names R).length; rw [names_len]; omega)
  have h80 := tk_len hn (i : Int)
  have hsz := bstr_size (tk (names R) i)
  have hfo := frO_len hn i
  have hst : frO (names R) (i + 1) = frI (names R) i (tk (names R) i) (frO (names R) i) ((tk (names R) i).length - 1) := rfl
  (repeat ((conv => whnf); (first | (with_reducible first | refine jA ?_ | refine jB ?_ | refine jC ?_ | refine jD ?_) | refine jE ?_ | refine jF ?_ | refine jG ?_ | refine jH ?_ | refine jI ?_ | refine jJ ?_ | refine jK ?_ | refine jL ?_ | refine jM ?_ | refine jN ?_ | refine jO ?_ | refine jP ?_ | refine jQ ?_ | refine jR ?_ | refine jS (k := ?_) | refine jT (k := ?_)))); (conv => whnf)
  refine r_ldv hV5.t hg' ?_
  (repeat ((conv => whnf); (first | (with_reducible first | refine jA ?_ | refine jB ?_ | refine jC ?_ | refine jD ?_) | refine jE ?_ | refine jF ?_ | refine jG ?_ | refine jH ?_ | refine jI ?_ | refine jJ ?_ | refine jK ?_ | refine jL ?_ | refine jM ?_ | refine jN ?_ | refine jO ?_ | refine jP ?_ | refine jQ ?_ | refine jR ?_ | refine jS (k := ?_) | refine jT (k := ?_)))); (conv => whnf)
  generalize tk (names R) i = s at *
  refine r_loop (σ := Nat) (fun k => [.int .i64 ((k + 1 : Nat) : Int)]) (fun k w' => k ≤ s.length - 1 ∧ Ext w2 w' ∧ ∃ aM lM cM, Blk w' b6 50 [.slice x.aT x.lT x.cT, .slice aM lM cM, .slice x.aS x.lS x.cS] ∧ View w' aM lM cM 4 (mv (frI (names R) i s (frO (names R) i) k))) (fun k _ => s.length - 1 - k) 0 rfl ⟨by omega, hx5, aM, lM, cM, hblk6, hvM⟩ ?_
  clear hblk6 hvM
  rintro k w6 again2 ⟨hk, hx6, aM, lM, cM, hblk6, hvM⟩ hagain2
  have hV6 := hV.ext hx6
  have hfi := frI_len (names R) i s (frO (names R) i) k
  by_cases hkl : k + 1 < s.length
  rotate_left
  · have : k = s.length - 1 := by omega
    subst this
    (repeat ((conv => whnf); (first | (with_reducible first | refine jA ?_ | refine jB ?_ | refine jC ?_ | refine jD ?_) | refine jE ?_ | refine jF ?_ | refine jG ?_ | refine jH ?_ | refine jI ?_ | refine jJ ?_ | refine jK ?_ | refine jL ?_ | refine jM ?_ | refine jN ?_ | refine jO ?_ | refine jP ?_ | refine jQ ?_ | refine jR ?_ | refine jS (k := ?_) | refine jT (k := ?_)))); (conv => whnf)
    exact hagain1 (i + 1) w6 ⟨by omega, hx6, aM, lM, cM, hblk6, by rw [hst]; exact hvM⟩ (by omega)
  (repeat ((conv => whnf); (first | (with_reducible first | refine jA ?_ | refine jB ?_ | refine jC ?_ | refine jD ?_) | refine jE ?_ | refine jF ?_ | refine jG ?_ | refine jH ?_ | refine jI ?_ | refine jJ ?_ | refine jK ?_ | refine jL ?_ | refine jM ?_ | refine jN ?_ | refine jO ?_ | refine jP ?_ | refine jQ ?_ | refine jR ?_ | refine jS (k := ?_) | refine jT (k := ?_)))); (conv => whnf)
  refine r_drawE fun w7 hx7 hh7 => ?_
  (repeat ((conv => whnf); (first | refine r_ldbE hblk6 rfl ?_ | (with_reducible first | refine jA ?_ | refine jB ?_ | refine jC ?_ | refine jD ?_) | refine jE ?_ | refine jF ?_ | refine jG ?_ | refine jH ?_ | refine jI ?_ | refine jJ ?_ | refine jK ?_ | refine jL ?_ | refine jM ?_ | refine jN ?_ | refine jO ?_ | refine jP ?_ | refine jQ ?_ | refine jR ?_ | refine jS (k := ?_) | refine jT (k := ?_)))); (conv => whnf)
  rw [Int.toNat_natCast, bstr_cut, List.drop_zero, Nat.sub_zero]
  refine r_cal (Of_ok (hV6.ext hx7).t (s.take (k + 1))) ?_
  rintro _ w8 ⟨rfl, rfl⟩
  (repeat ((conv => whnf); (first | (with_reducible first | refine jA ?_ | refine jB ?_ | refine jC ?_ | refine jD ?_) | refine jE ?_ | refine jF ?_ | refine jG ?_ | refine jH ?_ | refine jI ?_ | refine jJ ?_ | refine jK ?_ | refine jL ?_ | refine jM ?_ | refine jN ?_ | refine jO ?_ | refine jP ?_ | refine jQ ?_ | refine jR ?_ | refine jS (k := ?_) | refine jT (k := ?_)))); (conv => whnf)
  try refine r_held hx7 ?_
  (repeat ((conv => whnf); (first | (with_reducible first | refine jA ?_ | refine jB ?_ | refine jC ?_ | refine jD ?_) | refine jE ?_ | refine jF ?_ | refine jG ?_ | refine jH ?_ | refine jI ?_ | refine jJ ?_ | refine jK ?_ | refine jL ?_ | refine jM ?_ | refine jN ?_ | refine jO ?_ | refine jP ?_ | refine jQ ?_ | refine jR ?_ | refine jS (k := ?_) | refine jT (k := ?_)))); (conv => whnf)
  refine r_drawE fun w9 hx9 hh9 => ?_
  have hx79 := hx7.trans hx9
  (repeat ((conv => whnf); (first | refine r_ldbE (hblk6.ext hx7) rfl ?_ | (with_reducible first | refine jA ?_ | refine jB ?_ | refine jC ?_ | refine jD ?_) | refine jE ?_ | refine jF ?_ | refine jG ?_ | refine jH ?_ | refine jI ?_ | refine jJ ?_ | refine jK ?_ | refine jL ?_ | refine jM ?_ | refine jN ?_ | refine jO ?_ | refine jP ?_ | refine jQ ?_ | refine jR ?_ | refine jS (k := ?_) | refine jT (k := ?_)))); (conv => whnf)
  have hcd : List.take (s.length - (k + 1)) (List.drop (k + 1) s) = s.drop (k + 1) := List.take_of_length_le (by simp)
  rw [Int.toNat_natCast, bstr_cut, bstr_size, hcd]
  refine r_cal (Of_ok (hV6.ext hx79).t (s.drop (k + 1))) ?_
  rintro _ w10 ⟨rfl, rfl⟩
  have hst2 : frI (names R) i s (frO (names R) i) (k + 1) = frS (names R) i s (k + 1) (frI (names R) i s (frO (names R) i) k) := rfl
  have hblk10 := hblk6.ext hx79
  have hvM10 := hvM.ext hx79
  have hx10 := hx6.trans hx79
  have hag := hagain2 (k + 1)
  rw [hst2] at hag
  unfold frS at hag
  have noput : ¬ (0 ≤ ofT (names R) (s.take (k + 1)) ∧ 0 ≤ ofT (names R) (s.drop (k + 1))) → again2 [.int .i64 ((k + 1 + 1 : Nat) : Int)] w10 := fun hn => hag w10 ⟨by omega, hx10, aM, lM, cM, hblk10, by rw [if_neg hn]; exact hvM10⟩ (by omega)
  dsimp only
  by_cases ca : 0 ≤ ofT (names R) (s.take (k + 1))
  rotate_left
  · (repeat ((conv => whnf); (first | (with_reducible first | refine jA ?_ | refine jB ?_ | refine jC ?_ | refine jD ?_) | refine jE ?_ | refine jF ?_ | refine jG ?_ | refine jH ?_ | refine jI ?_ | refine jJ ?_ | refine jK ?_ | refine jL ?_ | refine jM ?_ | refine jN ?_ | refine jO ?_ | refine jP ?_ | refine jQ ?_ | refine jR ?_ | refine jS (k := ?_) | refine jT (k := ?_)))); (conv => whnf)
    exact noput fun h => ca h.1
  by_cases cb : 0 ≤ ofT (names R) (s.drop (k + 1))
  rotate_left
  · (repeat ((conv => whnf); (first | (with_reducible first | refine jA ?_ | refine jB ?_ | refine jC ?_ | refine jD ?_) | refine jE ?_ | refine jF ?_ | refine jG ?_ | refine jH ?_ | refine jI ?_ | refine jJ ?_ | refine jK ?_ | refine jL ?_ | refine jM ?_ | refine jN ?_ | refine jO ?_ | refine jP ?_ | refine jQ ?_ | refine jR ?_ | refine jS (k := ?_) | refine jT (k := ?_)))); (conv => whnf)
    exact noput fun h => cb h.2
  rw [if_pos ⟨ca, cb⟩] at hag
  (repeat ((conv => whnf); (first | (with_reducible first | refine jA ?_ | refine jB ?_ | refine jC ?_ | refine jD ?_) | refine jE ?_ | refine jF ?_ | refine jG ?_ | refine jH ?_ | refine jI ?_ | refine jJ ?_ | refine jK ?_ | refine jL ?_ | refine jM ?_ | refine jN ?_ | refine jO ?_ | refine jP ?_ | refine jQ ?_ | refine jR ?_ | refine jS (k := ?_) | refine jT (k := ?_)))); (conv => whnf)
  refine r_cal (put_ok hvM10 ⟨ofT (names R) (s.take (k + 1)), ofT (names R) (s.drop (k + 1)), i, i⟩ (by have := mv_lens hvM10; omega)) ?_
  rintro _ w11 ⟨hx11, a2, l2, c2, rfl, hv2⟩
  (repeat ((conv => whnf); (first | (with_reducible first | refine jA ?_ | refine jB ?_ | refine jC ?_ | refine jD ?_) | refine jE ?_ | refine jF ?_ | refine jG ?_ | refine jH ?_ | refine jI ?_ | refine jJ ?_ | refine jK ?_ | refine jL ?_ | refine jM ?_ | refine jN ?_ | refine jO ?_ | refine jP ?_ | refine jQ ?_ | refine jR ?_ | refine jS (k := ?_) | refine jT (k := ?_)))); (conv => whnf)
  refine r_st (hblk10.ext hx11) (by simp) (by rfl) fun w12 hc12 hs12 hblk12 => ?_
  have hblk12 : Blk w12 b6 50 [.slice x.aT x.lT x.cT, .slice a2 l2 c2, .slice x.aS x.lS x.cS] := hblk12
  have hv12 := hv2.keepN hc12 (View.off hv2 (hblk10.ext hx11) fun u hu v hv => by
    obtain ⟨s, rfl⟩ := mv_0 hv
    simp at hu
    rcases hu with rfl | rfl | rfl <;> (intro hh; cases hh))
  (repeat ((conv => whnf); (first | (with_reducible first | refine jA ?_ | refine jB ?_ | refine jC ?_ | refine jD ?_) | refine jE ?_ | refine jF ?_ | refine jG ?_ | refine jH ?_ | refine jI ?_ | refine jJ ?_ | refine jK ?_ | refine jL ?_ | refine jM ?_ | refine jN ?_ | refine jO ?_ | refine jP ?_ | refine jQ ?_ | refine jR ?_ | refine jS (k := ?_) | refine jT (k := ?_)))); (conv => whnf)
  exact hag w12 ⟨by omega, Chg.step (hx10.trans hx11) hc12 fun k hk hlt => by omega, a2, l2, c2, hblk12, hv12⟩ (by omega)
end
end Fb.Try.VO
