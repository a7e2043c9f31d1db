/-
  Walks: a coder made of a vocabulary.
-/
import Derived.Test.YtlcnldimfgbjeaaEb
import Derived.Test.YtlcnldimfgbjeaaB3
namespace Fb.Try.VO
open Go Go.Proofs Fb Fb.Bytes
section
variable {w w' : World} {v : Voc} {x : VA} {a : Option Addr} {len cap : Nat} {T : List (List UInt8)}
theorem elS : Elem Try.prog 42 9 1 16 := Elem.of (by kernel_rfl)
theorem str_own {w : World} {b base : Nat} (h : Blk w b 9 []) (hb : base ≤ b) : w.ownsRow base 9 1 (.slice (some ⟨b, 0, none⟩) 0 0) 0 [] :=
  ⟨rfl, .inr ⟨b, 0, #[], rfl, hb, h, Nat.le_refl _, by simp [maxLen], rfl, rfl⟩⟩
theorem tv_one (T : List (List UInt8)) : ∀ v ∈ tv T, v.oneCell' = true := by
  intro v hv
  simp [tv] at hv
  obtain ⟨x, _, rfl⟩ := hv
  rfl
theorem cloneS_ok (hv : View w a len cap 1 (tv T)) (hl : len ≤ 1000) : Cal Try.prog 55 ⟨[.slice a len cap]⟩ w fun u w' => Ext w w' ∧ ∃ a' len' cap', u = .slice a' len' cap' ∧ View w' a' len' cap' 1 (tv T) := by
  refine go55 (by rfl) ?_
  cases a with
  | none =>
    have h0 : T = [] := by
      cases T with
      | nil => rfl
      | cons i r =>
        have := hv.plain (by simp [tv])
        cases this
    subst h0
    (repeat ((conv => whnf); (first | (with_reducible first | refine jA ?_ | refine jB ?_ | refine jC ?_ | refine jD ?_) | refine jE ?_ | refine jF ?_ | refine jG ?_ | refine jH ?_ | refine jI ?_ | refine jJ ?_ | refine jK ?_ | refine jL ?_ | refine jM ?_ | refine jN ?_ | refine jO ?_ | refine jP ?_ | refine jQ ?_ | refine jR ?_ | refine jS (k := ?_) | refine jT (k := ?_)))); (conv => whnf)
    exact ⟨Ext.refl _, none, 0, 0, rfl, View.nil _ _⟩
  | some ad =>
    (repeat ((conv => whnf); (first | (with_reducible first | refine jA ?_ | refine jB ?_ | refine jC ?_ | refine jD ?_) | refine jE ?_ | refine jF ?_ | refine jG ?_ | refine jH ?_ | refine jI ?_ | refine jJ ?_ | refine jK ?_ | refine jL ?_ | refine jM ?_ | refine jN ?_ | refine jO ?_ | refine jP ?_ | refine jQ ?_ | refine jR ?_ | refine jS (k := ?_) | refine jT (k := ?_)))); (conv => whnf)
    refine r_new fun o w1 hx1 hb1 hs1 hblk1 => ?_
    (repeat ((conv => whnf); (first | (with_reducible first | refine jA ?_ | refine jB ?_ | refine jC ?_ | refine jD ?_) | refine jE ?_ | refine jF ?_ | refine jG ?_ | refine jH ?_ | refine jI ?_ | refine jJ ?_ | refine jK ?_ | refine jL ?_ | refine jM ?_ | refine jN ?_ | refine jO ?_ | refine jP ?_ | refine jQ ?_ | refine jR ?_ | refine jS (k := ?_) | refine jT (k := ?_)))); (conv => whnf)
    refine r_app elS (str_own hblk1 hb1) (hv.ext hx1) (tv_one _) (by omega) (by have := hx1.size; omega) fun v2 w2 hown2 hc2 _ => ?_
    obtain ⟨a2, c2, rfl, hv2, -, -⟩ := View.of_own hown2
    (repeat ((conv => whnf); (first | (with_reducible first | refine jA ?_ | refine jB ?_ | refine jC ?_ | refine jD ?_) | refine jE ?_ | refine jF ?_ | refine jG ?_ | refine jH ?_ | refine jI ?_ | refine jJ ?_ | refine jK ?_ | refine jL ?_ | refine jM ?_ | refine jN ?_ | refine jO ?_ | refine jP ?_ | refine jQ ?_ | refine jR ?_ | refine jS (k := ?_) | refine jT (k := ?_)))); (conv => whnf)
    exact ⟨Chg.own hx1 hc2 (str_own hblk1 hb1), a2, _, c2, rfl, by simpa using hv2⟩
theorem IndexT_ok (hv : View w a len cap 1 (tv T)) {s : List UInt8} (hs : ¬ s = []) : Cal Try.prog 72 ⟨[.slice a len cap, .string (bstr s)]⟩ w fun v w' => w' = w ∧ v = .int .i64 (ofT T s) := by
  have hl := tv_lens hv
  have m1 := hv.le
  have m2 := hv.max
  unfold maxLen at m2
  refine go72 (by rfl) ?_
  (repeat ((conv => whnf); (first | (with_reducible first | refine jA ?_ | refine jB ?_ | refine jC ?_ | refine jD ?_) | refine jE ?_ | refine jF ?_ | refine jG ?_ | refine jH ?_ | refine jI ?_ | refine jJ ?_ | refine jK ?_ | refine jL ?_ | refine jM ?_ | refine jN ?_ | refine jO ?_ | refine jP ?_ | refine jQ ?_ | refine jR ?_ | refine jS (k := ?_) | refine jT (k := ?_)))); (conv => whnf)
  refine r_loop (σ := Nat) (fun i => [.int .i64 (i : Int)]) (fun i w' => i ≤ len ∧ w' = w ∧ ∀ k, k < i → tk T (k : Nat) ≠ s) (fun i _ => len - i) 0 rfl ⟨by omega, rfl, fun k hk => by omega⟩ ?_
  rintro i w1 again ⟨hi, rfl, hno⟩ hagain
  by_cases hil : i < len
  · have hp := hv.plain (by rw [tv_len]; omega)
    by_cases he : tk T i = s
    · (repeat ((conv => whnf); (first | (with_reducible first | refine jA ?_ | refine jB ?_ | refine jC ?_ | refine jD ?_) | refine jE ?_ | refine jF ?_ | refine jG ?_ | refine jH ?_ | refine jI ?_ | refine jJ ?_ | refine jK ?_ | refine jL ?_ | refine jM ?_ | refine jN ?_ | refine jO ?_ | refine jP ?_ | refine jQ ?_ | refine jR ?_ | refine jS (k := ?_) | refine jT (k := ?_)))); (conv => whnf)
      refine r_ldv (j := (i : Int).toNat * 1) hv (by simpa using tv_get (i := i) (by omega)) ?_
      (repeat ((conv => whnf); (first | (with_reducible first | refine jA ?_ | refine jB ?_ | refine jC ?_ | refine jD ?_) | refine jE ?_ | refine jF ?_ | refine jG ?_ | refine jH ?_ | refine jI ?_ | refine jJ ?_ | refine jK ?_ | refine jL ?_ | refine jM ?_ | refine jN ?_ | refine jO ?_ | refine jP ?_ | refine jQ ?_ | refine jR ?_ | refine jS (k := ?_) | refine jT (k := ?_)))); (conv => whnf)
      refine r_sqt he.symm ?_
      (repeat ((conv => whnf); (first | (with_reducible first | refine jA ?_ | refine jB ?_ | refine jC ?_ | refine jD ?_) | refine jE ?_ | refine jF ?_ | refine jG ?_ | refine jH ?_ | refine jI ?_ | refine jJ ?_ | refine jK ?_ | refine jL ?_ | refine jM ?_ | refine jN ?_ | refine jO ?_ | refine jP ?_ | refine jQ ?_ | refine jR ?_ | refine jS (k := ?_) | refine jT (k := ?_)))); (conv => whnf)
      exact ⟨rfl, by rw [ofT_at hs (by omega) he hno]⟩
    · (repeat ((conv => whnf); (first | (with_reducible first | refine jA ?_ | refine jB ?_ | refine jC ?_ | refine jD ?_) | refine jE ?_ | refine jF ?_ | refine jG ?_ | refine jH ?_ | refine jI ?_ | refine jJ ?_ | refine jK ?_ | refine jL ?_ | refine jM ?_ | refine jN ?_ | refine jO ?_ | refine jP ?_ | refine jQ ?_ | refine jR ?_ | refine jS (k := ?_) | refine jT (k := ?_)))); (conv => whnf)
      refine r_ldv (j := (i : Int).toNat * 1) hv (by simpa using tv_get (i := i) (by omega)) ?_
      (repeat ((conv => whnf); (first | (with_reducible first | refine jA ?_ | refine jB ?_ | refine jC ?_ | refine jD ?_) | refine jE ?_ | refine jF ?_ | refine jG ?_ | refine jH ?_ | refine jI ?_ | refine jJ ?_ | refine jK ?_ | refine jL ?_ | refine jM ?_ | refine jN ?_ | refine jO ?_ | refine jP ?_ | refine jQ ?_ | refine jR ?_ | refine jS (k := ?_) | refine jT (k := ?_)))); (conv => whnf)
      refine r_sqf (fun e => he e.symm) ?_
      (repeat ((conv => whnf); (first | (with_reducible first | refine jA ?_ | refine jB ?_ | refine jC ?_ | refine jD ?_) | refine jE ?_ | refine jF ?_ | refine jG ?_ | refine jH ?_ | refine jI ?_ | refine jJ ?_ | refine jK ?_ | refine jL ?_ | refine jM ?_ | refine jN ?_ | refine jO ?_ | refine jP ?_ | refine jQ ?_ | refine jR ?_ | refine jS (k := ?_) | refine jT (k := ?_)))); (conv => whnf)
      refine hagain (i + 1) _ ⟨by omega, rfl, fun k hk => ?_⟩ (by omega)
      by_cases hki : k = i
      · subst hki; exact he
      · exact hno k (by omega)
  · (repeat ((conv => whnf); (first | (with_reducible first | refine jA ?_ | refine jB ?_ | refine jC ?_ | refine jD ?_) | refine jE ?_ | refine jF ?_ | refine jG ?_ | refine jH ?_ | refine jI ?_ | refine jJ ?_ | refine jK ?_ | refine jL ?_ | refine jM ?_ | refine jN ?_ | refine jO ?_ | refine jP ?_ | refine jQ ?_ | refine jR ?_ | refine jS (k := ?_) | refine jT (k := ?_)))); (conv => whnf)
    refine ⟨rfl, ?_⟩
    rw [ofT_no fun hm => ?_]
    obtain ⟨k, hk, hke⟩ := tk_mem.1 hm
    exact hno k (by omega) hke
theorem vOf_ok (h : IsV w v x) {s : List UInt8} (hs : ¬ s = []) : Cal Try.prog 56 ⟨[.agg ⟨vcs x⟩, .string (bstr s)]⟩ w fun u w' => Ext w w' ∧ u = .int .i64 (ofT v.T s) := by
  refine go56 (by rfl) ?_
  (repeat ((conv => whnf); (first | (with_reducible first | refine jA ?_ | refine jB ?_ | refine jC ?_ | refine jD ?_) | refine jE ?_ | refine jF ?_ | refine jG ?_ | refine jH ?_ | refine jI ?_ | refine jJ ?_ | refine jK ?_ | refine jL ?_ | refine jM ?_ | refine jN ?_ | refine jO ?_ | refine jP ?_ | refine jQ ?_ | refine jR ?_ | refine jS (k := ?_) | refine jT (k := ?_)))); (conv => whnf)
  refine r_new fun b w1 hx1 hb1 hs1 hblk => ?_
  have hblk : Blk w1 b 46 [.slice x.aT x.lT x.cT, .slice x.aM x.lM x.cM, .slice x.aS x.lS x.cS] := hblk
  (repeat ((conv => whnf); (first | (with_reducible first | refine jA ?_ | refine jB ?_ | refine jC ?_ | refine jD ?_) | refine jE ?_ | refine jF ?_ | refine jG ?_ | refine jH ?_ | refine jI ?_ | refine jJ ?_ | refine jK ?_ | refine jL ?_ | refine jM ?_ | refine jN ?_ | refine jO ?_ | refine jP ?_ | refine jQ ?_ | refine jR ?_ | refine jS (k := ?_) | refine jT (k := ?_)))); (conv => whnf)
  refine r_s0f hs ?_
  (repeat ((conv => whnf); (first | (with_reducible first | refine jA ?_ | refine jB ?_ | refine jC ?_ | refine jD ?_) | refine jE ?_ | refine jF ?_ | refine jG ?_ | refine jH ?_ | refine jI ?_ | refine jJ ?_ | refine jK ?_ | refine jL ?_ | refine jM ?_ | refine jN ?_ | refine jO ?_ | refine jP ?_ | refine jQ ?_ | refine jR ?_ | refine jS (k := ?_) | refine jT (k := ?_)))); (conv => whnf)
  refine r_cal (IndexT_ok (h.ext hx1).t hs) ?_
  rintro _ w2 ⟨rfl, rfl⟩
  (repeat ((conv => whnf); (first | (with_reducible first | refine jA ?_ | refine jB ?_ | refine jC ?_ | refine jD ?_) | refine jE ?_ | refine jF ?_ | refine jG ?_ | refine jH ?_ | refine jI ?_ | refine jJ ?_ | refine jK ?_ | refine jL ?_ | refine jM ?_ | refine jN ?_ | refine jO ?_ | refine jP ?_ | refine jQ ?_ | refine jR ?_ | refine jS (k := ?_) | refine jT (k := ?_)))); (conv => whnf)
  exact ⟨hx1, rfl⟩
/-- The bytes' tokens. -/
def ids (T : List (List UInt8)) : List Int := (List.range 256).map fun b : Nat => ofT T [UInt8.ofNat b]
def idsN (T : List (List UInt8)) (i : Nat) : List Int := (List.range 256).map fun b : Nat => if b < i then ofT T [UInt8.ofNat b] else 0
theorem ids_set (T : List (List UInt8)) {i : Nat} (h : i < 256) : (idsN T i).set i (ofT T [UInt8.ofNat i]) = idsN T (i + 1) := by
  apply List.ext_getElem?
  intro k
  rw [List.getElem?_set]
  unfold idsN
  simp only [List.length_map, List.length_range, List.getElem?_map]
  by_cases hk : i = k
  · subst hk
    rw [if_pos rfl, if_pos h, List.getElem?_range h]
    simp
  · rw [if_neg hk]
    by_cases h2 : k < 256
    · rw [List.getElem?_range h2]
      simp only [Option.map_some, Option.some.injEq]
      by_cases h3 : k < i
      · rw [if_pos h3, if_pos (by omega)]
      · rw [if_neg h3, if_neg (by omega)]
    · rw [List.getElem?_eq_none (by simp; omega)]
      rfl
theorem ids_all (T : List (List UInt8)) : idsN T 256 = ids T := by
  unfold idsN ids
  apply List.map_congr_left
  intro b hb
  rw [if_pos (List.mem_range.1 hb)]
theorem ids_zero (T : List (List UInt8)) : ri (idsN T 0) = List.replicate 256 (.int .i64 0) := by
  have e : idsN T 0 = List.replicate 256 0 := by
    unfold idsN
    rw [List.eq_replicate_iff]
    refine ⟨by simp, fun b hb => ?_⟩
    obtain ⟨k, _, rfl⟩ := List.mem_map.1 hb
    simp
  rw [e]
  unfold ri
  rw [List.map_replicate]
theorem ids_len (T : List (List UInt8)) (i : Nat) : (idsN T i).length = 256 := by simp [idsN]
theorem ids_get (T : List (List UInt8)) (b : UInt8) : gi (ids T) b.toNat = ofT T [b] := by
  unfold ids
  rw [gi_range _ b.toNat_lt]
  simp
theorem ids_st (a b : Value) (L : List Int) (i : Nat) (z : Int) : ([a, b] ++ ri L).set (2 + i) (.int .i64 z) = [a, b] ++ ri (L.set i z) := by
  rw [Nat.add_comm]
  simp [ri, List.map_set]
/-- Where a coder lies. -/
def Cod (w : World) (cb : Nat) (v : Voc) : Prop := ∃ tb aT lT cT, Blk w cb 104 ([.slice aT lT cT, .pointer (some ⟨tb, 0, none⟩)] ++ ri (ids v.T)) ∧ View w aT lT cT 1 (tv v.T) ∧ Tab w tb v.M
theorem Cod.ext {cb : Nat} (h : Cod w cb v) (k : Ext w w') : Cod w' cb v := by
  obtain ⟨tb, aT, lT, cT, h1, h2, h3⟩ := h
  exact ⟨tb, aT, lT, cT, h1.ext k, h2.ext k, h3.ext k⟩
set_option maxHeartbeats 1000000 in
set_option maxRecDepth 100000 in
theorem cNew_ok (h : IsV w v x) (hs : Small v) (hw : Wfv v) : Cal Try.prog 32 ⟨[.agg ⟨vcs x⟩]⟩ w fun u w' => Ext w w' ∧ ((MayP v ∧ ∃ cb, u = .tuple ⟨[.pointer (some ⟨cb, 0, none⟩), .int .i64 0]⟩ ∧ Cod w' cb v) ∨ (¬ MayP v ∧ u = .tuple ⟨[.pointer none, .int .i64 2]⟩)) := by
  obtain ⟨hlT, hlM, hlS⟩ := h.lens
  have hnt := hs.nt
  refine go32 (by rfl) ?_
  (repeat ((conv => whnf); (first | (with_reducible first | refine jA ?_ | refine jB ?_ | refine jC ?_ | refine jD ?_) | refine jE ?_ | refine jF ?_ | refine jG ?_ | refine jH ?_ | refine jI ?_ | refine jJ ?_ | refine jK ?_ | refine jL ?_ | refine jM ?_ | refine jN ?_ | refine jO ?_ | refine jP ?_ | refine jQ ?_ | refine jR ?_ | refine jS (k := ?_) | refine jT (k := ?_)))); (conv => whnf)
  refine r_new fun p w1 hx1 hb1 hs1 hblk => ?_
  have hblk : Blk w1 p 46 [.slice x.aT x.lT x.cT, .slice x.aM x.lM x.cM, .slice x.aS x.lS x.cS] := hblk
  (repeat ((conv => whnf); (first | (with_reducible first | refine jA ?_ | refine jB ?_ | refine jC ?_ | refine jD ?_) | refine jE ?_ | refine jF ?_ | refine jG ?_ | refine jH ?_ | refine jI ?_ | refine jJ ?_ | refine jK ?_ | refine jL ?_ | refine jM ?_ | refine jN ?_ | refine jO ?_ | refine jP ?_ | refine jQ ?_ | refine jR ?_ | refine jS (k := ?_) | refine jT (k := ?_)))); (conv => whnf)
  refine r_ldnb (vs := vcs x) hblk rfl rfl ?_
  (repeat ((conv => whnf); (first | (with_reducible first | refine jA ?_ | refine jB ?_ | refine jC ?_ | refine jD ?_) | refine jE ?_ | refine jF ?_ | refine jG ?_ | refine jH ?_ | refine jI ?_ | refine jJ ?_ | refine jK ?_ | refine jL ?_ | refine jM ?_ | refine jN ?_ | refine jO ?_ | refine jP ?_ | refine jQ ?_ | refine jR ?_ | refine jS (k := ?_) | refine jT (k := ?_)))); (conv => whnf)
  refine r_cal (pNew_ok (h.ext hx1) hs hw) ?_
  rintro _ w2 ⟨hx2, ⟨hmay, tb, rfl, hT⟩ | ⟨hno, rfl⟩⟩
  rotate_left
  · have hx02 := hx1.trans hx2
    (repeat ((conv => whnf); (first | (with_reducible first | refine jA ?_ | refine jB ?_ | refine jC ?_ | refine jD ?_) | refine jE ?_ | refine jF ?_ | refine jG ?_ | refine jH ?_ | refine jI ?_ | refine jJ ?_ | refine jK ?_ | refine jL ?_ | refine jM ?_ | refine jN ?_ | refine jO ?_ | refine jP ?_ | refine jQ ?_ | refine jR ?_ | refine jS (k := ?_) | refine jT (k := ?_)))); (conv => whnf)
    exact ⟨hx02, .inr ⟨hno, rfl⟩⟩
  have hx02 := hx1.trans hx2
  have hblk := hblk.ext hx2
  (repeat ((conv => whnf); (first | (with_reducible first | refine jA ?_ | refine jB ?_ | refine jC ?_ | refine jD ?_) | refine jE ?_ | refine jF ?_ | refine jG ?_ | refine jH ?_ | refine jI ?_ | refine jJ ?_ | refine jK ?_ | refine jL ?_ | refine jM ?_ | refine jN ?_ | refine jO ?_ | refine jP ?_ | refine jQ ?_ | refine jR ?_ | refine jS (k := ?_) | refine jT (k := ?_)))); (conv => whnf)
  refine r_cal (cloneS_ok (h.ext hx02).t (by omega)) ?_
  rintro _ w3 ⟨hx3, aT, lT, cT, rfl, hvT⟩
  have hx03 := hx02.trans hx3
  have hblk := hblk.ext hx3
  have hT := hT.ext hx3
  (repeat ((conv => whnf); (first | (with_reducible first | refine jA ?_ | refine jB ?_ | refine jC ?_ | refine jD ?_) | refine jE ?_ | refine jF ?_ | refine jG ?_ | refine jH ?_ | refine jI ?_ | refine jJ ?_ | refine jK ?_ | refine jL ?_ | refine jM ?_ | refine jN ?_ | refine jO ?_ | refine jP ?_ | refine jQ ?_ | refine jR ?_ | refine jS (k := ?_) | refine jT (k := ?_)))); (conv => whnf)
  refine r_new fun cb w4 hx4 hb4 hs4 hblk4 => ?_
  have hx04 := hx03.trans hx4
  have hblk := hblk.ext hx4
  have hz4 := hx03.size
  have hblk4 : Blk w4 cb 104 ([.slice aT lT cT, .pointer (some ⟨tb, 0, none⟩)] ++ ri (idsN v.T 0)) := by
    rw [ids_zero]
    exact hblk4
  (repeat ((conv => whnf); (first | (with_reducible first | refine jA ?_ | refine jB ?_ | refine jC ?_ | refine jD ?_) | refine jE ?_ | refine jF ?_ | refine jG ?_ | refine jH ?_ | refine jI ?_ | refine jJ ?_ | refine jK ?_ | refine jL ?_ | refine jM ?_ | refine jN ?_ | refine jO ?_ | refine jP ?_ | refine jQ ?_ | refine jR ?_ | refine jS (k := ?_) | refine jT (k := ?_)))); (conv => whnf)
  refine r_loop (σ := Nat) (fun i => [.int .i64 (i : Int)]) (fun i w' => i ≤ 256 ∧ Chg (· = cb) w4 w' ∧ Blk w' cb 104 ([.slice aT lT cT, .pointer (some ⟨tb, 0, none⟩)] ++ ri (idsN v.T i))) (fun i _ => 256 - i) 0 rfl ⟨by omega, Chg.refl _ _, hblk4⟩ ?_
  rintro i w5 again ⟨hi, hc5, hblk5⟩ hagain
  have hx35 : Ext w3 w5 := Chg.step hx4 hc5 fun k hk hlt => by omega
  have hpc : p ≠ cb := _root_.Fb.Blk.ne hblk hblk4 (by decide)
  have hblk := hblk.keep hc5 hpc
  have hx05 : Ext w w5 := Chg.step hx04 hc5 fun k hk hlt => by omega
  by_cases hil : i < 256
  rotate_left
  · have : i = 256 := by omega
    subst this
    rw [ids_all] at hblk5
    (repeat ((conv => whnf); (first | (with_reducible first | refine jA ?_ | refine jB ?_ | refine jC ?_ | refine jD ?_) | refine jE ?_ | refine jF ?_ | refine jG ?_ | refine jH ?_ | refine jI ?_ | refine jJ ?_ | refine jK ?_ | refine jL ?_ | refine jM ?_ | refine jN ?_ | refine jO ?_ | refine jP ?_ | refine jQ ?_ | refine jR ?_ | refine jS (k := ?_) | refine jT (k := ?_)))); (conv => whnf)
    exact ⟨hx05, .inl ⟨hmay, cb, rfl, tb, aT, lT, cT, hblk5, hvT.ext hx35, hT.ext hx35⟩⟩
  (repeat ((conv => whnf); (first | (with_reducible first | refine jA ?_ | refine jB ?_ | refine jC ?_ | refine jD ?_) | refine jE ?_ | refine jF ?_ | refine jG ?_ | refine jH ?_ | refine jI ?_ | refine jJ ?_ | refine jK ?_ | refine jL ?_ | refine jM ?_ | refine jN ?_ | refine jO ?_ | refine jP ?_ | refine jQ ?_ | refine jR ?_ | refine jS (k := ?_) | refine jT (k := ?_)))); (conv => whnf)
  refine r_drawE fun w6 hx6 hh6 => ?_
  have hx06 := hx05.trans hx6
  (repeat ((conv => whnf); (first | refine r_ldnbE (vs := vcs x) hblk rfl rfl ?_ | (with_reducible first | refine jA ?_ | refine jB ?_ | refine jC ?_ | refine jD ?_) | refine jE ?_ | refine jF ?_ | refine jG ?_ | refine jH ?_ | refine jI ?_ | refine jJ ?_ | refine jK ?_ | refine jL ?_ | refine jM ?_ | refine jN ?_ | refine jO ?_ | refine jP ?_ | refine jQ ?_ | refine jR ?_ | refine jS (k := ?_) | refine jT (k := ?_)))); (conv => whnf)
  refine r_new fun b7 w7 hx7 hb7 hs7 hblk7 => ?_
  have hblk7 : Blk w7 b7 5 [.int .u8 (i : Int)] := hblk7
  rw [← byte_cells i hil] at hblk7
  have hx57 := hx6.trans hx7
  refine r_held hx57 ?_
  (repeat ((conv => whnf); (first | (with_reducible first | refine jA ?_ | refine jB ?_ | refine jC ?_ | refine jD ?_) | refine jE ?_ | refine jF ?_ | refine jG ?_ | refine jH ?_ | refine jI ?_ | refine jJ ?_ | refine jK ?_ | refine jL ?_ | refine jM ?_ | refine jN ?_ | refine jO ?_ | refine jP ?_ | refine jQ ?_ | refine jR ?_ | refine jS (k := ?_) | refine jT (k := ?_)))); (conv => whnf)
  refine r_conv (View.of_blk (n := 1) hblk7 (by rfl) (by simp [maxLen])) ?_
  refine r_held hx57 ?_
  (repeat ((conv => whnf); (first | (with_reducible first | refine jA ?_ | refine jB ?_ | refine jC ?_ | refine jD ?_) | refine jE ?_ | refine jF ?_ | refine jG ?_ | refine jH ?_ | refine jI ?_ | refine jJ ?_ | refine jK ?_ | refine jL ?_ | refine jM ?_ | refine jN ?_ | refine jO ?_ | refine jP ?_ | refine jQ ?_ | refine jR ?_ | refine jS (k := ?_) | refine jT (k := ?_)))); (conv => whnf)
  refine r_cal (vOf_ok (h.ext (hx05.trans hx57)) (s := [UInt8.ofNat i]) (by simp)) ?_
  rintro _ w8 ⟨hx8, rfl⟩
  have hx58 := hx57.trans hx8
  (repeat ((conv => whnf); (first | (with_reducible first | refine jA ?_ | refine jB ?_ | refine jC ?_ | refine jD ?_) | refine jE ?_ | refine jF ?_ | refine jG ?_ | refine jH ?_ | refine jI ?_ | refine jJ ?_ | refine jK ?_ | refine jL ?_ | refine jM ?_ | refine jN ?_ | refine jO ?_ | refine jP ?_ | refine jQ ?_ | refine jR ?_ | refine jS (k := ?_) | refine jT (k := ?_)))); (conv => whnf)
  refine r_st (hblk5.ext hx58) (by simp [ri_len, ids_len]; omega) rfl fun w9 hc9 hs9 hblk9 => ?_
  rw [show 0 + 2 + (i : Int).toNat * 1 = 2 + i by omega, ids_st, ids_set _ hil] at hblk9
  (repeat ((conv => whnf); (first | (with_reducible first | refine jA ?_ | refine jB ?_ | refine jC ?_ | refine jD ?_) | refine jE ?_ | refine jF ?_ | refine jG ?_ | refine jH ?_ | refine jI ?_ | refine jJ ?_ | refine jK ?_ | refine jL ?_ | refine jM ?_ | refine jN ?_ | refine jO ?_ | refine jP ?_ | refine jQ ?_ | refine jR ?_ | refine jS (k := ?_) | refine jT (k := ?_)))); (conv => whnf)
  exact hagain (i + 1) w9 ⟨by omega, Chg.step (hc5.ext hx58) hc9 fun b hb _ => hb, hblk9⟩ (by omega)
end
end Fb.Try.VO
