/-
  Walks: the law EncodeCuts.
-/
import Derived.Test.YtlcnldimfgbjeaaEf
import Derived.Test.YtlcnldimfgbjeaaEq
namespace Fb.Try.VO
open Go Go.Proofs Fb Fb.Bytes
theorem View.hi1 {w : World} {a : Option Addr} {len cap : Nat} {L : List Value} (h : View w a len cap 1 L) (k : Nat) (hk : k ≤ len) : View w a k cap 1 (L.take k) := by
  have hl := h.length
  refine ⟨by rw [List.length_take]; omega, by have := h.le; omega, h.max, fun hp => h.plain (by rw [List.length_take] at hp; omega), fun i u hu => h.cell i u ?_⟩
  rw [List.getElem?_take] at hu
  split at hu
  · exact hu
  · cases hu
theorem View.lo1 {w : World} {a : Option Addr} {len cap : Nat} {L : List Value} (h : View w a len cap 1 L) (k : Nat) (hk : k ≤ len) : View w (slcA a cap k 1) (len - k) (cap - k) 1 (L.drop k) := by
  have hl := h.length
  have := h.sub k len hk (Nat.le_refl _)
  have e : (L.drop (k * 1)).take ((len - k) * 1) = L.drop k := by
    rw [Nat.mul_one, Nat.mul_one, List.take_of_length_le (by simp; omega)]
  rw [e] at this
  exact this
theorem bvs_take (s : List UInt8) (k : Nat) : (bvs s).take k = bvs (s.take k) := by simp [bvs, List.map_take]
theorem bvs_drop (s : List UInt8) (k : Nat) : (bvs s).drop k = bvs (s.drop k) := by simp [bvs, List.map_drop]
theorem gi_mem {L : List Int} {i : Nat} (h : i < L.length) : gi L i ∈ L := List.mem_of_getElem? (gi_get h)
section
variable {w w' : World} {v : Voc} {x : VA} {a : Option Addr} {len cap cb : Nat} {s : List UInt8}
set_option maxHeartbeats 2000000 in
set_option maxRecDepth 100000 in
theorem ecuts_ok (h : IsV w v x) (hw : Wfv v) (hv : View w a len cap 1 (bvs s)) {n : Int} (hn : 0 ≤ n ∧ n ≤ 255) : Cal Try.prog 7 ⟨[.agg ⟨vcs x⟩, .slice a len cap, .int .u8 n]⟩ w fun u w' => u = .bool true ∧ Ext w w' := by
  obtain ⟨hlT, hlM, hlS⟩ := h.lens
  have hsl := bv_lens hv
  refine go7 (by rfl) ?_
  (repeat ((conv => whnf); (first | (with_reducible first | refine jA ?_ | refine jB ?_ | refine jC ?_ | refine jD ?_) | refine jE ?_ | refine jF ?_ | refine jG ?_ | refine jH ?_ | refine jI ?_ | refine jJ ?_ | refine jK ?_ | refine jL ?_ | refine jM ?_ | refine jN ?_ | refine jO ?_ | refine jP ?_ | refine jQ ?_ | refine jR ?_ | refine jS (k := ?_) | refine jT (k := ?_)))); (conv => whnf)
  refine r_new fun p w1 hx1 hb1 hs1 hblk => ?_
  have hblk : Blk w1 p 46 [.slice x.aT x.lT x.cT, .slice x.aM x.lM x.cM, .slice x.aS x.lS x.cS] := hblk
  (repeat ((conv => whnf); (first | (with_reducible first | refine jA ?_ | refine jB ?_ | refine jC ?_ | refine jD ?_) | refine jE ?_ | refine jF ?_ | refine jG ?_ | refine jH ?_ | refine jI ?_ | refine jJ ?_ | refine jK ?_ | refine jL ?_ | refine jM ?_ | refine jN ?_ | refine jO ?_ | refine jP ?_ | refine jQ ?_ | refine jR ?_ | refine jS (k := ?_) | refine jT (k := ?_)))); (conv => whnf)
  refine r_ldnb (vs := vcs x) hblk rfl rfl ?_
  (repeat ((conv => whnf); (first | (with_reducible first | refine jA ?_ | refine jB ?_ | refine jC ?_ | refine jD ?_) | refine jE ?_ | refine jF ?_ | refine jG ?_ | refine jH ?_ | refine jI ?_ | refine jJ ?_ | refine jK ?_ | refine jL ?_ | refine jM ?_ | refine jN ?_ | refine jO ?_ | refine jP ?_ | refine jQ ?_ | refine jR ?_ | refine jS (k := ?_) | refine jT (k := ?_)))); (conv => whnf)
  refine r_cal (Great_ok (h.ext hx1)) ?_
  rintro _ w2 ⟨hx2, b, rfl, hb⟩
  have hx02 := hx1.trans hx2
  cases b with
  | true =>
    (repeat ((conv => whnf); (first | (with_reducible first | refine jA ?_ | refine jB ?_ | refine jC ?_ | refine jD ?_) | refine jE ?_ | refine jF ?_ | refine jG ?_ | refine jH ?_ | refine jI ?_ | refine jJ ?_ | refine jK ?_ | refine jL ?_ | refine jM ?_ | refine jN ?_ | refine jO ?_ | refine jP ?_ | refine jQ ?_ | refine jR ?_ | refine jS (k := ?_) | refine jT (k := ?_)))); (conv => whnf)
    refine r_cal (efixed_ok _) ?_
    rintro _ w9 ⟨hx9, rfl⟩
    (repeat ((conv => whnf); (first | (with_reducible first | refine jA ?_ | refine jB ?_ | refine jC ?_ | refine jD ?_) | refine jE ?_ | refine jF ?_ | refine jG ?_ | refine jH ?_ | refine jI ?_ | refine jJ ?_ | refine jK ?_ | refine jL ?_ | refine jM ?_ | refine jN ?_ | refine jO ?_ | refine jP ?_ | refine jQ ?_ | refine jR ?_ | refine jS (k := ?_) | refine jT (k := ?_)))); (conv => whnf)
    exact ⟨rfl, hx02.trans hx9⟩
  | false =>
  have hs := hb rfl
  have hblk := hblk.ext hx2
  by_cases c1 : 200 < len
  · (repeat ((conv => whnf); (first | (with_reducible first | refine jA ?_ | refine jB ?_ | refine jC ?_ | refine jD ?_) | refine jE ?_ | refine jF ?_ | refine jG ?_ | refine jH ?_ | refine jI ?_ | refine jJ ?_ | refine jK ?_ | refine jL ?_ | refine jM ?_ | refine jN ?_ | refine jO ?_ | refine jP ?_ | refine jQ ?_ | refine jR ?_ | refine jS (k := ?_) | refine jT (k := ?_)))); (conv => whnf)
    refine r_cal (efixed_ok _) ?_
    rintro _ w9 ⟨hx9, rfl⟩
    (repeat ((conv => whnf); (first | (with_reducible first | refine jA ?_ | refine jB ?_ | refine jC ?_ | refine jD ?_) | refine jE ?_ | refine jF ?_ | refine jG ?_ | refine jH ?_ | refine jI ?_ | refine jJ ?_ | refine jK ?_ | refine jL ?_ | refine jM ?_ | refine jN ?_ | refine jO ?_ | refine jP ?_ | refine jQ ?_ | refine jR ?_ | refine jS (k := ?_) | refine jT (k := ?_)))); (conv => whnf)
    exact ⟨rfl, hx02.trans hx9⟩
  (repeat ((conv => whnf); (first | (with_reducible first | refine jA ?_ | refine jB ?_ | refine jC ?_ | refine jD ?_) | refine jE ?_ | refine jF ?_ | refine jG ?_ | refine jH ?_ | refine jI ?_ | refine jJ ?_ | refine jK ?_ | refine jL ?_ | refine jM ?_ | refine jN ?_ | refine jO ?_ | refine jP ?_ | refine jQ ?_ | refine jR ?_ | refine jS (k := ?_) | refine jT (k := ?_)))); (conv => whnf)
  refine r_ldnb (vs := vcs x) hblk rfl rfl ?_
  (repeat ((conv => whnf); (first | (with_reducible first | refine jA ?_ | refine jB ?_ | refine jC ?_ | refine jD ?_) | refine jE ?_ | refine jF ?_ | refine jG ?_ | refine jH ?_ | refine jI ?_ | refine jJ ?_ | refine jK ?_ | refine jL ?_ | refine jM ?_ | refine jN ?_ | refine jO ?_ | refine jP ?_ | refine jQ ?_ | refine jR ?_ | refine jS (k := ?_) | refine jT (k := ?_)))); (conv => whnf)
  refine r_cal (rMay_ok (h.ext hx02) hs) ?_
  rintro _ w3 ⟨hx3, b, rfl, hmay⟩
  have hx03 := hx02.trans hx3
  have hblk := hblk.ext hx3
  cases b with
  | false =>
    (repeat ((conv => whnf); (first | (with_reducible first | refine jA ?_ | refine jB ?_ | refine jC ?_ | refine jD ?_) | refine jE ?_ | refine jF ?_ | refine jG ?_ | refine jH ?_ | refine jI ?_ | refine jJ ?_ | refine jK ?_ | refine jL ?_ | refine jM ?_ | refine jN ?_ | refine jO ?_ | refine jP ?_ | refine jQ ?_ | refine jR ?_ | refine jS (k := ?_) | refine jT (k := ?_)))); (conv => whnf)
    refine r_cal (efixed_ok _) ?_
    rintro _ w9 ⟨hx9, rfl⟩
    (repeat ((conv => whnf); (first | (with_reducible first | refine jA ?_ | refine jB ?_ | refine jC ?_ | refine jD ?_) | refine jE ?_ | refine jF ?_ | refine jG ?_ | refine jH ?_ | refine jI ?_ | refine jJ ?_ | refine jK ?_ | refine jL ?_ | refine jM ?_ | refine jN ?_ | refine jO ?_ | refine jP ?_ | refine jQ ?_ | refine jR ?_ | refine jS (k := ?_) | refine jT (k := ?_)))); (conv => whnf)
    exact ⟨rfl, hx03.trans hx9⟩
  | true =>
  have hmay := hmay.1 rfl
  have hM : ∀ m ∈ v.M, I64 m.o := fun m hm => (hw.mw m hm).2.2
  have hnt : v.T.length ≤ 4096 := by have := hs.nt; omega
  (repeat ((conv => whnf); (first | (with_reducible first | refine jA ?_ | refine jB ?_ | refine jC ?_ | refine jD ?_) | refine jE ?_ | refine jF ?_ | refine jG ?_ | refine jH ?_ | refine jI ?_ | refine jJ ?_ | refine jK ?_ | refine jL ?_ | refine jM ?_ | refine jN ?_ | refine jO ?_ | refine jP ?_ | refine jQ ?_ | refine jR ?_ | refine jS (k := ?_) | refine jT (k := ?_)))); (conv => whnf)
  refine r_ldnb (vs := vcs x) hblk rfl rfl ?_
  (repeat ((conv => whnf); (first | (with_reducible first | refine jA ?_ | refine jB ?_ | refine jC ?_ | refine jD ?_) | refine jE ?_ | refine jF ?_ | refine jG ?_ | refine jH ?_ | refine jI ?_ | refine jJ ?_ | refine jK ?_ | refine jL ?_ | refine jM ?_ | refine jN ?_ | refine jO ?_ | refine jP ?_ | refine jQ ?_ | refine jR ?_ | refine jS (k := ?_) | refine jT (k := ?_)))); (conv => whnf)
  refine r_cal (cNew_ok (h.ext hx03) hs hw) ?_
  rintro _ w4 ⟨hx4, ⟨-, cb, rfl, hC⟩ | ⟨hn, -⟩⟩
  rotate_left
  · exact absurd hmay hn
  have hx04 := hx03.trans hx4
  have hblk := hblk.ext hx4
  (repeat ((conv => whnf); (first | (with_reducible first | refine jA ?_ | refine jB ?_ | refine jC ?_ | refine jD ?_) | refine jE ?_ | refine jF ?_ | refine jG ?_ | refine jH ?_ | refine jI ?_ | refine jJ ?_ | refine jK ?_ | refine jL ?_ | refine jM ?_ | refine jN ?_ | refine jO ?_ | refine jP ?_ | refine jQ ?_ | refine jR ?_ | refine jS (k := ?_) | refine jT (k := ?_)))); (conv => whnf)
  refine r_cal (Enc_ok hC hM hnt (hv.ext hx04) (by omega)) ?_
  rintro _ w5 ⟨hx5, a5, l5, c5, rfl, hv5⟩
  have hx05 := hx04.trans hx5
  have hblk := hblk.ext hx5
  have hC := hC.ext hx5
  have hl5 := ri_lens hv5
  have hrl := run_len v.M _ (own1 v.T s) (Nat.le_refl _)
  rw [own1_len] at hrl
  have hself : ∀ z ∈ run v.M (own1 v.T s), IsT v.T z ∧ run v.M (own1 v.T (tk v.T z)) = [z] := fun z hz => enc_self hmay hz
  have hcut : ∀ k, s = txt v.T ((run v.M (own1 v.T s)).take k) ++ txt v.T ((run v.M (own1 v.T s)).drop k) ∧ run v.M (own1 v.T (txt v.T ((run v.M (own1 v.T s)).take k))) = (run v.M (own1 v.T s)).take k ∧ run v.M (own1 v.T (txt v.T ((run v.M (own1 v.T s)).drop k))) = (run v.M (own1 v.T s)).drop k := fun k => enc_cut hmay (List.take_append_drop k _).symm
  generalize run v.M (own1 v.T s) = L at hv5 hl5 hrl hself hcut
  have m5 := hv5.le
  have mb := hv.le
  have hk0 := Int.emod_nonneg n (show ((l5 : Int) + 1) ≠ 0 by omega)
  have hk1 := Int.emod_lt_of_pos n (show (0 : Int) < (l5 : Int) + 1 by omega)
  (repeat ((conv => whnf); (first | (with_reducible first | refine jA ?_ | refine jB ?_ | refine jC ?_ | refine jD ?_) | refine jE ?_ | refine jF ?_ | refine jG ?_ | refine jH ?_ | refine jI ?_ | refine jJ ?_ | refine jK ?_ | refine jL ?_ | refine jM ?_ | refine jN ?_ | refine jO ?_ | refine jP ?_ | refine jQ ?_ | refine jR ?_ | refine jS (k := ?_) | refine jT (k := ?_)))); (conv => whnf)
  generalize n % ((l5 : Int) + 1) = z at hk0 hk1 ⊢
  obtain ⟨k, rfl⟩ : ∃ k : Nat, z = (k : Int) := ⟨z.toNat, by omega⟩
  have hk : k ≤ l5 := by omega
  obtain ⟨hs1, hr1, hr2⟩ := hcut k
  have hall : AllT v.T (L.take k) := fun z hz => (hself z (List.mem_of_mem_take hz)).1
  have hF : (txt v.T (L.take k)).length ≤ len := by
    have := congrArg List.length hs1
    rw [List.length_append] at this
    omega
  have hF1 : s.take (txt v.T (L.take k)).length = txt v.T (L.take k) := by
    conv => lhs; rw [hs1]
    rw [List.take_left']
    rfl
  have hF2 : s.drop (txt v.T (L.take k)).length = txt v.T (L.drop k) := by
    conv => lhs; rw [hs1]
    rw [List.drop_left']
    rfl
  generalize hFe : txt v.T (L.take k) = F at *
  have hFs := bstr_size F
  have hvk := View.hi hv5 k hk
  refine r_drawE fun w6 hx6 hh6 => ?_
  (repeat ((conv => whnf); (first | refine r_ldnbE (vs := vcs x) hblk rfl rfl ?_ | (with_reducible first | refine jA ?_ | refine jB ?_ | refine jC ?_ | refine jD ?_) | refine jE ?_ | refine jF ?_ | refine jG ?_ | refine jH ?_ | refine jI ?_ | refine jJ ?_ | refine jK ?_ | refine jL ?_ | refine jM ?_ | refine jN ?_ | refine jO ?_ | refine jP ?_ | refine jQ ?_ | refine jR ?_ | refine jS (k := ?_) | refine jT (k := ?_)))); (conv => whnf)
  rw [Int.toNat_natCast]
  refine r_cal (Text_ok (h.ext (hx05.trans hx6)) hs (hvk.ext hx6) (by omega)) ?_
  rintro _ w7 ⟨hx7, ⟨-, rfl⟩ | ⟨hno, -⟩⟩
  rotate_left
  · exact absurd hall hno
  rw [hFe]
  have hx57 := hx6.trans hx7
  have hx07 := hx05.trans hx57
  have hvF := View.hi1 hv F.length hF
  rw [bvs_take, hF1] at hvF
  have hvG := View.lo1 hv F.length hF
  rw [bvs_drop, hF2] at hvG
  have hvl := View.lo hv5 k hk
  (repeat ((conv => whnf); (first | (with_reducible first | refine jA ?_ | refine jB ?_ | refine jC ?_ | refine jD ?_) | refine jE ?_ | refine jF ?_ | refine jG ?_ | refine jH ?_ | refine jI ?_ | refine jJ ?_ | refine jK ?_ | refine jL ?_ | refine jM ?_ | refine jN ?_ | refine jO ?_ | refine jP ?_ | refine jQ ?_ | refine jR ?_ | refine jS (k := ?_) | refine jT (k := ?_)))); (conv => whnf)
  refine r_drawE fun w8 hx8 hh8 => ?_
  have hx58 := hx57.trans hx8
  have hx08 := hx05.trans hx58
  (repeat ((conv => whnf); (first | (with_reducible first | refine jA ?_ | refine jB ?_ | refine jC ?_ | refine jD ?_) | refine jE ?_ | refine jF ?_ | refine jG ?_ | refine jH ?_ | refine jI ?_ | refine jJ ?_ | refine jK ?_ | refine jL ?_ | refine jM ?_ | refine jN ?_ | refine jO ?_ | refine jP ?_ | refine jQ ?_ | refine jR ?_ | refine jS (k := ?_) | refine jT (k := ?_)))); (conv => whnf)
  rw [Int.toNat_natCast, Int.toNat_natCast, hFs]
  refine r_cal (Enc_ok (hC.ext hx58) hM hnt (hvF.ext hx08) (by omega)) ?_
  rintro _ w9 ⟨hx9, a9, l9, c9, rfl, hv9⟩
  rw [hr1] at hv9
  have hx59 := hx58.trans hx9
  (repeat ((conv => whnf); (first | (with_reducible first | refine jA ?_ | refine jB ?_ | refine jC ?_ | refine jD ?_) | refine jE ?_ | refine jF ?_ | refine jG ?_ | refine jH ?_ | refine jI ?_ | refine jJ ?_ | refine jK ?_ | refine jL ?_ | refine jM ?_ | refine jN ?_ | refine jO ?_ | refine jP ?_ | refine jQ ?_ | refine jR ?_ | refine jS (k := ?_) | refine jT (k := ?_)))); (conv => whnf)
  refine r_cal (Same_ok hv9 (hvk.ext hx59)) ?_
  rintro _ w10 ⟨hx10, rfl⟩
  have hx510 := hx59.trans hx10
  (repeat ((conv => whnf); (first | (with_reducible first | refine jA ?_ | refine jB ?_ | refine jC ?_ | refine jD ?_) | refine jE ?_ | refine jF ?_ | refine jG ?_ | refine jH ?_ | refine jI ?_ | refine jJ ?_ | refine jK ?_ | refine jL ?_ | refine jM ?_ | refine jN ?_ | refine jO ?_ | refine jP ?_ | refine jQ ?_ | refine jR ?_ | refine jS (k := ?_) | refine jT (k := ?_)))); (conv => whnf)
  rw [Int.toNat_natCast, hFs]
  refine r_cal (Enc_ok (hC.ext hx510) hM hnt (hvG.ext (hx05.trans hx510)) (by omega)) ?_
  rintro _ w11 ⟨hx11, a11, l11, c11, rfl, hv11⟩
  rw [hr2] at hv11
  have hx511 := hx510.trans hx11
  (repeat ((conv => whnf); (first | (with_reducible first | refine jA ?_ | refine jB ?_ | refine jC ?_ | refine jD ?_) | refine jE ?_ | refine jF ?_ | refine jG ?_ | refine jH ?_ | refine jI ?_ | refine jJ ?_ | refine jK ?_ | refine jL ?_ | refine jM ?_ | refine jN ?_ | refine jO ?_ | refine jP ?_ | refine jQ ?_ | refine jR ?_ | refine jS (k := ?_) | refine jT (k := ?_)))); (conv => whnf)
  rw [Int.toNat_natCast]
  refine r_cal (Same_ok hv11 (hvl.ext hx511)) ?_
  rintro _ w12 ⟨hx12, rfl⟩
  have hx512 := hx511.trans hx12
  have hblk := hblk.ext hx512
  have n5 := hv5.max
  unfold maxLen at n5
  (repeat ((conv => whnf); (first | (with_reducible first | refine jA ?_ | refine jB ?_ | refine jC ?_ | refine jD ?_) | refine jE ?_ | refine jF ?_ | refine jG ?_ | refine jH ?_ | refine jI ?_ | refine jJ ?_ | refine jK ?_ | refine jL ?_ | refine jM ?_ | refine jN ?_ | refine jO ?_ | refine jP ?_ | refine jQ ?_ | refine jR ?_ | refine jS (k := ?_) | refine jT (k := ?_)))); (conv => whnf)
  refine r_loop (σ := Nat) (fun i => [.int .i64 (i : Int)]) (fun i w' => i ≤ l5 ∧ Ext w12 w') (fun i _ => l5 - i) 0 rfl ⟨by omega, Ext.refl _⟩ ?_
  rintro i w13 again ⟨hi, hx13⟩ hagain
  have hx513 := hx512.trans hx13
  by_cases hil : i < l5
  rotate_left
  · (repeat ((conv => whnf); (first | (with_reducible first | refine jA ?_ | refine jB ?_ | refine jC ?_ | refine jD ?_) | refine jE ?_ | refine jF ?_ | refine jG ?_ | refine jH ?_ | refine jI ?_ | refine jJ ?_ | refine jK ?_ | refine jL ?_ | refine jM ?_ | refine jN ?_ | refine jO ?_ | refine jP ?_ | refine jQ ?_ | refine jR ?_ | refine jS (k := ?_) | refine jT (k := ?_)))); (conv => whnf)
    refine r_cal (efixed_ok _) ?_
    rintro _ w9 ⟨hx9, rfl⟩
    (repeat ((conv => whnf); (first | (with_reducible first | refine jA ?_ | refine jB ?_ | refine jC ?_ | refine jD ?_) | refine jE ?_ | refine jF ?_ | refine jG ?_ | refine jH ?_ | refine jI ?_ | refine jJ ?_ | refine jK ?_ | refine jL ?_ | refine jM ?_ | refine jN ?_ | refine jO ?_ | refine jP ?_ | refine jQ ?_ | refine jR ?_ | refine jS (k := ?_) | refine jT (k := ?_)))); (conv => whnf)
    exact ⟨rfl, hx05.trans (hx513.trans hx9)⟩
  have hblk := hblk.ext hx13
  obtain ⟨⟨t1, t2, t3⟩, hzs⟩ := hself _ (gi_mem (by omega : i < L.length))
  have hg5 : (ri L)[(i : Int).toNat * 1]? = some (.int .i64 (gi L i)) := by simpa using ri_get (row := L) (i := i) (by omega)
  have hp5 := hv5.plain (by rw [ri_len]; omega)
  have hgt := tv_getI (T := v.T) t1 t2
  have hpt := h.t.plain (by rw [tv_len]; omega)
  have hzl := tk_len hs.tl (gi L i)
  (repeat ((conv => whnf); (first | refine r_ldv (hv5.ext hx513) hg5 ?_ | refine r_ldv (h.ext (hx05.trans hx513)).t hgt ?_ | (with_reducible first | refine jA ?_ | refine jB ?_ | refine jC ?_ | refine jD ?_) | refine jE ?_ | refine jF ?_ | refine jG ?_ | refine jH ?_ | refine jI ?_ | refine jJ ?_ | refine jK ?_ | refine jL ?_ | refine jM ?_ | refine jN ?_ | refine jO ?_ | refine jP ?_ | refine jQ ?_ | refine jR ?_ | refine jS (k := ?_) | refine jT (k := ?_)))); (conv => whnf)
  refine r_bytesOf ustr usl8 uu8 (by simp [maxLen]; omega) fun a14 c14 w14 hx14 hv14 => ?_
  have hx514 := hx513.trans hx14
  (repeat ((conv => whnf); (first | (with_reducible first | refine jA ?_ | refine jB ?_ | refine jC ?_ | refine jD ?_) | refine jE ?_ | refine jF ?_ | refine jG ?_ | refine jH ?_ | refine jI ?_ | refine jJ ?_ | refine jK ?_ | refine jL ?_ | refine jM ?_ | refine jN ?_ | refine jO ?_ | refine jP ?_ | refine jQ ?_ | refine jR ?_ | refine jS (k := ?_) | refine jT (k := ?_)))); (conv => whnf)
  refine r_cal (Enc_ok (hC.ext hx514) hM hnt hv14 (by omega)) ?_
  rintro _ w15 ⟨hx15, a15, l15, c15, rfl, hv15⟩
  rw [hzs] at hv15
  (repeat ((conv => whnf); (first | (with_reducible first | refine jA ?_ | refine jB ?_ | refine jC ?_ | refine jD ?_) | refine jE ?_ | refine jF ?_ | refine jG ?_ | refine jH ?_ | refine jI ?_ | refine jJ ?_ | refine jK ?_ | refine jL ?_ | refine jM ?_ | refine jN ?_ | refine jO ?_ | refine jP ?_ | refine jQ ?_ | refine jR ?_ | refine jS (k := ?_) | refine jT (k := ?_)))); (conv => whnf)
  refine r_new fun b16 w16 hx16 hb16 hs16 hblk16 => ?_
  (repeat ((conv => whnf); (first | (with_reducible first | refine jA ?_ | refine jB ?_ | refine jC ?_ | refine jD ?_) | refine jE ?_ | refine jF ?_ | refine jG ?_ | refine jH ?_ | refine jI ?_ | refine jJ ?_ | refine jK ?_ | refine jL ?_ | refine jM ?_ | refine jN ?_ | refine jO ?_ | refine jP ?_ | refine jQ ?_ | refine jR ?_ | refine jS (k := ?_) | refine jT (k := ?_)))); (conv => whnf)
  refine r_cal (Same_ok (L := [gi L i]) (hv15.ext hx16) (View.of_blk (n := 1) hblk16 rfl (by simp [maxLen]))) ?_
  rintro _ w17 ⟨hx17, rfl⟩
  (repeat ((conv => whnf); (first | (with_reducible first | refine jA ?_ | refine jB ?_ | refine jC ?_ | refine jD ?_) | refine jE ?_ | refine jF ?_ | refine jG ?_ | refine jH ?_ | refine jI ?_ | refine jJ ?_ | refine jK ?_ | refine jL ?_ | refine jM ?_ | refine jN ?_ | refine jO ?_ | refine jP ?_ | refine jQ ?_ | refine jR ?_ | refine jS (k := ?_) | refine jT (k := ?_)))); (conv => whnf)
  exact hagain (i + 1) w17 ⟨by omega, hx13.trans (hx14.trans (hx15.trans (hx16.trans hx17)))⟩ (by omega)
end
end Fb.Try.VO
