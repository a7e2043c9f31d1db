/-
  Walks: the law EncodeSame.
-/
import Derived.Test.YtlcnldimfgbjeaaEh
import Derived.Test.YtlcnldimfgbjeaaEr
import Derived.Test.YtlcnldimfgbjeaaPn
namespace Fb.Try.VO
open Go Go.Proofs Fb Fb.Bytes
theorem rep_tv (k : Nat) : (List.replicate k [Value.string ⟨#[]⟩]).flatten = tv (List.replicate k []) := by
  induction k with
  | zero => rfl
  | succ k ih =>
    rw [List.replicate_succ, List.flatten_cons, ih, List.replicate_succ]
    rfl
theorem own_full {w : World} {b e n base : Nat} {cs : List Value} (h : Blk w b e cs) (hl : cs.length = n) (hb : base ≤ b) (hm : n ≤ maxLen) : w.ownsRow base e 1 (.slice (some ⟨b, 0, none⟩) n n) n cs := by
  refine ⟨by omega, .inr ⟨b, n, ⟨cs⟩, rfl, hb, h, Nat.le_refl _, hm, by simp; omega, ?_⟩⟩
  dsimp only
  rw [List.take_of_length_le (by omega)]
theorem own_apart {w : World} {base e e' size size' n n' : Nat} {u v : Value} {xs ys : List Value} (h : w.ownsRow base e size u n xs) (h' : w.ownsRow base e' size' v n' ys) (he : e ≠ e') : ∀ b, u.ownBlock = some b → ¬ v.ownBlock = some b := by
  intro b hb hc
  rcases h'.2 with ⟨rfl, _⟩ | ⟨g, cap, cur, rfl, _, hg, _⟩
  · cases hc
  · have hc : some g = some b := hc
    cases hc
    exact own_ne h (cs := cur.toList) (by unfold Blk; exact hg) he hb
theorem mv_take_succ {M : List Mg} {i : Nat} (h : i < M.length) : mv (M.take (i + 1)) = mv (M.take i) ++ (gm M i).cells := by
  have h1 := gm_get h
  rw [List.getElem?_eq_getElem h] at h1
  rw [List.take_succ_eq_append_getElem h, mv_app, Option.some.inj h1]
  simp [mv]
section
variable {w w' : World} {v : Voc} {x : VA} {a : Option Addr} {len cap cb : Nat} {s : List UInt8}
set_option maxHeartbeats 2000000 in
set_option maxRecDepth 100000 in
theorem esame_ok (h : IsV w v x) (hw : Wfv v) (hv : View w a len cap 1 (bvs s)) {n : Int} (hn : 0 ≤ n ∧ n ≤ 255) : Cal Try.prog 9 ⟨[.agg ⟨vcs x⟩, .slice a len cap, .int .u8 n]⟩ w fun u w' => u = .bool true ∧ Ext w w' := by
  obtain ⟨hlT, hlM, hlS⟩ := h.lens
  have hsl := bv_lens hv
  refine go9 (by rfl) ?_
  (repeat ((conv => whnf); (first | (with_reducible first | refine jA ?_ | refine jB ?_ | refine jC ?_ | refine jD ?_) | refine jE ?_ | refine jF ?_ | refine jG ?_ | refine jH ?_ | refine jI ?_ | refine jJ ?_ | refine jK ?_ | refine jL ?_ | refine jM ?_ | refine jN ?_ | refine jO ?_ | refine jP ?_ | refine jQ ?_ | refine jR ?_ | refine jS (k := ?_) | refine jT (k := ?_)))); (conv => whnf)
  refine r_new fun p w1 hx1 hb1 hs1 hblk => ?_
  have hblk : Blk w1 p 46 [.slice x.aT x.lT x.cT, .slice x.aM x.lM x.cM, .slice x.aS x.lS x.cS] := hblk
  (repeat ((conv => whnf); (first | (with_reducible first | refine jA ?_ | refine jB ?_ | refine jC ?_ | refine jD ?_) | refine jE ?_ | refine jF ?_ | refine jG ?_ | refine jH ?_ | refine jI ?_ | refine jJ ?_ | refine jK ?_ | refine jL ?_ | refine jM ?_ | refine jN ?_ | refine jO ?_ | refine jP ?_ | refine jQ ?_ | refine jR ?_ | refine jS (k := ?_) | refine jT (k := ?_)))); (conv => whnf)
  refine r_ldnb (vs := vcs x) hblk rfl rfl ?_
  (repeat ((conv => whnf); (first | (with_reducible first | refine jA ?_ | refine jB ?_ | refine jC ?_ | refine jD ?_) | refine jE ?_ | refine jF ?_ | refine jG ?_ | refine jH ?_ | refine jI ?_ | refine jJ ?_ | refine jK ?_ | refine jL ?_ | refine jM ?_ | refine jN ?_ | refine jO ?_ | refine jP ?_ | refine jQ ?_ | refine jR ?_ | refine jS (k := ?_) | refine jT (k := ?_)))); (conv => whnf)
  refine r_cal (Great4_ok (h.ext hx1)) ?_
  rintro _ w2 ⟨hx2, b, rfl, hb⟩
  have hx02 := hx1.trans hx2
  cases b with
  | true =>
    (repeat ((conv => whnf); (first | (with_reducible first | refine jA ?_ | refine jB ?_ | refine jC ?_ | refine jD ?_) | refine jE ?_ | refine jF ?_ | refine jG ?_ | refine jH ?_ | refine jI ?_ | refine jJ ?_ | refine jK ?_ | refine jL ?_ | refine jM ?_ | refine jN ?_ | refine jO ?_ | refine jP ?_ | refine jQ ?_ | refine jR ?_ | refine jS (k := ?_) | refine jT (k := ?_)))); (conv => whnf)
    refine r_cal (efixed_ok _) ?_
    rintro _ w9 ⟨hx9, rfl⟩
    (repeat ((conv => whnf); (first | (with_reducible first | refine jA ?_ | refine jB ?_ | refine jC ?_ | refine jD ?_) | refine jE ?_ | refine jF ?_ | refine jG ?_ | refine jH ?_ | refine jI ?_ | refine jJ ?_ | refine jK ?_ | refine jL ?_ | refine jM ?_ | refine jN ?_ | refine jO ?_ | refine jP ?_ | refine jQ ?_ | refine jR ?_ | refine jS (k := ?_) | refine jT (k := ?_)))); (conv => whnf)
    exact ⟨rfl, hx02.trans hx9⟩
  | false =>
  obtain ⟨hs, hs4⟩ := hb rfl
  have hblk := hblk.ext hx2
  by_cases c1 : 100 < len
  · (repeat ((conv => whnf); (first | (with_reducible first | refine jA ?_ | refine jB ?_ | refine jC ?_ | refine jD ?_) | refine jE ?_ | refine jF ?_ | refine jG ?_ | refine jH ?_ | refine jI ?_ | refine jJ ?_ | refine jK ?_ | refine jL ?_ | refine jM ?_ | refine jN ?_ | refine jO ?_ | refine jP ?_ | refine jQ ?_ | refine jR ?_ | refine jS (k := ?_) | refine jT (k := ?_)))); (conv => whnf)
    refine r_cal (efixed_ok _) ?_
    rintro _ w9 ⟨hx9, rfl⟩
    (repeat ((conv => whnf); (first | (with_reducible first | refine jA ?_ | refine jB ?_ | refine jC ?_ | refine jD ?_) | refine jE ?_ | refine jF ?_ | refine jG ?_ | refine jH ?_ | refine jI ?_ | refine jJ ?_ | refine jK ?_ | refine jL ?_ | refine jM ?_ | refine jN ?_ | refine jO ?_ | refine jP ?_ | refine jQ ?_ | refine jR ?_ | refine jS (k := ?_) | refine jT (k := ?_)))); (conv => whnf)
    exact ⟨rfl, hx02.trans hx9⟩
  (repeat ((conv => whnf); (first | (with_reducible first | refine jA ?_ | refine jB ?_ | refine jC ?_ | refine jD ?_) | refine jE ?_ | refine jF ?_ | refine jG ?_ | refine jH ?_ | refine jI ?_ | refine jJ ?_ | refine jK ?_ | refine jL ?_ | refine jM ?_ | refine jN ?_ | refine jO ?_ | refine jP ?_ | refine jQ ?_ | refine jR ?_ | refine jS (k := ?_) | refine jT (k := ?_)))); (conv => whnf)
  refine r_ldnb (vs := vcs x) hblk rfl rfl ?_
  (repeat ((conv => whnf); (first | (with_reducible first | refine jA ?_ | refine jB ?_ | refine jC ?_ | refine jD ?_) | refine jE ?_ | refine jF ?_ | refine jG ?_ | refine jH ?_ | refine jI ?_ | refine jJ ?_ | refine jK ?_ | refine jL ?_ | refine jM ?_ | refine jN ?_ | refine jO ?_ | refine jP ?_ | refine jQ ?_ | refine jR ?_ | refine jS (k := ?_) | refine jT (k := ?_)))); (conv => whnf)
  refine r_cal (rMay_ok (h.ext hx02) hs) ?_
  rintro _ w3 ⟨hx3, b, rfl, hmay⟩
  have hx03 := hx02.trans hx3
  have hblk := hblk.ext hx3
  cases b with
  | false =>
    (repeat ((conv => whnf); (first | (with_reducible first | refine jA ?_ | refine jB ?_ | refine jC ?_ | refine jD ?_) | refine jE ?_ | refine jF ?_ | refine jG ?_ | refine jH ?_ | refine jI ?_ | refine jJ ?_ | refine jK ?_ | refine jL ?_ | refine jM ?_ | refine jN ?_ | refine jO ?_ | refine jP ?_ | refine jQ ?_ | refine jR ?_ | refine jS (k := ?_) | refine jT (k := ?_)))); (conv => whnf)
    refine r_cal (efixed_ok _) ?_
    rintro _ w9 ⟨hx9, rfl⟩
    (repeat ((conv => whnf); (first | (with_reducible first | refine jA ?_ | refine jB ?_ | refine jC ?_ | refine jD ?_) | refine jE ?_ | refine jF ?_ | refine jG ?_ | refine jH ?_ | refine jI ?_ | refine jJ ?_ | refine jK ?_ | refine jL ?_ | refine jM ?_ | refine jN ?_ | refine jO ?_ | refine jP ?_ | refine jQ ?_ | refine jR ?_ | refine jS (k := ?_) | refine jT (k := ?_)))); (conv => whnf)
    exact ⟨rfl, hx03.trans hx9⟩
  | true =>
  have hmay := hmay.1 rfl
  have hM : ∀ m ∈ v.M, I64 m.o := fun m hm => (hw.mw m hm).2.2
  have hnt : v.T.length ≤ 4096 := by have := hs.nt; omega
  obtain ⟨k, hk⟩ : ∃ k : Nat, n % 100 = (k : Int) := ⟨(n % 100).toNat, by omega⟩
  have hk2 : k < 100 := by omega
  have z3 := hx03.size
  have hp3 := hblk.lt
  have hnm := hs.nm
  (repeat ((conv => whnf); (first | (with_reducible first | refine jA ?_ | refine jB ?_ | refine jC ?_ | refine jD ?_) | refine jE ?_ | refine jF ?_ | refine jG ?_ | refine jH ?_ | refine jI ?_ | refine jJ ?_ | refine jK ?_ | refine jL ?_ | refine jM ?_ | refine jN ?_ | refine jO ?_ | refine jP ?_ | refine jQ ?_ | refine jR ?_ | refine jS (k := ?_) | refine jT (k := ?_)))); (conv => whnf)
  rw [hk]
  refine r_make mks (by omega) fun b4 w4 hx4 hb4 hs4 hblk4 => ?_
  rw [Int.toNat_natCast, rep_tv] at hblk4
  rw [Int.toNat_natCast]
  (repeat ((conv => whnf); (first | (with_reducible first | refine jA ?_ | refine jB ?_ | refine jC ?_ | refine jD ?_) | refine jE ?_ | refine jF ?_ | refine jG ?_ | refine jH ?_ | refine jI ?_ | refine jJ ?_ | refine jK ?_ | refine jL ?_ | refine jM ?_ | refine jN ?_ | refine jO ?_ | refine jP ?_ | refine jQ ?_ | refine jR ?_ | refine jS (k := ?_) | refine jT (k := ?_)))); (conv => whnf)
  refine r_new fun q w5 hx5 hb5 hs5 hq5 => ?_
  (repeat ((conv => whnf); (first | (with_reducible first | refine jA ?_ | refine jB ?_ | refine jC ?_ | refine jD ?_) | refine jE ?_ | refine jF ?_ | refine jG ?_ | refine jH ?_ | refine jI ?_ | refine jJ ?_ | refine jK ?_ | refine jL ?_ | refine jM ?_ | refine jN ?_ | refine jO ?_ | refine jP ?_ | refine jQ ?_ | refine jR ?_ | refine jS (k := ?_) | refine jT (k := ?_)))); (conv => whnf)
  refine r_stn (o := 0) hq5 (by simp) (by simp [Value.oneCell']) fun w6 hc6 hs6 hq6 => ?_
  have hq6 : Blk w6 q 46 [.slice (some ⟨b4, 0, none⟩) k k, .slice none 0 0, .slice none 0 0] := hq6
  have hx46 : Ext w4 w6 := Chg.step hx5 hc6 fun t ht hlt => by omega
  have hx36 := hx4.trans hx46
  have hx06 := hx03.trans hx36
  have hblk := hblk.ext hx36
  have hown4 := own_full (base := w.heap.size) (hblk4.ext hx46) (n := k) (by simp [tv]) (by omega) (by simp [maxLen]; omega)
  have hqb := own_ne hown4 hq6 (by decide)
  have z6 := hx06.size
  (repeat ((conv => whnf); (first | (with_reducible first | refine jA ?_ | refine jB ?_ | refine jC ?_ | refine jD ?_) | refine jE ?_ | refine jF ?_ | refine jG ?_ | refine jH ?_ | refine jI ?_ | refine jJ ?_ | refine jK ?_ | refine jL ?_ | refine jM ?_ | refine jN ?_ | refine jO ?_ | refine jP ?_ | refine jQ ?_ | refine jR ?_ | refine jS (k := ?_) | refine jT (k := ?_)))); (conv => whnf)
  refine r_app elS hown4 (h.ext hx06).t (tv_one _) (by omega) (by omega) fun v7 w7 hown7 hc7 _ => ?_
  obtain ⟨a7, c7, rfl, hv7, -, -⟩ := View.of_own hown7
  have e7 : tv (List.replicate k []) ++ tv v.T = tv (shT k v.T) := by simp [tv, shT]
  rw [e7] at hv7
  have hx07 : Ext w w7 := Chg.own hx06 hc7 hown4
  have hq7 := hq6.keep hc7 hqb
  have hpb := own_ne hown4 hblk (by decide)
  have hblk := hblk.keep hc7 hpb
  (repeat ((conv => whnf); (first | (with_reducible first | refine jA ?_ | refine jB ?_ | refine jC ?_ | refine jD ?_) | refine jE ?_ | refine jF ?_ | refine jG ?_ | refine jH ?_ | refine jI ?_ | refine jJ ?_ | refine jK ?_ | refine jL ?_ | refine jM ?_ | refine jN ?_ | refine jO ?_ | refine jP ?_ | refine jQ ?_ | refine jR ?_ | refine jS (k := ?_) | refine jT (k := ?_)))); (conv => whnf)
  refine r_st hq7 (by simp) rfl fun w8 hc8 hs8 hq8 => ?_
  have hq8 : Blk w8 q 46 [.slice a7 (k + x.lT) c7, .slice none 0 0, .slice none 0 0] := hq8
  have hqn : w.heap.size ≤ q := by have := hx4.size; omega
  have hx08 : Ext w w8 := Chg.step hx07 hc8 fun t ht hlt => by omega
  rw [e7] at hown7
  have hown8 := own_keep hown7 hc8 fun b hb e => own_ne hown7 hq7 (by decide) (by rw [hb, e])
  have hpq : p ≠ q := by have := hx4.size; omega
  have hblk8 := hblk.keep hc8 hpq
  (repeat ((conv => whnf); (first | (with_reducible first | refine jA ?_ | refine jB ?_ | refine jC ?_ | refine jD ?_) | refine jE ?_ | refine jF ?_ | refine jG ?_ | refine jH ?_ | refine jI ?_ | refine jJ ?_ | refine jK ?_ | refine jL ?_ | refine jM ?_ | refine jN ?_ | refine jO ?_ | refine jP ?_ | refine jQ ?_ | refine jR ?_ | refine jS (k := ?_) | refine jT (k := ?_)))); (conv => whnf)
  refine r_loop (σ := Nat) (fun i => [.int .i64 (i : Int)]) (fun i w' => i ≤ x.lM ∧ Ext w w' ∧ Blk w' p 46 [.slice x.aT x.lT x.cT, .slice x.aM x.lM x.cM, .slice x.aS x.lS x.cS] ∧ w'.ownsRow w.heap.size 9 1 (.slice a7 (k + x.lT) c7) (k + x.lT) (tv (shT k v.T)) ∧ ∃ aM c, Blk w' q 46 [.slice a7 (k + x.lT) c7, .slice aM i c, .slice none 0 0] ∧ w'.ownsRow w.heap.size 55 4 (.slice aM i c) i (mv ((v.M.map (shM k)).take i))) (fun i _ => x.lM - i) 0 rfl ⟨by omega, hx08, hblk8, hown8, none, 0, hq8, ⟨rfl, .inl ⟨rfl, rfl⟩⟩⟩ ?_
  clear hblk8 hown8 hq8 hown7 hq7 hq6 hq5 hown4 hblk hv7 hblk4 hqb hpb hc7 hc8
  rintro i w9 again ⟨hi, hx9, hblk, hownT, aM, cM, hq, hownM⟩ hagain
  have z9 := hx9.size
  by_cases hil : i < x.lM
  · obtain ⟨⟨f1, f2, _⟩, ⟨f3, f4, _⟩, ⟨f5, f6, _⟩, _, _, _⟩ := (hmay.mg i (by omega)).1
    have hpm := h.m.plain (by rw [mv_len]; omega)
    (repeat ((conv => whnf); (first | (with_reducible first | refine jA ?_ | refine jB ?_ | refine jC ?_ | refine jD ?_) | refine jE ?_ | refine jF ?_ | refine jG ?_ | refine jH ?_ | refine jI ?_ | refine jJ ?_ | refine jK ?_ | refine jL ?_ | refine jM ?_ | refine jN ?_ | refine jO ?_ | refine jP ?_ | refine jQ ?_ | refine jR ?_ | refine jS (k := ?_) | refine jT (k := ?_)))); (conv => whnf)
    refine r_ldnv (j := (i : Int).toNat * 4) (vs := (gm v.M i).cells) (h.ext hx9).m (mv_ent (by omega)) rfl ?_
    (repeat ((conv => whnf); (first | (with_reducible first | refine jA ?_ | refine jB ?_ | refine jC ?_ | refine jD ?_) | refine jE ?_ | refine jF ?_ | refine jG ?_ | refine jH ?_ | refine jI ?_ | refine jJ ?_ | refine jK ?_ | refine jL ?_ | refine jM ?_ | refine jN ?_ | refine jO ?_ | refine jP ?_ | refine jQ ?_ | refine jR ?_ | refine jS (k := ?_) | refine jT (k := ?_)))); (conv => whnf)
    refine r_new fun m w10 hx10 hb10 hs10 hm10 => ?_
    (repeat ((conv => whnf); (first | (with_reducible first | refine jA ?_ | refine jB ?_ | refine jC ?_ | refine jD ?_) | refine jE ?_ | refine jF ?_ | refine jG ?_ | refine jH ?_ | refine jI ?_ | refine jJ ?_ | refine jK ?_ | refine jL ?_ | refine jM ?_ | refine jN ?_ | refine jO ?_ | refine jP ?_ | refine jQ ?_ | refine jR ?_ | refine jS (k := ?_) | refine jT (k := ?_)))); (conv => whnf)
    refine r_stn (o := 0) hm10 (by simp [Mg.cells]) (mg_one _) fun w11 hc11 hs11 hm11 => ?_
    have hm11 : Blk w11 m 55 [.int .i64 (gm v.M i).l, .int .i64 (gm v.M i).r, .int .i64 (gm v.M i).o, .int .i64 (gm v.M i).d] := hm11
    have hx911 : Ext w9 w11 := Chg.step hx10 hc11 fun t ht hlt => by omega
    have hq11 := hq.ext hx911
    (repeat ((conv => whnf); (first | (with_reducible first | refine jA ?_ | refine jB ?_ | refine jC ?_ | refine jD ?_) | refine jE ?_ | refine jF ?_ | refine jG ?_ | refine jH ?_ | refine jI ?_ | refine jJ ?_ | refine jK ?_ | refine jL ?_ | refine jM ?_ | refine jN ?_ | refine jO ?_ | refine jP ?_ | refine jQ ?_ | refine jR ?_ | refine jS (k := ?_) | refine jT (k := ?_)))); (conv => whnf)
    refine r_new fun b13 w13 hx13 hb13 hs13 hb13' => ?_
    have hx913 := hx911.trans hx13
    (repeat ((conv => whnf); (first | (with_reducible first | refine jA ?_ | refine jB ?_ | refine jC ?_ | refine jD ?_) | refine jE ?_ | refine jF ?_ | refine jG ?_ | refine jH ?_ | refine jI ?_ | refine jJ ?_ | refine jK ?_ | refine jL ?_ | refine jM ?_ | refine jN ?_ | refine jO ?_ | refine jP ?_ | refine jQ ?_ | refine jR ?_ | refine jS (k := ?_) | refine jT (k := ?_)))); (conv => whnf)
    refine r_app emg (own_ext hownM hx913) (View.of_blk (n := 1) hb13' rfl (by simp [maxLen])) (by simp [Value.oneCell']) (by omega) (by have := hx913.size; omega) fun v14 w14 hown14 hc14 _ => ?_
    have hc914 : Chg (fun b => (Value.slice aM i cM).ownBlock = some b) w9 w14 := Chg.step (hx913.wide _) hc14 fun _ hb _ => hb
    have e14 : mv ((v.M.map (shM k)).take (i + 1)) = mv ((v.M.map (shM k)).take i) ++ [.int .i64 ((gm v.M i).l + k), .int .i64 ((gm v.M i).r + k), .int .i64 ((gm v.M i).o + k), .int .i64 (gm v.M i).d] := by
      rw [mv_take_succ (by simp; omega), gm_sh (by omega)]
      rfl
    rw [← e14] at hown14
    obtain ⟨a14, c14, rfl, -, -, -⟩ := View.of_own hown14
    have nq := own_ne hownM hq (by decide)
    have hq14 := hq.keep hc914 nq
    (repeat ((conv => whnf); (first | (with_reducible first | refine jA ?_ | refine jB ?_ | refine jC ?_ | refine jD ?_) | refine jE ?_ | refine jF ?_ | refine jG ?_ | refine jH ?_ | refine jI ?_ | refine jJ ?_ | refine jK ?_ | refine jL ?_ | refine jM ?_ | refine jN ?_ | refine jO ?_ | refine jP ?_ | refine jQ ?_ | refine jR ?_ | refine jS (k := ?_) | refine jT (k := ?_)))); (conv => whnf)
    refine r_st hq14 (by simp) rfl fun w15 hc15 hs15 hq15 => ?_
    have hq15 : Blk w15 q 46 [.slice a7 (k + x.lT) c7, .slice a14 (i + 1) c14, .slice none 0 0] := hq15
    have hx014 : Ext w w14 := Chg.own hx9 hc914 hownM
    have hblk14 := hblk.keep hc914 (own_ne hownM hblk (by decide))
    have hownT14 := own_keep hownT hc914 fun b hb e => own_apart hownT hownM (by decide) b hb e
    (repeat ((conv => whnf); (first | (with_reducible first | refine jA ?_ | refine jB ?_ | refine jC ?_ | refine jD ?_) | refine jE ?_ | refine jF ?_ | refine jG ?_ | refine jH ?_ | refine jI ?_ | refine jJ ?_ | refine jK ?_ | refine jL ?_ | refine jM ?_ | refine jN ?_ | refine jO ?_ | refine jP ?_ | refine jQ ?_ | refine jR ?_ | refine jS (k := ?_) | refine jT (k := ?_)))); (conv => whnf)
    exact hagain (i + 1) w15 ⟨by omega, Chg.step hx014 hc15 fun t ht hlt => by omega, hblk14.keep hc15 hpq, own_keep hownT14 hc15 fun b hb e => own_ne hownT14 hq14 (by decide) (by rw [hb, e]), a14, c14, hq15, own_keep hown14 hc15 fun b hb e => own_ne hown14 hq14 (by decide) (by rw [hb, e])⟩ (by omega)
  have hie : i = x.lM := by omega
  subst hie
  clear hagain
  rw [List.take_of_length_le (by simp; omega)] at hownM
  obtain ⟨_, _, he, hvT, -, -⟩ := View.of_own hownT
  cases he
  obtain ⟨_, _, he, hvM, -, -⟩ := View.of_own hownM
  cases he
  have hV2 : IsV w9 (shV k v) ⟨_, _, _, _, _, _, none, 0, 0⟩ := ⟨hvT, hvM, View.nil _ _⟩
  have hmay2 := may_sh k hmay
  have hs2 : Small (shV k v) := by
    refine ⟨?_, ?_, by simp [shV], fun t ht => ?_, fun t ht => by simp [shV] at ht⟩
    · show (shT k v.T).length ≤ 600
      rw [shT_len]
      omega
    · show (v.M.map (shM k)).length ≤ 300
      rw [List.length_map]
      exact hs.nm
    · have ht : t ∈ List.replicate k [] ++ v.T := ht
      rcases List.mem_append.1 ht with r | r
      · obtain ⟨_, rfl⟩ := List.mem_replicate.1 r
        simp
      · exact hs.tl t r
  have hw2 : Wfv (shV k v) := ⟨fun m hm => by
    obtain ⟨m', hm', rfl⟩ := List.mem_map.1 hm
    obtain ⟨j, hj, rfl⟩ := gm_mem.1 hm'
    obtain ⟨⟨f1, f2, _⟩, ⟨f3, f4, _⟩, ⟨f5, f6, _⟩, _⟩ := (hmay.mg j hj).1
    unfold I64 shM
    dsimp only
    omega, fun t ht => by simp [shV] at ht⟩
  have hM2 : ∀ m ∈ (shV k v).M, I64 m.o := fun m hm => (hw2.mw m hm).2.2
  have hnt2 : (shV k v).T.length ≤ 4096 := by have := hs2.nt; omega
  (repeat ((conv => whnf); (first | (with_reducible first | refine jA ?_ | refine jB ?_ | refine jC ?_ | refine jD ?_) | refine jE ?_ | refine jF ?_ | refine jG ?_ | refine jH ?_ | refine jI ?_ | refine jJ ?_ | refine jK ?_ | refine jL ?_ | refine jM ?_ | refine jN ?_ | refine jO ?_ | refine jP ?_ | refine jQ ?_ | refine jR ?_ | refine jS (k := ?_) | refine jT (k := ?_)))); (conv => whnf)
  refine r_ldnb (vs := vcs x) hblk rfl rfl ?_
  (repeat ((conv => whnf); (first | (with_reducible first | refine jA ?_ | refine jB ?_ | refine jC ?_ | refine jD ?_) | refine jE ?_ | refine jF ?_ | refine jG ?_ | refine jH ?_ | refine jI ?_ | refine jJ ?_ | refine jK ?_ | refine jL ?_ | refine jM ?_ | refine jN ?_ | refine jO ?_ | refine jP ?_ | refine jQ ?_ | refine jR ?_ | refine jS (k := ?_) | refine jT (k := ?_)))); (conv => whnf)
  refine r_cal (cNew_ok (h.ext hx9) hs hw) ?_
  rintro _ w10 ⟨hx10, ⟨-, cb, rfl, hC⟩ | ⟨hn, -⟩⟩
  rotate_left
  · exact absurd hmay hn
  have hq := hq.ext hx10
  (repeat ((conv => whnf); (first | (with_reducible first | refine jA ?_ | refine jB ?_ | refine jC ?_ | refine jD ?_) | refine jE ?_ | refine jF ?_ | refine jG ?_ | refine jH ?_ | refine jI ?_ | refine jJ ?_ | refine jK ?_ | refine jL ?_ | refine jM ?_ | refine jN ?_ | refine jO ?_ | refine jP ?_ | refine jQ ?_ | refine jR ?_ | refine jS (k := ?_) | refine jT (k := ?_)))); (conv => whnf)
  refine r_ldnb (vs := vcs ⟨_, _, _, _, _, _, none, 0, 0⟩) hq rfl rfl ?_
  (repeat ((conv => whnf); (first | (with_reducible first | refine jA ?_ | refine jB ?_ | refine jC ?_ | refine jD ?_) | refine jE ?_ | refine jF ?_ | refine jG ?_ | refine jH ?_ | refine jI ?_ | refine jJ ?_ | refine jK ?_ | refine jL ?_ | refine jM ?_ | refine jN ?_ | refine jO ?_ | refine jP ?_ | refine jQ ?_ | refine jR ?_ | refine jS (k := ?_) | refine jT (k := ?_)))); (conv => whnf)
  refine r_cal (cNew_ok (hV2.ext hx10) hs2 hw2) ?_
  rintro _ w11 ⟨hx11, ⟨-, cd, rfl, hD⟩ | ⟨hn, -⟩⟩
  rotate_left
  · exact absurd hmay2 hn
  have hx011 := hx9.trans (hx10.trans hx11)
  (repeat ((conv => whnf); (first | (with_reducible first | refine jA ?_ | refine jB ?_ | refine jC ?_ | refine jD ?_) | refine jE ?_ | refine jF ?_ | refine jG ?_ | refine jH ?_ | refine jI ?_ | refine jJ ?_ | refine jK ?_ | refine jL ?_ | refine jM ?_ | refine jN ?_ | refine jO ?_ | refine jP ?_ | refine jQ ?_ | refine jR ?_ | refine jS (k := ?_) | refine jT (k := ?_)))); (conv => whnf)
  refine r_cal (Enc_ok (hC.ext hx11) hM hnt (hv.ext hx011) (by omega)) ?_
  rintro _ w12 ⟨hx12, a12, l12, c12, rfl, hv12⟩
  have hx012 := hx011.trans hx12
  (repeat ((conv => whnf); (first | (with_reducible first | refine jA ?_ | refine jB ?_ | refine jC ?_ | refine jD ?_) | refine jE ?_ | refine jF ?_ | refine jG ?_ | refine jH ?_ | refine jI ?_ | refine jJ ?_ | refine jK ?_ | refine jL ?_ | refine jM ?_ | refine jN ?_ | refine jO ?_ | refine jP ?_ | refine jQ ?_ | refine jR ?_ | refine jS (k := ?_) | refine jT (k := ?_)))); (conv => whnf)
  refine r_cal (Enc_ok (hD.ext hx12) hM2 hnt2 (hv.ext hx012) (by omega)) ?_
  rintro _ w13 ⟨hx13, a13, l13, c13, rfl, hv13⟩
  rw [enc_sh hmay] at hv13
  have hx013 := hx012.trans hx13
  have hv12 := hv12.ext hx13
  have hall := (run_txt hmay.mg _ (own1 v.T s) (Nat.le_refl _) (own1_all hmay s)).1
  generalize run v.M (own1 v.T s) = L at hv12 hv13 hall
  have hl12 := ri_lens hv12
  have hl13 := ri_lens hv13
  have hlL : (shR k L).length = L.length := by simp [shR]
  have hle : l13 = l12 := by omega
  subst hle
  have m12 := hv12.le
  have n12 := hv12.max
  unfold maxLen at n12
  (repeat ((conv => whnf); (first | (with_reducible first | refine jA ?_ | refine jB ?_ | refine jC ?_ | refine jD ?_) | refine jE ?_ | refine jF ?_ | refine jG ?_ | refine jH ?_ | refine jI ?_ | refine jJ ?_ | refine jK ?_ | refine jL ?_ | refine jM ?_ | refine jN ?_ | refine jO ?_ | refine jP ?_ | refine jQ ?_ | refine jR ?_ | refine jS (k := ?_) | refine jT (k := ?_)))); (conv => whnf)
  refine r_loop (σ := Nat) (fun i => [.int .i64 (i : Int)]) (fun i w' => i ≤ l13 ∧ Ext w13 w') (fun i _ => l13 - i) 0 rfl ⟨by omega, Ext.refl _⟩ ?_
  rintro i w14 again ⟨hi, hx14⟩ hagain
  by_cases hil : i < l13
  rotate_left
  · (repeat ((conv => whnf); (first | (with_reducible first | refine jA ?_ | refine jB ?_ | refine jC ?_ | refine jD ?_) | refine jE ?_ | refine jF ?_ | refine jG ?_ | refine jH ?_ | refine jI ?_ | refine jJ ?_ | refine jK ?_ | refine jL ?_ | refine jM ?_ | refine jN ?_ | refine jO ?_ | refine jP ?_ | refine jQ ?_ | refine jR ?_ | refine jS (k := ?_) | refine jT (k := ?_)))); (conv => whnf)
    refine r_cal (efixed_ok _) ?_
    rintro _ w15 ⟨hx15, rfl⟩
    (repeat ((conv => whnf); (first | (with_reducible first | refine jA ?_ | refine jB ?_ | refine jC ?_ | refine jD ?_) | refine jE ?_ | refine jF ?_ | refine jG ?_ | refine jH ?_ | refine jI ?_ | refine jJ ?_ | refine jK ?_ | refine jL ?_ | refine jM ?_ | refine jN ?_ | refine jO ?_ | refine jP ?_ | refine jQ ?_ | refine jR ?_ | refine jS (k := ?_) | refine jT (k := ?_)))); (conv => whnf)
    exact ⟨rfl, hx013.trans (hx14.trans hx15)⟩
  obtain ⟨t1, t2, _⟩ := hall _ (gi_mem (by omega : i < L.length))
  have hg1 : (ri L)[(i : Int).toNat * 1]? = some (.int .i64 (gi L i)) := by simpa using ri_get (row := L) (i := i) (by omega)
  have hg2 : (ri (shR k L))[(i : Int).toNat * 1]? = some (.int .i64 (gi L i + k)) := by
    have := ri_get (row := shR k L) (i := i) (by omega)
    rw [gi_sh k (by omega)] at this
    simpa using this
  have hp1 := hv12.plain (by rw [ri_len]; omega)
  have hp2 := hv13.plain (by rw [ri_len]; omega)
  (repeat ((conv => whnf); (first | (with_reducible first | refine jA ?_ | refine jB ?_ | refine jC ?_ | refine jD ?_) | refine jE ?_ | refine jF ?_ | refine jG ?_ | refine jH ?_ | refine jI ?_ | refine jJ ?_ | refine jK ?_ | refine jL ?_ | refine jM ?_ | refine jN ?_ | refine jO ?_ | refine jP ?_ | refine jQ ?_ | refine jR ?_ | refine jS (k := ?_) | refine jT (k := ?_)))); (conv => whnf)
  refine r_drawE fun w15 hx15 hh15 => ?_
  (repeat ((conv => whnf); (first | refine r_ldvE (hv12.ext hx14) hg1 ?_ | refine r_ldvE (hv13.ext hx14) hg2 ?_ | (with_reducible first | refine jA ?_ | refine jB ?_ | refine jC ?_ | refine jD ?_) | refine jE ?_ | refine jF ?_ | refine jG ?_ | refine jH ?_ | refine jI ?_ | refine jJ ?_ | refine jK ?_ | refine jL ?_ | refine jM ?_ | refine jN ?_ | refine jO ?_ | refine jP ?_ | refine jQ ?_ | refine jR ?_ | refine jS (k := ?_) | refine jT (k := ?_)))); (conv => whnf)
  exact hagain (i + 1) w15 ⟨by omega, hx14.trans hx15⟩ (by omega)
end
end Fb.Try.VO
