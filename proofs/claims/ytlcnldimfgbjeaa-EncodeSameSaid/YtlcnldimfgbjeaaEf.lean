/-
  Walks: the chapter's examples of coders.
-/
import Derived.Test.YtlcnldimfgbjeaaEe
import Derived.Test.YtlcnldimfgbjeaaPs
namespace Fb.Try.VO
open Go Go.Proofs Fb Fb.Bytes
def ex2 : List (List UInt8) := [[97, 98], [98, 99], [97, 98, 99]]
def ex2M : List Mg := [⟨97, 98, 256, 256⟩, ⟨98, 99, 257, 257⟩, ⟨97, 257, 258, 258⟩, ⟨256, 99, 258, 258⟩]
def ex3 : List (List UInt8) := [[98, 99], [97, 98], [99, 100], [97, 98, 99, 100]]
def ex3M : List Mg := [⟨98, 99, 256, 256⟩, ⟨97, 98, 257, 257⟩, ⟨99, 100, 258, 258⟩, ⟨257, 258, 259, 259⟩]
set_option maxRecDepth 100000 in
theorem ex2_fr : frO (letT ex2) (letT ex2).length = ex2M := by kernel_rfl
set_option maxRecDepth 100000 in
theorem ex3_fr : frO (letT ex3) (letT ex3).length = ex3M := by kernel_rfl
set_option maxRecDepth 100000 in
theorem ex2_mg : MgOk (letT ex2) ex2M := of_decide_eq_true (by kernel_rfl)
set_option maxRecDepth 100000 in
theorem ex3_mg : MgOk (letT ex3) ex3M := of_decide_eq_true (by kernel_rfl)
theorem ex2_may : MayP ⟨letT ex2, ex2M, []⟩ := let_may (by decide) (by decide) ex2_mg (by decide)
theorem ex3_may : MayP ⟨letT ex3, ex3M, []⟩ := let_may (by decide) (by decide) ex3_mg (by decide)
theorem ex2_small : Small ⟨letT ex2, ex2M, []⟩ := ⟨by rw [show (Voc.mk (letT ex2) ex2M []).T = letT ex2 from rfl, let_len]; decide, by decide, by decide, fun s hs => by have := ex2_may.tok.len s hs; omega, fun s hs => by simp at hs⟩
theorem ex3_small : Small ⟨letT ex3, ex3M, []⟩ := ⟨by rw [show (Voc.mk (letT ex3) ex3M []).T = letT ex3 from rfl, let_len]; decide, by decide, by decide, fun s hs => by have := ex3_may.tok.len s hs; omega, fun s hs => by simp at hs⟩
theorem ex2_wf : Wfv ⟨letT ex2, ex2M, []⟩ := ⟨by
  have : ∀ m ∈ ex2M, I64 m.l ∧ I64 m.r ∧ I64 m.o := by
    intro m hm
    simp [ex2M] at hm
    rcases hm with rfl | rfl | rfl | rfl <;> (unfold I64; decide)
  exact this, fun s hs => by simp at hs⟩
theorem ex3_wf : Wfv ⟨letT ex3, ex3M, []⟩ := ⟨by
  have : ∀ m ∈ ex3M, I64 m.l ∧ I64 m.r ∧ I64 m.o := by
    intro m hm
    simp [ex3M] at hm
    rcases hm with rfl | rfl | rfl | rfl <;> (unfold I64; decide)
  exact this, fun s hs => by simp at hs⟩
set_option maxRecDepth 100000 in
theorem ex2_run : run ex2M (own1 (letT ex2) [97, 98, 99]) = [258] := by kernel_rfl
set_option maxRecDepth 100000 in
theorem ex3_run : run ex3M (own1 (letT ex3) [97, 98, 99, 100]) = [97, 256, 100] := by kernel_rfl
set_option maxRecDepth 100000 in
theorem ex3_dead : deadL ⟨letT ex3, ex3M, []⟩ (letT ex3).length = [259] := by kernel_rfl
set_option maxHeartbeats 1000000 in
set_option maxRecDepth 100000 in
theorem efixed_ok (w : World) : Cal Try.prog 31 ⟨[]⟩ w fun u w' => Ext w w' ∧ u = .bool true := by
  refine go31 (by rfl) ?_
  (repeat ((conv => whnf); (first | (with_reducible first | refine jA ?_ | refine jB ?_ | refine jC ?_ | refine jD ?_) | refine jE ?_ | refine jF ?_ | refine jG ?_ | refine jH ?_ | refine jI ?_ | refine jJ ?_ | refine jK ?_ | refine jL ?_ | refine jM ?_ | refine jN ?_ | refine jO ?_ | refine jP ?_ | refine jQ ?_ | refine jR ?_ | refine jS (k := ?_) | refine jT (k := ?_)))); (conv => whnf)
  refine r_new fun b6 w1 hx1 hb1 hs1 hblk6 => ?_
  have hvm : View w1 (some ⟨b6, 0, none⟩) 3 3 1 (tv ex2) := View.of_blk hblk6 rfl (by simp [maxLen])
  (repeat ((conv => whnf); (first | (with_reducible first | refine jA ?_ | refine jB ?_ | refine jC ?_ | refine jD ?_) | refine jE ?_ | refine jF ?_ | refine jG ?_ | refine jH ?_ | refine jI ?_ | refine jJ ?_ | refine jK ?_ | refine jL ?_ | refine jM ?_ | refine jN ?_ | refine jO ?_ | refine jP ?_ | refine jQ ?_ | refine jR ?_ | refine jS (k := ?_) | refine jT (k := ?_)))); (conv => whnf)
  refine r_cal (letters_ok (more := ex2) hvm (by decide) (by decide) ex2_may.tok (by rw [ex2_fr]; decide) (by rw [ex2_fr]; exact ex2_may)) ?_
  rintro _ w2 ⟨hx2, y, rfl, hV⟩
  rw [ex2_fr] at hV
  have hx02 := hx1.trans hx2
  have hz2 := hx02.size
  (repeat ((conv => whnf); (first | (with_reducible first | refine jA ?_ | refine jB ?_ | refine jC ?_ | refine jD ?_) | refine jE ?_ | refine jF ?_ | refine jG ?_ | refine jH ?_ | refine jI ?_ | refine jJ ?_ | refine jK ?_ | refine jL ?_ | refine jM ?_ | refine jN ?_ | refine jO ?_ | refine jP ?_ | refine jQ ?_ | refine jR ?_ | refine jS (k := ?_) | refine jT (k := ?_)))); (conv => whnf)
  refine r_new fun b1 w3 hx3 hb3 hs3 hblk1 => ?_
  (repeat ((conv => whnf); (first | (with_reducible first | refine jA ?_ | refine jB ?_ | refine jC ?_ | refine jD ?_) | refine jE ?_ | refine jF ?_ | refine jG ?_ | refine jH ?_ | refine jI ?_ | refine jJ ?_ | refine jK ?_ | refine jL ?_ | refine jM ?_ | refine jN ?_ | refine jO ?_ | refine jP ?_ | refine jQ ?_ | refine jR ?_ | refine jS (k := ?_) | refine jT (k := ?_)))); (conv => whnf)
  refine r_stn hblk1 (by simp [vcs]) (by simp [vcs, Value.oneCell']) fun w4 hc4 hs4 hblk1 => ?_
  have hblk1 : Blk w4 b1 46 (vcs y) := hblk1
  have hx24 : Ext w2 w4 := Chg.step hx3 hc4 fun k hk hlt => by omega
  have hx04 := hx02.trans hx24
  (repeat ((conv => whnf); (first | (with_reducible first | refine jA ?_ | refine jB ?_ | refine jC ?_ | refine jD ?_) | refine jE ?_ | refine jF ?_ | refine jG ?_ | refine jH ?_ | refine jI ?_ | refine jJ ?_ | refine jK ?_ | refine jL ?_ | refine jM ?_ | refine jN ?_ | refine jO ?_ | refine jP ?_ | refine jQ ?_ | refine jR ?_ | refine jS (k := ?_) | refine jT (k := ?_)))); (conv => whnf)
  refine r_ldnb (vs := vcs y) hblk1 rfl rfl ?_
  (repeat ((conv => whnf); (first | (with_reducible first | refine jA ?_ | refine jB ?_ | refine jC ?_ | refine jD ?_) | refine jE ?_ | refine jF ?_ | refine jG ?_ | refine jH ?_ | refine jI ?_ | refine jJ ?_ | refine jK ?_ | refine jL ?_ | refine jM ?_ | refine jN ?_ | refine jO ?_ | refine jP ?_ | refine jQ ?_ | refine jR ?_ | refine jS (k := ?_) | refine jT (k := ?_)))); (conv => whnf)
  refine r_cal (cNew_ok (hV.ext hx24) ex2_small ex2_wf) ?_
  rintro _ w5 ⟨hx5, ⟨-, c2, rfl, hC2⟩ | ⟨hn, -⟩⟩
  rotate_left
  · exact absurd ex2_may hn
  have hx05 := hx04.trans hx5
  (repeat ((conv => whnf); (first | (with_reducible first | refine jA ?_ | refine jB ?_ | refine jC ?_ | refine jD ?_) | refine jE ?_ | refine jF ?_ | refine jG ?_ | refine jH ?_ | refine jI ?_ | refine jJ ?_ | refine jK ?_ | refine jL ?_ | refine jM ?_ | refine jN ?_ | refine jO ?_ | refine jP ?_ | refine jQ ?_ | refine jR ?_ | refine jS (k := ?_) | refine jT (k := ?_)))); (conv => whnf)
  refine r_new fun b7 w6 hx6 hb6 hs6 hblk7 => ?_
  have hx06 := hx05.trans hx6
  have hvm : View w6 (some ⟨b7, 0, none⟩) 4 4 1 (tv ex3) := View.of_blk hblk7 rfl (by simp [maxLen])
  (repeat ((conv => whnf); (first | (with_reducible first | refine jA ?_ | refine jB ?_ | refine jC ?_ | refine jD ?_) | refine jE ?_ | refine jF ?_ | refine jG ?_ | refine jH ?_ | refine jI ?_ | refine jJ ?_ | refine jK ?_ | refine jL ?_ | refine jM ?_ | refine jN ?_ | refine jO ?_ | refine jP ?_ | refine jQ ?_ | refine jR ?_ | refine jS (k := ?_) | refine jT (k := ?_)))); (conv => whnf)
  refine r_cal (letters_ok (more := ex3) hvm (by decide) (by decide) ex3_may.tok (by rw [ex3_fr]; decide) (by rw [ex3_fr]; exact ex3_may)) ?_
  rintro _ w7 ⟨hx7, z, rfl, hV⟩
  rw [ex3_fr] at hV
  have hx07 := hx06.trans hx7
  (repeat ((conv => whnf); (first | (with_reducible first | refine jA ?_ | refine jB ?_ | refine jC ?_ | refine jD ?_) | refine jE ?_ | refine jF ?_ | refine jG ?_ | refine jH ?_ | refine jI ?_ | refine jJ ?_ | refine jK ?_ | refine jL ?_ | refine jM ?_ | refine jN ?_ | refine jO ?_ | refine jP ?_ | refine jQ ?_ | refine jR ?_ | refine jS (k := ?_) | refine jT (k := ?_)))); (conv => whnf)
  refine r_new fun b2 w8 hx8 hb8 hs8 hblk2 => ?_
  (repeat ((conv => whnf); (first | (with_reducible first | refine jA ?_ | refine jB ?_ | refine jC ?_ | refine jD ?_) | refine jE ?_ | refine jF ?_ | refine jG ?_ | refine jH ?_ | refine jI ?_ | refine jJ ?_ | refine jK ?_ | refine jL ?_ | refine jM ?_ | refine jN ?_ | refine jO ?_ | refine jP ?_ | refine jQ ?_ | refine jR ?_ | refine jS (k := ?_) | refine jT (k := ?_)))); (conv => whnf)
  refine r_stn hblk2 (by simp [vcs]) (by simp [vcs, Value.oneCell']) fun w9 hc9 hs9 hblk2 => ?_
  have hblk2 : Blk w9 b2 46 (vcs z) := hblk2
  have hx79 : Ext w7 w9 := Chg.step hx8 hc9 fun k hk hlt => by omega
  have hx09 := hx07.trans hx79
  (repeat ((conv => whnf); (first | (with_reducible first | refine jA ?_ | refine jB ?_ | refine jC ?_ | refine jD ?_) | refine jE ?_ | refine jF ?_ | refine jG ?_ | refine jH ?_ | refine jI ?_ | refine jJ ?_ | refine jK ?_ | refine jL ?_ | refine jM ?_ | refine jN ?_ | refine jO ?_ | refine jP ?_ | refine jQ ?_ | refine jR ?_ | refine jS (k := ?_) | refine jT (k := ?_)))); (conv => whnf)
  refine r_ldnb (vs := vcs z) hblk2 rfl rfl ?_
  (repeat ((conv => whnf); (first | (with_reducible first | refine jA ?_ | refine jB ?_ | refine jC ?_ | refine jD ?_) | refine jE ?_ | refine jF ?_ | refine jG ?_ | refine jH ?_ | refine jI ?_ | refine jJ ?_ | refine jK ?_ | refine jL ?_ | refine jM ?_ | refine jN ?_ | refine jO ?_ | refine jP ?_ | refine jQ ?_ | refine jR ?_ | refine jS (k := ?_) | refine jT (k := ?_)))); (conv => whnf)
  refine r_cal (cNew_ok (hV.ext hx79) ex3_small ex3_wf) ?_
  rintro _ w10 ⟨hx10, ⟨-, c3, rfl, hC3⟩ | ⟨hn, -⟩⟩
  rotate_left
  · exact absurd ex3_may hn
  have hx010 := hx09.trans hx10
  have hC2 := hC2.ext ((hx6.trans hx7).trans (hx79.trans hx10))
  have hM2 : ∀ m ∈ ex2M, I64 m.o := fun m hm => (ex2_wf.mw m hm).2.2
  have hM3 : ∀ m ∈ ex3M, I64 m.o := fun m hm => (ex3_wf.mw m hm).2.2
  (repeat ((conv => whnf); (first | (with_reducible first | refine jA ?_ | refine jB ?_ | refine jC ?_ | refine jD ?_) | refine jE ?_ | refine jF ?_ | refine jG ?_ | refine jH ?_ | refine jI ?_ | refine jJ ?_ | refine jK ?_ | refine jL ?_ | refine jM ?_ | refine jN ?_ | refine jO ?_ | refine jP ?_ | refine jQ ?_ | refine jR ?_ | refine jS (k := ?_) | refine jT (k := ?_)))); (conv => whnf)
  refine r_new fun d1 w11 hx11 hb11 hs11 hd1 => ?_
  (repeat ((conv => whnf); (first | (with_reducible first | refine jA ?_ | refine jB ?_ | refine jC ?_ | refine jD ?_) | refine jE ?_ | refine jF ?_ | refine jG ?_ | refine jH ?_ | refine jI ?_ | refine jJ ?_ | refine jK ?_ | refine jL ?_ | refine jM ?_ | refine jN ?_ | refine jO ?_ | refine jP ?_ | refine jQ ?_ | refine jR ?_ | refine jS (k := ?_) | refine jT (k := ?_)))); (conv => whnf)
  refine r_bytesC usl8 uu8 hd1 rfl (by simp [maxLen]) fun w12 hc12 hs12 hv12 => ?_
  have hv12 : View w12 (some ⟨d1, 0, none⟩) 3 3 1 (bvs [97, 98, 99]) := hv12
  have hx12 : Ext w10 w12 := Chg.step hx11 hc12 fun k hk hlt => by omega
  (repeat ((conv => whnf); (first | (with_reducible first | refine jA ?_ | refine jB ?_ | refine jC ?_ | refine jD ?_) | refine jE ?_ | refine jF ?_ | refine jG ?_ | refine jH ?_ | refine jI ?_ | refine jJ ?_ | refine jK ?_ | refine jL ?_ | refine jM ?_ | refine jN ?_ | refine jO ?_ | refine jP ?_ | refine jQ ?_ | refine jR ?_ | refine jS (k := ?_) | refine jT (k := ?_)))); (conv => whnf)
  refine r_cal (Enc_ok (hC2.ext hx12) hM2 (by have := ex2_small.nt; dsimp only at this ⊢; omega) hv12 (by omega)) ?_
  rintro _ w13 ⟨hx13, a13, l13, c13, rfl, hv13⟩
  have hv13 : View w13 a13 l13 c13 1 (ri (run ex2M (own1 (letT ex2) [97, 98, 99]))) := hv13
  rw [ex2_run] at hv13
  have hx1013 := hx12.trans hx13
  (repeat ((conv => whnf); (first | (with_reducible first | refine jA ?_ | refine jB ?_ | refine jC ?_ | refine jD ?_) | refine jE ?_ | refine jF ?_ | refine jG ?_ | refine jH ?_ | refine jI ?_ | refine jJ ?_ | refine jK ?_ | refine jL ?_ | refine jM ?_ | refine jN ?_ | refine jO ?_ | refine jP ?_ | refine jQ ?_ | refine jR ?_ | refine jS (k := ?_) | refine jT (k := ?_)))); (conv => whnf)
  refine r_new fun d2 w14 hx14 hb14 hs14 hd2 => ?_
  have hx1014 := hx1013.trans hx14
  (repeat ((conv => whnf); (first | (with_reducible first | refine jA ?_ | refine jB ?_ | refine jC ?_ | refine jD ?_) | refine jE ?_ | refine jF ?_ | refine jG ?_ | refine jH ?_ | refine jI ?_ | refine jJ ?_ | refine jK ?_ | refine jL ?_ | refine jM ?_ | refine jN ?_ | refine jO ?_ | refine jP ?_ | refine jQ ?_ | refine jR ?_ | refine jS (k := ?_) | refine jT (k := ?_)))); (conv => whnf)
  refine r_cal (Same_ok (L := [258]) (hv13.ext hx14) (View.of_blk (n := 1) hd2 rfl (by simp [maxLen]))) ?_
  rintro _ w15 ⟨hx15, rfl⟩
  have hx1015 := hx1014.trans hx15
  (repeat ((conv => whnf); (first | (with_reducible first | refine jA ?_ | refine jB ?_ | refine jC ?_ | refine jD ?_) | refine jE ?_ | refine jF ?_ | refine jG ?_ | refine jH ?_ | refine jI ?_ | refine jJ ?_ | refine jK ?_ | refine jL ?_ | refine jM ?_ | refine jN ?_ | refine jO ?_ | refine jP ?_ | refine jQ ?_ | refine jR ?_ | refine jS (k := ?_) | refine jT (k := ?_)))); (conv => whnf)
  refine r_new fun d3 w16 hx16 hb16 hs16 hd3 => ?_
  (repeat ((conv => whnf); (first | (with_reducible first | refine jA ?_ | refine jB ?_ | refine jC ?_ | refine jD ?_) | refine jE ?_ | refine jF ?_ | refine jG ?_ | refine jH ?_ | refine jI ?_ | refine jJ ?_ | refine jK ?_ | refine jL ?_ | refine jM ?_ | refine jN ?_ | refine jO ?_ | refine jP ?_ | refine jQ ?_ | refine jR ?_ | refine jS (k := ?_) | refine jT (k := ?_)))); (conv => whnf)
  refine r_bytesC usl8 uu8 hd3 rfl (by simp [maxLen]) fun w17 hc17 hs17 hv17 => ?_
  have hv17 : View w17 (some ⟨d3, 0, none⟩) 4 4 1 (bvs [97, 98, 99, 100]) := hv17
  have hx17 : Ext w15 w17 := Chg.step hx16 hc17 fun k hk hlt => by omega
  have hx1017 := hx1015.trans hx17
  (repeat ((conv => whnf); (first | (with_reducible first | refine jA ?_ | refine jB ?_ | refine jC ?_ | refine jD ?_) | refine jE ?_ | refine jF ?_ | refine jG ?_ | refine jH ?_ | refine jI ?_ | refine jJ ?_ | refine jK ?_ | refine jL ?_ | refine jM ?_ | refine jN ?_ | refine jO ?_ | refine jP ?_ | refine jQ ?_ | refine jR ?_ | refine jS (k := ?_) | refine jT (k := ?_)))); (conv => whnf)
  refine r_cal (Enc_ok (hC3.ext hx1017) hM3 (by have := ex3_small.nt; dsimp only at this ⊢; omega) hv17 (by omega)) ?_
  rintro _ w18 ⟨hx18, a18, l18, c18, rfl, hv18⟩
  have hv18 : View w18 a18 l18 c18 1 (ri (run ex3M (own1 (letT ex3) [97, 98, 99, 100]))) := hv18
  rw [ex3_run] at hv18
  have hx1018 := hx1017.trans hx18
  (repeat ((conv => whnf); (first | (with_reducible first | refine jA ?_ | refine jB ?_ | refine jC ?_ | refine jD ?_) | refine jE ?_ | refine jF ?_ | refine jG ?_ | refine jH ?_ | refine jI ?_ | refine jJ ?_ | refine jK ?_ | refine jL ?_ | refine jM ?_ | refine jN ?_ | refine jO ?_ | refine jP ?_ | refine jQ ?_ | refine jR ?_ | refine jS (k := ?_) | refine jT (k := ?_)))); (conv => whnf)
  refine r_new fun d4 w19 hx19 hb19 hs19 hd4 => ?_
  have hx1019 := hx1018.trans hx19
  (repeat ((conv => whnf); (first | (with_reducible first | refine jA ?_ | refine jB ?_ | refine jC ?_ | refine jD ?_) | refine jE ?_ | refine jF ?_ | refine jG ?_ | refine jH ?_ | refine jI ?_ | refine jJ ?_ | refine jK ?_ | refine jL ?_ | refine jM ?_ | refine jN ?_ | refine jO ?_ | refine jP ?_ | refine jQ ?_ | refine jR ?_ | refine jS (k := ?_) | refine jT (k := ?_)))); (conv => whnf)
  refine r_cal (Same_ok (L := [97, 256, 100]) (hv18.ext hx19) (View.of_blk (n := 3) hd4 rfl (by simp [maxLen]))) ?_
  rintro _ w20 ⟨hx20, rfl⟩
  have hx1020 := hx1019.trans hx20
  (repeat ((conv => whnf); (first | (with_reducible first | refine jA ?_ | refine jB ?_ | refine jC ?_ | refine jD ?_) | refine jE ?_ | refine jF ?_ | refine jG ?_ | refine jH ?_ | refine jI ?_ | refine jJ ?_ | refine jK ?_ | refine jL ?_ | refine jM ?_ | refine jN ?_ | refine jO ?_ | refine jP ?_ | refine jQ ?_ | refine jR ?_ | refine jS (k := ?_) | refine jT (k := ?_)))); (conv => whnf)
  refine r_cal (Dead_ok (hC3.ext hx1020) ex3_small hM3) ?_
  rintro _ w21 ⟨hx21, a21, l21, c21, rfl, hv21⟩
  have hv21 : View w21 a21 l21 c21 1 (ri (deadL ⟨letT ex3, ex3M, []⟩ (letT ex3).length)) := hv21
  rw [ex3_dead] at hv21
  have hx1021 := hx1020.trans hx21
  (repeat ((conv => whnf); (first | (with_reducible first | refine jA ?_ | refine jB ?_ | refine jC ?_ | refine jD ?_) | refine jE ?_ | refine jF ?_ | refine jG ?_ | refine jH ?_ | refine jI ?_ | refine jJ ?_ | refine jK ?_ | refine jL ?_ | refine jM ?_ | refine jN ?_ | refine jO ?_ | refine jP ?_ | refine jQ ?_ | refine jR ?_ | refine jS (k := ?_) | refine jT (k := ?_)))); (conv => whnf)
  refine r_new fun d5 w22 hx22 hb22 hs22 hd5 => ?_
  have hx1022 := hx1021.trans hx22
  (repeat ((conv => whnf); (first | (with_reducible first | refine jA ?_ | refine jB ?_ | refine jC ?_ | refine jD ?_) | refine jE ?_ | refine jF ?_ | refine jG ?_ | refine jH ?_ | refine jI ?_ | refine jJ ?_ | refine jK ?_ | refine jL ?_ | refine jM ?_ | refine jN ?_ | refine jO ?_ | refine jP ?_ | refine jQ ?_ | refine jR ?_ | refine jS (k := ?_) | refine jT (k := ?_)))); (conv => whnf)
  refine r_cal (Same_ok (L := [259]) (hv21.ext hx22) (View.of_blk (n := 1) hd5 rfl (by simp [maxLen]))) ?_
  rintro _ w23 ⟨hx23, rfl⟩
  (repeat ((conv => whnf); (first | (with_reducible first | refine jA ?_ | refine jB ?_ | refine jC ?_ | refine jD ?_) | refine jE ?_ | refine jF ?_ | refine jG ?_ | refine jH ?_ | refine jI ?_ | refine jJ ?_ | refine jK ?_ | refine jL ?_ | refine jM ?_ | refine jN ?_ | refine jO ?_ | refine jP ?_ | refine jQ ?_ | refine jR ?_ | refine jS (k := ?_) | refine jT (k := ?_)))); (conv => whnf)
  exact ⟨hx010.trans (hx1022.trans hx23), rfl⟩
end Fb.Try.VO
