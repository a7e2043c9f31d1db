/-
  Walks: the package's rules for merges and specials; whether a vocabulary may be.
-/
import Derived.Test.YtnofndhlhbbhdaaPd
namespace Fb.Try.VO
open Go Go.Proofs Fb Fb.Bytes
def cmpI (a b : Int) : Int := if a < b then -1 else if b < a then 1 else 0
def I64 (a : Int) : Prop := -9223372036854775808 ≤ a ∧ a ≤ 9223372036854775807
structure Wfv (v : Voc) : Prop where
  mw : ∀ m ∈ v.M, I64 m.l ∧ I64 m.r ∧ I64 m.o
  sw : ∀ s ∈ v.S, I64 s.id
theorem two_ok : twoB Try.prog 143 = true := by kernel_rfl
theorem umap2 : Try.prog.underlying 140 = some (.map 143 3) := by kernel_rfl
theorem keyed2 : Maps.Keyed Try.prog 143 := Maps.Keyed.of_law (Go.deep_law_laid (by kernel_rfl) (m := 3) (by omega) (of_decide_eq_true (by kernel_rfl)) (by kernel_rfl) (by kernel_rfl))
section
variable {w w' : World} {v : Voc} {x : VA} {a : Option Addr} {len cap : Nat} {T : List (List UInt8)}
theorem nan_ok (w : World) (a : Int) : Cal Try.prog 92 ⟨[.int .i64 a]⟩ w fun v w' => w' = w ∧ v = .bool false := by
  refine go92 (by rfl) ?_
  (repeat ((conv => whnf); (first | (with_reducible first | refine jA ?_ | refine jB ?_ | refine jC ?_ | refine jD ?_) | refine jE ?_ | refine jF ?_ | refine jG ?_ | refine jH ?_ | refine jI ?_ | refine jJ ?_ | refine jK ?_ | refine jL ?_ | refine jM ?_ | refine jN ?_ | refine jO ?_ | refine jP ?_ | refine jQ ?_ | refine jR ?_ | refine jS (k := ?_) | refine jT (k := ?_)))); (conv => whnf)
  exact ⟨rfl, by simp⟩
theorem cmp_ok (w : World) (a b : Int) : Cal Try.prog 90 ⟨[.int .i64 a, .int .i64 b]⟩ w fun v w' => w' = w ∧ v = .int .i64 (cmpI a b) := by
  refine go90 (by rfl) ?_
  (repeat ((conv => whnf); (first | (with_reducible first | refine jA ?_ | refine jB ?_ | refine jC ?_ | refine jD ?_) | refine jE ?_ | refine jF ?_ | refine jG ?_ | refine jH ?_ | refine jI ?_ | refine jJ ?_ | refine jK ?_ | refine jL ?_ | refine jM ?_ | refine jN ?_ | refine jO ?_ | refine jP ?_ | refine jQ ?_ | refine jR ?_ | refine jS (k := ?_) | refine jT (k := ?_)))); (conv => whnf)
  refine r_cal (nan_ok w a) ?_
  rintro _ w1 ⟨rfl, rfl⟩
  (repeat ((conv => whnf); (first | (with_reducible first | refine jA ?_ | refine jB ?_ | refine jC ?_ | refine jD ?_) | refine jE ?_ | refine jF ?_ | refine jG ?_ | refine jH ?_ | refine jI ?_ | refine jJ ?_ | refine jK ?_ | refine jL ?_ | refine jM ?_ | refine jN ?_ | refine jO ?_ | refine jP ?_ | refine jQ ?_ | refine jR ?_ | refine jS (k := ?_) | refine jT (k := ?_)))); (conv => whnf)
  refine r_cal (nan_ok _ b) ?_
  rintro _ w2 ⟨rfl, rfl⟩
  unfold cmpI
  by_cases h1 : a < b
  · rw [if_pos h1]
    (repeat ((conv => whnf); (first | (with_reducible first | refine jA ?_ | refine jB ?_ | refine jC ?_ | refine jD ?_) | refine jE ?_ | refine jF ?_ | refine jG ?_ | refine jH ?_ | refine jI ?_ | refine jJ ?_ | refine jK ?_ | refine jL ?_ | refine jM ?_ | refine jN ?_ | refine jO ?_ | refine jP ?_ | refine jQ ?_ | refine jR ?_ | refine jS (k := ?_) | refine jT (k := ?_)))); (conv => whnf)
    exact ⟨rfl, rfl⟩
  · rw [if_neg h1]
    by_cases h2 : b < a
    · rw [if_pos h2]
      (repeat ((conv => whnf); (first | (with_reducible first | refine jA ?_ | refine jB ?_ | refine jC ?_ | refine jD ?_) | refine jE ?_ | refine jF ?_ | refine jG ?_ | refine jH ?_ | refine jI ?_ | refine jJ ?_ | refine jK ?_ | refine jL ?_ | refine jM ?_ | refine jN ?_ | refine jO ?_ | refine jP ?_ | refine jQ ?_ | refine jR ?_ | refine jS (k := ?_) | refine jT (k := ?_)))); (conv => whnf)
      exact ⟨rfl, rfl⟩
    · rw [if_neg h2]
      (repeat ((conv => whnf); (first | (with_reducible first | refine jA ?_ | refine jB ?_ | refine jC ?_ | refine jD ?_) | refine jE ?_ | refine jF ?_ | refine jG ?_ | refine jH ?_ | refine jI ?_ | refine jJ ?_ | refine jK ?_ | refine jL ?_ | refine jM ?_ | refine jN ?_ | refine jO ?_ | refine jP ?_ | refine jQ ?_ | refine jR ?_ | refine jS (k := ?_) | refine jT (k := ?_)))); (conv => whnf)
      exact ⟨rfl, rfl⟩
theorem or_ok {p q r : Int} (hv : View w a 3 cap 1 [.int .i64 p, .int .i64 q, .int .i64 r]) : Cal Try.prog 89 ⟨[.slice a 3 cap]⟩ w fun v w' => w' = w ∧ v = .int .i64 (if p ≠ 0 then p else if q ≠ 0 then q else r) := by
  have hp := hv.plain (by simp)
  refine go89 (by rfl) ?_
  (repeat ((conv => whnf); (first | (with_reducible first | refine jA ?_ | refine jB ?_ | refine jC ?_ | refine jD ?_) | refine jE ?_ | refine jF ?_ | refine jG ?_ | refine jH ?_ | refine jI ?_ | refine jJ ?_ | refine jK ?_ | refine jL ?_ | refine jM ?_ | refine jN ?_ | refine jO ?_ | refine jP ?_ | refine jQ ?_ | refine jR ?_ | refine jS (k := ?_) | refine jT (k := ?_)))); (conv => whnf)
  refine r_loop (σ := Nat) (fun i => [.int .i64 (i : Int)]) (fun i w' => i ≤ 3 ∧ w' = w ∧ (0 < i → p = 0) ∧ (1 < i → q = 0) ∧ (2 < i → r = 0)) (fun i _ => 3 - i) 0 rfl ⟨by omega, rfl, fun h => by omega, fun h => by omega, fun h => by omega⟩ ?_
  rintro i w1 again ⟨hi, rfl, h0, h1, h2⟩ hagain
  have hi' : i = 0 ∨ i = 1 ∨ i = 2 ∨ i = 3 := by omega
  rcases hi' with rfl | rfl | rfl | rfl
  · (repeat ((conv => whnf); (first | (with_reducible first | refine jA ?_ | refine jB ?_ | refine jC ?_ | refine jD ?_) | refine jE ?_ | refine jF ?_ | refine jG ?_ | refine jH ?_ | refine jI ?_ | refine jJ ?_ | refine jK ?_ | refine jL ?_ | refine jM ?_ | refine jN ?_ | refine jO ?_ | refine jP ?_ | refine jQ ?_ | refine jR ?_ | refine jS (k := ?_) | refine jT (k := ?_)))); (conv => whnf)
    refine r_ldv (j := 0) (v := .int .i64 p) hv rfl ?_
    by_cases c : p = 0
    · (repeat ((conv => whnf); (first | (with_reducible first | refine jA ?_ | refine jB ?_ | refine jC ?_ | refine jD ?_) | refine jE ?_ | refine jF ?_ | refine jG ?_ | refine jH ?_ | refine jI ?_ | refine jJ ?_ | refine jK ?_ | refine jL ?_ | refine jM ?_ | refine jN ?_ | refine jO ?_ | refine jP ?_ | refine jQ ?_ | refine jR ?_ | refine jS (k := ?_) | refine jT (k := ?_)))); (conv => whnf)
      exact hagain 1 _ ⟨by omega, rfl, fun _ => c, fun h => by omega, fun h => by omega⟩ (by omega)
    · rw [if_pos c]
      (repeat ((conv => whnf); (first | (with_reducible first | refine jA ?_ | refine jB ?_ | refine jC ?_ | refine jD ?_) | refine jE ?_ | refine jF ?_ | refine jG ?_ | refine jH ?_ | refine jI ?_ | refine jJ ?_ | refine jK ?_ | refine jL ?_ | refine jM ?_ | refine jN ?_ | refine jO ?_ | refine jP ?_ | refine jQ ?_ | refine jR ?_ | refine jS (k := ?_) | refine jT (k := ?_)))); (conv => whnf)
      exact ⟨rfl, rfl⟩
  · (repeat ((conv => whnf); (first | (with_reducible first | refine jA ?_ | refine jB ?_ | refine jC ?_ | refine jD ?_) | refine jE ?_ | refine jF ?_ | refine jG ?_ | refine jH ?_ | refine jI ?_ | refine jJ ?_ | refine jK ?_ | refine jL ?_ | refine jM ?_ | refine jN ?_ | refine jO ?_ | refine jP ?_ | refine jQ ?_ | refine jR ?_ | refine jS (k := ?_) | refine jT (k := ?_)))); (conv => whnf)
    refine r_ldv (j := 1) (v := .int .i64 q) hv rfl ?_
    have c0 := h0 (by omega)
    by_cases c : q = 0
    · (repeat ((conv => whnf); (first | (with_reducible first | refine jA ?_ | refine jB ?_ | refine jC ?_ | refine jD ?_) | refine jE ?_ | refine jF ?_ | refine jG ?_ | refine jH ?_ | refine jI ?_ | refine jJ ?_ | refine jK ?_ | refine jL ?_ | refine jM ?_ | refine jN ?_ | refine jO ?_ | refine jP ?_ | refine jQ ?_ | refine jR ?_ | refine jS (k := ?_) | refine jT (k := ?_)))); (conv => whnf)
      exact hagain 2 _ ⟨by omega, rfl, fun _ => c0, fun _ => c, fun h => by omega⟩ (by omega)
    · rw [if_neg (by simpa using c0), if_pos c]
      (repeat ((conv => whnf); (first | (with_reducible first | refine jA ?_ | refine jB ?_ | refine jC ?_ | refine jD ?_) | refine jE ?_ | refine jF ?_ | refine jG ?_ | refine jH ?_ | refine jI ?_ | refine jJ ?_ | refine jK ?_ | refine jL ?_ | refine jM ?_ | refine jN ?_ | refine jO ?_ | refine jP ?_ | refine jQ ?_ | refine jR ?_ | refine jS (k := ?_) | refine jT (k := ?_)))); (conv => whnf)
      exact ⟨rfl, rfl⟩
  · (repeat ((conv => whnf); (first | (with_reducible first | refine jA ?_ | refine jB ?_ | refine jC ?_ | refine jD ?_) | refine jE ?_ | refine jF ?_ | refine jG ?_ | refine jH ?_ | refine jI ?_ | refine jJ ?_ | refine jK ?_ | refine jL ?_ | refine jM ?_ | refine jN ?_ | refine jO ?_ | refine jP ?_ | refine jQ ?_ | refine jR ?_ | refine jS (k := ?_) | refine jT (k := ?_)))); (conv => whnf)
    refine r_ldv (j := 2) (v := .int .i64 r) hv rfl ?_
    have c0 := h0 (by omega)
    have c1 := h1 (by omega)
    by_cases c : r = 0
    · (repeat ((conv => whnf); (first | (with_reducible first | refine jA ?_ | refine jB ?_ | refine jC ?_ | refine jD ?_) | refine jE ?_ | refine jF ?_ | refine jG ?_ | refine jH ?_ | refine jI ?_ | refine jJ ?_ | refine jK ?_ | refine jL ?_ | refine jM ?_ | refine jN ?_ | refine jO ?_ | refine jP ?_ | refine jQ ?_ | refine jR ?_ | refine jS (k := ?_) | refine jT (k := ?_)))); (conv => whnf)
      exact hagain 3 _ ⟨by omega, rfl, fun _ => c0, fun _ => c1, fun _ => c⟩ (by omega)
    · rw [if_neg (by simpa using c0), if_neg (by simpa using c1)]
      (repeat ((conv => whnf); (first | (with_reducible first | refine jA ?_ | refine jB ?_ | refine jC ?_ | refine jD ?_) | refine jE ?_ | refine jF ?_ | refine jG ?_ | refine jH ?_ | refine jI ?_ | refine jJ ?_ | refine jK ?_ | refine jL ?_ | refine jM ?_ | refine jN ?_ | refine jO ?_ | refine jP ?_ | refine jQ ?_ | refine jR ?_ | refine jS (k := ?_) | refine jT (k := ?_)))); (conv => whnf)
      exact ⟨rfl, rfl⟩
  · have c0 := h0 (by omega)
    have c1 := h1 (by omega)
    have c2 := h2 (by omega)
    rw [if_neg (by simpa using c0), if_neg (by simpa using c1), c2]
    (repeat ((conv => whnf); (first | (with_reducible first | refine jA ?_ | refine jB ?_ | refine jC ?_ | refine jD ?_) | refine jE ?_ | refine jF ?_ | refine jG ?_ | refine jH ?_ | refine jI ?_ | refine jJ ?_ | refine jK ?_ | refine jL ?_ | refine jM ?_ | refine jN ?_ | refine jO ?_ | refine jP ?_ | refine jQ ?_ | refine jR ?_ | refine jS (k := ?_) | refine jT (k := ?_)))); (conv => whnf)
    exact ⟨rfl, rfl⟩
theorem order_ok (w : World) (m n : Mg) : Cal Try.prog 86 ⟨[.agg ⟨m.cells⟩, .agg ⟨n.cells⟩]⟩ w fun v w' => Ext w w' ∧ ∃ c, v = .int .i64 c ∧ (0 ≤ c ↔ ¬ Ahead m n) := by
  refine go86 (by rfl) ?_
  (repeat ((conv => whnf); (first | (with_reducible first | refine jA ?_ | refine jB ?_ | refine jC ?_ | refine jD ?_) | refine jE ?_ | refine jF ?_ | refine jG ?_ | refine jH ?_ | refine jI ?_ | refine jJ ?_ | refine jK ?_ | refine jL ?_ | refine jM ?_ | refine jN ?_ | refine jO ?_ | refine jP ?_ | refine jQ ?_ | refine jR ?_ | refine jS (k := ?_) | refine jT (k := ?_)))); (conv => whnf)
  refine r_new fun p w1 hx1 hb1 hs1 hblk1 => ?_
  have hblk1 : Blk w1 p 57 [.int .i64 m.l, .int .i64 m.r, .int .i64 m.o, .int .i64 m.d] := hblk1
  (repeat ((conv => whnf); (first | (with_reducible first | refine jA ?_ | refine jB ?_ | refine jC ?_ | refine jD ?_) | refine jE ?_ | refine jF ?_ | refine jG ?_ | refine jH ?_ | refine jI ?_ | refine jJ ?_ | refine jK ?_ | refine jL ?_ | refine jM ?_ | refine jN ?_ | refine jO ?_ | refine jP ?_ | refine jQ ?_ | refine jR ?_ | refine jS (k := ?_) | refine jT (k := ?_)))); (conv => whnf)
  refine r_new fun q w2 hx2 hb2 hs2 hblk2 => ?_
  have hblk2 : Blk w2 q 57 [.int .i64 n.l, .int .i64 n.r, .int .i64 n.o, .int .i64 n.d] := hblk2
  have hblk1 := hblk1.ext hx2
  have hx02 := hx1.trans hx2
  (repeat ((conv => whnf); (first | (with_reducible first | refine jA ?_ | refine jB ?_ | refine jC ?_ | refine jD ?_) | refine jE ?_ | refine jF ?_ | refine jG ?_ | refine jH ?_ | refine jI ?_ | refine jJ ?_ | refine jK ?_ | refine jL ?_ | refine jM ?_ | refine jN ?_ | refine jO ?_ | refine jP ?_ | refine jQ ?_ | refine jR ?_ | refine jS (k := ?_) | refine jT (k := ?_)))); (conv => whnf)
  refine r_drawE fun w3 hx3 hh3 => ?_
  (repeat ((conv => whnf); (first | (with_reducible first | refine jA ?_ | refine jB ?_ | refine jC ?_ | refine jD ?_) | refine jE ?_ | refine jF ?_ | refine jG ?_ | refine jH ?_ | refine jI ?_ | refine jJ ?_ | refine jK ?_ | refine jL ?_ | refine jM ?_ | refine jN ?_ | refine jO ?_ | refine jP ?_ | refine jQ ?_ | refine jR ?_ | refine jS (k := ?_) | refine jT (k := ?_)))); (conv => whnf)
  refine r_cal (cmp_ok w3 m.d n.d) ?_
  rintro _ w4 ⟨rfl, rfl⟩
  (repeat ((conv => whnf); (first | (with_reducible first | refine jA ?_ | refine jB ?_ | refine jC ?_ | refine jD ?_) | refine jE ?_ | refine jF ?_ | refine jG ?_ | refine jH ?_ | refine jI ?_ | refine jJ ?_ | refine jK ?_ | refine jL ?_ | refine jM ?_ | refine jN ?_ | refine jO ?_ | refine jP ?_ | refine jQ ?_ | refine jR ?_ | refine jS (k := ?_) | refine jT (k := ?_)))); (conv => whnf)
  refine r_held hx3 ?_
  (repeat ((conv => whnf); (first | (with_reducible first | refine jA ?_ | refine jB ?_ | refine jC ?_ | refine jD ?_) | refine jE ?_ | refine jF ?_ | refine jG ?_ | refine jH ?_ | refine jI ?_ | refine jJ ?_ | refine jK ?_ | refine jL ?_ | refine jM ?_ | refine jN ?_ | refine jO ?_ | refine jP ?_ | refine jQ ?_ | refine jR ?_ | refine jS (k := ?_) | refine jT (k := ?_)))); (conv => whnf)
  refine r_cal (cmp_ok _ m.l n.l) ?_
  rintro _ w5 ⟨rfl, rfl⟩
  (repeat ((conv => whnf); (first | (with_reducible first | refine jA ?_ | refine jB ?_ | refine jC ?_ | refine jD ?_) | refine jE ?_ | refine jF ?_ | refine jG ?_ | refine jH ?_ | refine jI ?_ | refine jJ ?_ | refine jK ?_ | refine jL ?_ | refine jM ?_ | refine jN ?_ | refine jO ?_ | refine jP ?_ | refine jQ ?_ | refine jR ?_ | refine jS (k := ?_) | refine jT (k := ?_)))); (conv => whnf)
  refine r_held hx3 ?_
  (repeat ((conv => whnf); (first | (with_reducible first | refine jA ?_ | refine jB ?_ | refine jC ?_ | refine jD ?_) | refine jE ?_ | refine jF ?_ | refine jG ?_ | refine jH ?_ | refine jI ?_ | refine jJ ?_ | refine jK ?_ | refine jL ?_ | refine jM ?_ | refine jN ?_ | refine jO ?_ | refine jP ?_ | refine jQ ?_ | refine jR ?_ | refine jS (k := ?_) | refine jT (k := ?_)))); (conv => whnf)
  refine r_cal (cmp_ok _ m.r n.r) ?_
  rintro _ w6 ⟨rfl, rfl⟩
  (repeat ((conv => whnf); (first | (with_reducible first | refine jA ?_ | refine jB ?_ | refine jC ?_ | refine jD ?_) | refine jE ?_ | refine jF ?_ | refine jG ?_ | refine jH ?_ | refine jI ?_ | refine jJ ?_ | refine jK ?_ | refine jL ?_ | refine jM ?_ | refine jN ?_ | refine jO ?_ | refine jP ?_ | refine jQ ?_ | refine jR ?_ | refine jS (k := ?_) | refine jT (k := ?_)))); (conv => whnf)
  refine r_held hx3 ?_
  (repeat ((conv => whnf); (first | (with_reducible first | refine jA ?_ | refine jB ?_ | refine jC ?_ | refine jD ?_) | refine jE ?_ | refine jF ?_ | refine jG ?_ | refine jH ?_ | refine jI ?_ | refine jJ ?_ | refine jK ?_ | refine jL ?_ | refine jM ?_ | refine jN ?_ | refine jO ?_ | refine jP ?_ | refine jQ ?_ | refine jR ?_ | refine jS (k := ?_) | refine jT (k := ?_)))); (conv => whnf)
  refine r_new fun b7 w7 hx7 hb7 hs7 hblk7 => ?_
  have y7 := hx3.trans hx7
  (repeat ((conv => whnf); (first | (with_reducible first | refine jA ?_ | refine jB ?_ | refine jC ?_ | refine jD ?_) | refine jE ?_ | refine jF ?_ | refine jG ?_ | refine jH ?_ | refine jI ?_ | refine jJ ?_ | refine jK ?_ | refine jL ?_ | refine jM ?_ | refine jN ?_ | refine jO ?_ | refine jP ?_ | refine jQ ?_ | refine jR ?_ | refine jS (k := ?_) | refine jT (k := ?_)))); (conv => whnf)
  refine r_held y7 ?_
  (repeat ((conv => whnf); (first | (with_reducible first | refine jA ?_ | refine jB ?_ | refine jC ?_ | refine jD ?_) | refine jE ?_ | refine jF ?_ | refine jG ?_ | refine jH ?_ | refine jI ?_ | refine jJ ?_ | refine jK ?_ | refine jL ?_ | refine jM ?_ | refine jN ?_ | refine jO ?_ | refine jP ?_ | refine jQ ?_ | refine jR ?_ | refine jS (k := ?_) | refine jT (k := ?_)))); (conv => whnf)
  refine r_cal (or_ok (View.of_blk (n := 3) hblk7 rfl (by simp [maxLen]))) ?_
  rintro _ w8 ⟨rfl, rfl⟩
  (repeat ((conv => whnf); (first | (with_reducible first | refine jA ?_ | refine jB ?_ | refine jC ?_ | refine jD ?_) | refine jE ?_ | refine jF ?_ | refine jG ?_ | refine jH ?_ | refine jI ?_ | refine jJ ?_ | refine jK ?_ | refine jL ?_ | refine jM ?_ | refine jN ?_ | refine jO ?_ | refine jP ?_ | refine jQ ?_ | refine jR ?_ | refine jS (k := ?_) | refine jT (k := ?_)))); (conv => whnf)
  refine r_held y7 ?_
  (repeat ((conv => whnf); (first | (with_reducible first | refine jA ?_ | refine jB ?_ | refine jC ?_ | refine jD ?_) | refine jE ?_ | refine jF ?_ | refine jG ?_ | refine jH ?_ | refine jI ?_ | refine jJ ?_ | refine jK ?_ | refine jL ?_ | refine jM ?_ | refine jN ?_ | refine jO ?_ | refine jP ?_ | refine jQ ?_ | refine jR ?_ | refine jS (k := ?_) | refine jT (k := ?_)))); (conv => whnf)
  refine ⟨hx02.trans y7, _, rfl, ?_⟩
  unfold cmpI Ahead
  repeat' split
  all_goals omega
theorem vis_ok (hv : View w a len cap 1 (tv T)) (i : Int) : Cal Try.prog 85 ⟨[.slice a len cap, .int .i64 i]⟩ w fun v w' => w' = w ∧ ∃ b, v = .bool b ∧ (b = true ↔ IsT T i) := by
  have hl := tv_lens hv
  refine go85 (by rfl) ?_
  by_cases h0 : 0 ≤ i
  · by_cases h1 : i < len
    · obtain ⟨k, rfl⟩ : ∃ k : Nat, i = k := ⟨i.toNat, by omega⟩
      have hp := hv.plain (by rw [tv_len]; omega)
      (repeat ((conv => whnf); (first | (with_reducible first | refine jA ?_ | refine jB ?_ | refine jC ?_ | refine jD ?_) | refine jE ?_ | refine jF ?_ | refine jG ?_ | refine jH ?_ | refine jI ?_ | refine jJ ?_ | refine jK ?_ | refine jL ?_ | refine jM ?_ | refine jN ?_ | refine jO ?_ | refine jP ?_ | refine jQ ?_ | refine jR ?_ | refine jS (k := ?_) | refine jT (k := ?_)))); (conv => whnf)
      refine r_ldv (j := (k : Int).toNat * 1) hv (by simpa using tv_get (i := k) (by omega)) ?_
      (repeat ((conv => whnf); (first | (with_reducible first | refine jA ?_ | refine jB ?_ | refine jC ?_ | refine jD ?_) | refine jE ?_ | refine jF ?_ | refine jG ?_ | refine jH ?_ | refine jI ?_ | refine jJ ?_ | refine jK ?_ | refine jL ?_ | refine jM ?_ | refine jN ?_ | refine jO ?_ | refine jP ?_ | refine jQ ?_ | refine jR ?_ | refine jS (k := ?_) | refine jT (k := ?_)))); (conv => whnf)
      refine ⟨rfl, _, rfl, ?_⟩
      rw [b0, eqb_dec]
      unfold IsT
      simp
      intro _
      omega
    · (repeat ((conv => whnf); (first | (with_reducible first | refine jA ?_ | refine jB ?_ | refine jC ?_ | refine jD ?_) | refine jE ?_ | refine jF ?_ | refine jG ?_ | refine jH ?_ | refine jI ?_ | refine jJ ?_ | refine jK ?_ | refine jL ?_ | refine jM ?_ | refine jN ?_ | refine jO ?_ | refine jP ?_ | refine jQ ?_ | refine jR ?_ | refine jS (k := ?_) | refine jT (k := ?_)))); (conv => whnf)
      exact ⟨rfl, _, rfl, ff_iff fun h => by have := h.2.1; omega⟩
  · (repeat ((conv => whnf); (first | (with_reducible first | refine jA ?_ | refine jB ?_ | refine jC ?_ | refine jD ?_) | refine jE ?_ | refine jF ?_ | refine jG ?_ | refine jH ?_ | refine jI ?_ | refine jJ ?_ | refine jK ?_ | refine jL ?_ | refine jM ?_ | refine jN ?_ | refine jO ?_ | refine jP ?_ | refine jQ ?_ | refine jR ?_ | refine jS (k := ?_) | refine jT (k := ?_)))); (conv => whnf)
    exact ⟨rfl, _, rfl, ff_iff fun h => h0 h.1⟩
/-- What a map of counts tells. -/
structure CnM (O : Nat → Int) (i : Nat) (f : Value → Option Value) : Prop where
  yes : ∀ k, k < i → ∃ c : Nat, 1 ≤ c ∧ c ≤ i ∧ f (.int .i64 (O k)) = some (.int .i64 (c : Int))
  no : ∀ p : Int, (∀ k, k < i → O k ≠ p) → f (.int .i64 p) = none
  key : ∀ key, f key ≠ none → ∃ k, k < i ∧ key = .int .i64 (O k)
theorem CnM.cases {O : Nat → Int} {i : Nat} {f : Value → Option Value} (h : CnM O i f) (p : Int) : ∃ c : Nat, c ≤ i ∧ (f (.int .i64 p)).getD (.int .i64 0) = .int .i64 (c : Int) ∧ (0 < c ↔ ∃ k, k < i ∧ O k = p) := by
  by_cases hx : ∃ k, k < i ∧ O k = p
  · obtain ⟨k, hk, rfl⟩ := hx
    obtain ⟨c, h1, h2, h3⟩ := h.yes k hk
    exact ⟨c, h2, by rw [h3]; rfl, ⟨fun _ => ⟨k, hk, rfl⟩, fun _ => by omega⟩⟩
  · refine ⟨0, by omega, by rw [h.no p fun k hk e => hx ⟨k, hk, e⟩]; rfl, ⟨fun h => by omega, fun h => absurd h hx⟩⟩
theorem CnM.nil (O : Nat → Int) : CnM O 0 (fun _ => none) := ⟨fun k hk => by omega, fun _ _ => rfl, fun _ hk => absurd rfl hk⟩
theorem CnM.step {O : Nat → Int} {i c : Nat} {f : Value → Option Value} (h : CnM O i f) (hc : c ≤ i) : CnM O (i + 1) (upd f (.int .i64 (O i)) (some (.int .i64 ((c : Int) + 1)))) := by
  refine ⟨fun k hk => ?_, fun p hp => ?_, fun key hk => ?_⟩
  · rw [QU.upd_int]
    by_cases he : O k = O i
    · rw [if_pos he]
      exact ⟨c + 1, by omega, by omega, by simp⟩
    · rw [if_neg he]
      obtain ⟨d, h1, h2, h3⟩ := h.yes k (by
        have : k ≠ i := fun e => he (by rw [e])
        omega)
      exact ⟨d, h1, by omega, h3⟩
  · rw [QU.upd_int, if_neg fun e => hp i (by omega) e.symm]
    exact h.no p fun k hk => hp k (by omega)
  · by_cases he : key = .int .i64 (O i)
    · exact ⟨i, by omega, he⟩
    · rw [upd_ne _ _ he] at hk
      obtain ⟨k, h1, h2⟩ := h.key key hk
      exact ⟨k, by omega, h2⟩
theorem CnM.list {O : Nat → Int} {i : Nat} {f : Value → Option Value} (h : CnM O i f) : ∀ key, f key ≠ none → key ∈ (List.range i).map fun k => Value.int .i64 (O k) := fun key hk => by
  obtain ⟨k, h1, h2⟩ := h.key key hk
  exact List.mem_map.2 ⟨k, by simpa using h1, h2.symm⟩
set_option maxHeartbeats 1000000 in
theorem made_ok (h : IsV w v x) (hs : Small v) (hw : Wfv v) : Cal Try.prog 74 ⟨[.agg ⟨vcs x⟩]⟩ w fun u w' => Ext w w' ∧ ∃ b, u = .bool b ∧ (b = true ↔ MadeOk v.T v.M) := by
  obtain ⟨hlT, hlM, hlS⟩ := h.lens
  have hnt := hs.nt
  have hnm := hs.nm
  refine go74 (by rfl) ?_
  (repeat ((conv => whnf); (first | (with_reducible first | refine jA ?_ | refine jB ?_ | refine jC ?_ | refine jD ?_) | refine jE ?_ | refine jF ?_ | refine jG ?_ | refine jH ?_ | refine jI ?_ | refine jJ ?_ | refine jK ?_ | refine jL ?_ | refine jM ?_ | refine jN ?_ | refine jO ?_ | refine jP ?_ | refine jQ ?_ | refine jR ?_ | refine jS (k := ?_) | refine jT (k := ?_)))); (conv => whnf)
  refine r_new fun p w1 hx1 hb1 hs1 hblk => ?_
  have hblk : Blk w1 p 50 [.slice x.aT x.lT x.cT, .slice x.aM x.lM x.cM, .slice x.aS x.lS x.cS] := hblk
  (repeat ((conv => whnf); (first | (with_reducible first | refine jA ?_ | refine jB ?_ | refine jC ?_ | refine jD ?_) | refine jE ?_ | refine jF ?_ | refine jG ?_ | refine jH ?_ | refine jI ?_ | refine jJ ?_ | refine jK ?_ | refine jL ?_ | refine jM ?_ | refine jN ?_ | refine jO ?_ | refine jP ?_ | refine jQ ?_ | refine jR ?_ | refine jS (k := ?_) | refine jT (k := ?_)))); (conv => whnf)
  refine r_makeMap (k := 3) fun w2 hx2 hs2 hm2 => ?_
  have hblk := hblk.ext hx2
  have hx02 := hx1.trans hx2
  have hz1 := hx1.size
  have hmbn : w.heap.size ≤ w1.heap.size := hz1
  generalize w1.heap.size = mb at hm2 hmbn ⊢
  (repeat ((conv => whnf); (first | (with_reducible first | refine jA ?_ | refine jB ?_ | refine jC ?_ | refine jD ?_) | refine jE ?_ | refine jF ?_ | refine jG ?_ | refine jH ?_ | refine jI ?_ | refine jJ ?_ | refine jK ?_ | refine jL ?_ | refine jM ?_ | refine jN ?_ | refine jO ?_ | refine jP ?_ | refine jQ ?_ | refine jR ?_ | refine jS (k := ?_) | refine jT (k := ?_)))); (conv => whnf)
  refine r_loop (σ := Nat) (fun i => [.int .i64 (i : Int)]) (fun i w' => i ≤ x.lM ∧ Ext w w' ∧ Blk w' p 50 [.slice x.aT x.lT x.cT, .slice x.aM x.lM x.cM, .slice x.aS x.lS x.cS] ∧ ∃ f, MapV Try.prog 3 w' mb f ∧ CnM (fun k => (gm v.M k).o) i f) (fun i _ => x.lM - i) 0 rfl ⟨by omega, hx02, hblk, _, hm2, CnM.nil _⟩ ?_
  clear hm2 hblk
  rintro i w3 again ⟨hi, hx3, hblk, f, hm, hcn⟩ hagain
  have h3 := h.ext hx3
  by_cases hil : i < x.lM
  · have hpm := h3.m.plain (by rw [mv_len]; omega)
    have hwf := hw.mw _ (gm_mem.2 ⟨i, by omega, rfl⟩)
    (repeat ((conv => whnf); (first | (with_reducible first | refine jA ?_ | refine jB ?_ | refine jC ?_ | refine jD ?_) | refine jE ?_ | refine jF ?_ | refine jG ?_ | refine jH ?_ | refine jI ?_ | refine jJ ?_ | refine jK ?_ | refine jL ?_ | refine jM ?_ | refine jN ?_ | refine jO ?_ | refine jP ?_ | refine jQ ?_ | refine jR ?_ | refine jS (k := ?_) | refine jT (k := ?_)))); (conv => whnf)
    refine r_ldnv (j := (i : Int).toNat * 4) (vs := (gm v.M i).cells) h3.m (mv_ent (by omega)) rfl ?_
    (repeat ((conv => whnf); (first | (with_reducible first | refine jA ?_ | refine jB ?_ | refine jC ?_ | refine jD ?_) | refine jE ?_ | refine jF ?_ | refine jG ?_ | refine jH ?_ | refine jI ?_ | refine jJ ?_ | refine jK ?_ | refine jL ?_ | refine jM ?_ | refine jN ?_ | refine jO ?_ | refine jP ?_ | refine jQ ?_ | refine jR ?_ | refine jS (k := ?_) | refine jT (k := ?_)))); (conv => whnf)
    refine r_new fun bm w4 hx4 hb4 hs4 hblk4 => ?_
    (repeat ((conv => whnf); (first | (with_reducible first | refine jA ?_ | refine jB ?_ | refine jC ?_ | refine jD ?_) | refine jE ?_ | refine jF ?_ | refine jG ?_ | refine jH ?_ | refine jI ?_ | refine jJ ?_ | refine jK ?_ | refine jL ?_ | refine jM ?_ | refine jN ?_ | refine jO ?_ | refine jP ?_ | refine jQ ?_ | refine jR ?_ | refine jS (k := ?_) | refine jT (k := ?_)))); (conv => whnf)
    refine r_stn hblk4 (by simp [Mg.cells]) (mg_one _) fun w5 hc5 hs5 hm5 => ?_
    have hm5 : Blk w5 bm 57 [.int .i64 (gm v.M i).l, .int .i64 (gm v.M i).r, .int .i64 (gm v.M i).o, .int .i64 (gm v.M i).d] := hm5
    have hx35 : Ext w3 w5 := Chg.step hx4 hc5 fun k hk hlt => by omega
    obtain ⟨c, hc1, hc2, -⟩ := hcn.cases (gm v.M i).o
    (repeat ((conv => whnf); (first | (with_reducible first | refine jA ?_ | refine jB ?_ | refine jC ?_ | refine jD ?_) | refine jE ?_ | refine jF ?_ | refine jG ?_ | refine jH ?_ | refine jI ?_ | refine jJ ?_ | refine jK ?_ | refine jL ?_ | refine jM ?_ | refine jN ?_ | refine jO ?_ | refine jP ?_ | refine jQ ?_ | refine jR ?_ | refine jS (k := ?_) | refine jT (k := ?_)))); (conv => whnf)
    refine r_look1 (hm.ext hx35) QU.keyed QU.umap QU.zint (QU.key_of hwf.2.2) ?_
    rw [hc2]
    (repeat ((conv => whnf); (first | (with_reducible first | refine jA ?_ | refine jB ?_ | refine jC ?_ | refine jD ?_) | refine jE ?_ | refine jF ?_ | refine jG ?_ | refine jH ?_ | refine jI ?_ | refine jJ ?_ | refine jK ?_ | refine jL ?_ | refine jM ?_ | refine jN ?_ | refine jO ?_ | refine jP ?_ | refine jQ ?_ | refine jR ?_ | refine jS (k := ?_) | refine jT (k := ?_)))); (conv => whnf)
    refine r_mapSet (hm.ext hx35) QU.keyed QU.umap _ hcn.list (by simp [maxLen]; omega) (QU.key_of hwf.2.2) fun w6 hc6 hs6 hm6 => ?_
    (repeat ((conv => whnf); (first | (with_reducible first | refine jA ?_ | refine jB ?_ | refine jC ?_ | refine jD ?_) | refine jE ?_ | refine jF ?_ | refine jG ?_ | refine jH ?_ | refine jI ?_ | refine jJ ?_ | refine jK ?_ | refine jL ?_ | refine jM ?_ | refine jN ?_ | refine jO ?_ | refine jP ?_ | refine jQ ?_ | refine jR ?_ | refine jS (k := ?_) | refine jT (k := ?_)))); (conv => whnf)
    exact hagain (i + 1) w6 ⟨by omega, Chg.step (hx3.trans hx35) hc6 fun k hk hlt => by omega, (hblk.ext hx35).keep hc6 (hm.ne hblk), _, hm6, hcn.step hc1⟩ (by omega)
  · have hix : i = v.M.length := by omega
    subst hix
    (repeat ((conv => whnf); (first | (with_reducible first | refine jA ?_ | refine jB ?_ | refine jC ?_ | refine jD ?_) | refine jE ?_ | refine jF ?_ | refine jG ?_ | refine jH ?_ | refine jI ?_ | refine jJ ?_ | refine jK ?_ | refine jL ?_ | refine jM ?_ | refine jN ?_ | refine jO ?_ | refine jP ?_ | refine jQ ?_ | refine jR ?_ | refine jS (k := ?_) | refine jT (k := ?_)))); (conv => whnf)
    refine r_loop (σ := Nat) (fun j => [.int .i64 (j : Int)]) (fun j w' => j ≤ x.lT ∧ w' = w3 ∧ ∀ k : Nat, k < j → (tk v.T k).length < 2 ∨ ∃ m ∈ v.M, m.o = k) (fun j _ => x.lT - j) 0 rfl ⟨by omega, rfl, fun k hk => by omega⟩ ?_
    rintro j w4 again2 ⟨hj, rfl, hall⟩ hagain2
    by_cases hjl : j < x.lT
    · have hpt := h3.t.plain (by rw [tv_len]; omega)
      have hsz := bstr_size (tk v.T j)
      have hl80 := tk_len hs.tl (j : Int)
      (repeat ((conv => whnf); (first | (with_reducible first | refine jA ?_ | refine jB ?_ | refine jC ?_ | refine jD ?_) | refine jE ?_ | refine jF ?_ | refine jG ?_ | refine jH ?_ | refine jI ?_ | refine jJ ?_ | refine jK ?_ | refine jL ?_ | refine jM ?_ | refine jN ?_ | refine jO ?_ | refine jP ?_ | refine jQ ?_ | refine jR ?_ | refine jS (k := ?_) | refine jT (k := ?_)))); (conv => whnf)
      refine r_ldv (j := (j : Int).toNat * 1) h3.t (by simpa using tv_get (T := v.T) (i := j) (by omega)) ?_
      (repeat ((conv => whnf); (first | (with_reducible first | refine jA ?_ | refine jB ?_ | refine jC ?_ | refine jD ?_) | refine jE ?_ | refine jF ?_ | refine jG ?_ | refine jH ?_ | refine jI ?_ | refine jJ ?_ | refine jK ?_ | refine jL ?_ | refine jM ?_ | refine jN ?_ | refine jO ?_ | refine jP ?_ | refine jQ ?_ | refine jR ?_ | refine jS (k := ?_) | refine jT (k := ?_)))); (conv => whnf)
      by_cases c1 : 1 < (tk v.T j).length
      · obtain ⟨c, hc1, hc2, hc3⟩ := hcn.cases (j : Int)
        (repeat ((conv => whnf); (first | (with_reducible first | refine jA ?_ | refine jB ?_ | refine jC ?_ | refine jD ?_) | refine jE ?_ | refine jF ?_ | refine jG ?_ | refine jH ?_ | refine jI ?_ | refine jJ ?_ | refine jK ?_ | refine jL ?_ | refine jM ?_ | refine jN ?_ | refine jO ?_ | refine jP ?_ | refine jQ ?_ | refine jR ?_ | refine jS (k := ?_) | refine jT (k := ?_)))); (conv => whnf)
        refine r_look1 hm QU.keyed QU.umap QU.zint (QU.key_of (by omega)) ?_
        rw [hc2]
        by_cases hc0 : c = 0
        · subst hc0
          (repeat ((conv => whnf); (first | (with_reducible first | refine jA ?_ | refine jB ?_ | refine jC ?_ | refine jD ?_) | refine jE ?_ | refine jF ?_ | refine jG ?_ | refine jH ?_ | refine jI ?_ | refine jJ ?_ | refine jK ?_ | refine jL ?_ | refine jM ?_ | refine jN ?_ | refine jO ?_ | refine jP ?_ | refine jQ ?_ | refine jR ?_ | refine jS (k := ?_) | refine jT (k := ?_)))); (conv => whnf)
          refine ⟨hx3, false, rfl, ff_iff fun hh => ?_⟩
          rcases hh j (by omega) with h1 | ⟨m, h1, h2⟩
          · omega
          · obtain ⟨k, hk, rfl⟩ := gm_mem.1 h1
            have := hc3.2 ⟨k, by omega, h2⟩
            omega
        · (repeat ((conv => whnf); (first | (with_reducible first | refine jA ?_ | refine jB ?_ | refine jC ?_ | refine jD ?_) | refine jE ?_ | refine jF ?_ | refine jG ?_ | refine jH ?_ | refine jI ?_ | refine jJ ?_ | refine jK ?_ | refine jL ?_ | refine jM ?_ | refine jN ?_ | refine jO ?_ | refine jP ?_ | refine jQ ?_ | refine jR ?_ | refine jS (k := ?_) | refine jT (k := ?_)))); (conv => whnf)
          refine hagain2 (j + 1) _ ⟨by omega, rfl, fun k hk => ?_⟩ (by omega)
          by_cases hkj : k = j
          · subst hkj
            obtain ⟨m, h1, h2⟩ := hc3.1 (by omega)
            exact .inr ⟨_, gm_mem.2 ⟨m, by omega, rfl⟩, h2⟩
          · exact hall k (by omega)
      · (repeat ((conv => whnf); (first | (with_reducible first | refine jA ?_ | refine jB ?_ | refine jC ?_ | refine jD ?_) | refine jE ?_ | refine jF ?_ | refine jG ?_ | refine jH ?_ | refine jI ?_ | refine jJ ?_ | refine jK ?_ | refine jL ?_ | refine jM ?_ | refine jN ?_ | refine jO ?_ | refine jP ?_ | refine jQ ?_ | refine jR ?_ | refine jS (k := ?_) | refine jT (k := ?_)))); (conv => whnf)
        refine hagain2 (j + 1) _ ⟨by omega, rfl, fun k hk => ?_⟩ (by omega)
        by_cases hkj : k = j
        · subst hkj; exact .inl (by omega)
        · exact hall k (by omega)
    · (repeat ((conv => whnf); (first | (with_reducible first | refine jA ?_ | refine jB ?_ | refine jC ?_ | refine jD ?_) | refine jE ?_ | refine jF ?_ | refine jG ?_ | refine jH ?_ | refine jI ?_ | refine jJ ?_ | refine jK ?_ | refine jL ?_ | refine jM ?_ | refine jN ?_ | refine jO ?_ | refine jP ?_ | refine jQ ?_ | refine jR ?_ | refine jS (k := ?_) | refine jT (k := ?_)))); (conv => whnf)
      exact ⟨hx3, true, rfl, tt_iff fun k hk => hall k (by omega)⟩
theorem name_ok (w : World) (s : List UInt8) (hs : s.length ≤ 1000) : Cal Try.prog 87 ⟨[.string (bstr s)]⟩ w fun v w' => w' = w ∧ ∃ b, v = .bool b ∧ (b = true ↔ NameOk s) := by
  have hsz := bstr_size s
  refine go87 (by rfl) ?_
  (repeat ((conv => whnf); (first | (with_reducible first | refine jA ?_ | refine jB ?_ | refine jC ?_ | refine jD ?_) | refine jE ?_ | refine jF ?_ | refine jG ?_ | refine jH ?_ | refine jI ?_ | refine jJ ?_ | refine jK ?_ | refine jL ?_ | refine jM ?_ | refine jN ?_ | refine jO ?_ | refine jP ?_ | refine jQ ?_ | refine jR ?_ | refine jS (k := ?_) | refine jT (k := ?_)))); (conv => whnf)
  refine r_loop (σ := Nat) (fun i => [.int .i64 (i : Int)]) (fun i w' => i ≤ s.length ∧ w' = w ∧ ∀ k (h : k < s.length), k < i → okc s[k]) (fun i _ => s.length - i) 0 rfl ⟨by omega, rfl, fun k _ hk => by omega⟩ ?_
  rintro i w1 again ⟨hi, rfl, hall⟩ hagain
  by_cases hil : i < s.length
  · have hget : (bstr s)[(i : Int).toNat]? = some s[i] := by
      rw [bstr_get, Int.toNat_natCast]
      simp [hil]
    (repeat ((conv => whnf); (first | (with_reducible first | refine jA ?_ | refine jB ?_ | refine jC ?_ | refine jD ?_) | refine jE ?_ | refine jF ?_ | refine jG ?_ | refine jH ?_ | refine jI ?_ | refine jJ ?_ | refine jK ?_ | refine jL ?_ | refine jM ?_ | refine jN ?_ | refine jO ?_ | refine jP ?_ | refine jQ ?_ | refine jR ?_ | refine jS (k := ?_) | refine jT (k := ?_)))); (conv => whnf)
    refine r_byte s[i] (by omega) hget ?_
    (repeat ((conv => whnf); (first | (with_reducible first | refine jA ?_ | refine jB ?_ | refine jC ?_ | refine jD ?_) | refine jE ?_ | refine jF ?_ | refine jG ?_ | refine jH ?_ | refine jI ?_ | refine jJ ?_ | refine jK ?_ | refine jL ?_ | refine jM ?_ | refine jN ?_ | refine jO ?_ | refine jP ?_ | refine jQ ?_ | refine jR ?_ | refine jS (k := ?_) | refine jT (k := ?_)))); (conv => whnf)
    refine r_cal (Index_ok s[i] w1) ?_
    rintro _ w2 ⟨rfl, r, rfl, hr⟩
    by_cases hc : r < 0
    · (repeat ((conv => whnf); (first | (with_reducible first | refine jA ?_ | refine jB ?_ | refine jC ?_ | refine jD ?_) | refine jE ?_ | refine jF ?_ | refine jG ?_ | refine jH ?_ | refine jI ?_ | refine jJ ?_ | refine jK ?_ | refine jL ?_ | refine jM ?_ | refine jN ?_ | refine jO ?_ | refine jP ?_ | refine jQ ?_ | refine jR ?_ | refine jS (k := ?_) | refine jT (k := ?_)))); (conv => whnf)
      exact ⟨rfl, false, rfl, ff_iff fun hh => hr.1 hc (hh.1 _ (List.getElem_mem hil))⟩
    · (repeat ((conv => whnf); (first | (with_reducible first | refine jA ?_ | refine jB ?_ | refine jC ?_ | refine jD ?_) | refine jE ?_ | refine jF ?_ | refine jG ?_ | refine jH ?_ | refine jI ?_ | refine jJ ?_ | refine jK ?_ | refine jL ?_ | refine jM ?_ | refine jN ?_ | refine jO ?_ | refine jP ?_ | refine jQ ?_ | refine jR ?_ | refine jS (k := ?_) | refine jT (k := ?_)))); (conv => whnf)
      exact hagain (i + 1) _ ⟨by omega, rfl, fun k h hk => by
        by_cases hki : k = i
        · subst hki; exact Classical.not_not.1 fun hn => hc (hr.2 hn)
        · exact hall k h (by omega)⟩ (by omega)
  · have ha : ∀ c ∈ s, okc c := fun c hc => by
      obtain ⟨k, hk, rfl⟩ := List.getElem_of_mem hc
      exact hall k hk (by omega)
    by_cases c1 : s = []
    · (repeat ((conv => whnf); (first | (with_reducible first | refine jA ?_ | refine jB ?_ | refine jC ?_ | refine jD ?_) | refine jE ?_ | refine jF ?_ | refine jG ?_ | refine jH ?_ | refine jI ?_ | refine jJ ?_ | refine jK ?_ | refine jL ?_ | refine jM ?_ | refine jN ?_ | refine jO ?_ | refine jP ?_ | refine jQ ?_ | refine jR ?_ | refine jS (k := ?_) | refine jT (k := ?_)))); (conv => whnf)
      refine r_n0f c1 ?_
      (repeat ((conv => whnf); (first | (with_reducible first | refine jA ?_ | refine jB ?_ | refine jC ?_ | refine jD ?_) | refine jE ?_ | refine jF ?_ | refine jG ?_ | refine jH ?_ | refine jI ?_ | refine jJ ?_ | refine jK ?_ | refine jL ?_ | refine jM ?_ | refine jN ?_ | refine jO ?_ | refine jP ?_ | refine jQ ?_ | refine jR ?_ | refine jS (k := ?_) | refine jT (k := ?_)))); (conv => whnf)
      exact ⟨rfl, _, rfl, ff_iff fun h => by have := h.2.1; rw [c1] at this; simp at this⟩
    · have hpos := List.length_pos_iff.2 c1
      (repeat ((conv => whnf); (first | (with_reducible first | refine jA ?_ | refine jB ?_ | refine jC ?_ | refine jD ?_) | refine jE ?_ | refine jF ?_ | refine jG ?_ | refine jH ?_ | refine jI ?_ | refine jJ ?_ | refine jK ?_ | refine jL ?_ | refine jM ?_ | refine jN ?_ | refine jO ?_ | refine jP ?_ | refine jQ ?_ | refine jR ?_ | refine jS (k := ?_) | refine jT (k := ?_)))); (conv => whnf)
      refine r_n0t c1 ?_
      (repeat ((conv => whnf); (first | (with_reducible first | refine jA ?_ | refine jB ?_ | refine jC ?_ | refine jD ?_) | refine jE ?_ | refine jF ?_ | refine jG ?_ | refine jH ?_ | refine jI ?_ | refine jJ ?_ | refine jK ?_ | refine jL ?_ | refine jM ?_ | refine jN ?_ | refine jO ?_ | refine jP ?_ | refine jQ ?_ | refine jR ?_ | refine jS (k := ?_) | refine jT (k := ?_)))); (conv => whnf)
      refine ⟨rfl, _, rfl, ?_⟩
      rw [decide_eq_true_eq, hsz]
      exact ⟨fun h => ⟨ha, by omega, by omega⟩, fun h => by have := h.2.2; omega⟩
end
end Fb.Try.VO
