/-
  CodecNumbers: whatever the input the law returns true, and the input reads as it did. No condition.
-/
import Derived.Test.YtalkcjehehljcaaCf
import Derived.Test.YtalkcjehehljcaaVf
import Derived.Test.YtalkcjehehljcaaRows
namespace Fb.Try
open Go Go.Proofs Fb Fb.Codec

theorem own_knob : ownKnob Try.prog.godebug = none := by kernel_rfl
theorem laid_out : laidOutB Try.prog = true := by kernel_rfl

theorem u8_list : ∀ (xs : List Int), (∀ x ∈ xs, (Lit.int .u8 x).wf = true) → ∃ l : List UInt8, xs.map (Value.int .u8) = bvs l
  | [], _ => ⟨[], rfl⟩
  | x :: xs, h => by
    obtain ⟨l, hl⟩ := u8_list xs fun y hy => h y (by simp [hy])
    have hx := bounds_u8 (h x (by simp))
    refine ⟨UInt8.ofNat x.toNat :: l, ?_⟩
    have e : ((UInt8.ofNat x.toNat).toNat : Int) = x := by rw [UInt8.toNat_ofNat']; omega
    rw [List.map_cons, hl, bvs, bvs, List.map_cons, e]

theorem empty_own {w : World} {b base : Nat} (h : Blk w b 5 []) (hb : base ≤ b) : w.ownsRow base 5 1 (.slice (some ⟨b, 0, none⟩) 0 0) 0 [] :=
  ⟨rfl, .inr ⟨b, 0, #[], rfl, hb, h, Nat.le_refl _, by simp [maxLen], rfl, rfl⟩⟩

theorem numbers_ok {w : World} (z : Int) (a : Option Addr) (len cap : Nat) (l : List UInt8) (hz : inI64 z) (hv : View w a len cap 1 (bvs l)) :
    Cal Try.prog 3 ⟨[.int .i64 z, .slice a len cap]⟩ w fun v w' => v = .bool true ∧ Ext w w' := by
  have hlen : l.length = len := by have := hv.length; simpa [bvs] using this
  have hle := hv.le
  have hmax := hv.max
  unfold maxLen at hmax
  have hnl := num_len hz
  refine go3 (by rfl) ?_
  by_cases hg : 100 < len
  · (repeat ((conv => whnf); (first | with_reducible refine r_tt ?_ | with_reducible refine r_ff ?_ | with_reducible refine r_ntt ?_ | with_reducible refine r_nff ?_ | refine r_need (by omega) ?_ | refine r_i64 (by omega) ?_ | refine r_dect (by omega) ?_ | refine r_decf (by omega) ?_ | refine r_eqt (by omega) ?_ | refine r_eqf (by omega) ?_ | refine r_net (by omega) ?_ | refine r_nef (by omega) ?_ | refine r_u8 (by omega) ?_ | refine r_u64 (by omega) ?_ | refine r_i32 (by omega) ?_ | refine r_u32 (by omega) ?_ | refine r_rem (by omega) ?_ | refine r_quo (by omega) ?_ | refine r_ldb (by assumption) (by rfl) ?_ | refine r_ldbE (by assumption) (by rfl) ?_))); (conv => whnf)
    refine r_cal (fixed_ok w) ?_
    rintro v w1 ⟨rfl, hx1⟩
    (repeat ((conv => whnf); (first | with_reducible refine r_tt ?_ | with_reducible refine r_ff ?_ | with_reducible refine r_ntt ?_ | with_reducible refine r_nff ?_ | refine r_need (by omega) ?_ | refine r_i64 (by omega) ?_ | refine r_dect (by omega) ?_ | refine r_decf (by omega) ?_ | refine r_eqt (by omega) ?_ | refine r_eqf (by omega) ?_ | refine r_net (by omega) ?_ | refine r_nef (by omega) ?_ | refine r_u8 (by omega) ?_ | refine r_u64 (by omega) ?_ | refine r_i32 (by omega) ?_ | refine r_u32 (by omega) ?_ | refine r_rem (by omega) ?_ | refine r_quo (by omega) ?_ | refine r_ldb (by assumption) (by rfl) ?_ | refine r_ldbE (by assumption) (by rfl) ?_))); (conv => whnf)
    exact ⟨rfl, hx1⟩
  · (repeat ((conv => whnf); (first | with_reducible refine r_tt ?_ | with_reducible refine r_ff ?_ | with_reducible refine r_ntt ?_ | with_reducible refine r_nff ?_ | refine r_need (by omega) ?_ | refine r_i64 (by omega) ?_ | refine r_dect (by omega) ?_ | refine r_decf (by omega) ?_ | refine r_eqt (by omega) ?_ | refine r_eqf (by omega) ?_ | refine r_net (by omega) ?_ | refine r_nef (by omega) ?_ | refine r_u8 (by omega) ?_ | refine r_u64 (by omega) ?_ | refine r_i32 (by omega) ?_ | refine r_u32 (by omega) ?_ | refine r_rem (by omega) ?_ | refine r_quo (by omega) ?_ | refine r_ldb (by assumption) (by rfl) ?_ | refine r_ldbE (by assumption) (by rfl) ?_))); (conv => whnf)
    refine r_cal (PutNumber_ok z w hz) ?_
    rintro own w1 ⟨hx1, hown1⟩
    obtain ⟨pa, pc, rfl, hpv, _⟩ := View.of_own hown1
    (repeat ((conv => whnf); (first | with_reducible refine r_tt ?_ | with_reducible refine r_ff ?_ | with_reducible refine r_ntt ?_ | with_reducible refine r_nff ?_ | refine r_need (by omega) ?_ | refine r_i64 (by omega) ?_ | refine r_dect (by omega) ?_ | refine r_decf (by omega) ?_ | refine r_eqt (by omega) ?_ | refine r_eqf (by omega) ?_ | refine r_net (by omega) ?_ | refine r_nef (by omega) ?_ | refine r_u8 (by omega) ?_ | refine r_u64 (by omega) ?_ | refine r_i32 (by omega) ?_ | refine r_u32 (by omega) ?_ | refine r_rem (by omega) ?_ | refine r_quo (by omega) ?_ | refine r_ldb (by assumption) (by rfl) ?_ | refine r_ldbE (by assumption) (by rfl) ?_))); (conv => whnf)
    refine r_new fun b w2 hx2 hb2 hs2 hblk2 => ?_
    (repeat ((conv => whnf); (first | with_reducible refine r_tt ?_ | with_reducible refine r_ff ?_ | with_reducible refine r_ntt ?_ | with_reducible refine r_nff ?_ | refine r_need (by omega) ?_ | refine r_i64 (by omega) ?_ | refine r_dect (by omega) ?_ | refine r_decf (by omega) ?_ | refine r_eqt (by omega) ?_ | refine r_eqf (by omega) ?_ | refine r_net (by omega) ?_ | refine r_nef (by omega) ?_ | refine r_u8 (by omega) ?_ | refine r_u64 (by omega) ?_ | refine r_i32 (by omega) ?_ | refine r_u32 (by omega) ?_ | refine r_rem (by omega) ?_ | refine r_quo (by omega) ?_ | refine r_ldb (by assumption) (by rfl) ?_ | refine r_ldbE (by assumption) (by rfl) ?_))); (conv => whnf)
    refine r_app el_bytes (empty_own hblk2 hb2) (hpv.ext hx2) (by intro u hu; exact one_bvs _ u hu) (by omega) (by omega) fun v3 w3 hown3 hc3 _ => ?_
    have hown2 := empty_own (base := w.heap.size) hblk2 (by have := hx1.size; omega)
    have hx3 : Ext w w3 := Chg.own (hx1.trans hx2) hc3 hown2
    (repeat ((conv => whnf); (first | with_reducible refine r_tt ?_ | with_reducible refine r_ff ?_ | with_reducible refine r_ntt ?_ | with_reducible refine r_nff ?_ | refine r_need (by omega) ?_ | refine r_i64 (by omega) ?_ | refine r_dect (by omega) ?_ | refine r_decf (by omega) ?_ | refine r_eqt (by omega) ?_ | refine r_eqf (by omega) ?_ | refine r_net (by omega) ?_ | refine r_nef (by omega) ?_ | refine r_u8 (by omega) ?_ | refine r_u64 (by omega) ?_ | refine r_i32 (by omega) ?_ | refine r_u32 (by omega) ?_ | refine r_rem (by omega) ?_ | refine r_quo (by omega) ?_ | refine r_ldb (by assumption) (by rfl) ?_ | refine r_ldbE (by assumption) (by rfl) ?_))); (conv => whnf)
    refine r_app el_bytes hown3 (hv.ext hx3) (by intro u hu; exact one_bvs _ u hu) (by omega) (by have := hx2.size; have := hc3.size; omega) fun v4 w4 hown4 hc4 _ => ?_
    have hx4 : Ext w w4 := Chg.own hx3 hc4 (own_mono hown3 hx1.size)
    obtain ⟨qa, qc, rfl, hqv, _⟩ := View.of_own hown4
    have hqv' : View w4 qa (0 + (num z).length + len) qc 1 (bvs (num z ++ l)) := by simpa [bvs_append] using hqv
    (repeat ((conv => whnf); (first | with_reducible refine r_tt ?_ | with_reducible refine r_ff ?_ | with_reducible refine r_ntt ?_ | with_reducible refine r_nff ?_ | refine r_need (by omega) ?_ | refine r_i64 (by omega) ?_ | refine r_dect (by omega) ?_ | refine r_decf (by omega) ?_ | refine r_eqt (by omega) ?_ | refine r_eqf (by omega) ?_ | refine r_net (by omega) ?_ | refine r_nef (by omega) ?_ | refine r_u8 (by omega) ?_ | refine r_u64 (by omega) ?_ | refine r_i32 (by omega) ?_ | refine r_u32 (by omega) ?_ | refine r_rem (by omega) ?_ | refine r_quo (by omega) ?_ | refine r_ldb (by assumption) (by rfl) ?_ | refine r_ldbE (by assumption) (by rfl) ?_))); (conv => whnf)
    refine r_cal (GetNumber_ok qa _ qc (num z ++ l) w4 hqv') ?_
    rintro v w5 ⟨rfl, rfl⟩
    have e1 : gotNumber (num z ++ l) = .tuple ⟨[.int .i64 z, .int .i64 ((num z).length : Int), .bool true]⟩ := by
      unfold gotNumber
      rw [get_num hz l]
    rw [e1]
    (repeat ((conv => whnf); (first | with_reducible refine r_tt ?_ | with_reducible refine r_ff ?_ | with_reducible refine r_ntt ?_ | with_reducible refine r_nff ?_ | refine r_need (by omega) ?_ | refine r_i64 (by omega) ?_ | refine r_dect (by omega) ?_ | refine r_decf (by omega) ?_ | refine r_eqt (by omega) ?_ | refine r_eqf (by omega) ?_ | refine r_net (by omega) ?_ | refine r_nef (by omega) ?_ | refine r_u8 (by omega) ?_ | refine r_u64 (by omega) ?_ | refine r_i32 (by omega) ?_ | refine r_u32 (by omega) ?_ | refine r_rem (by omega) ?_ | refine r_quo (by omega) ?_ | refine r_ldb (by assumption) (by rfl) ?_ | refine r_ldbE (by assumption) (by rfl) ?_))); (conv => whnf)
    refine r_cal (GetNumber_ok a len cap l w5 (hv.ext hx4)) ?_
    rintro v w6 ⟨rfl, rfl⟩
    have e2 : ∃ (y : Int) (m : Nat) (ok : Bool), gotNumber l = .tuple ⟨[.int .i64 y, .int .i64 (m : Int), .bool ok]⟩ ∧ (get l = if ok then some (y, m) else none) ∧ (ok = false → y = 0 ∧ m = 0) := by
      unfold gotNumber
      cases get l with
      | none => exact ⟨0, 0, false, rfl, rfl, fun _ => ⟨rfl, rfl⟩⟩
      | some p => exact ⟨p.1, p.2, true, rfl, rfl, by simp⟩
    obtain ⟨y, m, ok, e2, hget, hno⟩ := e2
    rw [e2]
    (repeat ((conv => whnf); (first | with_reducible refine r_tt ?_ | with_reducible refine r_ff ?_ | with_reducible refine r_ntt ?_ | with_reducible refine r_nff ?_ | refine r_need (by omega) ?_ | refine r_i64 (by omega) ?_ | refine r_dect (by omega) ?_ | refine r_decf (by omega) ?_ | refine r_eqt (by omega) ?_ | refine r_eqf (by omega) ?_ | refine r_net (by omega) ?_ | refine r_nef (by omega) ?_ | refine r_u8 (by omega) ?_ | refine r_u64 (by omega) ?_ | refine r_i32 (by omega) ?_ | refine r_u32 (by omega) ?_ | refine r_rem (by omega) ?_ | refine r_quo (by omega) ?_ | refine r_ldb (by assumption) (by rfl) ?_ | refine r_ldbE (by assumption) (by rfl) ?_))); (conv => whnf)
    refine r_conv (hv.ext hx4) ?_
    (repeat ((conv => whnf); (first | with_reducible refine r_tt ?_ | with_reducible refine r_ff ?_ | with_reducible refine r_ntt ?_ | with_reducible refine r_nff ?_ | refine r_need (by omega) ?_ | refine r_i64 (by omega) ?_ | refine r_dect (by omega) ?_ | refine r_decf (by omega) ?_ | refine r_eqt (by omega) ?_ | refine r_eqf (by omega) ?_ | refine r_net (by omega) ?_ | refine r_nef (by omega) ?_ | refine r_u8 (by omega) ?_ | refine r_u64 (by omega) ?_ | refine r_i32 (by omega) ?_ | refine r_u32 (by omega) ?_ | refine r_rem (by omega) ?_ | refine r_quo (by omega) ?_ | refine r_ldb (by assumption) (by rfl) ?_ | refine r_ldbE (by assumption) (by rfl) ?_))); (conv => whnf)
    refine r_cal (Get_ok l w6 (by omega)) ?_
    rintro v w7 ⟨hx7, x', r, ok', rfl, hx', hget', hr⟩
    have hokk : ok' = ok := by
      rw [hget'] at hget
      cases ok <;> cases ok' <;> first | rfl | cases hget
    subst hokk
    (repeat ((conv => whnf); (first | with_reducible refine r_tt ?_ | with_reducible refine r_ff ?_ | with_reducible refine r_ntt ?_ | with_reducible refine r_nff ?_ | refine r_need (by omega) ?_ | refine r_i64 (by omega) ?_ | refine r_dect (by omega) ?_ | refine r_decf (by omega) ?_ | refine r_eqt (by omega) ?_ | refine r_eqf (by omega) ?_ | refine r_net (by omega) ?_ | refine r_nef (by omega) ?_ | refine r_u8 (by omega) ?_ | refine r_u64 (by omega) ?_ | refine r_i32 (by omega) ?_ | refine r_u32 (by omega) ?_ | refine r_rem (by omega) ?_ | refine r_quo (by omega) ?_ | refine r_ldb (by assumption) (by rfl) ?_ | refine r_ldbE (by assumption) (by rfl) ?_))); (conv => whnf)
    refine r_new fun n w8 hx8 hn8 hs8 hblk8 => ?_
    (repeat ((conv => whnf); (first | with_reducible refine r_tt ?_ | with_reducible refine r_ff ?_ | with_reducible refine r_ntt ?_ | with_reducible refine r_nff ?_ | refine r_need (by omega) ?_ | refine r_i64 (by omega) ?_ | refine r_dect (by omega) ?_ | refine r_decf (by omega) ?_ | refine r_eqt (by omega) ?_ | refine r_eqf (by omega) ?_ | refine r_net (by omega) ?_ | refine r_nef (by omega) ?_ | refine r_u8 (by omega) ?_ | refine r_u64 (by omega) ?_ | refine r_i32 (by omega) ?_ | refine r_u32 (by omega) ?_ | refine r_rem (by omega) ?_ | refine r_quo (by omega) ?_ | refine r_ldb (by assumption) (by rfl) ?_ | refine r_ldbE (by assumption) (by rfl) ?_))); (conv => whnf)
    refine r_stn hblk8 (by simp) (by intro v hv; simp at hv; rcases hv with rfl | rfl | rfl <;> rfl) fun w9 hc9 hs9 hb9 => ?_
    have hb9 : Blk w9 n 28 [.int .i64 x', .string (bstr r), .bool ok'] := hb9
    have hx9 : Ext w w9 := Chg.step ((hx4.trans hx7).trans hx8) hc9 (fun k hk hlt => by have := hx4.size; have := hx7.size; omega)
    cases ok'
    · obtain ⟨rfl, rfl⟩ := hno rfl
      (repeat ((conv => whnf); (first | with_reducible refine r_tt ?_ | with_reducible refine r_ff ?_ | with_reducible refine r_ntt ?_ | with_reducible refine r_nff ?_ | refine r_need (by omega) ?_ | refine r_i64 (by omega) ?_ | refine r_dect (by omega) ?_ | refine r_decf (by omega) ?_ | refine r_eqt (by omega) ?_ | refine r_eqf (by omega) ?_ | refine r_net (by omega) ?_ | refine r_nef (by omega) ?_ | refine r_u8 (by omega) ?_ | refine r_u64 (by omega) ?_ | refine r_i32 (by omega) ?_ | refine r_u32 (by omega) ?_ | refine r_rem (by omega) ?_ | refine r_quo (by omega) ?_ | refine r_ldb (by assumption) (by rfl) ?_ | refine r_ldbE (by assumption) (by rfl) ?_))); (conv => whnf)
      refine r_conv (hv.ext hx9) ?_
      (repeat ((conv => whnf); (first | with_reducible refine r_tt ?_ | with_reducible refine r_ff ?_ | with_reducible refine r_ntt ?_ | with_reducible refine r_nff ?_ | refine r_need (by omega) ?_ | refine r_i64 (by omega) ?_ | refine r_dect (by omega) ?_ | refine r_decf (by omega) ?_ | refine r_eqt (by omega) ?_ | refine r_eqf (by omega) ?_ | refine r_net (by omega) ?_ | refine r_nef (by omega) ?_ | refine r_u8 (by omega) ?_ | refine r_u64 (by omega) ?_ | refine r_i32 (by omega) ?_ | refine r_u32 (by omega) ?_ | refine r_rem (by omega) ?_ | refine r_quo (by omega) ?_ | refine r_ldb (by assumption) (by rfl) ?_ | refine r_ldbE (by assumption) (by rfl) ?_))); (conv => whnf)
      refine r_stn hb9 (by simp) (by intro v hv; simp at hv; rcases hv with rfl | rfl | rfl <;> rfl) fun w10 hc10 hs10 hb10 => ?_
      have hb10 : Blk w10 n 28 [.int .i64 0, .string (bstr l), .bool false] := hb10
      have hx10 : Ext w w10 := Chg.step hx9 hc10 (fun k hk hlt => by have := hx4.size; have := hx7.size; omega)
      have hx20 := hx7.trans hx8
      have hx10' : Ext w1 w10 := Chg.step (Chg.step (Chg.own (hx2) hc3 (empty_own hblk2 hb2)) hc4 (fun k hk hlt => by have := own_ge hown3 hk; omega) |>.ext hx20) (Chg.trans hc9 hc10) (fun k hk hlt => by have := hx4.size; have := hx1.size; have := hx7.size; have := hc4.size; have := hc3.size; have := hx2.size; omega)
      have hm : ((0 : Nat) : Int) = (len : Int) - ((bstr l).size : Int) := by rw [bstr_size]; omega
      have hsz : ((bstr l).size : Int) ≤ len := by rw [bstr_size]; omega
      (repeat ((conv => whnf); (first | with_reducible refine r_tt ?_ | with_reducible refine r_ff ?_ | with_reducible refine r_ntt ?_ | with_reducible refine r_nff ?_ | refine r_need (by omega) ?_ | refine r_i64 (by omega) ?_ | refine r_dect (by omega) ?_ | refine r_decf (by omega) ?_ | refine r_eqt (by omega) ?_ | refine r_eqf (by omega) ?_ | refine r_net (by omega) ?_ | refine r_nef (by omega) ?_ | refine r_u8 (by omega) ?_ | refine r_u64 (by omega) ?_ | refine r_i32 (by omega) ?_ | refine r_u32 (by omega) ?_ | refine r_rem (by omega) ?_ | refine r_quo (by omega) ?_ | refine r_ldb (by assumption) (by rfl) ?_ | refine r_ldbE (by assumption) (by rfl) ?_))); (conv => whnf)
      refine r_drawE fun w11 hx11 _ => ?_
      (repeat ((conv => whnf); (first | with_reducible refine r_tt ?_ | with_reducible refine r_ff ?_ | with_reducible refine r_ntt ?_ | with_reducible refine r_nff ?_ | refine r_need (by omega) ?_ | refine r_i64 (by omega) ?_ | refine r_dect (by omega) ?_ | refine r_decf (by omega) ?_ | refine r_eqt (by omega) ?_ | refine r_eqf (by omega) ?_ | refine r_net (by omega) ?_ | refine r_nef (by omega) ?_ | refine r_u8 (by omega) ?_ | refine r_u64 (by omega) ?_ | refine r_i32 (by omega) ?_ | refine r_u32 (by omega) ?_ | refine r_rem (by omega) ?_ | refine r_quo (by omega) ?_ | refine r_ldb (by assumption) (by rfl) ?_ | refine r_ldbE (by assumption) (by rfl) ?_))); (conv => whnf)
      refine r_cal (fixed_ok w11) ?_
      rintro v w12 ⟨rfl, hx12⟩
      (repeat ((conv => whnf); (first | with_reducible refine r_tt ?_ | with_reducible refine r_ff ?_ | with_reducible refine r_ntt ?_ | with_reducible refine r_nff ?_ | refine r_need (by omega) ?_ | refine r_i64 (by omega) ?_ | refine r_dect (by omega) ?_ | refine r_decf (by omega) ?_ | refine r_eqt (by omega) ?_ | refine r_eqf (by omega) ?_ | refine r_net (by omega) ?_ | refine r_nef (by omega) ?_ | refine r_u8 (by omega) ?_ | refine r_u64 (by omega) ?_ | refine r_i32 (by omega) ?_ | refine r_u32 (by omega) ?_ | refine r_rem (by omega) ?_ | refine r_quo (by omega) ?_ | refine r_ldb (by assumption) (by rfl) ?_ | refine r_ldbE (by assumption) (by rfl) ?_))); (conv => whnf)
      refine r_held (hx11.trans hx12) ?_
      (repeat ((conv => whnf); (first | with_reducible refine r_tt ?_ | with_reducible refine r_ff ?_ | with_reducible refine r_ntt ?_ | with_reducible refine r_nff ?_ | refine r_need (by omega) ?_ | refine r_i64 (by omega) ?_ | refine r_dect (by omega) ?_ | refine r_decf (by omega) ?_ | refine r_eqt (by omega) ?_ | refine r_eqf (by omega) ?_ | refine r_net (by omega) ?_ | refine r_nef (by omega) ?_ | refine r_u8 (by omega) ?_ | refine r_u64 (by omega) ?_ | refine r_i32 (by omega) ?_ | refine r_u32 (by omega) ?_ | refine r_rem (by omega) ?_ | refine r_quo (by omega) ?_ | refine r_ldb (by assumption) (by rfl) ?_ | refine r_ldbE (by assumption) (by rfl) ?_))); (conv => whnf)
      refine r_convE (hpv.ext hx10') ?_
      (repeat ((conv => whnf); (first | with_reducible refine r_tt ?_ | with_reducible refine r_ff ?_ | with_reducible refine r_ntt ?_ | with_reducible refine r_nff ?_ | refine r_need (by omega) ?_ | refine r_i64 (by omega) ?_ | refine r_dect (by omega) ?_ | refine r_decf (by omega) ?_ | refine r_eqt (by omega) ?_ | refine r_eqf (by omega) ?_ | refine r_net (by omega) ?_ | refine r_nef (by omega) ?_ | refine r_u8 (by omega) ?_ | refine r_u64 (by omega) ?_ | refine r_i32 (by omega) ?_ | refine r_u32 (by omega) ?_ | refine r_rem (by omega) ?_ | refine r_quo (by omega) ?_ | refine r_ldb (by assumption) (by rfl) ?_ | refine r_ldbE (by assumption) (by rfl) ?_))); (conv => whnf)
      refine r_cal (Number_ok z w12 hz) ?_
      rintro v w13 ⟨hx13, rfl⟩
      (repeat ((conv => whnf); (first | with_reducible refine r_tt ?_ | with_reducible refine r_ff ?_ | with_reducible refine r_ntt ?_ | with_reducible refine r_nff ?_ | refine r_need (by omega) ?_ | refine r_i64 (by omega) ?_ | refine r_dect (by omega) ?_ | refine r_decf (by omega) ?_ | refine r_eqt (by omega) ?_ | refine r_eqf (by omega) ?_ | refine r_net (by omega) ?_ | refine r_nef (by omega) ?_ | refine r_u8 (by omega) ?_ | refine r_u64 (by omega) ?_ | refine r_i32 (by omega) ?_ | refine r_u32 (by omega) ?_ | refine r_rem (by omega) ?_ | refine r_quo (by omega) ?_ | refine r_ldb (by assumption) (by rfl) ?_ | refine r_ldbE (by assumption) (by rfl) ?_))); (conv => whnf)
      refine r_held ((hx11.trans hx12).trans hx13) ?_
      (repeat ((conv => whnf); (first | with_reducible refine r_tt ?_ | with_reducible refine r_ff ?_ | with_reducible refine r_ntt ?_ | with_reducible refine r_nff ?_ | refine r_need (by omega) ?_ | refine r_i64 (by omega) ?_ | refine r_dect (by omega) ?_ | refine r_decf (by omega) ?_ | refine r_eqt (by omega) ?_ | refine r_eqf (by omega) ?_ | refine r_net (by omega) ?_ | refine r_nef (by omega) ?_ | refine r_u8 (by omega) ?_ | refine r_u64 (by omega) ?_ | refine r_i32 (by omega) ?_ | refine r_u32 (by omega) ?_ | refine r_rem (by omega) ?_ | refine r_quo (by omega) ?_ | refine r_ldb (by assumption) (by rfl) ?_ | refine r_ldbE (by assumption) (by rfl) ?_))); (conv => whnf)
      refine r_true (eqb rfl) ?_
      (repeat ((conv => whnf); (first | refine r_true (by rfl) ?_ | with_reducible refine r_tt ?_ | with_reducible refine r_ff ?_ | with_reducible refine r_ntt ?_ | with_reducible refine r_nff ?_ | refine r_need (by omega) ?_ | refine r_i64 (by omega) ?_ | refine r_dect (by omega) ?_ | refine r_decf (by omega) ?_ | refine r_eqt (by omega) ?_ | refine r_eqf (by omega) ?_ | refine r_net (by omega) ?_ | refine r_nef (by omega) ?_ | refine r_u8 (by omega) ?_ | refine r_u64 (by omega) ?_ | refine r_i32 (by omega) ?_ | refine r_u32 (by omega) ?_ | refine r_rem (by omega) ?_ | refine r_quo (by omega) ?_ | refine r_ldb (by assumption) (by rfl) ?_ | refine r_ldbE (by assumption) (by rfl) ?_))); (conv => whnf)
      exact ⟨congrArg Value.bool (beq_iff_eq.2 hm), ((hx10.trans hx11).trans hx12).trans hx13⟩
    · have hr := hr rfl
      rw [hget'] at hget
      simp only [if_true, Option.some.injEq, Prod.mk.injEq] at hget
      obtain ⟨rfl, rfl⟩ := hget
      have hx10' : Ext w1 w9 := Chg.step (Chg.step (Chg.own (hx2) hc3 (empty_own hblk2 hb2)) hc4 (fun k hk hlt => by have := own_ge hown3 hk; omega) |>.ext (hx7.trans hx8)) hc9 (fun k hk hlt => by have := hx4.size; have := hx1.size; have := hx7.size; have := hc4.size; have := hc3.size; have := hx2.size; omega)
      have hm : ((l.length - r.length : Nat) : Int) = (len : Int) - ((bstr r).size : Int) := by rw [bstr_size]; omega
      have hsz : ((bstr r).size : Int) ≤ len := by rw [bstr_size]; omega
      (repeat ((conv => whnf); (first | with_reducible refine r_tt ?_ | with_reducible refine r_ff ?_ | with_reducible refine r_ntt ?_ | with_reducible refine r_nff ?_ | refine r_need (by omega) ?_ | refine r_i64 (by omega) ?_ | refine r_dect (by omega) ?_ | refine r_decf (by omega) ?_ | refine r_eqt (by omega) ?_ | refine r_eqf (by omega) ?_ | refine r_net (by omega) ?_ | refine r_nef (by omega) ?_ | refine r_u8 (by omega) ?_ | refine r_u64 (by omega) ?_ | refine r_i32 (by omega) ?_ | refine r_u32 (by omega) ?_ | refine r_rem (by omega) ?_ | refine r_quo (by omega) ?_ | refine r_ldb (by assumption) (by rfl) ?_ | refine r_ldbE (by assumption) (by rfl) ?_))); (conv => whnf)
      refine r_drawE fun w11 hx11 _ => ?_
      (repeat ((conv => whnf); (first | with_reducible refine r_tt ?_ | with_reducible refine r_ff ?_ | with_reducible refine r_ntt ?_ | with_reducible refine r_nff ?_ | refine r_need (by omega) ?_ | refine r_i64 (by omega) ?_ | refine r_dect (by omega) ?_ | refine r_decf (by omega) ?_ | refine r_eqt (by omega) ?_ | refine r_eqf (by omega) ?_ | refine r_net (by omega) ?_ | refine r_nef (by omega) ?_ | refine r_u8 (by omega) ?_ | refine r_u64 (by omega) ?_ | refine r_i32 (by omega) ?_ | refine r_u32 (by omega) ?_ | refine r_rem (by omega) ?_ | refine r_quo (by omega) ?_ | refine r_ldb (by assumption) (by rfl) ?_ | refine r_ldbE (by assumption) (by rfl) ?_))); (conv => whnf)
      refine r_cal (fixed_ok w11) ?_
      rintro v w12 ⟨rfl, hx12⟩
      (repeat ((conv => whnf); (first | with_reducible refine r_tt ?_ | with_reducible refine r_ff ?_ | with_reducible refine r_ntt ?_ | with_reducible refine r_nff ?_ | refine r_need (by omega) ?_ | refine r_i64 (by omega) ?_ | refine r_dect (by omega) ?_ | refine r_decf (by omega) ?_ | refine r_eqt (by omega) ?_ | refine r_eqf (by omega) ?_ | refine r_net (by omega) ?_ | refine r_nef (by omega) ?_ | refine r_u8 (by omega) ?_ | refine r_u64 (by omega) ?_ | refine r_i32 (by omega) ?_ | refine r_u32 (by omega) ?_ | refine r_rem (by omega) ?_ | refine r_quo (by omega) ?_ | refine r_ldb (by assumption) (by rfl) ?_ | refine r_ldbE (by assumption) (by rfl) ?_))); (conv => whnf)
      refine r_held (hx11.trans hx12) ?_
      (repeat ((conv => whnf); (first | with_reducible refine r_tt ?_ | with_reducible refine r_ff ?_ | with_reducible refine r_ntt ?_ | with_reducible refine r_nff ?_ | refine r_need (by omega) ?_ | refine r_i64 (by omega) ?_ | refine r_dect (by omega) ?_ | refine r_decf (by omega) ?_ | refine r_eqt (by omega) ?_ | refine r_eqf (by omega) ?_ | refine r_net (by omega) ?_ | refine r_nef (by omega) ?_ | refine r_u8 (by omega) ?_ | refine r_u64 (by omega) ?_ | refine r_i32 (by omega) ?_ | refine r_u32 (by omega) ?_ | refine r_rem (by omega) ?_ | refine r_quo (by omega) ?_ | refine r_ldb (by assumption) (by rfl) ?_ | refine r_ldbE (by assumption) (by rfl) ?_))); (conv => whnf)
      refine r_convE (hpv.ext hx10') ?_
      (repeat ((conv => whnf); (first | with_reducible refine r_tt ?_ | with_reducible refine r_ff ?_ | with_reducible refine r_ntt ?_ | with_reducible refine r_nff ?_ | refine r_need (by omega) ?_ | refine r_i64 (by omega) ?_ | refine r_dect (by omega) ?_ | refine r_decf (by omega) ?_ | refine r_eqt (by omega) ?_ | refine r_eqf (by omega) ?_ | refine r_net (by omega) ?_ | refine r_nef (by omega) ?_ | refine r_u8 (by omega) ?_ | refine r_u64 (by omega) ?_ | refine r_i32 (by omega) ?_ | refine r_u32 (by omega) ?_ | refine r_rem (by omega) ?_ | refine r_quo (by omega) ?_ | refine r_ldb (by assumption) (by rfl) ?_ | refine r_ldbE (by assumption) (by rfl) ?_))); (conv => whnf)
      refine r_cal (Number_ok z w12 hz) ?_
      rintro v w13 ⟨hx13, rfl⟩
      (repeat ((conv => whnf); (first | with_reducible refine r_tt ?_ | with_reducible refine r_ff ?_ | with_reducible refine r_ntt ?_ | with_reducible refine r_nff ?_ | refine r_need (by omega) ?_ | refine r_i64 (by omega) ?_ | refine r_dect (by omega) ?_ | refine r_decf (by omega) ?_ | refine r_eqt (by omega) ?_ | refine r_eqf (by omega) ?_ | refine r_net (by omega) ?_ | refine r_nef (by omega) ?_ | refine r_u8 (by omega) ?_ | refine r_u64 (by omega) ?_ | refine r_i32 (by omega) ?_ | refine r_u32 (by omega) ?_ | refine r_rem (by omega) ?_ | refine r_quo (by omega) ?_ | refine r_ldb (by assumption) (by rfl) ?_ | refine r_ldbE (by assumption) (by rfl) ?_))); (conv => whnf)
      refine r_held ((hx11.trans hx12).trans hx13) ?_
      (repeat ((conv => whnf); (first | with_reducible refine r_tt ?_ | with_reducible refine r_ff ?_ | with_reducible refine r_ntt ?_ | with_reducible refine r_nff ?_ | refine r_need (by omega) ?_ | refine r_i64 (by omega) ?_ | refine r_dect (by omega) ?_ | refine r_decf (by omega) ?_ | refine r_eqt (by omega) ?_ | refine r_eqf (by omega) ?_ | refine r_net (by omega) ?_ | refine r_nef (by omega) ?_ | refine r_u8 (by omega) ?_ | refine r_u64 (by omega) ?_ | refine r_i32 (by omega) ?_ | refine r_u32 (by omega) ?_ | refine r_rem (by omega) ?_ | refine r_quo (by omega) ?_ | refine r_ldb (by assumption) (by rfl) ?_ | refine r_ldbE (by assumption) (by rfl) ?_))); (conv => whnf)
      refine r_true (eqb rfl) ?_
      (repeat ((conv => whnf); (first | refine r_true (by rfl) ?_ | with_reducible refine r_tt ?_ | with_reducible refine r_ff ?_ | with_reducible refine r_ntt ?_ | with_reducible refine r_nff ?_ | refine r_need (by omega) ?_ | refine r_i64 (by omega) ?_ | refine r_dect (by omega) ?_ | refine r_decf (by omega) ?_ | refine r_eqt (by omega) ?_ | refine r_eqf (by omega) ?_ | refine r_net (by omega) ?_ | refine r_nef (by omega) ?_ | refine r_u8 (by omega) ?_ | refine r_u64 (by omega) ?_ | refine r_i32 (by omega) ?_ | refine r_u32 (by omega) ?_ | refine r_rem (by omega) ?_ | refine r_quo (by omega) ?_ | refine r_ldb (by assumption) (by rfl) ?_ | refine r_ldbE (by assumption) (by rfl) ?_))); (conv => whnf)
      exact ⟨congrArg Value.bool (beq_iff_eq.2 hm), ((hx9.trans hx11).trans hx12).trans hx13⟩
end Fb.Try

namespace Go.Proofs.Ytalkcjehehljcaa.codecNumbers
open Go Go.Proofs Go.ChangeShapes Go.WideShapes Go.ChangeAt Go.RowKit Fb Fb.Try
set_option maxRecDepth 100000 in
theorem lifted (os : Os) (started : os.Started) (H : Type) (enc : TypeId × Value → H) :
    ReturnsInHanded {} Try.checked os 3 .any (Rows.codecNumbersSpec.pre6 enc Try.prog Try.f3 Rows.codecNumbersRow.domain false) (Rows.codecNumbersSpec.post enc Try.prog Try.f3 false true false false) := by
  refine returnsInHanded_of_change (C := Try.checked) own_knob started (by kernel_rfl) Try.func3
    (ChangeSpec.witness6 (enc := enc) (C := Try.checked) false ⟨#[], #[.int .i64 0, .slice none 0 0], []⟩ 8 (by kernel_rfl) (by kernel_rfl) (by kernel_rfl) (by kernel_rfl)) ?_
  intro W base args ds gs before hval0 hW _ _
  have hval : ∀ (j : Nat) t v, Try.f3.params[j]? = some t → args[j]? = some v → Value.okWide Try.prog W .any base t v := hval0
  have hW' := hW
  obtain ⟨p, q, hA0, hV, rfl, hfz, hnd⟩ := hW
  have hA : DataW.TrodAll enc Try.prog W 0 (fun _ => true) true Try.f3.params.toList args.toList ds p := hA0
  rw [Try.params3] at hA hval
  obtain ⟨v0, vs0, d0, ds0, p0, q0, hargs, rfl, rfl, h0, r0⟩ := trodAll_cons hA
  obtain ⟨v1, vs1, d1, ds1, p1, q1, rfl, rfl, rfl, h1, r1⟩ := trodAll_cons r0
  obtain ⟨rfl, rfl, rfl⟩ := trodAll_nil r1
  obtain rfl : args = #[v0, v1] := by cases args; simp_all
  obtain ⟨rfl, rfl⟩ := trodVars_none hV
  have k0 := hval 0 _ v0 rfl rfl
  have k1 := hval 1 _ v1 rfl rfl
  refine law_calls (tb := 4) laid_out (by kernel_rfl) (by kernel_rfl) (by kernel_rfl) rfl rfl hW' ?_
  clear hA0 hval0 hval hA hW' hfz hnd hargs
  obtain ⟨z, rfl, _, _, hz⟩ := open_int (k := .i64) (by kernel_rfl) k0 h0
  obtain ⟨a, len, cap, xs, rfl, hv, hxs⟩ := open_sl_int (e := 5) (k := .u8) (by kernel_rfl) (by kernel_rfl) (by kernel_rfl) (open_arg_sl (e := 5) (by kernel_rfl) k1 h1)
  obtain ⟨l, hl⟩ := u8_list xs hxs
  rw [hl] at hv
  exact numbers_ok z a len cap l (by have := bounds_i64 hz; exact this) hv

theorem over : Rows.codecNumbersRow.holds Try.pinned (OpenSpec.ofChange Rows.codecNumbersSpec) :=
  OpenClaim.holds_of_wide 3 Try.f3 rfl rfl rfl rfl rfl rfl rfl ⟨rfl, rfl, rfl, rfl, rfl⟩ rfl rfl rfl rfl rfl (by kernel_rfl) Try.func3 (by kernel_rfl)
    (of_decide_eq_true (by kernel_rfl)) (by unfold Func.isWrapper; first | (rw [if_pos (by decide +kernel)]; kernel_rfl) | (rw [if_neg (by decide +kernel)]; exact ⟨rfl, rfl⟩))
    (fun os started H enc _ => lifted os started H enc)
theorem proved : Rows.CodecNumbersSaid := over
end Go.Proofs.Ytalkcjehehljcaa.codecNumbers

