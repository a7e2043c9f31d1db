/-
  Walks: the laws CodecReplies, CodecLong.
-/
import Derived.Test.YtalkcjehehljcaaCn
import Derived.Test.YtalkcjehehljcaaCj
import Derived.Test.YtalkcjehehljcaaVm
namespace Fb.Try
open Go Go.Proofs Fb Fb.Codec

theorem encs_rp_len {w : World} {r : Rp} {cs : List Value} (h : IsRp w r cs) (hl : r.ta.length ≤ 200 ∧ r.da.length ≤ 200 ∧ r.text.length ≤ 200 ∧ r.ans.length ≤ 200) : (encs r.items).length ≤ 65536 := by
  obtain ⟨s1, s2, s3, s4, _, h1, h2, h3, h4, k0, k1, k2, k3, k4, k5, k6, k7, k8, k9⟩ := h
  have f0 := num_len k0
  have f1 := num_len k1
  have f2 := num_len k2
  have f3 := num_len k3
  have f4 := num_len k4
  have f5 := num_len k5
  have f6 := num_len k6
  have f7 := num_len k7
  have f8 := num_len k8
  have f9 := num_len k9
  have lm : ∀ xs : List Int, xs.length ≤ 200 → (∀ x ∈ xs, inI64 x) → (num xs.length ++ numsB xs).length ≤ 2010 := fun xs hl hx => by
    have hin : inI64 (xs.length : Int) := by unfold inI64; omega
    have := num_len hin
    have := numsB_len xs hx
    simp only [List.length_append]
    omega
  have b1 := lm r.ta hl.1 h1.2
  have b2 := lm r.da hl.2.1 h2.2
  have b3 := lm r.text hl.2.2.1 h3.2
  have b4 := lm r.ans hl.2.2.2 h4.2
  simp only [encs, Rp.items, List.flatMap_cons, List.flatMap_nil, It.enc, List.length_append, List.length_nil] at b1 b2 b3 b4 ⊢
  omega

set_option maxRecDepth 100000 in
theorem replies_ok {w : World} {e : Rp} {cs : List Value} (h : IsRp w e cs) :
    Cal Try.prog 7 ⟨[.agg ⟨cs⟩]⟩ w fun v w' => v = .bool true ∧ Ext w w' := by
  have h0 := h
  obtain ⟨s1, s2, s3, s4, rfl, _⟩ := h
  refine go7 (by rfl) ?_
  (repeat ((conv => whnf); (first | with_reducible refine r_tt ?_ | with_reducible refine r_ff ?_ | with_reducible refine r_ntt ?_ | with_reducible refine r_nff ?_ | refine r_need (by omega) ?_ | refine r_i64 (by omega) ?_ | refine r_dect (by omega) ?_ | refine r_decf (by omega) ?_ | refine r_eqt (by omega) ?_ | refine r_eqf (by omega) ?_ | refine r_net (by omega) ?_ | refine r_nef (by omega) ?_ | refine r_u8 (by omega) ?_ | refine r_u64 (by omega) ?_ | refine r_i32 (by omega) ?_ | refine r_u32 (by omega) ?_ | refine r_rem (by omega) ?_ | refine r_quo (by omega) ?_ | refine r_ldb (by assumption) (by rfl) ?_ | refine r_ldbE (by assumption) (by rfl) ?_))); (conv => whnf)
  refine r_new fun b1 w1 hx1 hb1 hs1 hblk1 => ?_
  have hblk1 : Blk w1 b1 49 (rpCells e s1 s2 s3 s4) := hblk1
  (repeat ((conv => whnf); (first | with_reducible refine r_tt ?_ | with_reducible refine r_ff ?_ | with_reducible refine r_ntt ?_ | with_reducible refine r_nff ?_ | refine r_need (by omega) ?_ | refine r_i64 (by omega) ?_ | refine r_dect (by omega) ?_ | refine r_decf (by omega) ?_ | refine r_eqt (by omega) ?_ | refine r_eqf (by omega) ?_ | refine r_net (by omega) ?_ | refine r_nef (by omega) ?_ | refine r_u8 (by omega) ?_ | refine r_u64 (by omega) ?_ | refine r_i32 (by omega) ?_ | refine r_u32 (by omega) ?_ | refine r_rem (by omega) ?_ | refine r_quo (by omega) ?_ | refine r_ldb (by assumption) (by rfl) ?_ | refine r_ldbE (by assumption) (by rfl) ?_))); (conv => whnf)
  refine r_ldnb (vs := rpCells e s1 s2 s3 s4) hblk1 rfl rfl ?_
  (repeat ((conv => whnf); (first | with_reducible refine r_tt ?_ | with_reducible refine r_ff ?_ | with_reducible refine r_ntt ?_ | with_reducible refine r_nff ?_ | refine r_need (by omega) ?_ | refine r_i64 (by omega) ?_ | refine r_dect (by omega) ?_ | refine r_decf (by omega) ?_ | refine r_eqt (by omega) ?_ | refine r_eqf (by omega) ?_ | refine r_net (by omega) ?_ | refine r_nef (by omega) ?_ | refine r_u8 (by omega) ?_ | refine r_u64 (by omega) ?_ | refine r_i32 (by omega) ?_ | refine r_u32 (by omega) ?_ | refine r_rem (by omega) ?_ | refine r_quo (by omega) ?_ | refine r_ldb (by assumption) (by rfl) ?_ | refine r_ldbE (by assumption) (by rfl) ?_))); (conv => whnf)
  refine r_cal (greatReply_ok (h0.ext hx1)) ?_
  rintro _ w3 ⟨hx2, rfl⟩
  have hx := hx1.trans hx2
  by_cases hg : e.ta.length ≤ 200 ∧ e.da.length ≤ 200 ∧ e.text.length ≤ 200 ∧ e.ans.length ≤ 200
  · rw [show (decide ¬(e.ta.length ≤ 200 ∧ e.da.length ≤ 200 ∧ e.text.length ≤ 200 ∧ e.ans.length ≤ 200)) = false by simp [hg]]
    have hblk3 := hblk1.ext hx2
    (repeat ((conv => whnf); (first | with_reducible refine r_tt ?_ | with_reducible refine r_ff ?_ | with_reducible refine r_ntt ?_ | with_reducible refine r_nff ?_ | refine r_need (by omega) ?_ | refine r_i64 (by omega) ?_ | refine r_dect (by omega) ?_ | refine r_decf (by omega) ?_ | refine r_eqt (by omega) ?_ | refine r_eqf (by omega) ?_ | refine r_net (by omega) ?_ | refine r_nef (by omega) ?_ | refine r_u8 (by omega) ?_ | refine r_u64 (by omega) ?_ | refine r_i32 (by omega) ?_ | refine r_u32 (by omega) ?_ | refine r_rem (by omega) ?_ | refine r_quo (by omega) ?_ | refine r_ldb (by assumption) (by rfl) ?_ | refine r_ldbE (by assumption) (by rfl) ?_))); (conv => whnf)
    refine r_ldnb (vs := rpCells e s1 s2 s3 s4) hblk3 rfl rfl ?_
    (repeat ((conv => whnf); (first | with_reducible refine r_tt ?_ | with_reducible refine r_ff ?_ | with_reducible refine r_ntt ?_ | with_reducible refine r_nff ?_ | refine r_need (by omega) ?_ | refine r_i64 (by omega) ?_ | refine r_dect (by omega) ?_ | refine r_decf (by omega) ?_ | refine r_eqt (by omega) ?_ | refine r_eqf (by omega) ?_ | refine r_net (by omega) ?_ | refine r_nef (by omega) ?_ | refine r_u8 (by omega) ?_ | refine r_u64 (by omega) ?_ | refine r_i32 (by omega) ?_ | refine r_u32 (by omega) ?_ | refine r_rem (by omega) ?_ | refine r_quo (by omega) ?_ | refine r_ldb (by assumption) (by rfl) ?_ | refine r_ldbE (by assumption) (by rfl) ?_))); (conv => whnf)
    refine r_cal (PutReply_ok (h0.ext hx)) ?_
    rintro v w4 ⟨hx4, hp⟩
    have hlen := encs_rp_len h0 hg
    rcases hp with ⟨_, s, rfl, hown⟩ | ⟨hl, _⟩
    · obtain ⟨pa, pc, rfl, hpv, _⟩ := View.of_own hown
      (repeat ((conv => whnf); (first | with_reducible refine r_tt ?_ | with_reducible refine r_ff ?_ | with_reducible refine r_ntt ?_ | with_reducible refine r_nff ?_ | refine r_need (by omega) ?_ | refine r_i64 (by omega) ?_ | refine r_dect (by omega) ?_ | refine r_decf (by omega) ?_ | refine r_eqt (by omega) ?_ | refine r_eqf (by omega) ?_ | refine r_net (by omega) ?_ | refine r_nef (by omega) ?_ | refine r_u8 (by omega) ?_ | refine r_u64 (by omega) ?_ | refine r_i32 (by omega) ?_ | refine r_u32 (by omega) ?_ | refine r_rem (by omega) ?_ | refine r_quo (by omega) ?_ | refine r_ldb (by assumption) (by rfl) ?_ | refine r_ldbE (by assumption) (by rfl) ?_))); (conv => whnf)
      refine r_cal (GetReply_ok hpv) ?_
      rintro v w5 ⟨hx5, f, ok, ds, rfl, hf, hyes, hno⟩
      have hdec := decW_enc h0.items_ok
      rw [Rp.items_shape] at hdec
      cases ok with
      | false =>
        exfalso
        rcases (hno rfl).2 with h | h
        · omega
        · rw [hdec] at h; cases h
      | true =>
        have hfe : f = e := by
          have := (hyes rfl).2
          rw [hdec] at this
          exact Rp.items_inj (Option.some.inj this).symm
        subst hfe
        (repeat ((conv => whnf); (first | with_reducible refine r_tt ?_ | with_reducible refine r_ff ?_ | with_reducible refine r_ntt ?_ | with_reducible refine r_nff ?_ | refine r_need (by omega) ?_ | refine r_i64 (by omega) ?_ | refine r_dect (by omega) ?_ | refine r_decf (by omega) ?_ | refine r_eqt (by omega) ?_ | refine r_eqf (by omega) ?_ | refine r_net (by omega) ?_ | refine r_nef (by omega) ?_ | refine r_u8 (by omega) ?_ | refine r_u64 (by omega) ?_ | refine r_i32 (by omega) ?_ | refine r_u32 (by omega) ?_ | refine r_rem (by omega) ?_ | refine r_quo (by omega) ?_ | refine r_ldb (by assumption) (by rfl) ?_ | refine r_ldbE (by assumption) (by rfl) ?_))); (conv => whnf)
        refine r_new fun b6 w6 hx6 hb6 hs6 hblk6 => ?_
        have hf0 := hf
        obtain ⟨t1, t2, t3, t4, rfl, _⟩ := hf
        (repeat ((conv => whnf); (first | with_reducible refine r_tt ?_ | with_reducible refine r_ff ?_ | with_reducible refine r_ntt ?_ | with_reducible refine r_nff ?_ | refine r_need (by omega) ?_ | refine r_i64 (by omega) ?_ | refine r_dect (by omega) ?_ | refine r_decf (by omega) ?_ | refine r_eqt (by omega) ?_ | refine r_eqf (by omega) ?_ | refine r_net (by omega) ?_ | refine r_nef (by omega) ?_ | refine r_u8 (by omega) ?_ | refine r_u64 (by omega) ?_ | refine r_i32 (by omega) ?_ | refine r_u32 (by omega) ?_ | refine r_rem (by omega) ?_ | refine r_quo (by omega) ?_ | refine r_ldb (by assumption) (by rfl) ?_ | refine r_ldbE (by assumption) (by rfl) ?_))); (conv => whnf)
        refine r_stn hblk6 (by simp [rpCells]) (by intro v hv; simp [rpCells, Sl.v] at hv; rcases hv with rfl | rfl | rfl | rfl | rfl | rfl | rfl | rfl | rfl | rfl | rfl | rfl | rfl | rfl <;> rfl) fun w7 hc7 hs7 hblk7 => ?_
        have hblk7 : Blk w7 b6 49 (rpCells f t1 t2 t3 t4) := hblk7
        have hl1 := hblk1.lt
        have hx57 : Ext w5 w7 := Chg.step hx6 hc7 fun k hk hlt => by omega
        have hx37 : Ext w3 w7 := (hx4.trans hx5).trans hx57
        have hx07 : Ext w w7 := hx.trans hx37
        have hblk1' := hblk3.ext hx37
        (repeat ((conv => whnf); (first | with_reducible refine r_tt ?_ | with_reducible refine r_ff ?_ | with_reducible refine r_ntt ?_ | with_reducible refine r_nff ?_ | refine r_need (by omega) ?_ | refine r_i64 (by omega) ?_ | refine r_dect (by omega) ?_ | refine r_decf (by omega) ?_ | refine r_eqt (by omega) ?_ | refine r_eqf (by omega) ?_ | refine r_net (by omega) ?_ | refine r_nef (by omega) ?_ | refine r_u8 (by omega) ?_ | refine r_u64 (by omega) ?_ | refine r_i32 (by omega) ?_ | refine r_u32 (by omega) ?_ | refine r_rem (by omega) ?_ | refine r_quo (by omega) ?_ | refine r_ldb (by assumption) (by rfl) ?_ | refine r_ldbE (by assumption) (by rfl) ?_))); (conv => whnf)
        refine r_drawE fun w8 hx8 _ => ?_
        (repeat ((conv => whnf); (first | with_reducible refine r_tt ?_ | with_reducible refine r_ff ?_ | with_reducible refine r_ntt ?_ | with_reducible refine r_nff ?_ | refine r_need (by omega) ?_ | refine r_i64 (by omega) ?_ | refine r_dect (by omega) ?_ | refine r_decf (by omega) ?_ | refine r_eqt (by omega) ?_ | refine r_eqf (by omega) ?_ | refine r_net (by omega) ?_ | refine r_nef (by omega) ?_ | refine r_u8 (by omega) ?_ | refine r_u64 (by omega) ?_ | refine r_i32 (by omega) ?_ | refine r_u32 (by omega) ?_ | refine r_rem (by omega) ?_ | refine r_quo (by omega) ?_ | refine r_ldb (by assumption) (by rfl) ?_ | refine r_ldbE (by assumption) (by rfl) ?_))); (conv => whnf)
        refine r_cal (fixed_ok w8) ?_
        rintro v w9 ⟨rfl, hx9⟩
        (repeat ((conv => whnf); (first | with_reducible refine r_tt ?_ | with_reducible refine r_ff ?_ | with_reducible refine r_ntt ?_ | with_reducible refine r_nff ?_ | refine r_need (by omega) ?_ | refine r_i64 (by omega) ?_ | refine r_dect (by omega) ?_ | refine r_decf (by omega) ?_ | refine r_eqt (by omega) ?_ | refine r_eqf (by omega) ?_ | refine r_net (by omega) ?_ | refine r_nef (by omega) ?_ | refine r_u8 (by omega) ?_ | refine r_u64 (by omega) ?_ | refine r_i32 (by omega) ?_ | refine r_u32 (by omega) ?_ | refine r_rem (by omega) ?_ | refine r_quo (by omega) ?_ | refine r_ldb (by assumption) (by rfl) ?_ | refine r_ldbE (by assumption) (by rfl) ?_))); (conv => whnf)
        refine r_held (hx8.trans hx9) ?_
        (repeat ((conv => whnf); (first | with_reducible refine r_tt ?_ | with_reducible refine r_ff ?_ | with_reducible refine r_ntt ?_ | with_reducible refine r_nff ?_ | refine r_need (by omega) ?_ | refine r_i64 (by omega) ?_ | refine r_dect (by omega) ?_ | refine r_decf (by omega) ?_ | refine r_eqt (by omega) ?_ | refine r_eqf (by omega) ?_ | refine r_net (by omega) ?_ | refine r_nef (by omega) ?_ | refine r_u8 (by omega) ?_ | refine r_u64 (by omega) ?_ | refine r_i32 (by omega) ?_ | refine r_u32 (by omega) ?_ | refine r_rem (by omega) ?_ | refine r_quo (by omega) ?_ | refine r_ldb (by assumption) (by rfl) ?_ | refine r_ldbE (by assumption) (by rfl) ?_))); (conv => whnf)
        refine r_convE ((hpv.ext hx5).ext hx57) ?_
        (repeat ((conv => whnf); (first | with_reducible refine r_tt ?_ | with_reducible refine r_ff ?_ | with_reducible refine r_ntt ?_ | with_reducible refine r_nff ?_ | refine r_need (by omega) ?_ | refine r_i64 (by omega) ?_ | refine r_dect (by omega) ?_ | refine r_decf (by omega) ?_ | refine r_eqt (by omega) ?_ | refine r_eqf (by omega) ?_ | refine r_net (by omega) ?_ | refine r_nef (by omega) ?_ | refine r_u8 (by omega) ?_ | refine r_u64 (by omega) ?_ | refine r_i32 (by omega) ?_ | refine r_u32 (by omega) ?_ | refine r_rem (by omega) ?_ | refine r_quo (by omega) ?_ | refine r_ldb (by assumption) (by rfl) ?_ | refine r_ldbE (by assumption) (by rfl) ?_))); (conv => whnf)
        refine r_ldnbE (vs := rpCells f s1 s2 s3 s4) hblk1' rfl rfl ?_
        (repeat ((conv => whnf); (first | with_reducible refine r_tt ?_ | with_reducible refine r_ff ?_ | with_reducible refine r_ntt ?_ | with_reducible refine r_nff ?_ | refine r_need (by omega) ?_ | refine r_i64 (by omega) ?_ | refine r_dect (by omega) ?_ | refine r_decf (by omega) ?_ | refine r_eqt (by omega) ?_ | refine r_eqf (by omega) ?_ | refine r_net (by omega) ?_ | refine r_nef (by omega) ?_ | refine r_u8 (by omega) ?_ | refine r_u64 (by omega) ?_ | refine r_i32 (by omega) ?_ | refine r_u32 (by omega) ?_ | refine r_rem (by omega) ?_ | refine r_quo (by omega) ?_ | refine r_ldb (by assumption) (by rfl) ?_ | refine r_ldbE (by assumption) (by rfl) ?_))); (conv => whnf)
        refine r_cal (Reply_ok (h0.ext ((hx07.trans hx8).trans hx9)) hg) ?_
        rintro _ w10 ⟨hx10, rfl⟩
        (repeat ((conv => whnf); (first | with_reducible refine r_tt ?_ | with_reducible refine r_ff ?_ | with_reducible refine r_ntt ?_ | with_reducible refine r_nff ?_ | refine r_need (by omega) ?_ | refine r_i64 (by omega) ?_ | refine r_dect (by omega) ?_ | refine r_decf (by omega) ?_ | refine r_eqt (by omega) ?_ | refine r_eqf (by omega) ?_ | refine r_net (by omega) ?_ | refine r_nef (by omega) ?_ | refine r_u8 (by omega) ?_ | refine r_u64 (by omega) ?_ | refine r_i32 (by omega) ?_ | refine r_u32 (by omega) ?_ | refine r_rem (by omega) ?_ | refine r_quo (by omega) ?_ | refine r_ldb (by assumption) (by rfl) ?_ | refine r_ldbE (by assumption) (by rfl) ?_))); (conv => whnf)
        refine r_held ((hx8.trans hx9).trans hx10) ?_
        (repeat ((conv => whnf); (first | with_reducible refine r_tt ?_ | with_reducible refine r_ff ?_ | with_reducible refine r_ntt ?_ | with_reducible refine r_nff ?_ | refine r_need (by omega) ?_ | refine r_i64 (by omega) ?_ | refine r_dect (by omega) ?_ | refine r_decf (by omega) ?_ | refine r_eqt (by omega) ?_ | refine r_eqf (by omega) ?_ | refine r_net (by omega) ?_ | refine r_nef (by omega) ?_ | refine r_u8 (by omega) ?_ | refine r_u64 (by omega) ?_ | refine r_i32 (by omega) ?_ | refine r_u32 (by omega) ?_ | refine r_rem (by omega) ?_ | refine r_quo (by omega) ?_ | refine r_ldb (by assumption) (by rfl) ?_ | refine r_ldbE (by assumption) (by rfl) ?_))); (conv => whnf)
        refine r_true (eqb rfl) ?_
        (repeat ((conv => whnf); (first | with_reducible refine r_tt ?_ | with_reducible refine r_ff ?_ | with_reducible refine r_ntt ?_ | with_reducible refine r_nff ?_ | refine r_need (by omega) ?_ | refine r_i64 (by omega) ?_ | refine r_dect (by omega) ?_ | refine r_decf (by omega) ?_ | refine r_eqt (by omega) ?_ | refine r_eqf (by omega) ?_ | refine r_net (by omega) ?_ | refine r_nef (by omega) ?_ | refine r_u8 (by omega) ?_ | refine r_u64 (by omega) ?_ | refine r_i32 (by omega) ?_ | refine r_u32 (by omega) ?_ | refine r_rem (by omega) ?_ | refine r_quo (by omega) ?_ | refine r_ldb (by assumption) (by rfl) ?_ | refine r_ldbE (by assumption) (by rfl) ?_))); (conv => whnf)
        refine r_ldnbE (vs := rpCells f t1 t2 t3 t4) hblk7 rfl rfl ?_
        (repeat ((conv => whnf); (first | with_reducible refine r_tt ?_ | with_reducible refine r_ff ?_ | with_reducible refine r_ntt ?_ | with_reducible refine r_nff ?_ | refine r_need (by omega) ?_ | refine r_i64 (by omega) ?_ | refine r_dect (by omega) ?_ | refine r_decf (by omega) ?_ | refine r_eqt (by omega) ?_ | refine r_eqf (by omega) ?_ | refine r_net (by omega) ?_ | refine r_nef (by omega) ?_ | refine r_u8 (by omega) ?_ | refine r_u64 (by omega) ?_ | refine r_i32 (by omega) ?_ | refine r_u32 (by omega) ?_ | refine r_rem (by omega) ?_ | refine r_quo (by omega) ?_ | refine r_ldb (by assumption) (by rfl) ?_ | refine r_ldbE (by assumption) (by rfl) ?_))); (conv => whnf)
        refine r_ldnbE (vs := rpCells f s1 s2 s3 s4) hblk1' rfl rfl ?_
        (repeat ((conv => whnf); (first | with_reducible refine r_tt ?_ | with_reducible refine r_ff ?_ | with_reducible refine r_ntt ?_ | with_reducible refine r_nff ?_ | refine r_need (by omega) ?_ | refine r_i64 (by omega) ?_ | refine r_dect (by omega) ?_ | refine r_decf (by omega) ?_ | refine r_eqt (by omega) ?_ | refine r_eqf (by omega) ?_ | refine r_net (by omega) ?_ | refine r_nef (by omega) ?_ | refine r_u8 (by omega) ?_ | refine r_u64 (by omega) ?_ | refine r_i32 (by omega) ?_ | refine r_u32 (by omega) ?_ | refine r_rem (by omega) ?_ | refine r_quo (by omega) ?_ | refine r_ldb (by assumption) (by rfl) ?_ | refine r_ldbE (by assumption) (by rfl) ?_))); (conv => whnf)
        have hx710 := (hx8.trans hx9).trans hx10
        refine r_cal (SameReply_ok (hf0.ext (hx57.trans hx710)) (h0.ext (hx07.trans hx710))) ?_
        rintro _ w11 ⟨hx11, r, rfl, hr⟩
        (repeat ((conv => whnf); (first | with_reducible refine r_tt ?_ | with_reducible refine r_ff ?_ | with_reducible refine r_ntt ?_ | with_reducible refine r_nff ?_ | refine r_need (by omega) ?_ | refine r_i64 (by omega) ?_ | refine r_dect (by omega) ?_ | refine r_decf (by omega) ?_ | refine r_eqt (by omega) ?_ | refine r_eqf (by omega) ?_ | refine r_net (by omega) ?_ | refine r_nef (by omega) ?_ | refine r_u8 (by omega) ?_ | refine r_u64 (by omega) ?_ | refine r_i32 (by omega) ?_ | refine r_u32 (by omega) ?_ | refine r_rem (by omega) ?_ | refine r_quo (by omega) ?_ | refine r_ldb (by assumption) (by rfl) ?_ | refine r_ldbE (by assumption) (by rfl) ?_))); (conv => whnf)
        refine r_held (hx710.trans hx11) ?_
        (repeat ((conv => whnf); (first | with_reducible refine r_tt ?_ | with_reducible refine r_ff ?_ | with_reducible refine r_ntt ?_ | with_reducible refine r_nff ?_ | refine r_need (by omega) ?_ | refine r_i64 (by omega) ?_ | refine r_dect (by omega) ?_ | refine r_decf (by omega) ?_ | refine r_eqt (by omega) ?_ | refine r_eqf (by omega) ?_ | refine r_net (by omega) ?_ | refine r_nef (by omega) ?_ | refine r_u8 (by omega) ?_ | refine r_u64 (by omega) ?_ | refine r_i32 (by omega) ?_ | refine r_u32 (by omega) ?_ | refine r_rem (by omega) ?_ | refine r_quo (by omega) ?_ | refine r_ldb (by assumption) (by rfl) ?_ | refine r_ldbE (by assumption) (by rfl) ?_))); (conv => whnf)
        refine ⟨?_, (hx07.trans hx710).trans hx11⟩
        rw [hr.2 rfl]
    · omega
  · rw [show (decide ¬(e.ta.length ≤ 200 ∧ e.da.length ≤ 200 ∧ e.text.length ≤ 200 ∧ e.ans.length ≤ 200)) = true by simp only [decide_eq_true_eq]; exact hg]
    (repeat ((conv => whnf); (first | with_reducible refine r_tt ?_ | with_reducible refine r_ff ?_ | with_reducible refine r_ntt ?_ | with_reducible refine r_nff ?_ | refine r_need (by omega) ?_ | refine r_i64 (by omega) ?_ | refine r_dect (by omega) ?_ | refine r_decf (by omega) ?_ | refine r_eqt (by omega) ?_ | refine r_eqf (by omega) ?_ | refine r_net (by omega) ?_ | refine r_nef (by omega) ?_ | refine r_u8 (by omega) ?_ | refine r_u64 (by omega) ?_ | refine r_i32 (by omega) ?_ | refine r_u32 (by omega) ?_ | refine r_rem (by omega) ?_ | refine r_quo (by omega) ?_ | refine r_ldb (by assumption) (by rfl) ?_ | refine r_ldbE (by assumption) (by rfl) ?_))); (conv => whnf)
    refine r_cal (fixed_ok w3) ?_
    rintro v w4 ⟨rfl, hx4⟩
    (repeat ((conv => whnf); (first | with_reducible refine r_tt ?_ | with_reducible refine r_ff ?_ | with_reducible refine r_ntt ?_ | with_reducible refine r_nff ?_ | refine r_need (by omega) ?_ | refine r_i64 (by omega) ?_ | refine r_dect (by omega) ?_ | refine r_decf (by omega) ?_ | refine r_eqt (by omega) ?_ | refine r_eqf (by omega) ?_ | refine r_net (by omega) ?_ | refine r_nef (by omega) ?_ | refine r_u8 (by omega) ?_ | refine r_u64 (by omega) ?_ | refine r_i32 (by omega) ?_ | refine r_u32 (by omega) ?_ | refine r_rem (by omega) ?_ | refine r_quo (by omega) ?_ | refine r_ldb (by assumption) (by rfl) ?_ | refine r_ldbE (by assumption) (by rfl) ?_))); (conv => whnf)
    exact ⟨rfl, hx.trans hx4⟩

theorem numsB_zero : ∀ k, numsB (List.replicate k 0) = List.replicate k 0
  | 0 => rfl
  | k + 1 => by
    have := numsB_zero k
    simp only [numsB, List.replicate_succ, List.flatMap_cons] at this ⊢
    rw [this]
    rfl
theorem mk_ints : MakeE Try.prog 34 3 1 8 [.int .i64 0] := ⟨by kernel_rfl, _, _, rfl, rfl, by kernel_rfl, by kernel_rfl, by kernel_rfl, rfl, by omega⟩

set_option maxRecDepth 100000 in
theorem long_ok (w : World) (n : Int) (hn : 0 ≤ n ∧ n ≤ 4294967295) :
    Cal Try.prog 6 ⟨[.int .u32 n]⟩ w fun v w' => v = .bool true ∧ Ext w w' := by
  refine go6 (by rfl) ?_
  (repeat ((conv => whnf); (first | with_reducible refine r_tt ?_ | with_reducible refine r_ff ?_ | with_reducible refine r_ntt ?_ | with_reducible refine r_nff ?_ | refine r_need (by omega) ?_ | refine r_i64 (by omega) ?_ | refine r_dect (by omega) ?_ | refine r_decf (by omega) ?_ | refine r_eqt (by omega) ?_ | refine r_eqf (by omega) ?_ | refine r_net (by omega) ?_ | refine r_nef (by omega) ?_ | refine r_u8 (by omega) ?_ | refine r_u64 (by omega) ?_ | refine r_i32 (by omega) ?_ | refine r_u32 (by omega) ?_ | refine r_rem (by omega) ?_ | refine r_quo (by omega) ?_ | refine r_ldb (by assumption) (by rfl) ?_ | refine r_ldbE (by assumption) (by rfl) ?_))); (conv => whnf)
  obtain ⟨k, hk⟩ : ∃ k : Nat, n % 70000 = (k : Int) := ⟨(n % 70000).toNat, by omega⟩
  rw [hk]
  have hk7 : k < 70000 := by omega
  have hkin : inI64 (k : Int) := by unfold inI64; omega
  have nl := num_len hkin
  have h0 : inI64 0 := by unfold inI64; omega
  have hz : ∀ x ∈ List.replicate k (0 : Int), inI64 x := fun x hx => by rw [(List.mem_replicate.1 hx).2]; exact h0
  refine r_make mk_ints (by omega) fun b1 w1 hx1 hb1 hs1 hblk1 => ?_
  rw [Int.toNat_natCast] at hblk1
  have hblk1 : Blk w1 b1 3 (ivs (List.replicate k 0)) := by
    have e : (List.replicate k [Value.int .i64 0]).flatten = ivs (List.replicate k 0) := by simp [ivs]
    rw [← e]; exact hblk1
  rw [Int.toNat_natCast]
  have hv : View w1 (some ⟨b1, 0, none⟩) k k 1 (ivs (List.replicate k 0)) := View.of_blk hblk1 (by simp [ivs]) (by unfold maxLen; omega)
  have he : IsEv w1 ⟨0, 0, 0, [], List.replicate k 0, 0, 0⟩ (evCells ⟨0, 0, 0, [], List.replicate k 0, 0, 0⟩ none 0 0 (some ⟨b1, 0, none⟩) k k) := ⟨none, 0, 0, some ⟨b1, 0, none⟩, k, k, rfl, View.nil w1 1, hv, ⟨h0, h0, h0, by simp, hz, h0, h0⟩⟩
  have hn0 : Sl.is w1 (none, 0, 0) [] := ⟨View.nil w1 1, by simp⟩
  have hr : IsRp w1 ⟨0, 0, 0, 0, [], 0, [], 0, 0, 0, [], 0, 0, List.replicate k 0⟩ (rpCells ⟨0, 0, 0, 0, [], 0, [], 0, 0, 0, [], 0, 0, List.replicate k 0⟩ (none, 0, 0) (none, 0, 0) (none, 0, 0) (some ⟨b1, 0, none⟩, k, k)) :=
    ⟨(none, 0, 0), (none, 0, 0), (none, 0, 0), (some ⟨b1, 0, none⟩, k, k), rfl, hn0, hn0, hn0, ⟨hv, hz⟩, h0, h0, h0, h0, h0, h0, h0, h0, h0, h0⟩
  have l1 : (encs (Ev.items ⟨0, 0, 0, [], List.replicate k 0, 0, 0⟩)).length = 6 + ((num k).length + k) := by
    have z : num 0 = [0] := by decide
    simp only [encs, Ev.items, List.flatMap_cons, List.flatMap_nil, It.enc, numsB_zero, List.length_append, List.length_replicate, List.length_nil, z]
    simp [numsB, z]
    omega
  have l2 : (encs (Rp.items ⟨0, 0, 0, 0, [], 0, [], 0, 0, 0, [], 0, 0, List.replicate k 0⟩)).length = 13 + ((num k).length + k) := by
    have z : num 0 = [0] := by decide
    simp only [encs, Rp.items, List.flatMap_cons, List.flatMap_nil, It.enc, numsB_zero, List.length_append, List.length_replicate, List.length_nil, z]
    simp [numsB, z]
    omega
  (repeat ((conv => whnf); (first | with_reducible refine r_tt ?_ | with_reducible refine r_ff ?_ | with_reducible refine r_ntt ?_ | with_reducible refine r_nff ?_ | refine r_need (by omega) ?_ | refine r_i64 (by omega) ?_ | refine r_dect (by omega) ?_ | refine r_decf (by omega) ?_ | refine r_eqt (by omega) ?_ | refine r_eqf (by omega) ?_ | refine r_net (by omega) ?_ | refine r_nef (by omega) ?_ | refine r_u8 (by omega) ?_ | refine r_u64 (by omega) ?_ | refine r_i32 (by omega) ?_ | refine r_u32 (by omega) ?_ | refine r_rem (by omega) ?_ | refine r_quo (by omega) ?_ | refine r_ldb (by assumption) (by rfl) ?_ | refine r_ldbE (by assumption) (by rfl) ?_))); (conv => whnf)
  refine r_cal (PutEvent_ok' he) ?_
  rintro v w2 ⟨hx2, hp⟩
  unfold PutRes at hp
  rw [l1] at hp
  have hp' : ∃ pa pl pc ok, v = .tuple ⟨[.slice pa pl pc, .bool ok]⟩ ∧ (ok = true ↔ 6 + ((num k).length + k) ≤ 65536) ∧ pl = (if ok then 6 + ((num k).length + k) else 0) := by
    rcases hp with ⟨hl, s, rfl, hown⟩ | ⟨hl, rfl⟩
    · obtain ⟨pa, pc, rfl, _⟩ := View.of_own hown
      exact ⟨pa, _, pc, true, rfl, by simpa using hl, rfl⟩
    · exact ⟨none, 0, 0, false, rfl, by simp; omega, rfl⟩
  clear hp
  obtain ⟨pa, pl, pc, ok, rfl, hok, hpl⟩ := hp'
  (repeat ((conv => whnf); (first | with_reducible refine r_tt ?_ | with_reducible refine r_ff ?_ | with_reducible refine r_ntt ?_ | with_reducible refine r_nff ?_ | refine r_need (by omega) ?_ | refine r_i64 (by omega) ?_ | refine r_dect (by omega) ?_ | refine r_decf (by omega) ?_ | refine r_eqt (by omega) ?_ | refine r_eqf (by omega) ?_ | refine r_net (by omega) ?_ | refine r_nef (by omega) ?_ | refine r_u8 (by omega) ?_ | refine r_u64 (by omega) ?_ | refine r_i32 (by omega) ?_ | refine r_u32 (by omega) ?_ | refine r_rem (by omega) ?_ | refine r_quo (by omega) ?_ | refine r_ldb (by assumption) (by rfl) ?_ | refine r_ldbE (by assumption) (by rfl) ?_))); (conv => whnf)
  refine r_cal (PutReply_ok (hr.ext hx2)) ?_
  rintro v w3 ⟨hx3, hp⟩
  unfold PutRes at hp
  rw [l2] at hp
  have hp' : ∃ qa ql qc oq, v = .tuple ⟨[.slice qa ql qc, .bool oq]⟩ ∧ (oq = true ↔ 13 + ((num k).length + k) ≤ 65536) ∧ ql = (if oq then 13 + ((num k).length + k) else 0) := by
    rcases hp with ⟨hl, s, rfl, hown⟩ | ⟨hl, rfl⟩
    · obtain ⟨pa, pc, rfl, _⟩ := View.of_own hown
      exact ⟨pa, _, pc, true, rfl, by simpa using hl, rfl⟩
    · exact ⟨none, 0, 0, false, rfl, by simp; omega, rfl⟩
  clear hp
  obtain ⟨qa, ql, qc, oq, rfl, hoq, hql⟩ := hp'
  (repeat ((conv => whnf); (first | with_reducible refine r_tt ?_ | with_reducible refine r_ff ?_ | with_reducible refine r_ntt ?_ | with_reducible refine r_nff ?_ | refine r_need (by omega) ?_ | refine r_i64 (by omega) ?_ | refine r_dect (by omega) ?_ | refine r_decf (by omega) ?_ | refine r_eqt (by omega) ?_ | refine r_eqf (by omega) ?_ | refine r_net (by omega) ?_ | refine r_nef (by omega) ?_ | refine r_u8 (by omega) ?_ | refine r_u64 (by omega) ?_ | refine r_i32 (by omega) ?_ | refine r_u32 (by omega) ?_ | refine r_rem (by omega) ?_ | refine r_quo (by omega) ?_ | refine r_ldb (by assumption) (by rfl) ?_ | refine r_ldbE (by assumption) (by rfl) ?_))); (conv => whnf)
  refine r_cal (PutNumber_ok k w3 hkin) ?_
  rintro v w4 ⟨hx4, hown⟩
  obtain ⟨na, nc, rfl, _⟩ := View.of_own hown
  (repeat ((conv => whnf); (first | with_reducible refine r_tt ?_ | with_reducible refine r_ff ?_ | with_reducible refine r_ntt ?_ | with_reducible refine r_nff ?_ | refine r_need (by omega) ?_ | refine r_i64 (by omega) ?_ | refine r_dect (by omega) ?_ | refine r_decf (by omega) ?_ | refine r_eqt (by omega) ?_ | refine r_eqf (by omega) ?_ | refine r_net (by omega) ?_ | refine r_nef (by omega) ?_ | refine r_u8 (by omega) ?_ | refine r_u64 (by omega) ?_ | refine r_i32 (by omega) ?_ | refine r_u32 (by omega) ?_ | refine r_rem (by omega) ?_ | refine r_quo (by omega) ?_ | refine r_ldb (by assumption) (by rfl) ?_ | refine r_ldbE (by assumption) (by rfl) ?_))); (conv => whnf)
  refine r_cal (fixed_ok w4) ?_
  rintro _ w5 ⟨rfl, hx5⟩
  have hfin : Ext w w5 := (((hx1.trans hx2).trans hx3).trans hx4).trans hx5
  have d1 : (if false = true then !(ok == decide ((6 : Int) + (((num k).length : Int) + k) ≤ 65536)) else ok == decide ((6 : Int) + (((num k).length : Int) + k) ≤ 65536)) = true := by
    rw [if_neg (by simp), beq_iff_eq, Bool.eq_iff_iff, hok, decide_eq_true_eq]
    omega
  have d2 : (if false = true then !(oq == decide ((13 : Int) + (((num k).length : Int) + k) ≤ 65536)) else oq == decide ((13 : Int) + (((num k).length : Int) + k) ≤ 65536)) = true := by
    rw [if_neg (by simp), beq_iff_eq, Bool.eq_iff_iff, hoq, decide_eq_true_eq]
    omega
  generalize num (k : Int) = nk at *
  (repeat ((conv => whnf); (first | with_reducible refine r_tt ?_ | with_reducible refine r_ff ?_ | with_reducible refine r_ntt ?_ | with_reducible refine r_nff ?_ | refine r_need (by omega) ?_ | refine r_i64 (by omega) ?_ | refine r_dect (by omega) ?_ | refine r_decf (by omega) ?_ | refine r_eqt (by omega) ?_ | refine r_eqf (by omega) ?_ | refine r_net (by omega) ?_ | refine r_nef (by omega) ?_ | refine r_u8 (by omega) ?_ | refine r_u64 (by omega) ?_ | refine r_i32 (by omega) ?_ | refine r_u32 (by omega) ?_ | refine r_rem (by omega) ?_ | refine r_quo (by omega) ?_ | refine r_ldb (by assumption) (by rfl) ?_ | refine r_ldbE (by assumption) (by rfl) ?_))); (conv => whnf)
  refine r_true d1 ?_
  (repeat ((conv => whnf); (first | with_reducible refine r_tt ?_ | with_reducible refine r_ff ?_ | with_reducible refine r_ntt ?_ | with_reducible refine r_nff ?_ | refine r_need (by omega) ?_ | refine r_i64 (by omega) ?_ | refine r_dect (by omega) ?_ | refine r_decf (by omega) ?_ | refine r_eqt (by omega) ?_ | refine r_eqf (by omega) ?_ | refine r_net (by omega) ?_ | refine r_nef (by omega) ?_ | refine r_u8 (by omega) ?_ | refine r_u64 (by omega) ?_ | refine r_i32 (by omega) ?_ | refine r_u32 (by omega) ?_ | refine r_rem (by omega) ?_ | refine r_quo (by omega) ?_ | refine r_ldb (by assumption) (by rfl) ?_ | refine r_ldbE (by assumption) (by rfl) ?_))); (conv => whnf)
  refine r_true d2 ?_
  cases ok <;> cases oq
  all_goals
    simp only [if_true, Bool.false_eq_true, if_false] at hpl hql
    subst hpl hql
    (repeat ((conv => whnf); (first | with_reducible refine r_tt ?_ | with_reducible refine r_ff ?_ | with_reducible refine r_ntt ?_ | with_reducible refine r_nff ?_ | refine r_need (by omega) ?_ | refine r_i64 (by omega) ?_ | refine r_dect (by omega) ?_ | refine r_decf (by omega) ?_ | refine r_eqt (by omega) ?_ | refine r_eqf (by omega) ?_ | refine r_net (by omega) ?_ | refine r_nef (by omega) ?_ | refine r_u8 (by omega) ?_ | refine r_u64 (by omega) ?_ | refine r_i32 (by omega) ?_ | refine r_u32 (by omega) ?_ | refine r_rem (by omega) ?_ | refine r_quo (by omega) ?_ | refine r_ldb (by assumption) (by rfl) ?_ | refine r_ldbE (by assumption) (by rfl) ?_))); (conv => whnf)
    first
    | exact ⟨rfl, hfin⟩
    | (refine ⟨congrArg Value.bool ?_, hfin⟩; simp; try omega)
end Fb.Try
