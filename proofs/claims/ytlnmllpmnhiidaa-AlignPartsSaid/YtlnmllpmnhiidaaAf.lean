/-
  Walks: where both end, of the document; the greatest one that isn't above a number.
-/
import Derived.Test.YtlnmllpmnhiidaaAe
namespace Fb.Try.AL
open Go Go.Proofs Fb
theorem lastLe_snoc (l : List Int) (y x : Int) : lastLe (l ++ [y]) x = if y ≤ x then y else lastLe l x := by
  unfold lastLe
  rw [List.foldl_append]
  rfl
theorem lastLe_of {l : List Int} {x : Int} {k : Nat} (h1 : ∀ i (h : i < l.length), i < k → l[i] ≤ x) (h2 : ∀ i (h : i < l.length), k ≤ i → x < l[i]) : ∀ i (_ : i ≤ l.length), (i = 0 ∨ k = 0 → lastLe (l.take i) x = -1) ∧ ∀ (h : 0 < i ∧ 0 < k), lastLe (l.take i) x = l[min i k - 1]'(by omega)
  | 0, _ => ⟨fun _ => rfl, fun h => by omega⟩
  | i + 1, hi => by
    have ih := lastLe_of h1 h2 i (by omega)
    rw [List.take_succ_eq_append_getElem (by omega), lastLe_snoc]
    by_cases hik : i < k
    · have := h1 i (by omega) hik
      rw [if_pos this]
      refine ⟨fun h => by omega, fun h => ?_⟩
      congr 1
      omega
    · have := h2 i (by omega) (by omega)
      rw [if_neg (by omega)]
      refine ⟨fun h => ih.1 (by omega), fun h => ?_⟩
      rw [ih.2 (by omega)]
      congr 1
      omega
section
variable {w w' : World} {c d : Cu} {a b : Option Addr} {len cap m k : Nat}
theorem common_bound {c d : Cu} (h : Both2 c d) {x : Int} (hx : x ∈ common c d) : 0 ≤ x ∧ x ≤ c.total := by
  obtain ⟨⟨j, hj, rfl⟩, -⟩ := (mem_common h).1 hx
  have h1 := h.1.bound hj
  exact ⟨by omega, h.1.le hj (Nat.le_refl _)⟩
theorem Floor_ok (hc : IsC w c a len cap) (hd : IsC w d b m k) (x : Int) : Cal Try.prog 21 ⟨[.agg ⟨cc c a len cap⟩, .agg ⟨cc d b m k⟩, .int .i64 x]⟩ w fun v w' => Ext w w' ∧ v = .tuple ⟨[.int .i64 (floorT c d x).1, .int .i64 (floorT c d x).2]⟩ := by
  have hlc := hc.lens
  have hsc := hc.small
  have hcl := common_len c d
  refine go21 (by rfl) ?_
  (repeat ((conv => whnf); (first | with_reducible refine r_tt ?_ | with_reducible refine r_ff ?_ | with_reducible refine r_ntt ?_ | with_reducible refine r_nff ?_ | refine r_need (by omega) ?_ | refine r_i64 (by omega) ?_ | refine r_dect (by omega) ?_ | refine r_decf (by omega) ?_ | refine r_eqt (by omega) ?_ | refine r_eqf (by omega) ?_ | refine r_net (by omega) ?_ | refine r_nef (by omega) ?_ | refine r_u8 (by omega) ?_ | refine r_u64 (by omega) ?_ | refine r_i32 (by omega) ?_ | refine r_u32 (by omega) ?_ | refine r_rem (by omega) ?_ | refine r_quo (by omega) ?_ | refine r_ldb (by assumption) (by rfl) ?_ | refine r_ldbE (by assumption) (by rfl) ?_))); (conv => whnf)
  refine r_new fun p w1 hx1 hb1 hs1 hblk1 => ?_
  have hblk1 : Blk w1 p 24 (cc c a len cap) := hblk1
  (repeat ((conv => whnf); (first | with_reducible refine r_tt ?_ | with_reducible refine r_ff ?_ | with_reducible refine r_ntt ?_ | with_reducible refine r_nff ?_ | refine r_need (by omega) ?_ | refine r_i64 (by omega) ?_ | refine r_dect (by omega) ?_ | refine r_decf (by omega) ?_ | refine r_eqt (by omega) ?_ | refine r_eqf (by omega) ?_ | refine r_net (by omega) ?_ | refine r_nef (by omega) ?_ | refine r_u8 (by omega) ?_ | refine r_u64 (by omega) ?_ | refine r_i32 (by omega) ?_ | refine r_u32 (by omega) ?_ | refine r_rem (by omega) ?_ | refine r_quo (by omega) ?_ | refine r_ldb (by assumption) (by rfl) ?_ | refine r_ldbE (by assumption) (by rfl) ?_))); (conv => whnf)
  refine r_new fun q w2 hx2 hb2 hs2 hblk2 => ?_
  have hblk2 : Blk w2 q 24 (cc d b m k) := hblk2
  have hblk1 := hblk1.ext hx2
  have hx02 := hx1.trans hx2
  (repeat ((conv => whnf); (first | refine r_ldnb (vs := cc c a len cap) hblk1 rfl rfl ?_ | refine r_ldnb (vs := cc d b m k) hblk2 rfl rfl ?_ | with_reducible refine r_tt ?_ | with_reducible refine r_ff ?_ | with_reducible refine r_ntt ?_ | with_reducible refine r_nff ?_ | refine r_need (by omega) ?_ | refine r_i64 (by omega) ?_ | refine r_dect (by omega) ?_ | refine r_decf (by omega) ?_ | refine r_eqt (by omega) ?_ | refine r_eqf (by omega) ?_ | refine r_net (by omega) ?_ | refine r_nef (by omega) ?_ | refine r_u8 (by omega) ?_ | refine r_u64 (by omega) ?_ | refine r_i32 (by omega) ?_ | refine r_u32 (by omega) ?_ | refine r_rem (by omega) ?_ | refine r_quo (by omega) ?_ | refine r_ldb (by assumption) (by rfl) ?_ | refine r_ldbE (by assumption) (by rfl) ?_))); (conv => whnf)
  refine r_cal (both_ok (hc.ext hx02) (hd.ext hx02)) ?_
  rintro _ w3 ⟨hx3, rfl⟩
  have hx03 := hx02.trans hx3
  have hblk1 := hblk1.ext hx3
  have hblk2 := hblk2.ext hx3
  unfold floorT
  by_cases h1 : Both2 c d
  rotate_left
  · simp only [h1, not_false_eq_true, if_true, decide_false]
    (repeat ((conv => whnf); (first | with_reducible refine r_tt ?_ | with_reducible refine r_ff ?_ | with_reducible refine r_ntt ?_ | with_reducible refine r_nff ?_ | refine r_need (by omega) ?_ | refine r_i64 (by omega) ?_ | refine r_dect (by omega) ?_ | refine r_decf (by omega) ?_ | refine r_eqt (by omega) ?_ | refine r_eqf (by omega) ?_ | refine r_net (by omega) ?_ | refine r_nef (by omega) ?_ | refine r_u8 (by omega) ?_ | refine r_u64 (by omega) ?_ | refine r_i32 (by omega) ?_ | refine r_u32 (by omega) ?_ | refine r_rem (by omega) ?_ | refine r_quo (by omega) ?_ | refine r_ldb (by assumption) (by rfl) ?_ | refine r_ldbE (by assumption) (by rfl) ?_))); (conv => whnf)
    exact ⟨hx03, rfl⟩
  have hbd := h1.1.bound (Nat.le_refl c.n)
  have htt : c.total = c.e c.n := rfl
  simp only [h1, not_true_eq_false, if_false, decide_true]
  by_cases h0 : x < 0
  · rw [if_pos (.inl h0)]
    (repeat ((conv => whnf); (first | with_reducible refine r_tt ?_ | with_reducible refine r_ff ?_ | with_reducible refine r_ntt ?_ | with_reducible refine r_nff ?_ | refine r_need (by omega) ?_ | refine r_i64 (by omega) ?_ | refine r_dect (by omega) ?_ | refine r_decf (by omega) ?_ | refine r_eqt (by omega) ?_ | refine r_eqf (by omega) ?_ | refine r_net (by omega) ?_ | refine r_nef (by omega) ?_ | refine r_u8 (by omega) ?_ | refine r_u64 (by omega) ?_ | refine r_i32 (by omega) ?_ | refine r_u32 (by omega) ?_ | refine r_rem (by omega) ?_ | refine r_quo (by omega) ?_ | refine r_ldb (by assumption) (by rfl) ?_ | refine r_ldbE (by assumption) (by rfl) ?_))); (conv => whnf)
    exact ⟨hx03, rfl⟩
  (repeat ((conv => whnf); (first | with_reducible refine r_tt ?_ | with_reducible refine r_ff ?_ | with_reducible refine r_ntt ?_ | with_reducible refine r_nff ?_ | refine r_need (by omega) ?_ | refine r_i64 (by omega) ?_ | refine r_dect (by omega) ?_ | refine r_decf (by omega) ?_ | refine r_eqt (by omega) ?_ | refine r_eqf (by omega) ?_ | refine r_net (by omega) ?_ | refine r_nef (by omega) ?_ | refine r_u8 (by omega) ?_ | refine r_u64 (by omega) ?_ | refine r_i32 (by omega) ?_ | refine r_u32 (by omega) ?_ | refine r_rem (by omega) ?_ | refine r_quo (by omega) ?_ | refine r_ldb (by assumption) (by rfl) ?_ | refine r_ldbE (by assumption) (by rfl) ?_))); (conv => whnf)
  refine r_ldnb (vs := cc c a len cap) hblk1 rfl rfl ?_
  (repeat ((conv => whnf); (first | with_reducible refine r_tt ?_ | with_reducible refine r_ff ?_ | with_reducible refine r_ntt ?_ | with_reducible refine r_nff ?_ | refine r_need (by omega) ?_ | refine r_i64 (by omega) ?_ | refine r_dect (by omega) ?_ | refine r_decf (by omega) ?_ | refine r_eqt (by omega) ?_ | refine r_eqf (by omega) ?_ | refine r_net (by omega) ?_ | refine r_nef (by omega) ?_ | refine r_u8 (by omega) ?_ | refine r_u64 (by omega) ?_ | refine r_i32 (by omega) ?_ | refine r_u32 (by omega) ?_ | refine r_rem (by omega) ?_ | refine r_quo (by omega) ?_ | refine r_ldb (by assumption) (by rfl) ?_ | refine r_ldbE (by assumption) (by rfl) ?_))); (conv => whnf)
  refine r_cal (Total_ok (hc.ext hx03)) ?_
  rintro _ w4 ⟨hx4, rfl⟩
  rw [if_pos h1.1]
  have hx04 := hx03.trans hx4
  have hblk1 := hblk1.ext hx4
  have hblk2 := hblk2.ext hx4
  by_cases h2 : x > c.total
  · rw [if_pos (.inr h2)]
    (repeat ((conv => whnf); (first | with_reducible refine r_tt ?_ | with_reducible refine r_ff ?_ | with_reducible refine r_ntt ?_ | with_reducible refine r_nff ?_ | refine r_need (by omega) ?_ | refine r_i64 (by omega) ?_ | refine r_dect (by omega) ?_ | refine r_decf (by omega) ?_ | refine r_eqt (by omega) ?_ | refine r_eqf (by omega) ?_ | refine r_net (by omega) ?_ | refine r_nef (by omega) ?_ | refine r_u8 (by omega) ?_ | refine r_u64 (by omega) ?_ | refine r_i32 (by omega) ?_ | refine r_u32 (by omega) ?_ | refine r_rem (by omega) ?_ | refine r_quo (by omega) ?_ | refine r_ldb (by assumption) (by rfl) ?_ | refine r_ldbE (by assumption) (by rfl) ?_))); (conv => whnf)
    exact ⟨hx04, rfl⟩
  rw [if_neg (by omega)]
  (repeat ((conv => whnf); (first | refine r_ldnb (vs := cc c a len cap) hblk1 rfl rfl ?_ | refine r_ldnb (vs := cc d b m k) hblk2 rfl rfl ?_ | with_reducible refine r_tt ?_ | with_reducible refine r_ff ?_ | with_reducible refine r_ntt ?_ | with_reducible refine r_nff ?_ | refine r_need (by omega) ?_ | refine r_i64 (by omega) ?_ | refine r_dect (by omega) ?_ | refine r_decf (by omega) ?_ | refine r_eqt (by omega) ?_ | refine r_eqf (by omega) ?_ | refine r_net (by omega) ?_ | refine r_nef (by omega) ?_ | refine r_u8 (by omega) ?_ | refine r_u64 (by omega) ?_ | refine r_i32 (by omega) ?_ | refine r_u32 (by omega) ?_ | refine r_rem (by omega) ?_ | refine r_quo (by omega) ?_ | refine r_ldb (by assumption) (by rfl) ?_ | refine r_ldbE (by assumption) (by rfl) ?_))); (conv => whnf)
  refine r_cal (Common_ok (hc.ext hx04) (hd.ext hx04)) ?_
  rintro _ w5 ⟨hx5, hown⟩
  obtain ⟨ea, ec, rfl, hv, -, -⟩ := View.of_own hown
  have hx05 := hx04.trans hx5
  (repeat ((conv => whnf); (first | with_reducible refine r_tt ?_ | with_reducible refine r_ff ?_ | with_reducible refine r_ntt ?_ | with_reducible refine r_nff ?_ | refine r_need (by omega) ?_ | refine r_i64 (by omega) ?_ | refine r_dect (by omega) ?_ | refine r_decf (by omega) ?_ | refine r_eqt (by omega) ?_ | refine r_eqf (by omega) ?_ | refine r_net (by omega) ?_ | refine r_nef (by omega) ?_ | refine r_u8 (by omega) ?_ | refine r_u64 (by omega) ?_ | refine r_i32 (by omega) ?_ | refine r_u32 (by omega) ?_ | refine r_rem (by omega) ?_ | refine r_quo (by omega) ?_ | refine r_ldb (by assumption) (by rfl) ?_ | refine r_ldbE (by assumption) (by rfl) ?_))); (conv => whnf)
  refine r_cal (Search_ok hv (by omega) (common_sorted c d) (x + 1)) ?_
  rintro _ w6 ⟨hx6, j, rfl, hjl, hlo, hhi⟩
  have hx06 := hx05.trans hx6
  have hll := lastLe_of (l := common c d) (x := x) (k := j) (fun i h hi => by have := hlo i h hi; omega) (fun i h hi => by have := hhi i h hi; omega) (common c d).length (Nat.le_refl _)
  rw [List.take_length] at hll
  by_cases hj : j = 0
  · rw [hll.1 (.inr hj), if_pos (by decide)]
    subst hj
    (repeat ((conv => whnf); (first | with_reducible refine r_tt ?_ | with_reducible refine r_ff ?_ | with_reducible refine r_ntt ?_ | with_reducible refine r_nff ?_ | refine r_need (by omega) ?_ | refine r_i64 (by omega) ?_ | refine r_dect (by omega) ?_ | refine r_decf (by omega) ?_ | refine r_eqt (by omega) ?_ | refine r_eqf (by omega) ?_ | refine r_net (by omega) ?_ | refine r_nef (by omega) ?_ | refine r_u8 (by omega) ?_ | refine r_u64 (by omega) ?_ | refine r_i32 (by omega) ?_ | refine r_u32 (by omega) ?_ | refine r_rem (by omega) ?_ | refine r_quo (by omega) ?_ | refine r_ldb (by assumption) (by rfl) ?_ | refine r_ldbE (by assumption) (by rfl) ?_))); (conv => whnf)
    exact ⟨hx06, rfl⟩
  · have hpos := hll.2 (by omega)
    have hb := common_bound h1 (List.getElem_mem (show min (common c d).length j - 1 < (common c d).length by omega))
    have ei : min (common c d).length j - 1 = j - 1 := by omega
    rw [hpos]
    rw [if_neg (by omega)]
    have hp := hv.plain (by rw [iv_len]; omega)
    have eg : (iv (common c d))[j - 1]? = some (.int .i64 ((common c d)[min (common c d).length j - 1]'(by omega))) := by
      simp only [ei]
      simp [iv, show j - 1 < (common c d).length by omega]
    (repeat ((conv => whnf); (first | with_reducible refine r_tt ?_ | with_reducible refine r_ff ?_ | with_reducible refine r_ntt ?_ | with_reducible refine r_nff ?_ | refine r_need (by omega) ?_ | refine r_i64 (by omega) ?_ | refine r_dect (by omega) ?_ | refine r_decf (by omega) ?_ | refine r_eqt (by omega) ?_ | refine r_eqf (by omega) ?_ | refine r_net (by omega) ?_ | refine r_nef (by omega) ?_ | refine r_u8 (by omega) ?_ | refine r_u64 (by omega) ?_ | refine r_i32 (by omega) ?_ | refine r_u32 (by omega) ?_ | refine r_rem (by omega) ?_ | refine r_quo (by omega) ?_ | refine r_ldb (by assumption) (by rfl) ?_ | refine r_ldbE (by assumption) (by rfl) ?_))); (conv => whnf)
    refine r_ldv (j := ((j : Int) - 1).toNat * 1) (hv.ext hx6) (by rw [show ((j : Int) - 1).toNat * 1 = j - 1 by omega]; exact eg) ?_
    (repeat ((conv => whnf); (first | with_reducible refine r_tt ?_ | with_reducible refine r_ff ?_ | with_reducible refine r_ntt ?_ | with_reducible refine r_nff ?_ | refine r_need (by omega) ?_ | refine r_i64 (by omega) ?_ | refine r_dect (by omega) ?_ | refine r_decf (by omega) ?_ | refine r_eqt (by omega) ?_ | refine r_eqf (by omega) ?_ | refine r_net (by omega) ?_ | refine r_nef (by omega) ?_ | refine r_u8 (by omega) ?_ | refine r_u64 (by omega) ?_ | refine r_i32 (by omega) ?_ | refine r_u32 (by omega) ?_ | refine r_rem (by omega) ?_ | refine r_quo (by omega) ?_ | refine r_ldb (by assumption) (by rfl) ?_ | refine r_ldbE (by assumption) (by rfl) ?_))); (conv => whnf)
    exact ⟨hx06, rfl⟩
theorem ends_take (c : Cu) (i : Nat) (h : i < c.n + 1) : c.ends.take (i + 1) = c.ends.take i ++ [c.e i] := by
  have hl := c.ends_len
  rw [List.take_succ_eq_append_getElem (by omega)]
  have := c.ends_get i h
  rw [List.getElem?_eq_some_iff] at this
  obtain ⟨_, this⟩ := this
  rw [this]
theorem rEnds_ok (hc : IsC w c a len cap) (hk : c.Ok) (x : Int) : Cal Try.prog 33 ⟨[.agg ⟨cc c a len cap⟩, .int .i64 x]⟩ w fun v w' => Ext w w' ∧ v = .bool (decide (x ∈ c.ends)) := by
  have hs := hc.small
  have hl := hc.lens
  have hlen : c.n = c.L.length := rfl
  refine go33 (by rfl) ?_
  (repeat ((conv => whnf); (first | with_reducible refine r_tt ?_ | with_reducible refine r_ff ?_ | with_reducible refine r_ntt ?_ | with_reducible refine r_nff ?_ | refine r_need (by omega) ?_ | refine r_i64 (by omega) ?_ | refine r_dect (by omega) ?_ | refine r_decf (by omega) ?_ | refine r_eqt (by omega) ?_ | refine r_eqf (by omega) ?_ | refine r_net (by omega) ?_ | refine r_nef (by omega) ?_ | refine r_u8 (by omega) ?_ | refine r_u64 (by omega) ?_ | refine r_i32 (by omega) ?_ | refine r_u32 (by omega) ?_ | refine r_rem (by omega) ?_ | refine r_quo (by omega) ?_ | refine r_ldb (by assumption) (by rfl) ?_ | refine r_ldbE (by assumption) (by rfl) ?_))); (conv => whnf)
  refine r_new fun p w1 hx1 hb1 hs1 hblk1 => ?_
  have hblk1 : Blk w1 p 24 [.int .i64 c.base, .int .i64 c.pos, .slice a len cap] := hblk1
  (repeat ((conv => whnf); (first | with_reducible refine r_tt ?_ | with_reducible refine r_ff ?_ | with_reducible refine r_ntt ?_ | with_reducible refine r_nff ?_ | refine r_need (by omega) ?_ | refine r_i64 (by omega) ?_ | refine r_dect (by omega) ?_ | refine r_decf (by omega) ?_ | refine r_eqt (by omega) ?_ | refine r_eqf (by omega) ?_ | refine r_net (by omega) ?_ | refine r_nef (by omega) ?_ | refine r_u8 (by omega) ?_ | refine r_u64 (by omega) ?_ | refine r_i32 (by omega) ?_ | refine r_u32 (by omega) ?_ | refine r_rem (by omega) ?_ | refine r_quo (by omega) ?_ | refine r_ldb (by assumption) (by rfl) ?_ | refine r_ldbE (by assumption) (by rfl) ?_))); (conv => whnf)
  refine r_loop (σ := Nat) (fun i => [.int .i64 (c.e i), .bool (decide (x ∈ c.ends.take (i + 1))), .int .i64 (i : Int)]) (fun i w' => i ≤ len ∧ w' = w1) (fun i _ => len - i) 0 ?_ ⟨by omega, rfl⟩ ?_
  · rw [ends_take c 0 (by omega), c.e_zero]
    have : (c.pos == x) = decide (x ∈ c.ends.take 0 ++ [c.pos]) := by
      rw [Bool.eq_iff_iff, beq_iff_eq, decide_eq_true_eq]
      simp
      exact eq_comm
    rw [← this]
    rfl
  rintro i w2 again ⟨hi, rfl⟩ hagain
  by_cases hil : i < len
  · have ea : (iv c.L)[i]? = some (.int .i64 (c.L[i]'(by omega))) := by simp [iv]
    have hp := hc.view.plain (by rw [iv_len]; omega)
    have hb := hk.bound (show i ≤ c.n by omega)
    have hx := hk.2.2.2.2 (c.L[i]'(by omega)) (List.getElem_mem _)
    have he := c.e_succ i (by omega)
    have hag := hagain (i + 1) _ ⟨by omega, rfl⟩ (by omega)
    rw [ends_take c (i + 1) (by omega)] at hag
    by_cases hm : x ∈ c.ends.take (i + 1)
    · simp only [hm, decide_true]
      (repeat ((conv => whnf); (first | with_reducible refine r_tt ?_ | with_reducible refine r_ff ?_ | with_reducible refine r_ntt ?_ | with_reducible refine r_nff ?_ | refine r_need (by omega) ?_ | refine r_i64 (by omega) ?_ | refine r_dect (by omega) ?_ | refine r_decf (by omega) ?_ | refine r_eqt (by omega) ?_ | refine r_eqf (by omega) ?_ | refine r_net (by omega) ?_ | refine r_nef (by omega) ?_ | refine r_u8 (by omega) ?_ | refine r_u64 (by omega) ?_ | refine r_i32 (by omega) ?_ | refine r_u32 (by omega) ?_ | refine r_rem (by omega) ?_ | refine r_quo (by omega) ?_ | refine r_ldb (by assumption) (by rfl) ?_ | refine r_ldbE (by assumption) (by rfl) ?_))); (conv => whnf)
      refine r_ldv (j := (i : Int).toNat * 1) (hc.view.ext hx1) (by simpa using ea) ?_
      (repeat ((conv => whnf); (first | with_reducible refine r_tt ?_ | with_reducible refine r_ff ?_ | with_reducible refine r_ntt ?_ | with_reducible refine r_nff ?_ | refine r_need (by omega) ?_ | refine r_i64 (by omega) ?_ | refine r_dect (by omega) ?_ | refine r_decf (by omega) ?_ | refine r_eqt (by omega) ?_ | refine r_eqf (by omega) ?_ | refine r_net (by omega) ?_ | refine r_nef (by omega) ?_ | refine r_u8 (by omega) ?_ | refine r_u64 (by omega) ?_ | refine r_i32 (by omega) ?_ | refine r_u32 (by omega) ?_ | refine r_rem (by omega) ?_ | refine r_quo (by omega) ?_ | refine r_ldb (by assumption) (by rfl) ?_ | refine r_ldbE (by assumption) (by rfl) ?_))); (conv => whnf)
      rw [← he]
      simpa [hm] using hag
    · simp only [hm, decide_false]
      (repeat ((conv => whnf); (first | with_reducible refine r_tt ?_ | with_reducible refine r_ff ?_ | with_reducible refine r_ntt ?_ | with_reducible refine r_nff ?_ | refine r_need (by omega) ?_ | refine r_i64 (by omega) ?_ | refine r_dect (by omega) ?_ | refine r_decf (by omega) ?_ | refine r_eqt (by omega) ?_ | refine r_eqf (by omega) ?_ | refine r_net (by omega) ?_ | refine r_nef (by omega) ?_ | refine r_u8 (by omega) ?_ | refine r_u64 (by omega) ?_ | refine r_i32 (by omega) ?_ | refine r_u32 (by omega) ?_ | refine r_rem (by omega) ?_ | refine r_quo (by omega) ?_ | refine r_ldb (by assumption) (by rfl) ?_ | refine r_ldbE (by assumption) (by rfl) ?_))); (conv => whnf)
      refine r_ldv (j := (i : Int).toNat * 1) (hc.view.ext hx1) (by simpa using ea) ?_
      (repeat ((conv => whnf); (first | with_reducible refine r_tt ?_ | with_reducible refine r_ff ?_ | with_reducible refine r_ntt ?_ | with_reducible refine r_nff ?_ | refine r_need (by omega) ?_ | refine r_i64 (by omega) ?_ | refine r_dect (by omega) ?_ | refine r_decf (by omega) ?_ | refine r_eqt (by omega) ?_ | refine r_eqf (by omega) ?_ | refine r_net (by omega) ?_ | refine r_nef (by omega) ?_ | refine r_u8 (by omega) ?_ | refine r_u64 (by omega) ?_ | refine r_i32 (by omega) ?_ | refine r_u32 (by omega) ?_ | refine r_rem (by omega) ?_ | refine r_quo (by omega) ?_ | refine r_ldb (by assumption) (by rfl) ?_ | refine r_ldbE (by assumption) (by rfl) ?_))); (conv => whnf)
      rw [← he]
      have : decide (x ∈ c.ends.take (i + 1) ++ [c.e (i + 1)]) = (c.e (i + 1) == x) := by
        rw [Bool.eq_iff_iff, beq_iff_eq, decide_eq_true_eq]
        simp [hm]
        exact eq_comm
      rw [this] at hag
      exact hag
  · have : i = c.n := by omega
    subst this
    rw [List.take_of_length_le (by rw [c.ends_len]; omega)]
    (repeat ((conv => whnf); (first | with_reducible refine r_tt ?_ | with_reducible refine r_ff ?_ | with_reducible refine r_ntt ?_ | with_reducible refine r_nff ?_ | refine r_need (by omega) ?_ | refine r_i64 (by omega) ?_ | refine r_dect (by omega) ?_ | refine r_decf (by omega) ?_ | refine r_eqt (by omega) ?_ | refine r_eqf (by omega) ?_ | refine r_net (by omega) ?_ | refine r_nef (by omega) ?_ | refine r_u8 (by omega) ?_ | refine r_u64 (by omega) ?_ | refine r_i32 (by omega) ?_ | refine r_u32 (by omega) ?_ | refine r_rem (by omega) ?_ | refine r_quo (by omega) ?_ | refine r_ldb (by assumption) (by rfl) ?_ | refine r_ldbE (by assumption) (by rfl) ?_))); (conv => whnf)
    exact ⟨hx1, rfl⟩
end
end Fb.Try.AL
