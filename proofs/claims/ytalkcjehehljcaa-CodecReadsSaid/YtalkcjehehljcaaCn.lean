/-
  Walks: the document's replies.
-/
import Derived.Test.YtalkcjehehljcaaCm
namespace Fb.Try
open Go Go.Proofs Fb Fb.Codec

theorem begins_ok {w : World} {a b : Option Addr} {al ac bl bc : Nat} {xs ys : List Int} (ha : View w a al ac 1 (ivs xs)) (hb : View w b bl bc 1 (ivs ys)) (hl : al = bl) :
    Cal Try.prog 41 ⟨[.slice a al ac, .slice b bl bc]⟩ w fun v w' => Ext w w' ∧ ∃ r, v = .bool r ∧ (r = true ↔ xs = ys) := by
  have hal : xs.length = al := ha.int
  have hbl : ys.length = bl := hb.int
  have m1 := ha.le
  have m2 := ha.max
  unfold maxLen at m2
  refine go41 (by rfl) ?_
  (repeat ((conv => whnf); (first | with_reducible refine r_tt ?_ | with_reducible refine r_ff ?_ | with_reducible refine r_ntt ?_ | with_reducible refine r_nff ?_ | refine r_need (by omega) ?_ | refine r_i64 (by omega) ?_ | refine r_dect (by omega) ?_ | refine r_decf (by omega) ?_ | refine r_eqt (by omega) ?_ | refine r_eqf (by omega) ?_ | refine r_net (by omega) ?_ | refine r_nef (by omega) ?_ | refine r_u8 (by omega) ?_ | refine r_u64 (by omega) ?_ | refine r_i32 (by omega) ?_ | refine r_u32 (by omega) ?_ | refine r_rem (by omega) ?_ | refine r_quo (by omega) ?_ | refine r_ldb (by assumption) (by rfl) ?_ | refine r_ldbE (by assumption) (by rfl) ?_))); (conv => whnf)
  refine r_loop (σ := Nat) (fun i => [.int .i64 (i : Int)]) (fun i w' => i ≤ al ∧ Ext w w' ∧ xs.take i = ys.take i) (fun i _ => al - i) 0 rfl ⟨by omega, Ext.refl w, rfl⟩ ?_
  rintro i w1 again ⟨hi, hx1, htake⟩ hagain
  by_cases hil : i < al
  · have ea : (ivs xs)[i]? = some (.int .i64 xs[i]) := by simp [ivs]
    have eb : (ivs ys)[i]? = some (.int .i64 ys[i]) := by simp [ivs]
    have hpa := ha.plain (by rw [ha.length]; omega)
    have hpb := hb.plain (by rw [hb.length]; omega)
    by_cases hq : xs[i] = ys[i]
    all_goals
      (repeat ((conv => whnf); (first | with_reducible refine r_tt ?_ | with_reducible refine r_ff ?_ | with_reducible refine r_ntt ?_ | with_reducible refine r_nff ?_ | refine r_need (by omega) ?_ | refine r_i64 (by omega) ?_ | refine r_dect (by omega) ?_ | refine r_decf (by omega) ?_ | refine r_eqt (by omega) ?_ | refine r_eqf (by omega) ?_ | refine r_net (by omega) ?_ | refine r_nef (by omega) ?_ | refine r_u8 (by omega) ?_ | refine r_u64 (by omega) ?_ | refine r_i32 (by omega) ?_ | refine r_u32 (by omega) ?_ | refine r_rem (by omega) ?_ | refine r_quo (by omega) ?_ | refine r_ldb (by assumption) (by rfl) ?_ | refine r_ldbE (by assumption) (by rfl) ?_))); (conv => whnf)
      refine r_drawE fun w2 hx2 _ => ?_
      (repeat ((conv => whnf); (first | with_reducible refine r_tt ?_ | with_reducible refine r_ff ?_ | with_reducible refine r_ntt ?_ | with_reducible refine r_nff ?_ | refine r_need (by omega) ?_ | refine r_i64 (by omega) ?_ | refine r_dect (by omega) ?_ | refine r_decf (by omega) ?_ | refine r_eqt (by omega) ?_ | refine r_eqf (by omega) ?_ | refine r_net (by omega) ?_ | refine r_nef (by omega) ?_ | refine r_u8 (by omega) ?_ | refine r_u64 (by omega) ?_ | refine r_i32 (by omega) ?_ | refine r_u32 (by omega) ?_ | refine r_rem (by omega) ?_ | refine r_quo (by omega) ?_ | refine r_ldb (by assumption) (by rfl) ?_ | refine r_ldbE (by assumption) (by rfl) ?_))); (conv => whnf)
      refine r_ldvE (j := (i : Int).toNat * 1) (ha.ext hx1) (by simpa using ea) ?_
      (repeat ((conv => whnf); (first | with_reducible refine r_tt ?_ | with_reducible refine r_ff ?_ | with_reducible refine r_ntt ?_ | with_reducible refine r_nff ?_ | refine r_need (by omega) ?_ | refine r_i64 (by omega) ?_ | refine r_dect (by omega) ?_ | refine r_decf (by omega) ?_ | refine r_eqt (by omega) ?_ | refine r_eqf (by omega) ?_ | refine r_net (by omega) ?_ | refine r_nef (by omega) ?_ | refine r_u8 (by omega) ?_ | refine r_u64 (by omega) ?_ | refine r_i32 (by omega) ?_ | refine r_u32 (by omega) ?_ | refine r_rem (by omega) ?_ | refine r_quo (by omega) ?_ | refine r_ldb (by assumption) (by rfl) ?_ | refine r_ldbE (by assumption) (by rfl) ?_))); (conv => whnf)
      refine r_ldvE (j := (i : Int).toNat * 1) (hb.ext hx1) (by simpa using eb) ?_
      (repeat ((conv => whnf); (first | with_reducible refine r_tt ?_ | with_reducible refine r_ff ?_ | with_reducible refine r_ntt ?_ | with_reducible refine r_nff ?_ | refine r_need (by omega) ?_ | refine r_i64 (by omega) ?_ | refine r_dect (by omega) ?_ | refine r_decf (by omega) ?_ | refine r_eqt (by omega) ?_ | refine r_eqf (by omega) ?_ | refine r_net (by omega) ?_ | refine r_nef (by omega) ?_ | refine r_u8 (by omega) ?_ | refine r_u64 (by omega) ?_ | refine r_i32 (by omega) ?_ | refine r_u32 (by omega) ?_ | refine r_rem (by omega) ?_ | refine r_quo (by omega) ?_ | refine r_ldb (by assumption) (by rfl) ?_ | refine r_ldbE (by assumption) (by rfl) ?_))); (conv => whnf)
    · refine hagain (i + 1) w2 ⟨by omega, hx1.trans hx2, ?_⟩ (by omega)
      rw [List.take_succ_eq_append_getElem (by omega), List.take_succ_eq_append_getElem (by omega), htake, hq]
    · exact ⟨hx1.trans hx2, false, rfl, by
        simp only [Bool.false_eq_true, false_iff]
        intro h
        subst h
        exact hq rfl⟩
  · (repeat ((conv => whnf); (first | with_reducible refine r_tt ?_ | with_reducible refine r_ff ?_ | with_reducible refine r_ntt ?_ | with_reducible refine r_nff ?_ | refine r_need (by omega) ?_ | refine r_i64 (by omega) ?_ | refine r_dect (by omega) ?_ | refine r_decf (by omega) ?_ | refine r_eqt (by omega) ?_ | refine r_eqf (by omega) ?_ | refine r_net (by omega) ?_ | refine r_nef (by omega) ?_ | refine r_u8 (by omega) ?_ | refine r_u64 (by omega) ?_ | refine r_i32 (by omega) ?_ | refine r_u32 (by omega) ?_ | refine r_rem (by omega) ?_ | refine r_quo (by omega) ?_ | refine r_ldb (by assumption) (by rfl) ?_ | refine r_ldbE (by assumption) (by rfl) ?_))); (conv => whnf)
    refine ⟨hx1, true, rfl, ?_⟩
    rw [List.take_of_length_le (by omega), List.take_of_length_le (by omega)] at htake
    simp [htake]

theorem same25_ok {w : World} {s t : Sl} {xs ys : List Int} (ha : s.is w xs) (hb : t.is w ys) :
    Cal Try.prog 36 ⟨[s.v, t.v]⟩ w fun v w' => Ext w w' ∧ ∃ r, v = .bool r ∧ (r = true ↔ xs = ys) := by
  have hal := ha.len
  have hbl := hb.len
  obtain ⟨a, al, ac⟩ := s
  obtain ⟨b, bl, bc⟩ := t
  dsimp only at hal hbl
  change Cal Try.prog 36 ⟨[.slice a al ac, .slice b bl bc]⟩ w _
  refine go36 (by rfl) ?_
  by_cases hl : al = bl
  · (repeat ((conv => whnf); (first | with_reducible refine r_tt ?_ | with_reducible refine r_ff ?_ | with_reducible refine r_ntt ?_ | with_reducible refine r_nff ?_ | refine r_need (by omega) ?_ | refine r_i64 (by omega) ?_ | refine r_dect (by omega) ?_ | refine r_decf (by omega) ?_ | refine r_eqt (by omega) ?_ | refine r_eqf (by omega) ?_ | refine r_net (by omega) ?_ | refine r_nef (by omega) ?_ | refine r_u8 (by omega) ?_ | refine r_u64 (by omega) ?_ | refine r_i32 (by omega) ?_ | refine r_u32 (by omega) ?_ | refine r_rem (by omega) ?_ | refine r_quo (by omega) ?_ | refine r_ldb (by assumption) (by rfl) ?_ | refine r_ldbE (by assumption) (by rfl) ?_))); (conv => whnf)
    refine r_cal (begins_ok ha.1 hb.1 hl) ?_
    rintro _ w1 ⟨hx1, r, rfl, hr⟩
    (repeat ((conv => whnf); (first | with_reducible refine r_tt ?_ | with_reducible refine r_ff ?_ | with_reducible refine r_ntt ?_ | with_reducible refine r_nff ?_ | refine r_need (by omega) ?_ | refine r_i64 (by omega) ?_ | refine r_dect (by omega) ?_ | refine r_decf (by omega) ?_ | refine r_eqt (by omega) ?_ | refine r_eqf (by omega) ?_ | refine r_net (by omega) ?_ | refine r_nef (by omega) ?_ | refine r_u8 (by omega) ?_ | refine r_u64 (by omega) ?_ | refine r_i32 (by omega) ?_ | refine r_u32 (by omega) ?_ | refine r_rem (by omega) ?_ | refine r_quo (by omega) ?_ | refine r_ldb (by assumption) (by rfl) ?_ | refine r_ldbE (by assumption) (by rfl) ?_))); (conv => whnf)
    exact ⟨hx1, r, rfl, hr⟩
  · (repeat ((conv => whnf); (first | with_reducible refine r_tt ?_ | with_reducible refine r_ff ?_ | with_reducible refine r_ntt ?_ | with_reducible refine r_nff ?_ | refine r_need (by omega) ?_ | refine r_i64 (by omega) ?_ | refine r_dect (by omega) ?_ | refine r_decf (by omega) ?_ | refine r_eqt (by omega) ?_ | refine r_eqf (by omega) ?_ | refine r_net (by omega) ?_ | refine r_nef (by omega) ?_ | refine r_u8 (by omega) ?_ | refine r_u64 (by omega) ?_ | refine r_i32 (by omega) ?_ | refine r_u32 (by omega) ?_ | refine r_rem (by omega) ?_ | refine r_quo (by omega) ?_ | refine r_ldb (by assumption) (by rfl) ?_ | refine r_ldbE (by assumption) (by rfl) ?_))); (conv => whnf)
    exact ⟨Ext.refl w, false, rfl, by
      simp only [Bool.false_eq_true, false_iff]
      intro h
      subst h
      omega⟩

theorem same17_ok {w : World} {p q : Int} {s t : Sl} {xs ys : List Int} (ha : s.is w xs) (hb : t.is w ys) :
    Cal Try.prog 35 ⟨[.agg ⟨[.int .i64 p, s.v]⟩, .agg ⟨[.int .i64 q, t.v]⟩]⟩ w fun v w' => Ext w w' ∧ ∃ r, v = .bool r ∧ (r = true ↔ p = q ∧ xs = ys) := by
  have hal := ha.len
  have hbl := hb.len
  have ha := ha.1
  have hb := hb.1
  obtain ⟨a, al, ac⟩ := s
  obtain ⟨b, bl, bc⟩ := t
  dsimp only at hal hbl ha hb
  have m1 := ha.le
  have m2 := ha.max
  unfold maxLen at m2
  refine go35 (by rfl) ?_
  (repeat ((conv => whnf); (first | with_reducible refine r_tt ?_ | with_reducible refine r_ff ?_ | with_reducible refine r_ntt ?_ | with_reducible refine r_nff ?_ | refine r_need (by omega) ?_ | refine r_i64 (by omega) ?_ | refine r_dect (by omega) ?_ | refine r_decf (by omega) ?_ | refine r_eqt (by omega) ?_ | refine r_eqf (by omega) ?_ | refine r_net (by omega) ?_ | refine r_nef (by omega) ?_ | refine r_u8 (by omega) ?_ | refine r_u64 (by omega) ?_ | refine r_i32 (by omega) ?_ | refine r_u32 (by omega) ?_ | refine r_rem (by omega) ?_ | refine r_quo (by omega) ?_ | refine r_ldb (by assumption) (by rfl) ?_ | refine r_ldbE (by assumption) (by rfl) ?_))); (conv => whnf)
  refine r_new fun n1 w1 hx1 hn1 hs1 hblk1 => ?_
  have hblk1 : Blk w1 n1 47 [.int .i64 p, .slice a al ac] := hblk1
  (repeat ((conv => whnf); (first | with_reducible refine r_tt ?_ | with_reducible refine r_ff ?_ | with_reducible refine r_ntt ?_ | with_reducible refine r_nff ?_ | refine r_need (by omega) ?_ | refine r_i64 (by omega) ?_ | refine r_dect (by omega) ?_ | refine r_decf (by omega) ?_ | refine r_eqt (by omega) ?_ | refine r_eqf (by omega) ?_ | refine r_net (by omega) ?_ | refine r_nef (by omega) ?_ | refine r_u8 (by omega) ?_ | refine r_u64 (by omega) ?_ | refine r_i32 (by omega) ?_ | refine r_u32 (by omega) ?_ | refine r_rem (by omega) ?_ | refine r_quo (by omega) ?_ | refine r_ldb (by assumption) (by rfl) ?_ | refine r_ldbE (by assumption) (by rfl) ?_))); (conv => whnf)
  refine r_new fun n2 w2 hx2 hn2 hs2 hblk2 => ?_
  have hblk2 : Blk w2 n2 47 [.int .i64 q, .slice b bl bc] := hblk2
  have hblk1 := hblk1.ext hx2
  have hx := hx1.trans hx2
  by_cases hpq : p = q
  · by_cases hl : al = bl
    · (repeat ((conv => whnf); (first | with_reducible refine r_tt ?_ | with_reducible refine r_ff ?_ | with_reducible refine r_ntt ?_ | with_reducible refine r_nff ?_ | refine r_need (by omega) ?_ | refine r_i64 (by omega) ?_ | refine r_dect (by omega) ?_ | refine r_decf (by omega) ?_ | refine r_eqt (by omega) ?_ | refine r_eqf (by omega) ?_ | refine r_net (by omega) ?_ | refine r_nef (by omega) ?_ | refine r_u8 (by omega) ?_ | refine r_u64 (by omega) ?_ | refine r_i32 (by omega) ?_ | refine r_u32 (by omega) ?_ | refine r_rem (by omega) ?_ | refine r_quo (by omega) ?_ | refine r_ldb (by assumption) (by rfl) ?_ | refine r_ldbE (by assumption) (by rfl) ?_))); (conv => whnf)
      refine r_loop (σ := Nat) (fun i => [.int .i64 (i : Int)]) (fun i w' => i ≤ al ∧ Ext w2 w' ∧ xs.take i = ys.take i) (fun i _ => al - i) 0 rfl ⟨by omega, Ext.refl w2, rfl⟩ ?_
      rintro i w3 again ⟨hi, hx3, htake⟩ hagain
      by_cases hil : i < al
      · have ea : (ivs xs)[i]? = some (.int .i64 xs[i]) := by simp [ivs]
        have eb : (ivs ys)[i]? = some (.int .i64 ys[i]) := by simp [ivs]
        have hpa := ha.plain (by rw [ha.length]; omega)
        have hpb := hb.plain (by rw [hb.length]; omega)
        have hb1 := hblk1.ext hx3
        have hb2 := hblk2.ext hx3
        by_cases hq : xs[i] = ys[i]
        all_goals
          (repeat ((conv => whnf); (first | with_reducible refine r_tt ?_ | with_reducible refine r_ff ?_ | with_reducible refine r_ntt ?_ | with_reducible refine r_nff ?_ | refine r_need (by omega) ?_ | refine r_i64 (by omega) ?_ | refine r_dect (by omega) ?_ | refine r_decf (by omega) ?_ | refine r_eqt (by omega) ?_ | refine r_eqf (by omega) ?_ | refine r_net (by omega) ?_ | refine r_nef (by omega) ?_ | refine r_u8 (by omega) ?_ | refine r_u64 (by omega) ?_ | refine r_i32 (by omega) ?_ | refine r_u32 (by omega) ?_ | refine r_rem (by omega) ?_ | refine r_quo (by omega) ?_ | refine r_ldb (by assumption) (by rfl) ?_ | refine r_ldbE (by assumption) (by rfl) ?_))); (conv => whnf)
          refine r_drawE fun w4 hx4 _ => ?_
          (repeat ((conv => whnf); (first | with_reducible refine r_tt ?_ | with_reducible refine r_ff ?_ | with_reducible refine r_ntt ?_ | with_reducible refine r_nff ?_ | refine r_need (by omega) ?_ | refine r_i64 (by omega) ?_ | refine r_dect (by omega) ?_ | refine r_decf (by omega) ?_ | refine r_eqt (by omega) ?_ | refine r_eqf (by omega) ?_ | refine r_net (by omega) ?_ | refine r_nef (by omega) ?_ | refine r_u8 (by omega) ?_ | refine r_u64 (by omega) ?_ | refine r_i32 (by omega) ?_ | refine r_u32 (by omega) ?_ | refine r_rem (by omega) ?_ | refine r_quo (by omega) ?_ | refine r_ldb (by assumption) (by rfl) ?_ | refine r_ldbE (by assumption) (by rfl) ?_))); (conv => whnf)
          refine r_ldvE (j := (i : Int).toNat * 1) (ha.ext (hx.trans hx3)) (by simpa using ea) ?_
          (repeat ((conv => whnf); (first | with_reducible refine r_tt ?_ | with_reducible refine r_ff ?_ | with_reducible refine r_ntt ?_ | with_reducible refine r_nff ?_ | refine r_need (by omega) ?_ | refine r_i64 (by omega) ?_ | refine r_dect (by omega) ?_ | refine r_decf (by omega) ?_ | refine r_eqt (by omega) ?_ | refine r_eqf (by omega) ?_ | refine r_net (by omega) ?_ | refine r_nef (by omega) ?_ | refine r_u8 (by omega) ?_ | refine r_u64 (by omega) ?_ | refine r_i32 (by omega) ?_ | refine r_u32 (by omega) ?_ | refine r_rem (by omega) ?_ | refine r_quo (by omega) ?_ | refine r_ldb (by assumption) (by rfl) ?_ | refine r_ldbE (by assumption) (by rfl) ?_))); (conv => whnf)
          refine r_ldvE (j := (i : Int).toNat * 1) (hb.ext (hx.trans hx3)) (by simpa using eb) ?_
          (repeat ((conv => whnf); (first | with_reducible refine r_tt ?_ | with_reducible refine r_ff ?_ | with_reducible refine r_ntt ?_ | with_reducible refine r_nff ?_ | refine r_need (by omega) ?_ | refine r_i64 (by omega) ?_ | refine r_dect (by omega) ?_ | refine r_decf (by omega) ?_ | refine r_eqt (by omega) ?_ | refine r_eqf (by omega) ?_ | refine r_net (by omega) ?_ | refine r_nef (by omega) ?_ | refine r_u8 (by omega) ?_ | refine r_u64 (by omega) ?_ | refine r_i32 (by omega) ?_ | refine r_u32 (by omega) ?_ | refine r_rem (by omega) ?_ | refine r_quo (by omega) ?_ | refine r_ldb (by assumption) (by rfl) ?_ | refine r_ldbE (by assumption) (by rfl) ?_))); (conv => whnf)
        · refine hagain (i + 1) w4 ⟨by omega, hx3.trans hx4, ?_⟩ (by omega)
          rw [List.take_succ_eq_append_getElem (by omega), List.take_succ_eq_append_getElem (by omega), htake, hq]
        · exact ⟨(hx.trans hx3).trans hx4, false, rfl, by
            simp only [Bool.false_eq_true, false_iff]
            rintro ⟨_, h⟩
            subst h
            exact hq rfl⟩
      · (repeat ((conv => whnf); (first | with_reducible refine r_tt ?_ | with_reducible refine r_ff ?_ | with_reducible refine r_ntt ?_ | with_reducible refine r_nff ?_ | refine r_need (by omega) ?_ | refine r_i64 (by omega) ?_ | refine r_dect (by omega) ?_ | refine r_decf (by omega) ?_ | refine r_eqt (by omega) ?_ | refine r_eqf (by omega) ?_ | refine r_net (by omega) ?_ | refine r_nef (by omega) ?_ | refine r_u8 (by omega) ?_ | refine r_u64 (by omega) ?_ | refine r_i32 (by omega) ?_ | refine r_u32 (by omega) ?_ | refine r_rem (by omega) ?_ | refine r_quo (by omega) ?_ | refine r_ldb (by assumption) (by rfl) ?_ | refine r_ldbE (by assumption) (by rfl) ?_))); (conv => whnf)
        refine ⟨hx.trans hx3, true, rfl, ?_⟩
        rw [List.take_of_length_le (by omega), List.take_of_length_le (by omega)] at htake
        simp [htake, hpq]
    · (repeat ((conv => whnf); (first | with_reducible refine r_tt ?_ | with_reducible refine r_ff ?_ | with_reducible refine r_ntt ?_ | with_reducible refine r_nff ?_ | refine r_need (by omega) ?_ | refine r_i64 (by omega) ?_ | refine r_dect (by omega) ?_ | refine r_decf (by omega) ?_ | refine r_eqt (by omega) ?_ | refine r_eqf (by omega) ?_ | refine r_net (by omega) ?_ | refine r_nef (by omega) ?_ | refine r_u8 (by omega) ?_ | refine r_u64 (by omega) ?_ | refine r_i32 (by omega) ?_ | refine r_u32 (by omega) ?_ | refine r_rem (by omega) ?_ | refine r_quo (by omega) ?_ | refine r_ldb (by assumption) (by rfl) ?_ | refine r_ldbE (by assumption) (by rfl) ?_))); (conv => whnf)
      exact ⟨hx, false, rfl, by
        simp only [Bool.false_eq_true, false_iff]
        rintro ⟨_, h⟩
        subst h
        omega⟩
  · (repeat ((conv => whnf); (first | with_reducible refine r_tt ?_ | with_reducible refine r_ff ?_ | with_reducible refine r_ntt ?_ | with_reducible refine r_nff ?_ | refine r_need (by omega) ?_ | refine r_i64 (by omega) ?_ | refine r_dect (by omega) ?_ | refine r_decf (by omega) ?_ | refine r_eqt (by omega) ?_ | refine r_eqf (by omega) ?_ | refine r_net (by omega) ?_ | refine r_nef (by omega) ?_ | refine r_u8 (by omega) ?_ | refine r_u64 (by omega) ?_ | refine r_i32 (by omega) ?_ | refine r_u32 (by omega) ?_ | refine r_rem (by omega) ?_ | refine r_quo (by omega) ?_ | refine r_ldb (by assumption) (by rfl) ?_ | refine r_ldbE (by assumption) (by rfl) ?_))); (conv => whnf)
    exact ⟨hx, false, rfl, by simp [hpq]⟩

theorem greatReply_ok {w : World} {r : Rp} {cs : List Value} (h : IsRp w r cs) :
    Cal Try.prog 20 ⟨[.agg ⟨cs⟩]⟩ w fun v w' => Ext w w' ∧ v = .bool (decide (¬ (r.ta.length ≤ 200 ∧ r.da.length ≤ 200 ∧ r.text.length ≤ 200 ∧ r.ans.length ≤ 200))) := by
  obtain ⟨s1, s2, s3, s4, rfl, h1, h2, h3, h4, _⟩ := h
  refine go20 (by rfl) ?_
  (repeat ((conv => whnf); (first | with_reducible refine r_tt ?_ | with_reducible refine r_ff ?_ | with_reducible refine r_ntt ?_ | with_reducible refine r_nff ?_ | refine r_need (by omega) ?_ | refine r_i64 (by omega) ?_ | refine r_dect (by omega) ?_ | refine r_decf (by omega) ?_ | refine r_eqt (by omega) ?_ | refine r_eqf (by omega) ?_ | refine r_net (by omega) ?_ | refine r_nef (by omega) ?_ | refine r_u8 (by omega) ?_ | refine r_u64 (by omega) ?_ | refine r_i32 (by omega) ?_ | refine r_u32 (by omega) ?_ | refine r_rem (by omega) ?_ | refine r_quo (by omega) ?_ | refine r_ldb (by assumption) (by rfl) ?_ | refine r_ldbE (by assumption) (by rfl) ?_))); (conv => whnf)
  refine r_new fun n1 w1 hx1 hn1 hs1 hblk1 => ?_
  have hblk1 : Blk w1 n1 49 [.int .i64 r.err, .int .i64 r.slot, .int .i64 r.gen, .int .i64 r.tr, s1.v, .int .i64 r.dr, s2.v, .int .i64 r.tc, .int .i64 r.dc, .int .i64 r.rel, s3.v, .int .i64 r.phase, .int .i64 r.stop, s4.v] := hblk1
  (repeat ((conv => whnf); (first | with_reducible refine r_tt ?_ | with_reducible refine r_ff ?_ | with_reducible refine r_ntt ?_ | with_reducible refine r_nff ?_ | refine r_need (by omega) ?_ | refine r_i64 (by omega) ?_ | refine r_dect (by omega) ?_ | refine r_decf (by omega) ?_ | refine r_eqt (by omega) ?_ | refine r_eqf (by omega) ?_ | refine r_net (by omega) ?_ | refine r_nef (by omega) ?_ | refine r_u8 (by omega) ?_ | refine r_u64 (by omega) ?_ | refine r_i32 (by omega) ?_ | refine r_u32 (by omega) ?_ | refine r_rem (by omega) ?_ | refine r_quo (by omega) ?_ | refine r_ldb (by assumption) (by rfl) ?_ | refine r_ldbE (by assumption) (by rfl) ?_))); (conv => whnf)
  refine r_new fun n2 w2 hx2 hn2 hs2 hblk2 => ?_
  have hblk2 : Blk w2 n2 34 [s1.v, s2.v, s3.v, s4.v] := hblk2
  (repeat ((conv => whnf); (first | with_reducible refine r_tt ?_ | with_reducible refine r_ff ?_ | with_reducible refine r_ntt ?_ | with_reducible refine r_nff ?_ | refine r_need (by omega) ?_ | refine r_i64 (by omega) ?_ | refine r_dect (by omega) ?_ | refine r_decf (by omega) ?_ | refine r_eqt (by omega) ?_ | refine r_eqf (by omega) ?_ | refine r_net (by omega) ?_ | refine r_nef (by omega) ?_ | refine r_u8 (by omega) ?_ | refine r_u64 (by omega) ?_ | refine r_i32 (by omega) ?_ | refine r_u32 (by omega) ?_ | refine r_rem (by omega) ?_ | refine r_quo (by omega) ?_ | refine r_ldb (by assumption) (by rfl) ?_ | refine r_ldbE (by assumption) (by rfl) ?_))); (conv => whnf)
  refine r_cal (great_ok (rows := [s1, s2, s3, s4]) (View.of_blk (n := 4) hblk2 (by simp) (by simp [maxLen]))) ?_
  rintro _ w3 ⟨rfl, rfl⟩
  (repeat ((conv => whnf); (first | with_reducible refine r_tt ?_ | with_reducible refine r_ff ?_ | with_reducible refine r_ntt ?_ | with_reducible refine r_nff ?_ | refine r_need (by omega) ?_ | refine r_i64 (by omega) ?_ | refine r_dect (by omega) ?_ | refine r_decf (by omega) ?_ | refine r_eqt (by omega) ?_ | refine r_eqf (by omega) ?_ | refine r_net (by omega) ?_ | refine r_nef (by omega) ?_ | refine r_u8 (by omega) ?_ | refine r_u64 (by omega) ?_ | refine r_i32 (by omega) ?_ | refine r_u32 (by omega) ?_ | refine r_rem (by omega) ?_ | refine r_quo (by omega) ?_ | refine r_ldb (by assumption) (by rfl) ?_ | refine r_ldbE (by assumption) (by rfl) ?_))); (conv => whnf)
  refine ⟨hx1.trans hx2, ?_⟩
  rw [h1.len.1, h2.len.1, h3.len.1, h4.len.1]
  congr 1
  rw [Bool.eq_iff_iff]
  simp

theorem redit27_ok {w : World} {p : Int} {s : Sl} {xs : List Int} (hp : inI64 p) (hs : s.is w xs) (hl : xs.length ≤ 1000000) :
    Cal Try.prog 37 ⟨[.agg ⟨[.int .i64 p, s.v]⟩]⟩ w fun v w' => Ext w w' ∧ v = .string (bstr (num p ++ (It.l xs).enc)) := by
  refine go37 (by rfl) ?_
  (repeat ((conv => whnf); (first | with_reducible refine r_tt ?_ | with_reducible refine r_ff ?_ | with_reducible refine r_ntt ?_ | with_reducible refine r_nff ?_ | refine r_need (by omega) ?_ | refine r_i64 (by omega) ?_ | refine r_dect (by omega) ?_ | refine r_decf (by omega) ?_ | refine r_eqt (by omega) ?_ | refine r_eqf (by omega) ?_ | refine r_net (by omega) ?_ | refine r_nef (by omega) ?_ | refine r_u8 (by omega) ?_ | refine r_u64 (by omega) ?_ | refine r_i32 (by omega) ?_ | refine r_u32 (by omega) ?_ | refine r_rem (by omega) ?_ | refine r_quo (by omega) ?_ | refine r_ldb (by assumption) (by rfl) ?_ | refine r_ldbE (by assumption) (by rfl) ?_))); (conv => whnf)
  refine r_new fun n1 w1 hx1 hn1 hs1 hblk1 => ?_
  have hblk1 : Blk w1 n1 47 [.int .i64 p, s.v] := hblk1
  have n1 := num_len hp
  have m1 := numsB_len xs hs.2
  have tin : inI64 (xs.length : Int) := by unfold inI64; omega
  have n6 := num_len tin
  (repeat ((conv => whnf); (first | with_reducible refine r_tt ?_ | with_reducible refine r_ff ?_ | with_reducible refine r_ntt ?_ | with_reducible refine r_nff ?_ | refine r_need (by omega) ?_ | refine r_i64 (by omega) ?_ | refine r_dect (by omega) ?_ | refine r_decf (by omega) ?_ | refine r_eqt (by omega) ?_ | refine r_eqf (by omega) ?_ | refine r_net (by omega) ?_ | refine r_nef (by omega) ?_ | refine r_u8 (by omega) ?_ | refine r_u64 (by omega) ?_ | refine r_i32 (by omega) ?_ | refine r_u32 (by omega) ?_ | refine r_rem (by omega) ?_ | refine r_quo (by omega) ?_ | refine r_ldb (by assumption) (by rfl) ?_ | refine r_ldbE (by assumption) (by rfl) ?_))); (conv => whnf)
  refine r_drawE fun w2 hx2 _ => ?_
  (repeat ((conv => whnf); (first | with_reducible refine r_tt ?_ | with_reducible refine r_ff ?_ | with_reducible refine r_ntt ?_ | with_reducible refine r_nff ?_ | refine r_need (by omega) ?_ | refine r_i64 (by omega) ?_ | refine r_dect (by omega) ?_ | refine r_decf (by omega) ?_ | refine r_eqt (by omega) ?_ | refine r_eqf (by omega) ?_ | refine r_net (by omega) ?_ | refine r_nef (by omega) ?_ | refine r_u8 (by omega) ?_ | refine r_u64 (by omega) ?_ | refine r_i32 (by omega) ?_ | refine r_u32 (by omega) ?_ | refine r_rem (by omega) ?_ | refine r_quo (by omega) ?_ | refine r_ldb (by assumption) (by rfl) ?_ | refine r_ldbE (by assumption) (by rfl) ?_))); (conv => whnf)
  refine r_cal (Number_ok p w2 hp) ?_
  rintro _ w3 ⟨hx3, rfl⟩
  (repeat ((conv => whnf); (first | with_reducible refine r_tt ?_ | with_reducible refine r_ff ?_ | with_reducible refine r_ntt ?_ | with_reducible refine r_nff ?_ | refine r_need (by omega) ?_ | refine r_i64 (by omega) ?_ | refine r_dect (by omega) ?_ | refine r_decf (by omega) ?_ | refine r_eqt (by omega) ?_ | refine r_eqf (by omega) ?_ | refine r_net (by omega) ?_ | refine r_nef (by omega) ?_ | refine r_u8 (by omega) ?_ | refine r_u64 (by omega) ?_ | refine r_i32 (by omega) ?_ | refine r_u32 (by omega) ?_ | refine r_rem (by omega) ?_ | refine r_quo (by omega) ?_ | refine r_ldb (by assumption) (by rfl) ?_ | refine r_ldbE (by assumption) (by rfl) ?_))); (conv => whnf)
  refine r_held (hx2.trans hx3) ?_
  (repeat ((conv => whnf); (first | with_reducible refine r_tt ?_ | with_reducible refine r_ff ?_ | with_reducible refine r_ntt ?_ | with_reducible refine r_nff ?_ | refine r_need (by omega) ?_ | refine r_i64 (by omega) ?_ | refine r_dect (by omega) ?_ | refine r_decf (by omega) ?_ | refine r_eqt (by omega) ?_ | refine r_eqf (by omega) ?_ | refine r_net (by omega) ?_ | refine r_nef (by omega) ?_ | refine r_u8 (by omega) ?_ | refine r_u64 (by omega) ?_ | refine r_i32 (by omega) ?_ | refine r_u32 (by omega) ?_ | refine r_rem (by omega) ?_ | refine r_quo (by omega) ?_ | refine r_ldb (by assumption) (by rfl) ?_ | refine r_ldbE (by assumption) (by rfl) ?_))); (conv => whnf)
  refine r_cal (List_ok (hs.1.ext ((hx1.trans hx2).trans hx3)) hs.2 hl) ?_
  rintro _ w4 ⟨hx4, rfl⟩
  (repeat ((conv => whnf); (first | with_reducible refine r_tt ?_ | with_reducible refine r_ff ?_ | with_reducible refine r_ntt ?_ | with_reducible refine r_nff ?_ | refine r_need (by omega) ?_ | refine r_i64 (by omega) ?_ | refine r_dect (by omega) ?_ | refine r_decf (by omega) ?_ | refine r_eqt (by omega) ?_ | refine r_eqf (by omega) ?_ | refine r_net (by omega) ?_ | refine r_nef (by omega) ?_ | refine r_u8 (by omega) ?_ | refine r_u64 (by omega) ?_ | refine r_i32 (by omega) ?_ | refine r_u32 (by omega) ?_ | refine r_rem (by omega) ?_ | refine r_quo (by omega) ?_ | refine r_ldb (by assumption) (by rfl) ?_ | refine r_ldbE (by assumption) (by rfl) ?_))); (conv => whnf)
  refine r_held ((hx2.trans hx3).trans hx4) ?_
  (repeat ((conv => whnf); (first | with_reducible refine r_tt ?_ | with_reducible refine r_ff ?_ | with_reducible refine r_ntt ?_ | with_reducible refine r_nff ?_ | refine r_need (by omega) ?_ | refine r_i64 (by omega) ?_ | refine r_dect (by omega) ?_ | refine r_decf (by omega) ?_ | refine r_eqt (by omega) ?_ | refine r_eqf (by omega) ?_ | refine r_net (by omega) ?_ | refine r_nef (by omega) ?_ | refine r_u8 (by omega) ?_ | refine r_u64 (by omega) ?_ | refine r_i32 (by omega) ?_ | refine r_u32 (by omega) ?_ | refine r_rem (by omega) ?_ | refine r_quo (by omega) ?_ | refine r_ldb (by assumption) (by rfl) ?_ | refine r_ldbE (by assumption) (by rfl) ?_))); (conv => whnf)
  refine r_need (by simp only [bstr_size, List.length_append, It.enc]; omega) ?_
  rw [bstr_app]
  (repeat ((conv => whnf); (first | with_reducible refine r_tt ?_ | with_reducible refine r_ff ?_ | with_reducible refine r_ntt ?_ | with_reducible refine r_nff ?_ | refine r_need (by omega) ?_ | refine r_i64 (by omega) ?_ | refine r_dect (by omega) ?_ | refine r_decf (by omega) ?_ | refine r_eqt (by omega) ?_ | refine r_eqf (by omega) ?_ | refine r_net (by omega) ?_ | refine r_nef (by omega) ?_ | refine r_u8 (by omega) ?_ | refine r_u64 (by omega) ?_ | refine r_i32 (by omega) ?_ | refine r_u32 (by omega) ?_ | refine r_rem (by omega) ?_ | refine r_quo (by omega) ?_ | refine r_ldb (by assumption) (by rfl) ?_ | refine r_ldbE (by assumption) (by rfl) ?_))); (conv => whnf)
  exact ⟨((hx1.trans hx2).trans hx3).trans hx4, rfl⟩

theorem Reply_ok {w : World} {r : Rp} {cs : List Value} (h : IsRp w r cs) (hl : r.ta.length ≤ 200 ∧ r.da.length ≤ 200 ∧ r.text.length ≤ 200 ∧ r.ans.length ≤ 200) :
    Cal Try.prog 24 ⟨[.agg ⟨cs⟩]⟩ w fun v w' => Ext w w' ∧ v = .string (bstr (encs r.items)) := by
  obtain ⟨s1, s2, s3, s4, rfl, h1, h2, h3, h4, k0, k1, k2, k3, k4, k5, k6, k7, k8, k9⟩ := h
  obtain ⟨l1, l2, l3, l4⟩ := hl
  refine go24 (by rfl) ?_
  (repeat ((conv => whnf); (first | with_reducible refine r_tt ?_ | with_reducible refine r_ff ?_ | with_reducible refine r_ntt ?_ | with_reducible refine r_nff ?_ | refine r_need (by omega) ?_ | refine r_i64 (by omega) ?_ | refine r_dect (by omega) ?_ | refine r_decf (by omega) ?_ | refine r_eqt (by omega) ?_ | refine r_eqf (by omega) ?_ | refine r_net (by omega) ?_ | refine r_nef (by omega) ?_ | refine r_u8 (by omega) ?_ | refine r_u64 (by omega) ?_ | refine r_i32 (by omega) ?_ | refine r_u32 (by omega) ?_ | refine r_rem (by omega) ?_ | refine r_quo (by omega) ?_ | refine r_ldb (by assumption) (by rfl) ?_ | refine r_ldbE (by assumption) (by rfl) ?_))); (conv => whnf)
  refine r_new fun n1 w1 hx1 hn1 hs1 hblk1 => ?_
  have hblk1 : Blk w1 n1 49 [.int .i64 r.err, .int .i64 r.slot, .int .i64 r.gen, .int .i64 r.tr, s1.v, .int .i64 r.dr, s2.v, .int .i64 r.tc, .int .i64 r.dc, .int .i64 r.rel, s3.v, .int .i64 r.phase, .int .i64 r.stop, s4.v] := hblk1
  have i1 := h1.ext hx1
  have i2 := h2.ext hx1
  have i3 := h3.ext hx1
  have i4 := h4.ext hx1
  have f0 := num_len k0
  have f1 := num_len k1
  have f2 := num_len k2
  have f3 := num_len k3
  have f4 := num_len k4
  have f5 := num_len k5
  have f6 := num_len k6
  have f7 := num_len k7
  have f8 := num_len k8
  have f9 := num_len k9
  have lm : ∀ xs : List Int, xs.length ≤ 200 → (∀ x ∈ xs, inI64 x) → (It.l xs).enc.length ≤ 2010 := fun xs hl hx => by
    have hin : inI64 (xs.length : Int) := by unfold inI64; omega
    have := num_len hin
    have := numsB_len xs hx
    simp only [It.enc, List.length_append]
    omega
  have b1 := lm r.ta l1 h1.2
  have b2 := lm r.da l2 h2.2
  have b3 := lm r.text l3 h3.2
  have b4 := lm r.ans l4 h4.2
  generalize he1 : (It.l r.ta).enc = q1 at b1
  generalize he2 : (It.l r.da).enc = q2 at b2
  generalize he3 : (It.l r.text).enc = q3 at b3
  generalize he4 : (It.l r.ans).enc = q4 at b4
  (repeat ((conv => whnf); (first | with_reducible refine r_tt ?_ | with_reducible refine r_ff ?_ | with_reducible refine r_ntt ?_ | with_reducible refine r_nff ?_ | refine r_need (by omega) ?_ | refine r_i64 (by omega) ?_ | refine r_dect (by omega) ?_ | refine r_decf (by omega) ?_ | refine r_eqt (by omega) ?_ | refine r_eqf (by omega) ?_ | refine r_net (by omega) ?_ | refine r_nef (by omega) ?_ | refine r_u8 (by omega) ?_ | refine r_u64 (by omega) ?_ | refine r_i32 (by omega) ?_ | refine r_u32 (by omega) ?_ | refine r_rem (by omega) ?_ | refine r_quo (by omega) ?_ | refine r_ldb (by assumption) (by rfl) ?_ | refine r_ldbE (by assumption) (by rfl) ?_))); (conv => whnf)
  refine r_drawE fun w2 hx2 _ => ?_
  (repeat ((conv => whnf); (first | with_reducible refine r_tt ?_ | with_reducible refine r_ff ?_ | with_reducible refine r_ntt ?_ | with_reducible refine r_nff ?_ | refine r_need (by omega) ?_ | refine r_i64 (by omega) ?_ | refine r_dect (by omega) ?_ | refine r_decf (by omega) ?_ | refine r_eqt (by omega) ?_ | refine r_eqf (by omega) ?_ | refine r_net (by omega) ?_ | refine r_nef (by omega) ?_ | refine r_u8 (by omega) ?_ | refine r_u64 (by omega) ?_ | refine r_i32 (by omega) ?_ | refine r_u32 (by omega) ?_ | refine r_rem (by omega) ?_ | refine r_quo (by omega) ?_ | refine r_ldb (by assumption) (by rfl) ?_ | refine r_ldbE (by assumption) (by rfl) ?_))); (conv => whnf)
  refine r_ldnbE (vs := [.int .i64 r.tr, s1.v]) hblk1 rfl rfl ?_
  (repeat ((conv => whnf); (first | with_reducible refine r_tt ?_ | with_reducible refine r_ff ?_ | with_reducible refine r_ntt ?_ | with_reducible refine r_nff ?_ | refine r_need (by omega) ?_ | refine r_i64 (by omega) ?_ | refine r_dect (by omega) ?_ | refine r_decf (by omega) ?_ | refine r_eqt (by omega) ?_ | refine r_eqf (by omega) ?_ | refine r_net (by omega) ?_ | refine r_nef (by omega) ?_ | refine r_u8 (by omega) ?_ | refine r_u64 (by omega) ?_ | refine r_i32 (by omega) ?_ | refine r_u32 (by omega) ?_ | refine r_rem (by omega) ?_ | refine r_quo (by omega) ?_ | refine r_ldb (by assumption) (by rfl) ?_ | refine r_ldbE (by assumption) (by rfl) ?_))); (conv => whnf)
  refine r_ldnbE (vs := [.int .i64 r.dr, s2.v]) hblk1 rfl rfl ?_
  (repeat ((conv => whnf); (first | with_reducible refine r_tt ?_ | with_reducible refine r_ff ?_ | with_reducible refine r_ntt ?_ | with_reducible refine r_nff ?_ | refine r_need (by omega) ?_ | refine r_i64 (by omega) ?_ | refine r_dect (by omega) ?_ | refine r_decf (by omega) ?_ | refine r_eqt (by omega) ?_ | refine r_eqf (by omega) ?_ | refine r_net (by omega) ?_ | refine r_nef (by omega) ?_ | refine r_u8 (by omega) ?_ | refine r_u64 (by omega) ?_ | refine r_i32 (by omega) ?_ | refine r_u32 (by omega) ?_ | refine r_rem (by omega) ?_ | refine r_quo (by omega) ?_ | refine r_ldb (by assumption) (by rfl) ?_ | refine r_ldbE (by assumption) (by rfl) ?_))); (conv => whnf)
  refine r_cal (Number_ok r.err w2 k0) ?_
  rintro _ wc1 ⟨hy1, rfl⟩
  have hz1 := hx2.trans hy1
  (repeat ((conv => whnf); (first | with_reducible refine r_tt ?_ | with_reducible refine r_ff ?_ | with_reducible refine r_ntt ?_ | with_reducible refine r_nff ?_ | refine r_need (by omega) ?_ | refine r_i64 (by omega) ?_ | refine r_dect (by omega) ?_ | refine r_decf (by omega) ?_ | refine r_eqt (by omega) ?_ | refine r_eqf (by omega) ?_ | refine r_net (by omega) ?_ | refine r_nef (by omega) ?_ | refine r_u8 (by omega) ?_ | refine r_u64 (by omega) ?_ | refine r_i32 (by omega) ?_ | refine r_u32 (by omega) ?_ | refine r_rem (by omega) ?_ | refine r_quo (by omega) ?_ | refine r_ldb (by assumption) (by rfl) ?_ | refine r_ldbE (by assumption) (by rfl) ?_))); (conv => whnf)
  refine r_held hz1 ?_
  (repeat ((conv => whnf); (first | with_reducible refine r_tt ?_ | with_reducible refine r_ff ?_ | with_reducible refine r_ntt ?_ | with_reducible refine r_nff ?_ | refine r_need (by omega) ?_ | refine r_i64 (by omega) ?_ | refine r_dect (by omega) ?_ | refine r_decf (by omega) ?_ | refine r_eqt (by omega) ?_ | refine r_eqf (by omega) ?_ | refine r_net (by omega) ?_ | refine r_nef (by omega) ?_ | refine r_u8 (by omega) ?_ | refine r_u64 (by omega) ?_ | refine r_i32 (by omega) ?_ | refine r_u32 (by omega) ?_ | refine r_rem (by omega) ?_ | refine r_quo (by omega) ?_ | refine r_ldb (by assumption) (by rfl) ?_ | refine r_ldbE (by assumption) (by rfl) ?_))); (conv => whnf)
  refine r_cal (Number_ok r.slot wc1 k1) ?_
  rintro _ wc2 ⟨hy2, rfl⟩
  have hz2 := hz1.trans hy2
  (repeat ((conv => whnf); (first | with_reducible refine r_tt ?_ | with_reducible refine r_ff ?_ | with_reducible refine r_ntt ?_ | with_reducible refine r_nff ?_ | refine r_need (by omega) ?_ | refine r_i64 (by omega) ?_ | refine r_dect (by omega) ?_ | refine r_decf (by omega) ?_ | refine r_eqt (by omega) ?_ | refine r_eqf (by omega) ?_ | refine r_net (by omega) ?_ | refine r_nef (by omega) ?_ | refine r_u8 (by omega) ?_ | refine r_u64 (by omega) ?_ | refine r_i32 (by omega) ?_ | refine r_u32 (by omega) ?_ | refine r_rem (by omega) ?_ | refine r_quo (by omega) ?_ | refine r_ldb (by assumption) (by rfl) ?_ | refine r_ldbE (by assumption) (by rfl) ?_))); (conv => whnf)
  refine r_held hz2 ?_
  (repeat ((conv => whnf); (first | with_reducible refine r_tt ?_ | with_reducible refine r_ff ?_ | with_reducible refine r_ntt ?_ | with_reducible refine r_nff ?_ | refine r_need (by omega) ?_ | refine r_i64 (by omega) ?_ | refine r_dect (by omega) ?_ | refine r_decf (by omega) ?_ | refine r_eqt (by omega) ?_ | refine r_eqf (by omega) ?_ | refine r_net (by omega) ?_ | refine r_nef (by omega) ?_ | refine r_u8 (by omega) ?_ | refine r_u64 (by omega) ?_ | refine r_i32 (by omega) ?_ | refine r_u32 (by omega) ?_ | refine r_rem (by omega) ?_ | refine r_quo (by omega) ?_ | refine r_ldb (by assumption) (by rfl) ?_ | refine r_ldbE (by assumption) (by rfl) ?_))); (conv => whnf)
  refine r_need (by simp only [bstr_size]; omega) ?_
  rw [bstr_app]
  (repeat ((conv => whnf); (first | with_reducible refine r_tt ?_ | with_reducible refine r_ff ?_ | with_reducible refine r_ntt ?_ | with_reducible refine r_nff ?_ | refine r_need (by omega) ?_ | refine r_i64 (by omega) ?_ | refine r_dect (by omega) ?_ | refine r_decf (by omega) ?_ | refine r_eqt (by omega) ?_ | refine r_eqf (by omega) ?_ | refine r_net (by omega) ?_ | refine r_nef (by omega) ?_ | refine r_u8 (by omega) ?_ | refine r_u64 (by omega) ?_ | refine r_i32 (by omega) ?_ | refine r_u32 (by omega) ?_ | refine r_rem (by omega) ?_ | refine r_quo (by omega) ?_ | refine r_ldb (by assumption) (by rfl) ?_ | refine r_ldbE (by assumption) (by rfl) ?_))); (conv => whnf)
  refine r_cal (Number_ok r.gen wc2 k2) ?_
  rintro _ wc3 ⟨hy3, rfl⟩
  have hz3 := hz2.trans hy3
  (repeat ((conv => whnf); (first | with_reducible refine r_tt ?_ | with_reducible refine r_ff ?_ | with_reducible refine r_ntt ?_ | with_reducible refine r_nff ?_ | refine r_need (by omega) ?_ | refine r_i64 (by omega) ?_ | refine r_dect (by omega) ?_ | refine r_decf (by omega) ?_ | refine r_eqt (by omega) ?_ | refine r_eqf (by omega) ?_ | refine r_net (by omega) ?_ | refine r_nef (by omega) ?_ | refine r_u8 (by omega) ?_ | refine r_u64 (by omega) ?_ | refine r_i32 (by omega) ?_ | refine r_u32 (by omega) ?_ | refine r_rem (by omega) ?_ | refine r_quo (by omega) ?_ | refine r_ldb (by assumption) (by rfl) ?_ | refine r_ldbE (by assumption) (by rfl) ?_))); (conv => whnf)
  refine r_held hz3 ?_
  (repeat ((conv => whnf); (first | with_reducible refine r_tt ?_ | with_reducible refine r_ff ?_ | with_reducible refine r_ntt ?_ | with_reducible refine r_nff ?_ | refine r_need (by omega) ?_ | refine r_i64 (by omega) ?_ | refine r_dect (by omega) ?_ | refine r_decf (by omega) ?_ | refine r_eqt (by omega) ?_ | refine r_eqf (by omega) ?_ | refine r_net (by omega) ?_ | refine r_nef (by omega) ?_ | refine r_u8 (by omega) ?_ | refine r_u64 (by omega) ?_ | refine r_i32 (by omega) ?_ | refine r_u32 (by omega) ?_ | refine r_rem (by omega) ?_ | refine r_quo (by omega) ?_ | refine r_ldb (by assumption) (by rfl) ?_ | refine r_ldbE (by assumption) (by rfl) ?_))); (conv => whnf)
  refine r_need (by simp only [bstr_size, List.length_append]; omega) ?_
  rw [bstr_app]
  (repeat ((conv => whnf); (first | with_reducible refine r_tt ?_ | with_reducible refine r_ff ?_ | with_reducible refine r_ntt ?_ | with_reducible refine r_nff ?_ | refine r_need (by omega) ?_ | refine r_i64 (by omega) ?_ | refine r_dect (by omega) ?_ | refine r_decf (by omega) ?_ | refine r_eqt (by omega) ?_ | refine r_eqf (by omega) ?_ | refine r_net (by omega) ?_ | refine r_nef (by omega) ?_ | refine r_u8 (by omega) ?_ | refine r_u64 (by omega) ?_ | refine r_i32 (by omega) ?_ | refine r_u32 (by omega) ?_ | refine r_rem (by omega) ?_ | refine r_quo (by omega) ?_ | refine r_ldb (by assumption) (by rfl) ?_ | refine r_ldbE (by assumption) (by rfl) ?_))); (conv => whnf)
  refine r_cal (redit27_ok k3 (i1.ext hz3) (by omega)) ?_
  rintro _ wc4 ⟨hy4, rfl⟩
  rw [he1]
  have hz4 := hz3.trans hy4
  (repeat ((conv => whnf); (first | with_reducible refine r_tt ?_ | with_reducible refine r_ff ?_ | with_reducible refine r_ntt ?_ | with_reducible refine r_nff ?_ | refine r_need (by omega) ?_ | refine r_i64 (by omega) ?_ | refine r_dect (by omega) ?_ | refine r_decf (by omega) ?_ | refine r_eqt (by omega) ?_ | refine r_eqf (by omega) ?_ | refine r_net (by omega) ?_ | refine r_nef (by omega) ?_ | refine r_u8 (by omega) ?_ | refine r_u64 (by omega) ?_ | refine r_i32 (by omega) ?_ | refine r_u32 (by omega) ?_ | refine r_rem (by omega) ?_ | refine r_quo (by omega) ?_ | refine r_ldb (by assumption) (by rfl) ?_ | refine r_ldbE (by assumption) (by rfl) ?_))); (conv => whnf)
  refine r_held hz4 ?_
  (repeat ((conv => whnf); (first | with_reducible refine r_tt ?_ | with_reducible refine r_ff ?_ | with_reducible refine r_ntt ?_ | with_reducible refine r_nff ?_ | refine r_need (by omega) ?_ | refine r_i64 (by omega) ?_ | refine r_dect (by omega) ?_ | refine r_decf (by omega) ?_ | refine r_eqt (by omega) ?_ | refine r_eqf (by omega) ?_ | refine r_net (by omega) ?_ | refine r_nef (by omega) ?_ | refine r_u8 (by omega) ?_ | refine r_u64 (by omega) ?_ | refine r_i32 (by omega) ?_ | refine r_u32 (by omega) ?_ | refine r_rem (by omega) ?_ | refine r_quo (by omega) ?_ | refine r_ldb (by assumption) (by rfl) ?_ | refine r_ldbE (by assumption) (by rfl) ?_))); (conv => whnf)
  refine r_need (by simp only [bstr_size, List.length_append]; omega) ?_
  rw [bstr_app]
  (repeat ((conv => whnf); (first | with_reducible refine r_tt ?_ | with_reducible refine r_ff ?_ | with_reducible refine r_ntt ?_ | with_reducible refine r_nff ?_ | refine r_need (by omega) ?_ | refine r_i64 (by omega) ?_ | refine r_dect (by omega) ?_ | refine r_decf (by omega) ?_ | refine r_eqt (by omega) ?_ | refine r_eqf (by omega) ?_ | refine r_net (by omega) ?_ | refine r_nef (by omega) ?_ | refine r_u8 (by omega) ?_ | refine r_u64 (by omega) ?_ | refine r_i32 (by omega) ?_ | refine r_u32 (by omega) ?_ | refine r_rem (by omega) ?_ | refine r_quo (by omega) ?_ | refine r_ldb (by assumption) (by rfl) ?_ | refine r_ldbE (by assumption) (by rfl) ?_))); (conv => whnf)
  refine r_cal (redit27_ok k4 (i2.ext hz4) (by omega)) ?_
  rintro _ wc5 ⟨hy5, rfl⟩
  rw [he2]
  have hz5 := hz4.trans hy5
  (repeat ((conv => whnf); (first | with_reducible refine r_tt ?_ | with_reducible refine r_ff ?_ | with_reducible refine r_ntt ?_ | with_reducible refine r_nff ?_ | refine r_need (by omega) ?_ | refine r_i64 (by omega) ?_ | refine r_dect (by omega) ?_ | refine r_decf (by omega) ?_ | refine r_eqt (by omega) ?_ | refine r_eqf (by omega) ?_ | refine r_net (by omega) ?_ | refine r_nef (by omega) ?_ | refine r_u8 (by omega) ?_ | refine r_u64 (by omega) ?_ | refine r_i32 (by omega) ?_ | refine r_u32 (by omega) ?_ | refine r_rem (by omega) ?_ | refine r_quo (by omega) ?_ | refine r_ldb (by assumption) (by rfl) ?_ | refine r_ldbE (by assumption) (by rfl) ?_))); (conv => whnf)
  refine r_held hz5 ?_
  (repeat ((conv => whnf); (first | with_reducible refine r_tt ?_ | with_reducible refine r_ff ?_ | with_reducible refine r_ntt ?_ | with_reducible refine r_nff ?_ | refine r_need (by omega) ?_ | refine r_i64 (by omega) ?_ | refine r_dect (by omega) ?_ | refine r_decf (by omega) ?_ | refine r_eqt (by omega) ?_ | refine r_eqf (by omega) ?_ | refine r_net (by omega) ?_ | refine r_nef (by omega) ?_ | refine r_u8 (by omega) ?_ | refine r_u64 (by omega) ?_ | refine r_i32 (by omega) ?_ | refine r_u32 (by omega) ?_ | refine r_rem (by omega) ?_ | refine r_quo (by omega) ?_ | refine r_ldb (by assumption) (by rfl) ?_ | refine r_ldbE (by assumption) (by rfl) ?_))); (conv => whnf)
  refine r_need (by simp only [bstr_size, List.length_append]; omega) ?_
  rw [bstr_app]
  generalize hA : num r.err ++ num r.slot ++ num r.gen ++ (num r.tr ++ q1) ++ (num r.dr ++ q2) = A
  have hAl : A.length ≤ 5000 := by rw [← hA]; simp only [List.length_append]; omega
  have hb6 := hblk1.ext hz5
  (repeat ((conv => whnf); (first | with_reducible refine r_tt ?_ | with_reducible refine r_ff ?_ | with_reducible refine r_ntt ?_ | with_reducible refine r_nff ?_ | refine r_need (by omega) ?_ | refine r_i64 (by omega) ?_ | refine r_dect (by omega) ?_ | refine r_decf (by omega) ?_ | refine r_eqt (by omega) ?_ | refine r_eqf (by omega) ?_ | refine r_net (by omega) ?_ | refine r_nef (by omega) ?_ | refine r_u8 (by omega) ?_ | refine r_u64 (by omega) ?_ | refine r_i32 (by omega) ?_ | refine r_u32 (by omega) ?_ | refine r_rem (by omega) ?_ | refine r_quo (by omega) ?_ | refine r_ldb (by assumption) (by rfl) ?_ | refine r_ldbE (by assumption) (by rfl) ?_))); (conv => whnf)
  refine r_drawE fun w6 hx6 _ => ?_
  have hz6 := hz5.trans hx6
  (repeat ((conv => whnf); (first | with_reducible refine r_tt ?_ | with_reducible refine r_ff ?_ | with_reducible refine r_ntt ?_ | with_reducible refine r_nff ?_ | refine r_need (by omega) ?_ | refine r_i64 (by omega) ?_ | refine r_dect (by omega) ?_ | refine r_decf (by omega) ?_ | refine r_eqt (by omega) ?_ | refine r_eqf (by omega) ?_ | refine r_net (by omega) ?_ | refine r_nef (by omega) ?_ | refine r_u8 (by omega) ?_ | refine r_u64 (by omega) ?_ | refine r_i32 (by omega) ?_ | refine r_u32 (by omega) ?_ | refine r_rem (by omega) ?_ | refine r_quo (by omega) ?_ | refine r_ldb (by assumption) (by rfl) ?_ | refine r_ldbE (by assumption) (by rfl) ?_))); (conv => whnf)
  refine r_cal (Number_ok r.tc w6 k5) ?_
  rintro _ wc7 ⟨hy7, rfl⟩
  have hz7 := hx6.trans hy7
  (repeat ((conv => whnf); (first | with_reducible refine r_tt ?_ | with_reducible refine r_ff ?_ | with_reducible refine r_ntt ?_ | with_reducible refine r_nff ?_ | refine r_need (by omega) ?_ | refine r_i64 (by omega) ?_ | refine r_dect (by omega) ?_ | refine r_decf (by omega) ?_ | refine r_eqt (by omega) ?_ | refine r_eqf (by omega) ?_ | refine r_net (by omega) ?_ | refine r_nef (by omega) ?_ | refine r_u8 (by omega) ?_ | refine r_u64 (by omega) ?_ | refine r_i32 (by omega) ?_ | refine r_u32 (by omega) ?_ | refine r_rem (by omega) ?_ | refine r_quo (by omega) ?_ | refine r_ldb (by assumption) (by rfl) ?_ | refine r_ldbE (by assumption) (by rfl) ?_))); (conv => whnf)
  refine r_held hz7 ?_
  (repeat ((conv => whnf); (first | with_reducible refine r_tt ?_ | with_reducible refine r_ff ?_ | with_reducible refine r_ntt ?_ | with_reducible refine r_nff ?_ | refine r_need (by omega) ?_ | refine r_i64 (by omega) ?_ | refine r_dect (by omega) ?_ | refine r_decf (by omega) ?_ | refine r_eqt (by omega) ?_ | refine r_eqf (by omega) ?_ | refine r_net (by omega) ?_ | refine r_nef (by omega) ?_ | refine r_u8 (by omega) ?_ | refine r_u64 (by omega) ?_ | refine r_i32 (by omega) ?_ | refine r_u32 (by omega) ?_ | refine r_rem (by omega) ?_ | refine r_quo (by omega) ?_ | refine r_ldb (by assumption) (by rfl) ?_ | refine r_ldbE (by assumption) (by rfl) ?_))); (conv => whnf)
  refine r_need (by simp only [bstr_size]; omega) ?_
  rw [bstr_app]
  (repeat ((conv => whnf); (first | with_reducible refine r_tt ?_ | with_reducible refine r_ff ?_ | with_reducible refine r_ntt ?_ | with_reducible refine r_nff ?_ | refine r_need (by omega) ?_ | refine r_i64 (by omega) ?_ | refine r_dect (by omega) ?_ | refine r_decf (by omega) ?_ | refine r_eqt (by omega) ?_ | refine r_eqf (by omega) ?_ | refine r_net (by omega) ?_ | refine r_nef (by omega) ?_ | refine r_u8 (by omega) ?_ | refine r_u64 (by omega) ?_ | refine r_i32 (by omega) ?_ | refine r_u32 (by omega) ?_ | refine r_rem (by omega) ?_ | refine r_quo (by omega) ?_ | refine r_ldb (by assumption) (by rfl) ?_ | refine r_ldbE (by assumption) (by rfl) ?_))); (conv => whnf)
  refine r_cal (Number_ok r.dc wc7 k6) ?_
  rintro _ wc8 ⟨hy8, rfl⟩
  have hz8 := hz7.trans hy8
  (repeat ((conv => whnf); (first | with_reducible refine r_tt ?_ | with_reducible refine r_ff ?_ | with_reducible refine r_ntt ?_ | with_reducible refine r_nff ?_ | refine r_need (by omega) ?_ | refine r_i64 (by omega) ?_ | refine r_dect (by omega) ?_ | refine r_decf (by omega) ?_ | refine r_eqt (by omega) ?_ | refine r_eqf (by omega) ?_ | refine r_net (by omega) ?_ | refine r_nef (by omega) ?_ | refine r_u8 (by omega) ?_ | refine r_u64 (by omega) ?_ | refine r_i32 (by omega) ?_ | refine r_u32 (by omega) ?_ | refine r_rem (by omega) ?_ | refine r_quo (by omega) ?_ | refine r_ldb (by assumption) (by rfl) ?_ | refine r_ldbE (by assumption) (by rfl) ?_))); (conv => whnf)
  refine r_held hz8 ?_
  (repeat ((conv => whnf); (first | with_reducible refine r_tt ?_ | with_reducible refine r_ff ?_ | with_reducible refine r_ntt ?_ | with_reducible refine r_nff ?_ | refine r_need (by omega) ?_ | refine r_i64 (by omega) ?_ | refine r_dect (by omega) ?_ | refine r_decf (by omega) ?_ | refine r_eqt (by omega) ?_ | refine r_eqf (by omega) ?_ | refine r_net (by omega) ?_ | refine r_nef (by omega) ?_ | refine r_u8 (by omega) ?_ | refine r_u64 (by omega) ?_ | refine r_i32 (by omega) ?_ | refine r_u32 (by omega) ?_ | refine r_rem (by omega) ?_ | refine r_quo (by omega) ?_ | refine r_ldb (by assumption) (by rfl) ?_ | refine r_ldbE (by assumption) (by rfl) ?_))); (conv => whnf)
  refine r_need (by simp only [bstr_size, List.length_append]; omega) ?_
  rw [bstr_app]
  (repeat ((conv => whnf); (first | with_reducible refine r_tt ?_ | with_reducible refine r_ff ?_ | with_reducible refine r_ntt ?_ | with_reducible refine r_nff ?_ | refine r_need (by omega) ?_ | refine r_i64 (by omega) ?_ | refine r_dect (by omega) ?_ | refine r_decf (by omega) ?_ | refine r_eqt (by omega) ?_ | refine r_eqf (by omega) ?_ | refine r_net (by omega) ?_ | refine r_nef (by omega) ?_ | refine r_u8 (by omega) ?_ | refine r_u64 (by omega) ?_ | refine r_i32 (by omega) ?_ | refine r_u32 (by omega) ?_ | refine r_rem (by omega) ?_ | refine r_quo (by omega) ?_ | refine r_ldb (by assumption) (by rfl) ?_ | refine r_ldbE (by assumption) (by rfl) ?_))); (conv => whnf)
  refine r_cal (Number_ok r.rel wc8 k7) ?_
  rintro _ wc9 ⟨hy9, rfl⟩
  have hz9 := hz8.trans hy9
  (repeat ((conv => whnf); (first | with_reducible refine r_tt ?_ | with_reducible refine r_ff ?_ | with_reducible refine r_ntt ?_ | with_reducible refine r_nff ?_ | refine r_need (by omega) ?_ | refine r_i64 (by omega) ?_ | refine r_dect (by omega) ?_ | refine r_decf (by omega) ?_ | refine r_eqt (by omega) ?_ | refine r_eqf (by omega) ?_ | refine r_net (by omega) ?_ | refine r_nef (by omega) ?_ | refine r_u8 (by omega) ?_ | refine r_u64 (by omega) ?_ | refine r_i32 (by omega) ?_ | refine r_u32 (by omega) ?_ | refine r_rem (by omega) ?_ | refine r_quo (by omega) ?_ | refine r_ldb (by assumption) (by rfl) ?_ | refine r_ldbE (by assumption) (by rfl) ?_))); (conv => whnf)
  refine r_held hz9 ?_
  (repeat ((conv => whnf); (first | with_reducible refine r_tt ?_ | with_reducible refine r_ff ?_ | with_reducible refine r_ntt ?_ | with_reducible refine r_nff ?_ | refine r_need (by omega) ?_ | refine r_i64 (by omega) ?_ | refine r_dect (by omega) ?_ | refine r_decf (by omega) ?_ | refine r_eqt (by omega) ?_ | refine r_eqf (by omega) ?_ | refine r_net (by omega) ?_ | refine r_nef (by omega) ?_ | refine r_u8 (by omega) ?_ | refine r_u64 (by omega) ?_ | refine r_i32 (by omega) ?_ | refine r_u32 (by omega) ?_ | refine r_rem (by omega) ?_ | refine r_quo (by omega) ?_ | refine r_ldb (by assumption) (by rfl) ?_ | refine r_ldbE (by assumption) (by rfl) ?_))); (conv => whnf)
  refine r_need (by simp only [bstr_size, List.length_append]; omega) ?_
  rw [bstr_app]
  (repeat ((conv => whnf); (first | with_reducible refine r_tt ?_ | with_reducible refine r_ff ?_ | with_reducible refine r_ntt ?_ | with_reducible refine r_nff ?_ | refine r_need (by omega) ?_ | refine r_i64 (by omega) ?_ | refine r_dect (by omega) ?_ | refine r_decf (by omega) ?_ | refine r_eqt (by omega) ?_ | refine r_eqf (by omega) ?_ | refine r_net (by omega) ?_ | refine r_nef (by omega) ?_ | refine r_u8 (by omega) ?_ | refine r_u64 (by omega) ?_ | refine r_i32 (by omega) ?_ | refine r_u32 (by omega) ?_ | refine r_rem (by omega) ?_ | refine r_quo (by omega) ?_ | refine r_ldb (by assumption) (by rfl) ?_ | refine r_ldbE (by assumption) (by rfl) ?_))); (conv => whnf)
  refine r_cal (List_ok (i3.ext (hz5.trans hz9)).1 i3.2 (by omega)) ?_
  rintro _ wc10 ⟨hy10, rfl⟩
  rw [he3]
  have hz10 := hz9.trans hy10
  (repeat ((conv => whnf); (first | with_reducible refine r_tt ?_ | with_reducible refine r_ff ?_ | with_reducible refine r_ntt ?_ | with_reducible refine r_nff ?_ | refine r_need (by omega) ?_ | refine r_i64 (by omega) ?_ | refine r_dect (by omega) ?_ | refine r_decf (by omega) ?_ | refine r_eqt (by omega) ?_ | refine r_eqf (by omega) ?_ | refine r_net (by omega) ?_ | refine r_nef (by omega) ?_ | refine r_u8 (by omega) ?_ | refine r_u64 (by omega) ?_ | refine r_i32 (by omega) ?_ | refine r_u32 (by omega) ?_ | refine r_rem (by omega) ?_ | refine r_quo (by omega) ?_ | refine r_ldb (by assumption) (by rfl) ?_ | refine r_ldbE (by assumption) (by rfl) ?_))); (conv => whnf)
  refine r_held hz10 ?_
  (repeat ((conv => whnf); (first | with_reducible refine r_tt ?_ | with_reducible refine r_ff ?_ | with_reducible refine r_ntt ?_ | with_reducible refine r_nff ?_ | refine r_need (by omega) ?_ | refine r_i64 (by omega) ?_ | refine r_dect (by omega) ?_ | refine r_decf (by omega) ?_ | refine r_eqt (by omega) ?_ | refine r_eqf (by omega) ?_ | refine r_net (by omega) ?_ | refine r_nef (by omega) ?_ | refine r_u8 (by omega) ?_ | refine r_u64 (by omega) ?_ | refine r_i32 (by omega) ?_ | refine r_u32 (by omega) ?_ | refine r_rem (by omega) ?_ | refine r_quo (by omega) ?_ | refine r_ldb (by assumption) (by rfl) ?_ | refine r_ldbE (by assumption) (by rfl) ?_))); (conv => whnf)
  refine r_need (by simp only [bstr_size, List.length_append]; omega) ?_
  rw [bstr_app]
  (repeat ((conv => whnf); (first | with_reducible refine r_tt ?_ | with_reducible refine r_ff ?_ | with_reducible refine r_ntt ?_ | with_reducible refine r_nff ?_ | refine r_need (by omega) ?_ | refine r_i64 (by omega) ?_ | refine r_dect (by omega) ?_ | refine r_decf (by omega) ?_ | refine r_eqt (by omega) ?_ | refine r_eqf (by omega) ?_ | refine r_net (by omega) ?_ | refine r_nef (by omega) ?_ | refine r_u8 (by omega) ?_ | refine r_u64 (by omega) ?_ | refine r_i32 (by omega) ?_ | refine r_u32 (by omega) ?_ | refine r_rem (by omega) ?_ | refine r_quo (by omega) ?_ | refine r_ldb (by assumption) (by rfl) ?_ | refine r_ldbE (by assumption) (by rfl) ?_))); (conv => whnf)
  refine r_cal (Number_ok r.phase wc10 k8) ?_
  rintro _ wc11 ⟨hy11, rfl⟩
  have hz11 := hz10.trans hy11
  (repeat ((conv => whnf); (first | with_reducible refine r_tt ?_ | with_reducible refine r_ff ?_ | with_reducible refine r_ntt ?_ | with_reducible refine r_nff ?_ | refine r_need (by omega) ?_ | refine r_i64 (by omega) ?_ | refine r_dect (by omega) ?_ | refine r_decf (by omega) ?_ | refine r_eqt (by omega) ?_ | refine r_eqf (by omega) ?_ | refine r_net (by omega) ?_ | refine r_nef (by omega) ?_ | refine r_u8 (by omega) ?_ | refine r_u64 (by omega) ?_ | refine r_i32 (by omega) ?_ | refine r_u32 (by omega) ?_ | refine r_rem (by omega) ?_ | refine r_quo (by omega) ?_ | refine r_ldb (by assumption) (by rfl) ?_ | refine r_ldbE (by assumption) (by rfl) ?_))); (conv => whnf)
  refine r_held hz11 ?_
  (repeat ((conv => whnf); (first | with_reducible refine r_tt ?_ | with_reducible refine r_ff ?_ | with_reducible refine r_ntt ?_ | with_reducible refine r_nff ?_ | refine r_need (by omega) ?_ | refine r_i64 (by omega) ?_ | refine r_dect (by omega) ?_ | refine r_decf (by omega) ?_ | refine r_eqt (by omega) ?_ | refine r_eqf (by omega) ?_ | refine r_net (by omega) ?_ | refine r_nef (by omega) ?_ | refine r_u8 (by omega) ?_ | refine r_u64 (by omega) ?_ | refine r_i32 (by omega) ?_ | refine r_u32 (by omega) ?_ | refine r_rem (by omega) ?_ | refine r_quo (by omega) ?_ | refine r_ldb (by assumption) (by rfl) ?_ | refine r_ldbE (by assumption) (by rfl) ?_))); (conv => whnf)
  refine r_need (by simp only [bstr_size, List.length_append]; omega) ?_
  rw [bstr_app]
  (repeat ((conv => whnf); (first | with_reducible refine r_tt ?_ | with_reducible refine r_ff ?_ | with_reducible refine r_ntt ?_ | with_reducible refine r_nff ?_ | refine r_need (by omega) ?_ | refine r_i64 (by omega) ?_ | refine r_dect (by omega) ?_ | refine r_decf (by omega) ?_ | refine r_eqt (by omega) ?_ | refine r_eqf (by omega) ?_ | refine r_net (by omega) ?_ | refine r_nef (by omega) ?_ | refine r_u8 (by omega) ?_ | refine r_u64 (by omega) ?_ | refine r_i32 (by omega) ?_ | refine r_u32 (by omega) ?_ | refine r_rem (by omega) ?_ | refine r_quo (by omega) ?_ | refine r_ldb (by assumption) (by rfl) ?_ | refine r_ldbE (by assumption) (by rfl) ?_))); (conv => whnf)
  refine r_cal (Number_ok r.stop wc11 k9) ?_
  rintro _ wc12 ⟨hy12, rfl⟩
  have hz12 := hz11.trans hy12
  (repeat ((conv => whnf); (first | with_reducible refine r_tt ?_ | with_reducible refine r_ff ?_ | with_reducible refine r_ntt ?_ | with_reducible refine r_nff ?_ | refine r_need (by omega) ?_ | refine r_i64 (by omega) ?_ | refine r_dect (by omega) ?_ | refine r_decf (by omega) ?_ | refine r_eqt (by omega) ?_ | refine r_eqf (by omega) ?_ | refine r_net (by omega) ?_ | refine r_nef (by omega) ?_ | refine r_u8 (by omega) ?_ | refine r_u64 (by omega) ?_ | refine r_i32 (by omega) ?_ | refine r_u32 (by omega) ?_ | refine r_rem (by omega) ?_ | refine r_quo (by omega) ?_ | refine r_ldb (by assumption) (by rfl) ?_ | refine r_ldbE (by assumption) (by rfl) ?_))); (conv => whnf)
  refine r_held hz12 ?_
  (repeat ((conv => whnf); (first | with_reducible refine r_tt ?_ | with_reducible refine r_ff ?_ | with_reducible refine r_ntt ?_ | with_reducible refine r_nff ?_ | refine r_need (by omega) ?_ | refine r_i64 (by omega) ?_ | refine r_dect (by omega) ?_ | refine r_decf (by omega) ?_ | refine r_eqt (by omega) ?_ | refine r_eqf (by omega) ?_ | refine r_net (by omega) ?_ | refine r_nef (by omega) ?_ | refine r_u8 (by omega) ?_ | refine r_u64 (by omega) ?_ | refine r_i32 (by omega) ?_ | refine r_u32 (by omega) ?_ | refine r_rem (by omega) ?_ | refine r_quo (by omega) ?_ | refine r_ldb (by assumption) (by rfl) ?_ | refine r_ldbE (by assumption) (by rfl) ?_))); (conv => whnf)
  refine r_need (by simp only [bstr_size, List.length_append]; omega) ?_
  rw [bstr_app]
  (repeat ((conv => whnf); (first | with_reducible refine r_tt ?_ | with_reducible refine r_ff ?_ | with_reducible refine r_ntt ?_ | with_reducible refine r_nff ?_ | refine r_need (by omega) ?_ | refine r_i64 (by omega) ?_ | refine r_dect (by omega) ?_ | refine r_decf (by omega) ?_ | refine r_eqt (by omega) ?_ | refine r_eqf (by omega) ?_ | refine r_net (by omega) ?_ | refine r_nef (by omega) ?_ | refine r_u8 (by omega) ?_ | refine r_u64 (by omega) ?_ | refine r_i32 (by omega) ?_ | refine r_u32 (by omega) ?_ | refine r_rem (by omega) ?_ | refine r_quo (by omega) ?_ | refine r_ldb (by assumption) (by rfl) ?_ | refine r_ldbE (by assumption) (by rfl) ?_))); (conv => whnf)
  refine r_cal (List_ok (i4.ext (hz5.trans hz12)).1 i4.2 (by omega)) ?_
  rintro _ wc13 ⟨hy13, rfl⟩
  rw [he4]
  have hz13 := hz12.trans hy13
  (repeat ((conv => whnf); (first | with_reducible refine r_tt ?_ | with_reducible refine r_ff ?_ | with_reducible refine r_ntt ?_ | with_reducible refine r_nff ?_ | refine r_need (by omega) ?_ | refine r_i64 (by omega) ?_ | refine r_dect (by omega) ?_ | refine r_decf (by omega) ?_ | refine r_eqt (by omega) ?_ | refine r_eqf (by omega) ?_ | refine r_net (by omega) ?_ | refine r_nef (by omega) ?_ | refine r_u8 (by omega) ?_ | refine r_u64 (by omega) ?_ | refine r_i32 (by omega) ?_ | refine r_u32 (by omega) ?_ | refine r_rem (by omega) ?_ | refine r_quo (by omega) ?_ | refine r_ldb (by assumption) (by rfl) ?_ | refine r_ldbE (by assumption) (by rfl) ?_))); (conv => whnf)
  refine r_held hz13 ?_
  (repeat ((conv => whnf); (first | with_reducible refine r_tt ?_ | with_reducible refine r_ff ?_ | with_reducible refine r_ntt ?_ | with_reducible refine r_nff ?_ | refine r_need (by omega) ?_ | refine r_i64 (by omega) ?_ | refine r_dect (by omega) ?_ | refine r_decf (by omega) ?_ | refine r_eqt (by omega) ?_ | refine r_eqf (by omega) ?_ | refine r_net (by omega) ?_ | refine r_nef (by omega) ?_ | refine r_u8 (by omega) ?_ | refine r_u64 (by omega) ?_ | refine r_i32 (by omega) ?_ | refine r_u32 (by omega) ?_ | refine r_rem (by omega) ?_ | refine r_quo (by omega) ?_ | refine r_ldb (by assumption) (by rfl) ?_ | refine r_ldbE (by assumption) (by rfl) ?_))); (conv => whnf)
  refine r_need (by simp only [bstr_size, List.length_append]; omega) ?_
  rw [bstr_app]
  (repeat ((conv => whnf); (first | with_reducible refine r_tt ?_ | with_reducible refine r_ff ?_ | with_reducible refine r_ntt ?_ | with_reducible refine r_nff ?_ | refine r_need (by omega) ?_ | refine r_i64 (by omega) ?_ | refine r_dect (by omega) ?_ | refine r_decf (by omega) ?_ | refine r_eqt (by omega) ?_ | refine r_eqf (by omega) ?_ | refine r_net (by omega) ?_ | refine r_nef (by omega) ?_ | refine r_u8 (by omega) ?_ | refine r_u64 (by omega) ?_ | refine r_i32 (by omega) ?_ | refine r_u32 (by omega) ?_ | refine r_rem (by omega) ?_ | refine r_quo (by omega) ?_ | refine r_ldb (by assumption) (by rfl) ?_ | refine r_ldbE (by assumption) (by rfl) ?_))); (conv => whnf)
  refine ⟨(hx1.trans hz5).trans hz13, ?_⟩
  rw [← hA, ← he1, ← he2, ← he3, ← he4]
  simp [encs, Rp.items, It.enc]

set_option maxRecDepth 100000 in
theorem SameReply_ok {w : World} {r q : Rp} {cs ds : List Value} (hr : IsRp w r cs) (hq : IsRp w q ds) :
    Cal Try.prog 22 ⟨[.agg ⟨cs⟩, .agg ⟨ds⟩]⟩ w fun v w' => Ext w w' ∧ ∃ b, v = .bool b ∧ (b = true ↔ r = q) := by
  obtain ⟨s1, s2, s3, s4, rfl, h1, h2, h3, h4, _⟩ := hr
  obtain ⟨t1, t2, t3, t4, rfl, g1, g2, g3, g4, _⟩ := hq
  cases r with | mk err slot gen tr ta dr da tc dc rel text phase stop ans =>
  cases q with | mk err' slot' gen' tr' ta' dr' da' tc' dc' rel' text' phase' stop' ans' =>
  dsimp only at h1 h2 h3 h4 g1 g2 g3 g4
  refine go22 (by rfl) ?_
  (repeat ((conv => whnf); (first | with_reducible refine r_tt ?_ | with_reducible refine r_ff ?_ | with_reducible refine r_ntt ?_ | with_reducible refine r_nff ?_ | refine r_need (by omega) ?_ | refine r_i64 (by omega) ?_ | refine r_dect (by omega) ?_ | refine r_decf (by omega) ?_ | refine r_eqt (by omega) ?_ | refine r_eqf (by omega) ?_ | refine r_net (by omega) ?_ | refine r_nef (by omega) ?_ | refine r_u8 (by omega) ?_ | refine r_u64 (by omega) ?_ | refine r_i32 (by omega) ?_ | refine r_u32 (by omega) ?_ | refine r_rem (by omega) ?_ | refine r_quo (by omega) ?_ | refine r_ldb (by assumption) (by rfl) ?_ | refine r_ldbE (by assumption) (by rfl) ?_))); (conv => whnf)
  refine r_new fun b1 w1 hx1 hb1 hs1 hblk1 => ?_
  have hblk1 : Blk w1 b1 49 [.int .i64 err, .int .i64 slot, .int .i64 gen, .int .i64 tr, s1.v, .int .i64 dr, s2.v, .int .i64 tc, .int .i64 dc, .int .i64 rel, s3.v, .int .i64 phase, .int .i64 stop, s4.v] := hblk1
  (repeat ((conv => whnf); (first | with_reducible refine r_tt ?_ | with_reducible refine r_ff ?_ | with_reducible refine r_ntt ?_ | with_reducible refine r_nff ?_ | refine r_need (by omega) ?_ | refine r_i64 (by omega) ?_ | refine r_dect (by omega) ?_ | refine r_decf (by omega) ?_ | refine r_eqt (by omega) ?_ | refine r_eqf (by omega) ?_ | refine r_net (by omega) ?_ | refine r_nef (by omega) ?_ | refine r_u8 (by omega) ?_ | refine r_u64 (by omega) ?_ | refine r_i32 (by omega) ?_ | refine r_u32 (by omega) ?_ | refine r_rem (by omega) ?_ | refine r_quo (by omega) ?_ | refine r_ldb (by assumption) (by rfl) ?_ | refine r_ldbE (by assumption) (by rfl) ?_))); (conv => whnf)
  refine r_new fun b2 w2 hx2 hb2 hs2 hblk2 => ?_
  have hblk2 : Blk w2 b2 49 [.int .i64 err', .int .i64 slot', .int .i64 gen', .int .i64 tr', t1.v, .int .i64 dr', t2.v, .int .i64 tc', .int .i64 dc', .int .i64 rel', t3.v, .int .i64 phase', .int .i64 stop', t4.v] := hblk2
  have hblk1 := hblk1.ext hx2
  have hx := hx1.trans hx2
  have no : ∀ {w' : World}, Ext w w' → ¬ (err = err' ∧ (slot = slot' ∧ gen = gen') ∧ (tr = tr' ∧ ta = ta') ∧ (dr = dr' ∧ da = da') ∧ tc = tc' ∧ dc = dc' ∧ rel = rel' ∧ text = text' ∧ phase = phase' ∧ stop = stop' ∧ ans = ans') →
      Ext w w' ∧ ∃ b : Bool, Value.bool false = .bool b ∧ (b = true ↔ (⟨err, slot, gen, tr, ta, dr, da, tc, dc, rel, text, phase, stop, ans⟩ : Rp) = ⟨err', slot', gen', tr', ta', dr', da', tc', dc', rel', text', phase', stop', ans'⟩) := fun hw hn =>
    ⟨hw, false, rfl, by
      simp only [Bool.false_eq_true, false_iff, Rp.mk.injEq]
      rintro ⟨rfl, rfl, rfl, rfl, rfl, rfl, rfl, rfl, rfl, rfl, rfl, rfl, rfl, rfl⟩
      exact hn ⟨rfl, ⟨rfl, rfl⟩, ⟨rfl, rfl⟩, ⟨rfl, rfl⟩, rfl, rfl, rfl, rfl, rfl, rfl, rfl⟩⟩
  (repeat ((conv => whnf); (first | with_reducible refine r_tt ?_ | with_reducible refine r_ff ?_ | with_reducible refine r_ntt ?_ | with_reducible refine r_nff ?_ | refine r_need (by omega) ?_ | refine r_i64 (by omega) ?_ | refine r_dect (by omega) ?_ | refine r_decf (by omega) ?_ | refine r_eqt (by omega) ?_ | refine r_eqf (by omega) ?_ | refine r_net (by omega) ?_ | refine r_nef (by omega) ?_ | refine r_u8 (by omega) ?_ | refine r_u64 (by omega) ?_ | refine r_i32 (by omega) ?_ | refine r_u32 (by omega) ?_ | refine r_rem (by omega) ?_ | refine r_quo (by omega) ?_ | refine r_ldb (by assumption) (by rfl) ?_ | refine r_ldbE (by assumption) (by rfl) ?_))); (conv => whnf)
  refine r_cond (fun e1 => ?_) (fun e1 => ?_)
  rotate_left
  · (repeat ((conv => whnf); (first | with_reducible refine r_tt ?_ | with_reducible refine r_ff ?_ | with_reducible refine r_ntt ?_ | with_reducible refine r_nff ?_ | refine r_need (by omega) ?_ | refine r_i64 (by omega) ?_ | refine r_dect (by omega) ?_ | refine r_decf (by omega) ?_ | refine r_eqt (by omega) ?_ | refine r_eqf (by omega) ?_ | refine r_net (by omega) ?_ | refine r_nef (by omega) ?_ | refine r_u8 (by omega) ?_ | refine r_u64 (by omega) ?_ | refine r_i32 (by omega) ?_ | refine r_u32 (by omega) ?_ | refine r_rem (by omega) ?_ | refine r_quo (by omega) ?_ | refine r_ldb (by assumption) (by rfl) ?_ | refine r_ldbE (by assumption) (by rfl) ?_))); (conv => whnf)
    exact no hx (by rintro ⟨h, _⟩; simp [h] at e1)
  have e1 : err = err' := by simpa using e1
  (repeat ((conv => whnf); (first | with_reducible refine r_tt ?_ | with_reducible refine r_ff ?_ | with_reducible refine r_ntt ?_ | with_reducible refine r_nff ?_ | refine r_need (by omega) ?_ | refine r_i64 (by omega) ?_ | refine r_dect (by omega) ?_ | refine r_decf (by omega) ?_ | refine r_eqt (by omega) ?_ | refine r_eqf (by omega) ?_ | refine r_net (by omega) ?_ | refine r_nef (by omega) ?_ | refine r_u8 (by omega) ?_ | refine r_u64 (by omega) ?_ | refine r_i32 (by omega) ?_ | refine r_u32 (by omega) ?_ | refine r_rem (by omega) ?_ | refine r_quo (by omega) ?_ | refine r_ldb (by assumption) (by rfl) ?_ | refine r_ldbE (by assumption) (by rfl) ?_))); (conv => whnf)
  refine r_ldnb (vs := [.int .i64 slot, .int .i64 gen]) hblk1 rfl rfl ?_
  (repeat ((conv => whnf); (first | with_reducible refine r_tt ?_ | with_reducible refine r_ff ?_ | with_reducible refine r_ntt ?_ | with_reducible refine r_nff ?_ | refine r_need (by omega) ?_ | refine r_i64 (by omega) ?_ | refine r_dect (by omega) ?_ | refine r_decf (by omega) ?_ | refine r_eqt (by omega) ?_ | refine r_eqf (by omega) ?_ | refine r_net (by omega) ?_ | refine r_nef (by omega) ?_ | refine r_u8 (by omega) ?_ | refine r_u64 (by omega) ?_ | refine r_i32 (by omega) ?_ | refine r_u32 (by omega) ?_ | refine r_rem (by omega) ?_ | refine r_quo (by omega) ?_ | refine r_ldb (by assumption) (by rfl) ?_ | refine r_ldbE (by assumption) (by rfl) ?_))); (conv => whnf)
  refine r_ldnb (vs := [.int .i64 slot', .int .i64 gen']) hblk2 rfl rfl ?_
  (repeat ((conv => whnf); (first | with_reducible refine r_tt ?_ | with_reducible refine r_ff ?_ | with_reducible refine r_ntt ?_ | with_reducible refine r_nff ?_ | refine r_need (by omega) ?_ | refine r_i64 (by omega) ?_ | refine r_dect (by omega) ?_ | refine r_decf (by omega) ?_ | refine r_eqt (by omega) ?_ | refine r_eqf (by omega) ?_ | refine r_net (by omega) ?_ | refine r_nef (by omega) ?_ | refine r_u8 (by omega) ?_ | refine r_u64 (by omega) ?_ | refine r_i32 (by omega) ?_ | refine r_u32 (by omega) ?_ | refine r_rem (by omega) ?_ | refine r_quo (by omega) ?_ | refine r_ldb (by assumption) (by rfl) ?_ | refine r_ldbE (by assumption) (by rfl) ?_))); (conv => whnf)
  refine r_eqs (n := 2) (by kernel_rfl) rfl ⟨rfl, rfl, trivial⟩ fun b hb => ?_
  cases b with
  | false =>
    (repeat ((conv => whnf); (first | with_reducible refine r_tt ?_ | with_reducible refine r_ff ?_ | with_reducible refine r_ntt ?_ | with_reducible refine r_nff ?_ | refine r_need (by omega) ?_ | refine r_i64 (by omega) ?_ | refine r_dect (by omega) ?_ | refine r_decf (by omega) ?_ | refine r_eqt (by omega) ?_ | refine r_eqf (by omega) ?_ | refine r_net (by omega) ?_ | refine r_nef (by omega) ?_ | refine r_u8 (by omega) ?_ | refine r_u64 (by omega) ?_ | refine r_i32 (by omega) ?_ | refine r_u32 (by omega) ?_ | refine r_rem (by omega) ?_ | refine r_quo (by omega) ?_ | refine r_ldb (by assumption) (by rfl) ?_ | refine r_ldbE (by assumption) (by rfl) ?_))); (conv => whnf)
    exact no hx (by rintro ⟨_, ⟨rfl, rfl⟩, _⟩; simp at hb)
  | true =>
  have hb := hb.1 rfl
  simp at hb
  (repeat ((conv => whnf); (first | with_reducible refine r_tt ?_ | with_reducible refine r_ff ?_ | with_reducible refine r_ntt ?_ | with_reducible refine r_nff ?_ | refine r_need (by omega) ?_ | refine r_i64 (by omega) ?_ | refine r_dect (by omega) ?_ | refine r_decf (by omega) ?_ | refine r_eqt (by omega) ?_ | refine r_eqf (by omega) ?_ | refine r_net (by omega) ?_ | refine r_nef (by omega) ?_ | refine r_u8 (by omega) ?_ | refine r_u64 (by omega) ?_ | refine r_i32 (by omega) ?_ | refine r_u32 (by omega) ?_ | refine r_rem (by omega) ?_ | refine r_quo (by omega) ?_ | refine r_ldb (by assumption) (by rfl) ?_ | refine r_ldbE (by assumption) (by rfl) ?_))); (conv => whnf)
  refine r_ldnb (vs := [.int .i64 tr, s1.v]) hblk1 rfl rfl ?_
  (repeat ((conv => whnf); (first | with_reducible refine r_tt ?_ | with_reducible refine r_ff ?_ | with_reducible refine r_ntt ?_ | with_reducible refine r_nff ?_ | refine r_need (by omega) ?_ | refine r_i64 (by omega) ?_ | refine r_dect (by omega) ?_ | refine r_decf (by omega) ?_ | refine r_eqt (by omega) ?_ | refine r_eqf (by omega) ?_ | refine r_net (by omega) ?_ | refine r_nef (by omega) ?_ | refine r_u8 (by omega) ?_ | refine r_u64 (by omega) ?_ | refine r_i32 (by omega) ?_ | refine r_u32 (by omega) ?_ | refine r_rem (by omega) ?_ | refine r_quo (by omega) ?_ | refine r_ldb (by assumption) (by rfl) ?_ | refine r_ldbE (by assumption) (by rfl) ?_))); (conv => whnf)
  refine r_ldnb (vs := [.int .i64 tr', t1.v]) hblk2 rfl rfl ?_
  (repeat ((conv => whnf); (first | with_reducible refine r_tt ?_ | with_reducible refine r_ff ?_ | with_reducible refine r_ntt ?_ | with_reducible refine r_nff ?_ | refine r_need (by omega) ?_ | refine r_i64 (by omega) ?_ | refine r_dect (by omega) ?_ | refine r_decf (by omega) ?_ | refine r_eqt (by omega) ?_ | refine r_eqf (by omega) ?_ | refine r_net (by omega) ?_ | refine r_nef (by omega) ?_ | refine r_u8 (by omega) ?_ | refine r_u64 (by omega) ?_ | refine r_i32 (by omega) ?_ | refine r_u32 (by omega) ?_ | refine r_rem (by omega) ?_ | refine r_quo (by omega) ?_ | refine r_ldb (by assumption) (by rfl) ?_ | refine r_ldbE (by assumption) (by rfl) ?_))); (conv => whnf)
  refine r_cal (same17_ok (h1.ext hx) (g1.ext hx)) ?_
  rintro _ w3 ⟨hx3, r3, rfl, hr3⟩
  cases r3 with
  | false =>
    (repeat ((conv => whnf); (first | with_reducible refine r_tt ?_ | with_reducible refine r_ff ?_ | with_reducible refine r_ntt ?_ | with_reducible refine r_nff ?_ | refine r_need (by omega) ?_ | refine r_i64 (by omega) ?_ | refine r_dect (by omega) ?_ | refine r_decf (by omega) ?_ | refine r_eqt (by omega) ?_ | refine r_eqf (by omega) ?_ | refine r_net (by omega) ?_ | refine r_nef (by omega) ?_ | refine r_u8 (by omega) ?_ | refine r_u64 (by omega) ?_ | refine r_i32 (by omega) ?_ | refine r_u32 (by omega) ?_ | refine r_rem (by omega) ?_ | refine r_quo (by omega) ?_ | refine r_ldb (by assumption) (by rfl) ?_ | refine r_ldbE (by assumption) (by rfl) ?_))); (conv => whnf)
    exact no (hx.trans hx3) (by rintro ⟨_, _, ⟨rfl, rfl⟩, _⟩; simp at hr3)
  | true =>
  have hr3 := hr3.1 rfl
  (repeat ((conv => whnf); (first | with_reducible refine r_tt ?_ | with_reducible refine r_ff ?_ | with_reducible refine r_ntt ?_ | with_reducible refine r_nff ?_ | refine r_need (by omega) ?_ | refine r_i64 (by omega) ?_ | refine r_dect (by omega) ?_ | refine r_decf (by omega) ?_ | refine r_eqt (by omega) ?_ | refine r_eqf (by omega) ?_ | refine r_net (by omega) ?_ | refine r_nef (by omega) ?_ | refine r_u8 (by omega) ?_ | refine r_u64 (by omega) ?_ | refine r_i32 (by omega) ?_ | refine r_u32 (by omega) ?_ | refine r_rem (by omega) ?_ | refine r_quo (by omega) ?_ | refine r_ldb (by assumption) (by rfl) ?_ | refine r_ldbE (by assumption) (by rfl) ?_))); (conv => whnf)
  refine r_ldnb (vs := [.int .i64 dr, s2.v]) (hblk1.ext hx3) rfl rfl ?_
  (repeat ((conv => whnf); (first | with_reducible refine r_tt ?_ | with_reducible refine r_ff ?_ | with_reducible refine r_ntt ?_ | with_reducible refine r_nff ?_ | refine r_need (by omega) ?_ | refine r_i64 (by omega) ?_ | refine r_dect (by omega) ?_ | refine r_decf (by omega) ?_ | refine r_eqt (by omega) ?_ | refine r_eqf (by omega) ?_ | refine r_net (by omega) ?_ | refine r_nef (by omega) ?_ | refine r_u8 (by omega) ?_ | refine r_u64 (by omega) ?_ | refine r_i32 (by omega) ?_ | refine r_u32 (by omega) ?_ | refine r_rem (by omega) ?_ | refine r_quo (by omega) ?_ | refine r_ldb (by assumption) (by rfl) ?_ | refine r_ldbE (by assumption) (by rfl) ?_))); (conv => whnf)
  refine r_ldnb (vs := [.int .i64 dr', t2.v]) (hblk2.ext hx3) rfl rfl ?_
  have hx03 := hx.trans hx3
  (repeat ((conv => whnf); (first | with_reducible refine r_tt ?_ | with_reducible refine r_ff ?_ | with_reducible refine r_ntt ?_ | with_reducible refine r_nff ?_ | refine r_need (by omega) ?_ | refine r_i64 (by omega) ?_ | refine r_dect (by omega) ?_ | refine r_decf (by omega) ?_ | refine r_eqt (by omega) ?_ | refine r_eqf (by omega) ?_ | refine r_net (by omega) ?_ | refine r_nef (by omega) ?_ | refine r_u8 (by omega) ?_ | refine r_u64 (by omega) ?_ | refine r_i32 (by omega) ?_ | refine r_u32 (by omega) ?_ | refine r_rem (by omega) ?_ | refine r_quo (by omega) ?_ | refine r_ldb (by assumption) (by rfl) ?_ | refine r_ldbE (by assumption) (by rfl) ?_))); (conv => whnf)
  refine r_cal (same17_ok (h2.ext hx03) (g2.ext hx03)) ?_
  rintro _ w4 ⟨hx4, r4, rfl, hr4⟩
  have hx04 := hx03.trans hx4
  cases r4 with
  | false =>
    (repeat ((conv => whnf); (first | with_reducible refine r_tt ?_ | with_reducible refine r_ff ?_ | with_reducible refine r_ntt ?_ | with_reducible refine r_nff ?_ | refine r_need (by omega) ?_ | refine r_i64 (by omega) ?_ | refine r_dect (by omega) ?_ | refine r_decf (by omega) ?_ | refine r_eqt (by omega) ?_ | refine r_eqf (by omega) ?_ | refine r_net (by omega) ?_ | refine r_nef (by omega) ?_ | refine r_u8 (by omega) ?_ | refine r_u64 (by omega) ?_ | refine r_i32 (by omega) ?_ | refine r_u32 (by omega) ?_ | refine r_rem (by omega) ?_ | refine r_quo (by omega) ?_ | refine r_ldb (by assumption) (by rfl) ?_ | refine r_ldbE (by assumption) (by rfl) ?_))); (conv => whnf)
    exact no hx04 (by rintro ⟨_, _, _, ⟨rfl, rfl⟩, _⟩; simp at hr4)
  | true =>
  have hr4 := hr4.1 rfl
  have hq1 := hblk1.ext (hx3.trans hx4)
  have hq2 := hblk2.ext (hx3.trans hx4)
  (repeat ((conv => whnf); (first | with_reducible refine r_tt ?_ | with_reducible refine r_ff ?_ | with_reducible refine r_ntt ?_ | with_reducible refine r_nff ?_ | refine r_need (by omega) ?_ | refine r_i64 (by omega) ?_ | refine r_dect (by omega) ?_ | refine r_decf (by omega) ?_ | refine r_eqt (by omega) ?_ | refine r_eqf (by omega) ?_ | refine r_net (by omega) ?_ | refine r_nef (by omega) ?_ | refine r_u8 (by omega) ?_ | refine r_u64 (by omega) ?_ | refine r_i32 (by omega) ?_ | refine r_u32 (by omega) ?_ | refine r_rem (by omega) ?_ | refine r_quo (by omega) ?_ | refine r_ldb (by assumption) (by rfl) ?_ | refine r_ldbE (by assumption) (by rfl) ?_))); (conv => whnf)
  refine r_cond (fun e5 => ?_) (fun e5 => ?_)
  rotate_left
  · (repeat ((conv => whnf); (first | with_reducible refine r_tt ?_ | with_reducible refine r_ff ?_ | with_reducible refine r_ntt ?_ | with_reducible refine r_nff ?_ | refine r_need (by omega) ?_ | refine r_i64 (by omega) ?_ | refine r_dect (by omega) ?_ | refine r_decf (by omega) ?_ | refine r_eqt (by omega) ?_ | refine r_eqf (by omega) ?_ | refine r_net (by omega) ?_ | refine r_nef (by omega) ?_ | refine r_u8 (by omega) ?_ | refine r_u64 (by omega) ?_ | refine r_i32 (by omega) ?_ | refine r_u32 (by omega) ?_ | refine r_rem (by omega) ?_ | refine r_quo (by omega) ?_ | refine r_ldb (by assumption) (by rfl) ?_ | refine r_ldbE (by assumption) (by rfl) ?_))); (conv => whnf)
    exact no hx04 (by rintro ⟨_, _, _, _, h, _⟩; simp [h] at e5)
  have e5 : tc = tc' := by simpa using e5
  (repeat ((conv => whnf); (first | with_reducible refine r_tt ?_ | with_reducible refine r_ff ?_ | with_reducible refine r_ntt ?_ | with_reducible refine r_nff ?_ | refine r_need (by omega) ?_ | refine r_i64 (by omega) ?_ | refine r_dect (by omega) ?_ | refine r_decf (by omega) ?_ | refine r_eqt (by omega) ?_ | refine r_eqf (by omega) ?_ | refine r_net (by omega) ?_ | refine r_nef (by omega) ?_ | refine r_u8 (by omega) ?_ | refine r_u64 (by omega) ?_ | refine r_i32 (by omega) ?_ | refine r_u32 (by omega) ?_ | refine r_rem (by omega) ?_ | refine r_quo (by omega) ?_ | refine r_ldb (by assumption) (by rfl) ?_ | refine r_ldbE (by assumption) (by rfl) ?_))); (conv => whnf)
  refine r_cond (fun e6 => ?_) (fun e6 => ?_)
  rotate_left
  · (repeat ((conv => whnf); (first | with_reducible refine r_tt ?_ | with_reducible refine r_ff ?_ | with_reducible refine r_ntt ?_ | with_reducible refine r_nff ?_ | refine r_need (by omega) ?_ | refine r_i64 (by omega) ?_ | refine r_dect (by omega) ?_ | refine r_decf (by omega) ?_ | refine r_eqt (by omega) ?_ | refine r_eqf (by omega) ?_ | refine r_net (by omega) ?_ | refine r_nef (by omega) ?_ | refine r_u8 (by omega) ?_ | refine r_u64 (by omega) ?_ | refine r_i32 (by omega) ?_ | refine r_u32 (by omega) ?_ | refine r_rem (by omega) ?_ | refine r_quo (by omega) ?_ | refine r_ldb (by assumption) (by rfl) ?_ | refine r_ldbE (by assumption) (by rfl) ?_))); (conv => whnf)
    exact no hx04 (by rintro ⟨_, _, _, _, _, h, _⟩; simp [h] at e6)
  have e6 : dc = dc' := by simpa using e6
  (repeat ((conv => whnf); (first | with_reducible refine r_tt ?_ | with_reducible refine r_ff ?_ | with_reducible refine r_ntt ?_ | with_reducible refine r_nff ?_ | refine r_need (by omega) ?_ | refine r_i64 (by omega) ?_ | refine r_dect (by omega) ?_ | refine r_decf (by omega) ?_ | refine r_eqt (by omega) ?_ | refine r_eqf (by omega) ?_ | refine r_net (by omega) ?_ | refine r_nef (by omega) ?_ | refine r_u8 (by omega) ?_ | refine r_u64 (by omega) ?_ | refine r_i32 (by omega) ?_ | refine r_u32 (by omega) ?_ | refine r_rem (by omega) ?_ | refine r_quo (by omega) ?_ | refine r_ldb (by assumption) (by rfl) ?_ | refine r_ldbE (by assumption) (by rfl) ?_))); (conv => whnf)
  refine r_cond (fun e7 => ?_) (fun e7 => ?_)
  rotate_left
  · (repeat ((conv => whnf); (first | with_reducible refine r_tt ?_ | with_reducible refine r_ff ?_ | with_reducible refine r_ntt ?_ | with_reducible refine r_nff ?_ | refine r_need (by omega) ?_ | refine r_i64 (by omega) ?_ | refine r_dect (by omega) ?_ | refine r_decf (by omega) ?_ | refine r_eqt (by omega) ?_ | refine r_eqf (by omega) ?_ | refine r_net (by omega) ?_ | refine r_nef (by omega) ?_ | refine r_u8 (by omega) ?_ | refine r_u64 (by omega) ?_ | refine r_i32 (by omega) ?_ | refine r_u32 (by omega) ?_ | refine r_rem (by omega) ?_ | refine r_quo (by omega) ?_ | refine r_ldb (by assumption) (by rfl) ?_ | refine r_ldbE (by assumption) (by rfl) ?_))); (conv => whnf)
    exact no hx04 (by rintro ⟨_, _, _, _, _, _, h, _⟩; simp [h] at e7)
  have e7 : rel = rel' := by simpa using e7
  (repeat ((conv => whnf); (first | with_reducible refine r_tt ?_ | with_reducible refine r_ff ?_ | with_reducible refine r_ntt ?_ | with_reducible refine r_nff ?_ | refine r_need (by omega) ?_ | refine r_i64 (by omega) ?_ | refine r_dect (by omega) ?_ | refine r_decf (by omega) ?_ | refine r_eqt (by omega) ?_ | refine r_eqf (by omega) ?_ | refine r_net (by omega) ?_ | refine r_nef (by omega) ?_ | refine r_u8 (by omega) ?_ | refine r_u64 (by omega) ?_ | refine r_i32 (by omega) ?_ | refine r_u32 (by omega) ?_ | refine r_rem (by omega) ?_ | refine r_quo (by omega) ?_ | refine r_ldb (by assumption) (by rfl) ?_ | refine r_ldbE (by assumption) (by rfl) ?_))); (conv => whnf)
  refine r_cal (same25_ok (h3.ext hx04) (g3.ext hx04)) ?_
  rintro _ w5 ⟨hx5, r5, rfl, hr5⟩
  have hx05 := hx04.trans hx5
  cases r5 with
  | false =>
    (repeat ((conv => whnf); (first | with_reducible refine r_tt ?_ | with_reducible refine r_ff ?_ | with_reducible refine r_ntt ?_ | with_reducible refine r_nff ?_ | refine r_need (by omega) ?_ | refine r_i64 (by omega) ?_ | refine r_dect (by omega) ?_ | refine r_decf (by omega) ?_ | refine r_eqt (by omega) ?_ | refine r_eqf (by omega) ?_ | refine r_net (by omega) ?_ | refine r_nef (by omega) ?_ | refine r_u8 (by omega) ?_ | refine r_u64 (by omega) ?_ | refine r_i32 (by omega) ?_ | refine r_u32 (by omega) ?_ | refine r_rem (by omega) ?_ | refine r_quo (by omega) ?_ | refine r_ldb (by assumption) (by rfl) ?_ | refine r_ldbE (by assumption) (by rfl) ?_))); (conv => whnf)
    exact no hx05 (by rintro ⟨_, _, _, _, _, _, _, rfl, _⟩; simp at hr5)
  | true =>
  have hr5 := hr5.1 rfl
  have hp1 := hq1.ext hx5
  have hp2 := hq2.ext hx5
  (repeat ((conv => whnf); (first | with_reducible refine r_tt ?_ | with_reducible refine r_ff ?_ | with_reducible refine r_ntt ?_ | with_reducible refine r_nff ?_ | refine r_need (by omega) ?_ | refine r_i64 (by omega) ?_ | refine r_dect (by omega) ?_ | refine r_decf (by omega) ?_ | refine r_eqt (by omega) ?_ | refine r_eqf (by omega) ?_ | refine r_net (by omega) ?_ | refine r_nef (by omega) ?_ | refine r_u8 (by omega) ?_ | refine r_u64 (by omega) ?_ | refine r_i32 (by omega) ?_ | refine r_u32 (by omega) ?_ | refine r_rem (by omega) ?_ | refine r_quo (by omega) ?_ | refine r_ldb (by assumption) (by rfl) ?_ | refine r_ldbE (by assumption) (by rfl) ?_))); (conv => whnf)
  refine r_cond (fun e8 => ?_) (fun e8 => ?_)
  rotate_left
  · (repeat ((conv => whnf); (first | with_reducible refine r_tt ?_ | with_reducible refine r_ff ?_ | with_reducible refine r_ntt ?_ | with_reducible refine r_nff ?_ | refine r_need (by omega) ?_ | refine r_i64 (by omega) ?_ | refine r_dect (by omega) ?_ | refine r_decf (by omega) ?_ | refine r_eqt (by omega) ?_ | refine r_eqf (by omega) ?_ | refine r_net (by omega) ?_ | refine r_nef (by omega) ?_ | refine r_u8 (by omega) ?_ | refine r_u64 (by omega) ?_ | refine r_i32 (by omega) ?_ | refine r_u32 (by omega) ?_ | refine r_rem (by omega) ?_ | refine r_quo (by omega) ?_ | refine r_ldb (by assumption) (by rfl) ?_ | refine r_ldbE (by assumption) (by rfl) ?_))); (conv => whnf)
    exact no hx05 (by rintro ⟨_, _, _, _, _, _, _, _, h, _⟩; simp [h] at e8)
  have e8 : phase = phase' := by simpa using e8
  (repeat ((conv => whnf); (first | with_reducible refine r_tt ?_ | with_reducible refine r_ff ?_ | with_reducible refine r_ntt ?_ | with_reducible refine r_nff ?_ | refine r_need (by omega) ?_ | refine r_i64 (by omega) ?_ | refine r_dect (by omega) ?_ | refine r_decf (by omega) ?_ | refine r_eqt (by omega) ?_ | refine r_eqf (by omega) ?_ | refine r_net (by omega) ?_ | refine r_nef (by omega) ?_ | refine r_u8 (by omega) ?_ | refine r_u64 (by omega) ?_ | refine r_i32 (by omega) ?_ | refine r_u32 (by omega) ?_ | refine r_rem (by omega) ?_ | refine r_quo (by omega) ?_ | refine r_ldb (by assumption) (by rfl) ?_ | refine r_ldbE (by assumption) (by rfl) ?_))); (conv => whnf)
  refine r_cond (fun e9 => ?_) (fun e9 => ?_)
  rotate_left
  · (repeat ((conv => whnf); (first | with_reducible refine r_tt ?_ | with_reducible refine r_ff ?_ | with_reducible refine r_ntt ?_ | with_reducible refine r_nff ?_ | refine r_need (by omega) ?_ | refine r_i64 (by omega) ?_ | refine r_dect (by omega) ?_ | refine r_decf (by omega) ?_ | refine r_eqt (by omega) ?_ | refine r_eqf (by omega) ?_ | refine r_net (by omega) ?_ | refine r_nef (by omega) ?_ | refine r_u8 (by omega) ?_ | refine r_u64 (by omega) ?_ | refine r_i32 (by omega) ?_ | refine r_u32 (by omega) ?_ | refine r_rem (by omega) ?_ | refine r_quo (by omega) ?_ | refine r_ldb (by assumption) (by rfl) ?_ | refine r_ldbE (by assumption) (by rfl) ?_))); (conv => whnf)
    exact no hx05 (by rintro ⟨_, _, _, _, _, _, _, _, _, h, _⟩; simp [h] at e9)
  have e9 : stop = stop' := by simpa using e9
  (repeat ((conv => whnf); (first | with_reducible refine r_tt ?_ | with_reducible refine r_ff ?_ | with_reducible refine r_ntt ?_ | with_reducible refine r_nff ?_ | refine r_need (by omega) ?_ | refine r_i64 (by omega) ?_ | refine r_dect (by omega) ?_ | refine r_decf (by omega) ?_ | refine r_eqt (by omega) ?_ | refine r_eqf (by omega) ?_ | refine r_net (by omega) ?_ | refine r_nef (by omega) ?_ | refine r_u8 (by omega) ?_ | refine r_u64 (by omega) ?_ | refine r_i32 (by omega) ?_ | refine r_u32 (by omega) ?_ | refine r_rem (by omega) ?_ | refine r_quo (by omega) ?_ | refine r_ldb (by assumption) (by rfl) ?_ | refine r_ldbE (by assumption) (by rfl) ?_))); (conv => whnf)
  refine r_cal (same25_ok (h4.ext hx05) (g4.ext hx05)) ?_
  rintro _ w6 ⟨hx6, r6, rfl, hr6⟩
  (repeat ((conv => whnf); (first | with_reducible refine r_tt ?_ | with_reducible refine r_ff ?_ | with_reducible refine r_ntt ?_ | with_reducible refine r_nff ?_ | refine r_need (by omega) ?_ | refine r_i64 (by omega) ?_ | refine r_dect (by omega) ?_ | refine r_decf (by omega) ?_ | refine r_eqt (by omega) ?_ | refine r_eqf (by omega) ?_ | refine r_net (by omega) ?_ | refine r_nef (by omega) ?_ | refine r_u8 (by omega) ?_ | refine r_u64 (by omega) ?_ | refine r_i32 (by omega) ?_ | refine r_u32 (by omega) ?_ | refine r_rem (by omega) ?_ | refine r_quo (by omega) ?_ | refine r_ldb (by assumption) (by rfl) ?_ | refine r_ldbE (by assumption) (by rfl) ?_))); (conv => whnf)
  refine ⟨hx05.trans hx6, r6, rfl, ?_⟩
  rw [hr6]
  simp only [Rp.mk.injEq]
  exact ⟨fun h => ⟨e1, hb.1, hb.2, hr3.1, hr3.2, hr4.1, hr4.2, e5, e6, e7, hr5, e8, e9, h⟩, fun h => h.2.2.2.2.2.2.2.2.2.2.2.2.2⟩
end Fb.Try
