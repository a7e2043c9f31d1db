/-
  Walks: what a window finds, tells whole, and its copy.
-/
import Derived.Test.YtoiiohogalmobaaWb
namespace Fb.Try.WN
open Go Go.Proofs Fb Fb.Try.RW
def fk : List Int → Int → Nat
  | [], _ => 0
  | x :: l, y => if y < x then 0 else fk l (y - x) + 1
theorem fk_eq : ∀ (l : List Int), (∀ x ∈ l, 1 ≤ x ∧ x ≤ 64) → ∀ (k : Nat) (y : Int), k < l.length → sm l k ≤ y → y < sm l (k + 1) → fk l y = k
  | x :: l, hl, 0, y, _, _, h2 => by
    have : sm (x :: l) 1 = x := by simp [sm]
    rw [Nat.zero_add, this] at h2
    unfold fk
    rw [if_pos h2]
  | x :: l, hl, k + 1, y, hk, h1, h2 => by
    have e : ∀ j, sm (x :: l) (j + 1) = x + sm l j := fun j => by simp [sm]
    rw [e] at h1 h2
    have hl' : ∀ z ∈ l, 1 ≤ z ∧ z ≤ 64 := fun z hz => hl z (by simp [hz])
    have hk' : k < l.length := by simpa using hk
    have := (sm_bound hl' k (by omega)).1
    unfold fk
    rw [if_neg (by omega), fk_eq l hl' k (y - x) hk' (by omega) (by omega)]
def St.find (s : St) (y : Int) : Int × Int := if y < 0 ∨ y ≥ sm s.Ls s.T.length then (0, 13) else if y < sm s.Ls s.base then (0, 12) else (fk s.Ls y, 0)
section
variable {w w' : World} {wb eb b : Nat} {g : Option Nat} {s : St} {n : Nat}
theorem Find1_ok (h : Win w wb eb b g s n) {bw bs : Nat} {y : Int} (hw : Blk w bw 57 [.pointer (some ⟨wb, 0, none⟩)]) (hy : Blk w bs 3 [.int .i64 y]) (i : Nat) (hi : i < s.places.length) :
    Cal Try.prog 76 ⟨[.int .i64 (i : Int), .pointer (some ⟨bw, 0, none⟩), .pointer (some ⟨bs, 0, none⟩)]⟩ w fun v w' => Ext w w' ∧ v = .bool (decide (y < sm s.Ls (s.base + i + 1))) := by
  have hf := h.facts
  have hblk := h.blk
  have hev := h.ev
  refine go76 (by rfl) ?_
  (repeat ((conv => whnf); (first | with_reducible refine r_tt ?_ | with_reducible refine r_ff ?_ | with_reducible refine r_ntt ?_ | with_reducible refine r_nff ?_ | refine r_need (by omega) ?_ | refine r_i64 (by omega) ?_ | refine r_dect (by omega) ?_ | refine r_decf (by omega) ?_ | refine r_eqt (by omega) ?_ | refine r_eqf (by omega) ?_ | refine r_net (by omega) ?_ | refine r_nef (by omega) ?_ | refine r_u8 (by omega) ?_ | refine r_u64 (by omega) ?_ | refine r_i32 (by omega) ?_ | refine r_u32 (by omega) ?_ | refine r_rem (by omega) ?_ | refine r_quo (by omega) ?_ | refine r_ldb (by assumption) (by rfl) ?_ | refine r_ldbE (by assumption) (by rfl) ?_))); (conv => whnf)
  refine r_drawE fun w1 hx1 hh1 => ?_
  (repeat ((conv => whnf); (first | with_reducible refine r_tt ?_ | with_reducible refine r_ff ?_ | with_reducible refine r_ntt ?_ | with_reducible refine r_nff ?_ | refine r_need (by omega) ?_ | refine r_i64 (by omega) ?_ | refine r_dect (by omega) ?_ | refine r_decf (by omega) ?_ | refine r_eqt (by omega) ?_ | refine r_eqf (by omega) ?_ | refine r_net (by omega) ?_ | refine r_nef (by omega) ?_ | refine r_u8 (by omega) ?_ | refine r_u64 (by omega) ?_ | refine r_i32 (by omega) ?_ | refine r_u32 (by omega) ?_ | refine r_rem (by omega) ?_ | refine r_quo (by omega) ?_ | refine r_ldb (by assumption) (by rfl) ?_ | refine r_ldbE (by assumption) (by rfl) ?_))); (conv => whnf)
  rw [show (s.base : Int) + i = ((s.base + i + 1 : Nat) : Int) - 1 by omega]
  refine r_cal (end_ok (h.ext hx1) (s.base + i + 1) (by omega)) ?_
  rintro _ w2 ⟨hx2, rfl⟩
  (repeat ((conv => whnf); (first | with_reducible refine r_tt ?_ | with_reducible refine r_ff ?_ | with_reducible refine r_ntt ?_ | with_reducible refine r_nff ?_ | refine r_need (by omega) ?_ | refine r_i64 (by omega) ?_ | refine r_dect (by omega) ?_ | refine r_decf (by omega) ?_ | refine r_eqt (by omega) ?_ | refine r_eqf (by omega) ?_ | refine r_net (by omega) ?_ | refine r_nef (by omega) ?_ | refine r_u8 (by omega) ?_ | refine r_u64 (by omega) ?_ | refine r_i32 (by omega) ?_ | refine r_u32 (by omega) ?_ | refine r_rem (by omega) ?_ | refine r_quo (by omega) ?_ | refine r_ldb (by assumption) (by rfl) ?_ | refine r_ldbE (by assumption) (by rfl) ?_))); (conv => whnf)
  refine r_held (hx1.trans hx2) ?_
  (repeat ((conv => whnf); (first | with_reducible refine r_tt ?_ | with_reducible refine r_ff ?_ | with_reducible refine r_ntt ?_ | with_reducible refine r_nff ?_ | refine r_need (by omega) ?_ | refine r_i64 (by omega) ?_ | refine r_dect (by omega) ?_ | refine r_decf (by omega) ?_ | refine r_eqt (by omega) ?_ | refine r_eqf (by omega) ?_ | refine r_net (by omega) ?_ | refine r_nef (by omega) ?_ | refine r_u8 (by omega) ?_ | refine r_u64 (by omega) ?_ | refine r_i32 (by omega) ?_ | refine r_u32 (by omega) ?_ | refine r_rem (by omega) ?_ | refine r_quo (by omega) ?_ | refine r_ldb (by assumption) (by rfl) ?_ | refine r_ldbE (by assumption) (by rfl) ?_))); (conv => whnf)
  exact ⟨hx1.trans hx2, rfl⟩
set_option maxRecDepth 100000 in
theorem Find_ok (h : Win w wb eb b g s n) (y : Int) (hy : -9223372036854775808 ≤ y ∧ y ≤ 9223372036854775807) : Cal Try.prog 40 ⟨[.pointer (some ⟨wb, 0, none⟩), .int .i64 y]⟩ w fun v w' => Ext w w' ∧ v = .tuple ⟨[.int .i64 (s.find y).1, .int .i64 (s.find y).2]⟩ := by
  have hf := h.facts
  have hsum := h.ok.sum s.T.length (Nat.le_refl _)
  have heq := h.ok.eq
  refine go40 (by rfl) ?_
  (repeat ((conv => whnf); (first | with_reducible refine r_tt ?_ | with_reducible refine r_ff ?_ | with_reducible refine r_ntt ?_ | with_reducible refine r_nff ?_ | refine r_need (by omega) ?_ | refine r_i64 (by omega) ?_ | refine r_dect (by omega) ?_ | refine r_decf (by omega) ?_ | refine r_eqt (by omega) ?_ | refine r_eqf (by omega) ?_ | refine r_net (by omega) ?_ | refine r_nef (by omega) ?_ | refine r_u8 (by omega) ?_ | refine r_u64 (by omega) ?_ | refine r_i32 (by omega) ?_ | refine r_u32 (by omega) ?_ | refine r_rem (by omega) ?_ | refine r_quo (by omega) ?_ | refine r_ldb (by assumption) (by rfl) ?_ | refine r_ldbE (by assumption) (by rfl) ?_))); (conv => whnf)
  refine r_new fun bw w1 hx1 hb1 hs1 hbw => ?_
  have hbw : Blk w1 bw 57 [.pointer (some ⟨wb, 0, none⟩)] := hbw
  (repeat ((conv => whnf); (first | with_reducible refine r_tt ?_ | with_reducible refine r_ff ?_ | with_reducible refine r_ntt ?_ | with_reducible refine r_nff ?_ | refine r_need (by omega) ?_ | refine r_i64 (by omega) ?_ | refine r_dect (by omega) ?_ | refine r_decf (by omega) ?_ | refine r_eqt (by omega) ?_ | refine r_eqf (by omega) ?_ | refine r_net (by omega) ?_ | refine r_nef (by omega) ?_ | refine r_u8 (by omega) ?_ | refine r_u64 (by omega) ?_ | refine r_i32 (by omega) ?_ | refine r_u32 (by omega) ?_ | refine r_rem (by omega) ?_ | refine r_quo (by omega) ?_ | refine r_ldb (by assumption) (by rfl) ?_ | refine r_ldbE (by assumption) (by rfl) ?_))); (conv => whnf)
  refine r_new fun bs w2 hx2 hb2 hs2 hbs => ?_
  have hbs : Blk w2 bs 3 [.int .i64 y] := hbs
  have hbw := hbw.ext hx2
  have hx02 := hx1.trans hx2
  have hblk := h.blk.ext hx02
  have hev := h.ev.ext hx02
  by_cases h0 : y < 0
  · have e : s.find y = (0, 13) := by unfold St.find; rw [if_pos (.inl h0)]
    rw [e]
    (repeat ((conv => whnf); (first | with_reducible refine r_tt ?_ | with_reducible refine r_ff ?_ | with_reducible refine r_ntt ?_ | with_reducible refine r_nff ?_ | refine r_need (by omega) ?_ | refine r_i64 (by omega) ?_ | refine r_dect (by omega) ?_ | refine r_decf (by omega) ?_ | refine r_eqt (by omega) ?_ | refine r_eqf (by omega) ?_ | refine r_net (by omega) ?_ | refine r_nef (by omega) ?_ | refine r_u8 (by omega) ?_ | refine r_u64 (by omega) ?_ | refine r_i32 (by omega) ?_ | refine r_u32 (by omega) ?_ | refine r_rem (by omega) ?_ | refine r_quo (by omega) ?_ | refine r_ldb (by assumption) (by rfl) ?_ | refine r_ldbE (by assumption) (by rfl) ?_))); (conv => whnf)
    refine r_drawE fun w3 hx3 hh3 => ?_
    (repeat ((conv => whnf); (first | with_reducible refine r_tt ?_ | with_reducible refine r_ff ?_ | with_reducible refine r_ntt ?_ | with_reducible refine r_nff ?_ | refine r_need (by omega) ?_ | refine r_i64 (by omega) ?_ | refine r_dect (by omega) ?_ | refine r_decf (by omega) ?_ | refine r_eqt (by omega) ?_ | refine r_eqf (by omega) ?_ | refine r_net (by omega) ?_ | refine r_nef (by omega) ?_ | refine r_u8 (by omega) ?_ | refine r_u64 (by omega) ?_ | refine r_i32 (by omega) ?_ | refine r_u32 (by omega) ?_ | refine r_rem (by omega) ?_ | refine r_quo (by omega) ?_ | refine r_ldb (by assumption) (by rfl) ?_ | refine r_ldbE (by assumption) (by rfl) ?_))); (conv => whnf)
    exact ⟨hx02.trans hx3, rfl⟩
  (repeat ((conv => whnf); (first | with_reducible refine r_tt ?_ | with_reducible refine r_ff ?_ | with_reducible refine r_ntt ?_ | with_reducible refine r_nff ?_ | refine r_need (by omega) ?_ | refine r_i64 (by omega) ?_ | refine r_dect (by omega) ?_ | refine r_decf (by omega) ?_ | refine r_eqt (by omega) ?_ | refine r_eqf (by omega) ?_ | refine r_net (by omega) ?_ | refine r_nef (by omega) ?_ | refine r_u8 (by omega) ?_ | refine r_u64 (by omega) ?_ | refine r_i32 (by omega) ?_ | refine r_u32 (by omega) ?_ | refine r_rem (by omega) ?_ | refine r_quo (by omega) ?_ | refine r_ldb (by assumption) (by rfl) ?_ | refine r_ldbE (by assumption) (by rfl) ?_))); (conv => whnf)
  refine r_drawE fun w3 hx3 hh3 => ?_
  (repeat ((conv => whnf); (first | with_reducible refine r_tt ?_ | with_reducible refine r_ff ?_ | with_reducible refine r_ntt ?_ | with_reducible refine r_nff ?_ | refine r_need (by omega) ?_ | refine r_i64 (by omega) ?_ | refine r_dect (by omega) ?_ | refine r_decf (by omega) ?_ | refine r_eqt (by omega) ?_ | refine r_eqf (by omega) ?_ | refine r_net (by omega) ?_ | refine r_nef (by omega) ?_ | refine r_u8 (by omega) ?_ | refine r_u64 (by omega) ?_ | refine r_i32 (by omega) ?_ | refine r_u32 (by omega) ?_ | refine r_rem (by omega) ?_ | refine r_quo (by omega) ?_ | refine r_ldb (by assumption) (by rfl) ?_ | refine r_ldbE (by assumption) (by rfl) ?_))); (conv => whnf)
  refine r_cal (Total_ok ((h.ext hx02).ext hx3)) ?_
  rintro _ w4 ⟨hx4, rfl⟩
  have hx24 := hx3.trans hx4
  have hx04 := hx02.trans hx24
  (repeat ((conv => whnf); (first | with_reducible refine r_tt ?_ | with_reducible refine r_ff ?_ | with_reducible refine r_ntt ?_ | with_reducible refine r_nff ?_ | refine r_need (by omega) ?_ | refine r_i64 (by omega) ?_ | refine r_dect (by omega) ?_ | refine r_decf (by omega) ?_ | refine r_eqt (by omega) ?_ | refine r_eqf (by omega) ?_ | refine r_net (by omega) ?_ | refine r_nef (by omega) ?_ | refine r_u8 (by omega) ?_ | refine r_u64 (by omega) ?_ | refine r_i32 (by omega) ?_ | refine r_u32 (by omega) ?_ | refine r_rem (by omega) ?_ | refine r_quo (by omega) ?_ | refine r_ldb (by assumption) (by rfl) ?_ | refine r_ldbE (by assumption) (by rfl) ?_))); (conv => whnf)
  refine r_held hx24 ?_
  by_cases h1 : y ≥ sm s.Ls s.T.length
  · have e : s.find y = (0, 13) := by unfold St.find; rw [if_pos (.inr h1)]
    rw [e]
    (repeat ((conv => whnf); (first | with_reducible refine r_tt ?_ | with_reducible refine r_ff ?_ | with_reducible refine r_ntt ?_ | with_reducible refine r_nff ?_ | refine r_need (by omega) ?_ | refine r_i64 (by omega) ?_ | refine r_dect (by omega) ?_ | refine r_decf (by omega) ?_ | refine r_eqt (by omega) ?_ | refine r_eqf (by omega) ?_ | refine r_net (by omega) ?_ | refine r_nef (by omega) ?_ | refine r_u8 (by omega) ?_ | refine r_u64 (by omega) ?_ | refine r_i32 (by omega) ?_ | refine r_u32 (by omega) ?_ | refine r_rem (by omega) ?_ | refine r_quo (by omega) ?_ | refine r_ldb (by assumption) (by rfl) ?_ | refine r_ldbE (by assumption) (by rfl) ?_))); (conv => whnf)
    exact ⟨hx04, rfl⟩
  have hbw := hbw.ext hx24
  have hbs := hbs.ext hx24
  have hblk := hblk.ext hx24
  have hev := hev.ext hx24
  by_cases h2 : y < sm s.Ls s.base
  · have e : s.find y = (0, 12) := by unfold St.find; rw [if_neg (by omega), if_pos h2]
    rw [e]
    (repeat ((conv => whnf); (first | with_reducible refine r_tt ?_ | with_reducible refine r_ff ?_ | with_reducible refine r_ntt ?_ | with_reducible refine r_nff ?_ | refine r_need (by omega) ?_ | refine r_i64 (by omega) ?_ | refine r_dect (by omega) ?_ | refine r_decf (by omega) ?_ | refine r_eqt (by omega) ?_ | refine r_eqf (by omega) ?_ | refine r_net (by omega) ?_ | refine r_nef (by omega) ?_ | refine r_u8 (by omega) ?_ | refine r_u64 (by omega) ?_ | refine r_i32 (by omega) ?_ | refine r_u32 (by omega) ?_ | refine r_rem (by omega) ?_ | refine r_quo (by omega) ?_ | refine r_ldb (by assumption) (by rfl) ?_ | refine r_ldbE (by assumption) (by rfl) ?_))); (conv => whnf)
    refine r_drawE fun w5 hx5 hh5 => ?_
    (repeat ((conv => whnf); (first | with_reducible refine r_tt ?_ | with_reducible refine r_ff ?_ | with_reducible refine r_ntt ?_ | with_reducible refine r_nff ?_ | refine r_need (by omega) ?_ | refine r_i64 (by omega) ?_ | refine r_dect (by omega) ?_ | refine r_decf (by omega) ?_ | refine r_eqt (by omega) ?_ | refine r_eqf (by omega) ?_ | refine r_net (by omega) ?_ | refine r_nef (by omega) ?_ | refine r_u8 (by omega) ?_ | refine r_u64 (by omega) ?_ | refine r_i32 (by omega) ?_ | refine r_u32 (by omega) ?_ | refine r_rem (by omega) ?_ | refine r_quo (by omega) ?_ | refine r_ldb (by assumption) (by rfl) ?_ | refine r_ldbE (by assumption) (by rfl) ?_))); (conv => whnf)
    exact ⟨hx04.trans hx5, rfl⟩
  (repeat ((conv => whnf); (first | with_reducible refine r_tt ?_ | with_reducible refine r_ff ?_ | with_reducible refine r_ntt ?_ | with_reducible refine r_nff ?_ | refine r_need (by omega) ?_ | refine r_i64 (by omega) ?_ | refine r_dect (by omega) ?_ | refine r_decf (by omega) ?_ | refine r_eqt (by omega) ?_ | refine r_eqf (by omega) ?_ | refine r_net (by omega) ?_ | refine r_nef (by omega) ?_ | refine r_u8 (by omega) ?_ | refine r_u64 (by omega) ?_ | refine r_i32 (by omega) ?_ | refine r_u32 (by omega) ?_ | refine r_rem (by omega) ?_ | refine r_quo (by omega) ?_ | refine r_ldb (by assumption) (by rfl) ?_ | refine r_ldbE (by assumption) (by rfl) ?_))); (conv => whnf)
  refine r_drawE fun w5 hx5 hh5 => ?_
  have hbw := hbw.ext hx5
  have hbs := hbs.ext hx5
  have hblk := hblk.ext hx5
  have hev := hev.ext hx5
  (repeat ((conv => whnf); (first | with_reducible refine r_tt ?_ | with_reducible refine r_ff ?_ | with_reducible refine r_ntt ?_ | with_reducible refine r_nff ?_ | refine r_need (by omega) ?_ | refine r_i64 (by omega) ?_ | refine r_dect (by omega) ?_ | refine r_decf (by omega) ?_ | refine r_eqt (by omega) ?_ | refine r_eqf (by omega) ?_ | refine r_net (by omega) ?_ | refine r_nef (by omega) ?_ | refine r_u8 (by omega) ?_ | refine r_u64 (by omega) ?_ | refine r_i32 (by omega) ?_ | refine r_u32 (by omega) ?_ | refine r_rem (by omega) ?_ | refine r_quo (by omega) ?_ | refine r_ldb (by assumption) (by rfl) ?_ | refine r_ldbE (by assumption) (by rfl) ?_))); (conv => whnf)
  refine r_drawE fun w6 hx6 hh6 => ?_
  (repeat ((conv => whnf); (first | with_reducible refine r_tt ?_ | with_reducible refine r_ff ?_ | with_reducible refine r_ntt ?_ | with_reducible refine r_nff ?_ | refine r_need (by omega) ?_ | refine r_i64 (by omega) ?_ | refine r_dect (by omega) ?_ | refine r_decf (by omega) ?_ | refine r_eqt (by omega) ?_ | refine r_eqf (by omega) ?_ | refine r_net (by omega) ?_ | refine r_nef (by omega) ?_ | refine r_u8 (by omega) ?_ | refine r_u64 (by omega) ?_ | refine r_i32 (by omega) ?_ | refine r_u32 (by omega) ?_ | refine r_rem (by omega) ?_ | refine r_quo (by omega) ?_ | refine r_ldb (by assumption) (by rfl) ?_ | refine r_ldbE (by assumption) (by rfl) ?_))); (conv => whnf)
  have hw6 := (h.ext hx04).ext (hx5.trans hx6)
  refine r_cal (RW.Len_ok hw6.ring) ?_
  rintro _ w7 ⟨rfl, rfl⟩
  (repeat ((conv => whnf); (first | with_reducible refine r_tt ?_ | with_reducible refine r_ff ?_ | with_reducible refine r_ntt ?_ | with_reducible refine r_nff ?_ | refine r_need (by omega) ?_ | refine r_i64 (by omega) ?_ | refine r_dect (by omega) ?_ | refine r_decf (by omega) ?_ | refine r_eqt (by omega) ?_ | refine r_eqf (by omega) ?_ | refine r_net (by omega) ?_ | refine r_nef (by omega) ?_ | refine r_u8 (by omega) ?_ | refine r_u64 (by omega) ?_ | refine r_i32 (by omega) ?_ | refine r_u32 (by omega) ?_ | refine r_rem (by omega) ?_ | refine r_quo (by omega) ?_ | refine r_ldb (by assumption) (by rfl) ?_ | refine r_ldbE (by assumption) (by rfl) ?_))); (conv => whnf)
  refine r_held hx6 ?_
  (repeat ((conv => whnf); (first | with_reducible refine r_tt ?_ | with_reducible refine r_ff ?_ | with_reducible refine r_ntt ?_ | with_reducible refine r_nff ?_ | refine r_need (by omega) ?_ | refine r_i64 (by omega) ?_ | refine r_dect (by omega) ?_ | refine r_decf (by omega) ?_ | refine r_eqt (by omega) ?_ | refine r_eqf (by omega) ?_ | refine r_net (by omega) ?_ | refine r_nef (by omega) ?_ | refine r_u8 (by omega) ?_ | refine r_u64 (by omega) ?_ | refine r_i32 (by omega) ?_ | refine r_u32 (by omega) ?_ | refine r_rem (by omega) ?_ | refine r_quo (by omega) ?_ | refine r_ldb (by assumption) (by rfl) ?_ | refine r_ldbE (by assumption) (by rfl) ?_))); (conv => whnf)
  have mono : ∀ i j, i ≤ j → j < s.places.length → decide (y < sm s.Ls (s.base + i + 1)) = true → decide (y < sm s.Ls (s.base + j + 1)) = true := fun i j hij hj hd => by
    have hd := of_decide_eq_true hd
    have := sm_mono h.ok.lens (s.base + i + 1) (j - i) (by omega)
    rw [show s.base + i + 1 + (j - i) = s.base + j + 1 by omega] at this
    exact decide_eq_true (by omega)
  refine r_cal (search_ok (w := w7) s.places.length 76 [.pointer (some ⟨bw, 0, none⟩), .pointer (some ⟨bs, 0, none⟩)] (fun i => decide (y < sm s.Ls (s.base + i + 1))) (by omega) mono (by kernel_rfl) fun i hi w8 hx8 => Find1_ok (hw6.ext hx8) ((hbw.ext hx6).ext hx8) ((hbs.ext hx6).ext hx8) i hi) ?_
  rintro _ w8 ⟨hx8, k, rfl, hkn, hlo, hhi⟩
  have hk : k < s.places.length := by
    rcases Nat.lt_or_ge k s.places.length with hk | hk
    · exact hk
    · exfalso
      rcases Nat.eq_zero_or_pos s.places.length with hz | hz
      · rw [show s.T.length = s.base by omega] at h1
        exact h1 (by omega)
      · have := of_decide_eq_false (hlo (s.places.length - 1) (by omega))
        rw [show s.base + (s.places.length - 1) + 1 = s.T.length by omega] at this
        omega
  have hup := of_decide_eq_true (hhi k (Nat.le_refl _) hk)
  have hdn : sm s.Ls (s.base + k) ≤ y := by
    rcases Nat.eq_zero_or_pos k with rfl | hkp
    · simpa using by omega
    · have := of_decide_eq_false (hlo (k - 1) (by omega))
      rw [show s.base + (k - 1) + 1 = s.base + k by omega] at this
      omega
  have e : s.find y = (((s.base + k : Nat) : Int), 0) := by
    unfold St.find
    rw [if_neg (by omega), if_neg h2, fk_eq s.Ls h.ok.lens (s.base + k) y (by omega) hdn hup]
  rw [e]
  (repeat ((conv => whnf); (first | with_reducible refine r_tt ?_ | with_reducible refine r_ff ?_ | with_reducible refine r_ntt ?_ | with_reducible refine r_nff ?_ | refine r_need (by omega) ?_ | refine r_i64 (by omega) ?_ | refine r_dect (by omega) ?_ | refine r_decf (by omega) ?_ | refine r_eqt (by omega) ?_ | refine r_eqf (by omega) ?_ | refine r_net (by omega) ?_ | refine r_nef (by omega) ?_ | refine r_u8 (by omega) ?_ | refine r_u64 (by omega) ?_ | refine r_i32 (by omega) ?_ | refine r_u32 (by omega) ?_ | refine r_rem (by omega) ?_ | refine r_quo (by omega) ?_ | refine r_ldb (by assumption) (by rfl) ?_ | refine r_ldbE (by assumption) (by rfl) ?_))); (conv => whnf)
  refine r_held (hx6.trans hx8) ?_
  (repeat ((conv => whnf); (first | with_reducible refine r_tt ?_ | with_reducible refine r_ff ?_ | with_reducible refine r_ntt ?_ | with_reducible refine r_nff ?_ | refine r_need (by omega) ?_ | refine r_i64 (by omega) ?_ | refine r_dect (by omega) ?_ | refine r_decf (by omega) ?_ | refine r_eqt (by omega) ?_ | refine r_eqf (by omega) ?_ | refine r_net (by omega) ?_ | refine r_nef (by omega) ?_ | refine r_u8 (by omega) ?_ | refine r_u64 (by omega) ?_ | refine r_i32 (by omega) ?_ | refine r_u32 (by omega) ?_ | refine r_rem (by omega) ?_ | refine r_quo (by omega) ?_ | refine r_ldb (by assumption) (by rfl) ?_ | refine r_ldbE (by assumption) (by rfl) ?_))); (conv => whnf)
  refine ⟨(hx04.trans hx5).trans (hx6.trans hx8), ?_⟩
  dsimp only
  rw [Int.natCast_add]
theorem Find_nil (w : World) (y : Int) : Cal Try.prog 40 ⟨[.pointer none, .int .i64 y]⟩ w fun v w' => Ext w w' ∧ v = .tuple ⟨[.int .i64 0, .int .i64 1]⟩ := by
  refine go40 (by rfl) ?_
  (repeat ((conv => whnf); (first | with_reducible refine r_tt ?_ | with_reducible refine r_ff ?_ | with_reducible refine r_ntt ?_ | with_reducible refine r_nff ?_ | refine r_need (by omega) ?_ | refine r_i64 (by omega) ?_ | refine r_dect (by omega) ?_ | refine r_decf (by omega) ?_ | refine r_eqt (by omega) ?_ | refine r_eqf (by omega) ?_ | refine r_net (by omega) ?_ | refine r_nef (by omega) ?_ | refine r_u8 (by omega) ?_ | refine r_u64 (by omega) ?_ | refine r_i32 (by omega) ?_ | refine r_u32 (by omega) ?_ | refine r_rem (by omega) ?_ | refine r_quo (by omega) ?_ | refine r_ldb (by assumption) (by rfl) ?_ | refine r_ldbE (by assumption) (by rfl) ?_))); (conv => whnf)
  refine r_new fun bw w1 hx1 hb1 hs1 hbw => ?_
  have hbw : Blk w1 bw 57 [.pointer none] := hbw
  (repeat ((conv => whnf); (first | with_reducible refine r_tt ?_ | with_reducible refine r_ff ?_ | with_reducible refine r_ntt ?_ | with_reducible refine r_nff ?_ | refine r_need (by omega) ?_ | refine r_i64 (by omega) ?_ | refine r_dect (by omega) ?_ | refine r_decf (by omega) ?_ | refine r_eqt (by omega) ?_ | refine r_eqf (by omega) ?_ | refine r_net (by omega) ?_ | refine r_nef (by omega) ?_ | refine r_u8 (by omega) ?_ | refine r_u64 (by omega) ?_ | refine r_i32 (by omega) ?_ | refine r_u32 (by omega) ?_ | refine r_rem (by omega) ?_ | refine r_quo (by omega) ?_ | refine r_ldb (by assumption) (by rfl) ?_ | refine r_ldbE (by assumption) (by rfl) ?_))); (conv => whnf)
  refine r_new fun bs w2 hx2 hb2 hs2 hbs => ?_
  have hbw := hbw.ext hx2
  (repeat ((conv => whnf); (first | with_reducible refine r_tt ?_ | with_reducible refine r_ff ?_ | with_reducible refine r_ntt ?_ | with_reducible refine r_nff ?_ | refine r_need (by omega) ?_ | refine r_i64 (by omega) ?_ | refine r_dect (by omega) ?_ | refine r_decf (by omega) ?_ | refine r_eqt (by omega) ?_ | refine r_eqf (by omega) ?_ | refine r_net (by omega) ?_ | refine r_nef (by omega) ?_ | refine r_u8 (by omega) ?_ | refine r_u64 (by omega) ?_ | refine r_i32 (by omega) ?_ | refine r_u32 (by omega) ?_ | refine r_rem (by omega) ?_ | refine r_quo (by omega) ?_ | refine r_ldb (by assumption) (by rfl) ?_ | refine r_ldbE (by assumption) (by rfl) ?_))); (conv => whnf)
  exact ⟨hx1.trans hx2, rfl⟩
theorem Copy_ok (h : Win w wb eb b g s n) : Cal Try.prog 44 ⟨[.pointer (some ⟨wb, 0, none⟩)]⟩ w fun v w' => ∃ wb' eb' b' g', v = .pointer (some ⟨wb', 0, none⟩) ∧ Ext w w' ∧ Win w' wb' eb' b' g' s n ∧ ∀ k, WS wb' eb' b' g' k → w.heap.size ≤ k := by
  have hblk := h.blk
  have hev := h.ev
  refine go44 (by rfl) ?_
  (repeat ((conv => whnf); (first | with_reducible refine r_tt ?_ | with_reducible refine r_ff ?_ | with_reducible refine r_ntt ?_ | with_reducible refine r_nff ?_ | refine r_need (by omega) ?_ | refine r_i64 (by omega) ?_ | refine r_dect (by omega) ?_ | refine r_decf (by omega) ?_ | refine r_eqt (by omega) ?_ | refine r_eqf (by omega) ?_ | refine r_net (by omega) ?_ | refine r_nef (by omega) ?_ | refine r_u8 (by omega) ?_ | refine r_u64 (by omega) ?_ | refine r_i32 (by omega) ?_ | refine r_u32 (by omega) ?_ | refine r_rem (by omega) ?_ | refine r_quo (by omega) ?_ | refine r_ldb (by assumption) (by rfl) ?_ | refine r_ldbE (by assumption) (by rfl) ?_))); (conv => whnf)
  refine r_ldnb (vs := [.int .i64 (s.base : Int), .int .i64 (sm s.Ls s.base)]) hev rfl rfl ?_
  (repeat ((conv => whnf); (first | with_reducible refine r_tt ?_ | with_reducible refine r_ff ?_ | with_reducible refine r_ntt ?_ | with_reducible refine r_nff ?_ | refine r_need (by omega) ?_ | refine r_i64 (by omega) ?_ | refine r_dect (by omega) ?_ | refine r_decf (by omega) ?_ | refine r_eqt (by omega) ?_ | refine r_eqf (by omega) ?_ | refine r_net (by omega) ?_ | refine r_nef (by omega) ?_ | refine r_u8 (by omega) ?_ | refine r_u64 (by omega) ?_ | refine r_i32 (by omega) ?_ | refine r_u32 (by omega) ?_ | refine r_rem (by omega) ?_ | refine r_quo (by omega) ?_ | refine r_ldb (by assumption) (by rfl) ?_ | refine r_ldbE (by assumption) (by rfl) ?_))); (conv => whnf)
  refine r_new fun eb' w1 hx1 hb1 hs1 hblk1 => ?_
  (repeat ((conv => whnf); (first | with_reducible refine r_tt ?_ | with_reducible refine r_ff ?_ | with_reducible refine r_ntt ?_ | with_reducible refine r_nff ?_ | refine r_need (by omega) ?_ | refine r_i64 (by omega) ?_ | refine r_dect (by omega) ?_ | refine r_decf (by omega) ?_ | refine r_eqt (by omega) ?_ | refine r_eqf (by omega) ?_ | refine r_net (by omega) ?_ | refine r_nef (by omega) ?_ | refine r_u8 (by omega) ?_ | refine r_u64 (by omega) ?_ | refine r_i32 (by omega) ?_ | refine r_u32 (by omega) ?_ | refine r_rem (by omega) ?_ | refine r_quo (by omega) ?_ | refine r_ldb (by assumption) (by rfl) ?_ | refine r_ldbE (by assumption) (by rfl) ?_))); (conv => whnf)
  refine r_stn hblk1 (by simp) (by intro v hv; simp at hv; rcases hv with rfl | rfl <;> rfl) fun w2 hc2 hs2 hblk2 => ?_
  have hblk2 : Blk w2 eb' 99 [.int .i64 (s.base : Int), .int .i64 (sm s.Ls s.base)] := hblk2
  have hx02 : Ext w w2 := Chg.step hx1 hc2 fun k hk hlt => by omega
  have hblk' := hblk.ext hx02
  (repeat ((conv => whnf); (first | with_reducible refine r_tt ?_ | with_reducible refine r_ff ?_ | with_reducible refine r_ntt ?_ | with_reducible refine r_nff ?_ | refine r_need (by omega) ?_ | refine r_i64 (by omega) ?_ | refine r_dect (by omega) ?_ | refine r_decf (by omega) ?_ | refine r_eqt (by omega) ?_ | refine r_eqf (by omega) ?_ | refine r_net (by omega) ?_ | refine r_nef (by omega) ?_ | refine r_u8 (by omega) ?_ | refine r_u64 (by omega) ?_ | refine r_i32 (by omega) ?_ | refine r_u32 (by omega) ?_ | refine r_rem (by omega) ?_ | refine r_quo (by omega) ?_ | refine r_ldb (by assumption) (by rfl) ?_ | refine r_ldbE (by assumption) (by rfl) ?_))); (conv => whnf)
  refine r_drawE fun w3 hx3 hh3 => ?_
  (repeat ((conv => whnf); (first | with_reducible refine r_tt ?_ | with_reducible refine r_ff ?_ | with_reducible refine r_ntt ?_ | with_reducible refine r_nff ?_ | refine r_need (by omega) ?_ | refine r_i64 (by omega) ?_ | refine r_dect (by omega) ?_ | refine r_decf (by omega) ?_ | refine r_eqt (by omega) ?_ | refine r_eqf (by omega) ?_ | refine r_net (by omega) ?_ | refine r_nef (by omega) ?_ | refine r_u8 (by omega) ?_ | refine r_u64 (by omega) ?_ | refine r_i32 (by omega) ?_ | refine r_u32 (by omega) ?_ | refine r_rem (by omega) ?_ | refine r_quo (by omega) ?_ | refine r_ldb (by assumption) (by rfl) ?_ | refine r_ldbE (by assumption) (by rfl) ?_))); (conv => whnf)
  refine r_cal (RW.Copy_ok ((h.ring.ext hx02).ext hx3)) ?_
  rintro _ w4 ⟨b', g', rfl, hx4, hb4, hg4, hr4⟩
  (repeat ((conv => whnf); (first | with_reducible refine r_tt ?_ | with_reducible refine r_ff ?_ | with_reducible refine r_ntt ?_ | with_reducible refine r_nff ?_ | refine r_need (by omega) ?_ | refine r_i64 (by omega) ?_ | refine r_dect (by omega) ?_ | refine r_decf (by omega) ?_ | refine r_eqt (by omega) ?_ | refine r_eqf (by omega) ?_ | refine r_net (by omega) ?_ | refine r_nef (by omega) ?_ | refine r_u8 (by omega) ?_ | refine r_u64 (by omega) ?_ | refine r_i32 (by omega) ?_ | refine r_u32 (by omega) ?_ | refine r_rem (by omega) ?_ | refine r_quo (by omega) ?_ | refine r_ldb (by assumption) (by rfl) ?_ | refine r_ldbE (by assumption) (by rfl) ?_))); (conv => whnf)
  refine r_held (hx3.trans hx4) ?_
  (repeat ((conv => whnf); (first | with_reducible refine r_tt ?_ | with_reducible refine r_ff ?_ | with_reducible refine r_ntt ?_ | with_reducible refine r_nff ?_ | refine r_need (by omega) ?_ | refine r_i64 (by omega) ?_ | refine r_dect (by omega) ?_ | refine r_decf (by omega) ?_ | refine r_eqt (by omega) ?_ | refine r_eqf (by omega) ?_ | refine r_net (by omega) ?_ | refine r_nef (by omega) ?_ | refine r_u8 (by omega) ?_ | refine r_u64 (by omega) ?_ | refine r_i32 (by omega) ?_ | refine r_u32 (by omega) ?_ | refine r_rem (by omega) ?_ | refine r_quo (by omega) ?_ | refine r_ldb (by assumption) (by rfl) ?_ | refine r_ldbE (by assumption) (by rfl) ?_))); (conv => whnf)
  refine r_new fun wb' w5 hx5 hb5 hs5 hblk5 => ?_
  (repeat ((conv => whnf); (first | with_reducible refine r_tt ?_ | with_reducible refine r_ff ?_ | with_reducible refine r_ntt ?_ | with_reducible refine r_nff ?_ | refine r_need (by omega) ?_ | refine r_i64 (by omega) ?_ | refine r_dect (by omega) ?_ | refine r_decf (by omega) ?_ | refine r_eqt (by omega) ?_ | refine r_eqf (by omega) ?_ | refine r_net (by omega) ?_ | refine r_nef (by omega) ?_ | refine r_u8 (by omega) ?_ | refine r_u64 (by omega) ?_ | refine r_i32 (by omega) ?_ | refine r_u32 (by omega) ?_ | refine r_rem (by omega) ?_ | refine r_quo (by omega) ?_ | refine r_ldb (by assumption) (by rfl) ?_ | refine r_ldbE (by assumption) (by rfl) ?_))); (conv => whnf)
  refine r_held ((hx3.trans hx4).trans hx5) ?_
  (repeat ((conv => whnf); (first | with_reducible refine r_tt ?_ | with_reducible refine r_ff ?_ | with_reducible refine r_ntt ?_ | with_reducible refine r_nff ?_ | refine r_need (by omega) ?_ | refine r_i64 (by omega) ?_ | refine r_dect (by omega) ?_ | refine r_decf (by omega) ?_ | refine r_eqt (by omega) ?_ | refine r_eqf (by omega) ?_ | refine r_net (by omega) ?_ | refine r_nef (by omega) ?_ | refine r_u8 (by omega) ?_ | refine r_u64 (by omega) ?_ | refine r_i32 (by omega) ?_ | refine r_u32 (by omega) ?_ | refine r_rem (by omega) ?_ | refine r_quo (by omega) ?_ | refine r_ldb (by assumption) (by rfl) ?_ | refine r_ldbE (by assumption) (by rfl) ?_))); (conv => whnf)
  have hx24 := hx3.trans hx4
  have s1 := hx02.size
  have s2 := hx3.size
  have s3 := hx4.size
  refine ⟨wb', eb', b', g', rfl, (hx02.trans hx24).trans hx5, ⟨hblk5, (hblk2.ext hx24).ext hx5, hr4.ext hx5, h.ok⟩, ?_⟩
  rintro k (rfl | rfl | rfl | e)
  · omega
  · omega
  · omega
  · have := hg4 k e; omega
theorem Copy_nil (w : World) : Cal Try.prog 44 ⟨[.pointer none]⟩ w fun v w' => w' = w ∧ v = .pointer none := by
  refine go44 (by rfl) ?_
  (repeat ((conv => whnf); (first | with_reducible refine r_tt ?_ | with_reducible refine r_ff ?_ | with_reducible refine r_ntt ?_ | with_reducible refine r_nff ?_ | refine r_need (by omega) ?_ | refine r_i64 (by omega) ?_ | refine r_dect (by omega) ?_ | refine r_decf (by omega) ?_ | refine r_eqt (by omega) ?_ | refine r_eqf (by omega) ?_ | refine r_net (by omega) ?_ | refine r_nef (by omega) ?_ | refine r_u8 (by omega) ?_ | refine r_u64 (by omega) ?_ | refine r_i32 (by omega) ?_ | refine r_u32 (by omega) ?_ | refine r_rem (by omega) ?_ | refine r_quo (by omega) ?_ | refine r_ldb (by assumption) (by rfl) ?_ | refine r_ldbE (by assumption) (by rfl) ?_))); (conv => whnf)
  exact ⟨rfl, rfl⟩
end
end Fb.Try.WN
