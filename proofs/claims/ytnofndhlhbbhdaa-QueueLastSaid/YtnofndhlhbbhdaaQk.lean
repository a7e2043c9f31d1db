/-
  Walks: two agendas that are told the same in another order.
-/
import Derived.Test.YtnofndhlhbbhdaaQj
namespace Fb.Try.QU
open Go Go.Proofs Fb
structure Duo (w0 w : World) (a1 m1 : Nat) (g1 : Option Nat) (c1 : Nat) (l1 : List En) (a2 m2 : Nat) (g2 : Option Nat) (c2 : Nat) (l2 : List En) : Prop where
  p : Ag w a1 m1 g1 c1 l1
  q : Ag w a2 m2 g2 c2 l2
  dis : ∀ k, PS a1 m1 g1 k → ¬ PS a2 m2 g2 k
  ext : Ext w0 w
  n1 : ∀ k, PS a1 m1 g1 k → w0.heap.size ≤ k
  n2 : ∀ k, PS a2 m2 g2 k → w0.heap.size ≤ k
def tagE (es : List En) (i : Nat) : En := ⟨i, (gt es i).order, (gt es i).out⟩
section
variable {w0 w w' : World} {a1 m1 a2 m2 c1 c2 c' : Nat} {g1 g2 g' : Option Nat} {l1 l2 l' : List En}
theorem Duo.ext' (h : Duo w0 w a1 m1 g1 c1 l1 a2 m2 g2 c2 l2) (k : Ext w w') : Duo w0 w' a1 m1 g1 c1 l1 a2 m2 g2 c2 l2 := ⟨h.p.ext k, h.q.ext k, h.dis, h.ext.trans k, h.n1, h.n2⟩
theorem Duo.swap (h : Duo w0 w a1 m1 g1 c1 l1 a2 m2 g2 c2 l2) : Duo w0 w a2 m2 g2 c2 l2 a1 m1 g1 c1 l1 := ⟨h.q, h.p, fun k hk hk' => h.dis k hk' hk, h.ext, h.n2, h.n1⟩
theorem Duo.op (h : Duo w0 w a1 m1 g1 c1 l1 a2 m2 g2 c2 l2) (hp : Ag w' a1 m1 g' c' l') (ha : Arr w g1 g') (hc : Chg (PS a1 m1 g1) w w') : Duo w0 w' a1 m1 g' c' l' a2 m2 g2 c2 l2 := by
  refine ⟨hp, h.q.keep hc fun k hk hk' => h.dis k hk' hk, fun k hk hk' => ?_, Chg.ps h.ext hc h.n1, ha.new h.n1 h.ext.size, h.n2⟩
  rcases ha with rfl | ⟨y, rfl, hy⟩
  · exact h.dis k hk hk'
  · rcases hk with e | e | e
    · exact h.dis k (.inl e) hk'
    · exact h.dis k (.inr (.inl e)) hk'
    · cases e
      have := h.q.pile.lt hk'
      omega
set_option maxHeartbeats 4000000 in
set_option maxRecDepth 100000 in
theorem lastLaw_ok {a : Option Addr} {len cap : Nat} {es : List En} (hv : View w a len cap 3 (flat es)) (place order : Int) (hpl : -9223372036854775808 ≤ place ∧ place ≤ 9223372036854775807) :
    Cal Try.prog 4 ⟨[.slice a len cap, .int .i64 place, .int .i64 order]⟩ w fun v w' => v = .bool true ∧ Ext w w' := by
  have hle := hv.le
  have hmax := hv.max
  unfold maxLen at hmax
  have hlen : es.length = len := by have := hv.length; rw [flat_len] at this; omega
  refine go4 (by rfl) ?_
  by_cases hg : 100 < len
  · (repeat ((conv => whnf); (first | with_reducible refine r_tt ?_ | with_reducible refine r_ff ?_ | with_reducible refine r_ntt ?_ | with_reducible refine r_nff ?_ | refine r_need (by omega) ?_ | refine r_i64 (by omega) ?_ | refine r_dect (by omega) ?_ | refine r_decf (by omega) ?_ | refine r_eqt (by omega) ?_ | refine r_eqf (by omega) ?_ | refine r_net (by omega) ?_ | refine r_nef (by omega) ?_ | refine r_u8 (by omega) ?_ | refine r_u64 (by omega) ?_ | refine r_i32 (by omega) ?_ | refine r_u32 (by omega) ?_ | refine r_rem (by omega) ?_ | refine r_quo (by omega) ?_ | refine r_ldb (by assumption) (by rfl) ?_ | refine r_ldbE (by assumption) (by rfl) ?_))); (conv => whnf)
    refine r_cal (fixed_ok _) ?_
    rintro _ w1 ⟨hx1, rfl⟩
    (repeat ((conv => whnf); (first | with_reducible refine r_tt ?_ | with_reducible refine r_ff ?_ | with_reducible refine r_ntt ?_ | with_reducible refine r_nff ?_ | refine r_need (by omega) ?_ | refine r_i64 (by omega) ?_ | refine r_dect (by omega) ?_ | refine r_decf (by omega) ?_ | refine r_eqt (by omega) ?_ | refine r_eqf (by omega) ?_ | refine r_net (by omega) ?_ | refine r_nef (by omega) ?_ | refine r_u8 (by omega) ?_ | refine r_u64 (by omega) ?_ | refine r_i32 (by omega) ?_ | refine r_u32 (by omega) ?_ | refine r_rem (by omega) ?_ | refine r_quo (by omega) ?_ | refine r_ldb (by assumption) (by rfl) ?_ | refine r_ldbE (by assumption) (by rfl) ?_))); (conv => whnf)
    exact ⟨rfl, hx1⟩
  (repeat ((conv => whnf); (first | with_reducible refine r_tt ?_ | with_reducible refine r_ff ?_ | with_reducible refine r_ntt ?_ | with_reducible refine r_nff ?_ | refine r_need (by omega) ?_ | refine r_i64 (by omega) ?_ | refine r_dect (by omega) ?_ | refine r_decf (by omega) ?_ | refine r_eqt (by omega) ?_ | refine r_eqf (by omega) ?_ | refine r_net (by omega) ?_ | refine r_nef (by omega) ?_ | refine r_u8 (by omega) ?_ | refine r_u64 (by omega) ?_ | refine r_i32 (by omega) ?_ | refine r_u32 (by omega) ?_ | refine r_rem (by omega) ?_ | refine r_quo (by omega) ?_ | refine r_ldb (by assumption) (by rfl) ?_ | refine r_ldbE (by assumption) (by rfl) ?_))); (conv => whnf)
  refine r_cal (New_ok w) ?_
  rintro _ w1 ⟨a1, m1, rfl, hx1, ha1, hm1, h1⟩
  (repeat ((conv => whnf); (first | with_reducible refine r_tt ?_ | with_reducible refine r_ff ?_ | with_reducible refine r_ntt ?_ | with_reducible refine r_nff ?_ | refine r_need (by omega) ?_ | refine r_i64 (by omega) ?_ | refine r_dect (by omega) ?_ | refine r_decf (by omega) ?_ | refine r_eqt (by omega) ?_ | refine r_eqf (by omega) ?_ | refine r_net (by omega) ?_ | refine r_nef (by omega) ?_ | refine r_u8 (by omega) ?_ | refine r_u64 (by omega) ?_ | refine r_i32 (by omega) ?_ | refine r_u32 (by omega) ?_ | refine r_rem (by omega) ?_ | refine r_quo (by omega) ?_ | refine r_ldb (by assumption) (by rfl) ?_ | refine r_ldbE (by assumption) (by rfl) ?_))); (conv => whnf)
  refine r_cal (New_ok w1) ?_
  rintro _ w2 ⟨a2, m2, rfl, hx2, ha2, hm2, h2⟩
  have hz1 := hx1.size
  have hd2 : Duo w w2 a1 m1 none 0 [] a2 m2 none 0 [] := ⟨h1.ext hx2, h2, fun k hk hk' => by
    have := h1.pile.lt hk
    have := ps_new ha2 hm2 k hk'
    omega, hx1.trans hx2, ps_new ha1 hm1, ps_new (by omega) (by omega)⟩
  clear h1 h2
  (repeat ((conv => whnf); (first | with_reducible refine r_tt ?_ | with_reducible refine r_ff ?_ | with_reducible refine r_ntt ?_ | with_reducible refine r_nff ?_ | refine r_need (by omega) ?_ | refine r_i64 (by omega) ?_ | refine r_dect (by omega) ?_ | refine r_decf (by omega) ?_ | refine r_eqt (by omega) ?_ | refine r_eqf (by omega) ?_ | refine r_net (by omega) ?_ | refine r_nef (by omega) ?_ | refine r_u8 (by omega) ?_ | refine r_u64 (by omega) ?_ | refine r_i32 (by omega) ?_ | refine r_u32 (by omega) ?_ | refine r_rem (by omega) ?_ | refine r_quo (by omega) ?_ | refine r_ldb (by assumption) (by rfl) ?_ | refine r_ldbE (by assumption) (by rfl) ?_))); (conv => whnf)
  refine r_loop (σ := Nat) (fun i => [.int .i64 (i : Int)]) (fun i w' => i ≤ len ∧ ∃ g1 c1 l1, Duo w w' a1 m1 g1 c1 l1 a2 m2 none 0 [] ∧ (∀ x, x ∈ l1 ↔ ∃ k, k < i ∧ x = tagE es k) ∧ l1.length ≤ i) (fun i _ => len - i) 0 rfl ⟨Nat.zero_le _, _, _, _, hd2, fun x => by simp, Nat.le_refl _⟩ ?_
  clear hd2
  rintro i w3 again ⟨hi, g1, c1, l1, hd, hm, hll⟩ hagain
  by_cases hil : i < len
  · have hpa := hv.plain (by rw [flat_len]; omega)
    (repeat ((conv => whnf); (first | with_reducible refine r_tt ?_ | with_reducible refine r_ff ?_ | with_reducible refine r_ntt ?_ | with_reducible refine r_nff ?_ | refine r_need (by omega) ?_ | refine r_i64 (by omega) ?_ | refine r_dect (by omega) ?_ | refine r_decf (by omega) ?_ | refine r_eqt (by omega) ?_ | refine r_eqf (by omega) ?_ | refine r_net (by omega) ?_ | refine r_nef (by omega) ?_ | refine r_u8 (by omega) ?_ | refine r_u64 (by omega) ?_ | refine r_i32 (by omega) ?_ | refine r_u32 (by omega) ?_ | refine r_rem (by omega) ?_ | refine r_quo (by omega) ?_ | refine r_ldb (by assumption) (by rfl) ?_ | refine r_ldbE (by assumption) (by rfl) ?_))); (conv => whnf)
    refine r_ldnv (j := (i : Int).toNat * 3) (vs := (gt es i).cells) (hv.ext hd.ext) (flat_ent (by omega)) rfl ?_
    (repeat ((conv => whnf); (first | with_reducible refine r_tt ?_ | with_reducible refine r_ff ?_ | with_reducible refine r_ntt ?_ | with_reducible refine r_nff ?_ | refine r_need (by omega) ?_ | refine r_i64 (by omega) ?_ | refine r_dect (by omega) ?_ | refine r_decf (by omega) ?_ | refine r_eqt (by omega) ?_ | refine r_eqf (by omega) ?_ | refine r_net (by omega) ?_ | refine r_nef (by omega) ?_ | refine r_u8 (by omega) ?_ | refine r_u64 (by omega) ?_ | refine r_i32 (by omega) ?_ | refine r_u32 (by omega) ?_ | refine r_rem (by omega) ?_ | refine r_quo (by omega) ?_ | refine r_ldb (by assumption) (by rfl) ?_ | refine r_ldbE (by assumption) (by rfl) ?_))); (conv => whnf)
    refine r_new fun bo w4 hx4 hb4 hs4 hblk4 => ?_
    (repeat ((conv => whnf); (first | with_reducible refine r_tt ?_ | with_reducible refine r_ff ?_ | with_reducible refine r_ntt ?_ | with_reducible refine r_nff ?_ | refine r_need (by omega) ?_ | refine r_i64 (by omega) ?_ | refine r_dect (by omega) ?_ | refine r_decf (by omega) ?_ | refine r_eqt (by omega) ?_ | refine r_eqf (by omega) ?_ | refine r_net (by omega) ?_ | refine r_nef (by omega) ?_ | refine r_u8 (by omega) ?_ | refine r_u64 (by omega) ?_ | refine r_i32 (by omega) ?_ | refine r_u32 (by omega) ?_ | refine r_rem (by omega) ?_ | refine r_quo (by omega) ?_ | refine r_ldb (by assumption) (by rfl) ?_ | refine r_ldbE (by assumption) (by rfl) ?_))); (conv => whnf)
    refine r_stn hblk4 (by simp [En.cells]) (cells_one _) fun w5 hc5 hs5 hop => ?_
    have hop : Blk w5 bo 28 (gt es i).cells := hop
    (repeat ((conv => whnf); (first | with_reducible refine r_tt ?_ | with_reducible refine r_ff ?_ | with_reducible refine r_ntt ?_ | with_reducible refine r_nff ?_ | refine r_need (by omega) ?_ | refine r_i64 (by omega) ?_ | refine r_dect (by omega) ?_ | refine r_decf (by omega) ?_ | refine r_eqt (by omega) ?_ | refine r_eqf (by omega) ?_ | refine r_net (by omega) ?_ | refine r_nef (by omega) ?_ | refine r_u8 (by omega) ?_ | refine r_u64 (by omega) ?_ | refine r_i32 (by omega) ?_ | refine r_u32 (by omega) ?_ | refine r_rem (by omega) ?_ | refine r_quo (by omega) ?_ | refine r_ldb (by assumption) (by rfl) ?_ | refine r_ldbE (by assumption) (by rfl) ?_))); (conv => whnf)
    refine r_st hop (by simp [En.cells]) rfl fun w6 hc6 hs6 hop => ?_
    have hop : Blk w6 bo 28 (tagE es i).cells := hop
    have hx36 : Ext w3 w6 := Chg.step (Chg.step hx4 hc5 fun k hk hlt => by omega) hc6 fun k hk hlt => by omega
    have hd6 := hd.ext' hx36
    (repeat ((conv => whnf); (first | with_reducible refine r_tt ?_ | with_reducible refine r_ff ?_ | with_reducible refine r_ntt ?_ | with_reducible refine r_nff ?_ | refine r_need (by omega) ?_ | refine r_i64 (by omega) ?_ | refine r_dect (by omega) ?_ | refine r_decf (by omega) ?_ | refine r_eqt (by omega) ?_ | refine r_eqf (by omega) ?_ | refine r_net (by omega) ?_ | refine r_nef (by omega) ?_ | refine r_u8 (by omega) ?_ | refine r_u64 (by omega) ?_ | refine r_i32 (by omega) ?_ | refine r_u32 (by omega) ?_ | refine r_rem (by omega) ?_ | refine r_quo (by omega) ?_ | refine r_ldb (by assumption) (by rfl) ?_ | refine r_ldbE (by assumption) (by rfl) ?_))); (conv => whnf)
    refine r_ldnb (vs := (tagE es i).cells) hop rfl rfl ?_
    (repeat ((conv => whnf); (first | with_reducible refine r_tt ?_ | with_reducible refine r_ff ?_ | with_reducible refine r_ntt ?_ | with_reducible refine r_nff ?_ | refine r_need (by omega) ?_ | refine r_i64 (by omega) ?_ | refine r_dect (by omega) ?_ | refine r_decf (by omega) ?_ | refine r_eqt (by omega) ?_ | refine r_eqf (by omega) ?_ | refine r_net (by omega) ?_ | refine r_nef (by omega) ?_ | refine r_u8 (by omega) ?_ | refine r_u64 (by omega) ?_ | refine r_i32 (by omega) ?_ | refine r_u32 (by omega) ?_ | refine r_rem (by omega) ?_ | refine r_quo (by omega) ?_ | refine r_ldb (by assumption) (by rfl) ?_ | refine r_ldbE (by assumption) (by rfl) ?_))); (conv => whnf)
    refine r_cal (Put_ok hd6.p (e := tagE es i) (by unfold Wf tagE; dsimp only; omega) (by omega)) ?_
    rintro _ w7 ⟨g7, c7, l7, h7, m7, a7, hc7⟩
    have hl7 := dist_le (r := l1 ++ [tagE es i]) h7.pile.dist fun x hx => by
      rcases (m7 x).1 hx with rfl | h
      · simp
      · simp [h.1]
    simp only [List.length_append, List.length_singleton] at hl7
    (repeat ((conv => whnf); (first | with_reducible refine r_tt ?_ | with_reducible refine r_ff ?_ | with_reducible refine r_ntt ?_ | with_reducible refine r_nff ?_ | refine r_need (by omega) ?_ | refine r_i64 (by omega) ?_ | refine r_dect (by omega) ?_ | refine r_decf (by omega) ?_ | refine r_eqt (by omega) ?_ | refine r_eqf (by omega) ?_ | refine r_net (by omega) ?_ | refine r_nef (by omega) ?_ | refine r_u8 (by omega) ?_ | refine r_u64 (by omega) ?_ | refine r_i32 (by omega) ?_ | refine r_u32 (by omega) ?_ | refine r_rem (by omega) ?_ | refine r_quo (by omega) ?_ | refine r_ldb (by assumption) (by rfl) ?_ | refine r_ldbE (by assumption) (by rfl) ?_))); (conv => whnf)
    refine hagain (i + 1) w7 ⟨by omega, g7, c7, l7, hd6.op h7 a7 hc7, fun x => ?_, by omega⟩ (by omega)
    rw [m7, hm]
    constructor
    · rintro (rfl | ⟨⟨k, hk, rfl⟩, -⟩)
      · exact ⟨i, by omega, rfl⟩
      · exact ⟨k, by omega, rfl⟩
    · rintro ⟨k, hk, rfl⟩
      by_cases hki : k = i
      · subst hki; exact .inl rfl
      · exact .inr ⟨⟨k, by omega, rfl⟩, by simp [tagE]; omega⟩
  have hie : i = len := by omega
  subst hie
  (repeat ((conv => whnf); (first | with_reducible refine r_tt ?_ | with_reducible refine r_ff ?_ | with_reducible refine r_ntt ?_ | with_reducible refine r_nff ?_ | refine r_need (by omega) ?_ | refine r_i64 (by omega) ?_ | refine r_dect (by omega) ?_ | refine r_decf (by omega) ?_ | refine r_eqt (by omega) ?_ | refine r_eqf (by omega) ?_ | refine r_net (by omega) ?_ | refine r_nef (by omega) ?_ | refine r_u8 (by omega) ?_ | refine r_u64 (by omega) ?_ | refine r_i32 (by omega) ?_ | refine r_u32 (by omega) ?_ | refine r_rem (by omega) ?_ | refine r_quo (by omega) ?_ | refine r_ldb (by assumption) (by rfl) ?_ | refine r_ldbE (by assumption) (by rfl) ?_))); (conv => whnf)
  refine r_loop (σ := Nat) (fun j => [.int .i64 (j : Int)]) (fun j w' => j ≤ i ∧ ∃ g2 c2 l2, Duo w w' a1 m1 g1 c1 l1 a2 m2 g2 c2 l2 ∧ (∀ x, x ∈ l2 ↔ ∃ k, i - j ≤ k ∧ k < i ∧ x = tagE es k) ∧ l2.length ≤ j) (fun j _ => i - j) 0 rfl ⟨Nat.zero_le _, _, _, _, hd, fun x => by simp; intro k h1 h2; omega, Nat.le_refl _⟩ ?_
  clear hd
  rintro j w4 again2 ⟨hj, g2, c2, l2, hd, hm2', hl2⟩ hagain2
  by_cases hjl : j < i
  · have hpa := hv.plain (by rw [flat_len]; omega)
    have hidx : ((i : Int) - 1 - j).toNat * 3 = (i - 1 - j) * 3 := by omega
    (repeat ((conv => whnf); (first | with_reducible refine r_tt ?_ | with_reducible refine r_ff ?_ | with_reducible refine r_ntt ?_ | with_reducible refine r_nff ?_ | refine r_need (by omega) ?_ | refine r_i64 (by omega) ?_ | refine r_dect (by omega) ?_ | refine r_decf (by omega) ?_ | refine r_eqt (by omega) ?_ | refine r_eqf (by omega) ?_ | refine r_net (by omega) ?_ | refine r_nef (by omega) ?_ | refine r_u8 (by omega) ?_ | refine r_u64 (by omega) ?_ | refine r_i32 (by omega) ?_ | refine r_u32 (by omega) ?_ | refine r_rem (by omega) ?_ | refine r_quo (by omega) ?_ | refine r_ldb (by assumption) (by rfl) ?_ | refine r_ldbE (by assumption) (by rfl) ?_))); (conv => whnf)
    refine r_ldnv (j := ((i : Int) - 1 - j).toNat * 3) (vs := (gt es (i - 1 - j)).cells) (hv.ext hd.ext) (by rw [hidx]; exact flat_ent (by omega)) rfl ?_
    (repeat ((conv => whnf); (first | with_reducible refine r_tt ?_ | with_reducible refine r_ff ?_ | with_reducible refine r_ntt ?_ | with_reducible refine r_nff ?_ | refine r_need (by omega) ?_ | refine r_i64 (by omega) ?_ | refine r_dect (by omega) ?_ | refine r_decf (by omega) ?_ | refine r_eqt (by omega) ?_ | refine r_eqf (by omega) ?_ | refine r_net (by omega) ?_ | refine r_nef (by omega) ?_ | refine r_u8 (by omega) ?_ | refine r_u64 (by omega) ?_ | refine r_i32 (by omega) ?_ | refine r_u32 (by omega) ?_ | refine r_rem (by omega) ?_ | refine r_quo (by omega) ?_ | refine r_ldb (by assumption) (by rfl) ?_ | refine r_ldbE (by assumption) (by rfl) ?_))); (conv => whnf)
    refine r_new fun bo w5 hx5 hb5 hs5 hblk5 => ?_
    (repeat ((conv => whnf); (first | with_reducible refine r_tt ?_ | with_reducible refine r_ff ?_ | with_reducible refine r_ntt ?_ | with_reducible refine r_nff ?_ | refine r_need (by omega) ?_ | refine r_i64 (by omega) ?_ | refine r_dect (by omega) ?_ | refine r_decf (by omega) ?_ | refine r_eqt (by omega) ?_ | refine r_eqf (by omega) ?_ | refine r_net (by omega) ?_ | refine r_nef (by omega) ?_ | refine r_u8 (by omega) ?_ | refine r_u64 (by omega) ?_ | refine r_i32 (by omega) ?_ | refine r_u32 (by omega) ?_ | refine r_rem (by omega) ?_ | refine r_quo (by omega) ?_ | refine r_ldb (by assumption) (by rfl) ?_ | refine r_ldbE (by assumption) (by rfl) ?_))); (conv => whnf)
    refine r_stn hblk5 (by simp [En.cells]) (cells_one _) fun w6 hc6 hs6 hop => ?_
    have hop : Blk w6 bo 28 (gt es (i - 1 - j)).cells := hop
    (repeat ((conv => whnf); (first | with_reducible refine r_tt ?_ | with_reducible refine r_ff ?_ | with_reducible refine r_ntt ?_ | with_reducible refine r_nff ?_ | refine r_need (by omega) ?_ | refine r_i64 (by omega) ?_ | refine r_dect (by omega) ?_ | refine r_decf (by omega) ?_ | refine r_eqt (by omega) ?_ | refine r_eqf (by omega) ?_ | refine r_net (by omega) ?_ | refine r_nef (by omega) ?_ | refine r_u8 (by omega) ?_ | refine r_u64 (by omega) ?_ | refine r_i32 (by omega) ?_ | refine r_u32 (by omega) ?_ | refine r_rem (by omega) ?_ | refine r_quo (by omega) ?_ | refine r_ldb (by assumption) (by rfl) ?_ | refine r_ldbE (by assumption) (by rfl) ?_))); (conv => whnf)
    refine r_st hop (by simp [En.cells]) rfl fun w7 hc7 hs7 hop => ?_
    have hop : Blk w7 bo 28 [.int .i64 ((i : Int) - 1 - j), .int .i64 (gt es (i - 1 - j)).order, .int .i64 (gt es (i - 1 - j)).out] := hop
    have hx47 : Ext w4 w7 := Chg.step (Chg.step hx5 hc6 fun k hk hlt => by omega) hc7 fun k hk hlt => by omega
    have hd7 := hd.ext' hx47
    have hob : ¬ PS a2 m2 g2 bo := fun e => by have := hd.q.pile.lt e; omega
    have hte : tagE es (i - 1 - j) = ⟨(i : Int) - 1 - j, (gt es (i - 1 - j)).order, (gt es (i - 1 - j)).out⟩ := by
      unfold tagE
      rw [show ((i - 1 - j : Nat) : Int) = (i : Int) - 1 - j by omega]
    (repeat ((conv => whnf); (first | with_reducible refine r_tt ?_ | with_reducible refine r_ff ?_ | with_reducible refine r_ntt ?_ | with_reducible refine r_nff ?_ | refine r_need (by omega) ?_ | refine r_i64 (by omega) ?_ | refine r_dect (by omega) ?_ | refine r_decf (by omega) ?_ | refine r_eqt (by omega) ?_ | refine r_eqf (by omega) ?_ | refine r_net (by omega) ?_ | refine r_nef (by omega) ?_ | refine r_u8 (by omega) ?_ | refine r_u64 (by omega) ?_ | refine r_i32 (by omega) ?_ | refine r_u32 (by omega) ?_ | refine r_rem (by omega) ?_ | refine r_quo (by omega) ?_ | refine r_ldb (by assumption) (by rfl) ?_ | refine r_ldbE (by assumption) (by rfl) ?_))); (conv => whnf)
    refine r_cal (Put_ok hd7.q (e := ⟨(i : Int) - 1 - j, order, 0⟩) (by unfold Wf; dsimp only; omega) (by omega)) ?_
    rintro _ w8 ⟨g8, c8, l8, h8, m8, a8, hc8⟩
    have hd8 := (hd7.swap.op h8 a8 hc8).swap
    have hop8 := hop.keep hc8 hob
    have hl8 := dist_le (r := l2 ++ [⟨(i : Int) - 1 - j, order, 0⟩]) h8.pile.dist fun x hx => by
      rcases (m8 x).1 hx with rfl | h
      · simp
      · simp [h.1]
    simp only [List.length_append, List.length_singleton] at hl8
    (repeat ((conv => whnf); (first | with_reducible refine r_tt ?_ | with_reducible refine r_ff ?_ | with_reducible refine r_ntt ?_ | with_reducible refine r_nff ?_ | refine r_need (by omega) ?_ | refine r_i64 (by omega) ?_ | refine r_dect (by omega) ?_ | refine r_decf (by omega) ?_ | refine r_eqt (by omega) ?_ | refine r_eqf (by omega) ?_ | refine r_net (by omega) ?_ | refine r_nef (by omega) ?_ | refine r_u8 (by omega) ?_ | refine r_u64 (by omega) ?_ | refine r_i32 (by omega) ?_ | refine r_u32 (by omega) ?_ | refine r_rem (by omega) ?_ | refine r_quo (by omega) ?_ | refine r_ldb (by assumption) (by rfl) ?_ | refine r_ldbE (by assumption) (by rfl) ?_))); (conv => whnf)
    refine r_ldnb (vs := En.cells ⟨(i : Int) - 1 - j, (gt es (i - 1 - j)).order, (gt es (i - 1 - j)).out⟩) hop8 rfl rfl ?_
    (repeat ((conv => whnf); (first | with_reducible refine r_tt ?_ | with_reducible refine r_ff ?_ | with_reducible refine r_ntt ?_ | with_reducible refine r_nff ?_ | refine r_need (by omega) ?_ | refine r_i64 (by omega) ?_ | refine r_dect (by omega) ?_ | refine r_decf (by omega) ?_ | refine r_eqt (by omega) ?_ | refine r_eqf (by omega) ?_ | refine r_net (by omega) ?_ | refine r_nef (by omega) ?_ | refine r_u8 (by omega) ?_ | refine r_u64 (by omega) ?_ | refine r_i32 (by omega) ?_ | refine r_u32 (by omega) ?_ | refine r_rem (by omega) ?_ | refine r_quo (by omega) ?_ | refine r_ldb (by assumption) (by rfl) ?_ | refine r_ldbE (by assumption) (by rfl) ?_))); (conv => whnf)
    refine r_cal (Put_ok hd8.q (e := ⟨(i : Int) - 1 - j, (gt es (i - 1 - j)).order, (gt es (i - 1 - j)).out⟩) (by unfold Wf; dsimp only; omega) (by omega)) ?_
    rintro _ w9 ⟨g9, c9, l9, h9, m9, a9, hc9⟩
    have hd9 := (hd8.swap.op h9 a9 hc9).swap
    have M9 : ∀ x, x ∈ l9 ↔ x = tagE es (i - 1 - j) ∨ x ∈ l2 := fun x => by
      rw [m9, m8, hte]
      constructor
      · rintro (h | ⟨h | h, h'⟩)
        · exact .inl h
        · subst h; exact absurd rfl h'
        · exact .inr h.1
      · rintro (h | h)
        · exact .inl h
        · have hpn : x.place ≠ (i : Int) - 1 - j := by
            obtain ⟨k, h1, h2, rfl⟩ := (hm2' x).1 h
            simp [tagE]
            omega
          exact .inr ⟨.inr ⟨h, hpn⟩, hpn⟩
    have hl9 := dist_le (r := l2 ++ [tagE es (i - 1 - j)]) h9.pile.dist fun x hx => by
      rcases (M9 x).1 hx with rfl | h
      · simp
      · simp [h]
    simp only [List.length_append, List.length_singleton] at hl9
    (repeat ((conv => whnf); (first | with_reducible refine r_tt ?_ | with_reducible refine r_ff ?_ | with_reducible refine r_ntt ?_ | with_reducible refine r_nff ?_ | refine r_need (by omega) ?_ | refine r_i64 (by omega) ?_ | refine r_dect (by omega) ?_ | refine r_decf (by omega) ?_ | refine r_eqt (by omega) ?_ | refine r_eqf (by omega) ?_ | refine r_net (by omega) ?_ | refine r_nef (by omega) ?_ | refine r_u8 (by omega) ?_ | refine r_u64 (by omega) ?_ | refine r_i32 (by omega) ?_ | refine r_u32 (by omega) ?_ | refine r_rem (by omega) ?_ | refine r_quo (by omega) ?_ | refine r_ldb (by assumption) (by rfl) ?_ | refine r_ldbE (by assumption) (by rfl) ?_))); (conv => whnf)
    refine hagain2 (j + 1) w9 ⟨by omega, g9, c9, l9, hd9, fun x => ?_, by omega⟩ (by omega)
    rw [M9, hm2']
    constructor
    · rintro (rfl | ⟨k, h1, h2, rfl⟩)
      · exact ⟨i - 1 - j, by omega, by omega, rfl⟩
      · exact ⟨k, by omega, h2, rfl⟩
    · rintro ⟨k, h1, h2, rfl⟩
      by_cases hki : k = i - 1 - j
      · subst hki; exact .inl rfl
      · exact .inr ⟨k, by omega, h2, rfl⟩
  have hje : j = i := by omega
  subst hje
  have hagr : Agr l1 l2 := ⟨hd.p.pile.dist, hd.q.pile.dist, fun x => by
    rw [hm, hm2']
    constructor
    · rintro ⟨k, hk, rfl⟩
      exact ⟨k, by omega, hk, rfl⟩
    · rintro ⟨k, -, hk, rfl⟩
      exact ⟨k, hk, rfl⟩⟩
  have hcnt : l1.length = j := by
    refine Nat.le_antisymm hll ?_
    have htd : Dist ((List.range j).map (tagE es)) := by
      rw [dist_pw, List.pairwise_map]
      exact List.pairwise_lt_range.imp fun {a b} h => by simp [tagE]; omega
    have := dist_le (r := l1) htd fun x hx => by
      obtain ⟨k, hk, rfl⟩ := List.mem_map.1 hx
      exact (hm _).2 ⟨k, by simpa using hk, rfl⟩
    simpa using this
  clear hm hm2' hl2 hll
  (repeat ((conv => whnf); (first | with_reducible refine r_tt ?_ | with_reducible refine r_ff ?_ | with_reducible refine r_ntt ?_ | with_reducible refine r_nff ?_ | refine r_need (by omega) ?_ | refine r_i64 (by omega) ?_ | refine r_dect (by omega) ?_ | refine r_decf (by omega) ?_ | refine r_eqt (by omega) ?_ | refine r_eqf (by omega) ?_ | refine r_net (by omega) ?_ | refine r_nef (by omega) ?_ | refine r_u8 (by omega) ?_ | refine r_u64 (by omega) ?_ | refine r_i32 (by omega) ?_ | refine r_u32 (by omega) ?_ | refine r_rem (by omega) ?_ | refine r_quo (by omega) ?_ | refine r_ldb (by assumption) (by rfl) ?_ | refine r_ldbE (by assumption) (by rfl) ?_))); (conv => whnf)
  refine r_loop (σ := Nat) (fun i => [.int .i64 (i : Int)]) (fun i w' => i ≤ j ∧ ∃ g1 c1 l1 g2 c2 l2, Duo w w' a1 m1 g1 c1 l1 a2 m2 g2 c2 l2 ∧ Agr l1 l2 ∧ l1.length + i = j) (fun i _ => j - i) 0 rfl ⟨Nat.zero_le _, _, _, _, _, _, _, hd, hagr, hcnt⟩ ?_
  clear hd hagr hcnt
  rintro i w5 again3 ⟨hi, g1, c1, l1, g2, c2, l2, hd, hagr, hcnt⟩ hagain3
  have hll := hagr.len
  by_cases hij : i < j
  · (repeat ((conv => whnf); (first | with_reducible refine r_tt ?_ | with_reducible refine r_ff ?_ | with_reducible refine r_ntt ?_ | with_reducible refine r_nff ?_ | refine r_need (by omega) ?_ | refine r_i64 (by omega) ?_ | refine r_dect (by omega) ?_ | refine r_decf (by omega) ?_ | refine r_eqt (by omega) ?_ | refine r_eqf (by omega) ?_ | refine r_net (by omega) ?_ | refine r_nef (by omega) ?_ | refine r_u8 (by omega) ?_ | refine r_u64 (by omega) ?_ | refine r_i32 (by omega) ?_ | refine r_u32 (by omega) ?_ | refine r_rem (by omega) ?_ | refine r_quo (by omega) ?_ | refine r_ldb (by assumption) (by rfl) ?_ | refine r_ldbE (by assumption) (by rfl) ?_))); (conv => whnf)
    refine r_cal (Take_ok hd.p) ?_
    rintro _ w6 ⟨rfl, l6, h6, m6, hc6⟩
    have hd6 := hd.op h6 (.inl rfl) hc6
    rw [decide_eq_true (show 0 < l1.length by omega)]
    (repeat ((conv => whnf); (first | with_reducible refine r_tt ?_ | with_reducible refine r_ff ?_ | with_reducible refine r_ntt ?_ | with_reducible refine r_nff ?_ | refine r_need (by omega) ?_ | refine r_i64 (by omega) ?_ | refine r_dect (by omega) ?_ | refine r_decf (by omega) ?_ | refine r_eqt (by omega) ?_ | refine r_eqf (by omega) ?_ | refine r_net (by omega) ?_ | refine r_nef (by omega) ?_ | refine r_u8 (by omega) ?_ | refine r_u64 (by omega) ?_ | refine r_i32 (by omega) ?_ | refine r_u32 (by omega) ?_ | refine r_rem (by omega) ?_ | refine r_quo (by omega) ?_ | refine r_ldb (by assumption) (by rfl) ?_ | refine r_ldbE (by assumption) (by rfl) ?_))); (conv => whnf)
    refine r_new fun b1 w7 hx7 hb7 hs7 hblk7 => ?_
    (repeat ((conv => whnf); (first | with_reducible refine r_tt ?_ | with_reducible refine r_ff ?_ | with_reducible refine r_ntt ?_ | with_reducible refine r_nff ?_ | refine r_need (by omega) ?_ | refine r_i64 (by omega) ?_ | refine r_dect (by omega) ?_ | refine r_decf (by omega) ?_ | refine r_eqt (by omega) ?_ | refine r_eqf (by omega) ?_ | refine r_net (by omega) ?_ | refine r_nef (by omega) ?_ | refine r_u8 (by omega) ?_ | refine r_u64 (by omega) ?_ | refine r_i32 (by omega) ?_ | refine r_u32 (by omega) ?_ | refine r_rem (by omega) ?_ | refine r_quo (by omega) ?_ | refine r_ldb (by assumption) (by rfl) ?_ | refine r_ldbE (by assumption) (by rfl) ?_))); (conv => whnf)
    refine r_stn hblk7 (by simp [En.cells]) (cells_one _) fun w8 hc8 hs8 hblk8 => ?_
    have hblk8 : Blk w8 b1 28 (gt l1 0).cells := hblk8
    have hx68 : Ext w6 w8 := Chg.step hx7 hc8 fun k hk hlt => by omega
    have hd8 := hd6.ext' hx68
    have hob : ¬ PS a2 m2 g2 b1 := fun e => by have := hd6.q.pile.lt e; omega
    (repeat ((conv => whnf); (first | with_reducible refine r_tt ?_ | with_reducible refine r_ff ?_ | with_reducible refine r_ntt ?_ | with_reducible refine r_nff ?_ | refine r_need (by omega) ?_ | refine r_i64 (by omega) ?_ | refine r_dect (by omega) ?_ | refine r_decf (by omega) ?_ | refine r_eqt (by omega) ?_ | refine r_eqf (by omega) ?_ | refine r_net (by omega) ?_ | refine r_nef (by omega) ?_ | refine r_u8 (by omega) ?_ | refine r_u64 (by omega) ?_ | refine r_i32 (by omega) ?_ | refine r_u32 (by omega) ?_ | refine r_rem (by omega) ?_ | refine r_quo (by omega) ?_ | refine r_ldb (by assumption) (by rfl) ?_ | refine r_ldbE (by assumption) (by rfl) ?_))); (conv => whnf)
    refine r_cal (Take_ok hd8.q) ?_
    rintro _ w9 ⟨rfl, l9, h9, m9, hc9⟩
    have hd9 := (hd8.swap.op h9 (.inl rfl) hc9).swap
    have hblk9 := hblk8.keep hc9 hob
    have heq : gt l1 0 = gt l2 0 := hagr.least (mem_gt.2 ⟨0, by omega, rfl⟩) (mem_gt.2 ⟨0, by omega, rfl⟩) hd.p.least hd.q.least
    rw [decide_eq_true (show 0 < l2.length by omega), ← heq]
    rw [← heq] at m9
    (repeat ((conv => whnf); (first | with_reducible refine r_tt ?_ | with_reducible refine r_ff ?_ | with_reducible refine r_ntt ?_ | with_reducible refine r_nff ?_ | refine r_need (by omega) ?_ | refine r_i64 (by omega) ?_ | refine r_dect (by omega) ?_ | refine r_decf (by omega) ?_ | refine r_eqt (by omega) ?_ | refine r_eqf (by omega) ?_ | refine r_net (by omega) ?_ | refine r_nef (by omega) ?_ | refine r_u8 (by omega) ?_ | refine r_u64 (by omega) ?_ | refine r_i32 (by omega) ?_ | refine r_u32 (by omega) ?_ | refine r_rem (by omega) ?_ | refine r_quo (by omega) ?_ | refine r_ldb (by assumption) (by rfl) ?_ | refine r_ldbE (by assumption) (by rfl) ?_))); (conv => whnf)
    refine r_new fun b2 w10 hx10 hb10 hs10 hblk10 => ?_
    have hl9 := hblk9.lt
    have hblk9 := hblk9.ext hx10
    (repeat ((conv => whnf); (first | with_reducible refine r_tt ?_ | with_reducible refine r_ff ?_ | with_reducible refine r_ntt ?_ | with_reducible refine r_nff ?_ | refine r_need (by omega) ?_ | refine r_i64 (by omega) ?_ | refine r_dect (by omega) ?_ | refine r_decf (by omega) ?_ | refine r_eqt (by omega) ?_ | refine r_eqf (by omega) ?_ | refine r_net (by omega) ?_ | refine r_nef (by omega) ?_ | refine r_u8 (by omega) ?_ | refine r_u64 (by omega) ?_ | refine r_i32 (by omega) ?_ | refine r_u32 (by omega) ?_ | refine r_rem (by omega) ?_ | refine r_quo (by omega) ?_ | refine r_ldb (by assumption) (by rfl) ?_ | refine r_ldbE (by assumption) (by rfl) ?_))); (conv => whnf)
    refine r_stn hblk10 (by simp [En.cells]) (cells_one _) fun w11 hc11 hs11 hblk11 => ?_
    have hblk11 : Blk w11 b2 28 (gt l1 0).cells := hblk11
    have hblk9 := hblk9.keep hc11 (by omega)
    have hx911 : Ext w9 w11 := Chg.step hx10 hc11 fun k hk hlt => by omega
    have hd11 := hd9.ext' hx911
    (repeat ((conv => whnf); (first | with_reducible refine r_tt ?_ | with_reducible refine r_ff ?_ | with_reducible refine r_ntt ?_ | with_reducible refine r_nff ?_ | refine r_need (by omega) ?_ | refine r_i64 (by omega) ?_ | refine r_dect (by omega) ?_ | refine r_decf (by omega) ?_ | refine r_eqt (by omega) ?_ | refine r_eqf (by omega) ?_ | refine r_net (by omega) ?_ | refine r_nef (by omega) ?_ | refine r_u8 (by omega) ?_ | refine r_u64 (by omega) ?_ | refine r_i32 (by omega) ?_ | refine r_u32 (by omega) ?_ | refine r_rem (by omega) ?_ | refine r_quo (by omega) ?_ | refine r_ldb (by assumption) (by rfl) ?_ | refine r_ldbE (by assumption) (by rfl) ?_))); (conv => whnf)
    refine r_ldnb (vs := (gt l1 0).cells) hblk9 rfl rfl ?_
    (repeat ((conv => whnf); (first | with_reducible refine r_tt ?_ | with_reducible refine r_ff ?_ | with_reducible refine r_ntt ?_ | with_reducible refine r_nff ?_ | refine r_need (by omega) ?_ | refine r_i64 (by omega) ?_ | refine r_dect (by omega) ?_ | refine r_decf (by omega) ?_ | refine r_eqt (by omega) ?_ | refine r_eqf (by omega) ?_ | refine r_net (by omega) ?_ | refine r_nef (by omega) ?_ | refine r_u8 (by omega) ?_ | refine r_u64 (by omega) ?_ | refine r_i32 (by omega) ?_ | refine r_u32 (by omega) ?_ | refine r_rem (by omega) ?_ | refine r_quo (by omega) ?_ | refine r_ldb (by assumption) (by rfl) ?_ | refine r_ldbE (by assumption) (by rfl) ?_))); (conv => whnf)
    refine r_ldnb (vs := (gt l1 0).cells) hblk11 rfl rfl ?_
    (repeat ((conv => whnf); (first | with_reducible refine r_tt ?_ | with_reducible refine r_ff ?_ | with_reducible refine r_ntt ?_ | with_reducible refine r_nff ?_ | refine r_need (by omega) ?_ | refine r_i64 (by omega) ?_ | refine r_dect (by omega) ?_ | refine r_decf (by omega) ?_ | refine r_eqt (by omega) ?_ | refine r_eqf (by omega) ?_ | refine r_net (by omega) ?_ | refine r_nef (by omega) ?_ | refine r_u8 (by omega) ?_ | refine r_u64 (by omega) ?_ | refine r_i32 (by omega) ?_ | refine r_u32 (by omega) ?_ | refine r_rem (by omega) ?_ | refine r_quo (by omega) ?_ | refine r_ldb (by assumption) (by rfl) ?_ | refine r_ldbE (by assumption) (by rfl) ?_))); (conv => whnf)
    refine r_nes (n := 3) (by kernel_rfl) rfl ⟨rfl, rfl, rfl, trivial⟩ fun b' hb' => ?_
    have hb' : b' = false := by
      cases b' with
      | false => rfl
      | true => exact absurd rfl (hb'.1 rfl)
    subst hb'
    have htl := take_len hagr.dl h6.pile.dist (by omega) m6
    (repeat ((conv => whnf); (first | with_reducible refine r_tt ?_ | with_reducible refine r_ff ?_ | with_reducible refine r_ntt ?_ | with_reducible refine r_nff ?_ | refine r_need (by omega) ?_ | refine r_i64 (by omega) ?_ | refine r_dect (by omega) ?_ | refine r_decf (by omega) ?_ | refine r_eqt (by omega) ?_ | refine r_eqf (by omega) ?_ | refine r_net (by omega) ?_ | refine r_nef (by omega) ?_ | refine r_u8 (by omega) ?_ | refine r_u64 (by omega) ?_ | refine r_i32 (by omega) ?_ | refine r_u32 (by omega) ?_ | refine r_rem (by omega) ?_ | refine r_quo (by omega) ?_ | refine r_ldb (by assumption) (by rfl) ?_ | refine r_ldbE (by assumption) (by rfl) ?_))); (conv => whnf)
    exact hagain3 (i + 1) w11 ⟨by omega, _, _, _, _, _, _, hd11, ⟨h6.pile.dist, h9.pile.dist, fun x => by rw [m6, m9, hagr.mem]⟩, by omega⟩ (by omega)
  have h0 : l1 = [] := List.length_eq_zero_iff.1 (by omega)
  subst h0
  have h0 : l2 = [] := List.length_eq_zero_iff.1 (by omega)
  subst h0
  (repeat ((conv => whnf); (first | with_reducible refine r_tt ?_ | with_reducible refine r_ff ?_ | with_reducible refine r_ntt ?_ | with_reducible refine r_nff ?_ | refine r_need (by omega) ?_ | refine r_i64 (by omega) ?_ | refine r_dect (by omega) ?_ | refine r_decf (by omega) ?_ | refine r_eqt (by omega) ?_ | refine r_eqf (by omega) ?_ | refine r_net (by omega) ?_ | refine r_nef (by omega) ?_ | refine r_u8 (by omega) ?_ | refine r_u64 (by omega) ?_ | refine r_i32 (by omega) ?_ | refine r_u32 (by omega) ?_ | refine r_rem (by omega) ?_ | refine r_quo (by omega) ?_ | refine r_ldb (by assumption) (by rfl) ?_ | refine r_ldbE (by assumption) (by rfl) ?_))); (conv => whnf)
  refine r_cal (Has_ok hd.p hpl) ?_
  rintro _ w6 ⟨hx6, rfl⟩
  rw [show hasE [] place = (⟨0, 0, 0⟩, false) from rfl]
  have hd6 := hd.ext' hx6
  (repeat ((conv => whnf); (first | with_reducible refine r_tt ?_ | with_reducible refine r_ff ?_ | with_reducible refine r_ntt ?_ | with_reducible refine r_nff ?_ | refine r_need (by omega) ?_ | refine r_i64 (by omega) ?_ | refine r_dect (by omega) ?_ | refine r_decf (by omega) ?_ | refine r_eqt (by omega) ?_ | refine r_eqf (by omega) ?_ | refine r_net (by omega) ?_ | refine r_nef (by omega) ?_ | refine r_u8 (by omega) ?_ | refine r_u64 (by omega) ?_ | refine r_i32 (by omega) ?_ | refine r_u32 (by omega) ?_ | refine r_rem (by omega) ?_ | refine r_quo (by omega) ?_ | refine r_ldb (by assumption) (by rfl) ?_ | refine r_ldbE (by assumption) (by rfl) ?_))); (conv => whnf)
  refine r_new fun b1 w7 hx7 hb7 hs7 hblk7 => ?_
  (repeat ((conv => whnf); (first | with_reducible refine r_tt ?_ | with_reducible refine r_ff ?_ | with_reducible refine r_ntt ?_ | with_reducible refine r_nff ?_ | refine r_need (by omega) ?_ | refine r_i64 (by omega) ?_ | refine r_dect (by omega) ?_ | refine r_decf (by omega) ?_ | refine r_eqt (by omega) ?_ | refine r_eqf (by omega) ?_ | refine r_net (by omega) ?_ | refine r_nef (by omega) ?_ | refine r_u8 (by omega) ?_ | refine r_u64 (by omega) ?_ | refine r_i32 (by omega) ?_ | refine r_u32 (by omega) ?_ | refine r_rem (by omega) ?_ | refine r_quo (by omega) ?_ | refine r_ldb (by assumption) (by rfl) ?_ | refine r_ldbE (by assumption) (by rfl) ?_))); (conv => whnf)
  refine r_stn hblk7 (by simp [En.cells]) (cells_one ⟨0, 0, 0⟩) fun w8 hc8 hs8 hblk8 => ?_
  have hx68 : Ext w6 w8 := Chg.step hx7 hc8 fun k hk hlt => by omega
  have hd8 := hd6.ext' hx68
  (repeat ((conv => whnf); (first | with_reducible refine r_tt ?_ | with_reducible refine r_ff ?_ | with_reducible refine r_ntt ?_ | with_reducible refine r_nff ?_ | refine r_need (by omega) ?_ | refine r_i64 (by omega) ?_ | refine r_dect (by omega) ?_ | refine r_decf (by omega) ?_ | refine r_eqt (by omega) ?_ | refine r_eqf (by omega) ?_ | refine r_net (by omega) ?_ | refine r_nef (by omega) ?_ | refine r_u8 (by omega) ?_ | refine r_u64 (by omega) ?_ | refine r_i32 (by omega) ?_ | refine r_u32 (by omega) ?_ | refine r_rem (by omega) ?_ | refine r_quo (by omega) ?_ | refine r_ldb (by assumption) (by rfl) ?_ | refine r_ldbE (by assumption) (by rfl) ?_))); (conv => whnf)
  refine r_cal (fixed_ok _) ?_
  rintro _ w9 ⟨hx9, rfl⟩
  have hd9 := hd8.ext' hx9
  (repeat ((conv => whnf); (first | with_reducible refine r_tt ?_ | with_reducible refine r_ff ?_ | with_reducible refine r_ntt ?_ | with_reducible refine r_nff ?_ | refine r_need (by omega) ?_ | refine r_i64 (by omega) ?_ | refine r_dect (by omega) ?_ | refine r_decf (by omega) ?_ | refine r_eqt (by omega) ?_ | refine r_eqf (by omega) ?_ | refine r_net (by omega) ?_ | refine r_nef (by omega) ?_ | refine r_u8 (by omega) ?_ | refine r_u64 (by omega) ?_ | refine r_i32 (by omega) ?_ | refine r_u32 (by omega) ?_ | refine r_rem (by omega) ?_ | refine r_quo (by omega) ?_ | refine r_ldb (by assumption) (by rfl) ?_ | refine r_ldbE (by assumption) (by rfl) ?_))); (conv => whnf)
  refine r_cal (aLen_ok hd9.p) ?_
  rintro _ w10 ⟨rfl, rfl⟩
  (repeat ((conv => whnf); (first | with_reducible refine r_tt ?_ | with_reducible refine r_ff ?_ | with_reducible refine r_ntt ?_ | with_reducible refine r_nff ?_ | refine r_need (by omega) ?_ | refine r_i64 (by omega) ?_ | refine r_dect (by omega) ?_ | refine r_decf (by omega) ?_ | refine r_eqt (by omega) ?_ | refine r_eqf (by omega) ?_ | refine r_net (by omega) ?_ | refine r_nef (by omega) ?_ | refine r_u8 (by omega) ?_ | refine r_u64 (by omega) ?_ | refine r_i32 (by omega) ?_ | refine r_u32 (by omega) ?_ | refine r_rem (by omega) ?_ | refine r_quo (by omega) ?_ | refine r_ldb (by assumption) (by rfl) ?_ | refine r_ldbE (by assumption) (by rfl) ?_))); (conv => whnf)
  refine r_cal (aLen_ok hd9.q) ?_
  rintro _ w11 ⟨rfl, rfl⟩
  (repeat ((conv => whnf); (first | with_reducible refine r_tt ?_ | with_reducible refine r_ff ?_ | with_reducible refine r_ntt ?_ | with_reducible refine r_nff ?_ | refine r_need (by omega) ?_ | refine r_i64 (by omega) ?_ | refine r_dect (by omega) ?_ | refine r_decf (by omega) ?_ | refine r_eqt (by omega) ?_ | refine r_eqf (by omega) ?_ | refine r_net (by omega) ?_ | refine r_nef (by omega) ?_ | refine r_u8 (by omega) ?_ | refine r_u64 (by omega) ?_ | refine r_i32 (by omega) ?_ | refine r_u32 (by omega) ?_ | refine r_rem (by omega) ?_ | refine r_quo (by omega) ?_ | refine r_ldb (by assumption) (by rfl) ?_ | refine r_ldbE (by assumption) (by rfl) ?_))); (conv => whnf)
  exact ⟨rfl, hd9.ext⟩
end
end Fb.Try.QU
