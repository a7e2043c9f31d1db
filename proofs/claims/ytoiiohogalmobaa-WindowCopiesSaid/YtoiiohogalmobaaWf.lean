/-
  Walks: the document's views, second part.
-/
import Derived.Test.YtoiiohogalmobaaWe
import Derived.Test.YtoiiohogalmobaaVb
namespace Fb.Try.WN
open Go Go.Proofs Fb Fb.Try.RW
theorem empty_own {w : World} {b base : Nat} (h : Blk w b 3 []) (hb : base ≤ b) : w.ownsRow base 3 1 (.slice (some ⟨b, 0, none⟩) 0 0) 0 [] :=
  ⟨rfl, .inr ⟨b, 0, #[], rfl, hb, h, Nat.le_refl _, by simp [maxLen], rfl, rfl⟩⟩
section
variable {w w' : World} {s : St} {n : Nat} {a1 : Option Addr} {l1 c1 : Nat} {a2 : Option Addr} {l2 c2 : Nat}
set_option maxHeartbeats 1000000 in
set_option maxRecDepth 100000 in
theorem rPush_ok (hw : IsW w s a1 l1 c1 a2 l2 c2) (h : s.Ok n) (t l : Int) :
    Cal Try.prog 63 ⟨[.agg ⟨wCells a1 l1 c1 a2 l2 c2 s⟩, .int .i64 t, .int .i64 l]⟩ w (Made w (s.push t l) a1 l1 a2 l2) := by
  have h1 := h.done
  have h2 := h.len
  have h3 := h.n
  have h4 := h.eq
  have hl := hw.lens
  refine go63 (by rfl) ?_
  (repeat ((conv => whnf); (first | with_reducible refine r_tt ?_ | with_reducible refine r_ff ?_ | with_reducible refine r_ntt ?_ | with_reducible refine r_nff ?_ | refine r_need (by omega) ?_ | refine r_i64 (by omega) ?_ | refine r_dect (by omega) ?_ | refine r_decf (by omega) ?_ | refine r_eqt (by omega) ?_ | refine r_eqf (by omega) ?_ | refine r_net (by omega) ?_ | refine r_nef (by omega) ?_ | refine r_u8 (by omega) ?_ | refine r_u64 (by omega) ?_ | refine r_i32 (by omega) ?_ | refine r_u32 (by omega) ?_ | refine r_rem (by omega) ?_ | refine r_quo (by omega) ?_ | refine r_ldb (by assumption) (by rfl) ?_ | refine r_ldbE (by assumption) (by rfl) ?_))); (conv => whnf)
  refine r_new fun b w1 hx1 hb1 hs1 hblk => ?_
  have hblk : Blk w1 b 60 [.slice a1 l1 c1, .slice a2 l2 c2, .int .i64 (s.done : Int), .int .i64 (s.keep : Int)] := hblk
  have hlb := hblk.lt
  (repeat ((conv => whnf); (first | with_reducible refine r_tt ?_ | with_reducible refine r_ff ?_ | with_reducible refine r_ntt ?_ | with_reducible refine r_nff ?_ | refine r_need (by omega) ?_ | refine r_i64 (by omega) ?_ | refine r_dect (by omega) ?_ | refine r_decf (by omega) ?_ | refine r_eqt (by omega) ?_ | refine r_eqf (by omega) ?_ | refine r_net (by omega) ?_ | refine r_nef (by omega) ?_ | refine r_u8 (by omega) ?_ | refine r_u64 (by omega) ?_ | refine r_i32 (by omega) ?_ | refine r_u32 (by omega) ?_ | refine r_rem (by omega) ?_ | refine r_quo (by omega) ?_ | refine r_ldb (by assumption) (by rfl) ?_ | refine r_ldbE (by assumption) (by rfl) ?_))); (conv => whnf)
  refine r_new fun c w2 hx2 hb2 hs2 hblkc => ?_
  have hlc := hblkc.lt
  have hblk := hblk.ext hx2
  by_cases hy : 1 ≤ l ∧ l ≤ 64
  rotate_left
  · have e : s.push t l = (s, 1) := by unfold St.push; rw [if_neg hy]
    rw [e]
    by_cases h0 : l < 1
    all_goals
      (repeat ((conv => whnf); (first | with_reducible refine r_tt ?_ | with_reducible refine r_ff ?_ | with_reducible refine r_ntt ?_ | with_reducible refine r_nff ?_ | refine r_need (by omega) ?_ | refine r_i64 (by omega) ?_ | refine r_dect (by omega) ?_ | refine r_decf (by omega) ?_ | refine r_eqt (by omega) ?_ | refine r_eqf (by omega) ?_ | refine r_net (by omega) ?_ | refine r_nef (by omega) ?_ | refine r_u8 (by omega) ?_ | refine r_u64 (by omega) ?_ | refine r_i32 (by omega) ?_ | refine r_u32 (by omega) ?_ | refine r_rem (by omega) ?_ | refine r_quo (by omega) ?_ | refine r_ldb (by assumption) (by rfl) ?_ | refine r_ldbE (by assumption) (by rfl) ?_))); (conv => whnf)
      refine r_ldnb (vs := wCells a1 l1 c1 a2 l2 c2 s) hblk rfl rfl ?_
      (repeat ((conv => whnf); (first | with_reducible refine r_tt ?_ | with_reducible refine r_ff ?_ | with_reducible refine r_ntt ?_ | with_reducible refine r_nff ?_ | refine r_need (by omega) ?_ | refine r_i64 (by omega) ?_ | refine r_dect (by omega) ?_ | refine r_decf (by omega) ?_ | refine r_eqt (by omega) ?_ | refine r_eqf (by omega) ?_ | refine r_net (by omega) ?_ | refine r_nef (by omega) ?_ | refine r_u8 (by omega) ?_ | refine r_u64 (by omega) ?_ | refine r_i32 (by omega) ?_ | refine r_u32 (by omega) ?_ | refine r_rem (by omega) ?_ | refine r_quo (by omega) ?_ | refine r_ldb (by assumption) (by rfl) ?_ | refine r_ldbE (by assumption) (by rfl) ?_))); (conv => whnf)
      refine r_stn hblkc (by simp [wCells]) (w_one a1 l1 c1 a2 l2 c2 s) fun w4 hc4 hs4 hblk4 => ?_
      have hblk4 : Blk w4 c 60 (wCells a1 l1 c1 a2 l2 c2 s) := hblk4
      (repeat ((conv => whnf); (first | with_reducible refine r_tt ?_ | with_reducible refine r_ff ?_ | with_reducible refine r_ntt ?_ | with_reducible refine r_nff ?_ | refine r_need (by omega) ?_ | refine r_i64 (by omega) ?_ | refine r_dect (by omega) ?_ | refine r_decf (by omega) ?_ | refine r_eqt (by omega) ?_ | refine r_eqf (by omega) ?_ | refine r_net (by omega) ?_ | refine r_nef (by omega) ?_ | refine r_u8 (by omega) ?_ | refine r_u64 (by omega) ?_ | refine r_i32 (by omega) ?_ | refine r_u32 (by omega) ?_ | refine r_rem (by omega) ?_ | refine r_quo (by omega) ?_ | refine r_ldb (by assumption) (by rfl) ?_ | refine r_ldbE (by assumption) (by rfl) ?_))); (conv => whnf)
      refine r_ldnb (vs := wCells a1 l1 c1 a2 l2 c2 s) hblk4 rfl rfl ?_
      (repeat ((conv => whnf); (first | with_reducible refine r_tt ?_ | with_reducible refine r_ff ?_ | with_reducible refine r_ntt ?_ | with_reducible refine r_nff ?_ | refine r_need (by omega) ?_ | refine r_i64 (by omega) ?_ | refine r_dect (by omega) ?_ | refine r_decf (by omega) ?_ | refine r_eqt (by omega) ?_ | refine r_eqf (by omega) ?_ | refine r_net (by omega) ?_ | refine r_nef (by omega) ?_ | refine r_u8 (by omega) ?_ | refine r_u64 (by omega) ?_ | refine r_i32 (by omega) ?_ | refine r_u32 (by omega) ?_ | refine r_rem (by omega) ?_ | refine r_quo (by omega) ?_ | refine r_ldb (by assumption) (by rfl) ?_ | refine r_ldbE (by assumption) (by rfl) ?_))); (conv => whnf)
      have hx4 : Ext w w4 := Chg.step (hx1.trans hx2) hc4 fun k hk hlt => by have := hx1.size; omega
      exact ⟨hx4, a1, l1, c1, a2, l2, c2, rfl, hw.ext hx4, fun S hS ho => ho⟩
  have e : s.push t l = ({ s with T := s.T ++ [t], Ls := s.Ls ++ [l] }, 0) := by unfold St.push; rw [if_pos hy]
  rw [e]
  have hx02 := hx1.trans hx2
  have hs02 := hx02.size
  have hs01 := hx1.size
  (repeat ((conv => whnf); (first | with_reducible refine r_tt ?_ | with_reducible refine r_ff ?_ | with_reducible refine r_ntt ?_ | with_reducible refine r_nff ?_ | refine r_need (by omega) ?_ | refine r_i64 (by omega) ?_ | refine r_dect (by omega) ?_ | refine r_decf (by omega) ?_ | refine r_eqt (by omega) ?_ | refine r_eqf (by omega) ?_ | refine r_net (by omega) ?_ | refine r_nef (by omega) ?_ | refine r_u8 (by omega) ?_ | refine r_u64 (by omega) ?_ | refine r_i32 (by omega) ?_ | refine r_u32 (by omega) ?_ | refine r_rem (by omega) ?_ | refine r_quo (by omega) ?_ | refine r_ldb (by assumption) (by rfl) ?_ | refine r_ldbE (by assumption) (by rfl) ?_))); (conv => whnf)
  refine r_new fun d w3 hx3 hb3 hs3 hblkd => ?_
  have hx03 := hx02.trans hx3
  have hblk := hblk.ext hx3
  have hblkc := hblkc.ext hx3
  (repeat ((conv => whnf); (first | with_reducible refine r_tt ?_ | with_reducible refine r_ff ?_ | with_reducible refine r_ntt ?_ | with_reducible refine r_nff ?_ | refine r_need (by omega) ?_ | refine r_i64 (by omega) ?_ | refine r_dect (by omega) ?_ | refine r_decf (by omega) ?_ | refine r_eqt (by omega) ?_ | refine r_eqf (by omega) ?_ | refine r_net (by omega) ?_ | refine r_nef (by omega) ?_ | refine r_u8 (by omega) ?_ | refine r_u64 (by omega) ?_ | refine r_i32 (by omega) ?_ | refine r_u32 (by omega) ?_ | refine r_rem (by omega) ?_ | refine r_quo (by omega) ?_ | refine r_ldb (by assumption) (by rfl) ?_ | refine r_ldbE (by assumption) (by rfl) ?_))); (conv => whnf)
  refine r_app eli (empty_own hblkd (Nat.le_refl _)) (hw.t.ext hx03) (iv_one _) (by omega) (by have := hblkd.lt; omega) fun v4 w4 hown4 hc4 _ => ?_
  have hne4 : ∀ k, (Value.slice (some ⟨d, 0, none⟩) 0 0).ownBlock = some k → k = d := fun k hk => by simp [Value.ownBlock] at hk; exact hk.symm
  have hx04 : Ext w w4 := Chg.step hx03 hc4 fun k hk hlt => by have := hne4 k hk; omega
  have hblk := hblk.keep hc4 (fun e => by have := hne4 _ e; omega)
  have hblkc := hblkc.keep hc4 (fun e => by have := hne4 _ e; omega)
  have hs34 := hc4.size
  (repeat ((conv => whnf); (first | with_reducible refine r_tt ?_ | with_reducible refine r_ff ?_ | with_reducible refine r_ntt ?_ | with_reducible refine r_nff ?_ | refine r_need (by omega) ?_ | refine r_i64 (by omega) ?_ | refine r_dect (by omega) ?_ | refine r_decf (by omega) ?_ | refine r_eqt (by omega) ?_ | refine r_eqf (by omega) ?_ | refine r_net (by omega) ?_ | refine r_nef (by omega) ?_ | refine r_u8 (by omega) ?_ | refine r_u64 (by omega) ?_ | refine r_i32 (by omega) ?_ | refine r_u32 (by omega) ?_ | refine r_rem (by omega) ?_ | refine r_quo (by omega) ?_ | refine r_ldb (by assumption) (by rfl) ?_ | refine r_ldbE (by assumption) (by rfl) ?_))); (conv => whnf)
  refine r_new fun f w5 hx5 hb5 hs5 hblkf => ?_
  have hx05 := hx04.trans hx5
  have hblk := hblk.ext hx5
  have hblkc := hblkc.ext hx5
  have hown5 := own_ext hown4 hx5
  (repeat ((conv => whnf); (first | with_reducible refine r_tt ?_ | with_reducible refine r_ff ?_ | with_reducible refine r_ntt ?_ | with_reducible refine r_nff ?_ | refine r_need (by omega) ?_ | refine r_i64 (by omega) ?_ | refine r_dect (by omega) ?_ | refine r_decf (by omega) ?_ | refine r_eqt (by omega) ?_ | refine r_eqf (by omega) ?_ | refine r_net (by omega) ?_ | refine r_nef (by omega) ?_ | refine r_u8 (by omega) ?_ | refine r_u64 (by omega) ?_ | refine r_i32 (by omega) ?_ | refine r_u32 (by omega) ?_ | refine r_rem (by omega) ?_ | refine r_quo (by omega) ?_ | refine r_ldb (by assumption) (by rfl) ?_ | refine r_ldbE (by assumption) (by rfl) ?_))); (conv => whnf)
  refine r_app eli (empty_own hblkf (Nat.le_refl _)) (hw.l.ext hx05) (iv_one _) (by omega) (by have := hblkf.lt; omega) fun v6 w6 hown6 hc6 _ => ?_
  have hne6 : ∀ k, (Value.slice (some ⟨f, 0, none⟩) 0 0).ownBlock = some k → k = f := fun k hk => by simp [Value.ownBlock] at hk; exact hk.symm
  have hx06 : Ext w w6 := Chg.step hx05 hc6 fun k hk hlt => by have := hne6 k hk; have := hx04.size; omega
  have hblk := hblk.keep hc6 (fun e => by have := hne6 _ e; omega)
  have hblkc := hblkc.keep hc6 (fun e => by have := hne6 _ e; omega)
  have hlt4 : ∀ k, v4.ownBlock = some k → d ≤ k ∧ k < f := fun k hk => by have := hown4.lt k hk; omega
  have hown56 := own_keep hown5 hc6 (fun k hk e => by have := hne6 _ e; have := (hlt4 k hk).2; omega)
  have hs56 := hc6.size
  have hs6 : f < w6.heap.size := by have := hblkf.lt; omega
  have hbl6 := hblk.lt
  have hcl6 := hblkc.lt
  have hge6 : ∀ k, v6.ownBlock = some k → f ≤ k := fun k hk => own_ge hown6 hk
  have hbd : b < d := by omega
  have hcd : c < d := by omega
  have hdf : d < f := by have := hblkd.lt; omega
  simp only [Nat.zero_add, List.nil_append] at hown56 hown6
  clear hown4 hown5 hc4 hc6 hblkd hblkf hx5 hx3 hx05 hx04 hx03
  have hnb : ¬ d ≤ b := by omega
  have hnc : ¬ d ≤ c := by omega
  (repeat ((conv => whnf); (first | with_reducible refine r_tt ?_ | with_reducible refine r_ff ?_ | with_reducible refine r_ntt ?_ | with_reducible refine r_nff ?_ | refine r_need (by omega) ?_ | refine r_i64 (by omega) ?_ | refine r_dect (by omega) ?_ | refine r_decf (by omega) ?_ | refine r_eqt (by omega) ?_ | refine r_eqf (by omega) ?_ | refine r_net (by omega) ?_ | refine r_nef (by omega) ?_ | refine r_u8 (by omega) ?_ | refine r_u64 (by omega) ?_ | refine r_i32 (by omega) ?_ | refine r_u32 (by omega) ?_ | refine r_rem (by omega) ?_ | refine r_quo (by omega) ?_ | refine r_ldb (by assumption) (by rfl) ?_ | refine r_ldbE (by assumption) (by rfl) ?_))); (conv => whnf)
  refine r_drawS (fun k => d ≤ k) fun w7 hx7 hh7 => ?_
  have hown57 := own_ext hown56 hx7
  have hown7 := own_ext hown6 hx7
  have hs7 := hx7.size
  (repeat ((conv => whnf); (first | refine r_ldbS hblk (by rfl) hnb ?_ | with_reducible refine r_tt ?_ | with_reducible refine r_ff ?_ | with_reducible refine r_ntt ?_ | with_reducible refine r_nff ?_ | refine r_need (by omega) ?_ | refine r_i64 (by omega) ?_ | refine r_dect (by omega) ?_ | refine r_decf (by omega) ?_ | refine r_eqt (by omega) ?_ | refine r_eqf (by omega) ?_ | refine r_net (by omega) ?_ | refine r_nef (by omega) ?_ | refine r_u8 (by omega) ?_ | refine r_u64 (by omega) ?_ | refine r_i32 (by omega) ?_ | refine r_u32 (by omega) ?_ | refine r_rem (by omega) ?_ | refine r_quo (by omega) ?_ | refine r_ldb (by assumption) (by rfl) ?_ | refine r_ldbE (by assumption) (by rfl) ?_))); (conv => whnf)
  have hfin : ∀ (w8 : World) (u1 u2 : Value), Chg (fun k => d ≤ k) w6 w8 → w8.ownsRow d 3 1 u1 (s.T.length + 1) (iv (s.T ++ [t])) → w8.ownsRow f 3 1 u2 (s.Ls.length + 1) (iv (s.Ls ++ [l])) →
      ∃ x1 y1 x2 y2, u1 = .slice x1 (s.T.length + 1) y1 ∧ u2 = .slice x2 (s.Ls.length + 1) y2 ∧ ∀ w9 : World, Chg (· = c) w8 w9 → Ext w w9 ∧ IsW w9 { s with T := s.T ++ [t], Ls := s.Ls ++ [l] } x1 (s.T.length + 1) y1 x2 (s.Ls.length + 1) y2 ∧ Sub w a1 l1 a2 l2 x1 (s.T.length + 1) x2 (s.Ls.length + 1) := by
    intro w8 u1 u2 hc ho1 ho2
    obtain ⟨x1, y1, rfl, hv1, hz1, hg1⟩ := View.of_own ho1
    obtain ⟨x2, y2, rfl, hv2, hz2, hg2⟩ := View.of_own ho2
    have hp1 := hv1.plain (by simp [iv])
    have hp2 := hv2.plain (by simp [iv])
    unfold plainA at hp1 hp2
    have g1 := hg1 _ hp1
    have g2 := hg2 _ hp2
    dsimp only at g1 g2
    refine ⟨x1, y1, x2, y2, rfl, rfl, fun w9 hc9 => ⟨Chg.step (Chg.step hx06 hc fun k hk hlt => by omega) hc9 fun k hk hlt => by omega, ⟨hv1.keepN hc9 fun _ e => by omega, hv2.keepN hc9 fun _ e => by omega⟩, fun S hS ho => ⟨fun _ hs => by have := hS _ hs; omega, fun _ hs => by have := hS _ hs; omega⟩⟩⟩
  have hsn : ∀ (L : List Int) (x : Int), iv (L ++ [x]) = iv L ++ [.int .i64 x] := fun L x => by simp [iv]
  have hv4d : ∀ k, v4.ownBlock = some k → d ≤ k := fun k hk => (hlt4 k hk).1
  have e1 : l1 = s.T.length := hl.1.symm
  have e2 : l2 = s.Ls.length := hl.2.1.symm
  subst e1 e2
  have hc7 : Chg (fun k => d ≤ k) w6 w7 := hx7.wide _
  have o1_7 := hown57
  have o2_7 := hown7
  refine r_both ?_ ?_
  focus
    (repeat ((conv => whnf); (first | with_reducible refine r_tt ?_ | with_reducible refine r_ff ?_ | with_reducible refine r_ntt ?_ | with_reducible refine r_nff ?_ | refine r_need (by omega) ?_ | refine r_i64 (by omega) ?_ | refine r_dect (by omega) ?_ | refine r_decf (by omega) ?_ | refine r_eqt (by omega) ?_ | refine r_eqf (by omega) ?_ | refine r_net (by omega) ?_ | refine r_nef (by omega) ?_ | refine r_u8 (by omega) ?_ | refine r_u64 (by omega) ?_ | refine r_i32 (by omega) ?_ | refine r_u32 (by omega) ?_ | refine r_rem (by omega) ?_ | refine r_quo (by omega) ?_ | refine r_ldb (by assumption) (by rfl) ?_ | refine r_ldbE (by assumption) (by rfl) ?_))); (conv => whnf)
    refine r_new fun p w8 hx8 hb8 hs8 hblkp => ?_
    have hblkp : Blk w8 p 3 [.int .i64 t] := hblkp
    have hc8 := hc7.ext hx8
    have hz8 := hx8.size
    have o1_8 := own_ext o1_7 hx8
    have o2_8 := own_ext o2_7 hx8
    (repeat ((conv => whnf); (first | with_reducible refine r_tt ?_ | with_reducible refine r_ff ?_ | with_reducible refine r_ntt ?_ | with_reducible refine r_nff ?_ | refine r_need (by omega) ?_ | refine r_i64 (by omega) ?_ | refine r_dect (by omega) ?_ | refine r_decf (by omega) ?_ | refine r_eqt (by omega) ?_ | refine r_eqf (by omega) ?_ | refine r_net (by omega) ?_ | refine r_nef (by omega) ?_ | refine r_u8 (by omega) ?_ | refine r_u64 (by omega) ?_ | refine r_i32 (by omega) ?_ | refine r_u32 (by omega) ?_ | refine r_rem (by omega) ?_ | refine r_quo (by omega) ?_ | refine r_ldb (by assumption) (by rfl) ?_ | refine r_ldbE (by assumption) (by rfl) ?_))); (conv => whnf)
    refine r_held hc8 ?_
    (repeat ((conv => whnf); (first | with_reducible refine r_tt ?_ | with_reducible refine r_ff ?_ | with_reducible refine r_ntt ?_ | with_reducible refine r_nff ?_ | refine r_need (by omega) ?_ | refine r_i64 (by omega) ?_ | refine r_dect (by omega) ?_ | refine r_decf (by omega) ?_ | refine r_eqt (by omega) ?_ | refine r_eqf (by omega) ?_ | refine r_net (by omega) ?_ | refine r_nef (by omega) ?_ | refine r_u8 (by omega) ?_ | refine r_u64 (by omega) ?_ | refine r_i32 (by omega) ?_ | refine r_u32 (by omega) ?_ | refine r_rem (by omega) ?_ | refine r_quo (by omega) ?_ | refine r_ldb (by assumption) (by rfl) ?_ | refine r_ldbE (by assumption) (by rfl) ?_))); (conv => whnf)
    refine r_both ?_ ?_
    focus
      (repeat ((conv => whnf); (first | with_reducible refine r_tt ?_ | with_reducible refine r_ff ?_ | with_reducible refine r_ntt ?_ | with_reducible refine r_nff ?_ | refine r_need (by omega) ?_ | refine r_i64 (by omega) ?_ | refine r_dect (by omega) ?_ | refine r_decf (by omega) ?_ | refine r_eqt (by omega) ?_ | refine r_eqf (by omega) ?_ | refine r_net (by omega) ?_ | refine r_nef (by omega) ?_ | refine r_u8 (by omega) ?_ | refine r_u64 (by omega) ?_ | refine r_i32 (by omega) ?_ | refine r_u32 (by omega) ?_ | refine r_rem (by omega) ?_ | refine r_quo (by omega) ?_ | refine r_ldb (by assumption) (by rfl) ?_ | refine r_ldbE (by assumption) (by rfl) ?_))); (conv => whnf)
      refine r_appAt eli o1_8 (View.of_blk (n := 1) hblkp (by simp) (by simp [maxLen])) (by simp [Value.oneCell']) (by omega) (by omega) fun u1 w9 o1_9 hcx9 _ hat => ?_
      have hc9 : Chg (fun k => d ≤ k) w6 w9 := Chg.step hc8 hcx9 fun k hk _ => hv4d k hk
      have o2_9 := own_keep o2_8 hcx9 fun k hk e => by have := hge6 k hk; have := (hlt4 k e).2; omega
      have hz9 := hcx9.size
      have hu1 : ∀ k, u1.ownBlock = some k → ¬ v6.ownBlock = some k := fun k hk e => by
        have hk6 := hge6 k e
        have hk7 := (o2_8.lt k e).2
        rcases hat with ha | ha
        · have := (hlt4 k (ha ▸ hk)).2; omega
        · rw [ha] at hk; cases hk; omega
      (repeat ((conv => whnf); (first | with_reducible refine r_tt ?_ | with_reducible refine r_ff ?_ | with_reducible refine r_ntt ?_ | with_reducible refine r_nff ?_ | refine r_need (by omega) ?_ | refine r_i64 (by omega) ?_ | refine r_dect (by omega) ?_ | refine r_decf (by omega) ?_ | refine r_eqt (by omega) ?_ | refine r_eqf (by omega) ?_ | refine r_net (by omega) ?_ | refine r_nef (by omega) ?_ | refine r_u8 (by omega) ?_ | refine r_u64 (by omega) ?_ | refine r_i32 (by omega) ?_ | refine r_u32 (by omega) ?_ | refine r_rem (by omega) ?_ | refine r_quo (by omega) ?_ | refine r_ldb (by assumption) (by rfl) ?_ | refine r_ldbE (by assumption) (by rfl) ?_))); (conv => whnf)
      refine r_held hc9 ?_
      (repeat ((conv => whnf); (first | with_reducible refine r_tt ?_ | with_reducible refine r_ff ?_ | with_reducible refine r_ntt ?_ | with_reducible refine r_nff ?_ | refine r_need (by omega) ?_ | refine r_i64 (by omega) ?_ | refine r_dect (by omega) ?_ | refine r_decf (by omega) ?_ | refine r_eqt (by omega) ?_ | refine r_eqf (by omega) ?_ | refine r_net (by omega) ?_ | refine r_nef (by omega) ?_ | refine r_u8 (by omega) ?_ | refine r_u64 (by omega) ?_ | refine r_i32 (by omega) ?_ | refine r_u32 (by omega) ?_ | refine r_rem (by omega) ?_ | refine r_quo (by omega) ?_ | refine r_ldb (by assumption) (by rfl) ?_ | refine r_ldbE (by assumption) (by rfl) ?_))); (conv => whnf)
      refine r_new fun q w10 hx10 hb10 hs10 hblkq => ?_
      have hblkq : Blk w10 q 3 [.int .i64 l] := hblkq
      have hc10 := hc9.ext hx10
      have hz10 := hx10.size
      have o1_10 := own_ext o1_9 hx10
      have o2_10 := own_ext o2_9 hx10
      (repeat ((conv => whnf); (first | with_reducible refine r_tt ?_ | with_reducible refine r_ff ?_ | with_reducible refine r_ntt ?_ | with_reducible refine r_nff ?_ | refine r_need (by omega) ?_ | refine r_i64 (by omega) ?_ | refine r_dect (by omega) ?_ | refine r_decf (by omega) ?_ | refine r_eqt (by omega) ?_ | refine r_eqf (by omega) ?_ | refine r_net (by omega) ?_ | refine r_nef (by omega) ?_ | refine r_u8 (by omega) ?_ | refine r_u64 (by omega) ?_ | refine r_i32 (by omega) ?_ | refine r_u32 (by omega) ?_ | refine r_rem (by omega) ?_ | refine r_quo (by omega) ?_ | refine r_ldb (by assumption) (by rfl) ?_ | refine r_ldbE (by assumption) (by rfl) ?_))); (conv => whnf)
      refine r_held hc10 ?_
      (repeat ((conv => whnf); (first | with_reducible refine r_tt ?_ | with_reducible refine r_ff ?_ | with_reducible refine r_ntt ?_ | with_reducible refine r_nff ?_ | refine r_need (by omega) ?_ | refine r_i64 (by omega) ?_ | refine r_dect (by omega) ?_ | refine r_decf (by omega) ?_ | refine r_eqt (by omega) ?_ | refine r_eqf (by omega) ?_ | refine r_net (by omega) ?_ | refine r_nef (by omega) ?_ | refine r_u8 (by omega) ?_ | refine r_u64 (by omega) ?_ | refine r_i32 (by omega) ?_ | refine r_u32 (by omega) ?_ | refine r_rem (by omega) ?_ | refine r_quo (by omega) ?_ | refine r_ldb (by assumption) (by rfl) ?_ | refine r_ldbE (by assumption) (by rfl) ?_))); (conv => whnf)
      refine r_app eli o2_10 (View.of_blk (n := 1) hblkq (by simp) (by simp [maxLen])) (by simp [Value.oneCell']) (by omega) (by omega) fun u2 w11 o2_11 hcx11 _ => ?_
      have hc11 : Chg (fun k => d ≤ k) w6 w11 := Chg.step hc10 hcx11 fun k hk _ => by have := hge6 k hk; omega
      have o1_11 := own_keep o1_10 hcx11 fun k hk e => hu1 k hk e
      obtain ⟨x1, y1, x2, y2, rfl, rfl, hend⟩ := hfin w11 u1 u2 hc11 (by rw [hsn]; exact o1_11) (by rw [hsn]; exact o2_11)
      (repeat ((conv => whnf); (first | with_reducible refine r_tt ?_ | with_reducible refine r_ff ?_ | with_reducible refine r_ntt ?_ | with_reducible refine r_nff ?_ | refine r_need (by omega) ?_ | refine r_i64 (by omega) ?_ | refine r_dect (by omega) ?_ | refine r_decf (by omega) ?_ | refine r_eqt (by omega) ?_ | refine r_eqf (by omega) ?_ | refine r_net (by omega) ?_ | refine r_nef (by omega) ?_ | refine r_u8 (by omega) ?_ | refine r_u64 (by omega) ?_ | refine r_i32 (by omega) ?_ | refine r_u32 (by omega) ?_ | refine r_rem (by omega) ?_ | refine r_quo (by omega) ?_ | refine r_ldb (by assumption) (by rfl) ?_ | refine r_ldbE (by assumption) (by rfl) ?_))); (conv => whnf)
      refine r_held hc11 ?_
      (repeat ((conv => whnf); (first | with_reducible refine r_tt ?_ | with_reducible refine r_ff ?_ | with_reducible refine r_ntt ?_ | with_reducible refine r_nff ?_ | refine r_need (by omega) ?_ | refine r_i64 (by omega) ?_ | refine r_dect (by omega) ?_ | refine r_decf (by omega) ?_ | refine r_eqt (by omega) ?_ | refine r_eqf (by omega) ?_ | refine r_net (by omega) ?_ | refine r_nef (by omega) ?_ | refine r_u8 (by omega) ?_ | refine r_u64 (by omega) ?_ | refine r_i32 (by omega) ?_ | refine r_u32 (by omega) ?_ | refine r_rem (by omega) ?_ | refine r_quo (by omega) ?_ | refine r_ldb (by assumption) (by rfl) ?_ | refine r_ldbE (by assumption) (by rfl) ?_))); (conv => whnf)
      refine r_stn (hblkc.keep hc11 hnc) (by simp) (w_one x1 (s.T.length + 1) y1 x2 (s.Ls.length + 1) y2 s) fun w12 hc12 hs12 hblk12 => ?_
      have hblk12 : Blk w12 c 60 (wCells x1 (s.T.length + 1) y1 x2 (s.Ls.length + 1) y2 s) := hblk12
      (repeat ((conv => whnf); (first | with_reducible refine r_tt ?_ | with_reducible refine r_ff ?_ | with_reducible refine r_ntt ?_ | with_reducible refine r_nff ?_ | refine r_need (by omega) ?_ | refine r_i64 (by omega) ?_ | refine r_dect (by omega) ?_ | refine r_decf (by omega) ?_ | refine r_eqt (by omega) ?_ | refine r_eqf (by omega) ?_ | refine r_net (by omega) ?_ | refine r_nef (by omega) ?_ | refine r_u8 (by omega) ?_ | refine r_u64 (by omega) ?_ | refine r_i32 (by omega) ?_ | refine r_u32 (by omega) ?_ | refine r_rem (by omega) ?_ | refine r_quo (by omega) ?_ | refine r_ldb (by assumption) (by rfl) ?_ | refine r_ldbE (by assumption) (by rfl) ?_))); (conv => whnf)
      refine r_ldnb (vs := wCells x1 (s.T.length + 1) y1 x2 (s.Ls.length + 1) y2 s) hblk12 rfl rfl ?_
      (repeat ((conv => whnf); (first | with_reducible refine r_tt ?_ | with_reducible refine r_ff ?_ | with_reducible refine r_ntt ?_ | with_reducible refine r_nff ?_ | refine r_need (by omega) ?_ | refine r_i64 (by omega) ?_ | refine r_dect (by omega) ?_ | refine r_decf (by omega) ?_ | refine r_eqt (by omega) ?_ | refine r_eqf (by omega) ?_ | refine r_net (by omega) ?_ | refine r_nef (by omega) ?_ | refine r_u8 (by omega) ?_ | refine r_u64 (by omega) ?_ | refine r_i32 (by omega) ?_ | refine r_u32 (by omega) ?_ | refine r_rem (by omega) ?_ | refine r_quo (by omega) ?_ | refine r_ldb (by assumption) (by rfl) ?_ | refine r_ldbE (by assumption) (by rfl) ?_))); (conv => whnf)
      obtain ⟨f1, f2, f3⟩ := hend w12 hc12
      exact ⟨f1, x1, _, y1, x2, _, y2, rfl, f2, f3⟩
    (repeat ((conv => whnf); (first | with_reducible refine r_tt ?_ | with_reducible refine r_ff ?_ | with_reducible refine r_ntt ?_ | with_reducible refine r_nff ?_ | refine r_need (by omega) ?_ | refine r_i64 (by omega) ?_ | refine r_dect (by omega) ?_ | refine r_decf (by omega) ?_ | refine r_eqt (by omega) ?_ | refine r_eqf (by omega) ?_ | refine r_net (by omega) ?_ | refine r_nef (by omega) ?_ | refine r_u8 (by omega) ?_ | refine r_u64 (by omega) ?_ | refine r_i32 (by omega) ?_ | refine r_u32 (by omega) ?_ | refine r_rem (by omega) ?_ | refine r_quo (by omega) ?_ | refine r_ldb (by assumption) (by rfl) ?_ | refine r_ldbE (by assumption) (by rfl) ?_))); (conv => whnf)
    refine r_new fun q w9 hx9 hb9 hs9 hblkq => ?_
    have hblkq : Blk w9 q 3 [.int .i64 l] := hblkq
    have hc9 := hc8.ext hx9
    have hz9 := hx9.size
    have o1_9 := own_ext o1_8 hx9
    have o2_9 := own_ext o2_8 hx9
    have hblkp := hblkp.ext hx9
    (repeat ((conv => whnf); (first | with_reducible refine r_tt ?_ | with_reducible refine r_ff ?_ | with_reducible refine r_ntt ?_ | with_reducible refine r_nff ?_ | refine r_need (by omega) ?_ | refine r_i64 (by omega) ?_ | refine r_dect (by omega) ?_ | refine r_decf (by omega) ?_ | refine r_eqt (by omega) ?_ | refine r_eqf (by omega) ?_ | refine r_net (by omega) ?_ | refine r_nef (by omega) ?_ | refine r_u8 (by omega) ?_ | refine r_u64 (by omega) ?_ | refine r_i32 (by omega) ?_ | refine r_u32 (by omega) ?_ | refine r_rem (by omega) ?_ | refine r_quo (by omega) ?_ | refine r_ldb (by assumption) (by rfl) ?_ | refine r_ldbE (by assumption) (by rfl) ?_))); (conv => whnf)
    refine r_held hc9 ?_
    (repeat ((conv => whnf); (first | with_reducible refine r_tt ?_ | with_reducible refine r_ff ?_ | with_reducible refine r_ntt ?_ | with_reducible refine r_nff ?_ | refine r_need (by omega) ?_ | refine r_i64 (by omega) ?_ | refine r_dect (by omega) ?_ | refine r_decf (by omega) ?_ | refine r_eqt (by omega) ?_ | refine r_eqf (by omega) ?_ | refine r_net (by omega) ?_ | refine r_nef (by omega) ?_ | refine r_u8 (by omega) ?_ | refine r_u64 (by omega) ?_ | refine r_i32 (by omega) ?_ | refine r_u32 (by omega) ?_ | refine r_rem (by omega) ?_ | refine r_quo (by omega) ?_ | refine r_ldb (by assumption) (by rfl) ?_ | refine r_ldbE (by assumption) (by rfl) ?_))); (conv => whnf)
    refine r_appAt eli o1_9 (View.of_blk (n := 1) hblkp (by simp) (by simp [maxLen])) (by simp [Value.oneCell']) (by omega) (by omega) fun u1 w10 o1_10 hcx10 _ hat => ?_
    have hc10 : Chg (fun k => d ≤ k) w6 w10 := Chg.step hc9 hcx10 fun k hk _ => hv4d k hk
    have o2_10 := own_keep o2_9 hcx10 fun k hk e => by have := hge6 k hk; have := (hlt4 k e).2; omega
    have hz10 := hcx10.size
    have hu1 : ∀ k, u1.ownBlock = some k → ¬ v6.ownBlock = some k := fun k hk e => by
      have hk6 := hge6 k e
      have hk7 := (o2_9.lt k e).2
      rcases hat with ha | ha
      · have := (hlt4 k (ha ▸ hk)).2; omega
      · rw [ha] at hk; cases hk; omega
    have hblkq := hblkq.keep hcx10 (fun e => by have := (hlt4 _ e).2; omega)
    (repeat ((conv => whnf); (first | with_reducible refine r_tt ?_ | with_reducible refine r_ff ?_ | with_reducible refine r_ntt ?_ | with_reducible refine r_nff ?_ | refine r_need (by omega) ?_ | refine r_i64 (by omega) ?_ | refine r_dect (by omega) ?_ | refine r_decf (by omega) ?_ | refine r_eqt (by omega) ?_ | refine r_eqf (by omega) ?_ | refine r_net (by omega) ?_ | refine r_nef (by omega) ?_ | refine r_u8 (by omega) ?_ | refine r_u64 (by omega) ?_ | refine r_i32 (by omega) ?_ | refine r_u32 (by omega) ?_ | refine r_rem (by omega) ?_ | refine r_quo (by omega) ?_ | refine r_ldb (by assumption) (by rfl) ?_ | refine r_ldbE (by assumption) (by rfl) ?_))); (conv => whnf)
    refine r_held hc10 ?_
    (repeat ((conv => whnf); (first | with_reducible refine r_tt ?_ | with_reducible refine r_ff ?_ | with_reducible refine r_ntt ?_ | with_reducible refine r_nff ?_ | refine r_need (by omega) ?_ | refine r_i64 (by omega) ?_ | refine r_dect (by omega) ?_ | refine r_decf (by omega) ?_ | refine r_eqt (by omega) ?_ | refine r_eqf (by omega) ?_ | refine r_net (by omega) ?_ | refine r_nef (by omega) ?_ | refine r_u8 (by omega) ?_ | refine r_u64 (by omega) ?_ | refine r_i32 (by omega) ?_ | refine r_u32 (by omega) ?_ | refine r_rem (by omega) ?_ | refine r_quo (by omega) ?_ | refine r_ldb (by assumption) (by rfl) ?_ | refine r_ldbE (by assumption) (by rfl) ?_))); (conv => whnf)
    refine r_app eli o2_10 (View.of_blk (n := 1) hblkq (by simp) (by simp [maxLen])) (by simp [Value.oneCell']) (by omega) (by omega) fun u2 w11 o2_11 hcx11 _ => ?_
    have hc11 : Chg (fun k => d ≤ k) w6 w11 := Chg.step hc10 hcx11 fun k hk _ => by have := hge6 k hk; omega
    have o1_11 := own_keep o1_10 hcx11 fun k hk e => hu1 k hk e
    obtain ⟨x1, y1, x2, y2, rfl, rfl, hend⟩ := hfin w11 u1 u2 hc11 (by rw [hsn]; exact o1_11) (by rw [hsn]; exact o2_11)
    (repeat ((conv => whnf); (first | with_reducible refine r_tt ?_ | with_reducible refine r_ff ?_ | with_reducible refine r_ntt ?_ | with_reducible refine r_nff ?_ | refine r_need (by omega) ?_ | refine r_i64 (by omega) ?_ | refine r_dect (by omega) ?_ | refine r_decf (by omega) ?_ | refine r_eqt (by omega) ?_ | refine r_eqf (by omega) ?_ | refine r_net (by omega) ?_ | refine r_nef (by omega) ?_ | refine r_u8 (by omega) ?_ | refine r_u64 (by omega) ?_ | refine r_i32 (by omega) ?_ | refine r_u32 (by omega) ?_ | refine r_rem (by omega) ?_ | refine r_quo (by omega) ?_ | refine r_ldb (by assumption) (by rfl) ?_ | refine r_ldbE (by assumption) (by rfl) ?_))); (conv => whnf)
    refine r_held hc11 ?_
    (repeat ((conv => whnf); (first | with_reducible refine r_tt ?_ | with_reducible refine r_ff ?_ | with_reducible refine r_ntt ?_ | with_reducible refine r_nff ?_ | refine r_need (by omega) ?_ | refine r_i64 (by omega) ?_ | refine r_dect (by omega) ?_ | refine r_decf (by omega) ?_ | refine r_eqt (by omega) ?_ | refine r_eqf (by omega) ?_ | refine r_net (by omega) ?_ | refine r_nef (by omega) ?_ | refine r_u8 (by omega) ?_ | refine r_u64 (by omega) ?_ | refine r_i32 (by omega) ?_ | refine r_u32 (by omega) ?_ | refine r_rem (by omega) ?_ | refine r_quo (by omega) ?_ | refine r_ldb (by assumption) (by rfl) ?_ | refine r_ldbE (by assumption) (by rfl) ?_))); (conv => whnf)
    refine r_stn (hblkc.keep hc11 hnc) (by simp) (w_one x1 (s.T.length + 1) y1 x2 (s.Ls.length + 1) y2 s) fun w12 hc12 hs12 hblk12 => ?_
    have hblk12 : Blk w12 c 60 (wCells x1 (s.T.length + 1) y1 x2 (s.Ls.length + 1) y2 s) := hblk12
    (repeat ((conv => whnf); (first | with_reducible refine r_tt ?_ | with_reducible refine r_ff ?_ | with_reducible refine r_ntt ?_ | with_reducible refine r_nff ?_ | refine r_need (by omega) ?_ | refine r_i64 (by omega) ?_ | refine r_dect (by omega) ?_ | refine r_decf (by omega) ?_ | refine r_eqt (by omega) ?_ | refine r_eqf (by omega) ?_ | refine r_net (by omega) ?_ | refine r_nef (by omega) ?_ | refine r_u8 (by omega) ?_ | refine r_u64 (by omega) ?_ | refine r_i32 (by omega) ?_ | refine r_u32 (by omega) ?_ | refine r_rem (by omega) ?_ | refine r_quo (by omega) ?_ | refine r_ldb (by assumption) (by rfl) ?_ | refine r_ldbE (by assumption) (by rfl) ?_))); (conv => whnf)
    refine r_ldnb (vs := wCells x1 (s.T.length + 1) y1 x2 (s.Ls.length + 1) y2 s) hblk12 rfl rfl ?_
    (repeat ((conv => whnf); (first | with_reducible refine r_tt ?_ | with_reducible refine r_ff ?_ | with_reducible refine r_ntt ?_ | with_reducible refine r_nff ?_ | refine r_need (by omega) ?_ | refine r_i64 (by omega) ?_ | refine r_dect (by omega) ?_ | refine r_decf (by omega) ?_ | refine r_eqt (by omega) ?_ | refine r_eqf (by omega) ?_ | refine r_net (by omega) ?_ | refine r_nef (by omega) ?_ | refine r_u8 (by omega) ?_ | refine r_u64 (by omega) ?_ | refine r_i32 (by omega) ?_ | refine r_u32 (by omega) ?_ | refine r_rem (by omega) ?_ | refine r_quo (by omega) ?_ | refine r_ldb (by assumption) (by rfl) ?_ | refine r_ldbE (by assumption) (by rfl) ?_))); (conv => whnf)
    obtain ⟨f1, f2, f3⟩ := hend w12 hc12
    exact ⟨f1, x1, _, y1, x2, _, y2, rfl, f2, f3⟩
  (repeat ((conv => whnf); (first | with_reducible refine r_tt ?_ | with_reducible refine r_ff ?_ | with_reducible refine r_ntt ?_ | with_reducible refine r_nff ?_ | refine r_need (by omega) ?_ | refine r_i64 (by omega) ?_ | refine r_dect (by omega) ?_ | refine r_decf (by omega) ?_ | refine r_eqt (by omega) ?_ | refine r_eqf (by omega) ?_ | refine r_net (by omega) ?_ | refine r_nef (by omega) ?_ | refine r_u8 (by omega) ?_ | refine r_u64 (by omega) ?_ | refine r_i32 (by omega) ?_ | refine r_u32 (by omega) ?_ | refine r_rem (by omega) ?_ | refine r_quo (by omega) ?_ | refine r_ldb (by assumption) (by rfl) ?_ | refine r_ldbE (by assumption) (by rfl) ?_))); (conv => whnf)
  refine r_new fun q w8 hx8 hb8 hs8 hblkq => ?_
  have hblkq : Blk w8 q 3 [.int .i64 l] := hblkq
  have hc8 := hc7.ext hx8
  have hz8 := hx8.size
  have o1_8 := own_ext o1_7 hx8
  have o2_8 := own_ext o2_7 hx8
  (repeat ((conv => whnf); (first | with_reducible refine r_tt ?_ | with_reducible refine r_ff ?_ | with_reducible refine r_ntt ?_ | with_reducible refine r_nff ?_ | refine r_need (by omega) ?_ | refine r_i64 (by omega) ?_ | refine r_dect (by omega) ?_ | refine r_decf (by omega) ?_ | refine r_eqt (by omega) ?_ | refine r_eqf (by omega) ?_ | refine r_net (by omega) ?_ | refine r_nef (by omega) ?_ | refine r_u8 (by omega) ?_ | refine r_u64 (by omega) ?_ | refine r_i32 (by omega) ?_ | refine r_u32 (by omega) ?_ | refine r_rem (by omega) ?_ | refine r_quo (by omega) ?_ | refine r_ldb (by assumption) (by rfl) ?_ | refine r_ldbE (by assumption) (by rfl) ?_))); (conv => whnf)
  refine r_held hc8 ?_
  (repeat ((conv => whnf); (first | with_reducible refine r_tt ?_ | with_reducible refine r_ff ?_ | with_reducible refine r_ntt ?_ | with_reducible refine r_nff ?_ | refine r_need (by omega) ?_ | refine r_i64 (by omega) ?_ | refine r_dect (by omega) ?_ | refine r_decf (by omega) ?_ | refine r_eqt (by omega) ?_ | refine r_eqf (by omega) ?_ | refine r_net (by omega) ?_ | refine r_nef (by omega) ?_ | refine r_u8 (by omega) ?_ | refine r_u64 (by omega) ?_ | refine r_i32 (by omega) ?_ | refine r_u32 (by omega) ?_ | refine r_rem (by omega) ?_ | refine r_quo (by omega) ?_ | refine r_ldb (by assumption) (by rfl) ?_ | refine r_ldbE (by assumption) (by rfl) ?_))); (conv => whnf)
  refine r_new fun p w9 hx9 hb9 hs9 hblkp => ?_
  have hblkp : Blk w9 p 3 [.int .i64 t] := hblkp
  have hc9 := hc8.ext hx9
  have hz9 := hx9.size
  have o1_9 := own_ext o1_8 hx9
  have o2_9 := own_ext o2_8 hx9
  have hblkq := hblkq.ext hx9
  (repeat ((conv => whnf); (first | with_reducible refine r_tt ?_ | with_reducible refine r_ff ?_ | with_reducible refine r_ntt ?_ | with_reducible refine r_nff ?_ | refine r_need (by omega) ?_ | refine r_i64 (by omega) ?_ | refine r_dect (by omega) ?_ | refine r_decf (by omega) ?_ | refine r_eqt (by omega) ?_ | refine r_eqf (by omega) ?_ | refine r_net (by omega) ?_ | refine r_nef (by omega) ?_ | refine r_u8 (by omega) ?_ | refine r_u64 (by omega) ?_ | refine r_i32 (by omega) ?_ | refine r_u32 (by omega) ?_ | refine r_rem (by omega) ?_ | refine r_quo (by omega) ?_ | refine r_ldb (by assumption) (by rfl) ?_ | refine r_ldbE (by assumption) (by rfl) ?_))); (conv => whnf)
  refine r_held hc9 ?_
  (repeat ((conv => whnf); (first | with_reducible refine r_tt ?_ | with_reducible refine r_ff ?_ | with_reducible refine r_ntt ?_ | with_reducible refine r_nff ?_ | refine r_need (by omega) ?_ | refine r_i64 (by omega) ?_ | refine r_dect (by omega) ?_ | refine r_decf (by omega) ?_ | refine r_eqt (by omega) ?_ | refine r_eqf (by omega) ?_ | refine r_net (by omega) ?_ | refine r_nef (by omega) ?_ | refine r_u8 (by omega) ?_ | refine r_u64 (by omega) ?_ | refine r_i32 (by omega) ?_ | refine r_u32 (by omega) ?_ | refine r_rem (by omega) ?_ | refine r_quo (by omega) ?_ | refine r_ldb (by assumption) (by rfl) ?_ | refine r_ldbE (by assumption) (by rfl) ?_))); (conv => whnf)
  refine r_appAt eli o1_9 (View.of_blk (n := 1) hblkp (by simp) (by simp [maxLen])) (by simp [Value.oneCell']) (by omega) (by omega) fun u1 w10 o1_10 hcx10 _ hat => ?_
  have hc10 : Chg (fun k => d ≤ k) w6 w10 := Chg.step hc9 hcx10 fun k hk _ => hv4d k hk
  have o2_10 := own_keep o2_9 hcx10 fun k hk e => by have := hge6 k hk; have := (hlt4 k e).2; omega
  have hz10 := hcx10.size
  have hu1 : ∀ k, u1.ownBlock = some k → ¬ v6.ownBlock = some k := fun k hk e => by
    have hk6 := hge6 k e
    have hk7 := (o2_9.lt k e).2
    rcases hat with ha | ha
    · have := (hlt4 k (ha ▸ hk)).2; omega
    · rw [ha] at hk; cases hk; omega
  have hblkq := hblkq.keep hcx10 (fun e => by have := (hlt4 _ e).2; omega)
  (repeat ((conv => whnf); (first | with_reducible refine r_tt ?_ | with_reducible refine r_ff ?_ | with_reducible refine r_ntt ?_ | with_reducible refine r_nff ?_ | refine r_need (by omega) ?_ | refine r_i64 (by omega) ?_ | refine r_dect (by omega) ?_ | refine r_decf (by omega) ?_ | refine r_eqt (by omega) ?_ | refine r_eqf (by omega) ?_ | refine r_net (by omega) ?_ | refine r_nef (by omega) ?_ | refine r_u8 (by omega) ?_ | refine r_u64 (by omega) ?_ | refine r_i32 (by omega) ?_ | refine r_u32 (by omega) ?_ | refine r_rem (by omega) ?_ | refine r_quo (by omega) ?_ | refine r_ldb (by assumption) (by rfl) ?_ | refine r_ldbE (by assumption) (by rfl) ?_))); (conv => whnf)
  refine r_held hc10 ?_
  (repeat ((conv => whnf); (first | with_reducible refine r_tt ?_ | with_reducible refine r_ff ?_ | with_reducible refine r_ntt ?_ | with_reducible refine r_nff ?_ | refine r_need (by omega) ?_ | refine r_i64 (by omega) ?_ | refine r_dect (by omega) ?_ | refine r_decf (by omega) ?_ | refine r_eqt (by omega) ?_ | refine r_eqf (by omega) ?_ | refine r_net (by omega) ?_ | refine r_nef (by omega) ?_ | refine r_u8 (by omega) ?_ | refine r_u64 (by omega) ?_ | refine r_i32 (by omega) ?_ | refine r_u32 (by omega) ?_ | refine r_rem (by omega) ?_ | refine r_quo (by omega) ?_ | refine r_ldb (by assumption) (by rfl) ?_ | refine r_ldbE (by assumption) (by rfl) ?_))); (conv => whnf)
  refine r_app eli o2_10 (View.of_blk (n := 1) hblkq (by simp) (by simp [maxLen])) (by simp [Value.oneCell']) (by omega) (by omega) fun u2 w11 o2_11 hcx11 _ => ?_
  have hc11 : Chg (fun k => d ≤ k) w6 w11 := Chg.step hc10 hcx11 fun k hk _ => by have := hge6 k hk; omega
  have o1_11 := own_keep o1_10 hcx11 fun k hk e => hu1 k hk e
  obtain ⟨x1, y1, x2, y2, rfl, rfl, hend⟩ := hfin w11 u1 u2 hc11 (by rw [hsn]; exact o1_11) (by rw [hsn]; exact o2_11)
  (repeat ((conv => whnf); (first | with_reducible refine r_tt ?_ | with_reducible refine r_ff ?_ | with_reducible refine r_ntt ?_ | with_reducible refine r_nff ?_ | refine r_need (by omega) ?_ | refine r_i64 (by omega) ?_ | refine r_dect (by omega) ?_ | refine r_decf (by omega) ?_ | refine r_eqt (by omega) ?_ | refine r_eqf (by omega) ?_ | refine r_net (by omega) ?_ | refine r_nef (by omega) ?_ | refine r_u8 (by omega) ?_ | refine r_u64 (by omega) ?_ | refine r_i32 (by omega) ?_ | refine r_u32 (by omega) ?_ | refine r_rem (by omega) ?_ | refine r_quo (by omega) ?_ | refine r_ldb (by assumption) (by rfl) ?_ | refine r_ldbE (by assumption) (by rfl) ?_))); (conv => whnf)
  refine r_held hc11 ?_
  (repeat ((conv => whnf); (first | with_reducible refine r_tt ?_ | with_reducible refine r_ff ?_ | with_reducible refine r_ntt ?_ | with_reducible refine r_nff ?_ | refine r_need (by omega) ?_ | refine r_i64 (by omega) ?_ | refine r_dect (by omega) ?_ | refine r_decf (by omega) ?_ | refine r_eqt (by omega) ?_ | refine r_eqf (by omega) ?_ | refine r_net (by omega) ?_ | refine r_nef (by omega) ?_ | refine r_u8 (by omega) ?_ | refine r_u64 (by omega) ?_ | refine r_i32 (by omega) ?_ | refine r_u32 (by omega) ?_ | refine r_rem (by omega) ?_ | refine r_quo (by omega) ?_ | refine r_ldb (by assumption) (by rfl) ?_ | refine r_ldbE (by assumption) (by rfl) ?_))); (conv => whnf)
  refine r_stn (hblkc.keep hc11 hnc) (by simp) (w_one x1 (s.T.length + 1) y1 x2 (s.Ls.length + 1) y2 s) fun w12 hc12 hs12 hblk12 => ?_
  have hblk12 : Blk w12 c 60 (wCells x1 (s.T.length + 1) y1 x2 (s.Ls.length + 1) y2 s) := hblk12
  (repeat ((conv => whnf); (first | with_reducible refine r_tt ?_ | with_reducible refine r_ff ?_ | with_reducible refine r_ntt ?_ | with_reducible refine r_nff ?_ | refine r_need (by omega) ?_ | refine r_i64 (by omega) ?_ | refine r_dect (by omega) ?_ | refine r_decf (by omega) ?_ | refine r_eqt (by omega) ?_ | refine r_eqf (by omega) ?_ | refine r_net (by omega) ?_ | refine r_nef (by omega) ?_ | refine r_u8 (by omega) ?_ | refine r_u64 (by omega) ?_ | refine r_i32 (by omega) ?_ | refine r_u32 (by omega) ?_ | refine r_rem (by omega) ?_ | refine r_quo (by omega) ?_ | refine r_ldb (by assumption) (by rfl) ?_ | refine r_ldbE (by assumption) (by rfl) ?_))); (conv => whnf)
  refine r_ldnb (vs := wCells x1 (s.T.length + 1) y1 x2 (s.Ls.length + 1) y2 s) hblk12 rfl rfl ?_
  (repeat ((conv => whnf); (first | with_reducible refine r_tt ?_ | with_reducible refine r_ff ?_ | with_reducible refine r_ntt ?_ | with_reducible refine r_nff ?_ | refine r_need (by omega) ?_ | refine r_i64 (by omega) ?_ | refine r_dect (by omega) ?_ | refine r_decf (by omega) ?_ | refine r_eqt (by omega) ?_ | refine r_eqf (by omega) ?_ | refine r_net (by omega) ?_ | refine r_nef (by omega) ?_ | refine r_u8 (by omega) ?_ | refine r_u64 (by omega) ?_ | refine r_i32 (by omega) ?_ | refine r_u32 (by omega) ?_ | refine r_rem (by omega) ?_ | refine r_quo (by omega) ?_ | refine r_ldb (by assumption) (by rfl) ?_ | refine r_ldbE (by assumption) (by rfl) ?_))); (conv => whnf)
  obtain ⟨f1, f2, f3⟩ := hend w12 hc12
  exact ⟨f1, x1, _, y1, x2, _, y2, rfl, f2, f3⟩
end
end Fb.Try.WN
