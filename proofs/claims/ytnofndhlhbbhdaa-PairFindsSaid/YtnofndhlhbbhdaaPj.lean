/-
  Walks: the package's tables.
-/
import Derived.Test.YtnofndhlhbbhdaaPf
import Derived.Test.YtnofndhlhbbhdaaPi
import Derived.Test.YtnofndhlhbbhdaaVm
namespace Fb.Try.VO
open Go Go.Proofs Fb Fb.Bytes
theorem emg : Elem Try.prog 47 57 4 32 := Elem.of (by kernel_rfl)
theorem mg0_own {w : World} {b base : Nat} (h : Blk w b 57 []) (hb : base ≤ b) : w.ownsRow base 57 4 (.slice (some ⟨b, 0, none⟩) 0 0) 0 [] :=
  ⟨rfl, .inr ⟨b, 0, #[], rfl, hb, h, Nat.le_refl _, by simp [maxLen], rfl, rfl⟩⟩
theorem ptwo_ok : twoB Try.prog 108 = true := by kernel_rfl
theorem pumap2 : Try.prog.underlying 104 = some (.map 108 3) := by kernel_rfl
theorem pkeyed2 : Maps.Keyed Try.prog 108 := Maps.Keyed.of_law (Go.deep_law_laid (by kernel_rfl) (m := 3) (by omega) (of_decide_eq_true (by kernel_rfl)) (by kernel_rfl) (by kernel_rfl))
section
variable {w w' : World} {v : Voc} {x : VA} {a : Option Addr} {len cap : Nat} {row : List Int}
theorem cloneI_ok (hv : View w a len cap 1 (ri row)) (hl : len ≤ 1000) : Cal Try.prog 63 ⟨[.slice a len cap]⟩ w fun u w' => Ext w w' ∧ ∃ a' len' cap', u = .slice a' len' cap' ∧ View w' a' len' cap' 1 (ri row) := by
  have hrl := ri_lens hv
  refine go63 (by rfl) ?_
  cases a with
  | none =>
    have h0 : row = [] := by
      cases row with
      | nil => rfl
      | cons i r =>
        have := hv.plain (by simp [ri])
        cases this
    subst h0
    (repeat ((conv => whnf); (first | (with_reducible first | refine jA ?_ | refine jB ?_ | refine jC ?_ | refine jD ?_) | refine jE ?_ | refine jF ?_ | refine jG ?_ | refine jH ?_ | refine jI ?_ | refine jJ ?_ | refine jK ?_ | refine jL ?_ | refine jM ?_ | refine jN ?_ | refine jO ?_ | refine jP ?_ | refine jQ ?_ | refine jR ?_ | refine jS (k := ?_) | refine jT (k := ?_)))); (conv => whnf)
    exact ⟨Ext.refl _, none, 0, 0, rfl, View.nil _ _⟩
  | some ad =>
    (repeat ((conv => whnf); (first | (with_reducible first | refine jA ?_ | refine jB ?_ | refine jC ?_ | refine jD ?_) | refine jE ?_ | refine jF ?_ | refine jG ?_ | refine jH ?_ | refine jI ?_ | refine jJ ?_ | refine jK ?_ | refine jL ?_ | refine jM ?_ | refine jN ?_ | refine jO ?_ | refine jP ?_ | refine jQ ?_ | refine jR ?_ | refine jS (k := ?_) | refine jT (k := ?_)))); (conv => whnf)
    refine r_new fun o w1 hx1 hb1 hs1 hblk1 => ?_
    (repeat ((conv => whnf); (first | (with_reducible first | refine jA ?_ | refine jB ?_ | refine jC ?_ | refine jD ?_) | refine jE ?_ | refine jF ?_ | refine jG ?_ | refine jH ?_ | refine jI ?_ | refine jJ ?_ | refine jK ?_ | refine jL ?_ | refine jM ?_ | refine jN ?_ | refine jO ?_ | refine jP ?_ | refine jQ ?_ | refine jR ?_ | refine jS (k := ?_) | refine jT (k := ?_)))); (conv => whnf)
    refine r_app eli (empty_own hblk1 hb1) (hv.ext hx1) (ri_one _) (by omega) (by have := hx1.size; omega) fun v2 w2 hown2 hc2 _ => ?_
    obtain ⟨a2, c2, rfl, hv2, -, -⟩ := View.of_own hown2
    (repeat ((conv => whnf); (first | (with_reducible first | refine jA ?_ | refine jB ?_ | refine jC ?_ | refine jD ?_) | refine jE ?_ | refine jF ?_ | refine jG ?_ | refine jH ?_ | refine jI ?_ | refine jJ ?_ | refine jK ?_ | refine jL ?_ | refine jM ?_ | refine jN ?_ | refine jO ?_ | refine jP ?_ | refine jQ ?_ | refine jR ?_ | refine jS (k := ?_) | refine jT (k := ?_)))); (conv => whnf)
    exact ⟨Chg.own hx1 hc2 (empty_own hblk1 hb1), a2, _, c2, rfl, by simpa using hv2⟩
theorem cloneM_ok {M : List Mg} (hv : View w a len cap 4 (mv M)) (hl : len ≤ 1000) : Cal Try.prog 58 ⟨[.slice a len cap]⟩ w fun u w' => Ext w w' ∧ ∃ a' len' cap', u = .slice a' len' cap' ∧ View w' a' len' cap' 4 (mv M) := by
  refine go58 (by rfl) ?_
  cases a with
  | none =>
    have h0 : M = [] := by
      cases M with
      | nil => rfl
      | cons i r =>
        have := hv.plain (by simp [mv, Mg.cells])
        cases this
    subst h0
    (repeat ((conv => whnf); (first | (with_reducible first | refine jA ?_ | refine jB ?_ | refine jC ?_ | refine jD ?_) | refine jE ?_ | refine jF ?_ | refine jG ?_ | refine jH ?_ | refine jI ?_ | refine jJ ?_ | refine jK ?_ | refine jL ?_ | refine jM ?_ | refine jN ?_ | refine jO ?_ | refine jP ?_ | refine jQ ?_ | refine jR ?_ | refine jS (k := ?_) | refine jT (k := ?_)))); (conv => whnf)
    exact ⟨Ext.refl _, none, 0, 0, rfl, View.nil _ _⟩
  | some ad =>
    (repeat ((conv => whnf); (first | (with_reducible first | refine jA ?_ | refine jB ?_ | refine jC ?_ | refine jD ?_) | refine jE ?_ | refine jF ?_ | refine jG ?_ | refine jH ?_ | refine jI ?_ | refine jJ ?_ | refine jK ?_ | refine jL ?_ | refine jM ?_ | refine jN ?_ | refine jO ?_ | refine jP ?_ | refine jQ ?_ | refine jR ?_ | refine jS (k := ?_) | refine jT (k := ?_)))); (conv => whnf)
    refine r_new fun o w1 hx1 hb1 hs1 hblk1 => ?_
    (repeat ((conv => whnf); (first | (with_reducible first | refine jA ?_ | refine jB ?_ | refine jC ?_ | refine jD ?_) | refine jE ?_ | refine jF ?_ | refine jG ?_ | refine jH ?_ | refine jI ?_ | refine jJ ?_ | refine jK ?_ | refine jL ?_ | refine jM ?_ | refine jN ?_ | refine jO ?_ | refine jP ?_ | refine jQ ?_ | refine jR ?_ | refine jS (k := ?_) | refine jT (k := ?_)))); (conv => whnf)
    refine r_app emg (mg0_own hblk1 hb1) (hv.ext hx1) (fun u hu => by
      obtain ⟨cs, hcs, hu⟩ := List.mem_flatten.1 hu
      obtain ⟨m, _, rfl⟩ := List.mem_map.1 hcs
      exact mg_one m u hu) (by omega) (by have := hx1.size; omega) fun v2 w2 hown2 hc2 _ => ?_
    obtain ⟨a2, c2, rfl, hv2, -, -⟩ := View.of_own hown2
    (repeat ((conv => whnf); (first | (with_reducible first | refine jA ?_ | refine jB ?_ | refine jC ?_ | refine jD ?_) | refine jE ?_ | refine jF ?_ | refine jG ?_ | refine jH ?_ | refine jI ?_ | refine jJ ?_ | refine jK ?_ | refine jL ?_ | refine jM ?_ | refine jN ?_ | refine jO ?_ | refine jP ?_ | refine jQ ?_ | refine jR ?_ | refine jS (k := ?_) | refine jT (k := ?_)))); (conv => whnf)
    exact ⟨Chg.own hx1 hc2 (mg0_own hblk1 hb1), a2, _, c2, rfl, by simpa using hv2⟩
/-- A vocabulary's table. -/
def Tab (w : World) (tb : Nat) (M : List Mg) : Prop := ∃ mb aM lM cM f, Blk w tb 106 [.slice aM lM cM, .map (some mb)] ∧ View w aM lM cM 4 (mv M) ∧ MapV Try.prog 108 w mb f ∧ (∀ p q : Int, f (.agg ⟨[.int .i64 p, .int .i64 q]⟩) = (fd M p q).map fun i => .int .i64 (i : Int)) ∧ M.length ≤ 300
theorem Tab.ext {tb : Nat} {M : List Mg} (h : Tab w tb M) (k : Ext w w') : Tab w' tb M := by
  obtain ⟨mb, aM, lM, cM, f, h1, h2, h3, h4⟩ := h
  exact ⟨mb, aM, lM, cM, f, h1.ext k, h2.ext k, h3.ext k, h4⟩
/-- What a map of places tells. -/
structure TbM (M : List Mg) (i : Nat) (f : Value → Option Value) : Prop where
  yes : ∀ k, k < i → f (kv2 (gm M k)) = some (.int .i64 (k : Int))
  no : ∀ p q : Int, (∀ k, k < i → ¬ ((gm M k).l = p ∧ (gm M k).r = q)) → f (.agg ⟨[.int .i64 p, .int .i64 q]⟩) = none
  key : ∀ key, f key ≠ none → ∃ k, k < i ∧ key = kv2 (gm M k)
theorem TbM.nil (M : List Mg) : TbM M 0 (fun _ => none) := ⟨fun k hk => by omega, fun _ _ _ => rfl, fun _ hk => absurd rfl hk⟩
theorem TbM.list {M : List Mg} {i : Nat} {f : Value → Option Value} (h : TbM M i f) : ∀ key, f key ≠ none → key ∈ (List.range i).map fun k => kv2 (gm M k) := fun key hk => by
  obtain ⟨k, h1, h2⟩ := h.key key hk
  exact List.mem_map.2 ⟨k, by simpa using h1, h2.symm⟩
theorem TbM.step {M : List Mg} {i : Nat} {f : Value → Option Value} (h : TbM M i f) (hd : ∀ k, k < i → ¬ ((gm M k).l = (gm M i).l ∧ (gm M k).r = (gm M i).r)) : TbM M (i + 1) (upd f (kv2 (gm M i)) (some (.int .i64 (i : Int)))) := by
  refine ⟨fun k hk => ?_, fun p q hm => ?_, fun key hk => ?_⟩
  · by_cases hki : k = i
    · subst hki; rw [upd_same]
    · rw [upd_ne _ _ fun e => hd k (by omega) (kv2_inj.1 e)]
      exact h.yes k (by omega)
  · rw [upd_ne _ _ fun e => hm i (by omega) (by
      have := kv2_inj (m := ⟨p, q, 0, 0⟩) (n := gm M i)
      have := this.1 e
      exact ⟨this.1.symm, this.2.symm⟩)]
    exact h.no p q fun k hk => hm k (by omega)
  · by_cases he : key = kv2 (gm M i)
    · exact ⟨i, by omega, he⟩
    · rw [upd_ne _ _ he] at hk
      obtain ⟨k, h1, h2⟩ := h.key key hk
      exact ⟨k, by omega, h2⟩
theorem TbM.fd {M : List Mg} {f : Value → Option Value} (h : TbM M M.length f) (p q : Int) : f (.agg ⟨[.int .i64 p, .int .i64 q]⟩) = (VO.fd M p q).map fun i => .int .i64 (i : Int) := by
  cases hf : VO.fd M p q with
  | none => exact h.no p q (fd_none hf)
  | some i =>
    obtain ⟨h1, h2, h3, _⟩ := fd_some hf
    have := h.yes i h1
    unfold kv2 at this
    rw [h2, h3] at this
    exact this
set_option maxHeartbeats 1000000 in
set_option maxRecDepth 100000 in
theorem pNew_ok (h : IsV w v x) (hs : Small v) (hw : Wfv v) : Cal Try.prog 30 ⟨[.agg ⟨vcs x⟩]⟩ w fun u w' => Ext w w' ∧ ((MayP v ∧ ∃ tb, u = .tuple ⟨[.pointer (some ⟨tb, 0, none⟩), .int .i64 0]⟩ ∧ Tab w' tb v.M) ∨ (¬ MayP v ∧ u = .tuple ⟨[.pointer none, .int .i64 2]⟩)) := by
  obtain ⟨hlT, hlM, hlS⟩ := h.lens
  have hnm := hs.nm
  refine go30 (by rfl) ?_
  (repeat ((conv => whnf); (first | (with_reducible first | refine jA ?_ | refine jB ?_ | refine jC ?_ | refine jD ?_) | refine jE ?_ | refine jF ?_ | refine jG ?_ | refine jH ?_ | refine jI ?_ | refine jJ ?_ | refine jK ?_ | refine jL ?_ | refine jM ?_ | refine jN ?_ | refine jO ?_ | refine jP ?_ | refine jQ ?_ | refine jR ?_ | refine jS (k := ?_) | refine jT (k := ?_)))); (conv => whnf)
  refine r_new fun p w1 hx1 hb1 hs1 hblk => ?_
  have hblk : Blk w1 p 50 [.slice x.aT x.lT x.cT, .slice x.aM x.lM x.cM, .slice x.aS x.lS x.cS] := hblk
  (repeat ((conv => whnf); (first | (with_reducible first | refine jA ?_ | refine jB ?_ | refine jC ?_ | refine jD ?_) | refine jE ?_ | refine jF ?_ | refine jG ?_ | refine jH ?_ | refine jI ?_ | refine jJ ?_ | refine jK ?_ | refine jL ?_ | refine jM ?_ | refine jN ?_ | refine jO ?_ | refine jP ?_ | refine jQ ?_ | refine jR ?_ | refine jS (k := ?_) | refine jT (k := ?_)))); (conv => whnf)
  refine r_ldnb (vs := vcs x) hblk rfl rfl ?_
  (repeat ((conv => whnf); (first | (with_reducible first | refine jA ?_ | refine jB ?_ | refine jC ?_ | refine jD ?_) | refine jE ?_ | refine jF ?_ | refine jG ?_ | refine jH ?_ | refine jI ?_ | refine jJ ?_ | refine jK ?_ | refine jL ?_ | refine jM ?_ | refine jN ?_ | refine jO ?_ | refine jP ?_ | refine jQ ?_ | refine jR ?_ | refine jS (k := ?_) | refine jT (k := ?_)))); (conv => whnf)
  refine r_cal (vMay_ok (h.ext hx1) hs hw) ?_
  rintro _ w2 ⟨hx2, b, rfl, hb⟩
  have hx02 := hx1.trans hx2
  have hblk := hblk.ext hx2
  cases b with
  | false =>
    (repeat ((conv => whnf); (first | (with_reducible first | refine jA ?_ | refine jB ?_ | refine jC ?_ | refine jD ?_) | refine jE ?_ | refine jF ?_ | refine jG ?_ | refine jH ?_ | refine jI ?_ | refine jJ ?_ | refine jK ?_ | refine jL ?_ | refine jM ?_ | refine jN ?_ | refine jO ?_ | refine jP ?_ | refine jQ ?_ | refine jR ?_ | refine jS (k := ?_) | refine jT (k := ?_)))); (conv => whnf)
    exact ⟨hx02, .inr ⟨fun hm => (by have h9 := hb.2 hm; exact absurd h9 (by decide)), rfl⟩⟩
  | true =>
  have hmay := hb.1 rfl
  have hst := mgOk_steps.1 hmay.mg
  (repeat ((conv => whnf); (first | (with_reducible first | refine jA ?_ | refine jB ?_ | refine jC ?_ | refine jD ?_) | refine jE ?_ | refine jF ?_ | refine jG ?_ | refine jH ?_ | refine jI ?_ | refine jJ ?_ | refine jK ?_ | refine jL ?_ | refine jM ?_ | refine jN ?_ | refine jO ?_ | refine jP ?_ | refine jQ ?_ | refine jR ?_ | refine jS (k := ?_) | refine jT (k := ?_)))); (conv => whnf)
  refine r_cal (cloneM_ok (h.ext hx02).m (by omega)) ?_
  rintro _ w3 ⟨hx3, a3, l3, c3, rfl, hv3⟩
  have hx03 := hx02.trans hx3
  have hblk := hblk.ext hx3
  (repeat ((conv => whnf); (first | (with_reducible first | refine jA ?_ | refine jB ?_ | refine jC ?_ | refine jD ?_) | refine jE ?_ | refine jF ?_ | refine jG ?_ | refine jH ?_ | refine jI ?_ | refine jJ ?_ | refine jK ?_ | refine jL ?_ | refine jM ?_ | refine jN ?_ | refine jO ?_ | refine jP ?_ | refine jQ ?_ | refine jR ?_ | refine jS (k := ?_) | refine jT (k := ?_)))); (conv => whnf)
  refine r_makeMap (k := 108) fun w4 hx4 hs4 hm4 => ?_
  have hmb := hx03.size
  generalize w3.heap.size = mb at hm4 hmb ⊢
  have hblk := hblk.ext hx4
  have hx04 := hx03.trans hx4
  (repeat ((conv => whnf); (first | (with_reducible first | refine jA ?_ | refine jB ?_ | refine jC ?_ | refine jD ?_) | refine jE ?_ | refine jF ?_ | refine jG ?_ | refine jH ?_ | refine jI ?_ | refine jJ ?_ | refine jK ?_ | refine jL ?_ | refine jM ?_ | refine jN ?_ | refine jO ?_ | refine jP ?_ | refine jQ ?_ | refine jR ?_ | refine jS (k := ?_) | refine jT (k := ?_)))); (conv => whnf)
  refine r_new fun tb w5 hx5 hb5 hs5 hblk5 => ?_
  have hblk5 : Blk w5 tb 106 [.slice a3 l3 c3, .map (some mb)] := hblk5
  have hblk := hblk.ext hx5
  have hx05 := hx04.trans hx5
  have hv5 := (hv3.ext hx4).ext hx5
  have hm5 := hm4.ext hx5
  have hl3 : v.M.length = l3 := by
    have := hv3.length
    rw [mv_len] at this
    omega
  have htm : ¬ tb = mb := hm5.ne hblk5
  (repeat ((conv => whnf); (first | (with_reducible first | refine jA ?_ | refine jB ?_ | refine jC ?_ | refine jD ?_) | refine jE ?_ | refine jF ?_ | refine jG ?_ | refine jH ?_ | refine jI ?_ | refine jJ ?_ | refine jK ?_ | refine jL ?_ | refine jM ?_ | refine jN ?_ | refine jO ?_ | refine jP ?_ | refine jQ ?_ | refine jR ?_ | refine jS (k := ?_) | refine jT (k := ?_)))); (conv => whnf)
  refine r_loop (σ := Nat) (fun i => [.int .i64 (i : Int)]) (fun i w' => i ≤ x.lM ∧ Ext w w' ∧ Blk w' tb 106 [.slice a3 l3 c3, .map (some mb)] ∧ View w' a3 l3 c3 4 (mv v.M) ∧ ∃ f, MapV Try.prog 108 w' mb f ∧ TbM v.M i f) (fun i _ => x.lM - i) 0 rfl ⟨by omega, hx05, hblk5, hv5, _, hm5, TbM.nil _⟩ ?_
  clear hblk5 hv5 hm5 hm4 hv3
  rintro i w6 again ⟨hi, hx06, hblk6, hv6, f, hm6, htb⟩ hagain
  by_cases hil : i < x.lM
  rotate_left
  · have hix : i = v.M.length := by omega
    subst hix
    (repeat ((conv => whnf); (first | (with_reducible first | refine jA ?_ | refine jB ?_ | refine jC ?_ | refine jD ?_) | refine jE ?_ | refine jF ?_ | refine jG ?_ | refine jH ?_ | refine jI ?_ | refine jJ ?_ | refine jK ?_ | refine jL ?_ | refine jM ?_ | refine jN ?_ | refine jO ?_ | refine jP ?_ | refine jQ ?_ | refine jR ?_ | refine jS (k := ?_) | refine jT (k := ?_)))); (conv => whnf)
    exact ⟨hx06, .inl ⟨hmay, tb, rfl, mb, a3, l3, c3, f, hblk6, hv6, hm6, htb.fd, hnm⟩⟩
  have hwf := hw.mw _ (gm_mem.2 ⟨i, by omega, rfl⟩)
  obtain ⟨kl, hkl⟩ := two_key ptwo_ok (QU.wf_i64 hwf.1) (QU.wf_i64 hwf.2.1)
  have hpm := h.m.plain (by rw [mv_len]; omega)
  (repeat ((conv => whnf); (first | (with_reducible first | refine jA ?_ | refine jB ?_ | refine jC ?_ | refine jD ?_) | refine jE ?_ | refine jF ?_ | refine jG ?_ | refine jH ?_ | refine jI ?_ | refine jJ ?_ | refine jK ?_ | refine jL ?_ | refine jM ?_ | refine jN ?_ | refine jO ?_ | refine jP ?_ | refine jQ ?_ | refine jR ?_ | refine jS (k := ?_) | refine jT (k := ?_)))); (conv => whnf)
  refine r_ldnv (j := (i : Int).toNat * 4) (vs := (gm v.M i).cells) (h.ext hx06).m (mv_ent (by omega)) rfl ?_
  (repeat ((conv => whnf); (first | (with_reducible first | refine jA ?_ | refine jB ?_ | refine jC ?_ | refine jD ?_) | refine jE ?_ | refine jF ?_ | refine jG ?_ | refine jH ?_ | refine jI ?_ | refine jJ ?_ | refine jK ?_ | refine jL ?_ | refine jM ?_ | refine jN ?_ | refine jO ?_ | refine jP ?_ | refine jQ ?_ | refine jR ?_ | refine jS (k := ?_) | refine jT (k := ?_)))); (conv => whnf)
  refine r_new fun bm w7 hx7 hb7 hs7 hblk7 => ?_
  (repeat ((conv => whnf); (first | (with_reducible first | refine jA ?_ | refine jB ?_ | refine jC ?_ | refine jD ?_) | refine jE ?_ | refine jF ?_ | refine jG ?_ | refine jH ?_ | refine jI ?_ | refine jJ ?_ | refine jK ?_ | refine jL ?_ | refine jM ?_ | refine jN ?_ | refine jO ?_ | refine jP ?_ | refine jQ ?_ | refine jR ?_ | refine jS (k := ?_) | refine jT (k := ?_)))); (conv => whnf)
  refine r_stn hblk7 (by simp [Mg.cells]) (mg_one _) fun w8 hc8 hs8 hm8 => ?_
  have hm8 : Blk w8 bm 57 [.int .i64 (gm v.M i).l, .int .i64 (gm v.M i).r, .int .i64 (gm v.M i).o, .int .i64 (gm v.M i).d] := hm8
  have hx68 : Ext w6 w8 := Chg.step hx7 hc8 fun k hk hlt => by omega
  have hblk8 := hblk6.ext hx68
  (repeat ((conv => whnf); (first | (with_reducible first | refine jA ?_ | refine jB ?_ | refine jC ?_ | refine jD ?_) | refine jE ?_ | refine jF ?_ | refine jG ?_ | refine jH ?_ | refine jI ?_ | refine jJ ?_ | refine jK ?_ | refine jL ?_ | refine jM ?_ | refine jN ?_ | refine jO ?_ | refine jP ?_ | refine jQ ?_ | refine jR ?_ | refine jS (k := ?_) | refine jT (k := ?_)))); (conv => whnf)
  refine r_drawE fun w9 hx9 hh9 => ?_
  have hx69 := hx68.trans hx9
  (repeat ((conv => whnf); (first | (with_reducible first | refine jA ?_ | refine jB ?_ | refine jC ?_ | refine jD ?_) | refine jE ?_ | refine jF ?_ | refine jG ?_ | refine jH ?_ | refine jI ?_ | refine jJ ?_ | refine jK ?_ | refine jL ?_ | refine jM ?_ | refine jN ?_ | refine jO ?_ | refine jP ?_ | refine jQ ?_ | refine jR ?_ | refine jS (k := ?_) | refine jT (k := ?_)))); (conv => whnf)
  refine r_mapSet (hm6.ext hx69) pkeyed2 pumap2 _ htb.list (by simp [maxLen]; omega) hkl fun w10 hc10 hs10 hm10 => ?_
  have hm10 : MapV Try.prog 108 w10 mb (upd f (kv2 (gm v.M i)) (some (.int .i64 (i : Int)))) := hm10
  (repeat ((conv => whnf); (first | (with_reducible first | refine jA ?_ | refine jB ?_ | refine jC ?_ | refine jD ?_) | refine jE ?_ | refine jF ?_ | refine jG ?_ | refine jH ?_ | refine jI ?_ | refine jJ ?_ | refine jK ?_ | refine jL ?_ | refine jM ?_ | refine jN ?_ | refine jO ?_ | refine jP ?_ | refine jQ ?_ | refine jR ?_ | refine jS (k := ?_) | refine jT (k := ?_)))); (conv => whnf)
  refine hagain (i + 1) w10 ⟨by omega, Chg.step (hx06.trans hx69) hc10 fun k hk hlt => by omega, (hblk6.ext hx69).keep hc10 htm, (hv6.ext hx69).keepN hc10 fun hp e => ?_, _, hm10, htb.step (hst i (by omega)).2.2⟩ (by omega)
  have hlt6 := hm6.lt
  obtain ⟨D, n, ⟨es, clock, hbm, _⟩, _⟩ := hm6
  have hc0 := hv6.cell 0 ((mv v.M)[0]) (by simp [hp])
  rw [e] at hc0
  simp [World.cell?, hbm] at hc0
def fdM (M : List Mg) (p q : Int) : Mg := match fd M p q with
  | some i => gm M i
  | none => ⟨0, 0, 0, 0⟩
set_option maxRecDepth 100000 in
theorem pFind_ok {tb : Nat} {M : List Mg} (h : Tab w tb M) {p q : Int} (hp : I64 p) (hq : I64 q) : Cal Try.prog 32 ⟨[.pointer (some ⟨tb, 0, none⟩), .int .i64 p, .int .i64 q]⟩ w fun u w' => Ext w w' ∧ u = .tuple ⟨[.agg ⟨(fdM M p q).cells⟩, .bool (fd M p q).isSome]⟩ := by
  obtain ⟨mb, aM, lM, cM, f, hblk, hv, hm, hf, hn⟩ := h
  have hlM : M.length = lM := by
    have := hv.length
    rw [mv_len] at this
    omega
  obtain ⟨kl, hkl⟩ := two_key ptwo_ok (QU.wf_i64 hp) (QU.wf_i64 hq)
  refine go32 (by rfl) ?_
  (repeat ((conv => whnf); (first | (with_reducible first | refine jA ?_ | refine jB ?_ | refine jC ?_ | refine jD ?_) | refine jE ?_ | refine jF ?_ | refine jG ?_ | refine jH ?_ | refine jI ?_ | refine jJ ?_ | refine jK ?_ | refine jL ?_ | refine jM ?_ | refine jN ?_ | refine jO ?_ | refine jP ?_ | refine jQ ?_ | refine jR ?_ | refine jS (k := ?_) | refine jT (k := ?_)))); (conv => whnf)
  refine r_new fun b w1 hx1 hb1 hs1 hblk1 => ?_
  have hblk := hblk.ext hx1
  (repeat ((conv => whnf); (first | (with_reducible first | refine jA ?_ | refine jB ?_ | refine jC ?_ | refine jD ?_) | refine jE ?_ | refine jF ?_ | refine jG ?_ | refine jH ?_ | refine jI ?_ | refine jJ ?_ | refine jK ?_ | refine jL ?_ | refine jM ?_ | refine jN ?_ | refine jO ?_ | refine jP ?_ | refine jQ ?_ | refine jR ?_ | refine jS (k := ?_) | refine jT (k := ?_)))); (conv => whnf)
  refine r_look (hm.ext hx1) pkeyed2 pumap2 QU.zint hkl ?_
  rw [hf]
  unfold fdM
  cases hfd : fd M p q with
  | none =>
    (repeat ((conv => whnf); (first | (with_reducible first | refine jA ?_ | refine jB ?_ | refine jC ?_ | refine jD ?_) | refine jE ?_ | refine jF ?_ | refine jG ?_ | refine jH ?_ | refine jI ?_ | refine jJ ?_ | refine jK ?_ | refine jL ?_ | refine jM ?_ | refine jN ?_ | refine jO ?_ | refine jP ?_ | refine jQ ?_ | refine jR ?_ | refine jS (k := ?_) | refine jT (k := ?_)))); (conv => whnf)
    refine r_true (by rfl) ?_
    (repeat ((conv => whnf); (first | (with_reducible first | refine jA ?_ | refine jB ?_ | refine jC ?_ | refine jD ?_) | refine jE ?_ | refine jF ?_ | refine jG ?_ | refine jH ?_ | refine jI ?_ | refine jJ ?_ | refine jK ?_ | refine jL ?_ | refine jM ?_ | refine jN ?_ | refine jO ?_ | refine jP ?_ | refine jQ ?_ | refine jR ?_ | refine jS (k := ?_) | refine jT (k := ?_)))); (conv => whnf)
    refine r_stn hblk1 (by simp) (mg_one ⟨0, 0, 0, 0⟩) fun w2 hc2 hs2 hblk2 => ?_
    have hblk2 : Blk w2 b 57 (Mg.cells ⟨0, 0, 0, 0⟩) := hblk2
    (repeat ((conv => whnf); (first | (with_reducible first | refine jA ?_ | refine jB ?_ | refine jC ?_ | refine jD ?_) | refine jE ?_ | refine jF ?_ | refine jG ?_ | refine jH ?_ | refine jI ?_ | refine jJ ?_ | refine jK ?_ | refine jL ?_ | refine jM ?_ | refine jN ?_ | refine jO ?_ | refine jP ?_ | refine jQ ?_ | refine jR ?_ | refine jS (k := ?_) | refine jT (k := ?_)))); (conv => whnf)
    refine r_ldnb (vs := Mg.cells ⟨0, 0, 0, 0⟩) hblk2 rfl rfl ?_
    (repeat ((conv => whnf); (first | (with_reducible first | refine jA ?_ | refine jB ?_ | refine jC ?_ | refine jD ?_) | refine jE ?_ | refine jF ?_ | refine jG ?_ | refine jH ?_ | refine jI ?_ | refine jJ ?_ | refine jK ?_ | refine jL ?_ | refine jM ?_ | refine jN ?_ | refine jO ?_ | refine jP ?_ | refine jQ ?_ | refine jR ?_ | refine jS (k := ?_) | refine jT (k := ?_)))); (conv => whnf)
    exact ⟨Chg.step hx1 hc2 fun k hk hlt => by omega, rfl⟩
  | some i =>
    obtain ⟨h1, h2, h3, _⟩ := fd_some hfd
    have hpm := hv.plain (by rw [mv_len]; omega)
    have e0 : (Option.map (fun i : Nat => Value.int .i64 (i : Int)) (some i)).getD (.int .i64 0) = .int .i64 (i : Int) := rfl
    rw [e0]
    (repeat ((conv => whnf); (first | (with_reducible first | refine jA ?_ | refine jB ?_ | refine jC ?_ | refine jD ?_) | refine jE ?_ | refine jF ?_ | refine jG ?_ | refine jH ?_ | refine jI ?_ | refine jJ ?_ | refine jK ?_ | refine jL ?_ | refine jM ?_ | refine jN ?_ | refine jO ?_ | refine jP ?_ | refine jQ ?_ | refine jR ?_ | refine jS (k := ?_) | refine jT (k := ?_)))); (conv => whnf)
    refine r_false (by rfl) ?_
    (repeat ((conv => whnf); (first | (with_reducible first | refine jA ?_ | refine jB ?_ | refine jC ?_ | refine jD ?_) | refine jE ?_ | refine jF ?_ | refine jG ?_ | refine jH ?_ | refine jI ?_ | refine jJ ?_ | refine jK ?_ | refine jL ?_ | refine jM ?_ | refine jN ?_ | refine jO ?_ | refine jP ?_ | refine jQ ?_ | refine jR ?_ | refine jS (k := ?_) | refine jT (k := ?_)))); (conv => whnf)
    refine r_ldnv (j := (i : Int).toNat * 4) (vs := (gm M i).cells) (hv.ext hx1) (mv_ent (by omega)) rfl ?_
    (repeat ((conv => whnf); (first | (with_reducible first | refine jA ?_ | refine jB ?_ | refine jC ?_ | refine jD ?_) | refine jE ?_ | refine jF ?_ | refine jG ?_ | refine jH ?_ | refine jI ?_ | refine jJ ?_ | refine jK ?_ | refine jL ?_ | refine jM ?_ | refine jN ?_ | refine jO ?_ | refine jP ?_ | refine jQ ?_ | refine jR ?_ | refine jS (k := ?_) | refine jT (k := ?_)))); (conv => whnf)
    refine r_stn hblk1 (by simp [Mg.cells]) (mg_one (gm M i)) fun w2 hc2 hs2 hblk2 => ?_
    have hblk2 : Blk w2 b 57 (gm M i).cells := hblk2
    (repeat ((conv => whnf); (first | (with_reducible first | refine jA ?_ | refine jB ?_ | refine jC ?_ | refine jD ?_) | refine jE ?_ | refine jF ?_ | refine jG ?_ | refine jH ?_ | refine jI ?_ | refine jJ ?_ | refine jK ?_ | refine jL ?_ | refine jM ?_ | refine jN ?_ | refine jO ?_ | refine jP ?_ | refine jQ ?_ | refine jR ?_ | refine jS (k := ?_) | refine jT (k := ?_)))); (conv => whnf)
    refine r_ldnb (vs := (gm M i).cells) hblk2 rfl rfl ?_
    (repeat ((conv => whnf); (first | (with_reducible first | refine jA ?_ | refine jB ?_ | refine jC ?_ | refine jD ?_) | refine jE ?_ | refine jF ?_ | refine jG ?_ | refine jH ?_ | refine jI ?_ | refine jJ ?_ | refine jK ?_ | refine jL ?_ | refine jM ?_ | refine jN ?_ | refine jO ?_ | refine jP ?_ | refine jQ ?_ | refine jR ?_ | refine jS (k := ?_) | refine jT (k := ?_)))); (conv => whnf)
    exact ⟨Chg.step hx1 hc2 fun k hk hlt => by omega, rfl⟩
end
end Fb.Try.VO
