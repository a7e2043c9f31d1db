/-
  Walks: the document's vocabularies of letters.
-/
import Derived.Test.YtnofndhlhbbhdaaPo
namespace Fb.Try.VO
open Go Go.Proofs Fb Fb.Bytes
/-! ### The plain law -/
def bR (n : Nat) : List Sp := (List.range n).map fun b => ⟨[UInt8.ofNat b], (b : Int)⟩
def mR (more : List (List UInt8)) (n : Nat) : List Sp := (List.range n).map fun i => ⟨tk more (i : Nat), ((256 + i : Nat) : Int)⟩
def letT (more : List (List UInt8)) : List (List UInt8) := (List.range 256).map (fun b => [UInt8.ofNat b]) ++ more
theorem sv_app (a b : List Sp) : sv (a ++ b) = sv a ++ sv b := by simp [sv]
theorem bR_succ (n : Nat) : sv (bR (n + 1)) = sv (bR n) ++ [.string (bstr [UInt8.ofNat n]), .int .i64 (n : Int)] := by
  unfold bR
  rw [List.range_succ, List.map_append, sv_app]
  rfl
theorem mR_succ (more : List (List UInt8)) (n : Nat) : sv (mR more (n + 1)) = sv (mR more n) ++ [.string (bstr (tk more (n : Nat))), .int .i64 ((256 + n : Nat) : Int)] := by
  unfold mR
  rw [List.range_succ, List.map_append, sv_app]
  rfl
theorem let_names (more : List (List UInt8)) : names (bR 256 ++ mR more more.length) = letT more := by
  unfold names letT bR mR
  rw [List.map_append, List.map_map, List.map_map]
  congr 1
  apply List.ext_getElem?
  intro i
  by_cases h : i < more.length
  · rw [List.getElem?_map, List.getElem?_range h]
    exact (tk_get h).symm
  · rw [List.getElem?_eq_none (by simp; omega), List.getElem?_eq_none (by omega)]
theorem bR_len (n : Nat) : (bR n).length = n := by simp [bR]
theorem mR_len (more : List (List UInt8)) (n : Nat) : (mR more n).length = n := by simp [mR]
theorem let_id (more : List (List UInt8)) (i : Nat) (h : i < (bR 256 ++ mR more more.length).length) : (gs (bR 256 ++ mR more more.length) i).id = (i : Int) := by
  have e := gs_get h
  generalize gs (bR 256 ++ mR more more.length) i = g at e ⊢
  rw [List.getElem?_append, bR_len] at e
  split at e
  · rename_i h1
    unfold bR at e
    rw [List.getElem?_map, List.getElem?_range h1] at e
    rw [← Option.some.inj e]
  · rename_i h1
    rw [List.length_append, bR_len, mR_len] at h
    unfold mR at e
    rw [List.getElem?_map, List.getElem?_range (by omega)] at e
    rw [← Option.some.inj e]
    show ((256 + (i - 256) : Nat) : Int) = i
    omega
theorem elR : Elem Try.prog 125 127 2 24 := Elem.of (by kernel_rfl)
theorem elR_own {w : World} {b base : Nat} (h : Blk w b 127 []) (hb : base ≤ b) : w.ownsRow base 127 2 (.slice (some ⟨b, 0, none⟩) 0 0) 0 [] :=
  ⟨rfl, .inr ⟨b, 0, #[], rfl, hb, h, Nat.le_refl _, by simp [maxLen], rfl, rfl⟩⟩
section
variable {w w' : World} {a aS : Option Addr} {len cap cS : Nat} {more : List (List UInt8)}
set_option maxHeartbeats 1000000 in
set_option maxRecDepth 100000 in
theorem letters_ok (hv : View w a len cap 1 (tv more)) (hm : more.length ≤ 100) (hn : ∀ s ∈ more, s.length ≤ 80) (hT : TokOk (letT more)) (hS : (frO (letT more) (letT more).length).length ≤ 300) (hM : MayP ⟨letT more, frO (letT more) (letT more).length, []⟩) : Cal Try.prog 56 ⟨[.slice a len cap, .slice none 0 0]⟩ w fun u w' => Ext w w' ∧ ∃ x, u = .tuple ⟨[.agg ⟨vcs x⟩, .bool true]⟩ ∧ IsV w' ⟨letT more, frO (letT more) (letT more).length, []⟩ x := by
  have hml := tv_lens hv
  refine go56 (by rfl) ?_
  (repeat ((conv => whnf); (first | (with_reducible first | refine jA ?_ | refine jB ?_ | refine jC ?_ | refine jD ?_) | refine jE ?_ | refine jF ?_ | refine jG ?_ | refine jH ?_ | refine jI ?_ | refine jJ ?_ | refine jK ?_ | refine jL ?_ | refine jM ?_ | refine jN ?_ | refine jO ?_ | refine jP ?_ | refine jQ ?_ | refine jR ?_ | refine jS (k := ?_) | refine jT (k := ?_)))); (conv => whnf)
  refine r_new fun b4 w1 hx1 hb1 hs1 hblk4 => ?_
  have hz1 := hx1.size
  (repeat ((conv => whnf); (first | (with_reducible first | refine jA ?_ | refine jB ?_ | refine jC ?_ | refine jD ?_) | refine jE ?_ | refine jF ?_ | refine jG ?_ | refine jH ?_ | refine jI ?_ | refine jJ ?_ | refine jK ?_ | refine jL ?_ | refine jM ?_ | refine jN ?_ | refine jO ?_ | refine jP ?_ | refine jQ ?_ | refine jR ?_ | refine jS (k := ?_) | refine jT (k := ?_)))); (conv => whnf)
  refine r_new fun o w2 hx2 hb2 hs2 hblk2 => ?_
  have hblk41 := hblk4
  have hblk4 := hblk4.ext hx2
  have hb4 := hblk4.lt
  have hx02 := hx1.trans hx2
  have hz2 := hx02.size
  have hown2 := elR_own (base := w1.heap.size) hblk2 (by omega)
  (repeat ((conv => whnf); (first | (with_reducible first | refine jA ?_ | refine jB ?_ | refine jC ?_ | refine jD ?_) | refine jE ?_ | refine jF ?_ | refine jG ?_ | refine jH ?_ | refine jI ?_ | refine jJ ?_ | refine jK ?_ | refine jL ?_ | refine jM ?_ | refine jN ?_ | refine jO ?_ | refine jP ?_ | refine jQ ?_ | refine jR ?_ | refine jS (k := ?_) | refine jT (k := ?_)))); (conv => whnf)
  refine r_loop (σ := Value × Nat) (fun s => [s.1, .int .i64 (s.2 : Int)]) (fun s w' => s.2 ≤ 256 ∧ Ext w1 w' ∧ w'.ownsRow w1.heap.size 127 2 s.1 s.2 (sv (bR s.2))) (fun s _ => 256 - s.2) (.slice (some ⟨o, 0, none⟩) 0 0, 0) rfl ⟨by simp, hx2, hown2⟩ ?_
  rintro ⟨v, b⟩ w3 again1 ⟨hb, hx3, hown3⟩ hagain1
  dsimp only at hb hown3 hagain1 ⊢
  have hx03 := hx1.trans hx3
  have hz3 := hx3.size
  by_cases hbl : b < 256
  · (repeat ((conv => whnf); (first | (with_reducible first | refine jA ?_ | refine jB ?_ | refine jC ?_ | refine jD ?_) | refine jE ?_ | refine jF ?_ | refine jG ?_ | refine jH ?_ | refine jI ?_ | refine jJ ?_ | refine jK ?_ | refine jL ?_ | refine jM ?_ | refine jN ?_ | refine jO ?_ | refine jP ?_ | refine jQ ?_ | refine jR ?_ | refine jS (k := ?_) | refine jT (k := ?_)))); (conv => whnf)
    refine r_new fun q w4 hx4 hb4 hs4 hblk4 => ?_
    have hblk4 : Blk w4 q 5 (bvs [UInt8.ofNat b]) := by rw [byte_cells b hbl]; exact hblk4
    (repeat ((conv => whnf); (first | (with_reducible first | refine jA ?_ | refine jB ?_ | refine jC ?_ | refine jD ?_) | refine jE ?_ | refine jF ?_ | refine jG ?_ | refine jH ?_ | refine jI ?_ | refine jJ ?_ | refine jK ?_ | refine jL ?_ | refine jM ?_ | refine jN ?_ | refine jO ?_ | refine jP ?_ | refine jQ ?_ | refine jR ?_ | refine jS (k := ?_) | refine jT (k := ?_)))); (conv => whnf)
    refine r_conv (l := [UInt8.ofNat b]) (View.of_blk (n := 1) hblk4 rfl (by simp [maxLen])) ?_
    (repeat ((conv => whnf); (first | (with_reducible first | refine jA ?_ | refine jB ?_ | refine jC ?_ | refine jD ?_) | refine jE ?_ | refine jF ?_ | refine jG ?_ | refine jH ?_ | refine jI ?_ | refine jJ ?_ | refine jK ?_ | refine jL ?_ | refine jM ?_ | refine jN ?_ | refine jO ?_ | refine jP ?_ | refine jQ ?_ | refine jR ?_ | refine jS (k := ?_) | refine jT (k := ?_)))); (conv => whnf)
    refine r_new fun q5 w5 hx5 hb5 hs5 hblk5 => ?_
    (repeat ((conv => whnf); (first | (with_reducible first | refine jA ?_ | refine jB ?_ | refine jC ?_ | refine jD ?_) | refine jE ?_ | refine jF ?_ | refine jG ?_ | refine jH ?_ | refine jI ?_ | refine jJ ?_ | refine jK ?_ | refine jL ?_ | refine jM ?_ | refine jN ?_ | refine jO ?_ | refine jP ?_ | refine jQ ?_ | refine jR ?_ | refine jS (k := ?_) | refine jT (k := ?_)))); (conv => whnf)
    have hx35 := hx4.trans hx5
    refine r_app elR (own_ext hown3 hx35) (View.of_blk (n := 1) hblk5 rfl (by simp [maxLen])) (by simp [Value.oneCell']) (by omega) (by have := hx35.size; omega) fun v6 w6 hown6 hc6 _ => ?_
    (repeat ((conv => whnf); (first | (with_reducible first | refine jA ?_ | refine jB ?_ | refine jC ?_ | refine jD ?_) | refine jE ?_ | refine jF ?_ | refine jG ?_ | refine jH ?_ | refine jI ?_ | refine jJ ?_ | refine jK ?_ | refine jL ?_ | refine jM ?_ | refine jN ?_ | refine jO ?_ | refine jP ?_ | refine jQ ?_ | refine jR ?_ | refine jS (k := ?_) | refine jT (k := ?_)))); (conv => whnf)
    exact hagain1 (v6, b + 1) w6 ⟨by dsimp only; omega, Chg.own (hx3.trans hx35) hc6 (own_ext hown3 hx35), by dsimp only; rw [bR_succ]; exact hown6⟩ (by dsimp only; omega)
  have : b = 256 := by omega
  subst this
  (repeat ((conv => whnf); (first | (with_reducible first | refine jA ?_ | refine jB ?_ | refine jC ?_ | refine jD ?_) | refine jE ?_ | refine jF ?_ | refine jG ?_ | refine jH ?_ | refine jI ?_ | refine jJ ?_ | refine jK ?_ | refine jL ?_ | refine jM ?_ | refine jN ?_ | refine jO ?_ | refine jP ?_ | refine jQ ?_ | refine jR ?_ | refine jS (k := ?_) | refine jT (k := ?_)))); (conv => whnf)
  refine r_loop (σ := Value × Nat) (fun s => [s.1, .int .i64 (s.2 : Int)]) (fun s w' => s.2 ≤ len ∧ Ext w1 w' ∧ w'.ownsRow w1.heap.size 127 2 s.1 (256 + s.2) (sv (bR 256) ++ sv (mR more s.2))) (fun s _ => len - s.2) (v, 0) rfl ⟨by simp, hx3, by simpa [mR, sv] using hown3⟩ ?_
  clear hown3
  rintro ⟨v, i⟩ w4 again2 ⟨hi, hx4, hown4⟩ hagain2
  dsimp only at hi hown4 hagain2 ⊢
  have hx04 := hx1.trans hx4
  have hz4 := hx4.size
  by_cases hil : i < len
  · have hp := hv.plain (by rw [tv_len]; omega)
    have hg := tv_get (T := more) (i := i) (by omega)
    have hg' : (tv more)[(i : Int).toNat * 1]? = some (.string (bstr (tk more i))) := by simpa using hg
    (repeat ((conv => whnf); (first | (with_reducible first | refine jA ?_ | refine jB ?_ | refine jC ?_ | refine jD ?_) | refine jE ?_ | refine jF ?_ | refine jG ?_ | refine jH ?_ | refine jI ?_ | refine jJ ?_ | refine jK ?_ | refine jL ?_ | refine jM ?_ | refine jN ?_ | refine jO ?_ | refine jP ?_ | refine jQ ?_ | refine jR ?_ | refine jS (k := ?_) | refine jT (k := ?_)))); (conv => whnf)
    refine r_ldv (hv.ext hx04) hg' ?_
    (repeat ((conv => whnf); (first | (with_reducible first | refine jA ?_ | refine jB ?_ | refine jC ?_ | refine jD ?_) | refine jE ?_ | refine jF ?_ | refine jG ?_ | refine jH ?_ | refine jI ?_ | refine jJ ?_ | refine jK ?_ | refine jL ?_ | refine jM ?_ | refine jN ?_ | refine jO ?_ | refine jP ?_ | refine jQ ?_ | refine jR ?_ | refine jS (k := ?_) | refine jT (k := ?_)))); (conv => whnf)
    refine r_new fun q5 w5 hx5 hb5 hs5 hblk5 => ?_
    (repeat ((conv => whnf); (first | (with_reducible first | refine jA ?_ | refine jB ?_ | refine jC ?_ | refine jD ?_) | refine jE ?_ | refine jF ?_ | refine jG ?_ | refine jH ?_ | refine jI ?_ | refine jJ ?_ | refine jK ?_ | refine jL ?_ | refine jM ?_ | refine jN ?_ | refine jO ?_ | refine jP ?_ | refine jQ ?_ | refine jR ?_ | refine jS (k := ?_) | refine jT (k := ?_)))); (conv => whnf)
    refine r_app elR (own_ext hown4 hx5) (View.of_blk (n := 1) hblk5 rfl (by simp [maxLen])) (by simp [Value.oneCell']) (by omega) (by have := hx5.size; omega) fun v6 w6 hown6 hc6 _ => ?_
    (repeat ((conv => whnf); (first | (with_reducible first | refine jA ?_ | refine jB ?_ | refine jC ?_ | refine jD ?_) | refine jE ?_ | refine jF ?_ | refine jG ?_ | refine jH ?_ | refine jI ?_ | refine jJ ?_ | refine jK ?_ | refine jL ?_ | refine jM ?_ | refine jN ?_ | refine jO ?_ | refine jP ?_ | refine jQ ?_ | refine jR ?_ | refine jS (k := ?_) | refine jT (k := ?_)))); (conv => whnf)
    exact hagain2 (v6, i + 1) w6 ⟨by dsimp only; omega, Chg.own (hx4.trans hx5) hc6 (own_ext hown4 hx5), by dsimp only; rw [mR_succ, ← List.append_assoc]; exact hown6⟩ (by dsimp only; omega)
  have : i = more.length := by omega
  subst this
  rw [← sv_app] at hown4
  (repeat ((conv => whnf); (first | (with_reducible first | refine jA ?_ | refine jB ?_ | refine jC ?_ | refine jD ?_) | refine jE ?_ | refine jF ?_ | refine jG ?_ | refine jH ?_ | refine jI ?_ | refine jJ ?_ | refine jK ?_ | refine jL ?_ | refine jM ?_ | refine jN ?_ | refine jO ?_ | refine jP ?_ | refine jQ ?_ | refine jR ?_ | refine jS (k := ?_) | refine jT (k := ?_)))); (conv => whnf)
  refine r_new fun b12 w5 hx5 hb5 hs5 hblk12 => ?_
  (repeat ((conv => whnf); (first | (with_reducible first | refine jA ?_ | refine jB ?_ | refine jC ?_ | refine jD ?_) | refine jE ?_ | refine jF ?_ | refine jG ?_ | refine jH ?_ | refine jI ?_ | refine jJ ?_ | refine jK ?_ | refine jL ?_ | refine jM ?_ | refine jN ?_ | refine jO ?_ | refine jP ?_ | refine jQ ?_ | refine jR ?_ | refine jS (k := ?_) | refine jT (k := ?_)))); (conv => whnf)
  refine r_loop (σ := Unit) (fun _ => [.slice (some ⟨b12, 0, none⟩) 0 0, .int .i64 0]) (fun _ w' => w' = w5) (fun _ _ => 0) () rfl rfl ?_
  rintro - w5 again5 rfl hagain5
  obtain ⟨a2, c2, rfl, hv2, hge, -⟩ := View.of_own (own_ext hown4 hx5)
  (repeat ((conv => whnf); (first | (with_reducible first | refine jA ?_ | refine jB ?_ | refine jC ?_ | refine jD ?_) | refine jE ?_ | refine jF ?_ | refine jG ?_ | refine jH ?_ | refine jI ?_ | refine jJ ?_ | refine jK ?_ | refine jL ?_ | refine jM ?_ | refine jN ?_ | refine jO ?_ | refine jP ?_ | refine jQ ?_ | refine jR ?_ | refine jS (k := ?_) | refine jT (k := ?_)))); (conv => whnf)
  have hN := let_names more
  have hid := let_id more
  have hRl : (bR 256 ++ mR more more.length).length = 256 + more.length := by rw [List.length_append, bR_len, mR_len]
  generalize bR 256 ++ mR more more.length = R at *
  have hTl : (letT more).length = R.length := by rw [← hN, names_len]
  rw [hTl] at hS hM ⊢
  rw [← hN] at hS hM hT ⊢
  refine r_cal (rows_ok (aS := some ⟨b12, 0, none⟩) (cS := 0) hv2 (by omega) hid ?_ hT hS hM) ?_
  · intro s hs
    rw [hN] at hs
    unfold letT at hs
    rcases List.mem_append.1 hs with h | h
    · obtain ⟨b, _, rfl⟩ := List.mem_map.1 h
      simp
    · exact hn s h
  rintro _ w6 ⟨hx6, x, rfl, hV⟩
  have hx46 := hx5.trans hx6
  have hx06 := hx04.trans hx46
  have hblk6 : Blk w6 b4 50 [.slice none 0 0, .slice none 0 0, .slice none 0 0] := hblk41.ext (hx4.trans hx46)
  (repeat ((conv => whnf); (first | (with_reducible first | refine jA ?_ | refine jB ?_ | refine jC ?_ | refine jD ?_) | refine jE ?_ | refine jF ?_ | refine jG ?_ | refine jH ?_ | refine jI ?_ | refine jJ ?_ | refine jK ?_ | refine jL ?_ | refine jM ?_ | refine jN ?_ | refine jO ?_ | refine jP ?_ | refine jQ ?_ | refine jR ?_ | refine jS (k := ?_) | refine jT (k := ?_)))); (conv => whnf)
  refine r_stn hblk6 (by simp [vcs]) (by simp [vcs, Value.oneCell']) fun w7 hc7 hs7 hblk7 => ?_
  have hblk7 : Blk w7 b4 50 (vcs x) := hblk7
  have oT := View.off hV.t hblk6 (fun u hu v hv => by
    obtain ⟨s, rfl⟩ := tv_0 hv
    simp at hu
    subst hu
    intro hh
    cases hh)
  have oM := View.off hV.m hblk6 (fun u hu v hv => by
    obtain ⟨s, rfl⟩ := mv_0 hv
    simp at hu
    subst hu
    intro hh
    cases hh)
  (repeat ((conv => whnf); (first | (with_reducible first | refine jA ?_ | refine jB ?_ | refine jC ?_ | refine jD ?_) | refine jE ?_ | refine jF ?_ | refine jG ?_ | refine jH ?_ | refine jI ?_ | refine jJ ?_ | refine jK ?_ | refine jL ?_ | refine jM ?_ | refine jN ?_ | refine jO ?_ | refine jP ?_ | refine jQ ?_ | refine jR ?_ | refine jS (k := ?_) | refine jT (k := ?_)))); (conv => whnf)
  refine r_ldnb (vs := vcs x) hblk7 rfl rfl ?_
  (repeat ((conv => whnf); (first | (with_reducible first | refine jA ?_ | refine jB ?_ | refine jC ?_ | refine jD ?_) | refine jE ?_ | refine jF ?_ | refine jG ?_ | refine jH ?_ | refine jI ?_ | refine jJ ?_ | refine jK ?_ | refine jL ?_ | refine jM ?_ | refine jN ?_ | refine jO ?_ | refine jP ?_ | refine jQ ?_ | refine jR ?_ | refine jS (k := ?_) | refine jT (k := ?_)))); (conv => whnf)
  exact ⟨Chg.step hx06 hc7 fun k hk hlt => by omega, x, rfl, hV.t.keepN hc7 oT, hV.m.keepN hc7 oM, hV.s.keepN hc7 fun hp => absurd hp (by simp [sv])⟩
end
end Fb.Try.VO
