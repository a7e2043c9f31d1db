/-
  Walks: a coder's chain: what a place may merge with.
-/
import Derived.Test.YtlcnldimfgbjeaaPj
import Derived.Test.YtlcnldimfgbjeaaQ3
import Derived.Test.YtlcnldimfgbjeaaP1
import Derived.Test.YtlcnldimfgbjeaaS4
namespace Fb.Try.VO
open Go Go.Proofs Fb Fb.Bytes
open QU (En less Ag PS Arr Put_ok Drop_ok Take_ok)
/-- A row of numbers at the front of a block. -/
def Rw (w : World) (b n : Nat) (L : List Int) : Prop := (∃ X, Blk w b 3 (ri L ++ X)) ∧ L.length = n
section
variable {w w' : World} {b n : Nat} {L : List Int}
theorem Rw.ext (h : Rw w b n L) (k : Ext w w') : Rw w' b n L := ⟨h.1.imp fun _ h => h.ext k, h.2⟩
theorem Rw.keep {S : Nat → Prop} (h : Rw w b n L) (k : Chg S w w') (hs : ¬ S b) : Rw w' b n L := ⟨h.1.imp fun _ h => h.keep k hs, h.2⟩
theorem Rw.cell (h : Rw w b n L) {i : Nat} (hi : i < n) {z : Int} (hz : gi L i = z) : w.cell? ⟨b, 0 + (i : Int).toNat * 1, none⟩ = some (.int .i64 z) := by
  obtain ⟨⟨X, hb⟩, hl⟩ := h
  rw [show 0 + (i : Int).toNat * 1 = i by omega, hb.cell, List.getElem?_append_left (by rw [ri_len]; omega), ri_get (by omega), hz]
theorem Rw.lt (h : Rw w b n L) : b < w.heap.size := h.1.choose_spec.lt
theorem r_rw {K : Value → Prop} (h : Rw w b n L) {i : Nat} (hi : i < n) {z : Int} (hz : gi L i = z) (k : K (.int .i64 z)) : Load ⟨b, 0 + (i : Int).toNat * 1, none⟩ (fun w' => w' = w) K := r_ldw (h.cell hi hz) k
theorem r_rwE {K : Value → Prop} (h : Rw w b n L) {i : Nat} (hi : i < n) {z : Int} (hz : gi L i = z) (k : K (.int .i64 z)) : Load ⟨b, 0 + (i : Int).toNat * 1, none⟩ (Ext w) K := r_ld (fun _ e => (h.ext e).cell hi hz) k
theorem r_rwS {S : Nat → Prop} {K : Value → Prop} (h : Rw w b n L) (hs : ¬ S b) {i : Nat} (hi : i < n) {z : Int} (hz : gi L i = z) (k : K (.int .i64 z)) : Load ⟨b, 0 + (i : Int).toNat * 1, none⟩ (Chg S w) K := r_ld (fun _ e => (h.keep e hs).cell hi hz) k
theorem r_rwst {K : World → Prop} (h : Rw w b n L) {i : Nat} (hi : i < n) {z : Int} (k : ∀ w', Chg (· = b) w w' → w'.heap.size = w.heap.size → Rw w' b n (L.set i z) → K w') : Store ⟨b, 0 + (i : Int).toNat * 1, none⟩ (.int .i64 z) w K := by
  obtain ⟨⟨X, hb⟩, hl⟩ := h
  refine r_st hb (by rw [List.length_append, ri_len]; omega) rfl fun w' hc hs hb' => k w' hc hs ⟨⟨X, ?_⟩, by simpa using hl⟩
  rw [show 0 + (i : Int).toNat * 1 = i by omega, List.set_append_left _ _ (by rw [ri_len]; omega)] at hb'
  have e : (ri L).set i (.int .i64 z) = ri (L.set i z) := by simp [ri, List.map_set]
  rw [e] at hb'
  exact hb'
end
/-- Where a chain lies. -/
structure KA where
  kb : Nat
  br : Nat
  bl : Nat
  bt : Nat
  cr : Nat
  cl : Nat
  ct : Nat
  tb : Nat
  ab : Nat
def kcs (k : KA) (n : Nat) : List Value := [.slice (some ⟨k.br, 0, none⟩) n k.cr, .slice (some ⟨k.bl, 0, none⟩) n k.cl, .slice (some ⟨k.bt, 0, none⟩) n k.ct, .func (.func 53) ⟨[.pointer (some ⟨k.tb, 0, none⟩)]⟩ ⟨[]⟩, .pointer (some ⟨k.ab, 0, none⟩)]
structure Cn (w : World) (k : KA) (n : Nat) (R L Rt : List Int) : Prop where
  blk : Blk w k.kb 108 (kcs k n)
  r : Rw w k.br n R
  l : Rw w k.bl n L
  t : Rw w k.bt n Rt
  rl : k.br ≠ k.bl
  rt : k.br ≠ k.bt
  lt : k.bl ≠ k.bt
section
variable {w w' : World} {k : KA} {n : Nat} {P : List Nat} {V R L Rt : List Int} {M : List Mg} {mb c : Nat} {g : Option Nat} {l : List En}
theorem Cn.ext (h : Cn w k n R L Rt) (e : Ext w w') : Cn w' k n R L Rt := ⟨h.blk.ext e, h.r.ext e, h.l.ext e, h.t.ext e, h.rl, h.rt, h.lt⟩
theorem Cn.setR {R' : List Int} (h : Cn w k n R L Rt) (e : Chg (· = k.br) w w') (hr : Rw w' k.br n R') : Cn w' k n R' L Rt := by
  obtain ⟨⟨X1, h1⟩, _⟩ := h.r
  exact ⟨h.blk.keep e (_root_.Fb.Blk.ne h.blk h1 (by decide)), hr, h.l.keep e h.rl.symm, h.t.keep e h.rt.symm, h.rl, h.rt, h.lt⟩
theorem Cn.setL {L' : List Int} (h : Cn w k n R L Rt) (e : Chg (· = k.bl) w w') (hl : Rw w' k.bl n L') : Cn w' k n R L' Rt := by
  obtain ⟨⟨X1, h1⟩, _⟩ := h.l
  exact ⟨h.blk.keep e (_root_.Fb.Blk.ne h.blk h1 (by decide)), h.r.keep e h.rl, hl, h.t.keep e h.lt.symm, h.rl, h.rt, h.lt⟩
theorem Cn.setT {T' : List Int} (h : Cn w k n R L Rt) (e : Chg (· = k.bt) w w') (ht : Rw w' k.bt n T') : Cn w' k n R L T' := by
  obtain ⟨⟨X1, h1⟩, _⟩ := h.t
  exact ⟨h.blk.keep e (_root_.Fb.Blk.ne h.blk h1 (by decide)), h.r.keep e h.rt, h.l.keep e h.lt, ht, h.rl, h.rt, h.lt⟩
/-- A chain's blocks are no agenda's. -/
theorem ps_ne (hA : Ag w k.ab mb g c l) {b : Nat} {e : TypeId} {cs : List Value} (hb : Blk w b e cs) (h1 : e ≠ 82) (h2 : e ≠ 28) : ¬ PS k.ab mb g b := by
  rintro (rfl | rfl | rfl)
  · exact _root_.Fb.Blk.ne hb hA.pile.blk h1 rfl
  · exact hA.pile.map.ne hb rfl
  · obtain ⟨R, hr, _⟩ := hA.pile.row
    exact _root_.Fb.Blk.ne hb hr h2 rfl
theorem Cn.chg (h : Cn w k n R L Rt) (hA : Ag w k.ab mb g c l) (e : Chg (PS k.ab mb g) w w') : Cn w' k n R L Rt := by
  obtain ⟨⟨X1, h1⟩, _⟩ := h.r
  obtain ⟨⟨X2, h2⟩, _⟩ := h.l
  obtain ⟨⟨X3, h3⟩, _⟩ := h.t
  exact ⟨h.blk.keep e (ps_ne hA h.blk (by decide) (by decide)), h.r.keep e (ps_ne hA h1 (by decide) (by decide)), h.l.keep e (ps_ne hA h2 (by decide) (by decide)), h.t.keep e (ps_ne hA h3 (by decide) (by decide)), h.rl, h.rt, h.lt⟩
theorem Arr.back {w0 w : World} {g g' : Option Nat} (h : Arr w g g') (hw : w0.heap.size ≤ w.heap.size) : Arr w0 g g' := by
  rcases h with h | ⟨y, h1, h2⟩
  · exact .inl h
  · exact .inr ⟨y, h1, by omega⟩
theorem agenda_len (hA : Ag w k.ab mb g c l) (hp : ∀ x ∈ l, 0 ≤ x.place ∧ x.place < n) : l.length ≤ n := by
  have h1 : (l.map fun e => Value.int .i64 e.place).Pairwise (· ≠ ·) := by
    rw [List.pairwise_map]
    exact List.Pairwise.imp (fun h e => h (by simpa using e)) (QU.dist_pw.1 hA.pile.dist)
  have h2 := nodup_sub _ ((List.range n).map fun i : Nat => Value.int .i64 (i : Int)) h1 fun x hx => by
    obtain ⟨e, he, rfl⟩ := List.mem_map.1 hx
    have := hp e he
    exact List.mem_map.2 ⟨e.place.toNat, by simp; omega, by rw [Int.toNat_of_nonneg this.1]⟩
  simpa using h2
set_option maxRecDepth 100000 in
theorem look_ok (h : Cn w k n R L Rt) (hT : Tab w k.tb M) (hA : Ag w k.ab mb g c l) (hC : Ch n P V R L Rt) (hn : n ≤ 900) (hV : ∀ i ∈ V, I64 i) (hpl : ∀ x ∈ l, 0 ≤ x.place ∧ x.place < n) {j : Nat} (hj : j < P.length) :
    Cal Try.prog 57 ⟨[.pointer (some ⟨k.kb, 0, none⟩), .int .i64 (gp P j : Nat)]⟩ w fun _ w' => ∃ g' c' l', Ag w' k.ab mb g' c' l' ∧ (∀ x, x ∈ l' ↔ (x.place = (gp P j : Nat) ∧ Ent M P V x) ∨ (x.place ≠ (gp P j : Nat) ∧ x ∈ l)) ∧ Arr w g g' ∧ Chg (PS k.ab mb g) w w' := by
  have hpj := hC.lt j hj
  have hpv := hC.pv
  have hll := agenda_len hA hpl
  have hblk := h.blk
  unfold kcs at hblk
  have hdrop : ∀ {w1 : World}, Ext w w1 → (∀ x, Ent M P V x → x.place ≠ (gp P j : Nat)) → Cal Try.prog 15 ⟨[.pointer (some ⟨k.ab, 0, none⟩), .int .i64 (gp P j : Nat)]⟩ w1 fun _ w' => ∃ g' c' l', Ag w' k.ab mb g' c' l' ∧ (∀ x, x ∈ l' ↔ (x.place = (gp P j : Nat) ∧ Ent M P V x) ∨ (x.place ≠ (gp P j : Nat) ∧ x ∈ l)) ∧ Arr w g g' ∧ Chg (PS k.ab mb g) w w' := by
    intro w1 hx1 hno
    refine r_cal (Drop_ok (hA.ext hx1) (p := (gp P j : Nat)) (by omega)) ?_
    rintro _ w2 ⟨-, l', h2, hm, hc⟩
    refine ⟨g, c, l', h2, fun x => ?_, .inl rfl, Chg.step (hx1.wide _) hc fun _ hs _ => hs⟩
    rw [hm]
    constructor
    · rintro ⟨a, b⟩
      exact .inr ⟨b, a⟩
    · rintro (⟨a, b⟩ | ⟨a, b⟩)
      · exact absurd a (hno x b)
      · exact ⟨b, a⟩
  refine go57 (by rfl) ?_
  by_cases hlast : j + 1 = P.length
  · have hno : ∀ x, Ent M P V x → x.place ≠ (gp P j : Nat) := by
      rintro x ⟨i, m, hi, _, rfl⟩ e
      dsimp only at e
      exact hC.ne (i := i) (j := j) (by omega) hj (by omega) (by omega)
    (repeat ((conv => whnf); (first | refine r_need rfl ?_ | refine r_rw h.t hpj (hC.rl j hlast) ?_ | (with_reducible first | refine jA ?_ | refine jB ?_ | refine jC ?_ | refine jD ?_) | refine jE ?_ | refine jF ?_ | refine jG ?_ | refine jH ?_ | refine jI ?_ | refine jJ ?_ | refine jK ?_ | refine jL ?_ | refine jM ?_ | refine jN ?_ | refine jO ?_ | refine jP ?_ | refine jQ ?_ | refine jR ?_ | refine jS (k := ?_) | refine jT (k := ?_)))); (conv => whnf)
    refine r_cal (hdrop (Ext.refl w) hno) ?_
    intro _ w2 h2
    (repeat ((conv => whnf); (first | (with_reducible first | refine jA ?_ | refine jB ?_ | refine jC ?_ | refine jD ?_) | refine jE ?_ | refine jF ?_ | refine jG ?_ | refine jH ?_ | refine jI ?_ | refine jJ ?_ | refine jK ?_ | refine jL ?_ | refine jM ?_ | refine jN ?_ | refine jO ?_ | refine jP ?_ | refine jQ ?_ | refine jR ?_ | refine jS (k := ?_) | refine jT (k := ?_)))); (conv => whnf)
    exact h2
  · have hl1 : j + 1 < P.length := by omega
    have hpj1 := hC.lt (j + 1) hl1
    (repeat ((conv => whnf); (first | refine r_need rfl ?_ | refine r_rw h.t hpj (hC.rt j hl1) ?_ | (with_reducible first | refine jA ?_ | refine jB ?_ | refine jC ?_ | refine jD ?_) | refine jE ?_ | refine jF ?_ | refine jG ?_ | refine jH ?_ | refine jI ?_ | refine jJ ?_ | refine jK ?_ | refine jL ?_ | refine jM ?_ | refine jN ?_ | refine jO ?_ | refine jP ?_ | refine jQ ?_ | refine jR ?_ | refine jS (k := ?_) | refine jT (k := ?_)))); (conv => whnf)
    refine r_drawE fun w1 hx1 hh1 => ?_
    have hz1 := hx1.size
    (repeat ((conv => whnf); (first | refine r_need rfl ?_ | refine r_rwE h.t hpj (hC.rt j hl1) ?_ | refine r_rwE h.r hpj (hC.rv j hj) ?_ | refine r_rwE h.r hpj1 (hC.rv (j + 1) hl1) ?_ | (with_reducible first | refine jA ?_ | refine jB ?_ | refine jC ?_ | refine jD ?_) | refine jE ?_ | refine jF ?_ | refine jG ?_ | refine jH ?_ | refine jI ?_ | refine jJ ?_ | refine jK ?_ | refine jL ?_ | refine jM ?_ | refine jN ?_ | refine jO ?_ | refine jP ?_ | refine jQ ?_ | refine jR ?_ | refine jS (k := ?_) | refine jT (k := ?_)))); (conv => whnf)
    have hIj : I64 (gi V j) := hV _ (List.mem_of_getElem? (gi_get (by omega)))
    have hIj1 : I64 (gi V (j + 1)) := hV _ (List.mem_of_getElem? (gi_get (by omega)))
    refine r_both ?_ ?_
    focus
      (conv => whnf)
      refine r_calV (by kernel_rfl) (pFind_ok (hT.ext hx1) hIj hIj1) ?_
      rintro _ w2 ⟨hx2, rfl⟩
      have hx02 := hx1.trans hx2
      refine r_held hx02 ?_
      (repeat ((conv => whnf); (first | (with_reducible first | refine jA ?_ | refine jB ?_ | refine jC ?_ | refine jD ?_) | refine jE ?_ | refine jF ?_ | refine jG ?_ | refine jH ?_ | refine jI ?_ | refine jJ ?_ | refine jK ?_ | refine jL ?_ | refine jM ?_ | refine jN ?_ | refine jO ?_ | refine jP ?_ | refine jQ ?_ | refine jR ?_ | refine jS (k := ?_) | refine jT (k := ?_)))); (conv => whnf)
      refine r_new fun bm w3 hx3 hb3 hs3 hblk3 => ?_
      have hx03 := hx02.trans hx3
      refine r_held hx03 ?_
      (repeat ((conv => whnf); (first | (with_reducible first | refine jA ?_ | refine jB ?_ | refine jC ?_ | refine jD ?_) | refine jE ?_ | refine jF ?_ | refine jG ?_ | refine jH ?_ | refine jI ?_ | refine jJ ?_ | refine jK ?_ | refine jL ?_ | refine jM ?_ | refine jN ?_ | refine jO ?_ | refine jP ?_ | refine jQ ?_ | refine jR ?_ | refine jS (k := ?_) | refine jT (k := ?_)))); (conv => whnf)
    rotate_left
    focus
      (conv => whnf)
      refine r_new fun bm w2 hx2 hb2 hs2 hblk3 => ?_
      have hx02 := hx1.trans hx2
      (repeat ((conv => whnf); (first | (with_reducible first | refine jA ?_ | refine jB ?_ | refine jC ?_ | refine jD ?_) | refine jE ?_ | refine jF ?_ | refine jG ?_ | refine jH ?_ | refine jI ?_ | refine jJ ?_ | refine jK ?_ | refine jL ?_ | refine jM ?_ | refine jN ?_ | refine jO ?_ | refine jP ?_ | refine jQ ?_ | refine jR ?_ | refine jS (k := ?_) | refine jT (k := ?_)))); (conv => whnf)
      refine r_held hx02 ?_
      (repeat ((conv => whnf); (first | (with_reducible first | refine jA ?_ | refine jB ?_ | refine jC ?_ | refine jD ?_) | refine jE ?_ | refine jF ?_ | refine jG ?_ | refine jH ?_ | refine jI ?_ | refine jJ ?_ | refine jK ?_ | refine jL ?_ | refine jM ?_ | refine jN ?_ | refine jO ?_ | refine jP ?_ | refine jQ ?_ | refine jR ?_ | refine jS (k := ?_) | refine jT (k := ?_)))); (conv => whnf)
      refine r_calV (by kernel_rfl) (pFind_ok ((hT.ext hx1).ext hx2) hIj hIj1) ?_
      rintro _ w3 ⟨hx3, rfl⟩
      have hx03 := hx02.trans hx3
      have hblk3 := hblk3.ext hx3
      have hb3 : w.heap.size ≤ bm := by omega
      refine r_held hx03 ?_
      (repeat ((conv => whnf); (first | (with_reducible first | refine jA ?_ | refine jB ?_ | refine jC ?_ | refine jD ?_) | refine jE ?_ | refine jF ?_ | refine jG ?_ | refine jH ?_ | refine jI ?_ | refine jJ ?_ | refine jK ?_ | refine jL ?_ | refine jM ?_ | refine jN ?_ | refine jO ?_ | refine jP ?_ | refine jQ ?_ | refine jR ?_ | refine jS (k := ?_) | refine jT (k := ?_)))); (conv => whnf)
    rotate_left
    all_goals
      have hb3' : w.heap.size ≤ bm := by have := hx02.size; omega
      refine r_stn (o := 0) hblk3 (by simp [Mg.cells]) (mg_one _) fun w4 hc4 hs4 hblk4 => ?_
      have hx04 : Ext w w4 := Chg.step hx03 hc4 fun k hk hlt => by omega
      have hblk := hblk.ext hx04
      have hblk4 : Blk w4 bm 55 [.int .i64 (fdM M (gi V j) (gi V (j + 1))).l, .int .i64 (fdM M (gi V j) (gi V (j + 1))).r, .int .i64 (fdM M (gi V j) (gi V (j + 1))).o, .int .i64 (fdM M (gi V j) (gi V (j + 1))).d] := hblk4
      cases hfd : fd M (gi V j) (gi V (j + 1)) with
      | none =>
        (repeat ((conv => whnf); (first | (with_reducible first | refine jA ?_ | refine jB ?_ | refine jC ?_ | refine jD ?_) | refine jE ?_ | refine jF ?_ | refine jG ?_ | refine jH ?_ | refine jI ?_ | refine jJ ?_ | refine jK ?_ | refine jL ?_ | refine jM ?_ | refine jN ?_ | refine jO ?_ | refine jP ?_ | refine jQ ?_ | refine jR ?_ | refine jS (k := ?_) | refine jT (k := ?_)))); (conv => whnf)
        refine r_false (by rfl) ?_
        (repeat ((conv => whnf); (first | (with_reducible first | refine jA ?_ | refine jB ?_ | refine jC ?_ | refine jD ?_) | refine jE ?_ | refine jF ?_ | refine jG ?_ | refine jH ?_ | refine jI ?_ | refine jJ ?_ | refine jK ?_ | refine jL ?_ | refine jM ?_ | refine jN ?_ | refine jO ?_ | refine jP ?_ | refine jQ ?_ | refine jR ?_ | refine jS (k := ?_) | refine jT (k := ?_)))); (conv => whnf)
        refine r_cal (hdrop hx04 ?_) ?_
        · rintro x ⟨i, m, hi, hf, rfl⟩ e
          dsimp only at e
          have : i = j := by
            by_cases hij : i = j
            · exact hij
            · exact absurd (by omega) (hC.ne (i := i) (j := j) (by omega) hj hij)
          subst this
          rw [hfd] at hf
          cases hf
        · intro _ w2 h2
          (repeat ((conv => whnf); (first | (with_reducible first | refine jA ?_ | refine jB ?_ | refine jC ?_ | refine jD ?_) | refine jE ?_ | refine jF ?_ | refine jG ?_ | refine jH ?_ | refine jI ?_ | refine jJ ?_ | refine jK ?_ | refine jL ?_ | refine jM ?_ | refine jN ?_ | refine jO ?_ | refine jP ?_ | refine jQ ?_ | refine jR ?_ | refine jS (k := ?_) | refine jT (k := ?_)))); (conv => whnf)
          exact h2
      | some m =>
        have hfm : fdM M (gi V j) (gi V (j + 1)) = gm M m := by unfold fdM; rw [hfd]
        rw [hfm] at hblk4
        (repeat ((conv => whnf); (first | (with_reducible first | refine jA ?_ | refine jB ?_ | refine jC ?_ | refine jD ?_) | refine jE ?_ | refine jF ?_ | refine jG ?_ | refine jH ?_ | refine jI ?_ | refine jJ ?_ | refine jK ?_ | refine jL ?_ | refine jM ?_ | refine jN ?_ | refine jO ?_ | refine jP ?_ | refine jQ ?_ | refine jR ?_ | refine jS (k := ?_) | refine jT (k := ?_)))); (conv => whnf)
        refine r_true (by rfl) ?_
        (repeat ((conv => whnf); (first | (with_reducible first | refine jA ?_ | refine jB ?_ | refine jC ?_ | refine jD ?_) | refine jE ?_ | refine jF ?_ | refine jG ?_ | refine jH ?_ | refine jI ?_ | refine jJ ?_ | refine jK ?_ | refine jL ?_ | refine jM ?_ | refine jN ?_ | refine jO ?_ | refine jP ?_ | refine jQ ?_ | refine jR ?_ | refine jS (k := ?_) | refine jT (k := ?_)))); (conv => whnf)
        have hA4 := hA.ext hx04
        have nk := ps_ne hA4 hblk (by decide) (by decide)
        have nm := ps_ne hA4 hblk4 (by decide) (by decide)
        refine r_drawS (PS k.ab mb g) fun w5 hx5 hh5 => ?_
        have hx05 := hx04.trans hx5
        (repeat ((conv => whnf); (first | refine r_ldbS hblk (by rfl) nk ?_ | refine r_ldbS hblk4 (by rfl) nm ?_ | (with_reducible first | refine jA ?_ | refine jB ?_ | refine jC ?_ | refine jD ?_) | refine jE ?_ | refine jF ?_ | refine jG ?_ | refine jH ?_ | refine jI ?_ | refine jJ ?_ | refine jK ?_ | refine jL ?_ | refine jM ?_ | refine jN ?_ | refine jO ?_ | refine jP ?_ | refine jQ ?_ | refine jR ?_ | refine jS (k := ?_) | refine jT (k := ?_)))); (conv => whnf)
        refine r_cal (Put_ok (hA.ext hx05) (e := ⟨(gp P j : Nat), (gm M m).d, (gm M m).o⟩) (by unfold QU.Wf; dsimp only; omega) (by omega)) ?_
        rintro _ w6 ⟨g', c', l', h6, hm6, ha6, hc6⟩
        refine r_held (Chg.step (hx5.wide _) hc6 fun _ hs _ => hs) ?_
        (repeat ((conv => whnf); (first | (with_reducible first | refine jA ?_ | refine jB ?_ | refine jC ?_ | refine jD ?_) | refine jE ?_ | refine jF ?_ | refine jG ?_ | refine jH ?_ | refine jI ?_ | refine jJ ?_ | refine jK ?_ | refine jL ?_ | refine jM ?_ | refine jN ?_ | refine jO ?_ | refine jP ?_ | refine jQ ?_ | refine jR ?_ | refine jS (k := ?_) | refine jT (k := ?_)))); (conv => whnf)
        refine ⟨g', c', l', h6, fun x => ?_, Arr.back ha6 hx05.size, Chg.step (hx05.wide _) hc6 fun _ hs _ => hs⟩
        rw [hm6]
        have hent : Ent M P V ⟨(gp P j : Nat), (gm M m).d, (gm M m).o⟩ := ⟨j, m, by omega, hfd, rfl⟩
        constructor
        · rintro (rfl | ⟨a, b⟩)
          · exact .inl ⟨rfl, hent⟩
          · exact .inr ⟨b, a⟩
        · rintro (⟨a, b⟩ | ⟨a, b⟩)
          · refine .inl ?_
            obtain ⟨i, m', hi, hf, rfl⟩ := b
            dsimp only at a
            have : i = j := by
              by_cases hij : i = j
              · exact hij
              · exact absurd (by omega) (hC.ne (i := i) (j := j) (by omega) hj hij)
            subst this
            rw [hfd] at hf
            cases hf
            rfl
          · exact .inr ⟨b, a⟩
end
end Fb.Try.VO
