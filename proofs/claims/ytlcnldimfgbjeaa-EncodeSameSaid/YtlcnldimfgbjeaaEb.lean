/-
  Walks: a coder's chain: one merge.
-/
import Derived.Test.YtlcnldimfgbjeaaEa
namespace Fb.Try.VO
open Go Go.Proofs Fb Fb.Bytes
open QU (En less Ag PS Arr Put_ok Drop_ok Take_ok)
section
variable {w w' : World} {k : KA} {n : Nat} {P : List Nat} {V R L Rt : List Int} {M : List Mg} {mb c : Nat} {g : Option Nat} {l : List En}
theorem look_nil (kb : Nat) (w : World) : Cal Try.prog 57 ⟨[.pointer (some ⟨kb, 0, none⟩), .int .i64 (-1)]⟩ w fun _ w' => w' = w := by
  refine go57 (by rfl) ?_
  (repeat ((conv => whnf); (first | (with_reducible first | refine jA ?_ | refine jB ?_ | refine jC ?_ | refine jD ?_) | refine jE ?_ | refine jF ?_ | refine jG ?_ | refine jH ?_ | refine jI ?_ | refine jJ ?_ | refine jK ?_ | refine jL ?_ | refine jM ?_ | refine jN ?_ | refine jO ?_ | refine jP ?_ | refine jQ ?_ | refine jR ?_ | refine jS (k := ?_) | refine jT (k := ?_)))); (conv => whnf)
/-- What a chain and its agenda may change. -/
def CS (k : KA) (mb : Nat) (g : Option Nat) (b : Nat) : Prop := b = k.br ∨ b = k.bl ∨ b = k.bt ∨ PS k.ab mb g b
theorem repl_i64 {o : Int} {i : Nat} (hV : ∀ x ∈ V, I64 x) (ho : I64 o) : ∀ x ∈ repl V i o, I64 x := by
  intro x hx
  unfold repl at hx
  simp only [List.mem_append, List.mem_singleton] at hx
  rcases hx with (hx | rfl) | hx
  · exact hV x (List.mem_of_mem_take hx)
  · exact ho
  · exact hV x (List.mem_of_mem_drop hx)
theorem CS.ext {w0 : World} (hx0 : Ext w0 w) (hc : Chg (CS k mb g) w w') (hS : ∀ b, CS k mb g b → w0.heap.size ≤ b) : Ext w0 w' :=
  Chg.step hx0 hc fun b hb hlt => by have := hS b hb; omega
theorem ag_keep {S : Nat → Prop} (hA : Ag w k.ab mb g c l) (hc : Chg S w w') {b : Nat} {cs : List Value} (hb : Blk w b 3 cs) (hs : ∀ x, S x → x = b) : Ag w' k.ab mb g c l :=
  hA.keep hc fun x hx hsx => by
    have := hs x hsx
    subst this
    exact ps_ne hA hb (by decide) (by decide) hx
theorem ent_done {l9 l10 : List En} (hC : Ch n P V R L Rt) {i : Nat} (hi : i + 1 < P.length) {o : Int} (hl : ∀ x, x ∈ l ↔ Ent M P V x ∧ x.place ≠ (gp P i : Nat)) (hm9 : ∀ x, x ∈ l9 ↔ x ∈ l ∧ x.place ≠ (gp P (i + 1) : Nat))
    (hm10 : ∀ x, x ∈ l10 ↔ (x.place = (gp P i : Nat) ∧ Ent M (P.eraseIdx (i + 1)) (repl V i o) x) ∨ (x.place ≠ (gp P i : Nat) ∧ x ∈ l9)) (x : En) (hx : 0 < i → x.place ≠ (gp P (i - 1) : Nat)) : x ∈ l10 ↔ Ent M (P.eraseIdx (i + 1)) (repl V i o) x := by
  rw [hm10, hm9, hl]
  by_cases hp : x.place = (gp P i : Nat)
  · simp [hp]
  · rw [Ent.step hC hi o hp hx]
    simp [hp]
set_option maxRecDepth 100000 in
theorem merge_ok {w0 : World} (h : Cn w k n R L Rt) (hT : Tab w0 k.tb M) (hx0 : Ext w0 w) (hS : ∀ b, CS k mb g b → w0.heap.size ≤ b) (hA : Ag w k.ab mb g c l) (hC : Ch n P V R L Rt) (hn : n ≤ 900) (hV : ∀ i ∈ V, I64 i) {i m : Nat} (hi : i + 1 < P.length) (hM : I64 (gm M m).o)
    (hl : ∀ x, x ∈ l ↔ Ent M P V x ∧ x.place ≠ (gp P i : Nat)) :
    Cal Try.prog 58 ⟨[.pointer (some ⟨k.kb, 0, none⟩), .agg ⟨En.cells ⟨(gp P i : Nat), (gm M m).d, (gm M m).o⟩⟩]⟩ w fun _ w' => ∃ R' L' Rt' g' c' l', Cn w' k n R' L' Rt' ∧ Ch n (P.eraseIdx (i + 1)) (repl V i (gm M m).o) R' L' Rt' ∧ Ag w' k.ab mb g' c' l' ∧ (∀ x, x ∈ l' ↔ Ent M (P.eraseIdx (i + 1)) (repl V i (gm M m).o) x) ∧ Arr w g g' ∧ Chg (CS k mb g) w w' := by
  have hpv := hC.pv
  have hpi := hC.lt i (by omega)
  have hpi1 := hC.lt (i + 1) hi
  have hblk := h.blk
  unfold kcs at hblk
  have hVi := repl_i64 (i := i) hV hM
  have hV'l := repl_len (row := V) (i := i) (by omega) (gm M m).o
  have hP'l : (P.eraseIdx (i + 1)).length = P.length - 1 := by rw [List.length_eraseIdx, if_pos hi]
  refine go58 (by rfl) ?_
  (repeat ((conv => whnf); (first | (with_reducible first | refine jA ?_ | refine jB ?_ | refine jC ?_ | refine jD ?_) | refine jE ?_ | refine jF ?_ | refine jG ?_ | refine jH ?_ | refine jI ?_ | refine jJ ?_ | refine jK ?_ | refine jL ?_ | refine jM ?_ | refine jN ?_ | refine jO ?_ | refine jP ?_ | refine jQ ?_ | refine jR ?_ | refine jS (k := ?_) | refine jT (k := ?_)))); (conv => whnf)
  refine r_new fun eb w1 hx1 hb1 hs1 hblk1 => ?_
  have hblk1 : Blk w1 eb 28 [.int .i64 (gp P i : Nat), .int .i64 (gm M m).d, .int .i64 (gm M m).o] := hblk1
  have h1 := h.ext hx1
  have hblk := hblk.ext hx1
  have hz1 := hx1.size
  (repeat ((conv => whnf); (first | (with_reducible first | refine jA ?_ | refine jB ?_ | refine jC ?_ | refine jD ?_) | refine jE ?_ | refine jF ?_ | refine jG ?_ | refine jH ?_ | refine jI ?_ | refine jJ ?_ | refine jK ?_ | refine jL ?_ | refine jM ?_ | refine jN ?_ | refine jO ?_ | refine jP ?_ | refine jQ ?_ | refine jR ?_ | refine jS (k := ?_) | refine jT (k := ?_)))); (conv => whnf)
  refine r_drawE fun w2 hx2 hh2 => ?_
  have h2 := h1.ext hx2
  (repeat ((conv => whnf); (first | refine r_need rfl ?_ | refine r_rwE h1.t hpi (hC.rt i hi) ?_ | (with_reducible first | refine jA ?_ | refine jB ?_ | refine jC ?_ | refine jD ?_) | refine jE ?_ | refine jF ?_ | refine jG ?_ | refine jH ?_ | refine jI ?_ | refine jJ ?_ | refine jK ?_ | refine jL ?_ | refine jM ?_ | refine jN ?_ | refine jO ?_ | refine jP ?_ | refine jQ ?_ | refine jR ?_ | refine jS (k := ?_) | refine jT (k := ?_)))); (conv => whnf)
  have hblk := hblk.ext hx2
  have hblk1 := hblk1.ext hx2
  have hx02 := hx1.trans hx2
  have hA2 := hA.ext hx02
  rcases hC.step hi (gm M m).o with ⟨c1, c2, hC'⟩ | ⟨c1, c2, hC'⟩
  focus
    (repeat ((conv => whnf); (first | refine r_need rfl ?_ | refine r_rw h2.t hpi1 c2 ?_ | (with_reducible first | refine jA ?_ | refine jB ?_ | refine jC ?_ | refine jD ?_) | refine jE ?_ | refine jF ?_ | refine jG ?_ | refine jH ?_ | refine jI ?_ | refine jJ ?_ | refine jK ?_ | refine jL ?_ | refine jM ?_ | refine jN ?_ | refine jO ?_ | refine jP ?_ | refine jQ ?_ | refine jR ?_ | refine jS (k := ?_) | refine jT (k := ?_)))); (conv => whnf)
    refine r_drawE fun w3 hx3 hh3 => ?_
    have h3 := h2.ext hx3
    (repeat ((conv => whnf); (first | refine r_need rfl ?_ | (with_reducible first | refine jA ?_ | refine jB ?_ | refine jC ?_ | refine jD ?_) | refine jE ?_ | refine jF ?_ | refine jG ?_ | refine jH ?_ | refine jI ?_ | refine jJ ?_ | refine jK ?_ | refine jL ?_ | refine jM ?_ | refine jN ?_ | refine jO ?_ | refine jP ?_ | refine jQ ?_ | refine jR ?_ | refine jS (k := ?_) | refine jT (k := ?_)))); (conv => whnf)
    refine r_rwst h3.r hpi fun w4 hc4 hs4 hr4 => ?_
    have h4 := h3.setR hc4 hr4
    have hblk1 := (hblk1.ext hx3).keep hc4 (_root_.Fb.Blk.ne (hblk1.ext hx3) h3.r.1.choose_spec (by decide))
    have hA4 := ag_keep (hA2.ext hx3) hc4 h3.r.1.choose_spec fun _ h => h
    have hc04 : Chg (CS k mb g) w w4 := Chg.step ((hx02.trans hx3).wide _) hc4 fun b hb _ => .inl hb
    have hblk := h4.blk
    unfold kcs at hblk
    (repeat ((conv => whnf); (first | (with_reducible first | refine jA ?_ | refine jB ?_ | refine jC ?_ | refine jD ?_) | refine jE ?_ | refine jF ?_ | refine jG ?_ | refine jH ?_ | refine jI ?_ | refine jJ ?_ | refine jK ?_ | refine jL ?_ | refine jM ?_ | refine jN ?_ | refine jO ?_ | refine jP ?_ | refine jQ ?_ | refine jR ?_ | refine jS (k := ?_) | refine jT (k := ?_)))); (conv => whnf)
    refine r_drawE fun w5 hx5 hh5 => ?_
    have h5 := h4.ext hx5
    (repeat ((conv => whnf); (first | refine r_need rfl ?_ | (with_reducible first | refine jA ?_ | refine jB ?_ | refine jC ?_ | refine jD ?_) | refine jE ?_ | refine jF ?_ | refine jG ?_ | refine jH ?_ | refine jI ?_ | refine jJ ?_ | refine jK ?_ | refine jL ?_ | refine jM ?_ | refine jN ?_ | refine jO ?_ | refine jP ?_ | refine jQ ?_ | refine jR ?_ | refine jS (k := ?_) | refine jT (k := ?_)))); (conv => whnf)
    refine r_rwst h5.t hpi fun w6 hc6 hs6 hr6 => ?_
    have h6 := h5.setT hc6 hr6
    have hblk1 := (hblk1.ext hx5).keep hc6 (_root_.Fb.Blk.ne (hblk1.ext hx5) h5.t.1.choose_spec (by decide))
    have hA6 := ag_keep (hA4.ext hx5) hc6 h5.t.1.choose_spec fun _ h => h
    have hc06 : Chg (CS k mb g) w w6 := Chg.step (hc04.ext hx5) hc6 fun b hb _ => .inr (.inr (.inl hb))
    have hN := h6
    have hAN := hA6
    have hcN := hc06
    have hblk := h6.blk
    unfold kcs at hblk
    (repeat ((conv => whnf); (first | (with_reducible first | refine jA ?_ | refine jB ?_ | refine jC ?_ | refine jD ?_) | refine jE ?_ | refine jF ?_ | refine jG ?_ | refine jH ?_ | refine jI ?_ | refine jJ ?_ | refine jK ?_ | refine jL ?_ | refine jM ?_ | refine jN ?_ | refine jO ?_ | refine jP ?_ | refine jQ ?_ | refine jR ?_ | refine jS (k := ?_) | refine jT (k := ?_)))); (conv => whnf)
  rotate_left
  focus
    (repeat ((conv => whnf); (first | refine r_need rfl ?_ | refine r_rw h2.t hpi1 c2 ?_ | (with_reducible first | refine jA ?_ | refine jB ?_ | refine jC ?_ | refine jD ?_) | refine jE ?_ | refine jF ?_ | refine jG ?_ | refine jH ?_ | refine jI ?_ | refine jJ ?_ | refine jK ?_ | refine jL ?_ | refine jM ?_ | refine jN ?_ | refine jO ?_ | refine jP ?_ | refine jQ ?_ | refine jR ?_ | refine jS (k := ?_) | refine jT (k := ?_)))); (conv => whnf)
    refine r_drawE fun w3 hx3 hh3 => ?_
    have h3 := h2.ext hx3
    (repeat ((conv => whnf); (first | refine r_need rfl ?_ | (with_reducible first | refine jA ?_ | refine jB ?_ | refine jC ?_ | refine jD ?_) | refine jE ?_ | refine jF ?_ | refine jG ?_ | refine jH ?_ | refine jI ?_ | refine jJ ?_ | refine jK ?_ | refine jL ?_ | refine jM ?_ | refine jN ?_ | refine jO ?_ | refine jP ?_ | refine jQ ?_ | refine jR ?_ | refine jS (k := ?_) | refine jT (k := ?_)))); (conv => whnf)
    refine r_rwst h3.r hpi fun w4 hc4 hs4 hr4 => ?_
    have h4 := h3.setR hc4 hr4
    have hblk1 := (hblk1.ext hx3).keep hc4 (_root_.Fb.Blk.ne (hblk1.ext hx3) h3.r.1.choose_spec (by decide))
    have hA4 := ag_keep (hA2.ext hx3) hc4 h3.r.1.choose_spec fun _ h => h
    have hc04 : Chg (CS k mb g) w w4 := Chg.step ((hx02.trans hx3).wide _) hc4 fun b hb _ => .inl hb
    have hblk := h4.blk
    unfold kcs at hblk
    (repeat ((conv => whnf); (first | (with_reducible first | refine jA ?_ | refine jB ?_ | refine jC ?_ | refine jD ?_) | refine jE ?_ | refine jF ?_ | refine jG ?_ | refine jH ?_ | refine jI ?_ | refine jJ ?_ | refine jK ?_ | refine jL ?_ | refine jM ?_ | refine jN ?_ | refine jO ?_ | refine jP ?_ | refine jQ ?_ | refine jR ?_ | refine jS (k := ?_) | refine jT (k := ?_)))); (conv => whnf)
    refine r_drawE fun w5 hx5 hh5 => ?_
    have h5 := h4.ext hx5
    (repeat ((conv => whnf); (first | refine r_need rfl ?_ | (with_reducible first | refine jA ?_ | refine jB ?_ | refine jC ?_ | refine jD ?_) | refine jE ?_ | refine jF ?_ | refine jG ?_ | refine jH ?_ | refine jI ?_ | refine jJ ?_ | refine jK ?_ | refine jL ?_ | refine jM ?_ | refine jN ?_ | refine jO ?_ | refine jP ?_ | refine jQ ?_ | refine jR ?_ | refine jS (k := ?_) | refine jT (k := ?_)))); (conv => whnf)
    refine r_rwst h5.t hpi fun w6 hc6 hs6 hr6 => ?_
    have h6 := h5.setT hc6 hr6
    have hblk1 := (hblk1.ext hx5).keep hc6 (_root_.Fb.Blk.ne (hblk1.ext hx5) h5.t.1.choose_spec (by decide))
    have hA6 := ag_keep (hA4.ext hx5) hc6 h5.t.1.choose_spec fun _ h => h
    have hc06 : Chg (CS k mb g) w w6 := Chg.step (hc04.ext hx5) hc6 fun b hb _ => .inr (.inr (.inl hb))
    have hblk := h6.blk
    unfold kcs at hblk
    (repeat ((conv => whnf); (first | (with_reducible first | refine jA ?_ | refine jB ?_ | refine jC ?_ | refine jD ?_) | refine jE ?_ | refine jF ?_ | refine jG ?_ | refine jH ?_ | refine jI ?_ | refine jJ ?_ | refine jK ?_ | refine jL ?_ | refine jM ?_ | refine jN ?_ | refine jO ?_ | refine jP ?_ | refine jQ ?_ | refine jR ?_ | refine jS (k := ?_) | refine jT (k := ?_)))); (conv => whnf)
    have hpi2 := hC.lt (i + 2) c1
    refine r_drawE fun w7 hx7 hh7 => ?_
    have h7 := h6.ext hx7
    (repeat ((conv => whnf); (first | refine r_need rfl ?_ | (with_reducible first | refine jA ?_ | refine jB ?_ | refine jC ?_ | refine jD ?_) | refine jE ?_ | refine jF ?_ | refine jG ?_ | refine jH ?_ | refine jI ?_ | refine jJ ?_ | refine jK ?_ | refine jL ?_ | refine jM ?_ | refine jN ?_ | refine jO ?_ | refine jP ?_ | refine jQ ?_ | refine jR ?_ | refine jS (k := ?_) | refine jT (k := ?_)))); (conv => whnf)
    refine r_rwst h7.l hpi2 fun w8 hc8 hs8 hr8 => ?_
    have h8 := h7.setL hc8 hr8
    have hblk1 := (hblk1.ext hx7).keep hc8 (_root_.Fb.Blk.ne (hblk1.ext hx7) h7.l.1.choose_spec (by decide))
    have hA8 := ag_keep (hA6.ext hx7) hc8 h7.l.1.choose_spec fun _ h => h
    have hc08 : Chg (CS k mb g) w w8 := Chg.step (hc06.ext hx7) hc8 fun b hb _ => .inr (.inl hb)
    have hN := h8
    have hAN := hA8
    have hcN := hc08
    have hblk := h8.blk
    unfold kcs at hblk
    (repeat ((conv => whnf); (first | (with_reducible first | refine jA ?_ | refine jB ?_ | refine jC ?_ | refine jD ?_) | refine jE ?_ | refine jF ?_ | refine jG ?_ | refine jH ?_ | refine jI ?_ | refine jJ ?_ | refine jK ?_ | refine jL ?_ | refine jM ?_ | refine jN ?_ | refine jO ?_ | refine jP ?_ | refine jQ ?_ | refine jR ?_ | refine jS (k := ?_) | refine jT (k := ?_)))); (conv => whnf)
  all_goals
    refine r_cal (Drop_ok hAN (p := (gp P (i + 1) : Nat)) (by omega)) ?_
    rintro _ w9 ⟨-, l9, hA9, hm9, hc9⟩
    have h9 := hN.chg hAN hc9
    have hc09 : Chg (CS k mb g) w w9 := Chg.step hcN hc9 fun b hb _ => .inr (.inr (.inr hb))
    have heb : ¬ PS k.ab mb g eb := fun hp => by
      have := QU.Pile.lt hA.pile hp
      omega
    have hblk1 := hblk1.keep hc9 heb
    have hpl9 : ∀ x ∈ l9, 0 ≤ x.place ∧ x.place < n := fun x hx => ((hl x).1 ((hm9 x).1 hx).1).1.place hC
    have e1 : gp (P.eraseIdx (i + 1)) i = gp P i := by rw [gp_erase, if_pos (by omega)]
    have hlk := look_ok h9 (hT.ext (CS.ext hx0 hc09 hS)) hA9 hC' hn hVi hpl9 (j := i) (by omega)
    rw [e1] at hlk
    have hblk := h9.blk
    unfold kcs at hblk
    (repeat ((conv => whnf); (first | (with_reducible first | refine jA ?_ | refine jB ?_ | refine jC ?_ | refine jD ?_) | refine jE ?_ | refine jF ?_ | refine jG ?_ | refine jH ?_ | refine jI ?_ | refine jJ ?_ | refine jK ?_ | refine jL ?_ | refine jM ?_ | refine jN ?_ | refine jO ?_ | refine jP ?_ | refine jQ ?_ | refine jR ?_ | refine jS (k := ?_) | refine jT (k := ?_)))); (conv => whnf)
    refine r_cal hlk ?_
    rintro _ w10 ⟨g10, c10, l10, hA10, hm10, ha10, hc10⟩
    have h10 := h9.chg hA9 hc10
    have hc010 : Chg (CS k mb g) w w10 := Chg.step hc09 hc10 fun b hb _ => .inr (.inr (.inr hb))
    have heb10 : ¬ PS k.ab mb g10 eb := by
      rintro (q | q | q)
      · exact heb (.inl q)
      · exact heb (.inr (.inl q))
      · rcases ha10 with rfl | ⟨y, rfl, hy⟩
        · exact heb (.inr (.inr q))
        · cases q
          have := hblk1.lt
          omega
    have hblk1 := hblk1.keep hc10 heb
    have hpl10 : ∀ x ∈ l10, 0 ≤ x.place ∧ x.place < n := fun x hx => by
      rcases (hm10 x).1 hx with ⟨_, q⟩ | ⟨_, q⟩
      · exact q.place hC'
      · exact hpl9 x q
    have hfin := ent_done hC hi hl hm9 hm10
    have nk := ps_ne hA10 h10.blk (by decide) (by decide)
    have nl := ps_ne hA10 h10.l.1.choose_spec (by decide) (by decide)
    have hblk := h10.blk
    unfold kcs at hblk
    (repeat ((conv => whnf); (first | (with_reducible first | refine jA ?_ | refine jB ?_ | refine jC ?_ | refine jD ?_) | refine jE ?_ | refine jF ?_ | refine jG ?_ | refine jH ?_ | refine jI ?_ | refine jJ ?_ | refine jK ?_ | refine jL ?_ | refine jM ?_ | refine jN ?_ | refine jO ?_ | refine jP ?_ | refine jQ ?_ | refine jR ?_ | refine jS (k := ?_) | refine jT (k := ?_)))); (conv => whnf)
    refine r_drawS (PS k.ab mb g10) fun w11 hx11 hh11 => ?_
    by_cases hi0 : i = 0
    · have hL := hC'.l0
      rw [show (0 : Nat) = gp P i by rw [hi0, hC.p0]] at hL
      (repeat ((conv => whnf); (first | refine r_need rfl ?_ | refine r_ldbS hblk (by rfl) nk ?_ | refine r_ldbS hblk1 (by rfl) heb10 ?_ | refine r_rwS h10.l nl hpi hL ?_ | (with_reducible first | refine jA ?_ | refine jB ?_ | refine jC ?_ | refine jD ?_) | refine jE ?_ | refine jF ?_ | refine jG ?_ | refine jH ?_ | refine jI ?_ | refine jJ ?_ | refine jK ?_ | refine jL ?_ | refine jM ?_ | refine jN ?_ | refine jO ?_ | refine jP ?_ | refine jQ ?_ | refine jR ?_ | refine jS (k := ?_) | refine jT (k := ?_)))); (conv => whnf)
      refine r_cal (look_nil _ _) ?_
      rintro _ w12 rfl
      refine r_held (hx11.wide _) ?_
      (repeat ((conv => whnf); (first | (with_reducible first | refine jA ?_ | refine jB ?_ | refine jC ?_ | refine jD ?_) | refine jE ?_ | refine jF ?_ | refine jG ?_ | refine jH ?_ | refine jI ?_ | refine jJ ?_ | refine jK ?_ | refine jL ?_ | refine jM ?_ | refine jN ?_ | refine jO ?_ | refine jP ?_ | refine jQ ?_ | refine jR ?_ | refine jS (k := ?_) | refine jT (k := ?_)))); (conv => whnf)
      exact ⟨_, _, _, g10, c10, l10, h10.ext hx11, hC', hA10.ext hx11, fun x => hfin x (fun q => by omega), Arr.back ha10 hc09.size, hc010.ext hx11⟩
    · have hL := hC'.lf (i - 1) (by omega)
      rw [show i - 1 + 1 = i by omega, e1] at hL
      have hlk2 := look_ok (h10.ext hx11) (hT.ext ((CS.ext hx0 hc010 hS).trans hx11)) (hA10.ext hx11) hC' hn hVi hpl10 (j := i - 1) (by omega)
      (repeat ((conv => whnf); (first | refine r_need rfl ?_ | refine r_ldbS hblk (by rfl) nk ?_ | refine r_ldbS hblk1 (by rfl) heb10 ?_ | refine r_rwS h10.l nl hpi hL ?_ | (with_reducible first | refine jA ?_ | refine jB ?_ | refine jC ?_ | refine jD ?_) | refine jE ?_ | refine jF ?_ | refine jG ?_ | refine jH ?_ | refine jI ?_ | refine jJ ?_ | refine jK ?_ | refine jL ?_ | refine jM ?_ | refine jN ?_ | refine jO ?_ | refine jP ?_ | refine jQ ?_ | refine jR ?_ | refine jS (k := ?_) | refine jT (k := ?_)))); (conv => whnf)
      refine r_cal hlk2 ?_
      rintro _ w12 ⟨g12, c12, l12, hA12, hm12, ha12, hc12⟩
      have hc1012 : Chg (PS k.ab mb g10) w10 w12 := Chg.step (hx11.wide _) hc12 fun _ hs _ => hs
      refine r_held hc1012 ?_
      (repeat ((conv => whnf); (first | (with_reducible first | refine jA ?_ | refine jB ?_ | refine jC ?_ | refine jD ?_) | refine jE ?_ | refine jF ?_ | refine jG ?_ | refine jH ?_ | refine jI ?_ | refine jJ ?_ | refine jK ?_ | refine jL ?_ | refine jM ?_ | refine jN ?_ | refine jO ?_ | refine jP ?_ | refine jQ ?_ | refine jR ?_ | refine jS (k := ?_) | refine jT (k := ?_)))); (conv => whnf)
      refine ⟨_, _, _, g12, c12, l12, h10.chg hA10 hc1012, hC', hA12, fun x => ?_, ?_, ?_⟩
      · rw [hm12]
        have e2 : gp (P.eraseIdx (i + 1)) (i - 1) = gp P (i - 1) := by rw [gp_erase, if_pos (by omega)]
        rw [e2]
        by_cases hq : x.place = (gp P (i - 1) : Nat)
        · simp [hq]
        · simp only [hq, false_and, ne_eq, not_false_eq_true, true_and, false_or]
          exact hfin x fun _ => hq
      · rcases Arr.back ha10 (w0 := w) (by have := hc09.size; omega) with rfl | ⟨y, rfl, hy⟩
        · exact Arr.back ha12 (by have := hc010.size; have := hx11.size; omega)
        · rcases ha12 with rfl | ⟨z, rfl, hz⟩
          · exact .inr ⟨y, rfl, hy⟩
          · exact .inr ⟨z, rfl, by have := hc010.size; have := hx11.size; omega⟩
      · refine Chg.step hc010 hc1012 fun b hb hlt => ?_
        rcases hb with q | q | q
        · exact .inr (.inr (.inr (.inl q)))
        · exact .inr (.inr (.inr (.inr (.inl q))))
        · rcases ha10 with rfl | ⟨y, rfl, hy⟩
          · exact .inr (.inr (.inr (.inr (.inr q))))
          · cases q
            have := hc09.size
            omega
end
end Fb.Try.VO
