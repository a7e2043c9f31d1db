/-
  Walks: an agenda that is told a row of operations.
-/
import Derived.Test.YtnofndhlhbbhdaaQh
namespace Fb.Try.QU
open Go Go.Proofs Fb
structure OpQ where
  kd : Int
  e : En
def OpQ.cells (o : OpQ) : List Value := [.int .u8 o.kd, .int .i64 o.e.place, .int .i64 o.e.order, .int .i64 o.e.out]
structure OpsQ (w : World) (a : Option Addr) (len cap : Nat) (os : List OpQ) : Prop where
  cnt : os.length = len
  view : View w a len cap 4 (os.map OpQ.cells).flatten
  wf : ∀ o ∈ os, Wf o.e
theorem opsQ_flat (os : List OpQ) (i : Nat) (hi : i < os.length) : ((os.map OpQ.cells).flatten.drop (i * 4)).take 4 = (os[i]).cells := by
  induction os generalizing i with
  | nil => simp at hi
  | cons o os ih =>
    cases i with
    | zero => simp [OpQ.cells]
    | succ i =>
      rw [show (i + 1) * 4 = 4 + i * 4 by omega, List.map_cons, List.flatten_cons, ← List.drop_drop]
      exact ih i (by simpa using hi)
theorem OpsQ.get {w : World} {a : Option Addr} {len cap : Nat} {os : List OpQ} (h : OpsQ w a len cap os) {i : Nat} (hi : i < len) : ∃ o : OpQ, (((os.map OpQ.cells).flatten.drop (i * 4)).take 4 = o.cells) ∧ o.cells.length = 4 ∧ Wf o.e :=
  ⟨os[i]'(by rw [h.cnt]; exact hi), opsQ_flat os i (by rw [h.cnt]; exact hi), rfl, h.wf _ (List.getElem_mem _)⟩
theorem OpsQ.plain {w : World} {a : Option Addr} {len cap : Nat} {os : List OpQ} (h : OpsQ w a len cap os) (hl : 0 < len) : plainA a := h.view.plain (by have := h.view.length; omega)
theorem opQ_one (o : OpQ) : ∀ v ∈ o.cells, v.oneCell' = true := by
  intro v hv
  simp [OpQ.cells] at hv
  rcases hv with rfl | rfl | rfl | rfl <;> rfl
structure QPl (w0 w : World) (ab mb : Nat) (g : Option Nat) (c : Nat) (l r : List En) (v : Value) (n : Nat) : Prop where
  ag : Ag w ab mb g c l
  own : w.ownsRow w0.heap.size 28 3 v r.length (flat r)
  off : ∀ k, v.ownBlock = some k → ¬ PS ab mb g k
  agr : Agr l r
  len : l.length ≤ n
  ext : Ext w0 w
  new : ∀ k, PS ab mb g k → w0.heap.size ≤ k
section
variable {w0 w w' : World} {ab mb c n : Nat} {g : Option Nat} {l r : List En} {v : Value}
theorem QPl.ext' (h : QPl w0 w ab mb g c l r v n) (k : Ext w w') : QPl w0 w' ab mb g c l r v n :=
  ⟨h.ag.ext k, own_ext h.own k, h.off, h.agr, h.len, h.ext.trans k, h.new⟩
theorem Agr.put {l r l' : List En} {e : En} (h : Agr l r) (hd : Dist l') (hm : ∀ x, x ∈ l' ↔ x = e ∨ (x ∈ l ∧ x.place ≠ e.place)) : Agr l' (wo r e.place ++ [e]) := by
  refine ⟨hd, dist_pw.2 ?_, fun x => ?_⟩
  · rw [List.pairwise_append]
    refine ⟨dist_pw.1 (wo_dist h.dr _), by simp, fun x hx y hy => ?_⟩
    simp at hy
    subst hy
    exact (wo_mem.1 hx).2
  · rw [hm, List.mem_append, wo_mem, h.mem]
    simp only [List.mem_singleton]
    exact or_comm
theorem Agr.drop {l r l' : List En} {p : Int} (h : Agr l r) (hd : Dist l') (hm : ∀ x, x ∈ l' ↔ x ∈ l ∧ x.place ≠ p) : Agr l' (wo r p) :=
  ⟨hd, wo_dist h.dr p, fun x => by rw [hm, wo_mem, h.mem]⟩
theorem Agr.nil : Agr [] [] := ⟨fun _ _ hi => absurd hi (Nat.not_lt_zero _), fun _ _ hi => absurd hi (Nat.not_lt_zero _), fun _ => Iff.rfl⟩
theorem own_sl {w : World} {base e size : Nat} {v : Value} {n : Nat} {xs : List Value} (h : w.ownsRow base e size v n xs) : ∃ a c, v = .slice a n c := by
  obtain ⟨a, c, rfl, _⟩ := View.of_own h
  exact ⟨a, c, rfl⟩
set_option maxHeartbeats 4000000 in
set_option maxRecDepth 100000 in
theorem playsLaw_ok {a : Option Addr} {len cap : Nat} {os : List OpQ} (hos : OpsQ w a len cap os) :
    Cal Try.prog 5 ⟨[.slice a len cap]⟩ w fun v w' => v = .bool true ∧ Ext w w' := by
  have hle := hos.view.le
  have hmax := hos.view.max
  unfold maxLen at hmax
  refine go5 (by rfl) ?_
  by_cases hg : 200 < len
  · (repeat ((conv => whnf); (first | (with_reducible first | refine jA ?_ | refine jB ?_ | refine jC ?_ | refine jD ?_) | refine jE ?_ | refine jF ?_ | refine jG ?_ | refine jH ?_ | refine jI ?_ | refine jJ ?_ | refine jK ?_ | refine jL ?_ | refine jM ?_ | refine jN ?_ | refine jO ?_ | refine jP ?_ | refine jQ ?_ | refine jR ?_ | refine jS (k := ?_) | refine jT (k := ?_)))); (conv => whnf)
    refine r_cal (fixed_ok _) ?_
    rintro _ w1 ⟨hx1, rfl⟩
    (repeat ((conv => whnf); (first | (with_reducible first | refine jA ?_ | refine jB ?_ | refine jC ?_ | refine jD ?_) | refine jE ?_ | refine jF ?_ | refine jG ?_ | refine jH ?_ | refine jI ?_ | refine jJ ?_ | refine jK ?_ | refine jL ?_ | refine jM ?_ | refine jN ?_ | refine jO ?_ | refine jP ?_ | refine jQ ?_ | refine jR ?_ | refine jS (k := ?_) | refine jT (k := ?_)))); (conv => whnf)
    exact ⟨rfl, hx1⟩
  (repeat ((conv => whnf); (first | (with_reducible first | refine jA ?_ | refine jB ?_ | refine jC ?_ | refine jD ?_) | refine jE ?_ | refine jF ?_ | refine jG ?_ | refine jH ?_ | refine jI ?_ | refine jJ ?_ | refine jK ?_ | refine jL ?_ | refine jM ?_ | refine jN ?_ | refine jO ?_ | refine jP ?_ | refine jQ ?_ | refine jR ?_ | refine jS (k := ?_) | refine jT (k := ?_)))); (conv => whnf)
  refine r_cal (New_ok w) ?_
  rintro _ w1 ⟨ab, mb, rfl, hx1, ha, hm, h1⟩
  have n1 := ps_new ha hm
  (repeat ((conv => whnf); (first | (with_reducible first | refine jA ?_ | refine jB ?_ | refine jC ?_ | refine jD ?_) | refine jE ?_ | refine jF ?_ | refine jG ?_ | refine jH ?_ | refine jI ?_ | refine jJ ?_ | refine jK ?_ | refine jL ?_ | refine jM ?_ | refine jN ?_ | refine jO ?_ | refine jP ?_ | refine jQ ?_ | refine jR ?_ | refine jS (k := ?_) | refine jT (k := ?_)))); (conv => whnf)
  refine r_new fun o w2 hx2 hb2 hs2 hblk2 => ?_
  have hq2 : QPl w w2 ab mb none 0 [] [] (.slice (some ⟨o, 0, none⟩) 0 0) 0 := by
    refine ⟨h1.ext hx2, empty_own hblk2 (by have := hx1.size; omega), fun k hk e => ?_, Agr.nil, Nat.le_refl _, hx1.trans hx2, n1⟩
    have := h1.pile.lt e
    simp [Value.ownBlock] at hk
    omega
  (repeat ((conv => whnf); (first | (with_reducible first | refine jA ?_ | refine jB ?_ | refine jC ?_ | refine jD ?_) | refine jE ?_ | refine jF ?_ | refine jG ?_ | refine jH ?_ | refine jI ?_ | refine jJ ?_ | refine jK ?_ | refine jL ?_ | refine jM ?_ | refine jN ?_ | refine jO ?_ | refine jP ?_ | refine jQ ?_ | refine jR ?_ | refine jS (k := ?_) | refine jT (k := ?_)))); (conv => whnf)
  refine r_loop (σ := Value × Nat) (fun x => [x.1, .int .i64 (x.2 : Int)]) (fun x w' => x.2 ≤ len ∧ ∃ g c l r, QPl w w' ab mb g c l r x.1 x.2) (fun x _ => len - x.2) (_, 0) rfl ⟨Nat.zero_le _, _, _, _, _, hq2⟩ ?_
  clear hq2 hblk2
  rintro ⟨v, i⟩ w3 again ⟨hi, g, c, l, r, hq⟩ hagain
  dsimp only at hi hq hagain ⊢
  by_cases hil : i < len
  rotate_left
  · (repeat ((conv => whnf); (first | (with_reducible first | refine jA ?_ | refine jB ?_ | refine jC ?_ | refine jD ?_) | refine jE ?_ | refine jF ?_ | refine jG ?_ | refine jH ?_ | refine jI ?_ | refine jJ ?_ | refine jK ?_ | refine jL ?_ | refine jM ?_ | refine jN ?_ | refine jO ?_ | refine jP ?_ | refine jQ ?_ | refine jR ?_ | refine jS (k := ?_) | refine jT (k := ?_)))); (conv => whnf)
    refine r_cal (fixed_ok _) ?_
    rintro _ w4 ⟨hx4, rfl⟩
    (repeat ((conv => whnf); (first | (with_reducible first | refine jA ?_ | refine jB ?_ | refine jC ?_ | refine jD ?_) | refine jE ?_ | refine jF ?_ | refine jG ?_ | refine jH ?_ | refine jI ?_ | refine jJ ?_ | refine jK ?_ | refine jL ?_ | refine jM ?_ | refine jN ?_ | refine jO ?_ | refine jP ?_ | refine jQ ?_ | refine jR ?_ | refine jS (k := ?_) | refine jT (k := ?_)))); (conv => whnf)
    exact ⟨rfl, hq.ext.trans hx4⟩
  obtain ⟨op, ho, hol, hwf⟩ := hos.get hil
  have hpl := hos.plain (by omega)
  (repeat ((conv => whnf); (first | (with_reducible first | refine jA ?_ | refine jB ?_ | refine jC ?_ | refine jD ?_) | refine jE ?_ | refine jF ?_ | refine jG ?_ | refine jH ?_ | refine jI ?_ | refine jJ ?_ | refine jK ?_ | refine jL ?_ | refine jM ?_ | refine jN ?_ | refine jO ?_ | refine jP ?_ | refine jQ ?_ | refine jR ?_ | refine jS (k := ?_) | refine jT (k := ?_)))); (conv => whnf)
  refine r_ldnv (j := (i : Int).toNat * 4) (hos.view.ext hq.ext) (by simpa using ho) hol ?_
  (repeat ((conv => whnf); (first | (with_reducible first | refine jA ?_ | refine jB ?_ | refine jC ?_ | refine jD ?_) | refine jE ?_ | refine jF ?_ | refine jG ?_ | refine jH ?_ | refine jI ?_ | refine jJ ?_ | refine jK ?_ | refine jL ?_ | refine jM ?_ | refine jN ?_ | refine jO ?_ | refine jP ?_ | refine jQ ?_ | refine jR ?_ | refine jS (k := ?_) | refine jT (k := ?_)))); (conv => whnf)
  refine r_new fun bo w4 hx4 hb4 hs4 hblk4 => ?_
  (repeat ((conv => whnf); (first | (with_reducible first | refine jA ?_ | refine jB ?_ | refine jC ?_ | refine jD ?_) | refine jE ?_ | refine jF ?_ | refine jG ?_ | refine jH ?_ | refine jI ?_ | refine jJ ?_ | refine jK ?_ | refine jL ?_ | refine jM ?_ | refine jN ?_ | refine jO ?_ | refine jP ?_ | refine jQ ?_ | refine jR ?_ | refine jS (k := ?_) | refine jT (k := ?_)))); (conv => whnf)
  refine r_stn hblk4 (by simp [OpQ.cells]) (opQ_one op) fun w5 hc5 hs5 hop => ?_
  have hop : Blk w5 bo 38 [.int .u8 op.kd, .int .i64 op.e.place, .int .i64 op.e.order, .int .i64 op.e.out] := hop
  have hx35 : Ext w3 w5 := Chg.step hx4 hc5 fun k hk hlt => by omega
  have hq5 := hq.ext' hx35
  have hob : ¬ PS ab mb g bo := fun e => by have := hq.ag.pile.lt e; omega
  clear hq
  obtain ⟨va, vc, rfl, hv5, -, -⟩ := View.of_own hq5.own
  have hrl := hq5.agr.len
  have hll := hq5.len
  have hlt5 := hop.lt
  have hz05 := hq5.ext.size
  (repeat ((conv => whnf); (first | (with_reducible first | refine jA ?_ | refine jB ?_ | refine jC ?_ | refine jD ?_) | refine jE ?_ | refine jF ?_ | refine jG ?_ | refine jH ?_ | refine jI ?_ | refine jJ ?_ | refine jK ?_ | refine jL ?_ | refine jM ?_ | refine jN ?_ | refine jO ?_ | refine jP ?_ | refine jQ ?_ | refine jR ?_ | refine jS (k := ?_) | refine jT (k := ?_)))); (conv => whnf)
  by_cases k0 : op.kd = 0
  · (repeat ((conv => whnf); (first | (with_reducible first | refine jA ?_ | refine jB ?_ | refine jC ?_ | refine jD ?_) | refine jE ?_ | refine jF ?_ | refine jG ?_ | refine jH ?_ | refine jI ?_ | refine jJ ?_ | refine jK ?_ | refine jL ?_ | refine jM ?_ | refine jN ?_ | refine jO ?_ | refine jP ?_ | refine jQ ?_ | refine jR ?_ | refine jS (k := ?_) | refine jT (k := ?_)))); (conv => whnf)
    refine r_ldnb (vs := op.e.cells) hop rfl rfl ?_
    (repeat ((conv => whnf); (first | (with_reducible first | refine jA ?_ | refine jB ?_ | refine jC ?_ | refine jD ?_) | refine jE ?_ | refine jF ?_ | refine jG ?_ | refine jH ?_ | refine jI ?_ | refine jJ ?_ | refine jK ?_ | refine jL ?_ | refine jM ?_ | refine jN ?_ | refine jO ?_ | refine jP ?_ | refine jQ ?_ | refine jR ?_ | refine jS (k := ?_) | refine jT (k := ?_)))); (conv => whnf)
    refine r_cal (Put_ok hq5.ag hwf (by omega)) ?_
    rintro _ w6 ⟨g6, c6, l6, h6, m6, a6, hc6⟩
    have hop6 := hop.keep hc6 hob
    have hx06 := Chg.ps hq5.ext hc6 hq5.new
    have hn6 := a6.new hq5.new hz05
    have hv6 := hv5.keepN hc6 fun hp e => by
      have := hv5.plain hp
      unfold plainA at this
      refine hq5.off (blk va) ?_ e
      rw [this]
      rfl
    have hl6 := dist_le (r := l ++ [op.e]) h6.pile.dist fun x hx => by
      rcases (m6 x).1 hx with rfl | h
      · simp
      · simp [h.1]
    simp only [List.length_append, List.length_singleton] at hl6
    (repeat ((conv => whnf); (first | (with_reducible first | refine jA ?_ | refine jB ?_ | refine jC ?_ | refine jD ?_) | refine jE ?_ | refine jF ?_ | refine jG ?_ | refine jH ?_ | refine jI ?_ | refine jJ ?_ | refine jK ?_ | refine jL ?_ | refine jM ?_ | refine jN ?_ | refine jO ?_ | refine jP ?_ | refine jQ ?_ | refine jR ?_ | refine jS (k := ?_) | refine jT (k := ?_)))); (conv => whnf)
    refine r_cal (Without_ok hv6 (by omega) op.e.place) ?_
    rintro _ w7 ⟨hx7, u, rfl, hown7⟩
    (repeat ((conv => whnf); (first | (with_reducible first | refine jA ?_ | refine jB ?_ | refine jC ?_ | refine jD ?_) | refine jE ?_ | refine jF ?_ | refine jG ?_ | refine jH ?_ | refine jI ?_ | refine jJ ?_ | refine jK ?_ | refine jL ?_ | refine jM ?_ | refine jN ?_ | refine jO ?_ | refine jP ?_ | refine jQ ?_ | refine jR ?_ | refine jS (k := ?_) | refine jT (k := ?_)))); (conv => whnf)
    refine r_ldnb (vs := op.e.cells) (hop6.ext hx7) rfl rfl ?_
    (repeat ((conv => whnf); (first | (with_reducible first | refine jA ?_ | refine jB ?_ | refine jC ?_ | refine jD ?_) | refine jE ?_ | refine jF ?_ | refine jG ?_ | refine jH ?_ | refine jI ?_ | refine jJ ?_ | refine jK ?_ | refine jL ?_ | refine jM ?_ | refine jN ?_ | refine jO ?_ | refine jP ?_ | refine jQ ?_ | refine jR ?_ | refine jS (k := ?_) | refine jT (k := ?_)))); (conv => whnf)
    refine r_new fun b8 w8 hx8 hb8 hs8 hblk8 => ?_
    have hwl : (wo r op.e.place).length ≤ r.length := List.length_filter_le _ _
    (repeat ((conv => whnf); (first | (with_reducible first | refine jA ?_ | refine jB ?_ | refine jC ?_ | refine jD ?_) | refine jE ?_ | refine jF ?_ | refine jG ?_ | refine jH ?_ | refine jI ?_ | refine jJ ?_ | refine jK ?_ | refine jL ?_ | refine jM ?_ | refine jN ?_ | refine jO ?_ | refine jP ?_ | refine jQ ?_ | refine jR ?_ | refine jS (k := ?_) | refine jT (k := ?_)))); (conv => whnf)
    refine r_app een (own_ext hown7 hx8) (View.of_blk (n := 1) (size := 3) hblk8 (by rfl) (by simp [maxLen])) (cells_one op.e) (by omega) (by have := hx7.size; have := hx8.size; omega) fun v9 w9 hown9 hc9 _ => ?_
    have hge : ∀ k, u.ownBlock = some k → w6.heap.size ≤ k := fun k hk => own_ge hown7 hk
    have hfl : flat (wo r op.e.place) ++ [.int .i64 op.e.place, .int .i64 op.e.order, .int .i64 op.e.out] = flat (wo r op.e.place ++ [op.e]) := by
      rw [flat_app]
      simp [flat, En.cells]
    rw [hfl] at hown9
    have hx89 := hx7.trans hx8
    have hq9 : QPl w w9 ab mb g6 c6 l6 (wo r op.e.place ++ [op.e]) v9 (i + 1) := by
      refine ⟨(h6.ext hx89).keep hc9 (fun k hk e => ?_), by rw [List.length_append]; exact own_mono hown9 hx06.size, fun k hk e => ?_, hq5.agr.put h6.pile.dist m6, by omega, Chg.step (hx06.trans hx89) hc9 fun k hk hlt => ?_, hn6⟩
      · have := h6.pile.lt hk
        have := hge k e
        omega
      · have := h6.pile.lt e
        have := own_ge hown9 hk
        omega
      · have := hge k hk
        have := hx06.size
        omega
    (repeat ((conv => whnf); (first | (with_reducible first | refine jA ?_ | refine jB ?_ | refine jC ?_ | refine jD ?_) | refine jE ?_ | refine jF ?_ | refine jG ?_ | refine jH ?_ | refine jI ?_ | refine jJ ?_ | refine jK ?_ | refine jL ?_ | refine jM ?_ | refine jN ?_ | refine jO ?_ | refine jP ?_ | refine jQ ?_ | refine jR ?_ | refine jS (k := ?_) | refine jT (k := ?_)))); (conv => whnf)
    refine r_cal (aLen_ok hq9.ag) ?_
    rintro _ w10 ⟨rfl, rfl⟩
    obtain ⟨v9a, v9c, rfl⟩ := own_sl hown9
    have hl9 := hq9.agr.len
    simp only [List.length_append, List.length_singleton] at hl9
    (repeat ((conv => whnf); (first | (with_reducible first | refine jA ?_ | refine jB ?_ | refine jC ?_ | refine jD ?_) | refine jE ?_ | refine jF ?_ | refine jG ?_ | refine jH ?_ | refine jI ?_ | refine jJ ?_ | refine jK ?_ | refine jL ?_ | refine jM ?_ | refine jN ?_ | refine jO ?_ | refine jP ?_ | refine jQ ?_ | refine jR ?_ | refine jS (k := ?_) | refine jT (k := ?_)))); (conv => whnf)
    exact hagain (_, i + 1) _ ⟨by dsimp only; omega, _, _, _, _, hq9⟩ (by dsimp only; omega)
  by_cases k1 : op.kd = 1
  · (repeat ((conv => whnf); (first | (with_reducible first | refine jA ?_ | refine jB ?_ | refine jC ?_ | refine jD ?_) | refine jE ?_ | refine jF ?_ | refine jG ?_ | refine jH ?_ | refine jI ?_ | refine jJ ?_ | refine jK ?_ | refine jL ?_ | refine jM ?_ | refine jN ?_ | refine jO ?_ | refine jP ?_ | refine jQ ?_ | refine jR ?_ | refine jS (k := ?_) | refine jT (k := ?_)))); (conv => whnf)
    refine r_cal (Without_ok hv5 (by omega) op.e.place) ?_
    rintro _ w6 ⟨hx6, u, rfl, hown6⟩
    have hop6 := hop.ext hx6
    (repeat ((conv => whnf); (first | (with_reducible first | refine jA ?_ | refine jB ?_ | refine jC ?_ | refine jD ?_) | refine jE ?_ | refine jF ?_ | refine jG ?_ | refine jH ?_ | refine jI ?_ | refine jJ ?_ | refine jK ?_ | refine jL ?_ | refine jM ?_ | refine jN ?_ | refine jO ?_ | refine jP ?_ | refine jQ ?_ | refine jR ?_ | refine jS (k := ?_) | refine jT (k := ?_)))); (conv => whnf)
    refine r_cal (Drop_ok (hq5.ag.ext hx6) hwf) ?_
    rintro _ w7 ⟨rfl, l7, h7, m7, hc7⟩
    have hge : ∀ k, u.ownBlock = some k → w5.heap.size ≤ k := fun k hk => own_ge hown6 hk
    have hoff : ∀ k, u.ownBlock = some k → ¬ PS ab mb g k := fun k hk e => by
      have := hge k hk
      have := hq5.ag.pile.lt e
      omega
    have hl7 := dist_le (r := l) h7.pile.dist fun x hx => ((m7 x).1 hx).1
    have hq7 : QPl w w7 ab mb g c l7 (wo r op.e.place) u (i + 1) :=
      ⟨h7, own_mono (own_keep hown6 hc7 hoff) hz05, hoff, hq5.agr.drop h7.pile.dist m7, by omega, Chg.ps (hq5.ext.trans hx6) hc7 hq5.new, hq5.new⟩
    have hp7 := hq5.agr.pos op.e.place
    rw [hp7]
    generalize (pos r op.e.place).isSome = b
    (repeat ((conv => whnf); (first | (with_reducible first | refine jA ?_ | refine jB ?_ | refine jC ?_ | refine jD ?_) | refine jE ?_ | refine jF ?_ | refine jG ?_ | refine jH ?_ | refine jI ?_ | refine jJ ?_ | refine jK ?_ | refine jL ?_ | refine jM ?_ | refine jN ?_ | refine jO ?_ | refine jP ?_ | refine jQ ?_ | refine jR ?_ | refine jS (k := ?_) | refine jT (k := ?_)))); (conv => whnf)
    refine r_false (by cases b <;> rfl) ?_
    (repeat ((conv => whnf); (first | (with_reducible first | refine jA ?_ | refine jB ?_ | refine jC ?_ | refine jD ?_) | refine jE ?_ | refine jF ?_ | refine jG ?_ | refine jH ?_ | refine jI ?_ | refine jJ ?_ | refine jK ?_ | refine jL ?_ | refine jM ?_ | refine jN ?_ | refine jO ?_ | refine jP ?_ | refine jQ ?_ | refine jR ?_ | refine jS (k := ?_) | refine jT (k := ?_)))); (conv => whnf)
    refine r_cal (aLen_ok hq7.ag) ?_
    rintro _ w10 ⟨rfl, rfl⟩
    have hl9 := hq7.agr.len
    obtain ⟨v9a, v9c, rfl⟩ := own_sl hown6
    (repeat ((conv => whnf); (first | (with_reducible first | refine jA ?_ | refine jB ?_ | refine jC ?_ | refine jD ?_) | refine jE ?_ | refine jF ?_ | refine jG ?_ | refine jH ?_ | refine jI ?_ | refine jJ ?_ | refine jK ?_ | refine jL ?_ | refine jM ?_ | refine jN ?_ | refine jO ?_ | refine jP ?_ | refine jQ ?_ | refine jR ?_ | refine jS (k := ?_) | refine jT (k := ?_)))); (conv => whnf)
    exact hagain (_, i + 1) _ ⟨by dsimp only; omega, _, _, _, _, hq7⟩ (by dsimp only; omega)
  by_cases k2 : op.kd = 2
  · (repeat ((conv => whnf); (first | (with_reducible first | refine jA ?_ | refine jB ?_ | refine jC ?_ | refine jD ?_) | refine jE ?_ | refine jF ?_ | refine jG ?_ | refine jH ?_ | refine jI ?_ | refine jJ ?_ | refine jK ?_ | refine jL ?_ | refine jM ?_ | refine jN ?_ | refine jO ?_ | refine jP ?_ | refine jQ ?_ | refine jR ?_ | refine jS (k := ?_) | refine jT (k := ?_)))); (conv => whnf)
    refine r_cal (Has_ok hq5.ag hwf) ?_
    rintro _ w6 ⟨hx6, rfl⟩
    have hop6 := hop.ext hx6
    (repeat ((conv => whnf); (first | (with_reducible first | refine jA ?_ | refine jB ?_ | refine jC ?_ | refine jD ?_) | refine jE ?_ | refine jF ?_ | refine jG ?_ | refine jH ?_ | refine jI ?_ | refine jJ ?_ | refine jK ?_ | refine jL ?_ | refine jM ?_ | refine jN ?_ | refine jO ?_ | refine jP ?_ | refine jQ ?_ | refine jR ?_ | refine jS (k := ?_) | refine jT (k := ?_)))); (conv => whnf)
    refine r_new fun b7 w7 hx7 hb7 hs7 hblk7 => ?_
    (repeat ((conv => whnf); (first | (with_reducible first | refine jA ?_ | refine jB ?_ | refine jC ?_ | refine jD ?_) | refine jE ?_ | refine jF ?_ | refine jG ?_ | refine jH ?_ | refine jI ?_ | refine jJ ?_ | refine jK ?_ | refine jL ?_ | refine jM ?_ | refine jN ?_ | refine jO ?_ | refine jP ?_ | refine jQ ?_ | refine jR ?_ | refine jS (k := ?_) | refine jT (k := ?_)))); (conv => whnf)
    refine r_stn hblk7 (by simp [En.cells]) (cells_one _) fun w8 hc8 hs8 hblk8 => ?_
    have hblk8 : Blk w8 b7 28 (hasE l op.e.place).1.cells := hblk8
    have hx68 : Ext w6 w8 := Chg.step hx7 hc8 fun k hk hlt => by omega
    have hop8 := hop6.ext hx68
    have hx58 := hx6.trans hx68
    (repeat ((conv => whnf); (first | (with_reducible first | refine jA ?_ | refine jB ?_ | refine jC ?_ | refine jD ?_) | refine jE ?_ | refine jF ?_ | refine jG ?_ | refine jH ?_ | refine jI ?_ | refine jJ ?_ | refine jK ?_ | refine jL ?_ | refine jM ?_ | refine jN ?_ | refine jO ?_ | refine jP ?_ | refine jQ ?_ | refine jR ?_ | refine jS (k := ?_) | refine jT (k := ?_)))); (conv => whnf)
    refine r_cal (rHas_ok (hv5.ext hx58) (by omega) hq5.agr.dr op.e.place) ?_
    rintro _ w9 ⟨hx9, rfl⟩
    have hblk9 := hblk8.ext hx9
    rw [hq5.agr.has op.e.place] at hblk9 ⊢
    generalize (hasE r op.e.place).1 = x at *
    generalize (hasE r op.e.place).2 = b at *
    (repeat ((conv => whnf); (first | (with_reducible first | refine jA ?_ | refine jB ?_ | refine jC ?_ | refine jD ?_) | refine jE ?_ | refine jF ?_ | refine jG ?_ | refine jH ?_ | refine jI ?_ | refine jJ ?_ | refine jK ?_ | refine jL ?_ | refine jM ?_ | refine jN ?_ | refine jO ?_ | refine jP ?_ | refine jQ ?_ | refine jR ?_ | refine jS (k := ?_) | refine jT (k := ?_)))); (conv => whnf)
    refine r_new fun b10 w10 hx10 hb10 hs10 hblk10 => ?_
    have hblk9 := hblk9.ext hx10
    have hl9 := hblk8.lt
    have hz9 := hx9.size
    (repeat ((conv => whnf); (first | (with_reducible first | refine jA ?_ | refine jB ?_ | refine jC ?_ | refine jD ?_) | refine jE ?_ | refine jF ?_ | refine jG ?_ | refine jH ?_ | refine jI ?_ | refine jJ ?_ | refine jK ?_ | refine jL ?_ | refine jM ?_ | refine jN ?_ | refine jO ?_ | refine jP ?_ | refine jQ ?_ | refine jR ?_ | refine jS (k := ?_) | refine jT (k := ?_)))); (conv => whnf)
    refine r_stn hblk10 (by simp [En.cells]) (cells_one _) fun w11 hc11 hs11 hblk11 => ?_
    have hblk11 : Blk w11 b10 28 x.cells := hblk11
    have hblk9 := hblk9.keep hc11 (by omega)
    have hx911 : Ext w9 w11 := Chg.step hx10 hc11 fun k hk hlt => by omega
    have hq11 := ((hq5.ext' hx58).ext' hx9).ext' hx911
    (repeat ((conv => whnf); (first | (with_reducible first | refine jA ?_ | refine jB ?_ | refine jC ?_ | refine jD ?_) | refine jE ?_ | refine jF ?_ | refine jG ?_ | refine jH ?_ | refine jI ?_ | refine jJ ?_ | refine jK ?_ | refine jL ?_ | refine jM ?_ | refine jN ?_ | refine jO ?_ | refine jP ?_ | refine jQ ?_ | refine jR ?_ | refine jS (k := ?_) | refine jT (k := ?_)))); (conv => whnf)
    refine r_ldnb (vs := x.cells) hblk9 rfl rfl ?_
    (repeat ((conv => whnf); (first | (with_reducible first | refine jA ?_ | refine jB ?_ | refine jC ?_ | refine jD ?_) | refine jE ?_ | refine jF ?_ | refine jG ?_ | refine jH ?_ | refine jI ?_ | refine jJ ?_ | refine jK ?_ | refine jL ?_ | refine jM ?_ | refine jN ?_ | refine jO ?_ | refine jP ?_ | refine jQ ?_ | refine jR ?_ | refine jS (k := ?_) | refine jT (k := ?_)))); (conv => whnf)
    refine r_ldnb (vs := x.cells) hblk11 rfl rfl ?_
    (repeat ((conv => whnf); (first | (with_reducible first | refine jA ?_ | refine jB ?_ | refine jC ?_ | refine jD ?_) | refine jE ?_ | refine jF ?_ | refine jG ?_ | refine jH ?_ | refine jI ?_ | refine jJ ?_ | refine jK ?_ | refine jL ?_ | refine jM ?_ | refine jN ?_ | refine jO ?_ | refine jP ?_ | refine jQ ?_ | refine jR ?_ | refine jS (k := ?_) | refine jT (k := ?_)))); (conv => whnf)
    refine r_nes (n := 3) (by kernel_rfl) rfl ⟨rfl, rfl, rfl, trivial⟩ fun b' hb' => ?_
    have hb' : b' = false := by
      cases b' with
      | false => rfl
      | true => exact absurd rfl (hb'.1 rfl)
    subst hb'
    (repeat ((conv => whnf); (first | (with_reducible first | refine jA ?_ | refine jB ?_ | refine jC ?_ | refine jD ?_) | refine jE ?_ | refine jF ?_ | refine jG ?_ | refine jH ?_ | refine jI ?_ | refine jJ ?_ | refine jK ?_ | refine jL ?_ | refine jM ?_ | refine jN ?_ | refine jO ?_ | refine jP ?_ | refine jQ ?_ | refine jR ?_ | refine jS (k := ?_) | refine jT (k := ?_)))); (conv => whnf)
    refine r_false (by cases b <;> rfl) ?_
    (repeat ((conv => whnf); (first | (with_reducible first | refine jA ?_ | refine jB ?_ | refine jC ?_ | refine jD ?_) | refine jE ?_ | refine jF ?_ | refine jG ?_ | refine jH ?_ | refine jI ?_ | refine jJ ?_ | refine jK ?_ | refine jL ?_ | refine jM ?_ | refine jN ?_ | refine jO ?_ | refine jP ?_ | refine jQ ?_ | refine jR ?_ | refine jS (k := ?_) | refine jT (k := ?_)))); (conv => whnf)
    refine r_cal (aLen_ok hq11.ag) ?_
    rintro _ w12 ⟨rfl, rfl⟩
    (repeat ((conv => whnf); (first | (with_reducible first | refine jA ?_ | refine jB ?_ | refine jC ?_ | refine jD ?_) | refine jE ?_ | refine jF ?_ | refine jG ?_ | refine jH ?_ | refine jI ?_ | refine jJ ?_ | refine jK ?_ | refine jL ?_ | refine jM ?_ | refine jN ?_ | refine jO ?_ | refine jP ?_ | refine jQ ?_ | refine jR ?_ | refine jS (k := ?_) | refine jT (k := ?_)))); (conv => whnf)
    exact hagain (_, i + 1) _ ⟨by dsimp only; omega, _, _, _, _, { hq11 with len := by omega }⟩ (by dsimp only; omega)
  · (repeat ((conv => whnf); (first | (with_reducible first | refine jA ?_ | refine jB ?_ | refine jC ?_ | refine jD ?_) | refine jE ?_ | refine jF ?_ | refine jG ?_ | refine jH ?_ | refine jI ?_ | refine jJ ?_ | refine jK ?_ | refine jL ?_ | refine jM ?_ | refine jN ?_ | refine jO ?_ | refine jP ?_ | refine jQ ?_ | refine jR ?_ | refine jS (k := ?_) | refine jT (k := ?_)))); (conv => whnf)
    refine r_cal (Take_ok hq5.ag) ?_
    rintro _ w6 ⟨rfl, l6, h6, m6, hc6⟩
    have hop6 := hop.keep hc6 hob
    have hx06 := Chg.ps hq5.ext hc6 hq5.new
    have hv6 := hv5.keepN hc6 fun hp e => by
      have := hv5.plain hp
      unfold plainA at this
      refine hq5.off (blk va) ?_ e
      rw [this]
      rfl
    have hl6 := dist_le (r := l) h6.pile.dist fun x hx => ((m6 x).1 hx).1
    (repeat ((conv => whnf); (first | (with_reducible first | refine jA ?_ | refine jB ?_ | refine jC ?_ | refine jD ?_) | refine jE ?_ | refine jF ?_ | refine jG ?_ | refine jH ?_ | refine jI ?_ | refine jJ ?_ | refine jK ?_ | refine jL ?_ | refine jM ?_ | refine jN ?_ | refine jO ?_ | refine jP ?_ | refine jQ ?_ | refine jR ?_ | refine jS (k := ?_) | refine jT (k := ?_)))); (conv => whnf)
    refine r_new fun b7 w7 hx7 hb7 hs7 hblk7 => ?_
    (repeat ((conv => whnf); (first | (with_reducible first | refine jA ?_ | refine jB ?_ | refine jC ?_ | refine jD ?_) | refine jE ?_ | refine jF ?_ | refine jG ?_ | refine jH ?_ | refine jI ?_ | refine jJ ?_ | refine jK ?_ | refine jL ?_ | refine jM ?_ | refine jN ?_ | refine jO ?_ | refine jP ?_ | refine jQ ?_ | refine jR ?_ | refine jS (k := ?_) | refine jT (k := ?_)))); (conv => whnf)
    refine r_stn hblk7 (by simp [En.cells]) (cells_one _) fun w8 hc8 hs8 hblk8 => ?_
    have hblk8 : Blk w8 b7 28 [.int .i64 (gt l 0).place, .int .i64 (gt l 0).order, .int .i64 (gt l 0).out] := hblk8
    have hx68 : Ext w6 w8 := Chg.step hx7 hc8 fun k hk hlt => by omega
    (repeat ((conv => whnf); (first | (with_reducible first | refine jA ?_ | refine jB ?_ | refine jC ?_ | refine jD ?_) | refine jE ?_ | refine jF ?_ | refine jG ?_ | refine jH ?_ | refine jI ?_ | refine jJ ?_ | refine jK ?_ | refine jL ?_ | refine jM ?_ | refine jN ?_ | refine jO ?_ | refine jP ?_ | refine jQ ?_ | refine jR ?_ | refine jS (k := ?_) | refine jT (k := ?_)))); (conv => whnf)
    refine r_cal (First_ok (hv6.ext hx68) (by omega)) ?_
    rintro _ w9 ⟨hx9, f, rfl, hf0, hf1⟩
    have hx69 := hx68.trans hx9
    have hblk9 := hblk8.ext hx9
    have hv9 := hv6.ext hx69
    by_cases hl0 : l.length = 0
    · rw [hf0 (by omega), show decide (0 < l.length) = false by simp [hl0]]
      have hnil : l = [] := List.length_eq_zero_iff.1 hl0
      subst hnil
      (repeat ((conv => whnf); (first | (with_reducible first | refine jA ?_ | refine jB ?_ | refine jC ?_ | refine jD ?_) | refine jE ?_ | refine jF ?_ | refine jG ?_ | refine jH ?_ | refine jI ?_ | refine jJ ?_ | refine jK ?_ | refine jL ?_ | refine jM ?_ | refine jN ?_ | refine jO ?_ | refine jP ?_ | refine jQ ?_ | refine jR ?_ | refine jS (k := ?_) | refine jT (k := ?_)))); (conv => whnf)
      refine r_drawE fun w10 hx10 hh10 => ?_
      (repeat ((conv => whnf); (first | (with_reducible first | refine jA ?_ | refine jB ?_ | refine jC ?_ | refine jD ?_) | refine jE ?_ | refine jF ?_ | refine jG ?_ | refine jH ?_ | refine jI ?_ | refine jJ ?_ | refine jK ?_ | refine jL ?_ | refine jM ?_ | refine jN ?_ | refine jO ?_ | refine jP ?_ | refine jQ ?_ | refine jR ?_ | refine jS (k := ?_) | refine jT (k := ?_)))); (conv => whnf)
      refine r_false (by rfl) ?_
      (repeat ((conv => whnf); (first | (with_reducible first | refine jA ?_ | refine jB ?_ | refine jC ?_ | refine jD ?_) | refine jE ?_ | refine jF ?_ | refine jG ?_ | refine jH ?_ | refine jI ?_ | refine jJ ?_ | refine jK ?_ | refine jL ?_ | refine jM ?_ | refine jN ?_ | refine jO ?_ | refine jP ?_ | refine jQ ?_ | refine jR ?_ | refine jS (k := ?_) | refine jT (k := ?_)))); (conv => whnf)
      refine r_ldnbE (vs := [.int .i64 0, .int .i64 0, .int .i64 0]) hblk9 rfl rfl ?_
      (repeat ((conv => whnf); (first | (with_reducible first | refine jA ?_ | refine jB ?_ | refine jC ?_ | refine jD ?_) | refine jE ?_ | refine jF ?_ | refine jG ?_ | refine jH ?_ | refine jI ?_ | refine jJ ?_ | refine jK ?_ | refine jL ?_ | refine jM ?_ | refine jN ?_ | refine jO ?_ | refine jP ?_ | refine jQ ?_ | refine jR ?_ | refine jS (k := ?_) | refine jT (k := ?_)))); (conv => whnf)
      refine r_nes (n := 3) (by kernel_rfl) rfl ⟨rfl, rfl, rfl, trivial⟩ fun b' hb' => ?_
      have hb' : b' = false := by
        cases b' with
        | false => rfl
        | true => exact absurd rfl (hb'.1 rfl)
      subst hb'
      (repeat ((conv => whnf); (first | (with_reducible first | refine jA ?_ | refine jB ?_ | refine jC ?_ | refine jD ?_) | refine jE ?_ | refine jF ?_ | refine jG ?_ | refine jH ?_ | refine jI ?_ | refine jJ ?_ | refine jK ?_ | refine jL ?_ | refine jM ?_ | refine jN ?_ | refine jO ?_ | refine jP ?_ | refine jQ ?_ | refine jR ?_ | refine jS (k := ?_) | refine jT (k := ?_)))); (conv => whnf)
      have hx610 := hx69.trans hx10
      have hl6' : l6 = [] := by simpa using hl6
      subst hl6'
      have hr0 : r = [] := List.length_eq_zero_iff.1 (by omega)
      subst hr0
      have hq10 : QPl w w10 ab mb g c [] [] (.slice va 0 vc) (i + 1) :=
        ⟨h6.ext hx610, own_ext (own_keep hq5.own hc6 hq5.off) hx610, hq5.off, Agr.nil, by simp, hx06.trans hx610, hq5.new⟩
      refine r_cal (aLen_ok hq10.ag) ?_
      rintro _ w12 ⟨rfl, rfl⟩
      (repeat ((conv => whnf); (first | (with_reducible first | refine jA ?_ | refine jB ?_ | refine jC ?_ | refine jD ?_) | refine jE ?_ | refine jF ?_ | refine jG ?_ | refine jH ?_ | refine jI ?_ | refine jJ ?_ | refine jK ?_ | refine jL ?_ | refine jM ?_ | refine jN ?_ | refine jO ?_ | refine jP ?_ | refine jQ ?_ | refine jR ?_ | refine jS (k := ?_) | refine jT (k := ?_)))); (conv => whnf)
      exact hagain (_, i + 1) _ ⟨by dsimp only; omega, _, _, _, _, hq10⟩ (by dsimp only; omega)
    · obtain ⟨jf, hjf, rfl, hmin⟩ := hf1 (by omega)
      have heq : gt l 0 = gt r jf := hq5.agr.least (mem_gt.2 ⟨0, by omega, rfl⟩) (mem_gt.2 ⟨jf, hjf, rfl⟩) hq5.ag.least (fun e he => by
        obtain ⟨k, hk, rfl⟩ := mem_gt.1 he
        exact hmin k hk)
      rw [show decide (0 < l.length) = true by simp; omega]
      have hpr := hv9.plain (by rw [flat_len]; omega)
      (repeat ((conv => whnf); (first | (with_reducible first | refine jA ?_ | refine jB ?_ | refine jC ?_ | refine jD ?_) | refine jE ?_ | refine jF ?_ | refine jG ?_ | refine jH ?_ | refine jI ?_ | refine jJ ?_ | refine jK ?_ | refine jL ?_ | refine jM ?_ | refine jN ?_ | refine jO ?_ | refine jP ?_ | refine jQ ?_ | refine jR ?_ | refine jS (k := ?_) | refine jT (k := ?_)))); (conv => whnf)
      refine r_drawE fun w10 hx10 hh10 => ?_
      (repeat ((conv => whnf); (first | (with_reducible first | refine jA ?_ | refine jB ?_ | refine jC ?_ | refine jD ?_) | refine jE ?_ | refine jF ?_ | refine jG ?_ | refine jH ?_ | refine jI ?_ | refine jJ ?_ | refine jK ?_ | refine jL ?_ | refine jM ?_ | refine jN ?_ | refine jO ?_ | refine jP ?_ | refine jQ ?_ | refine jR ?_ | refine jS (k := ?_) | refine jT (k := ?_)))); (conv => whnf)
      refine r_false (by rw [if_pos rfl, decide_eq_true (by omega)]; rfl) ?_
      (repeat ((conv => whnf); (first | (with_reducible first | refine jA ?_ | refine jB ?_ | refine jC ?_ | refine jD ?_) | refine jE ?_ | refine jF ?_ | refine jG ?_ | refine jH ?_ | refine jI ?_ | refine jJ ?_ | refine jK ?_ | refine jL ?_ | refine jM ?_ | refine jN ?_ | refine jO ?_ | refine jP ?_ | refine jQ ?_ | refine jR ?_ | refine jS (k := ?_) | refine jT (k := ?_)))); (conv => whnf)
      refine r_ldnbE (vs := (gt l 0).cells) hblk9 rfl rfl ?_
      (repeat ((conv => whnf); (first | (with_reducible first | refine jA ?_ | refine jB ?_ | refine jC ?_ | refine jD ?_) | refine jE ?_ | refine jF ?_ | refine jG ?_ | refine jH ?_ | refine jI ?_ | refine jJ ?_ | refine jK ?_ | refine jL ?_ | refine jM ?_ | refine jN ?_ | refine jO ?_ | refine jP ?_ | refine jQ ?_ | refine jR ?_ | refine jS (k := ?_) | refine jT (k := ?_)))); (conv => whnf)
      refine r_ldnvE (j := (jf : Int).toNat * 3) (vs := (gt r jf).cells) hv9 (flat_ent hjf) rfl ?_
      (repeat ((conv => whnf); (first | (with_reducible first | refine jA ?_ | refine jB ?_ | refine jC ?_ | refine jD ?_) | refine jE ?_ | refine jF ?_ | refine jG ?_ | refine jH ?_ | refine jI ?_ | refine jJ ?_ | refine jK ?_ | refine jL ?_ | refine jM ?_ | refine jN ?_ | refine jO ?_ | refine jP ?_ | refine jQ ?_ | refine jR ?_ | refine jS (k := ?_) | refine jT (k := ?_)))); (conv => whnf)
      rw [← heq]
      refine r_nes (n := 3) (by kernel_rfl) rfl ⟨rfl, rfl, rfl, trivial⟩ fun b' hb' => ?_
      have hb' : b' = false := by
        cases b' with
        | false => rfl
        | true => exact absurd rfl (hb'.1 rfl)
      subst hb'
      have hblk10 := hblk9.ext hx10
      have hx610 := hx69.trans hx10
      (repeat ((conv => whnf); (first | (with_reducible first | refine jA ?_ | refine jB ?_ | refine jC ?_ | refine jD ?_) | refine jE ?_ | refine jF ?_ | refine jG ?_ | refine jH ?_ | refine jI ?_ | refine jJ ?_ | refine jK ?_ | refine jL ?_ | refine jM ?_ | refine jN ?_ | refine jO ?_ | refine jP ?_ | refine jQ ?_ | refine jR ?_ | refine jS (k := ?_) | refine jT (k := ?_)))); (conv => whnf)
      refine r_cal (Without_ok (hv9.ext hx10) (by omega) (gt l 0).place) ?_
      rintro _ w11 ⟨hx11, u, rfl, hown11⟩
      have hge : ∀ k, u.ownBlock = some k → w10.heap.size ≤ k := fun k hk => own_ge hown11 hk
      have hx06s := hx06.size
      have hx610s := hx610.size
      have hq11 : QPl w w11 ab mb g c l6 (wo r (gt l 0).place) u (i + 1) :=
        ⟨(h6.ext hx610).ext hx11, own_mono hown11 (by omega), fun k hk e => by
          have := hge k hk
          have := h6.pile.lt e
          omega, hq5.agr.drop h6.pile.dist m6, by omega, (hx06.trans hx610).trans hx11, hq5.new⟩
      (repeat ((conv => whnf); (first | (with_reducible first | refine jA ?_ | refine jB ?_ | refine jC ?_ | refine jD ?_) | refine jE ?_ | refine jF ?_ | refine jG ?_ | refine jH ?_ | refine jI ?_ | refine jJ ?_ | refine jK ?_ | refine jL ?_ | refine jM ?_ | refine jN ?_ | refine jO ?_ | refine jP ?_ | refine jQ ?_ | refine jR ?_ | refine jS (k := ?_) | refine jT (k := ?_)))); (conv => whnf)
      refine r_cal (aLen_ok hq11.ag) ?_
      rintro _ w12 ⟨rfl, rfl⟩
      have hl9 := hq11.agr.len
      obtain ⟨v9a, v9c, rfl⟩ := own_sl hown11
      (repeat ((conv => whnf); (first | (with_reducible first | refine jA ?_ | refine jB ?_ | refine jC ?_ | refine jD ?_) | refine jE ?_ | refine jF ?_ | refine jG ?_ | refine jH ?_ | refine jI ?_ | refine jJ ?_ | refine jK ?_ | refine jL ?_ | refine jM ?_ | refine jN ?_ | refine jO ?_ | refine jP ?_ | refine jQ ?_ | refine jR ?_ | refine jS (k := ?_) | refine jT (k := ?_)))); (conv => whnf)
      exact hagain (_, i + 1) _ ⟨by dsimp only; omega, _, _, _, _, hq11⟩ (by dsimp only; omega)
end
end Fb.Try.QU
