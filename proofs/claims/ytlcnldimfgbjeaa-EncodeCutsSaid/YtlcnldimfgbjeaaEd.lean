/-
  Walks: the tokens of bytes.
-/
import Derived.Test.YtlcnldimfgbjeaaEc
namespace Fb.Try.VO
open Go Go.Proofs Fb Fb.Bytes
open QU (En less Ag PS Arr Put_ok Drop_ok Take_ok)
/-- The bytes' own tokens. -/
def own1 (T : List (List UInt8)) (s : List UInt8) : List Int := s.map fun b => ofT T [b]
theorem own1_len (T : List (List UInt8)) (s : List UInt8) : (own1 T s).length = s.length := by simp [own1]
theorem ofT_i64 {T : List (List UInt8)} (h : T.length ≤ 4611686018427387904) (s : List UInt8) : I64 (ofT T s) := by
  unfold I64
  by_cases h1 : s = []
  · rw [h1, ofT_nil]
    omega
  · by_cases h2 : s ∈ T
    · obtain ⟨i, hi, _, he, _⟩ := ofT_spec h1 h2
      omega
    · rw [ofT_no h2]
      omega
/-- Two rows of one's own in different blocks. -/
def Dj (u v : Value) : Prop := ∀ b, u.ownBlock = some b → v.ownBlock ≠ some b
theorem Dj.symm {u v : Value} (h : Dj u v) : Dj v u := fun b hb hu => h b hu hb
/-- One of them has grown. -/
theorem Dj.grow {w : World} {base e n : Nat} {u u' v : Value} {xs : List Value} (h : Dj u v) (hv : w.ownsRow base e 1 v n xs) (hu : u'.ownBlock = u.ownBlock ∨ u'.ownBlock = some w.heap.size) : Dj u' v := fun b hb hvb => by
  rcases hu with q | q
  · exact h b (by rw [← q]; exact hb) hvb
  · rw [hb] at q
    cases q
    exact Nat.lt_irrefl _ (hv.lt _ hvb).2
theorem own_kb {w w' : World} {base kb n : Nat} {v : Value} {xs cs : List Value} (h : w.ownsRow base 3 1 v n xs) (hk : Blk w kb 108 cs) (hc : Chg (· = kb) w w') : w'.ownsRow base 3 1 v n xs :=
  own_keep h hc fun b hb e => own_ne h hk (by decide) (by rw [hb, e])
theorem ag_own {w : World} {ab mb c n base : Nat} {g : Option Nat} {l : List En} {v : Value} {xs : List Value} (hA : Ag w ab mb g c l) (h : w.ownsRow base 3 1 v n xs) : ∀ x, PS ab mb g x → ¬ v.ownBlock = some x := by
  rintro x (rfl | rfl | rfl) e
  · exact own_ne h hA.pile.blk (by decide) e
  · exact hA.pile.map.apart h e
  · obtain ⟨R, hr, _⟩ := hA.pile.row
    exact own_ne h hr (by decide) e
theorem ag_kb {w : World} {ab mb c kb : Nat} {g : Option Nat} {l : List En} {cs : List Value} (hA : Ag w ab mb g c l) (hk : Blk w kb 108 cs) : ∀ x, PS ab mb g x → ¬ x = kb := by
  rintro x hx rfl
  exact ps_ne (k := ⟨0, 0, 0, 0, 0, 0, 0, 0, ab⟩) hA hk (by decide) (by decide) hx
theorem own_rw {w : World} {base n : Nat} {v : Value} {L : List Int} (h : w.ownsRow base 3 1 v n (ri L)) (hn : 0 < n) : ∃ b c, v = .slice (some ⟨b, 0, none⟩) n c ∧ base ≤ b ∧ n ≤ c ∧ Rw w b n L := by
  have hl := h.1
  rw [ri_len, Nat.mul_one] at hl
  rcases h.2 with ⟨_, h0⟩ | ⟨g, cap, ⟨cur⟩, hv, hb, hg, hc, hm, hs, ht⟩
  · omega
  · refine ⟨g, cap, hv, hb, hc, ⟨cur.drop n, ?_⟩, hl⟩
    have ht : cur.take n = ri L := by simpa using ht
    rw [← ht, List.take_append_drop]
    exact hg
theorem CS.new {k : KA} {mb B : Nat} {w : World} {g g' : Option Nat} (ha : Arr w g g') (hS : ∀ b, CS k mb g b → B ≤ b) (hB : B ≤ w.heap.size) : ∀ b, CS k mb g' b → B ≤ b := by
  rintro b (q | q | q | q)
  · exact hS b (.inl q)
  · exact hS b (.inr (.inl q))
  · exact hS b (.inr (.inr (.inl q)))
  · exact QU.Arr.new ha (fun x hx => hS x (.inr (.inr (.inr hx)))) hB b q
/-- What is known when the first one has been taken. -/
structure Tk (M : List Mg) (P : List Nat) (V : List Int) (l : List En) (e : En) (ok : Bool) : Prop where
  yes : ok = true → ∃ i m, i + 1 < P.length ∧ m < M.length ∧ e = ⟨(gp P i : Nat), (gm M m).d, (gm M m).o⟩ ∧ stp M V = some (repl V i (gm M m).o) ∧ ∀ x, x ∈ l ↔ Ent M P V x ∧ x.place ≠ (gp P i : Nat)
  no : ok = false → stp M V = none
theorem take_tk {w : World} {ab mb c n : Nat} {g : Option Nat} {l l' : List En} {M : List Mg} {P : List Nat} {V R L Rt : List Int} (hA : Ag w ab mb g c l) (hC : Ch n P V R L Rt) (hl : ∀ x, x ∈ l ↔ Ent M P V x) (hm : ∀ x, x ∈ l' ↔ x ∈ l ∧ x.place ≠ (QU.gt l 0).place) : Tk M P V l' (QU.gt l 0) (decide (0 < l.length)) := by
  have hpv := hC.pv
  constructor
  · intro h
    have h := of_decide_eq_true h
    obtain ⟨i, m, hi, hf, he, hs⟩ := Ent.take hC ((hl _).1 (QU.mem_gt.2 ⟨0, h, rfl⟩)) fun x hx => hA.least x ((hl x).2 hx)
    refine ⟨i, m, by omega, (fd_some hf).1, he, ?_, fun x => ?_⟩
    · rw [hs, he]
    · rw [hm, hl, he]
  · intro h
    have h := of_decide_eq_false h
    have : l = [] := List.length_eq_zero_iff.1 (by omega)
    subst this
    exact Ent.none fun x hx => by have := (hl x).2 hx; cases this
structure L3 where
  eb : Nat
  ok : Bool
  e : En
  V : List Int
theorem cod_cell (p q : Value) (T : List (List UInt8)) (b : UInt8) : ([p, q] ++ ri (ids T))[0 + 2 + ((b.toNat : Nat) : Int).toNat * 1]? = some (.int .i64 (ofT T [b])) := by
  have hb := b.toNat_lt
  have hl : (ids T).length = 256 := by simp [ids]
  rw [show 0 + 2 + ((b.toNat : Nat) : Int).toNat * 1 = b.toNat + 2 by omega]
  have e : ([p, q] ++ ri (ids T))[b.toNat + 2]? = (ri (ids T))[b.toNat]? := rfl
  rw [e, ri_get (by omega), ids_get]
theorem ri_take_succ {L : List Int} {i : Nat} (h : i < L.length) : ri (L.take (i + 1)) = ri (L.take i) ++ [.int .i64 (gi L i)] := by
  have h1 := gi_get h
  rw [List.getElem?_eq_getElem h] at h1
  rw [List.take_succ_eq_append_getElem h, ri_app, Option.some.inj h1]
  rfl
section
variable {w w' : World} {v : Voc} {x : VA} {a : Option Addr} {len cap cb : Nat} {s : List UInt8}
theorem bv_lens (hv : View w a len cap 1 (bvs s)) : s.length = len := by
  have := hv.length
  rw [bvs_length] at this
  omega
theorem bv_cell {i : Nat} (h : i < s.length) : (bvs s)[(i : Int).toNat * 1]? = some (.int .u8 (s[i].toNat : Int)) := by
  rw [show (i : Int).toNat * 1 = i by omega]
  unfold bvs
  rw [List.getElem?_map, List.getElem?_eq_getElem h]
  rfl
set_option maxHeartbeats 4000000 in
set_option maxRecDepth 100000 in
theorem Enc_ok (h : Cod w cb v) (hM : ∀ m ∈ v.M, I64 m.o) (hT : v.T.length ≤ 4096) (hv : View w a len cap 1 (bvs s)) (hl : len ≤ 900) : Cal Try.prog 33 ⟨[.pointer (some ⟨cb, 0, none⟩), .slice a len cap]⟩ w fun u w' => Ext w w' ∧ ∃ a' len' cap', u = .slice a' len' cap' ∧ View w' a' len' cap' 1 (ri (run v.M (own1 v.T s))) := by
  have hsl := bv_lens hv
  obtain ⟨tb, aT, lT, cT, hcb, hvT, hTab⟩ := h
  have hcap := hv.le
  have hcapm := hv.max
  unfold maxLen at hcapm
  have hV1 : ∀ i ∈ own1 v.T s, I64 i := fun i hi => by
    obtain ⟨b, _, rfl⟩ := List.mem_map.1 hi
    exact ofT_i64 (by omega) _
  have hVl := own1_len v.T s
  refine go33 (by rfl) ?_
  by_cases h0 : len = 0
  · subst h0
    have : s = [] := List.length_eq_zero_iff.1 hsl
    subst this
    (repeat ((conv => whnf); (first | (with_reducible first | refine jA ?_ | refine jB ?_ | refine jC ?_ | refine jD ?_) | refine jE ?_ | refine jF ?_ | refine jG ?_ | refine jH ?_ | refine jI ?_ | refine jJ ?_ | refine jK ?_ | refine jL ?_ | refine jM ?_ | refine jN ?_ | refine jO ?_ | refine jP ?_ | refine jQ ?_ | refine jR ?_ | refine jS (k := ?_) | refine jT (k := ?_)))); (conv => whnf)
    exact ⟨Ext.refl _, none, 0, 0, rfl, View.nil _ _⟩
  have hpl := hv.plain (by rw [bvs_length]; omega)
  (repeat ((conv => whnf); (first | (with_reducible first | refine jA ?_ | refine jB ?_ | refine jC ?_ | refine jD ?_) | refine jE ?_ | refine jF ?_ | refine jG ?_ | refine jH ?_ | refine jI ?_ | refine jJ ?_ | refine jK ?_ | refine jL ?_ | refine jM ?_ | refine jN ?_ | refine jO ?_ | refine jP ?_ | refine jQ ?_ | refine jR ?_ | refine jS (k := ?_) | refine jT (k := ?_)))); (conv => whnf)
  refine r_drawE fun w1 hx1 hh1 => ?_
  (repeat ((conv => whnf); (first | (with_reducible first | refine jA ?_ | refine jB ?_ | refine jC ?_ | refine jD ?_) | refine jE ?_ | refine jF ?_ | refine jG ?_ | refine jH ?_ | refine jI ?_ | refine jJ ?_ | refine jK ?_ | refine jL ?_ | refine jM ?_ | refine jN ?_ | refine jO ?_ | refine jP ?_ | refine jQ ?_ | refine jR ?_ | refine jS (k := ?_) | refine jT (k := ?_)))); (conv => whnf)
  refine r_cal (QU.New_ok w1) ?_
  rintro _ w2 ⟨ab, mb, rfl, hx2, hab, hmb, hA⟩
  have hx02 := hx1.trans hx2
  refine r_held hx02 ?_
  (repeat ((conv => whnf); (first | (with_reducible first | refine jA ?_ | refine jB ?_ | refine jC ?_ | refine jD ?_) | refine jE ?_ | refine jF ?_ | refine jG ?_ | refine jH ?_ | refine jI ?_ | refine jJ ?_ | refine jK ?_ | refine jL ?_ | refine jM ?_ | refine jN ?_ | refine jO ?_ | refine jP ?_ | refine jQ ?_ | refine jR ?_ | refine jS (k := ?_) | refine jT (k := ?_)))); (conv => whnf)
  refine r_new fun kb w3 hx3 hb3 hs3 hblk3 => ?_
  have hx03 := hx02.trans hx3
  refine r_held hx03 ?_
  (repeat ((conv => whnf); (first | (with_reducible first | refine jA ?_ | refine jB ?_ | refine jC ?_ | refine jD ?_) | refine jE ?_ | refine jF ?_ | refine jG ?_ | refine jH ?_ | refine jI ?_ | refine jJ ?_ | refine jK ?_ | refine jL ?_ | refine jM ?_ | refine jN ?_ | refine jO ?_ | refine jP ?_ | refine jQ ?_ | refine jR ?_ | refine jS (k := ?_) | refine jT (k := ?_)))); (conv => whnf)
  have hkb3 : Blk w3 kb 108 [.slice none 0 0, .slice none 0 0, .slice none 0 0, .func (.func 53) ⟨[.pointer (some ⟨tb, 0, none⟩)]⟩ ⟨[]⟩, .pointer (some ⟨ab, 0, none⟩)] := hblk3
  have hA3 := hA.ext hx3
  have z1 := hx1.size
  have z2 := hx2.size
  refine r_loop (σ := Nat) (fun i => [.int .i64 (i : Int)]) (fun i w' => i ≤ len ∧ Ext w w' ∧ Ag w' ab mb none 0 [] ∧ ∃ vr vl vt, Blk w' kb 108 [vr, vl, vt, .func (.func 53) ⟨[.pointer (some ⟨tb, 0, none⟩)]⟩ ⟨[]⟩, .pointer (some ⟨ab, 0, none⟩)] ∧ w'.ownsRow w.heap.size 3 1 vr i (ri ((own1 v.T s).take i)) ∧ w'.ownsRow w.heap.size 3 1 vl i (ri ((rowL len).take i)) ∧ w'.ownsRow w.heap.size 3 1 vt i (ri ((rowR len).take i)) ∧ Dj vr vl ∧ Dj vr vt ∧ Dj vl vt) (fun i _ => len - i) 0 rfl ⟨by omega, hx03, hA3, _, _, _, hkb3, ⟨rfl, .inl ⟨rfl, rfl⟩⟩, ⟨rfl, .inl ⟨rfl, rfl⟩⟩, ⟨rfl, .inl ⟨rfl, rfl⟩⟩, (fun _ h => by cases h), (fun _ h => by cases h), (fun _ h => by cases h)⟩ ?_
  clear hkb3 hA3 hblk3 hA
  rintro i w4 again ⟨hi, hx4, hA4, vr, vl, vt, hkb, hvr, hvl, hvt, d1, d2, d3⟩ hagain
  have hcb4 := hcb.ext hx4
  have z4 := hx4.size
  by_cases hil : i < len
  rotate_left
  · have hie : i = len := by omega
    rw [hie] at hvr hvl hvt
    have hVlen : (own1 v.T s).length = len := by omega
    rw [List.take_of_length_le (by omega)] at hvr
    rw [List.take_of_length_le (by simp [rowL])] at hvl
    rw [List.take_of_length_le (by simp [rowR])] at hvt
    clear hagain
    obtain ⟨br, cr, rfl, gr, -, hr4⟩ := own_rw hvr (by omega)
    obtain ⟨bl, cl, rfl, gl, -, hl4⟩ := own_rw hvl (by omega)
    obtain ⟨bt, ct, rfl, gt, -, ht4⟩ := own_rw hvt (by omega)
    have n1 : br ≠ bl := fun e => d1 br rfl (by rw [e]; rfl)
    have n2 : br ≠ bt := fun e => d2 br rfl (by rw [e]; rfl)
    have n3 : bl ≠ bt := fun e => d3 bl rfl (by rw [e]; rfl)
    clear d1 d2 d3 hvr hvl hvt
    have h4 : Cn w4 ⟨kb, br, bl, bt, cr, cl, ct, tb, ab⟩ len (own1 v.T s) (rowL len) (rowR len) := ⟨hkb, hr4, hl4, ht4, n1, n2, n3⟩
    have hC := Ch.start (V := own1 v.T s) (by omega)
    rw [hVlen] at hC
    have hS4 : ∀ b, CS ⟨kb, br, bl, bt, cr, cl, ct, tb, ab⟩ mb none b → w.heap.size ≤ b := by
      rintro b (rfl | rfl | rfl | rfl | rfl | q)
      · exact gr
      · exact gl
      · exact gt
      · exact Nat.le_trans z1 hab
      · exact Nat.le_trans z1 hmb
      · cases q
    rw [hie]
    (repeat ((conv => whnf); (first | refine r_need rfl ?_ | (with_reducible first | refine jA ?_ | refine jB ?_ | refine jC ?_ | refine jD ?_) | refine jE ?_ | refine jF ?_ | refine jG ?_ | refine jH ?_ | refine jI ?_ | refine jJ ?_ | refine jK ?_ | refine jL ?_ | refine jM ?_ | refine jN ?_ | refine jO ?_ | refine jP ?_ | refine jQ ?_ | refine jR ?_ | refine jS (k := ?_) | refine jT (k := ?_)))); (conv => whnf)
    rw [show ((len : Int) - 1) = ((len - 1 : Nat) : Int) by omega]
    refine r_rwst h4.t (by omega) fun w5 hc5 hs5 hr5 => ?_
    have h5 := h4.setT hc5 hr5
    generalize hK : (KA.mk kb br bl bt cr cl ct tb ab) = k at h4 h5 hS4
    have hkab : k.ab = ab := by rw [← hK]
    have hktb : k.tb = tb := by rw [← hK]
    have hkkb : k.kb = kb := by rw [← hK]
    have hkbt : k.bt = bt := by rw [← hK]
    subst hkab hktb hkkb hkbt
    have hA5 := ag_keep hA4 hc5 h4.t.1.choose_spec fun _ h => h
    have hx5 : Ext w w5 := CS.ext (k := k) (mb := mb) (g := none) hx4 (Chg.mono hc5 fun b _ hb => .inr (.inr (.inl hb))) hS4
    clear hA4 hr5 ht4 hr4 hl4
    have hm0 : ∀ x, x ∈ ([] : List En) ↔ Ent v.M (List.range len) (own1 v.T s) x ∧ x.place < ((0 : Nat) : Int) := fun x => by
      constructor
      · intro hx
        cases hx
      · rintro ⟨q1, q2⟩
        have := q1.place hC
        omega
    (repeat ((conv => whnf); (first | (with_reducible first | refine jA ?_ | refine jB ?_ | refine jC ?_ | refine jD ?_) | refine jE ?_ | refine jF ?_ | refine jG ?_ | refine jH ?_ | refine jI ?_ | refine jJ ?_ | refine jK ?_ | refine jL ?_ | refine jM ?_ | refine jN ?_ | refine jO ?_ | refine jP ?_ | refine jQ ?_ | refine jR ?_ | refine jS (k := ?_) | refine jT (k := ?_)))); (conv => whnf)
    refine r_loop (σ := Nat) (fun i => [.int .i64 (i : Int)]) (fun i w' => i ≤ len ∧ Ext w w' ∧ Cn w' k len (own1 v.T s) (rowL len) ((rowR len).set (len - 1) (-1)) ∧ ∃ g c l, Ag w' k.ab mb g c l ∧ (∀ x, x ∈ l ↔ Ent v.M (List.range len) (own1 v.T s) x ∧ x.place < (i : Int)) ∧ (∀ b, CS k mb g b → w.heap.size ≤ b)) (fun i _ => len - i) 0 rfl ⟨by omega, hx5, h5, none, 0, [], hA5, hm0, hS4⟩ ?_
    clear h5 hA5 hx5 hc5 hx4 h4
    rintro i w6 again ⟨hi, hx6, h6, g, c, l, hA6, hl6, hS6⟩ hagain
    have hblk := h6.blk
    unfold kcs at hblk
    by_cases hil : i < len
    · have hlk := look_ok (P := List.range len) h6 (hTab.ext hx6) hA6 hC hl hV1 (fun x hx => ((hl6 x).1 hx).1.place hC) (j := i) (by simpa using hil)
      rw [gp_range hil] at hlk
      (repeat ((conv => whnf); (first | (with_reducible first | refine jA ?_ | refine jB ?_ | refine jC ?_ | refine jD ?_) | refine jE ?_ | refine jF ?_ | refine jG ?_ | refine jH ?_ | refine jI ?_ | refine jJ ?_ | refine jK ?_ | refine jL ?_ | refine jM ?_ | refine jN ?_ | refine jO ?_ | refine jP ?_ | refine jQ ?_ | refine jR ?_ | refine jS (k := ?_) | refine jT (k := ?_)))); (conv => whnf)
      refine r_cal hlk ?_
      rintro _ w7 ⟨g', c', l', hA7, hm7, ha7, hc7⟩
      (repeat ((conv => whnf); (first | (with_reducible first | refine jA ?_ | refine jB ?_ | refine jC ?_ | refine jD ?_) | refine jE ?_ | refine jF ?_ | refine jG ?_ | refine jH ?_ | refine jI ?_ | refine jJ ?_ | refine jK ?_ | refine jL ?_ | refine jM ?_ | refine jN ?_ | refine jO ?_ | refine jP ?_ | refine jQ ?_ | refine jR ?_ | refine jS (k := ?_) | refine jT (k := ?_)))); (conv => whnf)
      refine hagain (i + 1) w7 ⟨by omega, CS.ext hx6 (Chg.mono hc7 fun b _ hb => .inr (.inr (.inr hb))) hS6, h6.chg hA6 hc7, g', c', l', hA7, fun x => ?_, CS.new ha7 hS6 hx6.size⟩ (by omega)
      rw [hm7, hl6]
      constructor
      · rintro (⟨q1, q2⟩ | ⟨q1, q2, q3⟩)
        · exact ⟨q2, by omega⟩
        · exact ⟨q2, by omega⟩
      · rintro ⟨q1, q2⟩
        by_cases hq : x.place = (i : Int)
        · exact .inl ⟨hq, q1⟩
        · exact .inr ⟨hq, q1, by omega⟩
    have hie : i = len := by omega
    have hl6 : ∀ x, x ∈ l ↔ Ent v.M (List.range len) (own1 v.T s) x := fun x => by
      rw [hl6]
      exact ⟨fun h => h.1, fun h => ⟨h, by have := h.place hC; omega⟩⟩
    clear hagain
    (repeat ((conv => whnf); (first | (with_reducible first | refine jA ?_ | refine jB ?_ | refine jC ?_ | refine jD ?_) | refine jE ?_ | refine jF ?_ | refine jG ?_ | refine jH ?_ | refine jI ?_ | refine jJ ?_ | refine jK ?_ | refine jL ?_ | refine jM ?_ | refine jN ?_ | refine jO ?_ | refine jP ?_ | refine jQ ?_ | refine jR ?_ | refine jS (k := ?_) | refine jT (k := ?_)))); (conv => whnf)
    refine r_cal (Take_ok hA6) ?_
    rintro _ w7 ⟨rfl, l7, hA7, hm7, hc7⟩
    have htk := take_tk hA6 hC hl6 hm7
    have h7 := h6.chg hA6 hc7
    have hx7 : Ext w w7 := CS.ext hx6 (Chg.mono hc7 fun b _ hb => .inr (.inr (.inr hb))) hS6
    (repeat ((conv => whnf); (first | (with_reducible first | refine jA ?_ | refine jB ?_ | refine jC ?_ | refine jD ?_) | refine jE ?_ | refine jF ?_ | refine jG ?_ | refine jH ?_ | refine jI ?_ | refine jJ ?_ | refine jK ?_ | refine jL ?_ | refine jM ?_ | refine jN ?_ | refine jO ?_ | refine jP ?_ | refine jQ ?_ | refine jR ?_ | refine jS (k := ?_) | refine jT (k := ?_)))); (conv => whnf)
    refine r_new fun eb w8 hx8 hb8 hs8 hblk8 => ?_
    (repeat ((conv => whnf); (first | (with_reducible first | refine jA ?_ | refine jB ?_ | refine jC ?_ | refine jD ?_) | refine jE ?_ | refine jF ?_ | refine jG ?_ | refine jH ?_ | refine jI ?_ | refine jJ ?_ | refine jK ?_ | refine jL ?_ | refine jM ?_ | refine jN ?_ | refine jO ?_ | refine jP ?_ | refine jQ ?_ | refine jR ?_ | refine jS (k := ?_) | refine jT (k := ?_)))); (conv => whnf)
    refine r_stn (o := 0) hblk8 (by simp [En.cells]) (QU.cells_one _) fun w9 hc9 hs9 hblk9 => ?_
    have hblk9 : Blk w9 eb 28 (QU.gt l 0).cells := hblk9
    have hx79 : Ext w7 w9 := Chg.step hx8 hc9 fun b hb hlt => by omega
    have z7 := hx7.size
    (repeat ((conv => whnf); (first | (with_reducible first | refine jA ?_ | refine jB ?_ | refine jC ?_ | refine jD ?_) | refine jE ?_ | refine jF ?_ | refine jG ?_ | refine jH ?_ | refine jI ?_ | refine jJ ?_ | refine jK ?_ | refine jL ?_ | refine jM ?_ | refine jN ?_ | refine jO ?_ | refine jP ?_ | refine jQ ?_ | refine jR ?_ | refine jS (k := ?_) | refine jT (k := ?_)))); (conv => whnf)
    have hA7e : Ag w9 k.ab mb g c l7 := hA7.ext hx79
    have hne : g ≠ some eb := fun e => by
      have := QU.Pile.lt hA7.pile (.inr (.inr e))
      omega
    refine r_loop (σ := L3) (fun t => [.pointer (some ⟨t.eb, 0, none⟩), .bool t.ok]) (fun t w' => Ext w w' ∧ Blk w' t.eb 28 t.e.cells ∧ ∃ P R L Rt g c l, Cn w' k len R L Rt ∧ Ch len P t.V R L Rt ∧ Ag w' k.ab mb g c l ∧ (∀ b, CS k mb g b → w.heap.size ≤ b) ∧ g ≠ some t.eb ∧ run v.M t.V = run v.M (own1 v.T s) ∧ (∀ i ∈ t.V, I64 i) ∧ Tk v.M P t.V l t.e t.ok) (fun t _ => t.V.length) ⟨eb, decide (0 < l.length), QU.gt l 0, own1 v.T s⟩ rfl ⟨hx7.trans hx79, hblk9, _, _, _, _, g, c, l7, h7.ext hx79, hC, hA7e, hS6, hne, rfl, hV1, htk⟩ ?_
    clear hne hA7e h7 htk hblk9 hblk8 hA7 hm7 hl6 hA6 h6 hc7 hc9 hS6 hC hblk hkb hm0 hcb4
    rintro ⟨eb, ok, e, V⟩ w10 again ⟨hx10, hbe, P, R, L, Rt, g, c, l, h10, hC, hA10, hS10, hge, hrun, hVi, htk⟩ hagain
    dsimp only at hbe hC hge hrun hVi htk hagain ⊢
    have hblk := h10.blk
    unfold kcs at hblk
    cases ok with
    | true =>
      obtain ⟨i, m, hi, hm, rfl, hst, hl10⟩ := htk.yes rfl
      have hsl := stp_len hst
      have heb : ¬ CS k mb g eb := by
        rintro (q | q | q | q | q | q)
        · exact _root_.Fb.Blk.ne hbe h10.r.1.choose_spec (by decide) q
        · exact _root_.Fb.Blk.ne hbe h10.l.1.choose_spec (by decide) q
        · exact _root_.Fb.Blk.ne hbe h10.t.1.choose_spec (by decide) q
        · exact _root_.Fb.Blk.ne hbe hA10.pile.blk (by decide) q
        · exact hA10.pile.map.ne hbe q
        · exact hge q
      (repeat ((conv => whnf); (first | (with_reducible first | refine jA ?_ | refine jB ?_ | refine jC ?_ | refine jD ?_) | refine jE ?_ | refine jF ?_ | refine jG ?_ | refine jH ?_ | refine jI ?_ | refine jJ ?_ | refine jK ?_ | refine jL ?_ | refine jM ?_ | refine jN ?_ | refine jO ?_ | refine jP ?_ | refine jQ ?_ | refine jR ?_ | refine jS (k := ?_) | refine jT (k := ?_)))); (conv => whnf)
      refine r_ldnb (vs := En.cells ⟨(gp P i : Nat), (gm v.M m).d, (gm v.M m).o⟩) hbe rfl rfl ?_
      (repeat ((conv => whnf); (first | (with_reducible first | refine jA ?_ | refine jB ?_ | refine jC ?_ | refine jD ?_) | refine jE ?_ | refine jF ?_ | refine jG ?_ | refine jH ?_ | refine jI ?_ | refine jJ ?_ | refine jK ?_ | refine jL ?_ | refine jM ?_ | refine jN ?_ | refine jO ?_ | refine jP ?_ | refine jQ ?_ | refine jR ?_ | refine jS (k := ?_) | refine jT (k := ?_)))); (conv => whnf)
      refine r_cal (merge_ok h10 hTab hx10 hS10 hA10 hC hl hVi hi (hM _ (gm_mem.2 ⟨m, hm, rfl⟩)) hl10) ?_
      rintro _ w11 ⟨R', L', Rt', g', c', l', h11, hC', hA11, hl11, ha11, hc11⟩
      have hbe := hbe.keep hc11 heb
      have hx11 := CS.ext hx10 hc11 hS10
      have hS11 := CS.new ha11 hS10 hx10.size
      have hV11 := repl_i64 (i := i) hVi (hM _ (gm_mem.2 ⟨m, hm, rfl⟩))
      (repeat ((conv => whnf); (first | (with_reducible first | refine jA ?_ | refine jB ?_ | refine jC ?_ | refine jD ?_) | refine jE ?_ | refine jF ?_ | refine jG ?_ | refine jH ?_ | refine jI ?_ | refine jJ ?_ | refine jK ?_ | refine jL ?_ | refine jM ?_ | refine jN ?_ | refine jO ?_ | refine jP ?_ | refine jQ ?_ | refine jR ?_ | refine jS (k := ?_) | refine jT (k := ?_)))); (conv => whnf)
      refine r_ldnb (vs := En.cells ⟨(gp P i : Nat), (gm v.M m).d, (gm v.M m).o⟩) hbe rfl rfl ?_
      (repeat ((conv => whnf); (first | (with_reducible first | refine jA ?_ | refine jB ?_ | refine jC ?_ | refine jD ?_) | refine jE ?_ | refine jF ?_ | refine jG ?_ | refine jH ?_ | refine jI ?_ | refine jJ ?_ | refine jK ?_ | refine jL ?_ | refine jM ?_ | refine jN ?_ | refine jO ?_ | refine jP ?_ | refine jQ ?_ | refine jR ?_ | refine jS (k := ?_) | refine jT (k := ?_)))); (conv => whnf)
      refine r_new fun e2 w12 hx12 hb12 hs12 hbe12 => ?_
      (repeat ((conv => whnf); (first | (with_reducible first | refine jA ?_ | refine jB ?_ | refine jC ?_ | refine jD ?_) | refine jE ?_ | refine jF ?_ | refine jG ?_ | refine jH ?_ | refine jI ?_ | refine jJ ?_ | refine jK ?_ | refine jL ?_ | refine jM ?_ | refine jN ?_ | refine jO ?_ | refine jP ?_ | refine jQ ?_ | refine jR ?_ | refine jS (k := ?_) | refine jT (k := ?_)))); (conv => whnf)
      refine r_stn (o := 0) hbe12 (by simp [En.cells]) (QU.cells_one _) fun w13 hc13 hs13 hbe13 => ?_
      have hbe13 : Blk w13 e2 28 (En.cells ⟨(gp P i : Nat), (gm v.M m).d, (gm v.M m).o⟩) := hbe13
      have hx1113 : Ext w11 w13 := Chg.step hx12 hc13 fun b hb hlt => by omega
      have h13 := h11.ext hx1113
      have hA13 := hA11.ext hx1113
      have hblk := h13.blk
      unfold kcs at hblk
      have he2 : ¬ PS k.ab mb g' e2 := fun q => by
        have := QU.Pile.lt hA11.pile q
        omega
      (repeat ((conv => whnf); (first | (with_reducible first | refine jA ?_ | refine jB ?_ | refine jC ?_ | refine jD ?_) | refine jE ?_ | refine jF ?_ | refine jG ?_ | refine jH ?_ | refine jI ?_ | refine jJ ?_ | refine jK ?_ | refine jL ?_ | refine jM ?_ | refine jN ?_ | refine jO ?_ | refine jP ?_ | refine jQ ?_ | refine jR ?_ | refine jS (k := ?_) | refine jT (k := ?_)))); (conv => whnf)
      refine r_cal (Take_ok hA13) ?_
      rintro _ w14 ⟨rfl, l14, hA14, hm14, hc14⟩
      have htk := take_tk hA13 hC' hl11 hm14
      have hbe14 := hbe13.keep hc14 he2
      have h14 := h13.chg hA13 hc14
      have hx14 : Ext w w14 := CS.ext (hx11.trans hx1113) (Chg.mono hc14 fun b _ hb => .inr (.inr (.inr hb))) hS11
      (repeat ((conv => whnf); (first | (with_reducible first | refine jA ?_ | refine jB ?_ | refine jC ?_ | refine jD ?_) | refine jE ?_ | refine jF ?_ | refine jG ?_ | refine jH ?_ | refine jI ?_ | refine jJ ?_ | refine jK ?_ | refine jL ?_ | refine jM ?_ | refine jN ?_ | refine jO ?_ | refine jP ?_ | refine jQ ?_ | refine jR ?_ | refine jS (k := ?_) | refine jT (k := ?_)))); (conv => whnf)
      refine r_stn (o := 0) hbe14 (by simp [En.cells]) (QU.cells_one _) fun w15 hc15 hs15 hbe15 => ?_
      have hbe15 : Blk w15 e2 28 (QU.gt l' 0).cells := hbe15
      have z11 := hx11.size
      have hx15 : Ext w w15 := Chg.step hx14 hc15 fun b hb hlt => by omega
      have hA15 := hA14.keep hc15 fun x hx hxe => by
        subst hxe
        exact he2 hx
      have h15 : Cn w15 k len R' L' Rt' := ⟨h14.blk.keep hc15 (_root_.Fb.Blk.ne h14.blk hbe14 (by decide)), h14.r.keep hc15 (_root_.Fb.Blk.ne h14.r.1.choose_spec hbe14 (by decide)), h14.l.keep hc15 (_root_.Fb.Blk.ne h14.l.1.choose_spec hbe14 (by decide)), h14.t.keep hc15 (_root_.Fb.Blk.ne h14.t.1.choose_spec hbe14 (by decide)), h14.rl, h14.rt, h14.lt⟩
      (repeat ((conv => whnf); (first | (with_reducible first | refine jA ?_ | refine jB ?_ | refine jC ?_ | refine jD ?_) | refine jE ?_ | refine jF ?_ | refine jG ?_ | refine jH ?_ | refine jI ?_ | refine jJ ?_ | refine jK ?_ | refine jL ?_ | refine jM ?_ | refine jN ?_ | refine jO ?_ | refine jP ?_ | refine jQ ?_ | refine jR ?_ | refine jS (k := ?_) | refine jT (k := ?_)))); (conv => whnf)
      exact hagain ⟨e2, decide (0 < l'.length), QU.gt l' 0, repl V i (gm v.M m).o⟩ w15 ⟨hx15, hbe15, _, _, _, _, g', c', l14, h15, hC', hA15, hS11, fun q => he2 (.inr (.inr q)), by dsimp only; rw [← hrun, run_step hst], hV11, htk⟩ (by dsimp only; omega)
    | false =>
    have hdone := run_done (htk.no rfl)
    rw [hrun] at hdone
    clear hagain hA10 hbe htk
    (repeat ((conv => whnf); (first | (with_reducible first | refine jA ?_ | refine jB ?_ | refine jC ?_ | refine jD ?_) | refine jE ?_ | refine jF ?_ | refine jG ?_ | refine jH ?_ | refine jI ?_ | refine jJ ?_ | refine jK ?_ | refine jL ?_ | refine jM ?_ | refine jN ?_ | refine jO ?_ | refine jP ?_ | refine jQ ?_ | refine jR ?_ | refine jS (k := ?_) | refine jT (k := ?_)))); (conv => whnf)
    have hpv := hC.pv
    have hpp := hC.pos
    have h00 : (if 0 < P.length then ((gp P 0 : Nat) : Int) else -1) = 0 := by rw [if_pos hpp, hC.p0]; rfl
    refine r_loop (σ := (Option Addr × Nat × Nat) × Nat) (fun t => [.slice t.1.1 t.1.2.1 t.1.2.2, .int .i64 (if t.2 < P.length then ((gp P t.2 : Nat) : Int) else -1)]) (fun t w' => t.2 ≤ P.length ∧ Ext w10 w' ∧ w'.ownsRow w10.heap.size 3 1 (.slice t.1.1 t.1.2.1 t.1.2.2) t.2 (ri (V.take t.2))) (fun t _ => P.length - t.2) ((none, 0, 0), 0) (by dsimp only; rw [h00]) ⟨Nat.zero_le _, Ext.refl _, ⟨rfl, .inl ⟨rfl, rfl⟩⟩⟩ ?_
    rintro ⟨⟨a1, l1, c1⟩, j⟩ w11 again ⟨hj, hx11, hown⟩ hagain
    dsimp only at hj hown hagain ⊢
    have h11 := h10.ext hx11
    have hblk := hblk.ext hx11
    by_cases hjl : j < P.length
    · have hpj := hC.lt j hjl
      have hnx : gi Rt (gp P j) = if j + 1 < P.length then ((gp P (j + 1) : Nat) : Int) else -1 := by
        by_cases hq : j + 1 < P.length
        · rw [if_pos hq]
          exact hC.rt j hq
        · rw [if_neg hq]
          exact hC.rl j (by omega)
      rw [if_pos hjl]
      (repeat ((conv => whnf); (first | refine r_need rfl ?_ | refine r_rw h11.r hpj (hC.rv j hjl) ?_ | (with_reducible first | refine jA ?_ | refine jB ?_ | refine jC ?_ | refine jD ?_) | refine jE ?_ | refine jF ?_ | refine jG ?_ | refine jH ?_ | refine jI ?_ | refine jJ ?_ | refine jK ?_ | refine jL ?_ | refine jM ?_ | refine jN ?_ | refine jO ?_ | refine jP ?_ | refine jQ ?_ | refine jR ?_ | refine jS (k := ?_) | refine jT (k := ?_)))); (conv => whnf)
      refine r_new fun b12 w12 hx12 hb12 hs12 hblk12 => ?_
      (repeat ((conv => whnf); (first | (with_reducible first | refine jA ?_ | refine jB ?_ | refine jC ?_ | refine jD ?_) | refine jE ?_ | refine jF ?_ | refine jG ?_ | refine jH ?_ | refine jI ?_ | refine jJ ?_ | refine jK ?_ | refine jL ?_ | refine jM ?_ | refine jN ?_ | refine jO ?_ | refine jP ?_ | refine jQ ?_ | refine jR ?_ | refine jS (k := ?_) | refine jT (k := ?_)))); (conv => whnf)
      have hPn : P.length ≤ len := by
        have q := hC.lt (P.length - 1) (by omega)
        have q2 : ∀ t, t < P.length → t ≤ gp P t := by
          intro t
          induction t with
          | zero => intro _; omega
          | succ t ih =>
            intro ht
            have := ih (by omega)
            have := hC.asc t ht
            omega
        have := q2 (P.length - 1) (by omega)
        omega
      refine r_app eli (own_ext hown hx12) (View.of_blk (n := 1) hblk12 rfl (by simp [maxLen])) (by simp [Value.oneCell']) (by omega) (by have := hx11.size; have := hx12.size; omega) fun v13 w13 hown13 hc13 _ => ?_
      have hx13 : Ext w10 w13 := Chg.own (hx11.trans hx12) hc13 (own_ext hown hx12)
      have h13 := h10.ext hx13
      have hblk := h13.blk
      unfold kcs at hblk
      rw [← ri_take_succ (by omega)] at hown13
      obtain ⟨a2, c2, rfl, -, -, -⟩ := View.of_own hown13
      (repeat ((conv => whnf); (first | refine r_need rfl ?_ | refine r_rw h13.t hpj hnx ?_ | (with_reducible first | refine jA ?_ | refine jB ?_ | refine jC ?_ | refine jD ?_) | refine jE ?_ | refine jF ?_ | refine jG ?_ | refine jH ?_ | refine jI ?_ | refine jJ ?_ | refine jK ?_ | refine jL ?_ | refine jM ?_ | refine jN ?_ | refine jO ?_ | refine jP ?_ | refine jQ ?_ | refine jR ?_ | refine jS (k := ?_) | refine jT (k := ?_)))); (conv => whnf)
      exact hagain ((a2, j + 1, c2), j + 1) w13 ⟨by dsimp only; omega, hx13, hown13⟩ (by dsimp only; omega)
    · rw [if_neg hjl]
      have hje : j = P.length := by omega
      rw [List.take_of_length_le (by omega)] at hown
      obtain ⟨a2, c2, he, hv2, -, -⟩ := View.of_own hown
      cases he
      rw [hdone]
      (repeat ((conv => whnf); (first | (with_reducible first | refine jA ?_ | refine jB ?_ | refine jC ?_ | refine jD ?_) | refine jE ?_ | refine jF ?_ | refine jG ?_ | refine jH ?_ | refine jI ?_ | refine jJ ?_ | refine jK ?_ | refine jL ?_ | refine jM ?_ | refine jN ?_ | refine jO ?_ | refine jP ?_ | refine jQ ?_ | refine jR ?_ | refine jS (k := ?_) | refine jT (k := ?_)))); (conv => whnf)
      exact ⟨hx10.trans hx11, _, _, _, rfl, hv2⟩
  have hg := bv_cell (s := s) (i := i) (by omega)
  have h8 := (s[i]).toNat_lt
  (repeat ((conv => whnf); (first | refine r_ldv (hv.ext hx4) hg ?_ | (with_reducible first | refine jA ?_ | refine jB ?_ | refine jC ?_ | refine jD ?_) | refine jE ?_ | refine jF ?_ | refine jG ?_ | refine jH ?_ | refine jI ?_ | refine jJ ?_ | refine jK ?_ | refine jL ?_ | refine jM ?_ | refine jN ?_ | refine jO ?_ | refine jP ?_ | refine jQ ?_ | refine jR ?_ | refine jS (k := ?_) | refine jT (k := ?_)))); (conv => whnf)
  refine r_drawS (fun b => vr.ownBlock = some b) fun w5 hx5 hh5 => ?_
  have nk := own_ne hvr hkb (by decide)
  have nc := own_ne hvr hcb4 (by decide)
  (repeat ((conv => whnf); (first | refine r_ldbS hkb (by rfl) nk ?_ | refine r_ldbS hcb4 (cod_cell _ _ _ _) nc ?_ | (with_reducible first | refine jA ?_ | refine jB ?_ | refine jC ?_ | refine jD ?_) | refine jE ?_ | refine jF ?_ | refine jG ?_ | refine jH ?_ | refine jI ?_ | refine jJ ?_ | refine jK ?_ | refine jL ?_ | refine jM ?_ | refine jN ?_ | refine jO ?_ | refine jP ?_ | refine jQ ?_ | refine jR ?_ | refine jS (k := ?_) | refine jT (k := ?_)))); (conv => whnf)
  refine r_new fun b6 w6 hx6 hb6 hs6 hblk6 => ?_
  have hx46 := hx5.trans hx6
  refine r_held (hx46.wide _) ?_
  (repeat ((conv => whnf); (first | (with_reducible first | refine jA ?_ | refine jB ?_ | refine jC ?_ | refine jD ?_) | refine jE ?_ | refine jF ?_ | refine jG ?_ | refine jH ?_ | refine jI ?_ | refine jJ ?_ | refine jK ?_ | refine jL ?_ | refine jM ?_ | refine jN ?_ | refine jO ?_ | refine jP ?_ | refine jQ ?_ | refine jR ?_ | refine jS (k := ?_) | refine jT (k := ?_)))); (conv => whnf)
  refine r_appAt eli (own_ext hvr hx46) (View.of_blk (n := 1) hblk6 rfl (by simp [maxLen])) (by simp [Value.oneCell']) (by omega) (by have := hx46.size; omega) fun vr' w7 hown7 hc7 _ ho7 => ?_
  refine r_held (Chg.step (hx46.wide _) hc7 fun _ hb _ => hb) ?_
  (repeat ((conv => whnf); (first | (with_reducible first | refine jA ?_ | refine jB ?_ | refine jC ?_ | refine jD ?_) | refine jE ?_ | refine jF ?_ | refine jG ?_ | refine jH ?_ | refine jI ?_ | refine jJ ?_ | refine jK ?_ | refine jL ?_ | refine jM ?_ | refine jN ?_ | refine jO ?_ | refine jP ?_ | refine jQ ?_ | refine jR ?_ | refine jS (k := ?_) | refine jT (k := ?_)))); (conv => whnf)
  have hc47 : Chg (fun b => vr.ownBlock = some b) w4 w7 := Chg.step (hx46.wide _) hc7 fun _ hb _ => hb
  have hkb7 := hkb.keep hc47 nk
  have e1 : ri ((own1 v.T s).take (i + 1)) = ri ((own1 v.T s).take i) ++ [.int .i64 (ofT v.T [s[i]])] := by
    rw [ri_take_succ (by omega)]
    unfold gi own1
    rw [List.getElem?_map, List.getElem?_eq_getElem (by omega)]
    rfl
  rw [← e1] at hown7
  have hvl7 := own_keep hvl hc47 fun b hb hs => d1 b hs hb
  have hvt7 := own_keep hvt hc47 fun b hb hs => d2 b hs hb
  have d17 : Dj vr' vl := d1.grow (own_ext hvl hx46) ho7
  have d27 : Dj vr' vt := d2.grow (own_ext hvt hx46) ho7
  have hA7 := hA4.keep hc47 (ag_own hA4 hvr)
  have hx07 : Ext w w7 := Chg.own hx4 hc47 hvr
  refine r_st hkb7 (by simp) (oneCell_own hown7) fun w8 hc8 hs8 hkb8 => ?_
  have hkb8 : Blk w8 kb 108 [vr', vl, vt, .func (.func 53) ⟨[.pointer (some ⟨tb, 0, none⟩)]⟩ ⟨[]⟩, .pointer (some ⟨ab, 0, none⟩)] := hkb8
  have hvr8 := own_kb hown7 hkb7 hc8
  have hvl8 := own_kb hvl7 hkb7 hc8
  have hvt8 := own_kb hvt7 hkb7 hc8
  have hA8 := hA7.keep hc8 (ag_kb hA7 hkb7)
  have hx08 : Ext w w8 := Chg.step hx07 hc8 fun b hb hlt => by omega
  clear hvr hvl hvt hA4 hA7 d1 d2
  (repeat ((conv => whnf); (first | (with_reducible first | refine jA ?_ | refine jB ?_ | refine jC ?_ | refine jD ?_) | refine jE ?_ | refine jF ?_ | refine jG ?_ | refine jH ?_ | refine jI ?_ | refine jJ ?_ | refine jK ?_ | refine jL ?_ | refine jM ?_ | refine jN ?_ | refine jO ?_ | refine jP ?_ | refine jQ ?_ | refine jR ?_ | refine jS (k := ?_) | refine jT (k := ?_)))); (conv => whnf)
  refine r_new fun b9 w9 hx9 hb9 hs9 hblk9 => ?_
  have hkb9 := hkb8.ext hx9
  (repeat ((conv => whnf); (first | (with_reducible first | refine jA ?_ | refine jB ?_ | refine jC ?_ | refine jD ?_) | refine jE ?_ | refine jF ?_ | refine jG ?_ | refine jH ?_ | refine jI ?_ | refine jJ ?_ | refine jK ?_ | refine jL ?_ | refine jM ?_ | refine jN ?_ | refine jO ?_ | refine jP ?_ | refine jQ ?_ | refine jR ?_ | refine jS (k := ?_) | refine jT (k := ?_)))); (conv => whnf)
  refine r_appAt eli (own_ext hvl8 hx9) (View.of_blk (n := 1) hblk9 rfl (by simp [maxLen])) (by simp [Value.oneCell']) (by omega) (by have := hx08.size; omega) fun vl' w10 hown10 hc10 _ ho10 => ?_
  have nk10 := own_ne hvl8 hkb8 (by decide)
  have hc810 : Chg (fun b => vl.ownBlock = some b) w8 w10 := Chg.step (hx9.wide _) hc10 fun _ hb _ => hb
  have hkb10 := hkb8.keep hc810 nk10
  have e2 : ri ((rowL len).take (i + 1)) = ri ((rowL len).take i) ++ [.int .i64 ((i : Int) - 1)] := by
    rw [ri_take_succ (by simp [rowL]; omega)]
    unfold rowL
    rw [gi_range _ hil]
  rw [← e2] at hown10
  have hvr10 := own_keep hvr8 hc810 fun b hb hs => d17 b hb hs
  have hvt10 := own_keep hvt8 hc810 fun b hb hs => d3 b hs hb
  have d110 : Dj vr' vl' := (d17.symm.grow (own_ext hvr8 hx9) ho10).symm
  have d310 : Dj vl' vt := d3.grow (own_ext hvt8 hx9) ho10
  have hA10 := hA8.keep hc810 (ag_own hA8 hvl8)
  have hx010 : Ext w w10 := Chg.own hx08 hc810 hvl8
  (repeat ((conv => whnf); (first | (with_reducible first | refine jA ?_ | refine jB ?_ | refine jC ?_ | refine jD ?_) | refine jE ?_ | refine jF ?_ | refine jG ?_ | refine jH ?_ | refine jI ?_ | refine jJ ?_ | refine jK ?_ | refine jL ?_ | refine jM ?_ | refine jN ?_ | refine jO ?_ | refine jP ?_ | refine jQ ?_ | refine jR ?_ | refine jS (k := ?_) | refine jT (k := ?_)))); (conv => whnf)
  refine r_st hkb10 (by simp) (oneCell_own hown10) fun w11 hc11 hs11 hkb11 => ?_
  have hkb11 : Blk w11 kb 108 [vr', vl', vt, .func (.func 53) ⟨[.pointer (some ⟨tb, 0, none⟩)]⟩ ⟨[]⟩, .pointer (some ⟨ab, 0, none⟩)] := hkb11
  have hvr11 := own_kb hvr10 hkb10 hc11
  have hvl11 := own_kb hown10 hkb10 hc11
  have hvt11 := own_kb hvt10 hkb10 hc11
  have hA11 := hA10.keep hc11 (ag_kb hA10 hkb10)
  have hx011 : Ext w w11 := Chg.step hx010 hc11 fun b hb hlt => by omega
  clear hvr8 hvl8 hvt8 hA8 hA10 hvr10 hvt10
  (repeat ((conv => whnf); (first | (with_reducible first | refine jA ?_ | refine jB ?_ | refine jC ?_ | refine jD ?_) | refine jE ?_ | refine jF ?_ | refine jG ?_ | refine jH ?_ | refine jI ?_ | refine jJ ?_ | refine jK ?_ | refine jL ?_ | refine jM ?_ | refine jN ?_ | refine jO ?_ | refine jP ?_ | refine jQ ?_ | refine jR ?_ | refine jS (k := ?_) | refine jT (k := ?_)))); (conv => whnf)
  refine r_new fun b12 w12 hx12 hb12 hs12 hblk12 => ?_
  have hkb12 := hkb11.ext hx12
  (repeat ((conv => whnf); (first | (with_reducible first | refine jA ?_ | refine jB ?_ | refine jC ?_ | refine jD ?_) | refine jE ?_ | refine jF ?_ | refine jG ?_ | refine jH ?_ | refine jI ?_ | refine jJ ?_ | refine jK ?_ | refine jL ?_ | refine jM ?_ | refine jN ?_ | refine jO ?_ | refine jP ?_ | refine jQ ?_ | refine jR ?_ | refine jS (k := ?_) | refine jT (k := ?_)))); (conv => whnf)
  refine r_appAt eli (own_ext hvt11 hx12) (View.of_blk (n := 1) hblk12 rfl (by simp [maxLen])) (by simp [Value.oneCell']) (by omega) (by have := hx011.size; omega) fun vt' w13 hown13 hc13 _ ho13 => ?_
  have nk13 := own_ne hvt11 hkb11 (by decide)
  have hc1113 : Chg (fun b => vt.ownBlock = some b) w11 w13 := Chg.step (hx12.wide _) hc13 fun _ hb _ => hb
  have hkb13 := hkb11.keep hc1113 nk13
  have e3 : ri ((rowR len).take (i + 1)) = ri ((rowR len).take i) ++ [.int .i64 ((i : Int) + 1)] := by
    rw [ri_take_succ (by simp [rowR]; omega)]
    unfold rowR
    rw [gi_range _ hil]
  rw [← e3] at hown13
  have hvr13 := own_keep hvr11 hc1113 fun b hb hs => d27 b hb hs
  have hvl13 := own_keep hvl11 hc1113 fun b hb hs => d310 b hb hs
  have d213 : Dj vr' vt' := (d27.symm.grow (own_ext hvr11 hx12) ho13).symm
  have d313 : Dj vl' vt' := (d310.symm.grow (own_ext hvl11 hx12) ho13).symm
  have hA13 := hA11.keep hc1113 (ag_own hA11 hvt11)
  have hx013 : Ext w w13 := Chg.own hx011 hc1113 hvt11
  (repeat ((conv => whnf); (first | (with_reducible first | refine jA ?_ | refine jB ?_ | refine jC ?_ | refine jD ?_) | refine jE ?_ | refine jF ?_ | refine jG ?_ | refine jH ?_ | refine jI ?_ | refine jJ ?_ | refine jK ?_ | refine jL ?_ | refine jM ?_ | refine jN ?_ | refine jO ?_ | refine jP ?_ | refine jQ ?_ | refine jR ?_ | refine jS (k := ?_) | refine jT (k := ?_)))); (conv => whnf)
  refine r_st hkb13 (by simp) (oneCell_own hown13) fun w14 hc14 hs14 hkb14 => ?_
  have hkb14 : Blk w14 kb 108 [vr', vl', vt', .func (.func 53) ⟨[.pointer (some ⟨tb, 0, none⟩)]⟩ ⟨[]⟩, .pointer (some ⟨ab, 0, none⟩)] := hkb14
  have hx014 : Ext w w14 := Chg.step hx013 hc14 fun b hb hlt => by omega
  (repeat ((conv => whnf); (first | (with_reducible first | refine jA ?_ | refine jB ?_ | refine jC ?_ | refine jD ?_) | refine jE ?_ | refine jF ?_ | refine jG ?_ | refine jH ?_ | refine jI ?_ | refine jJ ?_ | refine jK ?_ | refine jL ?_ | refine jM ?_ | refine jN ?_ | refine jO ?_ | refine jP ?_ | refine jQ ?_ | refine jR ?_ | refine jS (k := ?_) | refine jT (k := ?_)))); (conv => whnf)
  exact hagain (i + 1) w14 ⟨by omega, hx014, hA13.keep hc14 (ag_kb hA13 hkb13), vr', vl', vt', hkb14, own_kb hvr13 hkb13 hc14, own_kb hvl13 hkb13 hc14, own_kb hown13 hkb13 hc14, d110, d213, d313⟩ (by omega)
end
end Fb.Try.VO
