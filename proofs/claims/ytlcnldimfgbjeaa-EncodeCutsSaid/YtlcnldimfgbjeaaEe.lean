/-
  Walks: the document's tokens; dead tokens.
-/
import Derived.Test.YtlcnldimfgbjeaaEd
import Derived.Test.YtlcnldimfgbjeaaVx
namespace Fb.Try.VO
open Go Go.Proofs Fb Fb.Bytes
theorem usl8 : Try.prog.underlying 64 = some (.slice 5) := by kernel_rfl
theorem uu8 : Try.prog.underlying 5 = some (.int .u8) := by kernel_rfl
def isDead (v : Voc) (i : Nat) : Prop := tk v.T i ≠ [] ∧ run v.M (own1 v.T (tk v.T i)) ≠ [(i : Int)]
instance (v : Voc) (i : Nat) : Decidable (isDead v i) := by unfold isDead; infer_instance
def deadL (v : Voc) : Nat → List Int
  | 0 => []
  | n + 1 => deadL v n ++ (if isDead v n then [(n : Int)] else [])
theorem deadL_len (v : Voc) : ∀ n, (deadL v n).length ≤ n
  | 0 => Nat.le_refl _
  | n + 1 => by
    have := deadL_len v n
    unfold deadL
    rw [List.length_append]
    split <;> simp <;> omega
theorem mem_dead (v : Voc) (z : Int) : ∀ n, z ∈ deadL v n ↔ ∃ i : Nat, i < n ∧ z = i ∧ isDead v i
  | 0 => by simp [deadL]
  | n + 1 => by
    unfold deadL
    rw [List.mem_append, mem_dead v z n]
    constructor
    · rintro (⟨i, h1, h2, h3⟩ | h)
      · exact ⟨i, by omega, h2, h3⟩
      · split at h
        · rename_i hd
          exact ⟨n, by omega, by simpa using h, hd⟩
        · cases h
    · rintro ⟨i, h1, h2, h3⟩
      by_cases hi : i = n
      · subst hi
        rw [if_pos h3]
        exact .inr (by simp [h2])
      · exact .inl ⟨i, by omega, h2, h3⟩
section
variable {w w' : World} {v : Voc} {x : VA} {a : Option Addr} {len cap cb : Nat} {s : List UInt8}
theorem row_one {L : List Int} (h : L.length = 1) : L = [gi L 0] := by
  cases L with
  | nil => cases h
  | cons a L =>
    cases L with
    | nil => rfl
    | cons b L => simp at h
theorem EqualI_ok {a' : Option Addr} {len' cap' : Nat} {L K : List Int} (ha : View w a len cap 1 (ri L)) (hb : View w a' len' cap' 1 (ri K)) :
    Cal Try.prog 60 ⟨[.slice a len cap, .slice a' len' cap']⟩ w fun v w' => Ext w w' ∧ v = .bool (decide (L = K)) := by
  have hal := ri_lens ha
  have hbl := ri_lens hb
  have m1 := ha.le
  have m2 := ha.max
  have m3 := hb.le
  have m4 := hb.max
  unfold maxLen at m2 m4
  refine go60 (by rfl) ?_
  by_cases hll : len = len'
  rotate_left
  · have : ¬ L = K := fun e => hll (by rw [← hal, ← hbl, e])
    rw [decide_eq_false this]
    (repeat ((conv => whnf); (first | (with_reducible first | refine jA ?_ | refine jB ?_ | refine jC ?_ | refine jD ?_) | refine jE ?_ | refine jF ?_ | refine jG ?_ | refine jH ?_ | refine jI ?_ | refine jJ ?_ | refine jK ?_ | refine jL ?_ | refine jM ?_ | refine jN ?_ | refine jO ?_ | refine jP ?_ | refine jQ ?_ | refine jR ?_ | refine jS (k := ?_) | refine jT (k := ?_)))); (conv => whnf)
    exact ⟨Ext.refl _, rfl⟩
  subst hll
  (repeat ((conv => whnf); (first | (with_reducible first | refine jA ?_ | refine jB ?_ | refine jC ?_ | refine jD ?_) | refine jE ?_ | refine jF ?_ | refine jG ?_ | refine jH ?_ | refine jI ?_ | refine jJ ?_ | refine jK ?_ | refine jL ?_ | refine jM ?_ | refine jN ?_ | refine jO ?_ | refine jP ?_ | refine jQ ?_ | refine jR ?_ | refine jS (k := ?_) | refine jT (k := ?_)))); (conv => whnf)
  refine r_loop (σ := Nat) (fun i => [.int .i64 (i : Int)]) (fun i w' => i ≤ len ∧ Ext w w' ∧ ∀ k, k < i → gi L k = gi K k) (fun i _ => len - i) 0 rfl ⟨by omega, Ext.refl w, fun k hk => by omega⟩ ?_
  rintro i w1 again ⟨hi, hx1, hall⟩ hagain
  by_cases hil : i < len
  · have ea := ri_get (row := L) (i := i) (by omega)
    have eb := ri_get (row := K) (i := i) (by omega)
    have hpa := ha.plain (by rw [ri_len]; omega)
    have hpb := hb.plain (by rw [ri_len]; omega)
    by_cases he : gi L i = gi K i
    · (repeat ((conv => whnf); (first | (with_reducible first | refine jA ?_ | refine jB ?_ | refine jC ?_ | refine jD ?_) | refine jE ?_ | refine jF ?_ | refine jG ?_ | refine jH ?_ | refine jI ?_ | refine jJ ?_ | refine jK ?_ | refine jL ?_ | refine jM ?_ | refine jN ?_ | refine jO ?_ | refine jP ?_ | refine jQ ?_ | refine jR ?_ | refine jS (k := ?_) | refine jT (k := ?_)))); (conv => whnf)
      refine r_drawE fun w2 hx2 _ => ?_
      (repeat ((conv => whnf); (first | (with_reducible first | refine jA ?_ | refine jB ?_ | refine jC ?_ | refine jD ?_) | refine jE ?_ | refine jF ?_ | refine jG ?_ | refine jH ?_ | refine jI ?_ | refine jJ ?_ | refine jK ?_ | refine jL ?_ | refine jM ?_ | refine jN ?_ | refine jO ?_ | refine jP ?_ | refine jQ ?_ | refine jR ?_ | refine jS (k := ?_) | refine jT (k := ?_)))); (conv => whnf)
      refine r_ldvE (j := (i : Int).toNat * 1) (ha.ext hx1) (by simpa using ea) ?_
      (repeat ((conv => whnf); (first | (with_reducible first | refine jA ?_ | refine jB ?_ | refine jC ?_ | refine jD ?_) | refine jE ?_ | refine jF ?_ | refine jG ?_ | refine jH ?_ | refine jI ?_ | refine jJ ?_ | refine jK ?_ | refine jL ?_ | refine jM ?_ | refine jN ?_ | refine jO ?_ | refine jP ?_ | refine jQ ?_ | refine jR ?_ | refine jS (k := ?_) | refine jT (k := ?_)))); (conv => whnf)
      refine r_ldvE (j := (i : Int).toNat * 1) (hb.ext hx1) (by simpa using eb) ?_
      (repeat ((conv => whnf); (first | (with_reducible first | refine jA ?_ | refine jB ?_ | refine jC ?_ | refine jD ?_) | refine jE ?_ | refine jF ?_ | refine jG ?_ | refine jH ?_ | refine jI ?_ | refine jJ ?_ | refine jK ?_ | refine jL ?_ | refine jM ?_ | refine jN ?_ | refine jO ?_ | refine jP ?_ | refine jQ ?_ | refine jR ?_ | refine jS (k := ?_) | refine jT (k := ?_)))); (conv => whnf)
      exact hagain (i + 1) w2 ⟨by omega, hx1.trans hx2, fun k hk => by
        by_cases hki : k = i
        · subst hki; exact he
        · exact hall k (by omega)⟩ (by omega)
    · have : ¬ L = K := fun e => he (by rw [e])
      rw [decide_eq_false this]
      (repeat ((conv => whnf); (first | (with_reducible first | refine jA ?_ | refine jB ?_ | refine jC ?_ | refine jD ?_) | refine jE ?_ | refine jF ?_ | refine jG ?_ | refine jH ?_ | refine jI ?_ | refine jJ ?_ | refine jK ?_ | refine jL ?_ | refine jM ?_ | refine jN ?_ | refine jO ?_ | refine jP ?_ | refine jQ ?_ | refine jR ?_ | refine jS (k := ?_) | refine jT (k := ?_)))); (conv => whnf)
      refine r_drawE fun w2 hx2 _ => ?_
      (repeat ((conv => whnf); (first | (with_reducible first | refine jA ?_ | refine jB ?_ | refine jC ?_ | refine jD ?_) | refine jE ?_ | refine jF ?_ | refine jG ?_ | refine jH ?_ | refine jI ?_ | refine jJ ?_ | refine jK ?_ | refine jL ?_ | refine jM ?_ | refine jN ?_ | refine jO ?_ | refine jP ?_ | refine jQ ?_ | refine jR ?_ | refine jS (k := ?_) | refine jT (k := ?_)))); (conv => whnf)
      refine r_ldvE (j := (i : Int).toNat * 1) (ha.ext hx1) (by simpa using ea) ?_
      (repeat ((conv => whnf); (first | (with_reducible first | refine jA ?_ | refine jB ?_ | refine jC ?_ | refine jD ?_) | refine jE ?_ | refine jF ?_ | refine jG ?_ | refine jH ?_ | refine jI ?_ | refine jJ ?_ | refine jK ?_ | refine jL ?_ | refine jM ?_ | refine jN ?_ | refine jO ?_ | refine jP ?_ | refine jQ ?_ | refine jR ?_ | refine jS (k := ?_) | refine jT (k := ?_)))); (conv => whnf)
      refine r_ldvE (j := (i : Int).toNat * 1) (hb.ext hx1) (by simpa using eb) ?_
      (repeat ((conv => whnf); (first | (with_reducible first | refine jA ?_ | refine jB ?_ | refine jC ?_ | refine jD ?_) | refine jE ?_ | refine jF ?_ | refine jG ?_ | refine jH ?_ | refine jI ?_ | refine jJ ?_ | refine jK ?_ | refine jL ?_ | refine jM ?_ | refine jN ?_ | refine jO ?_ | refine jP ?_ | refine jQ ?_ | refine jR ?_ | refine jS (k := ?_) | refine jT (k := ?_)))); (conv => whnf)
      exact ⟨hx1.trans hx2, rfl⟩
  · have : L = K := by
      apply List.ext_getElem?
      intro k
      by_cases hk : k < len
      · rw [gi_get (by omega), gi_get (by omega), hall k (by omega)]
      · rw [List.getElem?_eq_none (by omega), List.getElem?_eq_none (by omega)]
    rw [decide_eq_true this]
    (repeat ((conv => whnf); (first | (with_reducible first | refine jA ?_ | refine jB ?_ | refine jC ?_ | refine jD ?_) | refine jE ?_ | refine jF ?_ | refine jG ?_ | refine jH ?_ | refine jI ?_ | refine jJ ?_ | refine jK ?_ | refine jL ?_ | refine jM ?_ | refine jN ?_ | refine jO ?_ | refine jP ?_ | refine jQ ?_ | refine jR ?_ | refine jS (k := ?_) | refine jT (k := ?_)))); (conv => whnf)
    exact ⟨hx1, rfl⟩
set_option maxRecDepth 100000 in
theorem rEnc_ok (h : IsV w v x) (hs : Small v) (hl : s.length ≤ 900) : Cal Try.prog 34 ⟨[.agg ⟨vcs x⟩, .string (bstr s)]⟩ w fun u w' => Ext w w' ∧ ∃ a' len' cap', u = .slice a' len' cap' ∧ View w' a' len' cap' 1 (ri (run v.M (own1 v.T s))) := by
  have hsz := bstr_size s
  have hVl := own1_len v.T s
  refine go34 (by rfl) ?_
  (repeat ((conv => whnf); (first | (with_reducible first | refine jA ?_ | refine jB ?_ | refine jC ?_ | refine jD ?_) | refine jE ?_ | refine jF ?_ | refine jG ?_ | refine jH ?_ | refine jI ?_ | refine jJ ?_ | refine jK ?_ | refine jL ?_ | refine jM ?_ | refine jN ?_ | refine jO ?_ | refine jP ?_ | refine jQ ?_ | refine jR ?_ | refine jS (k := ?_) | refine jT (k := ?_)))); (conv => whnf)
  refine r_new fun p w1 hx1 hb1 hs1 hblk => ?_
  have hblk : Blk w1 p 46 [.slice x.aT x.lT x.cT, .slice x.aM x.lM x.cM, .slice x.aS x.lS x.cS] := hblk
  (repeat ((conv => whnf); (first | (with_reducible first | refine jA ?_ | refine jB ?_ | refine jC ?_ | refine jD ?_) | refine jE ?_ | refine jF ?_ | refine jG ?_ | refine jH ?_ | refine jI ?_ | refine jJ ?_ | refine jK ?_ | refine jL ?_ | refine jM ?_ | refine jN ?_ | refine jO ?_ | refine jP ?_ | refine jQ ?_ | refine jR ?_ | refine jS (k := ?_) | refine jT (k := ?_)))); (conv => whnf)
  refine r_new fun o w2 hx2 hb2 hs2 hblk2 => ?_
  have hx02 := hx1.trans hx2
  have hblk := hblk.ext hx2
  have z1 := hx1.size
  (repeat ((conv => whnf); (first | (with_reducible first | refine jA ?_ | refine jB ?_ | refine jC ?_ | refine jD ?_) | refine jE ?_ | refine jF ?_ | refine jG ?_ | refine jH ?_ | refine jI ?_ | refine jJ ?_ | refine jK ?_ | refine jL ?_ | refine jM ?_ | refine jN ?_ | refine jO ?_ | refine jP ?_ | refine jQ ?_ | refine jR ?_ | refine jS (k := ?_) | refine jT (k := ?_)))); (conv => whnf)
  refine r_loop (σ := (Option Addr × Nat × Nat) × Nat) (fun t => [.slice t.1.1 t.1.2.1 t.1.2.2, .int .i64 (t.2 : Int)]) (fun t w' => t.2 ≤ s.length ∧ Ext w w' ∧ Blk w' p 46 [.slice x.aT x.lT x.cT, .slice x.aM x.lM x.cM, .slice x.aS x.lS x.cS] ∧ w'.ownsRow w.heap.size 3 1 (.slice t.1.1 t.1.2.1 t.1.2.2) t.2 (ri ((own1 v.T s).take t.2))) (fun t _ => s.length - t.2) ((some ⟨o, 0, none⟩, 0, 0), 0) rfl ⟨by omega, hx02, hblk, empty_own hblk2 (by omega)⟩ ?_
  clear hblk hx02 hblk2
  rintro ⟨⟨a3, l3, c3⟩, i⟩ w3 again ⟨hi, hx3, hblk, hown⟩ hagain
  dsimp only at hi hown hagain ⊢
  by_cases hil : i < s.length
  · (repeat ((conv => whnf); (first | (with_reducible first | refine jA ?_ | refine jB ?_ | refine jC ?_ | refine jD ?_) | refine jE ?_ | refine jF ?_ | refine jG ?_ | refine jH ?_ | refine jI ?_ | refine jJ ?_ | refine jK ?_ | refine jL ?_ | refine jM ?_ | refine jN ?_ | refine jO ?_ | refine jP ?_ | refine jQ ?_ | refine jR ?_ | refine jS (k := ?_) | refine jT (k := ?_)))); (conv => whnf)
    have nk := own_ne hown hblk (by decide)
    refine r_drawS (fun b => (Value.slice a3 l3 c3).ownBlock = some b) fun w4 hx4 hh4 => ?_
    (repeat ((conv => whnf); (first | refine r_ldbS hblk (by rfl) nk ?_ | (with_reducible first | refine jA ?_ | refine jB ?_ | refine jC ?_ | refine jD ?_) | refine jE ?_ | refine jF ?_ | refine jG ?_ | refine jH ?_ | refine jI ?_ | refine jJ ?_ | refine jK ?_ | refine jL ?_ | refine jM ?_ | refine jN ?_ | refine jO ?_ | refine jP ?_ | refine jQ ?_ | refine jR ?_ | refine jS (k := ?_) | refine jT (k := ?_)))); (conv => whnf)
    rw [show ((i : Int) + 1).toNat = i + 1 by omega, Int.toNat_natCast, bstr_cut, show i + 1 - i = 1 by omega]
    have e0 : (s.drop i).take 1 = [s[i]] := by
      rw [List.drop_eq_getElem_cons hil]
      rfl
    rw [e0]
    refine r_cal (Of_ok (h.ext (hx3.trans hx4)).t [s[i]]) ?_
    rintro _ w5 ⟨rfl, rfl⟩
    (repeat ((conv => whnf); (first | (with_reducible first | refine jA ?_ | refine jB ?_ | refine jC ?_ | refine jD ?_) | refine jE ?_ | refine jF ?_ | refine jG ?_ | refine jH ?_ | refine jI ?_ | refine jJ ?_ | refine jK ?_ | refine jL ?_ | refine jM ?_ | refine jN ?_ | refine jO ?_ | refine jP ?_ | refine jQ ?_ | refine jR ?_ | refine jS (k := ?_) | refine jT (k := ?_)))); (conv => whnf)
    refine r_new fun b6 w6 hx6 hb6 hs6 hblk6 => ?_
    have hx46 := hx4.trans hx6
    refine r_held (hx46.wide _) ?_
    (repeat ((conv => whnf); (first | (with_reducible first | refine jA ?_ | refine jB ?_ | refine jC ?_ | refine jD ?_) | refine jE ?_ | refine jF ?_ | refine jG ?_ | refine jH ?_ | refine jI ?_ | refine jJ ?_ | refine jK ?_ | refine jL ?_ | refine jM ?_ | refine jN ?_ | refine jO ?_ | refine jP ?_ | refine jQ ?_ | refine jR ?_ | refine jS (k := ?_) | refine jT (k := ?_)))); (conv => whnf)
    refine r_app eli (own_ext hown hx46) (View.of_blk (n := 1) hblk6 rfl (by simp [maxLen])) (by simp [Value.oneCell']) (by omega) (by have := hx3.size; have := hx46.size; omega) fun v7 w7 hown7 hc7 _ => ?_
    have hc37 : Chg (fun b => (Value.slice a3 l3 c3).ownBlock = some b) w3 w7 := Chg.step (hx46.wide _) hc7 fun _ hb _ => hb
    refine r_held hc37 ?_
    have e1 : ri ((own1 v.T s).take (i + 1)) = ri ((own1 v.T s).take i) ++ [.int .i64 (ofT v.T [s[i]])] := by
      rw [ri_take_succ (by omega)]
      unfold gi own1
      rw [List.getElem?_map, List.getElem?_eq_getElem (by omega)]
      rfl
    rw [← e1] at hown7
    obtain ⟨a7, c7, rfl, -, -, -⟩ := View.of_own hown7
    (repeat ((conv => whnf); (first | (with_reducible first | refine jA ?_ | refine jB ?_ | refine jC ?_ | refine jD ?_) | refine jE ?_ | refine jF ?_ | refine jG ?_ | refine jH ?_ | refine jI ?_ | refine jJ ?_ | refine jK ?_ | refine jL ?_ | refine jM ?_ | refine jN ?_ | refine jO ?_ | refine jP ?_ | refine jQ ?_ | refine jR ?_ | refine jS (k := ?_) | refine jT (k := ?_)))); (conv => whnf)
    exact hagain ((a7, i + 1, c7), i + 1) w7 ⟨by dsimp only; omega, Chg.own hx3 hc37 hown, hblk.keep hc37 nk, hown7⟩ (by dsimp only; omega)
  · have hie : i = s.length := by omega
    rw [List.take_of_length_le (by omega)] at hown
    obtain ⟨a7, c7, he, hv7, -, -⟩ := View.of_own hown
    cases he
    (repeat ((conv => whnf); (first | (with_reducible first | refine jA ?_ | refine jB ?_ | refine jC ?_ | refine jD ?_) | refine jE ?_ | refine jF ?_ | refine jG ?_ | refine jH ?_ | refine jI ?_ | refine jJ ?_ | refine jK ?_ | refine jL ?_ | refine jM ?_ | refine jN ?_ | refine jO ?_ | refine jP ?_ | refine jQ ?_ | refine jR ?_ | refine jS (k := ?_) | refine jT (k := ?_)))); (conv => whnf)
    refine r_ldnb (vs := vcs x) hblk rfl rfl ?_
    (repeat ((conv => whnf); (first | (with_reducible first | refine jA ?_ | refine jB ?_ | refine jC ?_ | refine jD ?_) | refine jE ?_ | refine jF ?_ | refine jG ?_ | refine jH ?_ | refine jI ?_ | refine jJ ?_ | refine jK ?_ | refine jL ?_ | refine jM ?_ | refine jN ?_ | refine jO ?_ | refine jP ?_ | refine jQ ?_ | refine jR ?_ | refine jS (k := ?_) | refine jT (k := ?_)))); (conv => whnf)
    refine r_cal (rRun_ok (h.ext hx3) hs hv7 (by omega)) ?_
    rintro _ w8 ⟨hx8, a8, l8, c8, rfl, hv8⟩
    (repeat ((conv => whnf); (first | (with_reducible first | refine jA ?_ | refine jB ?_ | refine jC ?_ | refine jD ?_) | refine jE ?_ | refine jF ?_ | refine jG ?_ | refine jH ?_ | refine jI ?_ | refine jJ ?_ | refine jK ?_ | refine jL ?_ | refine jM ?_ | refine jN ?_ | refine jO ?_ | refine jP ?_ | refine jQ ?_ | refine jR ?_ | refine jS (k := ?_) | refine jT (k := ?_)))); (conv => whnf)
    exact ⟨hx3.trans hx8, _, _, _, rfl, hv8⟩
set_option maxHeartbeats 1000000 in
set_option maxRecDepth 100000 in
theorem rDead_ok (h : IsV w v x) (hs : Small v) : Cal Try.prog 38 ⟨[.agg ⟨vcs x⟩]⟩ w fun u w' => Ext w w' ∧ ∃ a' len' cap', u = .slice a' len' cap' ∧ View w' a' len' cap' 1 (ri (deadL v v.T.length)) := by
  obtain ⟨hlT, hlM, hlS⟩ := h.lens
  have hnt := hs.nt
  refine go38 (by rfl) ?_
  (repeat ((conv => whnf); (first | (with_reducible first | refine jA ?_ | refine jB ?_ | refine jC ?_ | refine jD ?_) | refine jE ?_ | refine jF ?_ | refine jG ?_ | refine jH ?_ | refine jI ?_ | refine jJ ?_ | refine jK ?_ | refine jL ?_ | refine jM ?_ | refine jN ?_ | refine jO ?_ | refine jP ?_ | refine jQ ?_ | refine jR ?_ | refine jS (k := ?_) | refine jT (k := ?_)))); (conv => whnf)
  refine r_new fun p w1 hx1 hb1 hs1 hblk => ?_
  have hblk : Blk w1 p 46 [.slice x.aT x.lT x.cT, .slice x.aM x.lM x.cM, .slice x.aS x.lS x.cS] := hblk
  (repeat ((conv => whnf); (first | (with_reducible first | refine jA ?_ | refine jB ?_ | refine jC ?_ | refine jD ?_) | refine jE ?_ | refine jF ?_ | refine jG ?_ | refine jH ?_ | refine jI ?_ | refine jJ ?_ | refine jK ?_ | refine jL ?_ | refine jM ?_ | refine jN ?_ | refine jO ?_ | refine jP ?_ | refine jQ ?_ | refine jR ?_ | refine jS (k := ?_) | refine jT (k := ?_)))); (conv => whnf)
  refine r_new fun o w2 hx2 hb2 hs2 hblk2 => ?_
  have hx02 := hx1.trans hx2
  have hblk := hblk.ext hx2
  have z1 := hx1.size
  (repeat ((conv => whnf); (first | (with_reducible first | refine jA ?_ | refine jB ?_ | refine jC ?_ | refine jD ?_) | refine jE ?_ | refine jF ?_ | refine jG ?_ | refine jH ?_ | refine jI ?_ | refine jJ ?_ | refine jK ?_ | refine jL ?_ | refine jM ?_ | refine jN ?_ | refine jO ?_ | refine jP ?_ | refine jQ ?_ | refine jR ?_ | refine jS (k := ?_) | refine jT (k := ?_)))); (conv => whnf)
  refine r_loop (σ := (Option Addr × Nat × Nat) × Nat) (fun t => [.slice t.1.1 t.1.2.1 t.1.2.2, .int .i64 (t.2 : Int)]) (fun t w' => t.2 ≤ v.T.length ∧ Ext w w' ∧ Blk w' p 46 [.slice x.aT x.lT x.cT, .slice x.aM x.lM x.cM, .slice x.aS x.lS x.cS] ∧ w'.ownsRow w.heap.size 3 1 (.slice t.1.1 t.1.2.1 t.1.2.2) (deadL v t.2).length (ri (deadL v t.2))) (fun t _ => v.T.length - t.2) ((some ⟨o, 0, none⟩, 0, 0), 0) rfl ⟨by omega, hx02, hblk, empty_own hblk2 (by omega)⟩ ?_
  clear hblk hx02 hblk2
  rintro ⟨⟨a3, l3, c3⟩, i⟩ w3 again ⟨hi, hx3, hblk, hown⟩ hagain
  dsimp only at hi hown hagain ⊢
  have hdl := deadL_len v i
  by_cases hil : i < v.T.length
  rotate_left
  · have hie : i = v.T.length := by omega
    rw [hie] at hown
    obtain ⟨a7, c7, he, hv7, -, -⟩ := View.of_own hown
    cases he
    (repeat ((conv => whnf); (first | (with_reducible first | refine jA ?_ | refine jB ?_ | refine jC ?_ | refine jD ?_) | refine jE ?_ | refine jF ?_ | refine jG ?_ | refine jH ?_ | refine jI ?_ | refine jJ ?_ | refine jK ?_ | refine jL ?_ | refine jM ?_ | refine jN ?_ | refine jO ?_ | refine jP ?_ | refine jQ ?_ | refine jR ?_ | refine jS (k := ?_) | refine jT (k := ?_)))); (conv => whnf)
    exact ⟨hx3, _, _, _, rfl, hv7⟩
  have hg : (tv v.T)[(i : Int).toNat * 1]? = some (.string (bstr (tk v.T i))) := by simpa using tv_get (i := i) hil
  have hpt := h.t.plain (by rw [tv_len]; omega)
  have hds : deadL v (i + 1) = deadL v i ++ (if isDead v i then [(i : Int)] else []) := rfl
  by_cases he0 : tk v.T i = []
  · have hnd : ¬ isDead v i := fun hd => hd.1 he0
    rw [if_neg hnd, List.append_nil] at hds
    (repeat ((conv => whnf); (first | refine r_ldv (h.ext hx3).t hg ?_ | refine r_s0t he0 ?_ | (with_reducible first | refine jA ?_ | refine jB ?_ | refine jC ?_ | refine jD ?_) | refine jE ?_ | refine jF ?_ | refine jG ?_ | refine jH ?_ | refine jI ?_ | refine jJ ?_ | refine jK ?_ | refine jL ?_ | refine jM ?_ | refine jN ?_ | refine jO ?_ | refine jP ?_ | refine jQ ?_ | refine jR ?_ | refine jS (k := ?_) | refine jT (k := ?_)))); (conv => whnf)
    refine hagain ((a3, l3, c3), i + 1) w3 ⟨by dsimp only; omega, hx3, hblk, ?_⟩ (by dsimp only; omega)
    dsimp only
    rw [hds]
    exact hown
  (repeat ((conv => whnf); (first | refine r_ldv (h.ext hx3).t hg ?_ | refine r_s0f he0 ?_ | (with_reducible first | refine jA ?_ | refine jB ?_ | refine jC ?_ | refine jD ?_) | refine jE ?_ | refine jF ?_ | refine jG ?_ | refine jH ?_ | refine jI ?_ | refine jJ ?_ | refine jK ?_ | refine jL ?_ | refine jM ?_ | refine jN ?_ | refine jO ?_ | refine jP ?_ | refine jQ ?_ | refine jR ?_ | refine jS (k := ?_) | refine jT (k := ?_)))); (conv => whnf)
  refine r_drawE fun w4 hx4 hh4 => ?_
  (repeat ((conv => whnf); (first | refine r_ldnbE (vs := vcs x) hblk rfl rfl ?_ | refine r_ldvE (h.ext hx3).t hg ?_ | (with_reducible first | refine jA ?_ | refine jB ?_ | refine jC ?_ | refine jD ?_) | refine jE ?_ | refine jF ?_ | refine jG ?_ | refine jH ?_ | refine jI ?_ | refine jJ ?_ | refine jK ?_ | refine jL ?_ | refine jM ?_ | refine jN ?_ | refine jO ?_ | refine jP ?_ | refine jQ ?_ | refine jR ?_ | refine jS (k := ?_) | refine jT (k := ?_)))); (conv => whnf)
  have hlen : (tk v.T i).length ≤ 900 := by have := tk_len hs.tl (i : Int); omega
  refine r_cal (rEnc_ok (h.ext (hx3.trans hx4)) hs hlen) ?_
  rintro _ w5 ⟨hx5, a5, l5, c5, rfl, hv5⟩
  have hx45 := hx4.trans hx5
  refine r_held hx45 ?_
  have hl5 := ri_lens hv5
  by_cases c1 : l5 = 1
  · have hp5 := hv5.plain (by rw [ri_len]; omega)
    have hg5 : (ri (run v.M (own1 v.T (tk v.T i))))[(0 : Int).toNat * 1]? = some (.int .i64 (gi (run v.M (own1 v.T (tk v.T i))) 0)) := ri_get (by omega)
    by_cases c2 : gi (run v.M (own1 v.T (tk v.T i))) 0 = (i : Int)
    · have hnd : ¬ isDead v i := fun hd => hd.2 (by
        have := row_one (by omega : (run v.M (own1 v.T (tk v.T i))).length = 1)
        rw [this, c2])
      rw [if_neg hnd, List.append_nil] at hds
      (repeat ((conv => whnf); (first | refine r_ldv hv5 hg5 ?_ | (with_reducible first | refine jA ?_ | refine jB ?_ | refine jC ?_ | refine jD ?_) | refine jE ?_ | refine jF ?_ | refine jG ?_ | refine jH ?_ | refine jI ?_ | refine jJ ?_ | refine jK ?_ | refine jL ?_ | refine jM ?_ | refine jN ?_ | refine jO ?_ | refine jP ?_ | refine jQ ?_ | refine jR ?_ | refine jS (k := ?_) | refine jT (k := ?_)))); (conv => whnf)
      refine hagain ((a3, l3, c3), i + 1) w5 ⟨by dsimp only; omega, hx3.trans hx45, hblk.ext hx45, ?_⟩ (by dsimp only; omega)
      dsimp only
      rw [hds]
      exact own_ext hown hx45
    · have hd : isDead v i := ⟨he0, fun e => c2 (by rw [e]; rfl)⟩
      rw [if_pos hd] at hds
      (repeat ((conv => whnf); (first | refine r_ldv hv5 hg5 ?_ | (with_reducible first | refine jA ?_ | refine jB ?_ | refine jC ?_ | refine jD ?_) | refine jE ?_ | refine jF ?_ | refine jG ?_ | refine jH ?_ | refine jI ?_ | refine jJ ?_ | refine jK ?_ | refine jL ?_ | refine jM ?_ | refine jN ?_ | refine jO ?_ | refine jP ?_ | refine jQ ?_ | refine jR ?_ | refine jS (k := ?_) | refine jT (k := ?_)))); (conv => whnf)
      refine r_new fun b6 w6 hx6 hb6 hs6 hblk6 => ?_
      have hx36 := hx45.trans hx6
      (repeat ((conv => whnf); (first | (with_reducible first | refine jA ?_ | refine jB ?_ | refine jC ?_ | refine jD ?_) | refine jE ?_ | refine jF ?_ | refine jG ?_ | refine jH ?_ | refine jI ?_ | refine jJ ?_ | refine jK ?_ | refine jL ?_ | refine jM ?_ | refine jN ?_ | refine jO ?_ | refine jP ?_ | refine jQ ?_ | refine jR ?_ | refine jS (k := ?_) | refine jT (k := ?_)))); (conv => whnf)
      refine r_app eli (own_ext hown hx36) (View.of_blk (n := 1) hblk6 rfl (by simp [maxLen])) (by simp [Value.oneCell']) (by omega) (by have := hx3.size; have := hx36.size; omega) fun v7 w7 hown7 hc7 _ => ?_
      have hx37 : Chg (fun b => (Value.slice a3 l3 c3).ownBlock = some b) w3 w7 := Chg.step (hx36.wide _) hc7 fun _ hb _ => hb
      have nk := own_ne hown hblk (by decide)
      have e1 : ri (deadL v (i + 1)) = ri (deadL v i) ++ [.int .i64 (i : Int)] := by rw [hds, ri_app]; rfl
      have e2 : (deadL v i).length + 1 = (deadL v (i + 1)).length := by rw [hds]; simp
      rw [← e1, e2] at hown7
      obtain ⟨a7, c7, rfl, -, -, -⟩ := View.of_own hown7
      (repeat ((conv => whnf); (first | (with_reducible first | refine jA ?_ | refine jB ?_ | refine jC ?_ | refine jD ?_) | refine jE ?_ | refine jF ?_ | refine jG ?_ | refine jH ?_ | refine jI ?_ | refine jJ ?_ | refine jK ?_ | refine jL ?_ | refine jM ?_ | refine jN ?_ | refine jO ?_ | refine jP ?_ | refine jQ ?_ | refine jR ?_ | refine jS (k := ?_) | refine jT (k := ?_)))); (conv => whnf)
      exact hagain ((a7, _, c7), i + 1) w7 ⟨by dsimp only; omega, Chg.own hx3 hx37 hown, hblk.keep hx37 nk, hown7⟩ (by dsimp only; omega)
  · have hd : isDead v i := ⟨he0, fun e => c1 (by rw [← hl5, e]; rfl)⟩
    rw [if_pos hd] at hds
    (repeat ((conv => whnf); (first | (with_reducible first | refine jA ?_ | refine jB ?_ | refine jC ?_ | refine jD ?_) | refine jE ?_ | refine jF ?_ | refine jG ?_ | refine jH ?_ | refine jI ?_ | refine jJ ?_ | refine jK ?_ | refine jL ?_ | refine jM ?_ | refine jN ?_ | refine jO ?_ | refine jP ?_ | refine jQ ?_ | refine jR ?_ | refine jS (k := ?_) | refine jT (k := ?_)))); (conv => whnf)
    refine r_new fun b6 w6 hx6 hb6 hs6 hblk6 => ?_
    have hx36 := hx45.trans hx6
    (repeat ((conv => whnf); (first | (with_reducible first | refine jA ?_ | refine jB ?_ | refine jC ?_ | refine jD ?_) | refine jE ?_ | refine jF ?_ | refine jG ?_ | refine jH ?_ | refine jI ?_ | refine jJ ?_ | refine jK ?_ | refine jL ?_ | refine jM ?_ | refine jN ?_ | refine jO ?_ | refine jP ?_ | refine jQ ?_ | refine jR ?_ | refine jS (k := ?_) | refine jT (k := ?_)))); (conv => whnf)
    refine r_app eli (own_ext hown hx36) (View.of_blk (n := 1) hblk6 rfl (by simp [maxLen])) (by simp [Value.oneCell']) (by omega) (by have := hx3.size; have := hx36.size; omega) fun v7 w7 hown7 hc7 _ => ?_
    have hx37 : Chg (fun b => (Value.slice a3 l3 c3).ownBlock = some b) w3 w7 := Chg.step (hx36.wide _) hc7 fun _ hb _ => hb
    have nk := own_ne hown hblk (by decide)
    have e1 : ri (deadL v (i + 1)) = ri (deadL v i) ++ [.int .i64 (i : Int)] := by rw [hds, ri_app]; rfl
    have e2 : (deadL v i).length + 1 = (deadL v (i + 1)).length := by rw [hds]; simp
    rw [← e1, e2] at hown7
    obtain ⟨a7, c7, rfl, -, -, -⟩ := View.of_own hown7
    (repeat ((conv => whnf); (first | (with_reducible first | refine jA ?_ | refine jB ?_ | refine jC ?_ | refine jD ?_) | refine jE ?_ | refine jF ?_ | refine jG ?_ | refine jH ?_ | refine jI ?_ | refine jJ ?_ | refine jK ?_ | refine jL ?_ | refine jM ?_ | refine jN ?_ | refine jO ?_ | refine jP ?_ | refine jQ ?_ | refine jR ?_ | refine jS (k := ?_) | refine jT (k := ?_)))); (conv => whnf)
    exact hagain ((a7, _, c7), i + 1) w7 ⟨by dsimp only; omega, Chg.own hx3 hx37 hown, hblk.keep hx37 nk, hown7⟩ (by dsimp only; omega)
set_option maxHeartbeats 1000000 in
set_option maxRecDepth 100000 in
theorem Dead_ok (h : Cod w cb v) (hs : Small v) (hM : ∀ m ∈ v.M, I64 m.o) : Cal Try.prog 37 ⟨[.pointer (some ⟨cb, 0, none⟩)]⟩ w fun u w' => Ext w w' ∧ ∃ a' len' cap', u = .slice a' len' cap' ∧ View w' a' len' cap' 1 (ri (deadL v v.T.length)) := by
  have hnt := hs.nt
  have hcod := h
  obtain ⟨tb, aT, lT, cT, hcb, hvT, hTab⟩ := h
  have hlT := tv_lens hvT
  refine go37 (by rfl) ?_
  (repeat ((conv => whnf); (first | (with_reducible first | refine jA ?_ | refine jB ?_ | refine jC ?_ | refine jD ?_) | refine jE ?_ | refine jF ?_ | refine jG ?_ | refine jH ?_ | refine jI ?_ | refine jJ ?_ | refine jK ?_ | refine jL ?_ | refine jM ?_ | refine jN ?_ | refine jO ?_ | refine jP ?_ | refine jQ ?_ | refine jR ?_ | refine jS (k := ?_) | refine jT (k := ?_)))); (conv => whnf)
  refine r_loop (σ := (Option Addr × Nat × Nat) × Nat) (fun t => [.slice t.1.1 t.1.2.1 t.1.2.2, .int .i64 (t.2 : Int)]) (fun t w' => t.2 ≤ v.T.length ∧ Ext w w' ∧ w'.ownsRow w.heap.size 3 1 (.slice t.1.1 t.1.2.1 t.1.2.2) (deadL v t.2).length (ri (deadL v t.2))) (fun t _ => v.T.length - t.2) ((none, 0, 0), 0) rfl ⟨by omega, Ext.refl _, ⟨rfl, .inl ⟨rfl, rfl⟩⟩⟩ ?_
  rintro ⟨⟨a3, l3, c3⟩, i⟩ w3 again ⟨hi, hx3, hown⟩ hagain
  dsimp only at hi hown hagain ⊢
  have hdl := deadL_len v i
  by_cases hil : i < v.T.length
  rotate_left
  · have hie : i = v.T.length := by omega
    rw [hie] at hown
    obtain ⟨a7, c7, he, hv7, -, -⟩ := View.of_own hown
    cases he
    (repeat ((conv => whnf); (first | (with_reducible first | refine jA ?_ | refine jB ?_ | refine jC ?_ | refine jD ?_) | refine jE ?_ | refine jF ?_ | refine jG ?_ | refine jH ?_ | refine jI ?_ | refine jJ ?_ | refine jK ?_ | refine jL ?_ | refine jM ?_ | refine jN ?_ | refine jO ?_ | refine jP ?_ | refine jQ ?_ | refine jR ?_ | refine jS (k := ?_) | refine jT (k := ?_)))); (conv => whnf)
    exact ⟨hx3, _, _, _, rfl, hv7⟩
  have hg : (tv v.T)[(i : Int).toNat * 1]? = some (.string (bstr (tk v.T i))) := by simpa using tv_get (i := i) hil
  have hpt := hvT.plain (by rw [tv_len]; omega)
  have hds : deadL v (i + 1) = deadL v i ++ (if isDead v i then [(i : Int)] else []) := rfl
  by_cases he0 : tk v.T i = []
  · have hnd : ¬ isDead v i := fun hd => hd.1 he0
    rw [if_neg hnd, List.append_nil] at hds
    (repeat ((conv => whnf); (first | refine r_ldv (hvT.ext hx3) hg ?_ | refine r_n0f he0 ?_ | (with_reducible first | refine jA ?_ | refine jB ?_ | refine jC ?_ | refine jD ?_) | refine jE ?_ | refine jF ?_ | refine jG ?_ | refine jH ?_ | refine jI ?_ | refine jJ ?_ | refine jK ?_ | refine jL ?_ | refine jM ?_ | refine jN ?_ | refine jO ?_ | refine jP ?_ | refine jQ ?_ | refine jR ?_ | refine jS (k := ?_) | refine jT (k := ?_)))); (conv => whnf)
    refine hagain ((a3, l3, c3), i + 1) w3 ⟨by dsimp only; omega, hx3, ?_⟩ (by dsimp only; omega)
    dsimp only
    rw [hds]
    exact hown
  have hlen : (tk v.T i).length ≤ 900 := by have := tk_len hs.tl (i : Int); omega
  (repeat ((conv => whnf); (first | refine r_ldv (hvT.ext hx3) hg ?_ | refine r_n0t he0 ?_ | (with_reducible first | refine jA ?_ | refine jB ?_ | refine jC ?_ | refine jD ?_) | refine jE ?_ | refine jF ?_ | refine jG ?_ | refine jH ?_ | refine jI ?_ | refine jJ ?_ | refine jK ?_ | refine jL ?_ | refine jM ?_ | refine jN ?_ | refine jO ?_ | refine jP ?_ | refine jQ ?_ | refine jR ?_ | refine jS (k := ?_) | refine jT (k := ?_)))); (conv => whnf)
  refine r_bytesOf ustr usl8 uu8 (by simp [maxLen]; omega) fun a4 c4 w4 hx4 hv4 => ?_
  (repeat ((conv => whnf); (first | refine r_n0t he0 ?_ | (with_reducible first | refine jA ?_ | refine jB ?_ | refine jC ?_ | refine jD ?_) | refine jE ?_ | refine jF ?_ | refine jG ?_ | refine jH ?_ | refine jI ?_ | refine jJ ?_ | refine jK ?_ | refine jL ?_ | refine jM ?_ | refine jN ?_ | refine jO ?_ | refine jP ?_ | refine jQ ?_ | refine jR ?_ | refine jS (k := ?_) | refine jT (k := ?_)))); (conv => whnf)
  refine r_cal (Enc_ok (hcod.ext (hx3.trans hx4)) hM (by omega) hv4 hlen) ?_
  rintro _ w5 ⟨hx5, a5, l5, c5, rfl, hv5⟩
  have hx45 := hx4.trans hx5
  (repeat ((conv => whnf); (first | refine r_n0t he0 ?_ | (with_reducible first | refine jA ?_ | refine jB ?_ | refine jC ?_ | refine jD ?_) | refine jE ?_ | refine jF ?_ | refine jG ?_ | refine jH ?_ | refine jI ?_ | refine jJ ?_ | refine jK ?_ | refine jL ?_ | refine jM ?_ | refine jN ?_ | refine jO ?_ | refine jP ?_ | refine jQ ?_ | refine jR ?_ | refine jS (k := ?_) | refine jT (k := ?_)))); (conv => whnf)
  refine r_new fun b6 w6 hx6 hb6 hs6 hblk6 => ?_
  have hvi : View w6 (some ⟨b6, 0, none⟩) 1 1 1 (ri [(i : Int)]) := View.of_blk hblk6 rfl (by simp [maxLen])
  (repeat ((conv => whnf); (first | refine r_n0t he0 ?_ | (with_reducible first | refine jA ?_ | refine jB ?_ | refine jC ?_ | refine jD ?_) | refine jE ?_ | refine jF ?_ | refine jG ?_ | refine jH ?_ | refine jI ?_ | refine jJ ?_ | refine jK ?_ | refine jL ?_ | refine jM ?_ | refine jN ?_ | refine jO ?_ | refine jP ?_ | refine jQ ?_ | refine jR ?_ | refine jS (k := ?_) | refine jT (k := ?_)))); (conv => whnf)
  refine r_cal (EqualI_ok (hv5.ext hx6) hvi) ?_
  rintro _ w7 ⟨hx7, rfl⟩
  have hx37 := (hx45.trans hx6).trans hx7
  by_cases hd : isDead v i
  · rw [if_pos hd] at hds
    rw [decide_eq_false hd.2]
    (repeat ((conv => whnf); (first | refine r_n0t he0 ?_ | (with_reducible first | refine jA ?_ | refine jB ?_ | refine jC ?_ | refine jD ?_) | refine jE ?_ | refine jF ?_ | refine jG ?_ | refine jH ?_ | refine jI ?_ | refine jJ ?_ | refine jK ?_ | refine jL ?_ | refine jM ?_ | refine jN ?_ | refine jO ?_ | refine jP ?_ | refine jQ ?_ | refine jR ?_ | refine jS (k := ?_) | refine jT (k := ?_)))); (conv => whnf)
    refine r_new fun b8 w8 hx8 hb8 hs8 hblk8 => ?_
    have hx38 := hx37.trans hx8
    (repeat ((conv => whnf); (first | (with_reducible first | refine jA ?_ | refine jB ?_ | refine jC ?_ | refine jD ?_) | refine jE ?_ | refine jF ?_ | refine jG ?_ | refine jH ?_ | refine jI ?_ | refine jJ ?_ | refine jK ?_ | refine jL ?_ | refine jM ?_ | refine jN ?_ | refine jO ?_ | refine jP ?_ | refine jQ ?_ | refine jR ?_ | refine jS (k := ?_) | refine jT (k := ?_)))); (conv => whnf)
    refine r_app eli (own_ext hown hx38) (View.of_blk (n := 1) hblk8 rfl (by simp [maxLen])) (by simp [Value.oneCell']) (by omega) (by have := hx3.size; have := hx38.size; omega) fun v9 w9 hown9 hc9 _ => ?_
    have hx39 : Chg (fun b => (Value.slice a3 l3 c3).ownBlock = some b) w3 w9 := Chg.step (hx38.wide _) hc9 fun _ hb _ => hb
    have e1 : ri (deadL v (i + 1)) = ri (deadL v i) ++ [.int .i64 (i : Int)] := by rw [hds, ri_app]; rfl
    have e2 : (deadL v i).length + 1 = (deadL v (i + 1)).length := by rw [hds]; simp
    rw [← e1, e2] at hown9
    obtain ⟨a9, c9, rfl, -, -, -⟩ := View.of_own hown9
    (repeat ((conv => whnf); (first | (with_reducible first | refine jA ?_ | refine jB ?_ | refine jC ?_ | refine jD ?_) | refine jE ?_ | refine jF ?_ | refine jG ?_ | refine jH ?_ | refine jI ?_ | refine jJ ?_ | refine jK ?_ | refine jL ?_ | refine jM ?_ | refine jN ?_ | refine jO ?_ | refine jP ?_ | refine jQ ?_ | refine jR ?_ | refine jS (k := ?_) | refine jT (k := ?_)))); (conv => whnf)
    exact hagain ((a9, _, c9), i + 1) w9 ⟨by dsimp only; omega, Chg.own hx3 hx39 hown, hown9⟩ (by dsimp only; omega)
  · have he : run v.M (own1 v.T (tk v.T i)) = [(i : Int)] := by
      by_cases c : run v.M (own1 v.T (tk v.T i)) = [(i : Int)]
      · exact c
      · exact absurd ⟨he0, c⟩ hd
    rw [if_neg hd, List.append_nil] at hds
    rw [decide_eq_true he]
    (repeat ((conv => whnf); (first | refine r_n0t he0 ?_ | (with_reducible first | refine jA ?_ | refine jB ?_ | refine jC ?_ | refine jD ?_) | refine jE ?_ | refine jF ?_ | refine jG ?_ | refine jH ?_ | refine jI ?_ | refine jJ ?_ | refine jK ?_ | refine jL ?_ | refine jM ?_ | refine jN ?_ | refine jO ?_ | refine jP ?_ | refine jQ ?_ | refine jR ?_ | refine jS (k := ?_) | refine jT (k := ?_)))); (conv => whnf)
    refine hagain ((a3, l3, c3), i + 1) w7 ⟨by dsimp only; omega, hx3.trans hx37, ?_⟩ (by dsimp only; omega)
    dsimp only
    rw [hds]
    exact own_ext hown hx37
end
end Fb.Try.VO
