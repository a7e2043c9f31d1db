/-
  Walks: cuts, of the package.
-/
import Derived.Test.YtlnmllpmnhiidaaAp
import Derived.Test.YtlnmllpmnhiidaaVp
import Derived.Test.YtlnmllpmnhiidaaVg
namespace Fb
open Go Go.Proofs
theorem r_ldnbS' {S : Nat → Prop} {w : World} {b o n : Nat} {e : TypeId} {cs vs : List Value} {K : Value → Prop} (h : Blk w b e cs) (hv : (cs.drop o).take n = vs) (hl : vs.length = n) (hs : ¬ S b) (k : K (.agg ⟨vs⟩)) : LoadN ⟨b, o, none⟩ n (Chg S w) K :=
  r_ldn vs hl (fun w' hw i v hi => by
    rw [Addr.add_plain, (h.keep hw hs).cell]
    rw [← hv, List.getElem?_take] at hi
    split at hi
    · rwa [List.getElem?_drop] at hi
    · cases hi) k
theorem Blk.ne {w : World} {a b : Nat} {t t' : TypeId} {cs cs' : List Value} (h : Blk w a t cs) (h' : Blk w b t' cs') (ht : t ≠ t') : a ≠ b := by
  rintro rfl
  unfold Blk at h h'
  rw [h] at h'
  cases h'
  exact ht rfl
theorem own_of_blk {w : World} {b base e n : Nat} {cs : List Value} (h : Blk w b e cs) (hb : base ≤ b) (hl : cs.length = n) (hm : n ≤ maxLen) : w.ownsRow base e 1 (.slice (some ⟨b, 0, none⟩) n n) n cs := by
  refine ⟨by omega, .inr ⟨b, n, ⟨cs⟩, rfl, hb, h, Nat.le_refl _, hm, by simp; omega, ?_⟩⟩
  dsimp only
  rw [Nat.mul_one, List.take_of_length_le (by omega)]
end Fb
namespace Fb.Try.AL
open Go Go.Proofs Fb
theorem eli : Elem Try.prog 22 3 1 8 := Elem.of (by kernel_rfl)
def cc (c : Cu) (a : Option Addr) (len cap : Nat) : List Value := [.int .i64 c.base, .int .i64 c.pos, .slice a len cap]
structure IsC (w : World) (c : Cu) (a : Option Addr) (len cap : Nat) : Prop where
  view : View w a len cap 1 (iv c.L)
  small : len ≤ 60
section
variable {w w' : World} {c d : Cu} {a b : Option Addr} {len cap m k : Nat}
theorem IsC.ext (h : IsC w c a len cap) (k : Ext w w') : IsC w' c a len cap := ⟨h.view.ext k, h.small⟩
theorem IsC.lens (h : IsC w c a len cap) : c.n = len ∧ len ≤ cap ∧ cap ≤ maxLen := by
  have h1 := h.view.length
  rw [iv_len] at h1
  exact ⟨by unfold Cu.n; omega, h.view.le, h.view.max⟩

theorem Index_ok {L : List Int} (hv : View w a len cap 1 (iv L)) (f : FuncId) (p : Int → Bool) (hc : callable Try.prog f = true)
    (hcall : ∀ x ∈ L, ∀ w', Ext w w' → Cal Try.prog f ⟨[.int .i64 x]⟩ w' fun v w'' => Ext w' w'' ∧ v = .bool (p x)) :
    Cal Try.prog 36 ⟨[.slice a len cap, .func (.func f) ⟨[]⟩ ⟨[]⟩]⟩ w fun v w' => Ext w w' ∧ ∃ r, v = .int .i64 r ∧ (0 ≤ r ↔ L.any p = true) := by
  have hl := hv.length
  have m1 := hv.le
  have m2 := hv.max
  unfold maxLen at m2
  rw [iv_len] at hl
  refine go36 (by rfl) ?_
  (repeat ((conv => whnf); (first | with_reducible refine r_tt ?_ | with_reducible refine r_ff ?_ | with_reducible refine r_ntt ?_ | with_reducible refine r_nff ?_ | refine r_need (by omega) ?_ | refine r_i64 (by omega) ?_ | refine r_dect (by omega) ?_ | refine r_decf (by omega) ?_ | refine r_eqt (by omega) ?_ | refine r_eqf (by omega) ?_ | refine r_net (by omega) ?_ | refine r_nef (by omega) ?_ | refine r_u8 (by omega) ?_ | refine r_u64 (by omega) ?_ | refine r_i32 (by omega) ?_ | refine r_u32 (by omega) ?_ | refine r_rem (by omega) ?_ | refine r_quo (by omega) ?_ | refine r_ldb (by assumption) (by rfl) ?_ | refine r_ldbE (by assumption) (by rfl) ?_))); (conv => whnf)
  refine r_loop (σ := Nat) (fun i => [.int .i64 (i : Int)]) (fun i w' => i ≤ len ∧ Ext w w' ∧ ∀ j (h : j < L.length), j < i → p L[j] = false) (fun i _ => len - i) 0 rfl ⟨by omega, Ext.refl w, fun j _ hj => by omega⟩ ?_
  rintro i w1 again ⟨hi, hx1, hno⟩ hagain
  by_cases hil : i < len
  · have ea : (iv L)[i]? = some (.int .i64 (L[i]'(by omega))) := by simp [iv]
    have hp := hv.plain (by rw [iv_len]; omega)
    (repeat ((conv => whnf); (first | with_reducible refine r_tt ?_ | with_reducible refine r_ff ?_ | with_reducible refine r_ntt ?_ | with_reducible refine r_nff ?_ | refine r_need (by omega) ?_ | refine r_i64 (by omega) ?_ | refine r_dect (by omega) ?_ | refine r_decf (by omega) ?_ | refine r_eqt (by omega) ?_ | refine r_eqf (by omega) ?_ | refine r_net (by omega) ?_ | refine r_nef (by omega) ?_ | refine r_u8 (by omega) ?_ | refine r_u64 (by omega) ?_ | refine r_i32 (by omega) ?_ | refine r_u32 (by omega) ?_ | refine r_rem (by omega) ?_ | refine r_quo (by omega) ?_ | refine r_ldb (by assumption) (by rfl) ?_ | refine r_ldbE (by assumption) (by rfl) ?_))); (conv => whnf)
    refine r_ldv (j := (i : Int).toNat * 1) (hv.ext hx1) (by simpa using ea) ?_
    (repeat ((conv => whnf); (first | with_reducible refine r_tt ?_ | with_reducible refine r_ff ?_ | with_reducible refine r_ntt ?_ | with_reducible refine r_nff ?_ | refine r_need (by omega) ?_ | refine r_i64 (by omega) ?_ | refine r_dect (by omega) ?_ | refine r_decf (by omega) ?_ | refine r_eqt (by omega) ?_ | refine r_eqf (by omega) ?_ | refine r_net (by omega) ?_ | refine r_nef (by omega) ?_ | refine r_u8 (by omega) ?_ | refine r_u64 (by omega) ?_ | refine r_i32 (by omega) ?_ | refine r_u32 (by omega) ?_ | refine r_rem (by omega) ?_ | refine r_quo (by omega) ?_ | refine r_ldb (by assumption) (by rfl) ?_ | refine r_ldbE (by assumption) (by rfl) ?_))); (conv => whnf)
    refine r_calV hc (hcall _ (List.getElem_mem _) w1 hx1) ?_
    rintro _ w2 ⟨hx2, rfl⟩
    cases hq : p (L[i]'(by omega)) with
    | true =>
      (repeat ((conv => whnf); (first | with_reducible refine r_tt ?_ | with_reducible refine r_ff ?_ | with_reducible refine r_ntt ?_ | with_reducible refine r_nff ?_ | refine r_need (by omega) ?_ | refine r_i64 (by omega) ?_ | refine r_dect (by omega) ?_ | refine r_decf (by omega) ?_ | refine r_eqt (by omega) ?_ | refine r_eqf (by omega) ?_ | refine r_net (by omega) ?_ | refine r_nef (by omega) ?_ | refine r_u8 (by omega) ?_ | refine r_u64 (by omega) ?_ | refine r_i32 (by omega) ?_ | refine r_u32 (by omega) ?_ | refine r_rem (by omega) ?_ | refine r_quo (by omega) ?_ | refine r_ldb (by assumption) (by rfl) ?_ | refine r_ldbE (by assumption) (by rfl) ?_))); (conv => whnf)
      refine ⟨hx1.trans hx2, i, rfl, ?_⟩
      have : L.any p = true := List.any_eq_true.2 ⟨_, List.getElem_mem _, hq⟩
      simp [this]
    | false =>
      (repeat ((conv => whnf); (first | with_reducible refine r_tt ?_ | with_reducible refine r_ff ?_ | with_reducible refine r_ntt ?_ | with_reducible refine r_nff ?_ | refine r_need (by omega) ?_ | refine r_i64 (by omega) ?_ | refine r_dect (by omega) ?_ | refine r_decf (by omega) ?_ | refine r_eqt (by omega) ?_ | refine r_eqf (by omega) ?_ | refine r_net (by omega) ?_ | refine r_nef (by omega) ?_ | refine r_u8 (by omega) ?_ | refine r_u64 (by omega) ?_ | refine r_i32 (by omega) ?_ | refine r_u32 (by omega) ?_ | refine r_rem (by omega) ?_ | refine r_quo (by omega) ?_ | refine r_ldb (by assumption) (by rfl) ?_ | refine r_ldbE (by assumption) (by rfl) ?_))); (conv => whnf)
      refine hagain (i + 1) w2 ⟨by omega, hx1.trans hx2, fun j h hj => ?_⟩ (by omega)
      rcases Nat.lt_or_ge j i with h1 | h1
      · exact hno j h h1
      · have : j = i := by omega
        subst this
        exact hq
  · (repeat ((conv => whnf); (first | with_reducible refine r_tt ?_ | with_reducible refine r_ff ?_ | with_reducible refine r_ntt ?_ | with_reducible refine r_nff ?_ | refine r_need (by omega) ?_ | refine r_i64 (by omega) ?_ | refine r_dect (by omega) ?_ | refine r_decf (by omega) ?_ | refine r_eqt (by omega) ?_ | refine r_eqf (by omega) ?_ | refine r_net (by omega) ?_ | refine r_nef (by omega) ?_ | refine r_u8 (by omega) ?_ | refine r_u64 (by omega) ?_ | refine r_i32 (by omega) ?_ | refine r_u32 (by omega) ?_ | refine r_rem (by omega) ?_ | refine r_quo (by omega) ?_ | refine r_ldb (by assumption) (by rfl) ?_ | refine r_ldbE (by assumption) (by rfl) ?_))); (conv => whnf)
    refine ⟨hx1, -1, rfl, ?_⟩
    have : L.any p = false := by
      rw [List.any_eq_false]
      intro x hx
      obtain ⟨j, hj, rfl⟩ := List.getElem_of_mem hx
      rw [hno j hj (by omega)]
      decide
    simp [this]
theorem Contains_ok {L : List Int} (hv : View w a len cap 1 (iv L)) (f : FuncId) (p : Int → Bool) (hc : callable Try.prog f = true)
    (hcall : ∀ x ∈ L, ∀ w', Ext w w' → Cal Try.prog f ⟨[.int .i64 x]⟩ w' fun v w'' => Ext w' w'' ∧ v = .bool (p x)) :
    Cal Try.prog 28 ⟨[.slice a len cap, .func (.func f) ⟨[]⟩ ⟨[]⟩]⟩ w fun v w' => Ext w w' ∧ v = .bool (L.any p) := by
  refine go28 (by rfl) ?_
  (repeat ((conv => whnf); (first | with_reducible refine r_tt ?_ | with_reducible refine r_ff ?_ | with_reducible refine r_ntt ?_ | with_reducible refine r_nff ?_ | refine r_need (by omega) ?_ | refine r_i64 (by omega) ?_ | refine r_dect (by omega) ?_ | refine r_decf (by omega) ?_ | refine r_eqt (by omega) ?_ | refine r_eqf (by omega) ?_ | refine r_net (by omega) ?_ | refine r_nef (by omega) ?_ | refine r_u8 (by omega) ?_ | refine r_u64 (by omega) ?_ | refine r_i32 (by omega) ?_ | refine r_u32 (by omega) ?_ | refine r_rem (by omega) ?_ | refine r_quo (by omega) ?_ | refine r_ldb (by assumption) (by rfl) ?_ | refine r_ldbE (by assumption) (by rfl) ?_))); (conv => whnf)
  refine r_cal (Index_ok hv f p hc hcall) ?_
  rintro _ w1 ⟨hx1, r, rfl, hr⟩
  (repeat ((conv => whnf); (first | with_reducible refine r_tt ?_ | with_reducible refine r_ff ?_ | with_reducible refine r_ntt ?_ | with_reducible refine r_nff ?_ | refine r_need (by omega) ?_ | refine r_i64 (by omega) ?_ | refine r_dect (by omega) ?_ | refine r_decf (by omega) ?_ | refine r_eqt (by omega) ?_ | refine r_eqf (by omega) ?_ | refine r_net (by omega) ?_ | refine r_nef (by omega) ?_ | refine r_u8 (by omega) ?_ | refine r_u64 (by omega) ?_ | refine r_i32 (by omega) ?_ | refine r_u32 (by omega) ?_ | refine r_rem (by omega) ?_ | refine r_quo (by omega) ?_ | refine r_ldb (by assumption) (by rfl) ?_ | refine r_ldbE (by assumption) (by rfl) ?_))); (conv => whnf)
  refine ⟨hx1, ?_⟩
  congr 1
  rw [Bool.eq_iff_iff, ← hr, decide_eq_true_eq]
theorem wrong_ok (x : Int) : Cal Try.prog 27 ⟨[.int .i64 x]⟩ w fun v w' => Ext w w' ∧ v = .bool (decide (x < 1 ∨ 64 < x)) := by
  refine go27 (by rfl) ?_
  by_cases h : x < 1
  all_goals
    (repeat ((conv => whnf); (first | with_reducible refine r_tt ?_ | with_reducible refine r_ff ?_ | with_reducible refine r_ntt ?_ | with_reducible refine r_nff ?_ | refine r_need (by omega) ?_ | refine r_i64 (by omega) ?_ | refine r_dect (by omega) ?_ | refine r_decf (by omega) ?_ | refine r_eqt (by omega) ?_ | refine r_eqf (by omega) ?_ | refine r_net (by omega) ?_ | refine r_nef (by omega) ?_ | refine r_u8 (by omega) ?_ | refine r_u64 (by omega) ?_ | refine r_i32 (by omega) ?_ | refine r_u32 (by omega) ?_ | refine r_rem (by omega) ?_ | refine r_quo (by omega) ?_ | refine r_ldb (by assumption) (by rfl) ?_ | refine r_ldbE (by assumption) (by rfl) ?_))); (conv => whnf)
    refine ⟨Ext.refl w, ?_⟩
    simp [h]
theorem May_ok (hc : IsC w c a len cap) : Cal Try.prog 16 ⟨[.agg ⟨cc c a len cap⟩]⟩ w fun v w' => Ext w w' ∧ v = .bool (decide c.Ok) := by
  have hs := hc.small
  refine go16 (by rfl) ?_
  (repeat ((conv => whnf); (first | with_reducible refine r_tt ?_ | with_reducible refine r_ff ?_ | with_reducible refine r_ntt ?_ | with_reducible refine r_nff ?_ | refine r_need (by omega) ?_ | refine r_i64 (by omega) ?_ | refine r_dect (by omega) ?_ | refine r_decf (by omega) ?_ | refine r_eqt (by omega) ?_ | refine r_eqf (by omega) ?_ | refine r_net (by omega) ?_ | refine r_nef (by omega) ?_ | refine r_u8 (by omega) ?_ | refine r_u64 (by omega) ?_ | refine r_i32 (by omega) ?_ | refine r_u32 (by omega) ?_ | refine r_rem (by omega) ?_ | refine r_quo (by omega) ?_ | refine r_ldb (by assumption) (by rfl) ?_ | refine r_ldbE (by assumption) (by rfl) ?_))); (conv => whnf)
  refine r_new fun p w1 hx1 hb1 hs1 hblk1 => ?_
  have hblk1 : Blk w1 p 24 [.int .i64 c.base, .int .i64 c.pos, .slice a len cap] := hblk1
  by_cases hb : 0 ≤ c.base ∧ c.base ≤ 1048576 ∧ c.base ≤ c.pos ∧ c.pos ≤ 64 * c.base
  · (repeat ((conv => whnf); (first | with_reducible refine r_tt ?_ | with_reducible refine r_ff ?_ | with_reducible refine r_ntt ?_ | with_reducible refine r_nff ?_ | refine r_need (by omega) ?_ | refine r_i64 (by omega) ?_ | refine r_dect (by omega) ?_ | refine r_decf (by omega) ?_ | refine r_eqt (by omega) ?_ | refine r_eqf (by omega) ?_ | refine r_net (by omega) ?_ | refine r_nef (by omega) ?_ | refine r_u8 (by omega) ?_ | refine r_u64 (by omega) ?_ | refine r_i32 (by omega) ?_ | refine r_u32 (by omega) ?_ | refine r_rem (by omega) ?_ | refine r_quo (by omega) ?_ | refine r_ldb (by assumption) (by rfl) ?_ | refine r_ldbE (by assumption) (by rfl) ?_))); (conv => whnf)
    refine r_cal (Contains_ok (hc.ext hx1).view 27 (fun x => decide (x < 1 ∨ 64 < x)) (by kernel_rfl) fun x _ w' _ => wrong_ok x) ?_
    rintro _ w2 ⟨hx2, rfl⟩
    (repeat ((conv => whnf); (first | with_reducible refine r_tt ?_ | with_reducible refine r_ff ?_ | with_reducible refine r_ntt ?_ | with_reducible refine r_nff ?_ | refine r_need (by omega) ?_ | refine r_i64 (by omega) ?_ | refine r_dect (by omega) ?_ | refine r_decf (by omega) ?_ | refine r_eqt (by omega) ?_ | refine r_eqf (by omega) ?_ | refine r_net (by omega) ?_ | refine r_nef (by omega) ?_ | refine r_u8 (by omega) ?_ | refine r_u64 (by omega) ?_ | refine r_i32 (by omega) ?_ | refine r_u32 (by omega) ?_ | refine r_rem (by omega) ?_ | refine r_quo (by omega) ?_ | refine r_ldb (by assumption) (by rfl) ?_ | refine r_ldbE (by assumption) (by rfl) ?_))); (conv => whnf)
    refine ⟨hx1.trans hx2, ?_⟩
    congr 1
    rw [Bool.eq_iff_iff, Bool.not_eq_true', List.any_eq_false, decide_eq_true_eq]
    unfold Cu.Ok
    simp only [hb, true_and]
    constructor
    · intro h x hx
      have := h x hx
      simp at this
      omega
    · intro h x hx
      have := h x hx
      simp
      omega
  · have : ¬ c.Ok := fun h => hb ⟨h.1, h.2.1, h.2.2.1, h.2.2.2.1⟩
    have hd : decide c.Ok = false := decide_eq_false this
    rw [hd]
    have h4 : ¬ 0 ≤ c.base ∨ (0 ≤ c.base ∧ ¬ c.base ≤ 1048576) ∨ (0 ≤ c.base ∧ c.base ≤ 1048576 ∧ ¬ c.base ≤ c.pos) ∨ (0 ≤ c.base ∧ c.base ≤ 1048576 ∧ c.base ≤ c.pos ∧ ¬ c.pos ≤ 64 * c.base) := by omega
    clear hb
    rcases h4 with h4 | h4 | h4 | h4
    all_goals
      (repeat ((conv => whnf); (first | with_reducible refine r_tt ?_ | with_reducible refine r_ff ?_ | with_reducible refine r_ntt ?_ | with_reducible refine r_nff ?_ | refine r_need (by omega) ?_ | refine r_i64 (by omega) ?_ | refine r_dect (by omega) ?_ | refine r_decf (by omega) ?_ | refine r_eqt (by omega) ?_ | refine r_eqf (by omega) ?_ | refine r_net (by omega) ?_ | refine r_nef (by omega) ?_ | refine r_u8 (by omega) ?_ | refine r_u64 (by omega) ?_ | refine r_i32 (by omega) ?_ | refine r_u32 (by omega) ?_ | refine r_rem (by omega) ?_ | refine r_quo (by omega) ?_ | refine r_ldb (by assumption) (by rfl) ?_ | refine r_ldbE (by assumption) (by rfl) ?_))); (conv => whnf)
      exact ⟨hx1, by first | rfl | simp [h4]⟩
end
end Fb.Try.AL
