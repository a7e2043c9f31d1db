/-
  Walks: the search by halves.
-/
import Derived.Test.YtlnmllpmnhiidaaS
import Derived.Test.YtlnmllpmnhiidaaVr
namespace Fb.Try
open Go Go.Proofs Fb
set_option maxRecDepth 100000 in
theorem search_ok {w : World} (n : Nat) (f : FuncId) (cap : List Value) (p : Nat → Bool) (hn : n ≤ 1000000000) (mono : ∀ i j, i ≤ j → j < n → p i = true → p j = true) (hc : callable Try.prog f = true)
    (hcall : ∀ i, i < n → ∀ w', Ext w w' → Cal Try.prog f ⟨.int .i64 (i : Int) :: cap⟩ w' fun v w'' => Ext w' w'' ∧ v = .bool (p i)) :
    Cal Try.prog 34 ⟨[.int .i64 (n : Int), .func (.func f) ⟨[]⟩ ⟨cap⟩]⟩ w fun v w' => Ext w w' ∧ ∃ k : Nat, v = .int .i64 (k : Int) ∧ k ≤ n ∧ (∀ i, i < k → p i = false) ∧ ∀ i, k ≤ i → i < n → p i = true := by
  refine go34 (by rfl) ?_
  (repeat ((conv => whnf); (first | with_reducible refine r_tt ?_ | with_reducible refine r_ff ?_ | with_reducible refine r_ntt ?_ | with_reducible refine r_nff ?_ | refine r_need (by omega) ?_ | refine r_i64 (by omega) ?_ | refine r_dect (by omega) ?_ | refine r_decf (by omega) ?_ | refine r_eqt (by omega) ?_ | refine r_eqf (by omega) ?_ | refine r_net (by omega) ?_ | refine r_nef (by omega) ?_ | refine r_u8 (by omega) ?_ | refine r_u64 (by omega) ?_ | refine r_i32 (by omega) ?_ | refine r_u32 (by omega) ?_ | refine r_rem (by omega) ?_ | refine r_quo (by omega) ?_ | refine r_ldb (by assumption) (by rfl) ?_ | refine r_ldbE (by assumption) (by rfl) ?_))); (conv => whnf)
  refine r_loop (σ := Nat × Nat) (fun s => [.int .i64 (s.1 : Int), .int .i64 (s.2 : Int)]) (fun s w' => s.1 ≤ s.2 ∧ s.2 ≤ n ∧ Ext w w' ∧ (∀ i, i < s.1 → p i = false) ∧ ∀ i, s.2 ≤ i → i < n → p i = true) (fun s _ => s.2 - s.1) (0, n) rfl ⟨Nat.zero_le _, Nat.le_refl _, Ext.refl _, fun i h => by dsimp only at h; omega, fun i h1 h2 => by dsimp only at h1; omega⟩ ?_
  rintro ⟨i, j⟩ w1 again ⟨hij, hjn, hx, hlo, hhi⟩ hagain
  dsimp only at *
  by_cases hlt : i < j
  · (repeat ((conv => whnf); (first | with_reducible refine r_tt ?_ | with_reducible refine r_ff ?_ | with_reducible refine r_ntt ?_ | with_reducible refine r_nff ?_ | refine r_need (by omega) ?_ | refine r_i64 (by omega) ?_ | refine r_dect (by omega) ?_ | refine r_decf (by omega) ?_ | refine r_eqt (by omega) ?_ | refine r_eqf (by omega) ?_ | refine r_net (by omega) ?_ | refine r_nef (by omega) ?_ | refine r_u8 (by omega) ?_ | refine r_u64 (by omega) ?_ | refine r_i32 (by omega) ?_ | refine r_u32 (by omega) ?_ | refine r_rem (by omega) ?_ | refine r_quo (by omega) ?_ | refine r_ldb (by assumption) (by rfl) ?_ | refine r_ldbE (by assumption) (by rfl) ?_))); (conv => whnf)
    refine r_shr 1 (by rfl) ?_
    have hm : ((i : Int) + j) / 2 ^ 1 = (((i + j) / 2 : Nat) : Int) := by omega
    rw [hm]
    have hmi : i ≤ (i + j) / 2 := by omega
    have hmj : (i + j) / 2 < j := by omega
    generalize (i + j) / 2 = h at hmi hmj
    (repeat ((conv => whnf); (first | with_reducible refine r_tt ?_ | with_reducible refine r_ff ?_ | with_reducible refine r_ntt ?_ | with_reducible refine r_nff ?_ | refine r_need (by omega) ?_ | refine r_i64 (by omega) ?_ | refine r_dect (by omega) ?_ | refine r_decf (by omega) ?_ | refine r_eqt (by omega) ?_ | refine r_eqf (by omega) ?_ | refine r_net (by omega) ?_ | refine r_nef (by omega) ?_ | refine r_u8 (by omega) ?_ | refine r_u64 (by omega) ?_ | refine r_i32 (by omega) ?_ | refine r_u32 (by omega) ?_ | refine r_rem (by omega) ?_ | refine r_quo (by omega) ?_ | refine r_ldb (by assumption) (by rfl) ?_ | refine r_ldbE (by assumption) (by rfl) ?_))); (conv => whnf)
    refine r_calV hc (hcall h (by omega) w1 hx) ?_
    rintro _ w2 ⟨hx2, rfl⟩
    cases hp : p h with
    | false =>
      (repeat ((conv => whnf); (first | with_reducible refine r_tt ?_ | with_reducible refine r_ff ?_ | with_reducible refine r_ntt ?_ | with_reducible refine r_nff ?_ | refine r_need (by omega) ?_ | refine r_i64 (by omega) ?_ | refine r_dect (by omega) ?_ | refine r_decf (by omega) ?_ | refine r_eqt (by omega) ?_ | refine r_eqf (by omega) ?_ | refine r_net (by omega) ?_ | refine r_nef (by omega) ?_ | refine r_u8 (by omega) ?_ | refine r_u64 (by omega) ?_ | refine r_i32 (by omega) ?_ | refine r_u32 (by omega) ?_ | refine r_rem (by omega) ?_ | refine r_quo (by omega) ?_ | refine r_ldb (by assumption) (by rfl) ?_ | refine r_ldbE (by assumption) (by rfl) ?_))); (conv => whnf)
      refine hagain (h + 1, j) w2 ⟨by dsimp only; omega, hjn, hx.trans hx2, fun x hxl => ?_, hhi⟩ (by dsimp only; omega)
      dsimp only at hxl
      cases hq : p x with
      | false => rfl
      | true =>
        have := mono x h (by omega) (by omega) hq
        rw [hp] at this
        cases this
    | true =>
      (repeat ((conv => whnf); (first | with_reducible refine r_tt ?_ | with_reducible refine r_ff ?_ | with_reducible refine r_ntt ?_ | with_reducible refine r_nff ?_ | refine r_need (by omega) ?_ | refine r_i64 (by omega) ?_ | refine r_dect (by omega) ?_ | refine r_decf (by omega) ?_ | refine r_eqt (by omega) ?_ | refine r_eqf (by omega) ?_ | refine r_net (by omega) ?_ | refine r_nef (by omega) ?_ | refine r_u8 (by omega) ?_ | refine r_u64 (by omega) ?_ | refine r_i32 (by omega) ?_ | refine r_u32 (by omega) ?_ | refine r_rem (by omega) ?_ | refine r_quo (by omega) ?_ | refine r_ldb (by assumption) (by rfl) ?_ | refine r_ldbE (by assumption) (by rfl) ?_))); (conv => whnf)
      exact hagain (i, h) w2 ⟨hmi, by dsimp only; omega, hx.trans hx2, hlo, fun x h1 h2 => mono h x h1 h2 hp⟩ (by dsimp only; omega)
  · have : i = j := by omega
    subst this
    (repeat ((conv => whnf); (first | with_reducible refine r_tt ?_ | with_reducible refine r_ff ?_ | with_reducible refine r_ntt ?_ | with_reducible refine r_nff ?_ | refine r_need (by omega) ?_ | refine r_i64 (by omega) ?_ | refine r_dect (by omega) ?_ | refine r_decf (by omega) ?_ | refine r_eqt (by omega) ?_ | refine r_eqf (by omega) ?_ | refine r_net (by omega) ?_ | refine r_nef (by omega) ?_ | refine r_u8 (by omega) ?_ | refine r_u64 (by omega) ?_ | refine r_i32 (by omega) ?_ | refine r_u32 (by omega) ?_ | refine r_rem (by omega) ?_ | refine r_quo (by omega) ?_ | refine r_ldb (by assumption) (by rfl) ?_ | refine r_ldbE (by assumption) (by rfl) ?_))); (conv => whnf)
    exact ⟨hx, i, rfl, hjn, hlo, hhi⟩
end Fb.Try
