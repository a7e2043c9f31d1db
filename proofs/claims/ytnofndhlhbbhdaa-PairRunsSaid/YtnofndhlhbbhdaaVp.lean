/-
  Writing into a row of one's own.
-/
import Derived.Test.YtnofndhlhbbhdaaVn
namespace Fb
open Go
theorem own_slice {w : World} {base : Nat} {e : TypeId} {a : Option Addr} {n n' c : Nat} {xs : List Value} (h : w.ownsRow base e 1 (.slice a n' c) n xs) (hn : 0 < n) :
    ∃ g cur, a = some ⟨g, 0, none⟩ ∧ n' = n ∧ base ≤ g ∧ Blk w g e cur ∧ n ≤ c ∧ c ≤ maxLen ∧ cur.length = c ∧ cur.take n = xs := by
  rcases h.2 with ⟨_, h0⟩ | ⟨g, cap, ⟨cur⟩, hv, hb, hg, hc, hm, hs, ht⟩
  · omega
  · cases hv
    exact ⟨g, cur, rfl, rfl, hb, hg, hc, hm, by simpa using hs, by simpa using ht⟩
theorem own_set {w' : World} {base g : Nat} {e : TypeId} {n c : Nat} {cur xs : List Value} (hb : base ≤ g) (hcur : cur.length = c) (hc : n ≤ c) (hm : c ≤ maxLen) (ht : cur.take n = xs) (i : Nat) (v : Value) (h : Blk w' g e (cur.set i v)) :
    w'.ownsRow base e 1 (.slice (some ⟨g, 0, none⟩) n c) n (xs.set i v) := by
  have hx : xs.length = n := by rw [← ht, List.length_take]; omega
  refine ⟨by rw [List.length_set]; omega, .inr ⟨g, c, ⟨cur.set i v⟩, rfl, hb, h, hc, hm, by simp; omega, ?_⟩⟩
  dsimp only
  rw [Nat.mul_one, ← ht]
  rw [List.take_set]
end Fb
