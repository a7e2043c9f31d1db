/-
  Walks: the document's views.
-/
import Derived.Test.YtoiiohogalmobaaWd
namespace Fb.Try.WN
open Go Go.Proofs Fb Fb.Try.RW
def wCells (a1 : Option Addr) (l1 c1 : Nat) (a2 : Option Addr) (l2 c2 : Nat) (s : St) : List Value := [.slice a1 l1 c1, .slice a2 l2 c2, .int .i64 (s.done : Int), .int .i64 (s.keep : Int)]
theorem View.hi {w : World} {a : Option Addr} {len cap size : Nat} {L : List Value} (h : View w a len cap size L) (k : Nat) (hk : k ≤ len) : View w a k cap size (L.take (k * size)) := by
  have hl := h.length
  have h1 : k * size ≤ len * size := Nat.mul_le_mul_right _ hk
  refine ⟨by rw [List.length_take]; omega, by have := h.le; omega, h.max, fun hp => h.plain (by rw [List.length_take] at hp; omega), fun i u hu => h.cell i u ?_⟩
  rw [List.getElem?_take] at hu
  split at hu
  · exact hu
  · cases hu
/-- Where the arrays of a view of the document do not lie. -/
def WOff (S : Nat → Prop) (a1 : Option Addr) (l1 : Nat) (a2 : Option Addr) (l2 : Nat) : Prop := (0 < l1 → ¬ S (blk a1)) ∧ (0 < l2 → ¬ S (blk a2))
/-- The arrays are the ones that there were, or new. -/
def Sub (w : World) (a1 : Option Addr) (l1 : Nat) (a2 : Option Addr) (l2 : Nat) (b1 : Option Addr) (m1 : Nat) (b2 : Option Addr) (m2 : Nat) : Prop :=
  ∀ S : Nat → Prop, (∀ k, S k → k < w.heap.size) → WOff S a1 l1 a2 l2 → WOff S b1 m1 b2 m2
structure IsW (w : World) (s : St) (a1 : Option Addr) (l1 c1 : Nat) (a2 : Option Addr) (l2 c2 : Nat) : Prop where
  t : View w a1 l1 c1 1 (iv s.T)
  l : View w a2 l2 c2 1 (iv s.Ls)
theorem w_one (a1 : Option Addr) (l1 c1 : Nat) (a2 : Option Addr) (l2 c2 : Nat) (s : St) : ∀ v ∈ wCells a1 l1 c1 a2 l2 c2 s, v.oneCell' = true := by
  intro v hv
  simp [wCells] at hv
  rcases hv with rfl | rfl | rfl | rfl <;> rfl
section
variable {w w' : World} {s : St} {n : Nat} {a1 : Option Addr} {l1 c1 : Nat} {a2 : Option Addr} {l2 c2 : Nat}
theorem IsW.ext (h : IsW w s a1 l1 c1 a2 l2 c2) (k : Ext w w') : IsW w' s a1 l1 c1 a2 l2 c2 := ⟨h.t.ext k, h.l.ext k⟩
theorem IsW.lens (h : IsW w s a1 l1 c1 a2 l2 c2) : s.T.length = l1 ∧ s.Ls.length = l2 ∧ l1 ≤ c1 ∧ l2 ≤ c2 ∧ c1 ≤ maxLen ∧ c2 ≤ maxLen := by
  have h1 := h.t.length
  have h2 := h.l.length
  rw [iv_len] at h1 h2
  exact ⟨by omega, by omega, h.t.le, h.l.le, h.t.max, h.l.max⟩
theorem sum_ok {a : Option Addr} {len cap : Nat} {L : List Int} (hv : View w a len cap 1 (iv L)) (hl : ∀ x ∈ L, 1 ≤ x ∧ x ≤ 64) (hn : L.length ≤ 1000) (k : Nat) (hk : k ≤ L.length) :
    Cal Try.prog 88 ⟨[.slice a len cap, .int .i64 (k : Int)]⟩ w fun v w' => w' = w ∧ v = .int .i64 (sm L k) := by
  have hlen : L.length = len := by have := hv.length; rw [iv_len] at this; omega
  refine go88 (by rfl) ?_
  (repeat ((conv => whnf); (first | with_reducible refine r_tt ?_ | with_reducible refine r_ff ?_ | with_reducible refine r_ntt ?_ | with_reducible refine r_nff ?_ | refine r_need (by omega) ?_ | refine r_i64 (by omega) ?_ | refine r_dect (by omega) ?_ | refine r_decf (by omega) ?_ | refine r_eqt (by omega) ?_ | refine r_eqf (by omega) ?_ | refine r_net (by omega) ?_ | refine r_nef (by omega) ?_ | refine r_u8 (by omega) ?_ | refine r_u64 (by omega) ?_ | refine r_i32 (by omega) ?_ | refine r_u32 (by omega) ?_ | refine r_rem (by omega) ?_ | refine r_quo (by omega) ?_ | refine r_ldb (by assumption) (by rfl) ?_ | refine r_ldbE (by assumption) (by rfl) ?_))); (conv => whnf)
  refine r_loop (σ := Nat) (fun i => [.int .i64 (sm L i), .int .i64 (i : Int)]) (fun i w' => i ≤ k ∧ w' = w) (fun i _ => k - i) 0 rfl ⟨Nat.zero_le _, rfl⟩ ?_
  rintro i w1 again ⟨hi, rfl⟩ hagain
  by_cases hik : i < k
  · have ea : (iv L)[i]? = some (.int .i64 L[i]) := by simp [iv]
    have hp := hv.plain (by rw [iv_len]; omega)
    have hb := sm_bound hl i (by omega)
    have hx := hl L[i] (List.getElem_mem _)
    (repeat ((conv => whnf); (first | with_reducible refine r_tt ?_ | with_reducible refine r_ff ?_ | with_reducible refine r_ntt ?_ | with_reducible refine r_nff ?_ | refine r_need (by omega) ?_ | refine r_i64 (by omega) ?_ | refine r_dect (by omega) ?_ | refine r_decf (by omega) ?_ | refine r_eqt (by omega) ?_ | refine r_eqf (by omega) ?_ | refine r_net (by omega) ?_ | refine r_nef (by omega) ?_ | refine r_u8 (by omega) ?_ | refine r_u64 (by omega) ?_ | refine r_i32 (by omega) ?_ | refine r_u32 (by omega) ?_ | refine r_rem (by omega) ?_ | refine r_quo (by omega) ?_ | refine r_ldb (by assumption) (by rfl) ?_ | refine r_ldbE (by assumption) (by rfl) ?_))); (conv => whnf)
    refine r_ldv (j := (i : Int).toNat * 1) hv (by simpa using ea) ?_
    (repeat ((conv => whnf); (first | with_reducible refine r_tt ?_ | with_reducible refine r_ff ?_ | with_reducible refine r_ntt ?_ | with_reducible refine r_nff ?_ | refine r_need (by omega) ?_ | refine r_i64 (by omega) ?_ | refine r_dect (by omega) ?_ | refine r_decf (by omega) ?_ | refine r_eqt (by omega) ?_ | refine r_eqf (by omega) ?_ | refine r_net (by omega) ?_ | refine r_nef (by omega) ?_ | refine r_u8 (by omega) ?_ | refine r_u64 (by omega) ?_ | refine r_i32 (by omega) ?_ | refine r_u32 (by omega) ?_ | refine r_rem (by omega) ?_ | refine r_quo (by omega) ?_ | refine r_ldb (by assumption) (by rfl) ?_ | refine r_ldbE (by assumption) (by rfl) ?_))); (conv => whnf)
    have e := sm_succ L i (by omega)
    rw [← e]
    exact hagain (i + 1) w1 ⟨by omega, rfl⟩ (by omega)
  · have : i = k := by omega
    subst this
    (repeat ((conv => whnf); (first | with_reducible refine r_tt ?_ | with_reducible refine r_ff ?_ | with_reducible refine r_ntt ?_ | with_reducible refine r_nff ?_ | refine r_need (by omega) ?_ | refine r_i64 (by omega) ?_ | refine r_dect (by omega) ?_ | refine r_decf (by omega) ?_ | refine r_eqt (by omega) ?_ | refine r_eqf (by omega) ?_ | refine r_net (by omega) ?_ | refine r_nef (by omega) ?_ | refine r_u8 (by omega) ?_ | refine r_u64 (by omega) ?_ | refine r_i32 (by omega) ?_ | refine r_u32 (by omega) ?_ | refine r_rem (by omega) ?_ | refine r_quo (by omega) ?_ | refine r_ldb (by assumption) (by rfl) ?_ | refine r_ldbE (by assumption) (by rfl) ?_))); (conv => whnf)
    exact ⟨rfl, rfl⟩
theorem rBase_ok (h : s.Ok n) : Cal Try.prog 77 ⟨[.agg ⟨wCells a1 l1 c1 a2 l2 c2 s⟩]⟩ w fun v w' => Ext w w' ∧ v = .int .i64 (s.base : Int) := by
  have h1 := h.done
  have h2 := h.len
  have h3 := h.n
  have h4 := h.keep
  refine go77 (by rfl) ?_
  (repeat ((conv => whnf); (first | with_reducible refine r_tt ?_ | with_reducible refine r_ff ?_ | with_reducible refine r_ntt ?_ | with_reducible refine r_nff ?_ | refine r_need (by omega) ?_ | refine r_i64 (by omega) ?_ | refine r_dect (by omega) ?_ | refine r_decf (by omega) ?_ | refine r_eqt (by omega) ?_ | refine r_eqf (by omega) ?_ | refine r_net (by omega) ?_ | refine r_nef (by omega) ?_ | refine r_u8 (by omega) ?_ | refine r_u64 (by omega) ?_ | refine r_i32 (by omega) ?_ | refine r_u32 (by omega) ?_ | refine r_rem (by omega) ?_ | refine r_quo (by omega) ?_ | refine r_ldb (by assumption) (by rfl) ?_ | refine r_ldbE (by assumption) (by rfl) ?_))); (conv => whnf)
  refine r_new fun b w1 hx1 hb1 hs1 hblk => ?_
  have hblk : Blk w1 b 60 [.slice a1 l1 c1, .slice a2 l2 c2, .int .i64 (s.done : Int), .int .i64 (s.keep : Int)] := hblk
  (repeat ((conv => whnf); (first | with_reducible refine r_tt ?_ | with_reducible refine r_ff ?_ | with_reducible refine r_ntt ?_ | with_reducible refine r_nff ?_ | refine r_need (by omega) ?_ | refine r_i64 (by omega) ?_ | refine r_dect (by omega) ?_ | refine r_decf (by omega) ?_ | refine r_eqt (by omega) ?_ | refine r_eqf (by omega) ?_ | refine r_net (by omega) ?_ | refine r_nef (by omega) ?_ | refine r_u8 (by omega) ?_ | refine r_u64 (by omega) ?_ | refine r_i32 (by omega) ?_ | refine r_u32 (by omega) ?_ | refine r_rem (by omega) ?_ | refine r_quo (by omega) ?_ | refine r_ldb (by assumption) (by rfl) ?_ | refine r_ldbE (by assumption) (by rfl) ?_))); (conv => whnf)
  simp only [cond_true]
  rw [show max 0 ((s.done : Int) - s.keep) = (s.base : Int) by unfold St.base; omega]
  exact ⟨hx1, rfl⟩
theorem rStart_ok (hw : IsW w s a1 l1 c1 a2 l2 c2) (h : s.Ok n) : Cal Try.prog 78 ⟨[.agg ⟨wCells a1 l1 c1 a2 l2 c2 s⟩]⟩ w fun v w' => Ext w w' ∧ v = .int .i64 (sm s.Ls s.base) := by
  have h2 := h.len
  have h3 := h.n
  have h4 := h.base
  have h5 := h.eq
  refine go78 (by rfl) ?_
  (repeat ((conv => whnf); (first | with_reducible refine r_tt ?_ | with_reducible refine r_ff ?_ | with_reducible refine r_ntt ?_ | with_reducible refine r_nff ?_ | refine r_need (by omega) ?_ | refine r_i64 (by omega) ?_ | refine r_dect (by omega) ?_ | refine r_decf (by omega) ?_ | refine r_eqt (by omega) ?_ | refine r_eqf (by omega) ?_ | refine r_net (by omega) ?_ | refine r_nef (by omega) ?_ | refine r_u8 (by omega) ?_ | refine r_u64 (by omega) ?_ | refine r_i32 (by omega) ?_ | refine r_u32 (by omega) ?_ | refine r_rem (by omega) ?_ | refine r_quo (by omega) ?_ | refine r_ldb (by assumption) (by rfl) ?_ | refine r_ldbE (by assumption) (by rfl) ?_))); (conv => whnf)
  refine r_new fun b w1 hx1 hb1 hs1 hblk => ?_
  have hblk : Blk w1 b 60 [.slice a1 l1 c1, .slice a2 l2 c2, .int .i64 (s.done : Int), .int .i64 (s.keep : Int)] := hblk
  (repeat ((conv => whnf); (first | refine r_drawE fun w2 hx2 hh2 => ?_ | refine r_ldnbE (vs := wCells a1 l1 c1 a2 l2 c2 s) hblk rfl rfl ?_ | refine r_ldnb (vs := wCells a1 l1 c1 a2 l2 c2 s) hblk rfl rfl ?_ | with_reducible refine r_tt ?_ | with_reducible refine r_ff ?_ | with_reducible refine r_ntt ?_ | with_reducible refine r_nff ?_ | refine r_need (by omega) ?_ | refine r_i64 (by omega) ?_ | refine r_dect (by omega) ?_ | refine r_decf (by omega) ?_ | refine r_eqt (by omega) ?_ | refine r_eqf (by omega) ?_ | refine r_net (by omega) ?_ | refine r_nef (by omega) ?_ | refine r_u8 (by omega) ?_ | refine r_u64 (by omega) ?_ | refine r_i32 (by omega) ?_ | refine r_u32 (by omega) ?_ | refine r_rem (by omega) ?_ | refine r_quo (by omega) ?_ | refine r_ldb (by assumption) (by rfl) ?_ | refine r_ldbE (by assumption) (by rfl) ?_))); (conv => whnf)
  refine r_cal (rBase_ok (w := w2) h) ?_
  rintro _ w3 ⟨hx3, rfl⟩
  (repeat ((conv => whnf); (first | with_reducible refine r_tt ?_ | with_reducible refine r_ff ?_ | with_reducible refine r_ntt ?_ | with_reducible refine r_nff ?_ | refine r_need (by omega) ?_ | refine r_i64 (by omega) ?_ | refine r_dect (by omega) ?_ | refine r_decf (by omega) ?_ | refine r_eqt (by omega) ?_ | refine r_eqf (by omega) ?_ | refine r_net (by omega) ?_ | refine r_nef (by omega) ?_ | refine r_u8 (by omega) ?_ | refine r_u64 (by omega) ?_ | refine r_i32 (by omega) ?_ | refine r_u32 (by omega) ?_ | refine r_rem (by omega) ?_ | refine r_quo (by omega) ?_ | refine r_ldb (by assumption) (by rfl) ?_ | refine r_ldbE (by assumption) (by rfl) ?_))); (conv => whnf)
  refine r_held (hx2.trans hx3) ?_
  have hx13 := (hx1.trans hx2).trans hx3
  (repeat ((conv => whnf); (first | with_reducible refine r_tt ?_ | with_reducible refine r_ff ?_ | with_reducible refine r_ntt ?_ | with_reducible refine r_nff ?_ | refine r_need (by omega) ?_ | refine r_i64 (by omega) ?_ | refine r_dect (by omega) ?_ | refine r_decf (by omega) ?_ | refine r_eqt (by omega) ?_ | refine r_eqf (by omega) ?_ | refine r_net (by omega) ?_ | refine r_nef (by omega) ?_ | refine r_u8 (by omega) ?_ | refine r_u64 (by omega) ?_ | refine r_i32 (by omega) ?_ | refine r_u32 (by omega) ?_ | refine r_rem (by omega) ?_ | refine r_quo (by omega) ?_ | refine r_ldb (by assumption) (by rfl) ?_ | refine r_ldbE (by assumption) (by rfl) ?_))); (conv => whnf)
  refine r_cal (sum_ok (hw.l.ext hx13) h.lens (by omega) s.base (by omega)) ?_
  rintro _ w4 ⟨rfl, rfl⟩
  (repeat ((conv => whnf); (first | with_reducible refine r_tt ?_ | with_reducible refine r_ff ?_ | with_reducible refine r_ntt ?_ | with_reducible refine r_nff ?_ | refine r_need (by omega) ?_ | refine r_i64 (by omega) ?_ | refine r_dect (by omega) ?_ | refine r_decf (by omega) ?_ | refine r_eqt (by omega) ?_ | refine r_eqf (by omega) ?_ | refine r_net (by omega) ?_ | refine r_nef (by omega) ?_ | refine r_u8 (by omega) ?_ | refine r_u64 (by omega) ?_ | refine r_i32 (by omega) ?_ | refine r_u32 (by omega) ?_ | refine r_rem (by omega) ?_ | refine r_quo (by omega) ?_ | refine r_ldb (by assumption) (by rfl) ?_ | refine r_ldbE (by assumption) (by rfl) ?_))); (conv => whnf)
  refine r_held (hx2.trans hx3) ?_
  (repeat ((conv => whnf); (first | with_reducible refine r_tt ?_ | with_reducible refine r_ff ?_ | with_reducible refine r_ntt ?_ | with_reducible refine r_nff ?_ | refine r_need (by omega) ?_ | refine r_i64 (by omega) ?_ | refine r_dect (by omega) ?_ | refine r_decf (by omega) ?_ | refine r_eqt (by omega) ?_ | refine r_eqf (by omega) ?_ | refine r_net (by omega) ?_ | refine r_nef (by omega) ?_ | refine r_u8 (by omega) ?_ | refine r_u64 (by omega) ?_ | refine r_i32 (by omega) ?_ | refine r_u32 (by omega) ?_ | refine r_rem (by omega) ?_ | refine r_quo (by omega) ?_ | refine r_ldb (by assumption) (by rfl) ?_ | refine r_ldbE (by assumption) (by rfl) ?_))); (conv => whnf)
  exact ⟨hx13, rfl⟩
theorem rTotal_ok (hw : IsW w s a1 l1 c1 a2 l2 c2) (h : s.Ok n) : Cal Try.prog 79 ⟨[.agg ⟨wCells a1 l1 c1 a2 l2 c2 s⟩]⟩ w fun v w' => Ext w w' ∧ v = .int .i64 (sm s.Ls s.T.length) := by
  have h2 := h.len
  have h3 := h.n
  have h5 := h.eq
  have hl := hw.lens
  refine go79 (by rfl) ?_
  (repeat ((conv => whnf); (first | with_reducible refine r_tt ?_ | with_reducible refine r_ff ?_ | with_reducible refine r_ntt ?_ | with_reducible refine r_nff ?_ | refine r_need (by omega) ?_ | refine r_i64 (by omega) ?_ | refine r_dect (by omega) ?_ | refine r_decf (by omega) ?_ | refine r_eqt (by omega) ?_ | refine r_eqf (by omega) ?_ | refine r_net (by omega) ?_ | refine r_nef (by omega) ?_ | refine r_u8 (by omega) ?_ | refine r_u64 (by omega) ?_ | refine r_i32 (by omega) ?_ | refine r_u32 (by omega) ?_ | refine r_rem (by omega) ?_ | refine r_quo (by omega) ?_ | refine r_ldb (by assumption) (by rfl) ?_ | refine r_ldbE (by assumption) (by rfl) ?_))); (conv => whnf)
  refine r_new fun b w1 hx1 hb1 hs1 hblk => ?_
  have hblk : Blk w1 b 60 [.slice a1 l1 c1, .slice a2 l2 c2, .int .i64 (s.done : Int), .int .i64 (s.keep : Int)] := hblk
  (repeat ((conv => whnf); (first | with_reducible refine r_tt ?_ | with_reducible refine r_ff ?_ | with_reducible refine r_ntt ?_ | with_reducible refine r_nff ?_ | refine r_need (by omega) ?_ | refine r_i64 (by omega) ?_ | refine r_dect (by omega) ?_ | refine r_decf (by omega) ?_ | refine r_eqt (by omega) ?_ | refine r_eqf (by omega) ?_ | refine r_net (by omega) ?_ | refine r_nef (by omega) ?_ | refine r_u8 (by omega) ?_ | refine r_u64 (by omega) ?_ | refine r_i32 (by omega) ?_ | refine r_u32 (by omega) ?_ | refine r_rem (by omega) ?_ | refine r_quo (by omega) ?_ | refine r_ldb (by assumption) (by rfl) ?_ | refine r_ldbE (by assumption) (by rfl) ?_))); (conv => whnf)
  rw [show (l2 : Int) = ((s.T.length : Nat) : Int) by omega]
  refine r_cal (sum_ok (hw.l.ext hx1) h.lens (by omega) s.T.length (by omega)) ?_
  rintro _ w2 ⟨rfl, rfl⟩
  (repeat ((conv => whnf); (first | with_reducible refine r_tt ?_ | with_reducible refine r_ff ?_ | with_reducible refine r_ntt ?_ | with_reducible refine r_nff ?_ | refine r_need (by omega) ?_ | refine r_i64 (by omega) ?_ | refine r_dect (by omega) ?_ | refine r_decf (by omega) ?_ | refine r_eqt (by omega) ?_ | refine r_eqf (by omega) ?_ | refine r_net (by omega) ?_ | refine r_nef (by omega) ?_ | refine r_u8 (by omega) ?_ | refine r_u64 (by omega) ?_ | refine r_i32 (by omega) ?_ | refine r_u32 (by omega) ?_ | refine r_rem (by omega) ?_ | refine r_quo (by omega) ?_ | refine r_ldb (by assumption) (by rfl) ?_ | refine r_ldbE (by assumption) (by rfl) ?_))); (conv => whnf)
  exact ⟨hx1, rfl⟩
theorem IsW.keep {S : Nat → Prop} (h : IsW w s a1 l1 c1 a2 l2 c2) (k : Chg S w w') (ho : WOff S a1 l1 a2 l2) : IsW w' s a1 l1 c1 a2 l2 c2 := by
  have hl := h.lens
  exact ⟨h.t.keepN k fun hp => ho.1 (by rw [iv_len] at hp; omega), h.l.keepN k fun hp => ho.2 (by rw [iv_len] at hp; omega)⟩
theorem IsW.off (h : IsW w s a1 l1 c1 a2 l2 c2) {S : Nat → Prop} (hS : ∀ k, S k → w.heap.size ≤ k) : WOff S a1 l1 a2 l2 := by
  have hl := h.lens
  exact ⟨fun hp hs => by have := h.t.lt (by rw [iv_len]; omega); have := hS _ hs; omega, fun hp hs => by have := h.l.lt (by rw [iv_len]; omega); have := hS _ hs; omega⟩
/-- What the document's operations make. -/
def Made (w : World) (r : St × Int) (a1 : Option Addr) (l1 : Nat) (a2 : Option Addr) (l2 : Nat) (v : Value) (w' : World) : Prop :=
  Ext w w' ∧ ∃ b1 m1 d1 b2 m2 d2, v = .tuple ⟨[.agg ⟨wCells b1 m1 d1 b2 m2 d2 r.1⟩, .int .i64 r.2]⟩ ∧ IsW w' r.1 b1 m1 d1 b2 m2 d2 ∧ Sub w a1 l1 a2 l2 b1 m1 b2 m2
theorem rCommit_ok (hw : IsW w s a1 l1 c1 a2 l2 c2) (h : s.Ok n) (m : Int) :
    Cal Try.prog 65 ⟨[.agg ⟨wCells a1 l1 c1 a2 l2 c2 s⟩, .int .i64 m]⟩ w (Made w (s.commit m) a1 l1 a2 l2) := by
  have h1 := h.done
  have h2 := h.len
  have h3 := h.n
  have hl := hw.lens
  refine go65 (by rfl) ?_
  (repeat ((conv => whnf); (first | with_reducible refine r_tt ?_ | with_reducible refine r_ff ?_ | with_reducible refine r_ntt ?_ | with_reducible refine r_nff ?_ | refine r_need (by omega) ?_ | refine r_i64 (by omega) ?_ | refine r_dect (by omega) ?_ | refine r_decf (by omega) ?_ | refine r_eqt (by omega) ?_ | refine r_eqf (by omega) ?_ | refine r_net (by omega) ?_ | refine r_nef (by omega) ?_ | refine r_u8 (by omega) ?_ | refine r_u64 (by omega) ?_ | refine r_i32 (by omega) ?_ | refine r_u32 (by omega) ?_ | refine r_rem (by omega) ?_ | refine r_quo (by omega) ?_ | refine r_ldb (by assumption) (by rfl) ?_ | refine r_ldbE (by assumption) (by rfl) ?_))); (conv => whnf)
  refine r_new fun b w1 hx1 hb1 hs1 hblk => ?_
  have hblk : Blk w1 b 60 [.slice a1 l1 c1, .slice a2 l2 c2, .int .i64 (s.done : Int), .int .i64 (s.keep : Int)] := hblk
  (repeat ((conv => whnf); (first | with_reducible refine r_tt ?_ | with_reducible refine r_ff ?_ | with_reducible refine r_ntt ?_ | with_reducible refine r_nff ?_ | refine r_need (by omega) ?_ | refine r_i64 (by omega) ?_ | refine r_dect (by omega) ?_ | refine r_decf (by omega) ?_ | refine r_eqt (by omega) ?_ | refine r_eqf (by omega) ?_ | refine r_net (by omega) ?_ | refine r_nef (by omega) ?_ | refine r_u8 (by omega) ?_ | refine r_u64 (by omega) ?_ | refine r_i32 (by omega) ?_ | refine r_u32 (by omega) ?_ | refine r_rem (by omega) ?_ | refine r_quo (by omega) ?_ | refine r_ldb (by assumption) (by rfl) ?_ | refine r_ldbE (by assumption) (by rfl) ?_))); (conv => whnf)
  refine r_new fun c w2 hx2 hb2 hs2 hblkc => ?_
  have hblk := hblk.ext hx2
  by_cases hy : (s.done : Int) ≤ m ∧ m ≤ s.T.length
  · obtain ⟨d, rfl⟩ : ∃ d : Nat, m = d := ⟨m.toNat, by omega⟩
    have e : s.commit d = ({ s with done := d }, 0) := by unfold St.commit; rw [if_pos hy, Int.toNat_natCast]
    rw [e]
    (repeat ((conv => whnf); (first | with_reducible refine r_tt ?_ | with_reducible refine r_ff ?_ | with_reducible refine r_ntt ?_ | with_reducible refine r_nff ?_ | refine r_need (by omega) ?_ | refine r_i64 (by omega) ?_ | refine r_dect (by omega) ?_ | refine r_decf (by omega) ?_ | refine r_eqt (by omega) ?_ | refine r_eqf (by omega) ?_ | refine r_net (by omega) ?_ | refine r_nef (by omega) ?_ | refine r_u8 (by omega) ?_ | refine r_u64 (by omega) ?_ | refine r_i32 (by omega) ?_ | refine r_u32 (by omega) ?_ | refine r_rem (by omega) ?_ | refine r_quo (by omega) ?_ | refine r_ldb (by assumption) (by rfl) ?_ | refine r_ldbE (by assumption) (by rfl) ?_))); (conv => whnf)
    refine r_stn hblkc (by simp) (w_one a1 l1 c1 a2 l2 c2 { s with done := d }) fun w4 hc4 hs4 hblk4 => ?_
    have hblk4 : Blk w4 c 60 (wCells a1 l1 c1 a2 l2 c2 { s with done := d }) := hblk4
    (repeat ((conv => whnf); (first | with_reducible refine r_tt ?_ | with_reducible refine r_ff ?_ | with_reducible refine r_ntt ?_ | with_reducible refine r_nff ?_ | refine r_need (by omega) ?_ | refine r_i64 (by omega) ?_ | refine r_dect (by omega) ?_ | refine r_decf (by omega) ?_ | refine r_eqt (by omega) ?_ | refine r_eqf (by omega) ?_ | refine r_net (by omega) ?_ | refine r_nef (by omega) ?_ | refine r_u8 (by omega) ?_ | refine r_u64 (by omega) ?_ | refine r_i32 (by omega) ?_ | refine r_u32 (by omega) ?_ | refine r_rem (by omega) ?_ | refine r_quo (by omega) ?_ | refine r_ldb (by assumption) (by rfl) ?_ | refine r_ldbE (by assumption) (by rfl) ?_))); (conv => whnf)
    refine r_ldnb (vs := wCells a1 l1 c1 a2 l2 c2 { s with done := d }) hblk4 rfl rfl ?_
    (repeat ((conv => whnf); (first | with_reducible refine r_tt ?_ | with_reducible refine r_ff ?_ | with_reducible refine r_ntt ?_ | with_reducible refine r_nff ?_ | refine r_need (by omega) ?_ | refine r_i64 (by omega) ?_ | refine r_dect (by omega) ?_ | refine r_decf (by omega) ?_ | refine r_eqt (by omega) ?_ | refine r_eqf (by omega) ?_ | refine r_net (by omega) ?_ | refine r_nef (by omega) ?_ | refine r_u8 (by omega) ?_ | refine r_u64 (by omega) ?_ | refine r_i32 (by omega) ?_ | refine r_u32 (by omega) ?_ | refine r_rem (by omega) ?_ | refine r_quo (by omega) ?_ | refine r_ldb (by assumption) (by rfl) ?_ | refine r_ldbE (by assumption) (by rfl) ?_))); (conv => whnf)
    have hx4 : Ext w w4 := Chg.step (hx1.trans hx2) hc4 fun k hk hlt => by have := hx1.size; omega
    exact ⟨hx4, a1, l1, c1, a2, l2, c2, rfl, ⟨hw.t.ext hx4, hw.l.ext hx4⟩, fun S hS ho => ho⟩
  · have e : s.commit m = (s, 1) := by unfold St.commit; rw [if_neg hy]
    rw [e]
    by_cases h0 : m < s.done
    all_goals
      (repeat ((conv => whnf); (first | with_reducible refine r_tt ?_ | with_reducible refine r_ff ?_ | with_reducible refine r_ntt ?_ | with_reducible refine r_nff ?_ | refine r_need (by omega) ?_ | refine r_i64 (by omega) ?_ | refine r_dect (by omega) ?_ | refine r_decf (by omega) ?_ | refine r_eqt (by omega) ?_ | refine r_eqf (by omega) ?_ | refine r_net (by omega) ?_ | refine r_nef (by omega) ?_ | refine r_u8 (by omega) ?_ | refine r_u64 (by omega) ?_ | refine r_i32 (by omega) ?_ | refine r_u32 (by omega) ?_ | refine r_rem (by omega) ?_ | refine r_quo (by omega) ?_ | refine r_ldb (by assumption) (by rfl) ?_ | refine r_ldbE (by assumption) (by rfl) ?_))); (conv => whnf)
      refine r_ldnb (vs := wCells a1 l1 c1 a2 l2 c2 s) hblk rfl rfl ?_
      (repeat ((conv => whnf); (first | with_reducible refine r_tt ?_ | with_reducible refine r_ff ?_ | with_reducible refine r_ntt ?_ | with_reducible refine r_nff ?_ | refine r_need (by omega) ?_ | refine r_i64 (by omega) ?_ | refine r_dect (by omega) ?_ | refine r_decf (by omega) ?_ | refine r_eqt (by omega) ?_ | refine r_eqf (by omega) ?_ | refine r_net (by omega) ?_ | refine r_nef (by omega) ?_ | refine r_u8 (by omega) ?_ | refine r_u64 (by omega) ?_ | refine r_i32 (by omega) ?_ | refine r_u32 (by omega) ?_ | refine r_rem (by omega) ?_ | refine r_quo (by omega) ?_ | refine r_ldb (by assumption) (by rfl) ?_ | refine r_ldbE (by assumption) (by rfl) ?_))); (conv => whnf)
      refine r_stn hblkc (by simp [wCells]) (w_one a1 l1 c1 a2 l2 c2 s) fun w4 hc4 hs4 hblk4 => ?_
      have hblk4 : Blk w4 c 60 (wCells a1 l1 c1 a2 l2 c2 s) := hblk4
      (repeat ((conv => whnf); (first | with_reducible refine r_tt ?_ | with_reducible refine r_ff ?_ | with_reducible refine r_ntt ?_ | with_reducible refine r_nff ?_ | refine r_need (by omega) ?_ | refine r_i64 (by omega) ?_ | refine r_dect (by omega) ?_ | refine r_decf (by omega) ?_ | refine r_eqt (by omega) ?_ | refine r_eqf (by omega) ?_ | refine r_net (by omega) ?_ | refine r_nef (by omega) ?_ | refine r_u8 (by omega) ?_ | refine r_u64 (by omega) ?_ | refine r_i32 (by omega) ?_ | refine r_u32 (by omega) ?_ | refine r_rem (by omega) ?_ | refine r_quo (by omega) ?_ | refine r_ldb (by assumption) (by rfl) ?_ | refine r_ldbE (by assumption) (by rfl) ?_))); (conv => whnf)
      refine r_ldnb (vs := wCells a1 l1 c1 a2 l2 c2 s) hblk4 rfl rfl ?_
      (repeat ((conv => whnf); (first | with_reducible refine r_tt ?_ | with_reducible refine r_ff ?_ | with_reducible refine r_ntt ?_ | with_reducible refine r_nff ?_ | refine r_need (by omega) ?_ | refine r_i64 (by omega) ?_ | refine r_dect (by omega) ?_ | refine r_decf (by omega) ?_ | refine r_eqt (by omega) ?_ | refine r_eqf (by omega) ?_ | refine r_net (by omega) ?_ | refine r_nef (by omega) ?_ | refine r_u8 (by omega) ?_ | refine r_u64 (by omega) ?_ | refine r_i32 (by omega) ?_ | refine r_u32 (by omega) ?_ | refine r_rem (by omega) ?_ | refine r_quo (by omega) ?_ | refine r_ldb (by assumption) (by rfl) ?_ | refine r_ldbE (by assumption) (by rfl) ?_))); (conv => whnf)
      have hx4 : Ext w w4 := Chg.step (hx1.trans hx2) hc4 fun k hk hlt => by have := hx1.size; omega
      exact ⟨hx4, a1, l1, c1, a2, l2, c2, rfl, hw.ext hx4, fun S hS ho => ho⟩
theorem rRetract_ok (hw : IsW w s a1 l1 c1 a2 l2 c2) (h : s.Ok n) (m : Int) :
    Cal Try.prog 64 ⟨[.agg ⟨wCells a1 l1 c1 a2 l2 c2 s⟩, .int .i64 m]⟩ w (Made w (s.retract m) a1 l1 a2 l2) := by
  have h1 := h.done
  have h2 := h.len
  have h3 := h.n
  have h4 := h.eq
  have hl := hw.lens
  refine go64 (by rfl) ?_
  (repeat ((conv => whnf); (first | with_reducible refine r_tt ?_ | with_reducible refine r_ff ?_ | with_reducible refine r_ntt ?_ | with_reducible refine r_nff ?_ | refine r_need (by omega) ?_ | refine r_i64 (by omega) ?_ | refine r_dect (by omega) ?_ | refine r_decf (by omega) ?_ | refine r_eqt (by omega) ?_ | refine r_eqf (by omega) ?_ | refine r_net (by omega) ?_ | refine r_nef (by omega) ?_ | refine r_u8 (by omega) ?_ | refine r_u64 (by omega) ?_ | refine r_i32 (by omega) ?_ | refine r_u32 (by omega) ?_ | refine r_rem (by omega) ?_ | refine r_quo (by omega) ?_ | refine r_ldb (by assumption) (by rfl) ?_ | refine r_ldbE (by assumption) (by rfl) ?_))); (conv => whnf)
  refine r_new fun b w1 hx1 hb1 hs1 hblk => ?_
  have hblk : Blk w1 b 60 [.slice a1 l1 c1, .slice a2 l2 c2, .int .i64 (s.done : Int), .int .i64 (s.keep : Int)] := hblk
  (repeat ((conv => whnf); (first | with_reducible refine r_tt ?_ | with_reducible refine r_ff ?_ | with_reducible refine r_ntt ?_ | with_reducible refine r_nff ?_ | refine r_need (by omega) ?_ | refine r_i64 (by omega) ?_ | refine r_dect (by omega) ?_ | refine r_decf (by omega) ?_ | refine r_eqt (by omega) ?_ | refine r_eqf (by omega) ?_ | refine r_net (by omega) ?_ | refine r_nef (by omega) ?_ | refine r_u8 (by omega) ?_ | refine r_u64 (by omega) ?_ | refine r_i32 (by omega) ?_ | refine r_u32 (by omega) ?_ | refine r_rem (by omega) ?_ | refine r_quo (by omega) ?_ | refine r_ldb (by assumption) (by rfl) ?_ | refine r_ldbE (by assumption) (by rfl) ?_))); (conv => whnf)
  refine r_new fun c w2 hx2 hb2 hs2 hblkc => ?_
  have hblk := hblk.ext hx2
  by_cases hy : 0 ≤ m ∧ m ≤ (s.T.length : Int) - s.done
  · obtain ⟨d, rfl⟩ : ∃ d : Nat, m = d := ⟨m.toNat, by omega⟩
    have e : s.retract d = ({ s with T := s.T.take (s.T.length - d), Ls := s.Ls.take (s.T.length - d) }, 0) := by unfold St.retract; rw [if_pos hy, Int.toNat_natCast]
    rw [e]
    (repeat ((conv => whnf); (first | refine r_drawE fun w3 hx3 hh3 => ?_ | with_reducible refine r_tt ?_ | with_reducible refine r_ff ?_ | with_reducible refine r_ntt ?_ | with_reducible refine r_nff ?_ | refine r_need (by omega) ?_ | refine r_i64 (by omega) ?_ | refine r_dect (by omega) ?_ | refine r_decf (by omega) ?_ | refine r_eqt (by omega) ?_ | refine r_eqf (by omega) ?_ | refine r_net (by omega) ?_ | refine r_nef (by omega) ?_ | refine r_u8 (by omega) ?_ | refine r_u64 (by omega) ?_ | refine r_i32 (by omega) ?_ | refine r_u32 (by omega) ?_ | refine r_rem (by omega) ?_ | refine r_quo (by omega) ?_ | refine r_ldb (by assumption) (by rfl) ?_ | refine r_ldbE (by assumption) (by rfl) ?_))); (conv => whnf)
    rw [show ((l1 : Int) - d).toNat = s.T.length - d by omega, show ((l2 : Int) - d).toNat = s.T.length - d by omega]
    refine r_stn (hblkc.ext hx3) (by simp) (w_one a1 (s.T.length - d) c1 a2 (s.T.length - d) c2 s) fun w4 hc4 hs4 hblk4 => ?_
    have hblk4 : Blk w4 c 60 (wCells a1 (s.T.length - d) c1 a2 (s.T.length - d) c2 s) := hblk4
    (repeat ((conv => whnf); (first | with_reducible refine r_tt ?_ | with_reducible refine r_ff ?_ | with_reducible refine r_ntt ?_ | with_reducible refine r_nff ?_ | refine r_need (by omega) ?_ | refine r_i64 (by omega) ?_ | refine r_dect (by omega) ?_ | refine r_decf (by omega) ?_ | refine r_eqt (by omega) ?_ | refine r_eqf (by omega) ?_ | refine r_net (by omega) ?_ | refine r_nef (by omega) ?_ | refine r_u8 (by omega) ?_ | refine r_u64 (by omega) ?_ | refine r_i32 (by omega) ?_ | refine r_u32 (by omega) ?_ | refine r_rem (by omega) ?_ | refine r_quo (by omega) ?_ | refine r_ldb (by assumption) (by rfl) ?_ | refine r_ldbE (by assumption) (by rfl) ?_))); (conv => whnf)
    refine r_ldnb (vs := wCells a1 (s.T.length - d) c1 a2 (s.T.length - d) c2 s) hblk4 rfl rfl ?_
    (repeat ((conv => whnf); (first | with_reducible refine r_tt ?_ | with_reducible refine r_ff ?_ | with_reducible refine r_ntt ?_ | with_reducible refine r_nff ?_ | refine r_need (by omega) ?_ | refine r_i64 (by omega) ?_ | refine r_dect (by omega) ?_ | refine r_decf (by omega) ?_ | refine r_eqt (by omega) ?_ | refine r_eqf (by omega) ?_ | refine r_net (by omega) ?_ | refine r_nef (by omega) ?_ | refine r_u8 (by omega) ?_ | refine r_u64 (by omega) ?_ | refine r_i32 (by omega) ?_ | refine r_u32 (by omega) ?_ | refine r_rem (by omega) ?_ | refine r_quo (by omega) ?_ | refine r_ldb (by assumption) (by rfl) ?_ | refine r_ldbE (by assumption) (by rfl) ?_))); (conv => whnf)
    have hx4 : Ext w w4 := Chg.step ((hx1.trans hx2).trans hx3) hc4 fun k hk hlt => by have := hx1.size; omega
    refine ⟨hx4, a1, s.T.length - d, c1, a2, s.T.length - d, c2, rfl, ⟨?_, ?_⟩, fun S hS ho => ⟨fun hp => ho.1 (by omega), fun hp => ho.2 (by omega)⟩⟩
    · have := View.hi (hw.t.ext hx4) (s.T.length - d) (by omega)
      simpa [iv, List.map_take] using this
    · have := View.hi (hw.l.ext hx4) (s.T.length - d) (by omega)
      simpa [iv, List.map_take] using this
  · have e : s.retract m = (s, 1) := by unfold St.retract; rw [if_neg hy]
    rw [e]
    by_cases h0 : m < 0
    all_goals
      (repeat ((conv => whnf); (first | with_reducible refine r_tt ?_ | with_reducible refine r_ff ?_ | with_reducible refine r_ntt ?_ | with_reducible refine r_nff ?_ | refine r_need (by omega) ?_ | refine r_i64 (by omega) ?_ | refine r_dect (by omega) ?_ | refine r_decf (by omega) ?_ | refine r_eqt (by omega) ?_ | refine r_eqf (by omega) ?_ | refine r_net (by omega) ?_ | refine r_nef (by omega) ?_ | refine r_u8 (by omega) ?_ | refine r_u64 (by omega) ?_ | refine r_i32 (by omega) ?_ | refine r_u32 (by omega) ?_ | refine r_rem (by omega) ?_ | refine r_quo (by omega) ?_ | refine r_ldb (by assumption) (by rfl) ?_ | refine r_ldbE (by assumption) (by rfl) ?_))); (conv => whnf)
      refine r_ldnb (vs := wCells a1 l1 c1 a2 l2 c2 s) hblk rfl rfl ?_
      (repeat ((conv => whnf); (first | with_reducible refine r_tt ?_ | with_reducible refine r_ff ?_ | with_reducible refine r_ntt ?_ | with_reducible refine r_nff ?_ | refine r_need (by omega) ?_ | refine r_i64 (by omega) ?_ | refine r_dect (by omega) ?_ | refine r_decf (by omega) ?_ | refine r_eqt (by omega) ?_ | refine r_eqf (by omega) ?_ | refine r_net (by omega) ?_ | refine r_nef (by omega) ?_ | refine r_u8 (by omega) ?_ | refine r_u64 (by omega) ?_ | refine r_i32 (by omega) ?_ | refine r_u32 (by omega) ?_ | refine r_rem (by omega) ?_ | refine r_quo (by omega) ?_ | refine r_ldb (by assumption) (by rfl) ?_ | refine r_ldbE (by assumption) (by rfl) ?_))); (conv => whnf)
      refine r_stn hblkc (by simp [wCells]) (w_one a1 l1 c1 a2 l2 c2 s) fun w4 hc4 hs4 hblk4 => ?_
      have hblk4 : Blk w4 c 60 (wCells a1 l1 c1 a2 l2 c2 s) := hblk4
      (repeat ((conv => whnf); (first | with_reducible refine r_tt ?_ | with_reducible refine r_ff ?_ | with_reducible refine r_ntt ?_ | with_reducible refine r_nff ?_ | refine r_need (by omega) ?_ | refine r_i64 (by omega) ?_ | refine r_dect (by omega) ?_ | refine r_decf (by omega) ?_ | refine r_eqt (by omega) ?_ | refine r_eqf (by omega) ?_ | refine r_net (by omega) ?_ | refine r_nef (by omega) ?_ | refine r_u8 (by omega) ?_ | refine r_u64 (by omega) ?_ | refine r_i32 (by omega) ?_ | refine r_u32 (by omega) ?_ | refine r_rem (by omega) ?_ | refine r_quo (by omega) ?_ | refine r_ldb (by assumption) (by rfl) ?_ | refine r_ldbE (by assumption) (by rfl) ?_))); (conv => whnf)
      refine r_ldnb (vs := wCells a1 l1 c1 a2 l2 c2 s) hblk4 rfl rfl ?_
      (repeat ((conv => whnf); (first | with_reducible refine r_tt ?_ | with_reducible refine r_ff ?_ | with_reducible refine r_ntt ?_ | with_reducible refine r_nff ?_ | refine r_need (by omega) ?_ | refine r_i64 (by omega) ?_ | refine r_dect (by omega) ?_ | refine r_decf (by omega) ?_ | refine r_eqt (by omega) ?_ | refine r_eqf (by omega) ?_ | refine r_net (by omega) ?_ | refine r_nef (by omega) ?_ | refine r_u8 (by omega) ?_ | refine r_u64 (by omega) ?_ | refine r_i32 (by omega) ?_ | refine r_u32 (by omega) ?_ | refine r_rem (by omega) ?_ | refine r_quo (by omega) ?_ | refine r_ldb (by assumption) (by rfl) ?_ | refine r_ldbE (by assumption) (by rfl) ?_))); (conv => whnf)
      have hx4 : Ext w w4 := Chg.step (hx1.trans hx2) hc4 fun k hk hlt => by have := hx1.size; omega
      exact ⟨hx4, a1, l1, c1, a2, l2, c2, rfl, hw.ext hx4, fun S hS ho => ho⟩
end
end Fb.Try.WN
