/-
  Walks: a window that is told a row of operations.
-/
import Derived.Test.YtoiiohogalmobaaWj
namespace Fb.Try.WN
open Go Go.Proofs Fb Fb.Try.RW
structure PlayW (w0 w : World) (wb eb b mv n : Nat) (s z : St) (g : Option Nat) (a1 : Option Addr) (l1 c1 : Nat) (a2 : Option Addr) (l2 c2 : Nat) : Prop where
  win : Win w wb eb b g s n
  isw : IsW w z a1 l1 c1 a2 l2 c2
  zok : z.Ok n
  off : WOff (WD wb eb b g mv) a1 l1 a2 l2
  mb : ¬ WS wb eb b g mv
  mlt : mv < w.heap.size
  ext : Ext w0 w
  new : ∀ k, WS wb eb b g k → w0.heap.size ≤ k
  nm : w0.heap.size ≤ mv
section
variable {w0 w w' : World} {wb eb b mv n : Nat} {s z : St} {g : Option Nat} {a1 : Option Addr} {l1 c1 : Nat} {a2 : Option Addr} {l2 c2 : Nat}
theorem WOff.mono {S T : Nat → Prop} (h : WOff S a1 l1 a2 l2) (hT : ∀ k, T k → S k) : WOff T a1 l1 a2 l2 := ⟨fun hp ht => h.1 hp (hT _ ht), fun hp ht => h.2 hp (hT _ ht)⟩
theorem PlayW.keep {S : Nat → Prop} (h : PlayW w0 w wb eb b mv n s z g a1 l1 c1 a2 l2 c2) (k : Chg S w w') (hS : ∀ k, S k → ¬ WS wb eb b g k) (ho : WOff S a1 l1 a2 l2) (hn : ∀ k, S k → w0.heap.size ≤ k) : PlayW w0 w' wb eb b mv n s z g a1 l1 c1 a2 l2 c2 :=
  ⟨h.win.keepS k hS, h.isw.keep k ho, h.zok, h.off, h.mb, Nat.lt_of_lt_of_le h.mlt k.size, Chg.step h.ext k fun k hk hlt => by have := hn k hk; omega, h.new, h.nm⟩
theorem PlayW.ext' (h : PlayW w0 w wb eb b mv n s z g a1 l1 c1 a2 l2 c2) (k : Ext w w') : PlayW w0 w' wb eb b mv n s z g a1 l1 c1 a2 l2 c2 :=
  h.keep k (fun _ f => f.elim) ⟨fun _ f => f, fun _ f => f⟩ (fun _ f => f.elim)
theorem PlayW.var (h : PlayW w0 w wb eb b mv n s z g a1 l1 c1 a2 l2 c2) (k : Chg (· = mv) w w') : PlayW w0 w' wb eb b mv n s z g a1 l1 c1 a2 l2 c2 :=
  h.keep k (fun k hk => by rw [hk]; exact h.mb) (h.off.mono fun _ hk => .inr hk) (fun k hk => by rw [hk]; exact h.nm)
theorem PlayW.off' (h : PlayW w0 w wb eb b mv n s z g a1 l1 c1 a2 l2 c2) : WOff (WS wb eb b g) a1 l1 a2 l2 := h.off.mono fun _ hk => .inl hk
theorem PlayW.done {v : Value} {kd x y : Int} (h : PlayW w0 w wb eb b mv n s z g a1 l1 c1 a2 l2 c2) (hn : n + 1 ≤ 1000) (hx : -9223372036854775808 ≤ x ∧ x ≤ 9223372036854775807) (hd : DoneW w wb eb b g n (s.step kd x y) (z.step kd x y) a1 l1 a2 l2 v w') :
    ∃ g' b1 m1 d1 b2 m2 d2 r, v = .tuple ⟨[.agg ⟨wCells b1 m1 d1 b2 m2 d2 (z.step kd x y).1⟩, .bool r]⟩ ∧ (r = true ↔ (s.step kd x y).2 = (z.step kd x y).2) ∧ PlayW w0 w' wb eb b mv (n + 1) (s.step kd x y).1 (z.step kd x y).1 g' b1 m1 d1 b2 m2 d2 ∧ Chg (WS wb eb b g) w w' ∧ Sub w a1 l1 a2 l2 b1 m1 b2 m2 ∧ RW.Arr w g g' := by
  obtain ⟨g', b1, m1, d1, b2, m2, d2, r, rfl, hr, hw, hi, ha, hc, hs, ho9⟩ := hd
  have hm := h.mlt
  have hWD : ∀ k, WD wb eb b g mv k → k < w.heap.size := fun k hk => hk.elim (fun e => h.win.lt e) fun e => by omega
  refine ⟨g', b1, m1, d1, b2, m2, d2, r, rfl, hr, ⟨hw, hi, h.zok.step kd x y hx hn, ?_, ?_, by have := hc.size; omega, Chg.step h.ext hc fun k hk hlt => by have := h.new k hk; omega, WS_new h.new ha h.ext.size, h.nm⟩, hc, hs, ha⟩
  · have ho := hs _ hWD h.off
    exact ⟨fun hp e => e.elim (ho9.1 hp) fun e => ho.1 hp (.inr e), fun hp e => e.elim (ho9.2 hp) fun e => ho.2 hp (.inr e)⟩
  · rcases ha with rfl | ⟨q, rfl, hq⟩
    · exact h.mb
    · rintro (e | e | e | e)
      · exact h.mb (.inl e)
      · exact h.mb (.inr (.inl e))
      · exact h.mb (.inr (.inr (.inl e)))
      · cases e; omega
end
/-- Operations. -/
structure OpW where
  kd : Int
  x : Int
  y : Int
def OpW.cells (o : OpW) : List Value := [.int .u8 o.kd, .int .i64 o.x, .int .i64 o.y]
structure OpsW (w : World) (a : Option Addr) (len cap : Nat) (os : List OpW) : Prop where
  cnt : os.length = len
  view : View w a len cap 3 (os.map OpW.cells).flatten
  big : ∀ o ∈ os, -9223372036854775808 ≤ o.x ∧ o.x ≤ 9223372036854775807
theorem opsW_flat (os : List OpW) (i : Nat) (hi : i < os.length) : ((os.map OpW.cells).flatten.drop (i * 3)).take 3 = (os[i]).cells := by
  induction os generalizing i with
  | nil => simp at hi
  | cons o os ih =>
    cases i with
    | zero => simp [OpW.cells]
    | succ i =>
      rw [show (i + 1) * 3 = 3 + i * 3 by omega, List.map_cons, List.flatten_cons, ← List.drop_drop]
      exact ih i (by simpa using hi)
theorem OpsW.get {w : World} {a : Option Addr} {len cap : Nat} {os : List OpW} (h : OpsW w a len cap os) {i : Nat} (hi : i < len) : ∃ o : OpW, (((os.map OpW.cells).flatten.drop (i * 3)).take 3 = o.cells) ∧ o.cells.length = 3 ∧ (-9223372036854775808 ≤ o.x ∧ o.x ≤ 9223372036854775807) :=
  ⟨os[i]'(by rw [h.cnt]; exact hi), opsW_flat os i (by rw [h.cnt]; exact hi), rfl, h.big _ (List.getElem_mem _)⟩
theorem OpsW.plain {w : World} {a : Option Addr} {len cap : Nat} {os : List OpW} (h : OpsW w a len cap os) (hl : 0 < len) : plainA a :=
  h.view.plain (by
    have := h.view.length
    omega)
theorem opW_one (o : OpW) : ∀ v ∈ o.cells, v.oneCell' = true := by
  intro v hv
  simp [OpW.cells] at hv
  rcases hv with rfl | rfl | rfl <;> rfl
/-- Behind New. -/
theorem PlayW.start {w0 w1 w2 : World} {wb eb b mv : Nat} {k : Nat} (hx : Ext w0 w1) (h1 : w0.heap.size ≤ wb) (h2 : w0.heap.size ≤ eb) (h3 : w0.heap.size ≤ b) (hw : Win w1 wb eb b none ⟨[], [], 0, k⟩ 0) (hx2 : Ext w1 w2) (hm : w1.heap.size ≤ mv) (hm2 : mv < w2.heap.size) :
    PlayW w0 w2 wb eb b mv 0 ⟨[], [], 0, k⟩ ⟨[], [], 0, k⟩ none none 0 0 none 0 0 := by
  have hs := hx.size
  refine ⟨hw.ext hx2, ⟨View.nil _ _, View.nil _ _⟩, hw.ok, ⟨fun hp => by omega, fun hp => by omega⟩, fun e => by have := hw.lt e; omega, hm2, hx.trans hx2, ?_, by omega⟩
  rintro k (rfl | rfl | rfl | e)
  · exact h1
  · exact h2
  · exact h3
  · cases e
set_option maxHeartbeats 1000000 in
set_option maxRecDepth 100000 in
theorem plays_ok {w : World} (keep : Int) {a : Option Addr} {len cap : Nat} {os : List OpW} (hos : OpsW w a len cap os) :
    Cal Try.prog 10 ⟨[.int .i64 keep, .slice a len cap]⟩ w fun v w' => v = .bool true ∧ Ext w w' := by
  have hmax := hos.view.max
  have hle := hos.view.le
  unfold maxLen at hmax
  refine go10 (by rfl) ?_
  by_cases hk : 0 ≤ keep ∧ keep ≤ 4096
  rotate_left
  · (repeat ((conv => whnf); (first | with_reducible refine r_tt ?_ | with_reducible refine r_ff ?_ | with_reducible refine r_ntt ?_ | with_reducible refine r_nff ?_ | refine r_need (by omega) ?_ | refine r_i64 (by omega) ?_ | refine r_dect (by omega) ?_ | refine r_decf (by omega) ?_ | refine r_eqt (by omega) ?_ | refine r_eqf (by omega) ?_ | refine r_net (by omega) ?_ | refine r_nef (by omega) ?_ | refine r_u8 (by omega) ?_ | refine r_u64 (by omega) ?_ | refine r_i32 (by omega) ?_ | refine r_u32 (by omega) ?_ | refine r_rem (by omega) ?_ | refine r_quo (by omega) ?_ | refine r_ldb (by assumption) (by rfl) ?_ | refine r_ldbE (by assumption) (by rfl) ?_))); (conv => whnf)
    refine r_cal (New_no w keep hk) ?_
    rintro _ w1 ⟨rfl, rfl⟩
    by_cases h0 : keep < 0
    all_goals
      (repeat ((conv => whnf); (first | with_reducible refine r_tt ?_ | with_reducible refine r_ff ?_ | with_reducible refine r_ntt ?_ | with_reducible refine r_nff ?_ | refine r_need (by omega) ?_ | refine r_i64 (by omega) ?_ | refine r_dect (by omega) ?_ | refine r_decf (by omega) ?_ | refine r_eqt (by omega) ?_ | refine r_eqf (by omega) ?_ | refine r_net (by omega) ?_ | refine r_nef (by omega) ?_ | refine r_u8 (by omega) ?_ | refine r_u64 (by omega) ?_ | refine r_i32 (by omega) ?_ | refine r_u32 (by omega) ?_ | refine r_rem (by omega) ?_ | refine r_quo (by omega) ?_ | refine r_ldb (by assumption) (by rfl) ?_ | refine r_ldbE (by assumption) (by rfl) ?_))); (conv => whnf)
      refine r_cal (fixed_ok _) ?_
      rintro _ w2 ⟨hx2, rfl⟩
      (repeat ((conv => whnf); (first | with_reducible refine r_tt ?_ | with_reducible refine r_ff ?_ | with_reducible refine r_ntt ?_ | with_reducible refine r_nff ?_ | refine r_need (by omega) ?_ | refine r_i64 (by omega) ?_ | refine r_dect (by omega) ?_ | refine r_decf (by omega) ?_ | refine r_eqt (by omega) ?_ | refine r_eqf (by omega) ?_ | refine r_net (by omega) ?_ | refine r_nef (by omega) ?_ | refine r_u8 (by omega) ?_ | refine r_u64 (by omega) ?_ | refine r_i32 (by omega) ?_ | refine r_u32 (by omega) ?_ | refine r_rem (by omega) ?_ | refine r_quo (by omega) ?_ | refine r_ldb (by assumption) (by rfl) ?_ | refine r_ldbE (by assumption) (by rfl) ?_))); (conv => whnf)
      exact ⟨rfl, hx2⟩
  obtain ⟨k, rfl⟩ : ∃ k : Nat, keep = k := ⟨keep.toNat, by omega⟩
  (repeat ((conv => whnf); (first | with_reducible refine r_tt ?_ | with_reducible refine r_ff ?_ | with_reducible refine r_ntt ?_ | with_reducible refine r_nff ?_ | refine r_need (by omega) ?_ | refine r_i64 (by omega) ?_ | refine r_dect (by omega) ?_ | refine r_decf (by omega) ?_ | refine r_eqt (by omega) ?_ | refine r_eqf (by omega) ?_ | refine r_net (by omega) ?_ | refine r_nef (by omega) ?_ | refine r_u8 (by omega) ?_ | refine r_u64 (by omega) ?_ | refine r_i32 (by omega) ?_ | refine r_u32 (by omega) ?_ | refine r_rem (by omega) ?_ | refine r_quo (by omega) ?_ | refine r_ldb (by assumption) (by rfl) ?_ | refine r_ldbE (by assumption) (by rfl) ?_))); (conv => whnf)
  refine r_cal (New_ok w k hk) ?_
  rintro _ w1 ⟨wb, eb, b, rfl, hx1, h1, h2, h3, hw1⟩
  rw [Int.toNat_natCast] at hw1
  by_cases hlen : 100 < len
  · (repeat ((conv => whnf); (first | with_reducible refine r_tt ?_ | with_reducible refine r_ff ?_ | with_reducible refine r_ntt ?_ | with_reducible refine r_nff ?_ | refine r_need (by omega) ?_ | refine r_i64 (by omega) ?_ | refine r_dect (by omega) ?_ | refine r_decf (by omega) ?_ | refine r_eqt (by omega) ?_ | refine r_eqf (by omega) ?_ | refine r_net (by omega) ?_ | refine r_nef (by omega) ?_ | refine r_u8 (by omega) ?_ | refine r_u64 (by omega) ?_ | refine r_i32 (by omega) ?_ | refine r_u32 (by omega) ?_ | refine r_rem (by omega) ?_ | refine r_quo (by omega) ?_ | refine r_ldb (by assumption) (by rfl) ?_ | refine r_ldbE (by assumption) (by rfl) ?_))); (conv => whnf)
    refine r_cal (fixed_ok _) ?_
    rintro _ w4 ⟨hx4, rfl⟩
    (repeat ((conv => whnf); (first | with_reducible refine r_tt ?_ | with_reducible refine r_ff ?_ | with_reducible refine r_ntt ?_ | with_reducible refine r_nff ?_ | refine r_need (by omega) ?_ | refine r_i64 (by omega) ?_ | refine r_dect (by omega) ?_ | refine r_decf (by omega) ?_ | refine r_eqt (by omega) ?_ | refine r_eqf (by omega) ?_ | refine r_net (by omega) ?_ | refine r_nef (by omega) ?_ | refine r_u8 (by omega) ?_ | refine r_u64 (by omega) ?_ | refine r_i32 (by omega) ?_ | refine r_u32 (by omega) ?_ | refine r_rem (by omega) ?_ | refine r_quo (by omega) ?_ | refine r_ldb (by assumption) (by rfl) ?_ | refine r_ldbE (by assumption) (by rfl) ?_))); (conv => whnf)
    exact ⟨rfl, hx1.trans hx4⟩
  (repeat ((conv => whnf); (first | with_reducible refine r_tt ?_ | with_reducible refine r_ff ?_ | with_reducible refine r_ntt ?_ | with_reducible refine r_nff ?_ | refine r_need (by omega) ?_ | refine r_i64 (by omega) ?_ | refine r_dect (by omega) ?_ | refine r_decf (by omega) ?_ | refine r_eqt (by omega) ?_ | refine r_eqf (by omega) ?_ | refine r_net (by omega) ?_ | refine r_nef (by omega) ?_ | refine r_u8 (by omega) ?_ | refine r_u64 (by omega) ?_ | refine r_i32 (by omega) ?_ | refine r_u32 (by omega) ?_ | refine r_rem (by omega) ?_ | refine r_quo (by omega) ?_ | refine r_ldb (by assumption) (by rfl) ?_ | refine r_ldbE (by assumption) (by rfl) ?_))); (conv => whnf)
  refine r_new fun mv w3 hx3 hb3 hs3 hblk3 => ?_
  (repeat ((conv => whnf); (first | with_reducible refine r_tt ?_ | with_reducible refine r_ff ?_ | with_reducible refine r_ntt ?_ | with_reducible refine r_nff ?_ | refine r_need (by omega) ?_ | refine r_i64 (by omega) ?_ | refine r_dect (by omega) ?_ | refine r_decf (by omega) ?_ | refine r_eqt (by omega) ?_ | refine r_eqf (by omega) ?_ | refine r_net (by omega) ?_ | refine r_nef (by omega) ?_ | refine r_u8 (by omega) ?_ | refine r_u64 (by omega) ?_ | refine r_i32 (by omega) ?_ | refine r_u32 (by omega) ?_ | refine r_rem (by omega) ?_ | refine r_quo (by omega) ?_ | refine r_ldb (by assumption) (by rfl) ?_ | refine r_ldbE (by assumption) (by rfl) ?_))); (conv => whnf)
  refine r_stn hblk3 (by simp) (w_one none 0 0 none 0 0 ⟨[], [], 0, k⟩) fun w4 hc4 hs4 hblk4 => ?_
  have hblk4 : Blk w4 mv 60 (wCells none 0 0 none 0 0 ⟨[], [], 0, k⟩) := hblk4
  have hx14 : Ext w1 w4 := Chg.step hx3 hc4 fun k hk hlt => by omega
  have hp4 := PlayW.start hx1 h1 h2 h3 hw1 hx14 hb3 hblk4.lt
  (repeat ((conv => whnf); (first | with_reducible refine r_tt ?_ | with_reducible refine r_ff ?_ | with_reducible refine r_ntt ?_ | with_reducible refine r_nff ?_ | refine r_need (by omega) ?_ | refine r_i64 (by omega) ?_ | refine r_dect (by omega) ?_ | refine r_decf (by omega) ?_ | refine r_eqt (by omega) ?_ | refine r_eqf (by omega) ?_ | refine r_net (by omega) ?_ | refine r_nef (by omega) ?_ | refine r_u8 (by omega) ?_ | refine r_u64 (by omega) ?_ | refine r_i32 (by omega) ?_ | refine r_u32 (by omega) ?_ | refine r_rem (by omega) ?_ | refine r_quo (by omega) ?_ | refine r_ldb (by assumption) (by rfl) ?_ | refine r_ldbE (by assumption) (by rfl) ?_))); (conv => whnf)
  refine r_loop (σ := Nat) (fun i => [.int .i64 (i : Int)]) (fun i w' => i ≤ len ∧ ∃ s g a1 l1 c1 a2 l2 c2, PlayW w w' wb eb b mv i s s g a1 l1 c1 a2 l2 c2 ∧ Blk w' mv 60 (wCells a1 l1 c1 a2 l2 c2 s)) (fun i _ => len - i) 0 rfl ⟨by omega, _, _, _, _, _, _, _, _, hp4, hblk4⟩ ?_
  clear hp4 hblk4 hblk3
  rintro i w5 again ⟨hi, s, g, a1, l1, c1, a2, l2, c2, hp, hm⟩ hagain
  by_cases hil : i < len
  · obtain ⟨o, ho, hol, hob⟩ := hos.get hil
    have hpl := hos.plain (by omega)
    (repeat ((conv => whnf); (first | with_reducible refine r_tt ?_ | with_reducible refine r_ff ?_ | with_reducible refine r_ntt ?_ | with_reducible refine r_nff ?_ | refine r_need (by omega) ?_ | refine r_i64 (by omega) ?_ | refine r_dect (by omega) ?_ | refine r_decf (by omega) ?_ | refine r_eqt (by omega) ?_ | refine r_eqf (by omega) ?_ | refine r_net (by omega) ?_ | refine r_nef (by omega) ?_ | refine r_u8 (by omega) ?_ | refine r_u64 (by omega) ?_ | refine r_i32 (by omega) ?_ | refine r_u32 (by omega) ?_ | refine r_rem (by omega) ?_ | refine r_quo (by omega) ?_ | refine r_ldb (by assumption) (by rfl) ?_ | refine r_ldbE (by assumption) (by rfl) ?_))); (conv => whnf)
    refine r_ldnv (j := (i : Int).toNat * 3) (hos.view.ext hp.ext) (by simpa using ho) hol ?_
    (repeat ((conv => whnf); (first | with_reducible refine r_tt ?_ | with_reducible refine r_ff ?_ | with_reducible refine r_ntt ?_ | with_reducible refine r_nff ?_ | refine r_need (by omega) ?_ | refine r_i64 (by omega) ?_ | refine r_dect (by omega) ?_ | refine r_decf (by omega) ?_ | refine r_eqt (by omega) ?_ | refine r_eqf (by omega) ?_ | refine r_net (by omega) ?_ | refine r_nef (by omega) ?_ | refine r_u8 (by omega) ?_ | refine r_u64 (by omega) ?_ | refine r_i32 (by omega) ?_ | refine r_u32 (by omega) ?_ | refine r_rem (by omega) ?_ | refine r_quo (by omega) ?_ | refine r_ldb (by assumption) (by rfl) ?_ | refine r_ldbE (by assumption) (by rfl) ?_))); (conv => whnf)
    refine r_new fun bo w6 hx6 hb6 hs6 hblk6 => ?_
    (repeat ((conv => whnf); (first | with_reducible refine r_tt ?_ | with_reducible refine r_ff ?_ | with_reducible refine r_ntt ?_ | with_reducible refine r_nff ?_ | refine r_need (by omega) ?_ | refine r_i64 (by omega) ?_ | refine r_dect (by omega) ?_ | refine r_decf (by omega) ?_ | refine r_eqt (by omega) ?_ | refine r_eqf (by omega) ?_ | refine r_net (by omega) ?_ | refine r_nef (by omega) ?_ | refine r_u8 (by omega) ?_ | refine r_u64 (by omega) ?_ | refine r_i32 (by omega) ?_ | refine r_u32 (by omega) ?_ | refine r_rem (by omega) ?_ | refine r_quo (by omega) ?_ | refine r_ldb (by assumption) (by rfl) ?_ | refine r_ldbE (by assumption) (by rfl) ?_))); (conv => whnf)
    refine r_stn hblk6 (by simp [OpW.cells]) (opW_one o) fun w7 hc7 hs7 hblk7 => ?_
    have hblk7 : Blk w7 bo 62 o.cells := hblk7
    have hx57 : Ext w5 w7 := Chg.step hx6 hc7 fun k hk hlt => by omega
    have hp7 := hp.ext' hx57
    have hm7 := hm.ext hx57
    (repeat ((conv => whnf); (first | with_reducible refine r_tt ?_ | with_reducible refine r_ff ?_ | with_reducible refine r_ntt ?_ | with_reducible refine r_nff ?_ | refine r_need (by omega) ?_ | refine r_i64 (by omega) ?_ | refine r_dect (by omega) ?_ | refine r_decf (by omega) ?_ | refine r_eqt (by omega) ?_ | refine r_eqf (by omega) ?_ | refine r_net (by omega) ?_ | refine r_nef (by omega) ?_ | refine r_u8 (by omega) ?_ | refine r_u64 (by omega) ?_ | refine r_i32 (by omega) ?_ | refine r_u32 (by omega) ?_ | refine r_rem (by omega) ?_ | refine r_quo (by omega) ?_ | refine r_ldb (by assumption) (by rfl) ?_ | refine r_ldbE (by assumption) (by rfl) ?_))); (conv => whnf)
    refine r_ldnb (vs := wCells a1 l1 c1 a2 l2 c2 s) hm7 rfl rfl ?_
    (repeat ((conv => whnf); (first | with_reducible refine r_tt ?_ | with_reducible refine r_ff ?_ | with_reducible refine r_ntt ?_ | with_reducible refine r_nff ?_ | refine r_need (by omega) ?_ | refine r_i64 (by omega) ?_ | refine r_dect (by omega) ?_ | refine r_decf (by omega) ?_ | refine r_eqt (by omega) ?_ | refine r_eqf (by omega) ?_ | refine r_net (by omega) ?_ | refine r_nef (by omega) ?_ | refine r_u8 (by omega) ?_ | refine r_u64 (by omega) ?_ | refine r_i32 (by omega) ?_ | refine r_u32 (by omega) ?_ | refine r_rem (by omega) ?_ | refine r_quo (by omega) ?_ | refine r_ldb (by assumption) (by rfl) ?_ | refine r_ldbE (by assumption) (by rfl) ?_))); (conv => whnf)
    refine r_ldnb (vs := o.cells) hblk7 rfl rfl ?_
    (repeat ((conv => whnf); (first | with_reducible refine r_tt ?_ | with_reducible refine r_ff ?_ | with_reducible refine r_ntt ?_ | with_reducible refine r_nff ?_ | refine r_need (by omega) ?_ | refine r_i64 (by omega) ?_ | refine r_dect (by omega) ?_ | refine r_decf (by omega) ?_ | refine r_eqt (by omega) ?_ | refine r_eqf (by omega) ?_ | refine r_net (by omega) ?_ | refine r_nef (by omega) ?_ | refine r_u8 (by omega) ?_ | refine r_u64 (by omega) ?_ | refine r_i32 (by omega) ?_ | refine r_u32 (by omega) ?_ | refine r_rem (by omega) ?_ | refine r_quo (by omega) ?_ | refine r_ldb (by assumption) (by rfl) ?_ | refine r_ldbE (by assumption) (by rfl) ?_))); (conv => whnf)
    refine r_cal (does_ok hp7.win hp7.isw hp7.zok hp7.off' (by omega) o.kd o.x o.y hob) ?_
    rintro _ w8 hd
    obtain ⟨g', b1, m1, d1, b2, m2, d2, r, rfl, hr, hp8, hc8, -, -⟩ := hp7.done (by omega) hob hd
    have hr : r = true := hr.2 rfl
    subst hr
    have hm8 := hm7.keep hc8 hp7.mb
    generalize (s.step o.kd o.x o.y).1 = s' at hp8
    (repeat ((conv => whnf); (first | with_reducible refine r_tt ?_ | with_reducible refine r_ff ?_ | with_reducible refine r_ntt ?_ | with_reducible refine r_nff ?_ | refine r_need (by omega) ?_ | refine r_i64 (by omega) ?_ | refine r_dect (by omega) ?_ | refine r_decf (by omega) ?_ | refine r_eqt (by omega) ?_ | refine r_eqf (by omega) ?_ | refine r_net (by omega) ?_ | refine r_nef (by omega) ?_ | refine r_u8 (by omega) ?_ | refine r_u64 (by omega) ?_ | refine r_i32 (by omega) ?_ | refine r_u32 (by omega) ?_ | refine r_rem (by omega) ?_ | refine r_quo (by omega) ?_ | refine r_ldb (by assumption) (by rfl) ?_ | refine r_ldbE (by assumption) (by rfl) ?_))); (conv => whnf)
    refine r_new fun bn w9 hx9 hb9 hs9 hblk9 => ?_
    (repeat ((conv => whnf); (first | with_reducible refine r_tt ?_ | with_reducible refine r_ff ?_ | with_reducible refine r_ntt ?_ | with_reducible refine r_nff ?_ | refine r_need (by omega) ?_ | refine r_i64 (by omega) ?_ | refine r_dect (by omega) ?_ | refine r_decf (by omega) ?_ | refine r_eqt (by omega) ?_ | refine r_eqf (by omega) ?_ | refine r_net (by omega) ?_ | refine r_nef (by omega) ?_ | refine r_u8 (by omega) ?_ | refine r_u64 (by omega) ?_ | refine r_i32 (by omega) ?_ | refine r_u32 (by omega) ?_ | refine r_rem (by omega) ?_ | refine r_quo (by omega) ?_ | refine r_ldb (by assumption) (by rfl) ?_ | refine r_ldbE (by assumption) (by rfl) ?_))); (conv => whnf)
    refine r_stn hblk9 (by simp [wCells]) (w_one _ _ _ _ _ _ _) fun w10 hc10 hs10 hblk10 => ?_
    have hblk10 : Blk w10 bn 60 (wCells b1 m1 d1 b2 m2 d2 s') := hblk10
    have hx810 : Ext w8 w10 := Chg.step hx9 hc10 fun k hk hlt => by omega
    (repeat ((conv => whnf); (first | with_reducible refine r_tt ?_ | with_reducible refine r_ff ?_ | with_reducible refine r_ntt ?_ | with_reducible refine r_nff ?_ | refine r_need (by omega) ?_ | refine r_i64 (by omega) ?_ | refine r_dect (by omega) ?_ | refine r_decf (by omega) ?_ | refine r_eqt (by omega) ?_ | refine r_eqf (by omega) ?_ | refine r_net (by omega) ?_ | refine r_nef (by omega) ?_ | refine r_u8 (by omega) ?_ | refine r_u64 (by omega) ?_ | refine r_i32 (by omega) ?_ | refine r_u32 (by omega) ?_ | refine r_rem (by omega) ?_ | refine r_quo (by omega) ?_ | refine r_ldb (by assumption) (by rfl) ?_ | refine r_ldbE (by assumption) (by rfl) ?_))); (conv => whnf)
    refine r_ldnb (vs := wCells b1 m1 d1 b2 m2 d2 s') hblk10 rfl rfl ?_
    (repeat ((conv => whnf); (first | with_reducible refine r_tt ?_ | with_reducible refine r_ff ?_ | with_reducible refine r_ntt ?_ | with_reducible refine r_nff ?_ | refine r_need (by omega) ?_ | refine r_i64 (by omega) ?_ | refine r_dect (by omega) ?_ | refine r_decf (by omega) ?_ | refine r_eqt (by omega) ?_ | refine r_eqf (by omega) ?_ | refine r_net (by omega) ?_ | refine r_nef (by omega) ?_ | refine r_u8 (by omega) ?_ | refine r_u64 (by omega) ?_ | refine r_i32 (by omega) ?_ | refine r_u32 (by omega) ?_ | refine r_rem (by omega) ?_ | refine r_quo (by omega) ?_ | refine r_ldb (by assumption) (by rfl) ?_ | refine r_ldbE (by assumption) (by rfl) ?_))); (conv => whnf)
    refine r_stn (hm8.ext hx810) (by simp [wCells]) (w_one _ _ _ _ _ _ _) fun w11 hc11 hs11 hblk11 => ?_
    have hblk11 : Blk w11 mv 60 (wCells b1 m1 d1 b2 m2 d2 s') := hblk11
    have hp11 := (hp8.ext' hx810).var hc11
    (repeat ((conv => whnf); (first | with_reducible refine r_tt ?_ | with_reducible refine r_ff ?_ | with_reducible refine r_ntt ?_ | with_reducible refine r_nff ?_ | refine r_need (by omega) ?_ | refine r_i64 (by omega) ?_ | refine r_dect (by omega) ?_ | refine r_decf (by omega) ?_ | refine r_eqt (by omega) ?_ | refine r_eqf (by omega) ?_ | refine r_net (by omega) ?_ | refine r_nef (by omega) ?_ | refine r_u8 (by omega) ?_ | refine r_u64 (by omega) ?_ | refine r_i32 (by omega) ?_ | refine r_u32 (by omega) ?_ | refine r_rem (by omega) ?_ | refine r_quo (by omega) ?_ | refine r_ldb (by assumption) (by rfl) ?_ | refine r_ldbE (by assumption) (by rfl) ?_))); (conv => whnf)
    refine r_ldnb (vs := wCells b1 m1 d1 b2 m2 d2 s') hblk11 rfl rfl ?_
    (repeat ((conv => whnf); (first | with_reducible refine r_tt ?_ | with_reducible refine r_ff ?_ | with_reducible refine r_ntt ?_ | with_reducible refine r_nff ?_ | refine r_need (by omega) ?_ | refine r_i64 (by omega) ?_ | refine r_dect (by omega) ?_ | refine r_decf (by omega) ?_ | refine r_eqt (by omega) ?_ | refine r_eqf (by omega) ?_ | refine r_net (by omega) ?_ | refine r_nef (by omega) ?_ | refine r_u8 (by omega) ?_ | refine r_u64 (by omega) ?_ | refine r_i32 (by omega) ?_ | refine r_u32 (by omega) ?_ | refine r_rem (by omega) ?_ | refine r_quo (by omega) ?_ | refine r_ldb (by assumption) (by rfl) ?_ | refine r_ldbE (by assumption) (by rfl) ?_))); (conv => whnf)
    refine r_cal (is_ok hp11.win hp11.isw) ?_
    rintro _ w12 ⟨hx12, rfl⟩
    (repeat ((conv => whnf); (first | with_reducible refine r_tt ?_ | with_reducible refine r_ff ?_ | with_reducible refine r_ntt ?_ | with_reducible refine r_nff ?_ | refine r_need (by omega) ?_ | refine r_i64 (by omega) ?_ | refine r_dect (by omega) ?_ | refine r_decf (by omega) ?_ | refine r_eqt (by omega) ?_ | refine r_eqf (by omega) ?_ | refine r_net (by omega) ?_ | refine r_nef (by omega) ?_ | refine r_u8 (by omega) ?_ | refine r_u64 (by omega) ?_ | refine r_i32 (by omega) ?_ | refine r_u32 (by omega) ?_ | refine r_rem (by omega) ?_ | refine r_quo (by omega) ?_ | refine r_ldb (by assumption) (by rfl) ?_ | refine r_ldbE (by assumption) (by rfl) ?_))); (conv => whnf)
    exact hagain (i + 1) _ ⟨by omega, _, _, _, _, _, _, _, _, hp11.ext' hx12, hblk11.ext hx12⟩ (by omega)
  · (repeat ((conv => whnf); (first | with_reducible refine r_tt ?_ | with_reducible refine r_ff ?_ | with_reducible refine r_ntt ?_ | with_reducible refine r_nff ?_ | refine r_need (by omega) ?_ | refine r_i64 (by omega) ?_ | refine r_dect (by omega) ?_ | refine r_decf (by omega) ?_ | refine r_eqt (by omega) ?_ | refine r_eqf (by omega) ?_ | refine r_net (by omega) ?_ | refine r_nef (by omega) ?_ | refine r_u8 (by omega) ?_ | refine r_u64 (by omega) ?_ | refine r_i32 (by omega) ?_ | refine r_u32 (by omega) ?_ | refine r_rem (by omega) ?_ | refine r_quo (by omega) ?_ | refine r_ldb (by assumption) (by rfl) ?_ | refine r_ldbE (by assumption) (by rfl) ?_))); (conv => whnf)
    refine r_cal (fixed_ok _) ?_
    rintro _ w6 ⟨hx6, rfl⟩
    have hp6 := hp.ext' hx6
    (repeat ((conv => whnf); (first | with_reducible refine r_tt ?_ | with_reducible refine r_ff ?_ | with_reducible refine r_ntt ?_ | with_reducible refine r_nff ?_ | refine r_need (by omega) ?_ | refine r_i64 (by omega) ?_ | refine r_dect (by omega) ?_ | refine r_decf (by omega) ?_ | refine r_eqt (by omega) ?_ | refine r_eqf (by omega) ?_ | refine r_net (by omega) ?_ | refine r_nef (by omega) ?_ | refine r_u8 (by omega) ?_ | refine r_u64 (by omega) ?_ | refine r_i32 (by omega) ?_ | refine r_u32 (by omega) ?_ | refine r_rem (by omega) ?_ | refine r_quo (by omega) ?_ | refine r_ldb (by assumption) (by rfl) ?_ | refine r_ldbE (by assumption) (by rfl) ?_))); (conv => whnf)
    refine r_ldnb (vs := wCells a1 l1 c1 a2 l2 c2 s) (hm.ext hx6) rfl rfl ?_
    (repeat ((conv => whnf); (first | with_reducible refine r_tt ?_ | with_reducible refine r_ff ?_ | with_reducible refine r_ntt ?_ | with_reducible refine r_nff ?_ | refine r_need (by omega) ?_ | refine r_i64 (by omega) ?_ | refine r_dect (by omega) ?_ | refine r_decf (by omega) ?_ | refine r_eqt (by omega) ?_ | refine r_eqf (by omega) ?_ | refine r_net (by omega) ?_ | refine r_nef (by omega) ?_ | refine r_u8 (by omega) ?_ | refine r_u64 (by omega) ?_ | refine r_i32 (by omega) ?_ | refine r_u32 (by omega) ?_ | refine r_rem (by omega) ?_ | refine r_quo (by omega) ?_ | refine r_ldb (by assumption) (by rfl) ?_ | refine r_ldbE (by assumption) (by rfl) ?_))); (conv => whnf)
    refine r_cal (is_ok hp6.win hp6.isw) ?_
    rintro _ w7 ⟨hx7, rfl⟩
    (repeat ((conv => whnf); (first | with_reducible refine r_tt ?_ | with_reducible refine r_ff ?_ | with_reducible refine r_ntt ?_ | with_reducible refine r_nff ?_ | refine r_need (by omega) ?_ | refine r_i64 (by omega) ?_ | refine r_dect (by omega) ?_ | refine r_decf (by omega) ?_ | refine r_eqt (by omega) ?_ | refine r_eqf (by omega) ?_ | refine r_net (by omega) ?_ | refine r_nef (by omega) ?_ | refine r_u8 (by omega) ?_ | refine r_u64 (by omega) ?_ | refine r_i32 (by omega) ?_ | refine r_u32 (by omega) ?_ | refine r_rem (by omega) ?_ | refine r_quo (by omega) ?_ | refine r_ldb (by assumption) (by rfl) ?_ | refine r_ldbE (by assumption) (by rfl) ?_))); (conv => whnf)
    exact ⟨rfl, hp6.ext.trans hx7⟩
end Fb.Try.WN
