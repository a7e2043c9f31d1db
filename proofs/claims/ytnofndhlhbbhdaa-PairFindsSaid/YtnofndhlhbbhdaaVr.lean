/-
  Rules for walking with the calculus: one for each thing that is asked.
-/
import Derived.Test.YtnofndhlhbbhdaaVw
import Derived.Laws.AppendOwn
import Derived.Laws.AppendOwnNone
import Derived.Below
import Derived.IntWalk
namespace Fb
open Go Go.RowKit

/-! ### How worlds change -/
/-- What was there is as it was, but for the blocks of 'S'. -/
structure Chg (S : Nat → Prop) (w w' : World) : Prop where
  os : w'.os = w.os
  tape : w'.tape = w.tape
  output : w'.output = w.output
  size : w.heap.size ≤ w'.heap.size
  block : ∀ k, k < w.heap.size → ¬ S k → w'.heap[k]? = w.heap[k]?

abbrev Ext := Chg (fun _ => False)

theorem Chg.refl (S : Nat → Prop) (w : World) : Chg S w w := ⟨rfl, rfl, rfl, Nat.le_refl _, fun _ _ _ => rfl⟩
theorem Ext.refl (w : World) : Ext w w := Chg.refl _ w
theorem Chg.mono {S T : Nat → Prop} {w w' : World} (h : Chg S w w') (hst : ∀ k, k < w.heap.size → S k → T k) : Chg T w w' :=
  ⟨h.os, h.tape, h.output, h.size, fun k hk ht => h.block k hk fun hs => ht (hst k hk hs)⟩
/-- One step more, that touches what is new, or of 'S'. -/
theorem Chg.step {S T : Nat → Prop} {w0 w w' : World} (h : Chg S w0 w) (k : Chg T w w') (hT : ∀ b, T b → b < w0.heap.size → S b) : Chg S w0 w' :=
  ⟨k.os.trans h.os, k.tape.trans h.tape, k.output.trans h.output, Nat.le_trans h.size k.size,
    fun b hb hs => (k.block b (Nat.lt_of_lt_of_le hb h.size) fun ht => hs (hT b ht hb)).trans (h.block b hb hs)⟩
theorem Chg.ext {S : Nat → Prop} {w0 w w' : World} (h : Chg S w0 w) (k : Ext w w') : Chg S w0 w' := Chg.step h k fun _ hf _ => hf.elim
theorem Ext.trans {w0 w w' : World} (h : Ext w0 w) (k : Ext w w') : Ext w0 w' := h.ext k
/-- A step that touches one block, a new one. -/
theorem Chg.new {S : Nat → Prop} {w0 w w' : World} {b : Nat} (h : Chg S w0 w) (k : Chg (· = b) w w') (hb : w0.heap.size ≤ b) : Chg S w0 w' :=
  Chg.step h k fun c hc hlt => by subst hc; omega
/-- Two steps that touch the same blocks. -/
theorem Chg.trans {S : Nat → Prop} {w0 w w' : World} (h : Chg S w0 w) (k : Chg S w w') : Chg S w0 w' := Chg.step h k fun _ hs _ => hs
theorem Ext.drew (w : World) : Ext w w.drew := ⟨rfl, rfl, rfl, Nat.le_refl _, fun _ _ _ => rfl⟩
theorem Ext.below {w w' : World} (h : Ext w w') : Below w.heap.size w w' := ⟨h.os, h.tape, h.output, h.size, fun k hk => h.block k hk fun hf => hf⟩
theorem Ext.alloc (w : World) (o : Obj) : Ext w (w.alloc o) := ⟨rfl, rfl, rfl, by simp, fun k hk _ => Below.heap_alloc w o k hk⟩

theorem Chg.wide {w w' : World} (h : Ext w w') (S : Nat → Prop) : Chg S w w' := Chg.mono h fun _ _ h => h.elim
/-- A block of cells that nothing is frozen in. -/
def Blk (w : World) (b : Nat) (e : TypeId) (cs : List Value) : Prop := w.heap[b]? = some (.cells ⟨cs⟩ e (0, 0))

theorem Blk.lt {w : World} {b : Nat} {e : TypeId} {cs : List Value} (h : Blk w b e cs) : b < w.heap.size := (Array.getElem?_eq_some_iff.1 h).1
theorem Blk.keep {S : Nat → Prop} {w w' : World} {b : Nat} {e : TypeId} {cs : List Value} (h : Blk w b e cs) (k : Chg S w w') (hs : ¬ S b) : Blk w' b e cs :=
  (k.block b h.lt hs).trans h
theorem Blk.ext {w w' : World} {b : Nat} {e : TypeId} {cs : List Value} (h : Blk w b e cs) (k : Ext w w') : Blk w' b e cs := h.keep k fun hf => hf
theorem Blk.cell {w : World} {b : Nat} {e : TypeId} {cs : List Value} (h : Blk w b e cs) (i : Nat) : w.cell? ⟨b, i, none⟩ = cs[i]? := by
  unfold Blk at h
  simp [World.cell?, h]
theorem Blk.frozen {w : World} {b : Nat} {e : TypeId} {cs : List Value} (h : Blk w b e cs) (i : Nat) : w.frozen? ⟨b, i, none⟩ = false := by
  unfold Blk at h
  simp [World.frozen?, h]

theorem Chg.set {w : World} {b : Nat} {e : TypeId} {cs : List Value} (h : Blk w b e cs) (i : Nat) (v : Value) :
    Chg (· = b) w (w.setCell ⟨b, i, none⟩ v) ∧ (w.setCell ⟨b, i, none⟩ v).heap.size = w.heap.size ∧ Blk (w.setCell ⟨b, i, none⟩ v) b e (cs.set i v) := by
  refine ⟨⟨rfl, rfl, rfl, by simp [World.setCell], fun k _ hk => ?_⟩, by simp [World.setCell], ?_⟩
  · simp only [World.setCell, Array.getElem?_modify]
    rw [if_neg (by omega)]
  · unfold Blk at *
    simp [World.setCell, Array.getElem?_modify, h]

/-! ### Slices that are read -/
/-- A slice's cells. -/
structure View (w : World) (a : Option Addr) (len cap size : Nat) (L : List Value) : Prop where
  length : L.length = len * size
  le : len ≤ cap
  max : cap ≤ maxLen
  plain : 0 < L.length → plainA a
  cell : ∀ i u, L[i]? = some u → w.cell? ⟨blk a, ofs a + i, none⟩ = some u

theorem View.lt {w : World} {a : Option Addr} {len cap size : Nat} {L : List Value} (h : View w a len cap size L) (hl : 0 < L.length) : blk a < w.heap.size := by
  have := h.cell 0 L[0] (by simp [hl])
  exact World.block_lt_of_cell? w _ this
theorem View.keep {S : Nat → Prop} {w w' : World} {a : Option Addr} {len cap size : Nat} {L : List Value} (h : View w a len cap size L) (k : Chg S w w') (hs : ¬ S (blk a)) : View w' a len cap size L :=
  ⟨h.length, h.le, h.max, h.plain, fun i u hu => by
    have hc := h.cell i u hu
    have hb := World.block_lt_of_cell? w _ hc
    have he := k.block (blk a) hb hs
    simp only [World.cell?, he] at hc ⊢
    exact hc⟩
theorem View.ext {w w' : World} {a : Option Addr} {len cap size : Nat} {L : List Value} (h : View w a len cap size L) (k : Ext w w') : View w' a len cap size L := h.keep k fun hf => hf
theorem View.nil (w : World) (size : Nat) : View w none 0 0 size [] := ⟨by simp, by omega, by simp [maxLen], by simp, by simp⟩

theorem View.int {w : World} {a : Option Addr} {len cap : Nat} {xs : List Int} (h : View w a len cap 1 (xs.map (.int .i64))) : xs.length = len := by
  have := h.length
  simpa using this

/-- What the call itself made, as a slice to read. -/
theorem View.of_own {w : World} {base : Nat} {e : TypeId} {size : Nat} {v : Value} {n : Nat} {xs : List Value} (h : w.ownsRow base e size v n xs) :
    ∃ a cap, v = .slice a n cap ∧ View w a n cap size xs ∧ (a = none → n = 0) ∧ (∀ ad, a = some ad → base ≤ ad.block) := by
  obtain ⟨h1, h2⟩ := h
  rcases h2 with ⟨rfl, rfl⟩ | ⟨g, cap, cur, rfl, hb, hg, hn, hc, hs, ht⟩
  · have hx : xs = [] := by simpa using h1
    subst hx
    exact ⟨none, 0, rfl, View.nil w size, fun _ => rfl, fun _ h => by cases h⟩
  · refine ⟨_, cap, rfl, ⟨h1, hn, hc, fun _ => rfl, fun i u hu => ?_⟩, (fun h => by cases h), (fun ad h => by cases h; exact hb)⟩
    rw [← ht, List.getElem?_take] at hu
    split at hu
    · simp only [blk, ofs, Nat.zero_add, World.cell?, hg]
      simpa using hu
    · cases hu

/-- A whole block, as a slice. -/
theorem View.of_blk {w : World} {b n size : Nat} {e : TypeId} {cs : List Value} (h : Blk w b e cs) (hl : cs.length = n * size) (hm : n ≤ maxLen) : View w (some ⟨b, 0, none⟩) n n size cs :=
  ⟨hl, Nat.le_refl _, hm, fun _ => rfl, fun i u hu => by simp only [blk, ofs, Nat.zero_add]; rw [h.cell]; exact hu⟩

/-- What the call made stays where something else is touched. -/
theorem own_keep {S : Nat → Prop} {w w' : World} {base : Nat} {e : TypeId} {size : Nat} {v : Value} {n : Nat} {xs : List Value} (h : w.ownsRow base e size v n xs) (k : Chg S w w') (hs : ∀ b, v.ownBlock = some b → ¬ S b) : w'.ownsRow base e size v n xs := by
  refine ⟨h.1, ?_⟩
  rcases h.2 with hn | ⟨g, cap, cur, rfl, hb, hgg, rest⟩
  · exact .inl hn
  · exact .inr ⟨g, cap, cur, rfl, hb, (k.block g (Array.getElem?_eq_some_iff.1 hgg).1 (hs g rfl)).trans hgg, rest⟩
theorem own_ext {w w' : World} {base : Nat} {e : TypeId} {size : Nat} {v : Value} {n : Nat} {xs : List Value} (h : w.ownsRow base e size v n xs) (k : Ext w w') : w'.ownsRow base e size v n xs := own_keep h k fun _ _ hf => hf
/-- A step on what the call made, seen from where the call began. -/
theorem Chg.own {S : Nat → Prop} {w0 w w' : World} {e : TypeId} {size : Nat} {v : Value} {n : Nat} {xs : List Value} (h : Chg S w0 w) (k : Chg (fun b => v.ownBlock = some b) w w') (ho : w.ownsRow w0.heap.size e size v n xs) : Chg S w0 w' :=
  h.step k fun b hb hlt => absurd (ho.lt b hb).1 (by omega)

/-- A part of a slice. -/
theorem View.sub {w : World} {a : Option Addr} {len cap size : Nat} {L : List Value} (h : View w a len cap size L) (l k : Nat) (hlk : l ≤ k) (hk : k ≤ len) : View w (slcA a cap l size) (k - l) (cap - l) size ((L.drop (l * size)).take ((k - l) * size)) := by
  have hlen : ((L.drop (l * size)).take ((k - l) * size)).length = (k - l) * size := by
    rw [List.length_take, List.length_drop, h.length, ← Nat.sub_mul]
    exact Nat.min_eq_left (Nat.mul_le_mul_right _ (by omega))
  have hle := h.le
  refine ⟨hlen, by omega, by have := h.max; omega, fun hpos => ?_, fun i u hu => ?_⟩
  · rw [hlen] at hpos
    have hne : cap ≠ l := fun e => by
      have : k - l = 0 := by omega
      rw [this] at hpos; omega
    have hp := h.plain (by rw [h.length]; exact Nat.lt_of_lt_of_le hpos (Nat.mul_le_mul_right _ (by omega)))
    unfold slcA
    rw [if_neg hne]
    unfold plainA at *
    generalize blk a = x at hp
    generalize ofs a = y at hp
    subst hp
    simp [blk, ofs, Addr.add_plain]
  · have hi : i < (k - l) * size := by
      rw [← hlen]
      exact (List.getElem?_eq_some_iff.1 hu).1
    have hne : cap ≠ l := fun e => by
      have : k - l = 0 := by omega
      rw [this] at hi; omega
    have hp := h.plain (by rw [h.length]; exact Nat.lt_of_lt_of_le (Nat.zero_lt_of_lt hi) (Nat.mul_le_mul_right _ (by omega)))
    have hu' : L[l * size + i]? = some u := by
      rw [List.getElem?_take_of_lt hi, List.getElem?_drop] at hu
      exact hu
    have hc := h.cell _ u hu'
    unfold slcA
    rw [if_neg hne]
    unfold plainA at hp
    rw [hp]
    rw [← Nat.add_assoc] at hc
    generalize blk a = x at hp hc
    generalize ofs a = y at hp hc
    subst hp
    simp only [Option.map_some, Addr.add_plain, blk, ofs]
    exact hc

theorem own_ne {w : World} {base e e' size b : Nat} {v : Value} {n : Nat} {xs cs : List Value} (h : w.ownsRow base e size v n xs) (hb : Blk w b e' cs) (he : e ≠ e') : v.ownBlock ≠ some b := by
  intro ho
  rcases h.2 with ⟨rfl, _⟩ | ⟨g, cap, cur, rfl, _, hg, _⟩
  · cases ho
  · cases ho
    unfold Blk at hb
    rw [hb] at hg
    cases hg
    exact he rfl
theorem Chg.cell {S : Nat → Prop} {w w' : World} {b o : Nat} {v : Value} (h : Chg S w w') (hc : w.cell? ⟨b, o, none⟩ = some v) (hs : ¬ S b) : w'.cell? ⟨b, o, none⟩ = some v := by
  have hb := World.block_lt_of_cell? w _ hc
  have he := h.block b hb hs
  simp only [World.cell?, he] at hc ⊢
  exact hc
theorem own_ge {w : World} {base e size k : Nat} {v : Value} {n : Nat} {xs : List Value} (h : w.ownsRow base e size v n xs) (ho : v.ownBlock = some k) : base ≤ k := (h.lt k ho).1
theorem oneCell_own {w : World} {base e size : Nat} {v : Value} {n : Nat} {xs : List Value} (h : w.ownsRow base e size v n xs) : v.oneCell' = true := by
  rcases h.2 with ⟨rfl, _⟩ | ⟨g, cap, cur, rfl, _⟩ <;> rfl
theorem View.keepN {S : Nat → Prop} {w w' : World} {a : Option Addr} {len cap size : Nat} {L : List Value} (h : View w a len cap size L) (k : Chg S w w') (hs : 0 < L.length → ¬ S (blk a)) : View w' a len cap size L :=
  ⟨h.length, h.le, h.max, h.plain, fun i u hu => Chg.cell k (h.cell i u hu) (hs (Nat.lt_of_le_of_lt (Nat.zero_le _) (List.getElem?_eq_some_iff.1 hu).1))⟩
theorem own_mono {w : World} {base base' e size : Nat} {v : Value} {n : Nat} {xs : List Value} (h : w.ownsRow base e size v n xs) (hb : base' ≤ base) : w.ownsRow base' e size v n xs := by
  refine ⟨h.1, ?_⟩
  rcases h.2 with hn | ⟨g, cap, cur, hv, hbg, rest⟩
  · exact .inl hn
  · exact .inr ⟨g, cap, cur, hv, Nat.le_trans hb hbg, rest⟩

/-! ### Rules -/
section
variable {P : Program} {w : World}

theorem r_need {p X : Prop} (h : p) (k : X) : Need p X := by rw [Need_eq]; exact ⟨h, k⟩
theorem r_held {p X : Prop} (h : p) (k : X) : Held p X := by rw [Held_eq]; exact ⟨h, k⟩
theorem r_both {X Y : Prop} (h : X) (k : Y) : Both X Y := by rw [Both_eq]; exact ⟨h, k⟩
theorem r_draw {B : (World → Prop) → World → Prop} (C : World → Prop) (h : C w.drew) (k : B C w.drew) : Draw w B := by rw [Draw_eq]; exact ⟨C, h, k⟩
/-- The class of all worlds in which what is here is as it is. -/
theorem r_drawE {B : (World → Prop) → World → Prop} (k : ∀ w', Ext w w' → w'.heap = w.heap → B (Ext w) w') : Draw w B := r_draw (Ext w) (Ext.drew w) (k _ (Ext.drew w) rfl)

theorem r_keepwrap {k : IntKind} {e : Int} {K : Int → Prop} (h : K (k.wrap e)) : Wrap k e K := by rw [Wrap_eq]; exact h
theorem r_wrapeq {k : IntKind} {e r : Int} {K : Int → Prop} (hr : k.wrap e = r) (h : K r) : Wrap k e K := by rw [Wrap_eq]; rw [hr]; exact h
theorem r_i64 {e : Int} {K : Int → Prop} (h : -9223372036854775808 ≤ e ∧ e ≤ 9223372036854775807) (k : K e) : Wrap .i64 e K := r_wrapeq (IntWalk.i64_in e h) k
theorem r_i32 {e : Int} {K : Int → Prop} (h : -2147483648 ≤ e ∧ e ≤ 2147483647) (k : K e) : Wrap .i32 e K := r_wrapeq (IntWalk.i32_in e h) k
theorem r_u8 {e : Int} {K : Int → Prop} (h : 0 ≤ e ∧ e ≤ 255) (k : K e) : Wrap .u8 e K := r_wrapeq (IntWalk.u8_in e h) k
theorem r_u16 {e : Int} {K : Int → Prop} (h : 0 ≤ e ∧ e ≤ 65535) (k : K e) : Wrap .u16 e K := r_wrapeq (IntWalk.u16_in e h) k
theorem r_u32 {e : Int} {K : Int → Prop} (h : 0 ≤ e ∧ e ≤ 4294967295) (k : K e) : Wrap .u32 e K := r_wrapeq (IntWalk.u32_in e h) k
theorem r_u64 {e : Int} {K : Int → Prop} (h : 0 ≤ e ∧ e ≤ 18446744073709551615) (k : K e) : Wrap .u64 e K := r_wrapeq (IntWalk.u64_in e h) k

theorem r_bits {op : BinOp} {k : IntKind} {x y r : Int} {K : Int → Prop} (h : bitsOf op k x y = r) (hk : K r) : Bits op k x y K := by rw [Bits_eq]; rw [h]; exact hk
theorem r_quo {x y : Int} {K : Int → Prop} (h : 0 ≤ x) (k : K (x / y)) : Quo x y K := by rw [Quo_eq]; rw [Int.tdiv_eq_ediv_of_nonneg h]; exact k
theorem r_rem {x y : Int} {K : Int → Prop} (h : 0 ≤ x) (k : K (x % y)) : Rem x y K := by rw [Rem_eq]; rw [Int.tmod_eq_emod_of_nonneg h]; exact k
theorem r_shl {k : IntKind} {x y : Int} {K : Int → Prop} (n : Nat) (hn : min y.toNat k.bits = n) (h : K (x * 2 ^ n)) : Shl k x y K := by rw [Shl_eq]; rw [hn]; exact h
theorem r_shr {k : IntKind} {x y : Int} {K : Int → Prop} (n : Nat) (hn : min y.toNat k.bits = n) (h : K (x / 2 ^ n)) : Shr k x y K := by
  rw [Shr_eq]; rw [hn, Int.fdiv_eq_ediv_of_nonneg]
  · exact h
  · exact Int.le_of_lt (Int.pow_pos (by decide))

theorem r_cond {b : Bool} {X Y : Prop} (h : b = true → X) (k : b = false → Y) : Cond b X Y := by rw [Cond_eq]; exact ⟨h, k⟩
theorem r_true {b : Bool} {X Y : Prop} (h : b = true) (k : X) : Cond b X Y := by rw [Cond_eq]; subst h; exact ⟨fun _ => k, (fun h => by cases h)⟩
theorem r_false {b : Bool} {X Y : Prop} (h : b = false) (k : Y) : Cond b X Y := by rw [Cond_eq]; subst h; exact ⟨(fun h => by cases h), fun _ => k⟩
theorem r_tt {X Y : Prop} (k : X) : Cond true X Y := r_true rfl k
theorem r_ff {X Y : Prop} (k : Y) : Cond false X Y := r_false rfl k
theorem r_ntt {X Y : Prop} (k : Y) : Cond (!true) X Y := r_false rfl k
theorem r_nff {X Y : Prop} (k : X) : Cond (!false) X Y := r_true rfl k
theorem r_dec {p : Prop} [Decidable p] {X Y : Prop} (h : p → X) (k : ¬ p → Y) : Cond (decide p) X Y := r_cond (fun e => h (of_decide_eq_true e)) (fun e => k (of_decide_eq_false e))
theorem r_dect {p : Prop} [Decidable p] {X Y : Prop} (h : p) (k : X) : Cond (decide p) X Y := r_true (decide_eq_true h) k
theorem r_decf {p : Prop} [Decidable p] {X Y : Prop} (h : ¬ p) (k : Y) : Cond (decide p) X Y := r_false (decide_eq_false h) k
theorem r_eq {x y : Int} {X Y : Prop} (h : x = y → X) (k : x ≠ y → Y) : Cond (x == y) X Y := r_cond (fun e => h (eq_of_beq e)) (fun e => k (ne_of_beq_false e))
theorem r_eqt {x y : Int} {X Y : Prop} (h : x = y) (k : X) : Cond (x == y) X Y := r_true (beq_iff_eq.2 h) k
theorem r_eqf {x y : Int} {X Y : Prop} (h : x ≠ y) (k : Y) : Cond (x == y) X Y := r_false (beq_eq_false_iff_ne.2 h) k
theorem r_ne {x y : Int} {X Y : Prop} (h : x ≠ y → X) (k : x = y → Y) : Cond (x != y) X Y := r_cond (fun e => h (by simpa using e)) (fun e => k (by simpa using e))
theorem r_net {x y : Int} {X Y : Prop} (h : x ≠ y) (k : X) : Cond (x != y) X Y := r_true (by simpa using h) k
theorem r_nef {x y : Int} {X Y : Prop} (h : x = y) (k : Y) : Cond (x != y) X Y := r_false (by simpa using h) k
theorem r_not {b : Bool} {X Y : Prop} (h : Cond b Y X) : Cond (!b) X Y := by
  rw [Cond_eq] at *
  cases b
  · exact ⟨fun _ => h.2 rfl, (fun e => by cases e)⟩
  · exact ⟨(fun e => by cases e), fun _ => h.1 rfl⟩

theorem r_ld {C : World → Prop} {a : Addr} {v : Value} {K : Value → Prop} (h : ∀ w, C w → w.cell? a = some v) (k : K v) : Load a C K := by rw [Load_eq]; exact ⟨v, h, k⟩
theorem r_ldw {a : Addr} {v : Value} {K : Value → Prop} (h : w.cell? a = some v) (k : K v) : Load a (fun w' => w' = w) K := r_ld (fun _ e => by rw [e]; exact h) k
/-- A cell of a block. -/
theorem r_ldb {b i : Nat} {e : TypeId} {cs : List Value} {v : Value} {K : Value → Prop} (h : Blk w b e cs) (hi : cs[i]? = some v) (k : K v) : Load ⟨b, i, none⟩ (fun w' => w' = w) K :=
  r_ldw ((h.cell i).trans hi) k
theorem r_ldbE {b i : Nat} {e : TypeId} {cs : List Value} {v : Value} {K : Value → Prop} (h : Blk w b e cs) (hi : cs[i]? = some v) (k : K v) : Load ⟨b, i, none⟩ (Ext w) K :=
  r_ld (fun _ he => ((h.ext he).cell i).trans hi) k
theorem r_ldbS {S : Nat → Prop} {b i : Nat} {e : TypeId} {cs : List Value} {v : Value} {K : Value → Prop} (h : Blk w b e cs) (hi : cs[i]? = some v) (hs : ¬ S b) (k : K v) : Load ⟨b, i, none⟩ (Chg S w) K :=
  r_ld (fun _ he => ((h.keep he hs).cell i).trans hi) k
theorem r_drawS {B : (World → Prop) → World → Prop} (S : Nat → Prop) (k : ∀ w', Ext w w' → w'.heap = w.heap → B (Chg S w) w') : Draw w B :=
  r_draw (Chg S w) (Chg.mono (Ext.drew w) fun _ _ h => h.elim) (k _ (Ext.drew w) rfl)
/-! The rules by short names, that find their sides themselves. -/
theorem jA {X Y : Prop} (k : X) : Cond true X Y := r_tt k
theorem jB {X Y : Prop} (k : Y) : Cond false X Y := r_ff k
theorem jC {X Y : Prop} (k : Y) : Cond (!true) X Y := r_ntt k
theorem jD {X Y : Prop} (k : X) : Cond (!false) X Y := r_nff k
theorem jE {p X : Prop} (k : X) (h : p := by omega) : Need p X := r_need h k
theorem jF {e : Int} {K : Int → Prop} (k : K e) (h : -9223372036854775808 ≤ e ∧ e ≤ 9223372036854775807 := by omega) : Wrap .i64 e K := r_i64 h k
theorem jG {p : Prop} [Decidable p] {X Y : Prop} (k : X) (h : p := by omega) : Cond (decide p) X Y := r_dect h k
theorem jH {p : Prop} [Decidable p] {X Y : Prop} (k : Y) (h : ¬ p := by omega) : Cond (decide p) X Y := r_decf h k
theorem jI {x y : Int} {X Y : Prop} (k : X) (h : x = y := by omega) : Cond (x == y) X Y := r_eqt h k
theorem jJ {x y : Int} {X Y : Prop} (k : Y) (h : x ≠ y := by omega) : Cond (x == y) X Y := r_eqf h k
theorem jK {x y : Int} {X Y : Prop} (k : X) (h : x ≠ y := by omega) : Cond (x != y) X Y := r_net h k
theorem jL {x y : Int} {X Y : Prop} (k : Y) (h : x = y := by omega) : Cond (x != y) X Y := r_nef h k
theorem jM {e : Int} {K : Int → Prop} (k : K e) (h : 0 ≤ e ∧ e ≤ 255 := by omega) : Wrap .u8 e K := r_u8 h k
theorem jN {e : Int} {K : Int → Prop} (k : K e) (h : 0 ≤ e ∧ e ≤ 18446744073709551615 := by omega) : Wrap .u64 e K := r_u64 h k
theorem jO {e : Int} {K : Int → Prop} (k : K e) (h : -2147483648 ≤ e ∧ e ≤ 2147483647 := by omega) : Wrap .i32 e K := r_i32 h k
theorem jP {e : Int} {K : Int → Prop} (k : K e) (h : 0 ≤ e ∧ e ≤ 4294967295 := by omega) : Wrap .u32 e K := r_u32 h k
theorem jQ {x y : Int} {K : Int → Prop} (k : K (x % y)) (h : 0 ≤ x := by omega) : Rem x y K := r_rem h k
theorem jR {x y : Int} {K : Int → Prop} (k : K (x / y)) (h : 0 ≤ x := by omega) : Quo x y K := r_quo h k
theorem jS {b i : Nat} {e : TypeId} {cs : List Value} {v : Value} {K : Value → Prop} (h : Blk w b e cs := by assumption) (hi : cs[i]? = some v := by rfl) (k : K v) : Load ⟨b, i, none⟩ (fun w' => w' = w) K := r_ldb h hi k
theorem jT {b i : Nat} {e : TypeId} {cs : List Value} {v : Value} {K : Value → Prop} (h : Blk w b e cs := by assumption) (hi : cs[i]? = some v := by rfl) (k : K v) : Load ⟨b, i, none⟩ (Ext w) K := r_ldbE h hi k
/-- A cell of a slice. -/
theorem r_ldv {a : Option Addr} {len cap size : Nat} {L : List Value} {j : Nat} {v : Value} {K : Value → Prop} (h : View w a len cap size L) (hj : L[j]? = some v) (k : K v) : Load ⟨blk a, ofs a + j, none⟩ (fun w' => w' = w) K :=
  r_ldw (h.cell j v hj) k
theorem r_ldvE {a : Option Addr} {len cap size : Nat} {L : List Value} {j : Nat} {v : Value} {K : Value → Prop} (h : View w a len cap size L) (hj : L[j]? = some v) (k : K v) : Load ⟨blk a, ofs a + j, none⟩ (Ext w) K :=
  r_ld (fun _ he => (h.ext he).cell j v hj) k
theorem r_ldn {C : World → Prop} {a : Addr} {n : Nat} {K : Value → Prop} (vs : List Value) (hl : vs.length = n) (h : ∀ w, C w → ∀ i v, vs[i]? = some v → w.cell? (a.add i) = some v) (k : K (.agg ⟨vs⟩)) : LoadN a n C K := by
  rw [LoadN_eq]; exact ⟨vs, hl, h, k⟩
/-- Cells of a block. -/
theorem r_ldnb {b o n : Nat} {e : TypeId} {cs vs : List Value} {K : Value → Prop} (h : Blk w b e cs) (hv : (cs.drop o).take n = vs) (hl : vs.length = n) (k : K (.agg ⟨vs⟩)) : LoadN ⟨b, o, none⟩ n (fun w' => w' = w) K :=
  r_ldn vs hl (fun w' hw i v hi => by
    subst hw
    rw [Addr.add_plain, h.cell]
    rw [← hv, List.getElem?_take] at hi
    split at hi
    · rwa [List.getElem?_drop] at hi
    · cases hi) k
theorem r_ldnbE {b o n : Nat} {e : TypeId} {cs vs : List Value} {K : Value → Prop} (h : Blk w b e cs) (hv : (cs.drop o).take n = vs) (hl : vs.length = n) (k : K (.agg ⟨vs⟩)) : LoadN ⟨b, o, none⟩ n (Ext w) K :=
  r_ldn vs hl (fun w' hw i v hi => by
    rw [Addr.add_plain, (h.ext hw).cell]
    rw [← hv, List.getElem?_take] at hi
    split at hi
    · rwa [List.getElem?_drop] at hi
    · cases hi) k
/-- Cells of a slice. -/
theorem r_ldnv {a : Option Addr} {len cap size j n : Nat} {L vs : List Value} {K : Value → Prop} (h : View w a len cap size L) (hv : (L.drop j).take n = vs) (hl : vs.length = n) (k : K (.agg ⟨vs⟩)) : LoadN ⟨blk a, ofs a + j, none⟩ n (fun w' => w' = w) K :=
  r_ldn vs hl (fun w' hw i v hi => by
    subst hw
    rw [Addr.add_plain, Nat.add_assoc]
    refine h.cell _ v ?_
    rw [← hv, List.getElem?_take] at hi
    split at hi
    · rwa [List.getElem?_drop] at hi
    · cases hi) k
theorem r_ldnvE {a : Option Addr} {len cap size j n : Nat} {L vs : List Value} {K : Value → Prop} (h : View w a len cap size L) (hv : (L.drop j).take n = vs) (hl : vs.length = n) (k : K (.agg ⟨vs⟩)) : LoadN ⟨blk a, ofs a + j, none⟩ n (Ext w) K :=
  r_ldn vs hl (fun w' hw i v hi => by
    rw [Addr.add_plain, Nat.add_assoc]
    refine (h.ext hw).cell _ v ?_
    rw [← hv, List.getElem?_take] at hi
    split at hi
    · rwa [List.getElem?_drop] at hi
    · cases hi) k

theorem r_get {α : Type} {s : Sem α} {C : World → Prop} {K : α → Prop} {v : α} (h : ∀ w, C w → s.run P w = .ok v w) (k : K v) : Get P s C K := by rw [Get_eq]; exact ⟨v, h, k⟩
theorem r_run {α : Type} {s : Sem α} {K : α → World → Prop} {v : α} {w' : World} (h : s.run P w = .ok v w') (k : K v w') : Run P s w K := by rw [Run_eq]; exact ⟨v, w', h, k⟩

theorem r_new {cells : List Value} {elem : TypeId} {K : Nat → World → Prop} (k : ∀ b w', Ext w w' → w.heap.size ≤ b → w'.heap.size = w.heap.size + 1 → Blk w' b elem cells → K b w') : New cells elem w K := by
  rw [New_eq]
  exact k _ _ (Ext.alloc w _) (Nat.le_refl _) (by simp) (heap_alloc_new w _)

theorem r_st {b i : Nat} {e : TypeId} {cs : List Value} {v : Value} {K : World → Prop} (h : Blk w b e cs) (hi : i < cs.length) (hv : v.oneCell' = true)
    (k : ∀ w', Chg (· = b) w w' → w'.heap.size = w.heap.size → Blk w' b e (cs.set i v) → K w') : Store ⟨b, i, none⟩ v w K := by
  rw [Store_eq]
  obtain ⟨h1, h2, h3⟩ := Chg.set h i v
  exact ⟨by rw [h.cell]; simp [hi], h.frozen i, hv, k _ h1 h2 h3⟩

theorem storeFrom_of {b o : Nat} {e : TypeId} {K : World → Prop} : ∀ (vs : List Value) (i : Nat) (w : World) (cs : List Value), Blk w b e cs → o + i + vs.length ≤ cs.length → (∀ v ∈ vs, v.oneCell' = true) →
    (∀ w', Chg (· = b) w w' → w'.heap.size = w.heap.size → Blk w' b e (setL cs (o + i) vs) → K w') → StoreFrom ⟨b, o, none⟩ vs i w K
  | [], i, w, cs, h, _, _, k => k w (Chg.refl _ w) rfl (by cases cs <;> simpa [setL] using h)
  | v :: vs, i, w, cs, h, hl, hv, k => by
    obtain ⟨h1, h2, h3⟩ := Chg.set h (o + i) v
    simp only [List.length_cons] at hl
    refine ⟨by rw [Addr.add_plain, h.cell, List.getElem?_eq_getElem (show o + i < cs.length by omega)]; rfl, by rw [Addr.add_plain]; exact h.frozen _, hv v (by simp), ?_⟩
    rw [Addr.add_plain]
    refine storeFrom_of vs (i + 1) _ _ h3 (by rw [List.length_set]; omega) (fun u hu => hv u (by simp [hu])) fun w' c1 c2 c3 => k w' (h1.trans c1) (c2.trans h2) ?_
    have e : setL (cs.set (o + i) v) (o + (i + 1)) vs = setL cs (o + i) (v :: vs) := by
      have : ∀ (cs : List Value) (j : Nat), setL (cs.set j v) (j + 1) vs = setL cs j (v :: vs) := by
        intro cs
        induction cs with
        | nil => intro j; cases vs <;> simp [setL]
        | cons c cs ih =>
          intro j
          cases j with
          | zero => cases vs <;> simp [setL]
          | succ j =>
            have h1 := ih j
            cases vs with
            | nil => simp [setL] at h1 ⊢; exact h1
            | cons u vs => simp [setL] at h1 ⊢; exact h1
      have := this cs (o + i)
      rwa [show o + i + 1 = o + (i + 1) by omega] at this
    rw [e] at c3
    exact c3
theorem r_stn {b o : Nat} {e : TypeId} {cs vs : List Value} {K : World → Prop} (h : Blk w b e cs) (hl : o + vs.length ≤ cs.length) (hv : ∀ v ∈ vs, v.oneCell' = true)
    (k : ∀ w', Chg (· = b) w w' → w'.heap.size = w.heap.size → Blk w' b e (setL cs o vs) → K w') : StoreN ⟨b, o, none⟩ vs w K := by
  rw [StoreN_eq]
  exact storeFrom_of vs 0 w cs h (by simpa using hl) hv k

theorem r_cal {f : FuncId} {args : Array Value} {R K : Value → World → Prop} (h : Cal P f args w R) (k : ∀ v w', R v w' → K v w') : Cal P f args w K := by
  rw [Cal_eq] at *
  exact h.mono fun e w' ⟨v, he, hv⟩ => ⟨v, he, k v w' hv⟩
theorem r_calV {f : FuncId} {args : Array Value} {R K : Value → World → Prop} (hc : callable P f = true) (h : Cal P f args w R) (k : ∀ v w', R v w' → K v w') : FnV P f args w K := by
  rw [FnV_eq]
  exact ⟨hc, r_cal h k⟩
theorem r_calI {t : TypeId} {v r : Value} {name : String} {f : FuncId} {args : List Value} {R K : Value → World → Prop} (hm : ∀ w, (method (P.types.size + Made.depth) t v name).run P w = .ok (f, r) w) (hc : callable P f = true)
    (h : Cal P f ⟨r :: args⟩ w R) (k : ∀ v w', R v w' → K v w') : FnI P t v name args w K := by
  rw [FnI_eq]
  exact ⟨f, r, hm, hc, r_cal h k⟩
theorem r_nilno {t : TypeId} {v : Value} {name : String} {X : Prop} (h : ∀ w, (nilAhead (P.types.size + Made.depth) t v name).run P w = .ok (some false) w) (k : X) : NilNo P t v name X := by
  rw [NilNo_eq]; exact ⟨h, k⟩
theorem r_byte {s : ByteArray} {i : Int} {K : Int → Prop} (b : UInt8) (h0 : 0 ≤ i) (h : s[i.toNat]? = some b) (k : K b.toNat) : ByteAt s i K := by rw [ByteAt_eq]; exact ⟨b, h0, h, k⟩

/-- A LOOP. The state 's' is what the loop's slots hold ('enc'). -/
theorem r_loop {σ : Type} {vs : List Value} {B : List Value → World → (List Value → World → Prop) → Prop} (enc : σ → List Value) (I : σ → World → Prop) (μ : σ → World → Nat) (s0 : σ) (h0 : vs = enc s0) (hI : I s0 w)
    (hB : ∀ s w (again : List Value → World → Prop), I s w → (∀ s' w', I s' w' → μ s' w' < μ s w → again (enc s') w') → B (enc s) w again) : LoopP vs w B := by
  rw [LoopP_eq]
  -- the least measure of the states that look so
  have ex : ∀ vs w, (∃ s, vs = enc s ∧ I s w) → ∃ n, (∃ s, vs = enc s ∧ I s w ∧ μ s w = n) ∧ ∀ s, vs = enc s → I s w → n ≤ μ s w := by
    intro vs w ⟨s, hs, hi⟩
    have key : ∀ n, (∃ s, vs = enc s ∧ I s w ∧ μ s w ≤ n) → ∃ m, (∃ s, vs = enc s ∧ I s w ∧ μ s w = m) ∧ ∀ s, vs = enc s → I s w → m ≤ μ s w := by
      intro n
      induction n with
      | zero => rintro ⟨s, h1, h2, h3⟩; exact ⟨0, ⟨s, h1, h2, by omega⟩, fun _ _ _ => Nat.zero_le _⟩
      | succ n ih =>
        rintro ⟨s, h1, h2, h3⟩
        by_cases hn : ∃ s, vs = enc s ∧ I s w ∧ μ s w ≤ n
        · exact ih hn
        · refine ⟨n + 1, ⟨s, h1, h2, ?_⟩, fun s' h1' h2' => ?_⟩
          · rcases Nat.lt_or_ge n (μ s w) with h | h
            · omega
            · exact absurd ⟨s, h1, h2, h⟩ hn
          · rcases Nat.lt_or_ge n (μ s' w) with h | h
            · omega
            · exact absurd ⟨s', h1', h2', h⟩ hn
    exact key (μ s w) ⟨s, hs, hi, Nat.le_refl _⟩
  let m : List Value → World → Nat := fun vs w => @dite _ (∃ s, vs = enc s ∧ I s w) (Classical.propDecidable _) (fun h => Classical.choose (ex vs w h)) (fun _ => 0)
  have hm : ∀ vs w (h : ∃ s, vs = enc s ∧ I s w), (∃ s, vs = enc s ∧ I s w ∧ μ s w = m vs w) ∧ ∀ s, vs = enc s → I s w → m vs w ≤ μ s w := by
    intro vs w h
    have e : m vs w = Classical.choose (ex vs w h) := by simp only [m, dif_pos h]
    rw [e]
    exact Classical.choose_spec (ex vs w h)
  refine ⟨fun vs w => ∃ s, vs = enc s ∧ I s w, m, ⟨s0, h0, hI⟩, fun vs w h => ?_⟩
  obtain ⟨⟨s, hs, hi, he⟩, _⟩ := hm vs w h
  rw [hs]
  refine hB s w _ hi fun s' w' hi' hlt => ⟨⟨s', rfl, hi'⟩, ?_⟩
  have h' := (hm (enc s') w' ⟨s', rfl, hi'⟩).2 s' rfl hi'
  rw [← hs, ← he]
  omega

/-! ### append -/
/-- A slice type, its element's type, how many cells and bytes that takes. -/
def Elem (P : Program) (t e size bytes : Nat) : Prop :=
  P.underlying t = some (.slice e) ∧ ∃ i z, P.info? e = some i ∧ i.zero = some z ∧ i.size = size ∧ i.bytes = bytes ∧ z.cells.size = size ∧ 0 < size
def elemB (P : Program) (t e size bytes : Nat) : Bool :=
  match P.underlying t, P.info? e with
  | some (.slice e'), some i => match i.zero with
    | some z => Nat.beq e e' && Nat.beq i.size size && Nat.beq i.bytes bytes && Nat.beq z.cells.size size && Nat.blt 0 size
    | none => false
  | _, _ => false
theorem Elem.of {t e size bytes : Nat} (h : elemB P t e size bytes = true) : Elem P t e size bytes := by
  unfold elemB at h
  split at h
  · rename_i e' i h1 h2
    split at h
    · rename_i z hz
      simp only [Bool.and_eq_true] at h
      obtain ⟨⟨⟨⟨a, b⟩, c⟩, d⟩, f⟩ := h
      have a := Nat.eq_of_beq_eq_true a
      subst a
      exact ⟨h1, i, z, h2, hz, Nat.eq_of_beq_eq_true b, Nat.eq_of_beq_eq_true c, Nat.eq_of_beq_eq_true d, by simpa using f⟩
    · cases h
  · cases h

theorem chg_grown {w' : World} {v : Value} (h : w.grownBy w' v.ownBlock) : Chg (fun b => v.ownBlock = some b) w w' :=
  ⟨h.os, h.tape, h.output, h.size, fun k hk hs => h.block k hk fun e => hs e.symm⟩

/-- append to what the call itself made. -/
theorem r_app {t ty e size bytes base : Nat} {v : Value} {n : Nat} {xs : List Value} {a : Option Addr} {m c : Nat} {news : List Value} {K : Value → World → Prop} (he : Elem P t e size bytes) (hown : w.ownsRow base e size v n xs) (hv : View w a m c size news)
    (h1 : ∀ u ∈ news, u.oneCell' = true) (hb : (n + m) * bytes ≤ 140737488355328 ∧ n + m ≤ 4611686018427387904) (hbase : base ≤ w.heap.size)
    (k : ∀ v' w', w'.ownsRow base e size v' (n + m) (xs ++ news) → Chg (fun b => v.ownBlock = some b) w w' → (v' = .slice none 0 0 ↔ v = .slice none 0 0 ∧ m = 0) → K v' w') : Run P (G.sem (.bi .append ⟨[t, t]⟩ ty) [v, .slice a m c]) w K := by
  obtain ⟨ht, i, z, hi, hz, hs, hby, hzs, hsz⟩ := he
  have hmax : n + m ≤ maxLen := by simp only [maxLen]; omega
  rcases Nat.eq_zero_or_pos m with rfl | hm
  · -- nothing is appended
    have hnil : news = [] := by simpa using hv.length
    subst hnil
    have hrun : ∀ x : Option Addr, (Builtin.append_ ⟨[t, t]⟩ ty ⟨[v, .slice x 0 c]⟩).run P w = .ok v w := by
      intro x
      rcases hown.2 with ⟨rfl, rfl⟩ | ⟨g, cap, cur, rfl, hbg, hg, hn, hc, hsz', htk⟩
      · cases x <;> simp [Builtin.append_, run_underlying ht, Go.sizeOf, typeInfo, hi, Builtin.lenOf, Builtin.firstCells, loadCells, loadCellsFrom]
      · have hle : n ≤ cap := hn
        cases x <;> simp [Builtin.append_, run_underlying ht, Go.sizeOf, typeInfo, hi, Builtin.lenOf, Builtin.firstCells, loadCells, loadCellsFrom, hle, storeCells]
    refine r_run (hrun a) (k v w (by simpa using hown) ?_ (by simp))
    exact Chg.refl _ w
  · have hpos : 0 < news.length := by rw [hv.length]; exact Nat.mul_pos hm hsz
    have hp := hv.plain hpos
    unfold plainA at hp
    generalize hbk : blk a = b at hp
    generalize hof : ofs a = o at hp
    subst hp
    obtain ⟨v', w', hr, h2, h3, h4⟩ := run_append_own (P := P) w base t ty e i z size bytes ht hi hz hs hby hzs hsz v n xs hown ⟨b, o, none⟩ m c news hv.length
      (fun j u hu => by rw [Addr.add_plain]; exact hv.cell j u hu) h1 hmax hb.1 hbase
    exact r_run hr (k v' w' h2 (chg_grown h3) h4)

end
end Fb
