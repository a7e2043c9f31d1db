/-
  Walks: what is put is taken in order.
-/
import Derived.Test.YtnofndhlhbbhdaaQi
namespace Fb
open Go Go.Proofs
theorem r_mapLen0 {P : Program} {k t e ty : TypeId} {w : World} {b : Nat} {f : Value → Option Value} {Kk : Value → Prop} (h : MapV P k w b f) (K : Maps.Keyed P k) (ht : P.underlying t = some (.map k e)) (hf : ∀ key, f key = none) (hk : Kk (.int .i64 0)) :
    Get P (G.sem (.bi .len ⟨[t]⟩ ty) [.map (some b)]) (fun w' => w' = w) Kk := by
  obtain ⟨D, h, _⟩ := h.fits K [] fun key hn => absurd (hf key) hn
  have h0 : Maps.size D = 0 := Nat.le_zero.1 h.size_le
  refine r_get (fun w' e => ?_) hk
  subst e
  have := h.len ht ty
  rw [h0] at this
  exact this
end Fb
namespace Fb.Try.QU
open Go Go.Proofs Fb
def fe (l : List En) : Value → Option Value
  | .int .i64 p => (pos l p).map fun i => .agg ⟨(gt l i).cells⟩
  | _ => none
theorem fe_mem {l : List En} (hd : Dist l) {x : En} (hx : x ∈ l) : fe l (.int .i64 x.place) = some (.agg ⟨x.cells⟩) := by
  obtain ⟨i, hi, rfl⟩ := mem_gt.1 hx
  have := (pos_iff hd).2 ⟨hi, rfl⟩
  simp [fe, this]
theorem fe_none {l : List En} {p : Int} (h : ∀ x ∈ l, x.place ≠ p) : fe l (.int .i64 p) = none := by
  have : pos l p = none := by
    cases hp : pos l p with
    | none => rfl
    | some i =>
      obtain ⟨h1, h2⟩ := pos_some hp
      exact absurd h2 (h _ (mem_gt.2 ⟨i, h1, rfl⟩))
  simp [fe, this]
theorem fe_out {l : List En} {v : Value} (h : ∀ p, v ≠ .int .i64 p) : fe l v = none := by
  unfold fe
  split
  · rename_i p; exact absurd rfl (h p)
  · rfl
theorem fe_key {l : List En} {v : Value} (h : fe l v ≠ none) : v ∈ l.map fun e => Value.int .i64 e.place := by
  unfold fe at h
  split at h
  · rename_i p
    cases hp : pos l p with
    | none => rw [hp] at h; exact absurd rfl h
    | some i =>
      obtain ⟨h1, h2⟩ := pos_some hp
      refine List.mem_map.2 ⟨gt l i, List.mem_of_getElem? (gt_get h1), by rw [h2]⟩
  · exact absurd rfl h
theorem fe_ext {l : List En} {f : Value → Option Value} (h1 : ∀ p, f (.int .i64 p) = fe l (.int .i64 p)) (h2 : ∀ v, (∀ p, v ≠ .int .i64 p) → f v = none) : f = fe l := by
  funext v
  by_cases h : ∃ p, v = .int .i64 p
  · obtain ⟨p, rfl⟩ := h
    exact h1 p
  · rw [h2 v fun p e => h ⟨p, e⟩, fe_out fun p e => h ⟨p, e⟩]
theorem fe_put {l l' : List En} {e : En} (hd : Dist l) (hd' : Dist l') (hm : ∀ x, x ∈ l' ↔ x = e ∨ (x ∈ l ∧ x.place ≠ e.place)) : upd (fe l) (.int .i64 e.place) (some (.agg ⟨e.cells⟩)) = fe l' := by
  refine fe_ext (fun p => ?_) fun v hv => by rw [upd_out _ _ _ hv, fe_out hv]
  rw [upd_int]
  by_cases hp : p = e.place
  · rw [if_pos hp, hp, fe_mem hd' ((hm e).2 (.inl rfl))]
  · rw [if_neg hp]
    by_cases hx : ∃ x, x ∈ l ∧ x.place = p
    · obtain ⟨x, h1, rfl⟩ := hx
      rw [fe_mem hd h1, fe_mem hd' ((hm x).2 (.inr ⟨h1, hp⟩))]
    · rw [fe_none fun x h1 h2 => hx ⟨x, h1, h2⟩, fe_none fun x h1 h2 => ?_]
      rcases (hm x).1 h1 with rfl | h3
      · exact hp h2.symm
      · exact hx ⟨x, h3.1, h2⟩
theorem fe_del {l l' : List En} {q : Int} (hd : Dist l) (hd' : Dist l') (hm : ∀ x, x ∈ l' ↔ x ∈ l ∧ x.place ≠ q) : upd (fe l) (.int .i64 q) none = fe l' := by
  refine fe_ext (fun p => ?_) fun v hv => by rw [upd_out _ _ _ hv, fe_out hv]
  rw [upd_int]
  by_cases hp : p = q
  · rw [if_pos hp, fe_none fun x h1 h2 => ((hm x).1 h1).2 (by rw [h2, hp])]
  · rw [if_neg hp]
    by_cases hx : ∃ x, x ∈ l ∧ x.place = p
    · obtain ⟨x, h1, rfl⟩ := hx
      rw [fe_mem hd h1, fe_mem hd' ((hm x).2 ⟨h1, hp⟩)]
    · rw [fe_none fun x h1 h2 => hx ⟨x, h1, h2⟩, fe_none fun x h1 h2 => hx ⟨x, ((hm x).1 h1).1, h2⟩]
theorem fe_nil : (fun _ => none) = fe [] := fe_ext (fun _ => rfl) fun _ _ => rfl
theorem take_len {l l' : List En} (hd : Dist l) (hd' : Dist l') (h0 : 0 < l.length) (hm : ∀ x, x ∈ l' ↔ x ∈ l ∧ x.place ≠ (gt l 0).place) : l'.length + 1 = l.length := by
  have : Agr (gt l 0 :: l') l := by
    refine ⟨dist_pw.2 (List.pairwise_cons.2 ⟨fun x hx => ((hm x).1 hx).2.symm, dist_pw.1 hd'⟩), hd, fun x => ?_⟩
    rw [List.mem_cons, hm]
    constructor
    · rintro (rfl | h)
      · exact mem_gt.2 ⟨0, h0, rfl⟩
      · exact h.1
    · intro h
      by_cases hp : x.place = (gt l 0).place
      · exact .inl (mem_place hd h (mem_gt.2 ⟨0, h0, rfl⟩) hp)
      · exact .inr ⟨h, hp⟩
  have := this.len
  simpa using this
theorem umapE : Try.prog.underlying 26 = some (.map 3 28) := by kernel_rfl
theorem zen (w : World) : (zeroValue 28).run Try.prog w = .ok (.agg ⟨En.cells ⟨0, 0, 0⟩⟩) w := zero_run (by kernel_rfl) w
structure QS (w0 w : World) (ab mb lb : Nat) (g : Option Nat) (c : Nat) (l : List En) : Prop where
  ag : Ag w ab mb g c l
  left : MapV Try.prog 3 w lb (fe l)
  off : ¬ PS ab mb g lb
  ext : Ext w0 w
  new : ∀ k, PS ab mb g k → w0.heap.size ≤ k
  lnew : w0.heap.size ≤ lb
section
variable {w0 w w' : World} {ab mb lb c n : Nat} {g : Option Nat} {l : List En}
theorem QS.ext' (h : QS w0 w ab mb lb g c l) (k : Ext w w') : QS w0 w' ab mb lb g c l := ⟨h.ag.ext k, h.left.ext k, h.off, h.ext.trans k, h.new, h.lnew⟩
theorem QS.keep {S : Nat → Prop} (h : QS w0 w ab mb lb g c l) (k : Chg S w w') (h1 : ∀ x, PS ab mb g x → ¬ S x) (h2 : ¬ S lb) (h3 : ∀ x, S x → w0.heap.size ≤ x) : QS w0 w' ab mb lb g c l :=
  ⟨h.ag.keep k h1, h.left.keep k h2, h.off, Chg.step h.ext k fun x hx hlt => by have := h3 x hx; omega, h.new, h.lnew⟩
set_option maxHeartbeats 4000000 in
set_option maxRecDepth 100000 in
theorem sortsLaw_ok {a : Option Addr} {len cap : Nat} {es : List En} (hv : View w a len cap 3 (flat es)) (hwf : ∀ e ∈ es, Wf e) :
    Cal Try.prog 3 ⟨[.slice a len cap]⟩ w fun v w' => v = .bool true ∧ Ext w w' := by
  have hle := hv.le
  have hmax := hv.max
  unfold maxLen at hmax
  have hlen : es.length = len := by have := hv.length; rw [flat_len] at this; omega
  refine go3 (by rfl) ?_
  by_cases hg : 300 < len
  · (repeat ((conv => whnf); (first | with_reducible refine r_tt ?_ | with_reducible refine r_ff ?_ | with_reducible refine r_ntt ?_ | with_reducible refine r_nff ?_ | refine r_need (by omega) ?_ | refine r_i64 (by omega) ?_ | refine r_dect (by omega) ?_ | refine r_decf (by omega) ?_ | refine r_eqt (by omega) ?_ | refine r_eqf (by omega) ?_ | refine r_net (by omega) ?_ | refine r_nef (by omega) ?_ | refine r_u8 (by omega) ?_ | refine r_u64 (by omega) ?_ | refine r_i32 (by omega) ?_ | refine r_u32 (by omega) ?_ | refine r_rem (by omega) ?_ | refine r_quo (by omega) ?_ | refine r_ldb (by assumption) (by rfl) ?_ | refine r_ldbE (by assumption) (by rfl) ?_))); (conv => whnf)
    refine r_cal (fixed_ok _) ?_
    rintro _ w1 ⟨hx1, rfl⟩
    (repeat ((conv => whnf); (first | with_reducible refine r_tt ?_ | with_reducible refine r_ff ?_ | with_reducible refine r_ntt ?_ | with_reducible refine r_nff ?_ | refine r_need (by omega) ?_ | refine r_i64 (by omega) ?_ | refine r_dect (by omega) ?_ | refine r_decf (by omega) ?_ | refine r_eqt (by omega) ?_ | refine r_eqf (by omega) ?_ | refine r_net (by omega) ?_ | refine r_nef (by omega) ?_ | refine r_u8 (by omega) ?_ | refine r_u64 (by omega) ?_ | refine r_i32 (by omega) ?_ | refine r_u32 (by omega) ?_ | refine r_rem (by omega) ?_ | refine r_quo (by omega) ?_ | refine r_ldb (by assumption) (by rfl) ?_ | refine r_ldbE (by assumption) (by rfl) ?_))); (conv => whnf)
    exact ⟨rfl, hx1⟩
  (repeat ((conv => whnf); (first | with_reducible refine r_tt ?_ | with_reducible refine r_ff ?_ | with_reducible refine r_ntt ?_ | with_reducible refine r_nff ?_ | refine r_need (by omega) ?_ | refine r_i64 (by omega) ?_ | refine r_dect (by omega) ?_ | refine r_decf (by omega) ?_ | refine r_eqt (by omega) ?_ | refine r_eqf (by omega) ?_ | refine r_net (by omega) ?_ | refine r_nef (by omega) ?_ | refine r_u8 (by omega) ?_ | refine r_u64 (by omega) ?_ | refine r_i32 (by omega) ?_ | refine r_u32 (by omega) ?_ | refine r_rem (by omega) ?_ | refine r_quo (by omega) ?_ | refine r_ldb (by assumption) (by rfl) ?_ | refine r_ldbE (by assumption) (by rfl) ?_))); (conv => whnf)
  refine r_cal (New_ok w) ?_
  rintro _ w1 ⟨ab, mb, rfl, hx1, ha, hm, h1⟩
  have n1 := ps_new ha hm
  (repeat ((conv => whnf); (first | with_reducible refine r_tt ?_ | with_reducible refine r_ff ?_ | with_reducible refine r_ntt ?_ | with_reducible refine r_nff ?_ | refine r_need (by omega) ?_ | refine r_i64 (by omega) ?_ | refine r_dect (by omega) ?_ | refine r_decf (by omega) ?_ | refine r_eqt (by omega) ?_ | refine r_eqf (by omega) ?_ | refine r_net (by omega) ?_ | refine r_nef (by omega) ?_ | refine r_u8 (by omega) ?_ | refine r_u64 (by omega) ?_ | refine r_i32 (by omega) ?_ | refine r_u32 (by omega) ?_ | refine r_rem (by omega) ?_ | refine r_quo (by omega) ?_ | refine r_ldb (by assumption) (by rfl) ?_ | refine r_ldbE (by assumption) (by rfl) ?_))); (conv => whnf)
  refine r_makeMap (k := 3) fun w2 hx2 hs2 hm2 => ?_
  rw [fe_nil] at hm2
  have hq2 : QS w w2 ab mb w1.heap.size none 0 [] := ⟨h1.ext hx2, hm2, fun e => by have := h1.pile.lt e; omega, hx1.trans hx2, n1, hx1.size⟩
  generalize w1.heap.size = lb at *
  (repeat ((conv => whnf); (first | with_reducible refine r_tt ?_ | with_reducible refine r_ff ?_ | with_reducible refine r_ntt ?_ | with_reducible refine r_nff ?_ | refine r_need (by omega) ?_ | refine r_i64 (by omega) ?_ | refine r_dect (by omega) ?_ | refine r_decf (by omega) ?_ | refine r_eqt (by omega) ?_ | refine r_eqf (by omega) ?_ | refine r_net (by omega) ?_ | refine r_nef (by omega) ?_ | refine r_u8 (by omega) ?_ | refine r_u64 (by omega) ?_ | refine r_i32 (by omega) ?_ | refine r_u32 (by omega) ?_ | refine r_rem (by omega) ?_ | refine r_quo (by omega) ?_ | refine r_ldb (by assumption) (by rfl) ?_ | refine r_ldbE (by assumption) (by rfl) ?_))); (conv => whnf)
  refine r_loop (σ := Nat) (fun i => [.int .i64 (i : Int)]) (fun i w' => i ≤ len ∧ ∃ g c l, QS w w' ab mb lb g c l ∧ l.length ≤ i) (fun i _ => len - i) 0 rfl ⟨Nat.zero_le _, _, _, _, hq2, Nat.le_refl _⟩ ?_
  clear hq2 hm2
  rintro i w3 again ⟨hi, g, c, l, hq, hll⟩ hagain
  by_cases hil : i < len
  · have hpl := hv.plain (by rw [flat_len]; omega)
    have hwe : Wf (gt es i) := hwf _ (mem_gt.2 ⟨i, by omega, rfl⟩)
    (repeat ((conv => whnf); (first | with_reducible refine r_tt ?_ | with_reducible refine r_ff ?_ | with_reducible refine r_ntt ?_ | with_reducible refine r_nff ?_ | refine r_need (by omega) ?_ | refine r_i64 (by omega) ?_ | refine r_dect (by omega) ?_ | refine r_decf (by omega) ?_ | refine r_eqt (by omega) ?_ | refine r_eqf (by omega) ?_ | refine r_net (by omega) ?_ | refine r_nef (by omega) ?_ | refine r_u8 (by omega) ?_ | refine r_u64 (by omega) ?_ | refine r_i32 (by omega) ?_ | refine r_u32 (by omega) ?_ | refine r_rem (by omega) ?_ | refine r_quo (by omega) ?_ | refine r_ldb (by assumption) (by rfl) ?_ | refine r_ldbE (by assumption) (by rfl) ?_))); (conv => whnf)
    refine r_ldnv (j := (i : Int).toNat * 3) (vs := (gt es i).cells) (hv.ext hq.ext) (flat_ent (by omega)) rfl ?_
    (repeat ((conv => whnf); (first | with_reducible refine r_tt ?_ | with_reducible refine r_ff ?_ | with_reducible refine r_ntt ?_ | with_reducible refine r_nff ?_ | refine r_need (by omega) ?_ | refine r_i64 (by omega) ?_ | refine r_dect (by omega) ?_ | refine r_decf (by omega) ?_ | refine r_eqt (by omega) ?_ | refine r_eqf (by omega) ?_ | refine r_net (by omega) ?_ | refine r_nef (by omega) ?_ | refine r_u8 (by omega) ?_ | refine r_u64 (by omega) ?_ | refine r_i32 (by omega) ?_ | refine r_u32 (by omega) ?_ | refine r_rem (by omega) ?_ | refine r_quo (by omega) ?_ | refine r_ldb (by assumption) (by rfl) ?_ | refine r_ldbE (by assumption) (by rfl) ?_))); (conv => whnf)
    refine r_new fun bo w4 hx4 hb4 hs4 hblk4 => ?_
    (repeat ((conv => whnf); (first | with_reducible refine r_tt ?_ | with_reducible refine r_ff ?_ | with_reducible refine r_ntt ?_ | with_reducible refine r_nff ?_ | refine r_need (by omega) ?_ | refine r_i64 (by omega) ?_ | refine r_dect (by omega) ?_ | refine r_decf (by omega) ?_ | refine r_eqt (by omega) ?_ | refine r_eqf (by omega) ?_ | refine r_net (by omega) ?_ | refine r_nef (by omega) ?_ | refine r_u8 (by omega) ?_ | refine r_u64 (by omega) ?_ | refine r_i32 (by omega) ?_ | refine r_u32 (by omega) ?_ | refine r_rem (by omega) ?_ | refine r_quo (by omega) ?_ | refine r_ldb (by assumption) (by rfl) ?_ | refine r_ldbE (by assumption) (by rfl) ?_))); (conv => whnf)
    refine r_stn hblk4 (by simp [En.cells]) (cells_one _) fun w5 hc5 hs5 hop => ?_
    have hop : Blk w5 bo 28 [.int .i64 (gt es i).place, .int .i64 (gt es i).order, .int .i64 (gt es i).out] := hop
    have hx35 : Ext w3 w5 := Chg.step hx4 hc5 fun k hk hlt => by omega
    have hq5 := hq.ext' hx35
    have hob : ¬ PS ab mb g bo := fun e => by have := hq.ag.pile.lt e; omega
    (repeat ((conv => whnf); (first | with_reducible refine r_tt ?_ | with_reducible refine r_ff ?_ | with_reducible refine r_ntt ?_ | with_reducible refine r_nff ?_ | refine r_need (by omega) ?_ | refine r_i64 (by omega) ?_ | refine r_dect (by omega) ?_ | refine r_decf (by omega) ?_ | refine r_eqt (by omega) ?_ | refine r_eqf (by omega) ?_ | refine r_net (by omega) ?_ | refine r_nef (by omega) ?_ | refine r_u8 (by omega) ?_ | refine r_u64 (by omega) ?_ | refine r_i32 (by omega) ?_ | refine r_u32 (by omega) ?_ | refine r_rem (by omega) ?_ | refine r_quo (by omega) ?_ | refine r_ldb (by assumption) (by rfl) ?_ | refine r_ldbE (by assumption) (by rfl) ?_))); (conv => whnf)
    refine r_ldnb (vs := (gt es i).cells) hop rfl rfl ?_
    (repeat ((conv => whnf); (first | with_reducible refine r_tt ?_ | with_reducible refine r_ff ?_ | with_reducible refine r_ntt ?_ | with_reducible refine r_nff ?_ | refine r_need (by omega) ?_ | refine r_i64 (by omega) ?_ | refine r_dect (by omega) ?_ | refine r_decf (by omega) ?_ | refine r_eqt (by omega) ?_ | refine r_eqf (by omega) ?_ | refine r_net (by omega) ?_ | refine r_nef (by omega) ?_ | refine r_u8 (by omega) ?_ | refine r_u64 (by omega) ?_ | refine r_i32 (by omega) ?_ | refine r_u32 (by omega) ?_ | refine r_rem (by omega) ?_ | refine r_quo (by omega) ?_ | refine r_ldb (by assumption) (by rfl) ?_ | refine r_ldbE (by assumption) (by rfl) ?_))); (conv => whnf)
    refine r_cal (Put_ok hq5.ag hwe (by omega)) ?_
    rintro _ w6 ⟨g6, c6, l6, h6, m6, a6, hc6⟩
    have hop6 := hop.keep hc6 hob
    have hx06 := Chg.ps hq5.ext hc6 hq5.new
    have hn6 := a6.new hq5.new hq5.ext.size
    have hml := hq5.left.keep hc6 hq5.off
    have hl6 := dist_le (r := l ++ [gt es i]) h6.pile.dist fun x hx => by
      rcases (m6 x).1 hx with rfl | h
      · simp
      · simp [h.1]
    simp only [List.length_append, List.length_singleton] at hl6
    have ho6 : ¬ PS ab mb g6 lb := by
      rcases a6 with rfl | ⟨y, rfl, hy⟩
      · exact hq5.off
      · rintro (e | e | e)
        · exact hq5.off (.inl e)
        · exact hq5.off (.inr (.inl e))
        · cases e
          have := hq5.left.lt
          omega
    (repeat ((conv => whnf); (first | with_reducible refine r_tt ?_ | with_reducible refine r_ff ?_ | with_reducible refine r_ntt ?_ | with_reducible refine r_nff ?_ | refine r_need (by omega) ?_ | refine r_i64 (by omega) ?_ | refine r_dect (by omega) ?_ | refine r_decf (by omega) ?_ | refine r_eqt (by omega) ?_ | refine r_eqf (by omega) ?_ | refine r_net (by omega) ?_ | refine r_nef (by omega) ?_ | refine r_u8 (by omega) ?_ | refine r_u64 (by omega) ?_ | refine r_i32 (by omega) ?_ | refine r_u32 (by omega) ?_ | refine r_rem (by omega) ?_ | refine r_quo (by omega) ?_ | refine r_ldb (by assumption) (by rfl) ?_ | refine r_ldbE (by assumption) (by rfl) ?_))); (conv => whnf)
    refine r_ldnb (vs := (gt es i).cells) hop6 rfl rfl ?_
    (repeat ((conv => whnf); (first | with_reducible refine r_tt ?_ | with_reducible refine r_ff ?_ | with_reducible refine r_ntt ?_ | with_reducible refine r_nff ?_ | refine r_need (by omega) ?_ | refine r_i64 (by omega) ?_ | refine r_dect (by omega) ?_ | refine r_decf (by omega) ?_ | refine r_eqt (by omega) ?_ | refine r_eqf (by omega) ?_ | refine r_net (by omega) ?_ | refine r_nef (by omega) ?_ | refine r_u8 (by omega) ?_ | refine r_u64 (by omega) ?_ | refine r_i32 (by omega) ?_ | refine r_u32 (by omega) ?_ | refine r_rem (by omega) ?_ | refine r_quo (by omega) ?_ | refine r_ldb (by assumption) (by rfl) ?_ | refine r_ldbE (by assumption) (by rfl) ?_))); (conv => whnf)
    refine r_mapSet hml keyed umapE _ (fun key hk => fe_key hk) (by simp [maxLen]; omega) (key_of hwe) fun w7 hc7 hs7 hm7 => ?_
    rw [fe_put hq5.ag.pile.dist h6.pile.dist m6] at hm7
    (repeat ((conv => whnf); (first | with_reducible refine r_tt ?_ | with_reducible refine r_ff ?_ | with_reducible refine r_ntt ?_ | with_reducible refine r_nff ?_ | refine r_need (by omega) ?_ | refine r_i64 (by omega) ?_ | refine r_dect (by omega) ?_ | refine r_decf (by omega) ?_ | refine r_eqt (by omega) ?_ | refine r_eqf (by omega) ?_ | refine r_net (by omega) ?_ | refine r_nef (by omega) ?_ | refine r_u8 (by omega) ?_ | refine r_u64 (by omega) ?_ | refine r_i32 (by omega) ?_ | refine r_u32 (by omega) ?_ | refine r_rem (by omega) ?_ | refine r_quo (by omega) ?_ | refine r_ldb (by assumption) (by rfl) ?_ | refine r_ldbE (by assumption) (by rfl) ?_))); (conv => whnf)
    exact hagain (i + 1) w7 ⟨by omega, g6, c6, l6, ⟨h6.keep hc7 (fun x hx e => ho6 (by rw [← e]; exact hx)), hm7, ho6, Chg.step hx06 hc7 fun k hk hlt => by have := hq5.lnew; omega, hn6, hq5.lnew⟩, by omega⟩ (by omega)
  · have hln : l.length ≤ 300 := by omega
    (repeat ((conv => whnf); (first | with_reducible refine r_tt ?_ | with_reducible refine r_ff ?_ | with_reducible refine r_ntt ?_ | with_reducible refine r_nff ?_ | refine r_need (by omega) ?_ | refine r_i64 (by omega) ?_ | refine r_dect (by omega) ?_ | refine r_decf (by omega) ?_ | refine r_eqt (by omega) ?_ | refine r_eqf (by omega) ?_ | refine r_net (by omega) ?_ | refine r_nef (by omega) ?_ | refine r_u8 (by omega) ?_ | refine r_u64 (by omega) ?_ | refine r_i32 (by omega) ?_ | refine r_u32 (by omega) ?_ | refine r_rem (by omega) ?_ | refine r_quo (by omega) ?_ | refine r_ldb (by assumption) (by rfl) ?_ | refine r_ldbE (by assumption) (by rfl) ?_))); (conv => whnf)
    clear hagain hll hi hil
    refine r_new fun b7 w4 hx4 hb4 hs4 hblk4 => ?_
    have hblk4 : Blk w4 b7 28 (En.cells ⟨0, 0, 0⟩) := hblk4
    have ho7 : ¬ PS ab mb g b7 := fun e => by have := hq.ag.pile.lt e; omega
    have hn7 : w.heap.size ≤ b7 := by have := hq.ext.size; omega
    obtain ⟨N, hN⟩ : ∃ N, N = l.length := ⟨_, rfl⟩
    (repeat ((conv => whnf); (first | with_reducible refine r_tt ?_ | with_reducible refine r_ff ?_ | with_reducible refine r_ntt ?_ | with_reducible refine r_nff ?_ | refine r_need (by omega) ?_ | refine r_i64 (by omega) ?_ | refine r_dect (by omega) ?_ | refine r_decf (by omega) ?_ | refine r_eqt (by omega) ?_ | refine r_eqf (by omega) ?_ | refine r_net (by omega) ?_ | refine r_nef (by omega) ?_ | refine r_u8 (by omega) ?_ | refine r_u64 (by omega) ?_ | refine r_i32 (by omega) ?_ | refine r_u32 (by omega) ?_ | refine r_rem (by omega) ?_ | refine r_quo (by omega) ?_ | refine r_ldb (by assumption) (by rfl) ?_ | refine r_ldbE (by assumption) (by rfl) ?_))); (conv => whnf)
    refine r_loop (σ := Nat) (fun n => [.int .i64 (n : Int)]) (fun n w' => ∃ l la, QS w w' ab mb lb g c l ∧ Blk w' b7 28 (En.cells la) ∧ l.length + n = N ∧ (0 < n → ∀ x ∈ l, less la x)) (fun n _ => N - n) 0 rfl ⟨l, _, hq.ext' hx4, hblk4, by omega, fun h => absurd h (Nat.lt_irrefl _)⟩ ?_
    clear hblk4
    rw [← hN] at hln
    clear hN hq
    rintro n w5 again2 ⟨l, la, hq, hlast, hcnt, hsort⟩ hagain2
    have h7l : ¬ b7 = lb := hq.left.ne hlast
    (repeat ((conv => whnf); (first | with_reducible refine r_tt ?_ | with_reducible refine r_ff ?_ | with_reducible refine r_ntt ?_ | with_reducible refine r_nff ?_ | refine r_need (by omega) ?_ | refine r_i64 (by omega) ?_ | refine r_dect (by omega) ?_ | refine r_decf (by omega) ?_ | refine r_eqt (by omega) ?_ | refine r_eqf (by omega) ?_ | refine r_net (by omega) ?_ | refine r_nef (by omega) ?_ | refine r_u8 (by omega) ?_ | refine r_u64 (by omega) ?_ | refine r_i32 (by omega) ?_ | refine r_u32 (by omega) ?_ | refine r_rem (by omega) ?_ | refine r_quo (by omega) ?_ | refine r_ldb (by assumption) (by rfl) ?_ | refine r_ldbE (by assumption) (by rfl) ?_))); (conv => whnf)
    refine r_cal (Take_ok hq.ag) ?_
    rintro _ w6 ⟨rfl, l6, h6, m6, hc6⟩
    have hx06 := Chg.ps hq.ext hc6 hq.new
    have hlast6 := hlast.keep hc6 ho7
    have hleft6 := hq.left.keep hc6 hq.off
    have hq6 : Ag w6 ab mb g c l6 := h6
    (repeat ((conv => whnf); (first | with_reducible refine r_tt ?_ | with_reducible refine r_ff ?_ | with_reducible refine r_ntt ?_ | with_reducible refine r_nff ?_ | refine r_need (by omega) ?_ | refine r_i64 (by omega) ?_ | refine r_dect (by omega) ?_ | refine r_decf (by omega) ?_ | refine r_eqt (by omega) ?_ | refine r_eqf (by omega) ?_ | refine r_net (by omega) ?_ | refine r_nef (by omega) ?_ | refine r_u8 (by omega) ?_ | refine r_u64 (by omega) ?_ | refine r_i32 (by omega) ?_ | refine r_u32 (by omega) ?_ | refine r_rem (by omega) ?_ | refine r_quo (by omega) ?_ | refine r_ldb (by assumption) (by rfl) ?_ | refine r_ldbE (by assumption) (by rfl) ?_))); (conv => whnf)
    refine r_new fun b9 w7 hx7 hb7 hs7 hblk7 => ?_
    (repeat ((conv => whnf); (first | with_reducible refine r_tt ?_ | with_reducible refine r_ff ?_ | with_reducible refine r_ntt ?_ | with_reducible refine r_nff ?_ | refine r_need (by omega) ?_ | refine r_i64 (by omega) ?_ | refine r_dect (by omega) ?_ | refine r_decf (by omega) ?_ | refine r_eqt (by omega) ?_ | refine r_eqf (by omega) ?_ | refine r_net (by omega) ?_ | refine r_nef (by omega) ?_ | refine r_u8 (by omega) ?_ | refine r_u64 (by omega) ?_ | refine r_i32 (by omega) ?_ | refine r_u32 (by omega) ?_ | refine r_rem (by omega) ?_ | refine r_quo (by omega) ?_ | refine r_ldb (by assumption) (by rfl) ?_ | refine r_ldbE (by assumption) (by rfl) ?_))); (conv => whnf)
    refine r_stn hblk7 (by simp [En.cells]) (cells_one _) fun w8 hc8 hs8 hblk8 => ?_
    have hblk8 : Blk w8 b9 28 [.int .i64 (gt l 0).place, .int .i64 (gt l 0).order, .int .i64 (gt l 0).out] := hblk8
    have hx68 : Ext w6 w8 := Chg.step hx7 hc8 fun k hk hlt => by omega
    have hlast8 := hlast6.ext hx68
    have hleft8 := hleft6.ext hx68
    have hag8 := h6.ext hx68
    have hx08 := hx06.trans hx68
    by_cases hl0 : l.length = 0
    · have hnil : l = [] := List.length_eq_zero_iff.1 hl0
      subst hnil
      have hl6 : l6 = [] := List.eq_nil_iff_forall_not_mem.2 fun x hx => by
        have := ((m6 x).1 hx).1
        cases this
      subst hl6
      rw [show decide (0 < ([] : List En).length) = false from rfl]
      (repeat ((conv => whnf); (first | with_reducible refine r_tt ?_ | with_reducible refine r_ff ?_ | with_reducible refine r_ntt ?_ | with_reducible refine r_nff ?_ | refine r_need (by omega) ?_ | refine r_i64 (by omega) ?_ | refine r_dect (by omega) ?_ | refine r_decf (by omega) ?_ | refine r_eqt (by omega) ?_ | refine r_eqf (by omega) ?_ | refine r_net (by omega) ?_ | refine r_nef (by omega) ?_ | refine r_u8 (by omega) ?_ | refine r_u64 (by omega) ?_ | refine r_i32 (by omega) ?_ | refine r_u32 (by omega) ?_ | refine r_rem (by omega) ?_ | refine r_quo (by omega) ?_ | refine r_ldb (by assumption) (by rfl) ?_ | refine r_ldbE (by assumption) (by rfl) ?_))); (conv => whnf)
      refine r_cal (fixed_ok _) ?_
      rintro _ w9 ⟨hx9, rfl⟩
      (repeat ((conv => whnf); (first | with_reducible refine r_tt ?_ | with_reducible refine r_ff ?_ | with_reducible refine r_ntt ?_ | with_reducible refine r_nff ?_ | refine r_need (by omega) ?_ | refine r_i64 (by omega) ?_ | refine r_dect (by omega) ?_ | refine r_decf (by omega) ?_ | refine r_eqt (by omega) ?_ | refine r_eqf (by omega) ?_ | refine r_net (by omega) ?_ | refine r_nef (by omega) ?_ | refine r_u8 (by omega) ?_ | refine r_u64 (by omega) ?_ | refine r_i32 (by omega) ?_ | refine r_u32 (by omega) ?_ | refine r_rem (by omega) ?_ | refine r_quo (by omega) ?_ | refine r_ldb (by assumption) (by rfl) ?_ | refine r_ldbE (by assumption) (by rfl) ?_))); (conv => whnf)
      rw [← fe_nil] at hleft8
      refine r_mapLen0 (hleft8.ext hx9) keyed umapE (fun _ => rfl) ?_
      (repeat ((conv => whnf); (first | with_reducible refine r_tt ?_ | with_reducible refine r_ff ?_ | with_reducible refine r_ntt ?_ | with_reducible refine r_nff ?_ | refine r_need (by omega) ?_ | refine r_i64 (by omega) ?_ | refine r_dect (by omega) ?_ | refine r_decf (by omega) ?_ | refine r_eqt (by omega) ?_ | refine r_eqf (by omega) ?_ | refine r_net (by omega) ?_ | refine r_nef (by omega) ?_ | refine r_u8 (by omega) ?_ | refine r_u64 (by omega) ?_ | refine r_i32 (by omega) ?_ | refine r_u32 (by omega) ?_ | refine r_rem (by omega) ?_ | refine r_quo (by omega) ?_ | refine r_ldb (by assumption) (by rfl) ?_ | refine r_ldbE (by assumption) (by rfl) ?_))); (conv => whnf)
      refine r_cal (aLen_ok (hag8.ext hx9)) ?_
      rintro _ w10 ⟨rfl, rfl⟩
      (repeat ((conv => whnf); (first | with_reducible refine r_tt ?_ | with_reducible refine r_ff ?_ | with_reducible refine r_ntt ?_ | with_reducible refine r_nff ?_ | refine r_need (by omega) ?_ | refine r_i64 (by omega) ?_ | refine r_dect (by omega) ?_ | refine r_decf (by omega) ?_ | refine r_eqt (by omega) ?_ | refine r_eqf (by omega) ?_ | refine r_net (by omega) ?_ | refine r_nef (by omega) ?_ | refine r_u8 (by omega) ?_ | refine r_u64 (by omega) ?_ | refine r_i32 (by omega) ?_ | refine r_u32 (by omega) ?_ | refine r_rem (by omega) ?_ | refine r_quo (by omega) ?_ | refine r_ldb (by assumption) (by rfl) ?_ | refine r_ldbE (by assumption) (by rfl) ?_))); (conv => whnf)
      exact ⟨rfl, hx08.trans hx9⟩
    · have hmem0 : gt l 0 ∈ l := mem_gt.2 ⟨0, by omega, rfl⟩
      have hwf0 := hq.ag.pile.wf _ hmem0
      have htl := take_len hq.ag.pile.dist h6.pile.dist (by omega) m6
      rw [decide_eq_true (show 0 < l.length by omega)]
      (repeat ((conv => whnf); (first | with_reducible refine r_tt ?_ | with_reducible refine r_ff ?_ | with_reducible refine r_ntt ?_ | with_reducible refine r_nff ?_ | refine r_need (by omega) ?_ | refine r_i64 (by omega) ?_ | refine r_dect (by omega) ?_ | refine r_decf (by omega) ?_ | refine r_eqt (by omega) ?_ | refine r_eqf (by omega) ?_ | refine r_net (by omega) ?_ | refine r_nef (by omega) ?_ | refine r_u8 (by omega) ?_ | refine r_u64 (by omega) ?_ | refine r_i32 (by omega) ?_ | refine r_u32 (by omega) ?_ | refine r_rem (by omega) ?_ | refine r_quo (by omega) ?_ | refine r_ldb (by assumption) (by rfl) ?_ | refine r_ldbE (by assumption) (by rfl) ?_))); (conv => whnf)
      refine r_look hleft8 keyed umapE zen (key_of hwf0) ?_
      rw [fe_mem hq.ag.pile.dist hmem0]
      (repeat ((conv => whnf); (first | with_reducible refine r_tt ?_ | with_reducible refine r_ff ?_ | with_reducible refine r_ntt ?_ | with_reducible refine r_nff ?_ | refine r_need (by omega) ?_ | refine r_i64 (by omega) ?_ | refine r_dect (by omega) ?_ | refine r_decf (by omega) ?_ | refine r_eqt (by omega) ?_ | refine r_eqf (by omega) ?_ | refine r_net (by omega) ?_ | refine r_nef (by omega) ?_ | refine r_u8 (by omega) ?_ | refine r_u64 (by omega) ?_ | refine r_i32 (by omega) ?_ | refine r_u32 (by omega) ?_ | refine r_rem (by omega) ?_ | refine r_quo (by omega) ?_ | refine r_ldb (by assumption) (by rfl) ?_ | refine r_ldbE (by assumption) (by rfl) ?_))); (conv => whnf)
      refine r_new fun b11 w9 hx9 hb9 hs9 hblk9 => ?_
      have hlt8 := hblk8.lt
      have hblk8 := hblk8.ext hx9
      (repeat ((conv => whnf); (first | with_reducible refine r_tt ?_ | with_reducible refine r_ff ?_ | with_reducible refine r_ntt ?_ | with_reducible refine r_nff ?_ | refine r_need (by omega) ?_ | refine r_i64 (by omega) ?_ | refine r_dect (by omega) ?_ | refine r_decf (by omega) ?_ | refine r_eqt (by omega) ?_ | refine r_eqf (by omega) ?_ | refine r_net (by omega) ?_ | refine r_nef (by omega) ?_ | refine r_u8 (by omega) ?_ | refine r_u64 (by omega) ?_ | refine r_i32 (by omega) ?_ | refine r_u32 (by omega) ?_ | refine r_rem (by omega) ?_ | refine r_quo (by omega) ?_ | refine r_ldb (by assumption) (by rfl) ?_ | refine r_ldbE (by assumption) (by rfl) ?_))); (conv => whnf)
      refine r_stn hblk9 (by simp [En.cells]) (cells_one (gt l 0)) fun w10 hc10 hs10 hblk10 => ?_
      have hblk10 : Blk w10 b11 28 (gt l 0).cells := hblk10
      have hblk8 := hblk8.keep hc10 (by omega)
      have hx810 : Ext w8 w10 := Chg.step hx9 hc10 fun k hk hlt => by omega
      have hlast10 : Blk w10 b7 28 [.int .i64 la.place, .int .i64 la.order, .int .i64 la.out] := hlast8.ext hx810
      have hleft10 := hleft8.ext hx810
      have hag10 := hag8.ext hx810
      have hx010 := hx08.trans hx810
      (repeat ((conv => whnf); (first | with_reducible refine r_tt ?_ | with_reducible refine r_ff ?_ | with_reducible refine r_ntt ?_ | with_reducible refine r_nff ?_ | refine r_need (by omega) ?_ | refine r_i64 (by omega) ?_ | refine r_dect (by omega) ?_ | refine r_decf (by omega) ?_ | refine r_eqt (by omega) ?_ | refine r_eqf (by omega) ?_ | refine r_net (by omega) ?_ | refine r_nef (by omega) ?_ | refine r_u8 (by omega) ?_ | refine r_u64 (by omega) ?_ | refine r_i32 (by omega) ?_ | refine r_u32 (by omega) ?_ | refine r_rem (by omega) ?_ | refine r_quo (by omega) ?_ | refine r_ldb (by assumption) (by rfl) ?_ | refine r_ldbE (by assumption) (by rfl) ?_))); (conv => whnf)
      refine r_false (by rfl) ?_
      (repeat ((conv => whnf); (first | with_reducible refine r_tt ?_ | with_reducible refine r_ff ?_ | with_reducible refine r_ntt ?_ | with_reducible refine r_nff ?_ | refine r_need (by omega) ?_ | refine r_i64 (by omega) ?_ | refine r_dect (by omega) ?_ | refine r_decf (by omega) ?_ | refine r_eqt (by omega) ?_ | refine r_eqf (by omega) ?_ | refine r_net (by omega) ?_ | refine r_nef (by omega) ?_ | refine r_u8 (by omega) ?_ | refine r_u64 (by omega) ?_ | refine r_i32 (by omega) ?_ | refine r_u32 (by omega) ?_ | refine r_rem (by omega) ?_ | refine r_quo (by omega) ?_ | refine r_ldb (by assumption) (by rfl) ?_ | refine r_ldbE (by assumption) (by rfl) ?_))); (conv => whnf)
      refine r_ldnb (vs := (gt l 0).cells) hblk10 rfl rfl ?_
      (repeat ((conv => whnf); (first | with_reducible refine r_tt ?_ | with_reducible refine r_ff ?_ | with_reducible refine r_ntt ?_ | with_reducible refine r_nff ?_ | refine r_need (by omega) ?_ | refine r_i64 (by omega) ?_ | refine r_dect (by omega) ?_ | refine r_decf (by omega) ?_ | refine r_eqt (by omega) ?_ | refine r_eqf (by omega) ?_ | refine r_net (by omega) ?_ | refine r_nef (by omega) ?_ | refine r_u8 (by omega) ?_ | refine r_u64 (by omega) ?_ | refine r_i32 (by omega) ?_ | refine r_u32 (by omega) ?_ | refine r_rem (by omega) ?_ | refine r_quo (by omega) ?_ | refine r_ldb (by assumption) (by rfl) ?_ | refine r_ldbE (by assumption) (by rfl) ?_))); (conv => whnf)
      refine r_ldnb (vs := (gt l 0).cells) hblk8 rfl rfl ?_
      (repeat ((conv => whnf); (first | with_reducible refine r_tt ?_ | with_reducible refine r_ff ?_ | with_reducible refine r_ntt ?_ | with_reducible refine r_nff ?_ | refine r_need (by omega) ?_ | refine r_i64 (by omega) ?_ | refine r_dect (by omega) ?_ | refine r_decf (by omega) ?_ | refine r_eqt (by omega) ?_ | refine r_eqf (by omega) ?_ | refine r_net (by omega) ?_ | refine r_nef (by omega) ?_ | refine r_u8 (by omega) ?_ | refine r_u64 (by omega) ?_ | refine r_i32 (by omega) ?_ | refine r_u32 (by omega) ?_ | refine r_rem (by omega) ?_ | refine r_quo (by omega) ?_ | refine r_ldb (by assumption) (by rfl) ?_ | refine r_ldbE (by assumption) (by rfl) ?_))); (conv => whnf)
      refine r_nes (n := 3) (by kernel_rfl) rfl ⟨rfl, rfl, rfl, trivial⟩ fun b' hb' => ?_
      have hb' : b' = false := by
        cases b' with
        | false => rfl
        | true => exact absurd rfl (hb'.1 rfl)
      subst hb'
      have nxt : ∀ w', QS w w' ab mb lb g c l6 → Blk w' b7 28 (gt l 0).cells → again2 [.int .i64 ((n + 1 : Nat) : Int)] w' := fun w' h h' =>
        hagain2 (n + 1) w' ⟨l6, gt l 0, h, h', by omega, fun _ x hx => by
          obtain ⟨h1, h2⟩ := (m6 x).1 hx
          rcases less_or h2 with h3 | h3
          · exact absurd h3 (hq.ag.least x h1)
          · exact h3⟩ (by omega)
      have fin : ∀ w11, Chg (· = lb) w10 w11 → MapV Try.prog 3 w11 lb (upd (fe l) (.int .i64 (gt l 0).place) none) → ∀ w12, Chg (· = b7) w11 w12 → Blk w12 b7 28 (gt l 0).cells → again2 [.int .i64 ((n + 1 : Nat) : Int)] w12 := by
        intro w11 hc11 hm11 w12 hc12 hb12
        rw [fe_del hq.ag.pile.dist h6.pile.dist m6] at hm11
        refine nxt w12 ⟨(hag10.keep hc11 fun x hx e => hq.off (by rw [← e]; exact hx)).keep hc12 fun x hx e => ho7 (by rw [← e]; exact hx), hm11.keep hc12 fun e => h7l e.symm, hq.off, ?_, hq.new, hq.lnew⟩ hb12
        exact Chg.step (Chg.step hx010 hc11 fun k hk hlt => by have := hq.lnew; omega) hc12 fun k hk hlt => by omega
      by_cases hn0 : n = 0
      · subst hn0
        (repeat ((conv => whnf); (first | with_reducible refine r_tt ?_ | with_reducible refine r_ff ?_ | with_reducible refine r_ntt ?_ | with_reducible refine r_nff ?_ | refine r_need (by omega) ?_ | refine r_i64 (by omega) ?_ | refine r_dect (by omega) ?_ | refine r_decf (by omega) ?_ | refine r_eqt (by omega) ?_ | refine r_eqf (by omega) ?_ | refine r_net (by omega) ?_ | refine r_nef (by omega) ?_ | refine r_u8 (by omega) ?_ | refine r_u64 (by omega) ?_ | refine r_i32 (by omega) ?_ | refine r_u32 (by omega) ?_ | refine r_rem (by omega) ?_ | refine r_quo (by omega) ?_ | refine r_ldb (by assumption) (by rfl) ?_ | refine r_ldbE (by assumption) (by rfl) ?_))); (conv => whnf)
        refine r_delete hleft10 keyed umapE (key_of hwf0) fun w11 hc11 hs11 hm11 => ?_
        have hblk8 := hblk8.keep hc11 (hleft10.ne hblk8)
        have hlast11 := hlast10.keep hc11 h7l
        (repeat ((conv => whnf); (first | with_reducible refine r_tt ?_ | with_reducible refine r_ff ?_ | with_reducible refine r_ntt ?_ | with_reducible refine r_nff ?_ | refine r_need (by omega) ?_ | refine r_i64 (by omega) ?_ | refine r_dect (by omega) ?_ | refine r_decf (by omega) ?_ | refine r_eqt (by omega) ?_ | refine r_eqf (by omega) ?_ | refine r_net (by omega) ?_ | refine r_nef (by omega) ?_ | refine r_u8 (by omega) ?_ | refine r_u64 (by omega) ?_ | refine r_i32 (by omega) ?_ | refine r_u32 (by omega) ?_ | refine r_rem (by omega) ?_ | refine r_quo (by omega) ?_ | refine r_ldb (by assumption) (by rfl) ?_ | refine r_ldbE (by assumption) (by rfl) ?_))); (conv => whnf)
        refine r_ldnb (vs := (gt l 0).cells) hblk8 rfl rfl ?_
        (repeat ((conv => whnf); (first | with_reducible refine r_tt ?_ | with_reducible refine r_ff ?_ | with_reducible refine r_ntt ?_ | with_reducible refine r_nff ?_ | refine r_need (by omega) ?_ | refine r_i64 (by omega) ?_ | refine r_dect (by omega) ?_ | refine r_decf (by omega) ?_ | refine r_eqt (by omega) ?_ | refine r_eqf (by omega) ?_ | refine r_net (by omega) ?_ | refine r_nef (by omega) ?_ | refine r_u8 (by omega) ?_ | refine r_u64 (by omega) ?_ | refine r_i32 (by omega) ?_ | refine r_u32 (by omega) ?_ | refine r_rem (by omega) ?_ | refine r_quo (by omega) ?_ | refine r_ldb (by assumption) (by rfl) ?_ | refine r_ldbE (by assumption) (by rfl) ?_))); (conv => whnf)
        refine r_stn hlast11 (by simp [En.cells]) (cells_one (gt l 0)) fun w12 hc12 hs12 hblk12 => ?_
        (repeat ((conv => whnf); (first | with_reducible refine r_tt ?_ | with_reducible refine r_ff ?_ | with_reducible refine r_ntt ?_ | with_reducible refine r_nff ?_ | refine r_need (by omega) ?_ | refine r_i64 (by omega) ?_ | refine r_dect (by omega) ?_ | refine r_decf (by omega) ?_ | refine r_eqt (by omega) ?_ | refine r_eqf (by omega) ?_ | refine r_net (by omega) ?_ | refine r_nef (by omega) ?_ | refine r_u8 (by omega) ?_ | refine r_u64 (by omega) ?_ | refine r_i32 (by omega) ?_ | refine r_u32 (by omega) ?_ | refine r_rem (by omega) ?_ | refine r_quo (by omega) ?_ | refine r_ldb (by assumption) (by rfl) ?_ | refine r_ldbE (by assumption) (by rfl) ?_))); (conv => whnf)
        exact fin w11 hc11 hm11 w12 hc12 hblk12
      · have hls := hsort (by omega) _ hmem0
        unfold less at hls
        by_cases ho : (gt l 0).order = la.order
        all_goals
          (repeat ((conv => whnf); (first | with_reducible refine r_tt ?_ | with_reducible refine r_ff ?_ | with_reducible refine r_ntt ?_ | with_reducible refine r_nff ?_ | refine r_need (by omega) ?_ | refine r_i64 (by omega) ?_ | refine r_dect (by omega) ?_ | refine r_decf (by omega) ?_ | refine r_eqt (by omega) ?_ | refine r_eqf (by omega) ?_ | refine r_net (by omega) ?_ | refine r_nef (by omega) ?_ | refine r_u8 (by omega) ?_ | refine r_u64 (by omega) ?_ | refine r_i32 (by omega) ?_ | refine r_u32 (by omega) ?_ | refine r_rem (by omega) ?_ | refine r_quo (by omega) ?_ | refine r_ldb (by assumption) (by rfl) ?_ | refine r_ldbE (by assumption) (by rfl) ?_))); (conv => whnf)
          refine r_delete hleft10 keyed umapE (key_of hwf0) fun w11 hc11 hs11 hm11 => ?_
          have hblk8 := hblk8.keep hc11 (hleft10.ne hblk8)
          have hlast11 := hlast10.keep hc11 h7l
          (repeat ((conv => whnf); (first | with_reducible refine r_tt ?_ | with_reducible refine r_ff ?_ | with_reducible refine r_ntt ?_ | with_reducible refine r_nff ?_ | refine r_need (by omega) ?_ | refine r_i64 (by omega) ?_ | refine r_dect (by omega) ?_ | refine r_decf (by omega) ?_ | refine r_eqt (by omega) ?_ | refine r_eqf (by omega) ?_ | refine r_net (by omega) ?_ | refine r_nef (by omega) ?_ | refine r_u8 (by omega) ?_ | refine r_u64 (by omega) ?_ | refine r_i32 (by omega) ?_ | refine r_u32 (by omega) ?_ | refine r_rem (by omega) ?_ | refine r_quo (by omega) ?_ | refine r_ldb (by assumption) (by rfl) ?_ | refine r_ldbE (by assumption) (by rfl) ?_))); (conv => whnf)
          refine r_ldnb (vs := (gt l 0).cells) hblk8 rfl rfl ?_
          (repeat ((conv => whnf); (first | with_reducible refine r_tt ?_ | with_reducible refine r_ff ?_ | with_reducible refine r_ntt ?_ | with_reducible refine r_nff ?_ | refine r_need (by omega) ?_ | refine r_i64 (by omega) ?_ | refine r_dect (by omega) ?_ | refine r_decf (by omega) ?_ | refine r_eqt (by omega) ?_ | refine r_eqf (by omega) ?_ | refine r_net (by omega) ?_ | refine r_nef (by omega) ?_ | refine r_u8 (by omega) ?_ | refine r_u64 (by omega) ?_ | refine r_i32 (by omega) ?_ | refine r_u32 (by omega) ?_ | refine r_rem (by omega) ?_ | refine r_quo (by omega) ?_ | refine r_ldb (by assumption) (by rfl) ?_ | refine r_ldbE (by assumption) (by rfl) ?_))); (conv => whnf)
          refine r_stn hlast11 (by simp [En.cells]) (cells_one (gt l 0)) fun w12 hc12 hs12 hblk12 => ?_
          (repeat ((conv => whnf); (first | with_reducible refine r_tt ?_ | with_reducible refine r_ff ?_ | with_reducible refine r_ntt ?_ | with_reducible refine r_nff ?_ | refine r_need (by omega) ?_ | refine r_i64 (by omega) ?_ | refine r_dect (by omega) ?_ | refine r_decf (by omega) ?_ | refine r_eqt (by omega) ?_ | refine r_eqf (by omega) ?_ | refine r_net (by omega) ?_ | refine r_nef (by omega) ?_ | refine r_u8 (by omega) ?_ | refine r_u64 (by omega) ?_ | refine r_i32 (by omega) ?_ | refine r_u32 (by omega) ?_ | refine r_rem (by omega) ?_ | refine r_quo (by omega) ?_ | refine r_ldb (by assumption) (by rfl) ?_ | refine r_ldbE (by assumption) (by rfl) ?_))); (conv => whnf)
          exact fin w11 hc11 hm11 w12 hc12 hblk12
end
end Fb.Try.QU
