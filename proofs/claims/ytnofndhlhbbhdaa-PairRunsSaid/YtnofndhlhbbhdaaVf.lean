/-
  The frame of a law's proof, for every program: what the arguments' readings say of their cells, and from the walk to the row's post-condition.
-/
import Derived.Test.YtnofndhlhbbhdaaVr
import Derived.ProofKit
import Derived.OpenShut
import Derived.WideKeyArgs
namespace Fb
open Go Go.ChangeShapes Go.WideShapes Go.RowKit Go.WideElems

section
variable {H : Type} {enc : TypeId × Value → H} {P : Program} {W W' : World}

theorem Ext.kept (h : Ext W W') (may : MemPlace → Prop) : W.keptBut W' may := by
  refine ⟨h.os, h.output, fun i hi => ?_⟩
  have e := h.block i hi (fun f => f)
  rw [e]
  cases ho : W.heap[i]? with
  | none => trivial
  | some o =>
    cases o with
    | cells c t fr => exact ⟨rfl, rfl, rfl, fun _ _ => rfl⟩
    | map es clock => exact .inr ⟨rfl, rfl⟩
    | _ => rfl

theorem trodAll_ext (hl : laidOutB P = true) (hx : Ext W W') : ∀ (ts : List TypeId) (vs : List Value) (ds : List (DataW H)) (ps : List MemPlace), (ts.all fun t => P.readableRec t && decide (t < P.types.size)) = true →
    DataW.TrodAll enc P W 0 (fun _ => true) true ts vs ds ps → (∀ p ∈ ps, p.block < W.heap.size) → DataW.TrodAll enc P W' 0 (fun b => decide (b < W.heap.size)) true ts vs ds ps
  | [], _, _, _, _, h, _ => by
    obtain ⟨rfl, rfl, rfl⟩ := trodAll_nil h
    rfl
  | t :: ts, _, _, _, ht, h, hp => by
    obtain ⟨v, vs, d, ds, p, q, rfl, rfl, rfl, h1, h2⟩ := trodAll_cons h
    simp only [List.all_cons, Bool.and_eq_true, decide_eq_true_eq] at ht
    refine ⟨p, q, Trod_stays hl ht.1.1 ht.1.2 h1 (fun x hx' => hx.below.same (hp x (by simp [hx']))) (fun x hx' => by simpa using hp x (by simp [hx'])), ?_, rfl⟩
    exact trodAll_ext hl hx ts vs ds q (by simpa using ht.2) h2 fun x hx' => hp x (by simp [hx'])

/-- FROM THE WALK TO THE ROW: the law returns true, and what was there is as it was. -/
theorem law_calls {f : FuncId} {fn : Func} {s : ChangeSpec} {apart fresh handsOn : Bool} {args : Array Value} {ds gs : List (DataW H)} {before : List MemPlace} {tb : TypeId} (hl : laidOutB P = true)
    (hpar : (fn.params.toList.all fun t => P.readableRec t && decide (t < P.types.size)) = true) (hres : fn.resultTypes = #[tb]) (htb : P.underlying tb = some .bool) (hv : s.vars = [])
    (hs : s.fn H (ds ++ gs) = { results := [.lit (.bool true)], args := ds }) (hW : DataW.Whole enc P fn.params.toList s.vars apart W args.toList ds gs before)
    (h : Cal P f args W fun v w' => v = .bool true ∧ Ext W w') : Calls P f args W fun e W' => ∃ v, e = .returned v ∧ s.post enc P fn apart fresh handsOn false W args v W' := by
  rw [Cal_eq] at h
  refine h.mono fun e W' he => ?_
  obtain ⟨v, rfl, rfl, hx⟩ := he
  have hW0 := hW
  obtain ⟨p, q, hA, hV, rfl, _, _⟩ := hW
  rw [hv] at hV
  obtain ⟨rfl, rfl⟩ := trodVars_none hV
  refine ⟨_, rfl, ds, [], p ++ [], [], p, [], hW0, ?_, ?_, ?_, hx.kept _, fun hf => by cases hf⟩
  · rw [hs, hres]
    exact trodAll_mk1 (shut_bool htb true)
  · rw [hs]
    exact trodAll_ext hl hx _ _ _ _ hpar hA fun x hx' => hW0.lt x (by simpa using hx')
  · rw [hv, hs]
    rfl

/-! ### What is read, leaf by leaf -/
inductive Leaf where
  | int (k : IntKind)
  | str
  | bool
  | sl (t : TypeId)

def leafsF (P : Program) (r : TypeId → Option (List Leaf)) : List Field → Nat → Option (List Leaf)
  | [], _ => some []
  | f :: fs, off => if f.offset = off then (r f.type).bind fun l => if l.length = P.cellsOf f.type then (leafsF P r fs (off + l.length)).map (l ++ ·) else none else none
def leafs (P : Program) : Nat → TypeId → Option (List Leaf)
  | 0, _ => none
  | n + 1, t => match P.underlying t with
    | some (.int k) => some [.int k]
    | some .string => some [.str]
    | some .bool => some [.bool]
    | some (.slice _) => some [.sl t]
    | some (.struct fs) => (leafsF P (leafs P n) fs.toList 0).bind fun ls => if ls.length = P.cellsOf t then some ls else none
    | _ => none

/-- What a reading of one cell is. -/
def LeafOk (enc : TypeId × Value → H) (P : Program) (W : World) : Leaf → Value → Prop
  | .int k, v => ∃ n, v = .int k n ∧ (Lit.int k n).wf = true
  | .str, v => ∃ s : ByteArray, v = .string s ∧ s.size ≤ maxLen
  | .bool, v => ∃ b, v = .bool b
  | .sl t, v => ∃ fuel x, DataW.trod enc P W 0 (fun _ => true) true fuel t [v] = some x
def AllOk (enc : TypeId × Value → H) (P : Program) (W : World) : List Leaf → List Value → Prop
  | [], vs => vs = []
  | l :: ls, vs => ∃ u us, vs = u :: us ∧ LeafOk enc P W l u ∧ AllOk enc P W ls us

theorem allOk_append : ∀ {l1 l2 : List Leaf} {c1 c2 : List Value}, AllOk enc P W l1 c1 → AllOk enc P W l2 c2 → AllOk enc P W (l1 ++ l2) (c1 ++ c2)
  | [], _, _, _, h, k => by
    have : _ = [] := h
    subst this
    exact k
  | _ :: _, _, _, _, ⟨u, us, e, h1, h2⟩, k => ⟨u, us ++ _, by rw [e]; rfl, h1, allOk_append h2 k⟩

theorem leafsF_ok {r : TypeId → Option (List Leaf)} {cs : List Value} : ∀ (fl : List Field) (off : Nat) (ls : List Leaf), leafsF P r fl off = some ls →
    (∀ f ∈ fl, ∀ l, r f.type = some l → l.length = P.cellsOf f.type → AllOk enc P W l ((cs.drop f.offset).take (P.cellsOf f.type))) → AllOk enc P W ls ((cs.drop off).take ls.length)
  | [], _, ls, h, _ => by
    simp only [leafsF, Option.some.injEq] at h
    subst h
    simp [AllOk]
  | f :: fs, off, ls, h, hr => by
    simp only [leafsF] at h
    split at h
    · rename_i hoff
      simp only [Option.bind_eq_some_iff] at h
      obtain ⟨l, hl, h⟩ := h
      split at h
      · rename_i hlen
        simp only [Option.map_eq_some_iff] at h
        obtain ⟨lr, hlr, rfl⟩ := h
        have h1 := hr f (by simp) l hl hlen
        have h2 := leafsF_ok fs _ lr hlr fun g hg => hr g (by simp [hg])
        rw [hoff, ← hlen] at h1
        rw [List.length_append, List.take_add, List.drop_drop]
        exact allOk_append h1 h2
      · cases h
    · cases h

theorem leafs_ok : ∀ (m : Nat) (t : TypeId) (ls : List Leaf), leafs P m t = some ls → ∀ (fuel : Nat) (cs : List Value) (x : DataW H × List MemPlace), DataW.trod enc P W 0 (fun _ => true) true fuel t cs = some x → AllOk enc P W ls cs
  | 0, _, _, h, _, _, _, _ => by cases h
  | m + 1, t, ls, h, fuel, cs, x, hx => by
    simp only [leafs] at h
    split at h
    · rename_i k hu
      cases h
      obtain ⟨n, rfl, _, hw⟩ := DataW.trod_int hu hx
      exact ⟨_, _, rfl, ⟨n, rfl, hw⟩, rfl⟩
    · rename_i hu
      cases h
      obtain ⟨s, rfl, _, hw⟩ := DataW.trod_string hu hx
      exact ⟨_, _, rfl, ⟨s, rfl, hw⟩, rfl⟩
    · rename_i hu
      cases h
      obtain ⟨b, rfl, _⟩ := DataW.trod_bool hu hx
      exact ⟨_, _, rfl, ⟨b, rfl⟩, rfl⟩
    · rename_i e hu
      cases h
      rcases DataW.trod_slice hu hx with ⟨rfl, _⟩ | ⟨a, len, cap, _, _, _, _, rfl, _⟩
      · exact ⟨_, _, rfl, ⟨fuel, x, hx⟩, rfl⟩
      · exact ⟨_, _, rfl, ⟨fuel, x, hx⟩, rfl⟩
    · rename_i fs hu
      simp only [Option.bind_eq_some_iff] at h
      obtain ⟨ls', hls, h⟩ := h
      split at h
      · rename_i hlen
        cases h
        obtain ⟨xs, n, rfl, _, hcl, hxl, hf⟩ := DataW.trod_struct hu hx
        have := leafsF_ok (enc := enc) (W := W) (cs := cs) fs.toList 0 ls hls fun f hf' l hl hll => by
          obtain ⟨i, hi⟩ := List.getElem?_of_mem hf'
          have hi' : fs[i]? = some f := by simpa using hi
          have hti := hf i f hi'
          have hlt : i < xs.length := by
            rw [hxl]
            exact (Array.getElem?_eq_some_iff.1 hi').1
          rw [List.getElem?_eq_getElem hlt] at hti
          exact leafs_ok m f.type l hl n _ _ hti
        rw [List.drop_zero, hlen, ← hcl, List.take_length] at this
        exact this
      · cases h
    · cases h

/-- An argument of a struct's type. -/
theorem open_agg {r : Reach} {b0 : Nat} {t : TypeId} {v : Value} {d : DataW H} {ps : List MemPlace} {ls : List Leaf} {fs : Array Field} (m : Nat) (ht : P.underlying t = some (.struct fs)) (hls : leafs P m t = some ls) (hval : Value.okWide P W r b0 t v)
    (hd : DataW.Trod enc P W 0 (fun _ => true) true t v d ps) : ∃ cs : List Value, v = .agg ⟨cs⟩ ∧ AllOk enc P W ls cs := by
  simp only [Value.okWide, ht] at hval
  obtain ⟨⟨cs⟩, rfl, _⟩ := hval
  obtain ⟨fuel, hf⟩ := hd
  exact ⟨cs, rfl, leafs_ok m t ls hls fuel _ _ hf⟩

/-- The cells of all elements, one behind the other. -/
theorem flat_get : ∀ (L : List (List Value)) (size : Nat), (∀ c ∈ L, c.length = size) → ∀ (i : Nat) (u : Value), L.flatten[i]? = some u → ∃ k j c, i = k * size + j ∧ j < size ∧ L[k]? = some c ∧ c[j]? = some u
  | [], _, _, i, u, h => by simp at h
  | c :: L, size, hl, i, u, h => by
    have hc := hl c (by simp)
    by_cases hi : i < size
    · refine ⟨0, i, c, by simp, hi, rfl, ?_⟩
      rwa [List.flatten_cons, List.getElem?_append_left (by omega)] at h
    · rw [List.flatten_cons, List.getElem?_append_right (by omega), hc] at h
      obtain ⟨k, j, c', h1, h2, h3, h4⟩ := flat_get L size (fun x hx => hl x (by simp [hx])) _ _ h
      exact ⟨k + 1, j, c', by rw [Nat.add_mul]; omega, h2, by simpa using h3, h4⟩

theorem cells?_at {a : Addr} {n : Nat} {c : List Value} (h : W.cells? 0 a n = some c) : c.length = n ∧ ∀ j u, c[j]? = some u → W.cell? (a.add j) = some u := by
  unfold World.cells? at h
  rw [if_pos (Nat.zero_le _)] at h
  have hl := mapM_some_length h
  refine ⟨by simpa using hl, fun j u hj => ?_⟩
  have hjl : j < n := by
    have := (List.getElem?_eq_some_iff.1 hj).1
    have hl' : c.length = n := by simpa using hl
    omega
  have := mapM_some_get h j j (by simp [hjl])
  rw [this, hj]

theorem flatten_length (L : List (List Value)) (size : Nat) (h : ∀ c ∈ L, c.length = size) : L.flatten.length = L.length * size := by
  induction L with
  | nil => simp
  | cons c L ih =>
    rw [List.flatten_cons, List.length_append, ih fun x hx => h x (by simp [hx]), h c (by simp), List.length_cons, Nat.add_mul]
    omega

/-- A slice. -/
theorem open_slice {t e : TypeId} {size : Nat} (ht : P.underlying t = some (.slice e)) (hsz : P.cellsOf e = size) (hpos : 0 < size) {fuel : Nat} {v : Value} {x : DataW H × List MemPlace} (h : DataW.trod enc P W 0 (fun _ => true) true fuel t [v] = some x) :
    ∃ (a : Option Addr) (len cap : Nat) (L : List (List Value)), v = .slice a len cap ∧ L.length = len ∧ View W a len cap size L.flatten ∧ ∀ c ∈ L, c.length = size ∧ ∃ n y, DataW.trod enc P W 0 (fun _ => true) true n e c = some y := by
  rcases DataW.trod_slice ht h with ⟨hv, _⟩ | ⟨a, len, cap, elems, rest, n, rfl, hv, _, _, hle, hmax, hel, hcells, _⟩
  · cases hv
    exact ⟨none, 0, 0, [], rfl, rfl, View.nil W size, by simp⟩
  · cases hv
    rw [hsz] at hcells
    have hc : ∀ i, i < len → ∃ c, W.cells? 0 (a.add (i * size)) size = some c ∧ ∃ y, DataW.trod enc P W 0 (fun _ => true) true n e c = some y := fun i hi => by
      have := hcells i hi
      rw [List.getElem?_eq_getElem (by omega)] at this
      simp only [Option.bind_eq_some_iff] at this
      obtain ⟨c, h1, h2⟩ := this
      exact ⟨c, h1, _, h2⟩
    let L := (List.range len).map fun i => (W.cells? 0 (a.add (i * size)) size).getD []
    have hL : ∀ (i : Nat) (c : List Value), L[i]? = some c → W.cells? 0 (a.add (i * size)) size = some c ∧ i < len ∧ ∃ y, DataW.trod enc P W 0 (fun _ => true) true n e c = some y := fun i c hi => by
      have hil : i < len := by have := (List.getElem?_eq_some_iff.1 hi).1; simpa [L] using this
      obtain ⟨c', h1, h2⟩ := hc i hil
      have : c' = c := by
        simp only [L, List.getElem?_map, List.getElem?_range hil, Option.map_some, Option.some.injEq, h1, Option.getD_some] at hi
        exact hi
      subst this
      exact ⟨h1, hil, h2⟩
    have hLl : ∀ c ∈ L, c.length = size := fun c hm => by
      obtain ⟨i, hi⟩ := List.getElem?_of_mem hm
      exact (cells?_at (hL i c hi).1).1
    have hcell : ∀ i u, L.flatten[i]? = some u → W.cell? ⟨a.block, a.off + i, none⟩ = some u ∧ a.spot = none := fun i u hu => by
      obtain ⟨k, j, c, rfl, hj, hk, hju⟩ := flat_get L size hLl i u hu
      obtain ⟨h1, hkl, _⟩ := hL k c hk
      have h2 := (cells?_at h1).2 j u hju
      have hsp : (a.add (k * size)).add j = ⟨a.block, a.off + (k * size + j), none⟩ ∧ a.spot = none ∨ False := by
        left
        have key : ∀ (x : Addr) (u : Value), W.cell? x = some u → x.spot = none := fun x u hx => by
          unfold World.cell? at hx
          split at hx
          · split at hx
            · cases hx
            · rename_i hs; simpa using hs
          · cases hx
        have h0 : a.spot = none := by
          obtain ⟨c0, hc0, _⟩ := hc 0 (by omega)
          obtain ⟨l0, g0⟩ := cells?_at hc0
          have := g0 0 c0[0] (by simp [l0, hpos])
          have := key _ _ this
          simpa [Addr.add] using this
        refine ⟨?_, h0⟩
        obtain ⟨ab, ao, as⟩ := a
        simp only at h0
        subst h0
        rw [Addr.add_plain, Addr.add_plain, Nat.add_assoc]
      rcases hsp with ⟨e1, e2⟩ | f
      · rw [e1] at h2
        exact ⟨h2, e2⟩
      · exact f.elim
    refine ⟨some a, len, cap, L, rfl, by simp [L], ⟨?_, hle, hmax, fun hp => ?_, fun i u hu => (hcell i u hu).1⟩, fun c hm => ⟨hLl c hm, ?_⟩⟩
    · rw [flatten_length L size hLl]
      simp [L]
    · have := hcell 0 L.flatten[0] (by simp)
      obtain ⟨ab, ao, as⟩ := a
      simp only at this
      obtain ⟨_, rfl⟩ := this
      rfl
    · obtain ⟨i, hi⟩ := List.getElem?_of_mem hm
      obtain ⟨_, _, y, hy⟩ := hL i c hi
      exact ⟨n, y, hy⟩

/-- A slice of numbers. -/
theorem open_sl_int {t e : TypeId} {k : IntKind} (ht : P.underlying t = some (.slice e)) (he : P.underlying e = some (.int k)) (hsz : P.cellsOf e = 1) {v : Value} (h : LeafOk enc P W (.sl t) v) :
    ∃ (a : Option Addr) (len cap : Nat) (xs : List Int), v = .slice a len cap ∧ View W a len cap 1 (xs.map (.int k)) ∧ ∀ x ∈ xs, (Lit.int k x).wf = true := by
  obtain ⟨fuel, x, h⟩ := h
  obtain ⟨a, len, cap, L, rfl, hl, hv, hc⟩ := open_slice ht hsz (by omega) h
  have : ∃ xs : List Int, L.flatten = xs.map (.int k) ∧ ∀ x ∈ xs, (Lit.int k x).wf = true := by
    clear hv hl h
    induction L with
    | nil => exact ⟨[], by simp, by simp⟩
    | cons c L ih =>
      obtain ⟨xs, h1, h2⟩ := ih fun c' hc' => hc c' (by simp [hc'])
      obtain ⟨_, n, y, hy⟩ := hc c (by simp)
      obtain ⟨z, rfl, _, hw⟩ := DataW.trod_int he hy
      exact ⟨z :: xs, by simp [h1], by simpa using ⟨hw, h2⟩⟩
  obtain ⟨xs, h1, h2⟩ := this
  exact ⟨a, len, cap, xs, rfl, by rw [← h1]; exact hv, h2⟩

/-- A slice of what is made of leafs. -/
theorem open_sl_leafs {t e : TypeId} {size : Nat} {ls : List Leaf} (m : Nat) (ht : P.underlying t = some (.slice e)) (hls : leafs P m e = some ls) (hsz : P.cellsOf e = size) (hpos : 0 < size) {v : Value} (h : LeafOk enc P W (.sl t) v) :
    ∃ (a : Option Addr) (len cap : Nat) (L : List (List Value)), v = .slice a len cap ∧ L.length = len ∧ View W a len cap size L.flatten ∧ ∀ c ∈ L, c.length = size ∧ AllOk enc P W ls c := by
  obtain ⟨fuel, x, h⟩ := h
  obtain ⟨a, len, cap, L, rfl, hl, hv, hc⟩ := open_slice ht hsz hpos h
  exact ⟨a, len, cap, L, rfl, hl, hv, fun c hm => ⟨(hc c hm).1, by
    obtain ⟨_, n, y, hy⟩ := hc c hm
    exact leafs_ok m e ls hls n c y hy⟩⟩

/-- An argument of a slice's type. -/
theorem open_arg_sl {r : Reach} {b0 : Nat} {t e : TypeId} {v : Value} {d : DataW H} {ps : List MemPlace} (ht : P.underlying t = some (.slice e)) (hval : Value.okWide P W r b0 t v) (hd : DataW.Trod enc P W 0 (fun _ => true) true t v d ps) : LeafOk enc P W (.sl t) v := by
  simp only [Value.okWide, ht] at hval
  obtain ⟨fuel, hf⟩ := hd
  have : v.cells.toList = [v] := by
    cases v <;> first | rfl | (simp [Cell.okWide, Cell.ok, ht] at hval)
  rw [this] at hf
  exact ⟨fuel, _, hf⟩

end
end Fb
