/-
  Texts of ours in one file.
-/
import Derived.Test.YtlcnldimfgbjeaaB2
import Derived.Test.YtlcnldimfgbjeaaS
import Derived.Maps.AppendAt
import Derived.Laws.Strings
import Derived.Laws.BytesArg
import Derived.Maps.OwnSet
import Derived.WideKeyEntry
import Derived.StringKeys
import Derived.DeepKeys4
/-
  Bytes and texts, and append that tells where its result lies.
-/
namespace Fb
open Go
section
variable {P : Program} {w : World}
theorem r_appAt {t ty e size bytes base : Nat} {v : Value} {n : Nat} {xs : List Value} {a : Option Addr} {m c : Nat} {news : List Value} {K : Value → World → Prop} (he : Elem P t e size bytes) (hown : w.ownsRow base e size v n xs) (hv : View w a m c size news)
    (h1 : ∀ u ∈ news, u.oneCell' = true) (hb : (n + m) * bytes ≤ 140737488355328 ∧ n + m ≤ 4611686018427387904) (hbase : base ≤ w.heap.size)
    (k : ∀ v' w', w'.ownsRow base e size v' (n + m) (xs ++ news) → Chg (fun b => v.ownBlock = some b) w w' → (v' = .slice none 0 0 ↔ v = .slice none 0 0 ∧ m = 0) → (v'.ownBlock = v.ownBlock ∨ v'.ownBlock = some w.heap.size) → K v' w') : Run P (G.sem (.bi .append ⟨[t, t]⟩ ty) [v, .slice a m c]) w K := by
  obtain ⟨ht, i, z, hi, hz, hs, hby, hzs, hsz⟩ := he
  have hmax : n + m ≤ maxLen := by simp only [maxLen]; omega
  rcases Nat.eq_zero_or_pos m with rfl | hm
  · -- nothing is appended
    have hnil : news = [] := by simpa using hv.length
    subst hnil
    have hrun : ∀ x : Option Addr, (Builtin.append_ ⟨[t, t]⟩ ty ⟨[v, .slice x 0 c]⟩).run P w = .ok v w := by
      intro x
      rcases hown.2 with ⟨rfl, rfl⟩ | ⟨g, cap, cur, rfl, hbg, hg, hn, hc, hsz', htk⟩
      · cases x <;> simp [Builtin.append_, run_underlying ht, Go.sizeOf, typeInfo, hi, Builtin.lenOf, Builtin.firstCells, loadCells, loadCellsFrom]
      · have hle : n ≤ cap := hn
        cases x <;> simp [Builtin.append_, run_underlying ht, Go.sizeOf, typeInfo, hi, Builtin.lenOf, Builtin.firstCells, loadCells, loadCellsFrom, hle, storeCells]
    refine r_run (hrun a) (k v w (by simpa using hown) ?_ (by simp) (.inl rfl))
    exact Chg.refl _ w
  · have hpos : 0 < news.length := by rw [hv.length]; exact Nat.mul_pos hm hsz
    have hp := hv.plain hpos
    unfold plainA at hp
    generalize hbk : blk a = b at hp
    generalize hof : ofs a = o at hp
    subst hp
    obtain ⟨v', w', hr, h2, h3, h4, h5⟩ := run_append_own_at (P := P) w base t ty e i z size bytes ht hi hz hs hby hzs hsz v n xs hown ⟨b, o, none⟩ m c news hv.length
      (fun j u hu => by rw [Addr.add_plain]; exact hv.cell j u hu) h1 hmax hb.1 hbase
    exact r_run hr (k v' w' h2 (chg_grown h3) h4 h5)

end
end Fb
namespace Fb.Bytes
open Go Fb
/-- Bytes as values. -/
def bvs (l : List UInt8) : List Value := l.map fun b => .int .u8 (b.toNat : Int)
theorem bvs_length (l : List UInt8) : (bvs l).length = l.length := by simp [bvs]
theorem bvs_append (l k : List UInt8) : bvs (l ++ k) = bvs l ++ bvs k := by simp [bvs]

/-! ### Texts -/
def bstr (l : List UInt8) : ByteArray := ⟨l.toArray⟩
theorem bstr_size (l : List UInt8) : (bstr l).size = l.length := by simp [bstr, ByteArray.size]
theorem bstr_app (l k : List UInt8) : bstr l ++ bstr k = bstr (l ++ k) := by
  apply ByteArray.ext
  simp [bstr, ByteArray.data_append]
theorem bstr_list (l : List UInt8) : (bstr l).toList = l := by
  rw [ByteArray.toList_eq]
  simp [bstr]
theorem bstr_cut (l : List UInt8) (i j : Nat) : (bstr l).extract i j = bstr ((l.drop i).take (j - i)) := by
  apply ByteArray.ext
  simp [bstr]
theorem bstr_get (l : List UInt8) (i : Nat) : (bstr l)[i]? = l[i]? := by
  rw [getElem?_def, getElem?_def]
  by_cases h : i < l.length
  · rw [dif_pos (by rw [bstr_size]; exact h), dif_pos h]
    rfl
  · rw [dif_neg (by rw [bstr_size]; exact h), dif_neg h]

end Fb.Bytes
namespace Fb.Try
open Go Go.Proofs Fb Fb.Bytes
theorem strOfNums_bvs (l : List UInt8) : strOfNums (l.map fun b => (b.toNat : Int)) = bstr l := by
  simp [strOfNums, bstr, Function.comp_def]
theorem conv_view {a : Option Addr} {len cap : Nat} {l : List UInt8} {w : World} (hv : View w a len cap 1 (bvs l)) :
    (G.sem (.conv 64 9) [.slice a len cap]).run Try.prog w = .ok (.string (bstr l)) w := by
  have hlen : l.length = len := by have := hv.length; simpa [bvs] using this
  change (convert 64 9 (.slice a len cap)).run Try.prog w = _
  cases a with
  | none =>
    rw [run_convert_bytes_nil w 64 5 (by kernel_rfl) (by kernel_rfl) len cap 9 (by kernel_rfl)]
    cases l with
    | nil => rfl
    | cons b r =>
      have := hv.plain (by simp [bvs])
      simp [plainA] at this
  | some ad =>
    cases l with
    | nil =>
      simp at hlen
      subst hlen
      rw [run_convert_bytes_string w 64 9 5 _ _ _ (by kernel_rfl) (by kernel_rfl) (by kernel_rfl), run_bytesToString w ad 0 cap [] (by rfl)]
      rfl
    | cons b r =>
      have hp := hv.plain (by simp [bvs])
      unfold plainA at hp
      have hc := hv.cell
      generalize blk (some ad) = x at hp hc
      generalize ofs (some ad) = y at hp hc
      cases hp
      rw [run_convert_bytes_arg w 64 5 (by kernel_rfl) (by kernel_rfl) x y len cap ((b :: r).map fun b => (b.toNat : Int)) (by simpa using hlen) (fun i hi => ?_) 9 (by kernel_rfl), strOfNums_bvs]
      refine hc i _ ?_
      have hi' : i < (b :: r).length := by omega
      rw [bvs, List.getElem?_map, List.getElem?_eq_getElem hi', List.getD_eq_getElem?_getD, List.getElem?_map, List.getElem?_eq_getElem hi']
      rfl

section
variable {w : World}
theorem r_conv {a : Option Addr} {len cap : Nat} {l : List UInt8} {K : Value → Prop} (hv : View w a len cap 1 (bvs l)) (k : K (.string (bstr l))) : Get Try.prog (G.sem (.conv 64 9) [.slice a len cap]) (fun w' => w' = w) K :=
  r_get (fun _ e => by rw [e]; exact conv_view hv) k
theorem r_convE {a : Option Addr} {len cap : Nat} {l : List UInt8} {K : Value → Prop} (hv : View w a len cap 1 (bvs l)) (k : K (.string (bstr l))) : Get Try.prog (G.sem (.conv 64 9) [.slice a len cap]) (Ext w) K :=
  r_get (fun _ e => conv_view (hv.ext e)) k
end

theorem u8_list : ∀ (xs : List Int), (∀ x ∈ xs, (Lit.int .u8 x).wf = true) → ∃ l : List UInt8, xs.map (Value.int .u8) = bvs l
  | [], _ => ⟨[], rfl⟩
  | x :: xs, h => by
    obtain ⟨l, hl⟩ := u8_list xs fun y hy => h y (by simp [hy])
    have hx := bounds_u8 (h x (by simp))
    refine ⟨UInt8.ofNat x.toNat :: l, ?_⟩
    have e : ((UInt8.ofNat x.toNat).toNat : Int) = x := by rw [UInt8.toNat_ofNat']; omega
    rw [List.map_cons, hl, bvs, bvs, List.map_cons, e]

theorem eqb {x y : ByteArray} (h : x.toList = y.toList) : (x.toList == y.toList) = true := by rw [h]; simp
theorem eqb_dec (l k : List UInt8) : ((bstr l).toList == (bstr k).toList) = decide (l = k) := by
  rw [bstr_list, bstr_list]
  by_cases h : l = k <;> simp [h]
end Fb.Try

/-
  Maps: what a map of one's own holds, and the rules for reading and writing it.
-/
namespace Fb
open Go Go.Proofs
open Go.WideElems (Fit)
open Go.Maps (Keyed)
/-- A value reads as itself. -/
def heldR (v : Value) : Option (DataW Value × List MemPlace) := some (.held v, [])
open Classical in
noncomputable def upd (f : Value → Option Value) (k : Value) (o : Option Value) : Value → Option Value := fun x => if x = k then o else f x
theorem upd_same (f : Value → Option Value) (k : Value) (o : Option Value) : upd f k o k = o := if_pos rfl
theorem upd_ne (f : Value → Option Value) {k x : Value} (o : Option Value) (h : x ≠ k) : upd f k o x = f x := if_neg h
/-- Block b is a map that holds what f tells. -/
def MapV (P : Program) (k : TypeId) (w : World) (b : Nat) (f : Value → Option Value) : Prop :=
  ∃ (D : DataW Value) (n : Nat), w.ownsMap P k heldR b n D ∧ (∀ key kl, keyOf P k key = some kl → Maps.has D kl = (f key).isSome ∧ ∀ z, D.atKey kl z = match f key with | some v => .held v | none => z)
section
variable {P : Program} {k t e : TypeId} {w w' : World} {b : Nat} {f : Value → Option Value}
theorem ownsMap_of {n : Nat} {D : DataW Value} (h : w.ownsMap P k heldR b n D) (he : w'.heap[b]? = w.heap[b]?) : w'.ownsMap P k heldR b n D := by
  obtain ⟨es, clock, hb, F, hs, hD⟩ := h
  exact ⟨es, clock, he.trans hb, F, hs, hD⟩
theorem MapV.lt (h : MapV P k w b f) : b < w.heap.size := by
  obtain ⟨D, n, h, _⟩ := h
  exact h.lt
theorem MapV.keep {S : Nat → Prop} (h : MapV P k w b f) (hc : Chg S w w') (hs : ¬ S b) : MapV P k w' b f := by
  have hlt := h.lt
  obtain ⟨D, n, h, hf⟩ := h
  exact ⟨D, n, ownsMap_of h (hc.block b hlt hs), hf⟩
theorem MapV.ext (h : MapV P k w b f) (hc : Ext w w') : MapV P k w' b f := h.keep hc fun hf => hf
theorem MapV.ne {c : Nat} {e' : TypeId} {cs : List Value} (h : MapV P k w b f) (hb : Blk w c e' cs) : c ≠ b := by
  rintro rfl
  obtain ⟨D, n, ⟨es, clock, h, _⟩, _⟩ := h
  unfold Blk at hb
  rw [h] at hb
  cases hb
theorem MapV.apart {n size base : Nat} {e' : TypeId} {v : Value} {xs : List Value} (h : MapV P k w b f) (hown : w.ownsRow base e' size v n xs) : v.ownBlock ≠ some b := by
  intro ho
  rcases hown.2 with ⟨rfl, _⟩ | ⟨g, cap, cur, rfl, _, hg, _⟩
  · cases ho
  · cases ho
    obtain ⟨D, n, ⟨es, clock, h, _⟩, _⟩ := h
    rw [h] at hg
    cases hg
theorem mapTurned_chg (h : w.mapTurned w' b) : Chg (· = b) w w' ∧ w'.heap.size = w.heap.size := by
  have hg := h.grown
  obtain ⟨es, clock, es', clock', hb, rfl⟩ := h
  refine ⟨⟨hg.os, hg.tape, hg.output, hg.size, fun k hk hs => hg.block k hk fun e => hs ?_⟩, by simp [ChangeMaps.setBlock]⟩
  exact Option.some.inj e
theorem nodup_sub : ∀ (l L : List Value), l.Pairwise (· ≠ ·) → (∀ x ∈ l, x ∈ L) → l.length ≤ L.length
  | [], _, _, _ => Nat.zero_le _
  | x :: l, L, hp, hs => by
    obtain ⟨L1, L2, rfl⟩ := List.append_of_mem (hs x (by simp))
    have hp' := List.pairwise_cons.1 hp
    have := nodup_sub l (L1 ++ L2) hp'.2 fun y hy => by
      have h1 := hs y (by simp [hy])
      have h2 := hp'.1 y hy
      simp only [List.mem_append, List.mem_cons] at h1 ⊢
      rcases h1 with h1 | h1 | h1
      · exact .inl h1
      · exact absurd h1.symm h2
      · exact .inr h1
    simp only [List.length_cons, List.length_append] at this ⊢
    omega
/-- As many entries as keys at most. -/
theorem MapV.fits (h : MapV P k w b f) (K : Keyed P k) (L : List Value) (hL : ∀ key, f key ≠ none → key ∈ L) : ∃ (D : DataW Value), w.ownsMap P k heldR b L.length D ∧ (∀ key kl, keyOf P k key = some kl → Maps.has D kl = (f key).isSome ∧ ∀ z, D.atKey kl z = match f key with | some v => .held v | none => z) := by
  obtain ⟨D, n, ⟨es, clock, hb, F, hs, hD⟩, hf⟩ := h
  refine ⟨D, ⟨es, clock, hb, F, ?_, hD⟩, hf⟩
  have h1 := Go.Maps.fit_apart K F
  rw [List.pairwise_map] at h1
  have h2 : (es.toList.map (·.key)).Pairwise (· ≠ ·) := by
    rw [List.pairwise_map]
    refine h1.imp fun {x y} hxy e => hxy ?_
    simp only [WideElems.rg, WideElems.rd, heldR, e, Option.map_some]
    cases keyOf P k y.key <;> rfl
  have h3 := nodup_sub _ L h2 fun key hk => by
    obtain ⟨x, hx, rfl⟩ := List.mem_map.1 hk
    obtain ⟨kl, hkl⟩ := F.keys x hx
    refine hL _ fun hn => ?_
    have h4 := (hf _ _ hkl).1
    rw [hn, hD] at h4
    have h5 : Maps.has (DataW.map ((es.toList.map (WideElems.rg P k heldR)).foldr DataW.insert [])) kl = true := by
      refine Maps.has_true_of_atKey (y := .held x.val) fun z => ?_
      have hat := WideShapes.atKey_sorted (es.toList.map (WideElems.rg P k heldR)) (Go.Maps.fit_rising K F) kl (K.key hkl)
      have hrd : WideElems.rd P k heldR x = some (kl, .held x.val) := by simp [WideElems.rd, hkl, heldR]
      rw [hat.2 (WideElems.rg P k heldR x) (List.mem_map.2 ⟨x, hx, rfl⟩) (by rw [WideElems.rg_of hrd]), WideElems.rg_of hrd]
    rw [h5] at h4
    cases h4
  simpa using h3
theorem MapV.made (w : World) (P : Program) (k : TypeId) : MapV P k (w.alloc (.map #[] 0)) w.heap.size (fun _ => none) :=
  ⟨.map [], 0, World.ownsMap_made w P k heldR, fun _ _ _ => ⟨rfl, fun _ => rfl⟩⟩
theorem r_makeMap {K : Value → World → Prop} (h : ∀ w', Ext w w' → w'.heap.size = w.heap.size + 1 → MapV P k w' w.heap.size (fun _ => none) → K (.map (some w.heap.size)) w') : Run P (G.sem (.makeMap t) []) w K :=
  r_run (RowKit.run_makeMap t w) (h _ (Ext.alloc w _) (by simp) (MapV.made w P k))
theorem look_run (h : MapV P k w b f) (K : Keyed P k) (ht : P.underlying t = some (.map k e)) {z : Value} (hz : (zeroValue e).run P w = .ok z w) {key : Value} {kl : Lit} (hkey : keyOf P k key = some kl) :
    (Instr.lookup t (.map (some b)) key true).run P w = .ok (.tuple #[(f key).getD z, .bool (f key).isSome]) w := by
  obtain ⟨D, n, h, hf⟩ := h
  obtain ⟨v, ps, hrun, hv⟩ := h.look_ok K ht hz (zd := .held z) (zp := []) rfl hkey
  obtain ⟨h1, h2⟩ := hf key kl hkey
  rw [h1] at hrun
  rw [h2] at hv
  have : v = (f key).getD z := by
    unfold heldR at hv
    cases hk : f key with
    | none => rw [hk] at hv; simp at hv; simpa using hv.1
    | some u => rw [hk] at hv; simp at hv; simpa using hv.1
  rw [this] at hrun
  exact hrun
theorem look1_run (h : MapV P k w b f) (K : Keyed P k) (ht : P.underlying t = some (.map k e)) {z : Value} (hz : (zeroValue e).run P w = .ok z w) {key : Value} {kl : Lit} (hkey : keyOf P k key = some kl) :
    (Instr.lookup t (.map (some b)) key false).run P w = .ok ((f key).getD z) w := by
  obtain ⟨D, n, h, hf⟩ := h
  obtain ⟨v, ps, hrun, hv⟩ := h.lookup K ht hz (zd := .held z) (zp := []) rfl hkey
  obtain ⟨h1, h2⟩ := hf key kl hkey
  rw [h2] at hv
  have : v = (f key).getD z := by
    unfold heldR at hv
    cases hk : f key with
    | none => rw [hk] at hv; simp at hv; simpa using hv.1
    | some u => rw [hk] at hv; simp at hv; simpa using hv.1
  rw [this] at hrun
  exact hrun
theorem r_look {Kk : Value → Prop} (h : MapV P k w b f) (K : Keyed P k) (ht : P.underlying t = some (.map k e)) {z : Value} (hz : ∀ w, (zeroValue e).run P w = .ok z w) {key : Value} {kl : Lit} (hkey : keyOf P k key = some kl)
    (hk : Kk (.tuple ⟨[(f key).getD z, .bool (f key).isSome]⟩)) : Get P (G.sem (.lookup t true) [.map (some b), key]) (fun w' => w' = w) Kk :=
  r_get (fun _ e => by rw [e]; exact look_run h K ht (hz _) hkey) hk
theorem r_lookE {Kk : Value → Prop} (h : MapV P k w b f) (K : Keyed P k) (ht : P.underlying t = some (.map k e)) {z : Value} (hz : ∀ w, (zeroValue e).run P w = .ok z w) {key : Value} {kl : Lit} (hkey : keyOf P k key = some kl)
    (hk : Kk (.tuple ⟨[(f key).getD z, .bool (f key).isSome]⟩)) : Get P (G.sem (.lookup t true) [.map (some b), key]) (Ext w) Kk :=
  r_get (fun _ he => look_run (h.ext he) K ht (hz _) hkey) hk
theorem r_look1 {Kk : Value → Prop} (h : MapV P k w b f) (K : Keyed P k) (ht : P.underlying t = some (.map k e)) {z : Value} (hz : ∀ w, (zeroValue e).run P w = .ok z w) {key : Value} {kl : Lit} (hkey : keyOf P k key = some kl)
    (hk : Kk ((f key).getD z)) : Get P (G.sem (.lookup t false) [.map (some b), key]) (fun w' => w' = w) Kk :=
  r_get (fun _ e => by rw [e]; exact look1_run h K ht (hz _) hkey) hk
theorem r_look1E {Kk : Value → Prop} (h : MapV P k w b f) (K : Keyed P k) (ht : P.underlying t = some (.map k e)) {z : Value} (hz : ∀ w, (zeroValue e).run P w = .ok z w) {key : Value} {kl : Lit} (hkey : keyOf P k key = some kl)
    (hk : Kk ((f key).getD z)) : Get P (G.sem (.lookup t false) [.map (some b), key]) (Ext w) Kk :=
  r_get (fun _ he => look1_run (h.ext he) K ht (hz _) hkey) hk
theorem key_ne (K : Keyed P k) {key key' : Value} {kl kl' : Lit} (h : keyOf P k key = some kl) (h' : keyOf P k key' = some kl') (hne : key' ≠ key) : kl' ≠ kl := by
  rintro rfl
  exact hne (K.inj h' h)
theorem store_run (h : MapV P k w b f) (K : Keyed P k) (ht : P.underlying t = some (.map k e)) (L : List Value) (hL : ∀ key, f key ≠ none → key ∈ L) (hlen : L.length < maxLen) {key val : Value} {kl : Lit} (hkey : keyOf P k key = some kl) :
    ∃ w', (Instr.mapUpdate t (.map (some b)) key val).run P w = .ok () w' ∧ MapV P k w' b (upd f key (some val)) ∧ w.mapTurned w' b := by
  obtain ⟨D, h, hf⟩ := h.fits K L hL
  obtain ⟨w', hrun, hown, ht'⟩ := h.store (val := val) (d := .held val) (ps := []) K ht hlen hkey rfl
  refine ⟨w', hrun, ⟨_, _, hown, fun key' kl' hk' => ?_⟩, ht'⟩
  by_cases he : key' = key
  · subst he
    have : kl' = kl := by rw [hkey] at hk'; exact (Option.some.inj hk').symm
    subst this
    rw [upd_same]
    exact ⟨Maps.has_put_same h.isMap (K.key hkey) _, fun z => Maps.atKey_put_same h.isMap (K.key hkey) _ z⟩
  · have hne := key_ne K hkey hk' he
    rw [upd_ne _ _ he, Maps.has_put_other hne]
    exact ⟨(hf _ _ hk').1, fun z => by rw [Maps.atKey_put_other hne]; exact (hf _ _ hk').2 z⟩
theorem r_mapSet {Kk : Value → World → Prop} (h : MapV P k w b f) (K : Keyed P k) (ht : P.underlying t = some (.map k e)) (L : List Value) (hL : ∀ key, f key ≠ none → key ∈ L) (hlen : L.length < maxLen) {key val : Value} {kl : Lit} (hkey : keyOf P k key = some kl)
    (hk : ∀ w', Chg (· = b) w w' → w'.heap.size = w.heap.size → MapV P k w' b (upd f key (some val)) → Kk undef w') : Run P (G.sem (.mapUpdate t) [.map (some b), key, val]) w Kk := by
  obtain ⟨w', hrun, hm, ht'⟩ := store_run (val := val) h K ht L hL hlen hkey
  obtain ⟨h1, h2⟩ := mapTurned_chg ht'
  refine r_run (v := undef) (w' := w') ?_ (hk w' h1 h2 hm)
  simp [G.sem, unitly, hrun, Result.andThen]
theorem r_delete {ty : TypeId} {Kk : Value → World → Prop} (h : MapV P k w b f) (K : Keyed P k) (ht : P.underlying t = some (.map k e)) {key : Value} {kl : Lit} (hkey : keyOf P k key = some kl)
    (hk : ∀ w', Chg (· = b) w w' → w'.heap.size = w.heap.size → MapV P k w' b (upd f key none) → Kk (.tuple #[]) w') : Run P (G.sem (.bi .delete ⟨[t, k]⟩ ty) [.map (some b), key]) w Kk := by
  obtain ⟨D, n, h, hf⟩ := h
  obtain ⟨w', hrun, hown, ht'⟩ := h.drop K ht hkey ty
  obtain ⟨h1, h2⟩ := mapTurned_chg ht'
  refine r_run (v := .tuple #[]) (w' := w') hrun (hk w' h1 h2 ⟨_, _, hown, fun key' kl' hk' => ?_⟩)
  by_cases he : key' = key
  · subst he
    have : kl' = kl := by rw [hkey] at hk'; exact (Option.some.inj hk').symm
    subst this
    rw [upd_same]
    exact ⟨Maps.has_del_same, fun z => Maps.atKey_del_same z⟩
  · have hne := key_ne K hkey hk' he
    rw [upd_ne _ _ he, Maps.has_del_other hne]
    exact ⟨(hf _ _ hk').1, fun z => by rw [Maps.atKey_del_other hne]; exact (hf _ _ hk').2 z⟩
/-- An entry is sought, and written: as one writing. -/
theorem r_entry {Kk : Value → World → Prop} (h : MapV P k w b f) (K : Keyed P k) (ht : P.underlying t = some (.map k e)) {z : Value} (hz : ∀ w, (zeroValue e).run P w = .ok z w) (L : List Value) (hL : ∀ key, f key ≠ none → key ∈ L) (hlen : L.length < maxLen) {key : Value} {kl : Lit} (hkey : keyOf P k key = some kl)
    (hk : ∀ (v0 st : Value) (w1 : World), Chg (· = b) w w1 → w1.heap.size = w.heap.size → (∀ val (Kk2 : Value → World → Prop), (∀ w', Chg (· = b) w1 w' → w'.heap.size = w1.heap.size → MapV P k w' b (upd f key (some val)) → Kk2 undef w') → Run P (G.sem (.entryStore t) [.map (some b), st, val]) w1 Kk2) → Kk (.tuple ⟨[v0, st]⟩) w1) :
    Run P (G.sem (.mapEntry t) [.map (some b), key]) w Kk := by
  have hst := fun val => store_run (val := val) h K ht L hL hlen hkey
  obtain ⟨D, n, ⟨es, clock, hb, F, hs, hD⟩, hf⟩ := h
  obtain ⟨s1, s2, _⟩ := F.stamped
  have turn : ∀ es' c', (ChangeMaps.setBlock w b (.map es' c')).heap[b]? = some (.map es' c') := fun es' c' => ChangeMaps.heap_setBlock_same hb _
  have two : ∀ o o', ChangeMaps.setBlock (ChangeMaps.setBlock w b o) b o' = ChangeMaps.setBlock w b o' := fun o o' => by simp [ChangeMaps.setBlock]
  rcases K.find w hkey es.toList F.keys with ⟨h1, h2⟩ | ⟨j, e0, h1, h2, h3⟩
  · have hc := mapTurned_chg (w := w) (b := b) (w' := ChangeMaps.setBlock w b (.map (es.push ⟨key, z, clock⟩) (clock + 1))) ⟨es, clock, _, _, hb, rfl⟩
    have hrun : (Instr.mapEntry t (.map (some b)) key).run P w = .ok (.tuple #[z, goInt clock]) (ChangeMaps.setBlock w b (.map (es.push ⟨key, z, clock⟩) (clock + 1))) := by
      simp [Instr.mapEntry, run_underlying ht, MapKept.run_getObj_map hb, K.check w false hkey, h1, hz, MapKept.run_setObj_map _ hb, Result.andThen, ChangeMaps.setBlock]
    refine r_run hrun (hk z (goInt clock) _ hc.1 hc.2 fun val Kk2 hk2 => ?_)
    have hw2 := turn (es.push ⟨key, z, clock⟩) (clock + 1)
    have hidx : (es.push ⟨key, z, clock⟩).findIdx? (fun e => ((e.born : Nat) : Int) == ((clock : Nat) : Int)) = some es.size := by
      rw [WideElems.findIdx_arr]
      exact WideElems.findIdx_born (l := (es.push ⟨key, z, clock⟩).toList) (j := es.size) (e0 := ⟨key, z, clock⟩) (by
        simp only [Array.toList_push, List.map_append, List.map_cons, List.map_nil]
        refine List.nodup_append.2 ⟨s2, by simp, fun a ha c hc e1 => ?_⟩
        simp only [List.mem_singleton] at hc
        obtain ⟨x, hx, rfl⟩ := List.mem_map.1 ha
        have := s1 x hx
        omega) (by simp)
    have hmod : (es.push ⟨key, z, clock⟩).modify es.size (fun e => { e with val := val }) = es.push ⟨key, val, clock⟩ := by
      apply Array.ext'
      rw [Array.toList_modify, Array.toList_push, Array.toList_push, ← Array.length_toList, WideElems.modify_last]
    obtain ⟨w', hu, hm, _⟩ := hst val
    have hu2 : (Instr.mapUpdate t (.map (some b)) key val).run P w = .ok () (ChangeMaps.setBlock w b (.map (es.push ⟨key, val, clock⟩) (clock + 1))) := by
      simp [Instr.mapUpdate, run_underlying ht, MapKept.run_getObj_map hb, K.check w false hkey, h1, MapKept.run_setObj_map _ hb, Result.andThen, ChangeMaps.setBlock]
    rw [hu2] at hu
    cases hu
    have hc2 := mapTurned_chg (w := ChangeMaps.setBlock w b (.map (es.push ⟨key, z, clock⟩) (clock + 1))) (b := b) (w' := ChangeMaps.setBlock w b (.map (es.push ⟨key, val, clock⟩) (clock + 1))) ⟨_, _, _, _, hw2, (two _ _).symm⟩
    refine r_run (v := undef) ?_ (hk2 _ hc2.1 hc2.2 hm)
    simp only [G.sem, unitly, Sem.run_bind, Instr.entryStore, MapKept.run_getObj_map hw2, asInt, asIntOf, goInt, Result.andThen]
    simp [hidx, hmod, MapKept.run_setObj_map _ hw2]
    simp [ChangeMaps.setBlock]
  · have hj : es[j]? = some e0 := by simpa using h2
    have hsame : es.modify j (fun e => { e with key := key }) = es := by
      apply Array.ext'
      rw [Array.toList_modify, ChangeMaps.modify_eq_set _ _ _ _ h2]
      have : ({ e0 with key := key } : MapEntry) = e0 := by rw [← h3]
      rw [this]
      exact WideElems.set_self _ _ _ h2
    have hrun : (Instr.mapEntry t (.map (some b)) key).run P w = .ok (.tuple #[e0.val, goInt e0.born]) (ChangeMaps.setBlock w b (.map es clock)) := by
      simp [Instr.mapEntry, run_underlying ht, MapKept.run_getObj_map hb, K.check w false hkey, h1, hj, h3, K.stays w hkey, hsame, MapKept.run_setObj_map _ hb, Result.andThen, ChangeMaps.setBlock]
    have hc := mapTurned_chg (w := w) (b := b) (w' := ChangeMaps.setBlock w b (.map es clock)) ⟨es, clock, _, _, hb, rfl⟩
    refine r_run hrun (hk e0.val (goInt e0.born) _ hc.1 hc.2 fun val Kk2 hk2 => ?_)
    have hw2 := turn es clock
    have hidx : es.findIdx? (fun e => ((e.born : Nat) : Int) == ((e0.born : Nat) : Int)) = some j := by
      rw [WideElems.findIdx_arr]
      exact WideElems.findIdx_born s2 h2
    have hmod : es.modify j (fun e => { e with val := val }) = es.modify j (fun e' => { e' with key := key, val := val }) := by
      apply Array.ext'
      rw [Array.toList_modify, Array.toList_modify, ChangeMaps.modify_eq_set _ _ _ _ h2, ChangeMaps.modify_eq_set _ _ _ _ h2, ← h3]
    obtain ⟨w', hu, hm, _⟩ := hst val
    have hu2 : (Instr.mapUpdate t (.map (some b)) key val).run P w = .ok () (ChangeMaps.setBlock w b (.map (es.modify j (fun e' => { e' with key := key, val := val })) clock)) := by
      simp [Instr.mapUpdate, run_underlying ht, MapKept.run_getObj_map hb, K.check w false hkey, h1, hj, h3, K.stays w hkey, MapKept.run_setObj_map _ hb, Result.andThen, ChangeMaps.setBlock]
    rw [hu2] at hu
    cases hu
    have hc2 := mapTurned_chg (w := ChangeMaps.setBlock w b (.map es clock)) (b := b) (w' := ChangeMaps.setBlock w b (.map (es.modify j (fun e' => { e' with key := key, val := val })) clock)) ⟨_, _, _, _, hw2, (two _ _).symm⟩
    refine r_run (v := undef) ?_ (hk2 _ hc2.1 hc2.2 hm)
    simp only [G.sem, unitly, Sem.run_bind, Instr.entryStore, MapKept.run_getObj_map hw2, asInt, asIntOf, goInt, Result.andThen]
    simp [hidx, hmod, MapKept.run_setObj_map _ hw2]
    simp [ChangeMaps.setBlock]
end
end Fb

/-
  Maps: keys that are texts, and structs of two numbers.
-/
namespace Fb
open Go Go.Proofs
def twoB (P : Program) (k : TypeId) : Bool :=
  match P.underlying k with
  | some (.struct fs) => match fs.toList with
    | [f, g] => match P.underlying f.type, P.underlying g.type with
      | some (.int .i64), some (.int .i64) => f.offset == 0 && g.offset == 1 && f.name != "_" && g.name != "_" && P.cellsOf f.type == 1 && P.cellsOf g.type == 1 && P.cellsOf k == 2 && P.keyType k && Nat.blt 0 P.types.size
      | _, _ => false
    | _ => false
  | _ => false
theorem two_key {P : Program} {k : TypeId} (h : twoB P k = true) {a b : Int} (ha : (Lit.int .i64 a).wf = true) (hb : (Lit.int .i64 b).wf = true) : ∃ kl, keyOf P k (.agg ⟨[.int .i64 a, .int .i64 b]⟩) = some kl := by
  unfold twoB at h
  split at h
  · rename_i fs hu
    split at h
    · rename_i f g hfs
      split at h
      · rename_i hf hg
        simp only [Bool.and_eq_true, beq_iff_eq, bne_iff_ne, ne_eq] at h
        obtain ⟨⟨⟨⟨⟨⟨⟨⟨h1, h2⟩, h3⟩, h4⟩, h5⟩, h6⟩, h7⟩, h8⟩, h9⟩ := h
        have h9 : 0 < P.types.size := by simpa using h9
        obtain ⟨d, hd⟩ : ∃ d, P.types.size = d + 1 := ⟨P.types.size - 1, by omega⟩
        have hall : fs.all (fun f => f.name != "_") = true := by
          rw [← Array.all_toList, hfs]
          simp [h3, h4]
        have hkl : P.keyLits (P.types.size + 1) k [.int .i64 a, .int .i64 b] = some [.int .i64 a, .int .i64 b] := by
          rw [hd]
          simp only [Program.keyLits, hu, hall, h7, hfs]
          simp [hf, hg, h1, h2, h5, h6, ha, hb]
        have hform : (Value.agg ⟨[.int .i64 a, .int .i64 b]⟩).formed P k = true := by simp [Value.formed, hu, h7]
        refine ⟨.string (keyBytes [.int .i64 a, .int .i64 b]), ?_⟩
        unfold keyOf
        rw [hu]
        simp only [h8, hform, Bool.and_self, if_true]
        show Option.map _ (P.keyLits (P.types.size + 1) k [.int .i64 a, .int .i64 b]) = _
        rw [hkl]
        rfl
      · cases h
    · cases h
  · cases h
section
open Go.WideElems (Fit)
variable {P : Program} {k t e : TypeId} {w w' : World} {b : Nat} {f : Value → Option Value}
/-- An entry is sought: it stands there behind that; then it is written. -/
theorem r_entry2 {Kk : Value → World → Prop} (h : MapV P k w b f) (K : Maps.Keyed P k) (ht : P.underlying t = some (.map k e)) {z : Value} (hz : ∀ w, (zeroValue e).run P w = .ok z w) (L : List Value) (hL : ∀ key, f key ≠ none → key ∈ L) (hlen : L.length < maxLen) {key : Value} {kl : Lit} (hkey : keyOf P k key = some kl)
    (hk : ∀ (st : Value) (w1 : World), Chg (· = b) w w1 → w1.heap.size = w.heap.size → MapV P k w1 b (upd f key (some ((f key).getD z))) → (∀ val (Kk2 : Value → World → Prop), (∀ w', Chg (· = b) w1 w' → w'.heap.size = w1.heap.size → MapV P k w' b (upd f key (some val)) → Kk2 undef w') → Run P (G.sem (.entryStore t) [.map (some b), st, val]) w1 Kk2) → Kk (.tuple ⟨[(f key).getD z, st]⟩) w1) :
    Run P (G.sem (.mapEntry t) [.map (some b), key]) w Kk := by
  have hst := fun val => store_run (val := val) h K ht L hL hlen hkey
  have hlook := look1_run h K ht (hz w) hkey
  obtain ⟨D, n, ⟨es, clock, hb, F, hs, hD⟩, hf⟩ := h
  obtain ⟨s1, s2, _⟩ := F.stamped
  have turn : ∀ es' c', (ChangeMaps.setBlock w b (.map es' c')).heap[b]? = some (.map es' c') := fun es' c' => ChangeMaps.heap_setBlock_same hb _
  have two : ∀ o o', ChangeMaps.setBlock (ChangeMaps.setBlock w b o) b o' = ChangeMaps.setBlock w b o' := fun o o' => by simp [ChangeMaps.setBlock]
  rcases K.find w hkey es.toList F.keys with ⟨h1, h2⟩ | ⟨j, e0, h1, h2, h3⟩
  · have hc := mapTurned_chg (w := w) (b := b) (w' := ChangeMaps.setBlock w b (.map (es.push ⟨key, z, clock⟩) (clock + 1))) ⟨es, clock, _, _, hb, rfl⟩
    have hrun : (Instr.mapEntry t (.map (some b)) key).run P w = .ok (.tuple #[z, goInt clock]) (ChangeMaps.setBlock w b (.map (es.push ⟨key, z, clock⟩) (clock + 1))) := by
      simp [Instr.mapEntry, run_underlying ht, MapKept.run_getObj_map hb, K.check w false hkey, h1, hz, MapKept.run_setObj_map _ hb, Result.andThen, ChangeMaps.setBlock]
    have hl2 : (Instr.lookup t (.map (some b)) key false).run P w = .ok z w := by
      simp [Instr.lookup, run_underlying ht, MapKept.run_getObj_map hb, K.check w _ hkey, h1, hz, Result.andThen]
    rw [hlook] at hl2
    have hv : (f key).getD z = z := by injection hl2
    have hm0 : MapV P k (ChangeMaps.setBlock w b (.map (es.push ⟨key, z, clock⟩) (clock + 1))) b (upd f key (some z)) := by
      obtain ⟨w', hu, hm, _⟩ := hst z
      have hu2 : (Instr.mapUpdate t (.map (some b)) key z).run P w = .ok () (ChangeMaps.setBlock w b (.map (es.push ⟨key, z, clock⟩) (clock + 1))) := by
        simp [Instr.mapUpdate, run_underlying ht, MapKept.run_getObj_map hb, K.check w false hkey, h1, MapKept.run_setObj_map _ hb, Result.andThen, ChangeMaps.setBlock]
      rw [hu2] at hu
      cases hu
      exact hm
    rw [hv] at hk
    refine r_run hrun (hk (goInt clock) _ hc.1 hc.2 hm0 fun val Kk2 hk2 => ?_)
    have hw2 := turn (es.push ⟨key, z, clock⟩) (clock + 1)
    have hidx : (es.push ⟨key, z, clock⟩).findIdx? (fun e => ((e.born : Nat) : Int) == ((clock : Nat) : Int)) = some es.size := by
      rw [WideElems.findIdx_arr]
      exact WideElems.findIdx_born (l := (es.push ⟨key, z, clock⟩).toList) (j := es.size) (e0 := ⟨key, z, clock⟩) (by
        simp only [Array.toList_push, List.map_append, List.map_cons, List.map_nil]
        refine List.nodup_append.2 ⟨s2, by simp, fun a ha c hc e1 => ?_⟩
        simp only [List.mem_singleton] at hc
        obtain ⟨x, hx, rfl⟩ := List.mem_map.1 ha
        have := s1 x hx
        omega) (by simp)
    have hmod : (es.push ⟨key, z, clock⟩).modify es.size (fun e => { e with val := val }) = es.push ⟨key, val, clock⟩ := by
      apply Array.ext'
      rw [Array.toList_modify, Array.toList_push, Array.toList_push, ← Array.length_toList, WideElems.modify_last]
    obtain ⟨w', hu, hm, _⟩ := hst val
    have hu2 : (Instr.mapUpdate t (.map (some b)) key val).run P w = .ok () (ChangeMaps.setBlock w b (.map (es.push ⟨key, val, clock⟩) (clock + 1))) := by
      simp [Instr.mapUpdate, run_underlying ht, MapKept.run_getObj_map hb, K.check w false hkey, h1, MapKept.run_setObj_map _ hb, Result.andThen, ChangeMaps.setBlock]
    rw [hu2] at hu
    cases hu
    have hc2 := mapTurned_chg (w := ChangeMaps.setBlock w b (.map (es.push ⟨key, z, clock⟩) (clock + 1))) (b := b) (w' := ChangeMaps.setBlock w b (.map (es.push ⟨key, val, clock⟩) (clock + 1))) ⟨_, _, _, _, hw2, (two _ _).symm⟩
    refine r_run (v := undef) ?_ (hk2 _ hc2.1 hc2.2 hm)
    simp only [G.sem, unitly, Sem.run_bind, Instr.entryStore, MapKept.run_getObj_map hw2, asInt, asIntOf, goInt, Result.andThen]
    simp [hidx, hmod, MapKept.run_setObj_map _ hw2]
    simp [ChangeMaps.setBlock]
  · have hj : es[j]? = some e0 := by simpa using h2
    have hsame : es.modify j (fun e => { e with key := key }) = es := by
      apply Array.ext'
      rw [Array.toList_modify, ChangeMaps.modify_eq_set _ _ _ _ h2]
      have : ({ e0 with key := key } : MapEntry) = e0 := by rw [← h3]
      rw [this]
      exact WideElems.set_self _ _ _ h2
    have hsame2 : es.modify j (fun e => { e with key := key, val := e0.val }) = es := by
      apply Array.ext'
      rw [Array.toList_modify, ChangeMaps.modify_eq_set _ _ _ _ h2]
      have : ({ e0 with key := key, val := e0.val } : MapEntry) = e0 := by rw [← h3]
      rw [this]
      exact WideElems.set_self _ _ _ h2
    have hrun : (Instr.mapEntry t (.map (some b)) key).run P w = .ok (.tuple #[e0.val, goInt e0.born]) (ChangeMaps.setBlock w b (.map es clock)) := by
      simp [Instr.mapEntry, run_underlying ht, MapKept.run_getObj_map hb, K.check w false hkey, h1, hj, h3, K.stays w hkey, hsame, MapKept.run_setObj_map _ hb, Result.andThen, ChangeMaps.setBlock]
    have hl2 : (Instr.lookup t (.map (some b)) key false).run P w = .ok e0.val w := by
      simp [Instr.lookup, run_underlying ht, MapKept.run_getObj_map hb, K.check w _ hkey, h1, Result.andThen]
    rw [hlook] at hl2
    have hv : (f key).getD z = e0.val := by injection hl2
    have hm0 : MapV P k (ChangeMaps.setBlock w b (.map es clock)) b (upd f key (some e0.val)) := by
      obtain ⟨w', hu, hm, _⟩ := hst e0.val
      have hu2 : (Instr.mapUpdate t (.map (some b)) key e0.val).run P w = .ok () (ChangeMaps.setBlock w b (.map es clock)) := by
        simp [Instr.mapUpdate, run_underlying ht, MapKept.run_getObj_map hb, K.check w false hkey, h1, hj, h3, K.stays w hkey, MapKept.run_setObj_map _ hb, Result.andThen, ChangeMaps.setBlock, hsame2]
      rw [hu2] at hu
      cases hu
      exact hm
    have hc := mapTurned_chg (w := w) (b := b) (w' := ChangeMaps.setBlock w b (.map es clock)) ⟨es, clock, _, _, hb, rfl⟩
    rw [hv] at hk
    refine r_run hrun (hk (goInt e0.born) _ hc.1 hc.2 hm0 fun val Kk2 hk2 => ?_)
    have hw2 := turn es clock
    have hidx : es.findIdx? (fun e => ((e.born : Nat) : Int) == ((e0.born : Nat) : Int)) = some j := by
      rw [WideElems.findIdx_arr]
      exact WideElems.findIdx_born s2 h2
    have hmod : es.modify j (fun e => { e with val := val }) = es.modify j (fun e' => { e' with key := key, val := val }) := by
      apply Array.ext'
      rw [Array.toList_modify, Array.toList_modify, ChangeMaps.modify_eq_set _ _ _ _ h2, ChangeMaps.modify_eq_set _ _ _ _ h2, ← h3]
    obtain ⟨w', hu, hm, _⟩ := hst val
    have hu2 : (Instr.mapUpdate t (.map (some b)) key val).run P w = .ok () (ChangeMaps.setBlock w b (.map (es.modify j (fun e' => { e' with key := key, val := val })) clock)) := by
      simp [Instr.mapUpdate, run_underlying ht, MapKept.run_getObj_map hb, K.check w false hkey, h1, hj, h3, K.stays w hkey, MapKept.run_setObj_map _ hb, Result.andThen, ChangeMaps.setBlock]
    rw [hu2] at hu
    cases hu
    have hc2 := mapTurned_chg (w := ChangeMaps.setBlock w b (.map es clock)) (b := b) (w' := ChangeMaps.setBlock w b (.map (es.modify j (fun e' => { e' with key := key, val := val })) clock)) ⟨_, _, _, _, hw2, (two _ _).symm⟩
    refine r_run (v := undef) ?_ (hk2 _ hc2.1 hc2.2 hm)
    simp only [G.sem, unitly, Sem.run_bind, Instr.entryStore, MapKept.run_getObj_map hw2, asInt, asIntOf, goInt, Result.andThen]
    simp [hidx, hmod, MapKept.run_setObj_map _ hw2]
    simp [ChangeMaps.setBlock]
/-- Rules for a class of worlds of one's own. -/
theorem r_look1C {C : World → Prop} {Kk : Value → Prop} {v : Value} {key : Value} (hC : ∀ w', C w' → (Instr.lookup t (.map (some b)) key false).run P w' = .ok v w') (hk : Kk v) : Get P (G.sem (.lookup t false) [.map (some b), key]) C Kk :=
  r_get hC hk
theorem r_ldnbC {C : World → Prop} {S : Nat → Prop} (hC : ∀ w', C w' → Chg S w w') {c o n : Nat} {e' : TypeId} {cs vs : List Value} {Kk : Value → Prop} (h : Blk w c e' cs) (hv : (cs.drop o).take n = vs) (hl : vs.length = n) (hs : ¬ S c) (hk : Kk (.agg ⟨vs⟩)) : LoadN ⟨c, o, none⟩ n C Kk :=
  r_ldn vs hl (fun w' hw i v hi => by
    rw [Addr.add_plain, (h.keep (hC w' hw) hs).cell]
    rw [← hv, List.getElem?_take] at hi
    split at hi
    · rwa [List.getElem?_drop] at hi
    · cases hi) hk
end
end Fb
