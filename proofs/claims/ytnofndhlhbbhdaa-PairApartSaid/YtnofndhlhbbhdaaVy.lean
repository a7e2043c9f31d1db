/-
  Maps: what a map of one's own holds, and the rules for reading and writing it.
-/
import Derived.Test.YtnofndhlhbbhdaaS
import Derived.Test.YtnofndhlhbbhdaaVr
import Derived.Maps.OwnSet
import Derived.WideKeyEntry
namespace Fb
open Go Go.Proofs
open Go.WideElems (Fit)
open Go.Maps (Keyed)
/-- A value reads as itself. -/
def heldR (v : Value) : Option (DataW Value × List MemPlace) := some (.held v, [])
open Classical in
noncomputable def upd (f : Value → Option Value) (k : Value) (o : Option Value) : Value → Option Value := fun x => if x = k then o else f x
theorem upd_same (f : Value → Option Value) (k : Value) (o : Option Value) : upd f k o k = o := if_pos rfl
theorem upd_ne (f : Value → Option Value) {k x : Value} (o : Option Value) (h : x ≠ k) : upd f k o x = f x := if_neg h
/-- Block b is a map that holds what f tells. -/
def MapV (P : Program) (k : TypeId) (w : World) (b : Nat) (f : Value → Option Value) : Prop :=
  ∃ (D : DataW Value) (n : Nat), w.ownsMap P k heldR b n D ∧ (∀ key kl, keyOf P k key = some kl → Maps.has D kl = (f key).isSome ∧ ∀ z, D.atKey kl z = match f key with | some v => .held v | none => z)
section
variable {P : Program} {k t e : TypeId} {w w' : World} {b : Nat} {f : Value → Option Value}
theorem ownsMap_of {n : Nat} {D : DataW Value} (h : w.ownsMap P k heldR b n D) (he : w'.heap[b]? = w.heap[b]?) : w'.ownsMap P k heldR b n D := by
  obtain ⟨es, clock, hb, F, hs, hD⟩ := h
  exact ⟨es, clock, he.trans hb, F, hs, hD⟩
theorem MapV.lt (h : MapV P k w b f) : b < w.heap.size := by
  obtain ⟨D, n, h, _⟩ := h
  exact h.lt
theorem MapV.keep {S : Nat → Prop} (h : MapV P k w b f) (hc : Chg S w w') (hs : ¬ S b) : MapV P k w' b f := by
  have hlt := h.lt
  obtain ⟨D, n, h, hf⟩ := h
  exact ⟨D, n, ownsMap_of h (hc.block b hlt hs), hf⟩
theorem MapV.ext (h : MapV P k w b f) (hc : Ext w w') : MapV P k w' b f := h.keep hc fun hf => hf
theorem MapV.ne {c : Nat} {e' : TypeId} {cs : List Value} (h : MapV P k w b f) (hb : Blk w c e' cs) : c ≠ b := by
  rintro rfl
  obtain ⟨D, n, ⟨es, clock, h, _⟩, _⟩ := h
  unfold Blk at hb
  rw [h] at hb
  cases hb
theorem MapV.apart {n size base : Nat} {e' : TypeId} {v : Value} {xs : List Value} (h : MapV P k w b f) (hown : w.ownsRow base e' size v n xs) : v.ownBlock ≠ some b := by
  intro ho
  rcases hown.2 with ⟨rfl, _⟩ | ⟨g, cap, cur, rfl, _, hg, _⟩
  · cases ho
  · cases ho
    obtain ⟨D, n, ⟨es, clock, h, _⟩, _⟩ := h
    rw [h] at hg
    cases hg
theorem mapTurned_chg (h : w.mapTurned w' b) : Chg (· = b) w w' ∧ w'.heap.size = w.heap.size := by
  have hg := h.grown
  obtain ⟨es, clock, es', clock', hb, rfl⟩ := h
  refine ⟨⟨hg.os, hg.tape, hg.output, hg.size, fun k hk hs => hg.block k hk fun e => hs ?_⟩, by simp [ChangeMaps.setBlock]⟩
  exact Option.some.inj e
theorem nodup_sub : ∀ (l L : List Value), l.Pairwise (· ≠ ·) → (∀ x ∈ l, x ∈ L) → l.length ≤ L.length
  | [], _, _, _ => Nat.zero_le _
  | x :: l, L, hp, hs => by
    obtain ⟨L1, L2, rfl⟩ := List.append_of_mem (hs x (by simp))
    have hp' := List.pairwise_cons.1 hp
    have := nodup_sub l (L1 ++ L2) hp'.2 fun y hy => by
      have h1 := hs y (by simp [hy])
      have h2 := hp'.1 y hy
      simp only [List.mem_append, List.mem_cons] at h1 ⊢
      rcases h1 with h1 | h1 | h1
      · exact .inl h1
      · exact absurd h1.symm h2
      · exact .inr h1
    simp only [List.length_cons, List.length_append] at this ⊢
    omega
/-- As many entries as keys at most. -/
theorem MapV.fits (h : MapV P k w b f) (K : Keyed P k) (L : List Value) (hL : ∀ key, f key ≠ none → key ∈ L) : ∃ (D : DataW Value), w.ownsMap P k heldR b L.length D ∧ (∀ key kl, keyOf P k key = some kl → Maps.has D kl = (f key).isSome ∧ ∀ z, D.atKey kl z = match f key with | some v => .held v | none => z) := by
  obtain ⟨D, n, ⟨es, clock, hb, F, hs, hD⟩, hf⟩ := h
  refine ⟨D, ⟨es, clock, hb, F, ?_, hD⟩, hf⟩
  have h1 := Go.Maps.fit_apart K F
  rw [List.pairwise_map] at h1
  have h2 : (es.toList.map (·.key)).Pairwise (· ≠ ·) := by
    rw [List.pairwise_map]
    refine h1.imp fun {x y} hxy e => hxy ?_
    simp only [WideElems.rg, WideElems.rd, heldR, e, Option.map_some]
    cases keyOf P k y.key <;> rfl
  have h3 := nodup_sub _ L h2 fun key hk => by
    obtain ⟨x, hx, rfl⟩ := List.mem_map.1 hk
    obtain ⟨kl, hkl⟩ := F.keys x hx
    refine hL _ fun hn => ?_
    have h4 := (hf _ _ hkl).1
    rw [hn, hD] at h4
    have h5 : Maps.has (DataW.map ((es.toList.map (WideElems.rg P k heldR)).foldr DataW.insert [])) kl = true := by
      refine Maps.has_true_of_atKey (y := .held x.val) fun z => ?_
      have hat := WideShapes.atKey_sorted (es.toList.map (WideElems.rg P k heldR)) (Go.Maps.fit_rising K F) kl (K.key hkl)
      have hrd : WideElems.rd P k heldR x = some (kl, .held x.val) := by simp [WideElems.rd, hkl, heldR]
      rw [hat.2 (WideElems.rg P k heldR x) (List.mem_map.2 ⟨x, hx, rfl⟩) (by rw [WideElems.rg_of hrd]), WideElems.rg_of hrd]
    rw [h5] at h4
    cases h4
  simpa using h3
theorem MapV.made (w : World) (P : Program) (k : TypeId) : MapV P k (w.alloc (.map #[] 0)) w.heap.size (fun _ => none) :=
  ⟨.map [], 0, World.ownsMap_made w P k heldR, fun _ _ _ => ⟨rfl, fun _ => rfl⟩⟩
theorem r_makeMap {K : Value → World → Prop} (h : ∀ w', Ext w w' → w'.heap.size = w.heap.size + 1 → MapV P k w' w.heap.size (fun _ => none) → K (.map (some w.heap.size)) w') : Run P (G.sem (.makeMap t) []) w K :=
  r_run (RowKit.run_makeMap t w) (h _ (Ext.alloc w _) (by simp) (MapV.made w P k))
theorem look_run (h : MapV P k w b f) (K : Keyed P k) (ht : P.underlying t = some (.map k e)) {z : Value} (hz : (zeroValue e).run P w = .ok z w) {key : Value} {kl : Lit} (hkey : keyOf P k key = some kl) :
    (Instr.lookup t (.map (some b)) key true).run P w = .ok (.tuple #[(f key).getD z, .bool (f key).isSome]) w := by
  obtain ⟨D, n, h, hf⟩ := h
  obtain ⟨v, ps, hrun, hv⟩ := h.look_ok K ht hz (zd := .held z) (zp := []) rfl hkey
  obtain ⟨h1, h2⟩ := hf key kl hkey
  rw [h1] at hrun
  rw [h2] at hv
  have : v = (f key).getD z := by
    unfold heldR at hv
    cases hk : f key with
    | none => rw [hk] at hv; simp at hv; simpa using hv.1
    | some u => rw [hk] at hv; simp at hv; simpa using hv.1
  rw [this] at hrun
  exact hrun
theorem look1_run (h : MapV P k w b f) (K : Keyed P k) (ht : P.underlying t = some (.map k e)) {z : Value} (hz : (zeroValue e).run P w = .ok z w) {key : Value} {kl : Lit} (hkey : keyOf P k key = some kl) :
    (Instr.lookup t (.map (some b)) key false).run P w = .ok ((f key).getD z) w := by
  obtain ⟨D, n, h, hf⟩ := h
  obtain ⟨v, ps, hrun, hv⟩ := h.lookup K ht hz (zd := .held z) (zp := []) rfl hkey
  obtain ⟨h1, h2⟩ := hf key kl hkey
  rw [h2] at hv
  have : v = (f key).getD z := by
    unfold heldR at hv
    cases hk : f key with
    | none => rw [hk] at hv; simp at hv; simpa using hv.1
    | some u => rw [hk] at hv; simp at hv; simpa using hv.1
  rw [this] at hrun
  exact hrun
theorem r_look {Kk : Value → Prop} (h : MapV P k w b f) (K : Keyed P k) (ht : P.underlying t = some (.map k e)) {z : Value} (hz : ∀ w, (zeroValue e).run P w = .ok z w) {key : Value} {kl : Lit} (hkey : keyOf P k key = some kl)
    (hk : Kk (.tuple ⟨[(f key).getD z, .bool (f key).isSome]⟩)) : Get P (G.sem (.lookup t true) [.map (some b), key]) (fun w' => w' = w) Kk :=
  r_get (fun _ e => by rw [e]; exact look_run h K ht (hz _) hkey) hk
theorem r_lookE {Kk : Value → Prop} (h : MapV P k w b f) (K : Keyed P k) (ht : P.underlying t = some (.map k e)) {z : Value} (hz : ∀ w, (zeroValue e).run P w = .ok z w) {key : Value} {kl : Lit} (hkey : keyOf P k key = some kl)
    (hk : Kk (.tuple ⟨[(f key).getD z, .bool (f key).isSome]⟩)) : Get P (G.sem (.lookup t true) [.map (some b), key]) (Ext w) Kk :=
  r_get (fun _ he => look_run (h.ext he) K ht (hz _) hkey) hk
theorem r_look1 {Kk : Value → Prop} (h : MapV P k w b f) (K : Keyed P k) (ht : P.underlying t = some (.map k e)) {z : Value} (hz : ∀ w, (zeroValue e).run P w = .ok z w) {key : Value} {kl : Lit} (hkey : keyOf P k key = some kl)
    (hk : Kk ((f key).getD z)) : Get P (G.sem (.lookup t false) [.map (some b), key]) (fun w' => w' = w) Kk :=
  r_get (fun _ e => by rw [e]; exact look1_run h K ht (hz _) hkey) hk
theorem r_look1E {Kk : Value → Prop} (h : MapV P k w b f) (K : Keyed P k) (ht : P.underlying t = some (.map k e)) {z : Value} (hz : ∀ w, (zeroValue e).run P w = .ok z w) {key : Value} {kl : Lit} (hkey : keyOf P k key = some kl)
    (hk : Kk ((f key).getD z)) : Get P (G.sem (.lookup t false) [.map (some b), key]) (Ext w) Kk :=
  r_get (fun _ he => look1_run (h.ext he) K ht (hz _) hkey) hk
theorem key_ne (K : Keyed P k) {key key' : Value} {kl kl' : Lit} (h : keyOf P k key = some kl) (h' : keyOf P k key' = some kl') (hne : key' ≠ key) : kl' ≠ kl := by
  rintro rfl
  exact hne (K.inj h' h)
theorem store_run (h : MapV P k w b f) (K : Keyed P k) (ht : P.underlying t = some (.map k e)) (L : List Value) (hL : ∀ key, f key ≠ none → key ∈ L) (hlen : L.length < maxLen) {key val : Value} {kl : Lit} (hkey : keyOf P k key = some kl) :
    ∃ w', (Instr.mapUpdate t (.map (some b)) key val).run P w = .ok () w' ∧ MapV P k w' b (upd f key (some val)) ∧ w.mapTurned w' b := by
  obtain ⟨D, h, hf⟩ := h.fits K L hL
  obtain ⟨w', hrun, hown, ht'⟩ := h.store (val := val) (d := .held val) (ps := []) K ht hlen hkey rfl
  refine ⟨w', hrun, ⟨_, _, hown, fun key' kl' hk' => ?_⟩, ht'⟩
  by_cases he : key' = key
  · subst he
    have : kl' = kl := by rw [hkey] at hk'; exact (Option.some.inj hk').symm
    subst this
    rw [upd_same]
    exact ⟨Maps.has_put_same h.isMap (K.key hkey) _, fun z => Maps.atKey_put_same h.isMap (K.key hkey) _ z⟩
  · have hne := key_ne K hkey hk' he
    rw [upd_ne _ _ he, Maps.has_put_other hne]
    exact ⟨(hf _ _ hk').1, fun z => by rw [Maps.atKey_put_other hne]; exact (hf _ _ hk').2 z⟩
theorem r_mapSet {Kk : Value → World → Prop} (h : MapV P k w b f) (K : Keyed P k) (ht : P.underlying t = some (.map k e)) (L : List Value) (hL : ∀ key, f key ≠ none → key ∈ L) (hlen : L.length < maxLen) {key val : Value} {kl : Lit} (hkey : keyOf P k key = some kl)
    (hk : ∀ w', Chg (· = b) w w' → w'.heap.size = w.heap.size → MapV P k w' b (upd f key (some val)) → Kk undef w') : Run P (G.sem (.mapUpdate t) [.map (some b), key, val]) w Kk := by
  obtain ⟨w', hrun, hm, ht'⟩ := store_run (val := val) h K ht L hL hlen hkey
  obtain ⟨h1, h2⟩ := mapTurned_chg ht'
  refine r_run (v := undef) (w' := w') ?_ (hk w' h1 h2 hm)
  simp [G.sem, unitly, hrun, Result.andThen]
theorem r_delete {ty : TypeId} {Kk : Value → World → Prop} (h : MapV P k w b f) (K : Keyed P k) (ht : P.underlying t = some (.map k e)) {key : Value} {kl : Lit} (hkey : keyOf P k key = some kl)
    (hk : ∀ w', Chg (· = b) w w' → w'.heap.size = w.heap.size → MapV P k w' b (upd f key none) → Kk (.tuple #[]) w') : Run P (G.sem (.bi .delete ⟨[t, k]⟩ ty) [.map (some b), key]) w Kk := by
  obtain ⟨D, n, h, hf⟩ := h
  obtain ⟨w', hrun, hown, ht'⟩ := h.drop K ht hkey ty
  obtain ⟨h1, h2⟩ := mapTurned_chg ht'
  refine r_run (v := .tuple #[]) (w' := w') hrun (hk w' h1 h2 ⟨_, _, hown, fun key' kl' hk' => ?_⟩)
  by_cases he : key' = key
  · subst he
    have : kl' = kl := by rw [hkey] at hk'; exact (Option.some.inj hk').symm
    subst this
    rw [upd_same]
    exact ⟨Maps.has_del_same, fun z => Maps.atKey_del_same z⟩
  · have hne := key_ne K hkey hk' he
    rw [upd_ne _ _ he, Maps.has_del_other hne]
    exact ⟨(hf _ _ hk').1, fun z => by rw [Maps.atKey_del_other hne]; exact (hf _ _ hk').2 z⟩
/-- An entry is sought, and written: as one writing. -/
theorem r_entry {Kk : Value → World → Prop} (h : MapV P k w b f) (K : Keyed P k) (ht : P.underlying t = some (.map k e)) {z : Value} (hz : ∀ w, (zeroValue e).run P w = .ok z w) (L : List Value) (hL : ∀ key, f key ≠ none → key ∈ L) (hlen : L.length < maxLen) {key : Value} {kl : Lit} (hkey : keyOf P k key = some kl)
    (hk : ∀ (v0 st : Value) (w1 : World), Chg (· = b) w w1 → w1.heap.size = w.heap.size → (∀ val (Kk2 : Value → World → Prop), (∀ w', Chg (· = b) w1 w' → w'.heap.size = w1.heap.size → MapV P k w' b (upd f key (some val)) → Kk2 undef w') → Run P (G.sem (.entryStore t) [.map (some b), st, val]) w1 Kk2) → Kk (.tuple ⟨[v0, st]⟩) w1) :
    Run P (G.sem (.mapEntry t) [.map (some b), key]) w Kk := by
  have hst := fun val => store_run (val := val) h K ht L hL hlen hkey
  obtain ⟨D, n, ⟨es, clock, hb, F, hs, hD⟩, hf⟩ := h
  obtain ⟨s1, s2, _⟩ := F.stamped
  have turn : ∀ es' c', (ChangeMaps.setBlock w b (.map es' c')).heap[b]? = some (.map es' c') := fun es' c' => ChangeMaps.heap_setBlock_same hb _
  have two : ∀ o o', ChangeMaps.setBlock (ChangeMaps.setBlock w b o) b o' = ChangeMaps.setBlock w b o' := fun o o' => by simp [ChangeMaps.setBlock]
  rcases K.find w hkey es.toList F.keys with ⟨h1, h2⟩ | ⟨j, e0, h1, h2, h3⟩
  · have hc := mapTurned_chg (w := w) (b := b) (w' := ChangeMaps.setBlock w b (.map (es.push ⟨key, z, clock⟩) (clock + 1))) ⟨es, clock, _, _, hb, rfl⟩
    have hrun : (Instr.mapEntry t (.map (some b)) key).run P w = .ok (.tuple #[z, goInt clock]) (ChangeMaps.setBlock w b (.map (es.push ⟨key, z, clock⟩) (clock + 1))) := by
      simp [Instr.mapEntry, run_underlying ht, MapKept.run_getObj_map hb, K.check w false hkey, h1, hz, MapKept.run_setObj_map _ hb, Result.andThen, ChangeMaps.setBlock]
    refine r_run hrun (hk z (goInt clock) _ hc.1 hc.2 fun val Kk2 hk2 => ?_)
    have hw2 := turn (es.push ⟨key, z, clock⟩) (clock + 1)
    have hidx : (es.push ⟨key, z, clock⟩).findIdx? (fun e => ((e.born : Nat) : Int) == ((clock : Nat) : Int)) = some es.size := by
      rw [WideElems.findIdx_arr]
      exact WideElems.findIdx_born (l := (es.push ⟨key, z, clock⟩).toList) (j := es.size) (e0 := ⟨key, z, clock⟩) (by
        simp only [Array.toList_push, List.map_append, List.map_cons, List.map_nil]
        refine List.nodup_append.2 ⟨s2, by simp, fun a ha c hc e1 => ?_⟩
        simp only [List.mem_singleton] at hc
        obtain ⟨x, hx, rfl⟩ := List.mem_map.1 ha
        have := s1 x hx
        omega) (by simp)
    have hmod : (es.push ⟨key, z, clock⟩).modify es.size (fun e => { e with val := val }) = es.push ⟨key, val, clock⟩ := by
      apply Array.ext'
      rw [Array.toList_modify, Array.toList_push, Array.toList_push, ← Array.length_toList, WideElems.modify_last]
    obtain ⟨w', hu, hm, _⟩ := hst val
    have hu2 : (Instr.mapUpdate t (.map (some b)) key val).run P w = .ok () (ChangeMaps.setBlock w b (.map (es.push ⟨key, val, clock⟩) (clock + 1))) := by
      simp [Instr.mapUpdate, run_underlying ht, MapKept.run_getObj_map hb, K.check w false hkey, h1, MapKept.run_setObj_map _ hb, Result.andThen, ChangeMaps.setBlock]
    rw [hu2] at hu
    cases hu
    have hc2 := mapTurned_chg (w := ChangeMaps.setBlock w b (.map (es.push ⟨key, z, clock⟩) (clock + 1))) (b := b) (w' := ChangeMaps.setBlock w b (.map (es.push ⟨key, val, clock⟩) (clock + 1))) ⟨_, _, _, _, hw2, (two _ _).symm⟩
    refine r_run (v := undef) ?_ (hk2 _ hc2.1 hc2.2 hm)
    simp only [G.sem, unitly, Sem.run_bind, Instr.entryStore, MapKept.run_getObj_map hw2, asInt, asIntOf, goInt, Result.andThen]
    simp [hidx, hmod, MapKept.run_setObj_map _ hw2]
    simp [ChangeMaps.setBlock]
  · have hj : es[j]? = some e0 := by simpa using h2
    have hsame : es.modify j (fun e => { e with key := key }) = es := by
      apply Array.ext'
      rw [Array.toList_modify, ChangeMaps.modify_eq_set _ _ _ _ h2]
      have : ({ e0 with key := key } : MapEntry) = e0 := by rw [← h3]
      rw [this]
      exact WideElems.set_self _ _ _ h2
    have hrun : (Instr.mapEntry t (.map (some b)) key).run P w = .ok (.tuple #[e0.val, goInt e0.born]) (ChangeMaps.setBlock w b (.map es clock)) := by
      simp [Instr.mapEntry, run_underlying ht, MapKept.run_getObj_map hb, K.check w false hkey, h1, hj, h3, K.stays w hkey, hsame, MapKept.run_setObj_map _ hb, Result.andThen, ChangeMaps.setBlock]
    have hc := mapTurned_chg (w := w) (b := b) (w' := ChangeMaps.setBlock w b (.map es clock)) ⟨es, clock, _, _, hb, rfl⟩
    refine r_run hrun (hk e0.val (goInt e0.born) _ hc.1 hc.2 fun val Kk2 hk2 => ?_)
    have hw2 := turn es clock
    have hidx : es.findIdx? (fun e => ((e.born : Nat) : Int) == ((e0.born : Nat) : Int)) = some j := by
      rw [WideElems.findIdx_arr]
      exact WideElems.findIdx_born s2 h2
    have hmod : es.modify j (fun e => { e with val := val }) = es.modify j (fun e' => { e' with key := key, val := val }) := by
      apply Array.ext'
      rw [Array.toList_modify, Array.toList_modify, ChangeMaps.modify_eq_set _ _ _ _ h2, ChangeMaps.modify_eq_set _ _ _ _ h2, ← h3]
    obtain ⟨w', hu, hm, _⟩ := hst val
    have hu2 : (Instr.mapUpdate t (.map (some b)) key val).run P w = .ok () (ChangeMaps.setBlock w b (.map (es.modify j (fun e' => { e' with key := key, val := val })) clock)) := by
      simp [Instr.mapUpdate, run_underlying ht, MapKept.run_getObj_map hb, K.check w false hkey, h1, hj, h3, K.stays w hkey, MapKept.run_setObj_map _ hb, Result.andThen, ChangeMaps.setBlock]
    rw [hu2] at hu
    cases hu
    have hc2 := mapTurned_chg (w := ChangeMaps.setBlock w b (.map es clock)) (b := b) (w' := ChangeMaps.setBlock w b (.map (es.modify j (fun e' => { e' with key := key, val := val })) clock)) ⟨_, _, _, _, hw2, (two _ _).symm⟩
    refine r_run (v := undef) ?_ (hk2 _ hc2.1 hc2.2 hm)
    simp only [G.sem, unitly, Sem.run_bind, Instr.entryStore, MapKept.run_getObj_map hw2, asInt, asIntOf, goInt, Result.andThen]
    simp [hidx, hmod, MapKept.run_setObj_map _ hw2]
    simp [ChangeMaps.setBlock]
end
end Fb
