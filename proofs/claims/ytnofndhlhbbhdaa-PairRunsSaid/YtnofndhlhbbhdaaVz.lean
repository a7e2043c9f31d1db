/-
  Maps: keys that are texts, and structs of two numbers.
-/
import Derived.Test.YtnofndhlhbbhdaaVy
import Derived.StringKeys
import Derived.DeepKeys4
namespace Fb
open Go Go.Proofs
def twoB (P : Program) (k : TypeId) : Bool :=
  match P.underlying k with
  | some (.struct fs) => match fs.toList with
    | [f, g] => match P.underlying f.type, P.underlying g.type with
      | some (.int .i64), some (.int .i64) => f.offset == 0 && g.offset == 1 && f.name != "_" && g.name != "_" && P.cellsOf f.type == 1 && P.cellsOf g.type == 1 && P.cellsOf k == 2 && P.keyType k && Nat.blt 0 P.types.size
      | _, _ => false
    | _ => false
  | _ => false
theorem two_key {P : Program} {k : TypeId} (h : twoB P k = true) {a b : Int} (ha : (Lit.int .i64 a).wf = true) (hb : (Lit.int .i64 b).wf = true) : ∃ kl, keyOf P k (.agg ⟨[.int .i64 a, .int .i64 b]⟩) = some kl := by
  unfold twoB at h
  split at h
  · rename_i fs hu
    split at h
    · rename_i f g hfs
      split at h
      · rename_i hf hg
        simp only [Bool.and_eq_true, beq_iff_eq, bne_iff_ne, ne_eq] at h
        obtain ⟨⟨⟨⟨⟨⟨⟨⟨h1, h2⟩, h3⟩, h4⟩, h5⟩, h6⟩, h7⟩, h8⟩, h9⟩ := h
        have h9 : 0 < P.types.size := by simpa using h9
        obtain ⟨d, hd⟩ : ∃ d, P.types.size = d + 1 := ⟨P.types.size - 1, by omega⟩
        have hall : fs.all (fun f => f.name != "_") = true := by
          rw [← Array.all_toList, hfs]
          simp [h3, h4]
        have hkl : P.keyLits (P.types.size + 1) k [.int .i64 a, .int .i64 b] = some [.int .i64 a, .int .i64 b] := by
          rw [hd]
          simp only [Program.keyLits, hu, hall, h7, hfs]
          simp [hf, hg, h1, h2, h5, h6, ha, hb]
        have hform : (Value.agg ⟨[.int .i64 a, .int .i64 b]⟩).formed P k = true := by simp [Value.formed, hu, h7]
        refine ⟨.string (keyBytes [.int .i64 a, .int .i64 b]), ?_⟩
        unfold keyOf
        rw [hu]
        simp only [h8, hform, Bool.and_self, if_true]
        show Option.map _ (P.keyLits (P.types.size + 1) k [.int .i64 a, .int .i64 b]) = _
        rw [hkl]
        rfl
      · cases h
    · cases h
  · cases h
section
open Go.WideElems (Fit)
variable {P : Program} {k t e : TypeId} {w w' : World} {b : Nat} {f : Value → Option Value}
/-- An entry is sought: it stands there behind that; then it is written. -/
theorem r_entry2 {Kk : Value → World → Prop} (h : MapV P k w b f) (K : Maps.Keyed P k) (ht : P.underlying t = some (.map k e)) {z : Value} (hz : ∀ w, (zeroValue e).run P w = .ok z w) (L : List Value) (hL : ∀ key, f key ≠ none → key ∈ L) (hlen : L.length < maxLen) {key : Value} {kl : Lit} (hkey : keyOf P k key = some kl)
    (hk : ∀ (st : Value) (w1 : World), Chg (· = b) w w1 → w1.heap.size = w.heap.size → MapV P k w1 b (upd f key (some ((f key).getD z))) → (∀ val (Kk2 : Value → World → Prop), (∀ w', Chg (· = b) w1 w' → w'.heap.size = w1.heap.size → MapV P k w' b (upd f key (some val)) → Kk2 undef w') → Run P (G.sem (.entryStore t) [.map (some b), st, val]) w1 Kk2) → Kk (.tuple ⟨[(f key).getD z, st]⟩) w1) :
    Run P (G.sem (.mapEntry t) [.map (some b), key]) w Kk := by
  have hst := fun val => store_run (val := val) h K ht L hL hlen hkey
  have hlook := look1_run h K ht (hz w) hkey
  obtain ⟨D, n, ⟨es, clock, hb, F, hs, hD⟩, hf⟩ := h
  obtain ⟨s1, s2, _⟩ := F.stamped
  have turn : ∀ es' c', (ChangeMaps.setBlock w b (.map es' c')).heap[b]? = some (.map es' c') := fun es' c' => ChangeMaps.heap_setBlock_same hb _
  have two : ∀ o o', ChangeMaps.setBlock (ChangeMaps.setBlock w b o) b o' = ChangeMaps.setBlock w b o' := fun o o' => by simp [ChangeMaps.setBlock]
  rcases K.find w hkey es.toList F.keys with ⟨h1, h2⟩ | ⟨j, e0, h1, h2, h3⟩
  · have hc := mapTurned_chg (w := w) (b := b) (w' := ChangeMaps.setBlock w b (.map (es.push ⟨key, z, clock⟩) (clock + 1))) ⟨es, clock, _, _, hb, rfl⟩
    have hrun : (Instr.mapEntry t (.map (some b)) key).run P w = .ok (.tuple #[z, goInt clock]) (ChangeMaps.setBlock w b (.map (es.push ⟨key, z, clock⟩) (clock + 1))) := by
      simp [Instr.mapEntry, run_underlying ht, MapKept.run_getObj_map hb, K.check w false hkey, h1, hz, MapKept.run_setObj_map _ hb, Result.andThen, ChangeMaps.setBlock]
    have hl2 : (Instr.lookup t (.map (some b)) key false).run P w = .ok z w := by
      simp [Instr.lookup, run_underlying ht, MapKept.run_getObj_map hb, K.check w _ hkey, h1, hz, Result.andThen]
    rw [hlook] at hl2
    have hv : (f key).getD z = z := by injection hl2
    have hm0 : MapV P k (ChangeMaps.setBlock w b (.map (es.push ⟨key, z, clock⟩) (clock + 1))) b (upd f key (some z)) := by
      obtain ⟨w', hu, hm, _⟩ := hst z
      have hu2 : (Instr.mapUpdate t (.map (some b)) key z).run P w = .ok () (ChangeMaps.setBlock w b (.map (es.push ⟨key, z, clock⟩) (clock + 1))) := by
        simp [Instr.mapUpdate, run_underlying ht, MapKept.run_getObj_map hb, K.check w false hkey, h1, MapKept.run_setObj_map _ hb, Result.andThen, ChangeMaps.setBlock]
      rw [hu2] at hu
      cases hu
      exact hm
    rw [hv] at hk
    refine r_run hrun (hk (goInt clock) _ hc.1 hc.2 hm0 fun val Kk2 hk2 => ?_)
    have hw2 := turn (es.push ⟨key, z, clock⟩) (clock + 1)
    have hidx : (es.push ⟨key, z, clock⟩).findIdx? (fun e => ((e.born : Nat) : Int) == ((clock : Nat) : Int)) = some es.size := by
      rw [WideElems.findIdx_arr]
      exact WideElems.findIdx_born (l := (es.push ⟨key, z, clock⟩).toList) (j := es.size) (e0 := ⟨key, z, clock⟩) (by
        simp only [Array.toList_push, List.map_append, List.map_cons, List.map_nil]
        refine List.nodup_append.2 ⟨s2, by simp, fun a ha c hc e1 => ?_⟩
        simp only [List.mem_singleton] at hc
        obtain ⟨x, hx, rfl⟩ := List.mem_map.1 ha
        have := s1 x hx
        omega) (by simp)
    have hmod : (es.push ⟨key, z, clock⟩).modify es.size (fun e => { e with val := val }) = es.push ⟨key, val, clock⟩ := by
      apply Array.ext'
      rw [Array.toList_modify, Array.toList_push, Array.toList_push, ← Array.length_toList, WideElems.modify_last]
    obtain ⟨w', hu, hm, _⟩ := hst val
    have hu2 : (Instr.mapUpdate t (.map (some b)) key val).run P w = .ok () (ChangeMaps.setBlock w b (.map (es.push ⟨key, val, clock⟩) (clock + 1))) := by
      simp [Instr.mapUpdate, run_underlying ht, MapKept.run_getObj_map hb, K.check w false hkey, h1, MapKept.run_setObj_map _ hb, Result.andThen, ChangeMaps.setBlock]
    rw [hu2] at hu
    cases hu
    have hc2 := mapTurned_chg (w := ChangeMaps.setBlock w b (.map (es.push ⟨key, z, clock⟩) (clock + 1))) (b := b) (w' := ChangeMaps.setBlock w b (.map (es.push ⟨key, val, clock⟩) (clock + 1))) ⟨_, _, _, _, hw2, (two _ _).symm⟩
    refine r_run (v := undef) ?_ (hk2 _ hc2.1 hc2.2 hm)
    simp only [G.sem, unitly, Sem.run_bind, Instr.entryStore, MapKept.run_getObj_map hw2, asInt, asIntOf, goInt, Result.andThen]
    simp [hidx, hmod, MapKept.run_setObj_map _ hw2]
    simp [ChangeMaps.setBlock]
  · have hj : es[j]? = some e0 := by simpa using h2
    have hsame : es.modify j (fun e => { e with key := key }) = es := by
      apply Array.ext'
      rw [Array.toList_modify, ChangeMaps.modify_eq_set _ _ _ _ h2]
      have : ({ e0 with key := key } : MapEntry) = e0 := by rw [← h3]
      rw [this]
      exact WideElems.set_self _ _ _ h2
    have hsame2 : es.modify j (fun e => { e with key := key, val := e0.val }) = es := by
      apply Array.ext'
      rw [Array.toList_modify, ChangeMaps.modify_eq_set _ _ _ _ h2]
      have : ({ e0 with key := key, val := e0.val } : MapEntry) = e0 := by rw [← h3]
      rw [this]
      exact WideElems.set_self _ _ _ h2
    have hrun : (Instr.mapEntry t (.map (some b)) key).run P w = .ok (.tuple #[e0.val, goInt e0.born]) (ChangeMaps.setBlock w b (.map es clock)) := by
      simp [Instr.mapEntry, run_underlying ht, MapKept.run_getObj_map hb, K.check w false hkey, h1, hj, h3, K.stays w hkey, hsame, MapKept.run_setObj_map _ hb, Result.andThen, ChangeMaps.setBlock]
    have hl2 : (Instr.lookup t (.map (some b)) key false).run P w = .ok e0.val w := by
      simp [Instr.lookup, run_underlying ht, MapKept.run_getObj_map hb, K.check w _ hkey, h1, Result.andThen]
    rw [hlook] at hl2
    have hv : (f key).getD z = e0.val := by injection hl2
    have hm0 : MapV P k (ChangeMaps.setBlock w b (.map es clock)) b (upd f key (some e0.val)) := by
      obtain ⟨w', hu, hm, _⟩ := hst e0.val
      have hu2 : (Instr.mapUpdate t (.map (some b)) key e0.val).run P w = .ok () (ChangeMaps.setBlock w b (.map es clock)) := by
        simp [Instr.mapUpdate, run_underlying ht, MapKept.run_getObj_map hb, K.check w false hkey, h1, hj, h3, K.stays w hkey, MapKept.run_setObj_map _ hb, Result.andThen, ChangeMaps.setBlock, hsame2]
      rw [hu2] at hu
      cases hu
      exact hm
    have hc := mapTurned_chg (w := w) (b := b) (w' := ChangeMaps.setBlock w b (.map es clock)) ⟨es, clock, _, _, hb, rfl⟩
    rw [hv] at hk
    refine r_run hrun (hk (goInt e0.born) _ hc.1 hc.2 hm0 fun val Kk2 hk2 => ?_)
    have hw2 := turn es clock
    have hidx : es.findIdx? (fun e => ((e.born : Nat) : Int) == ((e0.born : Nat) : Int)) = some j := by
      rw [WideElems.findIdx_arr]
      exact WideElems.findIdx_born s2 h2
    have hmod : es.modify j (fun e => { e with val := val }) = es.modify j (fun e' => { e' with key := key, val := val }) := by
      apply Array.ext'
      rw [Array.toList_modify, Array.toList_modify, ChangeMaps.modify_eq_set _ _ _ _ h2, ChangeMaps.modify_eq_set _ _ _ _ h2, ← h3]
    obtain ⟨w', hu, hm, _⟩ := hst val
    have hu2 : (Instr.mapUpdate t (.map (some b)) key val).run P w = .ok () (ChangeMaps.setBlock w b (.map (es.modify j (fun e' => { e' with key := key, val := val })) clock)) := by
      simp [Instr.mapUpdate, run_underlying ht, MapKept.run_getObj_map hb, K.check w false hkey, h1, hj, h3, K.stays w hkey, MapKept.run_setObj_map _ hb, Result.andThen, ChangeMaps.setBlock]
    rw [hu2] at hu
    cases hu
    have hc2 := mapTurned_chg (w := ChangeMaps.setBlock w b (.map es clock)) (b := b) (w' := ChangeMaps.setBlock w b (.map (es.modify j (fun e' => { e' with key := key, val := val })) clock)) ⟨_, _, _, _, hw2, (two _ _).symm⟩
    refine r_run (v := undef) ?_ (hk2 _ hc2.1 hc2.2 hm)
    simp only [G.sem, unitly, Sem.run_bind, Instr.entryStore, MapKept.run_getObj_map hw2, asInt, asIntOf, goInt, Result.andThen]
    simp [hidx, hmod, MapKept.run_setObj_map _ hw2]
    simp [ChangeMaps.setBlock]
/-- Rules for a class of worlds of one's own. -/
theorem r_look1C {C : World → Prop} {Kk : Value → Prop} {v : Value} {key : Value} (hC : ∀ w', C w' → (Instr.lookup t (.map (some b)) key false).run P w' = .ok v w') (hk : Kk v) : Get P (G.sem (.lookup t false) [.map (some b), key]) C Kk :=
  r_get hC hk
theorem r_ldnbC {C : World → Prop} {S : Nat → Prop} (hC : ∀ w', C w' → Chg S w w') {c o n : Nat} {e' : TypeId} {cs vs : List Value} {Kk : Value → Prop} (h : Blk w c e' cs) (hv : (cs.drop o).take n = vs) (hl : vs.length = n) (hs : ¬ S c) (hk : Kk (.agg ⟨vs⟩)) : LoadN ⟨c, o, none⟩ n C Kk :=
  r_ldn vs hl (fun w' hw i v hi => by
    rw [Addr.add_plain, (h.keep (hC w' hw) hs).cell]
    rw [← hv, List.getElem?_take] at hi
    split at hi
    · rwa [List.getElem?_drop] at hi
    · cases hi) hk
end
end Fb
