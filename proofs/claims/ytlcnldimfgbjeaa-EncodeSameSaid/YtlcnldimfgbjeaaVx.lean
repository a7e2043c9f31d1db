/-
  Bytes of strings.
-/
import Derived.Test.YtlcnldimfgbjeaaB3
import Derived.Lib.ConvBytes
namespace Fb
open Go Fb.Bytes
section
variable {P : Program} {w : World}
/-- '[]byte(s)'. -/
theorem r_bytesOf {t st e : TypeId} {s : List UInt8} {K : Value → World → Prop} (hs : P.underlying st = some .string) (hd : P.underlying t = some (.slice e)) (he : P.underlying e = some (.int .u8)) (hm : s.length ≤ maxLen)
    (k : ∀ a c w', Ext w w' → View w' a s.length c 1 (bvs s) → K (.slice a s.length c) w') : Run P (G.sem (.conv st t) [.string (bstr s)]) w K := by
  have hsz := bstr_size s
  refine r_run (w' := Lib.bytesWorld w e (bstr s)) (v := .slice (some ⟨w.heap.size, 0, none⟩) s.length (grownCap w s.length 0 e)) ?_ (k _ _ _ ?_ ?_)
  · have := Lib.run_convert_string_bytes (P := P) w st t e (bstr s) hs hd he
    rw [hsz] at this
    exact this
  · refine ⟨rfl, rfl, rfl, by rw [Lib.bytesWorld_size]; omega, fun j hj _ => Lib.bytesWorld_at_old w e (bstr s) j hj⟩
  · refine ⟨by rw [bvs_length]; omega, grownCap_ge w s.length 0 e, grownCap_le_maxLen w s.length 0 e hm, fun _ => rfl, fun i u hu => ?_⟩
    have hi : i < s.length := by
      have := (List.getElem?_eq_some_iff.1 hu).1
      rw [bvs_length] at this
      exact this
    have e1 : ofs (some ⟨w.heap.size, 0, none⟩) + i = i := by simp [ofs]
    have e2 : blk (some ⟨w.heap.size, 0, none⟩) = w.heap.size := rfl
    rw [e1, e2, Lib.bytesWorld_cell w e (bstr s) i (by omega)]
    unfold bvs at hu
    rw [List.getElem?_map, List.getElem?_eq_getElem hi] at hu
    cases hu
    congr 2
    have e3 : (bstr s).data.toList = s := by simp [bstr]
    rw [e3]
    simp [List.getD, hi]
/-- '[]byte("abc")' of a constant: the row is marked. -/
theorem r_bytesC {t e : TypeId} {b n : Nat} {cs : List Value} {K : Value → World → Prop} (ht : P.underlying t = some (.slice e)) (he : P.underlying e = some (.int .u8)) (hb : Blk w b e cs) (hl : cs.length = n) (hm : n ≤ maxLen)
    (k : ∀ w', Chg (· = b) w w' → w'.heap.size = w.heap.size → View w' (some ⟨b, 0, none⟩) n n 1 cs → K (.slice (some ⟨b, 0, none⟩) n n) w') : Run P (G.sem (.conv t t) [.slice (some ⟨b, 0, none⟩) n n]) w K := by
  have hsh : w.shape? b = some (e, cs.length) := by
    unfold World.shape?
    rw [show w.heap[b]? = _ from hb]
    rfl
  have hblt := hb.lt
  have hh : (w.freeze ⟨b, cs.length, none⟩ 1).heap.size = w.heap.size := by simp [World.freeze]
  have hat : (w.freeze ⟨b, cs.length, none⟩ 1).heap[b]? = some (.cells ⟨cs⟩ e (cs.length, cs.length + 1)) := by
    unfold World.freeze
    rw [if_neg (by decide)]
    simp only [Array.getElem?_modify, if_true]
    rw [show w.heap[b]? = _ from hb]
    rfl
  refine r_run (w' := w.freeze ⟨b, cs.length, none⟩ 1) (v := .slice (some ⟨b, 0, none⟩) n n) ?_ (k _ ⟨?_, ?_, ?_, by rw [hh]; exact Nat.le_refl _, fun j _ hj => ?_⟩ hh ⟨by omega, Nat.le_refl _, hm, fun _ => rfl, fun i u hu => ?_⟩)
  · change (convert t t (.slice (some ⟨b, 0, none⟩) n n)).run P w = _
    simp [convert, run_underlying ht, run_underlying he, markStringish, hsh]
  · simp [World.freeze]
  · simp [World.freeze]
  · simp [World.freeze]
  · unfold World.freeze
    rw [if_neg (by decide)]
    simp only [Array.getElem?_modify]
    rw [if_neg (fun e => hj e.symm)]
  · simp only [blk, ofs, Nat.zero_add]
    unfold World.cell?
    rw [hat]
    simpa using hu
end
end Fb
