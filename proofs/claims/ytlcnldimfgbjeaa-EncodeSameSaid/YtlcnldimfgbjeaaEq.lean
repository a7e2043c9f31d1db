/-
  Coders: the plain law of tokens: their bytes, cuts, themselves.
-/
import Derived.Test.YtlcnldimfgbjeaaEe
namespace Fb.Try.VO
open Go Go.Proofs Fb Fb.Bytes
theorem own1_one {v : Voc} (h : MayP v) (b : UInt8) : IsT v.T (ofT v.T [b]) ∧ tk v.T (ofT v.T [b]) = [b] := by
  have hm : [b] ∈ v.T := by
    have := h.tok.all b.toNat b.toNat_lt
    simpa using this
  obtain ⟨i, hi, h1, h2, _⟩ := ofT_spec (by simp) hm
  rw [h2]
  exact ⟨⟨by omega, by omega, by rw [h1]; simp⟩, h1⟩
theorem own1_all {v : Voc} (h : MayP v) (s : List UInt8) : AllT v.T (own1 v.T s) := fun i hi => by
  obtain ⟨b, _, rfl⟩ := List.mem_map.1 hi
  exact (own1_one h b).1
theorem own1_app (T : List (List UInt8)) (s t : List UInt8) : own1 T (s ++ t) = own1 T s ++ own1 T t := by simp [own1]
theorem own1_txt {v : Voc} (h : MayP v) (s : List UInt8) : txt v.T (own1 v.T s) = s := by
  induction s with
  | nil => rfl
  | cons b s ih =>
    have e : own1 v.T (b :: s) = [ofT v.T [b]] ++ own1 v.T s := rfl
    rw [e, txt_app, ih]
    have : txt v.T [ofT v.T [b]] = [b] := by
      simp [txt, (own1_one h b).2]
    rw [this]
    rfl
theorem own1_split {v : Voc} (h : MayP v) {s : List UInt8} {V W : List Int} (e : own1 v.T s = V ++ W) : V = own1 v.T (txt v.T V) ∧ W = own1 v.T (txt v.T W) ∧ s = txt v.T V ++ txt v.T W := by
  obtain ⟨s1, s2, h1, h2, h3⟩ := List.map_eq_append_iff.1 e
  have e1 : V = own1 v.T s1 := h2.symm
  have e2 : W = own1 v.T s2 := h3.symm
  rw [e1, e2, own1_txt h, own1_txt h]
  exact ⟨rfl, rfl, h1⟩
theorem bst_get {M : List Mg} {row : List Int} {i m : Nat} (h : bst M row = some (i, m)) : i + 1 < row.length ∧ fd M (gi row i) (gi row (i + 1)) = some m ∧ ∀ j q, j + 1 < row.length → fd M (gi row j) (gi row (j + 1)) = some q → (gm M m).d ≤ (gm M q).d ∧ (j < i → (gm M m).d < (gm M q).d) := by
  have hs := bst_spec M row (row.length - 1)
  have hb := h
  unfold bst at hb
  rw [hb] at hs
  obtain ⟨h1, h2, h3⟩ := hs
  refine ⟨by dsimp only at h1; omega, (cand_fst h2).2, fun j q hj hq => h3 j (j, q) (by omega) (cand_of hq)⟩
/-- A step in the front part. -/
theorem stp_front {M : List Mg} {V W : List Int} {i m : Nat} (h : bst M (V ++ W) = some (i, m)) (hi : i + 1 < V.length) : bst M V = some (i, m) := by
  obtain ⟨_, h2, h3⟩ := bst_get h
  have e : ∀ j, j < V.length → gi (V ++ W) j = gi V j := fun j hj => by rw [gi_app, if_pos hj]
  rw [e i (by omega), e (i + 1) hi] at h2
  refine bst_is hi h2 fun j q hj hq => h3 j q (by rw [List.length_append]; omega) ?_
  rw [e j (by omega), e (j + 1) hj]
  exact hq
/-- A step in the part behind. -/
theorem stp_back {M : List Mg} {V W : List Int} {i m : Nat} (h : bst M (V ++ W) = some (i, m)) (hi : V.length ≤ i) : bst M W = some (i - V.length, m) := by
  obtain ⟨h1, h2, h3⟩ := bst_get h
  rw [List.length_append] at h1
  have e : ∀ j, gi (V ++ W) (V.length + j) = gi W j := fun j => by rw [gi_app, if_neg (by omega)]; congr 1; omega
  have k2 := h2
  rw [show i = V.length + (i - V.length) by omega, Nat.add_assoc, e, e] at k2
  refine bst_is (by omega) k2 fun j q hj hq => ?_
  have := h3 (V.length + j) q (by rw [List.length_append]; omega) (by rw [Nat.add_assoc, e, e]; exact hq)
  exact ⟨this.1, fun hji => this.2 (by omega)⟩
theorem stp_none_app {M : List Mg} {V W : List Int} (h : stp M (V ++ W) = none) : stp M V = none ∧ stp M W = none := by
  have hb : bst M (V ++ W) = none := by
    unfold stp at h
    cases hb : bst M (V ++ W) with
    | none => rfl
    | some p => rw [hb] at h; cases h
  have hn : ∀ j, j + 1 < (V ++ W).length → fd M (gi (V ++ W) j) (gi (V ++ W) (j + 1)) = none := by
    intro j hj
    have hs := bst_spec M (V ++ W) ((V ++ W).length - 1)
    unfold bst at hb
    rw [hb] at hs
    have := hs j (by omega)
    unfold cand at this
    rw [Option.map_eq_none_iff] at this
    exact this
  constructor
  · unfold stp
    rw [bst_no]
    · rfl
    · intro j hj
      have := hn j (by rw [List.length_append]; omega)
      rw [gi_app, gi_app, if_pos (by omega), if_pos (by omega)] at this
      exact this
  · unfold stp
    rw [bst_no]
    · rfl
    · intro j hj
      have := hn (V.length + j) (by rw [List.length_append]; omega)
      rw [gi_app, gi_app, if_neg (by omega), if_neg (by omega), show V.length + j - V.length = j by omega, show V.length + j + 1 - V.length = j + 1 by omega] at this
      exact this
/-- What a row comes to is cut as its parts are. -/
theorem run_cut {T : List (List UInt8)} {M : List Mg} (hM : MgOk T M) : ∀ (n : Nat) (V L1 L2 : List Int), V.length ≤ n → AllT T V → run M V = L1 ++ L2 → ∃ V1 V2, V = V1 ++ V2 ∧ run M V1 = L1 ∧ run M V2 = L2 ∧ txt T V1 = txt T L1 ∧ txt T V2 = txt T L2 := by
  intro n
  induction n with
  | zero =>
    intro V L1 L2 hV ha hr
    have : V = [] := List.length_eq_zero_iff.1 (by omega)
    subst this
    have : L1 ++ L2 = [] := hr.symm
    obtain ⟨rfl, rfl⟩ := List.append_eq_nil_iff.1 this
    exact ⟨[], [], rfl, rfl, rfl, rfl, rfl⟩
  | succ n ih =>
    intro V L1 L2 hV ha hr
    cases hs : stp M V with
    | none =>
      rw [run_done hs] at hr
      subst hr
      obtain ⟨h1, h2⟩ := stp_none_app hs
      exact ⟨L1, L2, rfl, run_done h1, run_done h2, rfl, rfl⟩
    | some V' =>
      have hsl := stp_len hs
      have ht := stp_txt hM hs ha
      rw [run_step hs] at hr
      obtain ⟨W1, W2, rfl, r1, r2, t1, t2⟩ := ih V' L1 L2 (by omega) ht.1 hr
      have hs' := hs
      unfold stp at hs'
      rw [Option.map_eq_some_iff] at hs'
      obtain ⟨⟨i, m⟩, hb, he⟩ := hs'
      dsimp only at he
      obtain ⟨hi, _, _⟩ := bst_get hb
      have hlen : W1.length + W2.length + 1 = V.length := by rw [← List.length_append]; exact hsl.1
      by_cases hc : i < W1.length
      · -- the step lies in front
        have hV1 : V = V.take (W1.length + 1) ++ V.drop (W1.length + 1) := (List.take_append_drop _ _).symm
        have hb1 : bst M (V.take (W1.length + 1)) = some (i, m) := by
          rw [hV1] at hb
          exact stp_front hb (by rw [List.length_take]; omega)
        have hr1 : repl (V.take (W1.length + 1)) i (gm M m).o = W1 ∧ V.drop (W1.length + 1) = W2 := by
          have e : repl (V.take (W1.length + 1)) i (gm M m).o ++ V.drop (W1.length + 1) = W1 ++ W2 := by
            rw [← he]
            unfold repl
            rw [List.take_take, show min i (W1.length + 1) = i by omega, List.append_assoc]
            congr 1
            rw [List.drop_take]
            have : V.drop (W1.length + 1) = (V.drop (i + 2)).drop (W1.length + 1 - (i + 2)) := by rw [List.drop_drop]; congr 1; omega
            rw [this, List.take_append_drop]
          exact List.append_inj e (by
            have := repl_len (row := V.take (W1.length + 1)) (i := i) (by rw [List.length_take]; omega) (gm M m).o
            rw [List.length_take] at this
            omega)
        have hs1 : stp M (V.take (W1.length + 1)) = some W1 := by
          unfold stp
          rw [hb1]
          simp only [Option.map_some, Option.some.injEq]
          exact hr1.1
        have ha1 : AllT T (V.take (W1.length + 1)) := fun z hz => ha z (List.mem_of_mem_take hz)
        refine ⟨V.take (W1.length + 1), V.drop (W1.length + 1), hV1, ?_, ?_, ?_, ?_⟩
        · rw [run_step hs1]; exact r1
        · rw [hr1.2]; exact r2
        · rw [← (stp_txt hM hs1 ha1).2]; exact t1
        · rw [hr1.2]; exact t2
      · -- the step lies behind
        have hV1 : V = V.take W1.length ++ V.drop W1.length := (List.take_append_drop _ _).symm
        have hl1 : (V.take W1.length).length = W1.length := by rw [List.length_take]; omega
        have hb2 : bst M (V.drop W1.length) = some (i - W1.length, m) := by
          rw [hV1] at hb
          have := stp_back hb (by rw [hl1]; omega)
          rw [hl1] at this
          exact this
        have e : V.take W1.length ++ repl (V.drop W1.length) (i - W1.length) (gm M m).o = W1 ++ W2 := by
          rw [← he]
          unfold repl
          rw [List.drop_drop, show W1.length + (i - W1.length + 2) = i + 2 by omega]
          have : V.take i = V.take W1.length ++ (V.drop W1.length).take (i - W1.length) := by
            rw [← List.take_append_drop W1.length (V.take i), List.take_take, show min W1.length i = W1.length by omega, List.drop_take]
          rw [this]
          simp only [List.append_assoc]
        obtain ⟨q1, q2⟩ := List.append_inj e (by rw [hl1])
        have hs2 : stp M (V.drop W1.length) = some W2 := by
          unfold stp
          rw [hb2]
          simp only [Option.map_some, Option.some.injEq]
          exact q2
        have ha2 : AllT T (V.drop W1.length) := fun z hz => ha z (List.mem_of_mem_drop hz)
        refine ⟨V.take W1.length, V.drop W1.length, hV1, ?_, ?_, ?_, ?_⟩
        · rw [q1]; exact r1
        · rw [run_step hs2]; exact r2
        · rw [q1]; exact t1
        · rw [← (stp_txt hM hs2 ha2).2]; exact t2
/-- Bytes that are cut where a token ends. -/
theorem enc_cut {v : Voc} (h : MayP v) {s : List UInt8} {L1 L2 : List Int} (e : run v.M (own1 v.T s) = L1 ++ L2) : s = txt v.T L1 ++ txt v.T L2 ∧ run v.M (own1 v.T (txt v.T L1)) = L1 ∧ run v.M (own1 v.T (txt v.T L2)) = L2 := by
  obtain ⟨V1, V2, e1, r1, r2, t1, t2⟩ := run_cut h.mg _ _ L1 L2 (Nat.le_refl _) (own1_all h s) e
  obtain ⟨q1, q2, q3⟩ := own1_split h e1
  rw [← t1, ← t2]
  refine ⟨q3, ?_, ?_⟩
  · rw [← q1]; exact r1
  · rw [← q2]; exact r2
/-- A token's bytes come to it alone. -/
theorem enc_self {v : Voc} (h : MayP v) {s : List UInt8} {i : Int} (hi : i ∈ run v.M (own1 v.T s)) : IsT v.T i ∧ run v.M (own1 v.T (tk v.T i)) = [i] := by
  have ha := (run_txt h.mg _ (own1 v.T s) (Nat.le_refl _) (own1_all h s)).1
  obtain ⟨L1, L2, e⟩ := List.append_of_mem hi
  have h2 := (enc_cut h e).2.2
  have e2 : i :: L2 = [i] ++ L2 := rfl
  rw [e2] at h2
  have h3 := (enc_cut h h2).2.1
  have : txt v.T [i] = tk v.T i := by simp [txt]
  rw [this] at h3
  exact ⟨ha i hi, h3⟩
end Fb.Try.VO
