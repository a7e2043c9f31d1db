/-
  The calculus is sound, fourth part: rows of operations, plans, code, whole functions.
-/
import Derived.Test.YtnofndhlhbbhdaaVu
namespace Fb
open Go

section
variable {P : Program} {L : Env} {a : Act} {n : Nat} {w : World} {ops : Array Oper}

theorem Agr.cons_of {tmps : Array Value} {t : Nat} {s : Sv} (ha : Agr tmps n L) (h : tmps[t]? = some s.val) : Agr tmps n ((t, s) :: L) := by
  refine ⟨ha.size, fun j s' hj => ?_⟩
  by_cases e : t = j
  · subst e; rw [find_cons_eq] at hj; cases hj; exact h
  · rw [find_cons_ne e] at hj; exact ha.has j s' hj

theorem putD_sound {d : Option Nat} {s : Sv} {K : Env → Prop} (h : putD n d s L K) (ha : Agr a.tmps n L) : ∃ L', K L' ∧ Agr (a.put d s.val).tmps n L' := by
  unfold putD at h
  split at h
  · exact ⟨L, h, ha⟩
  · rename_i d
    cases hb : Nat.ble n d with
    | true => rw [hb] at h; exact h.elim
    | false =>
      rw [hb, cond_false] at h
      exact ⟨_, h, ha.put d s (Nat.lt_of_not_le fun hle => by rw [Nat.ble_eq_true_of_le hle] at hb; cases hb)⟩

/-- The guard of a slim row's operation is the operation's. -/
def guardFits (ops : Array Oper) (o : Oper) (g : Option (Nat × Bool)) : Prop :=
  (o.guard = none ∧ g = none) ∨ ∃ j want oj t, o.guard = some (j, want) ∧ ops[j]? = some oj ∧ oj.dst = some t ∧ g = some (t, want)

theorem slimSt_spec {o : Oper} {st : St} (h : slimSt P ops o = some st) : slimOp P o = some st.o ∧ st.d = o.dst ∧ guardFits ops o st.g := by
  unfold slimSt at h
  simp only [Option.bind_eq_bind, Option.bind_eq_some_iff] at h
  obtain ⟨so, hso, h⟩ := h
  split at h
  · rename_i hg
    cases h
    exact ⟨hso, rfl, .inl ⟨hg, rfl⟩⟩
  · rename_i j want hg
    simp only [Option.bind_eq_some_iff] at h
    obtain ⟨oj, hj, t, ht, h⟩ := h
    cases h
    exact ⟨hso, rfl, .inr ⟨j, want, oj, t, hg, hj, ht, rfl⟩⟩

theorem guard_sound {o : Oper} {g : Option (Nat × Bool)} {Y N : Env → Prop} (hf : guardFits ops o g) (h : guardG L g Y N) (ha : Agr a.tmps n L) :
    (Region.wanted o (yielded ops a.tmps) = true ∧ ∃ L', Y L' ∧ Agr a.tmps n L') ∨ (Region.wanted o (yielded ops a.tmps) = false ∧ ∃ L', N L' ∧ Agr a.tmps n L') := by
  rcases hf with ⟨hg, rfl⟩ | ⟨j, want, oj, t, hg, hj, ht, rfl⟩
  · exact .inl ⟨by simp [Region.wanted, hg], L, h, ha⟩
  · have hy : ∀ v, a.tmps[t]? = some v → yielded ops a.tmps j = match v with | .bool b => some b | _ => none := fun v hv => by
      simp only [yielded, hj, Option.bind_some, ht, hv]
      cases v <;> rfl
    have hw : Region.wanted o (yielded ops a.tmps) = (yielded ops a.tmps j == some want) := by simp [Region.wanted, hg]
    rw [hw]
    simp only [guardG] at h
    split at h
    · rename_i hs
      rw [hy _ (ha.has _ _ hs)]
      cases want with
      | true => exact .inl ⟨rfl, L, h, ha⟩
      | false => exact .inr ⟨rfl, L, h, ha⟩
    · rename_i hs
      rw [hy _ (ha.has _ _ hs)]
      cases want with
      | true => exact .inr ⟨rfl, L, h, ha⟩
      | false => exact .inl ⟨rfl, L, h, ha⟩
    · rename_i b hs
      have ht' := ha.has _ _ hs
      rw [hy _ ht']
      cases want with
      | true =>
        simp only [cond_true, Cond_eq] at h
        cases b with
        | true => exact .inl ⟨rfl, _, h.1 rfl, ha.cons_of ht'⟩
        | false => exact .inr ⟨rfl, _, h.2 rfl, ha.cons_of ht'⟩
      | false =>
        simp only [cond_false, Cond_eq] at h
        cases b with
        | true => exact .inr ⟨rfl, _, h.1 rfl, ha.cons_of ht'⟩
        | false => exact .inl ⟨rfl, _, h.2 rfl, ha.cons_of ht'⟩
    · rename_i hs
      rw [hy _ (ha.has _ _ hs)]
      exact .inr ⟨rfl, L, h, ha⟩
    · exact h.elim

theorem put_same {d : Option Nat} {v : Value} {j : Nat} (h : d ≠ some j) : (a.put d v).tmps[j]? = a.tmps[j]? := by
  cases d with
  | none => rfl
  | some d =>
    simp only [Act.put]
    rw [Array.getElem?_setIfInBounds_ne]
    exact fun e => h (by rw [e])

theorem put_defers {d : Option Nat} {v : Value} : (a.put d v).defers = a.defers := by cases d <;> rfl

/-- 'a'' holds what 'a' holds but for the slots 'wr'; nothing is deferred. -/
structure Near (wr : List Nat) (a a' : Act) : Prop where
  defers : a'.defers = a.defers
  slots : ∀ j, j ∉ wr → a'.tmps[j]? = a.tmps[j]?

theorem Near.refl (wr : List Nat) (a : Act) : Near wr a a := ⟨rfl, fun _ _ => rfl⟩
theorem Near.trans {wr : List Nat} {a b c : Act} (h : Near wr a b) (k : Near wr b c) : Near wr a c := ⟨k.defers.trans h.defers, fun j hj => (k.slots j hj).trans (h.slots j hj)⟩
theorem Near.mono {wr wr' : List Nat} {a b : Act} (h : Near wr a b) (hw : ∀ j, j ∈ wr → j ∈ wr') : Near wr' a b := ⟨h.defers, fun j hj => h.slots j fun e => hj (hw j e)⟩
theorem Near.put {wr : List Nat} (a : Act) (d : Option Nat) (v : Value) (h : ∀ j, d = some j → j ∈ wr) : Near wr a (a.put d v) :=
  ⟨put_defers, fun j hj => put_same fun e => hj (h j e)⟩

theorem row_sound {Q : Exit → Act → World → Prop} : ∀ (os : List Oper) (sts : List St), os.mapM (slimSt P ops) = some sts → ∀ (L : Env) (a : Act) (w : World) (N : Env → World → Prop), vcRow P n sts L w N → Agr a.tmps n L →
    (∀ L' a' w', N L' w' → Agr a'.tmps n L' → Near (sts.flatMap fun s => s.d.toList) a a' → Q .normal a' w') → wpList P ops Q os a w
  | [], sts, hm, L, a, w, N, h, ha, hq => by
    simp at hm
    subst hm
    exact hq L a w h ha (Near.refl _ _)
  | o :: os, sts, hm, L, a, w, N, h, ha, hq => by
    simp only [List.mapM_cons, Option.pure_def, Option.bind_eq_bind, Option.bind_eq_some_iff] at hm
    obtain ⟨st, hst, r, hr, he⟩ := hm
    cases he
    obtain ⟨hso, hd, hg⟩ := slimSt_spec hst
    rw [vcRow_cons] at h
    have near : ∀ v a', Near (r.flatMap fun s => s.d.toList) (a.put o.dst v) a' → Near ((st :: r).flatMap fun s => s.d.toList) a a' := fun v a' hn =>
      (Near.put a o.dst v (fun j hj => by simp [hd, hj])).trans (hn.mono fun j hj => by simp only [List.flatMap_cons, List.mem_append]; exact .inr hj)
    unfold wpList
    rcases guard_sound hg h ha with ⟨hw, L', hy, ha'⟩ | ⟨hw, L', hy, ha'⟩
    · rw [if_pos hw]
      refine .inl (vcO_sound hso hy ha' _ _ fun s w' hk => ?_)
      obtain ⟨L'', hk', ha''⟩ := putD_sound (a := a) hk ha'
      rw [hd] at ha''
      exact row_sound os r hr L'' _ w' N hk' ha'' fun L3 a3 w3 h3 ha3 hn3 => hq L3 a3 w3 h3 ha3 (near _ _ hn3)
    · rw [if_neg (by rw [hw]; simp)]
      obtain ⟨L'', hk', ha''⟩ := putD_sound (a := a) hy ha'
      rw [hd] at ha''
      exact row_sound os r hr L'' _ w N hk' ha'' fun L3 a3 w3 h3 ha3 hn3 => hq L3 a3 w3 h3 ha3 (near _ _ hn3)

/-! ### Plans -/
theorem rsP_ne (p : Plan) (h : forkOnly p = true) : rsP p ≠ [] := by
  induction p with
  | done => simp [forkOnly] at h
  | take => simp [forkOnly] at h
  | step => simp [rsP]
  | alt p q ihp _ =>
    simp only [forkOnly, Bool.and_eq_true] at h
    simp only [rsP]
    intro e
    exact ihp h.1 (List.append_eq_nil_iff.1 e).1

/-! ### Whatever order is picked: a class of worlds is held as long as somebody who looks into memory is still to come -/
/-- Whatever order is picked from here on; what does not wait for all who look hands the class on. -/
def wpAnyW (P : Program) (ops : Array Oper) (Q : Exit → Act → World → Prop) (C : World → Prop) (wv : Nat → Bool) : Nat → Array Bool → Act → World → Prop
  | 0, listed, a, w => Region.ready .any ops listed = [] ∧ Q .normal a w
  | fuel + 1, listed, a, w =>
    (Region.ready .any ops listed = [] → Q .normal a w) ∧
    ∀ i ∈ Region.ready .any ops listed, wpOp P ops Q i (fun a' w' => (wv i = false → C w → C w') ∧ wpAnyW P ops Q C wv fuel (listed.setIfInBounds i true) a' w') a w

theorem wpAny_of_W {Q : Exit → Act → World → Prop} {C : World → Prop} {wv : Nat → Bool} : ∀ (fuel : Nat) (listed : Array Bool) (a : Act) (w : World), wpAnyW P ops Q C wv fuel listed a w → wpAny P .any ops Q fuel listed a w
  | 0, _, _, _, h => h
  | fuel + 1, _, _, _, h => ⟨h.1, fun i hi => wpOp_mono (fun a' w' h' => wpAny_of_W fuel _ a' w' h'.2) (h.2 i hi)⟩

theorem wpAnyW_first {Q : Exit → Act → World → Prop} {C D : World → Prop} {wv : Nat → Bool} {i : Nat} {oi : Oper} {v : Value} (hi : ops[i]? = some oi)
    (hsel : ∀ (j : Nat) (o : Oper) cs b, ops[j]? = some o → o.op ≠ .select cs b) (hQ : ∀ c a w, Q (.panic c) (a.put oi.dst v) w → Q (.panic c) a w)
    (hD : ∀ j oj w w', ops[j]? = some oj → j ≠ i → (∀ e ∈ oj.after, Region.binds .any e = true → e.on ≠ i) → (wv j = false → C w → C w') → D w → D w') :
    ∀ (fuel : Nat) (listed : Array Bool) (a : Act) (w : World),
      (∀ j oj, ops[j]? = some oj → j ≠ i → listed.getD j true = false → (∀ e ∈ oj.after, Region.binds .any e = true → e.on ≠ i) → oi.apart ops oj = true) →
      i ∈ Region.ready .any ops listed → YieldsIf P ops D oi v a → D w →
      wpAnyW P ops Q C wv fuel (listed.setIfInBounds i true) (a.put oi.dst v) w → wpAnyW P ops Q C wv (fuel + 1) listed a w := by
  intro fuel
  induction fuel with
  | zero =>
    intro listed a w hfree hr hy hd H
    refine ⟨fun h => (by rw [h] at hr; cases hr), fun j hj => ?_⟩
    rcases Decidable.em (j = i) with rfl | hji
    · exact hy.wpOp hi hd ⟨fun _ h => h, H⟩
    · have h := ready_mono hj hji
      rw [H.1] at h
      cases h
  | succ fuel ih =>
    intro listed a w hfree hr hy hd H
    refine ⟨fun h => (by rw [h] at hr; cases hr), fun j hj => ?_⟩
    rcases Decidable.em (j = i) with rfl | hji
    · exact hy.wpOp hi hd ⟨fun _ h => h, H⟩
    · obtain ⟨hjun, oj, hoj, hall⟩ := mem_ready.1 hj
      have hun := (mem_ready.1 hr).1
      have hnot : ∀ e ∈ oj.after, Region.binds .any e = true → e.on ≠ i := fun e he hb heq => by
        have h1 := hall e he hb
        rw [heq] at h1
        rcases Nat.lt_or_ge i listed.size with h' | h'
        · simp [h'] at hun h1; rw [hun] at h1; cases h1
        · simp [Array.getElem?_eq_none h'] at h1
      have h2 := wpOp_putIf hoj (hfree j oj hoj hji hjun hnot) (fun cs b => hsel i oi cs b hi) (fun cs b => hsel j oj cs b hoj) hQ hy (H.2 j (ready_mono hj hji))
      refine wpOp_mono (fun a' w' h3 => ⟨h3.2.1, ih (listed.setIfInBounds j true) a' w' (fun k ok hk hki hku hkn => ?_) (ready_mono hr (Ne.symm hji)) h3.1 (hD j oj w w' hoj hji hnot h3.2.1 hd) ?_⟩) h2
      · refine hfree k ok hk hki ?_ hkn
        rcases Decidable.em (j = k) with rfl | hjk
        · exact hjun
        · rw [getD_set_ne true hjk] at hku; exact hku
      · rw [Array.setIfInBounds_comm _ _ hji]
        exact h3.2.2

theorem yd_blind {C D : World → Prop} {so : SO} {K : Sv → Prop} (hr : so.reads = false) (h : yd P C L so K) : yd P D L so K := by
  cases so <;> first | exact h | (simp [SO.reads] at hr; done)

theorem waits_spec {rs : List Nat} {i j : Nat} {oj : Oper} (hj : ops[j]? = some oj) (hi : i ∈ rs) (hji : j ≠ i) (hno : ∀ e ∈ oj.after, Region.binds .any e = true → e.on ≠ i) : waits ops rs j = false := by
  cases hw : waits ops rs j with
  | false => rfl
  | true =>
    unfold waits at hw
    rw [List.all_eq_true] at hw
    have h := hw i hi
    rw [hj] at h
    simp only [Bool.or_eq_true] at h
    rcases h with h | h
    · exact absurd (Nat.eq_of_beq_eq_true h).symm hji
    · obtain ⟨e, he, hb⟩ := Array.any_eq_true'.1 h
      simp only [Bool.and_eq_true, beq_iff_eq] at hb
      exact absurd hb.2 (hno e he hb.1)

set_option maxHeartbeats 1000000 in
theorem plan_sound {C : World → Prop} {Q : Exit → Act → World → Prop} {rs : List Nat} (hrs : rs = readers P ops) (hns : Region.noSelect ops = true) (hQ : ∀ c (a : Act) (d : Option Nat) (v : Value) w, Q (.panic c) (a.put d v) w → Q (.panic c) a w) :
    ∀ (p : Plan) (fuel : Nat) (listed : Array Bool),
    (redoPlan P ops rs p false fuel listed = some p → wellP p = true → ∀ (L : Env) (a : Act) (w : World) (N : Env → World → Prop), vcPlan P n C p L w N → ((∃ q ∈ rs, listed.getD q true = false) → C w) → Agr a.tmps n L →
      (∀ L' a' w', N L' w' → Agr a'.tmps n L' → Near (wrP p) a a' → Q .normal a' w') → wpAnyW P ops Q C (waits ops rs) fuel listed a w) ∧
    (redoPlan P ops rs p true fuel listed = some p → wellP p = true → forkOnly p = true → ∃ fuel', fuel = fuel' + 1 ∧ ∀ (L : Env) (a : Act) (w : World) (N : Env → World → Prop), vcPlan P n C p L w N → ((∃ q ∈ rs, listed.getD q true = false) → C w) → Agr a.tmps n L →
      (∀ L' a' w', N L' w' → Agr a'.tmps n L' → Near (wrP p) a a' → Q .normal a' w') → ∀ i ∈ rsP p, i ∈ Region.ready .any ops listed →
        wpOp P ops Q i (fun a' w' => (waits ops rs i = false → C w → C w') ∧ wpAnyW P ops Q C (waits ops rs) fuel' (listed.setIfInBounds i true) a' w') a w) := by
  intro p
  have pend : ∀ (i : Nat) (listed : Array Bool), (∃ q ∈ rs, (listed.setIfInBounds i true).getD q true = false) → ∃ q ∈ rs, q ≠ i ∧ listed.getD q true = false := by
    rintro i listed ⟨q, hq, hp⟩
    rcases Decidable.em (i = q) with rfl | hiq
    · exfalso
      rcases Nat.lt_or_ge i listed.size with h' | h'
      · simp [h'] at hp
      · simp at hp
    · exact ⟨q, hq, Ne.symm hiq, by rwa [getD_set_ne true hiq] at hp⟩
  induction p with
  | done =>
    intro fuel listed
    refine ⟨fun hr _ L a w N h hC ha hq => ?_, fun hr _ hf => by cases hf⟩
    simp only [redoPlan] at hr
    split at hr
    · rename_i hready
      have hready := List.isEmpty_iff.1 hready
      cases fuel with
      | zero => exact ⟨hready, hq L a w h ha (Near.refl _ _)⟩
      | succ fuel => exact ⟨fun _ => hq L a w h ha (Near.refl _ _), by rw [hready]; simp⟩
    · cases hr
  | take i s p ih =>
    intro fuel listed
    refine ⟨fun hr hwell L a w N h hC ha hq => ?_, fun hr _ hf => by cases hf⟩
    simp only [redoPlan] at hr
    split at hr
    · cases hr
    · rename_i fuel
      simp only [Option.bind_eq_bind, Option.bind_eq_some_iff] at hr
      obtain ⟨o, ho, st, hst, hr⟩ := hr
      split at hr
      · rename_i hc
        simp only [Bool.and_eq_true] at hc
        simp only [Option.bind_eq_some_iff] at hr
        obtain ⟨q, hq', hr⟩ := hr
        cases hr
        obtain ⟨hso, hd, hg⟩ := slimSt_spec hst
        rw [vcPlan_take] at h
        have near : ∀ v a', Near (wrP p) (a.put o.dst v) a' → Near (wrP (.take i s p)) a a' := fun v a' hn =>
          (Near.put a o.dst v (fun j hj => by simp [wrP, hd, hj])).trans (hn.mono fun j hj => by simp only [wrP, List.mem_append]; exact .inr hj)
        have hready : i ∈ Region.ready .any ops listed := by simpa using hc.2
        have hun := (mem_ready.1 hready).1
        have hC' : (∃ q ∈ rs, (listed.setIfInBounds i true).getD q true = false) → C w := fun hp => by
          obtain ⟨q, hq, _, hp⟩ := pend i listed hp
          exact hC ⟨q, hq, hp⟩
        have cont : ∀ (sv : Sv) (L' : Env) (K : Env → Prop), putD n s.d sv L' K → Agr a.tmps n L' → ∃ L'', K L'' ∧ Agr (a.put o.dst sv.val).tmps n L'' := fun sv L' K hk ha' => by
          obtain ⟨L'', h1, h2⟩ := putD_sound (a := a) hk ha'
          rw [hd] at h2
          exact ⟨L'', h1, h2⟩
        rcases guard_sound hg h ha with ⟨hw, L', hy, ha'⟩ | ⟨hw, L', hy, ha'⟩
        · by_cases hreads : s.o.reads = true
          · have hmem : i ∈ rs := by
              rw [hrs]
              unfold readers
              rw [List.mem_filter]
              refine ⟨List.mem_range.2 (Array.getElem?_eq_some_iff.1 ho).1, ?_⟩
              simp only [ho, Option.bind_some, hst, hc.1.1, hreads, Bool.and_self]
            obtain ⟨sv, hk, hrun⟩ := yd_sound hso hc.1.1 hy ha'
            obtain ⟨L'', hk', ha''⟩ := cont sv L' _ hk ha'
            exact wpAnyW_first (D := C) ho (Region.noSelect_spec hns) (fun c a w => hQ c a _ _ w)
              (fun j oj w w' hoj hji hno hcw hdw => hcw (waits_spec hoj hmem hji hno) hdw) fuel listed a w (Region.free_spec ho hc.1.2) hready (.inl ⟨hw, hrun⟩) (hC ⟨i, hmem, hun⟩)
              ((ih fuel _).1 hq' hwell L'' _ w N hk' hC' ha'' fun L3 a3 w3 h3 ha3 hn3 => hq L3 a3 w3 h3 ha3 (near _ _ hn3))
          · have hreads : s.o.reads = false := by simpa using hreads
            obtain ⟨sv, hk, hrun⟩ := yd_sound hso hc.1.1 (yd_blind (D := fun _ => True) hreads hy) ha'
            obtain ⟨L'', hk', ha''⟩ := cont sv L' _ hk ha'
            exact wpAnyW_first (D := fun _ => True) ho (Region.noSelect_spec hns) (fun c a w => hQ c a _ _ w)
              (fun _ _ _ _ _ _ _ _ _ => trivial) fuel listed a w (Region.free_spec ho hc.1.2) hready (.inl ⟨hw, hrun⟩) trivial
              ((ih fuel _).1 hq' hwell L'' _ w N hk' hC' ha'' fun L3 a3 w3 h3 ha3 hn3 => hq L3 a3 w3 h3 ha3 (near _ _ hn3))
        · obtain ⟨L'', hk', ha''⟩ := cont (.v undef) L' _ hy ha'
          exact wpAnyW_first (D := fun _ => True) ho (Region.noSelect_spec hns) (fun c a w => hQ c a _ _ w)
            (fun _ _ _ _ _ _ _ _ _ => trivial) fuel listed a w (Region.free_spec ho hc.1.2) hready (.inr ⟨hw, rfl⟩) trivial
            ((ih fuel _).1 hq' hwell L'' _ w N hk' hC' ha'' fun L3 a3 w3 h3 ha3 hn3 => hq L3 a3 w3 h3 ha3 (near _ _ hn3))
      · cases hr
  | step i hh s p ih =>
    intro fuel listed
    have fork : ∀ forked, redoPlan P ops rs (.step i hh s p) forked fuel listed = some (.step i hh s p) → wellP (.step i hh s p) = true → ∃ fuel', fuel = fuel' + 1 ∧ ∀ (L : Env) (a : Act) (w : World) (N : Env → World → Prop), vcPlan P n C (.step i hh s p) L w N → ((∃ q ∈ rs, listed.getD q true = false) → C w) → Agr a.tmps n L →
        (∀ L' a' w', N L' w' → Agr a'.tmps n L' → Near (wrP (.step i hh s p)) a a' → Q .normal a' w') → i ∈ Region.ready .any ops listed →
          wpOp P ops Q i (fun a' w' => (waits ops rs i = false → C w → C w') ∧ wpAnyW P ops Q C (waits ops rs) fuel' (listed.setIfInBounds i true) a' w') a w := by
      intro forked hr hwell
      simp only [redoPlan] at hr
      split at hr
      · cases hr
      · rename_i fuel
        refine ⟨fuel, rfl, fun L a w N h hC ha hq hready => ?_⟩
        simp only [Option.bind_eq_bind, Option.bind_eq_some_iff] at hr
        obtain ⟨o, ho, st, hst, hr⟩ := hr
        split at hr
        · simp only [Option.bind_eq_some_iff] at hr
          obtain ⟨q, hq', hr⟩ := hr
          cases hr
          obtain ⟨hso, hd, hg⟩ := slimSt_spec hst
          rw [vcPlan_step] at h
          have near : ∀ v a', Near (wrP p) (a.put o.dst v) a' → Near (wrP (.step i (!waits ops rs i) s p)) a a' := fun v a' hn =>
            (Near.put a o.dst v (fun j hj => by simp [wrP, hd, hj])).trans (hn.mono fun j hj => by simp only [wrP, List.mem_append]; exact .inr hj)
          unfold wpOp
          simp only [ho]
          rcases guard_sound hg h ha with ⟨hw, L', hy, ha'⟩ | ⟨hw, L', hy, ha'⟩
          · rw [if_pos hw]
            refine .inl (vcO_sound hso hy ha' _ _ fun sv w' hk => ?_)
            cases hwt : waits ops rs i with
            | false =>
              rw [hwt] at hk
              simp only [Bool.not_false, cond_true, Held_eq] at hk
              obtain ⟨hC', hk⟩ := hk
              obtain ⟨L'', hk', ha''⟩ := putD_sound (a := a) hk ha'
              rw [hd] at ha''
              exact ⟨fun _ _ => hC', (ih fuel _).1 hq' hwell L'' _ w' N hk' (fun _ => hC') ha'' fun L3 a3 w3 h3 ha3 hn3 => hq L3 a3 w3 h3 ha3 (near _ _ hn3)⟩
            | true =>
              rw [hwt] at hk
              simp only [Bool.not_true, cond_false] at hk
              obtain ⟨L'', hk', ha''⟩ := putD_sound (a := a) hk ha'
              rw [hd] at ha''
              refine ⟨fun hx => (by cases hx), (ih fuel _).1 hq' hwell L'' _ w' N hk' (fun hp => ?_) ha'' fun L3 a3 w3 h3 ha3 hn3 => hq L3 a3 w3 h3 ha3 (near _ _ hn3)⟩
              exfalso
              obtain ⟨q, hqm, hqi, hp⟩ := pend i listed hp
              obtain ⟨_, oj, hoj, hall⟩ := mem_ready.1 hready
              have hfalse : waits ops rs i = false := waits_spec hoj hqm (Ne.symm hqi) fun e he hb heq => by
                have h1 := hall e he hb
                rw [heq] at h1
                rcases Nat.lt_or_ge q listed.size with h' | h'
                · simp [h'] at hp h1; rw [hp] at h1; cases h1
                · simp [Array.getElem?_eq_none h'] at h1
              rw [hwt] at hfalse
              cases hfalse
          · rw [if_neg (by rw [hw]; simp)]
            obtain ⟨L'', hk', ha''⟩ := putD_sound (a := a) hy ha'
            rw [hd] at ha''
            refine ⟨fun _ h => h, (ih fuel _).1 hq' hwell L'' _ w N hk' (fun hp => ?_) ha'' fun L3 a3 w3 h3 ha3 hn3 => hq L3 a3 w3 h3 ha3 (near _ _ hn3)⟩
            obtain ⟨q, hqm, _, hp⟩ := pend i listed hp
            exact hC ⟨q, hqm, hp⟩
        · cases hr
    refine ⟨fun hr hwell L a w N h hC ha hq => ?_, fun hr hwell _ => ?_⟩
    · obtain ⟨fuel', rfl, hf⟩ := fork false hr hwell
      have hready : Region.ready .any ops listed = [i] := by
        simp only [redoPlan, Option.bind_eq_bind, Option.bind_eq_some_iff] at hr
        obtain ⟨o, ho, st, hst, hr⟩ := hr
        split at hr
        · rename_i hc
          simp only [Bool.or_eq_true, beq_iff_eq] at hc
          simpa [rsP] using hc
        · cases hr
      refine ⟨fun h0 => (by rw [hready] at h0; cases h0), fun j hj => ?_⟩
      have hj' := hj
      rw [hready, List.mem_singleton] at hj
      subst hj
      exact hf L a w N h hC ha hq hj'
    · obtain ⟨fuel', rfl, hf⟩ := fork true hr hwell
      refine ⟨fuel', rfl, fun L a w N h hC ha hq j hj hjr => ?_⟩
      simp only [rsP, List.mem_singleton] at hj
      subst hj
      exact hf L a w N h hC ha hq hjr
  | alt p q ihp ihq =>
    intro fuel listed
    have fork : ∀ forked, redoPlan P ops rs (.alt p q) forked fuel listed = some (.alt p q) → wellP (.alt p q) = true → ∃ fuel', fuel = fuel' + 1 ∧ ∀ (L : Env) (a : Act) (w : World) (N : Env → World → Prop), vcPlan P n C (.alt p q) L w N → ((∃ q ∈ rs, listed.getD q true = false) → C w) → Agr a.tmps n L →
        (∀ L' a' w', N L' w' → Agr a'.tmps n L' → Near (wrP (.alt p q)) a a' → Q .normal a' w') → ∀ i ∈ rsP (.alt p q), i ∈ Region.ready .any ops listed →
          wpOp P ops Q i (fun a' w' => (waits ops rs i = false → C w → C w') ∧ wpAnyW P ops Q C (waits ops rs) fuel' (listed.setIfInBounds i true) a' w') a w := by
      intro forked hr hwell
      simp only [redoPlan] at hr
      split at hr
      · simp only [Option.bind_eq_bind, Option.bind_eq_some_iff] at hr
        obtain ⟨p1, hp1, q1, hq1, hr⟩ := hr
        cases hr
        simp only [wellP, Bool.and_eq_true] at hwell
        obtain ⟨⟨⟨h1, h2⟩, h3⟩, h4⟩ := hwell
        obtain ⟨f1, e1, k1⟩ := (ihp fuel listed).2 hp1 h3 h1
        obtain ⟨f2, e2, k2⟩ := (ihq fuel listed).2 hq1 h4 h2
        subst e1
        have e3 : f2 = f1 := by omega
        subst e3
        refine ⟨f2, rfl, fun L a w N h hC ha hq i hi hir => ?_⟩
        rw [vcPlan_alt] at h
        simp only [Both_eq] at h
        simp only [rsP, List.mem_append] at hi
        rcases hi with hi | hi
        · exact k1 L a w N h.1 hC ha (fun L' a' w' hn hag hnear => hq L' a' w' hn hag (hnear.mono fun j hj => by simp [wrP, hj])) i hi hir
        · exact k2 L a w N h.2 hC ha (fun L' a' w' hn hag hnear => hq L' a' w' hn hag (hnear.mono fun j hj => by simp [wrP, hj])) i hi hir
      · cases hr
    refine ⟨fun hr hwell L a w N h hC ha hq => ?_, fun hr hwell _ => ?_⟩
    · obtain ⟨fuel', rfl, hf⟩ := fork false hr hwell
      have hready : Region.ready .any ops listed = rsP (.alt p q) := by
        simp only [redoPlan] at hr
        split at hr
        · rename_i hc
          simpa using hc
        · cases hr
      have hne : rsP (.alt p q) ≠ [] := rsP_ne _ (by simp only [wellP, Bool.and_eq_true] at hwell; simp [forkOnly, hwell.1.1.1, hwell.1.1.2])
      refine ⟨fun h0 => absurd (hready ▸ h0) hne, fun j hj => ?_⟩
      have hj' := hj
      rw [hready] at hj
      exact hf L a w N h hC ha hq j hj hj'
    · obtain ⟨fuel', rfl, hf⟩ := fork true hr hwell
      exact ⟨fuel', rfl, fun L a w N h hC ha hq => hf L a w N h hC ha hq⟩

/-! ### Code -/
theorem mem_false {j : Nat} {l : List Nat} (h : j ∉ l) : mem j l = false := by
  cases hm : mem j l with
  | true => exact absurd ((mem_iff j l).1 hm) h
  | false => rfl

theorem rdN_sound : ∀ {names : List Nat} {L : Env} {a : Act} {K : List Value → Prop}, rdN L names K → Agr a.tmps n L → ∃ vs, K vs ∧ vs.length = names.length ∧ ∀ (i j : Nat) (v : Value), names[i]? = some j → vs[i]? = some v → a.tmps[j]? = some v
  | [], _, _, K, h, _ => ⟨[], h, rfl, by simp⟩
  | j :: names, L, a, K, h, ha => by
    simp only [rdN, rd] at h
    have key : ∀ (s : Sv), Env.find L j = some s → rdN L names (fun vs => K (s.val :: vs)) → ∃ vs, K vs ∧ vs.length = (j :: names).length ∧ ∀ (i k : Nat) (v : Value), (j :: names)[i]? = some k → vs[i]? = some v → a.tmps[k]? = some v := by
      intro s hs h
      obtain ⟨vs, hk, hl, hv⟩ := rdN_sound h ha
      refine ⟨s.val :: vs, hk, by simp [hl], fun i k v hi hvi => ?_⟩
      cases i with
      | zero =>
        simp only [List.getElem?_cons_zero, Option.some.injEq] at hi hvi
        subst hi hvi
        exact ha.has _ _ hs
      | succ i => exact hv i k v (by simpa using hi) (by simpa using hvi)
    split at h
    · rename_i u hs; exact key _ hs h
    · rename_i hs; exact key _ hs h
    · rename_i hs; exact key _ hs h
    · exact h.elim

theorem zipE_agr {tmps : Array Value} {L : Env} (ha : Agr tmps n L) : ∀ (names : List Nat) (vs : List Value), (∀ (i j : Nat) (v : Value), names[i]? = some j → vs[i]? = some v → tmps[j]? = some v) → Agr tmps n (zipE names vs L)
  | [], vs, _ => by simpa [zipE] using ha
  | _ :: _, [], _ => by simpa [zipE] using ha
  | j :: names, v :: vs, h => by
    simp only [zipE]
    refine (zipE_agr ha names vs fun i k u hi hu => h (i + 1) k u (by simpa using hi) (by simpa using hu)).cons_of ?_
    exact h 0 j v (by simp) (by simp)

/-- What a region's Q becomes: nothing is asked at a panic. -/
def NoPan (Q : Exit → Act → World → Prop) : Exit → Act → World → Prop
  | .panic _, _, _ => False
  | e, a, w => Q e a w
theorem NoPan.imp {Q : Exit → Act → World → Prop} : ∀ (e : Exit) (a : Act) (w : World), NoPan Q e a w → Q e a w := fun e a w h => by
  cases e <;> first | exact h | exact (h : False).elim

theorem wp_noGoto {c : Code} {Q : Exit → Act → World → Prop} (h : c.wp P (fun e a w => match e with | .goto _ => False | e => Q e a w) a w) : c.wp P (Exit.noGoto Q) a w :=
  wp_mono h fun e a w hq => by cases e <;> first | exact hq | exact hq.elim

theorem code_sound (hm : P.follows .mixedOrders = true) : ∀ (s : S) (c : Code), redo P s c = some s → ∀ (L : Env) (a : Act) (w : World) (N : Env → World → Prop) (X : Nat → Env → World → Prop) (R : Env → World → Prop), vc P n s L w N X R → Agr a.tmps n L →
    ∀ (Q : Exit → Act → World → Prop), (∀ L' a' w', N L' w' → Agr a'.tmps n L' → Near (wrS s) a a' → Q .normal a' w') → (∀ i L' a' w', X i L' w' → Agr a'.tmps n L' → Near (wrS s) a a' → Q (.exit i) a' w') →
      (∀ L' a' w', R L' w' → Agr a'.tmps n L' → Near (wrS s) a a' → Q .ret a' w') → c.wp P Q a w := by
  intro s
  induction s with
  | skip =>
    intro c hr L a w N X R h ha Q hN hX hR
    cases c <;> simp only [redo] at hr <;> first | (cases hr; done) | skip
    exact wp_skip (hN L a w h ha (Near.refl _ _))
  | row l =>
    intro c hr L a w N X R h ha Q hN hX hR
    cases c
    all_goals first | (simp only [redo] at hr; cases hr; done) | skip
    rename_i id ops draw
    cases draw <;> simp only [redo] at hr <;> first | (cases hr; done) | skip
    obtain ⟨l', hl, he⟩ := Option.map_eq_some_iff.1 hr
    cases he
    exact wp_region_list (row_sound _ _ hl L a w N h ha hN)
  | draw p =>
    intro c hr L a w N X R h ha Q hN hX hR
    cases c
    all_goals first | (simp only [redo] at hr; cases hr; done) | skip
    rename_i id ops draw
    cases draw <;> simp only [redo] at hr <;> first | (cases hr; done) | skip
    split at hr
    · rename_i hc
      simp only [Bool.and_eq_true] at hc
      obtain ⟨p', hp, he⟩ := Option.map_eq_some_iff.1 hr
      cases he
      have h : Draw w fun C w => vcPlan P n C p L w N := h
      simp only [Draw_eq] at h
      obtain ⟨C, hC, h⟩ := h
      refine wp_mono ?_ (NoPan.imp (Q := Q))
      refine wp_region_any hm (wpAny_of_W (C := C) (wv := waits ops (readers P ops)) _ _ _ _ ?_)
      exact (plan_sound (Q := NoPan Q) rfl hc.1 (fun c a d v w h => h) p ops.size _).1 hp hc.2 L a w.drew N h (fun _ => hC) ha fun L' a' w' hn hag hnear => hN L' a' w' hn hag hnear
    · cases hr
  | seq x y ihx ihy =>
    intro c hr L a w N X R h ha Q hN hX hR
    cases c <;> simp only [redo] at hr <;> first | (cases hr; done) | skip
    rename_i cx cy
    simp only [Option.bind_eq_bind, Option.bind_eq_some_iff] at hr
    obtain ⟨x', hx, y', hy, he⟩ := hr
    cases he
    refine wp_seq (ihx cx hx L a w _ X R h ha _ (fun L1 a1 w1 h1 ha1 hn1 => ?_) (fun i L1 a1 w1 h1 ha1 hn1 => ?_) (fun L1 a1 w1 h1 ha1 hn1 => ?_))
    · refine ihy cy hy L1 a1 w1 N X R h1 ha1 Q (fun L2 a2 w2 h2 ha2 hn2 => ?_) (fun i L2 a2 w2 h2 ha2 hn2 => ?_) (fun L2 a2 w2 h2 ha2 hn2 => ?_)
      · exact hN L2 a2 w2 h2 ha2 ((hn1.mono fun j hj => by simp [wrS, hj]).trans (hn2.mono fun j hj => by simp [wrS, hj]))
      · exact hX i L2 a2 w2 h2 ha2 ((hn1.mono fun j hj => by simp [wrS, hj]).trans (hn2.mono fun j hj => by simp [wrS, hj]))
      · exact hR L2 a2 w2 h2 ha2 ((hn1.mono fun j hj => by simp [wrS, hj]).trans (hn2.mono fun j hj => by simp [wrS, hj]))
    · exact hX i L1 a1 w1 h1 ha1 (hn1.mono fun j hj => by simp [wrS, hj])
    · exact hR L1 a1 w1 h1 ha1 (hn1.mono fun j hj => by simp [wrS, hj])
  | cond c0 x y ihx ihy =>
    intro c hr L a w N X R h ha Q hN hX hR
    cases c <;> simp only [redo] at hr <;> first | (cases hr; done) | skip
    rename_i co cx cy
    simp only [Option.bind_eq_bind, Option.bind_eq_some_iff] at hr
    obtain ⟨x', hx, y', hy, he⟩ := hr
    cases he
    have h : condStep c0 (vc P n x) (vc P n y) L w N X R := h
    unfold condStep at h
    obtain ⟨sv, hs, hv⟩ := rdS_sound h ha
    have kx : vc P n x L w N X R → cx.wp P Q a w := fun hh => ihx cx hx L a w N X R hh ha Q (fun L' a' w' h1 h2 h3 => hN L' a' w' h1 h2 (h3.mono fun j hj => by simp [wrS, hj]))
      (fun i L' a' w' h1 h2 h3 => hX i L' a' w' h1 h2 (h3.mono fun j hj => by simp [wrS, hj])) (fun L' a' w' h1 h2 h3 => hR L' a' w' h1 h2 (h3.mono fun j hj => by simp [wrS, hj]))
    have ky : vc P n y L w N X R → cy.wp P Q a w := fun hh => ihy cy hy L a w N X R hh ha Q (fun L' a' w' h1 h2 h3 => hN L' a' w' h1 h2 (h3.mono fun j hj => by simp [wrS, hj]))
      (fun i L' a' w' h1 h2 h3 => hX i L' a' w' h1 h2 (h3.mono fun j hj => by simp [wrS, hj])) (fun L' a' w' h1 h2 h3 => hR L' a' w' h1 h2 (h3.mono fun j hj => by simp [wrS, hj]))
    cases sv with
    | t => exact wp_cond_true hv (kx hs)
    | f => exact wp_cond_false hv (ky hs)
    | v u =>
      cases u with
      | bool b =>
        simp only [Cond_eq] at hs
        exact wp_cond_split hv (fun hb => kx (hs.1 hb)) (fun hb => ky (hs.2 hb))
      | _ => exact hs.elim
  | block id0 b ih =>
    intro c hr L a w N X R h ha Q hN hX hR
    cases c <;> simp only [redo] at hr <;> first | (cases hr; done) | skip
    rename_i id cb
    simp only [Option.bind_eq_bind, Option.bind_eq_some_iff] at hr
    obtain ⟨b', hb, he⟩ := hr
    cases he
    have h : vc P n b L w N (fun i L w => bif Nat.beq i id0 then N L w else X i L w) R := h
    refine wp_block (ih cb hb L a w N _ R h ha _ (fun L' a' w' h1 h2 h3 => hN L' a' w' h1 h2 h3) (fun i L' a' w' h1 h2 h3 => ?_) (fun L' a' w' h1 h2 h3 => hR L' a' w' h1 h2 h3))
    simp only [Exit.inBlock]
    by_cases e : i = id0
    · subst e
      simp only [Nat.beq_refl, cond_true] at h1
      rw [if_pos rfl]
      exact hN L' a' w' h1 h2 h3
    · have hbq : Nat.beq i id0 = false := by
        cases hbq : Nat.beq i id0 with
        | true => exact absurd (Nat.eq_of_beq_eq_true hbq) e
        | false => rfl
      rw [hbq, cond_false] at h1
      rw [if_neg e]
      exact hX i L' a' w' h1 h2 h3
  | loop names wr b ih =>
    intro c hr L a w N X R h ha Q hN hX hR
    cases c <;> simp only [redo] at hr <;> first | (cases hr; done) | skip
    rename_i cb
    split at hr
    · rename_i hsub
      simp only [Option.bind_eq_bind, Option.bind_eq_some_iff] at hr
      obtain ⟨b', hb, he⟩ := hr
      cases he
      have hsub' : ∀ j, j ∈ wrS b → j ∈ wr := fun j hj => (mem_iff j wr).1 (List.all_eq_true.1 hsub j hj)
      have h : loopStep names wr (vc P n b) L w N X R := h
      unfold loopStep at h
      obtain ⟨vs, h, hl, hvs⟩ := rdN_sound h ha
      obtain ⟨L0, h, hL0⟩ := Env.lose_spec L wr _ h
      simp only [LoopP_eq] at h
      obtain ⟨I, μ, hI, hround⟩ := h
      have ha0 : Agr a.tmps n L0 := ⟨ha.size, fun j s hj => by
        rw [hL0] at hj
        split at hj
        · cases hj
        · exact ha.has j s hj⟩
      -- the state at the loop's head
      refine wp_loop (fun a1 w1 => Near (wrS b) a a1 ∧ a1.tmps.size = n ∧ ∃ us : List Value, us.length = names.length ∧ (∀ (i j : Nat) (v : Value), names[i]? = some j → us[i]? = some v → a1.tmps[j]? = some v) ∧ I us w1)
        (fun a1 w1 => μ (names.map fun j => a1.tmps.getD j undef) w1) ⟨Near.refl _ _, ha.size, vs, hl, hvs, hI⟩ ?_
      rintro a1 w1 ⟨hn1, hsz, us, hul, hus, hI1⟩
      have hread : ∀ (us : List Value) (a1 : Act), us.length = names.length → (∀ (i j : Nat) (v : Value), names[i]? = some j → us[i]? = some v → a1.tmps[j]? = some v) → names.map (fun j => a1.tmps.getD j undef) = us := by
        intro us a1 hul hus
        apply List.ext_getElem?
        intro i
        rw [List.getElem?_map]
        rcases Nat.lt_or_ge i names.length with hi | hi
        · have h1 := hus i names[i] us[i] (by simp [hi]) (by simp [hi, hul])
          simp [hi, hul, Array.getD_eq_getD_getElem?, h1]
        · rw [List.getElem?_eq_none hi, List.getElem?_eq_none (by omega)]; rfl
      have hag : Agr a1.tmps n (zipE names us L0) := zipE_agr ⟨hsz, fun j s hj => by
        have hj' := hj
        rw [hL0] at hj
        split at hj
        · cases hj
        · rename_i hmem
          rw [hn1.slots j fun e => hmem ((mem_iff j wr).2 (hsub' j e))]
          exact ha.has j s hj⟩ names us hus
      refine ih cb hb (zipE names us L0) a1 w1 _ X R (hround us w1 hI1) hag _ (fun L2 a2 w2 h2 ha2 hn2 => ?_) (fun i L2 a2 w2 h2 ha2 hn2 => hX i L2 a2 w2 h2 ha2 (hn1.trans hn2)) (fun L2 a2 w2 h2 ha2 hn2 => hR L2 a2 w2 h2 ha2 (hn1.trans hn2))
      obtain ⟨us2, h2, hul2, hus2⟩ := rdN_sound h2 ha2
      refine ⟨⟨hn1.trans hn2, ha2.size, us2, hul2, hus2, h2.1⟩, ?_⟩
      rw [hread us2 a2 hul2 hus2, hread us a1 hul hus]
      exact h2.2
    · cases hr
  | exit i0 =>
    intro c hr L a w N X R h ha Q hN hX hR
    cases c <;> simp only [redo] at hr <;> first | (cases hr; done) | skip
    cases hr
    exact wp_exit (hX _ L a w h ha (Near.refl _ _))
  | scope b ih =>
    intro c hr L a w N X R h ha Q hN hX hR
    cases c <;> simp only [redo] at hr <;> first | (cases hr; done) | skip
    rename_i cb
    simp only [Option.bind_eq_bind, Option.bind_eq_some_iff] at hr
    obtain ⟨b', hb, he⟩ := hr
    cases he
    exact wp_scope_straight (ih cb hb L a w N X R h ha _ (fun L' a' w' h1 h2 h3 => hN L' a' w' h1 h2 h3) (fun i L' a' w' h1 h2 h3 => hX i L' a' w' h1 h2 h3) (fun L' a' w' h1 h2 h3 => hR L' a' w' h1 h2 h3))
  | ret =>
    intro c hr L a w N X R h ha Q hN hX hR
    cases c <;> simp only [redo] at hr <;> first | (cases hr; done) | skip
    exact wp_ret (hR L a w h ha (Near.refl _ _))
  | prune l b ih =>
    intro c hr L a w N X R h ha Q hN hX hR
    have hr' : redo P b c = some b := by
      cases c <;> simp only [redo, Option.bind_eq_bind, Option.bind_eq_some_iff] at hr <;> (obtain ⟨b', hb, he⟩ := hr; cases he; exact hb)
    have h : Env.keep L l fun L => vc P n b L w N X R := h
    obtain ⟨L', h, ha'⟩ := Env.keep_agr h ha
    exact ih c hr' L' a w N X R h ha' Q hN hX hR


/-! ### Functions -/
inductive RV where
  | tmp (t : Nat)
  | cell (t : Nat) (m : Option Nat)

def slimRes (P : Program) : List ResultVar → Option (List RV)
  | [] => some []
  | .tmp t :: r => (slimRes P r).map (.tmp t :: ·)
  | .cell t ty :: r => match agg? P ty, P.info? ty with
    | true, some i => (slimRes P r).map (.cell t (some i.size) :: ·)
    | false, some _ => if (P.underlying ty).isSome then (slimRes P r).map (.cell t none :: ·) else none
    | _, _ => none

def resL (L : Env) (w : World) : List RV → (List Value → Prop) → Prop
  | [], K => K []
  | .tmp t :: r, K => rd L (.tmp t) fun v => resL L w r fun vs => K (v :: vs)
  | .cell t none :: r, K => rd L (.tmp t) fun v => match v with
    | .pointer (some ad) => Load ad (fun w' => w' = w) fun v => resL L w r fun vs => K (v :: vs)
    | _ => False
  | .cell t (some m) :: r, K => rd L (.tmp t) fun v => match v with
    | .pointer (some ad) => LoadN ad m (fun w' => w' = w) fun v => resL L w r fun vs => K (v :: vs)
    | _ => False

def oneOr (vs : List Value) (K : Value → Prop) : Prop :=
  match vs with
  | [v] => K v
  | vs => K (.tuple ⟨vs⟩)

def argEnv : List Value → Nat → Env
  | [], _ => []
  | v :: vs, i => (i, .v v) :: argEnv vs (i + 1)

def resOne (tmps : Array Value) : ResultVar → Sem Value
  | .tmp t => pure (tmps.getD t undef)
  | .cell ad t => do loadVar t (← asAddr (tmps.getD ad undef))

theorem run_resOne_tmp (tmps : Array Value) (t : Tmp) (w : World) : (resOne tmps (.tmp t)).run P w = .ok (tmps.getD t undef) w := rfl
theorem run_resOne_cell {tmps : Array Value} {t : Tmp} {ty : TypeId} {ad : Addr} {v : Value} (h : tmps.getD t undef = .pointer (some ad)) (hl : (loadVar ty ad).run P w = .ok v w) : (resOne tmps (.cell t ty)).run P w = .ok v w := by
  simp only [resOne, h, asAddr, Sem.run_bind, Sem.run_pure, Result.andThen_ok, hl]

theorem resL_sound {a : Act} (ha : Agr a.tmps n L) : ∀ (rs : List ResultVar) (rv : List RV) (K : List Value → Prop), slimRes P rs = some rv → resL L w rv K → ∃ vs, K vs ∧
    (rs.mapM (resOne a.tmps)).run P w = .ok vs w
  | [], rv, K, hs, h => by
    simp [slimRes] at hs; subst hs
    exact ⟨[], h, by simp⟩
  | .tmp t :: rs, rv, K, hs, h => by
    obtain ⟨rv', hrv, he⟩ := Option.map_eq_some_iff.1 hs
    subst he
    simp only [resL] at h
    have h1 := rd_sound (x := .tmp t) h ha
    obtain ⟨vs, hk, hr⟩ := resL_sound ha rs rv' _ hrv h1
    refine ⟨_, hk, ?_⟩
    simp only [List.mapM_cons, Sem.run_bind, run_resOne_tmp, Sem.run_pure, Result.andThen_ok, hr]
    rfl
  | .cell t ty :: rs, rv, K, hs, h => by
    simp only [slimRes] at hs
    split at hs
    · rename_i inf h1 h2
      obtain ⟨rv', hrv, he⟩ := Option.map_eq_some_iff.1 hs
      subst he
      simp only [resL] at h
      have h3 := rd_sound (x := .tmp t) h ha
      split at h3
      · rename_i ad hv
        simp only [LoadN_eq] at h3
        obtain ⟨us, hl, hc, h4⟩ := h3
        obtain ⟨vs, hk, hr⟩ := resL_sound ha rs rv' _ hrv h4
        refine ⟨_, hk, ?_⟩
        have hv' : a.tmps.getD t undef = .pointer (some ad) := hv
        have hagg : (isAgg ty).run P w = .ok true w := by
          unfold agg? at h1
          split at h1
          · rename_i hd; simp [isAgg, run_underlying hd]
          · rename_i hd; simp [isAgg, run_underlying hd]
          · cases h1
        have hrun := run_loadCellsFrom (P := P) ad w us 0 #[] (fun j v hj => by rw [Nat.zero_add]; exact hc w rfl j v hj)
        rw [hl] at hrun
        have hload : (loadVar ty ad).run P w = .ok (.agg ⟨us⟩) w := by
          simp only [loadVar, hagg, if_true, Go.sizeOf, typeInfo, run_program, h2, loadCells, hrun, Sem.run_bind, Sem.run_pure, Result.andThen_ok]
          simp
        simp only [List.mapM_cons, Sem.run_bind, run_resOne_cell hv' hload, Sem.run_pure, Result.andThen_ok, hr]
      · exact h3.elim
    · rename_i inf h1 h2
      split at hs
      · rename_i hu
        obtain ⟨rv', hrv, he⟩ := Option.map_eq_some_iff.1 hs
        subst he
        simp only [resL] at h
        have h3 := rd_sound (x := .tmp t) h ha
        split at h3
        · rename_i ad hv
          simp only [Load_eq] at h3
          obtain ⟨u, hc, h4⟩ := h3
          obtain ⟨vs, hk, hr⟩ := resL_sound ha rs rv' _ hrv h4
          refine ⟨_, hk, ?_⟩
          have hv' : a.tmps.getD t undef = .pointer (some ad) := hv
          obtain ⟨d, hd⟩ := Option.isSome_iff_exists.1 hu
          have hagg : (isAgg ty).run P w = .ok false w := by
            unfold agg? at h1
            rw [hd] at h1
            cases d <;> first | (simp at h1; done) | simp [isAgg, run_underlying hd]
          have hcell := hc w rfl
          have hload : (loadVar ty ad).run P w = .ok u w := by
            simp only [loadVar, Sem.run_bind, hagg, Result.andThen_ok, Bool.false_eq_true, if_false, run_load, hcell]
          simp only [List.mapM_cons, Sem.run_bind, run_resOne_cell hv' hload, Sem.run_pure, Result.andThen_ok, hr]
        · exact h3.elim
      · cases hs
    · cases hs

theorem results_eq (fn : Func) (tmps : Array Value) : results fn tmps = (do
    let vs ← fn.results.mapM (resOne tmps)
    pure (if h : vs.size = 1 then vs[0] else .tuple vs)) := by
  unfold results
  have : (fun (r : ResultVar) => match r with
      | .tmp t => (pure (tmps.getD t undef) : Sem Value)
      | .cell a t => do loadVar t (← asAddr (tmps.getD a undef))) = resOne tmps := by
    funext r; cases r <;> rfl
  rw [← this]
  rfl

/-- A FUNCTION: what its slim code asks is enough for a call. -/
theorem fn_sound {f : FuncId} {fn : Func} {c : Code} {s : S} {rv : List RV} {m : Nat} {args : List Value} {R : Value → World → Prop} (hm : P.follows .mixedOrders = true) (hf : P.funcs[f]? = some fn) (hb : fn.body = some c) (hs : redo P s c = some s)
    (hn : fn.ntmps = m) (hr : slimRes P fn.results.toList = some rv) (hle : Nat.ble args.length m = true)
    (h : vc P m s (argEnv args 0) w (fun L w => resL L w rv fun vs => oneOr vs fun v => R v w) (fun _ _ _ => False) (fun L w => resL L w rv fun vs => oneOr vs fun v => R v w)) : Cal P f ⟨args⟩ w R := by
  subst hn
  have hle := Nat.le_of_ble_eq_true hle
  simp only [Cal_eq]
  refine calls_of_wp hf hb ?_
  have hfin : ∀ L' (a' : Act) w', (resL L' w' rv fun vs => oneOr vs fun v => R v w') → Agr a'.tmps fn.ntmps L' → ∃ v, (results fn a'.tmps).run P w' = .ok v w' ∧ R v w' := by
    intro L' a' w' hres hag
    obtain ⟨vs, hk, hrun⟩ := resL_sound (P := P) hag fn.results.toList rv _ hr hres
    have hrun' : (fn.results.mapM (resOne a'.tmps)).run P w' = .ok vs.toArray w' := by
      rw [Array.mapM_eq_mapM_toList]
      simp only [Sem.run_map, hrun, Result.andThen_ok]
    unfold oneOr at hk
    split at hk
    · rename_i v
      exact ⟨v, by rw [results_eq]; simp only [Sem.run_bind, hrun', Result.andThen_ok, Sem.run_pure]; simp, hk⟩
    · rename_i hne
      refine ⟨_, ?_, hk⟩
      rw [results_eq]
      simp only [Sem.run_bind, hrun', Result.andThen_ok, Sem.run_pure]
      rw [dif_neg]
      intro h1
      rw [List.size_toArray] at h1
      obtain ⟨v, hv⟩ := List.length_eq_one_iff.1 h1
      exact hne v hv
  have hag : Agr ((⟨args⟩ : Array Value) ++ Array.replicate (fn.ntmps - (⟨args⟩ : Array Value).size) undef) fn.ntmps (argEnv args 0) := by
    refine ⟨by simp; omega, ?_⟩
    have key : ∀ (vs : List Value) (i j : Nat) (s : Sv), Env.find (argEnv vs i) j = some s → i ≤ j ∧ vs[j - i]? = some s.val := by
      intro vs
      induction vs with
      | nil => intro i j s h; simp [argEnv, Env.find] at h
      | cons v vs ih =>
        intro i j s h
        simp only [argEnv] at h
        by_cases e : i = j
        · subst e
          rw [find_cons_eq] at h
          cases h
          exact ⟨Nat.le_refl _, by simp [Sv.val]⟩
        · rw [find_cons_ne e] at h
          obtain ⟨h1, h2⟩ := ih (i + 1) j s h
          refine ⟨by omega, ?_⟩
          rw [show j - i = (j - (i + 1)) + 1 by omega]
          simpa using h2
    intro j s hj
    obtain ⟨_, h2⟩ := key args 0 j s hj
    rw [Nat.sub_zero] at h2
    have hlt : j < args.length := by
      rcases Nat.lt_or_ge j args.length with h | h
      · exact h
      · rw [List.getElem?_eq_none h] at h2; cases h2
    rw [Array.getElem?_append_left (by simpa using hlt)]
    simpa using h2
  refine code_sound hm s c hs (argEnv args 0) _ w _ _ _ h hag _ (fun L' a' w' h1 h2 h3 => ?_) (fun i L' a' w' h1 h2 h3 => h1.elim) (fun L' a' w' h1 h2 h3 => ?_)
  · obtain ⟨v, hv, hR⟩ := hfin L' a' w' h1 h2
    exact ⟨h3.defers, v, hv, v, rfl, hR⟩
  · obtain ⟨v, hv, hR⟩ := hfin L' a' w' h1 h2
    exact ⟨h3.defers, v, hv, v, rfl, hR⟩


/-- A function's slim code, the size of its frame, where its results lie. -/
structure Slim where
  s : S
  m : Nat
  rv : List RV

def fits (P : Program) (f : FuncId) (x : Slim) : Option Slim :=
  match P.funcs[f]? with
  | some fn => match fn.body with
    | some c => match redo P x.s c, slimRes P fn.results.toList with
      | some s, some rv => some ⟨s, fn.ntmps, rv⟩
      | _, _ => none
    | none => none
  | none => none

/-- A FUNCTION, by one closed fact. -/
theorem cal_of {f : FuncId} {s : S} {m : Nat} {rv : List RV} {args : List Value} {R : Value → World → Prop} (hm : P.follows .mixedOrders = true) (hf : fits P f ⟨s, m, rv⟩ = some ⟨s, m, rv⟩) (hle : Nat.ble args.length m = true)
    (h : vc P m s (argEnv args 0) w (fun L w => resL L w rv fun vs => oneOr vs fun v => R v w) (fun _ _ _ => False) (fun L w => resL L w rv fun vs => oneOr vs fun v => R v w)) : Cal P f ⟨args⟩ w R := by
  unfold fits at hf
  split at hf
  · rename_i fn hfn
    split at hf
    · rename_i c hc
      split at hf
      · rename_i s' rv' hs hr
        cases hf
        exact fn_sound hm hfn hc hs rfl hr hle h
      · cases hf
    · cases hf
  · cases hf

end
end Fb
