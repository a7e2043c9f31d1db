/-
  The calculus is sound, second part: slices, structs, every quiet operation.
-/
import Derived.Test.YtnofndhlhbbhdaaVs
namespace Fb
open Go

section
variable {P : Program} {C : World → Prop} {L : Env} {K : Sv → Prop} {a : Act} {n : Nat}

theorem run_bound {k : IntKind} {z : Int} {y : Nat} {code : BoundsCode} (h : 0 ≤ z ∧ z ≤ (y : Int)) (w : World) : (Instr.sliceBound (.int k z) y code).run P w = .ok z.toNat w := by
  simp [Instr.sliceBound, asIntOf, h]

theorem gives_slc {o : Oper} {t e : TypeId} {inf : TypeInfo} {x : Operand} {lo hi : Option Operand} (ho : o.op = .slice t x lo hi none) (ht : P.underlying t = some (.slice e)) (hi' : P.info? e = some inf)
    (h : yd P C L (.slc inf.size x lo hi) K) (ha : Agr a.tmps n L) : Gives P C a o K := by
  simp only [yd] at h
  have h1 := rd_sound h ha
  clear h
  generalize hx : a.eval x = v at h1
  unfold slcV at h1
  split at h1
  · rename_i ad len cap
    split at h1
    · refine gives_sv h1 fun w => ?_
      simp [execOp, ho, hx, Instr.sliceAt, Instr.slice, Instr.sliceBounds, run_underlying ht, Go.sizeOf, typeInfo, hi']
      exact fun _ => by cases ad <;> simp [Addr.add]
    · obtain ⟨j, z, hz, h2⟩ := rdZ_sound h1 ha
      simp only [Need_eq] at h2
      refine gives_sv h2.2 fun w => ?_
      simp [execOp, ho, hx, hz, Instr.sliceAt, Instr.slice, Instr.sliceBounds, run_underlying ht, Go.sizeOf, typeInfo, hi', run_bound h2.1]
      exact fun _ => by cases ad <;> simp [Addr.add]
    · obtain ⟨j, z, hz, h2⟩ := rdZ_sound h1 ha
      simp only [Need_eq] at h2
      refine gives_sv h2.2 fun w => ?_
      simp [execOp, ho, hx, hz, Instr.sliceAt, Instr.slice, Instr.sliceBounds, run_underlying ht, Go.sizeOf, typeInfo, hi', run_bound h2.1, slcA]
    · obtain ⟨j, z, hz, h2⟩ := rdZ_sound h1 ha
      obtain ⟨j', y, hy, h3⟩ := rdZ_sound h2 ha
      simp only [Need_eq] at h3
      refine gives_sv h3.2 fun w => ?_
      have hb1 : 0 ≤ y ∧ y ≤ (cap : Int) := ⟨by omega, h3.1.2.2⟩
      have hb2 : 0 ≤ z ∧ z ≤ (y.toNat : Int) := ⟨h3.1.1, by omega⟩
      simp [execOp, ho, hx, hz, hy, Instr.sliceAt, Instr.slice, Instr.sliceBounds, run_underlying ht, Go.sizeOf, typeInfo, hi', run_bound hb1, run_bound hb2, slcA]
  · exact h1.elim

theorem gives_sls {o : Oper} {t : TypeId} {x : Operand} {lo hi : Option Operand} (ho : o.op = .slice t x lo hi none) (ht : P.underlying t = some .string)
    (h : yd P C L (.sls x lo hi) K) (ha : Agr a.tmps n L) : Gives P C a o K := by
  simp only [yd] at h
  have h1 := rd_sound h ha
  clear h
  generalize hx : a.eval x = v at h1
  unfold slsV at h1
  split at h1
  · rename_i s
    split at h1
    · refine gives_sv h1 fun w => ?_
      simp [execOp, ho, hx, Instr.sliceAt, Instr.slice, Instr.sliceBounds, run_underlying ht]
    · obtain ⟨j, z, hz, h2⟩ := rdZ_sound h1 ha
      simp only [Need_eq] at h2
      refine gives_sv h2.2 fun w => ?_
      simp [execOp, ho, hx, hz, Instr.sliceAt, Instr.slice, Instr.sliceBounds, run_underlying ht, run_bound h2.1]
    · obtain ⟨j, z, hz, h2⟩ := rdZ_sound h1 ha
      simp only [Need_eq] at h2
      refine gives_sv h2.2 fun w => ?_
      simp [execOp, ho, hx, hz, Instr.sliceAt, Instr.slice, Instr.sliceBounds, run_underlying ht, run_bound h2.1]
    · obtain ⟨j, z, hz, h2⟩ := rdZ_sound h1 ha
      obtain ⟨j', y, hy, h3⟩ := rdZ_sound h2 ha
      simp only [Need_eq] at h3
      refine gives_sv h3.2 fun w => ?_
      have hb1 : 0 ≤ y ∧ y ≤ (s.size : Int) := ⟨by omega, h3.1.2.2⟩
      have hb2 : 0 ≤ z ∧ z ≤ (y.toNat : Int) := ⟨h3.1.1, by omega⟩
      simp [execOp, ho, hx, hz, hy, Instr.sliceAt, Instr.slice, Instr.sliceBounds, run_underlying ht, run_bound hb1, run_bound hb2]
  · exact h1.elim

theorem gives_asrt {o : Oper} {t asserted : TypeId} {d : TypeDesc} {z : Value} {x : Operand} (ho : o.op = .typeAssert x t asserted true) (hd : P.underlying asserted = some d) (hi : ∀ ms, d ≠ .interface ms)
    (hz : (P.info? asserted).bind (·.zero) = some z) (h : yd P C L (.asrt asserted z x) K) (ha : Agr a.tmps n L) : Gives P C a o K := by
  simp only [yd] at h
  have h1 := rd_sound h ha
  clear h
  generalize hx : a.eval x = v at h1
  obtain ⟨inf, hinf, hzz⟩ := Option.bind_eq_some_iff.1 hz
  have hfail : ∀ w, (zeroValue asserted).run P w = .ok z w := fun w => by simp [zeroValue, typeInfo, hinf, hzz]
  split at h1
  · rename_i u y
    by_cases e : u = asserted
    · subst e
      simp only [Nat.beq_refl, cond_true] at h1
      refine gives_sv h1 fun w => ?_
      cases d <;> first | exact absurd rfl (hi _) | simp [execOp, ho, hx, Instr.typeAssert, run_underlying hd]
    · have hb : Nat.beq u asserted = false := by
        cases hb : Nat.beq u asserted with
        | true => exact absurd (Nat.eq_of_beq_eq_true hb) e
        | false => rfl
      rw [hb, cond_false] at h1
      refine gives_sv h1 fun w => ?_
      cases d <;> first | exact absurd rfl (hi _) | simp [execOp, ho, hx, Instr.typeAssert, run_underlying hd, e, hfail]
  · refine gives_sv h1 fun w => ?_
    cases d <;> first | exact absurd rfl (hi _) | simp [execOp, ho, hx, Instr.typeAssert, run_underlying hd, hfail]
  · exact h1.elim

/-! ### Structs that are put together -/
theorem forceL_spec : ∀ (l : List Value) (K : List Value → Prop), forceL l K → K l
  | [], _, h => h
  | _ :: vs, _, h => forceL_spec vs _ h

theorem cellsL_toList (v : Value) : v.cells.toList = Value.cellsL v := by
  cases v <;> rfl

theorem setL_length : ∀ (cs : List Value) (i : Nat) (vs : List Value), (setL cs i vs).length = cs.length
  | [], _, [] => by simp [setL]
  | _ :: _, _, [] => by simp [setL]
  | [], _, _ :: _ => by simp [setL]
  | c :: cs, 0, v :: vs => by simp [setL, setL_length cs 0 vs]
  | c :: cs, i + 1, v :: vs => by simp [setL, setL_length cs i (v :: vs)]

theorem setL_snoc : ∀ (cs : List Value) (i : Nat) (vs : List Value) (v : Value), setL cs i (vs ++ [v]) = (setL cs i vs).set (i + vs.length) v
  | [], i, [], v => by simp [setL]
  | [], i, u :: vs, v => by simp [setL]
  | c :: cs, 0, [], v => by cases cs <;> simp [setL]
  | c :: cs, i + 1, [], v => by
    have := setL_snoc cs i [] v
    cases cs <;> simp_all [setL]
  | c :: cs, 0, u :: vs, v => by
    have := setL_snoc cs 0 vs v
    simp only [Nat.zero_add] at this
    simp [setL, this]
  | c :: cs, i + 1, u :: vs, v => by
    have := setL_snoc cs i (u :: vs) v
    have e : i + 1 + (u :: vs).length = (i + (u :: vs).length) + 1 := by omega
    have h1 : ∀ (x : Value) (l : List Value), setL (c :: cs) (i + 1) (x :: l) = c :: setL cs i (x :: l) := fun _ _ => by simp [setL]
    rw [List.cons_append, h1, ← List.cons_append, this, h1, e, List.set_cons_succ]

theorem foldl_setL (off : Nat) (cs : Array Value) (vs : List Value) :
    ((vs.zipIdx.foldl (fun (cs : Array Value) (p : Value × Nat) => cs.setIfInBounds (off + p.2) p.1) cs)).toList = setL cs.toList off vs := by
  suffices h : ∀ (r l : List Value) (cs : Array Value), ((r.zipIdx l.length).foldl (fun (cs : Array Value) (p : Value × Nat) => cs.setIfInBounds (off + p.2) p.1) cs).toList =
      (r.zipIdx l.length).foldl (fun (c : List Value) (p : Value × Nat) => c.set (off + p.2) p.1) cs.toList by
    rw [show vs.zipIdx = vs.zipIdx ([] : List Value).length from rfl, h vs [] cs]
    have key : ∀ (r l : List Value), (r.zipIdx l.length).foldl (fun (c : List Value) (p : Value × Nat) => c.set (off + p.2) p.1) (setL cs.toList off l) = setL cs.toList off (l ++ r) := by
      intro r
      induction r with
      | nil => intro l; simp
      | cons v r ih =>
        intro l
        simp only [List.zipIdx_cons, List.foldl_cons]
        rw [← setL_snoc]
        have := ih (l ++ [v])
        simp only [List.length_append, List.length_cons, List.length_nil, Nat.zero_add, List.append_assoc, List.cons_append, List.nil_append] at this
        exact this
    have := key vs []
    simpa [setL] using this
  intro r
  induction r with
  | nil => intro l cs; simp
  | cons v r ih =>
    intro l cs
    simp only [List.zipIdx_cons, List.foldl_cons]
    have := ih (l ++ [v]) (cs.setIfInBounds (off + l.length) v)
    simp only [List.length_append, List.length_cons, List.length_nil, Nat.zero_add] at this
    rw [this]
    simp

theorem fill_spec (place : Nat → Option (Nat × Nat)) : ∀ (parts : List (Nat × Value)) (places : List (Nat × Nat)) (cells : Array Value) (K : List Value → Prop),
    parts.map (fun p => place p.1) = places.map some → fillL cells.toList (places.zip (parts.map (·.2))) K → ∃ out, Instr.fill place cells parts = some out ∧ K out.toList
  | [], places, cells, K, hp, h => by
    have : places = [] := by simpa using hp.symm
    subst this
    exact ⟨cells, rfl, forceL_spec _ _ h⟩
  | (i, v) :: parts, places, cells, K, hp, h => by
    cases places with
    | nil => simp at hp
    | cons q places =>
      obtain ⟨off, size⟩ := q
      simp only [List.map_cons, List.cons.injEq] at hp
      simp only [List.map_cons, List.zip_cons_cons, fillL] at h
      cases hb : lenIs (Value.cellsL v) size with
      | false => rw [hb] at h; exact h.elim
      | true =>
        cases hle : hasL cells.toList off size with
        | false => rw [hb, hle] at h; exact h.elim
        | true =>
          rw [hb, hle] at h
          have e1 := lenIs_spec _ _ hb
          have e2 := hasL_spec _ _ _ hle
          have hsz : v.cells.size = size := by rw [← e1, ← cellsL_toList]; simp
          simp only [cond_true] at h
          have hset : setL cells.toList off (Value.cellsL v) = (v.cells.zipIdx.foldl (fun (cs : Array Value) (p : Value × Nat) => cs.setIfInBounds (off + p.2) p.1) cells).toList := by
            rw [← cellsL_toList, ← foldl_setL, ← Array.foldl_toList, Array.toList_zipIdx]
          rw [hset] at h
          obtain ⟨out, ho, hk⟩ := fill_spec place parts places _ K hp.2 h
          refine ⟨out, ?_, hk⟩
          unfold Instr.fill
          simp only [hp.1]
          rw [if_neg]
          · exact ho
          · simp only [hsz, ne_eq, not_true_eq_false, decide_false, Bool.false_or, decide_eq_true_eq]
            simp at e2
            simp; omega


theorem run_places (P : Program) (w : World) : ∀ (fields : List Field) (all : List (Nat × Nat)), (fields.mapM fun f => (P.info? f.type).map fun i => (f.offset, i.size)) = some all →
    (fields.mapM fun f => do pure (f.offset, ← Go.sizeOf f.type) : Sem (List (Nat × Nat))).run P w = .ok all w
  | [], all, h => by simp at h; subst h; simp
  | f :: fields, all, h => by
    simp only [List.mapM_cons, Option.pure_def, Option.bind_eq_bind, Option.bind_eq_some_iff, Option.map_eq_some_iff] at h
    obtain ⟨q, ⟨inf, hinf, rfl⟩, r, hr, he⟩ := h
    cases he
    have ih := run_places P w fields r hr
    simp only [List.mapM_cons, Sem.run_bind, Go.sizeOf, typeInfo, run_program, Result.andThen_ok, hinf, Sem.run_pure] at ih ⊢
    rw [ih]
    rfl

theorem mapM_some {α β : Type} (f : α → Option β) : ∀ (l : List α) (r : List β), l.mapM f = some r → l.map f = r.map some
  | [], r, h => by simp at h; subst h; rfl
  | x :: l, r, h => by
    simp only [List.mapM_cons, Option.pure_def, Option.bind_eq_bind, Option.bind_eq_some_iff] at h
    obtain ⟨y, hy, r', hr, he⟩ := h
    cases he
    simp [hy, mapM_some f l r' hr]

theorem run_build {t : TypeId} {z : Value} {ps : List (Nat × Nat)} (parts : List (Nat × Operand)) (vals : List Value) (hlen : vals.length = parts.length) (hz : (P.info? t).bind (·.zero) = some z) (hp : placesOf P t parts = some ps) {Q : List Value → Prop}
    (h : fillL (Value.cellsL z) (ps.zip vals) Q) : ∃ cs, Q cs ∧ ∀ w, (Instr.build t ((parts.map (·.1)).zip vals).toArray).run P w = .ok (.agg ⟨cs⟩) w := by
  obtain ⟨inf, hinf, hzz⟩ := Option.bind_eq_some_iff.1 hz
  have hzero : ∀ w, (zeroValue t).run P w = .ok z w := fun w => by simp [zeroValue, typeInfo, hinf, hzz]
  have hsnd : ((parts.map (·.1)).zip vals).map (·.2) = vals := by rw [List.map_snd_zip]; simp [hlen]
  have hfst : ((parts.map (·.1)).zip vals).map (·.1) = parts.map (·.1) := by rw [List.map_fst_zip]; simp [hlen]
  unfold placesOf at hp
  split at hp
  · rename_i fields hu
    obtain ⟨all, hall, hps⟩ := Option.bind_eq_some_iff.1 hp
    have hmap := mapM_some _ _ _ hps
    have hrun := fun w => run_places P w _ _ hall
    have hpl : ((parts.map (·.1)).zip vals).map (fun p => all[p.1]?) = ps.map some := by
      have : ((parts.map (·.1)).zip vals).map (fun p => all[p.1]?) = (((parts.map (·.1)).zip vals).map (·.1)).map (fun i => all[i]?) := by simp
      rw [this, hfst, ← hmap]; simp
    obtain ⟨out, hf, hq⟩ := fill_spec (fun i => all[i]?) _ ps z.cells Q hpl (by rw [cellsL_toList, hsnd]; exact h)
    refine ⟨out.toList, hq, fun w => ?_⟩
    have hm : (fields.mapM fun f => do pure (f.offset, ← Go.sizeOf f.type) : Sem (Array (Nat × Nat))).run P w = .ok all.toArray w := by
      rw [Array.mapM_eq_mapM_toList]
      simp only [Sem.run_map, hrun w, Result.andThen_ok]
    simp only [Instr.build, Sem.run_bind, hzero, Result.andThen_ok, run_underlying hu, hm]
    have hfun : (fun i : Nat => all.toArray[i]?) = fun i => all[i]? := by funext i; simp
    simp only [hfun, hf]
    simp
  · rename_i len elem hu
    obtain ⟨inf, hinf, rfl⟩ := Option.map_eq_some_iff.1 hp
    have hpl : ((parts.map (·.1)).zip vals).map (fun p => some (p.1 * inf.size, inf.size)) = (parts.map fun p => (p.1 * inf.size, inf.size)).map some := by
      have : ((parts.map (·.1)).zip vals).map (fun p => some (p.1 * inf.size, inf.size)) = (((parts.map (·.1)).zip vals).map (·.1)).map (fun i => some (i * inf.size, inf.size)) := by simp
      rw [this, hfst]; simp
    obtain ⟨out, hf, hq⟩ := fill_spec (fun i => some (i * inf.size, inf.size)) _ _ z.cells Q hpl (by rw [cellsL_toList, hsnd]; exact h)
    refine ⟨out.toList, hq, fun w => ?_⟩
    simp only [Instr.build, Sem.run_bind, hzero, Result.andThen_ok, run_underlying hu, Go.sizeOf, typeInfo, run_program, hinf, Sem.run_pure, hf]
  · cases hp

theorem gives_bld {o : Oper} {t : TypeId} {parts : Array (Nat × Operand)} {z : Value} {ps : List (Nat × Nat)} (ho : o.op = .build t parts) (hz : (P.info? t).bind (·.zero) = some z) (hp : placesOf P t parts.toList = some ps)
    (h : yd P C L (.bld (Value.cellsL z) ps (parts.toList.map (·.2))) K) (ha : Agr a.tmps n L) : Gives P C a o K := by
  simp only [yd] at h
  have h1 := rds_sound ha _ _ h
  obtain ⟨cs, hk, hr⟩ := run_build parts.toList _ (by simp) hz hp h1
  refine gives_sv hk fun w => ?_
  have e : (parts.map fun p => (p.1, a.eval p.2)) = ((parts.toList.map (·.1)).zip ((parts.toList.map (·.2)).map a.eval)).toArray := by
    apply Array.toList_inj.1
    rw [Array.toList_map]
    have : ∀ l : List (Nat × Operand), l.map (fun p => (p.1, a.eval p.2)) = (l.map (·.1)).zip ((l.map (·.2)).map a.eval) := by
      intro l; induction l with
      | nil => rfl
      | cons x l ih => simp [ih]
    rw [this]
  have := hr w
  rw [← e] at this
  simp only [execOp, ho, Sem.run_bind, Sem.run_pure]
  rw [this]
  rfl

end
end Fb
