/- A map literal's elements; an array literal of one-cell elements as a value, and an element of such a value. Conditions: those of each rule. -/
import Derived.Test.YtdcbiepoghdanaaGreatDoorOpsB
import Derived.Test.YtdcbiepoghdanaaGreatDoorMore
import Derived.Test.YtdcbiepoghdanaaGreatDoorEqS
namespace Go.Eng
open Go.RowKit
set_option linter.unusedSimpArgs false
set_option linter.unusedVariables false
section
variable {P : Program} {w0 : World} {F : FL} {L : HL} {o : Oper} {g gx gy : Bool} {t : TypeId} {x y z : Operand} {k : IntKind} {v : Value} {α : Type} [DecidableEq α] {n : Nat} {ops : Array Oper} {l : List Oper} {Q : Exit → Act → World → Prop}
theorem y_buildArr {ty e : TypeId} {N : Nat} {zv : Value} {parts : List (Nat × Operand)} {ps : List (Nat × Value)} {out : List Value} (ho : o.op = .build ty parts.toArray) (hp : F.evp parts = some ps)
    (ht : P.underlying ty = some (.array N e)) (hz : ∀ w, (zeroValue ty).run P w = .ok zv w) (hs : (P.info? e).map (·.size) = some 1) (hl : Instr.fill (fun i => some (i * 1, 1)) zv.cells ps = some out.toArray) : Y P w0 F L g o (.agg out.toArray) :=
  Y_of fun n a hF hg w _ => by
    have hp' := evp_map hF parts hp
    have hp2 : (parts.toArray.map fun (p : Nat × Operand) => (p.1, a.eval p.2)) = ps.toArray := by simp [hp']
    simp only [execOp, ho]
    rw [show (Array.map (fun x => match x with | (i, x) => (i, a.eval x)) parts.toArray) = ps.toArray from hp2]
    have hsz : (sizeOf e).run P w = .ok 1 w := by
      cases hq : P.info? e with
      | none => simp [hq] at hs
      | some j =>
        simp only [hq, Option.map_some, Option.some.injEq] at hs
        simp [sizeOf, typeInfo, hq, hs]
    have hb : (Instr.build ty ps.toArray).run P w = .ok (.agg out.toArray) w := by
      simp only [Instr.build, Sem.run_bind, hz, Result.andThen_ok, run_underlying ht, hsz]
      rw [hl]; rfl
    simp only [Sem.run_bind, hb]; rfl
theorem y_indexArrV {e : TypeId} {N : Nat} {kd : TypeDesc} {cs : List Value} {i : Int} (ho : o.op = .index t x y) (hx : F.ev x = some (gx, .agg cs.toArray)) (hy : F.ev y = some (gy, .int k i)) (ht : P.underlying t = some (.array N e)) (hs : (P.info? e).map (·.size) = some 1)
    (hu : P.underlying e = some kd) (hd : isAggB kd = false) (hj : g = true → 0 ≤ i ∧ i < N) (hv : g = true → cs[i.toNat]? = some v)
    (hi : g = true → gx = true := by first | exact (fun _ => rfl) | exact (fun h => h) | exact (fun h => (Bool.and_eq_true_iff.1 h).1) | simp_all) (hi' : g = true → gy = true := by first | exact (fun _ => rfl) | exact (fun h => h) | exact (fun h => (Bool.and_eq_true_iff.1 h).1) | simp_all) : Y P w0 F L g o v :=
  Y_of fun n a hF hg w _ => by
    have h1 := hj hg
    have h2 := hv hg
    cases hq : P.info? e with
    | none => simp [hq] at hs
    | some j =>
      simp only [hq, Option.map_some, Option.some.injEq] at hs
      have hsz : (sizeOf e).run P w = .ok 1 w := by simp [sizeOf, typeInfo, hq, hs]
      have hp : (part e cs.toArray i.toNat).run P w = .ok v w := run_part1 hu hd (by simpa using h2) w
      simp [execOp, ho, hF.eval_on hx hg hi, hF.eval_on hy hg hi', Instr.index, asIntOf, run_underlying ht, h1.1, h1.2, hsz, hp]
theorem S_insert (i : Nat) {enc : α → Value} {b : Nat} {k : α} {kv kv' : List (α × Value)} {kt et : TypeId} {kd : TypeDesc} (hg : o.guard = none) (hd : o.dst = none) (ho : o.op = .insert t x y z)
    (hx : F.ev x = some (true, .map (some b))) (hy : F.ev y = some (true, enc k)) (hz : F.ev z = some (true, v)) (hL : L.get i = some (.blk b (IsMap enc kv)))
    (ht : P.underlying t = some (.map kt et)) (hu : P.underlying kt = some kd) (hs : simpleB kd = true) (hk : ∀ a b, Instr.sameNow kd (enc a) (enc b) = some (decide (a = b))) (hfit : MapFits enc) (hkv : mput kv k v = kv')
    (hK : S P w0 n ops l F ((i, .blk b (IsMap enc kv')) :: L) Q) : S P w0 n ops (o :: l) F L Q :=
  S_mute hg hd fun a w hF hM => by
    subst hkv
    have hx' : a.eval x = .map (some b) := by have := hF.eval hx; simpa using this
    have hy' : a.eval y = enc k := by have := hF.eval hy; simpa using this
    have hz' : a.eval z = v := by have := hF.eval hz; simpa using this
    obtain ⟨hb, ob, h1, es, clock, rfl, h2, h3, h4⟩ := hM.sat i _ hL
    have hf := run_findKey (P := P) hu hk k h2 w
    have hlt := (Array.getElem?_eq_some_iff.1 h1).1
    have setO : ∀ o', (setObj b o').run P w = .ok () { w with heap := w.heap.setIfInBounds b o' } := fun o' => by simp [setObj, Sem.run, h1]
    have grow : ∀ o', w.grownBy { w with heap := w.heap.setIfInBounds b o' } (some b) := fun o' => ⟨rfl, rfl, rfl, by simp, fun k _ hne => by
      show (w.heap.setIfInBounds b o')[k]? = _
      rw [Array.getElem?_setIfInBounds_ne (fun e => hne (by rw [e]))]⟩
    have got : ∀ o', ({ w with heap := w.heap.setIfInBounds b o' } : World).heap[b]? = some o' := fun o' => by
      show (w.heap.setIfInBounds b o')[b]? = _
      rw [Array.getElem?_setIfInBounds_self]; simp [hlt]
    cases hq : mfind kv k 0 with
    | none =>
      refine ⟨_, _, ?_, hM.turn (p' := .blk b (IsMap enc (mput kv k v))) hL (grow (.map (es.push { key := enc k, val := v, born := clock }) (clock + 1))) ⟨hb, _, got _, _, _, rfl, ?_, ?_, ?_⟩ (.inl rfl), hK⟩
      · simp only [execOp, ho, hx', hy', hz', Instr.mapUpdate, Sem.run_bind, run_underlying ht, Result.andThen_ok, run_getObj_map h1, run_checkKey hu hs, hf, hq, setO]; rfl
      · rw [mput_none hq]; simp [h2]
      · intro e he
        simp only [Array.toList_push, List.mem_append, List.mem_singleton] at he
        rcases he with he | rfl
        · have := h3 e he; omega
        · simp
      · simp only [Array.toList_push, List.map_append, List.map_cons, List.map_nil]
        rw [List.nodup_append]
        refine ⟨h4, by simp, ?_⟩
        intro x hx y hy
        simp only [List.mem_map] at hx
        obtain ⟨e, he, rfl⟩ := hx
        simp only [List.mem_singleton] at hy
        subst hy
        have := h3 e he; omega
    | some p =>
      obtain ⟨j, u⟩ := p
      obtain ⟨_, hj, hp⟩ := mput_some hq v
      simp only [Nat.sub_zero] at hj hp
      have hlen : es.toList.length = kv.length := by have := congrArg List.length h2; simpa using this
      have hjs : j < es.size := by have : es.toList.length = es.size := by simp
                                   omega
      have hkey : ∃ e, es[j]? = some e ∧ e.key = enc k := by
        refine ⟨es[j], by simp [hjs], ?_⟩
        have h5 := congrArg (fun l => (l[j]?).map (·.1)) h2
        simp only [List.getElem?_map, Option.map_map, Array.getElem?_toList] at h5
        have h6 : kv[j]?.map (·.1) = some k := by
          clear h5 hp h2 hlen hf
          have : ∀ (kv : List (α × Value)) (i j : Nat) (u : Value), mfind kv k i = some (j, u) → (kv[j - i]?).map (·.1) = some k := by
            intro kv
            induction kv with
            | nil => intro i j u h; simp [mfind] at h
            | cons p r ih =>
              intro i j u h
              obtain ⟨a, u'⟩ := p
              have hm := mput_some h v
              simp only [mfind] at h
              split at h
              · rename_i he
                simp only [Option.some.injEq, Prod.mk.injEq] at h
                obtain ⟨rfl, _⟩ := h
                simp [he]
              · have h7 := ih (i + 1) j u h
                have h8 := (mput_some h v).1
                rw [show j - i = (j - (i + 1)) + 1 from by omega]
                simpa using h7
          simpa using this kv 0 j u hq
        have h7 : kv[j]? = some kv[j] := List.getElem?_eq_getElem hj
        rw [h7] at h6
        simp only [Option.map_some, Option.some.injEq] at h6
        rw [h7] at h5
        have h8 : es[j]? = some es[j] := by simp [hjs]
        rw [h8] at h5
        simp only [Option.map_some, Function.comp_apply, Option.some.injEq] at h5
        rw [h5, h6]
      obtain ⟨e0, he0, hek⟩ := hkey
      refine ⟨_, _, ?_, hM.turn (p' := .blk b (IsMap enc (mput kv k v))) hL (grow (.map (es.modify j fun e => { e with key := enc k, val := v }) clock)) ⟨hb, _, got _, _, _, rfl, ?_, ?_, ?_⟩ (.inl rfl), hK⟩
      · simp only [execOp, ho, hx', hy', hz', Instr.mapUpdate, Sem.run_bind, run_underlying ht, Result.andThen_ok, run_getObj_map h1, run_checkKey hu hs, hf, hq, he0, Option.map_some, Option.getD_some, hek, Instr.keyThatStays, hfit k, if_true, Sem.run_pure, setO]
      · rw [hp]
        apply List.ext_getElem?
        intro q
        have h5 := congrArg (fun l => l[q]?) h2
        simp only [List.getElem?_map, Array.getElem?_toList] at h5
        simp only [List.getElem?_map, Array.toList_modify, List.getElem?_modify, Array.getElem?_toList, Option.map_map]
        by_cases hqj : j = q
        · subst hqj
          rw [he0] at h5 ⊢
          have h7 : kv[j]? = some kv[j] := List.getElem?_eq_getElem hj
          rw [h7] at h5 ⊢
          simp only [Option.map_some, Option.some.injEq, Prod.mk.injEq] at h5
          simp [← h5.1, hek]
        · simp only [hqj, if_false]
          simpa [Option.map_map] using h5
      · intro e he
        obtain ⟨q, hq1, hq2⟩ := List.getElem_of_mem he
        simp only [Array.toList_modify] at hq2
        rw [List.getElem_modify] at hq2
        split at hq2
        · rw [← hq2]; show (es.toList[q]).born < clock; exact h3 _ (List.getElem_mem _)
        · rw [← hq2]; exact h3 _ (List.getElem_mem _)
      · have : (es.modify j fun e => { e with key := enc k, val := v }).toList.map (·.born) = es.toList.map (·.born) := by
          apply List.ext_getElem?
          intro q
          simp only [List.getElem?_map, Array.toList_modify, List.getElem?_modify, Option.map_map]
          by_cases hqj : j = q
          · subst hqj; rw [Array.getElem?_toList, he0]; simp
          · simp [hqj]
        rw [this]; exact h4
end
end Go.Eng
