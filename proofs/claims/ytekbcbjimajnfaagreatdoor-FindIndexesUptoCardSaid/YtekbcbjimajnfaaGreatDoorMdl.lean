/- An entry is deleted from a map. No condition. -/
import Derived.Test.YtekbcbjimajnfaaGreatDoorMapR
import Derived.Test.YtekbcbjimajnfaaGreatDoorClr
namespace Go.Eng
set_option linter.unusedSimpArgs false
set_option linter.unusedVariables false
set_option linter.unusedSectionVars false
open Go.RowKit
section
variable {P : Program} {w0 : World} {n : Nat} {ops : Array Oper} {l : List Oper} {F : FL} {L : HL} {Q : Exit → Act → World → Prop} {o : Oper} {g : Bool} {v : Value} {x y z : Operand} {t t' : TypeId} {gx gy : Bool}
variable {α : Type} [DecidableEq α]
def mdel : List (α × Value) → α → List (α × Value)
  | [], _ => []
  | (a, u) :: r, k => if k = a then r else (a, u) :: mdel r k
theorem mdel_none {kv : List (α × Value)} {k : α} {i : Nat} (h : mfind kv k i = none) : mdel kv k = kv := by
  induction kv generalizing i with
  | nil => rfl
  | cons p r ih =>
    obtain ⟨a, u⟩ := p
    simp only [mfind] at h
    split at h
    · cases h
    · rename_i hne
      rw [mdel, if_neg hne, ih h]
theorem mdel_some {kv : List (α × Value)} {k : α} {i j : Nat} {u : Value} (h : mfind kv k i = some (j, u)) : i ≤ j ∧ j - i < kv.length ∧ mdel kv k = kv.eraseIdx (j - i) := by
  induction kv generalizing i with
  | nil => simp [mfind] at h
  | cons p r ih =>
    obtain ⟨a, u'⟩ := p
    simp only [mfind] at h
    split at h
    · rename_i he
      simp only [Option.some.injEq, Prod.mk.injEq] at h
      obtain ⟨rfl, rfl⟩ := h
      simp [mdel, he]
    · rename_i hne
      obtain ⟨h1, h2, h3⟩ := ih h
      refine ⟨by omega, by simp; omega, ?_⟩
      obtain ⟨d, rfl⟩ : ∃ d, j = i + 1 + d := ⟨j - (i + 1), by omega⟩
      rw [mdel, if_neg hne, h3, show i + 1 + d - i = d + 1 by omega, List.eraseIdx_cons_succ, show i + 1 + d - (i + 1) = d by omega]
theorem map_eraseIdx' {β γ : Type} (f : β → γ) : ∀ (l : List β) (i : Nat), (l.eraseIdx i).map f = (l.map f).eraseIdx i
  | [], _ => by simp
  | a :: r, 0 => by simp
  | a :: r, i + 1 => by simp [map_eraseIdx' f r i]
theorem S_delete (i : Nat) {enc : α → Value} {b : Nat} {k : α} {kv kv' : List (α × Value)} {kt et : TypeId} {kd : TypeDesc} (hg : o.guard = none) (hd : o.dst = none) (ho : o.op = .call { callee := .builtin .delete, args := #[x, y], argTypes := #[t, t'] })
    (hx : F.ev x = some (true, .map (some b))) (hy : F.ev y = some (true, enc k)) (hL : L.get i = some (.blk b (IsMap enc kv)))
    (ht : P.underlying t = some (.map kt et)) (hu : P.underlying kt = some kd) (hs : simpleB kd = true) (hk : ∀ a b, Instr.sameNow kd (enc a) (enc b) = some (decide (a = b))) (hkv : mdel kv k = kv')
    (hK : S P w0 n ops l F ((i, .blk b (IsMap enc kv')) :: L) Q) : S P w0 n ops (o :: l) F L Q :=
  S_muteV hg hd fun a w hF hM => by
    subst hkv
    have hx' : a.eval x = .map (some b) := by have := hF.eval hx; simpa using this
    have hy' : a.eval y = enc k := by have := hF.eval hy; simpa using this
    obtain ⟨hb, ob, h1, es, clock, rfl, h2, h3, h4⟩ := hM.sat i _ hL
    have hf := run_findKey (P := P) hu hk k h2 w
    have hlt := (Array.getElem?_eq_some_iff.1 h1).1
    have setO : ∀ o', (setObj b o').run P w = .ok () { w with heap := w.heap.setIfInBounds b o' } := fun o' => by simp [setObj, Sem.run, h1]
    have grow : ∀ o', w.grownBy { w with heap := w.heap.setIfInBounds b o' } (some b) := fun o' => ⟨rfl, rfl, rfl, by simp, fun k _ hne => by
      show (w.heap.setIfInBounds b o')[k]? = _
      rw [Array.getElem?_setIfInBounds_ne (fun e => hne (by rw [e]))]⟩
    have got : ∀ o', ({ w with heap := w.heap.setIfInBounds b o' } : World).heap[b]? = some o' := fun o' => by
      show (w.heap.setIfInBounds b o')[b]? = _
      rw [Array.getElem?_setIfInBounds_self]; simp [hlt]
    cases hq : mfind kv k 0 with
    | none =>
      refine ⟨.tuple #[], _, _, ?_, hM.turn (p' := .blk b (IsMap enc (mdel kv k))) hL (grow (.map es clock)) ⟨hb, _, got _, _, _, rfl, ?_, h3, h4⟩ (.inl rfl), hK⟩
      · simp only [execOp, ho, resolve, invoke, builtin, List.map_toArray, List.map_cons, List.map_nil, hx', hy', Builtin.delete_, Sem.run_bind, run_underlying ht, Result.andThen_ok, run_getObj_map h1, Sem.run_pure, run_checkKey hu hs, hf, hq, setO]
        simp [Sem.run_bind, run_underlying ht, run_getObj_map h1, run_checkKey hu hs, hf, hq, setO]
      · rw [mdel_none hq]; exact h2
    | some p =>
      obtain ⟨j, u⟩ := p
      obtain ⟨_, hj, hp⟩ := mdel_some hq
      simp only [Nat.sub_zero] at hj hp
      have hes : (es.eraseIdxIfInBounds j).toList = es.toList.eraseIdx j := by simp
      refine ⟨.tuple #[], _, _, ?_, hM.turn (p' := .blk b (IsMap enc (mdel kv k))) hL (grow (.map (es.eraseIdxIfInBounds j) clock)) ⟨hb, _, got _, _, _, rfl, ?_, ?_, ?_⟩ (.inl rfl), hK⟩
      · simp only [execOp, ho, resolve, invoke, builtin, List.map_toArray, List.map_cons, List.map_nil, hx', hy', Builtin.delete_, Sem.run_bind, run_underlying ht, Result.andThen_ok, run_getObj_map h1, Sem.run_pure, run_checkKey hu hs, hf, hq, setO]
        simp [Sem.run_bind, run_underlying ht, run_getObj_map h1, run_checkKey hu hs, hf, hq, setO]
      · rw [hes, hp, map_eraseIdx', map_eraseIdx', h2]
      · intro e he
        rw [hes] at he
        exact h3 e ((List.eraseIdx_sublist es.toList j).subset he)
      · rw [hes]
        exact ((List.eraseIdx_sublist es.toList j).map _).nodup h4
end
end Go.Eng
