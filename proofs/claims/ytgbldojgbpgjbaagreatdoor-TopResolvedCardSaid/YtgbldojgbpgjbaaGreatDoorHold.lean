/- From a contract 'it returns true and turns nothing that was there' to the form's own 'post'. No condition. -/
import Derived.Test.YtgbldojgbpgjbaaGreatDoorLoud
import Derived.ProofKit
import Derived.OpenShut
namespace Go.Eng
set_option linter.unusedSimpArgs false
set_option linter.unusedVariables false
open Go.RowKit Go.ChangeShapes Go.WideShapes Go.ChangeAt
section
variable {H : Type} {enc : TypeId × Value → H} {P : Program}
theorem trodAll_stays (hl : laidOutB P = true) {W W' : World} {sp : Nat → Bool} : ∀ (ts : List TypeId) (vs : List Value) (ds : List (DataW H)) (ps : List MemPlace), (ts.all fun t => P.readableRec t && decide (t < P.types.size)) = true →
    DataW.TrodAll enc P W 0 (fun _ => true) true ts vs ds ps → (∀ p ∈ ps, W.sameAt W' p) → (∀ p ∈ ps, sp p.block = true) → DataW.TrodAll enc P W' 0 sp true ts vs ds ps
  | [], [], [], ps, _, h, _, _ => h
  | t :: ts, v :: vs, d :: ds, ps, hr, h, hs, hp => by
    obtain ⟨p, q, h1, h2, rfl⟩ := h
    simp only [List.all_cons, Bool.and_eq_true, decide_eq_true_eq] at hr
    exact ⟨p, q, WideElems.Trod_stays hl hr.1.1 hr.1.2 h1 (fun x hx => hs x (List.mem_append.2 (.inl hx))) (fun x hx => hp x (List.mem_append.2 (.inl hx))),
      trodAll_stays hl ts vs ds q hr.2 h2 (fun x hx => hs x (List.mem_append.2 (.inr hx))) (fun x hx => hp x (List.mem_append.2 (.inr hx))), rfl⟩
  | [], [], _ :: _, _, _, h, _, _ => h.elim
  | [], _ :: _, _, _, _, h, _, _ => h.elim
  | _ :: _, [], _, _, _, h, _, _ => h.elim
  | _ :: _, _ :: _, [], _, _, h, _, _ => h.elim

/-- A law that returned true and left what was there alone meets 'post'. -/
theorem law_post (hl : laidOutB P = true) {f : Func} {s : ChangeSpec} {apart : Bool} {W W' : World} {args : Array Value} {ds gs : List (DataW H)} {before : List MemPlace} {tb : TypeId}
    (hr : (f.params.toList.all fun t => P.readableRec t && decide (t < P.types.size)) = true) (hv : s.vars = []) (hrt : f.resultTypes = #[tb]) (hb : P.underlying tb = some .bool)
    (hW : DataW.Whole enc P f.params.toList s.vars apart W args.toList ds gs before) (hs : s.fn H (ds ++ gs) = { results := [.lit (.bool true)], args := ds }) (hB : Below W.heap.size W W') :
    s.post enc P f apart true false false W args (.bool true) W' := by
  have hlt := hW.lt
  obtain ⟨p, q, hA, hV, hpq, hz, hn⟩ := hW
  have hW0 : DataW.Whole enc P f.params.toList s.vars apart W args.toList ds gs before := ⟨p, q, hA, hV, hpq, hz, hn⟩
  rw [hv] at hV
  have hgs : gs = [] ∧ q = [] := by cases gs with
    | nil => exact ⟨rfl, hV⟩
    | cons g r => exact hV.elim
  obtain ⟨rfl, rfl⟩ := hgs
  simp only [List.append_nil] at hpq
  subst hpq
  refine ⟨ds, [], before, [], before, [], hW0, ?_, ?_, ?_, hB.frame _, fun h => by cases h⟩
  · rw [hs, hrt]
    exact trodAll_mk1 (shut_bool hb _)
  · rw [hs]
    exact trodAll_stays hl _ _ _ _ hr hA (fun x hx => hB.same (hlt x hx)) (fun x hx => by simpa using hlt x hx)
  · rw [hs, hv]
    rfl
end
end Go.Eng
