/- The card ReleaseStatesUptoCardSaid is proved: for all states and texts of the bulk that the second form names the law answers true. Condition: none beyond the form's own. -/
import Derived.Test.YtkkngcdikbhkjaaDoorHold
import Derived.Test.YtkkngcdikbhkjaaDoorPk6
namespace Go.Proofs.YtkkngcdikbhkjaaDoor.releaseStates
set_option linter.unusedSimpArgs false
set_option linter.unusedVariables false
set_option maxRecDepth 20000
open Go.ChangeShapes Go.WideShapes Go.ChangeAt Go.RowKit Go.Eng
theorem op_state {H : Type} {enc : TypeId × Value → H} {w : World} : Opn enc Tryd.prog w 40 PSt.enc (fun _ => True) (fun _ _ => True) :=
  (opn_struct Tryd.underlying40 co40 (opf_cons op_i rfl co3 (opf_cons op_i rfl co3 (opf_cons op_s rfl co9 (opf_cons op_b rfl co4 (opf_cons op_i rfl co3 (opf_cons op_i rfl co3 (opf_cons op_i rfl co3 (opf_cons op_i rfl co3 opf_nil))))))))).map
    (fun p => (⟨p.1, p.2.1, p.2.2.1, p.2.2.2.1, p.2.2.2.2.1, p.2.2.2.2.2.1, p.2.2.2.2.2.2.1, p.2.2.2.2.2.2.2.1⟩ : PSt)) (fun _ => rfl) (fun _ _ => trivial) (fun _ _ _ => trivial)
theorem text_le {l : List UInt8} {d e : DataW Unit} {n : Nat} (h : e = .lit (.string l)) (hb : Rows.uptoBulk d + (Rows.uptoBulk e + 0) ≤ n) : l.length ≤ n := by
  rw [h] at hb; simp only [Rows.uptoBulk] at hb; omega
def arg0 : Array Value := #[.agg #[.int .i64 0, .int .i64 0, .string ⟨#[]⟩, .bool false, .int .i64 0, .int .i64 0, .int .i64 0, .int .i64 0], .string ⟨#[]⟩]
theorem laid_met (os : Os) : laidMet Tryd.prog Rows.releaseStatesUptoRow.laid ((laidWorld3 os arg0).forCall (fun _ _ => 0) ⟨#[], arg0, []⟩).memory :=
  laidMet_of_run' 8 (by kernel_rfl) (by kernel_rfl)
theorem reads (os : Os) {H : Type} (enc : TypeId × Value → H) : ∃ places, DataW.whole enc Tryd.prog ((laidWorld3 os arg0).forCall (fun _ _ => 0) ⟨#[], arg0, []⟩).memory Tryd.f4.params.toList Rows.releaseStatesSpec.vars false arg0.toList 8 = some ([.agg [.lit (.int .i64 0), .lit (.int .i64 0), .lit (.string []), .lit (.bool false), .lit (.int .i64 0), .lit (.int .i64 0), .lit (.int .i64 0), .lit (.int .i64 0)], .lit (.string [])], [], places) :=
  ⟨[], by kernel_rfl⟩

set_option maxRecDepth 100000 in
theorem lifted (os : Os) (started : os.Started) (H : Type) (enc : TypeId × Value → H) (F : Stop.Interp) :
    ReturnsInHanded {} Tryd.checked os 4 .any ((Rows.OpenSpec.upto Rows.releaseStatesSpec).preRow enc Tryd.prog Tryd.f4 Rows.releaseStatesUptoRow.domain false Rows.releaseStatesUptoRow.laid) (((Rows.OpenSpec.upto Rows.releaseStatesSpec).at F).post enc Tryd.prog Tryd.f4 false true false false) := by
  obtain ⟨places, hx⟩ := reads os enc
  refine returnsInHanded_of_row (C := Tryd.checked) (s := Rows.OpenSpec.upto Rows.releaseStatesSpec) ownNone started (by kernel_rfl) Tryd.func4
    (witness_row_at (enc := enc) (C := Tryd.checked) false (laidWorld3 os arg0) arg0 rfl (by kernel_rfl) (by kernel_rfl) (by kernel_rfl)
      (OpenSpec.preRow_of_cond 8 hx (by kernel_rfl) (fun k hk => by cases hk; kernel_rfl) (by kernel_rfl) (laid_met os))) ?_
  intro W base args ds gs before hval0 hW _ hcnd hsz hL hSh _
  have hval : ∀ (j : Nat) t v, Tryd.f4.params[j]? = some t → args[j]? = some v → Value.okWide Tryd.prog W .any base t v := hval0
  have hW' := hW
  obtain ⟨p, q, hA0, hV, rfl, hfz, hnd⟩ := hW
  have hA : DataW.TrodAll enc Tryd.prog W 0 (fun _ => true) true Tryd.f4.params.toList args.toList ds p := hA0
  rw [Tryd.params4] at hA hval
  obtain ⟨v0, vs0, d0, ds0, p0, q0, hargs, rfl, rfl, h0, r0⟩ := trodAll_cons hA
  obtain ⟨v1, vs1, d1, ds1, p1, q1, rfl, rfl, rfl, h1, r1⟩ := trodAll_cons r0
  obtain ⟨rfl, rfl, rfl⟩ := trodAll_nil r1
  obtain rfl : args = #[v0, v1] := by cases args; simp_all
  obtain ⟨rfl, rfl⟩ := trodVars_none hV
  obtain ⟨s, hv_s, h_s, hr_s⟩ := op_state.op _ _ (pr_of h0 hsz (j := 0) (t := 40) (by rw [Tryd.params4]; rfl) rfl)
  obtain ⟨t, hv_t, h_t, hr_t⟩ := op_s.op _ _ (pr_of h1 hsz (j := 1) (t := 9) (by rw [Tryd.params4]; rfl) rfl)
  obtain rfl := val_agg Tryd.underlying40 (hval 0 40 v0 rfl rfl) hv_s
  obtain rfl := val_one Tryd.underlying9 rfl (hval 1 9 v1 rfl rfl) hv_t
  clear hA0 hval0
  have hlen := reach_len
  have hb := of_decide_eq_true (hcnd _ rfl)
  simp only [List.append_nil, Rows.uptoBulkAll] at hb
  rw [hr_t] at hb
  simp only [Rows.uptoBulk] at hb
  have hc := ReleaseStates_any s t W (by omega) (p10_of hL) (kw_of hL.tail.tail.tail.tail.tail.tail)
  refine hc.mono fun e W' ⟨he, hg⟩ => ?_
  subst he
  exact ⟨_, rfl, law_post laidOut (by kernel_rfl) rfl rfl Tryd.underlying4 hW' rfl hg⟩

theorem and2 {a b : Bool} (h : a = true) (k : b = true) : (a && b) = true := by rw [h, k]; rfl
set_option maxHeartbeats 4000000 in
theorem closed : joinedFacts Tryd.pinned.checked.prog 4 Tryd.f4 (Rows.OpenSpec.upto Rows.releaseStatesSpec).bare Rows.releaseStatesUptoRow = true := by
  unfold joinedFacts
  iterate 31 refine and2 ?_ (by as_aux_lemma => kernel_rfl)
  as_aux_lemma => kernel_rfl
set_option maxHeartbeats 4000000 in
theorem inst : Tryd.f4.isInstance Tryd.pinned.checked.prog Rows.releaseStatesUptoRow.origin Rows.releaseStatesUptoRow.targs := of_decide_eq_true (by as_aux_lemma => kernel_rfl)
set_option maxHeartbeats 4000000 in
theorem wrap : Tryd.f4.isWrapper Tryd.pinned.checked.prog Rows.releaseStatesUptoRow.wrapper Rows.releaseStatesUptoRow.mainSum := by
  unfold Func.isWrapper; first | (rw [if_pos (by decide +kernel)]; kernel_rfl) | (rw [if_neg (by decide +kernel)]; exact ⟨rfl, rfl⟩)
set_option maxHeartbeats 4000000 in
theorem said : Rows.ReleaseStatesUptoSaid :=
  OpenClaim.holds_of_cond 4 Tryd.f4 rfl rfl rfl rfl rfl rfl rfl ⟨rfl, rfl, rfl, rfl, rfl⟩ rfl rfl rfl rfl rfl (by as_aux_lemma => kernel_rfl) Tryd.func4 closed inst wrap
    (fun os started H enc _ F => by rw [OpenClaim.pre_eq_preRow]; exact lifted os started H enc F)
theorem plain (f : FuncId) (fn : Func) (hf : Tryd.pinned.checked.prog.funcNamed "inquest/inqlaw2.ReleaseStates" = some f) (hfn : Tryd.pinned.checked.prog.funcs[f]? = some fn) :
    true = Tryd.pinned.checked.prog.looks [] ∧ ∀ (j : Nat) t, fn.params[j]? = some t → Tryd.pinned.checked.prog.wantsStandIn t = false := by
  obtain rfl : f = 4 := Option.some.inj ((show Tryd.prog.funcNamed "inquest/inqlaw2.ReleaseStates" = some 4 by kernel_rfl).symm.trans hf) |>.symm
  obtain rfl : fn = Tryd.f4 := (Option.some.inj (Tryd.func4.symm.trans hfn)).symm
  refine ⟨by kernel_rfl, fun j t ht => ?_⟩
  have hall : Tryd.f4.params.all (fun t => Tryd.prog.wantsStandIn t == false) = true := by kernel_rfl
  have := Array.all_eq_true.1 hall j (Array.getElem?_eq_some_iff.1 ht).1
  rw [(Array.getElem?_eq_some_iff.1 ht).2] at this
  exact (show Tryd.prog.wantsStandIn t = false by simpa using this)
set_option maxHeartbeats 4000000 in
theorem card : Rows.ReleaseStatesUptoCardSaid :=
  Claim7.holds_tied_plain_at .later [] _ _ _ _ said (fun _ h => by cases h) (by as_aux_lemma => kernel_rfl) (fun _ h => by cases h) releaseStatesUpto_row_tie (by as_aux_lemma => rfl) (by as_aux_lemma => exact ⟨rfl, rfl⟩) (by as_aux_lemma => kernel_rfl) (by as_aux_lemma => rfl) plain (by as_aux_lemma => kernel_rfl)
#print axioms card
end Go.Proofs.YtkkngcdikbhkjaaDoor.releaseStates
