/- The card FindRoundCardSaid is proved: for all conditions what is written is read back. Condition: none beyond the form's own. -/
import Derived.Test.YtfcedlfeinnhoaaGreatDoorZip
import Derived.Test.YtfcedlfeinnhoaaGreatDoorHold
import Derived.Test.YtfcedlfeinnhoaaGreatDoorPk2
namespace Go.Proofs.YtfcedlfeinnhoaaGreatDoor.findRound
set_option linter.unusedSimpArgs false
set_option linter.unusedVariables false
set_option maxRecDepth 20000
open Go.ChangeShapes Go.WideShapes Go.ChangeAt Go.RowKit Go.Eng
def arg0 : Array Value := #[.agg #[.int .i64 0, .slice none 0 0, .int .i64 0, .int .i64 0, .string ⟨#[]⟩, .string ⟨#[]⟩]]
theorem laid_met (os : Os) : laidMet Tryz.prog Rows.findRoundRow.laid ((laidWorld3 os arg0).forCall (fun _ _ => 0) ⟨#[], arg0, []⟩).memory :=
  laidMet_of_run' 8 (by kernel_rfl) (by kernel_rfl)
theorem reads (os : Os) {H : Type} (enc : TypeId × Value → H) : ∃ places, DataW.whole enc Tryz.prog ((laidWorld3 os arg0).forCall (fun _ _ => 0) ⟨#[], arg0, []⟩).memory Tryz.f3.params.toList Rows.findRoundSpec.vars false arg0.toList 8 = some ([.agg [.lit (.int .i64 0), .nil, .lit (.int .i64 0), .lit (.int .i64 0), .lit (.string []), .lit (.string [])]], [], places) :=
  ⟨[], by kernel_rfl⟩

set_option maxRecDepth 100000 in
theorem lifted (os : Os) (started : os.Started) (H : Type) (enc : TypeId × Value → H) (F : Stop.Interp) :
    ReturnsInHanded {} Tryz.checked os 3 .any ((OpenSpec.ofChange Rows.findRoundSpec).preRow enc Tryz.prog Tryz.f3 Rows.findRoundRow.domain false Rows.findRoundRow.laid) (((OpenSpec.ofChange Rows.findRoundSpec).at F).post enc Tryz.prog Tryz.f3 false true false false) := by
  obtain ⟨places, hx⟩ := reads os enc
  refine returnsInHanded_of_row (C := Tryz.checked) (s := OpenSpec.ofChange Rows.findRoundSpec) ownNone started (by kernel_rfl) Tryz.func3
    (witness_row_at (enc := enc) (C := Tryz.checked) false (laidWorld3 os arg0) arg0 rfl (by kernel_rfl) (by kernel_rfl) (by kernel_rfl)
      (OpenSpec.preRow_of_cond 8 hx (by kernel_rfl) (fun k hk => by cases hk) (by kernel_rfl) (laid_met os))) ?_
  intro W base args ds gs before hval0 hW _ _ hsz hL hSh _
  have hval : ∀ (j : Nat) t v, Tryz.f3.params[j]? = some t → args[j]? = some v → Value.okWide Tryz.prog W .any base t v := hval0
  have hW' := hW
  obtain ⟨p, q, hA0, hV, rfl, hfz, hnd⟩ := hW
  have hA : DataW.TrodAll enc Tryz.prog W 0 (fun _ => true) true Tryz.f3.params.toList args.toList ds p := hA0
  rw [Tryz.params3] at hA hval
  obtain ⟨v0, vs0, d0, ds0, p0, q0, hargs, rfl, rfl, h0, r0⟩ := trodAll_cons hA
  obtain ⟨rfl, rfl, rfl⟩ := trodAll_nil r0
  obtain rfl : args = #[v0] := by cases args; simp_all
  obtain ⟨rfl, rfl⟩ := trodVars_none hV
  obtain ⟨c, hv_c, h_c, hr_c⟩ := op_cond.op _ _ (pr_of h0 hsz (j := 0) (t := 24) (by rw [Tryz.params3]; rfl) rfl)
  obtain rfl := val_agg Tryz.underlying24 (hval 0 24 v0 rfl rfl) hv_c
  clear hA0 hval0
  have hlen := reach_len
  have hc := FindRound_any c W h_c (err_of hL.tail.tail.tail.tail.tail) (ow_of hL.tail.tail.tail.tail.tail.tail) (p10_of hL)
  refine hc.mono fun e W' ⟨he, hg⟩ => ?_
  subst he
  exact ⟨_, rfl, law_post laidOut (by kernel_rfl) rfl rfl Tryz.underlying4 hW' rfl hg⟩

theorem and2 {a b : Bool} (h : a = true) (k : b = true) : (a && b) = true := by rw [h, k]; rfl
set_option maxHeartbeats 4000000 in
theorem closed : joinedFacts Tryz.pinned.checked.prog 3 Tryz.f3 (OpenSpec.ofChange Rows.findRoundSpec).bare Rows.findRoundRow = true := by
  unfold joinedFacts
  iterate 31 refine and2 ?_ (by as_aux_lemma => kernel_rfl)
  as_aux_lemma => kernel_rfl
set_option maxHeartbeats 4000000 in
theorem inst : Tryz.f3.isInstance Tryz.pinned.checked.prog Rows.findRoundRow.origin Rows.findRoundRow.targs := of_decide_eq_true (by as_aux_lemma => kernel_rfl)
set_option maxHeartbeats 4000000 in
theorem wrap : Tryz.f3.isWrapper Tryz.pinned.checked.prog Rows.findRoundRow.wrapper Rows.findRoundRow.mainSum := by
  unfold Func.isWrapper; first | (rw [if_pos (by decide +kernel)]; kernel_rfl) | (rw [if_neg (by decide +kernel)]; exact ⟨rfl, rfl⟩)
set_option maxHeartbeats 4000000 in
theorem said : Rows.FindRoundSaid :=
  OpenClaim.holds_of_cond 3 Tryz.f3 rfl rfl rfl rfl rfl rfl rfl ⟨rfl, rfl, rfl, rfl, rfl⟩ rfl rfl rfl rfl rfl (by as_aux_lemma => kernel_rfl) Tryz.func3 closed inst wrap
    (fun os started H enc _ F => by rw [OpenClaim.pre_eq_preRow]; exact lifted os started H enc F)
theorem plain (f : FuncId) (fn : Func) (hf : Tryz.pinned.checked.prog.funcNamed "inquest/inqkeep2.FindRound" = some f) (hfn : Tryz.pinned.checked.prog.funcs[f]? = some fn) :
    true = Tryz.pinned.checked.prog.looks [] ∧ ∀ (j : Nat) t, fn.params[j]? = some t → Tryz.pinned.checked.prog.wantsStandIn t = false := by
  obtain rfl : f = 3 := Option.some.inj ((show Tryz.prog.funcNamed "inquest/inqkeep2.FindRound" = some 3 by kernel_rfl).symm.trans hf) |>.symm
  obtain rfl : fn = Tryz.f3 := (Option.some.inj (Tryz.func3.symm.trans hfn)).symm
  refine ⟨by kernel_rfl, fun j t ht => ?_⟩
  have hall : Tryz.f3.params.all (fun t => Tryz.prog.wantsStandIn t == false) = true := by kernel_rfl
  have := Array.all_eq_true.1 hall j (Array.getElem?_eq_some_iff.1 ht).1
  rw [(Array.getElem?_eq_some_iff.1 ht).2] at this
  exact (show Tryz.prog.wantsStandIn t = false by simpa using this)
set_option maxHeartbeats 4000000 in
theorem card : Rows.FindRoundCardSaid :=
  Claim7.holds_tied_plain_at .later [] _ _ _ _ said (fun _ h => by cases h) (by as_aux_lemma => kernel_rfl) (fun _ h => by cases h) findRound_row_tie (by as_aux_lemma => rfl) (by as_aux_lemma => exact ⟨rfl, rfl⟩) (by as_aux_lemma => kernel_rfl) (by as_aux_lemma => rfl) plain (by as_aux_lemma => kernel_rfl)
#print axioms card
end Go.Proofs.YtfcedlfeinnhoaaGreatDoor.findRound
