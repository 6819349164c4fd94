/- The card FindHoldsUptoCardSaid is proved: for all conditions, events, patterns and texts of the bulk that the second form names the law answers true. Condition: none beyond the form's own. -/
import Derived.Test.YtfmbgaaonfgenaaGreatDoorHold
import Derived.Test.YtfmbgaaonfgenaaGreatDoorPk7
namespace Go.Proofs.YtfmbgaaonfgenaaGreatDoor.findHolds
set_option linter.unusedSimpArgs false
set_option linter.unusedVariables false
set_option maxRecDepth 20000
open Go.ChangeShapes Go.WideShapes Go.ChangeAt Go.RowKit Go.Eng
def arg0 : Array Value := #[.agg #[.int .i64 0, .slice none 0 0, .int .i64 0, .int .i64 0, .string ⟨#[]⟩, .string ⟨#[]⟩], .agg #[.string ⟨#[]⟩, .int .i64 0, .int .i64 0, .slice none 0 0, .slice none 0 0, .slice none 0 0, .string ⟨#[]⟩, .string ⟨#[]⟩, .int .i64 0], .string ⟨#[]⟩, .string ⟨#[]⟩]
theorem laid_met (os : Os) : laidMet Tryz.prog Rows.findHoldsUptoRow.laid ((laidWorld os arg0).forCall (fun _ _ => 0) ⟨#[], arg0, []⟩).memory :=
  laidMet_of_run' 8 (by kernel_rfl) (by kernel_rfl)
theorem reads (os : Os) {H : Type} (enc : TypeId × Value → H) : ∃ places, DataW.whole enc Tryz.prog ((laidWorld os arg0).forCall (fun _ _ => 0) ⟨#[], arg0, []⟩).memory Tryz.f3.params.toList Rows.findHoldsSpec.vars false arg0.toList 8 = some ([.agg [.lit (.int .i64 0), .nil, .lit (.int .i64 0), .lit (.int .i64 0), .lit (.string []), .lit (.string [])], .agg [.lit (.string []), .lit (.int .i64 0), .lit (.int .i64 0), .nil, .nil, .nil, .lit (.string []), .lit (.string []), .lit (.int .i64 0)], .lit (.string []), .lit (.string [])], [], places) :=
  ⟨[], by kernel_rfl⟩

set_option maxRecDepth 100000 in
theorem lifted (os : Os) (started : os.Started) (H : Type) (enc : TypeId × Value → H) (F : Stop.Interp) :
    ReturnsInHanded {} Tryz.checked os 3 .any ((Rows.OpenSpec.upto Rows.findHoldsSpec).preRow enc Tryz.prog Tryz.f3 Rows.findHoldsUptoRow.domain false Rows.findHoldsUptoRow.laid) (((Rows.OpenSpec.upto Rows.findHoldsSpec).at F).post enc Tryz.prog Tryz.f3 false true false false) := by
  obtain ⟨places, hx⟩ := reads os enc
  refine returnsInHanded_of_row (C := Tryz.checked) (s := Rows.OpenSpec.upto Rows.findHoldsSpec) ownNone started (by kernel_rfl) Tryz.func3
    (witness_row_at (enc := enc) (C := Tryz.checked) false (laidWorld os arg0) arg0 rfl (by kernel_rfl) (by kernel_rfl) (by kernel_rfl)
      (OpenSpec.preRow_of_cond 8 hx (by kernel_rfl) (fun k hk => by cases hk; kernel_rfl) (by kernel_rfl) (laid_met os))) ?_
  intro W base args ds gs before hval0 hW _ hcnd hsz hL hSh _
  have hval : ∀ (j : Nat) t v, Tryz.f3.params[j]? = some t → args[j]? = some v → Value.okWide Tryz.prog W .any base t v := hval0
  have hW' := hW
  obtain ⟨p, q, hA0, hV, rfl, hfz, hnd⟩ := hW
  have hA : DataW.TrodAll enc Tryz.prog W 0 (fun _ => true) true Tryz.f3.params.toList args.toList ds p := hA0
  rw [Tryz.params3] at hA hval
  obtain ⟨v0, vs0, d0, ds0, p0, q0, hargs, rfl, rfl, h0, r0⟩ := trodAll_cons hA
  obtain ⟨v1, vs1, d1, ds1, p1, q1, rfl, rfl, rfl, h1, r1⟩ := trodAll_cons r0
  obtain ⟨v2, vs2, d2, ds2, p2, q2, rfl, rfl, rfl, h2, r2⟩ := trodAll_cons r1
  obtain ⟨v3, vs3, d3, ds3, p3, q3, rfl, rfl, rfl, h3, r3⟩ := trodAll_cons r2
  obtain ⟨rfl, rfl, rfl⟩ := trodAll_nil r3
  obtain rfl : args = #[v0, v1, v2, v3] := by cases args; simp_all
  obtain ⟨rfl, rfl⟩ := trodVars_none hV
  obtain ⟨c, hv_c, h_c, hr_c⟩ := op_cond.op _ _ (pr_of h0 hsz (j := 0) (t := 24) (by rw [Tryz.params3]; rfl) rfl)
  obtain ⟨e, hv_e, h_e, hr_e⟩ := op_evt.op _ _ (pr_of h1 hsz (j := 1) (t := 29) (by rw [Tryz.params3]; rfl) rfl)
  obtain ⟨p, hv_p, h_p, hr_p⟩ := op_s.op _ _ (pr_of h2 hsz (j := 2) (t := 9) (by rw [Tryz.params3]; rfl) rfl)
  obtain ⟨s, hv_s, h_s, hr_s⟩ := op_s.op _ _ (pr_of h3 hsz (j := 3) (t := 9) (by rw [Tryz.params3]; rfl) rfl)
  obtain rfl := val_agg Tryz.underlying24 (hval 0 24 v0 rfl rfl) hv_c
  obtain rfl := val_agg Tryz.underlying29 (hval 1 29 v1 rfl rfl) hv_e
  obtain rfl := val_one Tryz.underlying9 rfl (hval 2 9 v2 rfl rfl) hv_p
  obtain rfl := val_one Tryz.underlying9 rfl (hval 3 9 v3 rfl rfl) hv_s
  clear hA0 hval0
  have hlen := reach_len
  have hb := of_decide_eq_true (hcnd _ rfl)
  simp only [List.append_nil, Rows.uptoBulkAll] at hb
  rw [hr_p, hr_s] at hb
  simp only [Rows.uptoBulk] at hb
  have hcc : cntP c.says ≤ _ := hr_c
  have hc := FindHolds_any c e p s W h_c h_e (by omega) (by omega) (by omega) (mlen_of hSh)
  refine hc.mono fun e W' ⟨he, hg⟩ => ?_
  subst he
  exact ⟨_, rfl, law_post laidOut (by kernel_rfl) rfl rfl Tryz.underlying4 hW' rfl hg⟩

theorem and2 {a b : Bool} (h : a = true) (k : b = true) : (a && b) = true := by rw [h, k]; rfl
set_option maxHeartbeats 4000000 in
theorem closed : joinedFacts Tryz.pinned.checked.prog 3 Tryz.f3 (Rows.OpenSpec.upto Rows.findHoldsSpec).bare Rows.findHoldsUptoRow = true := by
  unfold joinedFacts
  iterate 31 refine and2 ?_ (by as_aux_lemma => kernel_rfl)
  as_aux_lemma => kernel_rfl
set_option maxHeartbeats 4000000 in
theorem inst : Tryz.f3.isInstance Tryz.pinned.checked.prog Rows.findHoldsUptoRow.origin Rows.findHoldsUptoRow.targs := of_decide_eq_true (by as_aux_lemma => kernel_rfl)
set_option maxHeartbeats 4000000 in
theorem wrap : Tryz.f3.isWrapper Tryz.pinned.checked.prog Rows.findHoldsUptoRow.wrapper Rows.findHoldsUptoRow.mainSum := by
  unfold Func.isWrapper; first | (rw [if_pos (by decide +kernel)]; kernel_rfl) | (rw [if_neg (by decide +kernel)]; exact ⟨rfl, rfl⟩)
set_option maxHeartbeats 4000000 in
theorem said : Rows.FindHoldsUptoSaid :=
  OpenClaim.holds_of_cond 3 Tryz.f3 rfl rfl rfl rfl rfl rfl rfl ⟨rfl, rfl, rfl, rfl, rfl⟩ rfl rfl rfl rfl rfl (by as_aux_lemma => kernel_rfl) Tryz.func3 closed inst wrap
    (fun os started H enc _ F => by rw [OpenClaim.pre_eq_preRow]; exact lifted os started H enc F)
theorem plain (f : FuncId) (fn : Func) (hf : Tryz.pinned.checked.prog.funcNamed "inquest/inqlaw2.FindHolds" = some f) (hfn : Tryz.pinned.checked.prog.funcs[f]? = some fn) :
    false = Tryz.pinned.checked.prog.looks [] ∧ ∀ (j : Nat) t, fn.params[j]? = some t → Tryz.pinned.checked.prog.wantsStandIn t = false := by
  obtain rfl : f = 3 := Option.some.inj ((show Tryz.prog.funcNamed "inquest/inqlaw2.FindHolds" = some 3 by kernel_rfl).symm.trans hf) |>.symm
  obtain rfl : fn = Tryz.f3 := (Option.some.inj (Tryz.func3.symm.trans hfn)).symm
  refine ⟨by kernel_rfl, fun j t ht => ?_⟩
  have hall : Tryz.f3.params.all (fun t => Tryz.prog.wantsStandIn t == false) = true := by kernel_rfl
  have := Array.all_eq_true.1 hall j (Array.getElem?_eq_some_iff.1 ht).1
  rw [(Array.getElem?_eq_some_iff.1 ht).2] at this
  exact (show Tryz.prog.wantsStandIn t = false by simpa using this)
set_option maxHeartbeats 4000000 in
theorem card : Rows.FindHoldsUptoCardSaid :=
  Claim7.holds_tied_plain_at .later [] _ _ _ _ said (fun _ h => by cases h) (by as_aux_lemma => kernel_rfl) (fun _ h => by cases h) findHoldsUpto_row_tie (by as_aux_lemma => rfl) (by as_aux_lemma => exact ⟨rfl, rfl⟩) (by as_aux_lemma => kernel_rfl) (by as_aux_lemma => rfl) plain (by as_aux_lemma => kernel_rfl)
#print axioms card
end Go.Proofs.YtfmbgaaonfgenaaGreatDoor.findHolds
