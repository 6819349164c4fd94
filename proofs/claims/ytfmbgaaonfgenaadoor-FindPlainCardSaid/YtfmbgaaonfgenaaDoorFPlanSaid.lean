/- The card FindPlainCardSaid is proved: for all conditions and events the plain form holds for the same events, and is plain. Condition: none beyond the form's own. -/
import Derived.Test.YtfmbgaaonfgenaaDoorHold
import Derived.Test.YtfmbgaaonfgenaaDoorPk5
namespace Go.Proofs.YtfmbgaaonfgenaaDoor.findPlain
set_option linter.unusedSimpArgs false
set_option linter.unusedVariables false
set_option maxRecDepth 20000
open Go.ChangeShapes Go.WideShapes Go.ChangeAt Go.RowKit Go.Eng
theorem op_evsF {H : Type} {enc : TypeId × Value → H} {w : World} : Opn enc Tryd.prog w 25 slV (EvsF w) (fun _ _ => True) :=
  (opn_slice Tryd.underlying25 co35 (by decide) (by rw [bo35]; decide) (fun _ => rfl) op_evt).map (fun s => s) (fun _ => rfl)
    (fun s h => ⟨h.1, Nat.le_trans h.2.1 reach_len, h.2.2⟩) (fun _ _ _ => trivial)
def arg0 : Array Value := #[.agg #[.int .i64 0, .slice none 0 0, .int .i64 0, .int .i64 0, .string ⟨#[]⟩, .string ⟨#[]⟩], .slice none 0 0]
theorem laid_met (os : Os) : laidMet Tryd.prog Rows.findPlainRow.laid ((laidWorld os arg0).forCall (fun _ _ => 0) ⟨#[], arg0, []⟩).memory :=
  laidMet_of_run' 8 (by kernel_rfl) (by kernel_rfl)
theorem reads (os : Os) {H : Type} (enc : TypeId × Value → H) : ∃ places, DataW.whole enc Tryd.prog ((laidWorld os arg0).forCall (fun _ _ => 0) ⟨#[], arg0, []⟩).memory Tryd.f3.params.toList Rows.findPlainSpec.vars false arg0.toList 8 = some ([.agg [.lit (.int .i64 0), .nil, .lit (.int .i64 0), .lit (.int .i64 0), .lit (.string []), .lit (.string [])], .nil], [], places) :=
  ⟨[], by kernel_rfl⟩

set_option maxRecDepth 100000 in
theorem lifted (os : Os) (started : os.Started) (H : Type) (enc : TypeId × Value → H) (F : Stop.Interp) :
    ReturnsInHanded {} Tryd.checked os 3 .any ((OpenSpec.ofChange Rows.findPlainSpec).preRow enc Tryd.prog Tryd.f3 Rows.findPlainRow.domain false Rows.findPlainRow.laid) (((OpenSpec.ofChange Rows.findPlainSpec).at F).post enc Tryd.prog Tryd.f3 false true false false) := by
  obtain ⟨places, hx⟩ := reads os enc
  refine returnsInHanded_of_row (C := Tryd.checked) (s := OpenSpec.ofChange Rows.findPlainSpec) ownNone started (by kernel_rfl) Tryd.func3
    (witness_row_at (enc := enc) (C := Tryd.checked) false (laidWorld os arg0) arg0 rfl (by kernel_rfl) (by kernel_rfl) (by kernel_rfl)
      (OpenSpec.preRow_of_cond 8 hx (by kernel_rfl) (fun k hk => by cases hk) (by kernel_rfl) (laid_met os))) ?_
  intro W base args ds gs before hval0 hW _ _ hsz hL hSh _
  have hval : ∀ (j : Nat) t v, Tryd.f3.params[j]? = some t → args[j]? = some v → Value.okWide Tryd.prog W .any base t v := hval0
  have hW' := hW
  obtain ⟨p, q, hA0, hV, rfl, hfz, hnd⟩ := hW
  have hA : DataW.TrodAll enc Tryd.prog W 0 (fun _ => true) true Tryd.f3.params.toList args.toList ds p := hA0
  rw [Tryd.params3] at hA hval
  obtain ⟨v0, vs0, d0, ds0, p0, q0, hargs, rfl, rfl, h0, r0⟩ := trodAll_cons hA
  obtain ⟨v1, vs1, d1, ds1, p1, q1, rfl, rfl, rfl, h1, r1⟩ := trodAll_cons r0
  obtain ⟨rfl, rfl, rfl⟩ := trodAll_nil r1
  obtain rfl : args = #[v0, v1] := by cases args; simp_all
  obtain ⟨rfl, rfl⟩ := trodVars_none hV
  obtain ⟨c, hv_c, h_c, hr_c⟩ := op_cond.op _ _ (pr_of h0 hsz (j := 0) (t := 24) (by rw [Tryd.params3]; rfl) rfl)
  obtain ⟨l, hv_l, h_l, hr_l⟩ := op_evsF.op _ _ (pr_of h1 hsz (j := 1) (t := 25) (by rw [Tryd.params3]; rfl) rfl)
  obtain rfl := val_agg Tryd.underlying24 (hval 0 24 v0 rfl rfl) hv_c
  obtain rfl := val_one Tryd.underlying25 rfl (hval 1 25 v1 rfl rfl) hv_l
  clear hA0 hval0
  have hlen := reach_len
  have hc := FindPlain_any c l W h_c h_l (mlen_of hSh)
  refine hc.mono fun e W' ⟨he, hg⟩ => ?_
  subst he
  exact ⟨_, rfl, law_post laidOut (by kernel_rfl) rfl rfl Tryd.underlying4 hW' rfl hg⟩

theorem and2 {a b : Bool} (h : a = true) (k : b = true) : (a && b) = true := by rw [h, k]; rfl
set_option maxHeartbeats 4000000 in
theorem closed : joinedFacts Tryd.pinned.checked.prog 3 Tryd.f3 (OpenSpec.ofChange Rows.findPlainSpec).bare Rows.findPlainRow = true := by
  unfold joinedFacts
  iterate 31 refine and2 ?_ (by as_aux_lemma => kernel_rfl)
  as_aux_lemma => kernel_rfl
set_option maxHeartbeats 4000000 in
theorem inst : Tryd.f3.isInstance Tryd.pinned.checked.prog Rows.findPlainRow.origin Rows.findPlainRow.targs := of_decide_eq_true (by as_aux_lemma => kernel_rfl)
set_option maxHeartbeats 4000000 in
theorem wrap : Tryd.f3.isWrapper Tryd.pinned.checked.prog Rows.findPlainRow.wrapper Rows.findPlainRow.mainSum := by
  unfold Func.isWrapper; first | (rw [if_pos (by decide +kernel)]; kernel_rfl) | (rw [if_neg (by decide +kernel)]; exact ⟨rfl, rfl⟩)
set_option maxHeartbeats 4000000 in
theorem said : Rows.FindPlainSaid :=
  OpenClaim.holds_of_cond 3 Tryd.f3 rfl rfl rfl rfl rfl rfl rfl ⟨rfl, rfl, rfl, rfl, rfl⟩ rfl rfl rfl rfl rfl (by as_aux_lemma => kernel_rfl) Tryd.func3 closed inst wrap
    (fun os started H enc _ F => by rw [OpenClaim.pre_eq_preRow]; exact lifted os started H enc F)
theorem plain (f : FuncId) (fn : Func) (hf : Tryd.pinned.checked.prog.funcNamed "inquest/inqkeep2.FindPlain" = some f) (hfn : Tryd.pinned.checked.prog.funcs[f]? = some fn) :
    false = Tryd.pinned.checked.prog.looks [] ∧ ∀ (j : Nat) t, fn.params[j]? = some t → Tryd.pinned.checked.prog.wantsStandIn t = false := by
  obtain rfl : f = 3 := Option.some.inj ((show Tryd.prog.funcNamed "inquest/inqkeep2.FindPlain" = some 3 by kernel_rfl).symm.trans hf) |>.symm
  obtain rfl : fn = Tryd.f3 := (Option.some.inj (Tryd.func3.symm.trans hfn)).symm
  refine ⟨by kernel_rfl, fun j t ht => ?_⟩
  have hall : Tryd.f3.params.all (fun t => Tryd.prog.wantsStandIn t == false) = true := by kernel_rfl
  have := Array.all_eq_true.1 hall j (Array.getElem?_eq_some_iff.1 ht).1
  rw [(Array.getElem?_eq_some_iff.1 ht).2] at this
  exact (show Tryd.prog.wantsStandIn t = false by simpa using this)
set_option maxHeartbeats 4000000 in
theorem card : Rows.FindPlainCardSaid :=
  Claim7.holds_tied_plain_at .later [] _ _ _ _ said (fun _ h => by cases h) (by as_aux_lemma => kernel_rfl) (fun _ h => by cases h) findPlain_row_tie (by as_aux_lemma => rfl) (by as_aux_lemma => exact ⟨rfl, rfl⟩) (by as_aux_lemma => kernel_rfl) (by as_aux_lemma => rfl) plain (by as_aux_lemma => kernel_rfl)
#print axioms card
end Go.Proofs.YtfmbgaaonfgenaaDoor.findPlain
