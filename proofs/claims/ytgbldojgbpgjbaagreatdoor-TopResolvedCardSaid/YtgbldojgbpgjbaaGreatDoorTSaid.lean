/- The card TopResolvedCardSaid is proved: for all events, modules and tables the law answers true. Condition: none beyond the form's own. -/
import Derived.Test.YtgbldojgbpgjbaaGreatDoorZip
import Derived.Test.YtgbldojgbpgjbaaGreatDoorHold
import Derived.Test.YtgbldojgbpgjbaaGreatDoorPk4
namespace Go.Proofs.YtgbldojgbpgjbaaGreatDoor.topResolved
set_option linter.unusedSimpArgs false
set_option linter.unusedVariables false
set_option maxRecDepth 20000
open Go.ChangeShapes Go.WideShapes Go.ChangeAt Go.RowKit Go.Eng
theorem p10_of {x y : String × DataW Unit} {rest : List (String × DataW Unit)} {W : World} (h : laidMet Tryz.prog (x :: y :: ("internal/strconv.uint64pow10", Rows.laid_internal_strconv_uint64pow10) :: rest) W) : P10 W := by
  have h0 : laidMet Tryz.prog (("internal/strconv.uint64pow10", Lib.tabData .u64 Lib.pow10Tab) :: rest) W := h.tail.tail
  have h1 := Lib.tabIs_of_head (P := Tryz.prog) (g := 1) (by kernel_rfl) (by kernel_rfl) Tryz.underlying283 Tryz.underlying145 (by kernel_rfl) (by kernel_rfl) h0
  have h2 := h1.cell (g := 1) (by kernel_rfl) 0 (by decide)
  refine ⟨h1, ?_⟩
  unfold World.cell? at h2
  cases hg : W.heap[1]? with
  | none => rw [hg] at h2; cases h2
  | some o => exact (Array.getElem?_eq_some_iff.1 hg).1
def arg0 : Array Value := #[.agg #[.string ⟨#[]⟩, .int .i64 0, .int .i64 0, .slice none 0 0, .slice none 0 0, .slice none 0 0, .string ⟨#[]⟩, .string ⟨#[]⟩, .int .i64 0], .slice none 0 0, .slice none 0 0]
theorem laid_met (os : Os) : laidMet Tryz.prog Rows.topResolvedRow.laid ((laidWorld2 os arg0).forCall (fun _ _ => 0) ⟨#[], arg0, []⟩).memory :=
  laidMet_of_run' 8 (by kernel_rfl) (by kernel_rfl)
theorem reads (os : Os) {H : Type} (enc : TypeId × Value → H) : ∃ places, DataW.whole enc Tryz.prog ((laidWorld2 os arg0).forCall (fun _ _ => 0) ⟨#[], arg0, []⟩).memory Tryz.f3.params.toList Rows.topResolvedSpec.vars false arg0.toList 8 = some ([.agg [.lit (.string []), .lit (.int .i64 0), .lit (.int .i64 0), .nil, .nil, .nil, .lit (.string []), .lit (.string []), .lit (.int .i64 0)], .nil, .nil], [], places) :=
  ⟨[], by kernel_rfl⟩

set_option maxRecDepth 100000 in
theorem lifted (os : Os) (started : os.Started) (H : Type) (enc : TypeId × Value → H) (F : Stop.Interp) :
    ReturnsInHanded {} Tryz.checked os 3 .any ((OpenSpec.ofChange Rows.topResolvedSpec).preRow enc Tryz.prog Tryz.f3 Rows.topResolvedRow.domain false Rows.topResolvedRow.laid) (((OpenSpec.ofChange Rows.topResolvedSpec).at F).post enc Tryz.prog Tryz.f3 false true false false) := by
  obtain ⟨places, hx⟩ := reads os enc
  refine returnsInHanded_of_row (C := Tryz.checked) (s := OpenSpec.ofChange Rows.topResolvedSpec) ownNone started (by kernel_rfl) Tryz.func3
    (witness_row_at (enc := enc) (C := Tryz.checked) false (laidWorld2 os arg0) arg0 rfl (by kernel_rfl) (by kernel_rfl) (by kernel_rfl)
      (OpenSpec.preRow_of_cond 8 hx (by kernel_rfl) (fun k hk => by cases hk) (by kernel_rfl) (laid_met os))) ?_
  intro W base args ds gs before hval0 hW _ _ hsz hL hSh _
  have hval : ∀ (j : Nat) t v, Tryz.f3.params[j]? = some t → args[j]? = some v → Value.okWide Tryz.prog W .any base t v := hval0
  have hW' := hW
  obtain ⟨p, q, hA0, hV, rfl, hfz, hnd⟩ := hW
  have hA : DataW.TrodAll enc Tryz.prog W 0 (fun _ => true) true Tryz.f3.params.toList args.toList ds p := hA0
  rw [Tryz.params3] at hA hval
  obtain ⟨v0, vs0, d0, ds0, p0, q0, hargs, rfl, rfl, h0, r0⟩ := trodAll_cons hA
  obtain ⟨v1, vs1, d1, ds1, p1, q1, rfl, rfl, rfl, h1, r1⟩ := trodAll_cons r0
  obtain ⟨v2, vs2, d2, ds2, p2, q2, rfl, rfl, rfl, h2, r2⟩ := trodAll_cons r1
  obtain ⟨rfl, rfl, rfl⟩ := trodAll_nil r2
  obtain rfl : args = #[v0, v1, v2] := by cases args; simp_all
  obtain ⟨rfl, rfl⟩ := trodVars_none hV
  obtain ⟨e, hv_e, h_e, hr_e⟩ := op_evt.op _ _ (pr_of h0 hsz (j := 0) (t := 26) (by rw [Tryz.params3]; rfl) rfl)
  obtain ⟨ms, hv_ms, h_ms, hr_ms⟩ := Sy.op_modl.op _ _ (pr_of h1 hsz (j := 1) (t := 27) (by rw [Tryz.params3]; rfl) rfl)
  obtain ⟨ts, hv_ts, h_ts, hr_ts⟩ := Sy.op_tabs.op _ _ (pr_of h2 hsz (j := 2) (t := 28) (by rw [Tryz.params3]; rfl) rfl)
  obtain rfl := val_agg Tryz.underlying26 (hval 0 26 v0 rfl rfl) hv_e
  obtain rfl := val_one Tryz.underlying27 rfl (hval 1 27 v1 rfl rfl) hv_ms
  obtain rfl := val_one Tryz.underlying28 rfl (hval 2 28 v2 rfl rfl) hv_ts
  clear hA0 hval0
  have hlen := reach_len
  have hc := TopResolved_any e ms ts W h_e h_ms h_ts (p10_of hL) (tz_of hL)
  refine hc.mono fun e W' ⟨he, hg⟩ => ?_
  subst he
  exact ⟨_, rfl, law_post laidOut (by kernel_rfl) rfl rfl Tryz.underlying4 hW' rfl hg⟩

theorem and2 {a b : Bool} (h : a = true) (k : b = true) : (a && b) = true := by rw [h, k]; rfl
set_option maxHeartbeats 4000000 in
theorem closed : joinedFacts Tryz.pinned.checked.prog 3 Tryz.f3 (OpenSpec.ofChange Rows.topResolvedSpec).bare Rows.topResolvedRow = true := by
  unfold joinedFacts
  iterate 31 refine and2 ?_ (by as_aux_lemma => kernel_rfl)
  as_aux_lemma => kernel_rfl
set_option maxHeartbeats 4000000 in
theorem inst : Tryz.f3.isInstance Tryz.pinned.checked.prog Rows.topResolvedRow.origin Rows.topResolvedRow.targs := of_decide_eq_true (by as_aux_lemma => kernel_rfl)
set_option maxHeartbeats 4000000 in
theorem wrap : Tryz.f3.isWrapper Tryz.pinned.checked.prog Rows.topResolvedRow.wrapper Rows.topResolvedRow.mainSum := by
  unfold Func.isWrapper; first | (rw [if_pos (by decide +kernel)]; kernel_rfl) | (rw [if_neg (by decide +kernel)]; exact ⟨rfl, rfl⟩)
set_option maxHeartbeats 4000000 in
theorem said : Rows.TopResolvedSaid :=
  OpenClaim.holds_of_cond 3 Tryz.f3 rfl rfl rfl rfl rfl rfl rfl ⟨rfl, rfl, rfl, rfl, rfl⟩ rfl rfl rfl rfl rfl (by as_aux_lemma => kernel_rfl) Tryz.func3 closed inst wrap
    (fun os started H enc _ F => by rw [OpenClaim.pre_eq_preRow]; exact lifted os started H enc F)
theorem plain (f : FuncId) (fn : Func) (hf : Tryz.pinned.checked.prog.funcNamed "inquest/inqtop.TopResolved" = some f) (hfn : Tryz.pinned.checked.prog.funcs[f]? = some fn) :
    true = Tryz.pinned.checked.prog.looks [] ∧ ∀ (j : Nat) t, fn.params[j]? = some t → Tryz.pinned.checked.prog.wantsStandIn t = false := by
  obtain rfl : f = 3 := Option.some.inj ((show Tryz.prog.funcNamed "inquest/inqtop.TopResolved" = some 3 by kernel_rfl).symm.trans hf) |>.symm
  obtain rfl : fn = Tryz.f3 := (Option.some.inj (Tryz.func3.symm.trans hfn)).symm
  refine ⟨by kernel_rfl, fun j t ht => ?_⟩
  have hall : Tryz.f3.params.all (fun t => Tryz.prog.wantsStandIn t == false) = true := by kernel_rfl
  have := Array.all_eq_true.1 hall j (Array.getElem?_eq_some_iff.1 ht).1
  rw [(Array.getElem?_eq_some_iff.1 ht).2] at this
  exact (show Tryz.prog.wantsStandIn t = false by simpa using this)
set_option maxHeartbeats 4000000 in
theorem card : Rows.TopResolvedCardSaid :=
  Claim7.holds_tied_plain_at .later [] _ _ _ _ said (fun _ h => by cases h) (by as_aux_lemma => kernel_rfl) (fun _ h => by cases h) topResolved_row_tie (by as_aux_lemma => rfl) (by as_aux_lemma => exact ⟨rfl, rfl⟩) (by as_aux_lemma => kernel_rfl) (by as_aux_lemma => rfl) plain (by as_aux_lemma => kernel_rfl)
#print axioms card
end Go.Proofs.YtgbldojgbpgjbaaGreatDoor.topResolved
