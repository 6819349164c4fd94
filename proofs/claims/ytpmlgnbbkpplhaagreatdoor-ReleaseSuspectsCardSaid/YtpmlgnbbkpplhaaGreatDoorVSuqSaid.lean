/- The card ReleaseSuspectsCardSaid is proved: for all faults, commits, lists of releases and releases the law answers true. Condition: none beyond the form's own. -/
import Derived.Test.YtpmlgnbbkpplhaaGreatDoorHold
import Derived.Test.YtpmlgnbbkpplhaaGreatDoorPk7
namespace Go.Proofs.YtpmlgnbbkpplhaaGreatDoor.releaseSuspects
set_option linter.unusedSimpArgs false
set_option linter.unusedVariables false
set_option maxRecDepth 20000
open Go.ChangeShapes Go.WideShapes Go.ChangeAt Go.RowKit Go.Eng
theorem op_strsT {H : Type} {enc : TypeId × Value → H} {w : World} : Opn enc Tryz.prog w 40 slV (fun s : Sl (List UInt8) => SlT strE 1 w s.A s.q s.l) (fun _ _ => True) :=
  (opn_slice Tryz.underlying40 co9 (by decide) (by rw [bo9]; decide) (fun _ => rfl) op_s).map (fun s => s) (fun _ => rfl)
    (fun s h => h.1.t) (fun _ _ _ => trivial)
theorem op_strsO {H : Type} {enc : TypeId × Value → H} {w : World} : Opn enc Tryz.prog w 40 slV (fun s : Sl (List UInt8) => s.Ok strE 1 w ∧ s.q ≤ 4611686018427387904 ∧ ∀ x ∈ s.l, x.length ≤ 4611686018427387904) (fun _ _ => True) :=
  (opn_slice Tryz.underlying40 co9 (by decide) (by rw [bo9]; decide) (fun _ => rfl) op_s).map (fun s => s) (fun _ => rfl)
    (fun s h => ⟨h.1, Nat.le_trans h.2.1 reach_len, fun x hx => Nat.le_trans (h.2.2 x hx) reach_len⟩) (fun _ _ _ => trivial)
theorem op_com {H : Type} {enc : TypeId × Value → H} {w : World} : Opn enc Tryz.prog w 157 SCom.enc (ComOk w) (fun _ _ => True) :=
  (opn_struct Tryz.underlying157 co157 (opf_cons op_s rfl co9 (opf_cons op_s rfl co9 (opf_cons op_s rfl co9 (opf_cons op_strsO rfl co40 opf_nil))))).map
    (fun p => (⟨p.1, p.2.1, p.2.2.1, p.2.2.2.1⟩ : SCom)) (fun _ => rfl) (fun _ h => ⟨h.2.2.2.1.1, h.2.2.2.1.2.1, h.2.2.2.1.2.2⟩) (fun _ _ _ => trivial)
theorem op_coms {H : Type} {enc : TypeId × Value → H} {w : World} : Opn enc Tryz.prog w 74 slV (ComsOk w) (fun _ _ => True) :=
  (opn_slice Tryz.underlying74 co157 (by decide) (by rw [bo157]; decide) (fun _ => rfl) op_com).map (fun s => s) (fun _ => rfl)
    (fun s h => ⟨h.1, Nat.le_trans h.2.1 reach_len, h.2.2⟩) (fun _ _ _ => trivial)
def arg0 : Array Value := #[.slice none 0 0, .slice none 0 0, .slice none 0 0, .string ⟨#[]⟩]
theorem laid_met (os : Os) : laidMet Tryz.prog Rows.releaseSuspectsRow.laid ((laidWorld2 os arg0).forCall (fun _ _ => 0) ⟨#[], arg0, []⟩).memory :=
  laidMet_of_run' 8 (by kernel_rfl) (by kernel_rfl)
theorem reads (os : Os) {H : Type} (enc : TypeId × Value → H) : ∃ places, DataW.whole enc Tryz.prog ((laidWorld2 os arg0).forCall (fun _ _ => 0) ⟨#[], arg0, []⟩).memory Tryz.f9.params.toList Rows.releaseSuspectsSpec.vars false arg0.toList 8 = some ([.nil, .nil, .nil, .lit (.string [])], [], places) :=
  ⟨[], by kernel_rfl⟩

set_option maxRecDepth 100000 in
theorem lifted (os : Os) (started : os.Started) (H : Type) (enc : TypeId × Value → H) (F : Stop.Interp) :
    ReturnsInHanded {} Tryz.checked os 9 .any ((OpenSpec.ofChange Rows.releaseSuspectsSpec).preRow enc Tryz.prog Tryz.f9 Rows.releaseSuspectsRow.domain false Rows.releaseSuspectsRow.laid) (((OpenSpec.ofChange Rows.releaseSuspectsSpec).at F).post enc Tryz.prog Tryz.f9 false true false false) := by
  obtain ⟨places, hx⟩ := reads os enc
  refine returnsInHanded_of_row (C := Tryz.checked) (s := OpenSpec.ofChange Rows.releaseSuspectsSpec) ownNone started (by kernel_rfl) Tryz.func9
    (witness_row_at (enc := enc) (C := Tryz.checked) false (laidWorld2 os arg0) arg0 rfl (by kernel_rfl) (by kernel_rfl) (by kernel_rfl)
      (OpenSpec.preRow_of_cond 8 hx (by kernel_rfl) (fun k hk => by cases hk) (by kernel_rfl) (laid_met os))) ?_
  intro W base args ds gs before hval0 hW _ _ hsz hL hSh _
  have hval : ∀ (j : Nat) t v, Tryz.f9.params[j]? = some t → args[j]? = some v → Value.okWide Tryz.prog W .any base t v := hval0
  have hW' := hW
  obtain ⟨p, q, hA0, hV, rfl, hfz, hnd⟩ := hW
  have hA : DataW.TrodAll enc Tryz.prog W 0 (fun _ => true) true Tryz.f9.params.toList args.toList ds p := hA0
  rw [Tryz.params9] at hA hval
  obtain ⟨v0, vs0, d0, ds0, p0, q0, hargs, rfl, rfl, h0, r0⟩ := trodAll_cons hA
  obtain ⟨v1, vs1, d1, ds1, p1, q1, rfl, rfl, rfl, h1, r1⟩ := trodAll_cons r0
  obtain ⟨v2, vs2, d2, ds2, p2, q2, rfl, rfl, rfl, h2, r2⟩ := trodAll_cons r1
  obtain ⟨v3, vs3, d3, ds3, p3, q3, rfl, rfl, rfl, h3, r3⟩ := trodAll_cons r2
  obtain ⟨rfl, rfl, rfl⟩ := trodAll_nil r3
  obtain rfl : args = #[v0, v1, v2, v3] := by cases args; simp_all
  obtain ⟨rfl, rfl⟩ := trodVars_none hV
  obtain ⟨f, hv_f, h_f, hr_f⟩ := op_flts.op _ _ (pr_of h0 hsz (j := 0) (t := 25) (by rw [Tryz.params9]; rfl) rfl)
  obtain ⟨m, hv_m, h_m, hr_m⟩ := op_coms.op _ _ (pr_of h1 hsz (j := 1) (t := 74) (by rw [Tryz.params9]; rfl) rfl)
  obtain ⟨r, hv_r, h_r, hr_r⟩ := op_strsT.op _ _ (pr_of h2 hsz (j := 2) (t := 40) (by rw [Tryz.params9]; rfl) rfl)
  obtain ⟨s, hv_s, h_s, hr_s⟩ := op_s.op _ _ (pr_of h3 hsz (j := 3) (t := 9) (by rw [Tryz.params9]; rfl) rfl)
  obtain rfl := val_one Tryz.underlying25 rfl (hval 0 25 v0 rfl rfl) hv_f
  obtain rfl := val_one Tryz.underlying74 rfl (hval 1 74 v1 rfl rfl) hv_m
  obtain rfl := val_one Tryz.underlying40 rfl (hval 2 40 v2 rfl rfl) hv_r
  obtain rfl := val_one Tryz.underlying9 rfl (hval 3 9 v3 rfl rfl) hv_s
  clear hA0 hval0
  have hlen := reach_len
  have hc := ReleaseSuspects_any f m r.A r.q r.c r.l s W h_f h_m h_r
  refine hc.mono fun e W' ⟨he, hg⟩ => ?_
  subst he
  exact ⟨_, rfl, law_post laidOut (by kernel_rfl) rfl rfl Tryz.underlying4 hW' rfl hg⟩

theorem and2 {a b : Bool} (h : a = true) (k : b = true) : (a && b) = true := by rw [h, k]; rfl
set_option maxHeartbeats 4000000 in
theorem closed : joinedFacts Tryz.pinned.checked.prog 9 Tryz.f9 (OpenSpec.ofChange Rows.releaseSuspectsSpec).bare Rows.releaseSuspectsRow = true := by
  unfold joinedFacts
  iterate 31 refine and2 ?_ (by as_aux_lemma => kernel_rfl)
  as_aux_lemma => kernel_rfl
set_option maxHeartbeats 4000000 in
theorem inst : Tryz.f9.isInstance Tryz.pinned.checked.prog Rows.releaseSuspectsRow.origin Rows.releaseSuspectsRow.targs := of_decide_eq_true (by as_aux_lemma => kernel_rfl)
set_option maxHeartbeats 4000000 in
theorem wrap : Tryz.f9.isWrapper Tryz.pinned.checked.prog Rows.releaseSuspectsRow.wrapper Rows.releaseSuspectsRow.mainSum := by
  unfold Func.isWrapper; first | (rw [if_pos (by decide +kernel)]; kernel_rfl) | (rw [if_neg (by decide +kernel)]; exact ⟨rfl, rfl⟩)
set_option maxHeartbeats 4000000 in
theorem said : Rows.ReleaseSuspectsSaid :=
  OpenClaim.holds_of_cond 9 Tryz.f9 rfl rfl rfl rfl rfl rfl rfl ⟨rfl, rfl, rfl, rfl, rfl⟩ rfl rfl rfl rfl rfl (by as_aux_lemma => kernel_rfl) Tryz.func9 closed inst wrap
    (fun os started H enc _ F => by rw [OpenClaim.pre_eq_preRow]; exact lifted os started H enc F)
theorem plain (f : FuncId) (fn : Func) (hf : Tryz.pinned.checked.prog.funcNamed "inquest/inqlaw2.ReleaseSuspects" = some f) (hfn : Tryz.pinned.checked.prog.funcs[f]? = some fn) :
    true = Tryz.pinned.checked.prog.looks [] ∧ ∀ (j : Nat) t, fn.params[j]? = some t → Tryz.pinned.checked.prog.wantsStandIn t = false := by
  obtain rfl : f = 9 := Option.some.inj ((show Tryz.prog.funcNamed "inquest/inqlaw2.ReleaseSuspects" = some 9 by kernel_rfl).symm.trans hf) |>.symm
  obtain rfl : fn = Tryz.f9 := (Option.some.inj (Tryz.func9.symm.trans hfn)).symm
  refine ⟨by kernel_rfl, fun j t ht => ?_⟩
  have hall : Tryz.f9.params.all (fun t => Tryz.prog.wantsStandIn t == false) = true := by kernel_rfl
  have := Array.all_eq_true.1 hall j (Array.getElem?_eq_some_iff.1 ht).1
  rw [(Array.getElem?_eq_some_iff.1 ht).2] at this
  exact (show Tryz.prog.wantsStandIn t = false by simpa using this)
theorem card : Rows.ReleaseSuspectsCardSaid :=
  Claim7.holds_tied_plain_at .later [] _ _ _ _ said (fun _ h => by cases h) (by kernel_rfl) (fun _ h => by cases h) releaseSuspects_row_tie rfl ⟨rfl, rfl⟩ (by kernel_rfl) rfl plain (by kernel_rfl)
#print axioms card
end Go.Proofs.YtpmlgnbbkpplhaaGreatDoor.releaseSuspects
