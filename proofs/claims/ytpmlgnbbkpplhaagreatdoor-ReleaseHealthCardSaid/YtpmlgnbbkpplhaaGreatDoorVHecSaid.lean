/- The card ReleaseHealthCardSaid is proved: for all sessions and moments the law answers true. Condition: none beyond the form's own. -/
import Derived.Test.YtpmlgnbbkpplhaaGreatDoorHold
import Derived.Test.YtpmlgnbbkpplhaaGreatDoorPk5
namespace Go.Proofs.YtpmlgnbbkpplhaaGreatDoor.releaseHealth
set_option linter.unusedSimpArgs false
set_option linter.unusedVariables false
set_option maxRecDepth 20000
open Go.ChangeShapes Go.WideShapes Go.ChangeAt Go.RowKit Go.Eng
theorem p10_of {x y : String × DataW Unit} {rest : List (String × DataW Unit)} {W : World} (h : laidMet Tryz.prog (x :: y :: ("internal/strconv.uint64pow10", Rows.laid_internal_strconv_uint64pow10) :: rest) W) : P10 W := by
  have h0 : laidMet Tryz.prog (("internal/strconv.uint64pow10", Lib.tabData .u64 Lib.pow10Tab) :: rest) W := h.tail.tail
  have h1 := Lib.tabIs_of_head (P := Tryz.prog) (g := 3) (by kernel_rfl) (by kernel_rfl) Tryz.underlying285 Tryz.underlying238 (by kernel_rfl) (by kernel_rfl) h0
  have h2 := h1.cell (g := 3) (by kernel_rfl) 0 (by decide)
  refine ⟨h1, ?_⟩
  unfold World.cell? at h2
  cases hg : W.heap[3]? with
  | none => rw [hg] at h2; cases h2
  | some o => exact (Array.getElem?_eq_some_iff.1 hg).1
theorem op_ses {H : Type} {enc : TypeId × Value → H} {w : World} : Opn enc Tryz.prog w 87 SSes.enc (fun s => s.us.length ≤ 4611686018427387904) (fun _ _ => True) :=
  (opn_struct Tryz.underlying87 co87 (opf_cons op_i rfl co3 (opf_cons op_i rfl co3 (opf_cons op_s rfl co9 (opf_cons op_i rfl co3 (opf_cons op_s rfl co9 opf_nil)))))).map
    (fun p => (⟨p.1, p.2.1, p.2.2.1, p.2.2.2.1, p.2.2.2.2.1⟩ : SSes)) (fun _ => rfl) (fun _ h => Nat.le_trans h.2.2.2.2.1 reach_len) (fun _ _ _ => trivial)
theorem op_sess {H : Type} {enc : TypeId × Value → H} {w : World} : Opn enc Tryz.prog w 85 slV (SesOk w) (fun _ _ => True) :=
  (opn_slice Tryz.underlying85 co87 (by decide) (by rw [bo87]; decide) (fun _ => rfl) op_ses).map (fun s => s) (fun _ => rfl)
    (fun s h => ⟨h.1, Nat.le_trans h.2.1 reach_len, h.2.2⟩) (fun _ _ _ => trivial)
def arg0 : Array Value := #[.slice none 0 0, .int .i64 0, .int .i64 0]
theorem laid_met (os : Os) : laidMet Tryz.prog Rows.releaseHealthRow.laid ((laidWorld2 os arg0).forCall (fun _ _ => 0) ⟨#[], arg0, []⟩).memory :=
  laidMet_of_run' 8 (by kernel_rfl) (by kernel_rfl)
theorem reads (os : Os) {H : Type} (enc : TypeId × Value → H) : ∃ places, DataW.whole enc Tryz.prog ((laidWorld2 os arg0).forCall (fun _ _ => 0) ⟨#[], arg0, []⟩).memory Tryz.f10.params.toList Rows.releaseHealthSpec.vars false arg0.toList 8 = some ([.nil, .lit (.int .i64 0), .lit (.int .i64 0)], [], places) :=
  ⟨[], by kernel_rfl⟩

set_option maxRecDepth 100000 in
theorem lifted (os : Os) (started : os.Started) (H : Type) (enc : TypeId × Value → H) (F : Stop.Interp) :
    ReturnsInHanded {} Tryz.checked os 10 .any ((OpenSpec.ofChange Rows.releaseHealthSpec).preRow enc Tryz.prog Tryz.f10 Rows.releaseHealthRow.domain false Rows.releaseHealthRow.laid) (((OpenSpec.ofChange Rows.releaseHealthSpec).at F).post enc Tryz.prog Tryz.f10 false true false false) := by
  obtain ⟨places, hx⟩ := reads os enc
  refine returnsInHanded_of_row (C := Tryz.checked) (s := OpenSpec.ofChange Rows.releaseHealthSpec) ownNone started (by kernel_rfl) Tryz.func10
    (witness_row_at (enc := enc) (C := Tryz.checked) false (laidWorld2 os arg0) arg0 rfl (by kernel_rfl) (by kernel_rfl) (by kernel_rfl)
      (OpenSpec.preRow_of_cond 8 hx (by kernel_rfl) (fun k hk => by cases hk) (by kernel_rfl) (laid_met os))) ?_
  intro W base args ds gs before hval0 hW _ _ hsz hL hSh _
  have hval : ∀ (j : Nat) t v, Tryz.f10.params[j]? = some t → args[j]? = some v → Value.okWide Tryz.prog W .any base t v := hval0
  have hW' := hW
  obtain ⟨p, q, hA0, hV, rfl, hfz, hnd⟩ := hW
  have hA : DataW.TrodAll enc Tryz.prog W 0 (fun _ => true) true Tryz.f10.params.toList args.toList ds p := hA0
  rw [Tryz.params10] at hA hval
  obtain ⟨v0, vs0, d0, ds0, p0, q0, hargs, rfl, rfl, h0, r0⟩ := trodAll_cons hA
  obtain ⟨v1, vs1, d1, ds1, p1, q1, rfl, rfl, rfl, h1, r1⟩ := trodAll_cons r0
  obtain ⟨v2, vs2, d2, ds2, p2, q2, rfl, rfl, rfl, h2, r2⟩ := trodAll_cons r1
  obtain ⟨rfl, rfl, rfl⟩ := trodAll_nil r2
  obtain rfl : args = #[v0, v1, v2] := by cases args; simp_all
  obtain ⟨rfl, rfl⟩ := trodVars_none hV
  obtain ⟨s, hv_s, h_s, hr_s⟩ := op_sess.op _ _ (pr_of h0 hsz (j := 0) (t := 85) (by rw [Tryz.params10]; rfl) rfl)
  obtain ⟨a, hv_a, h_a, hr_a⟩ := op_i.op _ _ (pr_of h1 hsz (j := 1) (t := 3) (by rw [Tryz.params10]; rfl) rfl)
  obtain ⟨b, hv_b, h_b, hr_b⟩ := op_i.op _ _ (pr_of h2 hsz (j := 2) (t := 3) (by rw [Tryz.params10]; rfl) rfl)
  obtain rfl := val_one Tryz.underlying85 rfl (hval 0 85 v0 rfl rfl) hv_s
  obtain rfl := val_one Tryz.underlying3 rfl (hval 1 3 v1 rfl rfl) hv_a
  obtain rfl := val_one Tryz.underlying3 rfl (hval 2 3 v2 rfl rfl) hv_b
  clear hA0 hval0
  have hlen := reach_len
  have hc := ReleaseHealth_any s a b W h_s (p10_of hL)
  refine hc.mono fun e W' ⟨he, hg⟩ => ?_
  subst he
  exact ⟨_, rfl, law_post laidOut (by kernel_rfl) rfl rfl Tryz.underlying4 hW' rfl hg⟩

theorem and2 {a b : Bool} (h : a = true) (k : b = true) : (a && b) = true := by rw [h, k]; rfl
set_option maxHeartbeats 4000000 in
theorem closed : joinedFacts Tryz.pinned.checked.prog 10 Tryz.f10 (OpenSpec.ofChange Rows.releaseHealthSpec).bare Rows.releaseHealthRow = true := by
  unfold joinedFacts
  iterate 31 refine and2 ?_ (by as_aux_lemma => kernel_rfl)
  as_aux_lemma => kernel_rfl
set_option maxHeartbeats 4000000 in
theorem inst : Tryz.f10.isInstance Tryz.pinned.checked.prog Rows.releaseHealthRow.origin Rows.releaseHealthRow.targs := of_decide_eq_true (by as_aux_lemma => kernel_rfl)
set_option maxHeartbeats 4000000 in
theorem wrap : Tryz.f10.isWrapper Tryz.pinned.checked.prog Rows.releaseHealthRow.wrapper Rows.releaseHealthRow.mainSum := by
  unfold Func.isWrapper; first | (rw [if_pos (by decide +kernel)]; kernel_rfl) | (rw [if_neg (by decide +kernel)]; exact ⟨rfl, rfl⟩)
set_option maxHeartbeats 4000000 in
theorem said : Rows.ReleaseHealthSaid :=
  OpenClaim.holds_of_cond 10 Tryz.f10 rfl rfl rfl rfl rfl rfl rfl ⟨rfl, rfl, rfl, rfl, rfl⟩ rfl rfl rfl rfl rfl (by as_aux_lemma => kernel_rfl) Tryz.func10 closed inst wrap
    (fun os started H enc _ F => by rw [OpenClaim.pre_eq_preRow]; exact lifted os started H enc F)
theorem plain (f : FuncId) (fn : Func) (hf : Tryz.pinned.checked.prog.funcNamed "inquest/inqlaw2.ReleaseHealth" = some f) (hfn : Tryz.pinned.checked.prog.funcs[f]? = some fn) :
    true = Tryz.pinned.checked.prog.looks [] ∧ ∀ (j : Nat) t, fn.params[j]? = some t → Tryz.pinned.checked.prog.wantsStandIn t = false := by
  obtain rfl : f = 10 := Option.some.inj ((show Tryz.prog.funcNamed "inquest/inqlaw2.ReleaseHealth" = some 10 by kernel_rfl).symm.trans hf) |>.symm
  obtain rfl : fn = Tryz.f10 := (Option.some.inj (Tryz.func10.symm.trans hfn)).symm
  refine ⟨by kernel_rfl, fun j t ht => ?_⟩
  have hall : Tryz.f10.params.all (fun t => Tryz.prog.wantsStandIn t == false) = true := by kernel_rfl
  have := Array.all_eq_true.1 hall j (Array.getElem?_eq_some_iff.1 ht).1
  rw [(Array.getElem?_eq_some_iff.1 ht).2] at this
  exact (show Tryz.prog.wantsStandIn t = false by simpa using this)
theorem card : Rows.ReleaseHealthCardSaid :=
  Claim7.holds_tied_plain_at .later [] _ _ _ _ said (fun _ h => by cases h) (by kernel_rfl) (fun _ h => by cases h) releaseHealth_row_tie rfl ⟨rfl, rfl⟩ (by kernel_rfl) rfl plain (by kernel_rfl)
#print axioms card
end Go.Proofs.YtpmlgnbbkpplhaaGreatDoor.releaseHealth
