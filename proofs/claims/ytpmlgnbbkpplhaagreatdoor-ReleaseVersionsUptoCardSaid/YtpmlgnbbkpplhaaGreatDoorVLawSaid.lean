/- The card ReleaseVersionsUptoCardSaid is proved: for all versions and texts of the bulk that the second form names the law answers true. Condition: none beyond the form's own. -/
import Derived.Test.YtpmlgnbbkpplhaaGreatDoorVLaw
import Derived.Test.YtpmlgnbbkpplhaaGreatDoorVOpn
import Derived.Test.YtpmlgnbbkpplhaaGreatDoorELaid2
import Derived.Test.YtpmlgnbbkpplhaaGreatDoorHold
namespace Go.Proofs.YtpmlgnbbkpplhaaGreatDoor.releaseVersions
set_option linter.unusedSimpArgs false
set_option linter.unusedVariables false
set_option maxRecDepth 20000
open Go.ChangeShapes Go.WideShapes Go.ChangeAt Go.RowKit Go.Eng
theorem p10_of {x y : String × DataW Unit} {rest : List (String × DataW Unit)} {W : World} (h : laidMet Tryz.prog (x :: y :: ("internal/strconv.uint64pow10", Rows.laid_internal_strconv_uint64pow10) :: rest) W) : P10 W := by
  have h0 : laidMet Tryz.prog (("internal/strconv.uint64pow10", Lib.tabData .u64 Lib.pow10Tab) :: rest) W := h.tail.tail
  have h1 := Lib.tabIs_of_head (P := Tryz.prog) (g := 3) (by kernel_rfl) (by kernel_rfl) Tryz.underlying285 Tryz.underlying238 (by kernel_rfl) (by kernel_rfl) h0
  have h2 := h1.cell (g := 3) (by kernel_rfl) 0 (by decide)
  refine ⟨h1, ?_⟩
  unfold World.cell? at h2
  cases hg : W.heap[3]? with
  | none => rw [hg] at h2; cases h2
  | some o => exact (Array.getElem?_eq_some_iff.1 hg).1
def arg0 : Array Value := #[.agg #[.string ⟨#[]⟩, .int .i64 0, .int .i64 0, .int .i64 0, .slice none 0 0], .agg #[.string ⟨#[]⟩, .int .i64 0, .int .i64 0, .int .i64 0, .slice none 0 0], .string ⟨#[]⟩]
theorem laid_met (os : Os) : laidMet Tryz.prog Rows.releaseVersionsUptoRow.laid ((laidWorld2 os arg0).forCall (fun _ _ => 0) ⟨#[], arg0, []⟩).memory :=
  laidMet_of_run' 8 (by kernel_rfl) (by kernel_rfl)
theorem reads (os : Os) {H : Type} (enc : TypeId × Value → H) : ∃ places, DataW.whole enc Tryz.prog ((laidWorld2 os arg0).forCall (fun _ _ => 0) ⟨#[], arg0, []⟩).memory Tryz.f4.params.toList Rows.releaseVersionsSpec.vars false arg0.toList 8 = some ([.agg [.lit (.string []), .lit (.int .i64 0), .lit (.int .i64 0), .lit (.int .i64 0), .nil], .agg [.lit (.string []), .lit (.int .i64 0), .lit (.int .i64 0), .lit (.int .i64 0), .nil], .lit (.string [])], [], places) :=
  ⟨[], by kernel_rfl⟩

set_option maxRecDepth 100000 in
theorem lifted (os : Os) (started : os.Started) (H : Type) (enc : TypeId × Value → H) (F : Stop.Interp) :
    ReturnsInHanded {} Tryz.checked os 4 .any ((Rows.OpenSpec.upto Rows.releaseVersionsSpec).preRow enc Tryz.prog Tryz.f4 Rows.releaseVersionsUptoRow.domain false Rows.releaseVersionsUptoRow.laid) (((Rows.OpenSpec.upto Rows.releaseVersionsSpec).at F).post enc Tryz.prog Tryz.f4 false true false false) := by
  obtain ⟨places, hx⟩ := reads os enc
  refine returnsInHanded_of_row (C := Tryz.checked) (s := Rows.OpenSpec.upto Rows.releaseVersionsSpec) ownNone started (by kernel_rfl) Tryz.func4
    (witness_row_at (enc := enc) (C := Tryz.checked) false (laidWorld2 os arg0) arg0 rfl (by kernel_rfl) (by kernel_rfl) (by kernel_rfl)
      (OpenSpec.preRow_of_cond 8 hx (by kernel_rfl) (fun k hk => by cases hk; kernel_rfl) (by kernel_rfl) (laid_met os))) ?_
  intro W base args ds gs before hval0 hW _ hcnd hsz hL hSh _
  have hval : ∀ (j : Nat) t v, Tryz.f4.params[j]? = some t → args[j]? = some v → Value.okWide Tryz.prog W .any base t v := hval0
  have hW' := hW
  obtain ⟨p, q, hA0, hV, rfl, hfz, hnd⟩ := hW
  have hA : DataW.TrodAll enc Tryz.prog W 0 (fun _ => true) true Tryz.f4.params.toList args.toList ds p := hA0
  rw [Tryz.params4] at hA hval
  obtain ⟨v0, vs0, d0, ds0, p0, q0, hargs, rfl, rfl, h0, r0⟩ := trodAll_cons hA
  obtain ⟨v1, vs1, d1, ds1, p1, q1, rfl, rfl, rfl, h1, r1⟩ := trodAll_cons r0
  obtain ⟨v2, vs2, d2, ds2, p2, q2, rfl, rfl, rfl, h2, r2⟩ := trodAll_cons r1
  obtain ⟨rfl, rfl, rfl⟩ := trodAll_nil r2
  obtain rfl : args = #[v0, v1, v2] := by cases args; simp_all
  obtain ⟨rfl, rfl⟩ := trodVars_none hV
  obtain ⟨a, hv_a, h_a, hr_a⟩ := op_ver.op _ _ (pr_of h0 hsz (j := 0) (t := 42) (by rw [Tryz.params4]; rfl) rfl)
  obtain ⟨b, hv_b, h_b, hr_b⟩ := op_ver.op _ _ (pr_of h1 hsz (j := 1) (t := 42) (by rw [Tryz.params4]; rfl) rfl)
  obtain ⟨s, hv_s, h_s, hr_s⟩ := op_s.op _ _ (pr_of h2 hsz (j := 2) (t := 9) (by rw [Tryz.params4]; rfl) rfl)
  obtain rfl := val_agg Tryz.underlying42 (hval 0 42 v0 rfl rfl) hv_a
  obtain rfl := val_agg Tryz.underlying42 (hval 1 42 v1 rfl rfl) hv_b
  obtain rfl := val_one Tryz.underlying9 rfl (hval 2 9 v2 rfl rfl) hv_s
  clear hA0 hval0
  have hlen := reach_len
  have hb := of_decide_eq_true (hcnd _ rfl)
  simp only [List.append_nil, Rows.uptoBulkAll] at hb
  have hc := ReleaseVersions_any a b s W (ver_of h_a hr_a (by omega)) (ver_of h_b hr_b (by omega)) (p10_of hL)
  refine hc.mono fun e W' ⟨he, hg⟩ => ?_
  subst he
  exact ⟨_, rfl, law_post laidOut (by kernel_rfl) rfl rfl Tryz.underlying4 hW' rfl hg⟩

theorem said : Rows.ReleaseVersionsUptoSaid :=
  OpenClaim.holds_of_cond 4 Tryz.f4 rfl rfl rfl rfl rfl rfl rfl ⟨rfl, rfl, rfl, rfl, rfl⟩ rfl rfl rfl rfl rfl (by kernel_rfl) Tryz.func4 (by kernel_rfl)
    (of_decide_eq_true (by kernel_rfl)) (by unfold Func.isWrapper; first | (rw [if_pos (by decide +kernel)]; kernel_rfl) | (rw [if_neg (by decide +kernel)]; exact ⟨rfl, rfl⟩))
    (fun os started H enc _ F => by rw [OpenClaim.pre_eq_preRow]; exact lifted os started H enc F)
theorem plain (f : FuncId) (fn : Func) (hf : Tryz.pinned.checked.prog.funcNamed "inquest/inqlaw2.ReleaseVersions" = some f) (hfn : Tryz.pinned.checked.prog.funcs[f]? = some fn) :
    true = Tryz.pinned.checked.prog.looks [] ∧ ∀ (j : Nat) t, fn.params[j]? = some t → Tryz.pinned.checked.prog.wantsStandIn t = false := by
  obtain rfl : f = 4 := Option.some.inj ((show Tryz.prog.funcNamed "inquest/inqlaw2.ReleaseVersions" = some 4 by kernel_rfl).symm.trans hf) |>.symm
  obtain rfl : fn = Tryz.f4 := (Option.some.inj (Tryz.func4.symm.trans hfn)).symm
  refine ⟨by kernel_rfl, fun j t ht => ?_⟩
  have hall : Tryz.f4.params.all (fun t => Tryz.prog.wantsStandIn t == false) = true := by kernel_rfl
  have := Array.all_eq_true.1 hall j (Array.getElem?_eq_some_iff.1 ht).1
  rw [(Array.getElem?_eq_some_iff.1 ht).2] at this
  exact (show Tryz.prog.wantsStandIn t = false by simpa using this)
theorem card : Rows.ReleaseVersionsUptoCardSaid :=
  Claim7.holds_tied_plain_at .later [] _ _ _ _ said (fun _ h => by cases h) (by kernel_rfl) (fun _ h => by cases h) releaseVersionsUpto_row_tie rfl ⟨rfl, rfl⟩ (by kernel_rfl) rfl plain (by kernel_rfl)
#print axioms card
end Go.Proofs.YtpmlgnbbkpplhaaGreatDoor.releaseVersions
