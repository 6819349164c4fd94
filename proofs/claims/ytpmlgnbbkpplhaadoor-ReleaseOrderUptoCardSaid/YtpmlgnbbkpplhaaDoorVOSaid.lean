/- The card ReleaseOrderUptoCardSaid is proved: for all lists of versions of the bulk that the second form names the law answers true. Condition: none beyond the form's own. -/
import Derived.Test.YtpmlgnbbkpplhaaDoorVOLaw
import Derived.Test.YtpmlgnbbkpplhaaDoorVOpn
import Derived.Test.YtpmlgnbbkpplhaaDoorELaid2
import Derived.Test.YtpmlgnbbkpplhaaDoorHold
namespace Go.Proofs.YtpmlgnbbkpplhaaDoor.releaseOrder
set_option linter.unusedSimpArgs false
set_option linter.unusedVariables false
set_option maxRecDepth 20000
open Go.ChangeShapes Go.WideShapes Go.ChangeAt Go.RowKit Go.Eng
theorem p10_of {x y : String × DataW Unit} {rest : List (String × DataW Unit)} {W : World} (h : laidMet Tryd.prog (x :: y :: ("internal/strconv.uint64pow10", Rows.laid_internal_strconv_uint64pow10) :: rest) W) : P10 W := by
  have h0 : laidMet Tryd.prog (("internal/strconv.uint64pow10", Lib.tabData .u64 Lib.pow10Tab) :: rest) W := h.tail.tail
  have h1 := Lib.tabIs_of_head (P := Tryd.prog) (g := 1) (by kernel_rfl) (by kernel_rfl) Tryd.underlying187 Tryd.underlying128 (by kernel_rfl) (by kernel_rfl) h0
  have h2 := h1.cell (g := 1) (by kernel_rfl) 0 (by decide)
  refine ⟨h1, ?_⟩
  unfold World.cell? at h2
  cases hg : W.heap[1]? with
  | none => rw [hg] at h2; cases h2
  | some o => exact (Array.getElem?_eq_some_iff.1 hg).1
def versG (w : World) (s : Sl SVer) : Prop := s.Ok SVer.enc 5 w ∧ ∀ v ∈ s.l, verG w v
def versR {H : Type} (s : Sl SVer) (d : DataW H) : Prop := s.l.length ≤ Rows.uptoBulk d ∧ ∀ v ∈ s.l, ∃ x : DataW H, verR v x ∧ Rows.uptoBulk x ≤ Rows.uptoBulk d
theorem op_vers {H : Type} {enc : TypeId × Value → H} {w : World} : Opn enc Tryd.prog w 39 slV (versG w) versR :=
  (opn_slice Tryd.underlying39 co42 (by decide) (by rw [bo42]; decide) (fun _ => rfl) op_ver).map (fun s => s) (fun _ => rfl)
    (fun s h => ⟨h.1, h.2.2⟩) (fun s d h => sl_bulk h)
theorem vers_of {H : Type} {w : World} {s : Sl SVer} {d : DataW H} (h : versG w s) (hr : versR s d) (hb : Rows.uptoBulk d ≤ 1048576) : VersOk w s :=
  ⟨h.1, by have := h.1.t.len; have := hr.1; omega, fun v hv => by
    obtain ⟨x, h1, h2⟩ := hr.2 v hv
    exact ver_of (h.2 v hv) h1 (Nat.le_trans h2 hb)⟩
def arg0 : Array Value := #[.slice none 0 0]
theorem laid_met (os : Os) : laidMet Tryd.prog Rows.releaseOrderUptoRow.laid ((laidWorld2 os arg0).forCall (fun _ _ => 0) ⟨#[], arg0, []⟩).memory :=
  laidMet_of_run' 8 (by kernel_rfl) (by kernel_rfl)
theorem reads (os : Os) {H : Type} (enc : TypeId × Value → H) : ∃ places, DataW.whole enc Tryd.prog ((laidWorld2 os arg0).forCall (fun _ _ => 0) ⟨#[], arg0, []⟩).memory Tryd.f4.params.toList Rows.releaseOrderSpec.vars false arg0.toList 8 = some ([.nil], [], places) :=
  ⟨[], by kernel_rfl⟩

set_option maxRecDepth 100000 in
theorem lifted (os : Os) (started : os.Started) (H : Type) (enc : TypeId × Value → H) (F : Stop.Interp) :
    ReturnsInHanded {} Tryd.checked os 4 .any ((Rows.OpenSpec.upto Rows.releaseOrderSpec).preRow enc Tryd.prog Tryd.f4 Rows.releaseOrderUptoRow.domain false Rows.releaseOrderUptoRow.laid) (((Rows.OpenSpec.upto Rows.releaseOrderSpec).at F).post enc Tryd.prog Tryd.f4 false true false false) := by
  obtain ⟨places, hx⟩ := reads os enc
  refine returnsInHanded_of_row (C := Tryd.checked) (s := Rows.OpenSpec.upto Rows.releaseOrderSpec) ownNone started (by kernel_rfl) Tryd.func4
    (witness_row_at (enc := enc) (C := Tryd.checked) false (laidWorld2 os arg0) arg0 rfl (by kernel_rfl) (by kernel_rfl) (by kernel_rfl)
      (OpenSpec.preRow_of_cond 8 hx (by kernel_rfl) (fun k hk => by cases hk; kernel_rfl) (by kernel_rfl) (laid_met os))) ?_
  intro W base args ds gs before hval0 hW _ hcnd hsz hL hSh _
  have hval : ∀ (j : Nat) t v, Tryd.f4.params[j]? = some t → args[j]? = some v → Value.okWide Tryd.prog W .any base t v := hval0
  have hW' := hW
  obtain ⟨p, q, hA0, hV, rfl, hfz, hnd⟩ := hW
  have hA : DataW.TrodAll enc Tryd.prog W 0 (fun _ => true) true Tryd.f4.params.toList args.toList ds p := hA0
  rw [Tryd.params4] at hA hval
  obtain ⟨v0, vs0, d0, ds0, p0, q0, hargs, rfl, rfl, h0, r0⟩ := trodAll_cons hA
  obtain ⟨rfl, rfl, rfl⟩ := trodAll_nil r0
  obtain rfl : args = #[v0] := by cases args; simp_all
  obtain ⟨rfl, rfl⟩ := trodVars_none hV
  obtain ⟨a, hv_a, h_a, hr_a⟩ := op_vers.op _ _ (pr_of h0 hsz (j := 0) (t := 39) (by rw [Tryd.params4]; rfl) rfl)
  obtain rfl := val_one Tryd.underlying39 rfl (hval 0 39 v0 rfl rfl) hv_a
  clear hA0 hval0
  have hlen := reach_len
  have hb := of_decide_eq_true (hcnd _ rfl)
  simp only [List.append_nil, Rows.uptoBulkAll] at hb
  have hc := ReleaseOrder_any a W (vers_of h_a hr_a (by omega)) (p10_of hL)
  refine hc.mono fun e W' ⟨he, hg⟩ => ?_
  subst he
  exact ⟨_, rfl, law_post laidOut (by kernel_rfl) rfl rfl Tryd.underlying4 hW' rfl hg⟩

theorem said : Rows.ReleaseOrderUptoSaid :=
  OpenClaim.holds_of_cond 4 Tryd.f4 rfl rfl rfl rfl rfl rfl rfl ⟨rfl, rfl, rfl, rfl, rfl⟩ rfl rfl rfl rfl rfl (by kernel_rfl) Tryd.func4 (by kernel_rfl)
    (of_decide_eq_true (by kernel_rfl)) (by unfold Func.isWrapper; first | (rw [if_pos (by decide +kernel)]; kernel_rfl) | (rw [if_neg (by decide +kernel)]; exact ⟨rfl, rfl⟩))
    (fun os started H enc _ F => by rw [OpenClaim.pre_eq_preRow]; exact lifted os started H enc F)
theorem plain (f : FuncId) (fn : Func) (hf : Tryd.pinned.checked.prog.funcNamed "inquest/inqkeep2.ReleaseOrder" = some f) (hfn : Tryd.pinned.checked.prog.funcs[f]? = some fn) :
    true = Tryd.pinned.checked.prog.looks [] ∧ ∀ (j : Nat) t, fn.params[j]? = some t → Tryd.pinned.checked.prog.wantsStandIn t = false := by
  obtain rfl : f = 4 := Option.some.inj ((show Tryd.prog.funcNamed "inquest/inqkeep2.ReleaseOrder" = some 4 by kernel_rfl).symm.trans hf) |>.symm
  obtain rfl : fn = Tryd.f4 := (Option.some.inj (Tryd.func4.symm.trans hfn)).symm
  refine ⟨by kernel_rfl, fun j t ht => ?_⟩
  have hall : Tryd.f4.params.all (fun t => Tryd.prog.wantsStandIn t == false) = true := by kernel_rfl
  have := Array.all_eq_true.1 hall j (Array.getElem?_eq_some_iff.1 ht).1
  rw [(Array.getElem?_eq_some_iff.1 ht).2] at this
  exact (show Tryd.prog.wantsStandIn t = false by simpa using this)
theorem card : Rows.ReleaseOrderUptoCardSaid :=
  Claim7.holds_tied_plain_at .later [] _ _ _ _ said (fun _ h => by cases h) (by kernel_rfl) (fun _ h => by cases h) releaseOrderUpto_row_tie rfl ⟨rfl, rfl⟩ (by kernel_rfl) rfl plain (by kernel_rfl)
#print axioms card
end Go.Proofs.YtpmlgnbbkpplhaaDoor.releaseOrder
