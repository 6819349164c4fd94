/- The card SymbolResolvesCardSaid is proved: for all frames, modules and tables Resolve and Missing are those of the reference. Condition: none beyond the form's own. -/
import Derived.Test.YtofolhnecfkjkaaDoorLst
import Derived.Test.YtofolhnecfkjkaaDoorOpenRes
import Derived.Test.YtofolhnecfkjkaaDoorLaid
import Derived.Test.YtofolhnecfkjkaaDoorHold
namespace Go.Proofs.YtofolhnecfkjkaaDoor.symbolResolves
set_option linter.unusedSimpArgs false
set_option linter.unusedVariables false
set_option maxRecDepth 20000
open Go.ChangeShapes Go.WideShapes Go.ChangeAt Go.RowKit Go.Eng
def arg0 : Array Value := #[.slice none 0 0, .slice none 0 0, .slice none 0 0]
theorem laid_met (os : Os) : laidMet Tryd.prog Rows.symbolResolvesRow.laid ((laidWorld os arg0).forCall (fun _ _ => 0) ⟨#[], arg0, []⟩).memory :=
  laidMet_of_run' 8 (by kernel_rfl) (by kernel_rfl)
theorem reads (os : Os) {H : Type} (enc : TypeId × Value → H) : ∃ places, DataW.whole enc Tryd.prog ((laidWorld os arg0).forCall (fun _ _ => 0) ⟨#[], arg0, []⟩).memory Tryd.f6.params.toList Rows.symbolResolvesSpec.vars false arg0.toList 8 = some ([.nil, .nil, .nil], [], places) :=
  ⟨[], by kernel_rfl⟩

set_option maxRecDepth 100000 in
theorem lifted (os : Os) (started : os.Started) (H : Type) (enc : TypeId × Value → H) (F : Stop.Interp) :
    ReturnsInHanded {} Tryd.checked os 6 .any ((OpenSpec.ofChange Rows.symbolResolvesSpec).preRow enc Tryd.prog Tryd.f6 Rows.symbolResolvesRow.domain false Rows.symbolResolvesRow.laid) (((OpenSpec.ofChange Rows.symbolResolvesSpec).at F).post enc Tryd.prog Tryd.f6 false true false false) := by
  obtain ⟨places, hx⟩ := reads os enc
  refine returnsInHanded_of_row (C := Tryd.checked) (s := OpenSpec.ofChange Rows.symbolResolvesSpec) ownNone started (by kernel_rfl) Tryd.func6
    (witness_row_at (enc := enc) (C := Tryd.checked) false (laidWorld os arg0) arg0 rfl (by kernel_rfl) (by kernel_rfl) (by kernel_rfl)
      (OpenSpec.preRow_of_cond 8 hx (by kernel_rfl) (fun k hk => by cases hk) (by kernel_rfl) (laid_met os))) ?_
  intro W base args ds gs before hval0 hW _ _ hsz hL hSh _
  have hval : ∀ (j : Nat) t v, Tryd.f6.params[j]? = some t → args[j]? = some v → Value.okWide Tryd.prog W .any base t v := hval0
  have hW' := hW
  obtain ⟨p, q, hA0, hV, rfl, hfz, hnd⟩ := hW
  have hA : DataW.TrodAll enc Tryd.prog W 0 (fun _ => true) true Tryd.f6.params.toList args.toList ds p := hA0
  rw [Tryd.params6] at hA hval
  obtain ⟨v0, vs0, d0, ds0, p0, q0, hargs, rfl, rfl, h0, r0⟩ := trodAll_cons hA
  obtain ⟨v1, vs1, d1, ds1, p1, q1, rfl, rfl, rfl, h1, r1⟩ := trodAll_cons r0
  obtain ⟨v2, vs2, d2, ds2, p2, q2, rfl, rfl, rfl, h2, r2⟩ := trodAll_cons r1
  obtain ⟨rfl, rfl, rfl⟩ := trodAll_nil r2
  obtain rfl : args = #[v0, v1, v2] := by cases args; simp_all
  obtain ⟨rfl, rfl⟩ := trodVars_none hV
  obtain ⟨fs, hv_fs, h_fs, _⟩ := op_frms.op _ _ (pr_of h0 hsz (j := 0) (t := 57) (by rw [Tryd.params6]; rfl) rfl)
  obtain ⟨ms, hv_ms, h_ms, _⟩ := op_modl.op _ _ (pr_of h1 hsz (j := 1) (t := 28) (by rw [Tryd.params6]; rfl) rfl)
  obtain ⟨ts, hv_ts, h_ts, _⟩ := op_tabs.op _ _ (pr_of h2 hsz (j := 2) (t := 58) (by rw [Tryd.params6]; rfl) rfl)
  obtain rfl := val_one Tryd.underlying57 rfl (hval 0 57 v0 rfl rfl) hv_fs
  obtain rfl := val_one Tryd.underlying28 rfl (hval 1 28 v1 rfl rfl) hv_ms
  obtain rfl := val_one Tryd.underlying58 rfl (hval 2 58 v2 rfl rfl) hv_ts
  clear hA0 hval0
  have hlen := reach_len
  have hc := SymbolResolves_any fs ms ts W h_fs h_ms h_ts
  refine hc.mono fun e W' ⟨he, hg⟩ => ?_
  subst he
  exact ⟨_, rfl, law_post laidOut (by kernel_rfl) rfl rfl Tryd.underlying4 hW' rfl hg⟩

theorem said : Rows.SymbolResolvesSaid :=
  OpenClaim.holds_of_cond 6 Tryd.f6 rfl rfl rfl rfl rfl rfl rfl ⟨rfl, rfl, rfl, rfl, rfl⟩ rfl rfl rfl rfl rfl (by kernel_rfl) Tryd.func6 (by kernel_rfl)
    (of_decide_eq_true (by kernel_rfl)) (by unfold Func.isWrapper; first | (rw [if_pos (by decide +kernel)]; kernel_rfl) | (rw [if_neg (by decide +kernel)]; exact ⟨rfl, rfl⟩))
    (fun os started H enc _ F => by rw [OpenClaim.pre_eq_preRow]; exact lifted os started H enc F)
theorem plain (f : FuncId) (fn : Func) (hf : Tryd.pinned.checked.prog.funcNamed "inquest/inqlaw2.SymbolResolves" = some f) (hfn : Tryd.pinned.checked.prog.funcs[f]? = some fn) :
    false = Tryd.pinned.checked.prog.looks [] ∧ ∀ (j : Nat) t, fn.params[j]? = some t → Tryd.pinned.checked.prog.wantsStandIn t = false := by
  obtain rfl : f = 6 := Option.some.inj ((show Tryd.prog.funcNamed "inquest/inqlaw2.SymbolResolves" = some 6 by kernel_rfl).symm.trans hf) |>.symm
  obtain rfl : fn = Tryd.f6 := (Option.some.inj (Tryd.func6.symm.trans hfn)).symm
  refine ⟨by kernel_rfl, fun j t ht => ?_⟩
  have hall : Tryd.f6.params.all (fun t => Tryd.prog.wantsStandIn t == false) = true := by kernel_rfl
  have := Array.all_eq_true.1 hall j (Array.getElem?_eq_some_iff.1 ht).1
  rw [(Array.getElem?_eq_some_iff.1 ht).2] at this
  exact (show Tryd.prog.wantsStandIn t = false by simpa using this)
theorem card : Rows.SymbolResolvesCardSaid :=
  Claim7.holds_tied_plain_at .later [] _ _ _ _ said (fun _ h => by cases h) (by kernel_rfl) (fun _ h => by cases h) symbolResolves_row_tie rfl ⟨rfl, rfl⟩ (by kernel_rfl) rfl plain (by kernel_rfl)
#print axioms card
end Go.Proofs.YtofolhnecfkjkaaDoor.symbolResolves
