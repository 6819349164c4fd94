/- The card ReleaseOwnersCardSaid is proved: for all owners, patterns, paths and texts the law answers true. Condition: none beyond the form's own. -/
import Derived.Test.YtoeipmepmlikcaaDoorROwners
import Derived.Test.YtoeipmepmlikcaaDoorEOpen
import Derived.Test.YtoeipmepmlikcaaDoorELaid
import Derived.Test.YtoeipmepmlikcaaDoorHold
import Derived.Test.YtoeipmepmlikcaaDoorOpnB
namespace Go.Proofs.YtoeipmepmlikcaaDoor.releaseOwners
set_option linter.unusedSimpArgs false
set_option linter.unusedVariables false
set_option maxRecDepth 20000
open Go.ChangeShapes Go.WideShapes Go.ChangeAt Go.RowKit Go.Eng
theorem op_strs {H : Type} {enc : TypeId × Value → H} {w : World} : Opn enc Tryd.prog w 25 slV (fun s : Sl (List UInt8) => s.Ok strE 1 w ∧ s.q ≤ 4611686018427387904) (fun _ _ => True) :=
  (opn_slice Tryd.underlying25 co9 (by decide) (by rw [bo9]; decide) (fun _ => rfl) op_s).map (fun s => s) (fun _ => rfl) (fun s h => ⟨h.1, Nat.le_trans h.2.1 reach_len⟩) (fun _ _ _ => trivial)
theorem op_owner {H : Type} {enc : TypeId × Value → H} {w : World} : Opn enc Tryd.prog w 89 SOwner.enc (OwnOk w) (fun _ _ => True) :=
  (opn_struct Tryd.underlying89 co89 (opf_cons op_s rfl co9 (opf_cons op_strs rfl co25 opf_nil))).map
    (fun p => (⟨p.1, p.2.1⟩ : SOwner)) (fun _ => rfl) (fun _ h => ⟨Nat.le_trans h.1 reach_len, h.2.1.1, h.2.1.2⟩) (fun _ _ _ => trivial)
theorem op_ownersB {H : Type} {enc : TypeId × Value → H} {w : World} : Opn enc Tryd.prog w 22 slV (fun s : Sl SOwner => OwnsOk w s ∧ s.q * 40 ≤ 140737488351232) (fun _ _ => True) :=
  (opn_sliceB Tryd.underlying22 co89 (by decide) (by rw [bo89]; decide) (fun _ => rfl) op_owner).map (fun s => s) (fun _ => rfl)
    (fun s h => ⟨⟨h.1, Nat.le_trans h.2.1 reach_len, h.2.2.2⟩, by have := h.2.2.1; rw [bo89] at this; exact this⟩) (fun _ _ _ => trivial)
def arg0 : Array Value := #[.slice none 0 0, .string ⟨#[]⟩, .string ⟨#[]⟩, .string ⟨#[]⟩]
theorem laid_met (os : Os) : laidMet Tryd.prog Rows.releaseOwnersRow.laid ((laidWorld os arg0).forCall (fun _ _ => 0) ⟨#[], arg0, []⟩).memory :=
  laidMet_of_run' 8 (by kernel_rfl) (by kernel_rfl)
theorem reads (os : Os) {H : Type} (enc : TypeId × Value → H) : ∃ places, DataW.whole enc Tryd.prog ((laidWorld os arg0).forCall (fun _ _ => 0) ⟨#[], arg0, []⟩).memory Tryd.f3.params.toList Rows.releaseOwnersSpec.vars false arg0.toList 8 = some ([.nil, .lit (.string []), .lit (.string []), .lit (.string [])], [], places) :=
  ⟨[], by kernel_rfl⟩

set_option maxRecDepth 100000 in
theorem lifted (os : Os) (started : os.Started) (H : Type) (enc : TypeId × Value → H) (F : Stop.Interp) :
    ReturnsInHanded {} Tryd.checked os 3 .any ((OpenSpec.ofChange Rows.releaseOwnersSpec).preRow enc Tryd.prog Tryd.f3 Rows.releaseOwnersRow.domain false Rows.releaseOwnersRow.laid) (((OpenSpec.ofChange Rows.releaseOwnersSpec).at F).post enc Tryd.prog Tryd.f3 false true false false) := by
  obtain ⟨places, hx⟩ := reads os enc
  refine returnsInHanded_of_row (C := Tryd.checked) (s := OpenSpec.ofChange Rows.releaseOwnersSpec) ownNone started (by kernel_rfl) Tryd.func3
    (witness_row_at (enc := enc) (C := Tryd.checked) false (laidWorld os arg0) arg0 rfl (by kernel_rfl) (by kernel_rfl) (by kernel_rfl)
      (OpenSpec.preRow_of_cond 8 hx (by kernel_rfl) (fun k hk => by cases hk) (by kernel_rfl) (laid_met os))) ?_
  intro W base args ds gs before hval0 hW _ _ hsz hL hSh _
  have hval : ∀ (j : Nat) t v, Tryd.f3.params[j]? = some t → args[j]? = some v → Value.okWide Tryd.prog W .any base t v := hval0
  have hW' := hW
  obtain ⟨p, q, hA0, hV, rfl, hfz, hnd⟩ := hW
  have hA : DataW.TrodAll enc Tryd.prog W 0 (fun _ => true) true Tryd.f3.params.toList args.toList ds p := hA0
  rw [Tryd.params3] at hA hval
  obtain ⟨v0, vs0, d0, ds0, p0, q0, hargs, rfl, rfl, h0, r0⟩ := trodAll_cons hA
  obtain ⟨v1, vs1, d1, ds1, p1, q1, rfl, rfl, rfl, h1, r1⟩ := trodAll_cons r0
  obtain ⟨v2, vs2, d2, ds2, p2, q2, rfl, rfl, rfl, h2, r2⟩ := trodAll_cons r1
  obtain ⟨v3, vs3, d3, ds3, p3, q3, rfl, rfl, rfl, h3, r3⟩ := trodAll_cons r2
  obtain ⟨rfl, rfl, rfl⟩ := trodAll_nil r3
  obtain rfl : args = #[v0, v1, v2, v3] := by cases args; simp_all
  obtain ⟨rfl, rfl⟩ := trodVars_none hV
  obtain ⟨a, hv_a, h_a, _⟩ := op_ownersB.op _ _ (pr_of h0 hsz (j := 0) (t := 22) (by rw [Tryd.params3]; rfl) rfl)
  obtain ⟨p, hv_p, h_p, _⟩ := op_s.op _ _ (pr_of h1 hsz (j := 1) (t := 9) (by rw [Tryd.params3]; rfl) rfl)
  obtain ⟨h, hv_h, h_h, _⟩ := op_s.op _ _ (pr_of h2 hsz (j := 2) (t := 9) (by rw [Tryd.params3]; rfl) rfl)
  obtain ⟨s, hv_s, h_s, _⟩ := op_s.op _ _ (pr_of h3 hsz (j := 3) (t := 9) (by rw [Tryd.params3]; rfl) rfl)
  obtain rfl := val_one Tryd.underlying22 rfl (hval 0 22 v0 rfl rfl) hv_a
  obtain rfl := val_one Tryd.underlying9 rfl (hval 1 9 v1 rfl rfl) hv_p
  obtain rfl := val_one Tryd.underlying9 rfl (hval 2 9 v2 rfl rfl) hv_h
  obtain rfl := val_one Tryd.underlying9 rfl (hval 3 9 v3 rfl rfl) hv_s
  clear hA0 hval0
  have hlen := reach_len
  have hc := ReleaseOwners_any a p h s W h_a.1 h_p h_h
  refine hc.mono fun e W' ⟨he, hg⟩ => ?_
  subst he
  exact ⟨_, rfl, law_post laidOut (by kernel_rfl) rfl rfl Tryd.underlying4 hW' rfl hg⟩

theorem said : Rows.ReleaseOwnersSaid :=
  OpenClaim.holds_of_cond 3 Tryd.f3 rfl rfl rfl rfl rfl rfl rfl ⟨rfl, rfl, rfl, rfl, rfl⟩ rfl rfl rfl rfl rfl (by kernel_rfl) Tryd.func3 (by kernel_rfl)
    (of_decide_eq_true (by kernel_rfl)) (by unfold Func.isWrapper; first | (rw [if_pos (by decide +kernel)]; kernel_rfl) | (rw [if_neg (by decide +kernel)]; exact ⟨rfl, rfl⟩))
    (fun os started H enc _ F => by rw [OpenClaim.pre_eq_preRow]; exact lifted os started H enc F)
theorem plain (f : FuncId) (fn : Func) (hf : Tryd.pinned.checked.prog.funcNamed "inquest/inqlaw2.ReleaseOwners" = some f) (hfn : Tryd.pinned.checked.prog.funcs[f]? = some fn) :
    true = Tryd.pinned.checked.prog.looks [] ∧ ∀ (j : Nat) t, fn.params[j]? = some t → Tryd.pinned.checked.prog.wantsStandIn t = false := by
  obtain rfl : f = 3 := Option.some.inj ((show Tryd.prog.funcNamed "inquest/inqlaw2.ReleaseOwners" = some 3 by kernel_rfl).symm.trans hf) |>.symm
  obtain rfl : fn = Tryd.f3 := (Option.some.inj (Tryd.func3.symm.trans hfn)).symm
  refine ⟨by kernel_rfl, fun j t ht => ?_⟩
  have hall : Tryd.f3.params.all (fun t => Tryd.prog.wantsStandIn t == false) = true := by kernel_rfl
  have := Array.all_eq_true.1 hall j (Array.getElem?_eq_some_iff.1 ht).1
  rw [(Array.getElem?_eq_some_iff.1 ht).2] at this
  exact (show Tryd.prog.wantsStandIn t = false by simpa using this)
theorem card : Rows.ReleaseOwnersCardSaid :=
  Claim7.holds_tied_plain_at .later [] _ _ _ _ said (fun _ h => by cases h) (by kernel_rfl) (fun _ h => by cases h) releaseOwners_row_tie rfl ⟨rfl, rfl⟩ (by kernel_rfl) rfl plain (by kernel_rfl)
#print axioms card
end Go.Proofs.YtoeipmepmlikcaaDoor.releaseOwners
