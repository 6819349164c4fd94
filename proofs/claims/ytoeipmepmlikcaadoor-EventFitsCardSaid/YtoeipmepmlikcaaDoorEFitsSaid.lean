/- The card EventFitsCardSaid is proved: for all events, tags and limits With and Fit are as specified. Condition: none beyond the form's own. -/
import Derived.Test.YtoeipmepmlikcaaDoorEFits
import Derived.Test.YtoeipmepmlikcaaDoorEOpen
import Derived.Test.YtoeipmepmlikcaaDoorELaid
import Derived.Test.YtoeipmepmlikcaaDoorHold
import Derived.Test.YtoeipmepmlikcaaDoorOpnB
namespace Go.Proofs.YtoeipmepmlikcaaDoor.eventFits
set_option linter.unusedSimpArgs false
set_option linter.unusedVariables false
set_option maxRecDepth 20000
open Go.ChangeShapes Go.WideShapes Go.ChangeAt Go.RowKit Go.Eng
structure Lim where
  f : Int
  c : Int
  t : Int
  x : Int
def Lim.enc (l : Lim) : List Value := [.int .i64 l.f, .int .i64 l.c, .int .i64 l.t, .int .i64 l.x]
theorem op_lim {H : Type} {enc : TypeId × Value → H} {w : World} : Opn enc Tryd.prog w 64 Lim.enc (fun _ => True) (fun _ _ => True) :=
  (opn_struct Tryd.underlying64 co64 (opf_cons op_i rfl co3 (opf_cons op_i rfl co3 (opf_cons op_i rfl co3 (opf_cons op_i rfl co3 opf_nil))))).map
    (fun p => (⟨p.1, p.2.1, p.2.2.1, p.2.2.2.1⟩ : Lim)) (fun _ => rfl) (fun _ _ => trivial) (fun _ _ _ => trivial)
theorem op_tagsB {H : Type} {enc : TypeId × Value → H} {w : World} : Opn enc Tryd.prog w 49 slV (fun s : Sl STag => TagsOk w s ∧ s.q * 32 ≤ 140737488351232) (fun _ _ => True) :=
  (opn_sliceB Tryd.underlying49 co128 (by decide) (by rw [bo128]; decide) (fun _ => rfl) op_tag).map (fun s => s) (fun _ => rfl)
    (fun s h => ⟨⟨h.1, Nat.le_trans h.2.1 reach_len, fun t ht => ⟨Nat.le_trans (h.2.2.2 t ht).1 reach_len, Nat.le_trans (h.2.2.2 t ht).2 reach_len⟩⟩, by have := h.2.2.1; rw [bo128] at this; exact this⟩) (fun _ _ _ => trivial)
def arg0 : Array Value := #[.agg #[.string ⟨#[]⟩, .int .i64 0, .int .i64 0, .slice none 0 0, .slice none 0 0, .slice none 0 0, .string ⟨#[]⟩, .string ⟨#[]⟩, .int .i64 0], .slice none 0 0, .agg #[.int .i64 0, .int .i64 0, .int .i64 0, .int .i64 0]]
theorem laid_met (os : Os) : laidMet Tryd.prog Rows.eventFitsRow.laid ((laidWorld os arg0).forCall (fun _ _ => 0) ⟨#[], arg0, []⟩).memory :=
  laidMet_of_run' 8 (by kernel_rfl) (by kernel_rfl)
theorem reads (os : Os) {H : Type} (enc : TypeId × Value → H) : ∃ places, DataW.whole enc Tryd.prog ((laidWorld os arg0).forCall (fun _ _ => 0) ⟨#[], arg0, []⟩).memory Tryd.f9.params.toList Rows.eventFitsSpec.vars false arg0.toList 8 = some ([.agg [.lit (.string []), .lit (.int .i64 0), .lit (.int .i64 0), .nil, .nil, .nil, .lit (.string []), .lit (.string []), .lit (.int .i64 0)], .nil, .agg [.lit (.int .i64 0), .lit (.int .i64 0), .lit (.int .i64 0), .lit (.int .i64 0)]], [], places) :=
  ⟨[], by kernel_rfl⟩

set_option maxRecDepth 100000 in
theorem lifted (os : Os) (started : os.Started) (H : Type) (enc : TypeId × Value → H) (F : Stop.Interp) :
    ReturnsInHanded {} Tryd.checked os 9 .any ((OpenSpec.ofChange Rows.eventFitsSpec).preRow enc Tryd.prog Tryd.f9 Rows.eventFitsRow.domain false Rows.eventFitsRow.laid) (((OpenSpec.ofChange Rows.eventFitsSpec).at F).post enc Tryd.prog Tryd.f9 false true false false) := by
  obtain ⟨places, hx⟩ := reads os enc
  refine returnsInHanded_of_row (C := Tryd.checked) (s := OpenSpec.ofChange Rows.eventFitsSpec) ownNone started (by kernel_rfl) Tryd.func9
    (witness_row_at (enc := enc) (C := Tryd.checked) false (laidWorld os arg0) arg0 rfl (by kernel_rfl) (by kernel_rfl) (by kernel_rfl)
      (OpenSpec.preRow_of_cond 8 hx (by kernel_rfl) (fun k hk => by cases hk) (by kernel_rfl) (laid_met os))) ?_
  intro W base args ds gs before hval0 hW _ _ hsz hL hSh _
  have hval : ∀ (j : Nat) t v, Tryd.f9.params[j]? = some t → args[j]? = some v → Value.okWide Tryd.prog W .any base t v := hval0
  have hW' := hW
  obtain ⟨p, q, hA0, hV, rfl, hfz, hnd⟩ := hW
  have hA : DataW.TrodAll enc Tryd.prog W 0 (fun _ => true) true Tryd.f9.params.toList args.toList ds p := hA0
  rw [Tryd.params9] at hA hval
  obtain ⟨v0, vs0, d0, ds0, p0, q0, hargs, rfl, rfl, h0, r0⟩ := trodAll_cons hA
  obtain ⟨v1, vs1, d1, ds1, p1, q1, rfl, rfl, rfl, h1, r1⟩ := trodAll_cons r0
  obtain ⟨v2, vs2, d2, ds2, p2, q2, rfl, rfl, rfl, h2, r2⟩ := trodAll_cons r1
  obtain ⟨rfl, rfl, rfl⟩ := trodAll_nil r2
  obtain rfl : args = #[v0, v1, v2] := by cases args; simp_all
  obtain ⟨rfl, rfl⟩ := trodVars_none hV
  obtain ⟨a, hv_a, h_a, _⟩ := op_evt.op _ _ (pr_of h0 hsz (j := 0) (t := 52) (by rw [Tryd.params9]; rfl) rfl)
  obtain ⟨b, hv_b, h_b, _⟩ := op_tagsB.op _ _ (pr_of h1 hsz (j := 1) (t := 49) (by rw [Tryd.params9]; rfl) rfl)
  obtain ⟨l, hv_l, h_l, _⟩ := op_lim.op _ _ (pr_of h2 hsz (j := 2) (t := 64) (by rw [Tryd.params9]; rfl) rfl)
  obtain rfl := val_agg Tryd.underlying52 (hval 0 52 v0 rfl rfl) hv_a
  obtain rfl := val_one Tryd.underlying49 rfl (hval 1 49 v1 rfl rfl) hv_b
  obtain rfl := val_agg Tryd.underlying64 (hval 2 64 v2 rfl rfl) hv_l
  clear hA0 hval0
  have hlen := reach_len
  have hc := EventFits_any a b l.f l.c l.t l.x W h_a h_b.1 h_b.2
  refine hc.mono fun e W' ⟨he, hg⟩ => ?_
  subst he
  exact ⟨_, rfl, law_post laidOut (by kernel_rfl) rfl rfl Tryd.underlying4 hW' rfl hg⟩

theorem said : Rows.EventFitsSaid :=
  OpenClaim.holds_of_cond 9 Tryd.f9 rfl rfl rfl rfl rfl rfl rfl ⟨rfl, rfl, rfl, rfl, rfl⟩ rfl rfl rfl rfl rfl (by kernel_rfl) Tryd.func9 (by kernel_rfl)
    (of_decide_eq_true (by kernel_rfl)) (by unfold Func.isWrapper; first | (rw [if_pos (by decide +kernel)]; kernel_rfl) | (rw [if_neg (by decide +kernel)]; exact ⟨rfl, rfl⟩))
    (fun os started H enc _ F => by rw [OpenClaim.pre_eq_preRow]; exact lifted os started H enc F)
theorem plain (f : FuncId) (fn : Func) (hf : Tryd.pinned.checked.prog.funcNamed "inquest/inqlaw2.EventFits" = some f) (hfn : Tryd.pinned.checked.prog.funcs[f]? = some fn) :
    true = Tryd.pinned.checked.prog.looks [] ∧ ∀ (j : Nat) t, fn.params[j]? = some t → Tryd.pinned.checked.prog.wantsStandIn t = false := by
  obtain rfl : f = 9 := Option.some.inj ((show Tryd.prog.funcNamed "inquest/inqlaw2.EventFits" = some 9 by kernel_rfl).symm.trans hf) |>.symm
  obtain rfl : fn = Tryd.f9 := (Option.some.inj (Tryd.func9.symm.trans hfn)).symm
  refine ⟨by kernel_rfl, fun j t ht => ?_⟩
  have hall : Tryd.f9.params.all (fun t => Tryd.prog.wantsStandIn t == false) = true := by kernel_rfl
  have := Array.all_eq_true.1 hall j (Array.getElem?_eq_some_iff.1 ht).1
  rw [(Array.getElem?_eq_some_iff.1 ht).2] at this
  exact (show Tryd.prog.wantsStandIn t = false by simpa using this)
theorem card : Rows.EventFitsCardSaid :=
  Claim7.holds_tied_plain_at .later [] _ _ _ _ said (fun _ h => by cases h) (by kernel_rfl) (fun _ h => by cases h) eventFits_row_tie rfl ⟨rfl, rfl⟩ (by kernel_rfl) rfl plain (by kernel_rfl)
#print axioms card
end Go.Proofs.YtoeipmepmlikcaaDoor.eventFits
