/- The card EventSealsUptoCardSaid is proved: for all items and texts of the bulk that the second form names the law answers true. Condition: none beyond the form's own. -/
import Derived.Test.YtpmlgnbbkpplhaaDoorSLaw
import Derived.Test.YtpmlgnbbkpplhaaDoorEOpen
import Derived.Test.YtpmlgnbbkpplhaaDoorELaid2
import Derived.Test.YtpmlgnbbkpplhaaDoorHold
namespace Go.Proofs.YtpmlgnbbkpplhaaDoor.eventSeals
set_option linter.unusedSimpArgs false
set_option linter.unusedVariables false
set_option maxRecDepth 20000
open Go.ChangeShapes Go.WideShapes Go.ChangeAt Go.RowKit Go.Eng
theorem p10_of {x y : String × DataW Unit} {rest : List (String × DataW Unit)} {W : World} (h : laidMet Tryd.prog (x :: y :: ("internal/strconv.uint64pow10", Rows.laid_internal_strconv_uint64pow10) :: rest) W) : P10 W := by
  have h0 : laidMet Tryd.prog (("internal/strconv.uint64pow10", Lib.tabData .u64 Lib.pow10Tab) :: rest) W := h.tail.tail
  have h1 := Lib.tabIs_of_head (P := Tryd.prog) (g := 1) (by kernel_rfl) (by kernel_rfl) Tryd.underlying187 Tryd.underlying128 (by kernel_rfl) (by kernel_rfl) h0
  have h2 := h1.cell (g := 1) (by kernel_rfl) 0 (by decide)
  refine ⟨h1, ?_⟩
  unfold World.cell? at h2
  cases hg : W.heap[1]? with
  | none => rw [hg] at h2; cases h2
  | some o => exact (Array.getElem?_eq_some_iff.1 hg).1
theorem tot_es {H : Type} : ∀ (l : List SItem) (es : List (DataW H)), es.length = l.length → (∀ (i : Nat) (a : SItem) (x : DataW H), l[i]? = some a → es[i]? = some x → a.k.length + a.b.length ≤ Rows.uptoBulk x) → tot l ≤ Rows.uptoBulkAll es
  | [], es, _, _ => Nat.zero_le _
  | a :: r, [], h, _ => by simp at h
  | a :: r, x :: t, h, hr => by
    have h1 := hr 0 a x rfl rfl
    have h2 := tot_es r t (by simpa using h) fun i b y hb hy => hr (i + 1) b y (by simpa using hb) (by simpa using hy)
    simp only [tot, Rows.uptoBulkAll]; omega
theorem op_item {H : Type} {enc : TypeId × Value → H} {w : World} : Opn enc Tryd.prog w 56 SItem.enc (fun _ => True) (fun x d => x.k.length + x.b.length ≤ Rows.uptoBulk d) :=
  (opn_struct Tryd.underlying56 co56 (opf_cons op_s rfl co9 (opf_cons op_s rfl co9 opf_nil))).map
    (fun p => (⟨p.1, p.2.1⟩ : SItem)) (fun _ => rfl) (fun _ _ => trivial) (fun p d h => by
      obtain ⟨ds, rfl, d1, r1, rfl, h1, d2, r2, rfl, h2, rfl⟩ := h
      rw [h1, h2]
      simp only [Rows.uptoBulk, Rows.uptoBulkAll]
      omega)
theorem op_items {H : Type} {enc : TypeId × Value → H} {w : World} : Opn enc Tryd.prog w 49 slV (fun s : Sl SItem => ItemsOk w s) (fun s d => tot s.l ≤ Rows.uptoBulk d) :=
  (opn_slice Tryd.underlying49 co56 (by decide) (by rw [bo56]; decide) (fun _ => rfl) op_item).map (fun s => s) (fun _ => rfl)
    (fun s h => ⟨h.1, Nat.le_trans h.2.1 reach_len⟩) (fun s d h => by
      obtain ⟨es, hd, hl, hr⟩ := h
      have h1 := tot_es s.l es hl hr
      rcases hd with ⟨rfl, rfl⟩ | ⟨sp, rfl⟩
      · simp only [Rows.uptoBulkAll] at h1; exact Nat.le_trans h1 (Nat.zero_le _)
      · simp only [Rows.uptoBulk]; omega)
def arg0 : Array Value := #[.slice none 0 0, .string ⟨#[]⟩]
theorem laid_met (os : Os) : laidMet Tryd.prog Rows.eventSealsUptoRow.laid ((laidWorld2 os arg0).forCall (fun _ _ => 0) ⟨#[], arg0, []⟩).memory :=
  laidMet_of_run' 8 (by kernel_rfl) (by kernel_rfl)
theorem reads (os : Os) {H : Type} (enc : TypeId × Value → H) : ∃ places, DataW.whole enc Tryd.prog ((laidWorld2 os arg0).forCall (fun _ _ => 0) ⟨#[], arg0, []⟩).memory Tryd.f5.params.toList Rows.eventSealsSpec.vars false arg0.toList 8 = some ([.nil, .lit (.string [])], [], places) :=
  ⟨[], by kernel_rfl⟩

set_option maxRecDepth 100000 in
theorem lifted (os : Os) (started : os.Started) (H : Type) (enc : TypeId × Value → H) (F : Stop.Interp) :
    ReturnsInHanded {} Tryd.checked os 5 .any ((Rows.OpenSpec.upto Rows.eventSealsSpec).preRow enc Tryd.prog Tryd.f5 Rows.eventSealsUptoRow.domain false Rows.eventSealsUptoRow.laid) (((Rows.OpenSpec.upto Rows.eventSealsSpec).at F).post enc Tryd.prog Tryd.f5 false true false false) := by
  obtain ⟨places, hx⟩ := reads os enc
  refine returnsInHanded_of_row (C := Tryd.checked) (s := Rows.OpenSpec.upto Rows.eventSealsSpec) ownNone started (by kernel_rfl) Tryd.func5
    (witness_row_at (enc := enc) (C := Tryd.checked) false (laidWorld2 os arg0) arg0 rfl (by kernel_rfl) (by kernel_rfl) (by kernel_rfl)
      (OpenSpec.preRow_of_cond 8 hx (by kernel_rfl) (fun k hk => by cases hk; kernel_rfl) (by kernel_rfl) (laid_met os))) ?_
  intro W base args ds gs before hval0 hW _ hcnd hsz hL hSh _
  have hval : ∀ (j : Nat) t v, Tryd.f5.params[j]? = some t → args[j]? = some v → Value.okWide Tryd.prog W .any base t v := hval0
  have hW' := hW
  obtain ⟨p, q, hA0, hV, rfl, hfz, hnd⟩ := hW
  have hA : DataW.TrodAll enc Tryd.prog W 0 (fun _ => true) true Tryd.f5.params.toList args.toList ds p := hA0
  rw [Tryd.params5] at hA hval
  obtain ⟨v0, vs0, d0, ds0, p0, q0, hargs, rfl, rfl, h0, r0⟩ := trodAll_cons hA
  obtain ⟨v1, vs1, d1, ds1, p1, q1, rfl, rfl, rfl, h1, r1⟩ := trodAll_cons r0
  obtain ⟨rfl, rfl, rfl⟩ := trodAll_nil r1
  obtain rfl : args = #[v0, v1] := by cases args; simp_all
  obtain ⟨rfl, rfl⟩ := trodVars_none hV
  obtain ⟨a, hv_a, h_a, hr_a⟩ := op_items.op _ _ (pr_of h0 hsz (j := 0) (t := 49) (by rw [Tryd.params5]; rfl) rfl)
  obtain ⟨s, hv_s, h_s, hr_s⟩ := op_s.op _ _ (pr_of h1 hsz (j := 1) (t := 9) (by rw [Tryd.params5]; rfl) rfl)
  obtain rfl := val_one Tryd.underlying49 rfl (hval 0 49 v0 rfl rfl) hv_a
  obtain rfl := val_one Tryd.underlying9 rfl (hval 1 9 v1 rfl rfl) hv_s
  clear hA0 hval0
  have hlen := reach_len
  have hb := of_decide_eq_true (hcnd _ rfl)
  simp only [List.append_nil, Rows.uptoBulkAll] at hb
  have hc := EventSeals_any a s W h_a (by omega) (tz_of hL) (p10_of hL)
  refine hc.mono fun e W' ⟨he, hg⟩ => ?_
  subst he
  exact ⟨_, rfl, law_post laidOut (by kernel_rfl) rfl rfl Tryd.underlying4 hW' rfl hg⟩

theorem said : Rows.EventSealsUptoSaid :=
  OpenClaim.holds_of_cond 5 Tryd.f5 rfl rfl rfl rfl rfl rfl rfl ⟨rfl, rfl, rfl, rfl, rfl⟩ rfl rfl rfl rfl rfl (by kernel_rfl) Tryd.func5 (by kernel_rfl)
    (of_decide_eq_true (by kernel_rfl)) (by unfold Func.isWrapper; first | (rw [if_pos (by decide +kernel)]; kernel_rfl) | (rw [if_neg (by decide +kernel)]; exact ⟨rfl, rfl⟩))
    (fun os started H enc _ F => by rw [OpenClaim.pre_eq_preRow]; exact lifted os started H enc F)
theorem plain (f : FuncId) (fn : Func) (hf : Tryd.pinned.checked.prog.funcNamed "inquest/inqlaw2.EventSeals" = some f) (hfn : Tryd.pinned.checked.prog.funcs[f]? = some fn) :
    true = Tryd.pinned.checked.prog.looks [] ∧ ∀ (j : Nat) t, fn.params[j]? = some t → Tryd.pinned.checked.prog.wantsStandIn t = false := by
  obtain rfl : f = 5 := Option.some.inj ((show Tryd.prog.funcNamed "inquest/inqlaw2.EventSeals" = some 5 by kernel_rfl).symm.trans hf) |>.symm
  obtain rfl : fn = Tryd.f5 := (Option.some.inj (Tryd.func5.symm.trans hfn)).symm
  refine ⟨by kernel_rfl, fun j t ht => ?_⟩
  have hall : Tryd.f5.params.all (fun t => Tryd.prog.wantsStandIn t == false) = true := by kernel_rfl
  have := Array.all_eq_true.1 hall j (Array.getElem?_eq_some_iff.1 ht).1
  rw [(Array.getElem?_eq_some_iff.1 ht).2] at this
  exact (show Tryd.prog.wantsStandIn t = false by simpa using this)
theorem card : Rows.EventSealsUptoCardSaid :=
  Claim7.holds_tied_plain_at .later [] _ _ _ _ said (fun _ h => by cases h) (by kernel_rfl) (fun _ h => by cases h) eventSealsUpto_row_tie rfl ⟨rfl, rfl⟩ (by kernel_rfl) rfl plain (by kernel_rfl)
#print axioms card
end Go.Proofs.YtpmlgnbbkpplhaaDoor.eventSeals
