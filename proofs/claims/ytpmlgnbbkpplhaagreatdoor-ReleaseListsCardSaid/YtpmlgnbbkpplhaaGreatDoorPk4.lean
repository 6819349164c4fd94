/- Part 4, merged by a program. The best of releases: best, greatest, Latest, After, and the reference's LatestOf, AfterOf, walked. Conditions: those of each theorem. VersionText, and the law ReleaseVersions, walked. Conditions: those of each theorem. LatestOf and AfterOf, and the law ReleaseLists, walked. Conditions: those of each theorem. Events opened: from the form's reading to 'Evt.Ok'. No condition. A world in which the listed tables of Go's hold what their text says, and what a row's condition says of the table of trailing noughts. No condition. A world in which the listed tables hold what their text says, and the two errors of strconv lie as their initialisers lay them. No condition. -/
import Derived.Test.YtpmlgnbbkpplhaaGreatDoorOpen
import Derived.Test.YtpmlgnbbkpplhaaGreatDoorCards
import Derived.Test.YtpmlgnbbkpplhaaGreatDoorTie
import Derived.Deep.DeepHandedRow
import Derived.Lib.LaidTab
import Derived.Stop.LaidErr
import Derived.ProofKit
import Derived.OpenShut
import Derived.Test.YtpmlgnbbkpplhaaGreatDoorPk3
section
namespace Go.Proofs.YtpmlgnbbkpplhaaGreatDoor
set_option linter.unusedSimpArgs false
set_option linter.unusedVariables false
set_option maxRecDepth 20000
open Go.RowKit Go.Eng
theorem beats_eq {α : Type} (cf : α → α → Int) (d x : α) (o : Option α) : (!o.isSome || decide (cf x (o.getD d) < 0)) = beats (fun x y => decide (cf x y < 0)) x o := by cases o <;> rfl
set_option maxHeartbeats 1600000 in
theorem best_any (vs : Sl SVer) (gt go : FuncId) (capt capo : Array Value) (p : SVer → Bool) (cf : SVer → SVer → Int) (w : World) (hv : VersR w vs) (hcf1 : ∀ args w, (callFunc gt args).run Tryz.prog w = .ok (.enter gt args) w) (hcf2 : ∀ args w, (callFunc go args).run Tryz.prog w = .ok (.enter go args) w)
    (hA : ∀ x ∈ vs.l, ∀ w', Below w.heap.size w w' → Calls Tryz.prog gt (#[x.val] ++ capt) w' fun e w'' => e = .returned (.bool (p x)) ∧ Below w'.heap.size w' w'')
    (hB : ∀ x y w', VerOk w' x → VerOk w' y → Calls Tryz.prog go (#[x.val, y.val] ++ capo) w' fun e w'' => e = .returned (.int .i64 (cf x y)) ∧ Below w'.heap.size w' w'') :
    Calls Tryz.prog 114 #[.slice vs.A vs.q vs.c, .func (.func gt) #[] capt, .func (.func go) #[] capo] w fun e w' => e = .returned (.tuple #[((bestF p (fun x y => decide (cf x y < 0)) vs.l none).getD ver0).val, .bool (bestF p (fun x y => decide (cf x y < 0)) vs.l none).isSome]) ∧ Below w.heap.size w w' := by
  have ht := hv.ok.t
  have hq := hv.q
  refine enter_args (args := [.slice vs.A vs.q vs.c, .func (.func gt) #[] capt, .func (.func go) #[] capo]) (F := _) Tryz.func114 rfl Tryz.ntmps114 rfl rfl ?_
  intro Rb hRb hRn
  refine T_seq ?_
  refine T_region ?_
  refine S_alloc 6 6 rfl rfl rfl rfl z42 ?_
  intro b6
  refine S_ 7 rfl rfl rfl _ (y_assign rfl rfl) ?_
  refine S_go (fun _ _ h => h) ?_
  refine T_seq ?_
  refine T_region ?_
  refine S_alloc 8 8 rfl rfl rfl rfl z42 ?_
  intro b8
  refine S_go (fun _ _ h => h) ?_
  refine T_seq ?_
  refine T_region ?_
  refine S_ 9 rfl rfl rfl _ (y_assign rfl rfl) ?_
  refine S_go (fun _ _ h => h) ?_
  refine T_seq ?_
  refine T_seq ?_
  refine T_region ?_
  refine S_ 12 rfl rfl rfl _ (y_move rfl rfl) ?_
  refine S_ 13 rfl rfl rfl _ (y_len_slice rfl rfl Tryz.underlying146) ?_
  refine S_ 14 rfl rfl rfl _ (y_move rfl rfl) ?_
  refine S_go (fun _ _ h => h) ?_
  refine T_block ?_
  refine T_loopK2 (kf := [(9, 9), (11, 11), (14, 33)]) (kl := [(8, 9), (11, 11), (14, 33)]) (fun (i : Nat) (o : Option SVer) => [(14, true, .int .i64 (i : Int)), (9, true, .bool o.isSome)]) (fun (i : Nat) (o : Option SVer) => [(8, .blk b8 (IsBox (o.getD ver0).enc 42))]) (fun (i : Nat) (o : Option SVer) => i ≤ vs.q ∧ bestF p (fun x y => decide (cf x y < 0)) (vs.l.drop i) o = bestF p (fun x y => decide (cf x y < 0)) vs.l none ∧ ∀ y, o = some y → y ∈ vs.l) (fun (i : Nat) (o : Option SVer) => vs.q - i) 0 none (by repeat (first | exact kf_nil | (apply kf_in; focus rfl) | (apply kf_out; focus rfl))) (by repeat (first | exact kl_nil | exact kl_rest (by assumption) rfl | (apply kl_in; focus rfl) | (apply kl_out; focus rfl))) ?_ ?_ ?_ ?_
  · exact ⟨by omega, rfl, fun y h => by cases h⟩
  · exact ⟨rfl, rfl, trivial⟩
  · exact ⟨rfl, trivial⟩
  rintro i o ⟨hp1, hp2, hp3⟩
  refine T_seq ?_
  refine T_region ?_
  refine S_ 15 rfl rfl rfl _ (y_bin rfl rfl rfl (fun _ => b_lss)) ?_
  refine S_go (fun _ _ h => h) ?_
  refine T_seq ?_
  refine T_cond rfl (fun h15 => ?_) (fun h15 => ?_)
  · try simp only [decide_eq_true_eq, decide_eq_false_iff_not, Bool.or_eq_true, Bool.or_eq_false_iff, Bool.and_eq_true, Bool.and_eq_false_iff, Bool.not_eq_true', Bool.not_eq_false', Bool.not_eq_true, Bool.not_eq_false, Bool.not_true, Bool.not_false, Int.not_lt, Int.not_le, not_or, not_and, Classical.not_not] at h15
    obtain ⟨x, hx1, hx2⟩ := ht.at (i := i) (by omega)
    have hog : ∀ w1, Below w.heap.size w w1 → VerOk w1 (o.getD ver0) := fun w1 hb => by
      cases ho : o with
      | none => exact ver0_ok w1
      | some y => exact (hv.n y (hp3 y ho)).below hb
    refine T_skip_go (fun _ _ h => h) ?_
    refine T_seq ?_
    refine T_block ?_
    refine T_seq ?_
    refine T_region ?_
    refine S_ 16 rfl rfl rfl _ (y_indexAddr rfl rfl rfl Tryz.underlying146 sz42 (fun hg => ht.isSome (by omega)) (fun _ => by omega)) ?_
    refine S_ 17 rfl rfl rfl _ (y_loadT rfl rfl ht (fun _ => rfl) (fun _ => hx1) Tryz.underlying42 rfl sz42) ?_
    refine S_alloc 11 11 rfl rfl rfl rfl z42 ?_
    intro b11
    refine S_store 11 rfl rfl rfl rfl rfl rfl sz42 rfl rfl ?_
    refine S_go (fun _ _ h => h) ?_
    refine T_seq ?_
    refine T_region ?_
    refine S_ 18 rfl rfl rfl _ (y_move rfl rfl) ?_
    refine S_ 19 rfl rfl rfl _ (y_loadA 11 rfl rfl rfl Tryz.underlying42 rfl sz42) ?_
    refine S_ 20 rfl rfl rfl _ (y_call rfl rfl rfl hcf1 (fun _ w hM => hA x (mem_at hx1) w hM.below)) ?_
    refine S_ 21 rfl rfl rfl _ (y_move rfl rfl) ?_
    refine Sg_ 22 rfl rfl rfl rfl rfl rfl _ (y_move rfl rfl) ?_
    refine Sg_ 23 rfl rfl rfl rfl rfl rfl _ (y_not rfl rfl) ?_
    refine Sg_ 24 rfl rfl rfl rfl rfl rfl _ (y_move rfl rfl) ?_
    refine Sg_ 25 rfl rfl rfl rfl rfl rfl _ (y_move rfl rfl) ?_
    refine Sg_ 26 rfl rfl rfl rfl rfl rfl _ (y_loadA 11 rfl rfl rfl Tryz.underlying42 rfl sz42) ?_
    refine Sg_ 27 rfl rfl rfl rfl rfl rfl _ (y_loadA 8 rfl rfl rfl Tryz.underlying42 rfl sz42) ?_
    refine Sg_ 28 rfl rfl rfl rfl rfl rfl _ (y_call rfl rfl rfl hcf2 (fun _ w hM => hB x (o.getD ver0) w ((hv.n x (mem_at hx1)).below hM.below) (hog w hM.below))) ?_
    refine Sg_ 29 rfl rfl rfl rfl rfl rfl _ (y_bin rfl rfl rfl (fun _ => b_lss)) ?_
    refine Sg_ 30 rfl rfl rfl rfl rfl rfl _ (y_or rfl rfl rfl) ?_
    refine S_ 31 rfl rfl rfl _ (y_as (v' := .bool (p x && beats (fun x y => decide (cf x y < 0)) x o)) (by rw [← beats_eq cf ver0]) (y_and rfl rfl rfl)) ?_
    refine S_go (fun _ _ h => h) ?_
    refine T_cond rfl (fun h31 => ?_) (fun h31 => ?_)
    · skip
      refine T_region ?_
      refine S_ 32 rfl rfl rfl _ (y_loadA 11 rfl rfl rfl Tryz.underlying42 rfl sz42) ?_
      refine S_store 8 rfl rfl rfl rfl rfl rfl sz42 rfl rfl ?_
      refine S_ 9 rfl rfl rfl _ (y_assign rfl rfl) ?_
      refine S_go (fun _ _ h => h) ?_
      refine T_region ?_
      refine S_ 33 rfl rfl rfl _ (y_bin rfl rfl rfl (fun hg => b_add (by omega))) ?_
      refine S_ 14 rfl rfl rfl _ (y_move rfl rfl) ?_
      refine S_nil (nextK2 (kf := [(9, 9), (11, 11), (14, 33)]) (kl := [(8, 9), (11, 11), (14, 33)]) (i + 1) (some x) (by repeat (first | exact kf_nil | (apply kf_in; focus rfl) | (apply kf_out; focus rfl))) (by repeat (first | exact kl_nil | exact kl_rest (by assumption) rfl | (apply kl_in; focus rfl) | (apply kl_out; focus rfl))) ?_ ?_ ?_ ?_)
      · omega
      · exact ⟨by omega, by rw [← hp2, hx2, bestF, if_pos h31], fun y h => by rw [← Option.some.inj h]; exact mem_at hx1⟩
      · exact ⟨rfl, rfl, trivial⟩
      · exact ⟨rfl, trivial⟩
    · skip
      refine T_skip_go (fun _ _ h => h) ?_
      refine T_region ?_
      refine S_ 33 rfl rfl rfl _ (y_bin rfl rfl rfl (fun hg => b_add (by omega))) ?_
      refine S_ 14 rfl rfl rfl _ (y_move rfl rfl) ?_
      refine S_nil (nextK2 (kf := [(9, 9), (11, 11), (14, 33)]) (kl := [(8, 9), (11, 11), (14, 33)]) (i + 1) o (by repeat (first | exact kf_nil | (apply kf_in; focus rfl) | (apply kf_out; focus rfl))) (by repeat (first | exact kl_nil | exact kl_rest (by assumption) rfl | (apply kl_in; focus rfl) | (apply kl_out; focus rfl))) ?_ ?_ ?_ ?_)
      · omega
      · exact ⟨by omega, by rw [← hp2, hx2, bestF, if_neg (by rw [h31]; simp)], hp3⟩
      · exact ⟨rfl, rfl, trivial⟩
      · exact ⟨rfl, trivial⟩
  · try simp only [decide_eq_true_eq, decide_eq_false_iff_not, Bool.or_eq_true, Bool.or_eq_false_iff, Bool.and_eq_true, Bool.and_eq_false_iff, Bool.not_eq_true', Bool.not_eq_false', Bool.not_eq_true, Bool.not_eq_false, Bool.not_true, Bool.not_false, Int.not_lt, Int.not_le, not_or, not_and, Classical.not_not] at h15
    refine T_exit_go (fun _ _ h => h) ?_
    refine T_seq ?_
    refine T_region ?_
    refine S_ 34 rfl rfl rfl _ (y_loadA 8 rfl rfl rfl Tryz.underlying42 rfl sz42) ?_
    refine S_ 35 rfl rfl rfl _ (y_move rfl rfl) ?_
    refine S_store 6 rfl rfl rfl rfl rfl rfl sz42 rfl rfl ?_
    refine S_ 7 rfl rfl rfl _ (y_assign rfl rfl) ?_
    refine S_go (fun _ _ h => h) ?_
    refine T_ret (fun a w hF hM => hRb a w (post_cell 6 rfl rfl rfl rfl Tryz.underlying42 rfl (by exact sz42) (fun w hM => ?_) a w hF hM))
    have hfin : bestF p (fun x y => decide (cf x y < 0)) vs.l none = o := by rw [← hp2, ht.end (by omega)]; rfl
    rw [hfin]
    exact ⟨rfl, hM.below⟩
theorem greatest1_any (x y : SVer) (w : World) (hx : VerOk w x) (hy : VerOk w y) : Calls Tryz.prog 210 #[x.val, y.val] w fun e w' => e = .returned (.int .i64 (cmpV y.says x.says)) ∧ Below w.heap.size w w' := by
  refine enter_args (args := [.agg #[str x.p, .int .i64 x.a, .int .i64 x.b, .int .i64 x.c, .slice x.pre.A x.pre.q x.pre.c], .agg #[str y.p, .int .i64 y.a, .int .i64 y.b, .int .i64 y.c, .slice y.pre.A y.pre.q y.pre.c]]) (F := _) Tryz.func210 rfl Tryz.ntmps210 rfl rfl ?_
  intro Rb hRb hRn
  refine T_seq ?_
  refine T_region ?_
  refine S_box 2 2 rfl rfl rfl rfl rfl ?_
  intro b2
  refine S_box 3 3 rfl rfl rfl rfl rfl ?_
  intro b3
  refine S_ 4 rfl rfl rfl _ (y_assign rfl rfl) ?_
  refine S_go (fun _ _ h => h) ?_
  refine T_seq ?_
  refine T_region ?_
  refine S_ 5 rfl rfl rfl _ (y_loadA 3 rfl rfl rfl Tryz.underlying42 rfl sz42) ?_
  refine S_ 6 rfl rfl rfl _ (y_loadA 2 rfl rfl rfl Tryz.underlying42 rfl sz42) ?_
  refine S_ 7 rfl rfl rfl _ (y_call rfl rfl rfl cf22 (fun _ w hM => Compare_any y x w (hy.below hM.below) (hx.below hM.below))) ?_
  refine S_ 4 rfl rfl rfl _ (y_assign rfl rfl) ?_
  refine S_go (fun _ _ h => h) ?_
  refine T_ret (fun a w hF hM => hRb a w (post1 rfl rfl (fun w hM => ?_) a w hF hM))
  exact ⟨rfl, hM.below⟩
theorem greatest_any (vs : Sl SVer) (gt : FuncId) (capt : Array Value) (p : SVer → Bool) (w : World) (hv : VersR w vs) (hcf1 : ∀ args w, (callFunc gt args).run Tryz.prog w = .ok (.enter gt args) w)
    (hA : ∀ x ∈ vs.l, ∀ w', Below w.heap.size w w' → Calls Tryz.prog gt (#[x.val] ++ capt) w' fun e w'' => e = .returned (.bool (p x)) ∧ Below w'.heap.size w' w'') :
    Calls Tryz.prog 116 #[.slice vs.A vs.q vs.c, .func (.func gt) #[] capt] w fun e w' => e = .returned (.tuple #[((bestF p (fun x y => decide (cmpV y.says x.says < 0)) vs.l none).getD ver0).val, .bool (bestF p (fun x y => decide (cmpV y.says x.says < 0)) vs.l none).isSome]) ∧ Below w.heap.size w w' := by
  refine enter_args (args := [.slice vs.A vs.q vs.c, .func (.func gt) #[] capt]) (F := _) Tryz.func116 rfl Tryz.ntmps116 rfl rfl ?_
  intro Rb hRb hRn
  refine T_seq ?_
  refine T_region ?_
  refine S_alloc 4 4 rfl rfl rfl rfl z42 ?_
  intro b4
  refine S_ 5 rfl rfl rfl _ (y_assign rfl rfl) ?_
  refine S_go (fun _ _ h => h) ?_
  refine T_seq ?_
  refine T_region ?_
  refine S_ 6 rfl rfl rfl _ (y_move rfl rfl) ?_
  refine S_ 7 rfl rfl rfl _ (y_move rfl rfl) ?_
  refine S_ 8 rfl rfl rfl _ (y_call rfl rfl rfl cf114 (fun _ w hM => best_any vs gt 210 capt #[] p (fun x y => cmpV y.says x.says) w (hv.below hM.below) hcf1 cf210 (fun x hx w1 hb => hA x hx w1 (hM.below.trans (hb.mono hM.below.size))) (fun x y w1 hx hy => greatest1_any x y w1 hx hy))) ?_
  refine S_ 9 rfl rfl rfl _ (y_extract rfl rfl rfl) ?_
  refine S_ 10 rfl rfl rfl _ (y_extract rfl rfl rfl) ?_
  refine S_store 4 rfl rfl rfl rfl rfl rfl sz42 rfl rfl ?_
  refine S_ 5 rfl rfl rfl _ (y_assign rfl rfl) ?_
  refine S_go (fun _ _ h => h) ?_
  refine T_ret (fun a w hF hM => hRb a w (post_cell 4 rfl rfl rfl rfl Tryz.underlying42 rfl (by exact sz42) (fun w hM => ?_) a w hF hM))
  exact ⟨rfl, hM.below⟩
theorem pre_nil {w : World} {x : SVer} (h : VerOk w x) : decide ((x.pre.q : Int) = 0) = decide (x.says.pre = []) := by
  have hl : x.pre.l.length = x.pre.q := h.ok.t.len
  by_cases hq : x.pre.q = 0
  · rw [decide_eq_true (by omega), decide_eq_true (show x.says.pre = [] from List.eq_nil_of_length_eq_zero (by show x.pre.l.length = 0; omega))]
  · rw [decide_eq_false (by omega), decide_eq_false]
    intro e
    have : x.pre.l = [] := e
    rw [this] at hl; simp at hl; omega
def latP (project : List UInt8) (pre : Bool) (v : PVer) : Bool := decide (v.p = project) && (pre || decide (v.pre = []))
def aftP (i v : PVer) : Bool := decide (v.p = i.p) && decide (v.pre = []) && decide (0 < cmpV v i)
theorem Latest1_any (x : SVer) (project : List UInt8) (pre : Bool) (b1 b2 : Nat) (w : World) (hx : VerOk w x) (h1 : CellsAt w b1 [str project]) (h2 : CellsAt w b2 [.bool pre]) :
    Calls Tryz.prog 117 #[x.val, .pointer (some ⟨b1, 0, none⟩), .pointer (some ⟨b2, 0, none⟩)] w fun e w' => e = .returned (.bool (latP project pre x.says)) ∧ Below w.heap.size w w' := by
  refine enter_args (args := [.agg #[str x.p, .int .i64 x.a, .int .i64 x.b, .int .i64 x.c, .slice x.pre.A x.pre.q x.pre.c], .pointer (some ⟨b1, 0, none⟩), .pointer (some ⟨b2, 0, none⟩)]) (F := _) Tryz.func117 rfl Tryz.ntmps117 rfl rfl ?_
  intro Rb hRb hRn
  refine T_seq ?_
  refine T_region ?_
  refine S_box 3 3 rfl rfl rfl rfl rfl ?_
  intro b3
  refine S_ 4 rfl rfl rfl _ (y_assign rfl rfl) ?_
  refine S_go (fun _ _ h => h) ?_
  refine T_seq ?_
  refine T_region ?_
  refine S_ 5 rfl rfl rfl _ (y_fieldAddr rfl rfl fa42_0) ?_
  refine S_ 6 rfl rfl rfl _ (y_load 3 rfl rfl rfl rfl Tryz.underlying9 rfl) ?_
  refine S_ 7 rfl rfl rfl _ (y_load_far rfl rfl (show w.cell? ⟨b1, 0, none⟩ = some (str project) from h1.1 0 _ rfl) h1.2 Tryz.underlying9 rfl) ?_
  refine S_ 8 rfl rfl rfl _ (y_bin rfl rfl rfl (fun _ => b_eqls)) ?_
  refine S_ 9 rfl rfl rfl _ (y_move rfl rfl) ?_
  refine Sg_ 10 rfl rfl rfl rfl rfl rfl _ (y_load_far rfl rfl (show w.cell? ⟨b2, 0, none⟩ = some (.bool pre) from h2.1 0 _ rfl) h2.2 Tryz.underlying4 rfl) ?_
  refine Sg_ 11 rfl rfl rfl rfl rfl rfl _ (y_move rfl rfl) ?_
  refine Sg_ 12 rfl rfl rfl rfl rfl rfl _ (y_fieldAddr rfl rfl fa42_4) ?_
  refine Sg_ 13 rfl rfl rfl rfl rfl rfl _ (y_load 3 rfl rfl rfl rfl Tryz.underlying40 rfl) ?_
  refine Sg_ 14 rfl rfl rfl rfl rfl rfl _ (y_len_slice rfl rfl Tryz.underlying40) ?_
  refine Sg_ 15 rfl rfl rfl rfl rfl rfl _ (y_as (v' := .bool (decide (x.says.pre = []))) (by rw [pre_nil hx]) (y_bin rfl rfl rfl (fun _ => b_eql))) ?_
  refine Sg_ 16 rfl rfl rfl rfl rfl rfl _ (y_or rfl rfl rfl) ?_
  refine S_ 17 rfl rfl rfl _ (y_and rfl rfl rfl) ?_
  refine S_ 4 rfl rfl rfl _ (y_assign rfl rfl) ?_
  refine S_go (fun _ _ h => h) ?_
  refine T_ret (fun a w hF hM => hRb a w (post1 rfl rfl (fun w hM => ?_) a w hF hM))
  exact ⟨rfl, hM.below⟩
theorem After1_any (x i : SVer) (b1 : Nat) (w : World) (hx : VerOk w x) (hi : VerOk w i) (h1 : CellsAt w b1 i.enc) :
    Calls Tryz.prog 115 #[x.val, .pointer (some ⟨b1, 0, none⟩)] w fun e w' => e = .returned (.bool (aftP i.says x.says)) ∧ Below w.heap.size w w' := by
  refine enter_args (args := [.agg #[str x.p, .int .i64 x.a, .int .i64 x.b, .int .i64 x.c, .slice x.pre.A x.pre.q x.pre.c], .pointer (some ⟨b1, 0, none⟩)]) (F := _) Tryz.func115 rfl Tryz.ntmps115 rfl rfl ?_
  intro Rb hRb hRn
  refine T_seq ?_
  refine T_region ?_
  refine S_box 2 2 rfl rfl rfl rfl rfl ?_
  intro b2
  refine S_ 3 rfl rfl rfl _ (y_assign rfl rfl) ?_
  refine S_go (fun _ _ h => h) ?_
  refine T_seq ?_
  refine T_region ?_
  refine S_ 4 rfl rfl rfl _ (y_fieldAddr rfl rfl fa42_0) ?_
  refine S_ 5 rfl rfl rfl _ (y_load 2 rfl rfl rfl rfl Tryz.underlying9 rfl) ?_
  refine S_ 6 rfl rfl rfl _ (y_fieldAddr rfl rfl fa42_0) ?_
  refine S_ 7 rfl rfl rfl _ (y_load_far rfl rfl (h1.one (j := 0) rfl).1 (h1.one (j := 0) (cs := i.enc) rfl).2 Tryz.underlying9 rfl) ?_
  refine S_ 8 rfl rfl rfl _ (y_bin rfl rfl rfl (fun _ => b_eqls)) ?_
  refine S_ 9 rfl rfl rfl _ (y_move rfl rfl) ?_
  refine Sg_ 10 rfl rfl rfl rfl rfl rfl _ (y_fieldAddr rfl rfl fa42_4) ?_
  refine Sg_ 11 rfl rfl rfl rfl rfl rfl _ (y_load 2 rfl rfl rfl rfl Tryz.underlying40 rfl) ?_
  refine Sg_ 12 rfl rfl rfl rfl rfl rfl _ (y_len_slice rfl rfl Tryz.underlying40) ?_
  refine Sg_ 13 rfl rfl rfl rfl rfl rfl _ (y_as (v' := .bool (decide (x.says.pre = []))) (by rw [pre_nil hx]) (y_bin rfl rfl rfl (fun _ => b_eql))) ?_
  refine S_ 14 rfl rfl rfl _ (y_and rfl rfl rfl) ?_
  refine S_ 15 rfl rfl rfl _ (y_move rfl rfl) ?_
  refine Sg_ 16 rfl rfl rfl rfl rfl rfl _ (y_loadA 2 rfl rfl rfl Tryz.underlying42 rfl sz42) ?_
  refine Sg_ 17 rfl rfl rfl rfl rfl rfl _ (y_loadA_far rfl rfl h1.1 h1.2 Tryz.underlying42 rfl sz42) ?_
  refine Sg_ 18 rfl rfl rfl rfl rfl rfl _ (y_call rfl rfl rfl cf22 (fun _ w hM => Compare_any x i w (hx.below hM.below) (hi.below hM.below))) ?_
  refine Sg_ 19 rfl rfl rfl rfl rfl rfl _ (y_bin rfl rfl rfl (fun _ => b_gtr)) ?_
  refine S_ 20 rfl rfl rfl _ (y_and rfl rfl rfl) ?_
  refine S_ 3 rfl rfl rfl _ (y_assign rfl rfl) ?_
  refine S_go (fun _ _ h => h) ?_
  refine T_ret (fun a w hF hM => hRb a w (post1 rfl rfl (fun w hM => ?_) a w hF hM))
  exact ⟨rfl, hM.below⟩
def latO (S : List (List UInt8)) (project : List UInt8) (pre : Bool) : Option (List UInt8) := bestF (fun t => latP project pre (verV t)) (fun x y => decide (cmpV (verV y) (verV x) < 0)) S none
def aftO (S : List (List UInt8)) (s : List UInt8) : Option (List UInt8) := bestF (fun t => aftP (verV s) (verV t)) (fun x y => decide (cmpV (verV x) (verV y) < 0)) S none
def outR : Option (List UInt8) → List UInt8 × Int
  | none => ([], 7)
  | some t => (t, 0)
def latR (S : List (List UInt8)) (project : List UInt8) (pre : Bool) : List UInt8 × Int := if allNo S ≠ 0 then ([], allNo S) else if projOk project = false then ([], 3) else outR (latO S project pre)
def aftR (S : List (List UInt8)) (s : List UInt8) : List UInt8 × Int := if allNo S ≠ 0 then ([], allNo S) else if relOk s = false then ([], 8) else outR (aftO S s)
/-- what is best of the versions is what is best of the texts -/
theorem best_texts {S : List (List UInt8)} {l : List SVer} (h : l.map SVer.says = S.map verV) (p : PVer → Bool) (lt : PVer → PVer → Bool) :
    (bestF (fun x : SVer => p x.says) (fun x y => lt x.says y.says) l none).map SVer.says = (bestF (fun t => p (verV t)) (fun x y => lt (verV x) (verV y)) S none).map verV := by
  rw [← bestF_map SVer.says p lt l none, ← bestF_map verV p lt S none, h]; rfl
theorem best_some {S : List (List UInt8)} {l : List SVer} {o : Option SVer} {u : Option (List UInt8)} (hS : ∀ s ∈ S, relOk s = true) (hu : ∀ t, u = some t → t ∈ S) (h : o.map SVer.says = u.map verV) : (o = none ∧ u = none) ∨ ∃ v t, o = some v ∧ u = some t ∧ v.says = verV t ∧ relOk t = true := by
  cases o with
  | none => cases u with
    | none => exact .inl ⟨rfl, rfl⟩
    | some t => cases h
  | some v => cases u with
    | none => cases h
    | some t => exact .inr ⟨v, t, rfl, rfl, Option.some.inj h, hS t (hu t rfl)⟩
theorem txt_ver {v : SVer} {t : List UInt8} (h : v.says = verV t) (ht : relOk t = true) : txtR v.says = (t, 0) := by
  rw [h, right_txt (ver_right ht) (by rw [verT_of ht]; exact rel_len ht), verT_of ht]
set_option maxHeartbeats 1600000 in
theorem Latest_any (A : Option Addr) (q c : Nat) (S : List (List UInt8)) (project : List UInt8) (pre : Bool) (w : World) (hS : SlT strE 1 w A q S) (hP : P10 w) :
    Calls Tryz.prog 37 #[.slice A q c, str project, .bool pre] w fun e w' => e = .returned (.tuple #[str (latR S project pre).1, .int .i64 (latR S project pre).2]) ∧ Below w.heap.size w w' := by
  refine enter_args (args := [.slice A q c, str project, .bool pre]) (F := _) Tryz.func37 rfl Tryz.ntmps37 rfl rfl ?_
  intro Rb hRb hRn
  refine T_seq ?_
  refine T_region ?_
  refine S_box 4 4 rfl rfl rfl rfl rfl ?_
  intro b4
  refine S_box 5 5 rfl rfl rfl rfl rfl ?_
  intro b5
  refine S_ 6 rfl rfl rfl _ (y_assign rfl rfl) ?_
  refine S_ 7 rfl rfl rfl _ (y_assign rfl rfl) ?_
  refine S_go (fun _ _ h => h) ?_
  refine T_seq ?_
  refine T_region ?_
  refine S_ 13 rfl rfl rfl _ (y_move rfl rfl) ?_
  refine S_callN 14 [] [(4, 904), (900, 920)] (X := AllR) rfl rfl rfl rfl rfl rfl rfl cf110 rfl (fun z => .tuple #[.slice z.A z.l.length z.c, .int .i64 (allNo S)]) (fun z => z.Ok w S) (fun z => [(4, .own 42 5 (.slice z.A z.l.length z.c) z.l.length (z.l.flatMap SVer.enc)), (900, .many z.rs)]) (fun _ => rfl) (fun _ => rfl) (fun K1 hK1 w1 hM => parseAll_any hK1 A q c S w1 hS hM) ?_
  intro x14 hx14
  refine S_ 12 rfl rfl rfl _ (y_move rfl rfl) ?_
  refine S_ 15 rfl rfl rfl _ (y_extract rfl rfl rfl) ?_
  refine S_ 16 rfl rfl rfl _ (y_extract rfl rfl rfl) ?_
  refine S_ 8 rfl rfl rfl _ (y_assign rfl rfl) ?_
  refine S_ 9 rfl rfl rfl _ (y_assign rfl rfl) ?_
  refine S_go (fun _ _ h => h) ?_
  refine T_seq ?_
  refine T_seq ?_
  refine T_region ?_
  refine S_ 17 rfl rfl rfl _ (y_move rfl rfl) ?_
  refine S_ 18 rfl rfl rfl _ (y_bin rfl rfl rfl (fun _ => b_neq)) ?_
  refine S_go (fun _ _ h => h) ?_
  refine T_cond rfl (fun h18 => ?_) (fun h18 => ?_)
  · try simp only [decide_eq_true_eq, decide_eq_false_iff_not, Bool.or_eq_true, Bool.or_eq_false_iff, Bool.and_eq_true, Bool.and_eq_false_iff, Bool.not_eq_true', Bool.not_eq_false', Bool.not_eq_true, Bool.not_eq_false, Bool.not_true, Bool.not_false, Int.not_lt, Int.not_le, not_or, not_and, Classical.not_not] at h18
    have hr : latR S project pre = ([], allNo S) := if_pos h18
    refine T_seq ?_
    refine T_region ?_
    refine S_ 19 rfl rfl rfl _ (y_move rfl rfl) ?_
    refine S_ 6 rfl rfl rfl _ (y_assign rfl rfl) ?_
    refine S_ 7 rfl rfl rfl _ (y_assign rfl rfl) ?_
    refine S_go (fun _ _ h => h) ?_
    refine T_ret (fun a w hF hM => hRb a w (post2 rfl rfl rfl (fun w hM => ?_) a w hF hM))
    exact ⟨by rw [hr]; rfl, hM.below⟩
  · try simp only [decide_eq_true_eq, decide_eq_false_iff_not, Bool.or_eq_true, Bool.or_eq_false_iff, Bool.and_eq_true, Bool.and_eq_false_iff, Bool.not_eq_true', Bool.not_eq_false', Bool.not_eq_true, Bool.not_eq_false, Bool.not_true, Bool.not_false, Int.not_lt, Int.not_le, not_or, not_and, Classical.not_not] at h18
    have h18 : allNo S = 0 := h18
    have hal := all_ok h18
    have hxl := AllR.len hx14
    have hsm : x14.l.map SVer.says = S.map verV := by have := hx14.says; rw [if_pos h18] at this; exact this
    have hbt := best_texts hsm (latP project pre) (fun x y => decide (cmpV y x < 0))
    have hor := best_some (l := x14.l) hal.2 (fun t ht => (bestF_mem ht).resolve_right (by simp)) hbt
    refine T_skip_go (fun _ _ h => h) ?_
    refine T_seq ?_
    refine T_seq ?_
    refine T_region ?_
    refine S_ 20 rfl rfl rfl _ (y_load 4 rfl rfl rfl rfl Tryz.underlying9 rfl) ?_
    refine S_ 21 rfl rfl rfl _ (y_call rfl rfl rfl cf86 (fun _ w _ => IsProject_any project w)) ?_
    refine S_ 22 rfl rfl rfl _ (y_not rfl rfl) ?_
    refine S_go (fun _ _ h => h) ?_
    refine T_cond rfl (fun h22 => ?_) (fun h22 => ?_)
    · skip
      have hr : latR S project pre = ([], 3) := by rw [latR, if_neg (by rw [h18]; simp), if_pos (by simpa using h22)]
      refine T_seq ?_
      refine T_region ?_
      refine S_ 6 rfl rfl rfl _ (y_assign rfl rfl) ?_
      refine S_ 7 rfl rfl rfl _ (y_assign rfl rfl) ?_
      refine S_go (fun _ _ h => h) ?_
      refine T_ret (fun a w hF hM => hRb a w (post2 rfl rfl rfl (fun w hM => ?_) a w hF hM))
      exact ⟨by rw [hr], hM.below⟩
    · skip
      have hpj : projOk project = true := by simpa using h22
      refine T_skip_go (fun _ _ h => h) ?_
      refine T_seq ?_
      refine T_region ?_
      refine S_ 24 rfl rfl rfl _ (y_move rfl rfl) ?_
      refine S_ 25 rfl rfl rfl _ (y_makeFunc rfl rfl rfl rfl rfl) ?_
      refine S_ 26 rfl rfl rfl _ (y_call rfl rfl rfl cf116 (fun _ w hM => greatest_any x14.sl _ _ (fun x => latP project pre x.says) w (AllR.vers hx14 hM 904 920 rfl rfl (by omega)) cf117 (fun x hx w1 hb => Latest1_any x project pre b4 b5 w1 (((hx14.n x hx).at hM 920 rfl).below hb) (cells_below (hM.box_cells 4 rfl) hb) (cells_below (hM.box_cells 5 rfl) hb)))) ?_
      refine S_ 23 rfl rfl rfl _ (y_move rfl rfl) ?_
      refine S_ 27 rfl rfl rfl _ (y_extract rfl rfl rfl) ?_
      refine S_ 28 rfl rfl rfl _ (y_extract rfl rfl rfl) ?_
      refine S_alloc 10 10 rfl rfl rfl rfl z42 ?_
      intro b10
      refine S_store 10 rfl rfl rfl rfl rfl rfl sz42 rfl rfl ?_
      refine S_ 11 rfl rfl rfl _ (y_assign rfl rfl) ?_
      refine S_go (fun _ _ h => h) ?_
      refine T_seq ?_
      refine T_seq ?_
      refine T_region ?_
      refine S_ 29 rfl rfl rfl _ (y_move rfl rfl) ?_
      refine S_ 30 rfl rfl rfl _ (y_not rfl rfl) ?_
      refine S_go (fun _ _ h => h) ?_
      refine T_cond rfl (fun h30 => ?_) (fun h30 => ?_)
      · skip
        have hr : latR S project pre = ([], 7) := by
          rcases hor with ⟨h1, h2⟩ | ⟨v, t, h1, h2, _⟩
          · rw [latR, if_neg (by rw [h18]; simp), if_neg (by rw [hpj]; simp), latO, h2]; rfl
          · rw [show bestF (fun x => latP project pre x.says) (fun x y => decide (cmpV y.says x.says < 0)) x14.sl.l none = some v from h1] at h30; simp at h30
        refine T_seq ?_
        refine T_region ?_
        refine S_ 6 rfl rfl rfl _ (y_assign rfl rfl) ?_
        refine S_ 7 rfl rfl rfl _ (y_assign rfl rfl) ?_
        refine S_go (fun _ _ h => h) ?_
        refine T_ret (fun a w hF hM => hRb a w (post2 rfl rfl rfl (fun w hM => ?_) a w hF hM))
        exact ⟨by rw [hr], hM.below⟩
      · skip
        obtain ⟨v, t, h1, h2, h3, h4⟩ : ∃ v t, bestF (fun x : SVer => latP project pre x.says) (fun x y => decide (cmpV y.says x.says < 0)) x14.sl.l none = some v ∧ latO S project pre = some t ∧ v.says = verV t ∧ relOk t = true := by
          rcases hor with ⟨h1, h2⟩ | h
          · rw [show bestF (fun x => latP project pre x.says) (fun x y => decide (cmpV y.says x.says < 0)) x14.sl.l none = none from h1] at h30; simp at h30
          · exact h
        have hvm : v ∈ x14.l := (bestF_mem h1).resolve_right (by simp)
        have hr : latR S project pre = (t, 0) := by rw [latR, if_neg (by rw [h18]; simp), if_neg (by rw [hpj]; simp), h2]; rfl
        have htx := txt_ver h3 h4
        refine T_skip_go (fun _ _ h => h) ?_
        refine T_seq ?_
        refine T_region ?_
        refine S_ 31 rfl rfl rfl _ (y_as (v' := v.val) (by rw [h1]; rfl) (y_loadA 10 rfl rfl rfl Tryz.underlying42 rfl sz42)) ?_
        refine S_ 32 rfl rfl rfl _ (y_call rfl rfl rfl cf19 (fun _ w hM => Text_any v w ((hx14.n v hvm).at hM 920 rfl) (hP.below hM.below))) ?_
        refine S_ 33 rfl rfl rfl _ (y_extract rfl rfl rfl) ?_
        refine S_ 34 rfl rfl rfl _ (y_extract rfl rfl rfl) ?_
        refine S_ 6 rfl rfl rfl _ (y_assign rfl rfl) ?_
        refine S_ 7 rfl rfl rfl _ (y_assign rfl rfl) ?_
        refine S_go (fun _ _ h => h) ?_
        refine T_ret (fun a w hF hM => hRb a w (post2 rfl rfl rfl (fun w hM => ?_) a w hF hM))
        exact ⟨by rw [hr, htx]; rfl, hM.below⟩
set_option maxHeartbeats 1600000 in
theorem After_any (A : Option Addr) (q c : Nat) (S : List (List UInt8)) (s : List UInt8) (w : World) (hS : SlT strE 1 w A q S) (hP : P10 w) :
    Calls Tryz.prog 34 #[.slice A q c, str s] w fun e w' => e = .returned (.tuple #[str (aftR S s).1, .int .i64 (aftR S s).2]) ∧ Below w.heap.size w w' := by
  refine enter_args (args := [.slice A q c, str s]) (F := _) Tryz.func34 rfl Tryz.ntmps34 rfl rfl ?_
  intro Rb hRb hRn
  refine T_seq ?_
  refine T_region ?_
  refine S_ 4 rfl rfl rfl _ (y_assign rfl rfl) ?_
  refine S_ 5 rfl rfl rfl _ (y_assign rfl rfl) ?_
  refine S_go (fun _ _ h => h) ?_
  refine T_seq ?_
  refine T_region ?_
  refine S_ 13 rfl rfl rfl _ (y_move rfl rfl) ?_
  refine S_callN 14 [] [(4, 904), (900, 920)] (X := AllR) rfl rfl rfl rfl rfl rfl rfl cf110 rfl (fun z => .tuple #[.slice z.A z.l.length z.c, .int .i64 (allNo S)]) (fun z => z.Ok w S) (fun z => [(4, .own 42 5 (.slice z.A z.l.length z.c) z.l.length (z.l.flatMap SVer.enc)), (900, .many z.rs)]) (fun _ => rfl) (fun _ => rfl) (fun K1 hK1 w1 hM => parseAll_any hK1 A q c S w1 hS hM) ?_
  intro x14 hx14
  refine S_ 12 rfl rfl rfl _ (y_move rfl rfl) ?_
  refine S_ 15 rfl rfl rfl _ (y_extract rfl rfl rfl) ?_
  refine S_ 16 rfl rfl rfl _ (y_extract rfl rfl rfl) ?_
  refine S_ 6 rfl rfl rfl _ (y_assign rfl rfl) ?_
  refine S_ 7 rfl rfl rfl _ (y_assign rfl rfl) ?_
  refine S_go (fun _ _ h => h) ?_
  refine T_seq ?_
  refine T_seq ?_
  refine T_region ?_
  refine S_ 17 rfl rfl rfl _ (y_move rfl rfl) ?_
  refine S_ 18 rfl rfl rfl _ (y_bin rfl rfl rfl (fun _ => b_neq)) ?_
  refine S_go (fun _ _ h => h) ?_
  refine T_cond rfl (fun h18 => ?_) (fun h18 => ?_)
  · try simp only [decide_eq_true_eq, decide_eq_false_iff_not, Bool.or_eq_true, Bool.or_eq_false_iff, Bool.and_eq_true, Bool.and_eq_false_iff, Bool.not_eq_true', Bool.not_eq_false', Bool.not_eq_true, Bool.not_eq_false, Bool.not_true, Bool.not_false, Int.not_lt, Int.not_le, not_or, not_and, Classical.not_not] at h18
    have hr : aftR S s = ([], allNo S) := if_pos h18
    refine T_seq ?_
    refine T_region ?_
    refine S_ 19 rfl rfl rfl _ (y_move rfl rfl) ?_
    refine S_ 4 rfl rfl rfl _ (y_assign rfl rfl) ?_
    refine S_ 5 rfl rfl rfl _ (y_assign rfl rfl) ?_
    refine S_go (fun _ _ h => h) ?_
    refine T_ret (fun a w hF hM => hRb a w (post2 rfl rfl rfl (fun w hM => ?_) a w hF hM))
    exact ⟨by rw [hr]; rfl, hM.below⟩
  · try simp only [decide_eq_true_eq, decide_eq_false_iff_not, Bool.or_eq_true, Bool.or_eq_false_iff, Bool.and_eq_true, Bool.and_eq_false_iff, Bool.not_eq_true', Bool.not_eq_false', Bool.not_eq_true, Bool.not_eq_false, Bool.not_true, Bool.not_false, Int.not_lt, Int.not_le, not_or, not_and, Classical.not_not] at h18
    have h18 : allNo S = 0 := h18
    have hal := all_ok h18
    have hxl := AllR.len hx14
    have hsm : x14.l.map SVer.says = S.map verV := by have := hx14.says; rw [if_pos h18] at this; exact this
    have hbt := best_texts hsm (aftP (verV s)) (fun x y => decide (cmpV x y < 0))
    have hor := best_some (l := x14.l) hal.2 (fun t ht => (bestF_mem ht).resolve_right (by simp)) hbt
    refine T_skip_go (fun _ _ h => h) ?_
    refine T_seq ?_
    refine T_region ?_
    refine S_ 21 rfl rfl rfl _ (y_move rfl rfl) ?_
    refine S_callOwn 22 22 rfl rfl rfl rfl rfl rfl rfl cf101 (fun A c => .tuple #[pvV (parseR s).1 A c, .bool (parseR s).2]) 9 1 ((parseR s).1.pre.length) ((parseR s).1.pre.flatMap strE) (fun w hM => parse_any s w) ?_
    intro A22 c22
    refine S_ 20 rfl rfl rfl _ (y_move rfl rfl) ?_
    refine S_ 23 rfl rfl rfl _ (y_extract rfl rfl rfl) ?_
    refine S_ 24 rfl rfl rfl _ (y_extract rfl rfl rfl) ?_
    refine S_alloc 8 8 rfl rfl rfl rfl z42 ?_
    intro b8
    refine S_store 8 rfl rfl rfl rfl rfl rfl sz42 rfl rfl ?_
    refine S_ 9 rfl rfl rfl _ (y_assign rfl rfl) ?_
    refine S_go (fun _ _ h => h) ?_
    refine T_seq ?_
    refine T_seq ?_
    refine T_region ?_
    refine S_ 25 rfl rfl rfl _ (y_move rfl rfl) ?_
    refine S_ 26 rfl rfl rfl _ (y_not rfl rfl) ?_
    refine S_go (fun _ _ h => h) ?_
    refine T_cond rfl (fun h26 => ?_) (fun h26 => ?_)
    · skip
      have hr : aftR S s = ([], 8) := by rw [aftR, if_neg (by rw [h18]; simp), if_pos (by simpa using h26)]
      refine T_seq ?_
      refine T_region ?_
      refine S_ 4 rfl rfl rfl _ (y_assign rfl rfl) ?_
      refine S_ 5 rfl rfl rfl _ (y_assign rfl rfl) ?_
      refine S_go (fun _ _ h => h) ?_
      refine T_ret (fun a w hF hM => hRb a w (post2 rfl rfl rfl (fun w hM => ?_) a w hF hM))
      exact ⟨by rw [hr], hM.below⟩
    · skip
      have hpj : relOk s = true := by simpa using h26
      refine T_skip_go (fun _ _ h => h) ?_
      refine T_seq ?_
      refine T_region ?_
      refine S_ 28 rfl rfl rfl _ (y_move rfl rfl) ?_
      refine S_ 29 rfl rfl rfl _ (y_makeFunc rfl rfl rfl rfl rfl) ?_
      refine S_ 30 rfl rfl rfl _ (y_call rfl rfl rfl cf114 (fun _ w hM => best_any x14.sl _ _ _ _ (fun x => aftP (verV s) x.says) (fun x y => cmpV x.says y.says) w (AllR.vers hx14 hM 904 920 rfl rfl (by omega)) cf115 cf22 (fun x hx w1 hb => (After1_any x (svr (parseR s).1 A22 c22) b8 w1 (((hx14.n x hx).at hM 920 rfl).below hb) (svr_ok (parseR_bound _) ((owned_ok (enc := strE) hM rfl (i := 22) rfl).below hb)) (cells_below (hM.box_cells 8 rfl) hb)).mono fun e w2 h => ⟨by rw [h.1, svr_says, parse_ver hpj], h.2⟩) (fun x y w1 hx hy => Compare_any x y w1 hx hy))) ?_
      refine S_ 27 rfl rfl rfl _ (y_move rfl rfl) ?_
      refine S_ 31 rfl rfl rfl _ (y_extract rfl rfl rfl) ?_
      refine S_ 32 rfl rfl rfl _ (y_extract rfl rfl rfl) ?_
      refine S_alloc 10 10 rfl rfl rfl rfl z42 ?_
      intro b10
      refine S_store 10 rfl rfl rfl rfl rfl rfl sz42 rfl rfl ?_
      refine S_ 11 rfl rfl rfl _ (y_assign rfl rfl) ?_
      refine S_go (fun _ _ h => h) ?_
      refine T_seq ?_
      refine T_seq ?_
      refine T_region ?_
      refine S_ 33 rfl rfl rfl _ (y_move rfl rfl) ?_
      refine S_ 34 rfl rfl rfl _ (y_not rfl rfl) ?_
      refine S_go (fun _ _ h => h) ?_
      refine T_cond rfl (fun h34 => ?_) (fun h34 => ?_)
      · skip
        have hr : aftR S s = ([], 7) := by
          rcases hor with ⟨h1, h2⟩ | ⟨v, t, h1, h2, _⟩
          · rw [aftR, if_neg (by rw [h18]; simp), if_neg (by rw [hpj]; simp), aftO, h2]; rfl
          · rw [show bestF (fun x => aftP (verV s) x.says) (fun x y => decide (cmpV x.says y.says < 0)) x14.sl.l none = some v from h1] at h34; simp at h34
        refine T_seq ?_
        refine T_region ?_
        refine S_ 4 rfl rfl rfl _ (y_assign rfl rfl) ?_
        refine S_ 5 rfl rfl rfl _ (y_assign rfl rfl) ?_
        refine S_go (fun _ _ h => h) ?_
        refine T_ret (fun a w hF hM => hRb a w (post2 rfl rfl rfl (fun w hM => ?_) a w hF hM))
        exact ⟨by rw [hr], hM.below⟩
      · skip
        obtain ⟨v, t, h1, h2, h3, h4⟩ : ∃ v t, bestF (fun x : SVer => aftP (verV s) x.says) (fun x y => decide (cmpV x.says y.says < 0)) x14.sl.l none = some v ∧ aftO S s = some t ∧ v.says = verV t ∧ relOk t = true := by
          rcases hor with ⟨h1, h2⟩ | h
          · rw [show bestF (fun x => aftP (verV s) x.says) (fun x y => decide (cmpV x.says y.says < 0)) x14.sl.l none = none from h1] at h34; simp at h34
          · exact h
        have hvm : v ∈ x14.l := (bestF_mem h1).resolve_right (by simp)
        have hr : aftR S s = (t, 0) := by rw [aftR, if_neg (by rw [h18]; simp), if_neg (by rw [hpj]; simp), h2]; rfl
        have htx := txt_ver h3 h4
        refine T_skip_go (fun _ _ h => h) ?_
        refine T_seq ?_
        refine T_region ?_
        refine S_ 35 rfl rfl rfl _ (y_as (v' := v.val) (by rw [h1]; rfl) (y_loadA 10 rfl rfl rfl Tryz.underlying42 rfl sz42)) ?_
        refine S_ 36 rfl rfl rfl _ (y_call rfl rfl rfl cf19 (fun _ w hM => Text_any v w ((hx14.n v hvm).at hM 920 rfl) (hP.below hM.below))) ?_
        refine S_ 37 rfl rfl rfl _ (y_extract rfl rfl rfl) ?_
        refine S_ 38 rfl rfl rfl _ (y_extract rfl rfl rfl) ?_
        refine S_ 4 rfl rfl rfl _ (y_assign rfl rfl) ?_
        refine S_ 5 rfl rfl rfl _ (y_assign rfl rfl) ?_
        refine S_go (fun _ _ h => h) ?_
        refine T_ret (fun a w hF hM => hRb a w (post2 rfl rfl rfl (fun w hM => ?_) a w hF hM))
        exact ⟨by rw [hr, htx]; rfl, hM.below⟩
end Go.Proofs.YtpmlgnbbkpplhaaGreatDoor
end
section
namespace Go.Proofs.YtpmlgnbbkpplhaaGreatDoor
set_option linter.unusedSimpArgs false
set_option linter.unusedVariables false
set_option maxRecDepth 20000
open Go.RowKit Go.Eng
theorem toldV_any (v want : List UInt8) (e f : Int) (w : World) :
    Calls Tryz.prog 21 #[str v, .int .i64 e, str want, .int .i64 f] w fun en w' => en = .returned (.bool (decide (v = if f = 0 then want else []) && decide (e = f))) ∧ Below w.heap.size w w' := by
  refine enter_args (args := [str v, .int .i64 e, str want, .int .i64 f]) (F := _) Tryz.func21 rfl Tryz.ntmps21 rfl rfl ?_
  intro Rb hRb hRn
  refine T_seq ?_
  refine T_region ?_
  refine S_ 8 rfl rfl rfl _ (y_assign rfl rfl) ?_
  refine S_go (fun _ _ h => h) ?_
  refine T_seq ?_
  refine T_region ?_
  refine S_ 9 rfl rfl rfl _ (y_assign rfl rfl) ?_
  refine S_go (fun _ _ h => h) ?_
  refine T_seq ?_
  refine T_seq ?_
  refine T_region ?_
  refine S_ 10 rfl rfl rfl _ (y_move rfl rfl) ?_
  refine S_ 11 rfl rfl rfl _ (y_bin rfl rfl rfl (fun _ => b_neq)) ?_
  refine S_go (fun _ _ h => h) ?_
  refine T_cond rfl (fun h11 => ?_) (fun h11 => ?_)
  · try simp only [decide_eq_true_eq, decide_eq_false_iff_not, Bool.or_eq_true, Bool.or_eq_false_iff, Bool.and_eq_true, Bool.and_eq_false_iff, Bool.not_eq_true', Bool.not_eq_false', Bool.not_eq_true, Bool.not_eq_false, Bool.not_true, Bool.not_false, Int.not_lt, Int.not_le, not_or, not_and, Classical.not_not] at h11
    refine T_region ?_
    refine S_ 12 rfl rfl rfl _ (y_move rfl rfl) ?_
    refine S_ 2 rfl rfl rfl _ (y_assign rfl rfl) ?_
    refine S_go (fun _ _ h => h) ?_
    refine T_seq ?_
    refine T_region ?_
    refine S_ 13 rfl rfl rfl _ (y_move rfl rfl) ?_
    refine S_ 14 rfl rfl rfl _ (y_move rfl rfl) ?_
    refine S_ 15 rfl rfl rfl _ (y_bin rfl rfl rfl (fun _ => b_eqls)) ?_
    refine S_ 16 rfl rfl rfl _ (y_move rfl rfl) ?_
    refine Sg_ 17 rfl rfl rfl rfl rfl rfl _ (y_move rfl rfl) ?_
    refine Sg_ 18 rfl rfl rfl rfl rfl rfl _ (y_move rfl rfl) ?_
    refine Sg_ 19 rfl rfl rfl rfl rfl rfl _ (y_bin rfl rfl rfl (fun _ => b_eql)) ?_
    refine S_ 20 rfl rfl rfl _ (y_and rfl rfl rfl) ?_
    refine S_ 8 rfl rfl rfl _ (y_assign rfl rfl) ?_
    refine S_go (fun _ _ h => h) ?_
    refine T_ret (fun a w hF hM => hRb a w (post1 rfl rfl (fun w hM => ?_) a w hF hM))
    exact ⟨by rw [if_neg h11], hM.below⟩
  · try simp only [decide_eq_true_eq, decide_eq_false_iff_not, Bool.or_eq_true, Bool.or_eq_false_iff, Bool.and_eq_true, Bool.and_eq_false_iff, Bool.not_eq_true', Bool.not_eq_false', Bool.not_eq_true, Bool.not_eq_false, Bool.not_true, Bool.not_false, Int.not_lt, Int.not_le, not_or, not_and, Classical.not_not] at h11
    refine T_skip_go (fun _ _ h => h) ?_
    refine T_seq ?_
    refine T_region ?_
    refine S_ 13 rfl rfl rfl _ (y_move rfl rfl) ?_
    refine S_ 14 rfl rfl rfl _ (y_move rfl rfl) ?_
    refine S_ 15 rfl rfl rfl _ (y_bin rfl rfl rfl (fun _ => b_eqls)) ?_
    refine S_ 16 rfl rfl rfl _ (y_move rfl rfl) ?_
    refine Sg_ 17 rfl rfl rfl rfl rfl rfl _ (y_move rfl rfl) ?_
    refine Sg_ 18 rfl rfl rfl rfl rfl rfl _ (y_move rfl rfl) ?_
    refine Sg_ 19 rfl rfl rfl rfl rfl rfl _ (y_bin rfl rfl rfl (fun _ => b_eql)) ?_
    refine S_ 20 rfl rfl rfl _ (y_and rfl rfl rfl) ?_
    refine S_ 8 rfl rfl rfl _ (y_assign rfl rfl) ?_
    refine S_go (fun _ _ h => h) ?_
    refine T_ret (fun a w hF hM => hRb a w (post1 rfl rfl (fun w hM => ?_) a w hF hM))
    exact ⟨by rw [if_pos h11], hM.below⟩
end Go.Proofs.YtpmlgnbbkpplhaaGreatDoor
end
section
namespace Go.Proofs.YtpmlgnbbkpplhaaGreatDoor
set_option linter.unusedSimpArgs false
set_option linter.unusedVariables false
set_option maxRecDepth 20000
open Go.RowKit Go.Eng
theorem rel_nilX : relOk [] = false := by kernel_rfl
theorem rel_ne {s : List UInt8} (h : relOk s = true) : s ≠ [] := fun e => by rw [e, (show relOk [] = false from rel_nilX)] at h; cases h
theorem gt_lt (x y : PVer) : decide (0 < cmpV x y) = decide (cmpV y x < 0) := by
  have := cmp3_V.anti x y
  by_cases h : 0 < cmpV x y
  · rw [decide_eq_true h, decide_eq_true (by omega)]
  · rw [decide_eq_false h, decide_eq_false (by omega)]
theorem parE_g {s : List UInt8} (h : relOk s = true) : parE s = (verV s, 0) := if_pos h
theorem len_nil (l : List (List UInt8)) : decide ((l.length : Int) = 0) = decide (l = []) := by
  cases l with
  | nil => rfl
  | cons a r => rw [decide_eq_false (by rw [List.length_cons]; omega), decide_eq_false (by simp)]
theorem lat_step {x project : List UInt8} {pre : Bool} {o : Option (List UInt8)} (hx : relOk x = true) (ho : ∀ y, o = some y → relOk y = true) :
    ((decide ((parE x).1.p = project) && (pre || decide (((parE x).1.pre.length : Int) = 0))) && (decide (o.getD [] = []) || decide (0 < relE x (o.getD [])))) = (latP project pre (verV x) && beats (fun x y => decide (cmpV (verV y) (verV x) < 0)) x o) := by
  rw [parE_g hx, len_nil]
  cases o with
  | none => simp [latP, beats]
  | some y =>
    have hy := ho y rfl
    have e : relE x y = cmpV (verV x) (verV y) := by rw [relE, parE_g hx, parE_g hy]
    show (_ && (decide (y = []) || decide (0 < relE x y))) = (latP project pre (verV x) && decide (cmpV (verV y) (verV x) < 0))
    rw [decide_eq_false (rel_ne hy), Bool.false_or, e, gt_lt]; rfl
theorem aft_step {x s : List UInt8} {o : Option (List UInt8)} (hx : relOk x = true) (hs : relOk s = true) (ho : ∀ y, o = some y → relOk y = true) :
    (((decide ((parE x).1.p = (parE s).1.p) && decide (((parE x).1.pre.length : Int) = 0)) && decide (0 < cmpV (parE x).1 (parE s).1)) && (decide (o.getD [] = []) || decide (relE x (o.getD []) < 0))) = (aftP (verV s) (verV x) && beats (fun x y => decide (cmpV (verV x) (verV y) < 0)) x o) := by
  rw [parE_g hx, parE_g hs, len_nil]
  cases o with
  | none => simp [aftP, beats]
  | some y =>
    have hy := ho y rfl
    have e : relE x y = cmpV (verV x) (verV y) := by rw [relE, parE_g hx, parE_g hy]
    show (_ && (decide (y = []) || decide (relE x y < 0))) = (aftP (verV s) (verV x) && decide (cmpV (verV x) (verV y) < 0))
    rw [decide_eq_false (rel_ne hy), Bool.false_or, e]; rfl
def latQ (S : List (List UInt8)) (project : List UInt8) (pre : Bool) : List UInt8 × Int := if projOk project = false then ([], 3) else outR (latO S project pre)
def aftQ (S : List (List UInt8)) (s : List UInt8) : List UInt8 × Int := if relOk s = false then ([], 8) else outR (aftO S s)
theorem out_none {o : Option (List UInt8)} (ho : ∀ y, o = some y → relOk y = true) (h : o.getD [] = []) : outR o = ([], 7) := by
  cases o with
  | none => rfl
  | some y => exact absurd h (rel_ne (ho y rfl))
theorem out_some {o : Option (List UInt8)} (h : ¬ o.getD [] = []) : outR o = (o.getD [], 0) := by
  cases o with
  | none => exact absurd rfl h
  | some y => rfl
set_option maxHeartbeats 1600000 in
theorem LatestOf_any (A : Option Addr) (q c : Nat) (S : List (List UInt8)) (project : List UInt8) (pre : Bool) (w : World) (hS : SlT strE 1 w A q S) (hq : q ≤ 2000) (hall : ∀ t ∈ S, relOk t = true) :
    Calls Tryz.prog 41 #[.slice A q c, str project, .bool pre] w fun e w' => e = .returned (.tuple #[str (latQ S project pre).1, .int .i64 (latQ S project pre).2]) ∧ Below w.heap.size w w' := by
  have hlen := hS.len
  refine enter_args (args := [.slice A q c, str project, .bool pre]) (F := _) Tryz.func41 rfl Tryz.ntmps41 rfl rfl ?_
  intro Rb hRb hRn
  refine T_seq ?_
  refine T_region ?_
  refine S_ 6 rfl rfl rfl _ (y_assign rfl rfl) ?_
  refine S_ 7 rfl rfl rfl _ (y_assign rfl rfl) ?_
  refine S_go (fun _ _ h => h) ?_
  refine T_seq ?_
  refine T_seq ?_
  refine T_region ?_
  refine S_ 13 rfl rfl rfl _ (y_move rfl rfl) ?_
  refine S_ 14 rfl rfl rfl _ (y_call rfl rfl rfl cf92 (fun _ w _ => projectOk_any project w)) ?_
  refine S_ 15 rfl rfl rfl _ (y_not rfl rfl) ?_
  refine S_go (fun _ _ h => h) ?_
  refine T_cond rfl (fun h15 => ?_) (fun h15 => ?_)
  · skip
    have hr : latQ S project pre = ([], 3) := if_pos (by simpa using h15)
    refine T_seq ?_
    refine T_region ?_
    refine S_ 6 rfl rfl rfl _ (y_assign rfl rfl) ?_
    refine S_ 7 rfl rfl rfl _ (y_assign rfl rfl) ?_
    refine S_go (fun _ _ h => h) ?_
    refine T_ret (fun a w hF hM => hRb a w (post2 rfl rfl rfl (fun w hM => ?_) a w hF hM))
    exact ⟨by rw [hr], hM.below⟩
  · skip
    have hpj : projOk project = true := by simpa using h15
    refine T_skip_go (fun _ _ h => h) ?_
    refine T_seq ?_
    refine T_region ?_
    refine S_ 8 rfl rfl rfl _ (y_assign rfl rfl) ?_
    refine S_go (fun _ _ h => h) ?_
    refine T_seq ?_
    refine T_seq ?_
    refine T_region ?_
    refine S_ 16 rfl rfl rfl _ (y_move rfl rfl) ?_
    refine S_ 17 rfl rfl rfl _ (y_len_slice rfl rfl Tryz.underlying40) ?_
    refine S_ 18 rfl rfl rfl _ (y_move rfl rfl) ?_
    refine S_go (fun _ _ h => h) ?_
    refine T_block ?_
    refine T_loopK2 (kf := [(8, 8), (10, 12), (18, 51)]) (kl := [(8, 8), (10, 12), (18, 51)]) (fun (i : Nat) (o : Option (List UInt8)) => [(18, true, .int .i64 (i : Int)), (8, true, str (o.getD []))]) (fun (i : Nat) (o : Option (List UInt8)) => []) (fun (i : Nat) (o : Option (List UInt8)) => i ≤ q ∧ bestF (fun t => latP project pre (verV t)) (fun x y => decide (cmpV (verV y) (verV x) < 0)) (S.drop i) o = latO S project pre ∧ ∀ y, o = some y → y ∈ S) (fun (i : Nat) (o : Option (List UInt8)) => q - i) 0 none (by repeat (first | exact kf_nil | (apply kf_in; focus rfl) | (apply kf_out; focus rfl))) (by repeat (first | exact kl_nil | exact kl_rest (by assumption) rfl | (apply kl_in; focus rfl) | (apply kl_out; focus rfl))) ?_ ?_ ?_ ?_
    · exact ⟨by omega, rfl, fun y h => by cases h⟩
    · exact ⟨rfl, rfl, trivial⟩
    · exact trivial
    rintro i o ⟨hp1, hp2, hp3⟩
    refine T_seq ?_
    refine T_region ?_
    refine S_ 19 rfl rfl rfl _ (y_bin rfl rfl rfl (fun _ => b_lss)) ?_
    refine S_go (fun _ _ h => h) ?_
    refine T_seq ?_
    refine T_cond rfl (fun h19 => ?_) (fun h19 => ?_)
    · try simp only [decide_eq_true_eq, decide_eq_false_iff_not, Bool.or_eq_true, Bool.or_eq_false_iff, Bool.and_eq_true, Bool.and_eq_false_iff, Bool.not_eq_true', Bool.not_eq_false', Bool.not_eq_true, Bool.not_eq_false, Bool.not_true, Bool.not_false, Int.not_lt, Int.not_le, not_or, not_and, Classical.not_not] at h19
      obtain ⟨x, hx1, hx2⟩ := hS.at (i := i) (by omega)
      have hxr := hall x (mem_at hx1)
      have hor : ∀ y, o = some y → relOk y = true := fun y hy => hall y (hp3 y hy)
      refine T_skip_go (fun _ _ h => h) ?_
      refine T_seq ?_
      refine T_block ?_
      refine T_seq ?_
      refine T_region ?_
      refine S_ 20 rfl rfl rfl _ (y_indexAddr rfl rfl rfl Tryz.underlying40 sz9 (fun hg => hS.isSome (by omega)) (fun _ => by omega)) ?_
      refine S_ 21 rfl rfl rfl _ (y_loadT1 (val := (fun l : List UInt8 => str l)) rfl rfl hS (fun _ => hx1) Tryz.underlying9 rfl) ?_
      refine S_ 10 rfl rfl rfl _ (y_assign rfl rfl) ?_
      refine S_go (fun _ _ h => h) ?_
      refine T_seq ?_
      refine T_region ?_
      refine S_ 23 rfl rfl rfl _ (y_move rfl rfl) ?_
      refine S_callOwn 24 24 rfl rfl rfl rfl rfl rfl rfl cf25 (fun A c => .tuple #[pvV (parE x).1 A c, .int .i64 (parE x).2]) 9 1 ((parE x).1.pre.length) ((parE x).1.pre.flatMap strE) (fun w hM => VersionOf_any x w) ?_
      intro A24 c24
      refine S_ 22 rfl rfl rfl _ (y_move rfl rfl) ?_
      refine S_ 25 rfl rfl rfl _ (y_extract rfl rfl rfl) ?_
      refine S_ 26 rfl rfl rfl _ (y_extract rfl rfl rfl) ?_
      refine S_alloc 11 11 rfl rfl rfl rfl z42 ?_
      intro b11
      refine S_store 11 rfl rfl rfl rfl rfl rfl sz42 rfl rfl ?_
      refine S_ 12 rfl rfl rfl _ (y_assign rfl rfl) ?_
      refine S_go (fun _ _ h => h) ?_
      refine T_seq ?_
      refine T_region ?_
      refine S_ 27 rfl rfl rfl _ (y_fieldAddr rfl rfl fa42_0) ?_
      refine S_ 28 rfl rfl rfl _ (y_load 11 rfl rfl rfl rfl Tryz.underlying9 rfl) ?_
      refine S_ 29 rfl rfl rfl _ (y_move rfl rfl) ?_
      refine S_ 30 rfl rfl rfl _ (y_bin rfl rfl rfl (fun _ => b_eqls)) ?_
      refine S_ 31 rfl rfl rfl _ (y_move rfl rfl) ?_
      refine Sg_ 32 rfl rfl rfl rfl rfl rfl _ (y_move rfl rfl) ?_
      refine Sg_ 33 rfl rfl rfl rfl rfl rfl _ (y_move rfl rfl) ?_
      refine Sg_ 34 rfl rfl rfl rfl rfl rfl _ (y_fieldAddr rfl rfl fa42_4) ?_
      refine Sg_ 35 rfl rfl rfl rfl rfl rfl _ (y_load 11 rfl rfl rfl rfl Tryz.underlying40 rfl) ?_
      refine Sg_ 36 rfl rfl rfl rfl rfl rfl _ (y_len_slice rfl rfl Tryz.underlying40) ?_
      refine Sg_ 37 rfl rfl rfl rfl rfl rfl _ (y_bin rfl rfl rfl (fun _ => b_eql)) ?_
      refine Sg_ 38 rfl rfl rfl rfl rfl rfl _ (y_or rfl rfl rfl) ?_
      refine S_ 39 rfl rfl rfl _ (y_and rfl rfl rfl) ?_
      refine S_ 40 rfl rfl rfl _ (y_move rfl rfl) ?_
      refine Sg_ 41 rfl rfl rfl rfl rfl rfl _ (y_move rfl rfl) ?_
      refine Sg_ 42 rfl rfl rfl rfl rfl rfl _ (y_bin rfl rfl rfl (fun _ => b_eqls)) ?_
      refine Sg_ 43 rfl rfl rfl rfl rfl rfl _ (y_move rfl rfl) ?_
      refine Sg_ 44 rfl rfl rfl rfl rfl rfl _ (y_move rfl rfl) ?_
      refine Sg_ 45 rfl rfl rfl rfl rfl rfl _ (y_move rfl rfl) ?_
      refine Sg_ 46 rfl rfl rfl rfl rfl rfl _ (y_call rfl rfl rfl cf120 (fun _ w _ => releasesCompare_any x (o.getD []) w)) ?_
      refine Sg_ 47 rfl rfl rfl rfl rfl rfl _ (y_bin rfl rfl rfl (fun _ => b_gtr)) ?_
      refine Sg_ 48 rfl rfl rfl rfl rfl rfl _ (y_or rfl rfl rfl) ?_
      refine S_ 49 rfl rfl rfl _ (y_as (v' := .bool (latP project pre (verV x) && beats (fun x y => decide (cmpV (verV y) (verV x) < 0)) x o)) (by exact congrArg Value.bool (lat_step hxr hor)) (y_and rfl rfl rfl)) ?_
      refine S_go (fun _ _ h => h) ?_
      refine T_cond rfl (fun h49 => ?_) (fun h49 => ?_)
      · skip
        refine T_region ?_
        refine S_ 50 rfl rfl rfl _ (y_move rfl rfl) ?_
        refine S_ 8 rfl rfl rfl _ (y_assign rfl rfl) ?_
        refine S_go (fun _ _ h => h) ?_
        refine T_region ?_
        refine S_ 51 rfl rfl rfl _ (y_bin rfl rfl rfl (fun hg => b_add (by omega))) ?_
        refine S_ 18 rfl rfl rfl _ (y_move rfl rfl) ?_
        refine S_nil (nextK2 (kf := [(8, 8), (10, 12), (18, 51)]) (kl := [(8, 8), (10, 12), (18, 51)]) (i + 1) (some x) (by repeat (first | exact kf_nil | (apply kf_in; focus rfl) | (apply kf_out; focus rfl))) (by repeat (first | exact kl_nil | exact kl_rest (by assumption) rfl | (apply kl_in; focus rfl) | (apply kl_out; focus rfl))) ?_ ?_ ?_ ?_)
        · omega
        · exact ⟨by omega, by rw [← hp2, hx2, bestF, if_pos h49], fun y h => by rw [← Option.some.inj h]; exact mem_at hx1⟩
        · exact ⟨rfl, rfl, trivial⟩
        · exact trivial
      · skip
        refine T_skip_go (fun _ _ h => h) ?_
        refine T_region ?_
        refine S_ 51 rfl rfl rfl _ (y_bin rfl rfl rfl (fun hg => b_add (by omega))) ?_
        refine S_ 18 rfl rfl rfl _ (y_move rfl rfl) ?_
        refine S_nil (nextK2 (kf := [(8, 8), (10, 12), (18, 51)]) (kl := [(8, 8), (10, 12), (18, 51)]) (i + 1) o (by repeat (first | exact kf_nil | (apply kf_in; focus rfl) | (apply kf_out; focus rfl))) (by repeat (first | exact kl_nil | exact kl_rest (by assumption) rfl | (apply kl_in; focus rfl) | (apply kl_out; focus rfl))) ?_ ?_ ?_ ?_)
        · omega
        · exact ⟨by omega, by rw [← hp2, hx2, bestF, if_neg (by rw [h49]; simp)], hp3⟩
        · exact ⟨rfl, rfl, trivial⟩
        · exact trivial
    · try simp only [decide_eq_true_eq, decide_eq_false_iff_not, Bool.or_eq_true, Bool.or_eq_false_iff, Bool.and_eq_true, Bool.and_eq_false_iff, Bool.not_eq_true', Bool.not_eq_false', Bool.not_eq_true, Bool.not_eq_false, Bool.not_true, Bool.not_false, Int.not_lt, Int.not_le, not_or, not_and, Classical.not_not] at h19
      refine T_exit_go (fun _ _ h => h) ?_
      refine T_seq ?_
      refine T_seq ?_
      refine T_region ?_
      refine S_ 52 rfl rfl rfl _ (y_move rfl rfl) ?_
      refine S_ 53 rfl rfl rfl _ (y_bin rfl rfl rfl (fun _ => b_eqls)) ?_
      refine S_go (fun _ _ h => h) ?_
      refine T_cond rfl (fun h53 => ?_) (fun h53 => ?_)
      · skip
        have hr : latQ S project pre = ([], 7) := by rw [latQ, if_neg (by rw [hpj]; simp), ← hp2, hS.end (by omega), bestF]; exact out_none (fun y hy => hall y (hp3 y hy)) (by simpa using h53)
        refine T_seq ?_
        refine T_region ?_
        refine S_ 6 rfl rfl rfl _ (y_assign rfl rfl) ?_
        refine S_ 7 rfl rfl rfl _ (y_assign rfl rfl) ?_
        refine S_go (fun _ _ h => h) ?_
        refine T_ret (fun a w hF hM => hRb a w (post2 rfl rfl rfl (fun w hM => ?_) a w hF hM))
        exact ⟨by rw [hr], hM.below⟩
      · skip
        have hr : latQ S project pre = (o.getD [], 0) := by rw [latQ, if_neg (by rw [hpj]; simp), ← hp2, hS.end (by omega), bestF]; exact out_some (by simpa using h53)
        refine T_skip_go (fun _ _ h => h) ?_
        refine T_seq ?_
        refine T_region ?_
        refine S_ 54 rfl rfl rfl _ (y_move rfl rfl) ?_
        refine S_ 6 rfl rfl rfl _ (y_assign rfl rfl) ?_
        refine S_ 7 rfl rfl rfl _ (y_assign rfl rfl) ?_
        refine S_go (fun _ _ h => h) ?_
        refine T_ret (fun a w hF hM => hRb a w (post2 rfl rfl rfl (fun w hM => ?_) a w hF hM))
        exact ⟨by rw [hr], hM.below⟩
set_option maxHeartbeats 1600000 in
theorem AfterOf_any (A : Option Addr) (q c : Nat) (S : List (List UInt8)) (s : List UInt8) (w : World) (hS : SlT strE 1 w A q S) (hq : q ≤ 2000) (hall : ∀ t ∈ S, relOk t = true) :
    Calls Tryz.prog 42 #[.slice A q c, str s] w fun e w' => e = .returned (.tuple #[str (aftQ S s).1, .int .i64 (aftQ S s).2]) ∧ Below w.heap.size w w' := by
  have hlen := hS.len
  refine enter_args (args := [.slice A q c, str s]) (F := _) Tryz.func42 rfl Tryz.ntmps42 rfl rfl ?_
  intro Rb hRb hRn
  refine T_seq ?_
  refine T_region ?_
  refine S_ 4 rfl rfl rfl _ (y_assign rfl rfl) ?_
  refine S_ 5 rfl rfl rfl _ (y_assign rfl rfl) ?_
  refine S_go (fun _ _ h => h) ?_
  refine T_seq ?_
  refine T_region ?_
  refine S_ 14 rfl rfl rfl _ (y_move rfl rfl) ?_
  refine S_callOwn 15 15 rfl rfl rfl rfl rfl rfl rfl cf25 (fun A c => .tuple #[pvV (parE s).1 A c, .int .i64 (parE s).2]) 9 1 ((parE s).1.pre.length) ((parE s).1.pre.flatMap strE) (fun w hM => VersionOf_any s w) ?_
  intro A15 c15
  refine S_ 13 rfl rfl rfl _ (y_move rfl rfl) ?_
  refine S_ 16 rfl rfl rfl _ (y_extract rfl rfl rfl) ?_
  refine S_ 17 rfl rfl rfl _ (y_extract rfl rfl rfl) ?_
  refine S_alloc 6 6 rfl rfl rfl rfl z42 ?_
  intro b6
  refine S_store 6 rfl rfl rfl rfl rfl rfl sz42 rfl rfl ?_
  refine S_ 7 rfl rfl rfl _ (y_assign rfl rfl) ?_
  refine S_go (fun _ _ h => h) ?_
  refine T_seq ?_
  refine T_seq ?_
  refine T_region ?_
  refine S_ 18 rfl rfl rfl _ (y_move rfl rfl) ?_
  refine S_ 19 rfl rfl rfl _ (y_bin rfl rfl rfl (fun _ => b_neq)) ?_
  refine S_go (fun _ _ h => h) ?_
  refine T_cond rfl (fun h19 => ?_) (fun h19 => ?_)
  · skip
    have hpj : relOk s = false := by
      cases hq : relOk s with
      | false => rfl
      | true => rw [parE_g hq] at h19; simp at h19
    have hr : aftQ S s = ([], 8) := if_pos hpj
    have hpe : (parE s).2 = 8 := by rw [parE, if_neg (by rw [hpj]; simp)]
    refine T_seq ?_
    refine T_region ?_
    refine S_ 20 rfl rfl rfl _ (y_move rfl rfl) ?_
    refine S_ 4 rfl rfl rfl _ (y_assign rfl rfl) ?_
    refine S_ 5 rfl rfl rfl _ (y_assign rfl rfl) ?_
    refine S_go (fun _ _ h => h) ?_
    refine T_ret (fun a w hF hM => hRb a w (post2 rfl rfl rfl (fun w hM => ?_) a w hF hM))
    exact ⟨by rw [hr, hpe]; rfl, hM.below⟩
  · skip
    have hpj : relOk s = true := by
      cases hq : relOk s with
      | true => rfl
      | false => rw [parE, if_neg (by rw [hq]; simp)] at h19; simp at h19
    refine T_skip_go (fun _ _ h => h) ?_
    refine T_seq ?_
    refine T_region ?_
    refine S_ 8 rfl rfl rfl _ (y_assign rfl rfl) ?_
    refine S_go (fun _ _ h => h) ?_
    refine T_seq ?_
    refine T_seq ?_
    refine T_region ?_
    refine S_ 21 rfl rfl rfl _ (y_move rfl rfl) ?_
    refine S_ 22 rfl rfl rfl _ (y_len_slice rfl rfl Tryz.underlying40) ?_
    refine S_ 23 rfl rfl rfl _ (y_move rfl rfl) ?_
    refine S_go (fun _ _ h => h) ?_
    refine T_block ?_
    refine T_loopK2 (kf := [(8, 8), (10, 12), (23, 60)]) (kl := [(8, 8), (10, 12), (23, 60)]) (fun (i : Nat) (o : Option (List UInt8)) => [(23, true, .int .i64 (i : Int)), (8, true, str (o.getD []))]) (fun (i : Nat) (o : Option (List UInt8)) => []) (fun (i : Nat) (o : Option (List UInt8)) => i ≤ q ∧ bestF (fun t => aftP (verV s) (verV t)) (fun x y => decide (cmpV (verV x) (verV y) < 0)) (S.drop i) o = aftO S s ∧ ∀ y, o = some y → y ∈ S) (fun (i : Nat) (o : Option (List UInt8)) => q - i) 0 none (by repeat (first | exact kf_nil | (apply kf_in; focus rfl) | (apply kf_out; focus rfl))) (by repeat (first | exact kl_nil | exact kl_rest (by assumption) rfl | (apply kl_in; focus rfl) | (apply kl_out; focus rfl))) ?_ ?_ ?_ ?_
    · exact ⟨by omega, rfl, fun y h => by cases h⟩
    · exact ⟨rfl, rfl, trivial⟩
    · exact trivial
    rintro i o ⟨hp1, hp2, hp3⟩
    refine T_seq ?_
    refine T_region ?_
    refine S_ 24 rfl rfl rfl _ (y_bin rfl rfl rfl (fun _ => b_lss)) ?_
    refine S_go (fun _ _ h => h) ?_
    refine T_seq ?_
    refine T_cond rfl (fun h24 => ?_) (fun h24 => ?_)
    · try simp only [decide_eq_true_eq, decide_eq_false_iff_not, Bool.or_eq_true, Bool.or_eq_false_iff, Bool.and_eq_true, Bool.and_eq_false_iff, Bool.not_eq_true', Bool.not_eq_false', Bool.not_eq_true, Bool.not_eq_false, Bool.not_true, Bool.not_false, Int.not_lt, Int.not_le, not_or, not_and, Classical.not_not] at h24
      obtain ⟨x, hx1, hx2⟩ := hS.at (i := i) (by omega)
      have hxr := hall x (mem_at hx1)
      have hor : ∀ y, o = some y → relOk y = true := fun y hy => hall y (hp3 y hy)
      refine T_skip_go (fun _ _ h => h) ?_
      refine T_seq ?_
      refine T_block ?_
      refine T_seq ?_
      refine T_region ?_
      refine S_ 25 rfl rfl rfl _ (y_indexAddr rfl rfl rfl Tryz.underlying40 sz9 (fun hg => hS.isSome (by omega)) (fun _ => by omega)) ?_
      refine S_ 26 rfl rfl rfl _ (y_loadT1 (val := (fun l : List UInt8 => str l)) rfl rfl hS (fun _ => hx1) Tryz.underlying9 rfl) ?_
      refine S_ 10 rfl rfl rfl _ (y_assign rfl rfl) ?_
      refine S_go (fun _ _ h => h) ?_
      refine T_seq ?_
      refine T_region ?_
      refine S_ 28 rfl rfl rfl _ (y_move rfl rfl) ?_
      refine S_callOwn 29 29 rfl rfl rfl rfl rfl rfl rfl cf25 (fun A c => .tuple #[pvV (parE x).1 A c, .int .i64 (parE x).2]) 9 1 ((parE x).1.pre.length) ((parE x).1.pre.flatMap strE) (fun w hM => VersionOf_any x w) ?_
      intro A29 c29
      refine S_ 27 rfl rfl rfl _ (y_move rfl rfl) ?_
      refine S_ 30 rfl rfl rfl _ (y_extract rfl rfl rfl) ?_
      refine S_ 31 rfl rfl rfl _ (y_extract rfl rfl rfl) ?_
      refine S_alloc 11 11 rfl rfl rfl rfl z42 ?_
      intro b11
      refine S_store 11 rfl rfl rfl rfl rfl rfl sz42 rfl rfl ?_
      refine S_ 12 rfl rfl rfl _ (y_assign rfl rfl) ?_
      refine S_go (fun _ _ h => h) ?_
      refine T_seq ?_
      refine T_region ?_
      refine S_ 32 rfl rfl rfl _ (y_fieldAddr rfl rfl fa42_0) ?_
      refine S_ 33 rfl rfl rfl _ (y_load 11 rfl rfl rfl rfl Tryz.underlying9 rfl) ?_
      refine S_ 34 rfl rfl rfl _ (y_fieldAddr rfl rfl fa42_0) ?_
      refine S_ 35 rfl rfl rfl _ (y_load 6 rfl rfl rfl rfl Tryz.underlying9 rfl) ?_
      refine S_ 36 rfl rfl rfl _ (y_bin rfl rfl rfl (fun _ => b_eqls)) ?_
      refine S_ 37 rfl rfl rfl _ (y_move rfl rfl) ?_
      refine Sg_ 38 rfl rfl rfl rfl rfl rfl _ (y_fieldAddr rfl rfl fa42_4) ?_
      refine Sg_ 39 rfl rfl rfl rfl rfl rfl _ (y_load 11 rfl rfl rfl rfl Tryz.underlying40 rfl) ?_
      refine Sg_ 40 rfl rfl rfl rfl rfl rfl _ (y_len_slice rfl rfl Tryz.underlying40) ?_
      refine Sg_ 41 rfl rfl rfl rfl rfl rfl _ (y_bin rfl rfl rfl (fun _ => b_eql)) ?_
      refine S_ 42 rfl rfl rfl _ (y_and rfl rfl rfl) ?_
      refine S_ 43 rfl rfl rfl _ (y_move rfl rfl) ?_
      refine Sg_ 44 rfl rfl rfl rfl rfl rfl _ (y_loadA 11 rfl rfl rfl Tryz.underlying42 rfl sz42) ?_
      refine Sg_ 45 rfl rfl rfl rfl rfl rfl _ (y_loadA 6 rfl rfl rfl Tryz.underlying42 rfl sz42) ?_
      refine Sg_ 46 rfl rfl rfl rfl rfl rfl _ (y_call rfl rfl rfl cf23 (fun _ w hM => VersionsCompare_any (svr (parE x).1 A29 c29) (svr (parE s).1 A15 c15) w (svr_ok (parE_bound _) (owned_ok (enc := strE) hM rfl (i := 29) rfl)) (svr_ok (parE_bound _) (owned_ok (enc := strE) hM rfl (i := 15) rfl)))) ?_
      refine Sg_ 47 rfl rfl rfl rfl rfl rfl _ (y_bin rfl rfl rfl (fun _ => b_gtr)) ?_
      refine S_ 48 rfl rfl rfl _ (y_and rfl rfl rfl) ?_
      refine S_ 49 rfl rfl rfl _ (y_move rfl rfl) ?_
      refine Sg_ 50 rfl rfl rfl rfl rfl rfl _ (y_move rfl rfl) ?_
      refine Sg_ 51 rfl rfl rfl rfl rfl rfl _ (y_bin rfl rfl rfl (fun _ => b_eqls)) ?_
      refine Sg_ 52 rfl rfl rfl rfl rfl rfl _ (y_move rfl rfl) ?_
      refine Sg_ 53 rfl rfl rfl rfl rfl rfl _ (y_move rfl rfl) ?_
      refine Sg_ 54 rfl rfl rfl rfl rfl rfl _ (y_move rfl rfl) ?_
      refine Sg_ 55 rfl rfl rfl rfl rfl rfl _ (y_call rfl rfl rfl cf120 (fun _ w _ => releasesCompare_any x (o.getD []) w)) ?_
      refine Sg_ 56 rfl rfl rfl rfl rfl rfl _ (y_bin rfl rfl rfl (fun _ => b_lss)) ?_
      refine Sg_ 57 rfl rfl rfl rfl rfl rfl _ (y_or rfl rfl rfl) ?_
      refine S_ 58 rfl rfl rfl _ (y_as (v' := .bool (aftP (verV s) (verV x) && beats (fun x y => decide (cmpV (verV x) (verV y) < 0)) x o)) (by exact congrArg Value.bool (aft_step hxr hpj hor)) (y_and rfl rfl rfl)) ?_
      refine S_go (fun _ _ h => h) ?_
      refine T_cond rfl (fun h58 => ?_) (fun h58 => ?_)
      · skip
        refine T_region ?_
        refine S_ 59 rfl rfl rfl _ (y_move rfl rfl) ?_
        refine S_ 8 rfl rfl rfl _ (y_assign rfl rfl) ?_
        refine S_go (fun _ _ h => h) ?_
        refine T_region ?_
        refine S_ 60 rfl rfl rfl _ (y_bin rfl rfl rfl (fun hg => b_add (by omega))) ?_
        refine S_ 23 rfl rfl rfl _ (y_move rfl rfl) ?_
        refine S_nil (nextK2 (kf := [(8, 8), (10, 12), (23, 60)]) (kl := [(8, 8), (10, 12), (23, 60)]) (i + 1) (some x) (by repeat (first | exact kf_nil | (apply kf_in; focus rfl) | (apply kf_out; focus rfl))) (by repeat (first | exact kl_nil | exact kl_rest (by assumption) rfl | (apply kl_in; focus rfl) | (apply kl_out; focus rfl))) ?_ ?_ ?_ ?_)
        · omega
        · exact ⟨by omega, by rw [← hp2, hx2, bestF, if_pos h58], fun y h => by rw [← Option.some.inj h]; exact mem_at hx1⟩
        · exact ⟨rfl, rfl, trivial⟩
        · exact trivial
      · skip
        refine T_skip_go (fun _ _ h => h) ?_
        refine T_region ?_
        refine S_ 60 rfl rfl rfl _ (y_bin rfl rfl rfl (fun hg => b_add (by omega))) ?_
        refine S_ 23 rfl rfl rfl _ (y_move rfl rfl) ?_
        refine S_nil (nextK2 (kf := [(8, 8), (10, 12), (23, 60)]) (kl := [(8, 8), (10, 12), (23, 60)]) (i + 1) o (by repeat (first | exact kf_nil | (apply kf_in; focus rfl) | (apply kf_out; focus rfl))) (by repeat (first | exact kl_nil | exact kl_rest (by assumption) rfl | (apply kl_in; focus rfl) | (apply kl_out; focus rfl))) ?_ ?_ ?_ ?_)
        · omega
        · exact ⟨by omega, by rw [← hp2, hx2, bestF, if_neg (by rw [h58]; simp)], hp3⟩
        · exact ⟨rfl, rfl, trivial⟩
        · exact trivial
    · try simp only [decide_eq_true_eq, decide_eq_false_iff_not, Bool.or_eq_true, Bool.or_eq_false_iff, Bool.and_eq_true, Bool.and_eq_false_iff, Bool.not_eq_true', Bool.not_eq_false', Bool.not_eq_true, Bool.not_eq_false, Bool.not_true, Bool.not_false, Int.not_lt, Int.not_le, not_or, not_and, Classical.not_not] at h24
      refine T_exit_go (fun _ _ h => h) ?_
      refine T_seq ?_
      refine T_seq ?_
      refine T_region ?_
      refine S_ 61 rfl rfl rfl _ (y_move rfl rfl) ?_
      refine S_ 62 rfl rfl rfl _ (y_bin rfl rfl rfl (fun _ => b_eqls)) ?_
      refine S_go (fun _ _ h => h) ?_
      refine T_cond rfl (fun h62 => ?_) (fun h62 => ?_)
      · skip
        have hr : aftQ S s = ([], 7) := by rw [aftQ, if_neg (by rw [hpj]; simp), ← hp2, hS.end (by omega), bestF]; exact out_none (fun y hy => hall y (hp3 y hy)) (by simpa using h62)
        refine T_seq ?_
        refine T_region ?_
        refine S_ 4 rfl rfl rfl _ (y_assign rfl rfl) ?_
        refine S_ 5 rfl rfl rfl _ (y_assign rfl rfl) ?_
        refine S_go (fun _ _ h => h) ?_
        refine T_ret (fun a w hF hM => hRb a w (post2 rfl rfl rfl (fun w hM => ?_) a w hF hM))
        exact ⟨by rw [hr], hM.below⟩
      · skip
        have hr : aftQ S s = (o.getD [], 0) := by rw [aftQ, if_neg (by rw [hpj]; simp), ← hp2, hS.end (by omega), bestF]; exact out_some (by simpa using h62)
        refine T_skip_go (fun _ _ h => h) ?_
        refine T_seq ?_
        refine T_region ?_
        refine S_ 63 rfl rfl rfl _ (y_move rfl rfl) ?_
        refine S_ 4 rfl rfl rfl _ (y_assign rfl rfl) ?_
        refine S_ 5 rfl rfl rfl _ (y_assign rfl rfl) ?_
        refine S_go (fun _ _ h => h) ?_
        refine T_ret (fun a w hF hM => hRb a w (post2 rfl rfl rfl (fun w hM => ?_) a w hF hM))
        exact ⟨by rw [hr], hM.below⟩
theorem listedV_any (A B : Option Addr) (q c p d : Nat) (l m : List (List UInt8)) (e x : Int) (w : World) (hl : SlT strE 1 w A q l) (hm : SlT strE 1 w B p m) (hq : q ≤ 4611686018427387904) (hp : p ≤ 4611686018427387904) (he : e = x) (hz : x ≠ 0 → l = []) (h0 : x = 0 → m = l) :
    Calls Tryz.prog 43 #[.slice A q c, .int .i64 e, .slice B p d, .int .i64 x] w fun e w' => e = .returned (.bool true) ∧ Below w.heap.size w w' := by
  subst he
  refine enter_args (args := [.slice A q c, .int .i64 e, .slice B p d, .int .i64 e]) (F := _) Tryz.func43 rfl Tryz.ntmps43 rfl rfl ?_
  intro Rb hRb hRn
  refine T_seq ?_
  refine T_region ?_
  refine S_ 8 rfl rfl rfl _ (y_assign rfl rfl) ?_
  refine S_go (fun _ _ h => h) ?_
  refine T_seq ?_
  refine T_seq ?_
  refine T_region ?_
  refine S_ 9 rfl rfl rfl _ (y_move rfl rfl) ?_
  refine S_ 10 rfl rfl rfl _ (y_bin rfl rfl rfl (fun _ => b_neq)) ?_
  refine S_go (fun _ _ h => h) ?_
  refine T_cond rfl (fun h10 => ?_) (fun h10 => ?_)
  · try simp only [decide_eq_true_eq, decide_eq_false_iff_not, Bool.or_eq_true, Bool.or_eq_false_iff, Bool.and_eq_true, Bool.and_eq_false_iff, Bool.not_eq_true', Bool.not_eq_false', Bool.not_eq_true, Bool.not_eq_false, Bool.not_true, Bool.not_false, Int.not_lt, Int.not_le, not_or, not_and, Classical.not_not] at h10
    refine T_region ?_
    refine S_nilSlice 2 (e := 9) (size := 1) ?_
    refine S_ 2 rfl rfl rfl _ (y_assign rfl rfl) ?_
    refine S_go (fun _ _ h => h) ?_
    refine T_seq ?_
    refine T_region ?_
    refine S_ 11 rfl rfl rfl _ (y_move rfl rfl) ?_
    refine S_ 12 rfl rfl rfl _ (y_move rfl rfl) ?_
    refine S_ 13 rfl rfl rfl _ (y_call rfl rfl rfl cf108 (fun _ w hM => EqualS_any _ _ _ _ _ _ l [] w (hl.below hM.below) nilS hq (by omega))) ?_
    refine S_ 14 rfl rfl rfl _ (y_move rfl rfl) ?_
    refine Sg_ 15 rfl rfl rfl rfl rfl rfl _ (y_move rfl rfl) ?_
    refine Sg_ 16 rfl rfl rfl rfl rfl rfl _ (y_move rfl rfl) ?_
    refine Sg_ 17 rfl rfl rfl rfl rfl rfl _ (y_bin rfl rfl rfl (fun _ => b_eql)) ?_
    refine S_ 18 rfl rfl rfl _ (y_and rfl rfl rfl) ?_
    refine S_ 8 rfl rfl rfl _ (y_assign rfl rfl) ?_
    refine S_go (fun _ _ h => h) ?_
    refine T_ret (fun a w hF hM => hRb a w (post1 rfl rfl (fun w hM => ?_) a w hF hM))
    exact ⟨by rw [hz h10]; simp [eqLB], hM.below⟩
  · try simp only [decide_eq_true_eq, decide_eq_false_iff_not, Bool.or_eq_true, Bool.or_eq_false_iff, Bool.and_eq_true, Bool.and_eq_false_iff, Bool.not_eq_true', Bool.not_eq_false', Bool.not_eq_true, Bool.not_eq_false, Bool.not_true, Bool.not_false, Int.not_lt, Int.not_le, not_or, not_and, Classical.not_not] at h10
    refine T_skip_go (fun _ _ h => h) ?_
    refine T_seq ?_
    refine T_region ?_
    refine S_ 11 rfl rfl rfl _ (y_move rfl rfl) ?_
    refine S_ 12 rfl rfl rfl _ (y_move rfl rfl) ?_
    refine S_ 13 rfl rfl rfl _ (y_call rfl rfl rfl cf108 (fun _ w hM => EqualS_any _ _ _ _ _ _ l m w (hl.below hM.below) (hm.below hM.below) hq hp)) ?_
    refine S_ 14 rfl rfl rfl _ (y_move rfl rfl) ?_
    refine Sg_ 15 rfl rfl rfl rfl rfl rfl _ (y_move rfl rfl) ?_
    refine Sg_ 16 rfl rfl rfl rfl rfl rfl _ (y_move rfl rfl) ?_
    refine Sg_ 17 rfl rfl rfl rfl rfl rfl _ (y_bin rfl rfl rfl (fun _ => b_eql)) ?_
    refine S_ 18 rfl rfl rfl _ (y_and rfl rfl rfl) ?_
    refine S_ 8 rfl rfl rfl _ (y_assign rfl rfl) ?_
    refine S_go (fun _ _ h => h) ?_
    refine T_ret (fun a w hF hM => hRb a w (post1 rfl rfl (fun w hM => ?_) a w hF hM))
    exact ⟨by rw [h0 h10, eqL_refl fun x => by simp [sEq]]; simp, hM.below⟩
theorem out_bad {o : Option (List UInt8)} (h : (outR o).2 ≠ 0) : (outR o).1 = [] := by
  cases o with
  | none => rfl
  | some y => exact absurd rfl h
theorem latQ_bad {S : List (List UInt8)} {project : List UInt8} {pre : Bool} (h : (latQ S project pre).2 ≠ 0) : (latQ S project pre).1 = [] := by
  unfold latQ at h ⊢
  split at h
  · rename_i a; rw [if_pos a]
  · rename_i a; rw [if_neg a]; exact out_bad h
theorem aftQ_bad {S : List (List UInt8)} {s : List UInt8} (h : (aftQ S s).2 ≠ 0) : (aftQ S s).1 = [] := by
  unfold aftQ at h ⊢
  split at h
  · rename_i a; rw [if_pos a]
  · rename_i a; rw [if_neg a]; exact out_bad h
theorem told_same {v : List UInt8 × Int} (h : v.2 ≠ 0 → v.1 = []) : (decide (v.1 = if v.2 = 0 then v.1 else []) && decide (v.2 = v.2)) = true := by
  by_cases hz : v.2 = 0
  · simp [hz]
  · simp [hz, h hz]
set_option maxHeartbeats 1600000 in
theorem ReleaseLists_any (A : Option Addr) (q c : Nat) (S : List (List UInt8)) (project : List UInt8) (pre : Bool) (s : List UInt8) (w : World) (hS : SlT strE 1 w A q S) (hP : P10 w) :
    Calls Tryz.prog 8 #[.slice A q c, str project, .bool pre, str s] w fun e w' => e = .returned (.bool true) ∧ Below w.heap.size w w' := by
  have hlen := hS.len
  have hsl : (srtR S).length ≤ 2000 := by
    unfold srtR
    split
    · rename_i h
      have h1 := cpt_len (srtL S) []
      have h2 := srt_len S
      have h3 := (all_ok h).1
      simp only [List.length_nil] at h1
      omega
    · exact Nat.zero_le _
  refine enter_args (args := [.slice A q c, str project, .bool pre, str s]) (F := _) Tryz.func8 rfl Tryz.ntmps8 rfl rfl ?_
  intro Rb hRb hRn
  refine T_seq ?_
  refine T_region ?_
  refine S_ 8 rfl rfl rfl _ (y_assign rfl rfl) ?_
  refine S_go (fun _ _ h => h) ?_
  refine T_seq ?_
  refine T_region ?_
  refine S_ 21 rfl rfl rfl _ (y_move rfl rfl) ?_
  refine S_ 22 rfl rfl rfl _ (y_call rfl rfl rfl cf29 (fun _ w hM => ReleasesFault_any A q c S w (hS.below hM.below))) ?_
  refine S_ 9 rfl rfl rfl _ (y_assign rfl rfl) ?_
  refine S_go (fun _ _ h => h) ?_
  refine T_seq ?_
  refine T_region ?_
  refine S_ 24 rfl rfl rfl _ (y_move rfl rfl) ?_
  refine S_callOwn 25 25 rfl rfl rfl rfl rfl rfl rfl cf33 (fun A c => .tuple #[.slice A (srtR S).length c, .int .i64 (allNo S)]) 9 1 ((srtR S).length) ((srtR S).flatMap strE) (fun w hM => Sorted_any A q c S w (hS.below hM.below) (hP.below hM.below)) ?_
  intro A25 c25
  refine S_ 23 rfl rfl rfl _ (y_move rfl rfl) ?_
  refine S_ 26 rfl rfl rfl _ (y_extract rfl rfl rfl) ?_
  refine S_ 27 rfl rfl rfl _ (y_extract rfl rfl rfl) ?_
  refine S_ 10 rfl rfl rfl _ (y_assign rfl rfl) ?_
  refine S_ 11 rfl rfl rfl _ (y_assign rfl rfl) ?_
  refine S_go (fun _ _ h => h) ?_
  refine T_seq ?_
  refine T_region ?_
  refine S_ 29 rfl rfl rfl _ (y_move rfl rfl) ?_
  refine S_ 30 rfl rfl rfl _ (y_move rfl rfl) ?_
  refine S_ 31 rfl rfl rfl _ (y_move rfl rfl) ?_
  refine S_ 32 rfl rfl rfl _ (y_call rfl rfl rfl cf37 (fun _ w hM => Latest_any A q c S project pre w (hS.below hM.below) (hP.below hM.below))) ?_
  refine S_ 28 rfl rfl rfl _ (y_move rfl rfl) ?_
  refine S_ 33 rfl rfl rfl _ (y_extract rfl rfl rfl) ?_
  refine S_ 34 rfl rfl rfl _ (y_extract rfl rfl rfl) ?_
  refine S_ 12 rfl rfl rfl _ (y_assign rfl rfl) ?_
  refine S_ 13 rfl rfl rfl _ (y_assign rfl rfl) ?_
  refine S_go (fun _ _ h => h) ?_
  refine T_seq ?_
  refine T_region ?_
  refine S_ 36 rfl rfl rfl _ (y_move rfl rfl) ?_
  refine S_ 37 rfl rfl rfl _ (y_move rfl rfl) ?_
  refine S_ 38 rfl rfl rfl _ (y_call rfl rfl rfl cf34 (fun _ w hM => After_any A q c S s w (hS.below hM.below) (hP.below hM.below))) ?_
  refine S_ 35 rfl rfl rfl _ (y_move rfl rfl) ?_
  refine S_ 39 rfl rfl rfl _ (y_extract rfl rfl rfl) ?_
  refine S_ 40 rfl rfl rfl _ (y_extract rfl rfl rfl) ?_
  refine S_ 14 rfl rfl rfl _ (y_assign rfl rfl) ?_
  refine S_ 15 rfl rfl rfl _ (y_assign rfl rfl) ?_
  refine S_go (fun _ _ h => h) ?_
  refine T_seq ?_
  refine T_region ?_
  refine S_ 41 rfl rfl rfl _ (y_move rfl rfl) ?_
  refine S_ 42 rfl rfl rfl _ (y_move rfl rfl) ?_
  refine S_ 16 rfl rfl rfl _ (y_assign rfl rfl) ?_
  refine S_ 17 rfl rfl rfl _ (y_assign rfl rfl) ?_
  refine S_go (fun _ _ h => h) ?_
  refine T_seq ?_
  refine T_region ?_
  refine S_nilSlice 18 (e := 9) (size := 1) ?_
  refine S_ 18 rfl rfl rfl _ (y_assign rfl rfl) ?_
  refine S_go (fun _ _ h => h) ?_
  refine T_seq ?_
  refine T_region ?_
  refine S_ 19 rfl rfl rfl _ (y_assign rfl rfl) ?_
  refine S_ 20 rfl rfl rfl _ (y_assign rfl rfl) ?_
  refine S_go (fun _ _ h => h) ?_
  refine T_seq ?_
  refine T_seq ?_
  refine T_region ?_
  refine S_ 43 rfl rfl rfl _ (y_move rfl rfl) ?_
  refine S_ 44 rfl rfl rfl _ (y_bin rfl rfl rfl (fun _ => b_eql)) ?_
  refine S_go (fun _ _ h => h) ?_
  refine T_cond rfl (fun h44 => ?_) (fun h44 => ?_)
  · try simp only [decide_eq_true_eq, decide_eq_false_iff_not, Bool.or_eq_true, Bool.or_eq_false_iff, Bool.and_eq_true, Bool.and_eq_false_iff, Bool.not_eq_true', Bool.not_eq_false', Bool.not_eq_true, Bool.not_eq_false, Bool.not_true, Bool.not_false, Int.not_lt, Int.not_le, not_or, not_and, Classical.not_not] at h44
    have h44 : allNo S = 0 := h44
    have hal := all_ok h44
    have hsr : srtR S = cptF [] (srtL S) := if_pos h44
    have hla : latR S project pre = latQ S project pre := by rw [latR, if_neg (by rw [h44]; simp)]; rfl
    have haf : aftR S s = aftQ S s := by rw [aftR, if_neg (by rw [h44]; simp)]; rfl
    refine T_seq ?_
    refine T_region ?_
    refine S_ 45 rfl rfl rfl _ (y_move rfl rfl) ?_
    refine S_callOwn 46 46 rfl rfl rfl rfl rfl rfl rfl cf40 (fun A c => .slice A (cptF [] (srtL S)).length c) 9 1 ((cptF [] (srtL S)).length) ((cptF [] (srtL S)).flatMap strE) (fun w hM => SortedReleases_any A q c S w (hS.below hM.below) (by omega)) ?_
    intro A46 c46
    refine S_ 18 rfl rfl rfl _ (y_assign rfl rfl) ?_
    refine S_go (fun _ _ h => h) ?_
    refine T_seq ?_
    refine T_region ?_
    refine S_ 48 rfl rfl rfl _ (y_move rfl rfl) ?_
    refine S_ 49 rfl rfl rfl _ (y_move rfl rfl) ?_
    refine S_ 50 rfl rfl rfl _ (y_move rfl rfl) ?_
    refine S_ 51 rfl rfl rfl _ (y_call rfl rfl rfl cf41 (fun _ w hM => LatestOf_any A q c S project pre w (hS.below hM.below) (by omega) hal.2)) ?_
    refine S_ 47 rfl rfl rfl _ (y_move rfl rfl) ?_
    refine S_ 52 rfl rfl rfl _ (y_extract rfl rfl rfl) ?_
    refine S_ 53 rfl rfl rfl _ (y_extract rfl rfl rfl) ?_
    refine S_ 19 rfl rfl rfl _ (y_assign rfl rfl) ?_
    refine S_ 16 rfl rfl rfl _ (y_assign rfl rfl) ?_
    refine S_go (fun _ _ h => h) ?_
    refine T_region ?_
    refine S_ 55 rfl rfl rfl _ (y_move rfl rfl) ?_
    refine S_ 56 rfl rfl rfl _ (y_move rfl rfl) ?_
    refine S_ 57 rfl rfl rfl _ (y_call rfl rfl rfl cf42 (fun _ w hM => AfterOf_any A q c S s w (hS.below hM.below) (by omega) hal.2)) ?_
    refine S_ 54 rfl rfl rfl _ (y_move rfl rfl) ?_
    refine S_ 58 rfl rfl rfl _ (y_extract rfl rfl rfl) ?_
    refine S_ 59 rfl rfl rfl _ (y_extract rfl rfl rfl) ?_
    refine S_ 20 rfl rfl rfl _ (y_assign rfl rfl) ?_
    refine S_ 17 rfl rfl rfl _ (y_assign rfl rfl) ?_
    refine S_go (fun _ _ h => h) ?_
    refine T_seq ?_
    refine T_region ?_
    refine S_ 60 rfl rfl rfl _ (y_move rfl rfl) ?_
    refine S_ 61 rfl rfl rfl _ (y_move rfl rfl) ?_
    refine S_ 62 rfl rfl rfl _ (y_move rfl rfl) ?_
    refine S_ 63 rfl rfl rfl _ (y_move rfl rfl) ?_
    refine S_ 64 rfl rfl rfl _ (y_call rfl rfl rfl cf43 (fun _ w hM => listedV_any _ _ _ _ _ _ (srtR S) (cptF [] (srtL S)) _ _ w (owned_T (enc := strE) hM rfl (i := 25) rfl) (owned_T (enc := strE) hM rfl (i := 46) rfl) (by omega) (by rw [← hsr]; omega) rfl (fun h => absurd h44 h) (fun _ => hsr.symm))) ?_
    refine S_ 65 rfl rfl rfl _ (y_move rfl rfl) ?_
    refine Sg_ 66 rfl rfl rfl rfl rfl rfl _ (y_move rfl rfl) ?_
    refine Sg_ 67 rfl rfl rfl rfl rfl rfl _ (y_move rfl rfl) ?_
    refine Sg_ 68 rfl rfl rfl rfl rfl rfl _ (y_move rfl rfl) ?_
    refine Sg_ 69 rfl rfl rfl rfl rfl rfl _ (y_move rfl rfl) ?_
    refine Sg_ 70 rfl rfl rfl rfl rfl rfl _ (y_call rfl rfl rfl cf21 (fun _ w _ => toldV_any _ _ _ _ w)) ?_
    refine S_ 71 rfl rfl rfl _ (y_and rfl rfl rfl) ?_
    refine S_ 72 rfl rfl rfl _ (y_move rfl rfl) ?_
    refine Sg_ 73 rfl rfl rfl rfl rfl rfl _ (y_move rfl rfl) ?_
    refine Sg_ 74 rfl rfl rfl rfl rfl rfl _ (y_move rfl rfl) ?_
    refine Sg_ 75 rfl rfl rfl rfl rfl rfl _ (y_move rfl rfl) ?_
    refine Sg_ 76 rfl rfl rfl rfl rfl rfl _ (y_move rfl rfl) ?_
    refine Sg_ 77 rfl rfl rfl rfl rfl rfl _ (y_call rfl rfl rfl cf21 (fun _ w _ => toldV_any _ _ _ _ w)) ?_
    refine S_ 78 rfl rfl rfl _ (y_and rfl rfl rfl) ?_
    refine S_ 8 rfl rfl rfl _ (y_assign rfl rfl) ?_
    refine S_go (fun _ _ h => h) ?_
    refine T_ret (fun a w hF hM => hRb a w (post1 rfl rfl (fun w hM => ?_) a w hF hM))
    exact ⟨by rw [hla, haf]; exact congrArg (fun b => Ending.returned (Value.bool b)) (by rw [told_same latQ_bad, told_same aftQ_bad]; rfl), hM.below⟩
  · try simp only [decide_eq_true_eq, decide_eq_false_iff_not, Bool.or_eq_true, Bool.or_eq_false_iff, Bool.and_eq_true, Bool.and_eq_false_iff, Bool.not_eq_true', Bool.not_eq_false', Bool.not_eq_true, Bool.not_eq_false, Bool.not_true, Bool.not_false, Int.not_lt, Int.not_le, not_or, not_and, Classical.not_not] at h44
    have h44 : ¬ allNo S = 0 := h44
    have hsr : srtR S = [] := if_neg h44
    have hla : latR S project pre = ([], allNo S) := if_pos h44
    have haf : aftR S s = ([], allNo S) := if_pos h44
    refine T_skip_go (fun _ _ h => h) ?_
    refine T_seq ?_
    refine T_region ?_
    refine S_ 60 rfl rfl rfl _ (y_move rfl rfl) ?_
    refine S_ 61 rfl rfl rfl _ (y_move rfl rfl) ?_
    refine S_ 62 rfl rfl rfl _ (y_move rfl rfl) ?_
    refine S_ 63 rfl rfl rfl _ (y_move rfl rfl) ?_
    refine S_ 64 rfl rfl rfl _ (y_call rfl rfl rfl cf43 (fun _ w hM => listedV_any _ _ _ _ _ _ (srtR S) [] _ _ w (owned_T (enc := strE) hM rfl (i := 25) rfl) nilS (by omega) (by decide) rfl (fun _ => hsr) (fun h => absurd h h44))) ?_
    refine S_ 65 rfl rfl rfl _ (y_move rfl rfl) ?_
    refine Sg_ 66 rfl rfl rfl rfl rfl rfl _ (y_move rfl rfl) ?_
    refine Sg_ 67 rfl rfl rfl rfl rfl rfl _ (y_move rfl rfl) ?_
    refine Sg_ 68 rfl rfl rfl rfl rfl rfl _ (y_move rfl rfl) ?_
    refine Sg_ 69 rfl rfl rfl rfl rfl rfl _ (y_move rfl rfl) ?_
    refine Sg_ 70 rfl rfl rfl rfl rfl rfl _ (y_call rfl rfl rfl cf21 (fun _ w _ => toldV_any _ _ _ _ w)) ?_
    refine S_ 71 rfl rfl rfl _ (y_and rfl rfl rfl) ?_
    refine S_ 72 rfl rfl rfl _ (y_move rfl rfl) ?_
    refine Sg_ 73 rfl rfl rfl rfl rfl rfl _ (y_move rfl rfl) ?_
    refine Sg_ 74 rfl rfl rfl rfl rfl rfl _ (y_move rfl rfl) ?_
    refine Sg_ 75 rfl rfl rfl rfl rfl rfl _ (y_move rfl rfl) ?_
    refine Sg_ 76 rfl rfl rfl rfl rfl rfl _ (y_move rfl rfl) ?_
    refine Sg_ 77 rfl rfl rfl rfl rfl rfl _ (y_call rfl rfl rfl cf21 (fun _ w _ => toldV_any _ _ _ _ w)) ?_
    refine S_ 78 rfl rfl rfl _ (y_and rfl rfl rfl) ?_
    refine S_ 8 rfl rfl rfl _ (y_assign rfl rfl) ?_
    refine S_go (fun _ _ h => h) ?_
    refine T_ret (fun a w hF hM => hRb a w (post1 rfl rfl (fun w hM => ?_) a w hF hM))
    exact ⟨by rw [hla, haf]; simp [h44], hM.below⟩
end Go.Proofs.YtpmlgnbbkpplhaaGreatDoor
end
section
namespace Go.Proofs.YtpmlgnbbkpplhaaGreatDoor
set_option linter.unusedSimpArgs false
set_option linter.unusedVariables false
set_option maxRecDepth 20000
open Go.RowKit Go.Eng
section
variable {H : Type} {enc : TypeId × Value → H} {w : World}
def ShortS (s : List UInt8) : Prop := s.length ≤ reachBytes
theorem reach_len : reachBytes ≤ 4611686018427387904 := by decide
def strEnc (l : List UInt8) : List Value := [str l]
theorem op_s : Opn enc Tryz.prog w 9 strEnc ShortS (fun l d => d = .lit (.string l)) := opn_str Tryz.underlying9
theorem op_b : Opn enc Tryz.prog w 4 (fun b : Bool => [Value.bool b]) (fun _ => True) (fun b d => d = .lit (.bool b)) := opn_bool Tryz.underlying4
def slV {X : Type} (s : Sl X) : List Value := [.slice s.A s.q s.c]
end
end Go.Proofs.YtpmlgnbbkpplhaaGreatDoor
end
section
namespace Go.Proofs.YtpmlgnbbkpplhaaGreatDoor
set_option linter.unusedSimpArgs false
set_option linter.unusedVariables false
set_option maxRecDepth 20000
open Go.ChangeShapes Go.WideShapes Go.RowKit
theorem ownNone : ownKnob Tryz.prog.godebug = none := by kernel_rfl
theorem laidOut : laidOutB Tryz.prog = true := by kernel_rfl
def firstCells : Array Value := (Go.Pinned.utf8FirstZ.map fun n : Nat => Value.int .u8 (n : Int)).toArray
def tabCells (k : IntKind) (zs : List Int) : Array Value := (zs.map fun n => Value.int k n).toArray
def rangeZ : List Int := [128, 191, 160, 191, 128, 159, 144, 191, 128, 143, 0, 0, 0, 0, 0, 0, 0, 0, 0, 0, 0, 0, 0, 0, 0, 0, 0, 0, 0, 0, 0, 0]
def tz32Z : List Int := [0, 1, 28, 2, 29, 14, 24, 3, 30, 22, 20, 15, 25, 17, 4, 8, 31, 27, 13, 23, 21, 19, 16, 7, 26, 12, 18, 6, 11, 5, 10, 9]
def tz64Z : List Int := [0, 1, 56, 2, 57, 49, 28, 3, 61, 58, 42, 50, 38, 29, 17, 4, 62, 47, 59, 36, 45, 43, 51, 22, 53, 39, 33, 30, 24, 18, 12, 5, 63, 55, 48, 27, 60, 41, 37, 16, 46, 35, 44, 21, 52, 32, 23, 11, 54, 26, 40, 15, 34, 20, 31, 10, 25, 14, 19, 9, 13, 8, 7, 6]
def pow10Z : List Int := [1, 10, 100, 1000, 10000, 100000, 1000000, 10000000, 100000000, 1000000000, 10000000000, 100000000000, 1000000000000, 10000000000000, 100000000000000, 1000000000000000, 10000000000000000, 100000000000000000, 1000000000000000000, 10000000000000000000]
def layCells (cs : Array Value) : Obj → Obj
  | .cells _ t frozen => .cells cs t frozen
  | o => o
end Go.Proofs.YtpmlgnbbkpplhaaGreatDoor
end
section
namespace Go.Proofs.YtpmlgnbbkpplhaaGreatDoor
set_option linter.unusedSimpArgs false
set_option linter.unusedVariables false
set_option maxRecDepth 20000
open Go.ChangeShapes Go.WideShapes Go.RowKit
noncomputable def low2 : Nat := (World.holding Tryz.prog default ⟨#[], #[], []⟩).heap.size
def rangeT : List UInt8 := [118, 97, 108, 117, 101, 32, 111, 117, 116, 32, 111, 102, 32, 114, 97, 110, 103, 101]
def syntaxT : List UInt8 := [105, 110, 118, 97, 108, 105, 100, 32, 115, 121, 110, 116, 97, 120]
noncomputable def laidWorld2 (os : Os) (args : Array Value) : World :=
  { World.holding Tryz.prog os ⟨#[.cells #[.string ⟨rangeT.toArray⟩] 299, .cells #[.string ⟨syntaxT.toArray⟩] 299], args, []⟩ with heap := (((((((World.holding Tryz.prog os ⟨#[.cells #[.string ⟨rangeT.toArray⟩] 299, .cells #[.string ⟨syntaxT.toArray⟩] 299], args, []⟩).heap.modify 1 (layCells firstCells)).modify 2 (layCells (tabCells .u8 rangeZ))).modify 6 (layCells (tabCells .u8 tz32Z))).modify 7 (layCells (tabCells .u8 tz64Z))).modify 3 (layCells (tabCells .u64 pow10Z))).modify 5 (layCells #[.iface 297 (.pointer (some ⟨low2, 0, none⟩))])).modify 4 (layCells #[.iface 297 (.pointer (some ⟨low2 + 1, 0, none⟩))]) }
end Go.Proofs.YtpmlgnbbkpplhaaGreatDoor
end
