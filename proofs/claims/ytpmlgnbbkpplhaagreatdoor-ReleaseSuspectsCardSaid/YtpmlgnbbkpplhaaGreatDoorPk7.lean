/- Part 7, merged by a program. Suspects and the reference's SuspectsOf, and the law ReleaseSuspects, walked. Conditions: those of each theorem. Events opened: from the form's reading to 'Evt.Ok'. No condition. A world in which the listed tables of Go's hold what their text says, and what a row's condition says of the table of trailing noughts. No condition. A world in which the listed tables hold what their text says, and the two errors of strconv lie as their initialisers lay them. No condition. -/
import Derived.Test.YtpmlgnbbkpplhaaGreatDoorOpen
import Derived.Test.YtpmlgnbbkpplhaaGreatDoorCards
import Derived.Test.YtpmlgnbbkpplhaaGreatDoorTie
import Derived.Deep.DeepHandedRow
import Derived.Lib.LaidTab
import Derived.Stop.LaidErr
import Derived.ProofKit
import Derived.OpenShut
import Derived.Test.YtpmlgnbbkpplhaaGreatDoorPk6
section
namespace Go.Proofs.YtpmlgnbbkpplhaaGreatDoor
set_option linter.unusedSimpArgs false
set_option linter.unusedVariables false
set_option maxRecDepth 20000
open Go.RowKit Go.Eng
/-! ### Plain: what the suspects are -/
def frFi : List Frm → List (List UInt8)
  | [] => []
  | x :: r => if x.own = true then x.fi :: frFi r else frFi r
def ownFi : List Flt → List (List UInt8)
  | [] => []
  | y :: r => frFi y.fr.l ++ ownFi r
theorem flts_smallU : ∀ l : List Flt, fltsNo l = 0 → ∀ f ∈ l, fltNo f = 0
  | [], _ => fun f h => by simp at h
  | a :: r, h => fun f hf => by
    rw [fltsNo] at h
    by_cases ha : fltNo a = 0
    · rw [if_neg (by simpa using ha)] at h
      rcases List.mem_cons.1 hf with rfl | h1
      · exact ha
      · exact flts_smallU r h f h1
    · rw [if_pos ha] at h; exact absurd h ha
theorem flt_frU {y : Flt} (h : fltNo y = 0) : y.fr.q ≤ 200 := by
  unfold fltNo at h
  split at h
  · cases h
  · split at h
    · cases h
    · split at h
      · cases h
      · split at h
        · exact absurd h ‹_›
        · unfold framesNo at h
          split at h
          · cases h
          · omega
theorem faults_U {l : Sl Flt} (h : faultsNo l = 0) : l.q ≤ 10 ∧ ∀ y ∈ l.l, y.fr.q ≤ 200 := by
  unfold faultsNo at h
  split at h
  · cases h
  · split at h
    · cases h
    · exact ⟨by omega, fun y hy => flt_frU (flts_smallU _ h y hy)⟩
theorem coms_all : ∀ (l : List SCom) (seen : List (List UInt8)), comsNo seen l = 0 → ∀ c ∈ l, relOk c.rel = true
  | [], _, _ => fun c h => by simp at h
  | a :: r, seen, h => fun c hc => by
    rw [comsNo] at h
    split at h
    · cases h
    · split at h
      · cases h
      · split at h
        · exact absurd h ‹_›
        · rename_i h3
          rcases List.mem_cons.1 hc with rfl | h1
          · cases hr : relOk c.rel with
            | true => rfl
            | false => exact absurd (show comNo c ≠ 0 by rw [comNo, if_pos hr]; decide) h3
          · exact coms_all r _ h c h1
theorem coms_U {C : Sl SCom} (h : commitsNo C = 0) : C.q ≤ 500 ∧ ∀ c ∈ C.l, relOk c.rel = true := by
  unfold commitsNo at h
  split at h
  · cases h
  · exact ⟨by omega, coms_all _ _ h⟩
def befP (i v : PVer) : Bool := decide (v.p = i.p) && decide (cmpV v i < 0)
def befO (S : List (List UInt8)) (s : List UInt8) : Option (List UInt8) := bestF (fun t => befP (verV s) (verV t)) (fun x y => decide (cmpV (verV y) (verV x) < 0)) S none
def susB (b : Option (List UInt8)) (v : PVer) : Bool := match b with
  | none => false
  | some t => decide (cmpV v (verV t) ≤ 0)
def susSkip (iv : PVer) (b : Option (List UInt8)) (v : PVer) : Bool := (!decide (v.p = iv.p) || decide (0 < cmpV v iv)) || susB b v
def susL (iv : PVer) (b : Option (List UInt8)) (F : List (List UInt8)) : List SCom → List SSus
  | [] => []
  | c :: r => if susSkip iv b (verV c.rel) = true then susL iv b F r else if 0 < ptsGo 0 F c.fi.l then ⟨c.id, ptsGo 0 F c.fi.l⟩ :: susL iv b F r else susL iv b F r
def susNo (l : Sl Flt) (C : Sl SCom) (S : List (List UInt8)) (s : List UInt8) : Int := fst (faultsNo l) (fst (commitsNo C) (fst (allNo S) (if relOk s = true then 0 else 8)))
def susQ (l : Sl Flt) (C : Sl SCom) (S : List (List UInt8)) (s : List UInt8) : List SSus := pdqL cfU (susL (verV s) (befO S s) (ownFi l.l) C.l)
def susR (l : Sl Flt) (C : Sl SCom) (S : List (List UInt8)) (s : List UInt8) : List SSus := if susNo l C S s = 0 then susQ l C S s else []
theorem sus_zero {l : Sl Flt} {C : Sl SCom} {S : List (List UInt8)} {s : List UInt8} (h : susNo l C S s = 0) : faultsNo l = 0 ∧ commitsNo C = 0 ∧ allNo S = 0 ∧ relOk s = true := by
  unfold susNo fst at h
  by_cases h1 : faultsNo l = 0
  · by_cases h2 : commitsNo C = 0
    · by_cases h3 : allNo S = 0
      · refine ⟨h1, h2, h3, ?_⟩
        simp only [h1, h2, h3, ne_eq, not_true_eq_false, if_false] at h
        cases hr : relOk s with
        | true => rfl
        | false => rw [hr] at h; simp at h
      · simp [h1, h2, h3] at h
    · simp [h1, h2] at h
  · simp [h1] at h
theorem drop_at {α : Type} {l : List α} {i : Nat} {x : α} (h : l[i]? = some x) : l.drop i = x :: l.drop (i + 1) := by
  obtain ⟨h1, rfl⟩ := List.getElem?_eq_some_iff.1 h
  exact List.drop_eq_getElem_cons h1
theorem susL_len (iv : PVer) (b : Option (List UInt8)) (F : List (List UInt8)) : ∀ l : List SCom, (susL iv b F l).length ≤ l.length
  | [] => Nat.le_refl _
  | c :: r => by
    have := susL_len iv b F r
    rw [susL, List.length_cons]
    split
    · omega
    · split
      · rw [List.length_cons]; omega
      · omega
theorem susQ_len (l : Sl Flt) (C : Sl SCom) (S : List (List UInt8)) (s : List UInt8) : (susQ l C S s).length ≤ C.l.length := by
  rw [susQ, pdqL_len swoU]; exact susL_len _ _ _ _
theorem susR_len (l : Sl Flt) (C : Sl SCom) (S : List (List UInt8)) (s : List UInt8) : (susR l C S s).length ≤ C.l.length := by
  unfold susR
  split
  · exact susQ_len l C S s
  · exact Nat.zero_le _
theorem sus_p {o : Option SVer} {u : Option (List UInt8)} (h : o.map SVer.says = u.map verV) (v : PVer) : (o.isSome && decide (cmpV v (o.getD ver0).says ≤ 0)) = susB u v := by
  cases o with
  | none => cases u with
    | none => rfl
    | some t => cases h
  | some x => cases u with
    | none => cases h
    | some t =>
      show (true && decide (cmpV v x.says ≤ 0)) = decide (cmpV v (verV t) ≤ 0)
      rw [show x.says = verV t from Option.some.inj h, Bool.true_and]
theorem sus_r {u : Option (List UInt8)} {x : List UInt8} (hx : relOk x = true) (hu : ∀ t, u = some t → relOk t = true) : (!decide (u.getD [] = []) && decide (relE x (u.getD []) ≤ 0)) = susB u (verV x) := by
  cases u with
  | none => rfl
  | some t =>
    have ht := hu t rfl
    have e : relE x t = cmpV (verV x) (verV t) := by rw [relE, parE_g hx, parE_g ht]
    show (!decide (t = []) && decide (relE x t ≤ 0)) = decide (cmpV (verV x) (verV t) ≤ 0)
    rw [decide_eq_false (rel_ne ht), e]; rfl
theorem bef_step {x s : List UInt8} {o : Option (List UInt8)} (hx : relOk x = true) (hs : relOk s = true) (ho : ∀ y, o = some y → relOk y = true) :
    ((decide ((parE x).1.p = (parE s).1.p) && decide (cmpV (parE x).1 (parE s).1 < 0)) && (decide (o.getD [] = []) || decide (0 < relE x (o.getD [])))) = (befP (verV s) (verV x) && beats (fun x y => decide (cmpV (verV y) (verV x) < 0)) x o) := by
  rw [parE_g hx, parE_g hs]
  cases o with
  | none => simp [befP, beats]
  | some y =>
    have hy := ho y rfl
    have e : relE x y = cmpV (verV x) (verV y) := by rw [relE, parE_g hx, parE_g hy]
    show (_ && (decide (y = []) || decide (0 < relE x y))) = (befP (verV s) (verV x) && decide (cmpV (verV y) (verV x) < 0))
    rw [decide_eq_false (rel_ne hy), Bool.false_or, e, gt_lt]; rfl
theorem first_4 (a b c d : Int) : firstI [a, b, c, d] = fst a (fst b (fst c d)) := by unfold firstI fst; by_cases h1 : a = 0 <;> by_cases h2 : b = 0 <;> by_cases h3 : c = 0 <;> by_cases h4 : d = 0 <;> simp [h1, h2, h3, h4]
/-! ### The walks -/
theorem Susp1_any (x i : SVer) (b1 : Nat) (w : World) (hx : VerOk w x) (hi : VerOk w i) (h1 : CellsAt w b1 i.enc) :
    Calls Tryz.prog 123 #[x.val, .pointer (some ⟨b1, 0, none⟩)] w fun e w' => e = .returned (.bool (befP i.says x.says)) ∧ Below w.heap.size w w' := by
  refine enter_args (args := [.agg #[str x.p, .int .i64 x.a, .int .i64 x.b, .int .i64 x.c, .slice x.pre.A x.pre.q x.pre.c], .pointer (some ⟨b1, 0, none⟩)]) (F := _) Tryz.func123 rfl Tryz.ntmps123 rfl rfl ?_
  intro Rb hRb hRn
  refine T_seq ?_
  refine T_region ?_
  refine S_box 2 2 rfl rfl rfl rfl rfl ?_
  intro b2
  refine S_ 3 rfl rfl rfl _ (y_assign rfl rfl) ?_
  refine S_go (fun _ _ h => h) ?_
  refine T_seq ?_
  refine T_region ?_
  refine S_ 4 rfl rfl rfl _ (y_fieldAddr rfl rfl fa42_0) ?_
  refine S_ 5 rfl rfl rfl _ (y_load 2 rfl rfl rfl rfl Tryz.underlying9 rfl) ?_
  refine S_ 6 rfl rfl rfl _ (y_fieldAddr rfl rfl fa42_0) ?_
  refine S_ 7 rfl rfl rfl _ (y_load_far rfl rfl (h1.one (j := 0) rfl).1 (h1.one (j := 0) (cs := i.enc) rfl).2 Tryz.underlying9 rfl) ?_
  refine S_ 8 rfl rfl rfl _ (y_bin rfl rfl rfl (fun _ => b_eqls)) ?_
  refine S_ 9 rfl rfl rfl _ (y_move rfl rfl) ?_
  refine Sg_ 10 rfl rfl rfl rfl rfl rfl _ (y_loadA 2 rfl rfl rfl Tryz.underlying42 rfl sz42) ?_
  refine Sg_ 11 rfl rfl rfl rfl rfl rfl _ (y_loadA_far rfl rfl h1.1 h1.2 Tryz.underlying42 rfl sz42) ?_
  refine Sg_ 12 rfl rfl rfl rfl rfl rfl _ (y_call rfl rfl rfl cf22 (fun _ w hM => Compare_any x i w (hx.below hM.below) (hi.below hM.below))) ?_
  refine Sg_ 13 rfl rfl rfl rfl rfl rfl _ (y_bin rfl rfl rfl (fun _ => b_lss)) ?_
  refine S_ 14 rfl rfl rfl _ (y_and rfl rfl rfl) ?_
  refine S_ 3 rfl rfl rfl _ (y_assign rfl rfl) ?_
  refine S_go (fun _ _ h => h) ?_
  refine T_ret (fun a w hF hM => hRb a w (post1 rfl rfl (fun w hM => ?_) a w hF hM))
  exact ⟨rfl, hM.below⟩
set_option maxHeartbeats 6400000 in
theorem Suspects_any (l : Sl Flt) (C : Sl SCom) (A : Option Addr) (q c : Nat) (S : List (List UInt8)) (s : List UInt8) (w : World) (hl : FltsOk w l) (hC : ComsOk w C) (hS : SlT strE 1 w A q S) :
    Calls Tryz.prog 44 #[.slice l.A l.q l.c, .slice C.A C.q C.c, .slice A q c, str s] w fun e w' => ∃ A' c', e = .returned (.tuple #[.slice A' (susR l C S s).length c', .int .i64 (susNo l C S s)]) ∧ w'.ownsRow w.heap.size 83 2 (.slice A' (susR l C S s).length c') (susR l C S s).length ((susR l C S s).flatMap SSus.enc) ∧ Below w.heap.size w w' := by
  have ht := hl.ok.t
  have hlen := ht.len
  have hCt := hC.ok.t
  have hClen := hCt.len
  refine enter_args (args := [.slice l.A l.q l.c, .slice C.A C.q C.c, .slice A q c, str s]) (F := _) Tryz.func44 rfl Tryz.ntmps44 rfl rfl ?_
  intro Rb hRb hRn
  refine T_seq ?_
  refine T_region ?_
  refine S_nilSlice 8 (e := 83) (size := 2) ?_
  refine S_ 8 rfl rfl rfl _ (y_assign rfl rfl) ?_
  refine S_ 9 rfl rfl rfl _ (y_assign rfl rfl) ?_
  refine S_go (fun _ _ h => h) ?_
  refine T_seq ?_
  refine T_seq ?_
  refine T_region ?_
  refine S_ 29 rfl rfl rfl _ (y_move rfl rfl) ?_
  refine S_ 30 rfl rfl rfl _ (y_call rfl rfl rfl cf122 (fun _ w hM => sCheck_any l w (hl.below hM.below))) ?_
  refine S_ 10 rfl rfl rfl _ (y_assign rfl rfl) ?_
  refine S_go (fun _ _ h => h) ?_
  refine T_seq ?_
  refine T_region ?_
  refine S_ 31 rfl rfl rfl _ (y_move rfl rfl) ?_
  refine S_ 32 rfl rfl rfl _ (y_bin rfl rfl rfl (fun _ => b_neq)) ?_
  refine S_go (fun _ _ h => h) ?_
  refine T_cond rfl (fun h32 => ?_) (fun h32 => ?_)
  · try simp only [decide_eq_true_eq, decide_eq_false_iff_not, Bool.or_eq_true, Bool.or_eq_false_iff, Bool.and_eq_true, Bool.and_eq_false_iff, Bool.not_eq_true', Bool.not_eq_false', Bool.not_eq_true, Bool.not_eq_false, Bool.not_true, Bool.not_false, Int.not_lt, Int.not_le, not_or, not_and, Classical.not_not] at h32
    have hno : susNo l C S s = faultsNo l := fst_t h32
    refine T_seq ?_
    refine T_region ?_
    refine S_ 33 rfl rfl rfl _ (y_move rfl rfl) ?_
    refine S_nilSlice 8 (e := 83) (size := 2) ?_
    refine S_ 8 rfl rfl rfl _ (y_assign rfl rfl) ?_
    refine S_ 9 rfl rfl rfl _ (y_assign rfl rfl) ?_
    refine S_go (fun _ _ h => h) ?_
    refine T_ret (fun a w hF hM => hRb a w (post2 rfl rfl rfl (fun w hM => ?_) a w hF hM))
    have hR : susR l C S s = [] := if_neg (by rw [hno]; exact h32)
    rw [hR, hno]
    exact ⟨none, 0, rfl, World.ownsRow_nil _ _ _ _, hM.below⟩
  · try simp only [decide_eq_true_eq, decide_eq_false_iff_not, Bool.or_eq_true, Bool.or_eq_false_iff, Bool.and_eq_true, Bool.and_eq_false_iff, Bool.not_eq_true', Bool.not_eq_false', Bool.not_eq_true, Bool.not_eq_false, Bool.not_true, Bool.not_false, Int.not_lt, Int.not_le, not_or, not_and, Classical.not_not] at h32
    have h32 : faultsNo l = 0 := h32
    obtain ⟨hf1, hf2⟩ := faults_U h32
    refine T_skip_go (fun _ _ h => h) ?_
    refine T_seq ?_
    refine T_seq ?_
    refine T_region ?_
    refine S_ 34 rfl rfl rfl _ (y_move rfl rfl) ?_
    refine S_ 35 rfl rfl rfl _ (y_call rfl rfl rfl cf48 (fun _ w hM => CheckCommits_any C w (hC.below hM.below))) ?_
    refine S_ 11 rfl rfl rfl _ (y_assign rfl rfl) ?_
    refine S_go (fun _ _ h => h) ?_
    refine T_seq ?_
    refine T_region ?_
    refine S_ 36 rfl rfl rfl _ (y_move rfl rfl) ?_
    refine S_ 37 rfl rfl rfl _ (y_bin rfl rfl rfl (fun _ => b_neq)) ?_
    refine S_go (fun _ _ h => h) ?_
    refine T_cond rfl (fun h37 => ?_) (fun h37 => ?_)
    · try simp only [decide_eq_true_eq, decide_eq_false_iff_not, Bool.or_eq_true, Bool.or_eq_false_iff, Bool.and_eq_true, Bool.and_eq_false_iff, Bool.not_eq_true', Bool.not_eq_false', Bool.not_eq_true, Bool.not_eq_false, Bool.not_true, Bool.not_false, Int.not_lt, Int.not_le, not_or, not_and, Classical.not_not] at h37
      have hno : susNo l C S s = commitsNo C := by rw [susNo, fst_f h32, fst_t h37]
      refine T_seq ?_
      refine T_region ?_
      refine S_ 38 rfl rfl rfl _ (y_move rfl rfl) ?_
      refine S_nilSlice 8 (e := 83) (size := 2) ?_
      refine S_ 8 rfl rfl rfl _ (y_assign rfl rfl) ?_
      refine S_ 9 rfl rfl rfl _ (y_assign rfl rfl) ?_
      refine S_go (fun _ _ h => h) ?_
      refine T_ret (fun a w hF hM => hRb a w (post2 rfl rfl rfl (fun w hM => ?_) a w hF hM))
      have hR : susR l C S s = [] := if_neg (by rw [hno]; exact h37)
      rw [hR, hno]
      exact ⟨none, 0, rfl, World.ownsRow_nil _ _ _ _, hM.below⟩
    · try simp only [decide_eq_true_eq, decide_eq_false_iff_not, Bool.or_eq_true, Bool.or_eq_false_iff, Bool.and_eq_true, Bool.and_eq_false_iff, Bool.not_eq_true', Bool.not_eq_false', Bool.not_eq_true, Bool.not_eq_false, Bool.not_true, Bool.not_false, Int.not_lt, Int.not_le, not_or, not_and, Classical.not_not] at h37
      have h37 : commitsNo C = 0 := h37
      obtain ⟨hk1, hk2⟩ := coms_U h37
      refine T_skip_go (fun _ _ h => h) ?_
      refine T_seq ?_
      refine T_region ?_
      refine S_ 40 rfl rfl rfl _ (y_move rfl rfl) ?_
      refine S_callN 41 [] [(4, 904), (900, 920)] (X := AllR) rfl rfl rfl rfl rfl rfl rfl cf110 rfl (fun z => .tuple #[.slice z.A z.l.length z.c, .int .i64 (allNo S)]) (fun z => z.Ok w S) (fun z => [(4, .own 42 5 (.slice z.A z.l.length z.c) z.l.length (z.l.flatMap SVer.enc)), (900, .many z.rs)]) (fun _ => rfl) (fun _ => rfl) (fun K1 hK1 w1 hM => parseAll_any hK1 A q c S w1 hS hM) ?_
      intro x41 hx41
      refine S_ 39 rfl rfl rfl _ (y_move rfl rfl) ?_
      refine S_ 42 rfl rfl rfl _ (y_extract rfl rfl rfl) ?_
      refine S_ 43 rfl rfl rfl _ (y_extract rfl rfl rfl) ?_
      refine S_ 12 rfl rfl rfl _ (y_assign rfl rfl) ?_
      refine S_ 13 rfl rfl rfl _ (y_assign rfl rfl) ?_
      refine S_go (fun _ _ h => h) ?_
      refine T_seq ?_
      refine T_seq ?_
      refine T_region ?_
      refine S_ 44 rfl rfl rfl _ (y_move rfl rfl) ?_
      refine S_ 45 rfl rfl rfl _ (y_bin rfl rfl rfl (fun _ => b_neq)) ?_
      refine S_go (fun _ _ h => h) ?_
      refine T_cond rfl (fun h45 => ?_) (fun h45 => ?_)
      · try simp only [decide_eq_true_eq, decide_eq_false_iff_not, Bool.or_eq_true, Bool.or_eq_false_iff, Bool.and_eq_true, Bool.and_eq_false_iff, Bool.not_eq_true', Bool.not_eq_false', Bool.not_eq_true, Bool.not_eq_false, Bool.not_true, Bool.not_false, Int.not_lt, Int.not_le, not_or, not_and, Classical.not_not] at h45
        have hno : susNo l C S s = allNo S := by rw [susNo, fst_f h32, fst_f h37, fst_t h45]
        refine T_seq ?_
        refine T_region ?_
        refine S_ 46 rfl rfl rfl _ (y_move rfl rfl) ?_
        refine S_nilSlice 8 (e := 83) (size := 2) ?_
        refine S_ 8 rfl rfl rfl _ (y_assign rfl rfl) ?_
        refine S_ 9 rfl rfl rfl _ (y_assign rfl rfl) ?_
        refine S_go (fun _ _ h => h) ?_
        refine T_ret (fun a w hF hM => hRb a w (post2 rfl rfl rfl (fun w hM => ?_) a w hF hM))
        have hR : susR l C S s = [] := if_neg (by rw [hno]; exact h45)
        rw [hR, hno]
        exact ⟨none, 0, rfl, World.ownsRow_nil _ _ _ _, hM.below⟩
      · try simp only [decide_eq_true_eq, decide_eq_false_iff_not, Bool.or_eq_true, Bool.or_eq_false_iff, Bool.and_eq_true, Bool.and_eq_false_iff, Bool.not_eq_true', Bool.not_eq_false', Bool.not_eq_true, Bool.not_eq_false, Bool.not_true, Bool.not_false, Int.not_lt, Int.not_le, not_or, not_and, Classical.not_not] at h45
        have h45 : allNo S = 0 := h45
        have hal := all_ok h45
        have hxl := AllR.len hx41
        have hsm : x41.l.map SVer.says = S.map verV := by have := hx41.says; rw [if_pos h45] at this; exact this
        refine T_skip_go (fun _ _ h => h) ?_
        refine T_seq ?_
        refine T_region ?_
        refine S_ 48 rfl rfl rfl _ (y_move rfl rfl) ?_
        refine S_callOwn 49 49 rfl rfl rfl rfl rfl rfl rfl cf101 (fun A c => .tuple #[pvV (parseR s).1 A c, .bool (parseR s).2]) 9 1 ((parseR s).1.pre.length) ((parseR s).1.pre.flatMap strE) (fun w hM => parse_any s w) ?_
        intro A49 c49
        refine S_ 47 rfl rfl rfl _ (y_move rfl rfl) ?_
        refine S_ 50 rfl rfl rfl _ (y_extract rfl rfl rfl) ?_
        refine S_ 51 rfl rfl rfl _ (y_extract rfl rfl rfl) ?_
        refine S_alloc 14 14 rfl rfl rfl rfl z42 ?_
        intro b14
        refine S_store 14 rfl rfl rfl rfl rfl rfl sz42 rfl rfl ?_
        refine S_ 15 rfl rfl rfl _ (y_assign rfl rfl) ?_
        refine S_go (fun _ _ h => h) ?_
        refine T_seq ?_
        refine T_seq ?_
        refine T_region ?_
        refine S_ 52 rfl rfl rfl _ (y_move rfl rfl) ?_
        refine S_ 53 rfl rfl rfl _ (y_not rfl rfl) ?_
        refine S_go (fun _ _ h => h) ?_
        refine T_cond rfl (fun h53 => ?_) (fun h53 => ?_)
        · skip
          have hpj : relOk s = false := by simpa using h53
          have hno : susNo l C S s = 8 := by rw [susNo, fst_f h32, fst_f h37, fst_f h45, if_neg (by rw [hpj]; simp)]
          refine T_seq ?_
          refine T_region ?_
          refine S_nilSlice 8 (e := 83) (size := 2) ?_
          refine S_ 8 rfl rfl rfl _ (y_assign rfl rfl) ?_
          refine S_ 9 rfl rfl rfl _ (y_assign rfl rfl) ?_
          refine S_go (fun _ _ h => h) ?_
          refine T_ret (fun a w hF hM => hRb a w (post2 rfl rfl rfl (fun w hM => ?_) a w hF hM))
          have hR : susR l C S s = [] := if_neg (by rw [hno]; decide)
          rw [hR, hno]
          exact ⟨none, 0, rfl, World.ownsRow_nil _ _ _ _, hM.below⟩
        · skip
          have hpj : relOk s = true := by simpa using h53
          have hno : susNo l C S s = 0 := by rw [susNo, fst_f h32, fst_f h37, fst_f h45, if_pos hpj]
          let bo : Option SVer := bestF (fun x => befP (verV s) x.says) (fun x y => decide (cmpV y.says x.says < 0)) x41.sl.l none
          have hbt : bo.map SVer.says = (befO S s).map verV := best_texts hsm (befP (verV s)) (fun x y => decide (cmpV y x < 0))
          have hbo : Sees w x41.rs fun w => VerOk w (bo.getD ver0) := by
            cases ho : bo with
            | none => exact fun w _ _ => ver0_ok w
            | some y => exact hx41.n y ((bestF_mem ho).resolve_right (by simp))
          refine T_skip_go (fun _ _ h => h) ?_
          refine T_seq ?_
          refine T_region ?_
          refine S_ 55 rfl rfl rfl _ (y_move rfl rfl) ?_
          refine S_ 56 rfl rfl rfl _ (y_makeFunc rfl rfl rfl rfl rfl) ?_
          refine S_ 57 rfl rfl rfl _ (y_call rfl rfl rfl cf116 (fun _ w hM => greatest_any x41.sl _ _ (fun x => befP (verV s) x.says) w (AllR.vers hx41 hM 904 920 rfl rfl (by omega)) cf123 (fun x hx w1 hb => (Susp1_any x (svr (parseR s).1 A49 c49) b14 w1 (((hx41.n x hx).at hM 920 rfl).below hb) (svr_ok (parseR_bound _) ((owned_ok (enc := strE) hM rfl (i := 49) rfl).below hb)) (cells_below (hM.box_cells 14 rfl) hb)).mono fun e w2 h => ⟨by rw [h.1, svr_says, parse_ver hpj], h.2⟩))) ?_
          refine S_ 54 rfl rfl rfl _ (y_move rfl rfl) ?_
          refine S_ 58 rfl rfl rfl _ (y_as (v' := (bo.getD ver0).val) (by exact rfl) (y_extract rfl rfl rfl)) ?_
          refine S_ 59 rfl rfl rfl _ (y_as (v' := .bool bo.isSome) (by exact rfl) (y_extract rfl rfl rfl)) ?_
          refine S_alloc 16 16 rfl rfl rfl rfl z42 ?_
          intro b16
          refine S_store 16 rfl rfl rfl rfl rfl rfl sz42 rfl rfl ?_
          refine S_ 17 rfl rfl rfl _ (y_assign rfl rfl) ?_
          refine S_go (fun _ _ h => h) ?_
          refine T_seq ?_
          refine T_region ?_
          refine S_nilSlice 18 (e := 9) (size := 1) ?_
          refine S_ 18 rfl rfl rfl _ (y_assign rfl rfl) ?_
          refine S_go (fun _ _ h => h) ?_
          refine T_seq ?_
          refine T_seq ?_
          refine T_region ?_
          refine S_ 60 rfl rfl rfl _ (y_move rfl rfl) ?_
          refine S_ 61 rfl rfl rfl _ (y_len_slice rfl rfl Tryz.underlying25) ?_
          refine S_ 62 rfl rfl rfl _ (y_move rfl rfl) ?_
          refine S_go (fun _ _ h => h) ?_
          refine T_block ?_
          refine T_loopK4 (kf := [(18, 18), (20, 20), (22, 22), (62, 81)]) (kl := [(18, 18), (20, 20), (22, 22), (62, 81)]) (fun (i : Nat) (G : List (List UInt8)) (A18 : Option Addr) (c18 : Nat) => [(62, true, .int .i64 (i : Int)), (18, true, .slice A18 G.length c18)]) (fun (i : Nat) (G : List (List UInt8)) (A18 : Option Addr) (c18 : Nat) => [(18, .own 9 1 (.slice A18 G.length c18) G.length (G.flatMap strE))]) (fun (i : Nat) (G : List (List UInt8)) (A18 : Option Addr) (c18 : Nat) => i ≤ l.q ∧ G ++ ownFi (l.l.drop i) = ownFi l.l ∧ G.length ≤ 200 * i ∧ ∀ f ∈ G, f.length ≤ 4611686018427387904) (fun (i : Nat) (G : List (List UInt8)) (A18 : Option Addr) (c18 : Nat) => l.q - i) 0 [] none 0 (by repeat (first | exact kf_nil | (apply kf_in; focus rfl) | (apply kf_out; focus rfl))) (by repeat (first | exact kl_nil | exact kl_rest (by assumption) rfl | (apply kl_in; focus rfl) | (apply kl_out; focus rfl))) ?_ ?_ ?_ ?_
          · exact ⟨by omega, rfl, by simp, fun f h => by cases h⟩
          · exact ⟨rfl, rfl, trivial⟩
          · exact ⟨rfl, trivial⟩
          rintro i G A18 c18 ⟨hg1, hg2, hg3, hg4⟩
          refine T_seq ?_
          refine T_region ?_
          refine S_ 63 rfl rfl rfl _ (y_bin rfl rfl rfl (fun _ => b_lss)) ?_
          refine S_go (fun _ _ h => h) ?_
          refine T_seq ?_
          refine T_cond rfl (fun h63 => ?_) (fun h63 => ?_)
          · try simp only [decide_eq_true_eq, decide_eq_false_iff_not, Bool.or_eq_true, Bool.or_eq_false_iff, Bool.and_eq_true, Bool.and_eq_false_iff, Bool.not_eq_true', Bool.not_eq_false', Bool.not_eq_true, Bool.not_eq_false, Bool.not_true, Bool.not_false, Int.not_lt, Int.not_le, not_or, not_and, Classical.not_not] at h63
            obtain ⟨y, hx1, hx2⟩ := ht.at (i := i) (by omega)
            have hyo := hl.n y (mem_at hx1)
            have hft := hyo.fr.ok.t
            have hfl := hft.len
            have hfq := hf2 y (mem_at hx1)
            refine T_skip_go (fun _ _ h => h) ?_
            refine T_seq ?_
            refine T_block ?_
            refine T_seq ?_
            refine T_region ?_
            refine S_ 64 rfl rfl rfl _ (y_indexAddr rfl rfl rfl Tryz.underlying25 sz114 (fun hg => ht.isSome (by omega)) (fun _ => by omega)) ?_
            refine S_ 65 rfl rfl rfl _ (y_loadT rfl rfl ht (fun _ => rfl) (fun _ => hx1) Tryz.underlying114 rfl sz114) ?_
            refine S_alloc 20 20 rfl rfl rfl rfl z114 ?_
            intro b20
            refine S_store 20 rfl rfl rfl rfl rfl rfl sz114 rfl rfl ?_
            refine S_go (fun _ _ h => h) ?_
            refine T_seq ?_
            refine T_region ?_
            refine S_ 66 rfl rfl rfl _ (y_fieldAddr rfl rfl fa114_2) ?_
            refine S_ 67 rfl rfl rfl _ (y_load 20 rfl rfl rfl rfl Tryz.underlying112 rfl) ?_
            refine S_ 68 rfl rfl rfl _ (y_len_slice rfl rfl Tryz.underlying112) ?_
            refine S_ 69 rfl rfl rfl _ (y_move rfl rfl) ?_
            refine S_go (fun _ _ h => h) ?_
            refine T_block ?_
            refine T_loopK4 (kf := [(18, 18), (22, 22), (69, 80)]) (kl := [(18, 18), (22, 22), (69, 80)]) (fun (j : Nat) (G : List (List UInt8)) (A18 : Option Addr) (c18 : Nat) => [(69, true, .int .i64 (j : Int)), (18, true, .slice A18 G.length c18)]) (fun (j : Nat) (G : List (List UInt8)) (A18 : Option Addr) (c18 : Nat) => [(18, .own 9 1 (.slice A18 G.length c18) G.length (G.flatMap strE))]) (fun (j : Nat) (G : List (List UInt8)) (A18 : Option Addr) (c18 : Nat) => j ≤ y.fr.q ∧ G ++ (frFi (y.fr.l.drop j) ++ ownFi (l.l.drop (i + 1))) = ownFi l.l ∧ G.length ≤ 200 * i + j ∧ ∀ f ∈ G, f.length ≤ 4611686018427387904) (fun (j : Nat) (G : List (List UInt8)) (A18 : Option Addr) (c18 : Nat) => y.fr.q - j) 0 G A18 c18 (by repeat (first | exact kf_nil | (apply kf_in; focus rfl) | (apply kf_out; focus rfl))) (by repeat (first | exact kl_nil | exact kl_rest (by assumption) rfl | (apply kl_in; focus rfl) | (apply kl_out; focus rfl))) ?_ ?_ ?_ ?_
            · exact ⟨by omega, by rw [← hg2, hx2]; rfl, by omega, hg4⟩
            · exact ⟨rfl, rfl, trivial⟩
            · exact ⟨rfl, trivial⟩
            rintro j G A18 c18 ⟨hj1, hj2, hj3, hj4⟩
            refine T_seq ?_
            refine T_region ?_
            refine S_ 70 rfl rfl rfl _ (y_bin rfl rfl rfl (fun _ => b_lss)) ?_
            refine S_go (fun _ _ h => h) ?_
            refine T_seq ?_
            refine T_cond rfl (fun h70 => ?_) (fun h70 => ?_)
            · try simp only [decide_eq_true_eq, decide_eq_false_iff_not, Bool.or_eq_true, Bool.or_eq_false_iff, Bool.and_eq_true, Bool.and_eq_false_iff, Bool.not_eq_true', Bool.not_eq_false', Bool.not_eq_true, Bool.not_eq_false, Bool.not_true, Bool.not_false, Int.not_lt, Int.not_le, not_or, not_and, Classical.not_not] at h70
              obtain ⟨x, hf1x, hf2x⟩ := hft.at (i := j) (by omega)
              have hxn := (hyo.fr.n x (mem_at hf1x)).2.2
              refine T_skip_go (fun _ _ h => h) ?_
              refine T_seq ?_
              refine T_block ?_
              refine T_seq ?_
              refine T_region ?_
              refine S_ 71 rfl rfl rfl _ (y_indexAddr rfl rfl rfl Tryz.underlying112 sz119 (fun hg => hft.isSome (by omega)) (fun _ => by omega)) ?_
              refine S_ 72 rfl rfl rfl _ (y_loadT rfl rfl hft (fun _ => rfl) (fun _ => hf1x) Tryz.underlying119 rfl sz119) ?_
              refine S_alloc 22 22 rfl rfl rfl rfl z119 ?_
              intro b22
              refine S_store 22 rfl rfl rfl rfl rfl rfl sz119 rfl rfl ?_
              refine S_go (fun _ _ h => h) ?_
              refine T_seq ?_
              refine T_region ?_
              refine S_ 73 rfl rfl rfl _ (y_fieldAddr rfl rfl fa119_5) ?_
              refine S_ 74 rfl rfl rfl _ (y_load 22 rfl rfl rfl rfl Tryz.underlying4 rfl) ?_
              refine S_go (fun _ _ h => h) ?_
              refine T_cond rfl (fun h74 => ?_) (fun h74 => ?_)
              · skip
                refine T_region ?_
                refine S_ 75 rfl rfl rfl _ (y_move rfl rfl) ?_
                refine S_ 76 rfl rfl rfl _ (y_fieldAddr rfl rfl fa119_2) ?_
                refine S_ 77 rfl rfl rfl _ (y_load 22 rfl rfl rfl rfl Tryz.underlying9 rfl) ?_
                refine S_buildSlice 78 78 rfl rfl rfl rfl rfl Tryz.underlying40 inf9 rfl (by decide) (by decide) rfl rfl (by decide) rfl (_) rfl ?_
                intro b78
                obtain ⟨i79, hi79, hz79, hs79, hy79⟩ := info_parts inf9
                refine S_append 79 18 78 rfl rfl rfl rfl rfl rfl rfl rfl Tryz.underlying40 hi79 hz79 hs79 hy79 rfl (by decide) (by decide) rfl ?_ ?_ ((G ++ [x.fi]).length) ((G ++ [x.fi]).flatMap strE) ?_ ?_ ?_
                · (simp only [maxLen]; omega)
                · omega
                · simp
                · simp [List.flatMap_append]; rfl
                intro A79 c79
                refine S_ 18 rfl rfl rfl _ (y_assign rfl rfl) ?_
                refine S_go (fun _ _ h => h) ?_
                refine T_region ?_
                refine S_ 80 rfl rfl rfl _ (y_bin rfl rfl rfl (fun hg => b_add (by omega))) ?_
                refine S_ 69 rfl rfl rfl _ (y_move rfl rfl) ?_
                refine S_nil (nextK4 (kf := [(18, 18), (22, 22), (69, 80)]) (kl := [(18, 18), (22, 22), (69, 80)]) (j + 1) (G ++ [x.fi]) A79 c79 (by repeat (first | exact kf_nil | (apply kf_in; focus rfl) | (apply kf_out; focus rfl))) (by repeat (first | exact kl_nil | exact kl_rest (by assumption) rfl | (apply kl_in; focus rfl) | (apply kl_out; focus rfl))) ?_ ?_ ?_ ?_)
                · omega
                · exact ⟨by omega, by rw [← hj2, hf2x, frFi, if_pos h74]; simp, by rw [List.length_append, List.length_singleton]; omega, fun f hf => by rcases List.mem_append.1 hf with h | h; exact hj4 f h; rw [List.mem_singleton.1 h]; exact hxn⟩
                · exact ⟨rfl, rfl, trivial⟩
                · exact ⟨rfl, trivial⟩
              · skip
                refine T_skip_go (fun _ _ h => h) ?_
                refine T_region ?_
                refine S_ 80 rfl rfl rfl _ (y_bin rfl rfl rfl (fun hg => b_add (by omega))) ?_
                refine S_ 69 rfl rfl rfl _ (y_move rfl rfl) ?_
                refine S_nil (nextK4 (kf := [(18, 18), (22, 22), (69, 80)]) (kl := [(18, 18), (22, 22), (69, 80)]) (j + 1) G A18 c18 (by repeat (first | exact kf_nil | (apply kf_in; focus rfl) | (apply kf_out; focus rfl))) (by repeat (first | exact kl_nil | exact kl_rest (by assumption) rfl | (apply kl_in; focus rfl) | (apply kl_out; focus rfl))) ?_ ?_ ?_ ?_)
                · omega
                · exact ⟨by omega, by rw [← hj2, hf2x, frFi, if_neg (by rw [h74]; simp)], by omega, hj4⟩
                · exact ⟨rfl, rfl, trivial⟩
                · exact ⟨rfl, trivial⟩
            · try simp only [decide_eq_true_eq, decide_eq_false_iff_not, Bool.or_eq_true, Bool.or_eq_false_iff, Bool.and_eq_true, Bool.and_eq_false_iff, Bool.not_eq_true', Bool.not_eq_false', Bool.not_eq_true, Bool.not_eq_false, Bool.not_true, Bool.not_false, Int.not_lt, Int.not_le, not_or, not_and, Classical.not_not] at h70
              refine T_exit_go (fun _ _ h => h) ?_
              refine T_region ?_
              refine S_ 81 rfl rfl rfl _ (y_bin rfl rfl rfl (fun hg => b_add (by omega))) ?_
              refine S_ 62 rfl rfl rfl _ (y_move rfl rfl) ?_
              refine S_nil (nextK4 (kf := [(18, 18), (20, 20), (22, 22), (62, 81)]) (kl := [(18, 18), (20, 20), (22, 22), (62, 81)]) (i + 1) G A18 c18 (by repeat (first | exact kf_nil | (apply kf_in; focus rfl) | (apply kf_out; focus rfl))) (by repeat (first | exact kl_nil | exact kl_rest (by assumption) rfl | (apply kl_in; focus rfl) | (apply kl_out; focus rfl))) ?_ ?_ ?_ ?_)
              · omega
              · exact ⟨by omega, by rw [← hj2, hft.end (by omega)]; rfl, by omega, hj4⟩
              · exact ⟨rfl, rfl, trivial⟩
              · exact ⟨rfl, trivial⟩
          · try simp only [decide_eq_true_eq, decide_eq_false_iff_not, Bool.or_eq_true, Bool.or_eq_false_iff, Bool.and_eq_true, Bool.and_eq_false_iff, Bool.not_eq_true', Bool.not_eq_false', Bool.not_eq_true, Bool.not_eq_false, Bool.not_true, Bool.not_false, Int.not_lt, Int.not_le, not_or, not_and, Classical.not_not] at h63
            refine T_exit_go (fun _ _ h => h) ?_
            refine T_seq ?_
            refine T_region ?_
            refine S_nilSlice 23 (e := 83) (size := 2) ?_
            refine S_ 23 rfl rfl rfl _ (y_assign rfl rfl) ?_
            refine S_go (fun _ _ h => h) ?_
            refine T_seq ?_
            refine T_seq ?_
            refine T_region ?_
            refine S_ 82 rfl rfl rfl _ (y_move rfl rfl) ?_
            refine S_ 83 rfl rfl rfl _ (y_len_slice rfl rfl Tryz.underlying74) ?_
            refine S_ 84 rfl rfl rfl _ (y_move rfl rfl) ?_
            refine S_go (fun _ _ h => h) ?_
            refine T_block ?_
            refine T_loopK4 (kf := [(23, 23), (25, 28), (84, 126)]) (kl := [(23, 23), (25, 28), (84, 126)]) (fun (k : Nat) (O : List SSus) (A23 : Option Addr) (c23 : Nat) => [(84, true, .int .i64 (k : Int)), (23, true, .slice A23 O.length c23)]) (fun (k : Nat) (O : List SSus) (A23 : Option Addr) (c23 : Nat) => [(23, .own 83 2 (.slice A23 O.length c23) O.length (O.flatMap SSus.enc))]) (fun (k : Nat) (O : List SSus) (A23 : Option Addr) (c23 : Nat) => k ≤ C.q ∧ O ++ susL (verV s) (befO S s) G (C.l.drop k) = susL (verV s) (befO S s) G C.l ∧ O.length ≤ k) (fun (k : Nat) (O : List SSus) (A23 : Option Addr) (c23 : Nat) => C.q - k) 0 [] none 0 (by repeat (first | exact kf_nil | (apply kf_in; focus rfl) | (apply kf_out; focus rfl))) (by repeat (first | exact kl_nil | exact kl_rest (by assumption) rfl | (apply kl_in; focus rfl) | (apply kl_out; focus rfl))) ?_ ?_ ?_ ?_
            · exact ⟨by omega, rfl, Nat.le_refl _⟩
            · exact ⟨rfl, rfl, trivial⟩
            · exact ⟨rfl, trivial⟩
            rintro k O A23 c23 ⟨ho1, ho2, ho3⟩
            refine T_seq ?_
            refine T_region ?_
            refine S_ 85 rfl rfl rfl _ (y_bin rfl rfl rfl (fun _ => b_lss)) ?_
            refine S_go (fun _ _ h => h) ?_
            refine T_seq ?_
            refine T_cond rfl (fun h85 => ?_) (fun h85 => ?_)
            · try simp only [decide_eq_true_eq, decide_eq_false_iff_not, Bool.or_eq_true, Bool.or_eq_false_iff, Bool.and_eq_true, Bool.and_eq_false_iff, Bool.not_eq_true', Bool.not_eq_false', Bool.not_eq_true, Bool.not_eq_false, Bool.not_true, Bool.not_false, Int.not_lt, Int.not_le, not_or, not_and, Classical.not_not] at h85
              obtain ⟨x0, hc1, hc2⟩ := hCt.at (i := k) (by omega)
              have hxr := hk2 x0 (mem_at hc1)
              refine T_skip_go (fun _ _ h => h) ?_
              refine T_seq ?_
              refine T_block ?_
              refine T_seq ?_
              refine T_region ?_
              refine S_ 86 rfl rfl rfl _ (y_indexAddr rfl rfl rfl Tryz.underlying74 sz157 (fun hg => hCt.isSome (by omega)) (fun _ => by omega)) ?_
              refine S_ 87 rfl rfl rfl _ (y_loadT rfl rfl hCt (fun _ => rfl) (fun _ => hc1) Tryz.underlying157 rfl sz157) ?_
              refine S_alloc 25 25 rfl rfl rfl rfl z157 ?_
              intro b25
              refine S_store 25 rfl rfl rfl rfl rfl rfl sz157 rfl rfl ?_
              refine S_go (fun _ _ h => h) ?_
              refine T_seq ?_
              refine T_region ?_
              refine S_ 89 rfl rfl rfl _ (y_fieldAddr rfl rfl fa157_2) ?_
              refine S_ 90 rfl rfl rfl _ (y_load 25 rfl rfl rfl rfl Tryz.underlying9 rfl) ?_
              refine S_callOwn 91 91 rfl rfl rfl rfl rfl rfl rfl cf101 (fun A c => .tuple #[pvV (parseR x0.rel).1 A c, .bool (parseR x0.rel).2]) 9 1 ((parseR x0.rel).1.pre.length) ((parseR x0.rel).1.pre.flatMap strE) (fun w hM => parse_any x0.rel w) ?_
              intro A91 c91
              refine S_ 88 rfl rfl rfl _ (y_move rfl rfl) ?_
              refine S_ 92 rfl rfl rfl _ (y_extract rfl rfl rfl) ?_
              refine S_ 93 rfl rfl rfl _ (y_extract rfl rfl rfl) ?_
              refine S_alloc 26 26 rfl rfl rfl rfl z42 ?_
              intro b26
              refine S_store 26 rfl rfl rfl rfl rfl rfl sz42 rfl rfl ?_
              refine S_ 27 rfl rfl rfl _ (y_assign rfl rfl) ?_
              refine S_go (fun _ _ h => h) ?_
              refine T_seq ?_
              refine T_seq ?_
              refine T_region ?_
              refine S_ 94 rfl rfl rfl _ (y_fieldAddr rfl rfl fa42_0) ?_
              refine S_ 95 rfl rfl rfl _ (y_load 26 rfl rfl rfl rfl Tryz.underlying9 rfl) ?_
              refine S_ 96 rfl rfl rfl _ (y_fieldAddr rfl rfl fa42_0) ?_
              refine S_ 97 rfl rfl rfl _ (y_load 14 rfl rfl rfl rfl Tryz.underlying9 rfl) ?_
              refine S_ 98 rfl rfl rfl _ (y_bin rfl rfl rfl (fun _ => b_neqs)) ?_
              refine S_ 99 rfl rfl rfl _ (y_move rfl rfl) ?_
              refine Sg_ 100 rfl rfl rfl rfl rfl rfl _ (y_loadA 26 rfl rfl rfl Tryz.underlying42 rfl sz42) ?_
              refine Sg_ 101 rfl rfl rfl rfl rfl rfl _ (y_loadA 14 rfl rfl rfl Tryz.underlying42 rfl sz42) ?_
              refine Sg_ 102 rfl rfl rfl rfl rfl rfl _ (y_call rfl rfl rfl cf22 (fun _ w hM => Compare_any (svr (parseR x0.rel).1 A91 c91) (svr (parseR s).1 A49 c49) w (svr_ok (parseR_bound _) (owned_ok (enc := strE) hM rfl (i := 91) rfl)) (svr_ok (parseR_bound _) (owned_ok (enc := strE) hM rfl (i := 49) rfl)))) ?_
              refine Sg_ 103 rfl rfl rfl rfl rfl rfl _ (y_bin rfl rfl rfl (fun _ => b_gtr)) ?_
              refine S_ 104 rfl rfl rfl _ (y_or rfl rfl rfl) ?_
              refine S_ 105 rfl rfl rfl _ (y_move rfl rfl) ?_
              refine Sg_ 106 rfl rfl rfl rfl rfl rfl _ (y_move rfl rfl) ?_
              refine Sg_ 107 rfl rfl rfl rfl rfl rfl _ (y_move rfl rfl) ?_
              refine Sg_ 108 rfl rfl rfl rfl rfl rfl _ (y_loadA 26 rfl rfl rfl Tryz.underlying42 rfl sz42) ?_
              refine Sg_ 109 rfl rfl rfl rfl rfl rfl _ (y_loadA 16 rfl rfl rfl Tryz.underlying42 rfl sz42) ?_
              refine Sg_ 110 rfl rfl rfl rfl rfl rfl _ (y_call rfl rfl rfl cf22 (fun _ w hM => Compare_any (svr (parseR x0.rel).1 A91 c91) (bo.getD ver0) w (svr_ok (parseR_bound _) (owned_ok (enc := strE) hM rfl (i := 91) rfl)) (hbo.at hM 920 rfl))) ?_
              refine Sg_ 111 rfl rfl rfl rfl rfl rfl _ (y_bin rfl rfl rfl (fun _ => b_leq)) ?_
              refine Sg_ 112 rfl rfl rfl rfl rfl rfl _ (y_and rfl rfl rfl) ?_
              refine S_ 113 rfl rfl rfl _ (y_as (v' := .bool (susSkip (verV s) (befO S s) (verV x0.rel))) (by exact congrArg Value.bool (by rw [svr_says, svr_says, parse_ver hpj, parse_ver hxr, sus_p hbt]; rfl)) (y_or rfl rfl rfl)) ?_
              refine S_go (fun _ _ h => h) ?_
              refine T_cond rfl (fun h113 => ?_) (fun h113 => ?_)
              · skip
                refine T_exit_go (fun _ _ h => h) ?_
                refine T_region ?_
                refine S_ 126 rfl rfl rfl _ (y_bin rfl rfl rfl (fun hg => b_add (by omega))) ?_
                refine S_ 84 rfl rfl rfl _ (y_move rfl rfl) ?_
                refine S_nil (nextK4 (kf := [(23, 23), (25, 28), (84, 126)]) (kl := [(23, 23), (25, 28), (84, 126)]) (k + 1) O A23 c23 (by repeat (first | exact kf_nil | (apply kf_in; focus rfl) | (apply kf_out; focus rfl))) (by repeat (first | exact kl_nil | exact kl_rest (by assumption) rfl | (apply kl_in; focus rfl) | (apply kl_out; focus rfl))) ?_ ?_ ?_ ?_)
                · omega
                · exact ⟨by omega, by rw [← ho2, hc2, susL, if_pos h113], by omega⟩
                · exact ⟨rfl, rfl, trivial⟩
                · exact ⟨rfl, trivial⟩
              · skip
                refine T_skip_go (fun _ _ h => h) ?_
                refine T_seq ?_
                refine T_region ?_
                refine S_ 114 rfl rfl rfl _ (y_move rfl rfl) ?_
                refine S_ 115 rfl rfl rfl _ (y_loadA 25 rfl rfl rfl Tryz.underlying157 rfl sz157) ?_
                refine S_ 116 rfl rfl rfl _ (y_call rfl rfl rfl cf124 (fun _ w hM => points_any _ _ _ G x0 w (owned_T (enc := strE) hM rfl (i := 18) rfl) (by omega) hg4 ((hC.n x0 (mem_at hc1)).below hM.below))) ?_
                refine S_ 28 rfl rfl rfl _ (y_assign rfl rfl) ?_
                refine S_go (fun _ _ h => h) ?_
                refine T_seq ?_
                refine T_region ?_
                refine S_ 117 rfl rfl rfl _ (y_move rfl rfl) ?_
                refine S_ 118 rfl rfl rfl _ (y_bin rfl rfl rfl (fun _ => b_gtr)) ?_
                refine S_go (fun _ _ h => h) ?_
                refine T_cond rfl (fun h118 => ?_) (fun h118 => ?_)
                · try simp only [decide_eq_true_eq, decide_eq_false_iff_not, Bool.or_eq_true, Bool.or_eq_false_iff, Bool.and_eq_true, Bool.and_eq_false_iff, Bool.not_eq_true', Bool.not_eq_false', Bool.not_eq_true, Bool.not_eq_false, Bool.not_true, Bool.not_false, Int.not_lt, Int.not_le, not_or, not_and, Classical.not_not] at h118
                  refine T_region ?_
                  refine S_ 119 rfl rfl rfl _ (y_move rfl rfl) ?_
                  refine S_ 120 rfl rfl rfl _ (y_fieldAddr rfl rfl fa157_0) ?_
                  refine S_ 121 rfl rfl rfl _ (y_load 25 rfl rfl rfl rfl Tryz.underlying9 rfl) ?_
                  refine S_ 122 rfl rfl rfl _ (y_move rfl rfl) ?_
                  refine S_ 123 rfl rfl rfl _ (y_build (zv := .agg #[.string ⟨#[]⟩, .int .i64 0]) (pl := [(0, 1), (1, 1)]) (out := [_, _]) rfl rfl Tryz.underlying83 z83 (by kernel_rfl) rfl) ?_
                  refine S_buildSlice 124 124 rfl rfl rfl rfl rfl Tryz.underlying75 inf83 rfl (by decide) (by decide) rfl rfl (by decide) rfl (_) rfl ?_
                  intro b124
                  obtain ⟨i125, hi125, hz125, hs125, hy125⟩ := info_parts inf83
                  refine S_append 125 23 124 rfl rfl rfl rfl rfl rfl rfl rfl Tryz.underlying75 hi125 hz125 hs125 hy125 rfl (by decide) (by decide) rfl ?_ ?_ ((O ++ [(⟨x0.id, ptsGo 0 G x0.fi.l⟩ : SSus)]).length) ((O ++ [(⟨x0.id, ptsGo 0 G x0.fi.l⟩ : SSus)]).flatMap SSus.enc) ?_ ?_ ?_
                  · (simp only [maxLen]; omega)
                  · omega
                  · simp
                  · simp [List.flatMap_append]; rfl
                  intro A125 c125
                  refine S_ 23 rfl rfl rfl _ (y_assign rfl rfl) ?_
                  refine S_go (fun _ _ h => h) ?_
                  refine T_region ?_
                  refine S_ 126 rfl rfl rfl _ (y_bin rfl rfl rfl (fun hg => b_add (by omega))) ?_
                  refine S_ 84 rfl rfl rfl _ (y_move rfl rfl) ?_
                  refine S_nil (nextK4 (kf := [(23, 23), (25, 28), (84, 126)]) (kl := [(23, 23), (25, 28), (84, 126)]) (k + 1) (O ++ [(⟨x0.id, ptsGo 0 G x0.fi.l⟩ : SSus)]) A125 c125 (by repeat (first | exact kf_nil | (apply kf_in; focus rfl) | (apply kf_out; focus rfl))) (by repeat (first | exact kl_nil | exact kl_rest (by assumption) rfl | (apply kl_in; focus rfl) | (apply kl_out; focus rfl))) ?_ ?_ ?_ ?_)
                  · omega
                  · exact ⟨by omega, by rw [← ho2, hc2, susL, if_neg (by rw [h113]; simp), if_pos h118]; simp, by rw [List.length_append, List.length_singleton]; omega⟩
                  · exact ⟨rfl, rfl, trivial⟩
                  · exact ⟨rfl, trivial⟩
                · try simp only [decide_eq_true_eq, decide_eq_false_iff_not, Bool.or_eq_true, Bool.or_eq_false_iff, Bool.and_eq_true, Bool.and_eq_false_iff, Bool.not_eq_true', Bool.not_eq_false', Bool.not_eq_true, Bool.not_eq_false, Bool.not_true, Bool.not_false, Int.not_lt, Int.not_le, not_or, not_and, Classical.not_not] at h118
                  refine T_skip_go (fun _ _ h => h) ?_
                  refine T_region ?_
                  refine S_ 126 rfl rfl rfl _ (y_bin rfl rfl rfl (fun hg => b_add (by omega))) ?_
                  refine S_ 84 rfl rfl rfl _ (y_move rfl rfl) ?_
                  refine S_nil (nextK4 (kf := [(23, 23), (25, 28), (84, 126)]) (kl := [(23, 23), (25, 28), (84, 126)]) (k + 1) O A23 c23 (by repeat (first | exact kf_nil | (apply kf_in; focus rfl) | (apply kf_out; focus rfl))) (by repeat (first | exact kl_nil | exact kl_rest (by assumption) rfl | (apply kl_in; focus rfl) | (apply kl_out; focus rfl))) ?_ ?_ ?_ ?_)
                  · omega
                  · exact ⟨by omega, by rw [← ho2, hc2, susL, if_neg (by rw [h113]; simp), if_neg (by omega)], by omega⟩
                  · exact ⟨rfl, rfl, trivial⟩
                  · exact ⟨rfl, trivial⟩
            · try simp only [decide_eq_true_eq, decide_eq_false_iff_not, Bool.or_eq_true, Bool.or_eq_false_iff, Bool.and_eq_true, Bool.and_eq_false_iff, Bool.not_eq_true', Bool.not_eq_false', Bool.not_eq_true, Bool.not_eq_false, Bool.not_true, Bool.not_false, Int.not_lt, Int.not_le, not_or, not_and, Classical.not_not] at h85
              refine T_exit_go (fun _ _ h => h) ?_
              refine T_seq ?_
              refine T_region ?_
              refine S_ 127 rfl rfl rfl _ (y_move rfl rfl) ?_
              refine S_callM 128 [(0, 23)] (X := Unit) rfl rfl rfl rfl rfl rfl rfl cf125 rfl (fun _ => .tuple #[]) (fun _ => True) (fun _ => [(0, .own 83 2 (.slice A23 O.length c23) O.length ((pdqL cfU O).flatMap SSus.enc))]) (fun _ => rfl) (fun _ => rfl) (fun K1 hK1 w1 hM => sortSU_any A23 O.length c23 O w1 rfl (by omega) hM) ?_
              intro u128 _
              refine S_go (fun _ _ h => h) ?_
              refine T_seq ?_
              refine T_region ?_
              refine S_ 129 rfl rfl rfl _ (y_move rfl rfl) ?_
              refine S_ 8 rfl rfl rfl _ (y_assign rfl rfl) ?_
              refine S_ 9 rfl rfl rfl _ (y_assign rfl rfl) ?_
              refine S_go (fun _ _ h => h) ?_
              refine T_ret (fun a w hF hM => hRb a w (post2 rfl rfl rfl (fun w hM => ?_) a w hF hM))
              have hG : G = ownFi l.l := by rw [← hg2, ht.end (by omega)]; exact (List.append_nil _).symm
              have hO : O = susL (verV s) (befO S s) (ownFi l.l) C.l := by rw [← hG, ← ho2, hCt.end (by omega)]; exact (List.append_nil _).symm
              have hR : susR l C S s = pdqL cfU O := by rw [susR, if_pos hno, susQ, hO]
              rw [hR, hno, pdqL_len swoU]
              exact ⟨A23, c23, rfl, hM.sat 23 _ rfl, hM.below⟩
set_option maxHeartbeats 6400000 in
theorem SuspectsOf_any (l : Sl Flt) (C : Sl SCom) (A : Option Addr) (q c : Nat) (S : List (List UInt8)) (s : List UInt8) (w : World) (hl : FltsOk w l) (hC : ComsOk w C) (hS : SlT strE 1 w A q S) (hno : susNo l C S s = 0) :
    Calls Tryz.prog 47 #[.slice l.A l.q l.c, .slice C.A C.q C.c, .slice A q c, str s] w fun e w' => ∃ A' c', e = .returned (.slice A' (susQ l C S s).length c') ∧ w'.ownsRow w.heap.size 83 2 (.slice A' (susQ l C S s).length c') (susQ l C S s).length ((susQ l C S s).flatMap SSus.enc) ∧ Below w.heap.size w w' := by
  have ht := hl.ok.t
  have hlen := ht.len
  have hCt := hC.ok.t
  have hClen := hCt.len
  have hlenS := hS.len
  obtain ⟨hz1, hz2, hz3, hpj⟩ := sus_zero hno
  obtain ⟨hf1, hf2⟩ := faults_U hz1
  obtain ⟨hk1, hk2⟩ := coms_U hz2
  obtain ⟨hSl, hSr⟩ := all_ok hz3
  refine enter_args (args := [.slice l.A l.q l.c, .slice C.A C.q C.c, .slice A q c, str s]) (F := _) Tryz.func47 rfl Tryz.ntmps47 rfl rfl ?_
  intro Rb hRb hRn
  refine T_seq ?_
  refine T_region ?_
  refine S_nilSlice 8 (e := 83) (size := 2) ?_
  refine S_ 8 rfl rfl rfl _ (y_assign rfl rfl) ?_
  refine S_go (fun _ _ h => h) ?_
  refine T_seq ?_
  refine T_region ?_
  refine S_ 30 rfl rfl rfl _ (y_move rfl rfl) ?_
  refine S_callOwn 31 31 rfl rfl rfl rfl rfl rfl rfl cf25 (fun A c => .tuple #[pvV (parE s).1 A c, .int .i64 (parE s).2]) 9 1 ((parE s).1.pre.length) ((parE s).1.pre.flatMap strE) (fun w hM => VersionOf_any s w) ?_
  intro A31 c31
  refine S_ 29 rfl rfl rfl _ (y_move rfl rfl) ?_
  refine S_ 32 rfl rfl rfl _ (y_extract rfl rfl rfl) ?_
  refine S_ 33 rfl rfl rfl _ (y_extract rfl rfl rfl) ?_
  refine S_alloc 9 9 rfl rfl rfl rfl z42 ?_
  intro b9
  refine S_store 9 rfl rfl rfl rfl rfl rfl sz42 rfl rfl ?_
  refine S_ 10 rfl rfl rfl _ (y_assign rfl rfl) ?_
  refine S_go (fun _ _ h => h) ?_
  refine T_seq ?_
  refine T_region ?_
  refine S_ 11 rfl rfl rfl _ (y_assign rfl rfl) ?_
  refine S_go (fun _ _ h => h) ?_
  refine T_seq ?_
  refine T_seq ?_
  refine T_region ?_
  refine S_ 34 rfl rfl rfl _ (y_move rfl rfl) ?_
  refine S_ 35 rfl rfl rfl _ (y_len_slice rfl rfl Tryz.underlying40) ?_
  refine S_ 36 rfl rfl rfl _ (y_move rfl rfl) ?_
  refine S_go (fun _ _ h => h) ?_
  refine T_block ?_
  refine T_loopK2 (kf := [(11, 11), (13, 15), (36, 67)]) (kl := [(11, 11), (13, 15), (36, 67)]) (fun (a : Nat) (o : Option (List UInt8)) => [(36, true, .int .i64 (a : Int)), (11, true, str (o.getD []))]) (fun (a : Nat) (o : Option (List UInt8)) => []) (fun (a : Nat) (o : Option (List UInt8)) => a ≤ q ∧ bestF (fun t => befP (verV s) (verV t)) (fun x y => decide (cmpV (verV y) (verV x) < 0)) (S.drop a) o = befO S s ∧ ∀ y, o = some y → y ∈ S) (fun (a : Nat) (o : Option (List UInt8)) => q - a) 0 none (by repeat (first | exact kf_nil | (apply kf_in; focus rfl) | (apply kf_out; focus rfl))) (by repeat (first | exact kl_nil | exact kl_rest (by assumption) rfl | (apply kl_in; focus rfl) | (apply kl_out; focus rfl))) ?_ ?_ ?_ ?_
  · exact ⟨by omega, rfl, fun y h => by cases h⟩
  · exact ⟨rfl, rfl, trivial⟩
  · exact trivial
  rintro a o ⟨ha1, ha2, ha3⟩
  refine T_seq ?_
  refine T_region ?_
  refine S_ 37 rfl rfl rfl _ (y_bin rfl rfl rfl (fun _ => b_lss)) ?_
  refine S_go (fun _ _ h => h) ?_
  refine T_seq ?_
  refine T_cond rfl (fun h37 => ?_) (fun h37 => ?_)
  · try simp only [decide_eq_true_eq, decide_eq_false_iff_not, Bool.or_eq_true, Bool.or_eq_false_iff, Bool.and_eq_true, Bool.and_eq_false_iff, Bool.not_eq_true', Bool.not_eq_false', Bool.not_eq_true, Bool.not_eq_false, Bool.not_true, Bool.not_false, Int.not_lt, Int.not_le, not_or, not_and, Classical.not_not] at h37
    obtain ⟨x, hs1, hs2⟩ := hS.at (i := a) (by omega)
    have hxr := hSr x (mem_at hs1)
    have hor : ∀ y, o = some y → relOk y = true := fun y hy => hSr y (ha3 y hy)
    refine T_skip_go (fun _ _ h => h) ?_
    refine T_seq ?_
    refine T_block ?_
    refine T_seq ?_
    refine T_region ?_
    refine S_ 38 rfl rfl rfl _ (y_indexAddr rfl rfl rfl Tryz.underlying40 sz9 (fun hg => hS.isSome (by omega)) (fun _ => by omega)) ?_
    refine S_ 39 rfl rfl rfl _ (y_loadT1 (val := (fun l : List UInt8 => str l)) rfl rfl hS (fun _ => hs1) Tryz.underlying9 rfl) ?_
    refine S_ 13 rfl rfl rfl _ (y_assign rfl rfl) ?_
    refine S_go (fun _ _ h => h) ?_
    refine T_seq ?_
    refine T_region ?_
    refine S_ 41 rfl rfl rfl _ (y_move rfl rfl) ?_
    refine S_callOwn 42 42 rfl rfl rfl rfl rfl rfl rfl cf25 (fun A c => .tuple #[pvV (parE x).1 A c, .int .i64 (parE x).2]) 9 1 ((parE x).1.pre.length) ((parE x).1.pre.flatMap strE) (fun w hM => VersionOf_any x w) ?_
    intro A42 c42
    refine S_ 40 rfl rfl rfl _ (y_move rfl rfl) ?_
    refine S_ 43 rfl rfl rfl _ (y_extract rfl rfl rfl) ?_
    refine S_ 44 rfl rfl rfl _ (y_extract rfl rfl rfl) ?_
    refine S_alloc 14 14 rfl rfl rfl rfl z42 ?_
    intro b14
    refine S_store 14 rfl rfl rfl rfl rfl rfl sz42 rfl rfl ?_
    refine S_ 15 rfl rfl rfl _ (y_assign rfl rfl) ?_
    refine S_go (fun _ _ h => h) ?_
    refine T_seq ?_
    refine T_region ?_
    refine S_ 45 rfl rfl rfl _ (y_fieldAddr rfl rfl fa42_0) ?_
    refine S_ 46 rfl rfl rfl _ (y_load 14 rfl rfl rfl rfl Tryz.underlying9 rfl) ?_
    refine S_ 47 rfl rfl rfl _ (y_fieldAddr rfl rfl fa42_0) ?_
    refine S_ 48 rfl rfl rfl _ (y_load 9 rfl rfl rfl rfl Tryz.underlying9 rfl) ?_
    refine S_ 49 rfl rfl rfl _ (y_bin rfl rfl rfl (fun _ => b_eqls)) ?_
    refine S_ 50 rfl rfl rfl _ (y_move rfl rfl) ?_
    refine Sg_ 51 rfl rfl rfl rfl rfl rfl _ (y_loadA 14 rfl rfl rfl Tryz.underlying42 rfl sz42) ?_
    refine Sg_ 52 rfl rfl rfl rfl rfl rfl _ (y_loadA 9 rfl rfl rfl Tryz.underlying42 rfl sz42) ?_
    refine Sg_ 53 rfl rfl rfl rfl rfl rfl _ (y_call rfl rfl rfl cf23 (fun _ w hM => VersionsCompare_any (svr (parE x).1 A42 c42) (svr (parE s).1 A31 c31) w (svr_ok (parE_bound _) (owned_ok (enc := strE) hM rfl (i := 42) rfl)) (svr_ok (parE_bound _) (owned_ok (enc := strE) hM rfl (i := 31) rfl)))) ?_
    refine Sg_ 54 rfl rfl rfl rfl rfl rfl _ (y_bin rfl rfl rfl (fun _ => b_lss)) ?_
    refine S_ 55 rfl rfl rfl _ (y_and rfl rfl rfl) ?_
    refine S_ 56 rfl rfl rfl _ (y_move rfl rfl) ?_
    refine Sg_ 57 rfl rfl rfl rfl rfl rfl _ (y_move rfl rfl) ?_
    refine Sg_ 58 rfl rfl rfl rfl rfl rfl _ (y_bin rfl rfl rfl (fun _ => b_eqls)) ?_
    refine Sg_ 59 rfl rfl rfl rfl rfl rfl _ (y_move rfl rfl) ?_
    refine Sg_ 60 rfl rfl rfl rfl rfl rfl _ (y_move rfl rfl) ?_
    refine Sg_ 61 rfl rfl rfl rfl rfl rfl _ (y_move rfl rfl) ?_
    refine Sg_ 62 rfl rfl rfl rfl rfl rfl _ (y_call rfl rfl rfl cf120 (fun _ w _ => releasesCompare_any x (o.getD []) w)) ?_
    refine Sg_ 63 rfl rfl rfl rfl rfl rfl _ (y_bin rfl rfl rfl (fun _ => b_gtr)) ?_
    refine Sg_ 64 rfl rfl rfl rfl rfl rfl _ (y_or rfl rfl rfl) ?_
    refine S_ 65 rfl rfl rfl _ (y_as (v' := .bool (befP (verV s) (verV x) && beats (fun x y => decide (cmpV (verV y) (verV x) < 0)) x o)) (by exact congrArg Value.bool (bef_step hxr hpj hor)) (y_and rfl rfl rfl)) ?_
    refine S_go (fun _ _ h => h) ?_
    refine T_cond rfl (fun h65 => ?_) (fun h65 => ?_)
    · skip
      refine T_region ?_
      refine S_ 66 rfl rfl rfl _ (y_move rfl rfl) ?_
      refine S_ 11 rfl rfl rfl _ (y_assign rfl rfl) ?_
      refine S_go (fun _ _ h => h) ?_
      refine T_region ?_
      refine S_ 67 rfl rfl rfl _ (y_bin rfl rfl rfl (fun hg => b_add (by omega))) ?_
      refine S_ 36 rfl rfl rfl _ (y_move rfl rfl) ?_
      refine S_nil (nextK2 (kf := [(11, 11), (13, 15), (36, 67)]) (kl := [(11, 11), (13, 15), (36, 67)]) (a + 1) (some x) (by repeat (first | exact kf_nil | (apply kf_in; focus rfl) | (apply kf_out; focus rfl))) (by repeat (first | exact kl_nil | exact kl_rest (by assumption) rfl | (apply kl_in; focus rfl) | (apply kl_out; focus rfl))) ?_ ?_ ?_ ?_)
      · omega
      · exact ⟨by omega, by rw [← ha2, hs2, bestF, if_pos h65], fun y h => by rw [← Option.some.inj h]; exact mem_at hs1⟩
      · exact ⟨rfl, rfl, trivial⟩
      · exact trivial
    · skip
      refine T_skip_go (fun _ _ h => h) ?_
      refine T_region ?_
      refine S_ 67 rfl rfl rfl _ (y_bin rfl rfl rfl (fun hg => b_add (by omega))) ?_
      refine S_ 36 rfl rfl rfl _ (y_move rfl rfl) ?_
      refine S_nil (nextK2 (kf := [(11, 11), (13, 15), (36, 67)]) (kl := [(11, 11), (13, 15), (36, 67)]) (a + 1) o (by repeat (first | exact kf_nil | (apply kf_in; focus rfl) | (apply kf_out; focus rfl))) (by repeat (first | exact kl_nil | exact kl_rest (by assumption) rfl | (apply kl_in; focus rfl) | (apply kl_out; focus rfl))) ?_ ?_ ?_ ?_)
      · omega
      · exact ⟨by omega, by rw [← ha2, hs2, bestF, if_neg (by rw [h65]; simp)], ha3⟩
      · exact ⟨rfl, rfl, trivial⟩
      · exact trivial
  · try simp only [decide_eq_true_eq, decide_eq_false_iff_not, Bool.or_eq_true, Bool.or_eq_false_iff, Bool.and_eq_true, Bool.and_eq_false_iff, Bool.not_eq_true', Bool.not_eq_false', Bool.not_eq_true, Bool.not_eq_false, Bool.not_true, Bool.not_false, Int.not_lt, Int.not_le, not_or, not_and, Classical.not_not] at h37
    have hbo : o = befO S s := by rw [← ha2, hS.end (by omega)]; rfl
    have hor : ∀ y, o = some y → relOk y = true := fun y hy => hSr y (ha3 y hy)
    refine T_exit_go (fun _ _ h => h) ?_
    refine T_seq ?_
    refine T_region ?_
    refine S_nilSlice 16 (e := 9) (size := 1) ?_
    refine S_ 16 rfl rfl rfl _ (y_assign rfl rfl) ?_
    refine S_go (fun _ _ h => h) ?_
    refine T_seq ?_
    refine T_seq ?_
    refine T_region ?_
    refine S_ 68 rfl rfl rfl _ (y_move rfl rfl) ?_
    refine S_ 69 rfl rfl rfl _ (y_len_slice rfl rfl Tryz.underlying25) ?_
    refine S_ 70 rfl rfl rfl _ (y_move rfl rfl) ?_
    refine S_go (fun _ _ h => h) ?_
    refine T_block ?_
    refine T_loopK4 (kf := [(16, 16), (18, 18), (20, 20), (70, 89)]) (kl := [(16, 16), (18, 18), (20, 20), (70, 89)]) (fun (i : Nat) (G : List (List UInt8)) (A16 : Option Addr) (c16 : Nat) => [(70, true, .int .i64 (i : Int)), (16, true, .slice A16 G.length c16)]) (fun (i : Nat) (G : List (List UInt8)) (A16 : Option Addr) (c16 : Nat) => [(16, .own 9 1 (.slice A16 G.length c16) G.length (G.flatMap strE))]) (fun (i : Nat) (G : List (List UInt8)) (A16 : Option Addr) (c16 : Nat) => i ≤ l.q ∧ G ++ ownFi (l.l.drop i) = ownFi l.l ∧ G.length ≤ 200 * i ∧ ∀ f ∈ G, f.length ≤ 4611686018427387904) (fun (i : Nat) (G : List (List UInt8)) (A16 : Option Addr) (c16 : Nat) => l.q - i) 0 [] none 0 (by repeat (first | exact kf_nil | (apply kf_in; focus rfl) | (apply kf_out; focus rfl))) (by repeat (first | exact kl_nil | exact kl_rest (by assumption) rfl | (apply kl_in; focus rfl) | (apply kl_out; focus rfl))) ?_ ?_ ?_ ?_
    · exact ⟨by omega, rfl, by simp, fun f h => by cases h⟩
    · exact ⟨rfl, rfl, trivial⟩
    · exact ⟨rfl, trivial⟩
    rintro i G A16 c16 ⟨hg1, hg2, hg3, hg4⟩
    refine T_seq ?_
    refine T_region ?_
    refine S_ 71 rfl rfl rfl _ (y_bin rfl rfl rfl (fun _ => b_lss)) ?_
    refine S_go (fun _ _ h => h) ?_
    refine T_seq ?_
    refine T_cond rfl (fun h71 => ?_) (fun h71 => ?_)
    · try simp only [decide_eq_true_eq, decide_eq_false_iff_not, Bool.or_eq_true, Bool.or_eq_false_iff, Bool.and_eq_true, Bool.and_eq_false_iff, Bool.not_eq_true', Bool.not_eq_false', Bool.not_eq_true, Bool.not_eq_false, Bool.not_true, Bool.not_false, Int.not_lt, Int.not_le, not_or, not_and, Classical.not_not] at h71
      obtain ⟨y, hx1, hx2⟩ := ht.at (i := i) (by omega)
      have hyo := hl.n y (mem_at hx1)
      have hft := hyo.fr.ok.t
      have hfl := hft.len
      have hfq := hf2 y (mem_at hx1)
      refine T_skip_go (fun _ _ h => h) ?_
      refine T_seq ?_
      refine T_block ?_
      refine T_seq ?_
      refine T_region ?_
      refine S_ 72 rfl rfl rfl _ (y_indexAddr rfl rfl rfl Tryz.underlying25 sz114 (fun hg => ht.isSome (by omega)) (fun _ => by omega)) ?_
      refine S_ 73 rfl rfl rfl _ (y_loadT rfl rfl ht (fun _ => rfl) (fun _ => hx1) Tryz.underlying114 rfl sz114) ?_
      refine S_alloc 18 18 rfl rfl rfl rfl z114 ?_
      intro b18
      refine S_store 18 rfl rfl rfl rfl rfl rfl sz114 rfl rfl ?_
      refine S_go (fun _ _ h => h) ?_
      refine T_seq ?_
      refine T_region ?_
      refine S_ 74 rfl rfl rfl _ (y_fieldAddr rfl rfl fa114_2) ?_
      refine S_ 75 rfl rfl rfl _ (y_load 18 rfl rfl rfl rfl Tryz.underlying112 rfl) ?_
      refine S_ 76 rfl rfl rfl _ (y_len_slice rfl rfl Tryz.underlying112) ?_
      refine S_ 77 rfl rfl rfl _ (y_move rfl rfl) ?_
      refine S_go (fun _ _ h => h) ?_
      refine T_block ?_
      refine T_loopK4 (kf := [(16, 16), (20, 20), (77, 88)]) (kl := [(16, 16), (20, 20), (77, 88)]) (fun (j : Nat) (G : List (List UInt8)) (A16 : Option Addr) (c16 : Nat) => [(77, true, .int .i64 (j : Int)), (16, true, .slice A16 G.length c16)]) (fun (j : Nat) (G : List (List UInt8)) (A16 : Option Addr) (c16 : Nat) => [(16, .own 9 1 (.slice A16 G.length c16) G.length (G.flatMap strE))]) (fun (j : Nat) (G : List (List UInt8)) (A16 : Option Addr) (c16 : Nat) => j ≤ y.fr.q ∧ G ++ (frFi (y.fr.l.drop j) ++ ownFi (l.l.drop (i + 1))) = ownFi l.l ∧ G.length ≤ 200 * i + j ∧ ∀ f ∈ G, f.length ≤ 4611686018427387904) (fun (j : Nat) (G : List (List UInt8)) (A16 : Option Addr) (c16 : Nat) => y.fr.q - j) 0 G A16 c16 (by repeat (first | exact kf_nil | (apply kf_in; focus rfl) | (apply kf_out; focus rfl))) (by repeat (first | exact kl_nil | exact kl_rest (by assumption) rfl | (apply kl_in; focus rfl) | (apply kl_out; focus rfl))) ?_ ?_ ?_ ?_
      · exact ⟨by omega, by rw [← hg2, hx2]; rfl, by omega, hg4⟩
      · exact ⟨rfl, rfl, trivial⟩
      · exact ⟨rfl, trivial⟩
      rintro j G A16 c16 ⟨hj1, hj2, hj3, hj4⟩
      refine T_seq ?_
      refine T_region ?_
      refine S_ 78 rfl rfl rfl _ (y_bin rfl rfl rfl (fun _ => b_lss)) ?_
      refine S_go (fun _ _ h => h) ?_
      refine T_seq ?_
      refine T_cond rfl (fun h78 => ?_) (fun h78 => ?_)
      · try simp only [decide_eq_true_eq, decide_eq_false_iff_not, Bool.or_eq_true, Bool.or_eq_false_iff, Bool.and_eq_true, Bool.and_eq_false_iff, Bool.not_eq_true', Bool.not_eq_false', Bool.not_eq_true, Bool.not_eq_false, Bool.not_true, Bool.not_false, Int.not_lt, Int.not_le, not_or, not_and, Classical.not_not] at h78
        obtain ⟨x, hf1x, hf2x⟩ := hft.at (i := j) (by omega)
        have hxn := (hyo.fr.n x (mem_at hf1x)).2.2
        refine T_skip_go (fun _ _ h => h) ?_
        refine T_seq ?_
        refine T_block ?_
        refine T_seq ?_
        refine T_region ?_
        refine S_ 79 rfl rfl rfl _ (y_indexAddr rfl rfl rfl Tryz.underlying112 sz119 (fun hg => hft.isSome (by omega)) (fun _ => by omega)) ?_
        refine S_ 80 rfl rfl rfl _ (y_loadT rfl rfl hft (fun _ => rfl) (fun _ => hf1x) Tryz.underlying119 rfl sz119) ?_
        refine S_alloc 20 20 rfl rfl rfl rfl z119 ?_
        intro b20
        refine S_store 20 rfl rfl rfl rfl rfl rfl sz119 rfl rfl ?_
        refine S_go (fun _ _ h => h) ?_
        refine T_seq ?_
        refine T_region ?_
        refine S_ 81 rfl rfl rfl _ (y_fieldAddr rfl rfl fa119_5) ?_
        refine S_ 82 rfl rfl rfl _ (y_load 20 rfl rfl rfl rfl Tryz.underlying4 rfl) ?_
        refine S_go (fun _ _ h => h) ?_
        refine T_cond rfl (fun h82 => ?_) (fun h82 => ?_)
        · skip
          refine T_region ?_
          refine S_ 83 rfl rfl rfl _ (y_move rfl rfl) ?_
          refine S_ 84 rfl rfl rfl _ (y_fieldAddr rfl rfl fa119_2) ?_
          refine S_ 85 rfl rfl rfl _ (y_load 20 rfl rfl rfl rfl Tryz.underlying9 rfl) ?_
          refine S_buildSlice 86 86 rfl rfl rfl rfl rfl Tryz.underlying40 inf9 rfl (by decide) (by decide) rfl rfl (by decide) rfl (_) rfl ?_
          intro b86
          obtain ⟨i87, hi87, hz87, hs87, hy87⟩ := info_parts inf9
          refine S_append 87 16 86 rfl rfl rfl rfl rfl rfl rfl rfl Tryz.underlying40 hi87 hz87 hs87 hy87 rfl (by decide) (by decide) rfl ?_ ?_ ((G ++ [x.fi]).length) ((G ++ [x.fi]).flatMap strE) ?_ ?_ ?_
          · (simp only [maxLen]; omega)
          · omega
          · simp
          · simp [List.flatMap_append]; rfl
          intro A87 c87
          refine S_ 16 rfl rfl rfl _ (y_assign rfl rfl) ?_
          refine S_go (fun _ _ h => h) ?_
          refine T_region ?_
          refine S_ 88 rfl rfl rfl _ (y_bin rfl rfl rfl (fun hg => b_add (by omega))) ?_
          refine S_ 77 rfl rfl rfl _ (y_move rfl rfl) ?_
          refine S_nil (nextK4 (kf := [(16, 16), (20, 20), (77, 88)]) (kl := [(16, 16), (20, 20), (77, 88)]) (j + 1) (G ++ [x.fi]) A87 c87 (by repeat (first | exact kf_nil | (apply kf_in; focus rfl) | (apply kf_out; focus rfl))) (by repeat (first | exact kl_nil | exact kl_rest (by assumption) rfl | (apply kl_in; focus rfl) | (apply kl_out; focus rfl))) ?_ ?_ ?_ ?_)
          · omega
          · exact ⟨by omega, by rw [← hj2, hf2x, frFi, if_pos h82]; simp, by rw [List.length_append, List.length_singleton]; omega, fun f hf => by rcases List.mem_append.1 hf with h | h; exact hj4 f h; rw [List.mem_singleton.1 h]; exact hxn⟩
          · exact ⟨rfl, rfl, trivial⟩
          · exact ⟨rfl, trivial⟩
        · skip
          refine T_skip_go (fun _ _ h => h) ?_
          refine T_region ?_
          refine S_ 88 rfl rfl rfl _ (y_bin rfl rfl rfl (fun hg => b_add (by omega))) ?_
          refine S_ 77 rfl rfl rfl _ (y_move rfl rfl) ?_
          refine S_nil (nextK4 (kf := [(16, 16), (20, 20), (77, 88)]) (kl := [(16, 16), (20, 20), (77, 88)]) (j + 1) G A16 c16 (by repeat (first | exact kf_nil | (apply kf_in; focus rfl) | (apply kf_out; focus rfl))) (by repeat (first | exact kl_nil | exact kl_rest (by assumption) rfl | (apply kl_in; focus rfl) | (apply kl_out; focus rfl))) ?_ ?_ ?_ ?_)
          · omega
          · exact ⟨by omega, by rw [← hj2, hf2x, frFi, if_neg (by rw [h82]; simp)], by omega, hj4⟩
          · exact ⟨rfl, rfl, trivial⟩
          · exact ⟨rfl, trivial⟩
      · try simp only [decide_eq_true_eq, decide_eq_false_iff_not, Bool.or_eq_true, Bool.or_eq_false_iff, Bool.and_eq_true, Bool.and_eq_false_iff, Bool.not_eq_true', Bool.not_eq_false', Bool.not_eq_true, Bool.not_eq_false, Bool.not_true, Bool.not_false, Int.not_lt, Int.not_le, not_or, not_and, Classical.not_not] at h78
        refine T_exit_go (fun _ _ h => h) ?_
        refine T_region ?_
        refine S_ 89 rfl rfl rfl _ (y_bin rfl rfl rfl (fun hg => b_add (by omega))) ?_
        refine S_ 70 rfl rfl rfl _ (y_move rfl rfl) ?_
        refine S_nil (nextK4 (kf := [(16, 16), (18, 18), (20, 20), (70, 89)]) (kl := [(16, 16), (18, 18), (20, 20), (70, 89)]) (i + 1) G A16 c16 (by repeat (first | exact kf_nil | (apply kf_in; focus rfl) | (apply kf_out; focus rfl))) (by repeat (first | exact kl_nil | exact kl_rest (by assumption) rfl | (apply kl_in; focus rfl) | (apply kl_out; focus rfl))) ?_ ?_ ?_ ?_)
        · omega
        · exact ⟨by omega, by rw [← hj2, hft.end (by omega)]; rfl, by omega, hj4⟩
        · exact ⟨rfl, rfl, trivial⟩
        · exact ⟨rfl, trivial⟩
    · try simp only [decide_eq_true_eq, decide_eq_false_iff_not, Bool.or_eq_true, Bool.or_eq_false_iff, Bool.and_eq_true, Bool.and_eq_false_iff, Bool.not_eq_true', Bool.not_eq_false', Bool.not_eq_true, Bool.not_eq_false, Bool.not_true, Bool.not_false, Int.not_lt, Int.not_le, not_or, not_and, Classical.not_not] at h71
      refine T_exit_go (fun _ _ h => h) ?_
      refine T_seq ?_
      refine T_region ?_
      refine S_nilSlice 21 (e := 83) (size := 2) ?_
      refine S_ 21 rfl rfl rfl _ (y_assign rfl rfl) ?_
      refine S_go (fun _ _ h => h) ?_
      refine T_seq ?_
      refine T_seq ?_
      refine T_region ?_
      refine S_ 90 rfl rfl rfl _ (y_move rfl rfl) ?_
      refine S_ 91 rfl rfl rfl _ (y_len_slice rfl rfl Tryz.underlying74) ?_
      refine S_ 92 rfl rfl rfl _ (y_move rfl rfl) ?_
      refine S_go (fun _ _ h => h) ?_
      refine T_block ?_
      refine T_loopK4 (kf := [(21, 21), (23, 28), (92, 155)]) (kl := [(21, 21), (23, 28), (92, 155)]) (fun (k : Nat) (O : List SSus) (A21 : Option Addr) (c21 : Nat) => [(92, true, .int .i64 (k : Int)), (21, true, .slice A21 O.length c21)]) (fun (k : Nat) (O : List SSus) (A21 : Option Addr) (c21 : Nat) => [(21, .own 83 2 (.slice A21 O.length c21) O.length (O.flatMap SSus.enc))]) (fun (k : Nat) (O : List SSus) (A21 : Option Addr) (c21 : Nat) => k ≤ C.q ∧ O ++ susL (verV s) (befO S s) G (C.l.drop k) = susL (verV s) (befO S s) G C.l ∧ O.length ≤ k) (fun (k : Nat) (O : List SSus) (A21 : Option Addr) (c21 : Nat) => C.q - k) 0 [] none 0 (by repeat (first | exact kf_nil | (apply kf_in; focus rfl) | (apply kf_out; focus rfl))) (by repeat (first | exact kl_nil | exact kl_rest (by assumption) rfl | (apply kl_in; focus rfl) | (apply kl_out; focus rfl))) ?_ ?_ ?_ ?_
      · exact ⟨by omega, rfl, Nat.le_refl _⟩
      · exact ⟨rfl, rfl, trivial⟩
      · exact ⟨rfl, trivial⟩
      rintro k O A21 c21 ⟨ho1, ho2, ho3⟩
      refine T_seq ?_
      refine T_region ?_
      refine S_ 93 rfl rfl rfl _ (y_bin rfl rfl rfl (fun _ => b_lss)) ?_
      refine S_go (fun _ _ h => h) ?_
      refine T_seq ?_
      refine T_cond rfl (fun h93 => ?_) (fun h93 => ?_)
      · try simp only [decide_eq_true_eq, decide_eq_false_iff_not, Bool.or_eq_true, Bool.or_eq_false_iff, Bool.and_eq_true, Bool.and_eq_false_iff, Bool.not_eq_true', Bool.not_eq_false', Bool.not_eq_true, Bool.not_eq_false, Bool.not_true, Bool.not_false, Int.not_lt, Int.not_le, not_or, not_and, Classical.not_not] at h93
        obtain ⟨x0, hc1, hc2⟩ := hCt.at (i := k) (by omega)
        have hxr := hk2 x0 (mem_at hc1)
        refine T_skip_go (fun _ _ h => h) ?_
        refine T_seq ?_
        refine T_block ?_
        refine T_seq ?_
        refine T_region ?_
        refine S_ 94 rfl rfl rfl _ (y_indexAddr rfl rfl rfl Tryz.underlying74 sz157 (fun hg => hCt.isSome (by omega)) (fun _ => by omega)) ?_
        refine S_ 95 rfl rfl rfl _ (y_loadT rfl rfl hCt (fun _ => rfl) (fun _ => hc1) Tryz.underlying157 rfl sz157) ?_
        refine S_alloc 23 23 rfl rfl rfl rfl z157 ?_
        intro b23
        refine S_store 23 rfl rfl rfl rfl rfl rfl sz157 rfl rfl ?_
        refine S_go (fun _ _ h => h) ?_
        refine T_seq ?_
        refine T_region ?_
        refine S_ 97 rfl rfl rfl _ (y_fieldAddr rfl rfl fa157_2) ?_
        refine S_ 98 rfl rfl rfl _ (y_load 23 rfl rfl rfl rfl Tryz.underlying9 rfl) ?_
        refine S_callOwn 99 99 rfl rfl rfl rfl rfl rfl rfl cf25 (fun A c => .tuple #[pvV (parE x0.rel).1 A c, .int .i64 (parE x0.rel).2]) 9 1 ((parE x0.rel).1.pre.length) ((parE x0.rel).1.pre.flatMap strE) (fun w hM => VersionOf_any x0.rel w) ?_
        intro A99 c99
        refine S_ 96 rfl rfl rfl _ (y_move rfl rfl) ?_
        refine S_ 100 rfl rfl rfl _ (y_extract rfl rfl rfl) ?_
        refine S_ 101 rfl rfl rfl _ (y_extract rfl rfl rfl) ?_
        refine S_alloc 24 24 rfl rfl rfl rfl z42 ?_
        intro b24
        refine S_store 24 rfl rfl rfl rfl rfl rfl sz42 rfl rfl ?_
        refine S_ 25 rfl rfl rfl _ (y_assign rfl rfl) ?_
        refine S_go (fun _ _ h => h) ?_
        refine T_seq ?_
        refine T_seq ?_
        refine T_region ?_
        refine S_ 102 rfl rfl rfl _ (y_fieldAddr rfl rfl fa42_0) ?_
        refine S_ 103 rfl rfl rfl _ (y_load 24 rfl rfl rfl rfl Tryz.underlying9 rfl) ?_
        refine S_ 104 rfl rfl rfl _ (y_fieldAddr rfl rfl fa42_0) ?_
        refine S_ 105 rfl rfl rfl _ (y_load 9 rfl rfl rfl rfl Tryz.underlying9 rfl) ?_
        refine S_ 106 rfl rfl rfl _ (y_bin rfl rfl rfl (fun _ => b_neqs)) ?_
        refine S_ 107 rfl rfl rfl _ (y_move rfl rfl) ?_
        refine Sg_ 108 rfl rfl rfl rfl rfl rfl _ (y_loadA 24 rfl rfl rfl Tryz.underlying42 rfl sz42) ?_
        refine Sg_ 109 rfl rfl rfl rfl rfl rfl _ (y_loadA 9 rfl rfl rfl Tryz.underlying42 rfl sz42) ?_
        refine Sg_ 110 rfl rfl rfl rfl rfl rfl _ (y_call rfl rfl rfl cf23 (fun _ w hM => VersionsCompare_any (svr (parE x0.rel).1 A99 c99) (svr (parE s).1 A31 c31) w (svr_ok (parE_bound _) (owned_ok (enc := strE) hM rfl (i := 99) rfl)) (svr_ok (parE_bound _) (owned_ok (enc := strE) hM rfl (i := 31) rfl)))) ?_
        refine Sg_ 111 rfl rfl rfl rfl rfl rfl _ (y_bin rfl rfl rfl (fun _ => b_gtr)) ?_
        refine S_ 112 rfl rfl rfl _ (y_or rfl rfl rfl) ?_
        refine S_ 113 rfl rfl rfl _ (y_move rfl rfl) ?_
        refine Sg_ 114 rfl rfl rfl rfl rfl rfl _ (y_move rfl rfl) ?_
        refine Sg_ 115 rfl rfl rfl rfl rfl rfl _ (y_bin rfl rfl rfl (fun _ => b_neqs)) ?_
        refine Sg_ 116 rfl rfl rfl rfl rfl rfl _ (y_move rfl rfl) ?_
        refine Sg_ 117 rfl rfl rfl rfl rfl rfl _ (y_fieldAddr rfl rfl fa157_2) ?_
        refine Sg_ 118 rfl rfl rfl rfl rfl rfl _ (y_load 23 rfl rfl rfl rfl Tryz.underlying9 rfl) ?_
        refine Sg_ 119 rfl rfl rfl rfl rfl rfl _ (y_move rfl rfl) ?_
        refine Sg_ 120 rfl rfl rfl rfl rfl rfl _ (y_call rfl rfl rfl cf120 (fun _ w _ => releasesCompare_any x0.rel (o.getD []) w)) ?_
        refine Sg_ 121 rfl rfl rfl rfl rfl rfl _ (y_bin rfl rfl rfl (fun _ => b_leq)) ?_
        refine Sg_ 122 rfl rfl rfl rfl rfl rfl _ (y_and rfl rfl rfl) ?_
        refine S_ 123 rfl rfl rfl _ (y_as (v' := .bool (susSkip (verV s) (befO S s) (verV x0.rel))) (by exact congrArg Value.bool (by rw [svr_says, svr_says, parE_g hpj, parE_g hxr, ← hbo, sus_r hxr hor]; rfl)) (y_or rfl rfl rfl)) ?_
        refine S_go (fun _ _ h => h) ?_
        refine T_cond rfl (fun h123 => ?_) (fun h123 => ?_)
        · skip
          refine T_exit_go (fun _ _ h => h) ?_
          refine T_region ?_
          refine S_ 155 rfl rfl rfl _ (y_bin rfl rfl rfl (fun hg => b_add (by omega))) ?_
          refine S_ 92 rfl rfl rfl _ (y_move rfl rfl) ?_
          refine S_nil (nextK4 (kf := [(21, 21), (23, 28), (92, 155)]) (kl := [(21, 21), (23, 28), (92, 155)]) (k + 1) O A21 c21 (by repeat (first | exact kf_nil | (apply kf_in; focus rfl) | (apply kf_out; focus rfl))) (by repeat (first | exact kl_nil | exact kl_rest (by assumption) rfl | (apply kl_in; focus rfl) | (apply kl_out; focus rfl))) ?_ ?_ ?_ ?_)
          · omega
          · exact ⟨by omega, by rw [← ho2, hc2, susL, if_pos h123], by omega⟩
          · exact ⟨rfl, rfl, trivial⟩
          · exact ⟨rfl, trivial⟩
        · skip
          refine T_skip_go (fun _ _ h => h) ?_
          refine T_seq ?_
          refine T_region ?_
          refine S_ 26 rfl rfl rfl _ (y_assign rfl rfl) ?_
          refine S_go (fun _ _ h => h) ?_
          refine T_seq ?_
          refine T_seq ?_
          refine T_region ?_
          refine S_ 124 rfl rfl rfl _ (y_move rfl rfl) ?_
          refine S_ 125 rfl rfl rfl _ (y_len_slice rfl rfl Tryz.underlying40) ?_
          refine S_ 126 rfl rfl rfl _ (y_move rfl rfl) ?_
          refine S_go (fun _ _ h => h) ?_
          refine T_block ?_
          refine T_loopK2 (kf := [(26, 28), (126, 145)]) (kl := [(26, 28), (126, 145)]) (fun (m : Nat) (n : Int) => [(126, true, .int .i64 (m : Int)), (26, true, .int .i64 n)]) (fun (m : Nat) (n : Int) => []) (fun (m : Nat) (n : Int) => m ≤ G.length ∧ n + ptsGo m (G.drop m) x0.fi.l = ptsGo 0 G x0.fi.l ∧ 0 ≤ n ∧ n ≤ 100 * (m : Int)) (fun (m : Nat) (n : Int) => G.length - m) 0 0 (by repeat (first | exact kf_nil | (apply kf_in; focus rfl) | (apply kf_out; focus rfl))) (by repeat (first | exact kl_nil | exact kl_rest (by assumption) rfl | (apply kl_in; focus rfl) | (apply kl_out; focus rfl))) ?_ ?_ ?_ ?_
          · exact ⟨by omega, by rw [Int.zero_add]; rfl, by omega, by omega⟩
          · exact ⟨rfl, rfl, trivial⟩
          · exact trivial
          rintro m n ⟨hm1, hm2, hm3, hm4⟩
          refine T_seq ?_
          refine T_region ?_
          refine S_ 127 rfl rfl rfl _ (y_bin rfl rfl rfl (fun _ => b_lss)) ?_
          refine S_go (fun _ _ h => h) ?_
          refine T_seq ?_
          refine T_cond rfl (fun h127 => ?_) (fun h127 => ?_)
          · try simp only [decide_eq_true_eq, decide_eq_false_iff_not, Bool.or_eq_true, Bool.or_eq_false_iff, Bool.and_eq_true, Bool.and_eq_false_iff, Bool.not_eq_true', Bool.not_eq_false', Bool.not_eq_true, Bool.not_eq_false, Bool.not_true, Bool.not_false, Int.not_lt, Int.not_le, not_or, not_and, Classical.not_not] at h127
            obtain ⟨f, hp1x⟩ : ∃ f, G[m]? = some f := ⟨_, List.getElem?_eq_getElem (by omega)⟩
            have hp2x : G.drop m = f :: G.drop (m + 1) := drop_at hp1x
            have hqu := quo_le m
            refine T_skip_go (fun _ _ h => h) ?_
            refine T_seq ?_
            refine T_block ?_
            refine T_seq ?_
            refine T_region ?_
            refine S_ 128 rfl rfl rfl _ (y_move rfl rfl) ?_
            refine S_ 129 rfl rfl rfl _ (y_indexOwn 16 rfl rfl rfl rfl Tryz.underlying40 sz9 (fun _ => by omega)) ?_
            refine S_ 130 rfl rfl rfl _ (y_loadO1 16 (val := (fun l : List UInt8 => str l)) rfl rfl rfl rfl (fun _ => hp1x) Tryz.underlying9 rfl) ?_
            refine S_alloc 28 28 rfl rfl rfl rfl z9 ?_
            intro b28
            refine S_ 27 rfl rfl rfl _ (y_assign rfl rfl) ?_
            refine S_store 28 rfl rfl rfl rfl rfl rfl sz9 rfl rfl ?_
            refine S_go (fun _ _ h => h) ?_
            refine T_seq ?_
            refine T_region ?_
            refine S_ 131 rfl rfl rfl _ (y_load 28 rfl rfl rfl rfl Tryz.underlying9 rfl) ?_
            refine S_ 132 rfl rfl rfl _ (y_bin rfl rfl rfl (fun _ => b_neqs)) ?_
            refine S_ 133 rfl rfl rfl _ (y_move rfl rfl) ?_
            refine Sg_ 134 rfl rfl rfl rfl rfl rfl _ (y_fieldAddr rfl rfl fa157_3) ?_
            refine Sg_ 135 rfl rfl rfl rfl rfl rfl _ (y_load 23 rfl rfl rfl rfl Tryz.underlying40 rfl) ?_
            refine Sg_ 136 rfl rfl rfl rfl rfl rfl _ (y_makeFunc rfl rfl rfl rfl rfl) ?_
            refine Sg_ 137 rfl rfl rfl rfl rfl rfl _ (y_call rfl rfl rfl cf38 (fun _ w hM => ContFS_any _ _ _ x0.fi.l _ _ (bothB f) w ((hC.n x0 (mem_at hc1)).ok.t.below hM.below) (hC.n x0 (mem_at hc1)).q cf131 fun t ht1 w1 hb => refpoints1_any t f b28 w1 ((hC.n x0 (mem_at hc1)).n t ht1) (hg4 f (mem_at hp1x)) (cells_below (hM.box_cells 28 rfl) hb))) ?_
            refine S_ 138 rfl rfl rfl _ (y_and rfl rfl rfl) ?_
            refine S_go (fun _ _ h => h) ?_
            refine T_cond rfl (fun h138 => ?_) (fun h138 => ?_)
            · skip
              have hone : ptOne m f x0.fi.l = if 100 / ((m : Int) + 1) < 1 then 1 else 100 / ((m : Int) + 1) := if_pos h138
              have hol := ptOne_le m f x0.fi.l
              refine T_region ?_
              refine S_ 139 rfl rfl rfl _ (y_move rfl rfl) ?_
              refine S_ 140 rfl rfl rfl _ (y_move rfl rfl) ?_
              refine S_ 141 rfl rfl rfl _ (y_bin rfl rfl rfl (fun hg => b_add (by omega))) ?_
              refine S_ 142 rfl rfl rfl _ (y_bin rfl rfl rfl (fun hg => b_quov (100 / ((m : Int) + 1)) (by omega) (by omega) (by omega) (by omega))) ?_
              refine S_ 143 rfl rfl rfl _ (y_max rfl rfl rfl) ?_
              refine S_ 144 rfl rfl rfl _ (y_as (v' := .int .i64 (n + ptOne m f x0.fi.l)) (by rw [hone]) (y_bin rfl rfl rfl (fun hg => b_add (by omega)))) ?_
              refine S_ 26 rfl rfl rfl _ (y_assign rfl rfl) ?_
              refine S_go (fun _ _ h => h) ?_
              refine T_region ?_
              refine S_ 145 rfl rfl rfl _ (y_bin rfl rfl rfl (fun hg => b_add (by omega))) ?_
              refine S_ 126 rfl rfl rfl _ (y_move rfl rfl) ?_
              refine S_nil (nextK2 (kf := [(26, 28), (126, 145)]) (kl := [(26, 28), (126, 145)]) (m + 1) (n + ptOne m f x0.fi.l) (by repeat (first | exact kf_nil | (apply kf_in; focus rfl) | (apply kf_out; focus rfl))) (by repeat (first | exact kl_nil | exact kl_rest (by assumption) rfl | (apply kl_in; focus rfl) | (apply kl_out; focus rfl))) ?_ ?_ ?_ ?_)
              · omega
              · exact ⟨by omega, by rw [← hm2, hp2x, ptsGo]; omega, by omega, by omega⟩
              · exact ⟨rfl, rfl, trivial⟩
              · exact trivial
            · skip
              have hone : ptOne m f x0.fi.l = 0 := if_neg (by rw [h138]; simp)
              refine T_skip_go (fun _ _ h => h) ?_
              refine T_region ?_
              refine S_ 145 rfl rfl rfl _ (y_bin rfl rfl rfl (fun hg => b_add (by omega))) ?_
              refine S_ 126 rfl rfl rfl _ (y_move rfl rfl) ?_
              refine S_nil (nextK2 (kf := [(26, 28), (126, 145)]) (kl := [(26, 28), (126, 145)]) (m + 1) n (by repeat (first | exact kf_nil | (apply kf_in; focus rfl) | (apply kf_out; focus rfl))) (by repeat (first | exact kl_nil | exact kl_rest (by assumption) rfl | (apply kl_in; focus rfl) | (apply kl_out; focus rfl))) ?_ ?_ ?_ ?_)
              · omega
              · exact ⟨by omega, by rw [← hm2, hp2x, ptsGo, hone]; omega, by omega, by omega⟩
              · exact ⟨rfl, rfl, trivial⟩
              · exact trivial
          · try simp only [decide_eq_true_eq, decide_eq_false_iff_not, Bool.or_eq_true, Bool.or_eq_false_iff, Bool.and_eq_true, Bool.and_eq_false_iff, Bool.not_eq_true', Bool.not_eq_false', Bool.not_eq_true, Bool.not_eq_false, Bool.not_true, Bool.not_false, Int.not_lt, Int.not_le, not_or, not_and, Classical.not_not] at h127
            have hpt : n = ptsGo 0 G x0.fi.l := by rw [← hm2, List.drop_eq_nil_of_le (by omega), ptsGo, Int.add_zero]
            refine T_exit_go (fun _ _ h => h) ?_
            refine T_seq ?_
            refine T_region ?_
            refine S_ 146 rfl rfl rfl _ (y_move rfl rfl) ?_
            refine S_ 147 rfl rfl rfl _ (y_bin rfl rfl rfl (fun _ => b_gtr)) ?_
            refine S_go (fun _ _ h => h) ?_
            refine T_cond rfl (fun h147 => ?_) (fun h147 => ?_)
            · try simp only [decide_eq_true_eq, decide_eq_false_iff_not, Bool.or_eq_true, Bool.or_eq_false_iff, Bool.and_eq_true, Bool.and_eq_false_iff, Bool.not_eq_true', Bool.not_eq_false', Bool.not_eq_true, Bool.not_eq_false, Bool.not_true, Bool.not_false, Int.not_lt, Int.not_le, not_or, not_and, Classical.not_not] at h147
              refine T_region ?_
              refine S_ 148 rfl rfl rfl _ (y_move rfl rfl) ?_
              refine S_ 149 rfl rfl rfl _ (y_fieldAddr rfl rfl fa157_0) ?_
              refine S_ 150 rfl rfl rfl _ (y_load 23 rfl rfl rfl rfl Tryz.underlying9 rfl) ?_
              refine S_ 151 rfl rfl rfl _ (y_move rfl rfl) ?_
              refine S_ 152 rfl rfl rfl _ (y_build (zv := .agg #[.string ⟨#[]⟩, .int .i64 0]) (pl := [(0, 1), (1, 1)]) (out := [_, _]) rfl rfl Tryz.underlying83 z83 (by kernel_rfl) rfl) ?_
              refine S_buildSlice 153 153 rfl rfl rfl rfl rfl Tryz.underlying75 inf83 rfl (by decide) (by decide) rfl rfl (by decide) rfl (_) rfl ?_
              intro b153
              obtain ⟨i154, hi154, hz154, hs154, hy154⟩ := info_parts inf83
              refine S_append 154 21 153 rfl rfl rfl rfl rfl rfl rfl rfl Tryz.underlying75 hi154 hz154 hs154 hy154 rfl (by decide) (by decide) rfl ?_ ?_ ((O ++ [(⟨x0.id, n⟩ : SSus)]).length) ((O ++ [(⟨x0.id, n⟩ : SSus)]).flatMap SSus.enc) ?_ ?_ ?_
              · (simp only [maxLen]; omega)
              · omega
              · simp
              · simp [List.flatMap_append]; rfl
              intro A154 c154
              refine S_ 21 rfl rfl rfl _ (y_assign rfl rfl) ?_
              refine S_go (fun _ _ h => h) ?_
              refine T_region ?_
              refine S_ 155 rfl rfl rfl _ (y_bin rfl rfl rfl (fun hg => b_add (by omega))) ?_
              refine S_ 92 rfl rfl rfl _ (y_move rfl rfl) ?_
              refine S_nil (nextK4 (kf := [(21, 21), (23, 28), (92, 155)]) (kl := [(21, 21), (23, 28), (92, 155)]) (k + 1) (O ++ [(⟨x0.id, n⟩ : SSus)]) A154 c154 (by repeat (first | exact kf_nil | (apply kf_in; focus rfl) | (apply kf_out; focus rfl))) (by repeat (first | exact kl_nil | exact kl_rest (by assumption) rfl | (apply kl_in; focus rfl) | (apply kl_out; focus rfl))) ?_ ?_ ?_ ?_)
              · omega
              · exact ⟨by omega, by rw [← ho2, hc2, susL, if_neg (by rw [h123]; simp), if_pos (by rw [← hpt]; omega), hpt]; simp, by rw [List.length_append, List.length_singleton]; omega⟩
              · exact ⟨rfl, rfl, trivial⟩
              · exact ⟨rfl, trivial⟩
            · try simp only [decide_eq_true_eq, decide_eq_false_iff_not, Bool.or_eq_true, Bool.or_eq_false_iff, Bool.and_eq_true, Bool.and_eq_false_iff, Bool.not_eq_true', Bool.not_eq_false', Bool.not_eq_true, Bool.not_eq_false, Bool.not_true, Bool.not_false, Int.not_lt, Int.not_le, not_or, not_and, Classical.not_not] at h147
              refine T_skip_go (fun _ _ h => h) ?_
              refine T_region ?_
              refine S_ 155 rfl rfl rfl _ (y_bin rfl rfl rfl (fun hg => b_add (by omega))) ?_
              refine S_ 92 rfl rfl rfl _ (y_move rfl rfl) ?_
              refine S_nil (nextK4 (kf := [(21, 21), (23, 28), (92, 155)]) (kl := [(21, 21), (23, 28), (92, 155)]) (k + 1) O A21 c21 (by repeat (first | exact kf_nil | (apply kf_in; focus rfl) | (apply kf_out; focus rfl))) (by repeat (first | exact kl_nil | exact kl_rest (by assumption) rfl | (apply kl_in; focus rfl) | (apply kl_out; focus rfl))) ?_ ?_ ?_ ?_)
              · omega
              · exact ⟨by omega, by rw [← ho2, hc2, susL, if_neg (by rw [h123]; simp), if_neg (by rw [← hpt]; omega)], by omega⟩
              · exact ⟨rfl, rfl, trivial⟩
              · exact ⟨rfl, trivial⟩
      · try simp only [decide_eq_true_eq, decide_eq_false_iff_not, Bool.or_eq_true, Bool.or_eq_false_iff, Bool.and_eq_true, Bool.and_eq_false_iff, Bool.not_eq_true', Bool.not_eq_false', Bool.not_eq_true, Bool.not_eq_false, Bool.not_true, Bool.not_false, Int.not_lt, Int.not_le, not_or, not_and, Classical.not_not] at h93
        refine T_exit_go (fun _ _ h => h) ?_
        refine T_seq ?_
        refine T_region ?_
        refine S_ 156 rfl rfl rfl _ (y_move rfl rfl) ?_
        refine S_callM 157 [(0, 21)] (X := Unit) rfl rfl rfl rfl rfl rfl rfl cf125 rfl (fun _ => .tuple #[]) (fun _ => True) (fun _ => [(0, .own 83 2 (.slice A21 O.length c21) O.length ((pdqL cfU O).flatMap SSus.enc))]) (fun _ => rfl) (fun _ => rfl) (fun K1 hK1 w1 hM => sortSO_any A21 O.length c21 O w1 rfl (by omega) hM) ?_
        intro u157 _
        refine S_go (fun _ _ h => h) ?_
        refine T_seq ?_
        refine T_region ?_
        refine S_ 158 rfl rfl rfl _ (y_move rfl rfl) ?_
        refine S_ 8 rfl rfl rfl _ (y_assign rfl rfl) ?_
        refine S_go (fun _ _ h => h) ?_
        refine T_ret (fun a w hF hM => hRb a w (post1 rfl rfl (fun w hM => ?_) a w hF hM))
        have hG : G = ownFi l.l := by rw [← hg2, ht.end (by omega)]; exact (List.append_nil _).symm
        have hO : O = susL (verV s) (befO S s) (ownFi l.l) C.l := by rw [← hG, ← ho2, hCt.end (by omega)]; exact (List.append_nil _).symm
        have hR : susQ l C S s = pdqL cfU O := by rw [susQ, hO]
        rw [hR, pdqL_len swoU]
        exact ⟨A21, c21, rfl, hM.sat 21 _ rfl, hM.below⟩
set_option maxHeartbeats 3200000 in
theorem ReleaseSuspects_any (l : Sl Flt) (C : Sl SCom) (A : Option Addr) (q c : Nat) (S : List (List UInt8)) (s : List UInt8) (w : World) (hl : FltsOk w l) (hC : ComsOk w C) (hS : SlT strE 1 w A q S) :
    Calls Tryz.prog 9 #[.slice l.A l.q l.c, .slice C.A C.q C.c, .slice A q c, str s] w fun e w' => e = .returned (.bool true) ∧ Below w.heap.size w w' := by
  have hQl := susQ_len l C S s
  have hCq := hC.q
  have hCl := hC.ok.t.len
  have hRl := susR_len l C S s
  have hx4 : firstI [faultsNo l, commitsNo C, allNo S, (parE s).2] = susNo l C S s := by
    rw [first_4, susNo, parE]
    by_cases h : relOk s = true
    · rw [if_pos h, if_pos h]
    · rw [if_neg h, if_neg h]
  refine enter_args (args := [.slice l.A l.q l.c, .slice C.A C.q C.c, .slice A q c, str s]) (F := _) Tryz.func9 rfl Tryz.ntmps9 rfl rfl ?_
  intro Rb hRb hRn
  refine T_seq ?_
  refine T_region ?_
  refine S_ 8 rfl rfl rfl _ (y_assign rfl rfl) ?_
  refine S_go (fun _ _ h => h) ?_
  refine T_seq ?_
  refine T_region ?_
  refine S_ 16 rfl rfl rfl _ (y_move rfl rfl) ?_
  refine S_ 17 rfl rfl rfl _ (y_move rfl rfl) ?_
  refine S_ 18 rfl rfl rfl _ (y_move rfl rfl) ?_
  refine S_ 19 rfl rfl rfl _ (y_move rfl rfl) ?_
  refine S_callOwn 20 20 rfl rfl rfl rfl rfl rfl rfl cf44 (fun A c => .tuple #[.slice A (susR l C S s).length c, .int .i64 (susNo l C S s)]) 83 2 ((susR l C S s).length) ((susR l C S s).flatMap SSus.enc) (fun w hM => Suspects_any l C A q c S s w (hl.below hM.below) (hC.below hM.below) (hS.below hM.below)) ?_
  intro A20 c20
  refine S_ 15 rfl rfl rfl _ (y_move rfl rfl) ?_
  refine S_ 21 rfl rfl rfl _ (y_extract rfl rfl rfl) ?_
  refine S_ 22 rfl rfl rfl _ (y_extract rfl rfl rfl) ?_
  refine S_ 9 rfl rfl rfl _ (y_assign rfl rfl) ?_
  refine S_ 10 rfl rfl rfl _ (y_assign rfl rfl) ?_
  refine S_go (fun _ _ h => h) ?_
  refine T_seq ?_
  refine T_region ?_
  refine S_ 24 rfl rfl rfl _ (y_move rfl rfl) ?_
  refine S_callOwn 25 25 rfl rfl rfl rfl rfl rfl rfl cf25 (fun A c => .tuple #[pvV (parE s).1 A c, .int .i64 (parE s).2]) 9 1 ((parE s).1.pre.length) ((parE s).1.pre.flatMap strE) (fun w hM => VersionOf_any s w) ?_
  intro A25 c25
  refine S_ 23 rfl rfl rfl _ (y_move rfl rfl) ?_
  refine S_ 26 rfl rfl rfl _ (y_extract rfl rfl rfl) ?_
  refine S_ 27 rfl rfl rfl _ (y_extract rfl rfl rfl) ?_
  refine S_alloc 11 11 rfl rfl rfl rfl z42 ?_
  intro b11
  refine S_store 11 rfl rfl rfl rfl rfl rfl sz42 rfl rfl ?_
  refine S_ 12 rfl rfl rfl _ (y_assign rfl rfl) ?_
  refine S_go (fun _ _ h => h) ?_
  refine T_seq ?_
  refine T_region ?_
  refine S_ 28 rfl rfl rfl _ (y_move rfl rfl) ?_
  refine S_ 29 rfl rfl rfl _ (y_call rfl rfl rfl cf45 (fun _ w hM => FaultsFault_any l w (hl.below hM.below))) ?_
  refine S_ 30 rfl rfl rfl _ (y_move rfl rfl) ?_
  refine S_ 31 rfl rfl rfl _ (y_call rfl rfl rfl cf46 (fun _ w hM => CommitsFault_any C w (hC.below hM.below))) ?_
  refine S_ 32 rfl rfl rfl _ (y_move rfl rfl) ?_
  refine S_ 33 rfl rfl rfl _ (y_call rfl rfl rfl cf29 (fun _ w hM => ReleasesFault_any A q c S w (hS.below hM.below))) ?_
  refine S_ 34 rfl rfl rfl _ (y_move rfl rfl) ?_
  refine S_buildSlice 35 35 rfl rfl rfl rfl rfl Tryz.underlying100 inf30 rfl (by decide) (by decide) rfl rfl (by decide) rfl (_) rfl ?_
  intro b35
  refine S_ 36 rfl rfl rfl _ (y_as (v' := .int .i64 (susNo l C S s)) (by rw [hx4]) (y_call rfl rfl rfl cf12 (fun _ w hM => firstG_any _ 4 _ [faultsNo l, commitsNo C, allNo S, (parE s).2] w ⟨own_reads hM (i := 35) rfl, rfl⟩ (by decide)))) ?_
  refine S_ 13 rfl rfl rfl _ (y_assign rfl rfl) ?_
  refine S_go (fun _ _ h => h) ?_
  refine T_seq ?_
  refine T_region ?_
  refine S_nilSlice 14 (e := 83) (size := 2) ?_
  refine S_ 14 rfl rfl rfl _ (y_assign rfl rfl) ?_
  refine S_go (fun _ _ h => h) ?_
  refine T_seq ?_
  refine T_seq ?_
  refine T_region ?_
  refine S_ 37 rfl rfl rfl _ (y_move rfl rfl) ?_
  refine S_ 38 rfl rfl rfl _ (y_bin rfl rfl rfl (fun _ => b_eql)) ?_
  refine S_go (fun _ _ h => h) ?_
  refine T_cond rfl (fun h38 => ?_) (fun h38 => ?_)
  · try simp only [decide_eq_true_eq, decide_eq_false_iff_not, Bool.or_eq_true, Bool.or_eq_false_iff, Bool.and_eq_true, Bool.and_eq_false_iff, Bool.not_eq_true', Bool.not_eq_false', Bool.not_eq_true, Bool.not_eq_false, Bool.not_true, Bool.not_false, Int.not_lt, Int.not_le, not_or, not_and, Classical.not_not] at h38
    have h38 : susNo l C S s = 0 := h38
    refine T_region ?_
    refine S_ 39 rfl rfl rfl _ (y_move rfl rfl) ?_
    refine S_ 40 rfl rfl rfl _ (y_move rfl rfl) ?_
    refine S_ 41 rfl rfl rfl _ (y_move rfl rfl) ?_
    refine S_ 42 rfl rfl rfl _ (y_move rfl rfl) ?_
    refine S_callOwn 43 43 rfl rfl rfl rfl rfl rfl rfl cf47 (fun A c => .slice A (susQ l C S s).length c) 83 2 ((susQ l C S s).length) ((susQ l C S s).flatMap SSus.enc) (fun w hM => SuspectsOf_any l C A q c S s w (hl.below hM.below) (hC.below hM.below) (hS.below hM.below) h38) ?_
    intro A43 c43
    refine S_ 14 rfl rfl rfl _ (y_assign rfl rfl) ?_
    refine S_go (fun _ _ h => h) ?_
    refine T_seq ?_
    refine T_region ?_
    refine S_ 44 rfl rfl rfl _ (y_move rfl rfl) ?_
    refine S_ 45 rfl rfl rfl _ (y_call rfl rfl rfl cf48 (fun _ w hM => CheckCommits_any C w (hC.below hM.below))) ?_
    refine S_ 46 rfl rfl rfl _ (y_move rfl rfl) ?_
    refine S_ 47 rfl rfl rfl _ (y_call rfl rfl rfl cf46 (fun _ w hM => CommitsFault_any C w (hC.below hM.below))) ?_
    refine S_ 48 rfl rfl rfl _ (y_bin rfl rfl rfl (fun _ => b_eql)) ?_
    refine S_ 49 rfl rfl rfl _ (y_move rfl rfl) ?_
    refine Sg_ 50 rfl rfl rfl rfl rfl rfl _ (y_move rfl rfl) ?_
    refine Sg_ 51 rfl rfl rfl rfl rfl rfl _ (y_move rfl rfl) ?_
    refine Sg_ 52 rfl rfl rfl rfl rfl rfl _ (y_move rfl rfl) ?_
    refine Sg_ 53 rfl rfl rfl rfl rfl rfl _ (y_move rfl rfl) ?_
    refine Sg_ 54 rfl rfl rfl rfl rfl rfl _ (y_call rfl rfl rfl cf49 (fun _ w hM => listedSu_any _ _ _ _ _ _ (susR l C S s) (susQ l C S s) _ _ w (owned_T (enc := SSus.enc) hM rfl (i := 20) rfl) (owned_T (enc := SSus.enc) hM rfl (i := 43) rfl) (by omega) (by omega) rfl (fun h => absurd h38 h) (fun _ => (if_pos h38).symm))) ?_
    refine S_ 55 rfl rfl rfl _ (y_and rfl rfl rfl) ?_
    refine S_ 8 rfl rfl rfl _ (y_assign rfl rfl) ?_
    refine S_go (fun _ _ h => h) ?_
    refine T_ret (fun a w hF hM => hRb a w (post1 rfl rfl (fun w hM => ?_) a w hF hM))
    exact ⟨by simp, hM.below⟩
  · try simp only [decide_eq_true_eq, decide_eq_false_iff_not, Bool.or_eq_true, Bool.or_eq_false_iff, Bool.and_eq_true, Bool.and_eq_false_iff, Bool.not_eq_true', Bool.not_eq_false', Bool.not_eq_true, Bool.not_eq_false, Bool.not_true, Bool.not_false, Int.not_lt, Int.not_le, not_or, not_and, Classical.not_not] at h38
    have h38 : ¬ susNo l C S s = 0 := h38
    refine T_skip_go (fun _ _ h => h) ?_
    refine T_seq ?_
    refine T_region ?_
    refine S_ 44 rfl rfl rfl _ (y_move rfl rfl) ?_
    refine S_ 45 rfl rfl rfl _ (y_call rfl rfl rfl cf48 (fun _ w hM => CheckCommits_any C w (hC.below hM.below))) ?_
    refine S_ 46 rfl rfl rfl _ (y_move rfl rfl) ?_
    refine S_ 47 rfl rfl rfl _ (y_call rfl rfl rfl cf46 (fun _ w hM => CommitsFault_any C w (hC.below hM.below))) ?_
    refine S_ 48 rfl rfl rfl _ (y_bin rfl rfl rfl (fun _ => b_eql)) ?_
    refine S_ 49 rfl rfl rfl _ (y_move rfl rfl) ?_
    refine Sg_ 50 rfl rfl rfl rfl rfl rfl _ (y_move rfl rfl) ?_
    refine Sg_ 51 rfl rfl rfl rfl rfl rfl _ (y_move rfl rfl) ?_
    refine Sg_ 52 rfl rfl rfl rfl rfl rfl _ (y_move rfl rfl) ?_
    refine Sg_ 53 rfl rfl rfl rfl rfl rfl _ (y_move rfl rfl) ?_
    refine Sg_ 54 rfl rfl rfl rfl rfl rfl _ (y_call rfl rfl rfl cf49 (fun _ w hM => listedSu_any _ _ _ _ _ _ (susR l C S s) [] _ _ w (owned_T (enc := SSus.enc) hM rfl (i := 20) rfl) nilSu (by omega) (by decide) rfl (fun _ => if_neg h38) (fun h => absurd h h38))) ?_
    refine S_ 55 rfl rfl rfl _ (y_and rfl rfl rfl) ?_
    refine S_ 8 rfl rfl rfl _ (y_assign rfl rfl) ?_
    refine S_go (fun _ _ h => h) ?_
    refine T_ret (fun a w hF hM => hRb a w (post1 rfl rfl (fun w hM => ?_) a w hF hM))
    exact ⟨by simp, hM.below⟩
end Go.Proofs.YtpmlgnbbkpplhaaGreatDoor
end
section
namespace Go.Proofs.YtpmlgnbbkpplhaaGreatDoor
set_option linter.unusedSimpArgs false
set_option linter.unusedVariables false
set_option maxRecDepth 20000
open Go.RowKit Go.Eng
section
variable {H : Type} {enc : TypeId × Value → H} {w : World}
def IntOk (n : Int) : Prop := (Lit.int .i64 n).wf = true
def ShortS (s : List UInt8) : Prop := s.length ≤ reachBytes
theorem reach_len : reachBytes ≤ 4611686018427387904 := by decide
def strEnc (l : List UInt8) : List Value := [str l]
theorem op_s : Opn enc Tryz.prog w 9 strEnc ShortS (fun l d => d = .lit (.string l)) := opn_str Tryz.underlying9
theorem op_i : Opn enc Tryz.prog w 3 (fun n : Int => [Value.int .i64 n]) IntOk (fun n d => d = .lit (.int .i64 n)) := opn_int Tryz.underlying3
theorem op_b : Opn enc Tryz.prog w 4 (fun b : Bool => [Value.bool b]) (fun _ => True) (fun b d => d = .lit (.bool b)) := opn_bool Tryz.underlying4
def slV {X : Type} (s : Sl X) : List Value := [.slice s.A s.q s.c]
def frmG (f : Frm) : Prop := ShortS f.m ∧ ShortS f.f ∧ ShortS f.fi
theorem op_frm : Opn enc Tryz.prog w 119 Frm.enc frmG (fun _ _ => True) :=
  (opn_struct Tryz.underlying119 co119 (opf_cons op_s rfl co9 (opf_cons op_s rfl co9 (opf_cons op_s rfl co9 (opf_cons op_i rfl co3 (opf_cons op_i rfl co3 (opf_cons op_b rfl co4 opf_nil))))))).map
    (fun p => (⟨p.1, p.2.1, p.2.2.1, p.2.2.2.1, p.2.2.2.2.1, p.2.2.2.2.2.1⟩ : Frm)) (fun _ => rfl) (fun _ h => ⟨h.1, h.2.1, h.2.2.1⟩) (fun _ _ _ => trivial)
theorem op_frms : Opn enc Tryz.prog w 112 slV (FrmsOk w) (fun _ _ => True) :=
  (opn_slice Tryz.underlying112 co119 (by decide) (by rw [bo119]; decide) (fun _ => rfl) op_frm).map (fun s => s) (fun _ => rfl)
    (fun s h => ⟨h.1, Nat.le_trans h.2.1 reach_len, fun f hf => ⟨Nat.le_trans (h.2.2 f hf).1 reach_len, Nat.le_trans (h.2.2 f hf).2.1 reach_len, Nat.le_trans (h.2.2 f hf).2.2 reach_len⟩⟩) (fun _ _ _ => trivial)
theorem op_flt : Opn enc Tryz.prog w 114 Flt.enc (FltOk w) (fun _ _ => True) :=
  (opn_struct Tryz.underlying114 co114 (opf_cons op_s rfl co9 (opf_cons op_s rfl co9 (opf_cons op_frms rfl co112 opf_nil)))).map
    (fun p => (⟨p.1, p.2.1, p.2.2.1⟩ : Flt)) (fun _ => rfl) (fun _ h => ⟨Nat.le_trans h.1 reach_len, Nat.le_trans h.2.1 reach_len, h.2.2.1⟩) (fun _ _ _ => trivial)
theorem op_flts : Opn enc Tryz.prog w 25 slV (FltsOk w) (fun _ _ => True) :=
  (opn_slice Tryz.underlying25 co114 (by decide) (by rw [bo114]; decide) (fun _ => rfl) op_flt).map (fun s => s) (fun _ => rfl)
    (fun s h => ⟨h.1, Nat.le_trans h.2.1 reach_len, h.2.2⟩) (fun _ _ _ => trivial)
end
end Go.Proofs.YtpmlgnbbkpplhaaGreatDoor
end
section
namespace Go.Proofs.YtpmlgnbbkpplhaaGreatDoor
set_option linter.unusedSimpArgs false
set_option linter.unusedVariables false
set_option maxRecDepth 20000
open Go.ChangeShapes Go.WideShapes Go.RowKit
theorem ownNone : ownKnob Tryz.prog.godebug = none := by kernel_rfl
theorem laidOut : laidOutB Tryz.prog = true := by kernel_rfl
def firstCells : Array Value := (Go.Pinned.utf8FirstZ.map fun n : Nat => Value.int .u8 (n : Int)).toArray
def tabCells (k : IntKind) (zs : List Int) : Array Value := (zs.map fun n => Value.int k n).toArray
def rangeZ : List Int := [128, 191, 160, 191, 128, 159, 144, 191, 128, 143, 0, 0, 0, 0, 0, 0, 0, 0, 0, 0, 0, 0, 0, 0, 0, 0, 0, 0, 0, 0, 0, 0]
def tz32Z : List Int := [0, 1, 28, 2, 29, 14, 24, 3, 30, 22, 20, 15, 25, 17, 4, 8, 31, 27, 13, 23, 21, 19, 16, 7, 26, 12, 18, 6, 11, 5, 10, 9]
def tz64Z : List Int := [0, 1, 56, 2, 57, 49, 28, 3, 61, 58, 42, 50, 38, 29, 17, 4, 62, 47, 59, 36, 45, 43, 51, 22, 53, 39, 33, 30, 24, 18, 12, 5, 63, 55, 48, 27, 60, 41, 37, 16, 46, 35, 44, 21, 52, 32, 23, 11, 54, 26, 40, 15, 34, 20, 31, 10, 25, 14, 19, 9, 13, 8, 7, 6]
def pow10Z : List Int := [1, 10, 100, 1000, 10000, 100000, 1000000, 10000000, 100000000, 1000000000, 10000000000, 100000000000, 1000000000000, 10000000000000, 100000000000000, 1000000000000000, 10000000000000000, 100000000000000000, 1000000000000000000, 10000000000000000000]
def layCells (cs : Array Value) : Obj → Obj
  | .cells _ t frozen => .cells cs t frozen
  | o => o
end Go.Proofs.YtpmlgnbbkpplhaaGreatDoor
end
section
namespace Go.Proofs.YtpmlgnbbkpplhaaGreatDoor
set_option linter.unusedSimpArgs false
set_option linter.unusedVariables false
set_option maxRecDepth 20000
open Go.ChangeShapes Go.WideShapes Go.RowKit
noncomputable def low2 : Nat := (World.holding Tryz.prog default ⟨#[], #[], []⟩).heap.size
def rangeT : List UInt8 := [118, 97, 108, 117, 101, 32, 111, 117, 116, 32, 111, 102, 32, 114, 97, 110, 103, 101]
def syntaxT : List UInt8 := [105, 110, 118, 97, 108, 105, 100, 32, 115, 121, 110, 116, 97, 120]
noncomputable def laidWorld2 (os : Os) (args : Array Value) : World :=
  { World.holding Tryz.prog os ⟨#[.cells #[.string ⟨rangeT.toArray⟩] 299, .cells #[.string ⟨syntaxT.toArray⟩] 299], args, []⟩ with heap := (((((((World.holding Tryz.prog os ⟨#[.cells #[.string ⟨rangeT.toArray⟩] 299, .cells #[.string ⟨syntaxT.toArray⟩] 299], args, []⟩).heap.modify 1 (layCells firstCells)).modify 2 (layCells (tabCells .u8 rangeZ))).modify 6 (layCells (tabCells .u8 tz32Z))).modify 7 (layCells (tabCells .u8 tz64Z))).modify 3 (layCells (tabCells .u64 pow10Z))).modify 5 (layCells #[.iface 297 (.pointer (some ⟨low2, 0, none⟩))])).modify 4 (layCells #[.iface 297 (.pointer (some ⟨low2 + 1, 0, none⟩))]) }
end Go.Proofs.YtpmlgnbbkpplhaaGreatDoor
end
