/- Part 6, merged by a program. Suspects: ends, points, the order of suspects, the files of own frames, walked. Conditions: those of each theorem. resolvedAgain, SeenState and Seen, and the law ReleaseSeen, walked. Conditions: those of each theorem. Seen, and the laws ReleaseSeen and ReleaseKept, walked. Conditions: those of each theorem. -/
import Derived.Test.YtpmlgnbbkpplhaaGreatDoorPk5
section
namespace Go.Proofs.YtpmlgnbbkpplhaaGreatDoor
set_option linter.unusedSimpArgs false
set_option linter.unusedVariables false
set_option maxRecDepth 20000
open Go.RowKit Go.Eng
/-! ### Paths that end alike -/
def endsB (x y : List UInt8) : Bool := decide (x = y) || Lib.hasSuffix x (47 :: y)
theorem ends_any (x y : List UInt8) (hx : x.length ≤ 4611686018427387904) (hy : y.length ≤ 4611686018427387904) (w : World) :
    Calls Tryz.prog 214 #[str x, str y] w fun e w' => e = .returned (.bool (endsB x y)) ∧ Below w.heap.size w w' := by
  have h47 : ([47] : List UInt8).length = 1 := rfl
  refine enter_args (args := [str x, str y]) (F := _) Tryz.func214 rfl Tryz.ntmps214 rfl rfl ?_
  intro Rb hRb hRn
  refine T_seq ?_
  refine T_region ?_
  refine S_ 4 rfl rfl rfl _ (y_assign rfl rfl) ?_
  refine S_go (fun _ _ h => h) ?_
  refine T_seq ?_
  refine T_region ?_
  refine S_ 5 rfl rfl rfl _ (y_move rfl rfl) ?_
  refine S_ 6 rfl rfl rfl _ (y_move rfl rfl) ?_
  refine S_ 7 rfl rfl rfl _ (y_bin rfl rfl rfl (fun _ => b_eqls)) ?_
  refine S_ 8 rfl rfl rfl _ (y_move rfl rfl) ?_
  refine Sg_ 9 rfl rfl rfl rfl rfl rfl _ (y_move rfl rfl) ?_
  refine Sg_ 10 rfl rfl rfl rfl rfl rfl _ (y_move rfl rfl) ?_
  refine Sg_ 11 rfl rfl rfl rfl rfl rfl _ (y_bin rfl rfl rfl (fun hg => b_adds (by simp only [Bool.true_and, Bool.and_eq_true, beq_iff_eq, decide_eq_true_eq, decide_eq_false_iff_not, Int.not_lt, Int.not_le] at hg; omega))) ?_
  refine Sg_ 12 rfl rfl rfl rfl rfl rfl _ (y_call rfl rfl rfl cf132 (fun _ w _ => HasSuffix_any x (47 :: y) hx w)) ?_
  refine S_ 13 rfl rfl rfl _ (y_or rfl rfl rfl) ?_
  refine S_ 4 rfl rfl rfl _ (y_assign rfl rfl) ?_
  refine S_go (fun _ _ h => h) ?_
  refine T_ret (fun a w hF hM => hRb a w (post1 rfl rfl (fun w hM => ?_) a w hF hM))
  exact ⟨rfl, hM.below⟩
def bothB (f s : List UInt8) : Bool := endsB f s || endsB s f
theorem points1_any (s f : List UInt8) (b1 : Nat) (w : World) (hs : s.length ≤ 4611686018427387904) (hf : f.length ≤ 4611686018427387904) (h1 : CellsAt w b1 [str f]) :
    Calls Tryz.prog 213 #[str s, .pointer (some ⟨b1, 0, none⟩)] w fun e w' => e = .returned (.bool (bothB f s)) ∧ Below w.heap.size w w' := by
  refine enter_args (args := [str s, .pointer (some ⟨b1, 0, none⟩)]) (F := _) Tryz.func213 rfl Tryz.ntmps213 rfl rfl ?_
  intro Rb hRb hRn
  refine T_seq ?_
  refine T_region ?_
  refine S_ 3 rfl rfl rfl _ (y_assign rfl rfl) ?_
  refine S_go (fun _ _ h => h) ?_
  refine T_seq ?_
  refine T_region ?_
  refine S_ 4 rfl rfl rfl _ (y_load_far rfl rfl (show w.cell? ⟨b1, 0, none⟩ = some (str f) from h1.1 0 _ rfl) h1.2 Tryz.underlying9 rfl) ?_
  refine S_ 5 rfl rfl rfl _ (y_move rfl rfl) ?_
  refine S_ 6 rfl rfl rfl _ (y_call rfl rfl rfl cf214 (fun _ w _ => ends_any f s hf hs w)) ?_
  refine S_ 7 rfl rfl rfl _ (y_move rfl rfl) ?_
  refine Sg_ 8 rfl rfl rfl rfl rfl rfl _ (y_move rfl rfl) ?_
  refine Sg_ 9 rfl rfl rfl rfl rfl rfl _ (y_load_far rfl rfl (show w.cell? ⟨b1, 0, none⟩ = some (str f) from h1.1 0 _ rfl) h1.2 Tryz.underlying9 rfl) ?_
  refine Sg_ 10 rfl rfl rfl rfl rfl rfl _ (y_call rfl rfl rfl cf214 (fun _ w _ => ends_any s f hs hf w)) ?_
  refine S_ 11 rfl rfl rfl _ (y_or rfl rfl rfl) ?_
  refine S_ 3 rfl rfl rfl _ (y_assign rfl rfl) ?_
  refine S_go (fun _ _ h => h) ?_
  refine T_ret (fun a w hF hM => hRb a w (post1 rfl rfl (fun w hM => ?_) a w hF hM))
  exact ⟨rfl, hM.below⟩
theorem refpoints1_any (s f : List UInt8) (b1 : Nat) (w : World) (hs : s.length ≤ 4611686018427387904) (hf : f.length ≤ 4611686018427387904) (h1 : CellsAt w b1 [str f]) :
    Calls Tryz.prog 131 #[str s, .pointer (some ⟨b1, 0, none⟩)] w fun e w' => e = .returned (.bool (bothB f s)) ∧ Below w.heap.size w w' := by
  have h47 : ([47] : List UInt8).length = 1 := rfl
  refine enter_args (args := [str s, .pointer (some ⟨b1, 0, none⟩)]) (F := _) Tryz.func131 rfl Tryz.ntmps131 rfl rfl ?_
  intro Rb hRb hRn
  refine T_seq ?_
  refine T_region ?_
  refine S_ 3 rfl rfl rfl _ (y_assign rfl rfl) ?_
  refine S_go (fun _ _ h => h) ?_
  refine T_seq ?_
  refine T_region ?_
  refine S_ 4 rfl rfl rfl _ (y_move rfl rfl) ?_
  refine S_ 5 rfl rfl rfl _ (y_load_far rfl rfl (show w.cell? ⟨b1, 0, none⟩ = some (str f) from h1.1 0 _ rfl) h1.2 Tryz.underlying9 rfl) ?_
  refine S_ 6 rfl rfl rfl _ (y_bin rfl rfl rfl (fun _ => b_eqls)) ?_
  refine S_ 7 rfl rfl rfl _ (y_move rfl rfl) ?_
  refine Sg_ 8 rfl rfl rfl rfl rfl rfl _ (y_load_far rfl rfl (show w.cell? ⟨b1, 0, none⟩ = some (str f) from h1.1 0 _ rfl) h1.2 Tryz.underlying9 rfl) ?_
  refine Sg_ 9 rfl rfl rfl rfl rfl rfl _ (y_move rfl rfl) ?_
  refine Sg_ 10 rfl rfl rfl rfl rfl rfl _ (y_bin rfl rfl rfl (fun hg => b_adds (by simp only [Bool.true_and, Bool.and_eq_true, beq_iff_eq, decide_eq_true_eq, decide_eq_false_iff_not, Int.not_lt, Int.not_le] at hg; omega))) ?_
  refine Sg_ 11 rfl rfl rfl rfl rfl rfl _ (y_call rfl rfl rfl cf132 (fun _ w _ => HasSuffix_any f (47 :: s) hf w)) ?_
  refine S_ 12 rfl rfl rfl _ (y_or rfl rfl rfl) ?_
  refine S_ 13 rfl rfl rfl _ (y_move rfl rfl) ?_
  refine Sg_ 14 rfl rfl rfl rfl rfl rfl _ (y_move rfl rfl) ?_
  refine Sg_ 15 rfl rfl rfl rfl rfl rfl _ (y_load_far rfl rfl (show w.cell? ⟨b1, 0, none⟩ = some (str f) from h1.1 0 _ rfl) h1.2 Tryz.underlying9 rfl) ?_
  refine Sg_ 16 rfl rfl rfl rfl rfl rfl _ (y_bin rfl rfl rfl (fun hg => b_adds (by simp only [Bool.true_and, Bool.and_eq_true, beq_iff_eq, decide_eq_true_eq, decide_eq_false_iff_not, Int.not_lt, Int.not_le] at hg; omega))) ?_
  refine Sg_ 17 rfl rfl rfl rfl rfl rfl _ (y_call rfl rfl rfl cf132 (fun _ w _ => HasSuffix_any s (47 :: f) hs w)) ?_
  refine S_ 18 rfl rfl rfl _ (y_or rfl rfl rfl) ?_
  refine S_ 3 rfl rfl rfl _ (y_assign rfl rfl) ?_
  refine S_go (fun _ _ h => h) ?_
  refine T_ret (fun a w hF hM => hRb a w (post1 rfl rfl (fun w hM => ?_) a w hF hM))
  refine ⟨congrArg (fun b => Ending.returned (Value.bool b)) ?_, hM.below⟩
  unfold bothB endsB
  by_cases h : s = f
  · subst h; simp
  · have h2 : ¬ f = s := fun e => h e.symm
    simp [h, h2]
/-! ### Points -/
def ptOne (i : Nat) (f : List UInt8) (C : List (List UInt8)) : Int := if (!decide (f = []) && C.any (bothB f)) = true then (if 100 / ((i : Int) + 1) < 1 then 1 else 100 / ((i : Int) + 1)) else 0
def ptsGo : Nat → List (List UInt8) → List (List UInt8) → Int
  | _, [], _ => 0
  | i, f :: r, C => ptOne i f C + ptsGo (i + 1) r C
theorem quo_le (i : Nat) : 0 ≤ 100 / ((i : Int) + 1) ∧ 100 / ((i : Int) + 1) ≤ 100 := by
  refine ⟨Int.ediv_nonneg (by omega) (by omega), ?_⟩
  have := Int.ediv_le_self (a := 100) ((i : Int) + 1) (by omega)
  exact this
theorem ptOne_le (i : Nat) (f : List UInt8) (C : List (List UInt8)) : 0 ≤ ptOne i f C ∧ ptOne i f C ≤ 100 := by
  have h := quo_le i
  unfold ptOne
  split
  · split <;> omega
  · omega
set_option maxHeartbeats 1600000 in
theorem points_any (A : Option Addr) (q c : Nat) (F : List (List UInt8)) (x0 : SCom) (w : World) (hFs : SlT strE 1 w A q F) (hq : q ≤ 1000000) (hFn : ∀ f ∈ F, f.length ≤ 4611686018427387904) (hc : ComOk w x0) :
    Calls Tryz.prog 124 #[.slice A q c, x0.val] w fun e w' => e = .returned (.int .i64 (ptsGo 0 F x0.fi.l)) ∧ Below w.heap.size w w' := by
  have hlen := hFs.len
  refine enter_args (args := [.slice A q c, .agg #[str x0.id, str x0.au, str x0.rel, .slice x0.fi.A x0.fi.q x0.fi.c]]) (F := _) Tryz.func124 rfl Tryz.ntmps124 rfl rfl ?_
  intro Rb hRb hRn
  refine T_seq ?_
  refine T_region ?_
  refine S_box 3 3 rfl rfl rfl rfl rfl ?_
  intro b3
  refine S_ 4 rfl rfl rfl _ (y_assign rfl rfl) ?_
  refine S_go (fun _ _ h => h) ?_
  refine T_seq ?_
  refine T_region ?_
  refine S_ 5 rfl rfl rfl _ (y_assign rfl rfl) ?_
  refine S_go (fun _ _ h => h) ?_
  refine T_seq ?_
  refine T_seq ?_
  refine T_region ?_
  refine S_ 8 rfl rfl rfl _ (y_move rfl rfl) ?_
  refine S_ 9 rfl rfl rfl _ (y_len_slice rfl rfl Tryz.underlying40) ?_
  refine S_ 10 rfl rfl rfl _ (y_move rfl rfl) ?_
  refine S_go (fun _ _ h => h) ?_
  refine T_block ?_
  refine T_loopK2 (kf := [(5, 7), (10, 29)]) (kl := [(5, 7), (10, 29)]) (fun (i : Nat) (n : Int) => [(10, true, .int .i64 (i : Int)), (5, true, .int .i64 n)]) (fun (i : Nat) (n : Int) => []) (fun (i : Nat) (n : Int) => i ≤ q ∧ n + ptsGo i (F.drop i) x0.fi.l = ptsGo 0 F x0.fi.l ∧ 0 ≤ n ∧ n ≤ 100 * (i : Int)) (fun (i : Nat) (n : Int) => q - i) 0 0 (by repeat (first | exact kf_nil | (apply kf_in; focus rfl) | (apply kf_out; focus rfl))) (by repeat (first | exact kl_nil | exact kl_rest (by assumption) rfl | (apply kl_in; focus rfl) | (apply kl_out; focus rfl))) ?_ ?_ ?_ ?_
  · exact ⟨by omega, by rw [Int.zero_add]; rfl, by omega, by omega⟩
  · exact ⟨rfl, rfl, trivial⟩
  · exact trivial
  rintro i n ⟨hp1, hp2, hp3, hp4⟩
  refine T_seq ?_
  refine T_region ?_
  refine S_ 11 rfl rfl rfl _ (y_bin rfl rfl rfl (fun _ => b_lss)) ?_
  refine S_go (fun _ _ h => h) ?_
  refine T_seq ?_
  refine T_cond rfl (fun h11 => ?_) (fun h11 => ?_)
  · try simp only [decide_eq_true_eq, decide_eq_false_iff_not, Bool.or_eq_true, Bool.or_eq_false_iff, Bool.and_eq_true, Bool.and_eq_false_iff, Bool.not_eq_true', Bool.not_eq_false', Bool.not_eq_true, Bool.not_eq_false, Bool.not_true, Bool.not_false, Int.not_lt, Int.not_le, not_or, not_and, Classical.not_not] at h11
    obtain ⟨x, hx1, hx2⟩ := hFs.at (i := i) (by omega)
    have hqu := quo_le i
    refine T_skip_go (fun _ _ h => h) ?_
    refine T_seq ?_
    refine T_block ?_
    refine T_seq ?_
    refine T_region ?_
    refine S_ 12 rfl rfl rfl _ (y_move rfl rfl) ?_
    refine S_ 13 rfl rfl rfl _ (y_indexAddr rfl rfl rfl Tryz.underlying40 sz9 (fun hg => hFs.isSome (by omega)) (fun _ => by omega)) ?_
    refine S_ 14 rfl rfl rfl _ (y_loadT1 (val := (fun l : List UInt8 => str l)) rfl rfl hFs (fun _ => hx1) Tryz.underlying9 rfl) ?_
    refine S_alloc 7 7 rfl rfl rfl rfl z9 ?_
    intro b7
    refine S_ 6 rfl rfl rfl _ (y_assign rfl rfl) ?_
    refine S_store 7 rfl rfl rfl rfl rfl rfl sz9 rfl rfl ?_
    refine S_go (fun _ _ h => h) ?_
    refine T_seq ?_
    refine T_region ?_
    refine S_ 15 rfl rfl rfl _ (y_load 7 rfl rfl rfl rfl Tryz.underlying9 rfl) ?_
    refine S_ 16 rfl rfl rfl _ (y_bin rfl rfl rfl (fun _ => b_neqs)) ?_
    refine S_ 17 rfl rfl rfl _ (y_move rfl rfl) ?_
    refine Sg_ 18 rfl rfl rfl rfl rfl rfl _ (y_fieldAddr rfl rfl fa157_3) ?_
    refine Sg_ 19 rfl rfl rfl rfl rfl rfl _ (y_load 3 rfl rfl rfl rfl Tryz.underlying40 rfl) ?_
    refine Sg_ 20 rfl rfl rfl rfl rfl rfl _ (y_makeFunc rfl rfl rfl rfl rfl) ?_
    refine Sg_ 21 rfl rfl rfl rfl rfl rfl _ (y_call rfl rfl rfl cf38 (fun _ w hM => ContFS_any _ _ _ x0.fi.l _ _ (bothB x) w (hc.ok.t.below hM.below) hc.q cf213 fun s hs w1 hb => points1_any s x b7 w1 (hc.n s hs) (hFn x (mem_at hx1)) (cells_below (hM.box_cells 7 rfl) hb))) ?_
    refine S_ 22 rfl rfl rfl _ (y_and rfl rfl rfl) ?_
    refine S_go (fun _ _ h => h) ?_
    refine T_cond rfl (fun h22 => ?_) (fun h22 => ?_)
    · skip
      have hone : ptOne i x x0.fi.l = if 100 / ((i : Int) + 1) < 1 then 1 else 100 / ((i : Int) + 1) := if_pos h22
      have hol := ptOne_le i x x0.fi.l
      refine T_region ?_
      refine S_ 23 rfl rfl rfl _ (y_move rfl rfl) ?_
      refine S_ 24 rfl rfl rfl _ (y_move rfl rfl) ?_
      refine S_ 25 rfl rfl rfl _ (y_bin rfl rfl rfl (fun hg => b_add (by omega))) ?_
      refine S_ 26 rfl rfl rfl _ (y_bin rfl rfl rfl (fun hg => b_quov (100 / ((i : Int) + 1)) (by omega) (by omega) (by omega) (by omega))) ?_
      refine S_ 27 rfl rfl rfl _ (y_max rfl rfl rfl) ?_
      refine S_ 28 rfl rfl rfl _ (y_as (v' := .int .i64 (n + ptOne i x x0.fi.l)) (by rw [hone]) (y_bin rfl rfl rfl (fun hg => b_add (by omega)))) ?_
      refine S_ 5 rfl rfl rfl _ (y_assign rfl rfl) ?_
      refine S_go (fun _ _ h => h) ?_
      refine T_region ?_
      refine S_ 29 rfl rfl rfl _ (y_bin rfl rfl rfl (fun hg => b_add (by omega))) ?_
      refine S_ 10 rfl rfl rfl _ (y_move rfl rfl) ?_
      refine S_nil (nextK2 (kf := [(5, 7), (10, 29)]) (kl := [(5, 7), (10, 29)]) (i + 1) (n + ptOne i x x0.fi.l) (by repeat (first | exact kf_nil | (apply kf_in; focus rfl) | (apply kf_out; focus rfl))) (by repeat (first | exact kl_nil | exact kl_rest (by assumption) rfl | (apply kl_in; focus rfl) | (apply kl_out; focus rfl))) ?_ ?_ ?_ ?_)
      · omega
      · exact ⟨by omega, by rw [← hp2, hx2, ptsGo]; omega, by omega, by omega⟩
      · exact ⟨rfl, rfl, trivial⟩
      · exact trivial
    · skip
      have hone : ptOne i x x0.fi.l = 0 := if_neg (by rw [h22]; simp)
      refine T_skip_go (fun _ _ h => h) ?_
      refine T_region ?_
      refine S_ 29 rfl rfl rfl _ (y_bin rfl rfl rfl (fun hg => b_add (by omega))) ?_
      refine S_ 10 rfl rfl rfl _ (y_move rfl rfl) ?_
      refine S_nil (nextK2 (kf := [(5, 7), (10, 29)]) (kl := [(5, 7), (10, 29)]) (i + 1) n (by repeat (first | exact kf_nil | (apply kf_in; focus rfl) | (apply kf_out; focus rfl))) (by repeat (first | exact kl_nil | exact kl_rest (by assumption) rfl | (apply kl_in; focus rfl) | (apply kl_out; focus rfl))) ?_ ?_ ?_ ?_)
      · omega
      · exact ⟨by omega, by rw [← hp2, hx2, ptsGo, hone]; omega, by omega, by omega⟩
      · exact ⟨rfl, rfl, trivial⟩
      · exact trivial
  · try simp only [decide_eq_true_eq, decide_eq_false_iff_not, Bool.or_eq_true, Bool.or_eq_false_iff, Bool.and_eq_true, Bool.and_eq_false_iff, Bool.not_eq_true', Bool.not_eq_false', Bool.not_eq_true, Bool.not_eq_false, Bool.not_true, Bool.not_false, Int.not_lt, Int.not_le, not_or, not_and, Classical.not_not] at h11
    refine T_exit_go (fun _ _ h => h) ?_
    refine T_seq ?_
    refine T_region ?_
    refine S_ 30 rfl rfl rfl _ (y_move rfl rfl) ?_
    refine S_ 4 rfl rfl rfl _ (y_assign rfl rfl) ?_
    refine S_go (fun _ _ h => h) ?_
    refine T_ret (fun a w hF hM => hRb a w (post1 rfl rfl (fun w hM => ?_) a w hF hM))
    exact ⟨by rw [← hp2, hFs.end (by omega), ptsGo, Int.add_zero], hM.below⟩
/-! ### Suspects and their order -/
structure SSus where
  id : List UInt8
  n : Int
def SSus.enc (s : SSus) : List Value := [str s.id, .int .i64 s.n]
def cfU (x y : SSus) : Int := if cmpJ y.n x.n ≠ 0 then cmpJ y.n x.n else cmpB x.id y.id
instance : Inhabited SSus := ⟨⟨[], 0⟩⟩
theorem cmp3_fl {α : Type} {f : α → α → Int} (h : Cmp3 f) : Cmp3 fun x y => f y x := ⟨fun a b => h.anti b a, fun a b c h1 h2 => h.tr c b a h2 h1⟩
theorem cmp3_U : Cmp3 cfU := cmp3_lex ((cmp3_fl cmp3_J).comap SSus.n) (cmp3_B.comap SSus.id)
theorem swoU : Go.Sort.SWO (Go.Proofs.ltOf cfU) := swo3 cmp3_U
theorem or2_any (A : Option Addr) (c : Nat) (m k : Int) (w : World) (hl : SlT iE 1 w A 2 [m, k]) : Calls Tryz.prog 95 #[.slice A 2 c] w fun e w' => e = .returned (.int .i64 (if m ≠ 0 then m else k)) ∧ Below w.heap.size w w' := by
  refine enter_args (args := [.slice A 2 c]) (F := _) Tryz.func95 rfl Tryz.ntmps95 rfl rfl ?_
  intro Rb hRb hRn
  refine T_seq ?_
  refine T_region ?_
  refine S_ 2 rfl rfl rfl _ (y_assign rfl rfl) ?_
  refine S_go (fun _ _ h => h) ?_
  refine T_seq ?_
  refine T_region ?_
  refine S_ 3 rfl rfl rfl _ (y_assign rfl rfl) ?_
  refine S_go (fun _ _ h => h) ?_
  refine T_seq ?_
  refine T_seq ?_
  refine T_region ?_
  refine S_ 6 rfl rfl rfl _ (y_move rfl rfl) ?_
  refine S_ 7 rfl rfl rfl _ (y_len_slice rfl rfl Tryz.underlying142) ?_
  refine S_ 8 rfl rfl rfl _ (y_move rfl rfl) ?_
  refine S_go (fun _ _ h => h) ?_
  refine T_block ?_
  refine T_loopK1 (kf := [(2, 2), (5, 5), (8, 16)]) (kl := [(2, 2), (5, 5), (8, 16)]) (fun (i : Nat) => [(8, true, .int .i64 (i : Int))]) (fun (i : Nat) => []) (fun (i : Nat) => i ≤ 2 ∧ (if m ≠ 0 then m else k) = (([m, k].drop i).find? (fun x => decide (x ≠ 0))).getD 0) (fun (i : Nat) => 2 - i) 0 (by repeat (first | exact kf_nil | (apply kf_in; focus rfl) | (apply kf_out; focus rfl))) (by repeat (first | exact kl_nil | exact kl_rest (by assumption) rfl | (apply kl_in; focus rfl) | (apply kl_out; focus rfl))) ?_ ?_ ?_ ?_
  · exact ⟨by omega, by by_cases hm : m = 0 <;> by_cases hk : k = 0 <;> simp [hm, hk]⟩
  · exact ⟨rfl, trivial⟩
  · exact trivial
  rintro i ⟨hp1, hp2⟩
  refine T_seq ?_
  refine T_region ?_
  refine S_ 9 rfl rfl rfl _ (y_bin rfl rfl rfl (fun _ => b_lss)) ?_
  refine S_go (fun _ _ h => h) ?_
  refine T_seq ?_
  refine T_cond rfl (fun h9 => ?_) (fun h9 => ?_)
  · try simp only [decide_eq_true_eq, decide_eq_false_iff_not, Bool.or_eq_true, Bool.or_eq_false_iff, Bool.and_eq_true, Bool.and_eq_false_iff, Bool.not_eq_true', Bool.not_eq_false', Bool.not_eq_true, Bool.not_eq_false, Bool.not_true, Bool.not_false, Int.not_lt, Int.not_le, not_or, not_and, Classical.not_not] at h9
    obtain ⟨x, hx1, hx2⟩ := hl.at (i := i) (by omega)
    refine T_skip_go (fun _ _ h => h) ?_
    refine T_seq ?_
    refine T_block ?_
    refine T_seq ?_
    refine T_region ?_
    refine S_ 10 rfl rfl rfl _ (y_indexAddr rfl rfl rfl Tryz.underlying142 sz3 (fun hg => hl.isSome (by omega)) (fun _ => by omega)) ?_
    refine S_ 11 rfl rfl rfl _ (y_loadT1 (val := (fun n : Int => Value.int .i64 n)) rfl rfl hl (fun _ => hx1) Tryz.underlying3 rfl) ?_
    refine S_ 5 rfl rfl rfl _ (y_assign rfl rfl) ?_
    refine S_go (fun _ _ h => h) ?_
    refine T_seq ?_
    refine T_region ?_
    refine S_ 12 rfl rfl rfl _ (y_move rfl rfl) ?_
    refine S_ 13 rfl rfl rfl _ (y_move rfl rfl) ?_
    refine S_ 14 rfl rfl rfl _ (y_bin rfl rfl rfl (fun _ => b_neq)) ?_
    refine S_go (fun _ _ h => h) ?_
    refine T_cond rfl (fun h14 => ?_) (fun h14 => ?_)
    · try simp only [decide_eq_true_eq, decide_eq_false_iff_not, Bool.or_eq_true, Bool.or_eq_false_iff, Bool.and_eq_true, Bool.and_eq_false_iff, Bool.not_eq_true', Bool.not_eq_false', Bool.not_eq_true, Bool.not_eq_false, Bool.not_true, Bool.not_false, Int.not_lt, Int.not_le, not_or, not_and, Classical.not_not] at h14
      refine T_seq ?_
      refine T_region ?_
      refine S_ 15 rfl rfl rfl _ (y_move rfl rfl) ?_
      refine S_ 2 rfl rfl rfl _ (y_assign rfl rfl) ?_
      refine S_go (fun _ _ h => h) ?_
      refine T_ret (fun a w hF hM => hRb a w (post1 rfl rfl (fun w hM => ?_) a w hF hM))
      exact ⟨by rw [hp2, hx2, List.find?_cons_of_pos (by simpa using h14)]; rfl, hM.below⟩
    · try simp only [decide_eq_true_eq, decide_eq_false_iff_not, Bool.or_eq_true, Bool.or_eq_false_iff, Bool.and_eq_true, Bool.and_eq_false_iff, Bool.not_eq_true', Bool.not_eq_false', Bool.not_eq_true, Bool.not_eq_false, Bool.not_true, Bool.not_false, Int.not_lt, Int.not_le, not_or, not_and, Classical.not_not] at h14
      refine T_skip_go (fun _ _ h => h) ?_
      refine T_region ?_
      refine S_ 16 rfl rfl rfl _ (y_bin rfl rfl rfl (fun hg => b_add (by omega))) ?_
      refine S_ 8 rfl rfl rfl _ (y_move rfl rfl) ?_
      refine S_nil (nextK1 (kf := [(2, 2), (5, 5), (8, 16)]) (kl := [(2, 2), (5, 5), (8, 16)]) (i + 1) (by repeat (first | exact kf_nil | (apply kf_in; focus rfl) | (apply kf_out; focus rfl))) (by repeat (first | exact kl_nil | exact kl_rest (by assumption) rfl | (apply kl_in; focus rfl) | (apply kl_out; focus rfl))) ?_ ?_ ?_ ?_)
      · omega
      · exact ⟨by omega, by rw [hp2, hx2, List.find?_cons_of_neg (by simpa using h14)]⟩
      · exact ⟨rfl, trivial⟩
      · exact trivial
  · try simp only [decide_eq_true_eq, decide_eq_false_iff_not, Bool.or_eq_true, Bool.or_eq_false_iff, Bool.and_eq_true, Bool.and_eq_false_iff, Bool.not_eq_true', Bool.not_eq_false', Bool.not_eq_true, Bool.not_eq_false, Bool.not_true, Bool.not_false, Int.not_lt, Int.not_le, not_or, not_and, Classical.not_not] at h9
    refine T_exit_go (fun _ _ h => h) ?_
    refine T_seq ?_
    refine T_region ?_
    refine S_ 17 rfl rfl rfl _ (y_move rfl rfl) ?_
    refine S_ 2 rfl rfl rfl _ (y_assign rfl rfl) ?_
    refine S_go (fun _ _ h => h) ?_
    refine T_ret (fun a w hF hM => hRb a w (post1 rfl rfl (fun w hM => ?_) a w hF hM))
    exact ⟨by rw [hp2, hl.end (by omega)]; rfl, hM.below⟩
theorem cfSU_any (x y : SSus) (w : World) : Calls Tryz.prog 126 #[.agg x.enc.toArray, .agg y.enc.toArray] w fun e w' => e = .returned (.int .i64 (cfU x y)) ∧ Below w.heap.size w w' := by
  refine enter_args (args := [.agg #[str x.id, .int .i64 x.n], .agg #[str y.id, .int .i64 y.n]]) (F := _) Tryz.func126 rfl Tryz.ntmps126 rfl rfl ?_
  intro Rb hRb hRn
  refine T_seq ?_
  refine T_region ?_
  refine S_box 2 2 rfl rfl rfl rfl rfl ?_
  intro b2
  refine S_box 3 3 rfl rfl rfl rfl rfl ?_
  intro b3
  refine S_ 4 rfl rfl rfl _ (y_assign rfl rfl) ?_
  refine S_go (fun _ _ h => h) ?_
  refine T_seq ?_
  refine T_drawsTail 10 (by kernel_rfl) (by kernel_rfl) ?_
  refine D_ 5 rfl rfl rfl _ (y_fieldAddr rfl rfl fa83_1) ?_
  refine D_ 6 rfl rfl rfl _ (y_load 3 rfl rfl rfl rfl Tryz.underlying3 rfl) ?_
  refine D_ 7 rfl rfl rfl _ (y_fieldAddr rfl rfl fa83_1) ?_
  refine D_ 8 rfl rfl rfl _ (y_load 2 rfl rfl rfl rfl Tryz.underlying3 rfl) ?_
  refine D_ 9 rfl rfl rfl _ (y_call rfl rfl rfl cf97 (fun _ w _ => cmpJ_any _ _ w)) ?_
  refine D_ 10 rfl rfl rfl _ (y_fieldAddr rfl rfl fa83_0) ?_
  refine D_ 11 rfl rfl rfl _ (y_load 2 rfl rfl rfl rfl Tryz.underlying9 rfl) ?_
  refine D_ 12 rfl rfl rfl _ (y_fieldAddr rfl rfl fa83_0) ?_
  refine D_ 13 rfl rfl rfl _ (y_load 3 rfl rfl rfl rfl Tryz.underlying9 rfl) ?_
  refine D_ 14 rfl rfl rfl _ (y_call rfl rfl rfl cf96 (fun _ w _ => cmpB_any _ _ w)) ?_
  refine D_tail ?_
  refine S_buildSlice 15 15 rfl rfl rfl rfl rfl Tryz.underlying142 inf3 rfl (by decide) (by decide) rfl rfl (by decide) rfl (_) rfl ?_
  intro b15
  refine S_ 16 rfl rfl rfl _ (y_call rfl rfl rfl cf95 (fun _ w hM => or2_any _ _ (cmpJ y.n x.n) (cmpB x.id y.id) w ⟨own_reads hM (i := 15) rfl, rfl⟩)) ?_
  refine S_ 4 rfl rfl rfl _ (y_assign rfl rfl) ?_
  refine S_go (fun _ _ h => h) ?_
  refine T_ret (fun a w hF hM => hRb a w (post1 rfl rfl (fun w hM => ?_) a w hF hM))
  exact ⟨rfl, hM.below⟩
theorem sortSU_any {w0 : World} {K : HL} (A : Option Addr) (q c : Nat) (l : List SSus) (w : World) (hlen : l.length = q) (hq : q ≤ 1000000)
    (hM : Mem w0 ([(0, .own 83 2 (.slice A q c) q (l.flatMap SSus.enc))] ++ K) w) :
    Calls Tryz.prog 125 #[.slice A q c, .func (.func 126) #[] #[]] w fun e w' => ∃ u : Unit, e = .returned (.tuple #[]) ∧ True ∧ Mem w0 ([(0, .own 83 2 (.slice A q c) q ((pdqL cfU l).flatMap SSus.enc))] ++ K) w' := by
  have h := sort_ownX Tryz.laysSort125 (k := 2) (enc := SSus.enc) Tryz.isAgg83 Tryz.sizeOf83 (fun _ => rfl)
    (fun x v hv => by simp only [SSus.enc, List.mem_cons, List.not_mem_nil, or_false] at hv; rcases hv with rfl | rfl <;> rfl) cfU swoU 126 #[] cf126 (w0 := w0) (K := K) 83 A q c l w hlen (by omega)
    (fun w' _ x y => cfSU_any x y w') hM
  refine Calls.mono h ?_
  rintro e w' ⟨l', rfl, rfl, hM'⟩
  exact ⟨(), rfl, trivial, hM'⟩
theorem cfSO_any (x y : SSus) (w : World) : Calls Tryz.prog 133 #[.agg x.enc.toArray, .agg y.enc.toArray] w fun e w' => e = .returned (.int .i64 (cfU x y)) ∧ Below w.heap.size w w' := by
  refine enter_args (args := [.agg #[str x.id, .int .i64 x.n], .agg #[str y.id, .int .i64 y.n]]) (F := _) Tryz.func133 rfl Tryz.ntmps133 rfl rfl ?_
  intro Rb hRb hRn
  refine T_seq ?_
  refine T_region ?_
  refine S_box 2 2 rfl rfl rfl rfl rfl ?_
  intro b2
  refine S_box 3 3 rfl rfl rfl rfl rfl ?_
  intro b3
  refine S_ 4 rfl rfl rfl _ (y_assign rfl rfl) ?_
  refine S_go (fun _ _ h => h) ?_
  refine T_seq ?_
  refine T_drawsTail 10 (by kernel_rfl) (by kernel_rfl) ?_
  refine D_ 5 rfl rfl rfl _ (y_fieldAddr rfl rfl fa83_1) ?_
  refine D_ 6 rfl rfl rfl _ (y_load 3 rfl rfl rfl rfl Tryz.underlying3 rfl) ?_
  refine D_ 7 rfl rfl rfl _ (y_fieldAddr rfl rfl fa83_1) ?_
  refine D_ 8 rfl rfl rfl _ (y_load 2 rfl rfl rfl rfl Tryz.underlying3 rfl) ?_
  refine D_ 9 rfl rfl rfl _ (y_call rfl rfl rfl cf97 (fun _ w _ => cmpJ_any _ _ w)) ?_
  refine D_ 10 rfl rfl rfl _ (y_fieldAddr rfl rfl fa83_0) ?_
  refine D_ 11 rfl rfl rfl _ (y_load 2 rfl rfl rfl rfl Tryz.underlying9 rfl) ?_
  refine D_ 12 rfl rfl rfl _ (y_fieldAddr rfl rfl fa83_0) ?_
  refine D_ 13 rfl rfl rfl _ (y_load 3 rfl rfl rfl rfl Tryz.underlying9 rfl) ?_
  refine D_ 14 rfl rfl rfl _ (y_call rfl rfl rfl cf96 (fun _ w _ => cmpB_any _ _ w)) ?_
  refine D_tail ?_
  refine S_buildSlice 15 15 rfl rfl rfl rfl rfl Tryz.underlying142 inf3 rfl (by decide) (by decide) rfl rfl (by decide) rfl (_) rfl ?_
  intro b15
  refine S_ 16 rfl rfl rfl _ (y_call rfl rfl rfl cf95 (fun _ w hM => or2_any _ _ (cmpJ y.n x.n) (cmpB x.id y.id) w ⟨own_reads hM (i := 15) rfl, rfl⟩)) ?_
  refine S_ 4 rfl rfl rfl _ (y_assign rfl rfl) ?_
  refine S_go (fun _ _ h => h) ?_
  refine T_ret (fun a w hF hM => hRb a w (post1 rfl rfl (fun w hM => ?_) a w hF hM))
  exact ⟨rfl, hM.below⟩
theorem sortSO_any {w0 : World} {K : HL} (A : Option Addr) (q c : Nat) (l : List SSus) (w : World) (hlen : l.length = q) (hq : q ≤ 1000000)
    (hM : Mem w0 ([(0, .own 83 2 (.slice A q c) q (l.flatMap SSus.enc))] ++ K) w) :
    Calls Tryz.prog 125 #[.slice A q c, .func (.func 133) #[] #[]] w fun e w' => ∃ u : Unit, e = .returned (.tuple #[]) ∧ True ∧ Mem w0 ([(0, .own 83 2 (.slice A q c) q ((pdqL cfU l).flatMap SSus.enc))] ++ K) w' := by
  have h := sort_ownX Tryz.laysSort125 (k := 2) (enc := SSus.enc) Tryz.isAgg83 Tryz.sizeOf83 (fun _ => rfl)
    (fun x v hv => by simp only [SSus.enc, List.mem_cons, List.not_mem_nil, or_false] at hv; rcases hv with rfl | rfl <;> rfl) cfU swoU 133 #[] cf133 (w0 := w0) (K := K) 83 A q c l w hlen (by omega)
    (fun w' _ x y => cfSO_any x y w') hM
  refine Calls.mono h ?_
  rintro e w' ⟨l', rfl, rfl, hM'⟩
  exact ⟨(), rfl, trivial, hM'⟩
def SSus.eqB (a b : SSus) : Bool := decide (a.id = b.id) && decide (a.n = b.n)
theorem SSus.eqB_refl (a : SSus) : SSus.eqB a a = true := by simp [SSus.eqB]
theorem EqualSu_any (A B : Option Addr) (q c p d : Nat) (l m : List SSus) (w : World) (hl : SlT SSus.enc 2 w A q l) (hm : SlT SSus.enc 2 w B p m) (hq : q ≤ 4611686018427387904) (hp : p ≤ 4611686018427387904) :
    Calls Tryz.prog 136 #[.slice A q c, .slice B p d] w fun e w' => e = .returned (.bool (eqLB SSus.eqB l m)) ∧ Below w.heap.size w w' := by
  have hlen := hl.len
  have hmen := hm.len
  refine enter_args (args := [.slice A q c, .slice B p d]) (F := _) Tryz.func136 rfl Tryz.ntmps136 rfl rfl ?_
  intro Rb hRb hRn
  refine T_seq ?_
  refine T_region ?_
  refine S_ 4 rfl rfl rfl _ (y_assign rfl rfl) ?_
  refine S_go (fun _ _ h => h) ?_
  refine T_seq ?_
  refine T_seq ?_
  refine T_region ?_
  refine S_ 6 rfl rfl rfl _ (y_move rfl rfl) ?_
  refine S_ 7 rfl rfl rfl _ (y_len_slice rfl rfl Tryz.underlying75) ?_
  refine S_ 8 rfl rfl rfl _ (y_move rfl rfl) ?_
  refine S_ 9 rfl rfl rfl _ (y_len_slice rfl rfl Tryz.underlying75) ?_
  refine S_ 10 rfl rfl rfl _ (y_bin rfl rfl rfl (fun _ => b_neq)) ?_
  refine S_go (fun _ _ h => h) ?_
  refine T_cond rfl (fun h10 => ?_) (fun h10 => ?_)
  · try simp only [decide_eq_true_eq, decide_eq_false_iff_not, Bool.or_eq_true, Bool.or_eq_false_iff, Bool.and_eq_true, Bool.and_eq_false_iff, Bool.not_eq_true', Bool.not_eq_false', Bool.not_eq_true, Bool.not_eq_false, Bool.not_true, Bool.not_false, Int.not_lt, Int.not_le, not_or, not_and, Classical.not_not] at h10
    refine T_seq ?_
    refine T_region ?_
    refine S_ 4 rfl rfl rfl _ (y_assign rfl rfl) ?_
    refine S_go (fun _ _ h => h) ?_
    refine T_ret (fun a w hF hM => hRb a w (post1 rfl rfl (fun w hM => ?_) a w hF hM))
    exact ⟨by rw [eqLB_len l m (by omega)], hM.below⟩
  · try simp only [decide_eq_true_eq, decide_eq_false_iff_not, Bool.or_eq_true, Bool.or_eq_false_iff, Bool.and_eq_true, Bool.and_eq_false_iff, Bool.not_eq_true', Bool.not_eq_false', Bool.not_eq_true, Bool.not_eq_false, Bool.not_true, Bool.not_false, Int.not_lt, Int.not_le, not_or, not_and, Classical.not_not] at h10
    refine T_skip_go (fun _ _ h => h) ?_
    refine T_seq ?_
    refine T_seq ?_
    refine T_region ?_
    refine S_ 11 rfl rfl rfl _ (y_move rfl rfl) ?_
    refine S_ 12 rfl rfl rfl _ (y_len_slice rfl rfl Tryz.underlying75) ?_
    refine S_ 13 rfl rfl rfl _ (y_move rfl rfl) ?_
    refine S_go (fun _ _ h => h) ?_
    refine T_block ?_
    refine T_loopK1 (kf := [(4, 5), (13, 25)]) (kl := [(4, 5), (13, 25)]) (fun (i : Nat) => [(13, true, .int .i64 (i : Int))]) (fun (i : Nat) => []) (fun (i : Nat) => i ≤ q ∧ eqLB SSus.eqB l m = eqLB SSus.eqB (l.drop i) (m.drop i)) (fun (i : Nat) => q - i) 0 (by repeat (first | exact kf_nil | (apply kf_in; focus rfl) | (apply kf_out; focus rfl))) (by repeat (first | exact kl_nil | exact kl_rest (by assumption) rfl | (apply kl_in; focus rfl) | (apply kl_out; focus rfl))) ?_ ?_ ?_ ?_
    · exact ⟨by omega, rfl⟩
    · exact ⟨rfl, trivial⟩
    · exact trivial
    rintro i ⟨hp1, hp2⟩
    refine T_seq ?_
    refine T_region ?_
    refine S_ 14 rfl rfl rfl _ (y_bin rfl rfl rfl (fun _ => b_lss)) ?_
    refine S_go (fun _ _ h => h) ?_
    refine T_seq ?_
    refine T_cond rfl (fun h14 => ?_) (fun h14 => ?_)
    · try simp only [decide_eq_true_eq, decide_eq_false_iff_not, Bool.or_eq_true, Bool.or_eq_false_iff, Bool.and_eq_true, Bool.and_eq_false_iff, Bool.not_eq_true', Bool.not_eq_false', Bool.not_eq_true, Bool.not_eq_false, Bool.not_true, Bool.not_false, Int.not_lt, Int.not_le, not_or, not_and, Classical.not_not] at h14
      obtain ⟨a, hx1, hx2⟩ := hl.at (i := i) (by omega)
      obtain ⟨b, hy1, hy2⟩ := hm.at (i := i) (by omega)
      refine T_skip_go (fun _ _ h => h) ?_
      refine T_seq ?_
      refine T_block ?_
      refine T_seq ?_
      refine T_region ?_
      refine S_ 15 rfl rfl rfl _ (y_move rfl rfl) ?_
      refine S_ 5 rfl rfl rfl _ (y_assign rfl rfl) ?_
      refine S_go (fun _ _ h => h) ?_
      refine T_seq ?_
      refine T_draws (by kernel_rfl) (by kernel_rfl) ?_
      refine D_ 16 rfl rfl rfl _ (y_move rfl rfl) ?_
      refine D_ 17 rfl rfl rfl _ (y_move rfl rfl) ?_
      refine D_ 18 rfl rfl rfl _ (y_indexAddr rfl rfl rfl Tryz.underlying75 sz83 (fun hg => hl.isSome (by omega)) (fun _ => by omega)) ?_
      refine D_ 19 rfl rfl rfl _ (y_loadT rfl rfl hl (fun _ => rfl) (fun _ => hx1) Tryz.underlying83 rfl sz83) ?_
      refine D_ 20 rfl rfl rfl _ (y_move rfl rfl) ?_
      refine D_ 21 rfl rfl rfl _ (y_move rfl rfl) ?_
      refine D_ 22 rfl rfl rfl _ (y_indexAddr rfl rfl rfl Tryz.underlying75 sz83 (fun hg => hm.isSome (by omega)) (fun _ => by omega)) ?_
      refine D_ 23 rfl rfl rfl _ (y_loadT rfl rfl hm (fun _ => rfl) (fun _ => hy1) Tryz.underlying83 rfl sz83) ?_
      refine D_ 24 rfl rfl rfl _ (y_as (v' := .bool (!(SSus.eqB a b))) (by simp [SSus.eqB, str]) (y_bin rfl rfl rfl (fun _ => b_neqA (rs := [_, _]) Tryz.underlying83 (by kernel_rfl) (by kernel_rfl) ⟨by decide, ⟨_, Tryz.underlying9, rfl, _, _, rfl, rfl, rfl⟩, by decide, ⟨_, Tryz.underlying3, rfl, _, _, rfl, rfl, rfl⟩, trivial⟩))) ?_
      refine D_go (fun _ _ h => h) ?_
      refine T_cond rfl (fun h24 => ?_) (fun h24 => ?_)
      · skip
        have h24e : SSus.eqB a b = false := by simpa using h24
        refine T_seq ?_
        refine T_region ?_
        refine S_ 4 rfl rfl rfl _ (y_assign rfl rfl) ?_
        refine S_go (fun _ _ h => h) ?_
        refine T_ret (fun a w hF hM => hRb a w (post1 rfl rfl (fun w hM => ?_) a w hF hM))
        exact ⟨by rw [hp2, hx2, hy2, eqLB, h24e, Bool.false_and], hM.below⟩
      · skip
        have h24e : SSus.eqB a b = true := by simpa using h24
        refine T_skip_go (fun _ _ h => h) ?_
        refine T_region ?_
        refine S_ 25 rfl rfl rfl _ (y_bin rfl rfl rfl (fun hg => b_add (by omega))) ?_
        refine S_ 13 rfl rfl rfl _ (y_move rfl rfl) ?_
        refine S_nil (nextK1 (kf := [(4, 5), (13, 25)]) (kl := [(4, 5), (13, 25)]) (i + 1) (by repeat (first | exact kf_nil | (apply kf_in; focus rfl) | (apply kf_out; focus rfl))) (by repeat (first | exact kl_nil | exact kl_rest (by assumption) rfl | (apply kl_in; focus rfl) | (apply kl_out; focus rfl))) ?_ ?_ ?_ ?_)
        · omega
        · exact ⟨by omega, by rw [hp2, hx2, hy2, eqLB, h24e, Bool.true_and]⟩
        · exact ⟨rfl, trivial⟩
        · exact trivial
    · try simp only [decide_eq_true_eq, decide_eq_false_iff_not, Bool.or_eq_true, Bool.or_eq_false_iff, Bool.and_eq_true, Bool.and_eq_false_iff, Bool.not_eq_true', Bool.not_eq_false', Bool.not_eq_true, Bool.not_eq_false, Bool.not_true, Bool.not_false, Int.not_lt, Int.not_le, not_or, not_and, Classical.not_not] at h14
      refine T_exit_go (fun _ _ h => h) ?_
      refine T_seq ?_
      refine T_region ?_
      refine S_ 4 rfl rfl rfl _ (y_assign rfl rfl) ?_
      refine S_go (fun _ _ h => h) ?_
      refine T_ret (fun a w hF hM => hRb a w (post1 rfl rfl (fun w hM => ?_) a w hF hM))
      exact ⟨by rw [hp2, hl.end (by omega), hm.end (by omega)]; rfl, hM.below⟩
theorem nilSu {w : World} : SlT SSus.enc 2 w none 0 [] := ⟨⟨by simp, fun h => by simp at h⟩, rfl⟩
theorem listedSu_any (A B : Option Addr) (q c p d : Nat) (l m : List SSus) (e x : Int) (w : World) (hl : SlT SSus.enc 2 w A q l) (hm : SlT SSus.enc 2 w B p m) (hq : q ≤ 4611686018427387904) (hp : p ≤ 4611686018427387904) (he : e = x) (hz : x ≠ 0 → l = []) (h0 : x = 0 → m = l) :
    Calls Tryz.prog 49 #[.slice A q c, .int .i64 e, .slice B p d, .int .i64 x] w fun e w' => e = .returned (.bool true) ∧ Below w.heap.size w w' := by
  subst he
  refine enter_args (args := [.slice A q c, .int .i64 e, .slice B p d, .int .i64 e]) (F := _) Tryz.func49 rfl Tryz.ntmps49 rfl rfl ?_
  intro Rb hRb hRn
  refine T_seq ?_
  refine T_region ?_
  refine S_ 8 rfl rfl rfl _ (y_assign rfl rfl) ?_
  refine S_go (fun _ _ h => h) ?_
  refine T_seq ?_
  refine T_seq ?_
  refine T_region ?_
  refine S_ 9 rfl rfl rfl _ (y_move rfl rfl) ?_
  refine S_ 10 rfl rfl rfl _ (y_bin rfl rfl rfl (fun _ => b_neq)) ?_
  refine S_go (fun _ _ h => h) ?_
  refine T_cond rfl (fun h10 => ?_) (fun h10 => ?_)
  · try simp only [decide_eq_true_eq, decide_eq_false_iff_not, Bool.or_eq_true, Bool.or_eq_false_iff, Bool.and_eq_true, Bool.and_eq_false_iff, Bool.not_eq_true', Bool.not_eq_false', Bool.not_eq_true, Bool.not_eq_false, Bool.not_true, Bool.not_false, Int.not_lt, Int.not_le, not_or, not_and, Classical.not_not] at h10
    refine T_region ?_
    refine S_nilSlice 2 (e := 83) (size := 2) ?_
    refine S_ 2 rfl rfl rfl _ (y_assign rfl rfl) ?_
    refine S_go (fun _ _ h => h) ?_
    refine T_seq ?_
    refine T_region ?_
    refine S_ 11 rfl rfl rfl _ (y_move rfl rfl) ?_
    refine S_ 12 rfl rfl rfl _ (y_move rfl rfl) ?_
    refine S_ 13 rfl rfl rfl _ (y_call rfl rfl rfl cf136 (fun _ w hM => EqualSu_any _ _ _ _ _ _ l [] w (hl.below hM.below) nilSu hq (by omega))) ?_
    refine S_ 14 rfl rfl rfl _ (y_move rfl rfl) ?_
    refine Sg_ 15 rfl rfl rfl rfl rfl rfl _ (y_move rfl rfl) ?_
    refine Sg_ 16 rfl rfl rfl rfl rfl rfl _ (y_move rfl rfl) ?_
    refine Sg_ 17 rfl rfl rfl rfl rfl rfl _ (y_bin rfl rfl rfl (fun _ => b_eql)) ?_
    refine S_ 18 rfl rfl rfl _ (y_and rfl rfl rfl) ?_
    refine S_ 8 rfl rfl rfl _ (y_assign rfl rfl) ?_
    refine S_go (fun _ _ h => h) ?_
    refine T_ret (fun a w hF hM => hRb a w (post1 rfl rfl (fun w hM => ?_) a w hF hM))
    exact ⟨by rw [hz h10]; simp [eqLB], hM.below⟩
  · try simp only [decide_eq_true_eq, decide_eq_false_iff_not, Bool.or_eq_true, Bool.or_eq_false_iff, Bool.and_eq_true, Bool.and_eq_false_iff, Bool.not_eq_true', Bool.not_eq_false', Bool.not_eq_true, Bool.not_eq_false, Bool.not_true, Bool.not_false, Int.not_lt, Int.not_le, not_or, not_and, Classical.not_not] at h10
    refine T_skip_go (fun _ _ h => h) ?_
    refine T_seq ?_
    refine T_region ?_
    refine S_ 11 rfl rfl rfl _ (y_move rfl rfl) ?_
    refine S_ 12 rfl rfl rfl _ (y_move rfl rfl) ?_
    refine S_ 13 rfl rfl rfl _ (y_call rfl rfl rfl cf136 (fun _ w hM => EqualSu_any _ _ _ _ _ _ l m w (hl.below hM.below) (hm.below hM.below) hq hp)) ?_
    refine S_ 14 rfl rfl rfl _ (y_move rfl rfl) ?_
    refine Sg_ 15 rfl rfl rfl rfl rfl rfl _ (y_move rfl rfl) ?_
    refine Sg_ 16 rfl rfl rfl rfl rfl rfl _ (y_move rfl rfl) ?_
    refine Sg_ 17 rfl rfl rfl rfl rfl rfl _ (y_bin rfl rfl rfl (fun _ => b_eql)) ?_
    refine S_ 18 rfl rfl rfl _ (y_and rfl rfl rfl) ?_
    refine S_ 8 rfl rfl rfl _ (y_assign rfl rfl) ?_
    refine S_go (fun _ _ h => h) ?_
    refine T_ret (fun a w hF hM => hRb a w (post1 rfl rfl (fun w hM => ?_) a w hF hM))
    exact ⟨by rw [h0 h10, eqL_refl SSus.eqB_refl]; simp, hM.below⟩
end Go.Proofs.YtpmlgnbbkpplhaaGreatDoor
end
section
namespace Go.Proofs.YtpmlgnbbkpplhaaGreatDoor
set_option linter.unusedSimpArgs false
set_option linter.unusedVariables false
set_option maxRecDepth 20000
open Go.RowKit Go.Eng
end Go.Proofs.YtpmlgnbbkpplhaaGreatDoor
end
section
namespace Go.Proofs.YtpmlgnbbkpplhaaGreatDoor
set_option linter.unusedSimpArgs false
set_option linter.unusedVariables false
set_option maxRecDepth 20000
open Go.RowKit Go.Eng
def firstI (l : List Int) : Int := (l.find? fun x => decide (x ≠ 0)).getD 0
theorem firstG_any (A : Option Addr) (q c : Nat) (l : List Int) (w : World) (hl : SlT iE 1 w A q l) (hq : q ≤ 1000) : Calls Tryz.prog 12 #[.slice A q c] w fun e w' => e = .returned (.int .i64 (firstI l)) ∧ Below w.heap.size w w' := by
  have hlen := hl.len
  refine enter_args (args := [.slice A q c]) (F := _) Tryz.func12 rfl Tryz.ntmps12 rfl rfl ?_
  intro Rb hRb hRn
  refine T_seq ?_
  refine T_region ?_
  refine S_ 2 rfl rfl rfl _ (y_assign rfl rfl) ?_
  refine S_go (fun _ _ h => h) ?_
  refine T_seq ?_
  refine T_seq ?_
  refine T_region ?_
  refine S_ 5 rfl rfl rfl _ (y_move rfl rfl) ?_
  refine S_ 6 rfl rfl rfl _ (y_len_slice rfl rfl Tryz.underlying100) ?_
  refine S_ 7 rfl rfl rfl _ (y_move rfl rfl) ?_
  refine S_go (fun _ _ h => h) ?_
  refine T_block ?_
  refine T_loopK1 (kf := [(2, 2), (4, 4), (7, 14)]) (kl := [(2, 2), (4, 4), (7, 14)]) (fun (i : Nat) => [(7, true, .int .i64 (i : Int))]) (fun (i : Nat) => []) (fun (i : Nat) => i ≤ q ∧ firstI l = firstI (l.drop i)) (fun (i : Nat) => q - i) 0 (by repeat (first | exact kf_nil | (apply kf_in; focus rfl) | (apply kf_out; focus rfl))) (by repeat (first | exact kl_nil | exact kl_rest (by assumption) rfl | (apply kl_in; focus rfl) | (apply kl_out; focus rfl))) ?_ ?_ ?_ ?_
  · exact ⟨by omega, rfl⟩
  · exact ⟨rfl, trivial⟩
  · exact trivial
  rintro i ⟨hp1, hp2⟩
  refine T_seq ?_
  refine T_region ?_
  refine S_ 8 rfl rfl rfl _ (y_bin rfl rfl rfl (fun _ => b_lss)) ?_
  refine S_go (fun _ _ h => h) ?_
  refine T_seq ?_
  refine T_cond rfl (fun h8 => ?_) (fun h8 => ?_)
  · try simp only [decide_eq_true_eq, decide_eq_false_iff_not, Bool.or_eq_true, Bool.or_eq_false_iff, Bool.and_eq_true, Bool.and_eq_false_iff, Bool.not_eq_true', Bool.not_eq_false', Bool.not_eq_true, Bool.not_eq_false, Bool.not_true, Bool.not_false, Int.not_lt, Int.not_le, not_or, not_and, Classical.not_not] at h8
    obtain ⟨x, hx1, hx2⟩ := hl.at (i := i) (by omega)
    refine T_skip_go (fun _ _ h => h) ?_
    refine T_seq ?_
    refine T_block ?_
    refine T_seq ?_
    refine T_region ?_
    refine S_ 9 rfl rfl rfl _ (y_indexAddr rfl rfl rfl Tryz.underlying100 sz30 (fun hg => hl.isSome (by omega)) (fun _ => by omega)) ?_
    refine S_ 10 rfl rfl rfl _ (y_loadT1 (val := (fun n : Int => Value.int .i64 n)) rfl rfl hl (fun _ => hx1) Tryz.underlying30 rfl) ?_
    refine S_ 4 rfl rfl rfl _ (y_assign rfl rfl) ?_
    refine S_go (fun _ _ h => h) ?_
    refine T_seq ?_
    refine T_region ?_
    refine S_ 11 rfl rfl rfl _ (y_move rfl rfl) ?_
    refine S_ 12 rfl rfl rfl _ (y_bin rfl rfl rfl (fun _ => b_neq)) ?_
    refine S_go (fun _ _ h => h) ?_
    refine T_cond rfl (fun h12 => ?_) (fun h12 => ?_)
    · try simp only [decide_eq_true_eq, decide_eq_false_iff_not, Bool.or_eq_true, Bool.or_eq_false_iff, Bool.and_eq_true, Bool.and_eq_false_iff, Bool.not_eq_true', Bool.not_eq_false', Bool.not_eq_true, Bool.not_eq_false, Bool.not_true, Bool.not_false, Int.not_lt, Int.not_le, not_or, not_and, Classical.not_not] at h12
      refine T_seq ?_
      refine T_region ?_
      refine S_ 13 rfl rfl rfl _ (y_move rfl rfl) ?_
      refine S_ 2 rfl rfl rfl _ (y_assign rfl rfl) ?_
      refine S_go (fun _ _ h => h) ?_
      refine T_ret (fun a w hF hM => hRb a w (post1 rfl rfl (fun w hM => ?_) a w hF hM))
      exact ⟨by rw [hp2, hx2, firstI, List.find?_cons_of_pos (by simpa using h12)]; rfl, hM.below⟩
    · try simp only [decide_eq_true_eq, decide_eq_false_iff_not, Bool.or_eq_true, Bool.or_eq_false_iff, Bool.and_eq_true, Bool.and_eq_false_iff, Bool.not_eq_true', Bool.not_eq_false', Bool.not_eq_true, Bool.not_eq_false, Bool.not_true, Bool.not_false, Int.not_lt, Int.not_le, not_or, not_and, Classical.not_not] at h12
      refine T_skip_go (fun _ _ h => h) ?_
      refine T_region ?_
      refine S_ 14 rfl rfl rfl _ (y_bin rfl rfl rfl (fun hg => b_add (by omega))) ?_
      refine S_ 7 rfl rfl rfl _ (y_move rfl rfl) ?_
      refine S_nil (nextK1 (kf := [(2, 2), (4, 4), (7, 14)]) (kl := [(2, 2), (4, 4), (7, 14)]) (i + 1) (by repeat (first | exact kf_nil | (apply kf_in; focus rfl) | (apply kf_out; focus rfl))) (by repeat (first | exact kl_nil | exact kl_rest (by assumption) rfl | (apply kl_in; focus rfl) | (apply kl_out; focus rfl))) ?_ ?_ ?_ ?_)
      · omega
      · exact ⟨by omega, by rw [hp2, hx2, firstI, List.find?_cons_of_neg (by simpa using h12)]; rfl⟩
      · exact ⟨rfl, trivial⟩
      · exact trivial
  · try simp only [decide_eq_true_eq, decide_eq_false_iff_not, Bool.or_eq_true, Bool.or_eq_false_iff, Bool.and_eq_true, Bool.and_eq_false_iff, Bool.not_eq_true', Bool.not_eq_false', Bool.not_eq_true, Bool.not_eq_false, Bool.not_true, Bool.not_false, Int.not_lt, Int.not_le, not_or, not_and, Classical.not_not] at h8
    refine T_exit_go (fun _ _ h => h) ?_
    refine T_seq ?_
    refine T_region ?_
    refine S_ 2 rfl rfl rfl _ (y_assign rfl rfl) ?_
    refine S_go (fun _ _ h => h) ?_
    refine T_ret (fun a w hF hM => hRb a w (post1 rfl rfl (fun w hM => ?_) a w hF hM))
    exact ⟨by rw [hp2, hl.end (by omega)]; rfl, hM.below⟩
end Go.Proofs.YtpmlgnbbkpplhaaGreatDoor
end
