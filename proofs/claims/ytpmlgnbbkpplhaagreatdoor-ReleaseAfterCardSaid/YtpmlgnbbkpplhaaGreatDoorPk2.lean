/- Part 2, merged by a program. parse, Parse, Text and what they stand on, walked. Conditions: those of each theorem. Compare, walked, and versions as they lie in memory. Conditions: those of each theorem. The reference's VersionOf, VersionText, VersionsCompare, SameVersion, walked. Conditions: those of each theorem. Lists of releases sorted, made compact, and the best one of them: plain lists. No program in sight. strings.Builder: what its methods do to a builder that the caller has made. Conditions: those of each theorem. parseAll, ContainsFunc at versions, and what the reference says of a list of releases, walked. Conditions: those of each theorem. Versions and texts sorted, texts made compact: contracts over rows of ours. Conditions: those of each theorem. -/
import Derived.Test.YtpmlgnbbkpplhaaGreatDoorSjn
import Derived.Test.YtpmlgnbbkpplhaaGreatDoorPermg
import Derived.Test.YtpmlgnbbkpplhaaGreatDoorSorta
import Derived.Lib.SlicesCompact
import Derived.Test.YtpmlgnbbkpplhaaGreatDoorBld
import Derived.Test.YtpmlgnbbkpplhaaGreatDoorLem
import Derived.Test.YtpmlgnbbkpplhaaGreatDoorMany
import Derived.Test.YtpmlgnbbkpplhaaGreatDoorSlsf
import Derived.Test.YtpmlgnbbkpplhaaGreatDoorSlst
import Derived.Test.YtpmlgnbbkpplhaaGreatDoorPk1
section
namespace Go.Proofs.YtpmlgnbbkpplhaaGreatDoor
set_option linter.unusedSimpArgs false
set_option linter.unusedVariables false
set_option maxRecDepth 20000
open Go.RowKit Go.Eng
theorem nilS {w : World} : SlT strE 1 w none 0 [] := ⟨⟨by simp, fun h => by simp at h⟩, rfl⟩
theorem TrimLet_any (s : List UInt8) (hs : s.length ≤ 1000000000) (w : World) : Calls Tryz.prog 84 #[str s, str letB] w fun e w' => e = .returned (str (Lib.trimS s letB)) ∧ Below w.heap.size w w' :=
  Any.strings_Trim_laid Tryz.lays160 (by kernel_rfl) ⟨s.toArray⟩ ⟨letB.toArray⟩ w (by rw [Lib.size_eq]; simp; omega) (by decide) (ascii_of_all (by decide))
theorem allOfL_any (s : List UInt8) (hs : s.length ≤ 1000000000) (w : World) : Calls Tryz.prog 189 #[str s, str letB] w fun e w' => e = .returned (.bool (allOf s letB)) ∧ Below w.heap.size w w' := by
  refine enter_args (args := [str s, str letB]) (F := _) Tryz.func189 rfl Tryz.ntmps189 rfl rfl ?_
  intro Rb hRb hRn
  refine T_seq ?_
  refine T_region ?_
  refine S_ 4 rfl rfl rfl _ (y_assign rfl rfl) ?_
  refine S_go (fun _ _ h => h) ?_
  refine T_seq ?_
  refine T_region ?_
  refine S_ 5 rfl rfl rfl _ (y_move rfl rfl) ?_
  refine S_ 6 rfl rfl rfl _ (y_bin rfl rfl rfl (fun _ => b_neqs)) ?_
  refine S_ 7 rfl rfl rfl _ (y_move rfl rfl) ?_
  refine Sg_ 8 rfl rfl rfl rfl rfl rfl _ (y_move rfl rfl) ?_
  refine Sg_ 9 rfl rfl rfl rfl rfl rfl _ (y_move rfl rfl) ?_
  refine Sg_ 10 rfl rfl rfl rfl rfl rfl _ (y_call rfl rfl rfl cf84 (fun _ w _ => TrimLet_any s hs w)) ?_
  refine Sg_ 11 rfl rfl rfl rfl rfl rfl _ (y_bin rfl rfl rfl (fun _ => b_eqls)) ?_
  refine S_ 12 rfl rfl rfl _ (y_and rfl rfl rfl) ?_
  refine S_ 4 rfl rfl rfl _ (y_assign rfl rfl) ?_
  refine S_go (fun _ _ h => h) ?_
  refine T_ret (fun a w hF hM => hRb a w (post1 rfl rfl (fun w hM => ?_) a w hF hM))
  exact ⟨rfl, hM.below⟩
theorem isPre_any (s : List UInt8) (hs : s.length ≤ 1000000000) (w : World) : Calls Tryz.prog 89 #[str s] w fun e w' => e = .returned (.bool (isPreB s)) ∧ Below w.heap.size w w' := by
  refine enter_args (args := [str s]) (F := _) Tryz.func89 rfl Tryz.ntmps89 rfl rfl ?_
  intro Rb hRb hRn
  refine T_seq ?_
  refine T_region ?_
  refine S_ 2 rfl rfl rfl _ (y_assign rfl rfl) ?_
  refine S_go (fun _ _ h => h) ?_
  refine T_seq ?_
  refine T_seq ?_
  refine T_region ?_
  refine S_ 5 rfl rfl rfl _ (y_move rfl rfl) ?_
  refine S_ 6 rfl rfl rfl _ (y_call rfl rfl rfl cf189 (fun _ w _ => allOfD_any s hs w)) ?_
  refine S_go (fun _ _ h => h) ?_
  refine T_cond rfl (fun h6 => ?_) (fun h6 => ?_)
  · skip
    refine T_seq ?_
    refine T_region ?_
    refine S_ 8 rfl rfl rfl _ (y_move rfl rfl) ?_
    refine S_ 9 rfl rfl rfl _ (y_call rfl rfl rfl cf190 (fun _ w _ => number_any s hs w)) ?_
    refine S_ 7 rfl rfl rfl _ (y_move rfl rfl) ?_
    refine S_ 10 rfl rfl rfl _ (y_extract rfl rfl rfl) ?_
    refine S_ 11 rfl rfl rfl _ (y_extract rfl rfl rfl) ?_
    refine S_ 3 rfl rfl rfl _ (y_assign rfl rfl) ?_
    refine S_ 4 rfl rfl rfl _ (y_assign rfl rfl) ?_
    refine S_go (fun _ _ h => h) ?_
    refine T_seq ?_
    refine T_region ?_
    refine S_ 12 rfl rfl rfl _ (y_move rfl rfl) ?_
    refine S_ 2 rfl rfl rfl _ (y_assign rfl rfl) ?_
    refine S_go (fun _ _ h => h) ?_
    refine T_ret (fun a w hF hM => hRb a w (post1 rfl rfl (fun w hM => ?_) a w hF hM))
    exact ⟨by rw [isPreB, if_pos h6]; rfl, hM.below⟩
  · skip
    refine T_skip_go (fun _ _ h => h) ?_
    refine T_seq ?_
    refine T_region ?_
    refine S_ 13 rfl rfl rfl _ (y_move rfl rfl) ?_
    refine S_ 14 rfl rfl rfl _ (y_call rfl rfl rfl cf189 (fun _ w _ => allOfL_any s hs w)) ?_
    refine S_ 2 rfl rfl rfl _ (y_assign rfl rfl) ?_
    refine S_go (fun _ _ h => h) ?_
    refine T_ret (fun a w hF hM => hRb a w (post1 rfl rfl (fun w hM => ?_) a w hF hM))
    exact ⟨by rw [isPreB, if_neg (by simp [h6])], hM.below⟩
theorem parse1_any (s : List UInt8) (hs : s.length ≤ 1000000000) (w : World) : Calls Tryz.prog 200 #[str s] w fun e w' => e = .returned (.bool (!isPreB s)) ∧ Below w.heap.size w w' := by
  refine enter_args (args := [str s]) (F := _) Tryz.func200 rfl Tryz.ntmps200 rfl rfl ?_
  intro Rb hRb hRn
  refine T_seq ?_
  refine T_region ?_
  refine S_ 2 rfl rfl rfl _ (y_assign rfl rfl) ?_
  refine S_go (fun _ _ h => h) ?_
  refine T_seq ?_
  refine T_region ?_
  refine S_ 3 rfl rfl rfl _ (y_move rfl rfl) ?_
  refine S_ 4 rfl rfl rfl _ (y_call rfl rfl rfl cf89 (fun _ w _ => isPre_any s hs w)) ?_
  refine S_ 5 rfl rfl rfl _ (y_not rfl rfl) ?_
  refine S_ 2 rfl rfl rfl _ (y_assign rfl rfl) ?_
  refine S_go (fun _ _ h => h) ?_
  refine T_ret (fun a w hF hM => hRb a w (post1 rfl rfl (fun w hM => ?_) a w hF hM))
  exact ⟨rfl, hM.below⟩
theorem Text1_any (s : List UInt8) (hs : s.length ≤ 1000000000) (w : World) : Calls Tryz.prog 88 #[str s] w fun e w' => e = .returned (.bool (!isPreB s)) ∧ Below w.heap.size w w' := by
  refine enter_args (args := [str s]) (F := _) Tryz.func88 rfl Tryz.ntmps88 rfl rfl ?_
  intro Rb hRb hRn
  refine T_seq ?_
  refine T_region ?_
  refine S_ 2 rfl rfl rfl _ (y_assign rfl rfl) ?_
  refine S_go (fun _ _ h => h) ?_
  refine T_seq ?_
  refine T_region ?_
  refine S_ 3 rfl rfl rfl _ (y_move rfl rfl) ?_
  refine S_ 4 rfl rfl rfl _ (y_call rfl rfl rfl cf89 (fun _ w _ => isPre_any s hs w)) ?_
  refine S_ 5 rfl rfl rfl _ (y_not rfl rfl) ?_
  refine S_ 2 rfl rfl rfl _ (y_assign rfl rfl) ?_
  refine S_go (fun _ _ h => h) ?_
  refine T_ret (fun a w hF hM => hRb a w (post1 rfl rfl (fun w hM => ?_) a w hF hM))
  exact ⟨rfl, hM.below⟩
/-- the first place of what answers yes -/
def findP {α : Type} (p : α → Bool) : List α → Nat → Int
  | [], _ => -1
  | x :: r, i => if p x = true then i else findP p r (i + 1)
theorem findP_any {α : Type} (p : α → Bool) : ∀ (l : List α) (i : Nat), (findP p l i < 0 ↔ l.any p = false) ∧ -1 ≤ findP p l i
  | [], i => ⟨⟨fun _ => rfl, fun _ => by show (-1 : Int) < 0; omega⟩, Int.le_refl _⟩
  | x :: r, i => by
    have h := findP_any p r (i + 1)
    rw [findP, List.any_cons]
    cases hp : p x with
    | true => rw [if_pos rfl]; exact ⟨⟨fun h => by omega, fun h => by cases h⟩, by omega⟩
    | false => rw [if_neg (by simp), Bool.false_or]; exact h
theorem IndexFS_any (A : Option Addr) (q c : Nat) (l : List (List UInt8)) (g : FuncId) (cap : Array Value) (p : List UInt8 → Bool) (w : World) (hl : SlT strE 1 w A q l) (hq : q ≤ 4611686018427387904) (hcf : ∀ args w, (callFunc g args).run Tryz.prog w = .ok (.enter g args) w)
    (hA : ∀ x ∈ l, ∀ w', Below w.heap.size w w' → Calls Tryz.prog g (#[str x] ++ cap) w' fun e w'' => e = .returned (.bool (p x)) ∧ Below w'.heap.size w' w'') :
    Calls Tryz.prog 36 #[.slice A q c, .func (.func g) #[] cap] w fun e w' => e = .returned (.int .i64 (findP p l 0)) ∧ Below w.heap.size w w' := by
  refine enter_args (args := [.slice A q c, .func (.func g) #[] cap]) (F := _) Tryz.func36 rfl Tryz.ntmps36 rfl rfl ?_
  intro Rb hRb hRn
  refine T_seq ?_
  refine T_region ?_
  refine S_ 4 rfl rfl rfl _ (y_assign rfl rfl) ?_
  refine S_go (fun _ _ h => h) ?_
  refine T_seq ?_
  refine T_seq ?_
  refine T_region ?_
  refine S_ 6 rfl rfl rfl _ (y_move rfl rfl) ?_
  refine S_ 7 rfl rfl rfl _ (y_len_slice rfl rfl Tryz.underlying40) ?_
  refine S_ 8 rfl rfl rfl _ (y_move rfl rfl) ?_
  refine S_go (fun _ _ h => h) ?_
  refine T_block ?_
  refine T_loopK1 (kf := [(4, 5), (8, 18)]) (kl := [(4, 5), (8, 18)]) (fun (i : Nat) => [(8, true, .int .i64 (i : Int))]) (fun (i : Nat) => []) (fun (i : Nat) => i ≤ q ∧ findP p l 0 = findP p (l.drop i) i) (fun (i : Nat) => q - i) 0 (by repeat (first | exact kf_nil | (apply kf_in; focus rfl) | (apply kf_out; focus rfl))) (by repeat (first | exact kl_nil | exact kl_rest (by assumption) rfl | (apply kl_in; focus rfl) | (apply kl_out; focus rfl))) ?_ ?_ ?_ ?_
  · exact ⟨by omega, rfl⟩
  · exact ⟨rfl, trivial⟩
  · exact trivial
  rintro i ⟨hp1, hp2⟩
  refine T_seq ?_
  refine T_region ?_
  refine S_ 9 rfl rfl rfl _ (y_bin rfl rfl rfl (fun _ => b_lss)) ?_
  refine S_go (fun _ _ h => h) ?_
  refine T_seq ?_
  refine T_cond rfl (fun h9 => ?_) (fun h9 => ?_)
  · try simp only [decide_eq_true_eq, decide_eq_false_iff_not, Bool.or_eq_true, Bool.or_eq_false_iff, Bool.and_eq_true, Bool.and_eq_false_iff, Bool.not_eq_true', Bool.not_eq_false', Bool.not_eq_true, Bool.not_eq_false, Bool.not_true, Bool.not_false, Int.not_lt, Int.not_le, not_or, not_and, Classical.not_not] at h9
    obtain ⟨x, hx1, hx2⟩ := hl.at (i := i) (by omega)
    refine T_skip_go (fun _ _ h => h) ?_
    refine T_seq ?_
    refine T_block ?_
    refine T_seq ?_
    refine T_region ?_
    refine S_ 10 rfl rfl rfl _ (y_move rfl rfl) ?_
    refine S_ 5 rfl rfl rfl _ (y_assign rfl rfl) ?_
    refine S_go (fun _ _ h => h) ?_
    refine T_seq ?_
    refine T_region ?_
    refine S_ 11 rfl rfl rfl _ (y_move rfl rfl) ?_
    refine S_ 12 rfl rfl rfl _ (y_move rfl rfl) ?_
    refine S_ 13 rfl rfl rfl _ (y_move rfl rfl) ?_
    refine S_ 14 rfl rfl rfl _ (y_indexAddr rfl rfl rfl Tryz.underlying40 sz9 (fun hg => hl.isSome (by omega)) (fun _ => by omega)) ?_
    refine S_ 15 rfl rfl rfl _ (y_loadT1 (val := (fun l : List UInt8 => str l)) rfl rfl hl (fun _ => hx1) Tryz.underlying9 rfl) ?_
    refine S_ 16 rfl rfl rfl _ (y_call rfl rfl rfl hcf (fun _ w hM => hA x (mem_at hx1) w hM.below)) ?_
    refine S_go (fun _ _ h => h) ?_
    refine T_cond rfl (fun h16 => ?_) (fun h16 => ?_)
    · skip
      refine T_seq ?_
      refine T_region ?_
      refine S_ 17 rfl rfl rfl _ (y_move rfl rfl) ?_
      refine S_ 4 rfl rfl rfl _ (y_assign rfl rfl) ?_
      refine S_go (fun _ _ h => h) ?_
      refine T_ret (fun a w hF hM => hRb a w (post1 rfl rfl (fun w hM => ?_) a w hF hM))
      exact ⟨by rw [hp2, hx2, findP, if_pos h16], hM.below⟩
    · skip
      refine T_skip_go (fun _ _ h => h) ?_
      refine T_region ?_
      refine S_ 18 rfl rfl rfl _ (y_bin rfl rfl rfl (fun hg => b_add (by omega))) ?_
      refine S_ 8 rfl rfl rfl _ (y_move rfl rfl) ?_
      refine S_nil (nextK1 (kf := [(4, 5), (8, 18)]) (kl := [(4, 5), (8, 18)]) (i + 1) (by repeat (first | exact kf_nil | (apply kf_in; focus rfl) | (apply kf_out; focus rfl))) (by repeat (first | exact kl_nil | exact kl_rest (by assumption) rfl | (apply kl_in; focus rfl) | (apply kl_out; focus rfl))) ?_ ?_ ?_ ?_)
      · omega
      · exact ⟨by omega, by rw [hp2, hx2, findP, if_neg (by simp [h16])]⟩
      · exact ⟨rfl, trivial⟩
      · exact trivial
  · try simp only [decide_eq_true_eq, decide_eq_false_iff_not, Bool.or_eq_true, Bool.or_eq_false_iff, Bool.and_eq_true, Bool.and_eq_false_iff, Bool.not_eq_true', Bool.not_eq_false', Bool.not_eq_true, Bool.not_eq_false, Bool.not_true, Bool.not_false, Int.not_lt, Int.not_le, not_or, not_and, Classical.not_not] at h9
    refine T_exit_go (fun _ _ h => h) ?_
    refine T_seq ?_
    refine T_region ?_
    refine S_ 4 rfl rfl rfl _ (y_assign rfl rfl) ?_
    refine S_go (fun _ _ h => h) ?_
    refine T_ret (fun a w hF hM => hRb a w (post1 rfl rfl (fun w hM => ?_) a w hF hM))
    exact ⟨by rw [hp2, hl.end (by omega)]; rfl, hM.below⟩
theorem ContFS_any (A : Option Addr) (q c : Nat) (l : List (List UInt8)) (g : FuncId) (cap : Array Value) (p : List UInt8 → Bool) (w : World) (hl : SlT strE 1 w A q l) (hq : q ≤ 4611686018427387904) (hcf : ∀ args w, (callFunc g args).run Tryz.prog w = .ok (.enter g args) w)
    (hA : ∀ x ∈ l, ∀ w', Below w.heap.size w w' → Calls Tryz.prog g (#[str x] ++ cap) w' fun e w'' => e = .returned (.bool (p x)) ∧ Below w'.heap.size w' w'') :
    Calls Tryz.prog 38 #[.slice A q c, .func (.func g) #[] cap] w fun e w' => e = .returned (.bool (l.any p)) ∧ Below w.heap.size w w' := by
  have hf := findP_any p l 0
  have e : l.any p = decide (0 ≤ findP p l 0) := by
    cases h : l.any p with
    | false => rw [decide_eq_false]; have := hf.1.2 h; omega
    | true => rw [decide_eq_true]; rcases Int.lt_or_le (findP p l 0) 0 with h1 | h1
              · rw [hf.1.1 h1] at h; cases h
              · exact h1
  rw [e]
  refine enter_args (args := [.slice A q c, .func (.func g) #[] cap]) (F := _) Tryz.func38 rfl Tryz.ntmps38 rfl rfl ?_
  intro Rb hRb hRn
  refine T_seq ?_
  refine T_region ?_
  refine S_ 4 rfl rfl rfl _ (y_assign rfl rfl) ?_
  refine S_go (fun _ _ h => h) ?_
  refine T_seq ?_
  refine T_region ?_
  refine S_ 5 rfl rfl rfl _ (y_move rfl rfl) ?_
  refine S_ 6 rfl rfl rfl _ (y_move rfl rfl) ?_
  refine S_ 7 rfl rfl rfl _ (y_call rfl rfl rfl cf36 (fun _ w hM => IndexFS_any _ _ _ l g cap p w (hl.below hM.below) hq hcf fun x hx w1 hb => hA x hx w1 (hM.below.trans (hb.mono hM.below.size)))) ?_
  refine S_ 8 rfl rfl rfl _ (y_bin rfl rfl rfl (fun _ => b_geq)) ?_
  refine S_ 4 rfl rfl rfl _ (y_assign rfl rfl) ?_
  refine S_go (fun _ _ h => h) ?_
  refine T_ret (fun a w hF hM => hRb a w (post1 rfl rfl (fun w hM => ?_) a w hF hM))
  exact ⟨rfl, hM.below⟩
abbrev pvV (p : PVer) (A : Option Addr) (c : Nat) : Value := .agg #[str p.p, .int .i64 p.a, .int .i64 p.b, .int .i64 p.c, .slice A p.pre.length c]
theorem split_len40 {c : UInt8} {s : List UInt8} (h : s.length ≤ 40) : (splitC c s).length ≤ 41 := by
  have h1 := splitC_len c s
  have h2 : s.count c ≤ s.length := List.count_le_length
  omega
set_option maxHeartbeats 1600000 in
theorem parse_any (s : List UInt8) (w : World) :
    Calls Tryz.prog 101 #[str s] w fun e w' => ∃ A c, e = .returned (.tuple #[pvV (parseR s).1 A c, .bool (parseR s).2]) ∧ w'.ownsRow w.heap.size 9 1 (.slice A (parseR s).1.pre.length c) (parseR s).1.pre.length ((parseR s).1.pre.flatMap strE) ∧ Below w.heap.size w w' := by
  have hge := Lib.indexByte_ge s 46
  refine enter_args (args := [str s]) (F := _) Tryz.func101 rfl Tryz.ntmps101 rfl rfl ?_
  intro Rb hRb hRn
  refine T_seq ?_
  refine T_region ?_
  refine S_alloc 2 2 rfl rfl rfl rfl z42 ?_
  intro b2
  refine S_ 3 rfl rfl rfl _ (y_assign rfl rfl) ?_
  refine S_go (fun _ _ h => h) ?_
  refine T_seq ?_
  refine T_region ?_
  refine S_ 18 rfl rfl rfl _ (y_move rfl rfl) ?_
  refine S_ 19 rfl rfl rfl _ (y_call rfl rfl rfl cf102 (fun _ w _ => IndexByte_any s 46 w)) ?_
  refine S_ 4 rfl rfl rfl _ (y_assign rfl rfl) ?_
  refine S_go (fun _ _ h => h) ?_
  refine T_seq ?_
  refine T_seq ?_
  refine T_region ?_
  refine S_ 20 rfl rfl rfl _ (y_move rfl rfl) ?_
  refine S_ 21 rfl rfl rfl _ (y_bin rfl rfl rfl (fun _ => b_lss)) ?_
  refine S_ 22 rfl rfl rfl _ (y_move rfl rfl) ?_
  refine Sg_ 23 rfl rfl rfl rfl rfl rfl _ (y_move rfl rfl) ?_
  refine Sg_ 24 rfl rfl rfl rfl rfl rfl _ (y_len_str rfl rfl Tryz.underlying9) ?_
  refine Sg_ 25 rfl rfl rfl rfl rfl rfl _ (y_bin rfl rfl rfl (fun _ => b_gtr)) ?_
  refine S_ 26 rfl rfl rfl _ (y_or rfl rfl rfl) ?_
  refine S_go (fun _ _ h => h) ?_
  refine T_cond rfl (fun h26 => ?_) (fun h26 => ?_)
  · skip
    have hr : parseR s = (pver0, false) := by rw [parseR, if_pos h26]
    refine T_seq ?_
    refine T_region ?_
    refine S_ 27 rfl rfl rfl _ (y_build (zv := .agg #[.string ⟨#[]⟩, .int .i64 0, .int .i64 0, .int .i64 0, .slice none 0 0]) (pl := [(0, 1), (1, 1), (2, 1), (3, 1), (4, 1)]) (out := [.string ⟨#[]⟩, .int .i64 0, .int .i64 0, .int .i64 0, .slice none 0 0]) rfl rfl Tryz.underlying42 z42 (by kernel_rfl) rfl) ?_
    refine S_store 2 rfl rfl rfl rfl rfl rfl sz42 rfl rfl ?_
    refine S_ 3 rfl rfl rfl _ (y_assign rfl rfl) ?_
    refine S_go (fun _ _ h => h) ?_
    refine T_ret (fun a w hF hM => hRb a w (post_cell 2 rfl rfl rfl rfl Tryz.underlying42 rfl (by exact sz42) (fun w hM => ?_) a w hF hM))
    rw [hr]
    exact ⟨none, 0, rfl, World.ownsRow_nil _ _ _ _, hM.below⟩
  · skip
    simp only [Bool.or_eq_false_iff, decide_eq_false_iff_not] at h26
    obtain ⟨o, ho⟩ : ∃ o : Nat, Lib.indexByte s 46 = o := ⟨(Lib.indexByte s 46).toNat, by omega⟩
    obtain ⟨ho1, _⟩ := Lib.indexByte_some ho
    have hol := (List.getElem?_eq_some_iff.1 ho1).1
    have hpt : ptN s = o := by rw [ptN, ho]; rfl
    have hpl : (s.take (ptN s)).length = o := by rw [hpt, List.length_take]; omega
    have hlb : lnI s < o ∧ -1 ≤ lnI s := by
      rcases last_spec (s.take (ptN s)) 45 (s.take (ptN s)).length with ⟨h1, _⟩ | ⟨k, h1, h2, _⟩
      · have h1 : lnI s = -1 := h1
        omega
      · have h1 : lnI s = k := h1
        omega
    refine T_skip_go (fun _ _ h => h) ?_
    refine T_seq ?_
    refine T_region ?_
    refine S_ 28 rfl rfl rfl _ (y_move rfl rfl) ?_
    refine S_ 29 rfl rfl rfl _ (y_move rfl rfl) ?_
    refine S_ 30 rfl rfl rfl _ (y_as (v' := str (s.take (ptN s))) (by exact rfl) (y_strTo rfl rfl rfl Tryz.underlying9 (fun _ => by omega))) ?_
    refine S_ 31 rfl rfl rfl _ (y_as (v' := .int .i64 (lnI s)) (by exact rfl) (y_call rfl rfl rfl cf103 (fun _ w _ => SLast_any (s.take (ptN s)) 45 (by rw [List.length_take]; omega) w))) ?_
    refine S_ 5 rfl rfl rfl _ (y_assign rfl rfl) ?_
    refine S_go (fun _ _ h => h) ?_
    refine T_seq ?_
    refine T_seq ?_
    refine T_region ?_
    refine S_ 32 rfl rfl rfl _ (y_move rfl rfl) ?_
    refine S_ 33 rfl rfl rfl _ (y_bin rfl rfl rfl (fun _ => b_lss)) ?_
    refine S_ 34 rfl rfl rfl _ (y_move rfl rfl) ?_
    refine Sg_ 35 rfl rfl rfl rfl rfl rfl _ (y_move rfl rfl) ?_
    refine Sg_ 36 rfl rfl rfl rfl rfl rfl _ (y_move rfl rfl) ?_
    refine Sg_ 37 rfl rfl rfl rfl rfl rfl _ (y_as (v' := str (prS s)) (by exact rfl) (y_strTo rfl rfl rfl Tryz.underlying9 (fun hg => by simp only [Bool.true_and, Bool.and_eq_true, beq_iff_eq, decide_eq_true_eq, decide_eq_false_iff_not, Int.not_lt, Int.not_le] at hg; omega))) ?_
    refine Sg_ 38 rfl rfl rfl rfl rfl rfl _ (y_call rfl rfl rfl cf86 (fun _ w _ => IsProject_any (prS s) w)) ?_
    refine Sg_ 39 rfl rfl rfl rfl rfl rfl _ (y_not rfl rfl) ?_
    refine S_ 40 rfl rfl rfl _ (y_or rfl rfl rfl) ?_
    refine S_go (fun _ _ h => h) ?_
    refine T_cond rfl (fun h40 => ?_) (fun h40 => ?_)
    · skip
      have hr : parseR s = (pver0, false) := by rw [parseR, if_neg (by simp only [Bool.or_eq_true, decide_eq_true_eq, not_or]; omega), if_pos h40]
      refine T_seq ?_
      refine T_region ?_
      refine S_ 41 rfl rfl rfl _ (y_build (zv := .agg #[.string ⟨#[]⟩, .int .i64 0, .int .i64 0, .int .i64 0, .slice none 0 0]) (pl := [(0, 1), (1, 1), (2, 1), (3, 1), (4, 1)]) (out := [.string ⟨#[]⟩, .int .i64 0, .int .i64 0, .int .i64 0, .slice none 0 0]) rfl rfl Tryz.underlying42 z42 (by kernel_rfl) rfl) ?_
      refine S_store 2 rfl rfl rfl rfl rfl rfl sz42 rfl rfl ?_
      refine S_ 3 rfl rfl rfl _ (y_assign rfl rfl) ?_
      refine S_go (fun _ _ h => h) ?_
      refine T_ret (fun a w hF hM => hRb a w (post_cell 2 rfl rfl rfl rfl Tryz.underlying42 rfl (by exact sz42) (fun w hM => ?_) a w hF hM))
      rw [hr]
      exact ⟨none, 0, rfl, World.ownsRow_nil _ _ _ _, hM.below⟩
    · skip
      have h40b := h40
      simp only [Bool.or_eq_false_iff, decide_eq_false_iff_not] at h40
      obtain ⟨k, hk⟩ : ∃ k : Nat, lnI s = k := ⟨(lnI s).toNat, by omega⟩
      have hrl : (rsS s).length ≤ 40 := by rw [rsS, List.length_drop]; omega
      obtain ⟨hc1, hc2⟩ : (cutC 45 (rsS s)).1.length ≤ 40 ∧ (cutC 45 (rsS s)).2.1.length ≤ 40 := by have := cut_le 45 (rsS s); omega
      have hwl : (wdS s).length ≤ 41 := split_len40 hc1
      have hql : (splitC 46 (cutC 45 (rsS s)).2.1).length ≤ 41 := split_len40 hc2
      refine T_skip_go (fun _ _ h => h) ?_
      refine T_seq ?_
      refine T_region ?_
      refine S_ 42 rfl rfl rfl _ (y_move rfl rfl) ?_
      refine S_ 43 rfl rfl rfl _ (y_move rfl rfl) ?_
      refine S_ 44 rfl rfl rfl _ (y_as (v' := str (prS s)) (by exact rfl) (y_strTo rfl rfl rfl Tryz.underlying9 (fun _ => by omega))) ?_
      refine S_ 45 rfl rfl rfl _ (y_build (zv := .agg #[.string ⟨#[]⟩, .int .i64 0, .int .i64 0, .int .i64 0, .slice none 0 0]) (pl := [(0, 1), (1, 1), (2, 1), (3, 1), (4, 1)]) (out := [_, .int .i64 0, .int .i64 0, .int .i64 0, .slice none 0 0]) rfl rfl Tryz.underlying42 z42 (by kernel_rfl) rfl) ?_
      refine S_alloc 6 6 rfl rfl rfl rfl z42 ?_
      intro b6
      refine S_store 6 rfl rfl rfl rfl rfl rfl sz42 rfl rfl ?_
      refine S_go (fun _ _ h => h) ?_
      refine T_seq ?_
      refine T_region ?_
      refine S_ 47 rfl rfl rfl _ (y_move rfl rfl) ?_
      refine S_ 48 rfl rfl rfl _ (y_move rfl rfl) ?_
      refine S_ 49 rfl rfl rfl _ (y_bin rfl rfl rfl (fun hg => b_add (by omega))) ?_
      refine S_ 50 rfl rfl rfl _ (y_as (v' := str (rsS s)) (by rw [rsS, hk]; rfl) (y_strFrom rfl rfl rfl Tryz.underlying9 (fun _ => by omega))) ?_
      refine S_ 51 rfl rfl rfl _ (y_call rfl rfl rfl cf104 (fun _ w _ => Cut1_any (rsS s) 45 w (by omega))) ?_
      refine S_ 46 rfl rfl rfl _ (y_move rfl rfl) ?_
      refine S_ 52 rfl rfl rfl _ (y_extract rfl rfl rfl) ?_
      refine S_ 53 rfl rfl rfl _ (y_extract rfl rfl rfl) ?_
      refine S_ 54 rfl rfl rfl _ (y_extract rfl rfl rfl) ?_
      refine S_ 7 rfl rfl rfl _ (y_assign rfl rfl) ?_
      refine S_ 8 rfl rfl rfl _ (y_assign rfl rfl) ?_
      refine S_ 9 rfl rfl rfl _ (y_assign rfl rfl) ?_
      refine S_go (fun _ _ h => h) ?_
      refine T_seq ?_
      refine T_region ?_
      refine S_ 55 rfl rfl rfl _ (y_move rfl rfl) ?_
      refine S_callOwn 56 56 rfl rfl rfl rfl rfl rfl rfl cf105 (fun A c => .slice A ((wdS s).length) c) 9 1 ((wdS s).length) ((wdS s).flatMap strE) (fun w hM => Split1_any (cutC 45 (rsS s)).1 46 (by omega) w) ?_
      intro A56 c56
      refine S_ 10 rfl rfl rfl _ (y_assign rfl rfl) ?_
      refine S_go (fun _ _ h => h) ?_
      refine T_seq ?_
      refine T_seq ?_
      refine T_region ?_
      refine S_ 57 rfl rfl rfl _ (y_move rfl rfl) ?_
      refine S_ 58 rfl rfl rfl _ (y_len_slice rfl rfl Tryz.underlying40) ?_
      refine S_ 59 rfl rfl rfl _ (y_bin rfl rfl rfl (fun _ => b_neq)) ?_
      refine S_go (fun _ _ h => h) ?_
      refine T_cond rfl (fun h59 => ?_) (fun h59 => ?_)
      · skip
        have hr : parseR s = (pver0, false) := by rw [parseR, if_neg (by simp only [Bool.or_eq_true, decide_eq_true_eq, not_or]; omega), if_neg (by rw [h40b]; exact Bool.false_ne_true), if_pos (by simpa using h59)]
        refine T_seq ?_
        refine T_region ?_
        refine S_ 60 rfl rfl rfl _ (y_build (zv := .agg #[.string ⟨#[]⟩, .int .i64 0, .int .i64 0, .int .i64 0, .slice none 0 0]) (pl := [(0, 1), (1, 1), (2, 1), (3, 1), (4, 1)]) (out := [.string ⟨#[]⟩, .int .i64 0, .int .i64 0, .int .i64 0, .slice none 0 0]) rfl rfl Tryz.underlying42 z42 (by kernel_rfl) rfl) ?_
        refine S_store 2 rfl rfl rfl rfl rfl rfl sz42 rfl rfl ?_
        refine S_ 3 rfl rfl rfl _ (y_assign rfl rfl) ?_
        refine S_go (fun _ _ h => h) ?_
        refine T_ret (fun a w hF hM => hRb a w (post_cell 2 rfl rfl rfl rfl Tryz.underlying42 rfl (by exact sz42) (fun w hM => ?_) a w hF hM))
        rw [hr]
        exact ⟨none, 0, rfl, World.ownsRow_nil _ _ _ _, hM.below⟩
      · skip
        have h59 : ((wdS s).length : Int) = 3 := by simpa using h59
        obtain ⟨x, y, z, hw⟩ := triple (l := wdS s) (by omega)
        have hwle : ∀ u ∈ wdS s, u.length ≤ 40 := fun u hu => by have := spl_le 46 _ u hu; omega
        have hx := hwle x (by rw [hw]; simp)
        have hy := hwle y (by rw [hw]; simp)
        have hz := hwle z (by rw [hw]; simp)
        refine T_skip_go (fun _ _ h => h) ?_
        refine T_seq ?_
        refine T_region ?_
        refine S_ 62 rfl rfl rfl _ (y_move rfl rfl) ?_
        refine S_ 63 rfl rfl rfl _ (y_indexOwnI (j := 0) 56 rfl rfl rfl (fun _ => rfl) rfl Tryz.underlying40 sz9 (fun _ => by omega)) ?_
        refine S_ 64 rfl rfl rfl _ (y_loadO1 56 (val := (fun l : List UInt8 => str l)) rfl rfl rfl rfl (fun _ => (by rw [hw]; rfl : (wdS s)[0]? = some x)) Tryz.underlying9 rfl) ?_
        refine S_ 65 rfl rfl rfl _ (y_as (v' := .tuple #[.int .i64 (numI x), .bool (numOk x)]) (by exact rfl) (y_call rfl rfl rfl cf190 (fun _ w _ => number_any x (by omega) w))) ?_
        refine S_ 61 rfl rfl rfl _ (y_move rfl rfl) ?_
        refine S_ 66 rfl rfl rfl _ (y_extract rfl rfl rfl) ?_
        refine S_ 67 rfl rfl rfl _ (y_extract rfl rfl rfl) ?_
        refine S_ 11 rfl rfl rfl _ (y_assign rfl rfl) ?_
        refine S_ 12 rfl rfl rfl _ (y_assign rfl rfl) ?_
        refine S_go (fun _ _ h => h) ?_
        refine T_seq ?_
        refine T_region ?_
        refine S_ 69 rfl rfl rfl _ (y_move rfl rfl) ?_
        refine S_ 70 rfl rfl rfl _ (y_indexOwnI (j := 1) 56 rfl rfl rfl (fun _ => rfl) rfl Tryz.underlying40 sz9 (fun _ => by omega)) ?_
        refine S_ 71 rfl rfl rfl _ (y_loadO1 56 (val := (fun l : List UInt8 => str l)) rfl rfl rfl rfl (fun _ => (by rw [hw]; rfl : (wdS s)[1]? = some y)) Tryz.underlying9 rfl) ?_
        refine S_ 72 rfl rfl rfl _ (y_as (v' := .tuple #[.int .i64 (numI y), .bool (numOk y)]) (by exact rfl) (y_call rfl rfl rfl cf190 (fun _ w _ => number_any y (by omega) w))) ?_
        refine S_ 68 rfl rfl rfl _ (y_move rfl rfl) ?_
        refine S_ 73 rfl rfl rfl _ (y_extract rfl rfl rfl) ?_
        refine S_ 74 rfl rfl rfl _ (y_extract rfl rfl rfl) ?_
        refine S_ 13 rfl rfl rfl _ (y_assign rfl rfl) ?_
        refine S_ 14 rfl rfl rfl _ (y_assign rfl rfl) ?_
        refine S_go (fun _ _ h => h) ?_
        refine T_seq ?_
        refine T_region ?_
        refine S_ 76 rfl rfl rfl _ (y_move rfl rfl) ?_
        refine S_ 77 rfl rfl rfl _ (y_indexOwnI (j := 2) 56 rfl rfl rfl (fun _ => rfl) rfl Tryz.underlying40 sz9 (fun _ => by omega)) ?_
        refine S_ 78 rfl rfl rfl _ (y_loadO1 56 (val := (fun l : List UInt8 => str l)) rfl rfl rfl rfl (fun _ => (by rw [hw]; rfl : (wdS s)[2]? = some z)) Tryz.underlying9 rfl) ?_
        refine S_ 79 rfl rfl rfl _ (y_as (v' := .tuple #[.int .i64 (numI z), .bool (numOk z)]) (by exact rfl) (y_call rfl rfl rfl cf190 (fun _ w _ => number_any z (by omega) w))) ?_
        refine S_ 75 rfl rfl rfl _ (y_move rfl rfl) ?_
        refine S_ 80 rfl rfl rfl _ (y_extract rfl rfl rfl) ?_
        refine S_ 81 rfl rfl rfl _ (y_extract rfl rfl rfl) ?_
        refine S_ 15 rfl rfl rfl _ (y_assign rfl rfl) ?_
        refine S_ 16 rfl rfl rfl _ (y_assign rfl rfl) ?_
        refine S_go (fun _ _ h => h) ?_
        refine T_seq ?_
        refine T_region ?_
        refine S_ 82 rfl rfl rfl _ (y_move rfl rfl) ?_
        refine S_ 83 rfl rfl rfl _ (y_move rfl rfl) ?_
        refine S_ 84 rfl rfl rfl _ (y_move rfl rfl) ?_
        refine S_ 85 rfl rfl rfl _ (y_fieldAddr rfl rfl fa42_1) ?_
        refine S_store 6 rfl rfl rfl rfl rfl rfl sz3 rfl rfl ?_
        refine S_ 86 rfl rfl rfl _ (y_fieldAddr rfl rfl fa42_2) ?_
        refine S_store 6 rfl rfl rfl rfl rfl rfl sz3 rfl rfl ?_
        refine S_ 87 rfl rfl rfl _ (y_fieldAddr rfl rfl fa42_3) ?_
        refine S_store 6 rfl rfl rfl rfl rfl rfl sz3 rfl rfl ?_
        refine S_go (fun _ _ h => h) ?_
        refine T_seq ?_
        refine T_seq ?_
        refine T_region ?_
        refine S_ 88 rfl rfl rfl _ (y_move rfl rfl) ?_
        refine S_go (fun _ _ h => h) ?_
        refine T_cond rfl (fun h88 => ?_) (fun h88 => ?_)
        · skip
          have hpre : preS s = splitC 46 (cutC 45 (rsS s)).2.1 := by rw [preS, if_pos h88]
          refine T_region ?_
          refine S_ 89 rfl rfl rfl _ (y_move rfl rfl) ?_
          refine S_callOwn 90 90 rfl rfl rfl rfl rfl rfl rfl cf105 (fun A c => .slice A (splitC 46 (cutC 45 (rsS s)).2.1).length c) 9 1 ((splitC 46 (cutC 45 (rsS s)).2.1).length) ((splitC 46 (cutC 45 (rsS s)).2.1).flatMap strE) (fun w hM => Split1_any (cutC 45 (rsS s)).2.1 46 (by omega) w) ?_
          intro A90 c90
          refine S_ 91 rfl rfl rfl _ (y_fieldAddr rfl rfl fa42_4) ?_
          refine S_store 6 rfl rfl rfl rfl rfl rfl sz40 rfl rfl ?_
          refine S_go (fun _ _ h => h) ?_
          refine T_seq ?_
          refine T_region ?_
          refine S_ 92 rfl rfl rfl _ (y_fieldAddr rfl rfl fa42_4) ?_
          refine S_ 93 rfl rfl rfl _ (y_load 6 rfl rfl rfl rfl Tryz.underlying40 rfl) ?_
          refine S_ 94 rfl rfl rfl _ (y_call rfl rfl rfl cf38 (fun _ w hM => ContFS_any _ _ _ (splitC 46 (cutC 45 (rsS s)).2.1) _ _ (fun p => !isPreB p) w (owned_T (enc := strE) hM rfl (i := 90) rfl) (by omega) cf200 fun x hx w1 _ => parse1_any x (by have := spl_le 46 _ x hx; omega) w1)) ?_
          refine S_ 17 rfl rfl rfl _ (y_assign rfl rfl) ?_
          refine S_go (fun _ _ h => h) ?_
          refine T_seq ?_
          refine T_perm [0, 1, 2, 3, 4, 5, 6, 7, 8, 9, 10, 11, 12, 13, 14, 15, 16, 17, 18, 19] [true, true, true, true, true, true, true, true, true, true, true, true, true, true, true, true, true, true, false, true] [0, 0, 2, 6, 14, 30, 62, 126, 254, 510, 1022, 2046, 4094, 8190, 16382, 32766, 65534, 131070, 8191, 524287] [(0, [6]), (14, [6])] (by kernel_rfl) (by kernel_rfl) (by kernel_rfl) rfl (by kernel_rfl) ?_
          refine Rf_ 0 95 rfl rfl rfl rfl rfl _ ⟨rfl, trivial⟩ (Y.z (y_loadA 6 rfl rfl rfl Tryz.underlying42 rfl sz42) rfl) ?_
          refine Rf_ 1 96 rfl rfl rfl rfl rfl _ trivial (Y.z (y_move rfl rfl) rfl) ?_
          refine Rf_ 2 97 rfl rfl rfl rfl rfl _ trivial (Y.z (y_move rfl rfl) rfl) ?_
          refine Rfg_ 3 98 rfl rfl rfl rfl rfl rfl rfl rfl _ trivial (Y.z (y_move rfl rfl) rfl) ?_
          refine Rf_ 4 99 rfl rfl rfl rfl rfl _ trivial (Y.z (y_and rfl rfl rfl) rfl) ?_
          refine Rf_ 5 100 rfl rfl rfl rfl rfl _ trivial (Y.z (y_move rfl rfl) rfl) ?_
          refine Rfg_ 6 101 rfl rfl rfl rfl rfl rfl rfl rfl _ trivial (Y.z (y_move rfl rfl) rfl) ?_
          refine Rf_ 7 102 rfl rfl rfl rfl rfl _ trivial (Y.z (y_and rfl rfl rfl) rfl) ?_
          refine Rf_ 8 103 rfl rfl rfl rfl rfl _ trivial (Y.z (y_move rfl rfl) rfl) ?_
          refine Rfg_ 9 104 rfl rfl rfl rfl rfl rfl rfl rfl _ trivial (Y.z (y_move rfl rfl) rfl) ?_
          refine Rfg_ 10 105 rfl rfl rfl rfl rfl rfl rfl rfl _ trivial (Y.z (y_not rfl rfl) rfl) ?_
          refine Rf_ 11 106 rfl rfl rfl rfl rfl _ trivial (Y.z (y_and rfl rfl rfl) rfl) ?_
          refine Rf_ 12 107 rfl rfl rfl rfl rfl _ trivial (Y.z (y_move rfl rfl) rfl) ?_
          refine Rfg_ 13 108 rfl rfl rfl rfl rfl rfl rfl rfl _ trivial (Y.z (y_fieldAddr rfl rfl fa42_4) rfl) ?_
          refine Rfg_ 14 109 rfl rfl rfl rfl rfl rfl rfl rfl _ ⟨rfl, trivial⟩ (Y.z (y_load 6 rfl rfl rfl rfl Tryz.underlying40 rfl) rfl) ?_
          refine Rfg_ 15 110 rfl rfl rfl rfl rfl rfl rfl rfl _ trivial (zg_len rfl rfl Tryz.underlying40) ?_
          refine Rfg_ 16 111 rfl rfl rfl rfl rfl rfl rfl rfl _ trivial (Y.z (y_bin rfl rfl rfl (fun _ => b_leq)) rfl) ?_
          refine Rf_ 17 112 rfl rfl rfl rfl rfl _ trivial (Y.z (y_and rfl rfl rfl) rfl) ?_
          refine R_chain 18 rfl rfl ?_
          refine S_store 2 rfl rfl rfl rfl rfl rfl sz42 rfl rfl ?_
          refine R_next ⟨.inl rfl, .inr ⟨rfl, trivial⟩, trivial⟩ ?_
          refine Rf_ 19 3 rfl rfl rfl rfl rfl _ trivial (Y.z (y_assign rfl rfl) rfl) ?_
          refine R_go (fun _ _ h => h) ?_
          refine T_ret (fun a w hF hM => hRb a w (post_cell 2 rfl rfl rfl rfl Tryz.underlying42 rfl (by exact sz42) (fun w hM => ?_) a w hF hM))
          have hr : parseR s = (⟨prS s, numI x, numI y, numI z, splitC 46 (cutC 45 (rsS s)).2.1⟩, numOk x && numOk y && numOk z && !badPre (splitC 46 (cutC 45 (rsS s)).2.1) && decide (((splitC 46 (cutC 45 (rsS s)).2.1).length : Int) ≤ 5)) := by
            rw [parseR, if_neg (by simp only [Bool.or_eq_true, decide_eq_true_eq, not_or]; omega), if_neg (by rw [h40b]; exact Bool.false_ne_true), if_neg (by omega), verV, parseOk, hw, hpre]; rfl
          rw [hr]
          exact ⟨A90, c90, rfl, hM.sat 90 _ rfl, hM.below⟩
        · skip
          have hpre : preS s = [] := by rw [preS, if_neg (by simp [h88])]
          refine T_skip_go (fun _ _ h => h) ?_
          refine T_seq ?_
          refine T_region ?_
          refine S_ 92 rfl rfl rfl _ (y_fieldAddr rfl rfl fa42_4) ?_
          refine S_ 93 rfl rfl rfl _ (y_load 6 rfl rfl rfl rfl Tryz.underlying40 rfl) ?_
          refine S_ 94 rfl rfl rfl _ (y_call rfl rfl rfl cf38 (fun _ w hM => ContFS_any _ _ _ [] _ _ (fun p => !isPreB p) w nilS (by decide) cf200 fun x hx => by cases hx)) ?_
          refine S_ 17 rfl rfl rfl _ (y_assign rfl rfl) ?_
          refine S_go (fun _ _ h => h) ?_
          refine T_seq ?_
          refine T_perm [0, 1, 2, 3, 4, 5, 6, 7, 8, 9, 10, 11, 12, 13, 14, 15, 16, 17, 18, 19] [true, true, true, true, true, true, true, true, true, true, true, true, true, true, true, true, true, true, false, true] [0, 0, 2, 6, 14, 30, 62, 126, 254, 510, 1022, 2046, 4094, 8190, 16382, 32766, 65534, 131070, 8191, 524287] [(0, [6]), (14, [6])] (by kernel_rfl) (by kernel_rfl) (by kernel_rfl) rfl (by kernel_rfl) ?_
          refine Rf_ 0 95 rfl rfl rfl rfl rfl _ ⟨rfl, trivial⟩ (Y.z (y_loadA 6 rfl rfl rfl Tryz.underlying42 rfl sz42) rfl) ?_
          refine Rf_ 1 96 rfl rfl rfl rfl rfl _ trivial (Y.z (y_move rfl rfl) rfl) ?_
          refine Rf_ 2 97 rfl rfl rfl rfl rfl _ trivial (Y.z (y_move rfl rfl) rfl) ?_
          refine Rfg_ 3 98 rfl rfl rfl rfl rfl rfl rfl rfl _ trivial (Y.z (y_move rfl rfl) rfl) ?_
          refine Rf_ 4 99 rfl rfl rfl rfl rfl _ trivial (Y.z (y_and rfl rfl rfl) rfl) ?_
          refine Rf_ 5 100 rfl rfl rfl rfl rfl _ trivial (Y.z (y_move rfl rfl) rfl) ?_
          refine Rfg_ 6 101 rfl rfl rfl rfl rfl rfl rfl rfl _ trivial (Y.z (y_move rfl rfl) rfl) ?_
          refine Rf_ 7 102 rfl rfl rfl rfl rfl _ trivial (Y.z (y_and rfl rfl rfl) rfl) ?_
          refine Rf_ 8 103 rfl rfl rfl rfl rfl _ trivial (Y.z (y_move rfl rfl) rfl) ?_
          refine Rfg_ 9 104 rfl rfl rfl rfl rfl rfl rfl rfl _ trivial (Y.z (y_move rfl rfl) rfl) ?_
          refine Rfg_ 10 105 rfl rfl rfl rfl rfl rfl rfl rfl _ trivial (Y.z (y_not rfl rfl) rfl) ?_
          refine Rf_ 11 106 rfl rfl rfl rfl rfl _ trivial (Y.z (y_and rfl rfl rfl) rfl) ?_
          refine Rf_ 12 107 rfl rfl rfl rfl rfl _ trivial (Y.z (y_move rfl rfl) rfl) ?_
          refine Rfg_ 13 108 rfl rfl rfl rfl rfl rfl rfl rfl _ trivial (Y.z (y_fieldAddr rfl rfl fa42_4) rfl) ?_
          refine Rfg_ 14 109 rfl rfl rfl rfl rfl rfl rfl rfl _ ⟨rfl, trivial⟩ (Y.z (y_load 6 rfl rfl rfl rfl Tryz.underlying40 rfl) rfl) ?_
          refine Rfg_ 15 110 rfl rfl rfl rfl rfl rfl rfl rfl _ trivial (zg_len rfl rfl Tryz.underlying40) ?_
          refine Rfg_ 16 111 rfl rfl rfl rfl rfl rfl rfl rfl _ trivial (Y.z (y_bin rfl rfl rfl (fun _ => b_leq)) rfl) ?_
          refine Rf_ 17 112 rfl rfl rfl rfl rfl _ trivial (Y.z (y_and rfl rfl rfl) rfl) ?_
          refine R_chain 18 rfl rfl ?_
          refine S_store 2 rfl rfl rfl rfl rfl rfl sz42 rfl rfl ?_
          refine R_next ⟨.inl rfl, .inr ⟨rfl, trivial⟩, trivial⟩ ?_
          refine Rf_ 19 3 rfl rfl rfl rfl rfl _ trivial (Y.z (y_assign rfl rfl) rfl) ?_
          refine R_go (fun _ _ h => h) ?_
          refine T_ret (fun a w hF hM => hRb a w (post_cell 2 rfl rfl rfl rfl Tryz.underlying42 rfl (by exact sz42) (fun w hM => ?_) a w hF hM))
          have hr : parseR s = (⟨prS s, numI x, numI y, numI z, []⟩, numOk x && numOk y && numOk z && !badPre [] && decide (((([] : List (List UInt8)).length : Nat) : Int) ≤ 5)) := by
            rw [parseR, if_neg (by simp only [Bool.or_eq_true, decide_eq_true_eq, not_or]; omega), if_neg (by rw [h40b]; exact Bool.false_ne_true), if_neg (by omega), verV, parseOk, hw, hpre]; rfl
          rw [hr]
          exact ⟨none, 0, rfl, World.ownsRow_nil _ _ _ _, hM.below⟩
def parE (s : List UInt8) : PVer × Int := if relOk s = true then (verV s, 0) else (pver0, 8)
theorem Parse_any (s : List UInt8) (w : World) :
    Calls Tryz.prog 24 #[str s] w fun e w' => ∃ A c, e = .returned (.tuple #[pvV (parE s).1 A c, .int .i64 (parE s).2]) ∧ w'.ownsRow w.heap.size 9 1 (.slice A (parE s).1.pre.length c) (parE s).1.pre.length ((parE s).1.pre.flatMap strE) ∧ Below w.heap.size w w' := by
  refine enter_args (args := [str s]) (F := _) Tryz.func24 rfl Tryz.ntmps24 rfl rfl ?_
  intro Rb hRb hRn
  refine T_seq ?_
  refine T_region ?_
  refine S_alloc 2 2 rfl rfl rfl rfl z42 ?_
  intro b2
  refine S_ 3 rfl rfl rfl _ (y_assign rfl rfl) ?_
  refine S_go (fun _ _ h => h) ?_
  refine T_seq ?_
  refine T_region ?_
  refine S_ 7 rfl rfl rfl _ (y_move rfl rfl) ?_
  refine S_callOwn 8 8 rfl rfl rfl rfl rfl rfl rfl cf101 (fun A c => .tuple #[pvV (parseR s).1 A c, .bool (parseR s).2]) 9 1 ((parseR s).1.pre.length) ((parseR s).1.pre.flatMap strE) (fun w hM => parse_any s w) ?_
  intro A8 c8
  refine S_ 6 rfl rfl rfl _ (y_move rfl rfl) ?_
  refine S_ 9 rfl rfl rfl _ (y_extract rfl rfl rfl) ?_
  refine S_ 10 rfl rfl rfl _ (y_extract rfl rfl rfl) ?_
  refine S_alloc 4 4 rfl rfl rfl rfl z42 ?_
  intro b4
  refine S_store 4 rfl rfl rfl rfl rfl rfl sz42 rfl rfl ?_
  refine S_ 5 rfl rfl rfl _ (y_assign rfl rfl) ?_
  refine S_go (fun _ _ h => h) ?_
  refine T_seq ?_
  refine T_seq ?_
  refine T_region ?_
  refine S_ 11 rfl rfl rfl _ (y_move rfl rfl) ?_
  refine S_ 12 rfl rfl rfl _ (y_not rfl rfl) ?_
  refine S_go (fun _ _ h => h) ?_
  refine T_cond rfl (fun h12 => ?_) (fun h12 => ?_)
  · skip
    have hr : parE s = (pver0, 8) := by rw [parE, if_neg (by simpa using h12)]
    refine T_seq ?_
    refine T_region ?_
    refine S_ 13 rfl rfl rfl _ (y_build (zv := .agg #[.string ⟨#[]⟩, .int .i64 0, .int .i64 0, .int .i64 0, .slice none 0 0]) (pl := [(0, 1), (1, 1), (2, 1), (3, 1), (4, 1)]) (out := [.string ⟨#[]⟩, .int .i64 0, .int .i64 0, .int .i64 0, .slice none 0 0]) rfl rfl Tryz.underlying42 z42 (by kernel_rfl) rfl) ?_
    refine S_store 2 rfl rfl rfl rfl rfl rfl sz42 rfl rfl ?_
    refine S_ 3 rfl rfl rfl _ (y_assign rfl rfl) ?_
    refine S_go (fun _ _ h => h) ?_
    refine T_ret (fun a w hF hM => hRb a w (post_cell 2 rfl rfl rfl rfl Tryz.underlying42 rfl (by exact sz42) (fun w hM => ?_) a w hF hM))
    rw [hr]
    exact ⟨none, 0, rfl, World.ownsRow_nil _ _ _ _, hM.below⟩
  · skip
    have h12 : relOk s = true := by simpa using h12
    have hr : parE s = ((parseR s).1, 0) := by rw [parE, if_pos h12, parse_ver h12]
    refine T_skip_go (fun _ _ h => h) ?_
    refine T_seq ?_
    refine T_region ?_
    refine S_ 14 rfl rfl rfl _ (y_loadA 4 rfl rfl rfl Tryz.underlying42 rfl sz42) ?_
    refine S_store 2 rfl rfl rfl rfl rfl rfl sz42 rfl rfl ?_
    refine S_ 3 rfl rfl rfl _ (y_assign rfl rfl) ?_
    refine S_go (fun _ _ h => h) ?_
    refine T_ret (fun a w hF hM => hRb a w (post_cell 2 rfl rfl rfl rfl Tryz.underlying42 rfl (by exact sz42) (fun w hM => ?_) a w hF hM))
    rw [hr]
    exact ⟨A8, c8, rfl, hM.sat 8 _ rfl, hM.below⟩
end Go.Proofs.YtpmlgnbbkpplhaaGreatDoor
end
section
namespace Go.Proofs.YtpmlgnbbkpplhaaGreatDoor
set_option linter.unusedSimpArgs false
set_option linter.unusedVariables false
set_option maxRecDepth 20000
open Go.RowKit Go.Eng
structure SVer where
  p : List UInt8
  a : Int
  b : Int
  c : Int
  pre : Sl (List UInt8)
def SVer.enc (v : SVer) : List Value := [str v.p, .int .i64 v.a, .int .i64 v.b, .int .i64 v.c, .slice v.pre.A v.pre.q v.pre.c]
def SVer.val (v : SVer) : Value := .agg v.enc.toArray
def SVer.says (v : SVer) : PVer := ⟨v.p, v.a, v.b, v.c, v.pre.l⟩
structure VerOk (w : World) (v : SVer) : Prop where
  ok : v.pre.Ok strE 1 w
  q : v.pre.q ≤ 1000000000
  n : ∀ s ∈ v.pre.l, s.length ≤ 1000000000
  s : v.p.length ≤ 1000000000
  a : -9223372036854775808 ≤ v.a ∧ v.a ≤ 9223372036854775807
  b : -9223372036854775808 ≤ v.b ∧ v.b ≤ 9223372036854775807
  c : -9223372036854775808 ≤ v.c ∧ v.c ≤ 9223372036854775807
theorem VerOk.below {w w' : World} {v : SVer} (h : VerOk w v) (hb : Below w.heap.size w w') : VerOk w' v := ⟨h.ok.below hb, h.q, h.n, h.s, h.a, h.b, h.c⟩
def iE (n : Int) : List Value := [.int .i64 n]
theorem or4_any (A : Option Addr) (c : Nat) (x0 x1 x2 x3 : Int) (w : World) (hl : SlT iE 1 w A 4 [x0, x1, x2, x3]) : Calls Tryz.prog 95 #[.slice A 4 c] w fun e w' => e = .returned (.int .i64 (or4 x0 x1 x2 x3)) ∧ Below w.heap.size w w' := by
  refine enter_args (args := [.slice A 4 c]) (F := _) Tryz.func95 rfl Tryz.ntmps95 rfl rfl ?_
  intro Rb hRb hRn
  refine T_seq ?_
  refine T_region ?_
  refine S_ 2 rfl rfl rfl _ (y_assign rfl rfl) ?_
  refine S_go (fun _ _ h => h) ?_
  refine T_seq ?_
  refine T_region ?_
  refine S_ 3 rfl rfl rfl _ (y_assign rfl rfl) ?_
  refine S_go (fun _ _ h => h) ?_
  refine T_seq ?_
  refine T_seq ?_
  refine T_region ?_
  refine S_ 6 rfl rfl rfl _ (y_move rfl rfl) ?_
  refine S_ 7 rfl rfl rfl _ (y_len_slice rfl rfl Tryz.underlying142) ?_
  refine S_ 8 rfl rfl rfl _ (y_move rfl rfl) ?_
  refine S_go (fun _ _ h => h) ?_
  refine T_block ?_
  refine T_loopK1 (kf := [(2, 2), (5, 5), (8, 16)]) (kl := [(2, 2), (5, 5), (8, 16)]) (fun (i : Nat) => [(8, true, .int .i64 (i : Int))]) (fun (i : Nat) => []) (fun (i : Nat) => i ≤ 4 ∧ or4 x0 x1 x2 x3 = (([x0, x1, x2, x3].drop i).find? (fun x => decide (x ≠ 0))).getD 0) (fun (i : Nat) => 4 - i) 0 (by repeat (first | exact kf_nil | (apply kf_in; focus rfl) | (apply kf_out; focus rfl))) (by repeat (first | exact kl_nil | exact kl_rest (by assumption) rfl | (apply kl_in; focus rfl) | (apply kl_out; focus rfl))) ?_ ?_ ?_ ?_
  · exact ⟨by omega, by unfold or4; by_cases h0 : x0 = 0 <;> by_cases h1 : x1 = 0 <;> by_cases h2 : x2 = 0 <;> by_cases h3 : x3 = 0 <;> simp [h0, h1, h2, h3]⟩
  · exact ⟨rfl, trivial⟩
  · exact trivial
  rintro i ⟨hp1, hp2⟩
  refine T_seq ?_
  refine T_region ?_
  refine S_ 9 rfl rfl rfl _ (y_bin rfl rfl rfl (fun _ => b_lss)) ?_
  refine S_go (fun _ _ h => h) ?_
  refine T_seq ?_
  refine T_cond rfl (fun h9 => ?_) (fun h9 => ?_)
  · try simp only [decide_eq_true_eq, decide_eq_false_iff_not, Bool.or_eq_true, Bool.or_eq_false_iff, Bool.and_eq_true, Bool.and_eq_false_iff, Bool.not_eq_true', Bool.not_eq_false', Bool.not_eq_true, Bool.not_eq_false, Bool.not_true, Bool.not_false, Int.not_lt, Int.not_le, not_or, not_and, Classical.not_not] at h9
    obtain ⟨x, hx1, hx2⟩ := hl.at (i := i) (by omega)
    refine T_skip_go (fun _ _ h => h) ?_
    refine T_seq ?_
    refine T_block ?_
    refine T_seq ?_
    refine T_region ?_
    refine S_ 10 rfl rfl rfl _ (y_indexAddr rfl rfl rfl Tryz.underlying142 sz3 (fun hg => hl.isSome (by omega)) (fun _ => by omega)) ?_
    refine S_ 11 rfl rfl rfl _ (y_loadT1 (val := (fun n : Int => Value.int .i64 n)) rfl rfl hl (fun _ => hx1) Tryz.underlying3 rfl) ?_
    refine S_ 5 rfl rfl rfl _ (y_assign rfl rfl) ?_
    refine S_go (fun _ _ h => h) ?_
    refine T_seq ?_
    refine T_region ?_
    refine S_ 12 rfl rfl rfl _ (y_move rfl rfl) ?_
    refine S_ 13 rfl rfl rfl _ (y_move rfl rfl) ?_
    refine S_ 14 rfl rfl rfl _ (y_bin rfl rfl rfl (fun _ => b_neq)) ?_
    refine S_go (fun _ _ h => h) ?_
    refine T_cond rfl (fun h14 => ?_) (fun h14 => ?_)
    · try simp only [decide_eq_true_eq, decide_eq_false_iff_not, Bool.or_eq_true, Bool.or_eq_false_iff, Bool.and_eq_true, Bool.and_eq_false_iff, Bool.not_eq_true', Bool.not_eq_false', Bool.not_eq_true, Bool.not_eq_false, Bool.not_true, Bool.not_false, Int.not_lt, Int.not_le, not_or, not_and, Classical.not_not] at h14
      refine T_seq ?_
      refine T_region ?_
      refine S_ 15 rfl rfl rfl _ (y_move rfl rfl) ?_
      refine S_ 2 rfl rfl rfl _ (y_assign rfl rfl) ?_
      refine S_go (fun _ _ h => h) ?_
      refine T_ret (fun a w hF hM => hRb a w (post1 rfl rfl (fun w hM => ?_) a w hF hM))
      exact ⟨by rw [hp2, hx2, List.find?_cons_of_pos (by simpa using h14)]; rfl, hM.below⟩
    · try simp only [decide_eq_true_eq, decide_eq_false_iff_not, Bool.or_eq_true, Bool.or_eq_false_iff, Bool.and_eq_true, Bool.and_eq_false_iff, Bool.not_eq_true', Bool.not_eq_false', Bool.not_eq_true, Bool.not_eq_false, Bool.not_true, Bool.not_false, Int.not_lt, Int.not_le, not_or, not_and, Classical.not_not] at h14
      refine T_skip_go (fun _ _ h => h) ?_
      refine T_region ?_
      refine S_ 16 rfl rfl rfl _ (y_bin rfl rfl rfl (fun hg => b_add (by omega))) ?_
      refine S_ 8 rfl rfl rfl _ (y_move rfl rfl) ?_
      refine S_nil (nextK1 (kf := [(2, 2), (5, 5), (8, 16)]) (kl := [(2, 2), (5, 5), (8, 16)]) (i + 1) (by repeat (first | exact kf_nil | (apply kf_in; focus rfl) | (apply kf_out; focus rfl))) (by repeat (first | exact kl_nil | exact kl_rest (by assumption) rfl | (apply kl_in; focus rfl) | (apply kl_out; focus rfl))) ?_ ?_ ?_ ?_)
      · omega
      · exact ⟨by omega, by rw [hp2, hx2, List.find?_cons_of_neg (by simpa using h14)]⟩
      · exact ⟨rfl, trivial⟩
      · exact trivial
  · try simp only [decide_eq_true_eq, decide_eq_false_iff_not, Bool.or_eq_true, Bool.or_eq_false_iff, Bool.and_eq_true, Bool.and_eq_false_iff, Bool.not_eq_true', Bool.not_eq_false', Bool.not_eq_true, Bool.not_eq_false, Bool.not_true, Bool.not_false, Int.not_lt, Int.not_le, not_or, not_and, Classical.not_not] at h9
    refine T_exit_go (fun _ _ h => h) ?_
    refine T_seq ?_
    refine T_region ?_
    refine S_ 17 rfl rfl rfl _ (y_move rfl rfl) ?_
    refine S_ 2 rfl rfl rfl _ (y_assign rfl rfl) ?_
    refine S_go (fun _ _ h => h) ?_
    refine T_ret (fun a w hF hM => hRb a w (post1 rfl rfl (fun w hM => ?_) a w hF hM))
    exact ⟨by rw [hp2, hl.end (by omega)]; rfl, hM.below⟩
theorem pre1_any (s : List UInt8) (hs : s.length ≤ 1000000000) (w : World) : Calls Tryz.prog 198 #[str s] w fun e w' => e = .returned (.bool (ptNum s)) ∧ Below w.heap.size w w' := by
  refine enter_args (args := [str s]) (F := _) Tryz.func198 rfl Tryz.ntmps198 rfl rfl ?_
  intro Rb hRb hRn
  refine T_seq ?_
  refine T_region ?_
  refine S_ 2 rfl rfl rfl _ (y_assign rfl rfl) ?_
  refine S_go (fun _ _ h => h) ?_
  refine T_seq ?_
  refine T_region ?_
  refine S_ 3 rfl rfl rfl _ (y_move rfl rfl) ?_
  refine S_ 4 rfl rfl rfl _ (y_call rfl rfl rfl cf189 (fun _ w _ => allOfD_any s hs w)) ?_
  refine S_ 5 rfl rfl rfl _ (y_move rfl rfl) ?_
  refine Sg_ 6 rfl rfl rfl rfl rfl rfl _ (y_move rfl rfl) ?_
  refine Sg_ 7 rfl rfl rfl rfl rfl rfl _ (y_len_str rfl rfl Tryz.underlying9) ?_
  refine Sg_ 8 rfl rfl rfl rfl rfl rfl _ (y_bin rfl rfl rfl (fun _ => b_leq)) ?_
  refine S_ 9 rfl rfl rfl _ (y_and rfl rfl rfl) ?_
  refine S_ 2 rfl rfl rfl _ (y_assign rfl rfl) ?_
  refine S_go (fun _ _ h => h) ?_
  refine T_ret (fun a w hF hM => hRb a w (post1 rfl rfl (fun w hM => ?_) a w hF hM))
  exact ⟨rfl, hM.below⟩
theorem ptNum_dig {s : List UInt8} (h : ptNum s = true) : s ≠ [] ∧ s.length ≤ 6 ∧ ∀ c ∈ s, 48 ≤ c.toNat ∧ c.toNat ≤ 57 := by
  simp only [ptNum, Bool.and_eq_true, decide_eq_true_eq] at h
  have := allOf_dig h.1
  exact ⟨this.1, by omega, this.2⟩
theorem comparePre_any (x y : List UInt8) (hx : x.length ≤ 1000000000) (hy : y.length ≤ 1000000000) (w : World) : Calls Tryz.prog 99 #[str x, str y] w fun e w' => e = .returned (.int .i64 (cmpPart x y)) ∧ Below w.heap.size w w' := by
  refine enter_args (args := [str x, str y]) (F := _) Tryz.func99 rfl Tryz.ntmps99 rfl rfl ?_
  intro Rb hRb hRn
  refine T_seq ?_
  refine T_region ?_
  refine S_ 4 rfl rfl rfl _ (y_assign rfl rfl) ?_
  refine S_go (fun _ _ h => h) ?_
  refine T_seq ?_
  refine T_region ?_
  refine S_ 5 rfl rfl rfl _ (y_assign rfl rfl) ?_
  refine S_go (fun _ _ h => h) ?_
  refine T_seq ?_
  refine T_region ?_
  refine S_ 12 rfl rfl rfl _ (y_move rfl rfl) ?_
  refine S_ 13 rfl rfl rfl _ (y_move rfl rfl) ?_
  refine S_ 14 rfl rfl rfl _ (y_call rfl rfl rfl cf198 (fun _ w _ => pre1_any x hx w)) ?_
  refine S_ 15 rfl rfl rfl _ (y_move rfl rfl) ?_
  refine S_ 16 rfl rfl rfl _ (y_move rfl rfl) ?_
  refine S_ 17 rfl rfl rfl _ (y_call rfl rfl rfl cf198 (fun _ w _ => pre1_any y hy w)) ?_
  refine S_ 6 rfl rfl rfl _ (y_assign rfl rfl) ?_
  refine S_ 7 rfl rfl rfl _ (y_assign rfl rfl) ?_
  refine S_go (fun _ _ h => h) ?_
  refine T_seq ?_
  refine T_block ?_
  refine T_seq ?_
  refine T_region ?_
  refine S_ 19 rfl rfl rfl _ (y_move rfl rfl) ?_
  refine S_ 20 rfl rfl rfl _ (y_move rfl rfl) ?_
  refine Sg_ 21 rfl rfl rfl rfl rfl rfl _ (y_move rfl rfl) ?_
  refine S_ 22 rfl rfl rfl _ (y_and rfl rfl rfl) ?_
  refine S_ 18 rfl rfl rfl _ (y_assign rfl rfl) ?_
  refine S_go (fun _ _ h => h) ?_
  refine T_cond rfl (fun h18 => ?_) (fun h18 => ?_)
  · skip
    have hd1 := ptNum_dig (by simp only [Bool.and_eq_true] at h18; exact h18.1)
    have hd2 := ptNum_dig (by simp only [Bool.and_eq_true] at h18; exact h18.2)
    refine T_seq ?_
    refine T_region ?_
    refine S_ 24 rfl rfl rfl _ (y_move rfl rfl) ?_
    refine S_ 25 rfl rfl rfl _ (y_call rfl rfl rfl cf199 (fun _ w _ => Atoi_any x hd1.1 (by omega) hd1.2.2 w)) ?_
    refine S_ 23 rfl rfl rfl _ (y_move rfl rfl) ?_
    refine S_ 26 rfl rfl rfl _ (y_extract rfl rfl rfl) ?_
    refine S_ 27 rfl rfl rfl _ (y_extract rfl rfl rfl) ?_
    refine S_ 8 rfl rfl rfl _ (y_assign rfl rfl) ?_
    refine S_ 9 rfl rfl rfl _ (y_assign rfl rfl) ?_
    refine S_go (fun _ _ h => h) ?_
    refine T_seq ?_
    refine T_region ?_
    refine S_ 29 rfl rfl rfl _ (y_move rfl rfl) ?_
    refine S_ 30 rfl rfl rfl _ (y_call rfl rfl rfl cf199 (fun _ w _ => Atoi_any y hd2.1 (by omega) hd2.2.2 w)) ?_
    refine S_ 28 rfl rfl rfl _ (y_move rfl rfl) ?_
    refine S_ 31 rfl rfl rfl _ (y_extract rfl rfl rfl) ?_
    refine S_ 32 rfl rfl rfl _ (y_extract rfl rfl rfl) ?_
    refine S_ 10 rfl rfl rfl _ (y_assign rfl rfl) ?_
    refine S_ 11 rfl rfl rfl _ (y_assign rfl rfl) ?_
    refine S_go (fun _ _ h => h) ?_
    refine T_seq ?_
    refine T_region ?_
    refine S_ 33 rfl rfl rfl _ (y_move rfl rfl) ?_
    refine S_ 34 rfl rfl rfl _ (y_move rfl rfl) ?_
    refine S_ 35 rfl rfl rfl _ (y_call rfl rfl rfl cf97 (fun _ w _ => cmpJ_any _ _ w)) ?_
    refine S_ 4 rfl rfl rfl _ (y_assign rfl rfl) ?_
    refine S_go (fun _ _ h => h) ?_
    refine T_ret (fun a w hF hM => hRb a w (post1 rfl rfl (fun w hM => ?_) a w hF hM))
    exact ⟨by rw [cmpPart, if_pos h18], hM.below⟩
  · skip
    refine T_seq ?_
    refine T_region ?_
    refine S_ 37 rfl rfl rfl _ (y_move rfl rfl) ?_
    refine S_ 36 rfl rfl rfl _ (y_assign rfl rfl) ?_
    refine S_go (fun _ _ h => h) ?_
    refine T_cond rfl (fun h36 => ?_) (fun h36 => ?_)
    · skip
      refine T_seq ?_
      refine T_region ?_
      refine S_ 4 rfl rfl rfl _ (y_assign rfl rfl) ?_
      refine S_go (fun _ _ h => h) ?_
      refine T_ret (fun a w hF hM => hRb a w (post1 rfl rfl (fun w hM => ?_) a w hF hM))
      exact ⟨by rw [cmpPart, if_neg (by simp [h18]), if_pos h36], hM.below⟩
    · skip
      refine T_seq ?_
      refine T_region ?_
      refine S_ 39 rfl rfl rfl _ (y_move rfl rfl) ?_
      refine S_ 38 rfl rfl rfl _ (y_assign rfl rfl) ?_
      refine S_go (fun _ _ h => h) ?_
      refine T_cond rfl (fun h38 => ?_) (fun h38 => ?_)
      · skip
        refine T_seq ?_
        refine T_region ?_
        refine S_ 4 rfl rfl rfl _ (y_assign rfl rfl) ?_
        refine S_go (fun _ _ h => h) ?_
        refine T_ret (fun a w hF hM => hRb a w (post1 rfl rfl (fun w hM => ?_) a w hF hM))
        exact ⟨by rw [cmpPart, if_neg (by simp [h18]), if_neg (by simp [h36]), if_pos h38], hM.below⟩
      · skip
        refine T_skip_go (fun _ _ h => h) ?_
        refine T_seq ?_
        refine T_region ?_
        refine S_ 40 rfl rfl rfl _ (y_move rfl rfl) ?_
        refine S_ 41 rfl rfl rfl _ (y_move rfl rfl) ?_
        refine S_ 42 rfl rfl rfl _ (y_call rfl rfl rfl cf96 (fun _ w _ => cmpB_any _ _ w)) ?_
        refine S_ 4 rfl rfl rfl _ (y_assign rfl rfl) ?_
        refine S_go (fun _ _ h => h) ?_
        refine T_ret (fun a w hF hM => hRb a w (post1 rfl rfl (fun w hM => ?_) a w hF hM))
        exact ⟨by rw [cmpPart, if_neg (by simp [h18]), if_neg (by simp [h36]), if_neg (by simp [h38])], hM.below⟩
theorem CmpF_any (A B : Option Addr) (q c p d : Nat) (l m : List (List UInt8)) (w : World) (hl : SlT strE 1 w A q l) (hm : SlT strE 1 w B p m) (hq : q ≤ 1000000000) (hp : p ≤ 1000000000) (hln : ∀ s ∈ l, s.length ≤ 1000000000) (hmn : ∀ s ∈ m, s.length ≤ 1000000000) :
    Calls Tryz.prog 98 #[.slice A q c, .slice B p d, .func (.func 99) #[] #[]] w fun e w' => e = .returned (.int .i64 (cmpL cmpPart l m)) ∧ Below w.heap.size w w' := by
  have hlen := hl.len
  have hmen := hm.len
  refine enter_args (args := [.slice A q c, .slice B p d, .func (.func 99) #[] #[]]) (F := _) Tryz.func98 rfl Tryz.ntmps98 rfl rfl ?_
  intro Rb hRb hRn
  refine T_seq ?_
  refine T_region ?_
  refine S_ 6 rfl rfl rfl _ (y_assign rfl rfl) ?_
  refine S_go (fun _ _ h => h) ?_
  refine T_seq ?_
  refine T_seq ?_
  refine T_region ?_
  refine S_ 11 rfl rfl rfl _ (y_move rfl rfl) ?_
  refine S_ 12 rfl rfl rfl _ (y_len_slice rfl rfl Tryz.underlying40) ?_
  refine S_ 13 rfl rfl rfl _ (y_move rfl rfl) ?_
  refine S_go (fun _ _ h => h) ?_
  refine T_block ?_
  refine T_loopK1 (kf := [(6, 10), (13, 33)]) (kl := [(6, 10), (13, 33)]) (fun (i : Nat) => [(13, true, .int .i64 (i : Int))]) (fun (i : Nat) => []) (fun (i : Nat) => i ≤ q ∧ i ≤ p ∧ cmpL cmpPart l m = cmpL cmpPart (l.drop i) (m.drop i)) (fun (i : Nat) => q - i) 0 (by repeat (first | exact kf_nil | (apply kf_in; focus rfl) | (apply kf_out; focus rfl))) (by repeat (first | exact kl_nil | exact kl_rest (by assumption) rfl | (apply kl_in; focus rfl) | (apply kl_out; focus rfl))) ?_ ?_ ?_ ?_
  · exact ⟨by omega, by omega, rfl⟩
  · exact ⟨rfl, trivial⟩
  · exact trivial
  rintro i ⟨hp1, hp3, hp2⟩
  refine T_seq ?_
  refine T_region ?_
  refine S_ 14 rfl rfl rfl _ (y_bin rfl rfl rfl (fun _ => b_lss)) ?_
  refine S_go (fun _ _ h => h) ?_
  refine T_seq ?_
  refine T_cond rfl (fun h14 => ?_) (fun h14 => ?_)
  · try simp only [decide_eq_true_eq, decide_eq_false_iff_not, Bool.or_eq_true, Bool.or_eq_false_iff, Bool.and_eq_true, Bool.and_eq_false_iff, Bool.not_eq_true', Bool.not_eq_false', Bool.not_eq_true, Bool.not_eq_false, Bool.not_true, Bool.not_false, Int.not_lt, Int.not_le, not_or, not_and, Classical.not_not] at h14
    obtain ⟨x, hx1, hx2⟩ := hl.at (i := i) (by omega)
    refine T_skip_go (fun _ _ h => h) ?_
    refine T_seq ?_
    refine T_block ?_
    refine T_seq ?_
    refine T_region ?_
    refine S_ 15 rfl rfl rfl _ (y_move rfl rfl) ?_
    refine S_ 16 rfl rfl rfl _ (y_indexAddr rfl rfl rfl Tryz.underlying40 sz9 (fun hg => hl.isSome (by omega)) (fun _ => by omega)) ?_
    refine S_ 17 rfl rfl rfl _ (y_loadT1 (val := (fun l : List UInt8 => str l)) rfl rfl hl (fun _ => hx1) Tryz.underlying9 rfl) ?_
    refine S_ 7 rfl rfl rfl _ (y_assign rfl rfl) ?_
    refine S_ 8 rfl rfl rfl _ (y_assign rfl rfl) ?_
    refine S_go (fun _ _ h => h) ?_
    refine T_seq ?_
    refine T_seq ?_
    refine T_region ?_
    refine S_ 18 rfl rfl rfl _ (y_move rfl rfl) ?_
    refine S_ 19 rfl rfl rfl _ (y_move rfl rfl) ?_
    refine S_ 20 rfl rfl rfl _ (y_len_slice rfl rfl Tryz.underlying40) ?_
    refine S_ 21 rfl rfl rfl _ (y_bin rfl rfl rfl (fun _ => b_geq)) ?_
    refine S_go (fun _ _ h => h) ?_
    refine T_cond rfl (fun h21 => ?_) (fun h21 => ?_)
    · try simp only [decide_eq_true_eq, decide_eq_false_iff_not, Bool.or_eq_true, Bool.or_eq_false_iff, Bool.and_eq_true, Bool.and_eq_false_iff, Bool.not_eq_true', Bool.not_eq_false', Bool.not_eq_true, Bool.not_eq_false, Bool.not_true, Bool.not_false, Int.not_lt, Int.not_le, not_or, not_and, Classical.not_not] at h21
      refine T_seq ?_
      refine T_region ?_
      refine S_ 6 rfl rfl rfl _ (y_assign rfl rfl) ?_
      refine S_go (fun _ _ h => h) ?_
      refine T_ret (fun a w hF hM => hRb a w (post1 rfl rfl (fun w hM => ?_) a w hF hM))
      exact ⟨by rw [hp2, hx2, hm.end (by omega)]; rfl, hM.below⟩
    · try simp only [decide_eq_true_eq, decide_eq_false_iff_not, Bool.or_eq_true, Bool.or_eq_false_iff, Bool.and_eq_true, Bool.and_eq_false_iff, Bool.not_eq_true', Bool.not_eq_false', Bool.not_eq_true, Bool.not_eq_false, Bool.not_true, Bool.not_false, Int.not_lt, Int.not_le, not_or, not_and, Classical.not_not] at h21
      obtain ⟨y, hy1, hy2⟩ := hm.at (i := i) (by omega)
      refine T_skip_go (fun _ _ h => h) ?_
      refine T_seq ?_
      refine T_region ?_
      refine S_ 22 rfl rfl rfl _ (y_move rfl rfl) ?_
      refine S_ 23 rfl rfl rfl _ (y_move rfl rfl) ?_
      refine S_ 24 rfl rfl rfl _ (y_indexAddr rfl rfl rfl Tryz.underlying40 sz9 (fun hg => hm.isSome (by omega)) (fun _ => by omega)) ?_
      refine S_ 25 rfl rfl rfl _ (y_loadT1 (val := (fun l : List UInt8 => str l)) rfl rfl hm (fun _ => hy1) Tryz.underlying9 rfl) ?_
      refine S_ 9 rfl rfl rfl _ (y_assign rfl rfl) ?_
      refine S_go (fun _ _ h => h) ?_
      refine T_seq ?_
      refine T_region ?_
      refine S_ 26 rfl rfl rfl _ (y_move rfl rfl) ?_
      refine S_ 27 rfl rfl rfl _ (y_move rfl rfl) ?_
      refine S_ 28 rfl rfl rfl _ (y_move rfl rfl) ?_
      refine S_ 29 rfl rfl rfl _ (y_call rfl rfl rfl cf99 (fun _ w _ => comparePre_any x y (hln x (mem_at hx1)) (hmn y (mem_at hy1)) w)) ?_
      refine S_ 10 rfl rfl rfl _ (y_assign rfl rfl) ?_
      refine S_go (fun _ _ h => h) ?_
      refine T_seq ?_
      refine T_region ?_
      refine S_ 30 rfl rfl rfl _ (y_move rfl rfl) ?_
      refine S_ 31 rfl rfl rfl _ (y_bin rfl rfl rfl (fun _ => b_neq)) ?_
      refine S_go (fun _ _ h => h) ?_
      refine T_cond rfl (fun h31 => ?_) (fun h31 => ?_)
      · skip
        refine T_seq ?_
        refine T_region ?_
        refine S_ 32 rfl rfl rfl _ (y_move rfl rfl) ?_
        refine S_ 6 rfl rfl rfl _ (y_assign rfl rfl) ?_
        refine S_go (fun _ _ h => h) ?_
        refine T_ret (fun a w hF hM => hRb a w (post1 rfl rfl (fun w hM => ?_) a w hF hM))
        exact ⟨by rw [hp2, hx2, hy2, cmpL, if_pos (by simpa using h31)], hM.below⟩
      · skip
        refine T_skip_go (fun _ _ h => h) ?_
        refine T_region ?_
        refine S_ 33 rfl rfl rfl _ (y_bin rfl rfl rfl (fun hg => b_add (by omega))) ?_
        refine S_ 13 rfl rfl rfl _ (y_move rfl rfl) ?_
        refine S_nil (nextK1 (kf := [(6, 10), (13, 33)]) (kl := [(6, 10), (13, 33)]) (i + 1) (by repeat (first | exact kf_nil | (apply kf_in; focus rfl) | (apply kf_out; focus rfl))) (by repeat (first | exact kl_nil | exact kl_rest (by assumption) rfl | (apply kl_in; focus rfl) | (apply kl_out; focus rfl))) ?_ ?_ ?_ ?_)
        · omega
        · exact ⟨by omega, by omega, by rw [hp2, hx2, hy2, cmpL, if_neg (by simpa using h31)]⟩
        · exact ⟨rfl, trivial⟩
        · exact trivial
  · try simp only [decide_eq_true_eq, decide_eq_false_iff_not, Bool.or_eq_true, Bool.or_eq_false_iff, Bool.and_eq_true, Bool.and_eq_false_iff, Bool.not_eq_true', Bool.not_eq_false', Bool.not_eq_true, Bool.not_eq_false, Bool.not_true, Bool.not_false, Int.not_lt, Int.not_le, not_or, not_and, Classical.not_not] at h14
    refine T_exit_go (fun _ _ h => h) ?_
    refine T_seq ?_
    refine T_seq ?_
    refine T_region ?_
    refine S_ 34 rfl rfl rfl _ (y_move rfl rfl) ?_
    refine S_ 35 rfl rfl rfl _ (y_len_slice rfl rfl Tryz.underlying40) ?_
    refine S_ 36 rfl rfl rfl _ (y_move rfl rfl) ?_
    refine S_ 37 rfl rfl rfl _ (y_len_slice rfl rfl Tryz.underlying40) ?_
    refine S_ 38 rfl rfl rfl _ (y_bin rfl rfl rfl (fun _ => b_lss)) ?_
    refine S_go (fun _ _ h => h) ?_
    refine T_cond rfl (fun h38 => ?_) (fun h38 => ?_)
    · try simp only [decide_eq_true_eq, decide_eq_false_iff_not, Bool.or_eq_true, Bool.or_eq_false_iff, Bool.and_eq_true, Bool.and_eq_false_iff, Bool.not_eq_true', Bool.not_eq_false', Bool.not_eq_true, Bool.not_eq_false, Bool.not_true, Bool.not_false, Int.not_lt, Int.not_le, not_or, not_and, Classical.not_not] at h38
      refine T_seq ?_
      refine T_region ?_
      refine S_ 6 rfl rfl rfl _ (y_assign rfl rfl) ?_
      refine S_go (fun _ _ h => h) ?_
      refine T_ret (fun a w hF hM => hRb a w (post1 rfl rfl (fun w hM => ?_) a w hF hM))
      obtain ⟨y, hy1, hy2⟩ := hm.at (i := i) (by omega)
      exact ⟨by rw [hp2, hl.end (by omega), hy2]; rfl, hM.below⟩
    · try simp only [decide_eq_true_eq, decide_eq_false_iff_not, Bool.or_eq_true, Bool.or_eq_false_iff, Bool.and_eq_true, Bool.and_eq_false_iff, Bool.not_eq_true', Bool.not_eq_false', Bool.not_eq_true, Bool.not_eq_false, Bool.not_true, Bool.not_false, Int.not_lt, Int.not_le, not_or, not_and, Classical.not_not] at h38
      refine T_skip_go (fun _ _ h => h) ?_
      refine T_seq ?_
      refine T_region ?_
      refine S_ 6 rfl rfl rfl _ (y_assign rfl rfl) ?_
      refine S_go (fun _ _ h => h) ?_
      refine T_ret (fun a w hF hM => hRb a w (post1 rfl rfl (fun w hM => ?_) a w hF hM))
      exact ⟨by rw [hp2, hl.end (by omega), hm.end (by omega)]; rfl, hM.below⟩
theorem Compare_any (x y : SVer) (w : World) (hx : VerOk w x) (hy : VerOk w y) :
    Calls Tryz.prog 22 #[x.val, y.val] w fun e w' => e = .returned (.int .i64 (cmpV x.says y.says)) ∧ Below w.heap.size w w' := by
  have hxl := hx.ok.t.len
  have hyl := hy.ok.t.len
  have hxq := hx.q
  have hyq := hy.q
  have nil_iff : ∀ {l : List (List UInt8)} {q : Nat}, l.length = q → (l = [] ↔ (q : Int) = 0) := by
    intro l q h
    constructor
    · intro e; subst e; simp at h; omega
    · intro e; exact List.eq_nil_of_length_eq_zero (by omega)
  have hxn : x.says.pre = [] ↔ (x.pre.q : Int) = 0 := nil_iff hxl
  have hyn : y.says.pre = [] ↔ (y.pre.q : Int) = 0 := nil_iff hyl
  refine enter_args (args := [.agg #[str x.p, .int .i64 x.a, .int .i64 x.b, .int .i64 x.c, .slice x.pre.A x.pre.q x.pre.c], .agg #[str y.p, .int .i64 y.a, .int .i64 y.b, .int .i64 y.c, .slice y.pre.A y.pre.q y.pre.c]]) (F := _) Tryz.func22 rfl Tryz.ntmps22 rfl rfl ?_
  intro Rb hRb hRn
  refine T_seq ?_
  refine T_region ?_
  refine S_box 2 2 rfl rfl rfl rfl rfl ?_
  intro b2
  refine S_box 3 3 rfl rfl rfl rfl rfl ?_
  intro b3
  refine S_ 4 rfl rfl rfl _ (y_assign rfl rfl) ?_
  refine S_go (fun _ _ h => h) ?_
  refine T_seq ?_
  refine T_seq ?_
  refine T_drawsTail 20 (by kernel_rfl) (by kernel_rfl) ?_
  refine D_ 8 rfl rfl rfl _ (y_fieldAddr rfl rfl fa42_0) ?_
  refine D_ 9 rfl rfl rfl _ (y_load 2 rfl rfl rfl rfl Tryz.underlying9 rfl) ?_
  refine D_ 10 rfl rfl rfl _ (y_fieldAddr rfl rfl fa42_0) ?_
  refine D_ 11 rfl rfl rfl _ (y_load 3 rfl rfl rfl rfl Tryz.underlying9 rfl) ?_
  refine D_ 12 rfl rfl rfl _ (y_call rfl rfl rfl cf96 (fun _ w _ => cmpB_any _ _ w)) ?_
  refine D_ 13 rfl rfl rfl _ (y_fieldAddr rfl rfl fa42_1) ?_
  refine D_ 14 rfl rfl rfl _ (y_load 2 rfl rfl rfl rfl Tryz.underlying3 rfl) ?_
  refine D_ 15 rfl rfl rfl _ (y_fieldAddr rfl rfl fa42_1) ?_
  refine D_ 16 rfl rfl rfl _ (y_load 3 rfl rfl rfl rfl Tryz.underlying3 rfl) ?_
  refine D_ 17 rfl rfl rfl _ (y_call rfl rfl rfl cf97 (fun _ w _ => cmpJ_any _ _ w)) ?_
  refine D_ 18 rfl rfl rfl _ (y_fieldAddr rfl rfl fa42_2) ?_
  refine D_ 19 rfl rfl rfl _ (y_load 2 rfl rfl rfl rfl Tryz.underlying3 rfl) ?_
  refine D_ 20 rfl rfl rfl _ (y_fieldAddr rfl rfl fa42_2) ?_
  refine D_ 21 rfl rfl rfl _ (y_load 3 rfl rfl rfl rfl Tryz.underlying3 rfl) ?_
  refine D_ 22 rfl rfl rfl _ (y_call rfl rfl rfl cf97 (fun _ w _ => cmpJ_any _ _ w)) ?_
  refine D_ 23 rfl rfl rfl _ (y_fieldAddr rfl rfl fa42_3) ?_
  refine D_ 24 rfl rfl rfl _ (y_load 2 rfl rfl rfl rfl Tryz.underlying3 rfl) ?_
  refine D_ 25 rfl rfl rfl _ (y_fieldAddr rfl rfl fa42_3) ?_
  refine D_ 26 rfl rfl rfl _ (y_load 3 rfl rfl rfl rfl Tryz.underlying3 rfl) ?_
  refine D_ 27 rfl rfl rfl _ (y_call rfl rfl rfl cf97 (fun _ w _ => cmpJ_any _ _ w)) ?_
  refine D_tail ?_
  refine S_buildSlice 28 28 rfl rfl rfl rfl rfl Tryz.underlying142 inf3 rfl (by decide) (by decide) rfl rfl (by decide) rfl (_) rfl ?_
  intro b28
  refine S_ 29 rfl rfl rfl _ (y_as (v' := .int .i64 (headC x.says y.says)) (by exact rfl) (y_call rfl rfl rfl cf95 (fun _ w hM => or4_any _ _ (cmpB x.p y.p) (cmpJ x.a y.a) (cmpJ x.b y.b) (cmpJ x.c y.c) w ⟨own_reads hM (i := 28) rfl, rfl⟩))) ?_
  refine S_ 5 rfl rfl rfl _ (y_assign rfl rfl) ?_
  refine S_go (fun _ _ h => h) ?_
  refine T_seq ?_
  refine T_region ?_
  refine S_ 30 rfl rfl rfl _ (y_move rfl rfl) ?_
  refine S_ 31 rfl rfl rfl _ (y_bin rfl rfl rfl (fun _ => b_neq)) ?_
  refine S_go (fun _ _ h => h) ?_
  refine T_cond rfl (fun h31 => ?_) (fun h31 => ?_)
  · skip
    have h31 : headC x.says y.says ≠ 0 := by simpa using h31
    refine T_seq ?_
    refine T_region ?_
    refine S_ 32 rfl rfl rfl _ (y_move rfl rfl) ?_
    refine S_ 4 rfl rfl rfl _ (y_assign rfl rfl) ?_
    refine S_go (fun _ _ h => h) ?_
    refine T_ret (fun a w hF hM => hRb a w (post1 rfl rfl (fun w hM => ?_) a w hF hM))
    exact ⟨by rw [cmpV, if_pos h31], hM.below⟩
  · skip
    have h31 : ¬ headC x.says y.says ≠ 0 := by simpa using h31
    refine T_skip_go (fun _ _ h => h) ?_
    refine T_seq ?_
    refine T_seq ?_
    refine T_draws (by kernel_rfl) (by kernel_rfl) ?_
    refine D_ 33 rfl rfl rfl _ (y_fieldAddr rfl rfl fa42_4) ?_
    refine D_ 34 rfl rfl rfl _ (y_load 2 rfl rfl rfl rfl Tryz.underlying40 rfl) ?_
    refine D_ 35 rfl rfl rfl _ (y_len_slice rfl rfl Tryz.underlying40) ?_
    refine D_ 36 rfl rfl rfl _ (y_bin rfl rfl rfl (fun _ => b_eql)) ?_
    refine D_ 37 rfl rfl rfl _ (y_fieldAddr rfl rfl fa42_4) ?_
    refine D_ 38 rfl rfl rfl _ (y_load 3 rfl rfl rfl rfl Tryz.underlying40 rfl) ?_
    refine D_ 39 rfl rfl rfl _ (y_len_slice rfl rfl Tryz.underlying40) ?_
    refine D_ 40 rfl rfl rfl _ (y_bin rfl rfl rfl (fun _ => b_eql)) ?_
    refine D_ 6 rfl rfl rfl _ (y_assign rfl rfl) ?_
    refine D_ 7 rfl rfl rfl _ (y_assign rfl rfl) ?_
    refine D_go (fun _ _ h => h) ?_
    refine T_block ?_
    refine T_seq ?_
    refine T_region ?_
    refine S_ 42 rfl rfl rfl _ (y_move rfl rfl) ?_
    refine S_ 43 rfl rfl rfl _ (y_move rfl rfl) ?_
    refine Sg_ 44 rfl rfl rfl rfl rfl rfl _ (y_move rfl rfl) ?_
    refine S_ 45 rfl rfl rfl _ (y_and rfl rfl rfl) ?_
    refine S_ 41 rfl rfl rfl _ (y_assign rfl rfl) ?_
    refine S_go (fun _ _ h => h) ?_
    refine T_cond rfl (fun h41 => ?_) (fun h41 => ?_)
    · skip
      refine T_seq ?_
      refine T_region ?_
      refine S_ 4 rfl rfl rfl _ (y_assign rfl rfl) ?_
      refine S_go (fun _ _ h => h) ?_
      refine T_ret (fun a w hF hM => hRb a w (post1 rfl rfl (fun w hM => ?_) a w hF hM))
      simp only [Bool.and_eq_true, decide_eq_true_eq] at h41
      exact ⟨by rw [cmpV, if_neg h31, cmpPre, if_pos (hxn.2 h41.1), if_pos (hyn.2 h41.2)], hM.below⟩
    · skip
      refine T_seq ?_
      refine T_region ?_
      refine S_ 47 rfl rfl rfl _ (y_move rfl rfl) ?_
      refine S_ 46 rfl rfl rfl _ (y_assign rfl rfl) ?_
      refine S_go (fun _ _ h => h) ?_
      refine T_cond rfl (fun h46 => ?_) (fun h46 => ?_)
      · skip
        refine T_seq ?_
        refine T_region ?_
        refine S_ 4 rfl rfl rfl _ (y_assign rfl rfl) ?_
        refine S_go (fun _ _ h => h) ?_
        refine T_ret (fun a w hF hM => hRb a w (post1 rfl rfl (fun w hM => ?_) a w hF hM))
        simp only [Bool.and_eq_false_iff, decide_eq_false_iff_not] at h41
        simp only [decide_eq_true_eq] at h46
        exact ⟨by rw [cmpV, if_neg h31, cmpPre, if_pos (hxn.2 h46), if_neg (fun h => by have := hyn.1 h; omega)], hM.below⟩
      · skip
        refine T_seq ?_
        refine T_region ?_
        refine S_ 49 rfl rfl rfl _ (y_move rfl rfl) ?_
        refine S_ 48 rfl rfl rfl _ (y_assign rfl rfl) ?_
        refine S_go (fun _ _ h => h) ?_
        refine T_cond rfl (fun h48 => ?_) (fun h48 => ?_)
        · skip
          refine T_seq ?_
          refine T_region ?_
          refine S_ 4 rfl rfl rfl _ (y_assign rfl rfl) ?_
          refine S_go (fun _ _ h => h) ?_
          refine T_ret (fun a w hF hM => hRb a w (post1 rfl rfl (fun w hM => ?_) a w hF hM))
          simp only [decide_eq_false_iff_not] at h46
          simp only [decide_eq_true_eq] at h48
          exact ⟨by rw [cmpV, if_neg h31, cmpPre, if_neg (fun h => h46 (hxn.1 h)), if_pos (hyn.2 h48)], hM.below⟩
        · skip
          refine T_skip_go (fun _ _ h => h) ?_
          refine T_seq ?_
          refine T_region ?_
          refine S_ 50 rfl rfl rfl _ (y_fieldAddr rfl rfl fa42_4) ?_
          refine S_ 51 rfl rfl rfl _ (y_load 2 rfl rfl rfl rfl Tryz.underlying40 rfl) ?_
          refine S_ 52 rfl rfl rfl _ (y_fieldAddr rfl rfl fa42_4) ?_
          refine S_ 53 rfl rfl rfl _ (y_load 3 rfl rfl rfl rfl Tryz.underlying40 rfl) ?_
          refine S_ 54 rfl rfl rfl _ (y_call rfl rfl rfl cf98 (fun _ w hM => CmpF_any _ _ _ _ _ _ x.pre.l y.pre.l w (hx.ok.t.below hM.below) (hy.ok.t.below hM.below) hxq hyq hx.n hy.n)) ?_
          refine S_ 4 rfl rfl rfl _ (y_assign rfl rfl) ?_
          refine S_go (fun _ _ h => h) ?_
          refine T_ret (fun a w hF hM => hRb a w (post1 rfl rfl (fun w hM => ?_) a w hF hM))
          simp only [decide_eq_false_iff_not] at h46 h48
          exact ⟨by rw [cmpV, if_neg h31, cmpPre, if_neg (fun h => h46 (hxn.1 h)), if_neg (fun h => h48 (hyn.1 h))]; rfl, hM.below⟩
theorem routside_any (n lo hi : Int) (w : World) : Calls Tryz.prog 87 #[.int .i64 n, .int .i64 lo, .int .i64 hi] w fun e w' => e = .returned (.bool (outB n lo hi)) ∧ Below w.heap.size w w' := by
  refine enter_args (args := [.int .i64 n, .int .i64 lo, .int .i64 hi]) (F := _) Tryz.func87 rfl Tryz.ntmps87 rfl rfl ?_
  intro Rb hRb hRn
  refine T_seq ?_
  refine T_region ?_
  refine S_ 6 rfl rfl rfl _ (y_assign rfl rfl) ?_
  refine S_go (fun _ _ h => h) ?_
  refine T_seq ?_
  refine T_region ?_
  refine S_ 7 rfl rfl rfl _ (y_move rfl rfl) ?_
  refine S_ 8 rfl rfl rfl _ (y_move rfl rfl) ?_
  refine S_ 9 rfl rfl rfl _ (y_bin rfl rfl rfl (fun _ => b_lss)) ?_
  refine S_ 10 rfl rfl rfl _ (y_move rfl rfl) ?_
  refine Sg_ 11 rfl rfl rfl rfl rfl rfl _ (y_move rfl rfl) ?_
  refine Sg_ 12 rfl rfl rfl rfl rfl rfl _ (y_move rfl rfl) ?_
  refine Sg_ 13 rfl rfl rfl rfl rfl rfl _ (y_bin rfl rfl rfl (fun _ => b_gtr)) ?_
  refine S_ 14 rfl rfl rfl _ (y_or rfl rfl rfl) ?_
  refine S_ 6 rfl rfl rfl _ (y_assign rfl rfl) ?_
  refine S_go (fun _ _ h => h) ?_
  refine T_ret (fun a w hF hM => hRb a w (post1 rfl rfl (fun w hM => ?_) a w hF hM))
  exact ⟨rfl, hM.below⟩
theorem JoinD_any (A : Option Addr) (q c : Nat) (l : List (List UInt8)) (w : World) (hl : SlT strE 1 w A q l) (hq : 0 < q) (hcap : q ≤ c) (hlen : (Lib.join l [46]).length ≤ 140737488355328) (h47 : q ≤ 1000000) :
    Calls Tryz.prog 91 #[.slice A q c, str [46]] w fun e w' => e = .returned (str (Lib.join l [46])) ∧ Below w.heap.size w w' := by
  obtain ⟨ad, rfl, hlt, hc⟩ := hl.rd.2 hq
  obtain ⟨bk, o, sp⟩ := ad
  have hll := hl.len
  have hx : ∀ (j : Nat) (s : List UInt8), l[j]? = some s → w.cell? ((⟨bk, o, sp⟩ : Addr).add j) = some (str s) := fun j s hj => hc j (str s) (by rw [strs_flat, List.getElem?_map, hj]; rfl)
  have hsp : sp = none := by
    obtain ⟨s, hs⟩ : ∃ s, l[0]? = some s := ⟨_, List.getElem?_eq_getElem (by omega)⟩
    have h := hx 0 s hs
    cases sp with
    | none => rfl
    | some k =>
      rw [show (⟨bk, o, some k⟩ : Addr).add 0 = ⟨bk, o, some k⟩ from rfl] at h
      unfold World.cell? at h
      split at h
      · simp at h
      · cases h
  subst hsp
  have hm : (l.map fun s => (⟨s.toArray⟩ : ByteArray)).map (·.data.toList) = l := by rw [List.map_map]; exact (List.map_congr_left fun s _ => rfl).trans (List.map_id l)
  have h := Any.strings_Join Tryz.lays156 Tryz.Builder_Extra_156 bk o c (l.map fun s => ⟨s.toArray⟩) ⟨#[46]⟩ w (fun j x hj => by
      rw [List.getElem?_map] at hj
      obtain ⟨s, hs, rfl⟩ := Option.map_eq_some_iff.1 hj
      have := hx j s hs
      rwa [show (⟨bk, o, none⟩ : Addr).add j = ⟨bk, o + j, none⟩ from by unfold Addr.add; split <;> simp_all] at this) hlt (by rw [List.length_map]; omega) (by rw [List.length_map]; omega) (by rw [hm]; exact hlen)
  rw [hm, List.length_map, hll] at h
  exact h
theorem lensB_le {n : Nat} : ∀ l : List (List UInt8), (∀ s ∈ l, s.length ≤ n) → Lib.lens l ≤ n * l.length
  | [], _ => by simp [Lib.lens]
  | a :: r, h => by
    have h1 := h a (List.mem_cons_self ..)
    have h2 := lensB_le r fun s hs => h s (List.mem_cons_of_mem _ hs)
    have h3 : Lib.lens (a :: r) = a.length + Lib.lens r := by simp [Lib.lens]
    rw [h3, List.length_cons, Nat.mul_succ]; omega
theorem joinB_le {n : Nat} (c : UInt8) (l : List (List UInt8)) (h : ∀ s ∈ l, s.length ≤ n) : (Lib.join l [c]).length ≤ (n + 1) * l.length := by
  cases l with
  | nil => simp [Lib.join_nil]
  | cons a r =>
    have := lensB_le (a :: r) h
    rw [Lib.join_length]
    simp only [List.length_cons, List.length_nil] at this ⊢
    have e : (n + 1) * (r.length + 1) = n * (r.length + 1) + (r.length + 1) := Nat.succ_mul _ _
    rw [e]; omega
theorem proj_le {s : List UInt8} (h : projOk s = true) : s.length ≤ 40 := (name_iff.1 (proj_name h)).2.1
theorem Text_any (v : SVer) (w : World) (hv : VerOk w v) (hP : P10 w) :
    Calls Tryz.prog 19 #[v.val] w fun e w' => e = .returned (.tuple #[str (txtR v.says).1, .int .i64 (txtR v.says).2]) ∧ Below w.heap.size w w' := by
  have hlen := hv.ok.t.len
  have hq := hv.q
  have hia := Lib.itoa_length_le v.a hv.a.1 hv.a.2
  have hib := Lib.itoa_length_le v.b hv.b.1 hv.b.2
  have hic := Lib.itoa_length_le v.c hv.c.1 hv.c.2
  refine enter_args (args := [.agg #[str v.p, .int .i64 v.a, .int .i64 v.b, .int .i64 v.c, .slice v.pre.A v.pre.q v.pre.c]]) (F := _) Tryz.func19 rfl Tryz.ntmps19 rfl rfl ?_
  intro Rb hRb hRn
  refine T_seq ?_
  refine T_region ?_
  refine S_box 1 1 rfl rfl rfl rfl rfl ?_
  intro b1
  refine S_ 2 rfl rfl rfl _ (y_assign rfl rfl) ?_
  refine S_ 3 rfl rfl rfl _ (y_assign rfl rfl) ?_
  refine S_go (fun _ _ h => h) ?_
  refine T_seq ?_
  refine T_block ?_
  refine T_seq ?_
  refine T_region ?_
  refine S_ 6 rfl rfl rfl _ (y_fieldAddr rfl rfl fa42_0) ?_
  refine S_ 7 rfl rfl rfl _ (y_load 1 rfl rfl rfl rfl Tryz.underlying9 rfl) ?_
  refine S_ 8 rfl rfl rfl _ (y_call rfl rfl rfl cf86 (fun _ w _ => IsProject_any v.p w)) ?_
  refine S_ 9 rfl rfl rfl _ (y_not rfl rfl) ?_
  refine S_ 5 rfl rfl rfl _ (y_assign rfl rfl) ?_
  refine S_go (fun _ _ h => h) ?_
  refine T_cond rfl (fun h5 => ?_) (fun h5 => ?_)
  · skip
    have h5 : projOk v.says.p = false := by show projOk v.p = false; simpa using h5
    refine T_seq ?_
    refine T_region ?_
    refine S_ 2 rfl rfl rfl _ (y_assign rfl rfl) ?_
    refine S_ 3 rfl rfl rfl _ (y_assign rfl rfl) ?_
    refine S_go (fun _ _ h => h) ?_
    refine T_ret (fun a w hF hM => hRb a w (post2 rfl rfl rfl (fun w hM => ?_) a w hF hM))
    exact ⟨by rw [txtR, if_pos h5], hM.below⟩
  · skip
    have h5 : projOk v.p = true := by simpa using h5
    have hpl := proj_le h5
    refine T_seq ?_
    refine T_region ?_
    refine S_ 11 rfl rfl rfl _ (y_fieldAddr rfl rfl fa42_1) ?_
    refine S_ 12 rfl rfl rfl _ (y_load 1 rfl rfl rfl rfl Tryz.underlying3 rfl) ?_
    refine S_ 13 rfl rfl rfl _ (y_call rfl rfl rfl cf87 (fun _ w _ => routside_any _ _ _ w)) ?_
    refine S_ 14 rfl rfl rfl _ (y_move rfl rfl) ?_
    refine Sg_ 15 rfl rfl rfl rfl rfl rfl _ (y_fieldAddr rfl rfl fa42_2) ?_
    refine Sg_ 16 rfl rfl rfl rfl rfl rfl _ (y_load 1 rfl rfl rfl rfl Tryz.underlying3 rfl) ?_
    refine Sg_ 17 rfl rfl rfl rfl rfl rfl _ (y_call rfl rfl rfl cf87 (fun _ w _ => routside_any _ _ _ w)) ?_
    refine S_ 18 rfl rfl rfl _ (y_or rfl rfl rfl) ?_
    refine S_ 19 rfl rfl rfl _ (y_move rfl rfl) ?_
    refine Sg_ 20 rfl rfl rfl rfl rfl rfl _ (y_fieldAddr rfl rfl fa42_3) ?_
    refine Sg_ 21 rfl rfl rfl rfl rfl rfl _ (y_load 1 rfl rfl rfl rfl Tryz.underlying3 rfl) ?_
    refine Sg_ 22 rfl rfl rfl rfl rfl rfl _ (y_call rfl rfl rfl cf87 (fun _ w _ => routside_any _ _ _ w)) ?_
    refine S_ 23 rfl rfl rfl _ (y_or rfl rfl rfl) ?_
    refine S_ 10 rfl rfl rfl _ (y_assign rfl rfl) ?_
    refine S_go (fun _ _ h => h) ?_
    refine T_cond rfl (fun h10 => ?_) (fun h10 => ?_)
    · skip
      refine T_seq ?_
      refine T_region ?_
      refine S_ 2 rfl rfl rfl _ (y_assign rfl rfl) ?_
      refine S_ 3 rfl rfl rfl _ (y_assign rfl rfl) ?_
      refine S_go (fun _ _ h => h) ?_
      refine T_ret (fun a w hF hM => hRb a w (post2 rfl rfl rfl (fun w hM => ?_) a w hF hM))
      exact ⟨by rw [txtR, if_neg (by simp [SVer.says, h5]), if_pos (show (outB v.says.a 0 999999 || outB v.says.b 0 999999 || outB v.says.c 0 999999) = true from h10)], hM.below⟩
    · skip
      refine T_seq ?_
      refine T_region ?_
      refine S_ 25 rfl rfl rfl _ (y_fieldAddr rfl rfl fa42_4) ?_
      refine S_ 26 rfl rfl rfl _ (y_load 1 rfl rfl rfl rfl Tryz.underlying40 rfl) ?_
      refine S_ 27 rfl rfl rfl _ (y_len_slice rfl rfl Tryz.underlying40) ?_
      refine S_ 28 rfl rfl rfl _ (y_bin rfl rfl rfl (fun _ => b_gtr)) ?_
      refine S_ 24 rfl rfl rfl _ (y_assign rfl rfl) ?_
      refine S_go (fun _ _ h => h) ?_
      refine T_cond rfl (fun h24 => ?_) (fun h24 => ?_)
      · try simp only [decide_eq_true_eq, decide_eq_false_iff_not, Bool.or_eq_true, Bool.or_eq_false_iff, Bool.and_eq_true, Bool.and_eq_false_iff, Bool.not_eq_true', Bool.not_eq_false', Bool.not_eq_true, Bool.not_eq_false, Bool.not_true, Bool.not_false, Int.not_lt, Int.not_le, not_or, not_and, Classical.not_not] at h24
        refine T_seq ?_
        refine T_region ?_
        refine S_ 2 rfl rfl rfl _ (y_assign rfl rfl) ?_
        refine S_ 3 rfl rfl rfl _ (y_assign rfl rfl) ?_
        refine S_go (fun _ _ h => h) ?_
        refine T_ret (fun a w hF hM => hRb a w (post2 rfl rfl rfl (fun w hM => ?_) a w hF hM))
        exact ⟨by rw [txtR, if_neg (by simp [SVer.says, h5]), if_neg (by rw [show (outB v.says.a 0 999999 || outB v.says.b 0 999999 || outB v.says.c 0 999999) = false from h10]; exact Bool.false_ne_true), if_pos (by show (5 : Int) < v.pre.l.length; omega)], hM.below⟩
      · try simp only [decide_eq_true_eq, decide_eq_false_iff_not, Bool.or_eq_true, Bool.or_eq_false_iff, Bool.and_eq_true, Bool.and_eq_false_iff, Bool.not_eq_true', Bool.not_eq_false', Bool.not_eq_true, Bool.not_eq_false, Bool.not_true, Bool.not_false, Int.not_lt, Int.not_le, not_or, not_and, Classical.not_not] at h24
        have hjl := joinB_le (n := 1000000000) 46 v.pre.l hv.n
        have hjl : (Lib.join v.pre.l [46]).length ≤ 1000000001 * 5 := Nat.le_trans hjl (Nat.mul_le_mul_left _ (by omega))
        refine T_seq ?_
        refine T_region ?_
        refine S_ 30 rfl rfl rfl _ (y_fieldAddr rfl rfl fa42_4) ?_
        refine S_ 31 rfl rfl rfl _ (y_load 1 rfl rfl rfl rfl Tryz.underlying40 rfl) ?_
        refine S_ 32 rfl rfl rfl _ (y_call rfl rfl rfl cf38 (fun _ w hM => ContFS_any _ _ _ v.pre.l _ _ (fun p => !isPreB p) w (hv.ok.t.below hM.below) (by omega) cf88 fun x hx w1 _ => Text1_any x (hv.n x hx) w1)) ?_
        refine S_ 29 rfl rfl rfl _ (y_assign rfl rfl) ?_
        refine S_go (fun _ _ h => h) ?_
        refine T_cond rfl (fun h29 => ?_) (fun h29 => ?_)
        · skip
          refine T_seq ?_
          refine T_region ?_
          refine S_ 2 rfl rfl rfl _ (y_assign rfl rfl) ?_
          refine S_ 3 rfl rfl rfl _ (y_assign rfl rfl) ?_
          refine S_go (fun _ _ h => h) ?_
          refine T_ret (fun a w hF hM => hRb a w (post2 rfl rfl rfl (fun w hM => ?_) a w hF hM))
          exact ⟨by rw [txtR, if_neg (by simp [SVer.says, h5]), if_neg (by rw [show (outB v.says.a 0 999999 || outB v.says.b 0 999999 || outB v.says.c 0 999999) = false from h10]; exact Bool.false_ne_true), if_neg (by show ¬ (5 : Int) < v.pre.l.length; omega), if_pos (show badPre v.says.pre = true from h29)], hM.below⟩
        · skip
          refine T_skip_go (fun _ _ h => h) ?_
          refine T_seq ?_
          refine T_draws (by kernel_rfl) (by kernel_rfl) ?_
          refine D_ 33 rfl rfl rfl _ (y_fieldAddr rfl rfl fa42_0) ?_
          refine D_ 34 rfl rfl rfl _ (y_load 1 rfl rfl rfl rfl Tryz.underlying9 rfl) ?_
          refine D_ 35 rfl rfl rfl _ (y_bin rfl rfl rfl (fun hg => b_adds (by first | omega | (simp only [List.length_append, List.length_cons, List.length_nil]; omega)))) ?_
          refine D_ 36 rfl rfl rfl _ (y_fieldAddr rfl rfl fa42_1) ?_
          refine D_ 37 rfl rfl rfl _ (y_load 1 rfl rfl rfl rfl Tryz.underlying3 rfl) ?_
          refine D_ 38 rfl rfl rfl _ (y_call rfl rfl rfl cf90 (fun _ w hM => Itoa_any v.a hv.a.1 hv.a.2 w (hP.below hM.below))) ?_
          refine D_ 39 rfl rfl rfl _ (y_bin rfl rfl rfl (fun hg => b_adds (by first | omega | (simp only [List.length_append, List.length_cons, List.length_nil]; omega)))) ?_
          refine D_ 40 rfl rfl rfl _ (y_bin rfl rfl rfl (fun hg => b_adds (by first | omega | (simp only [List.length_append, List.length_cons, List.length_nil]; omega)))) ?_
          refine D_ 41 rfl rfl rfl _ (y_fieldAddr rfl rfl fa42_2) ?_
          refine D_ 42 rfl rfl rfl _ (y_load 1 rfl rfl rfl rfl Tryz.underlying3 rfl) ?_
          refine D_ 43 rfl rfl rfl _ (y_call rfl rfl rfl cf90 (fun _ w hM => Itoa_any v.b hv.b.1 hv.b.2 w (hP.below hM.below))) ?_
          refine D_ 44 rfl rfl rfl _ (y_bin rfl rfl rfl (fun hg => b_adds (by first | omega | (simp only [List.length_append, List.length_cons, List.length_nil]; omega)))) ?_
          refine D_ 45 rfl rfl rfl _ (y_bin rfl rfl rfl (fun hg => b_adds (by first | omega | (simp only [List.length_append, List.length_cons, List.length_nil]; omega)))) ?_
          refine D_ 46 rfl rfl rfl _ (y_fieldAddr rfl rfl fa42_3) ?_
          refine D_ 47 rfl rfl rfl _ (y_load 1 rfl rfl rfl rfl Tryz.underlying3 rfl) ?_
          refine D_ 48 rfl rfl rfl _ (y_call rfl rfl rfl cf90 (fun _ w hM => Itoa_any v.c hv.c.1 hv.c.2 w (hP.below hM.below))) ?_
          refine D_ 49 rfl rfl rfl _ (y_bin rfl rfl rfl (fun hg => b_adds (by first | omega | (simp only [List.length_append, List.length_cons, List.length_nil]; omega)))) ?_
          refine D_ 4 rfl rfl rfl _ (y_assign rfl rfl) ?_
          refine D_go (fun _ _ h => h) ?_
          refine T_seq ?_
          refine T_seq ?_
          refine T_region ?_
          refine S_ 50 rfl rfl rfl _ (y_fieldAddr rfl rfl fa42_4) ?_
          refine S_ 51 rfl rfl rfl _ (y_load 1 rfl rfl rfl rfl Tryz.underlying40 rfl) ?_
          refine S_ 52 rfl rfl rfl _ (y_len_slice rfl rfl Tryz.underlying40) ?_
          refine S_ 53 rfl rfl rfl _ (y_bin rfl rfl rfl (fun _ => b_gtr)) ?_
          refine S_go (fun _ _ h => h) ?_
          refine T_cond rfl (fun h53 => ?_) (fun h53 => ?_)
          · try simp only [decide_eq_true_eq, decide_eq_false_iff_not, Bool.or_eq_true, Bool.or_eq_false_iff, Bool.and_eq_true, Bool.and_eq_false_iff, Bool.not_eq_true', Bool.not_eq_false', Bool.not_eq_true, Bool.not_eq_false, Bool.not_true, Bool.not_false, Int.not_lt, Int.not_le, not_or, not_and, Classical.not_not] at h53
            have hne : ¬ v.pre.l = [] := fun e => by rw [e] at hlen; simp at hlen; omega
            refine T_region ?_
            refine S_ 54 rfl rfl rfl _ (y_move rfl rfl) ?_
            refine S_ 55 rfl rfl rfl _ (y_fieldAddr rfl rfl fa42_4) ?_
            refine S_ 56 rfl rfl rfl _ (y_load 1 rfl rfl rfl rfl Tryz.underlying40 rfl) ?_
            refine S_ 57 rfl rfl rfl _ (y_call rfl rfl rfl cf91 (fun _ w hM => JoinD_any _ _ _ v.pre.l w (hv.ok.t.below hM.below) (by omega) hv.ok.cap (by omega) (by omega))) ?_
            refine S_ 58 rfl rfl rfl _ (y_bin rfl rfl rfl (fun hg => b_adds (by first | omega | (simp only [List.length_append, List.length_cons, List.length_nil]; omega)))) ?_
            refine S_ 59 rfl rfl rfl _ (y_as (v' := str (verT v.says)) (by rw [verT, if_neg (show ¬ v.says.pre = [] from hne)]; rfl) (y_bin rfl rfl rfl (fun hg => b_adds (by first | omega | (simp only [List.length_append, List.length_cons, List.length_nil]; omega))))) ?_
            refine S_ 4 rfl rfl rfl _ (y_assign rfl rfl) ?_
            refine S_go (fun _ _ h => h) ?_
            refine T_seq ?_
            refine T_seq ?_
            refine T_region ?_
            refine S_ 60 rfl rfl rfl _ (y_as (v' := str (verT v.says)) (by exact rfl) (y_move rfl rfl)) ?_
            refine S_ 61 rfl rfl rfl _ (y_len_str rfl rfl Tryz.underlying9) ?_
            refine S_ 62 rfl rfl rfl _ (y_bin rfl rfl rfl (fun _ => b_gtr)) ?_
            refine S_go (fun _ _ h => h) ?_
            refine T_cond rfl (fun h62 => ?_) (fun h62 => ?_)
            · try simp only [decide_eq_true_eq, decide_eq_false_iff_not, Bool.or_eq_true, Bool.or_eq_false_iff, Bool.and_eq_true, Bool.and_eq_false_iff, Bool.not_eq_true', Bool.not_eq_false', Bool.not_eq_true, Bool.not_eq_false, Bool.not_true, Bool.not_false, Int.not_lt, Int.not_le, not_or, not_and, Classical.not_not] at h62
              refine T_seq ?_
              refine T_region ?_
              refine S_ 2 rfl rfl rfl _ (y_assign rfl rfl) ?_
              refine S_ 3 rfl rfl rfl _ (y_assign rfl rfl) ?_
              refine S_go (fun _ _ h => h) ?_
              refine T_ret (fun a w hF hM => hRb a w (post2 rfl rfl rfl (fun w hM => ?_) a w hF hM))
              exact ⟨by rw [txtR, if_neg (by simp [SVer.says, h5]), if_neg (by rw [show (outB v.says.a 0 999999 || outB v.says.b 0 999999 || outB v.says.c 0 999999) = false from h10]; exact Bool.false_ne_true), if_neg (by show ¬ (5 : Int) < v.pre.l.length; omega), if_neg (by rw [show badPre v.says.pre = false from h29]; exact Bool.false_ne_true), if_pos (by omega)], hM.below⟩
            · try simp only [decide_eq_true_eq, decide_eq_false_iff_not, Bool.or_eq_true, Bool.or_eq_false_iff, Bool.and_eq_true, Bool.and_eq_false_iff, Bool.not_eq_true', Bool.not_eq_false', Bool.not_eq_true, Bool.not_eq_false, Bool.not_true, Bool.not_false, Int.not_lt, Int.not_le, not_or, not_and, Classical.not_not] at h62
              refine T_skip_go (fun _ _ h => h) ?_
              refine T_seq ?_
              refine T_region ?_
              refine S_ 63 rfl rfl rfl _ (y_as (v' := str (verT v.says)) (by exact rfl) (y_move rfl rfl)) ?_
              refine S_ 2 rfl rfl rfl _ (y_assign rfl rfl) ?_
              refine S_ 3 rfl rfl rfl _ (y_assign rfl rfl) ?_
              refine S_go (fun _ _ h => h) ?_
              refine T_ret (fun a w hF hM => hRb a w (post2 rfl rfl rfl (fun w hM => ?_) a w hF hM))
              exact ⟨by rw [txtR, if_neg (by simp [SVer.says, h5]), if_neg (by rw [show (outB v.says.a 0 999999 || outB v.says.b 0 999999 || outB v.says.c 0 999999) = false from h10]; exact Bool.false_ne_true), if_neg (by show ¬ (5 : Int) < v.pre.l.length; omega), if_neg (by rw [show badPre v.says.pre = false from h29]; exact Bool.false_ne_true), if_neg (by omega)], hM.below⟩
          · try simp only [decide_eq_true_eq, decide_eq_false_iff_not, Bool.or_eq_true, Bool.or_eq_false_iff, Bool.and_eq_true, Bool.and_eq_false_iff, Bool.not_eq_true', Bool.not_eq_false', Bool.not_eq_true, Bool.not_eq_false, Bool.not_true, Bool.not_false, Int.not_lt, Int.not_le, not_or, not_and, Classical.not_not] at h53
            have hne : v.pre.l = [] := List.eq_nil_of_length_eq_zero (by omega)
            refine T_skip_go (fun _ _ h => h) ?_
            refine T_seq ?_
            refine T_seq ?_
            refine T_region ?_
            refine S_ 60 rfl rfl rfl _ (y_as (v' := str (verT v.says)) (by rw [verT, if_pos (show v.says.pre = [] from hne), List.append_nil]; rfl) (y_move rfl rfl)) ?_
            refine S_ 61 rfl rfl rfl _ (y_len_str rfl rfl Tryz.underlying9) ?_
            refine S_ 62 rfl rfl rfl _ (y_bin rfl rfl rfl (fun _ => b_gtr)) ?_
            refine S_go (fun _ _ h => h) ?_
            refine T_cond rfl (fun h62 => ?_) (fun h62 => ?_)
            · try simp only [decide_eq_true_eq, decide_eq_false_iff_not, Bool.or_eq_true, Bool.or_eq_false_iff, Bool.and_eq_true, Bool.and_eq_false_iff, Bool.not_eq_true', Bool.not_eq_false', Bool.not_eq_true, Bool.not_eq_false, Bool.not_true, Bool.not_false, Int.not_lt, Int.not_le, not_or, not_and, Classical.not_not] at h62
              refine T_seq ?_
              refine T_region ?_
              refine S_ 2 rfl rfl rfl _ (y_assign rfl rfl) ?_
              refine S_ 3 rfl rfl rfl _ (y_assign rfl rfl) ?_
              refine S_go (fun _ _ h => h) ?_
              refine T_ret (fun a w hF hM => hRb a w (post2 rfl rfl rfl (fun w hM => ?_) a w hF hM))
              exact ⟨by rw [txtR, if_neg (by simp [SVer.says, h5]), if_neg (by rw [show (outB v.says.a 0 999999 || outB v.says.b 0 999999 || outB v.says.c 0 999999) = false from h10]; exact Bool.false_ne_true), if_neg (by show ¬ (5 : Int) < v.pre.l.length; omega), if_neg (by rw [show badPre v.says.pre = false from h29]; exact Bool.false_ne_true), if_pos (by omega)], hM.below⟩
            · try simp only [decide_eq_true_eq, decide_eq_false_iff_not, Bool.or_eq_true, Bool.or_eq_false_iff, Bool.and_eq_true, Bool.and_eq_false_iff, Bool.not_eq_true', Bool.not_eq_false', Bool.not_eq_true, Bool.not_eq_false, Bool.not_true, Bool.not_false, Int.not_lt, Int.not_le, not_or, not_and, Classical.not_not] at h62
              refine T_skip_go (fun _ _ h => h) ?_
              refine T_seq ?_
              refine T_region ?_
              refine S_ 63 rfl rfl rfl _ (y_as (v' := str (verT v.says)) (by rw [verT, if_pos (show v.says.pre = [] from hne), List.append_nil]; rfl) (y_move rfl rfl)) ?_
              refine S_ 2 rfl rfl rfl _ (y_assign rfl rfl) ?_
              refine S_ 3 rfl rfl rfl _ (y_assign rfl rfl) ?_
              refine S_go (fun _ _ h => h) ?_
              refine T_ret (fun a w hF hM => hRb a w (post2 rfl rfl rfl (fun w hM => ?_) a w hF hM))
              exact ⟨by rw [txtR, if_neg (by simp [SVer.says, h5]), if_neg (by rw [show (outB v.says.a 0 999999 || outB v.says.b 0 999999 || outB v.says.c 0 999999) = false from h10]; exact Bool.false_ne_true), if_neg (by show ¬ (5 : Int) < v.pre.l.length; omega), if_neg (by rw [show badPre v.says.pre = false from h29]; exact Bool.false_ne_true), if_neg (by omega)], hM.below⟩
/-! ### What parse makes, as it lies -/
def svr (p : PVer) (A : Option Addr) (c : Nat) : SVer := ⟨p.p, p.a, p.b, p.c, ⟨A, p.pre.length, c, p.pre⟩⟩
theorem svr_says (p : PVer) (A : Option Addr) (c : Nat) : (svr p A c).says = p := rfl
structure PBound (p : PVer) : Prop where
  n : p.pre.length ≤ 41
  s : ∀ s ∈ p.pre, s.length ≤ 40
  r : p.p.length ≤ 40
  a : 0 ≤ p.a ∧ p.a ≤ 999999
  b : 0 ≤ p.b ∧ p.b ≤ 999999
  c : 0 ≤ p.c ∧ p.c ≤ 999999
theorem pver0_bound : PBound pver0 := ⟨Nat.zero_le _, fun s h => (by cases h), Nat.zero_le _, ⟨Int.le_refl _, by decide⟩, ⟨Int.le_refl _, by decide⟩, ⟨Int.le_refl _, by decide⟩⟩
theorem verV_bound {s : List UInt8} (h : s.length ≤ 40) : PBound (verV s) := by
  have hr : (rsS s).length ≤ 40 := by rw [rsS, List.length_drop]; omega
  have hc := cut_le 45 (rsS s)
  have hn : ∀ w, 0 ≤ numI w ∧ numI w ≤ 999999 := by
    intro w
    unfold numI
    split
    · rename_i hw
      have := (numOk_val hw).2
      omega
    · omega
  refine ⟨?_, fun x hx => ?_, by show (prS s).length ≤ 40; rw [prS, List.length_take]; omega, hn _, hn _, hn _⟩
  · show (preS s).length ≤ 41
    unfold preS
    split
    · exact split_len40 (by omega)
    · exact Nat.zero_le _
  · have hx : x ∈ preS s := hx
    unfold preS at hx
    split at hx
    · have := spl_le 46 _ x hx; omega
    · cases hx
theorem parseR_bound (s : List UInt8) : PBound (parseR s).1 := by
  unfold parseR
  split
  · exact pver0_bound
  · rename_i h
    simp only [Bool.or_eq_true, decide_eq_true_eq, not_or] at h
    split
    · exact pver0_bound
    · split
      · exact pver0_bound
      · exact verV_bound (by omega)
theorem rel_len {s : List UInt8} (h : relOk s = true) : s.length ≤ 40 := ((parse_iff s).1 h).2.1
theorem parE_bound (s : List UInt8) : PBound (parE s).1 := by
  unfold parE
  split
  · rename_i h; exact verV_bound (rel_len h)
  · exact pver0_bound
theorem svr_ok {w : World} {p : PVer} {A : Option Addr} {c : Nat} (hp : PBound p) (h : Sl.Ok strE 1 w ⟨A, p.pre.length, c, p.pre⟩) : VerOk w (svr p A c) := by
  have h1 := hp.a
  have h2 := hp.b
  have h3 := hp.c
  exact ⟨h, Nat.le_trans hp.n (by decide), fun s hs => Nat.le_trans (hp.s s hs) (by decide), Nat.le_trans hp.r (by decide), by show _ ≤ p.a ∧ p.a ≤ _; omega, by show _ ≤ p.b ∧ p.b ≤ _; omega, by show _ ≤ p.c ∧ p.c ≤ _; omega⟩
end Go.Proofs.YtpmlgnbbkpplhaaGreatDoor
end
section
namespace Go.Proofs.YtpmlgnbbkpplhaaGreatDoor
set_option linter.unusedSimpArgs false
set_option linter.unusedVariables false
set_option maxRecDepth 20000
open Go.RowKit Go.Eng
end Go.Proofs.YtpmlgnbbkpplhaaGreatDoor
end
section
namespace Go.Proofs.YtpmlgnbbkpplhaaGreatDoor
set_option linter.unusedSimpArgs false
set_option linter.unusedVariables false
set_option maxRecDepth 20000
open Go.RowKit Go.Eng
section
variable {α : Type} {f : α → α → Int}
theorem swo3 (h : Cmp3 f) : Go.Sort.SWO (Go.Proofs.ltOf f) := by
  refine ⟨fun a => ?_, fun a b c h1 h2 => ?_, fun a b c h1 h2 => ?_⟩
  · simp only [Go.Proofs.ltOf, decide_eq_false_iff_not]; have := h.refl a; omega
  · simp only [Go.Proofs.ltOf, decide_eq_true_eq] at h1 h2 ⊢
    exact h.lt_le h1 (by omega)
  · simp only [Go.Proofs.ltOf, decide_eq_false_iff_not] at h1 h2 ⊢
    have a1 := h.anti a b
    have a2 := h.anti b c
    have a3 := h.anti a c
    have := h.tr c b a (by omega) (by omega)
    omega
/-- a list sorted and another one, a permutation of it, sorted as well: where none but equal elements tie they are one list -/
theorem sorted_uniq {R : α → α → Prop} : ∀ {l m : List α}, l.Perm m → l.Pairwise R → m.Pairwise R → (∀ x ∈ l, ∀ y ∈ l, R x y → R y x → x = y) → l = m
  | [], m, hp, _, _, _ => (List.Perm.eq_nil hp.symm).symm
  | a :: r, m, hp, hl, hm, ha => by
    cases m with
    | nil => exact absurd hp.eq_nil (by simp)
    | cons b s =>
      have e : a = b := by
        have h1 : a ∈ b :: s := hp.subset (List.mem_cons_self ..)
        have h2 : b ∈ a :: r := hp.symm.subset (List.mem_cons_self ..)
        rcases List.mem_cons.1 h1 with h1 | h1
        · exact h1
        · rcases List.mem_cons.1 h2 with h2 | h2
          · exact h2.symm
          · exact ha a (List.mem_cons_self ..) b (List.mem_cons_of_mem _ h2) ((List.pairwise_cons.1 hl).1 b h2) ((List.pairwise_cons.1 hm).1 a h1)
      subst e
      rw [sorted_uniq ((List.perm_cons a).1 hp) (List.pairwise_cons.1 hl).2 (List.pairwise_cons.1 hm).2 fun x hx y hy => ha x (List.mem_cons_of_mem _ hx) y (List.mem_cons_of_mem _ hy)]
end
/-- the order of texts: of what the reference reads of them -/
def relE (s t : List UInt8) : Int := cmpV (parE s).1 (parE t).1
theorem cmp3_E : Cmp3 relE := cmp3_V.comap fun s => (parE s).1
def srtL (S : List (List UInt8)) : List (List UInt8) := pdqL relE S
theorem ltOf_f {α : Type} {f : α → α → Int} {x y : α} (h : Go.Proofs.ltOf f y x = false) (hf : Cmp3 f) : f x y ≤ 0 := by
  simp only [Go.Proofs.ltOf, decide_eq_false_iff_not] at h
  have := hf.anti x y
  omega
theorem srt_perm (S : List (List UInt8)) : (srtL S).Perm S := (pdqL_facts (swo3 cmp3_E) S).1
theorem srt_sorted (S : List (List UInt8)) : (srtL S).Pairwise fun s t => relE s t ≤ 0 := (pdqL_facts (swo3 cmp3_E) S).2.imp fun h => ltOf_f h cmp3_E
theorem parE_ok' {s : List UInt8} (h : relOk s = true) : (parE s).1 = verV s := by rw [parE, if_pos h]
theorem relE_zero {s t : List UInt8} (hs : relOk s = true) (ht : relOk t = true) (h1 : relE s t ≤ 0) (h2 : relE t s ≤ 0) : s = t := by
  have h3 := cmp3_E.anti s t
  have h4 : cmpV (verV s) (verV t) = 0 := by rw [← parE_ok' hs, ← parE_ok' ht]; show relE s t = 0; omega
  rw [← verT_of hs, ← verT_of ht, cmpV_zero (ver_right hs) (ver_right ht) h4]
/-- right texts sorted by any means are what the sort makes -/
theorem srt_uniq {S X : List (List UInt8)} (hS : ∀ s ∈ S, relOk s = true) (hp : X.Perm S) (hs : X.Pairwise fun s t => relE s t ≤ 0) : X = srtL S :=
  sorted_uniq (hp.trans (srt_perm S).symm) hs (srt_sorted S) fun x hx y hy => relE_zero (hS x (hp.subset hx)) (hS y (hp.subset hy))
/-- versions sorted, their texts -/
theorem srt_vers {S : List (List UInt8)} {V : List PVer} (hS : ∀ s ∈ S, relOk s = true) (hp : V.Perm (S.map verV)) (hs : V.Pairwise fun x y => cmpV x y ≤ 0) : V.map verT = srtL S := by
  have hm : ∀ v ∈ V, VRight v ∧ (verT v).length ≤ 40 := fun v hv => by
    obtain ⟨s, h1, rfl⟩ := List.mem_map.1 (hp.subset hv)
    exact ⟨ver_right (hS s h1), by rw [verT_of (hS s h1)]; exact rel_len (hS s h1)⟩
  refine srt_uniq hS ?_ ?_
  · have h1 := hp.map verT
    rw [List.map_map] at h1
    have h2 : S.map (verT ∘ verV) = S := by
      conv => rhs; rw [← List.map_id S]
      exact List.map_congr_left fun s hs => verT_of (hS s hs)
    rwa [h2] at h1
  · rw [List.pairwise_map]
    refine (List.pairwise_iff_forall_sublist.2 fun {a b} hab => ?_)
    have h3 := List.pairwise_iff_forall_sublist.1 hs hab
    have ha : a ∈ V := hab.subset (by simp)
    have hb : b ∈ V := hab.subset (by simp)
    have e : ∀ v, VRight v ∧ (verT v).length ≤ 40 → (parE (verT v)).1 = v := fun v hv => by
      have := of_verT hv.1 hv.2
      rw [parE_ok' this.1, this.2]
    show cmpV (parE (verT a)).1 (parE (verT b)).1 ≤ 0
    rw [e a (hm a ha), e b (hm b hb)]; exact h3
/-! ### Made compact -/
def cptF (out : List (List UInt8)) : List (List UInt8) → List (List UInt8)
  | [] => out
  | s :: r => if out.getLast? = some s then cptF out r else cptF (out ++ [s]) r
theorem cpt_len : ∀ (d out : List (List UInt8)), (cptF out d).length ≤ out.length + d.length
  | [], out => Nat.le_refl _
  | s :: r, out => by
    rw [cptF]
    split
    · have := cpt_len r out; rw [List.length_cons]; omega
    · have := cpt_len r (out ++ [s]); rw [List.length_append, List.length_singleton] at this; rw [List.length_cons]; omega
/-! ### The best one -/
def beats {α : Type} (lt : α → α → Bool) (x : α) : Option α → Bool
  | none => true
  | some y => lt x y
/-- of those for which a test holds the first one that none after it beats -/
def bestF {α : Type} (p : α → Bool) (lt : α → α → Bool) : List α → Option α → Option α
  | [], o => o
  | x :: r, o => bestF p lt r (if (p x && beats lt x o) = true then some x else o)
theorem bestF_map {α β : Type} (g : α → β) (p : β → Bool) (lt : β → β → Bool) : ∀ (l : List α) (o : Option α), bestF p lt (l.map g) (o.map g) = (bestF (fun x => p (g x)) (fun x y => lt (g x) (g y)) l o).map g
  | [], o => rfl
  | x :: r, o => by
    rw [List.map_cons, bestF, bestF, ← bestF_map g p lt r]
    congr 1
    cases o with
    | none =>
      show (if (p (g x) && true) = true then some (g x) else none) = Option.map g (if (p (g x) && true) = true then some x else none)
      by_cases h : (p (g x) && true) = true
      · rw [if_pos h, if_pos h]; rfl
      · rw [if_neg h, if_neg h]; rfl
    | some y =>
      show (if (p (g x) && lt (g x) (g y)) = true then some (g x) else some (g y)) = Option.map g (if (p (g x) && lt (g x) (g y)) = true then some x else some y)
      by_cases h : (p (g x) && lt (g x) (g y)) = true
      · rw [if_pos h, if_pos h]; rfl
      · rw [if_neg h, if_neg h]; rfl
theorem bestF_mem {α : Type} {p : α → Bool} {lt : α → α → Bool} : ∀ {l : List α} {o : Option α} {x : α}, bestF p lt l o = some x → x ∈ l ∨ o = some x
  | [], o, x, h => .inr h
  | a :: r, o, x, h => by
    rw [bestF] at h
    rcases bestF_mem h with h | h
    · exact .inl (List.mem_cons_of_mem _ h)
    · split at h
      · exact .inl (by rw [Option.some.inj h]; exact List.mem_cons_self ..)
      · exact .inr h
end Go.Proofs.YtpmlgnbbkpplhaaGreatDoor
end
section
namespace Go.Proofs.YtpmlgnbbkpplhaaGreatDoor
set_option linter.unusedSimpArgs false
set_option linter.unusedVariables false
set_option maxRecDepth 20000
open Go.RowKit Go.Eng
/-! ### .. by the bytes alone -/
end Go.Proofs.YtpmlgnbbkpplhaaGreatDoor
end
section
namespace Go.Proofs.YtpmlgnbbkpplhaaGreatDoor
set_option linter.unusedSimpArgs false
set_option linter.unusedVariables false
set_option maxRecDepth 20000
open Go.RowKit Go.Eng
def allNo (l : List (List UInt8)) : Int := if (2000 : Int) < l.length then 4 else if (l.all fun s => relOk s) = true then 0 else 8
structure AllR where
  A : Option Addr
  c : Nat
  l : List SVer
  rs : List Row
def AllR.sl (z : AllR) : Sl SVer := ⟨z.A, z.l.length, z.c, z.l⟩
structure AllR.Ok (w0 : World) (z : AllR) (S : List (List UInt8)) : Prop where
  says : z.l.map SVer.says = if allNo S = 0 then S.map verV else []
  n : ∀ v ∈ z.l, Sees w0 z.rs fun w => VerOk w v
theorem AllR.nil {w0 : World} {S : List (List UInt8)} {rs : List Row} (h : allNo S ≠ 0) : AllR.Ok w0 ⟨none, 0, [], rs⟩ S := ⟨by rw [if_neg h]; rfl, fun v hv => by cases hv⟩
theorem all_bad {S : List (List UInt8)} {s : List UInt8} (h : ¬ (2000 : Int) < S.length) (hs : s ∈ S) (hb : relOk s = false) : allNo S = 8 := by
  rw [allNo, if_neg h, if_neg]
  intro ha
  rw [List.all_eq_true.1 ha s hs] at hb; cases hb
theorem all_good {S : List (List UInt8)} (h : ¬ (2000 : Int) < S.length) (hs : ∀ s ∈ S, relOk s = true) : allNo S = 0 := by
  rw [allNo, if_neg h, if_pos (List.all_eq_true.2 hs)]
theorem all_ok {S : List (List UInt8)} (h : allNo S = 0) : S.length ≤ 2000 ∧ ∀ s ∈ S, relOk s = true := by
  unfold allNo at h
  split at h
  · omega
  · split at h
    · rename_i h1 h2
      exact ⟨by omega, List.all_eq_true.1 h2⟩
    · omega
set_option maxHeartbeats 1600000 in
theorem parseAll_any {w0 : World} {K : HL} (hK : FromK K) (A : Option Addr) (q c : Nat) (S : List (List UInt8)) (w : World) (hl : SlT strE 1 w0 A q S) (hM0 : Mem w0 ([] ++ K) w) :
    Calls Tryz.prog 110 #[.slice A q c] w fun e w' => ∃ z : AllR, e = .returned (.tuple #[.slice z.A z.l.length z.c, .int .i64 (allNo S)]) ∧ z.Ok w0 S ∧ Mem w0 ([(4, .own 42 5 (.slice z.A z.l.length z.c) z.l.length (z.l.flatMap SVer.enc)), (900, .many z.rs)] ++ K) w' := by
  have hlen := hl.len
  refine enterM_args (args := [.slice A q c]) (F := _) hM0 Tryz.func110 rfl Tryz.ntmps110 rfl rfl ?_
  intro Rb hRb hRn
  refine T_many0 900 ?_
  refine T_seq ?_
  refine T_region ?_
  refine S_nilSlice 2 (e := 42) (size := 5) ?_
  refine S_ 2 rfl rfl rfl _ (y_assign rfl rfl) ?_
  refine S_ 3 rfl rfl rfl _ (y_assign rfl rfl) ?_
  refine S_go (fun _ _ h => h) ?_
  refine T_seq ?_
  refine T_seq ?_
  refine T_region ?_
  refine S_ 9 rfl rfl rfl _ (y_move rfl rfl) ?_
  refine S_ 10 rfl rfl rfl _ (y_len_slice rfl rfl Tryz.underlying40) ?_
  refine S_ 11 rfl rfl rfl _ (y_bin rfl rfl rfl (fun _ => b_gtr)) ?_
  refine S_go (fun _ _ h => h) ?_
  refine T_cond rfl (fun h11 => ?_) (fun h11 => ?_)
  · try simp only [decide_eq_true_eq, decide_eq_false_iff_not, Bool.or_eq_true, Bool.or_eq_false_iff, Bool.and_eq_true, Bool.and_eq_false_iff, Bool.not_eq_true', Bool.not_eq_false', Bool.not_eq_true, Bool.not_eq_false, Bool.not_true, Bool.not_false, Int.not_lt, Int.not_le, not_or, not_and, Classical.not_not] at h11
    have hno : allNo S = 4 := by rw [allNo, if_pos (by omega)]
    refine T_seq ?_
    refine T_region ?_
    refine S_nilSlice 2 (e := 42) (size := 5) ?_
    refine S_ 2 rfl rfl rfl _ (y_assign rfl rfl) ?_
    refine S_nilSlice 4 (e := 42) (size := 5) ?_
    refine S_ 3 rfl rfl rfl _ (y_assign rfl rfl) ?_
    refine S_go (fun _ _ h => h) ?_
    refine T_ret (fun a w hF hM => hRb a w (post2 rfl rfl rfl (fun w hM => ?_) a w hF hM))
    rw [hno]
    exact ⟨⟨none, 0, [], []⟩, rfl, AllR.nil (by rw [hno]; decide), (hM.keep (ks := [(0, 999)]) (by repeat (first | exact kl_rest (by assumption) rfl | (apply kl_in; focus rfl))) _ ⟨rfl, rfl, trivial⟩)⟩
  · try simp only [decide_eq_true_eq, decide_eq_false_iff_not, Bool.or_eq_true, Bool.or_eq_false_iff, Bool.and_eq_true, Bool.and_eq_false_iff, Bool.not_eq_true', Bool.not_eq_false', Bool.not_eq_true, Bool.not_eq_false, Bool.not_true, Bool.not_false, Int.not_lt, Int.not_le, not_or, not_and, Classical.not_not] at h11
    have hq : q ≤ 2000 := by omega
    refine T_skip_go (fun _ _ h => h) ?_
    refine T_seq ?_
    refine T_region ?_
    refine S_nilSlice 4 (e := 42) (size := 5) ?_
    refine S_ 4 rfl rfl rfl _ (y_assign rfl rfl) ?_
    refine S_go (fun _ _ h => h) ?_
    refine T_seq ?_
    refine T_seq ?_
    refine T_region ?_
    refine S_ 12 rfl rfl rfl _ (y_move rfl rfl) ?_
    refine S_ 13 rfl rfl rfl _ (y_len_slice rfl rfl Tryz.underlying40) ?_
    refine S_ 14 rfl rfl rfl _ (y_move rfl rfl) ?_
    refine S_go (fun _ _ h => h) ?_
    refine T_block ?_
    refine T_loopK5 (kf := [(2, 4), (6, 8), (14, 29)]) (kl := [(2, 4), (6, 8), (14, 29), (900, 900)]) (fun (i : Nat) (L : List SVer) (A4 : Option Addr) (c4 : Nat) (rs : List Row) => [(14, true, .int .i64 (i : Int)), (4, true, .slice A4 i c4)]) (fun (i : Nat) (L : List SVer) (A4 : Option Addr) (c4 : Nat) (rs : List Row) => [(4, .own 42 5 (.slice A4 i c4) i (L.flatMap SVer.enc)), (900, .many rs)]) (fun (i : Nat) (L : List SVer) (A4 : Option Addr) (c4 : Nat) (rs : List Row) => i ≤ q ∧ L.length = i ∧ L.map SVer.says = (S.take i).map verV ∧ (∀ s ∈ S.take i, relOk s = true) ∧ ∀ v ∈ L, Sees w0 rs fun w => VerOk w v) (fun (i : Nat) (L : List SVer) (A4 : Option Addr) (c4 : Nat) (rs : List Row) => q - i) 0 [] none 0 [] (by repeat (first | exact kf_nil | (apply kf_in; focus rfl) | (apply kf_out; focus rfl))) (by repeat (first | exact kl_nil | exact kl_rest (by assumption) rfl | (apply kl_in; focus rfl) | (apply kl_out; focus rfl))) ?_ ?_ ?_ ?_
    · exact ⟨by omega, rfl, rfl, (fun s h => by cases h), (fun v h => by cases h)⟩
    · exact ⟨rfl, rfl, trivial⟩
    · exact ⟨rfl, rfl, trivial⟩
    rintro i L A4 c4 rs ⟨hp1, hp2, hp3, hp4, hp5⟩
    refine T_seq ?_
    refine T_region ?_
    refine S_ 15 rfl rfl rfl _ (y_bin rfl rfl rfl (fun _ => b_lss)) ?_
    refine S_go (fun _ _ h => h) ?_
    refine T_seq ?_
    refine T_cond rfl (fun h15 => ?_) (fun h15 => ?_)
    · try simp only [decide_eq_true_eq, decide_eq_false_iff_not, Bool.or_eq_true, Bool.or_eq_false_iff, Bool.and_eq_true, Bool.and_eq_false_iff, Bool.not_eq_true', Bool.not_eq_false', Bool.not_eq_true, Bool.not_eq_false, Bool.not_true, Bool.not_false, Int.not_lt, Int.not_le, not_or, not_and, Classical.not_not] at h15
      obtain ⟨x, hx1, hx2⟩ := hl.at (i := i) (by omega)
      refine T_skip_go (fun _ _ h => h) ?_
      refine T_seq ?_
      refine T_block ?_
      refine T_seq ?_
      refine T_region ?_
      refine S_ 16 rfl rfl rfl _ (y_indexAddr rfl rfl rfl Tryz.underlying40 sz9 (fun hg => hl.isSome (by omega)) (fun _ => by omega)) ?_
      refine S_ 17 rfl rfl rfl _ (y_loadT1 (val := (fun l : List UInt8 => str l)) rfl rfl hl (fun _ => hx1) Tryz.underlying9 rfl) ?_
      refine S_ 6 rfl rfl rfl _ (y_assign rfl rfl) ?_
      refine S_go (fun _ _ h => h) ?_
      refine T_seq ?_
      refine T_region ?_
      refine S_ 19 rfl rfl rfl _ (y_move rfl rfl) ?_
      refine S_callOwn 20 20 rfl rfl rfl rfl rfl rfl rfl cf101 (fun A c => .tuple #[pvV (parseR x).1 A c, .bool (parseR x).2]) 9 1 ((parseR x).1.pre.length) ((parseR x).1.pre.flatMap strE) (fun w hM => parse_any x w) ?_
      intro A20 c20
      refine S_ 18 rfl rfl rfl _ (y_move rfl rfl) ?_
      refine S_ 21 rfl rfl rfl _ (y_extract rfl rfl rfl) ?_
      refine S_ 22 rfl rfl rfl _ (y_extract rfl rfl rfl) ?_
      refine S_alloc 7 7 rfl rfl rfl rfl z42 ?_
      intro b7
      refine S_store 7 rfl rfl rfl rfl rfl rfl sz42 rfl rfl ?_
      refine S_ 8 rfl rfl rfl _ (y_assign rfl rfl) ?_
      refine S_go (fun _ _ h => h) ?_
      refine T_seq ?_
      refine T_seq ?_
      refine T_region ?_
      refine S_ 23 rfl rfl rfl _ (y_move rfl rfl) ?_
      refine S_ 24 rfl rfl rfl _ (y_not rfl rfl) ?_
      refine S_go (fun _ _ h => h) ?_
      refine T_cond rfl (fun h24 => ?_) (fun h24 => ?_)
      · skip
        have h24 : relOk x = false := by simpa using h24
        have hno : allNo S = 8 := all_bad (by omega) (mem_at hx1) h24
        refine T_seq ?_
        refine T_region ?_
        refine S_nilSlice 2 (e := 42) (size := 5) ?_
        refine S_ 2 rfl rfl rfl _ (y_assign rfl rfl) ?_
        refine S_nilSlice 4 (e := 42) (size := 5) ?_
        refine S_ 3 rfl rfl rfl _ (y_assign rfl rfl) ?_
        refine S_go (fun _ _ h => h) ?_
        refine T_ret (fun a w hF hM => hRb a w (post2 rfl rfl rfl (fun w hM => ?_) a w hF hM))
        rw [hno]
        exact ⟨⟨none, 0, [], rs⟩, rfl, AllR.nil (by rw [hno]; decide), (hM.keep (ks := [(0, 999)]) (by repeat (first | exact kl_rest (by assumption) rfl | (apply kl_in; focus rfl))) _ ⟨rfl, rfl, trivial⟩)⟩
      · skip
        have h24 : relOk x = true := by simpa using h24
        refine T_skip_go (fun _ _ h => h) ?_
        refine T_region ?_
        refine S_ 25 rfl rfl rfl _ (y_move rfl rfl) ?_
        refine S_ 26 rfl rfl rfl _ (y_loadA 7 rfl rfl rfl Tryz.underlying42 rfl sz42) ?_
        refine S_buildSlice 27 27 rfl rfl rfl rfl rfl Tryz.underlying146 inf42 rfl (by decide) (by decide) rfl rfl (by decide) rfl (_) rfl ?_
        intro b27
        obtain ⟨i28, hi28, hz28, hs28, hy28⟩ := info_parts inf42
        refine S_append 28 4 27 rfl rfl rfl rfl rfl rfl rfl rfl Tryz.underlying146 hi28 hz28 hs28 hy28 rfl (by decide) (by decide) rfl ?_ ?_ (i + 1) ((L ++ [svr (parseR x).1 A20 c20]).flatMap SVer.enc) ?_ ?_ ?_
        · (simp only [maxLen]; omega)
        · omega
        · rfl
        · simp [List.flatMap_append]; rfl
        intro A28 c28
        refine S_ 4 rfl rfl rfl _ (y_assign rfl rfl) ?_
        refine S_go (fun _ _ h => h) ?_
        refine T_region ?_
        refine S_ 29 rfl rfl rfl _ (y_bin rfl rfl rfl (fun hg => b_add (by omega))) ?_
        refine S_ 14 rfl rfl rfl _ (y_move rfl rfl) ?_
        refine S_bank [(20, 20), (900, 900)] 900 20 rfl rfl rfl rfl (by repeat (first | exact kl_nil | exact kl_rest (by assumption) rfl | (apply kl_in; focus rfl) | (apply kl_out; focus rfl))) ?_
        refine S_nil (nextK5 (kf := [(2, 4), (6, 8), (14, 29)]) (kl := [(2, 4), (6, 8), (14, 29), (900, 900)]) (i + 1) (L ++ [svr (parseR x).1 A20 c20]) A28 c28 (rs ++ [⟨9, 1, .slice A20 (parseR x).1.pre.length c20, (parseR x).1.pre.length, (parseR x).1.pre.flatMap strE⟩]) (by repeat (first | exact kf_nil | (apply kf_in; focus rfl) | (apply kf_out; focus rfl))) (by repeat (first | exact kl_nil | exact kl_rest (by assumption) rfl | (apply kl_in; focus rfl) | (apply kl_out; focus rfl))) ?_ ?_ ?_ ?_)
        · omega
        · have htk : S.take (i + 1) = S.take i ++ [x] := by rw [List.take_add_one, hx1]; rfl
          exact ⟨by omega, by rw [List.length_append, hp2]; rfl, by rw [htk, List.map_append, List.map_append, hp3]; exact congrArg (_ ++ [·]) (parse_ver h24), by rw [htk]; intro s hs; rcases List.mem_append.1 hs with h | h; exact hp4 s h; rw [List.mem_singleton.1 h]; exact h24, fun v hv => by
            rcases List.mem_append.1 hv with h | h
            · exact (hp5 v h).app
            · rw [List.mem_singleton.1 h]
              exact Sees.map (Sees.row (A := A20) (c := c20) (q := (parseR x).1.pre.length) (l := (parseR x).1.pre) (enc := strE) (List.mem_append_right _ (List.mem_singleton.2 rfl)) rfl) fun w hw => svr_ok (parseR_bound x) hw⟩
        · exact ⟨rfl, rfl, trivial⟩
        · exact ⟨rfl, rfl, trivial⟩
    · try simp only [decide_eq_true_eq, decide_eq_false_iff_not, Bool.or_eq_true, Bool.or_eq_false_iff, Bool.and_eq_true, Bool.and_eq_false_iff, Bool.not_eq_true', Bool.not_eq_false', Bool.not_eq_true, Bool.not_eq_false, Bool.not_true, Bool.not_false, Int.not_lt, Int.not_le, not_or, not_and, Classical.not_not] at h15
      refine T_exit_go (fun _ _ h => h) ?_
      refine T_seq ?_
      refine T_region ?_
      refine S_ 30 rfl rfl rfl _ (y_move rfl rfl) ?_
      refine S_ 2 rfl rfl rfl _ (y_assign rfl rfl) ?_
      refine S_ 3 rfl rfl rfl _ (y_assign rfl rfl) ?_
      refine S_go (fun _ _ h => h) ?_
      refine T_ret (fun a w hF hM => hRb a w (post2 rfl rfl rfl (fun w hM => ?_) a w hF hM))
      have htk : S.take i = S := List.take_of_length_le (by omega)
      rw [htk] at hp3 hp4
      have hno : allNo S = 0 := all_good (by omega) hp4
      rw [hno]
      subst hp2
      exact ⟨⟨A4, c4, L, rs⟩, rfl, ⟨by rw [if_pos hno]; exact hp3, hp5⟩, (hM.keep (ks := [(0, 999)]) (by repeat (first | exact kl_rest (by assumption) rfl | (apply kl_in; focus rfl))) _ ⟨rfl, rfl, trivial⟩)⟩
/-! ### A list of versions asked -/
structure VersR (w : World) (l : Sl SVer) : Prop where
  ok : l.Ok SVer.enc 5 w
  q : l.q ≤ 1000000000
  n : ∀ v ∈ l.l, VerOk w v
theorem VersR.below {w w' : World} {l : Sl SVer} (h : VersR w l) (hb : Below w.heap.size w w') : VersR w' l := ⟨h.ok.below hb, h.q, fun v hv => (h.n v hv).below hb⟩
theorem AllR.vers {w0 w : World} {z : AllR} {S : List (List UInt8)} {L : HL} (h : z.Ok w0 S) (hM : Mem w0 L w) (i m : Nat) (hi : L.get i = some (.own 42 5 (.slice z.A z.l.length z.c) z.l.length (z.l.flatMap SVer.enc))) (hm : L.get m = some (.many z.rs)) (hn : z.l.length ≤ 1000000000) : VersR w z.sl :=
  ⟨owned_ok (enc := SVer.enc) hM rfl (i := i) hi, hn, fun v hv => (h.n v hv).at hM m hm⟩
theorem AllR.len {w0 : World} {z : AllR} {S : List (List UInt8)} (h : z.Ok w0 S) : z.l.length ≤ 2000 := by
  have h1 := congrArg List.length h.says
  rw [List.length_map] at h1
  split at h1
  · rename_i h2
    rw [List.length_map] at h1
    have := (all_ok h2).1
    omega
  · rw [h1]; exact Nat.zero_le _
end Go.Proofs.YtpmlgnbbkpplhaaGreatDoor
end
section
namespace Go.Proofs.YtpmlgnbbkpplhaaGreatDoor
set_option linter.unusedSimpArgs false
set_option linter.unusedVariables false
set_option maxRecDepth 20000
open Go.RowKit Go.Eng
def ver0 : SVer := ⟨[], 0, 0, 0, ⟨none, 0, 0, []⟩⟩
theorem ver0_ok (w : World) : VerOk w ver0 := ⟨⟨nilS, Nat.le_refl _⟩, Nat.zero_le _, (fun s h => by cases h), Nat.zero_le _, by decide, by decide, by decide⟩
theorem flat_val {β : Type} {good : SVer → Prop} (e : SVer → List β) (L : List {v : SVer // good v}) : L.flatMap (fun x => e x.1) = (L.map Subtype.val).flatMap e := by
  induction L with
  | nil => rfl
  | cons a r ih => rw [List.flatMap_cons, ih]; rfl
theorem SortV_any {w0 : World} {K : HL} (A : Option Addr) (q c : Nat) (l : List SVer) (rs : List Row) (w : World) (hlen : l.length = q) (hq : q ≤ 1000000) (hn : ∀ v ∈ l, Sees w0 rs fun w => VerOk w v)
    (hM : Mem w0 ([(0, .own 42 5 (.slice A q c) q (l.flatMap SVer.enc)), (1, .many rs)] ++ K) w) :
    Calls Tryz.prog 113 #[.slice A q c, .func (.func 22) #[] #[]] w fun e w' => ∃ l' : List SVer, e = .returned (.tuple #[]) ∧ (l'.Perm l ∧ l'.Pairwise fun x y => cmpV x.says y.says ≤ 0) ∧ Mem w0 ([(0, .own 42 5 (.slice A q c) q (l'.flatMap SVer.enc)), (1, .many rs)] ++ K) w' := by
  let good : SVer → Prop := fun v => ∀ w', w.grownBy w' (Value.slice A q c).ownBlock → VerOk w' v
  have hg : ∀ v ∈ l, good v := fun v hv w' hw' => by
    obtain ⟨hb, hs⟩ := Mem.others hM (i := 0) (j := 1) rfl hw' (by decide) rfl
    exact hn v hv w' hb hs
  have : Inhabited {v : SVer // good v} := ⟨⟨ver0, fun w' _ => ver0_ok w'⟩⟩
  let L : List {v : SVer // good v} := l.pmap Subtype.mk hg
  have hL : L.map Subtype.val = l := by
    show (l.pmap Subtype.mk hg).map Subtype.val = l
    rw [List.map_pmap]; exact List.pmap_eq_self.2 fun _ _ => rfl
  have hf : L.flatMap (fun x => x.1.enc) = l.flatMap SVer.enc := by rw [flat_val SVer.enc L, hL]
  have hO : Go.Sort.SWO (Go.Proofs.ltOf fun x y : {v : SVer // good v} => cmpV x.1.says y.1.says) := swo3 (cmp3_V.comap fun x : {v : SVer // good v} => x.1.says)
  have h := sort_ownX Tryz.laysSort113 (k := 5) (enc := fun x : {v : SVer // good v} => x.1.enc) Tryz.isAgg42 Tryz.sizeOf42 (fun _ => rfl)
    (fun x v hv => by simp only [SVer.enc, List.mem_cons, List.not_mem_nil, or_false] at hv; rcases hv with rfl | rfl | rfl | rfl | rfl <;> rfl) (fun x y => cmpV x.1.says y.1.says) hO 22 #[] cf22 (w0 := w0) (K := [(1, .many rs)] ++ K) 42 A q c L w (by rw [← List.length_map (f := Subtype.val), hL, hlen]) (by omega)
    (fun w' hw' x y => Compare_any x.1 y.1 w' (x.2 w' hw') (y.2 w' hw')) (by rw [hf]; exact hM)
  refine Calls.mono h ?_
  rintro e w' ⟨l', rfl, rfl, hM'⟩
  obtain ⟨h1, h2⟩ := pdqL_facts hO L
  refine ⟨(pdqL (fun x y : {v : SVer // good v} => cmpV x.1.says y.1.says) L).map Subtype.val, rfl, ⟨by rw [← hL]; exact h1.map _, ?_⟩, ?_⟩
  · rw [List.pairwise_map]
    exact h2.imp fun h => ltOf_f (f := fun x y : {v : SVer // good v} => cmpV x.1.says y.1.says) h (cmp3_V.comap fun x : {v : SVer // good v} => x.1.says)
  · rw [← flat_val SVer.enc]; exact hM'
end Go.Proofs.YtpmlgnbbkpplhaaGreatDoor
end
