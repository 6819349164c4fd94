/- Part 2, merged by a program. parse, Parse, Text and what they stand on, walked. Conditions: those of each theorem. Compare, walked, and versions as they lie in memory. Conditions: those of each theorem. The reference's VersionOf, VersionText, VersionsCompare, SameVersion, walked. Conditions: those of each theorem. States of groups: CheckState and StateFault, walked (the first part of XVSt, for a seat without Seen). Conditions: those of each theorem. -/
import Derived.Test.YtkkngcdikbhkjaaDoorSjn
import Derived.Test.YtkkngcdikbhkjaaDoorPermg
import Derived.Test.YtkkngcdikbhkjaaDoorPost
import Derived.Test.YtkkngcdikbhkjaaDoorPk1
section
namespace Go.Proofs.YtkkngcdikbhkjaaDoor
set_option linter.unusedSimpArgs false
set_option linter.unusedVariables false
set_option maxRecDepth 20000
open Go.RowKit Go.Eng
theorem nilS {w : World} : SlT strE 1 w none 0 [] := ⟨⟨by simp, fun h => by simp at h⟩, rfl⟩
theorem TrimLet_any (s : List UInt8) (hs : s.length ≤ 1000000000) (w : World) : Calls Tryd.prog 34 #[str s, str letB] w fun e w' => e = .returned (str (Lib.trimS s letB)) ∧ Below w.heap.size w w' :=
  Any.strings_Trim_laid Tryd.lays160 (by kernel_rfl) ⟨s.toArray⟩ ⟨letB.toArray⟩ w (by rw [Lib.size_eq]; simp; omega) (by decide) (ascii_of_all (by decide))
theorem allOfL_any (s : List UInt8) (hs : s.length ≤ 1000000000) (w : World) : Calls Tryd.prog 119 #[str s, str letB] w fun e w' => e = .returned (.bool (allOf s letB)) ∧ Below w.heap.size w w' := by
  refine enter_args (args := [str s, str letB]) (F := _) Tryd.func119 rfl Tryd.ntmps119 rfl rfl ?_
  intro Rb hRb hRn
  refine T_seq ?_
  refine T_region ?_
  refine S_ 4 rfl rfl rfl _ (y_assign rfl rfl) ?_
  refine S_go (fun _ _ h => h) ?_
  refine T_seq ?_
  refine T_region ?_
  refine S_ 5 rfl rfl rfl _ (y_move rfl rfl) ?_
  refine S_ 6 rfl rfl rfl _ (y_bin rfl rfl rfl (fun _ => b_neqs)) ?_
  refine S_ 7 rfl rfl rfl _ (y_move rfl rfl) ?_
  refine Sg_ 8 rfl rfl rfl rfl rfl rfl _ (y_move rfl rfl) ?_
  refine Sg_ 9 rfl rfl rfl rfl rfl rfl _ (y_move rfl rfl) ?_
  refine Sg_ 10 rfl rfl rfl rfl rfl rfl _ (y_call rfl rfl rfl cf34 (fun _ w _ => TrimLet_any s hs w)) ?_
  refine Sg_ 11 rfl rfl rfl rfl rfl rfl _ (y_bin rfl rfl rfl (fun _ => b_eqls)) ?_
  refine S_ 12 rfl rfl rfl _ (y_and rfl rfl rfl) ?_
  refine S_ 4 rfl rfl rfl _ (y_assign rfl rfl) ?_
  refine S_go (fun _ _ h => h) ?_
  refine T_ret (fun a w hF hM => hRb a w (post1 rfl rfl (fun w hM => ?_) a w hF hM))
  exact ⟨rfl, hM.below⟩
theorem isPre_any (s : List UInt8) (hs : s.length ≤ 1000000000) (w : World) : Calls Tryd.prog 86 #[str s] w fun e w' => e = .returned (.bool (isPreB s)) ∧ Below w.heap.size w w' := by
  refine enter_args (args := [str s]) (F := _) Tryd.func86 rfl Tryd.ntmps86 rfl rfl ?_
  intro Rb hRb hRn
  refine T_seq ?_
  refine T_region ?_
  refine S_ 2 rfl rfl rfl _ (y_assign rfl rfl) ?_
  refine S_go (fun _ _ h => h) ?_
  refine T_seq ?_
  refine T_seq ?_
  refine T_region ?_
  refine S_ 5 rfl rfl rfl _ (y_move rfl rfl) ?_
  refine S_ 6 rfl rfl rfl _ (y_call rfl rfl rfl cf119 (fun _ w _ => allOfD_any s hs w)) ?_
  refine S_go (fun _ _ h => h) ?_
  refine T_cond rfl (fun h6 => ?_) (fun h6 => ?_)
  · skip
    refine T_seq ?_
    refine T_region ?_
    refine S_ 8 rfl rfl rfl _ (y_move rfl rfl) ?_
    refine S_ 9 rfl rfl rfl _ (y_call rfl rfl rfl cf84 (fun _ w _ => number_any s hs w)) ?_
    refine S_ 7 rfl rfl rfl _ (y_move rfl rfl) ?_
    refine S_ 10 rfl rfl rfl _ (y_extract rfl rfl rfl) ?_
    refine S_ 11 rfl rfl rfl _ (y_extract rfl rfl rfl) ?_
    refine S_ 3 rfl rfl rfl _ (y_assign rfl rfl) ?_
    refine S_ 4 rfl rfl rfl _ (y_assign rfl rfl) ?_
    refine S_go (fun _ _ h => h) ?_
    refine T_seq ?_
    refine T_region ?_
    refine S_ 12 rfl rfl rfl _ (y_move rfl rfl) ?_
    refine S_ 2 rfl rfl rfl _ (y_assign rfl rfl) ?_
    refine S_go (fun _ _ h => h) ?_
    refine T_ret (fun a w hF hM => hRb a w (post1 rfl rfl (fun w hM => ?_) a w hF hM))
    exact ⟨by rw [isPreB, if_pos h6]; rfl, hM.below⟩
  · skip
    refine T_skip_go (fun _ _ h => h) ?_
    refine T_seq ?_
    refine T_region ?_
    refine S_ 13 rfl rfl rfl _ (y_move rfl rfl) ?_
    refine S_ 14 rfl rfl rfl _ (y_call rfl rfl rfl cf119 (fun _ w _ => allOfL_any s hs w)) ?_
    refine S_ 2 rfl rfl rfl _ (y_assign rfl rfl) ?_
    refine S_go (fun _ _ h => h) ?_
    refine T_ret (fun a w hF hM => hRb a w (post1 rfl rfl (fun w hM => ?_) a w hF hM))
    exact ⟨by rw [isPreB, if_neg (by simp [h6])], hM.below⟩
theorem parse1_any (s : List UInt8) (hs : s.length ≤ 1000000000) (w : World) : Calls Tryd.prog 85 #[str s] w fun e w' => e = .returned (.bool (!isPreB s)) ∧ Below w.heap.size w w' := by
  refine enter_args (args := [str s]) (F := _) Tryd.func85 rfl Tryd.ntmps85 rfl rfl ?_
  intro Rb hRb hRn
  refine T_seq ?_
  refine T_region ?_
  refine S_ 2 rfl rfl rfl _ (y_assign rfl rfl) ?_
  refine S_go (fun _ _ h => h) ?_
  refine T_seq ?_
  refine T_region ?_
  refine S_ 3 rfl rfl rfl _ (y_move rfl rfl) ?_
  refine S_ 4 rfl rfl rfl _ (y_call rfl rfl rfl cf86 (fun _ w _ => isPre_any s hs w)) ?_
  refine S_ 5 rfl rfl rfl _ (y_not rfl rfl) ?_
  refine S_ 2 rfl rfl rfl _ (y_assign rfl rfl) ?_
  refine S_go (fun _ _ h => h) ?_
  refine T_ret (fun a w hF hM => hRb a w (post1 rfl rfl (fun w hM => ?_) a w hF hM))
  exact ⟨rfl, hM.below⟩
/-- the first place of what answers yes -/
def findP {α : Type} (p : α → Bool) : List α → Nat → Int
  | [], _ => -1
  | x :: r, i => if p x = true then i else findP p r (i + 1)
theorem findP_any {α : Type} (p : α → Bool) : ∀ (l : List α) (i : Nat), (findP p l i < 0 ↔ l.any p = false) ∧ -1 ≤ findP p l i
  | [], i => ⟨⟨fun _ => rfl, fun _ => by show (-1 : Int) < 0; omega⟩, Int.le_refl _⟩
  | x :: r, i => by
    have h := findP_any p r (i + 1)
    rw [findP, List.any_cons]
    cases hp : p x with
    | true => rw [if_pos rfl]; exact ⟨⟨fun h => by omega, fun h => by cases h⟩, by omega⟩
    | false => rw [if_neg (by simp), Bool.false_or]; exact h
theorem IndexFS_any (A : Option Addr) (q c : Nat) (l : List (List UInt8)) (g : FuncId) (cap : Array Value) (p : List UInt8 → Bool) (w : World) (hl : SlT strE 1 w A q l) (hq : q ≤ 4611686018427387904) (hcf : ∀ args w, (callFunc g args).run Tryd.prog w = .ok (.enter g args) w)
    (hA : ∀ x ∈ l, ∀ w', Below w.heap.size w w' → Calls Tryd.prog g (#[str x] ++ cap) w' fun e w'' => e = .returned (.bool (p x)) ∧ Below w'.heap.size w' w'') :
    Calls Tryd.prog 117 #[.slice A q c, .func (.func g) #[] cap] w fun e w' => e = .returned (.int .i64 (findP p l 0)) ∧ Below w.heap.size w w' := by
  refine enter_args (args := [.slice A q c, .func (.func g) #[] cap]) (F := _) Tryd.func117 rfl Tryd.ntmps117 rfl rfl ?_
  intro Rb hRb hRn
  refine T_seq ?_
  refine T_region ?_
  refine S_ 4 rfl rfl rfl _ (y_assign rfl rfl) ?_
  refine S_go (fun _ _ h => h) ?_
  refine T_seq ?_
  refine T_seq ?_
  refine T_region ?_
  refine S_ 6 rfl rfl rfl _ (y_move rfl rfl) ?_
  refine S_ 7 rfl rfl rfl _ (y_len_slice rfl rfl Tryd.underlying46) ?_
  refine S_ 8 rfl rfl rfl _ (y_move rfl rfl) ?_
  refine S_go (fun _ _ h => h) ?_
  refine T_block ?_
  refine T_loopK1 (kf := [(4, 5), (8, 18)]) (kl := [(4, 5), (8, 18)]) (fun (i : Nat) => [(8, true, .int .i64 (i : Int))]) (fun (i : Nat) => []) (fun (i : Nat) => i ≤ q ∧ findP p l 0 = findP p (l.drop i) i) (fun (i : Nat) => q - i) 0 (by repeat (first | exact kf_nil | (apply kf_in; focus rfl) | (apply kf_out; focus rfl))) (by repeat (first | exact kl_nil | exact kl_rest (by assumption) rfl | (apply kl_in; focus rfl) | (apply kl_out; focus rfl))) ?_ ?_ ?_ ?_
  · exact ⟨by omega, rfl⟩
  · exact ⟨rfl, trivial⟩
  · exact trivial
  rintro i ⟨hp1, hp2⟩
  refine T_seq ?_
  refine T_region ?_
  refine S_ 9 rfl rfl rfl _ (y_bin rfl rfl rfl (fun _ => b_lss)) ?_
  refine S_go (fun _ _ h => h) ?_
  refine T_seq ?_
  refine T_cond rfl (fun h9 => ?_) (fun h9 => ?_)
  · try simp only [decide_eq_true_eq, decide_eq_false_iff_not, Bool.or_eq_true, Bool.or_eq_false_iff, Bool.and_eq_true, Bool.and_eq_false_iff, Bool.not_eq_true', Bool.not_eq_false', Bool.not_eq_true, Bool.not_eq_false, Bool.not_true, Bool.not_false, Int.not_lt, Int.not_le, not_or, not_and, Classical.not_not] at h9
    obtain ⟨x, hx1, hx2⟩ := hl.at (i := i) (by omega)
    refine T_skip_go (fun _ _ h => h) ?_
    refine T_seq ?_
    refine T_block ?_
    refine T_seq ?_
    refine T_region ?_
    refine S_ 10 rfl rfl rfl _ (y_move rfl rfl) ?_
    refine S_ 5 rfl rfl rfl _ (y_assign rfl rfl) ?_
    refine S_go (fun _ _ h => h) ?_
    refine T_seq ?_
    refine T_region ?_
    refine S_ 11 rfl rfl rfl _ (y_move rfl rfl) ?_
    refine S_ 12 rfl rfl rfl _ (y_move rfl rfl) ?_
    refine S_ 13 rfl rfl rfl _ (y_move rfl rfl) ?_
    refine S_ 14 rfl rfl rfl _ (y_indexAddr rfl rfl rfl Tryd.underlying46 sz9 (fun hg => hl.isSome (by omega)) (fun _ => by omega)) ?_
    refine S_ 15 rfl rfl rfl _ (y_loadT1 (val := (fun l : List UInt8 => str l)) rfl rfl hl (fun _ => hx1) Tryd.underlying9 rfl) ?_
    refine S_ 16 rfl rfl rfl _ (y_call rfl rfl rfl hcf (fun _ w hM => hA x (mem_at hx1) w hM.below)) ?_
    refine S_go (fun _ _ h => h) ?_
    refine T_cond rfl (fun h16 => ?_) (fun h16 => ?_)
    · skip
      refine T_seq ?_
      refine T_region ?_
      refine S_ 17 rfl rfl rfl _ (y_move rfl rfl) ?_
      refine S_ 4 rfl rfl rfl _ (y_assign rfl rfl) ?_
      refine S_go (fun _ _ h => h) ?_
      refine T_ret (fun a w hF hM => hRb a w (post1 rfl rfl (fun w hM => ?_) a w hF hM))
      exact ⟨by rw [hp2, hx2, findP, if_pos h16], hM.below⟩
    · skip
      refine T_skip_go (fun _ _ h => h) ?_
      refine T_region ?_
      refine S_ 18 rfl rfl rfl _ (y_bin rfl rfl rfl (fun hg => b_add (by omega))) ?_
      refine S_ 8 rfl rfl rfl _ (y_move rfl rfl) ?_
      refine S_nil (nextK1 (kf := [(4, 5), (8, 18)]) (kl := [(4, 5), (8, 18)]) (i + 1) (by repeat (first | exact kf_nil | (apply kf_in; focus rfl) | (apply kf_out; focus rfl))) (by repeat (first | exact kl_nil | exact kl_rest (by assumption) rfl | (apply kl_in; focus rfl) | (apply kl_out; focus rfl))) ?_ ?_ ?_ ?_)
      · omega
      · exact ⟨by omega, by rw [hp2, hx2, findP, if_neg (by simp [h16])]⟩
      · exact ⟨rfl, trivial⟩
      · exact trivial
  · try simp only [decide_eq_true_eq, decide_eq_false_iff_not, Bool.or_eq_true, Bool.or_eq_false_iff, Bool.and_eq_true, Bool.and_eq_false_iff, Bool.not_eq_true', Bool.not_eq_false', Bool.not_eq_true, Bool.not_eq_false, Bool.not_true, Bool.not_false, Int.not_lt, Int.not_le, not_or, not_and, Classical.not_not] at h9
    refine T_exit_go (fun _ _ h => h) ?_
    refine T_seq ?_
    refine T_region ?_
    refine S_ 4 rfl rfl rfl _ (y_assign rfl rfl) ?_
    refine S_go (fun _ _ h => h) ?_
    refine T_ret (fun a w hF hM => hRb a w (post1 rfl rfl (fun w hM => ?_) a w hF hM))
    exact ⟨by rw [hp2, hl.end (by omega)]; rfl, hM.below⟩
theorem ContFS_any (A : Option Addr) (q c : Nat) (l : List (List UInt8)) (g : FuncId) (cap : Array Value) (p : List UInt8 → Bool) (w : World) (hl : SlT strE 1 w A q l) (hq : q ≤ 4611686018427387904) (hcf : ∀ args w, (callFunc g args).run Tryd.prog w = .ok (.enter g args) w)
    (hA : ∀ x ∈ l, ∀ w', Below w.heap.size w w' → Calls Tryd.prog g (#[str x] ++ cap) w' fun e w'' => e = .returned (.bool (p x)) ∧ Below w'.heap.size w' w'') :
    Calls Tryd.prog 79 #[.slice A q c, .func (.func g) #[] cap] w fun e w' => e = .returned (.bool (l.any p)) ∧ Below w.heap.size w w' := by
  have hf := findP_any p l 0
  have e : l.any p = decide (0 ≤ findP p l 0) := by
    cases h : l.any p with
    | false => rw [decide_eq_false]; have := hf.1.2 h; omega
    | true => rw [decide_eq_true]; rcases Int.lt_or_le (findP p l 0) 0 with h1 | h1
              · rw [hf.1.1 h1] at h; cases h
              · exact h1
  rw [e]
  refine enter_args (args := [.slice A q c, .func (.func g) #[] cap]) (F := _) Tryd.func79 rfl Tryd.ntmps79 rfl rfl ?_
  intro Rb hRb hRn
  refine T_seq ?_
  refine T_region ?_
  refine S_ 4 rfl rfl rfl _ (y_assign rfl rfl) ?_
  refine S_go (fun _ _ h => h) ?_
  refine T_seq ?_
  refine T_region ?_
  refine S_ 5 rfl rfl rfl _ (y_move rfl rfl) ?_
  refine S_ 6 rfl rfl rfl _ (y_move rfl rfl) ?_
  refine S_ 7 rfl rfl rfl _ (y_call rfl rfl rfl cf117 (fun _ w hM => IndexFS_any _ _ _ l g cap p w (hl.below hM.below) hq hcf fun x hx w1 hb => hA x hx w1 (hM.below.trans (hb.mono hM.below.size)))) ?_
  refine S_ 8 rfl rfl rfl _ (y_bin rfl rfl rfl (fun _ => b_geq)) ?_
  refine S_ 4 rfl rfl rfl _ (y_assign rfl rfl) ?_
  refine S_go (fun _ _ h => h) ?_
  refine T_ret (fun a w hF hM => hRb a w (post1 rfl rfl (fun w hM => ?_) a w hF hM))
  exact ⟨rfl, hM.below⟩
abbrev pvV (p : PVer) (A : Option Addr) (c : Nat) : Value := .agg #[str p.p, .int .i64 p.a, .int .i64 p.b, .int .i64 p.c, .slice A p.pre.length c]
theorem split_len40 {c : UInt8} {s : List UInt8} (h : s.length ≤ 40) : (splitC c s).length ≤ 41 := by
  have h1 := splitC_len c s
  have h2 : s.count c ≤ s.length := List.count_le_length
  omega
set_option maxHeartbeats 1600000 in
theorem parse_any (s : List UInt8) (w : World) :
    Calls Tryd.prog 28 #[str s] w fun e w' => ∃ A c, e = .returned (.tuple #[pvV (parseR s).1 A c, .bool (parseR s).2]) ∧ w'.ownsRow w.heap.size 9 1 (.slice A (parseR s).1.pre.length c) (parseR s).1.pre.length ((parseR s).1.pre.flatMap strE) ∧ Below w.heap.size w w' := by
  have hge := Lib.indexByte_ge s 46
  refine enter_args (args := [str s]) (F := _) Tryd.func28 rfl Tryd.ntmps28 rfl rfl ?_
  intro Rb hRb hRn
  refine T_seq ?_
  refine T_region ?_
  refine S_alloc 2 2 rfl rfl rfl rfl z60 ?_
  intro b2
  refine S_ 3 rfl rfl rfl _ (y_assign rfl rfl) ?_
  refine S_go (fun _ _ h => h) ?_
  refine T_seq ?_
  refine T_region ?_
  refine S_ 18 rfl rfl rfl _ (y_move rfl rfl) ?_
  refine S_ 19 rfl rfl rfl _ (y_call rfl rfl rfl cf74 (fun _ w _ => IndexByte_any s 46 w)) ?_
  refine S_ 4 rfl rfl rfl _ (y_assign rfl rfl) ?_
  refine S_go (fun _ _ h => h) ?_
  refine T_seq ?_
  refine T_seq ?_
  refine T_region ?_
  refine S_ 20 rfl rfl rfl _ (y_move rfl rfl) ?_
  refine S_ 21 rfl rfl rfl _ (y_bin rfl rfl rfl (fun _ => b_lss)) ?_
  refine S_ 22 rfl rfl rfl _ (y_move rfl rfl) ?_
  refine Sg_ 23 rfl rfl rfl rfl rfl rfl _ (y_move rfl rfl) ?_
  refine Sg_ 24 rfl rfl rfl rfl rfl rfl _ (y_len_str rfl rfl Tryd.underlying9) ?_
  refine Sg_ 25 rfl rfl rfl rfl rfl rfl _ (y_bin rfl rfl rfl (fun _ => b_gtr)) ?_
  refine S_ 26 rfl rfl rfl _ (y_or rfl rfl rfl) ?_
  refine S_go (fun _ _ h => h) ?_
  refine T_cond rfl (fun h26 => ?_) (fun h26 => ?_)
  · skip
    have hr : parseR s = (pver0, false) := by rw [parseR, if_pos h26]
    refine T_seq ?_
    refine T_region ?_
    refine S_ 27 rfl rfl rfl _ (y_build (zv := .agg #[.string ⟨#[]⟩, .int .i64 0, .int .i64 0, .int .i64 0, .slice none 0 0]) (pl := [(0, 1), (1, 1), (2, 1), (3, 1), (4, 1)]) (out := [.string ⟨#[]⟩, .int .i64 0, .int .i64 0, .int .i64 0, .slice none 0 0]) rfl rfl Tryd.underlying60 z60 (by kernel_rfl) rfl) ?_
    refine S_store 2 rfl rfl rfl rfl rfl rfl sz60 rfl rfl ?_
    refine S_ 3 rfl rfl rfl _ (y_assign rfl rfl) ?_
    refine S_go (fun _ _ h => h) ?_
    refine T_ret (fun a w hF hM => hRb a w (post_cell 2 rfl rfl rfl rfl Tryd.underlying60 rfl (by exact sz60) (fun w hM => ?_) a w hF hM))
    rw [hr]
    exact ⟨none, 0, rfl, World.ownsRow_nil _ _ _ _, hM.below⟩
  · skip
    simp only [Bool.or_eq_false_iff, decide_eq_false_iff_not] at h26
    obtain ⟨o, ho⟩ : ∃ o : Nat, Lib.indexByte s 46 = o := ⟨(Lib.indexByte s 46).toNat, by omega⟩
    obtain ⟨ho1, _⟩ := Lib.indexByte_some ho
    have hol := (List.getElem?_eq_some_iff.1 ho1).1
    have hpt : ptN s = o := by rw [ptN, ho]; rfl
    have hpl : (s.take (ptN s)).length = o := by rw [hpt, List.length_take]; omega
    have hlb : lnI s < o ∧ -1 ≤ lnI s := by
      rcases last_spec (s.take (ptN s)) 45 (s.take (ptN s)).length with ⟨h1, _⟩ | ⟨k, h1, h2, _⟩
      · have h1 : lnI s = -1 := h1
        omega
      · have h1 : lnI s = k := h1
        omega
    refine T_skip_go (fun _ _ h => h) ?_
    refine T_seq ?_
    refine T_region ?_
    refine S_ 28 rfl rfl rfl _ (y_move rfl rfl) ?_
    refine S_ 29 rfl rfl rfl _ (y_move rfl rfl) ?_
    refine S_ 30 rfl rfl rfl _ (y_as (v' := str (s.take (ptN s))) (by exact rfl) (y_strTo rfl rfl rfl Tryd.underlying9 (fun _ => by omega))) ?_
    refine S_ 31 rfl rfl rfl _ (y_as (v' := .int .i64 (lnI s)) (by exact rfl) (y_call rfl rfl rfl cf75 (fun _ w _ => SLast_any (s.take (ptN s)) 45 (by rw [List.length_take]; omega) w))) ?_
    refine S_ 5 rfl rfl rfl _ (y_assign rfl rfl) ?_
    refine S_go (fun _ _ h => h) ?_
    refine T_seq ?_
    refine T_seq ?_
    refine T_region ?_
    refine S_ 32 rfl rfl rfl _ (y_move rfl rfl) ?_
    refine S_ 33 rfl rfl rfl _ (y_bin rfl rfl rfl (fun _ => b_lss)) ?_
    refine S_ 34 rfl rfl rfl _ (y_move rfl rfl) ?_
    refine Sg_ 35 rfl rfl rfl rfl rfl rfl _ (y_move rfl rfl) ?_
    refine Sg_ 36 rfl rfl rfl rfl rfl rfl _ (y_move rfl rfl) ?_
    refine Sg_ 37 rfl rfl rfl rfl rfl rfl _ (y_as (v' := str (prS s)) (by exact rfl) (y_strTo rfl rfl rfl Tryd.underlying9 (fun hg => by simp only [Bool.true_and, Bool.and_eq_true, beq_iff_eq, decide_eq_true_eq, decide_eq_false_iff_not, Int.not_lt, Int.not_le] at hg; omega))) ?_
    refine Sg_ 38 rfl rfl rfl rfl rfl rfl _ (y_call rfl rfl rfl cf83 (fun _ w _ => IsProject_any (prS s) w)) ?_
    refine Sg_ 39 rfl rfl rfl rfl rfl rfl _ (y_not rfl rfl) ?_
    refine S_ 40 rfl rfl rfl _ (y_or rfl rfl rfl) ?_
    refine S_go (fun _ _ h => h) ?_
    refine T_cond rfl (fun h40 => ?_) (fun h40 => ?_)
    · skip
      have hr : parseR s = (pver0, false) := by rw [parseR, if_neg (by simp only [Bool.or_eq_true, decide_eq_true_eq, not_or]; omega), if_pos h40]
      refine T_seq ?_
      refine T_region ?_
      refine S_ 41 rfl rfl rfl _ (y_build (zv := .agg #[.string ⟨#[]⟩, .int .i64 0, .int .i64 0, .int .i64 0, .slice none 0 0]) (pl := [(0, 1), (1, 1), (2, 1), (3, 1), (4, 1)]) (out := [.string ⟨#[]⟩, .int .i64 0, .int .i64 0, .int .i64 0, .slice none 0 0]) rfl rfl Tryd.underlying60 z60 (by kernel_rfl) rfl) ?_
      refine S_store 2 rfl rfl rfl rfl rfl rfl sz60 rfl rfl ?_
      refine S_ 3 rfl rfl rfl _ (y_assign rfl rfl) ?_
      refine S_go (fun _ _ h => h) ?_
      refine T_ret (fun a w hF hM => hRb a w (post_cell 2 rfl rfl rfl rfl Tryd.underlying60 rfl (by exact sz60) (fun w hM => ?_) a w hF hM))
      rw [hr]
      exact ⟨none, 0, rfl, World.ownsRow_nil _ _ _ _, hM.below⟩
    · skip
      have h40b := h40
      simp only [Bool.or_eq_false_iff, decide_eq_false_iff_not] at h40
      obtain ⟨k, hk⟩ : ∃ k : Nat, lnI s = k := ⟨(lnI s).toNat, by omega⟩
      have hrl : (rsS s).length ≤ 40 := by rw [rsS, List.length_drop]; omega
      obtain ⟨hc1, hc2⟩ : (cutC 45 (rsS s)).1.length ≤ 40 ∧ (cutC 45 (rsS s)).2.1.length ≤ 40 := by have := cut_le 45 (rsS s); omega
      have hwl : (wdS s).length ≤ 41 := split_len40 hc1
      have hql : (splitC 46 (cutC 45 (rsS s)).2.1).length ≤ 41 := split_len40 hc2
      refine T_skip_go (fun _ _ h => h) ?_
      refine T_seq ?_
      refine T_region ?_
      refine S_ 42 rfl rfl rfl _ (y_move rfl rfl) ?_
      refine S_ 43 rfl rfl rfl _ (y_move rfl rfl) ?_
      refine S_ 44 rfl rfl rfl _ (y_as (v' := str (prS s)) (by exact rfl) (y_strTo rfl rfl rfl Tryd.underlying9 (fun _ => by omega))) ?_
      refine S_ 45 rfl rfl rfl _ (y_build (zv := .agg #[.string ⟨#[]⟩, .int .i64 0, .int .i64 0, .int .i64 0, .slice none 0 0]) (pl := [(0, 1), (1, 1), (2, 1), (3, 1), (4, 1)]) (out := [_, .int .i64 0, .int .i64 0, .int .i64 0, .slice none 0 0]) rfl rfl Tryd.underlying60 z60 (by kernel_rfl) rfl) ?_
      refine S_alloc 6 6 rfl rfl rfl rfl z60 ?_
      intro b6
      refine S_store 6 rfl rfl rfl rfl rfl rfl sz60 rfl rfl ?_
      refine S_go (fun _ _ h => h) ?_
      refine T_seq ?_
      refine T_region ?_
      refine S_ 47 rfl rfl rfl _ (y_move rfl rfl) ?_
      refine S_ 48 rfl rfl rfl _ (y_move rfl rfl) ?_
      refine S_ 49 rfl rfl rfl _ (y_bin rfl rfl rfl (fun hg => b_add (by omega))) ?_
      refine S_ 50 rfl rfl rfl _ (y_as (v' := str (rsS s)) (by rw [rsS, hk]; rfl) (y_strFrom rfl rfl rfl Tryd.underlying9 (fun _ => by omega))) ?_
      refine S_ 51 rfl rfl rfl _ (y_call rfl rfl rfl cf76 (fun _ w _ => Cut1_any (rsS s) 45 w (by omega))) ?_
      refine S_ 46 rfl rfl rfl _ (y_move rfl rfl) ?_
      refine S_ 52 rfl rfl rfl _ (y_extract rfl rfl rfl) ?_
      refine S_ 53 rfl rfl rfl _ (y_extract rfl rfl rfl) ?_
      refine S_ 54 rfl rfl rfl _ (y_extract rfl rfl rfl) ?_
      refine S_ 7 rfl rfl rfl _ (y_assign rfl rfl) ?_
      refine S_ 8 rfl rfl rfl _ (y_assign rfl rfl) ?_
      refine S_ 9 rfl rfl rfl _ (y_assign rfl rfl) ?_
      refine S_go (fun _ _ h => h) ?_
      refine T_seq ?_
      refine T_region ?_
      refine S_ 55 rfl rfl rfl _ (y_move rfl rfl) ?_
      refine S_callOwn 56 56 rfl rfl rfl rfl rfl rfl rfl cf30 (fun A c => .slice A ((wdS s).length) c) 9 1 ((wdS s).length) ((wdS s).flatMap strE) (fun w hM => Split1_any (cutC 45 (rsS s)).1 46 (by omega) w) ?_
      intro A56 c56
      refine S_ 10 rfl rfl rfl _ (y_assign rfl rfl) ?_
      refine S_go (fun _ _ h => h) ?_
      refine T_seq ?_
      refine T_seq ?_
      refine T_region ?_
      refine S_ 57 rfl rfl rfl _ (y_move rfl rfl) ?_
      refine S_ 58 rfl rfl rfl _ (y_len_slice rfl rfl Tryd.underlying46) ?_
      refine S_ 59 rfl rfl rfl _ (y_bin rfl rfl rfl (fun _ => b_neq)) ?_
      refine S_go (fun _ _ h => h) ?_
      refine T_cond rfl (fun h59 => ?_) (fun h59 => ?_)
      · skip
        have hr : parseR s = (pver0, false) := by rw [parseR, if_neg (by simp only [Bool.or_eq_true, decide_eq_true_eq, not_or]; omega), if_neg (by rw [h40b]; exact Bool.false_ne_true), if_pos (by simpa using h59)]
        refine T_seq ?_
        refine T_region ?_
        refine S_ 60 rfl rfl rfl _ (y_build (zv := .agg #[.string ⟨#[]⟩, .int .i64 0, .int .i64 0, .int .i64 0, .slice none 0 0]) (pl := [(0, 1), (1, 1), (2, 1), (3, 1), (4, 1)]) (out := [.string ⟨#[]⟩, .int .i64 0, .int .i64 0, .int .i64 0, .slice none 0 0]) rfl rfl Tryd.underlying60 z60 (by kernel_rfl) rfl) ?_
        refine S_store 2 rfl rfl rfl rfl rfl rfl sz60 rfl rfl ?_
        refine S_ 3 rfl rfl rfl _ (y_assign rfl rfl) ?_
        refine S_go (fun _ _ h => h) ?_
        refine T_ret (fun a w hF hM => hRb a w (post_cell 2 rfl rfl rfl rfl Tryd.underlying60 rfl (by exact sz60) (fun w hM => ?_) a w hF hM))
        rw [hr]
        exact ⟨none, 0, rfl, World.ownsRow_nil _ _ _ _, hM.below⟩
      · skip
        have h59 : ((wdS s).length : Int) = 3 := by simpa using h59
        obtain ⟨x, y, z, hw⟩ := triple (l := wdS s) (by omega)
        have hwle : ∀ u ∈ wdS s, u.length ≤ 40 := fun u hu => by have := spl_le 46 _ u hu; omega
        have hx := hwle x (by rw [hw]; simp)
        have hy := hwle y (by rw [hw]; simp)
        have hz := hwle z (by rw [hw]; simp)
        refine T_skip_go (fun _ _ h => h) ?_
        refine T_seq ?_
        refine T_region ?_
        refine S_ 62 rfl rfl rfl _ (y_move rfl rfl) ?_
        refine S_ 63 rfl rfl rfl _ (y_indexOwnI (j := 0) 56 rfl rfl rfl (fun _ => rfl) rfl Tryd.underlying46 sz9 (fun _ => by omega)) ?_
        refine S_ 64 rfl rfl rfl _ (y_loadO1 56 (val := (fun l : List UInt8 => str l)) rfl rfl rfl rfl (fun _ => (by rw [hw]; rfl : (wdS s)[0]? = some x)) Tryd.underlying9 rfl) ?_
        refine S_ 65 rfl rfl rfl _ (y_as (v' := .tuple #[.int .i64 (numI x), .bool (numOk x)]) (by exact rfl) (y_call rfl rfl rfl cf84 (fun _ w _ => number_any x (by omega) w))) ?_
        refine S_ 61 rfl rfl rfl _ (y_move rfl rfl) ?_
        refine S_ 66 rfl rfl rfl _ (y_extract rfl rfl rfl) ?_
        refine S_ 67 rfl rfl rfl _ (y_extract rfl rfl rfl) ?_
        refine S_ 11 rfl rfl rfl _ (y_assign rfl rfl) ?_
        refine S_ 12 rfl rfl rfl _ (y_assign rfl rfl) ?_
        refine S_go (fun _ _ h => h) ?_
        refine T_seq ?_
        refine T_region ?_
        refine S_ 69 rfl rfl rfl _ (y_move rfl rfl) ?_
        refine S_ 70 rfl rfl rfl _ (y_indexOwnI (j := 1) 56 rfl rfl rfl (fun _ => rfl) rfl Tryd.underlying46 sz9 (fun _ => by omega)) ?_
        refine S_ 71 rfl rfl rfl _ (y_loadO1 56 (val := (fun l : List UInt8 => str l)) rfl rfl rfl rfl (fun _ => (by rw [hw]; rfl : (wdS s)[1]? = some y)) Tryd.underlying9 rfl) ?_
        refine S_ 72 rfl rfl rfl _ (y_as (v' := .tuple #[.int .i64 (numI y), .bool (numOk y)]) (by exact rfl) (y_call rfl rfl rfl cf84 (fun _ w _ => number_any y (by omega) w))) ?_
        refine S_ 68 rfl rfl rfl _ (y_move rfl rfl) ?_
        refine S_ 73 rfl rfl rfl _ (y_extract rfl rfl rfl) ?_
        refine S_ 74 rfl rfl rfl _ (y_extract rfl rfl rfl) ?_
        refine S_ 13 rfl rfl rfl _ (y_assign rfl rfl) ?_
        refine S_ 14 rfl rfl rfl _ (y_assign rfl rfl) ?_
        refine S_go (fun _ _ h => h) ?_
        refine T_seq ?_
        refine T_region ?_
        refine S_ 76 rfl rfl rfl _ (y_move rfl rfl) ?_
        refine S_ 77 rfl rfl rfl _ (y_indexOwnI (j := 2) 56 rfl rfl rfl (fun _ => rfl) rfl Tryd.underlying46 sz9 (fun _ => by omega)) ?_
        refine S_ 78 rfl rfl rfl _ (y_loadO1 56 (val := (fun l : List UInt8 => str l)) rfl rfl rfl rfl (fun _ => (by rw [hw]; rfl : (wdS s)[2]? = some z)) Tryd.underlying9 rfl) ?_
        refine S_ 79 rfl rfl rfl _ (y_as (v' := .tuple #[.int .i64 (numI z), .bool (numOk z)]) (by exact rfl) (y_call rfl rfl rfl cf84 (fun _ w _ => number_any z (by omega) w))) ?_
        refine S_ 75 rfl rfl rfl _ (y_move rfl rfl) ?_
        refine S_ 80 rfl rfl rfl _ (y_extract rfl rfl rfl) ?_
        refine S_ 81 rfl rfl rfl _ (y_extract rfl rfl rfl) ?_
        refine S_ 15 rfl rfl rfl _ (y_assign rfl rfl) ?_
        refine S_ 16 rfl rfl rfl _ (y_assign rfl rfl) ?_
        refine S_go (fun _ _ h => h) ?_
        refine T_seq ?_
        refine T_region ?_
        refine S_ 82 rfl rfl rfl _ (y_move rfl rfl) ?_
        refine S_ 83 rfl rfl rfl _ (y_move rfl rfl) ?_
        refine S_ 84 rfl rfl rfl _ (y_move rfl rfl) ?_
        refine S_ 85 rfl rfl rfl _ (y_fieldAddr rfl rfl fa60_1) ?_
        refine S_store 6 rfl rfl rfl rfl rfl rfl sz3 rfl rfl ?_
        refine S_ 86 rfl rfl rfl _ (y_fieldAddr rfl rfl fa60_2) ?_
        refine S_store 6 rfl rfl rfl rfl rfl rfl sz3 rfl rfl ?_
        refine S_ 87 rfl rfl rfl _ (y_fieldAddr rfl rfl fa60_3) ?_
        refine S_store 6 rfl rfl rfl rfl rfl rfl sz3 rfl rfl ?_
        refine S_go (fun _ _ h => h) ?_
        refine T_seq ?_
        refine T_seq ?_
        refine T_region ?_
        refine S_ 88 rfl rfl rfl _ (y_move rfl rfl) ?_
        refine S_go (fun _ _ h => h) ?_
        refine T_cond rfl (fun h88 => ?_) (fun h88 => ?_)
        · skip
          have hpre : preS s = splitC 46 (cutC 45 (rsS s)).2.1 := by rw [preS, if_pos h88]
          refine T_region ?_
          refine S_ 89 rfl rfl rfl _ (y_move rfl rfl) ?_
          refine S_callOwn 90 90 rfl rfl rfl rfl rfl rfl rfl cf30 (fun A c => .slice A (splitC 46 (cutC 45 (rsS s)).2.1).length c) 9 1 ((splitC 46 (cutC 45 (rsS s)).2.1).length) ((splitC 46 (cutC 45 (rsS s)).2.1).flatMap strE) (fun w hM => Split1_any (cutC 45 (rsS s)).2.1 46 (by omega) w) ?_
          intro A90 c90
          refine S_ 91 rfl rfl rfl _ (y_fieldAddr rfl rfl fa60_4) ?_
          refine S_store 6 rfl rfl rfl rfl rfl rfl sz46 rfl rfl ?_
          refine S_go (fun _ _ h => h) ?_
          refine T_seq ?_
          refine T_region ?_
          refine S_ 92 rfl rfl rfl _ (y_fieldAddr rfl rfl fa60_4) ?_
          refine S_ 93 rfl rfl rfl _ (y_load 6 rfl rfl rfl rfl Tryd.underlying46 rfl) ?_
          refine S_ 94 rfl rfl rfl _ (y_call rfl rfl rfl cf79 (fun _ w hM => ContFS_any _ _ _ (splitC 46 (cutC 45 (rsS s)).2.1) _ _ (fun p => !isPreB p) w (owned_T (enc := strE) hM rfl (i := 90) rfl) (by omega) cf85 fun x hx w1 _ => parse1_any x (by have := spl_le 46 _ x hx; omega) w1)) ?_
          refine S_ 17 rfl rfl rfl _ (y_assign rfl rfl) ?_
          refine S_go (fun _ _ h => h) ?_
          refine T_seq ?_
          refine T_perm [0, 1, 2, 3, 4, 5, 6, 7, 8, 9, 10, 11, 12, 13, 14, 15, 16, 17, 18, 19] [true, true, true, true, true, true, true, true, true, true, true, true, true, true, true, true, true, true, false, true] [0, 0, 2, 6, 14, 30, 62, 126, 254, 510, 1022, 2046, 4094, 8190, 16382, 32766, 65534, 131070, 8191, 524287] [(0, [6]), (14, [6])] (by kernel_rfl) (by kernel_rfl) (by kernel_rfl) rfl (by kernel_rfl) ?_
          refine Rf_ 0 95 rfl rfl rfl rfl rfl _ ⟨rfl, trivial⟩ (Y.z (y_loadA 6 rfl rfl rfl Tryd.underlying60 rfl sz60) rfl) ?_
          refine Rf_ 1 96 rfl rfl rfl rfl rfl _ trivial (Y.z (y_move rfl rfl) rfl) ?_
          refine Rf_ 2 97 rfl rfl rfl rfl rfl _ trivial (Y.z (y_move rfl rfl) rfl) ?_
          refine Rfg_ 3 98 rfl rfl rfl rfl rfl rfl rfl rfl _ trivial (Y.z (y_move rfl rfl) rfl) ?_
          refine Rf_ 4 99 rfl rfl rfl rfl rfl _ trivial (Y.z (y_and rfl rfl rfl) rfl) ?_
          refine Rf_ 5 100 rfl rfl rfl rfl rfl _ trivial (Y.z (y_move rfl rfl) rfl) ?_
          refine Rfg_ 6 101 rfl rfl rfl rfl rfl rfl rfl rfl _ trivial (Y.z (y_move rfl rfl) rfl) ?_
          refine Rf_ 7 102 rfl rfl rfl rfl rfl _ trivial (Y.z (y_and rfl rfl rfl) rfl) ?_
          refine Rf_ 8 103 rfl rfl rfl rfl rfl _ trivial (Y.z (y_move rfl rfl) rfl) ?_
          refine Rfg_ 9 104 rfl rfl rfl rfl rfl rfl rfl rfl _ trivial (Y.z (y_move rfl rfl) rfl) ?_
          refine Rfg_ 10 105 rfl rfl rfl rfl rfl rfl rfl rfl _ trivial (Y.z (y_not rfl rfl) rfl) ?_
          refine Rf_ 11 106 rfl rfl rfl rfl rfl _ trivial (Y.z (y_and rfl rfl rfl) rfl) ?_
          refine Rf_ 12 107 rfl rfl rfl rfl rfl _ trivial (Y.z (y_move rfl rfl) rfl) ?_
          refine Rfg_ 13 108 rfl rfl rfl rfl rfl rfl rfl rfl _ trivial (Y.z (y_fieldAddr rfl rfl fa60_4) rfl) ?_
          refine Rfg_ 14 109 rfl rfl rfl rfl rfl rfl rfl rfl _ ⟨rfl, trivial⟩ (Y.z (y_load 6 rfl rfl rfl rfl Tryd.underlying46 rfl) rfl) ?_
          refine Rfg_ 15 110 rfl rfl rfl rfl rfl rfl rfl rfl _ trivial (zg_len rfl rfl Tryd.underlying46) ?_
          refine Rfg_ 16 111 rfl rfl rfl rfl rfl rfl rfl rfl _ trivial (Y.z (y_bin rfl rfl rfl (fun _ => b_leq)) rfl) ?_
          refine Rf_ 17 112 rfl rfl rfl rfl rfl _ trivial (Y.z (y_and rfl rfl rfl) rfl) ?_
          refine R_chain 18 rfl rfl ?_
          refine S_store 2 rfl rfl rfl rfl rfl rfl sz60 rfl rfl ?_
          refine R_next ⟨.inl rfl, .inr ⟨rfl, trivial⟩, trivial⟩ ?_
          refine Rf_ 19 3 rfl rfl rfl rfl rfl _ trivial (Y.z (y_assign rfl rfl) rfl) ?_
          refine R_go (fun _ _ h => h) ?_
          refine T_ret (fun a w hF hM => hRb a w (post_cell 2 rfl rfl rfl rfl Tryd.underlying60 rfl (by exact sz60) (fun w hM => ?_) a w hF hM))
          have hr : parseR s = (⟨prS s, numI x, numI y, numI z, splitC 46 (cutC 45 (rsS s)).2.1⟩, numOk x && numOk y && numOk z && !badPre (splitC 46 (cutC 45 (rsS s)).2.1) && decide (((splitC 46 (cutC 45 (rsS s)).2.1).length : Int) ≤ 5)) := by
            rw [parseR, if_neg (by simp only [Bool.or_eq_true, decide_eq_true_eq, not_or]; omega), if_neg (by rw [h40b]; exact Bool.false_ne_true), if_neg (by omega), verV, parseOk, hw, hpre]; rfl
          rw [hr]
          exact ⟨A90, c90, rfl, hM.sat 90 _ rfl, hM.below⟩
        · skip
          have hpre : preS s = [] := by rw [preS, if_neg (by simp [h88])]
          refine T_skip_go (fun _ _ h => h) ?_
          refine T_seq ?_
          refine T_region ?_
          refine S_ 92 rfl rfl rfl _ (y_fieldAddr rfl rfl fa60_4) ?_
          refine S_ 93 rfl rfl rfl _ (y_load 6 rfl rfl rfl rfl Tryd.underlying46 rfl) ?_
          refine S_ 94 rfl rfl rfl _ (y_call rfl rfl rfl cf79 (fun _ w hM => ContFS_any _ _ _ [] _ _ (fun p => !isPreB p) w nilS (by decide) cf85 fun x hx => by cases hx)) ?_
          refine S_ 17 rfl rfl rfl _ (y_assign rfl rfl) ?_
          refine S_go (fun _ _ h => h) ?_
          refine T_seq ?_
          refine T_perm [0, 1, 2, 3, 4, 5, 6, 7, 8, 9, 10, 11, 12, 13, 14, 15, 16, 17, 18, 19] [true, true, true, true, true, true, true, true, true, true, true, true, true, true, true, true, true, true, false, true] [0, 0, 2, 6, 14, 30, 62, 126, 254, 510, 1022, 2046, 4094, 8190, 16382, 32766, 65534, 131070, 8191, 524287] [(0, [6]), (14, [6])] (by kernel_rfl) (by kernel_rfl) (by kernel_rfl) rfl (by kernel_rfl) ?_
          refine Rf_ 0 95 rfl rfl rfl rfl rfl _ ⟨rfl, trivial⟩ (Y.z (y_loadA 6 rfl rfl rfl Tryd.underlying60 rfl sz60) rfl) ?_
          refine Rf_ 1 96 rfl rfl rfl rfl rfl _ trivial (Y.z (y_move rfl rfl) rfl) ?_
          refine Rf_ 2 97 rfl rfl rfl rfl rfl _ trivial (Y.z (y_move rfl rfl) rfl) ?_
          refine Rfg_ 3 98 rfl rfl rfl rfl rfl rfl rfl rfl _ trivial (Y.z (y_move rfl rfl) rfl) ?_
          refine Rf_ 4 99 rfl rfl rfl rfl rfl _ trivial (Y.z (y_and rfl rfl rfl) rfl) ?_
          refine Rf_ 5 100 rfl rfl rfl rfl rfl _ trivial (Y.z (y_move rfl rfl) rfl) ?_
          refine Rfg_ 6 101 rfl rfl rfl rfl rfl rfl rfl rfl _ trivial (Y.z (y_move rfl rfl) rfl) ?_
          refine Rf_ 7 102 rfl rfl rfl rfl rfl _ trivial (Y.z (y_and rfl rfl rfl) rfl) ?_
          refine Rf_ 8 103 rfl rfl rfl rfl rfl _ trivial (Y.z (y_move rfl rfl) rfl) ?_
          refine Rfg_ 9 104 rfl rfl rfl rfl rfl rfl rfl rfl _ trivial (Y.z (y_move rfl rfl) rfl) ?_
          refine Rfg_ 10 105 rfl rfl rfl rfl rfl rfl rfl rfl _ trivial (Y.z (y_not rfl rfl) rfl) ?_
          refine Rf_ 11 106 rfl rfl rfl rfl rfl _ trivial (Y.z (y_and rfl rfl rfl) rfl) ?_
          refine Rf_ 12 107 rfl rfl rfl rfl rfl _ trivial (Y.z (y_move rfl rfl) rfl) ?_
          refine Rfg_ 13 108 rfl rfl rfl rfl rfl rfl rfl rfl _ trivial (Y.z (y_fieldAddr rfl rfl fa60_4) rfl) ?_
          refine Rfg_ 14 109 rfl rfl rfl rfl rfl rfl rfl rfl _ ⟨rfl, trivial⟩ (Y.z (y_load 6 rfl rfl rfl rfl Tryd.underlying46 rfl) rfl) ?_
          refine Rfg_ 15 110 rfl rfl rfl rfl rfl rfl rfl rfl _ trivial (zg_len rfl rfl Tryd.underlying46) ?_
          refine Rfg_ 16 111 rfl rfl rfl rfl rfl rfl rfl rfl _ trivial (Y.z (y_bin rfl rfl rfl (fun _ => b_leq)) rfl) ?_
          refine Rf_ 17 112 rfl rfl rfl rfl rfl _ trivial (Y.z (y_and rfl rfl rfl) rfl) ?_
          refine R_chain 18 rfl rfl ?_
          refine S_store 2 rfl rfl rfl rfl rfl rfl sz60 rfl rfl ?_
          refine R_next ⟨.inl rfl, .inr ⟨rfl, trivial⟩, trivial⟩ ?_
          refine Rf_ 19 3 rfl rfl rfl rfl rfl _ trivial (Y.z (y_assign rfl rfl) rfl) ?_
          refine R_go (fun _ _ h => h) ?_
          refine T_ret (fun a w hF hM => hRb a w (post_cell 2 rfl rfl rfl rfl Tryd.underlying60 rfl (by exact sz60) (fun w hM => ?_) a w hF hM))
          have hr : parseR s = (⟨prS s, numI x, numI y, numI z, []⟩, numOk x && numOk y && numOk z && !badPre [] && decide (((([] : List (List UInt8)).length : Nat) : Int) ≤ 5)) := by
            rw [parseR, if_neg (by simp only [Bool.or_eq_true, decide_eq_true_eq, not_or]; omega), if_neg (by rw [h40b]; exact Bool.false_ne_true), if_neg (by omega), verV, parseOk, hw, hpre]; rfl
          rw [hr]
          exact ⟨none, 0, rfl, World.ownsRow_nil _ _ _ _, hM.below⟩
def parE (s : List UInt8) : PVer × Int := if relOk s = true then (verV s, 0) else (pver0, 8)
end Go.Proofs.YtkkngcdikbhkjaaDoor
end
section
namespace Go.Proofs.YtkkngcdikbhkjaaDoor
set_option linter.unusedSimpArgs false
set_option linter.unusedVariables false
set_option maxRecDepth 20000
open Go.RowKit Go.Eng
structure SVer where
  p : List UInt8
  a : Int
  b : Int
  c : Int
  pre : Sl (List UInt8)
def SVer.enc (v : SVer) : List Value := [str v.p, .int .i64 v.a, .int .i64 v.b, .int .i64 v.c, .slice v.pre.A v.pre.q v.pre.c]
def SVer.val (v : SVer) : Value := .agg v.enc.toArray
def SVer.says (v : SVer) : PVer := ⟨v.p, v.a, v.b, v.c, v.pre.l⟩
structure VerOk (w : World) (v : SVer) : Prop where
  ok : v.pre.Ok strE 1 w
  q : v.pre.q ≤ 1000000000
  n : ∀ s ∈ v.pre.l, s.length ≤ 1000000000
  s : v.p.length ≤ 1000000000
  a : -9223372036854775808 ≤ v.a ∧ v.a ≤ 9223372036854775807
  b : -9223372036854775808 ≤ v.b ∧ v.b ≤ 9223372036854775807
  c : -9223372036854775808 ≤ v.c ∧ v.c ≤ 9223372036854775807
theorem VerOk.below {w w' : World} {v : SVer} (h : VerOk w v) (hb : Below w.heap.size w w') : VerOk w' v := ⟨h.ok.below hb, h.q, h.n, h.s, h.a, h.b, h.c⟩
def iE (n : Int) : List Value := [.int .i64 n]
theorem routside_any (n lo hi : Int) (w : World) : Calls Tryd.prog 27 #[.int .i64 n, .int .i64 lo, .int .i64 hi] w fun e w' => e = .returned (.bool (outB n lo hi)) ∧ Below w.heap.size w w' := by
  refine enter_args (args := [.int .i64 n, .int .i64 lo, .int .i64 hi]) (F := _) Tryd.func27 rfl Tryd.ntmps27 rfl rfl ?_
  intro Rb hRb hRn
  refine T_seq ?_
  refine T_region ?_
  refine S_ 6 rfl rfl rfl _ (y_assign rfl rfl) ?_
  refine S_go (fun _ _ h => h) ?_
  refine T_seq ?_
  refine T_region ?_
  refine S_ 7 rfl rfl rfl _ (y_move rfl rfl) ?_
  refine S_ 8 rfl rfl rfl _ (y_move rfl rfl) ?_
  refine S_ 9 rfl rfl rfl _ (y_bin rfl rfl rfl (fun _ => b_lss)) ?_
  refine S_ 10 rfl rfl rfl _ (y_move rfl rfl) ?_
  refine Sg_ 11 rfl rfl rfl rfl rfl rfl _ (y_move rfl rfl) ?_
  refine Sg_ 12 rfl rfl rfl rfl rfl rfl _ (y_move rfl rfl) ?_
  refine Sg_ 13 rfl rfl rfl rfl rfl rfl _ (y_bin rfl rfl rfl (fun _ => b_gtr)) ?_
  refine S_ 14 rfl rfl rfl _ (y_or rfl rfl rfl) ?_
  refine S_ 6 rfl rfl rfl _ (y_assign rfl rfl) ?_
  refine S_go (fun _ _ h => h) ?_
  refine T_ret (fun a w hF hM => hRb a w (post1 rfl rfl (fun w hM => ?_) a w hF hM))
  exact ⟨rfl, hM.below⟩
/-! ### What parse makes, as it lies -/
theorem rel_len {s : List UInt8} (h : relOk s = true) : s.length ≤ 40 := ((parse_iff s).1 h).2.1
end Go.Proofs.YtkkngcdikbhkjaaDoor
end
section
namespace Go.Proofs.YtkkngcdikbhkjaaDoor
set_option linter.unusedSimpArgs false
set_option linter.unusedVariables false
set_option maxRecDepth 20000
open Go.RowKit Go.Eng
theorem refR_eq (s : List UInt8) : refR s = parE s := by
  unfold parE
  cases h : relOk s with
  | true => rw [if_pos rfl]; exact ref_ok h
  | false => rw [if_neg (by simp)]; exact ref_bad h
theorem projectOk_any (s : List UInt8) (w : World) : Calls Tryd.prog 78 #[str s] w fun e w' => e = .returned (.bool (projOk s)) ∧ Below w.heap.size w w' := by
  refine enter_args (args := [str s]) (F := _) Tryd.func78 rfl Tryd.ntmps78 rfl rfl ?_
  intro Rb hRb hRn
  refine T_seq ?_
  refine T_region ?_
  refine S_ 2 rfl rfl rfl _ (y_assign rfl rfl) ?_
  refine S_go (fun _ _ h => h) ?_
  refine T_seq ?_
  refine T_region ?_
  refine S_ 3 rfl rfl rfl _ (y_move rfl rfl) ?_
  refine S_ 4 rfl rfl rfl _ (y_call rfl rfl rfl cf73 (fun _ w _ => NameOk_any s w)) ?_
  refine S_ 5 rfl rfl rfl _ (y_move rfl rfl) ?_
  refine Sg_ 6 rfl rfl rfl rfl rfl rfl _ (y_move rfl rfl) ?_
  refine Sg_ 7 rfl rfl rfl rfl rfl rfl _ (y_call rfl rfl rfl cf70 (fun _ w _ => Contains1_any s 46 w)) ?_
  refine Sg_ 8 rfl rfl rfl rfl rfl rfl _ (y_not rfl rfl) ?_
  refine S_ 9 rfl rfl rfl _ (y_and rfl rfl rfl) ?_
  refine S_ 2 rfl rfl rfl _ (y_assign rfl rfl) ?_
  refine S_go (fun _ _ h => h) ?_
  refine T_ret (fun a w hF hM => hRb a w (post1 rfl rfl (fun w hM => ?_) a w hF hM))
  exact ⟨rfl, hM.below⟩
theorem partOk_any (s : List UInt8) (hs : s.length ≤ 1000000000) (w : World) : Calls Tryd.prog 81 #[str s] w fun e w' => e = .returned (.bool (partB s)) ∧ Below w.heap.size w w' := by
  refine enter_args (args := [str s]) (F := _) Tryd.func81 rfl Tryd.ntmps81 rfl rfl ?_
  intro Rb hRb hRn
  refine T_seq ?_
  refine T_region ?_
  refine S_ 2 rfl rfl rfl _ (y_assign rfl rfl) ?_
  refine S_go (fun _ _ h => h) ?_
  refine T_seq ?_
  refine T_seq ?_
  refine T_region ?_
  refine S_ 5 rfl rfl rfl _ (y_move rfl rfl) ?_
  refine S_ 6 rfl rfl rfl _ (y_bin rfl rfl rfl (fun _ => b_eqls)) ?_
  refine S_ 7 rfl rfl rfl _ (y_move rfl rfl) ?_
  refine Sg_ 8 rfl rfl rfl rfl rfl rfl _ (y_move rfl rfl) ?_
  refine Sg_ 9 rfl rfl rfl rfl rfl rfl _ (y_call rfl rfl rfl cf34 (fun _ w _ => TrimLet_any s hs w)) ?_
  refine Sg_ 10 rfl rfl rfl rfl rfl rfl _ (y_bin rfl rfl rfl (fun _ => b_neqs)) ?_
  refine S_ 11 rfl rfl rfl _ (y_or rfl rfl rfl) ?_
  refine S_go (fun _ _ h => h) ?_
  refine T_cond rfl (fun h11 => ?_) (fun h11 => ?_)
  · skip
    refine T_seq ?_
    refine T_region ?_
    refine S_ 2 rfl rfl rfl _ (y_assign rfl rfl) ?_
    refine S_go (fun _ _ h => h) ?_
    refine T_ret (fun a w hF hM => hRb a w (post1 rfl rfl (fun w hM => ?_) a w hF hM))
    exact ⟨by rw [partB, if_pos h11], hM.below⟩
  · skip
    refine T_skip_go (fun _ _ h => h) ?_
    refine T_seq ?_
    refine T_region ?_
    refine S_ 13 rfl rfl rfl _ (y_move rfl rfl) ?_
    refine S_ 14 rfl rfl rfl _ (y_call rfl rfl rfl cf32 (fun _ w _ => whole_any s 6 (by decide) hs w)) ?_
    refine S_ 12 rfl rfl rfl _ (y_move rfl rfl) ?_
    refine S_ 15 rfl rfl rfl _ (y_extract rfl rfl rfl) ?_
    refine S_ 16 rfl rfl rfl _ (y_extract rfl rfl rfl) ?_
    refine S_ 3 rfl rfl rfl _ (y_assign rfl rfl) ?_
    refine S_ 4 rfl rfl rfl _ (y_assign rfl rfl) ?_
    refine S_go (fun _ _ h => h) ?_
    refine T_seq ?_
    refine T_region ?_
    refine S_ 17 rfl rfl rfl _ (y_move rfl rfl) ?_
    refine S_ 18 rfl rfl rfl _ (y_move rfl rfl) ?_
    refine Sg_ 19 rfl rfl rfl rfl rfl rfl _ (y_move rfl rfl) ?_
    refine Sg_ 20 rfl rfl rfl rfl rfl rfl _ (y_call rfl rfl rfl cf34 (fun _ w _ => TrimDig_any s hs w)) ?_
    refine Sg_ 21 rfl rfl rfl rfl rfl rfl _ (y_bin rfl rfl rfl (fun _ => b_neqs)) ?_
    refine S_ 22 rfl rfl rfl _ (y_or rfl rfl rfl) ?_
    refine S_ 2 rfl rfl rfl _ (y_assign rfl rfl) ?_
    refine S_go (fun _ _ h => h) ?_
    refine T_ret (fun a w hF hM => hRb a w (post1 rfl rfl (fun w hM => ?_) a w hF hM))
    exact ⟨by rw [partB, if_neg (by rw [h11]; exact Bool.false_ne_true)], hM.below⟩
theorem VersionOf1_any (s : List UInt8) (hs : s.length ≤ 1000000000) (w : World) : Calls Tryd.prog 80 #[str s] w fun e w' => e = .returned (.bool (!isPreB s)) ∧ Below w.heap.size w w' := by
  rw [preB_eq]
  refine enter_args (args := [str s]) (F := _) Tryd.func80 rfl Tryd.ntmps80 rfl rfl ?_
  intro Rb hRb hRn
  refine T_seq ?_
  refine T_region ?_
  refine S_ 2 rfl rfl rfl _ (y_assign rfl rfl) ?_
  refine S_go (fun _ _ h => h) ?_
  refine T_seq ?_
  refine T_region ?_
  refine S_ 3 rfl rfl rfl _ (y_move rfl rfl) ?_
  refine S_ 4 rfl rfl rfl _ (y_call rfl rfl rfl cf81 (fun _ w _ => partOk_any s hs w)) ?_
  refine S_ 5 rfl rfl rfl _ (y_not rfl rfl) ?_
  refine S_ 2 rfl rfl rfl _ (y_assign rfl rfl) ?_
  refine S_go (fun _ _ h => h) ?_
  refine T_ret (fun a w hF hM => hRb a w (post1 rfl rfl (fun w hM => ?_) a w hF hM))
  exact ⟨rfl, hM.below⟩
def whs (k : Nat) (l : List (List UInt8)) : List Int := if (l.all fun w => plainOk w k) = true then l.map fun w => ((plainJ w k : Nat) : Int) else []
theorem wholes_any (A : Option Addr) (q c k : Nat) (l : List (List UInt8)) (hk : k ≤ 18) (w : World) (hl : SlT strE 1 w A q l) (hq : q ≤ 1000000) (hn : ∀ s ∈ l, s.length ≤ 1000000000) :
    Calls Tryd.prog 77 #[.slice A q c, .int .i64 (k : Int)] w fun e w' => ∃ A' c', e = .returned (.tuple #[.slice A' (whs k l).length c', .bool (l.all fun w => plainOk w k)]) ∧ w'.ownsRow w.heap.size 3 1 (.slice A' (whs k l).length c') (whs k l).length ((whs k l).flatMap iE) ∧ Below w.heap.size w w' := by
  have hlen := hl.len
  refine enter_args (args := [.slice A q c, .int .i64 (k : Int)]) (F := _) Tryd.func77 rfl Tryd.ntmps77 rfl rfl ?_
  intro Rb hRb hRn
  refine T_seq ?_
  refine T_region ?_
  refine S_nilSlice 4 (e := 3) (size := 1) ?_
  refine S_ 4 rfl rfl rfl _ (y_assign rfl rfl) ?_
  refine S_ 5 rfl rfl rfl _ (y_assign rfl rfl) ?_
  refine S_go (fun _ _ h => h) ?_
  refine T_seq ?_
  refine T_region ?_
  refine S_nilSlice 6 (e := 3) (size := 1) ?_
  refine S_ 6 rfl rfl rfl _ (y_assign rfl rfl) ?_
  refine S_go (fun _ _ h => h) ?_
  refine T_seq ?_
  refine T_seq ?_
  refine T_region ?_
  refine S_ 11 rfl rfl rfl _ (y_move rfl rfl) ?_
  refine S_ 12 rfl rfl rfl _ (y_len_slice rfl rfl Tryd.underlying46) ?_
  refine S_ 13 rfl rfl rfl _ (y_move rfl rfl) ?_
  refine S_go (fun _ _ h => h) ?_
  refine T_block ?_
  refine T_loopK4 (kf := [(4, 6), (8, 10), (13, 29)]) (kl := [(4, 6), (8, 10), (13, 29)]) (fun (i : Nat) (ns : List Int) (A6 : Option Addr) (c6 : Nat) => [(13, true, .int .i64 (i : Int)), (6, true, .slice A6 i c6)]) (fun (i : Nat) (ns : List Int) (A6 : Option Addr) (c6 : Nat) => [(6, .own 3 1 (.slice A6 i c6) i (ns.flatMap iE))]) (fun (i : Nat) (ns : List Int) (A6 : Option Addr) (c6 : Nat) => i ≤ q ∧ ns.length = i ∧ ns ++ (l.drop i).map (fun w => ((plainJ w k : Nat) : Int)) = l.map (fun w => ((plainJ w k : Nat) : Int)) ∧ (l.all fun w => plainOk w k) = ((l.drop i).all fun w => plainOk w k)) (fun (i : Nat) (ns : List Int) (A6 : Option Addr) (c6 : Nat) => q - i) 0 [] none 0 (by repeat (first | exact kf_nil | (apply kf_in; focus rfl) | (apply kf_out; focus rfl))) (by repeat (first | exact kl_nil | exact kl_rest (by assumption) rfl | (apply kl_in; focus rfl) | (apply kl_out; focus rfl))) ?_ ?_ ?_ ?_
  · exact ⟨by omega, rfl, rfl, rfl⟩
  · exact ⟨rfl, rfl, trivial⟩
  · exact ⟨rfl, trivial⟩
  rintro i ns A6 c6 ⟨hp1, hp2, hp3, hp4⟩
  refine T_seq ?_
  refine T_region ?_
  refine S_ 14 rfl rfl rfl _ (y_bin rfl rfl rfl (fun _ => b_lss)) ?_
  refine S_go (fun _ _ h => h) ?_
  refine T_seq ?_
  refine T_cond rfl (fun h14 => ?_) (fun h14 => ?_)
  · try simp only [decide_eq_true_eq, decide_eq_false_iff_not, Bool.or_eq_true, Bool.or_eq_false_iff, Bool.and_eq_true, Bool.and_eq_false_iff, Bool.not_eq_true', Bool.not_eq_false', Bool.not_eq_true, Bool.not_eq_false, Bool.not_true, Bool.not_false, Int.not_lt, Int.not_le, not_or, not_and, Classical.not_not] at h14
    obtain ⟨x, hx1, hx2⟩ := hl.at (i := i) (by omega)
    refine T_skip_go (fun _ _ h => h) ?_
    refine T_seq ?_
    refine T_block ?_
    refine T_seq ?_
    refine T_region ?_
    refine S_ 15 rfl rfl rfl _ (y_indexAddr rfl rfl rfl Tryd.underlying46 sz9 (fun hg => hl.isSome (by omega)) (fun _ => by omega)) ?_
    refine S_ 16 rfl rfl rfl _ (y_loadT1 (val := (fun l : List UInt8 => str l)) rfl rfl hl (fun _ => hx1) Tryd.underlying9 rfl) ?_
    refine S_ 8 rfl rfl rfl _ (y_assign rfl rfl) ?_
    refine S_go (fun _ _ h => h) ?_
    refine T_seq ?_
    refine T_region ?_
    refine S_ 18 rfl rfl rfl _ (y_move rfl rfl) ?_
    refine S_ 19 rfl rfl rfl _ (y_move rfl rfl) ?_
    refine S_ 20 rfl rfl rfl _ (y_call rfl rfl rfl cf32 (fun _ w _ => whole_any x k hk (hn x (mem_at hx1)) w)) ?_
    refine S_ 17 rfl rfl rfl _ (y_move rfl rfl) ?_
    refine S_ 21 rfl rfl rfl _ (y_extract rfl rfl rfl) ?_
    refine S_ 22 rfl rfl rfl _ (y_extract rfl rfl rfl) ?_
    refine S_ 9 rfl rfl rfl _ (y_assign rfl rfl) ?_
    refine S_ 10 rfl rfl rfl _ (y_assign rfl rfl) ?_
    refine S_go (fun _ _ h => h) ?_
    refine T_seq ?_
    refine T_seq ?_
    refine T_region ?_
    refine S_ 23 rfl rfl rfl _ (y_move rfl rfl) ?_
    refine S_ 24 rfl rfl rfl _ (y_not rfl rfl) ?_
    refine S_go (fun _ _ h => h) ?_
    refine T_cond rfl (fun h24 => ?_) (fun h24 => ?_)
    · skip
      have h24 : plainOk x k = false := by simpa using h24
      refine T_seq ?_
      refine T_region ?_
      refine S_nilSlice 4 (e := 3) (size := 1) ?_
      refine S_ 4 rfl rfl rfl _ (y_assign rfl rfl) ?_
      refine S_ 5 rfl rfl rfl _ (y_assign rfl rfl) ?_
      refine S_go (fun _ _ h => h) ?_
      refine T_ret (fun a w hF hM => hRb a w (post2 rfl rfl rfl (fun w hM => ?_) a w hF hM))
      have ha : (l.all fun w => plainOk w k) = false := by rw [hp4, hx2, List.all_cons, h24, Bool.false_and]
      have hw : whs k l = [] := if_neg (by rw [ha]; exact Bool.false_ne_true)
      rw [ha, hw]
      exact ⟨none, 0, rfl, World.ownsRow_nil _ _ _ _, hM.below⟩
    · skip
      have h24 : plainOk x k = true := by simpa using h24
      refine T_skip_go (fun _ _ h => h) ?_
      refine T_region ?_
      refine S_ 25 rfl rfl rfl _ (y_move rfl rfl) ?_
      refine S_ 26 rfl rfl rfl _ (y_move rfl rfl) ?_
      refine S_buildSlice 27 27 rfl rfl rfl rfl rfl Tryd.underlying107 inf3 rfl (by decide) (by decide) rfl rfl (by decide) rfl (_) rfl ?_
      intro b27
      obtain ⟨i28, hi28, hz28, hs28, hy28⟩ := info_parts inf3
      refine S_append 28 6 27 rfl rfl rfl rfl rfl rfl rfl rfl Tryd.underlying107 hi28 hz28 hs28 hy28 rfl (by decide) (by decide) rfl ?_ ?_ (i + 1) ((ns ++ [((plainJ x k : Nat) : Int)]).flatMap iE) ?_ ?_ ?_
      · (simp only [maxLen]; omega)
      · omega
      · rfl
      · simp [List.flatMap_append]; rfl
      intro A28 c28
      refine S_ 6 rfl rfl rfl _ (y_assign rfl rfl) ?_
      refine S_go (fun _ _ h => h) ?_
      refine T_region ?_
      refine S_ 29 rfl rfl rfl _ (y_bin rfl rfl rfl (fun hg => b_add (by omega))) ?_
      refine S_ 13 rfl rfl rfl _ (y_move rfl rfl) ?_
      refine S_nil (nextK4 (kf := [(4, 6), (8, 10), (13, 29)]) (kl := [(4, 6), (8, 10), (13, 29)]) (i + 1) (ns ++ [((plainJ x k : Nat) : Int)]) A28 c28 (by repeat (first | exact kf_nil | (apply kf_in; focus rfl) | (apply kf_out; focus rfl))) (by repeat (first | exact kl_nil | exact kl_rest (by assumption) rfl | (apply kl_in; focus rfl) | (apply kl_out; focus rfl))) ?_ ?_ ?_ ?_)
      · omega
      · exact ⟨by omega, by rw [List.length_append, hp2]; rfl, by rw [← hp3, hx2, List.map_cons, List.append_assoc]; rfl, by rw [hp4, hx2, List.all_cons, h24, Bool.true_and]⟩
      · exact ⟨rfl, rfl, trivial⟩
      · exact ⟨rfl, trivial⟩
  · try simp only [decide_eq_true_eq, decide_eq_false_iff_not, Bool.or_eq_true, Bool.or_eq_false_iff, Bool.and_eq_true, Bool.and_eq_false_iff, Bool.not_eq_true', Bool.not_eq_false', Bool.not_eq_true, Bool.not_eq_false, Bool.not_true, Bool.not_false, Int.not_lt, Int.not_le, not_or, not_and, Classical.not_not] at h14
    refine T_exit_go (fun _ _ h => h) ?_
    refine T_seq ?_
    refine T_region ?_
    refine S_ 30 rfl rfl rfl _ (y_move rfl rfl) ?_
    refine S_ 4 rfl rfl rfl _ (y_assign rfl rfl) ?_
    refine S_ 5 rfl rfl rfl _ (y_assign rfl rfl) ?_
    refine S_go (fun _ _ h => h) ?_
    refine T_ret (fun a w hF hM => hRb a w (post2 rfl rfl rfl (fun w hM => ?_) a w hF hM))
    have he := hl.end (i := i) (by omega)
    rw [he] at hp3 hp4
    have ha : (l.all fun w => plainOk w k) = true := hp4
    have hw : whs k l = ns := by rw [whs, if_pos ha, ← hp3]; simp
    rw [ha, hw, hp2]
    exact ⟨A6, c6, rfl, hM.sat 6 _ rfl, hM.below⟩
def refBad (s : List UInt8) : Bool := !wholesOk (wdS s) || !decide (((wdS s).length : Int) = 3) || !projOk (prS s)
theorem whs_map {l : List (List UInt8)} (h : wholesOk l = true) : whs 6 l = l.map numI := by
  have h1 := wholes_iff.1 h
  rw [whs, if_pos (show (l.all fun w => plainOk w 6) = true from h)]
  refine List.map_congr_left fun w hw => ?_
  have h2 : plainOk w 6 = true := by rw [← numOk_plain]; exact h1 w hw
  rw [plainJ, if_pos h2, numI, if_pos (h1 w hw)]
theorem refBad_eq (s : List UInt8) : (!wholesOk (wdS s) || !decide (((whs 6 (wdS s)).length : Int) = 3) || !projOk (prS s)) = refBad s := by
  unfold refBad
  cases h : wholesOk (wdS s) with
  | false => simp
  | true => rw [whs_map h, List.length_map]
set_option maxHeartbeats 1600000 in
theorem VersionOf_any (s : List UInt8) (w : World) :
    Calls Tryd.prog 24 #[str s] w fun e w' => ∃ A c, e = .returned (.tuple #[pvV (parE s).1 A c, .int .i64 (parE s).2]) ∧ w'.ownsRow w.heap.size 9 1 (.slice A (parE s).1.pre.length c) (parE s).1.pre.length ((parE s).1.pre.flatMap strE) ∧ Below w.heap.size w w' := by
  rw [← refR_eq]
  have hge := Lib.indexByte_ge s 46
  refine enter_args (args := [str s]) (F := _) Tryd.func24 rfl Tryd.ntmps24 rfl rfl ?_
  intro Rb hRb hRn
  refine T_seq ?_
  refine T_region ?_
  refine S_alloc 2 2 rfl rfl rfl rfl z60 ?_
  intro b2
  refine S_ 3 rfl rfl rfl _ (y_assign rfl rfl) ?_
  refine S_go (fun _ _ h => h) ?_
  refine T_seq ?_
  refine T_seq ?_
  refine T_region ?_
  refine S_ 12 rfl rfl rfl _ (y_move rfl rfl) ?_
  refine S_ 13 rfl rfl rfl _ (y_call rfl rfl rfl cf73 (fun _ w _ => NameOk_any s w)) ?_
  refine S_ 14 rfl rfl rfl _ (y_not rfl rfl) ?_
  refine S_go (fun _ _ h => h) ?_
  refine T_cond rfl (fun h14 => ?_) (fun h14 => ?_)
  · skip
    have hr : refR s = (pver0, 8) := by rw [refR, if_pos (by simpa using h14)]
    refine T_seq ?_
    refine T_region ?_
    refine S_ 15 rfl rfl rfl _ (y_loadA 2 rfl rfl rfl Tryd.underlying60 rfl sz60) ?_
    refine S_store 2 rfl rfl rfl rfl rfl rfl sz60 rfl rfl ?_
    refine S_ 3 rfl rfl rfl _ (y_assign rfl rfl) ?_
    refine S_go (fun _ _ h => h) ?_
    refine T_ret (fun a w hF hM => hRb a w (post_cell 2 rfl rfl rfl rfl Tryd.underlying60 rfl (by exact sz60) (fun w hM => ?_) a w hF hM))
    rw [hr]
    exact ⟨none, 0, rfl, World.ownsRow_nil _ _ _ _, hM.below⟩
  · skip
    have hn : nameOk s = true := by simpa using h14
    have hs40 := (name_iff.1 hn).2.1
    have hpt : ptN s ≤ s.length := by
      unfold ptN
      rcases Int.lt_or_le (Lib.indexByte s 46) 0 with h | h
      · omega
      · obtain ⟨o, ho⟩ : ∃ o : Nat, Lib.indexByte s 46 = o := ⟨(Lib.indexByte s 46).toNat, by omega⟩
        have := (List.getElem?_eq_some_iff.1 (Lib.indexByte_some ho).1).1
        omega
    have hpl : (s.take (ptN s)).length = ptN s := by rw [List.length_take]; omega
    have hlb : lnI s < s.length ∨ lnI s = -1 := by
      rcases last_spec (s.take (ptN s)) 45 (s.take (ptN s)).length with ⟨h1, _⟩ | ⟨k, h1, h2, _⟩
      · exact .inr h1
      · left
        have h1 : lnI s = k := h1
        omega
    refine T_skip_go (fun _ _ h => h) ?_
    refine T_seq ?_
    refine T_region ?_
    refine S_ 16 rfl rfl rfl _ (y_move rfl rfl) ?_
    refine S_ 17 rfl rfl rfl _ (y_call rfl rfl rfl cf74 (fun _ w _ => IndexByte_any s 46 w)) ?_
    refine S_ 4 rfl rfl rfl _ (y_assign rfl rfl) ?_
    refine S_go (fun _ _ h => h) ?_
    refine T_seq ?_
    refine T_region ?_
    refine S_ 18 rfl rfl rfl _ (y_move rfl rfl) ?_
    refine S_ 19 rfl rfl rfl _ (y_move rfl rfl) ?_
    refine S_ 20 rfl rfl rfl _ (y_as (v' := .int .i64 ((ptN s : Nat) : Int)) (by congr 1; unfold ptN; omega) (y_max rfl rfl rfl)) ?_
    refine S_ 21 rfl rfl rfl _ (y_as (v' := str (s.take (ptN s))) (by exact rfl) (y_strTo rfl rfl rfl Tryd.underlying9 (fun _ => by omega))) ?_
    refine S_ 22 rfl rfl rfl _ (y_as (v' := .int .i64 (lnI s)) (by exact rfl) (y_call rfl rfl rfl cf75 (fun _ w _ => SLast_any (s.take (ptN s)) 45 (by rw [List.length_take]; omega) w))) ?_
    refine S_ 5 rfl rfl rfl _ (y_assign rfl rfl) ?_
    refine S_go (fun _ _ h => h) ?_
    refine T_seq ?_
    refine T_seq ?_
    refine T_region ?_
    refine S_ 23 rfl rfl rfl _ (y_move rfl rfl) ?_
    refine S_ 24 rfl rfl rfl _ (y_bin rfl rfl rfl (fun _ => b_lss)) ?_
    refine S_go (fun _ _ h => h) ?_
    refine T_cond rfl (fun h24 => ?_) (fun h24 => ?_)
    · try simp only [decide_eq_true_eq, decide_eq_false_iff_not, Bool.or_eq_true, Bool.or_eq_false_iff, Bool.and_eq_true, Bool.and_eq_false_iff, Bool.not_eq_true', Bool.not_eq_false', Bool.not_eq_true, Bool.not_eq_false, Bool.not_true, Bool.not_false, Int.not_lt, Int.not_le, not_or, not_and, Classical.not_not] at h24
      have hr : refR s = (pver0, 8) := by rw [refR, if_neg (by rw [hn]; simp), if_pos (by omega)]
      refine T_seq ?_
      refine T_region ?_
      refine S_ 25 rfl rfl rfl _ (y_loadA 2 rfl rfl rfl Tryd.underlying60 rfl sz60) ?_
      refine S_store 2 rfl rfl rfl rfl rfl rfl sz60 rfl rfl ?_
      refine S_ 3 rfl rfl rfl _ (y_assign rfl rfl) ?_
      refine S_go (fun _ _ h => h) ?_
      refine T_ret (fun a w hF hM => hRb a w (post_cell 2 rfl rfl rfl rfl Tryd.underlying60 rfl (by exact sz60) (fun w hM => ?_) a w hF hM))
      rw [hr]
      exact ⟨none, 0, rfl, World.ownsRow_nil _ _ _ _, hM.below⟩
    · try simp only [decide_eq_true_eq, decide_eq_false_iff_not, Bool.or_eq_true, Bool.or_eq_false_iff, Bool.and_eq_true, Bool.and_eq_false_iff, Bool.not_eq_true', Bool.not_eq_false', Bool.not_eq_true, Bool.not_eq_false, Bool.not_true, Bool.not_false, Int.not_lt, Int.not_le, not_or, not_and, Classical.not_not] at h24
      obtain ⟨k, hk⟩ : ∃ k : Nat, lnI s = k := ⟨(lnI s).toNat, by omega⟩
      have hrl : (rsS s).length ≤ 40 := by rw [rsS, List.length_drop]; omega
      obtain ⟨hc1, hc2⟩ : (cutC 45 (rsS s)).1.length ≤ 40 ∧ (cutC 45 (rsS s)).2.1.length ≤ 40 := by have := cut_le 45 (rsS s); omega
      have hwl : (wdS s).length ≤ 41 := split_len40 hc1
      have hql : (splitC 46 (cutC 45 (rsS s)).2.1).length ≤ 41 := split_len40 hc2
      refine T_skip_go (fun _ _ h => h) ?_
      refine T_seq ?_
      refine T_region ?_
      refine S_ 26 rfl rfl rfl _ (y_move rfl rfl) ?_
      refine S_ 27 rfl rfl rfl _ (y_move rfl rfl) ?_
      refine S_ 28 rfl rfl rfl _ (y_as (v' := str (prS s)) (by exact rfl) (y_strTo rfl rfl rfl Tryd.underlying9 (fun _ => by omega))) ?_
      refine S_ 29 rfl rfl rfl _ (y_fieldAddr rfl rfl fa60_0) ?_
      refine S_store 2 rfl rfl rfl rfl rfl rfl sz9 rfl rfl ?_
      refine S_go (fun _ _ h => h) ?_
      refine T_seq ?_
      refine T_region ?_
      refine S_ 31 rfl rfl rfl _ (y_move rfl rfl) ?_
      refine S_ 32 rfl rfl rfl _ (y_move rfl rfl) ?_
      refine S_ 33 rfl rfl rfl _ (y_bin rfl rfl rfl (fun hg => b_add (by omega))) ?_
      refine S_ 34 rfl rfl rfl _ (y_as (v' := str (rsS s)) (by rw [rsS, hk]; rfl) (y_strFrom rfl rfl rfl Tryd.underlying9 (fun _ => by omega))) ?_
      refine S_ 35 rfl rfl rfl _ (y_call rfl rfl rfl cf76 (fun _ w _ => Cut1_any (rsS s) 45 w (by omega))) ?_
      refine S_ 30 rfl rfl rfl _ (y_move rfl rfl) ?_
      refine S_ 36 rfl rfl rfl _ (y_extract rfl rfl rfl) ?_
      refine S_ 37 rfl rfl rfl _ (y_extract rfl rfl rfl) ?_
      refine S_ 38 rfl rfl rfl _ (y_extract rfl rfl rfl) ?_
      refine S_ 6 rfl rfl rfl _ (y_assign rfl rfl) ?_
      refine S_ 7 rfl rfl rfl _ (y_assign rfl rfl) ?_
      refine S_ 8 rfl rfl rfl _ (y_assign rfl rfl) ?_
      refine S_go (fun _ _ h => h) ?_
      refine T_seq ?_
      refine T_region ?_
      refine S_ 39 rfl rfl rfl _ (y_move rfl rfl) ?_
      refine S_callOwn 40 40 rfl rfl rfl rfl rfl rfl rfl cf30 (fun A c => .slice A ((wdS s).length) c) 9 1 ((wdS s).length) ((wdS s).flatMap strE) (fun w hM => Split1_any (cutC 45 (rsS s)).1 46 (by omega) w) ?_
      intro A40 c40
      refine S_ 9 rfl rfl rfl _ (y_assign rfl rfl) ?_
      refine S_go (fun _ _ h => h) ?_
      refine T_seq ?_
      refine T_region ?_
      refine S_ 42 rfl rfl rfl _ (y_move rfl rfl) ?_
      refine S_callOwn 43 43 rfl rfl rfl rfl rfl rfl rfl cf77 (fun A c => .tuple #[.slice A (whs 6 (wdS s)).length c, .bool (wholesOk (wdS s))]) 3 1 ((whs 6 (wdS s)).length) ((whs 6 (wdS s)).flatMap iE) (fun w hM => wholes_any _ _ _ 6 (wdS s) (by decide) w (owned_T (enc := strE) hM rfl (i := 40) rfl) (by omega) (fun u hu => by have := spl_le 46 _ u hu; omega)) ?_
      intro A43 c43
      refine S_ 41 rfl rfl rfl _ (y_move rfl rfl) ?_
      refine S_ 44 rfl rfl rfl _ (y_extract rfl rfl rfl) ?_
      refine S_ 45 rfl rfl rfl _ (y_extract rfl rfl rfl) ?_
      refine S_ 10 rfl rfl rfl _ (y_assign rfl rfl) ?_
      refine S_ 11 rfl rfl rfl _ (y_assign rfl rfl) ?_
      refine S_go (fun _ _ h => h) ?_
      refine T_seq ?_
      refine T_seq ?_
      refine T_region ?_
      refine S_ 46 rfl rfl rfl _ (y_move rfl rfl) ?_
      refine S_ 47 rfl rfl rfl _ (y_not rfl rfl) ?_
      refine S_ 48 rfl rfl rfl _ (y_move rfl rfl) ?_
      refine Sg_ 49 rfl rfl rfl rfl rfl rfl _ (y_move rfl rfl) ?_
      refine Sg_ 50 rfl rfl rfl rfl rfl rfl _ (y_len_slice rfl rfl Tryd.underlying107) ?_
      refine Sg_ 51 rfl rfl rfl rfl rfl rfl _ (y_bin rfl rfl rfl (fun _ => b_neq)) ?_
      refine S_ 52 rfl rfl rfl _ (y_or rfl rfl rfl) ?_
      refine S_ 53 rfl rfl rfl _ (y_move rfl rfl) ?_
      refine Sg_ 54 rfl rfl rfl rfl rfl rfl _ (y_fieldAddr rfl rfl fa60_0) ?_
      refine Sg_ 55 rfl rfl rfl rfl rfl rfl _ (y_load 2 rfl rfl rfl rfl Tryd.underlying9 rfl) ?_
      refine Sg_ 56 rfl rfl rfl rfl rfl rfl _ (y_call rfl rfl rfl cf78 (fun _ w _ => projectOk_any (prS s) w)) ?_
      refine Sg_ 57 rfl rfl rfl rfl rfl rfl _ (y_not rfl rfl) ?_
      refine S_ 58 rfl rfl rfl _ (y_as (v' := .bool (refBad s)) (by exact congrArg Value.bool (refBad_eq s)) (y_or rfl rfl rfl)) ?_
      refine S_go (fun _ _ h => h) ?_
      refine T_cond rfl (fun h58 => ?_) (fun h58 => ?_)
      · skip
        have hr : refR s = (pver0, 8) := by rw [refR, if_neg (by rw [hn]; simp), if_neg (by omega), if_pos (show (!wholesOk (wdS s) || !decide (((wdS s).length : Int) = 3) || !projOk (prS s)) = true from h58)]
        refine T_seq ?_
        refine T_region ?_
        refine S_ 59 rfl rfl rfl _ (y_build (zv := .agg #[.string ⟨#[]⟩, .int .i64 0, .int .i64 0, .int .i64 0, .slice none 0 0]) (pl := [(0, 1), (1, 1), (2, 1), (3, 1), (4, 1)]) (out := [.string ⟨#[]⟩, .int .i64 0, .int .i64 0, .int .i64 0, .slice none 0 0]) rfl rfl Tryd.underlying60 z60 (by kernel_rfl) rfl) ?_
        refine S_store 2 rfl rfl rfl rfl rfl rfl sz60 rfl rfl ?_
        refine S_ 3 rfl rfl rfl _ (y_assign rfl rfl) ?_
        refine S_go (fun _ _ h => h) ?_
        refine T_ret (fun a w hF hM => hRb a w (post_cell 2 rfl rfl rfl rfl Tryd.underlying60 rfl (by exact sz60) (fun w hM => ?_) a w hF hM))
        rw [hr]
        exact ⟨none, 0, rfl, World.ownsRow_nil _ _ _ _, hM.below⟩
      · skip
        have h58b := h58
        simp only [refBad, Bool.or_eq_false_iff, Bool.not_eq_false', decide_eq_true_eq] at h58
        obtain ⟨⟨hw1, hw2⟩, hw3⟩ := h58
        obtain ⟨x, y, z, hw⟩ := triple (l := wdS s) (by omega)
        have hwm : whs 6 (wdS s) = [numI x, numI y, numI z] := by rw [whs_map hw1, hw]; rfl
        refine T_skip_go (fun _ _ h => h) ?_
        refine T_seq ?_
        refine T_perm [0, 1, 2, 3, 4, 5, 6, 7, 8, 9, 10, 11, 12, 13, 14] [true, true, true, true, true, true, true, true, true, true, false, true, false, true, false] [0, 1, 3, 0, 8, 24, 0, 64, 192, 7, 519, 1599, 3647, 8191, 16383] [(1, [43]), (2, [43]), (4, [43]), (5, [43]), (7, [43]), (8, [43])] (by kernel_rfl) (by kernel_rfl) (by kernel_rfl) rfl (by kernel_rfl) ?_
        refine Rf_ 0 60 rfl rfl rfl rfl rfl _ trivial (Y.z (y_move rfl rfl) rfl) ?_
        refine Rf_ 1 61 rfl rfl rfl rfl rfl _ ⟨rfl, trivial⟩ (Y.z (y_indexOwnI (j := 0) 43 rfl rfl rfl (fun _ => rfl) rfl Tryd.underlying107 sz3 (fun _ => by rw [hwm]; show 0 < 3; omega)) rfl) ?_
        refine Rf_ 2 62 rfl rfl rfl rfl rfl _ ⟨rfl, trivial⟩ (Y.z (y_loadO1 43 (val := (fun n : Int => Value.int .i64 n)) rfl rfl rfl rfl (fun _ => (by rw [hwm]; rfl : (whs 6 (wdS s))[0]? = some (numI x))) Tryd.underlying3 rfl) rfl) ?_
        refine Rf_ 3 63 rfl rfl rfl rfl rfl _ trivial (Y.z (y_move rfl rfl) rfl) ?_
        refine Rf_ 4 64 rfl rfl rfl rfl rfl _ ⟨rfl, trivial⟩ (Y.z (y_indexOwnI (j := 1) 43 rfl rfl rfl (fun _ => rfl) rfl Tryd.underlying107 sz3 (fun _ => by rw [hwm]; show 1 < 3; omega)) rfl) ?_
        refine Rf_ 5 65 rfl rfl rfl rfl rfl _ ⟨rfl, trivial⟩ (Y.z (y_loadO1 43 (val := (fun n : Int => Value.int .i64 n)) rfl rfl rfl rfl (fun _ => (by rw [hwm]; rfl : (whs 6 (wdS s))[1]? = some (numI y))) Tryd.underlying3 rfl) rfl) ?_
        refine Rf_ 6 66 rfl rfl rfl rfl rfl _ trivial (Y.z (y_move rfl rfl) rfl) ?_
        refine Rf_ 7 67 rfl rfl rfl rfl rfl _ ⟨rfl, trivial⟩ (Y.z (y_indexOwnI (j := 2) 43 rfl rfl rfl (fun _ => rfl) rfl Tryd.underlying107 sz3 (fun _ => by rw [hwm]; show 2 < 3; omega)) rfl) ?_
        refine Rf_ 8 68 rfl rfl rfl rfl rfl _ ⟨rfl, trivial⟩ (Y.z (y_loadO1 43 (val := (fun n : Int => Value.int .i64 n)) rfl rfl rfl rfl (fun _ => (by rw [hwm]; rfl : (whs 6 (wdS s))[2]? = some (numI z))) Tryd.underlying3 rfl) rfl) ?_
        refine Rf_ 9 69 rfl rfl rfl rfl rfl _ trivial (Y.z (y_fieldAddr rfl rfl fa60_1) rfl) ?_
        refine R_chain 10 rfl rfl ?_
        refine S_store 2 rfl rfl rfl rfl rfl rfl sz3 rfl rfl ?_
        refine R_next ⟨.inl rfl, .inl rfl, .inr ⟨rfl, trivial⟩, .inr ⟨rfl, trivial⟩, .inr ⟨rfl, trivial⟩, .inr ⟨rfl, trivial⟩, trivial⟩ ?_
        refine Rf_ 11 70 rfl rfl rfl rfl rfl _ trivial (Y.z (y_fieldAddr rfl rfl fa60_2) rfl) ?_
        refine R_chain 12 rfl rfl ?_
        refine S_store 2 rfl rfl rfl rfl rfl rfl sz3 rfl rfl ?_
        refine R_next ⟨.inl rfl, .inl rfl, .inl rfl, .inl rfl, .inr ⟨rfl, trivial⟩, .inr ⟨rfl, trivial⟩, trivial⟩ ?_
        refine Rf_ 13 71 rfl rfl rfl rfl rfl _ trivial (Y.z (y_fieldAddr rfl rfl fa60_3) rfl) ?_
        refine R_chain 14 rfl rfl ?_
        refine S_store 2 rfl rfl rfl rfl rfl rfl sz3 rfl rfl ?_
        refine R_next ⟨.inl rfl, .inl rfl, .inl rfl, .inl rfl, .inl rfl, .inl rfl, trivial⟩ ?_
        refine R_go (fun _ _ h => h) ?_
        refine T_seq ?_
        refine T_seq ?_
        refine T_region ?_
        refine S_ 72 rfl rfl rfl _ (y_move rfl rfl) ?_
        refine S_go (fun _ _ h => h) ?_
        refine T_cond rfl (fun h72 => ?_) (fun h72 => ?_)
        · skip
          have hpre : preS s = splitC 46 (cutC 45 (rsS s)).2.1 := by rw [preS, if_pos h72]
          refine T_seq ?_
          refine T_region ?_
          refine S_ 73 rfl rfl rfl _ (y_move rfl rfl) ?_
          refine S_callOwn 74 74 rfl rfl rfl rfl rfl rfl rfl cf30 (fun A c => .slice A (splitC 46 (cutC 45 (rsS s)).2.1).length c) 9 1 ((splitC 46 (cutC 45 (rsS s)).2.1).length) ((splitC 46 (cutC 45 (rsS s)).2.1).flatMap strE) (fun w hM => Split1_any (cutC 45 (rsS s)).2.1 46 (by omega) w) ?_
          intro A74 c74
          refine S_ 75 rfl rfl rfl _ (y_fieldAddr rfl rfl fa60_4) ?_
          refine S_store 2 rfl rfl rfl rfl rfl rfl sz46 rfl rfl ?_
          refine S_go (fun _ _ h => h) ?_
          refine T_seq ?_
          refine T_region ?_
          refine S_ 76 rfl rfl rfl _ (y_fieldAddr rfl rfl fa60_4) ?_
          refine S_ 77 rfl rfl rfl _ (y_load 2 rfl rfl rfl rfl Tryd.underlying46 rfl) ?_
          refine S_ 78 rfl rfl rfl _ (y_len_slice rfl rfl Tryd.underlying46) ?_
          refine S_ 79 rfl rfl rfl _ (y_bin rfl rfl rfl (fun _ => b_gtr)) ?_
          refine S_ 80 rfl rfl rfl _ (y_move rfl rfl) ?_
          refine Sg_ 81 rfl rfl rfl rfl rfl rfl _ (y_fieldAddr rfl rfl fa60_4) ?_
          refine Sg_ 82 rfl rfl rfl rfl rfl rfl _ (y_load 2 rfl rfl rfl rfl Tryd.underlying46 rfl) ?_
          refine Sg_ 83 rfl rfl rfl rfl rfl rfl _ (y_call rfl rfl rfl cf79 (fun _ w hM => ContFS_any _ _ _ (splitC 46 (cutC 45 (rsS s)).2.1) _ _ (fun p => !isPreB p) w (owned_T (enc := strE) hM rfl (i := 74) rfl) (by omega) cf80 fun x hx w1 _ => VersionOf1_any x (by have := spl_le 46 _ x hx; omega) w1)) ?_
          refine S_ 84 rfl rfl rfl _ (y_or rfl rfl rfl) ?_
          refine S_go (fun _ _ h => h) ?_
          refine T_cond rfl (fun h84 => ?_) (fun h84 => ?_)
          · skip
            have hr : refR s = (pver0, 8) := by
              have he : (fun p => !partB p) = fun p => !isPreB p := funext fun p => by rw [preB_eq]
              rw [refR, if_neg (by rw [hn]; simp), if_neg (by omega), if_neg (by rw [show (!wholesOk (wdS s) || !decide (((wdS s).length : Int) = 3) || !projOk (prS s)) = false from h58b]; exact Bool.false_ne_true), if_pos h72, hpre, he, if_pos h84]
            refine T_seq ?_
            refine T_region ?_
            refine S_ 85 rfl rfl rfl _ (y_build (zv := .agg #[.string ⟨#[]⟩, .int .i64 0, .int .i64 0, .int .i64 0, .slice none 0 0]) (pl := [(0, 1), (1, 1), (2, 1), (3, 1), (4, 1)]) (out := [.string ⟨#[]⟩, .int .i64 0, .int .i64 0, .int .i64 0, .slice none 0 0]) rfl rfl Tryd.underlying60 z60 (by kernel_rfl) rfl) ?_
            refine S_store 2 rfl rfl rfl rfl rfl rfl sz60 rfl rfl ?_
            refine S_ 3 rfl rfl rfl _ (y_assign rfl rfl) ?_
            refine S_go (fun _ _ h => h) ?_
            refine T_ret (fun a w hF hM => hRb a w (post_cell 2 rfl rfl rfl rfl Tryd.underlying60 rfl (by exact sz60) (fun w hM => ?_) a w hF hM))
            rw [hr]
            exact ⟨none, 0, rfl, World.ownsRow_nil _ _ _ _, hM.below⟩
          · skip
            have hr : refR s = (⟨prS s, numI x, numI y, numI z, splitC 46 (cutC 45 (rsS s)).2.1⟩, 0) := by
              have he : (fun p => !partB p) = fun p => !isPreB p := funext fun p => by rw [preB_eq]
              rw [refR, if_neg (by rw [hn]; simp), if_neg (by omega), if_neg (by rw [show (!wholesOk (wdS s) || !decide (((wdS s).length : Int) = 3) || !projOk (prS s)) = false from h58b]; exact Bool.false_ne_true), if_pos h72, hpre, he, if_neg (by rw [h84]; exact Bool.false_ne_true), verV, hw, hpre]; rfl
            refine T_skip_go (fun _ _ h => h) ?_
            refine T_seq ?_
            refine T_region ?_
            refine S_ 86 rfl rfl rfl _ (y_loadA 2 rfl rfl rfl Tryd.underlying60 rfl sz60) ?_
            refine S_store 2 rfl rfl rfl rfl rfl rfl sz60 rfl rfl ?_
            refine S_ 3 rfl rfl rfl _ (y_assign rfl rfl) ?_
            refine S_go (fun _ _ h => h) ?_
            refine T_ret (fun a w hF hM => hRb a w (post_cell 2 rfl rfl rfl rfl Tryd.underlying60 rfl (by exact sz60) (fun w hM => ?_) a w hF hM))
            rw [hr]
            exact ⟨A74, c74, rfl, hM.sat 74 _ rfl, hM.below⟩
        · skip
          have hpre : preS s = [] := by rw [preS, if_neg (by simp [h72])]
          refine T_skip_go (fun _ _ h => h) ?_
          refine T_seq ?_
          refine T_region ?_
          refine S_ 86 rfl rfl rfl _ (y_loadA 2 rfl rfl rfl Tryd.underlying60 rfl sz60) ?_
          refine S_store 2 rfl rfl rfl rfl rfl rfl sz60 rfl rfl ?_
          refine S_ 3 rfl rfl rfl _ (y_assign rfl rfl) ?_
          refine S_go (fun _ _ h => h) ?_
          refine T_ret (fun a w hF hM => hRb a w (post_cell 2 rfl rfl rfl rfl Tryd.underlying60 rfl (by exact sz60) (fun w hM => ?_) a w hF hM))
          have hr : refR s = (⟨prS s, numI x, numI y, numI z, []⟩, 0) := by
            rw [refR, if_neg (by rw [hn]; simp), if_neg (by omega), if_neg (by rw [show (!wholesOk (wdS s) || !decide (((wdS s).length : Int) = 3) || !projOk (prS s)) = false from h58b]; exact Bool.false_ne_true), if_neg (by rw [h72]; exact Bool.false_ne_true), verV, hw, hpre]; rfl
          rw [hr]
          exact ⟨none, 0, rfl, World.ownsRow_nil _ _ _ _, hM.below⟩
end Go.Proofs.YtkkngcdikbhkjaaDoor
end
section
namespace Go.Proofs.YtkkngcdikbhkjaaDoor
set_option linter.unusedSimpArgs false
set_option linter.unusedVariables false
set_option maxRecDepth 20000
open Go.RowKit Go.Eng
structure PSt where
  k : Int
  at_ : Int
  inn : List UInt8
  nx : Bool
  till : Int
  more : Int
  ppl : Int
  again : Int
def PSt.enc (s : PSt) : List Value := [.int .i64 s.k, .int .i64 s.at_, str s.inn, .bool s.nx, .int .i64 s.till, .int .i64 s.more, .int .i64 s.ppl, .int .i64 s.again]
abbrev PSt.val (s : PSt) : Value := .agg #[.int .i64 s.k, .int .i64 s.at_, str s.inn, .bool s.nx, .int .i64 s.till, .int .i64 s.more, .int .i64 s.ppl, .int .i64 s.again]
def stBadA (s : PSt) : Bool := outB s.at_ 0 3155759999 || outB s.till (-1) 3155759999 || outB s.more (-1) 1000000 || outB s.ppl (-1) 1000000 || outB s.again 0 1000000
def stBadB (s : PSt) : Bool := (!decide (s.inn = []) || s.nx) && !decide (s.k = 2) || s.nx && decide (s.inn = []) || (!decide (s.till = -1) || !decide (s.more = -1) || !decide (s.ppl = -1)) && !decide (s.k = 3)
def stNo (s : PSt) : Int := if outB s.k 1 3 = true then 10 else if stBadA s = true then 2 else if (!decide (s.inn = []) && !relOk s.inn) = true then 8 else if stBadB s = true then 1 else 0
theorem rout_any (n lo hi : Int) (w : World) : Calls Tryd.prog 23 #[.int .i64 n, .int .i64 lo, .int .i64 hi] w fun e w' => e = .returned (.bool (outB n lo hi)) ∧ Below w.heap.size w w' := out_any n lo hi w
theorem CheckState_any (s : PSt) (w : World) : Calls Tryd.prog 12 #[s.val] w fun e w' => e = .returned (.int .i64 (stNo s)) ∧ Below w.heap.size w w' := by
  refine enter_args (args := [.agg #[.int .i64 s.k, .int .i64 s.at_, str s.inn, .bool s.nx, .int .i64 s.till, .int .i64 s.more, .int .i64 s.ppl, .int .i64 s.again]]) (F := _) Tryd.func12 rfl Tryd.ntmps12 rfl rfl ?_
  intro Rb hRb hRn
  refine T_seq ?_
  refine T_region ?_
  refine S_box 1 1 rfl rfl rfl rfl rfl ?_
  intro b1
  refine S_ 2 rfl rfl rfl _ (y_assign rfl rfl) ?_
  refine S_go (fun _ _ h => h) ?_
  refine T_seq ?_
  refine T_seq ?_
  refine T_region ?_
  refine S_ 5 rfl rfl rfl _ (y_fieldAddr rfl rfl fa40_0) ?_
  refine S_ 6 rfl rfl rfl _ (y_load 1 rfl rfl rfl rfl Tryd.underlying3 rfl) ?_
  refine S_ 7 rfl rfl rfl _ (y_call rfl rfl rfl cf27 (fun _ w _ => routside_any _ _ _ w)) ?_
  refine S_go (fun _ _ h => h) ?_
  refine T_cond rfl (fun h7 => ?_) (fun h7 => ?_)
  · skip
    refine T_seq ?_
    refine T_region ?_
    refine S_ 2 rfl rfl rfl _ (y_assign rfl rfl) ?_
    refine S_go (fun _ _ h => h) ?_
    refine T_ret (fun a w hF hM => hRb a w (post1 rfl rfl (fun w hM => ?_) a w hF hM))
    exact ⟨by rw [stNo, if_pos h7], hM.below⟩
  · skip
    refine T_skip_go (fun _ _ h => h) ?_
    refine T_seq ?_
    refine T_seq ?_
    refine T_region ?_
    refine S_ 8 rfl rfl rfl _ (y_fieldAddr rfl rfl fa40_1) ?_
    refine S_ 9 rfl rfl rfl _ (y_load 1 rfl rfl rfl rfl Tryd.underlying3 rfl) ?_
    refine S_ 10 rfl rfl rfl _ (y_call rfl rfl rfl cf27 (fun _ w _ => routside_any _ _ _ w)) ?_
    refine S_ 11 rfl rfl rfl _ (y_move rfl rfl) ?_
    refine Sg_ 12 rfl rfl rfl rfl rfl rfl _ (y_fieldAddr rfl rfl fa40_4) ?_
    refine Sg_ 13 rfl rfl rfl rfl rfl rfl _ (y_load 1 rfl rfl rfl rfl Tryd.underlying3 rfl) ?_
    refine Sg_ 14 rfl rfl rfl rfl rfl rfl _ (y_call rfl rfl rfl cf27 (fun _ w _ => routside_any _ _ _ w)) ?_
    refine S_ 15 rfl rfl rfl _ (y_or rfl rfl rfl) ?_
    refine S_ 16 rfl rfl rfl _ (y_move rfl rfl) ?_
    refine Sg_ 17 rfl rfl rfl rfl rfl rfl _ (y_fieldAddr rfl rfl fa40_5) ?_
    refine Sg_ 18 rfl rfl rfl rfl rfl rfl _ (y_load 1 rfl rfl rfl rfl Tryd.underlying3 rfl) ?_
    refine Sg_ 19 rfl rfl rfl rfl rfl rfl _ (y_call rfl rfl rfl cf27 (fun _ w _ => routside_any _ _ _ w)) ?_
    refine S_ 20 rfl rfl rfl _ (y_or rfl rfl rfl) ?_
    refine S_ 21 rfl rfl rfl _ (y_move rfl rfl) ?_
    refine Sg_ 22 rfl rfl rfl rfl rfl rfl _ (y_fieldAddr rfl rfl fa40_6) ?_
    refine Sg_ 23 rfl rfl rfl rfl rfl rfl _ (y_load 1 rfl rfl rfl rfl Tryd.underlying3 rfl) ?_
    refine Sg_ 24 rfl rfl rfl rfl rfl rfl _ (y_call rfl rfl rfl cf27 (fun _ w _ => routside_any _ _ _ w)) ?_
    refine S_ 25 rfl rfl rfl _ (y_or rfl rfl rfl) ?_
    refine S_ 26 rfl rfl rfl _ (y_move rfl rfl) ?_
    refine Sg_ 27 rfl rfl rfl rfl rfl rfl _ (y_fieldAddr rfl rfl fa40_7) ?_
    refine Sg_ 28 rfl rfl rfl rfl rfl rfl _ (y_load 1 rfl rfl rfl rfl Tryd.underlying3 rfl) ?_
    refine Sg_ 29 rfl rfl rfl rfl rfl rfl _ (y_call rfl rfl rfl cf27 (fun _ w _ => routside_any _ _ _ w)) ?_
    refine S_ 30 rfl rfl rfl _ (y_as (v' := .bool (stBadA s)) (by exact rfl) (y_or rfl rfl rfl)) ?_
    refine S_go (fun _ _ h => h) ?_
    refine T_cond rfl (fun h30 => ?_) (fun h30 => ?_)
    · skip
      refine T_seq ?_
      refine T_region ?_
      refine S_ 2 rfl rfl rfl _ (y_assign rfl rfl) ?_
      refine S_go (fun _ _ h => h) ?_
      refine T_ret (fun a w hF hM => hRb a w (post1 rfl rfl (fun w hM => ?_) a w hF hM))
      exact ⟨by rw [stNo, if_neg (by rw [h7]; simp), if_pos h30], hM.below⟩
    · skip
      refine T_skip_go (fun _ _ h => h) ?_
      refine T_seq ?_
      refine T_seq ?_
      refine T_region ?_
      refine S_ 31 rfl rfl rfl _ (y_fieldAddr rfl rfl fa40_2) ?_
      refine S_ 32 rfl rfl rfl _ (y_load 1 rfl rfl rfl rfl Tryd.underlying9 rfl) ?_
      refine S_ 33 rfl rfl rfl _ (y_bin rfl rfl rfl (fun _ => b_neqs)) ?_
      refine S_go (fun _ _ h => h) ?_
      refine T_cond rfl (fun h33 => ?_) (fun h33 => ?_)
      · skip
        have hin : ¬ s.inn = [] := by simpa using h33
        refine T_seq ?_
        refine T_region ?_
        refine S_ 35 rfl rfl rfl _ (y_fieldAddr rfl rfl fa40_2) ?_
        refine S_ 36 rfl rfl rfl _ (y_load 1 rfl rfl rfl rfl Tryd.underlying9 rfl) ?_
        refine S_callOwn 37 37 rfl rfl rfl rfl rfl rfl rfl cf28 (fun A c => .tuple #[pvV (parseR s.inn).1 A c, .bool (parseR s.inn).2]) 9 1 ((parseR s.inn).1.pre.length) ((parseR s.inn).1.pre.flatMap strE) (fun w hM => parse_any s.inn w) ?_
        intro A37 c37
        refine S_ 34 rfl rfl rfl _ (y_move rfl rfl) ?_
        refine S_ 38 rfl rfl rfl _ (y_extract rfl rfl rfl) ?_
        refine S_ 39 rfl rfl rfl _ (y_extract rfl rfl rfl) ?_
        refine S_alloc 3 3 rfl rfl rfl rfl z60 ?_
        intro b3
        refine S_store 3 rfl rfl rfl rfl rfl rfl sz60 rfl rfl ?_
        refine S_ 4 rfl rfl rfl _ (y_assign rfl rfl) ?_
        refine S_go (fun _ _ h => h) ?_
        refine T_seq ?_
        refine T_region ?_
        refine S_ 40 rfl rfl rfl _ (y_move rfl rfl) ?_
        refine S_ 41 rfl rfl rfl _ (y_not rfl rfl) ?_
        refine S_go (fun _ _ h => h) ?_
        refine T_cond rfl (fun h41 => ?_) (fun h41 => ?_)
        · skip
          have hr : relOk s.inn = false := by simpa using h41
          refine T_seq ?_
          refine T_region ?_
          refine S_ 2 rfl rfl rfl _ (y_assign rfl rfl) ?_
          refine S_go (fun _ _ h => h) ?_
          refine T_ret (fun a w hF hM => hRb a w (post1 rfl rfl (fun w hM => ?_) a w hF hM))
          exact ⟨by rw [stNo, if_neg (by rw [h7]; simp), if_neg (by rw [h30]; simp), if_pos (by simp [hin, hr])], hM.below⟩
        · skip
          have hr : relOk s.inn = true := by simpa using h41
          refine T_skip_go (fun _ _ h => h) ?_
          refine T_seq ?_
          refine T_seq ?_
          refine T_region ?_
          refine S_ 42 rfl rfl rfl _ (y_fieldAddr rfl rfl fa40_2) ?_
          refine S_ 43 rfl rfl rfl _ (y_load 1 rfl rfl rfl rfl Tryd.underlying9 rfl) ?_
          refine S_ 44 rfl rfl rfl _ (y_bin rfl rfl rfl (fun _ => b_neqs)) ?_
          refine S_ 45 rfl rfl rfl _ (y_move rfl rfl) ?_
          refine Sg_ 46 rfl rfl rfl rfl rfl rfl _ (y_fieldAddr rfl rfl fa40_3) ?_
          refine Sg_ 47 rfl rfl rfl rfl rfl rfl _ (y_load 1 rfl rfl rfl rfl Tryd.underlying4 rfl) ?_
          refine S_ 48 rfl rfl rfl _ (y_or rfl rfl rfl) ?_
          refine S_ 49 rfl rfl rfl _ (y_move rfl rfl) ?_
          refine Sg_ 50 rfl rfl rfl rfl rfl rfl _ (y_fieldAddr rfl rfl fa40_0) ?_
          refine Sg_ 51 rfl rfl rfl rfl rfl rfl _ (y_load 1 rfl rfl rfl rfl Tryd.underlying3 rfl) ?_
          refine Sg_ 52 rfl rfl rfl rfl rfl rfl _ (y_bin rfl rfl rfl (fun _ => b_neq)) ?_
          refine S_ 53 rfl rfl rfl _ (y_and rfl rfl rfl) ?_
          refine S_ 54 rfl rfl rfl _ (y_move rfl rfl) ?_
          refine Sg_ 55 rfl rfl rfl rfl rfl rfl _ (y_fieldAddr rfl rfl fa40_3) ?_
          refine Sg_ 56 rfl rfl rfl rfl rfl rfl _ (y_load 1 rfl rfl rfl rfl Tryd.underlying4 rfl) ?_
          refine Sg_ 57 rfl rfl rfl rfl rfl rfl _ (y_move rfl rfl) ?_
          refine Sg_ 58 rfl rfl rfl rfl rfl rfl _ (y_fieldAddr rfl rfl fa40_2) ?_
          refine Sg_ 59 rfl rfl rfl rfl rfl rfl _ (y_load 1 rfl rfl rfl rfl Tryd.underlying9 rfl) ?_
          refine Sg_ 60 rfl rfl rfl rfl rfl rfl _ (y_bin rfl rfl rfl (fun _ => b_eqls)) ?_
          refine Sg_ 61 rfl rfl rfl rfl rfl rfl _ (y_and rfl rfl rfl) ?_
          refine S_ 62 rfl rfl rfl _ (y_or rfl rfl rfl) ?_
          refine S_ 63 rfl rfl rfl _ (y_move rfl rfl) ?_
          refine Sg_ 64 rfl rfl rfl rfl rfl rfl _ (y_fieldAddr rfl rfl fa40_4) ?_
          refine Sg_ 65 rfl rfl rfl rfl rfl rfl _ (y_load 1 rfl rfl rfl rfl Tryd.underlying3 rfl) ?_
          refine Sg_ 66 rfl rfl rfl rfl rfl rfl _ (y_bin rfl rfl rfl (fun _ => b_neq)) ?_
          refine Sg_ 67 rfl rfl rfl rfl rfl rfl _ (y_move rfl rfl) ?_
          refine Sg_ 68 rfl rfl rfl rfl rfl rfl _ (y_fieldAddr rfl rfl fa40_5) ?_
          refine Sg_ 69 rfl rfl rfl rfl rfl rfl _ (y_load 1 rfl rfl rfl rfl Tryd.underlying3 rfl) ?_
          refine Sg_ 70 rfl rfl rfl rfl rfl rfl _ (y_bin rfl rfl rfl (fun _ => b_neq)) ?_
          refine Sg_ 71 rfl rfl rfl rfl rfl rfl _ (y_or rfl rfl rfl) ?_
          refine Sg_ 72 rfl rfl rfl rfl rfl rfl _ (y_move rfl rfl) ?_
          refine Sg_ 73 rfl rfl rfl rfl rfl rfl _ (y_fieldAddr rfl rfl fa40_6) ?_
          refine Sg_ 74 rfl rfl rfl rfl rfl rfl _ (y_load 1 rfl rfl rfl rfl Tryd.underlying3 rfl) ?_
          refine Sg_ 75 rfl rfl rfl rfl rfl rfl _ (y_bin rfl rfl rfl (fun _ => b_neq)) ?_
          refine Sg_ 76 rfl rfl rfl rfl rfl rfl _ (y_or rfl rfl rfl) ?_
          refine Sg_ 77 rfl rfl rfl rfl rfl rfl _ (y_move rfl rfl) ?_
          refine Sg_ 78 rfl rfl rfl rfl rfl rfl _ (y_fieldAddr rfl rfl fa40_0) ?_
          refine Sg_ 79 rfl rfl rfl rfl rfl rfl _ (y_load 1 rfl rfl rfl rfl Tryd.underlying3 rfl) ?_
          refine Sg_ 80 rfl rfl rfl rfl rfl rfl _ (y_bin rfl rfl rfl (fun _ => b_neq)) ?_
          refine Sg_ 81 rfl rfl rfl rfl rfl rfl _ (y_and rfl rfl rfl) ?_
          refine S_ 82 rfl rfl rfl _ (y_as (v' := .bool (stBadB s)) (by exact rfl) (y_or rfl rfl rfl)) ?_
          refine S_go (fun _ _ h => h) ?_
          refine T_cond rfl (fun h82 => ?_) (fun h82 => ?_)
          · skip
            refine T_seq ?_
            refine T_region ?_
            refine S_ 2 rfl rfl rfl _ (y_assign rfl rfl) ?_
            refine S_go (fun _ _ h => h) ?_
            refine T_ret (fun a w hF hM => hRb a w (post1 rfl rfl (fun w hM => ?_) a w hF hM))
            exact ⟨by rw [stNo, if_neg (by rw [h7]; simp), if_neg (by rw [h30]; simp), if_neg (by simp [hr]), if_pos h82], hM.below⟩
          · skip
            refine T_skip_go (fun _ _ h => h) ?_
            refine T_seq ?_
            refine T_region ?_
            refine S_ 2 rfl rfl rfl _ (y_assign rfl rfl) ?_
            refine S_go (fun _ _ h => h) ?_
            refine T_ret (fun a w hF hM => hRb a w (post1 rfl rfl (fun w hM => ?_) a w hF hM))
            exact ⟨by rw [stNo, if_neg (by rw [h7]; simp), if_neg (by rw [h30]; simp), if_neg (by simp [hr]), if_neg (by rw [h82]; simp)], hM.below⟩
      · skip
        have hin : s.inn = [] := by simpa using h33
        refine T_skip_go (fun _ _ h => h) ?_
        refine T_seq ?_
        refine T_seq ?_
        refine T_region ?_
        refine S_ 42 rfl rfl rfl _ (y_fieldAddr rfl rfl fa40_2) ?_
        refine S_ 43 rfl rfl rfl _ (y_load 1 rfl rfl rfl rfl Tryd.underlying9 rfl) ?_
        refine S_ 44 rfl rfl rfl _ (y_bin rfl rfl rfl (fun _ => b_neqs)) ?_
        refine S_ 45 rfl rfl rfl _ (y_move rfl rfl) ?_
        refine Sg_ 46 rfl rfl rfl rfl rfl rfl _ (y_fieldAddr rfl rfl fa40_3) ?_
        refine Sg_ 47 rfl rfl rfl rfl rfl rfl _ (y_load 1 rfl rfl rfl rfl Tryd.underlying4 rfl) ?_
        refine S_ 48 rfl rfl rfl _ (y_or rfl rfl rfl) ?_
        refine S_ 49 rfl rfl rfl _ (y_move rfl rfl) ?_
        refine Sg_ 50 rfl rfl rfl rfl rfl rfl _ (y_fieldAddr rfl rfl fa40_0) ?_
        refine Sg_ 51 rfl rfl rfl rfl rfl rfl _ (y_load 1 rfl rfl rfl rfl Tryd.underlying3 rfl) ?_
        refine Sg_ 52 rfl rfl rfl rfl rfl rfl _ (y_bin rfl rfl rfl (fun _ => b_neq)) ?_
        refine S_ 53 rfl rfl rfl _ (y_and rfl rfl rfl) ?_
        refine S_ 54 rfl rfl rfl _ (y_move rfl rfl) ?_
        refine Sg_ 55 rfl rfl rfl rfl rfl rfl _ (y_fieldAddr rfl rfl fa40_3) ?_
        refine Sg_ 56 rfl rfl rfl rfl rfl rfl _ (y_load 1 rfl rfl rfl rfl Tryd.underlying4 rfl) ?_
        refine Sg_ 57 rfl rfl rfl rfl rfl rfl _ (y_move rfl rfl) ?_
        refine Sg_ 58 rfl rfl rfl rfl rfl rfl _ (y_fieldAddr rfl rfl fa40_2) ?_
        refine Sg_ 59 rfl rfl rfl rfl rfl rfl _ (y_load 1 rfl rfl rfl rfl Tryd.underlying9 rfl) ?_
        refine Sg_ 60 rfl rfl rfl rfl rfl rfl _ (y_bin rfl rfl rfl (fun _ => b_eqls)) ?_
        refine Sg_ 61 rfl rfl rfl rfl rfl rfl _ (y_and rfl rfl rfl) ?_
        refine S_ 62 rfl rfl rfl _ (y_or rfl rfl rfl) ?_
        refine S_ 63 rfl rfl rfl _ (y_move rfl rfl) ?_
        refine Sg_ 64 rfl rfl rfl rfl rfl rfl _ (y_fieldAddr rfl rfl fa40_4) ?_
        refine Sg_ 65 rfl rfl rfl rfl rfl rfl _ (y_load 1 rfl rfl rfl rfl Tryd.underlying3 rfl) ?_
        refine Sg_ 66 rfl rfl rfl rfl rfl rfl _ (y_bin rfl rfl rfl (fun _ => b_neq)) ?_
        refine Sg_ 67 rfl rfl rfl rfl rfl rfl _ (y_move rfl rfl) ?_
        refine Sg_ 68 rfl rfl rfl rfl rfl rfl _ (y_fieldAddr rfl rfl fa40_5) ?_
        refine Sg_ 69 rfl rfl rfl rfl rfl rfl _ (y_load 1 rfl rfl rfl rfl Tryd.underlying3 rfl) ?_
        refine Sg_ 70 rfl rfl rfl rfl rfl rfl _ (y_bin rfl rfl rfl (fun _ => b_neq)) ?_
        refine Sg_ 71 rfl rfl rfl rfl rfl rfl _ (y_or rfl rfl rfl) ?_
        refine Sg_ 72 rfl rfl rfl rfl rfl rfl _ (y_move rfl rfl) ?_
        refine Sg_ 73 rfl rfl rfl rfl rfl rfl _ (y_fieldAddr rfl rfl fa40_6) ?_
        refine Sg_ 74 rfl rfl rfl rfl rfl rfl _ (y_load 1 rfl rfl rfl rfl Tryd.underlying3 rfl) ?_
        refine Sg_ 75 rfl rfl rfl rfl rfl rfl _ (y_bin rfl rfl rfl (fun _ => b_neq)) ?_
        refine Sg_ 76 rfl rfl rfl rfl rfl rfl _ (y_or rfl rfl rfl) ?_
        refine Sg_ 77 rfl rfl rfl rfl rfl rfl _ (y_move rfl rfl) ?_
        refine Sg_ 78 rfl rfl rfl rfl rfl rfl _ (y_fieldAddr rfl rfl fa40_0) ?_
        refine Sg_ 79 rfl rfl rfl rfl rfl rfl _ (y_load 1 rfl rfl rfl rfl Tryd.underlying3 rfl) ?_
        refine Sg_ 80 rfl rfl rfl rfl rfl rfl _ (y_bin rfl rfl rfl (fun _ => b_neq)) ?_
        refine Sg_ 81 rfl rfl rfl rfl rfl rfl _ (y_and rfl rfl rfl) ?_
        refine S_ 82 rfl rfl rfl _ (y_as (v' := .bool (stBadB s)) (by exact rfl) (y_or rfl rfl rfl)) ?_
        refine S_go (fun _ _ h => h) ?_
        refine T_cond rfl (fun h82 => ?_) (fun h82 => ?_)
        · skip
          refine T_seq ?_
          refine T_region ?_
          refine S_ 2 rfl rfl rfl _ (y_assign rfl rfl) ?_
          refine S_go (fun _ _ h => h) ?_
          refine T_ret (fun a w hF hM => hRb a w (post1 rfl rfl (fun w hM => ?_) a w hF hM))
          exact ⟨by rw [stNo, if_neg (by rw [h7]; simp), if_neg (by rw [h30]; simp), if_neg (by simp [hin]), if_pos h82], hM.below⟩
        · skip
          refine T_skip_go (fun _ _ h => h) ?_
          refine T_seq ?_
          refine T_region ?_
          refine S_ 2 rfl rfl rfl _ (y_assign rfl rfl) ?_
          refine S_go (fun _ _ h => h) ?_
          refine T_ret (fun a w hF hM => hRb a w (post1 rfl rfl (fun w hM => ?_) a w hF hM))
          exact ⟨by rw [stNo, if_neg (by rw [h7]; simp), if_neg (by rw [h30]; simp), if_neg (by simp [hin]), if_neg (by rw [h82]; simp)], hM.below⟩
theorem StateFault_any (s : PSt) (w : World) : Calls Tryd.prog 9 #[s.val] w fun e w' => e = .returned (.int .i64 (stNo s)) ∧ Below w.heap.size w w' := by
  refine enter_args (args := [.agg #[.int .i64 s.k, .int .i64 s.at_, str s.inn, .bool s.nx, .int .i64 s.till, .int .i64 s.more, .int .i64 s.ppl, .int .i64 s.again]]) (F := _) Tryd.func9 rfl Tryd.ntmps9 rfl rfl ?_
  intro Rb hRb hRn
  refine T_seq ?_
  refine T_region ?_
  refine S_box 1 1 rfl rfl rfl rfl rfl ?_
  intro b1
  refine S_ 2 rfl rfl rfl _ (y_assign rfl rfl) ?_
  refine S_go (fun _ _ h => h) ?_
  refine T_seq ?_
  refine T_seq ?_
  refine T_region ?_
  refine S_ 5 rfl rfl rfl _ (y_fieldAddr rfl rfl fa40_0) ?_
  refine S_ 6 rfl rfl rfl _ (y_load 1 rfl rfl rfl rfl Tryd.underlying3 rfl) ?_
  refine S_ 7 rfl rfl rfl _ (y_call rfl rfl rfl cf23 (fun _ w _ => rout_any _ _ _ w)) ?_
  refine S_go (fun _ _ h => h) ?_
  refine T_cond rfl (fun h7 => ?_) (fun h7 => ?_)
  · skip
    refine T_seq ?_
    refine T_region ?_
    refine S_ 2 rfl rfl rfl _ (y_assign rfl rfl) ?_
    refine S_go (fun _ _ h => h) ?_
    refine T_ret (fun a w hF hM => hRb a w (post1 rfl rfl (fun w hM => ?_) a w hF hM))
    exact ⟨by rw [stNo, if_pos h7], hM.below⟩
  · skip
    refine T_skip_go (fun _ _ h => h) ?_
    refine T_seq ?_
    refine T_seq ?_
    refine T_region ?_
    refine S_ 8 rfl rfl rfl _ (y_fieldAddr rfl rfl fa40_1) ?_
    refine S_ 9 rfl rfl rfl _ (y_load 1 rfl rfl rfl rfl Tryd.underlying3 rfl) ?_
    refine S_ 10 rfl rfl rfl _ (y_call rfl rfl rfl cf23 (fun _ w _ => rout_any _ _ _ w)) ?_
    refine S_ 11 rfl rfl rfl _ (y_move rfl rfl) ?_
    refine Sg_ 12 rfl rfl rfl rfl rfl rfl _ (y_fieldAddr rfl rfl fa40_4) ?_
    refine Sg_ 13 rfl rfl rfl rfl rfl rfl _ (y_load 1 rfl rfl rfl rfl Tryd.underlying3 rfl) ?_
    refine Sg_ 14 rfl rfl rfl rfl rfl rfl _ (y_call rfl rfl rfl cf23 (fun _ w _ => rout_any _ _ _ w)) ?_
    refine S_ 15 rfl rfl rfl _ (y_or rfl rfl rfl) ?_
    refine S_ 16 rfl rfl rfl _ (y_move rfl rfl) ?_
    refine Sg_ 17 rfl rfl rfl rfl rfl rfl _ (y_fieldAddr rfl rfl fa40_5) ?_
    refine Sg_ 18 rfl rfl rfl rfl rfl rfl _ (y_load 1 rfl rfl rfl rfl Tryd.underlying3 rfl) ?_
    refine Sg_ 19 rfl rfl rfl rfl rfl rfl _ (y_call rfl rfl rfl cf23 (fun _ w _ => rout_any _ _ _ w)) ?_
    refine S_ 20 rfl rfl rfl _ (y_or rfl rfl rfl) ?_
    refine S_ 21 rfl rfl rfl _ (y_move rfl rfl) ?_
    refine Sg_ 22 rfl rfl rfl rfl rfl rfl _ (y_fieldAddr rfl rfl fa40_6) ?_
    refine Sg_ 23 rfl rfl rfl rfl rfl rfl _ (y_load 1 rfl rfl rfl rfl Tryd.underlying3 rfl) ?_
    refine Sg_ 24 rfl rfl rfl rfl rfl rfl _ (y_call rfl rfl rfl cf23 (fun _ w _ => rout_any _ _ _ w)) ?_
    refine S_ 25 rfl rfl rfl _ (y_or rfl rfl rfl) ?_
    refine S_ 26 rfl rfl rfl _ (y_move rfl rfl) ?_
    refine Sg_ 27 rfl rfl rfl rfl rfl rfl _ (y_fieldAddr rfl rfl fa40_7) ?_
    refine Sg_ 28 rfl rfl rfl rfl rfl rfl _ (y_load 1 rfl rfl rfl rfl Tryd.underlying3 rfl) ?_
    refine Sg_ 29 rfl rfl rfl rfl rfl rfl _ (y_call rfl rfl rfl cf23 (fun _ w _ => rout_any _ _ _ w)) ?_
    refine S_ 30 rfl rfl rfl _ (y_as (v' := .bool (stBadA s)) (by exact rfl) (y_or rfl rfl rfl)) ?_
    refine S_go (fun _ _ h => h) ?_
    refine T_cond rfl (fun h30 => ?_) (fun h30 => ?_)
    · skip
      refine T_seq ?_
      refine T_region ?_
      refine S_ 2 rfl rfl rfl _ (y_assign rfl rfl) ?_
      refine S_go (fun _ _ h => h) ?_
      refine T_ret (fun a w hF hM => hRb a w (post1 rfl rfl (fun w hM => ?_) a w hF hM))
      exact ⟨by rw [stNo, if_neg (by rw [h7]; simp), if_pos h30], hM.below⟩
    · skip
      refine T_skip_go (fun _ _ h => h) ?_
      refine T_seq ?_
      refine T_seq ?_
      refine T_region ?_
      refine S_ 31 rfl rfl rfl _ (y_fieldAddr rfl rfl fa40_2) ?_
      refine S_ 32 rfl rfl rfl _ (y_load 1 rfl rfl rfl rfl Tryd.underlying9 rfl) ?_
      refine S_ 33 rfl rfl rfl _ (y_bin rfl rfl rfl (fun _ => b_neqs)) ?_
      refine S_go (fun _ _ h => h) ?_
      refine T_cond rfl (fun h33 => ?_) (fun h33 => ?_)
      · skip
        have hin : ¬ s.inn = [] := by simpa using h33
        refine T_seq ?_
        refine T_region ?_
        refine S_ 35 rfl rfl rfl _ (y_fieldAddr rfl rfl fa40_2) ?_
        refine S_ 36 rfl rfl rfl _ (y_load 1 rfl rfl rfl rfl Tryd.underlying9 rfl) ?_
        refine S_callOwn 37 37 rfl rfl rfl rfl rfl rfl rfl cf24 (fun A c => .tuple #[pvV (parE s.inn).1 A c, .int .i64 (parE s.inn).2]) 9 1 ((parE s.inn).1.pre.length) ((parE s.inn).1.pre.flatMap strE) (fun w hM => VersionOf_any s.inn w) ?_
        intro A37 c37
        refine S_ 34 rfl rfl rfl _ (y_move rfl rfl) ?_
        refine S_ 38 rfl rfl rfl _ (y_extract rfl rfl rfl) ?_
        refine S_ 39 rfl rfl rfl _ (y_extract rfl rfl rfl) ?_
        refine S_alloc 3 3 rfl rfl rfl rfl z60 ?_
        intro b3
        refine S_store 3 rfl rfl rfl rfl rfl rfl sz60 rfl rfl ?_
        refine S_ 4 rfl rfl rfl _ (y_assign rfl rfl) ?_
        refine S_go (fun _ _ h => h) ?_
        refine T_seq ?_
        refine T_region ?_
        refine S_ 40 rfl rfl rfl _ (y_move rfl rfl) ?_
        refine S_ 41 rfl rfl rfl _ (y_bin rfl rfl rfl (fun _ => b_neq)) ?_
        refine S_go (fun _ _ h => h) ?_
        refine T_cond rfl (fun h41 => ?_) (fun h41 => ?_)
        · skip
          have hr : relOk s.inn = false := by
            cases hq : relOk s.inn with
            | false => rfl
            | true => rw [parE, if_pos hq] at h41; simp at h41
          refine T_seq ?_
          refine T_region ?_
          refine S_ 2 rfl rfl rfl _ (y_assign rfl rfl) ?_
          refine S_go (fun _ _ h => h) ?_
          refine T_ret (fun a w hF hM => hRb a w (post1 rfl rfl (fun w hM => ?_) a w hF hM))
          exact ⟨by rw [stNo, if_neg (by rw [h7]; simp), if_neg (by rw [h30]; simp), if_pos (by simp [hin, hr])], hM.below⟩
        · skip
          have hr : relOk s.inn = true := by
            cases hq : relOk s.inn with
            | true => rfl
            | false => rw [parE, if_neg (by rw [hq]; simp)] at h41; simp at h41
          refine T_skip_go (fun _ _ h => h) ?_
          refine T_seq ?_
          refine T_seq ?_
          refine T_region ?_
          refine S_ 42 rfl rfl rfl _ (y_fieldAddr rfl rfl fa40_2) ?_
          refine S_ 43 rfl rfl rfl _ (y_load 1 rfl rfl rfl rfl Tryd.underlying9 rfl) ?_
          refine S_ 44 rfl rfl rfl _ (y_bin rfl rfl rfl (fun _ => b_neqs)) ?_
          refine S_ 45 rfl rfl rfl _ (y_move rfl rfl) ?_
          refine Sg_ 46 rfl rfl rfl rfl rfl rfl _ (y_fieldAddr rfl rfl fa40_3) ?_
          refine Sg_ 47 rfl rfl rfl rfl rfl rfl _ (y_load 1 rfl rfl rfl rfl Tryd.underlying4 rfl) ?_
          refine S_ 48 rfl rfl rfl _ (y_or rfl rfl rfl) ?_
          refine S_ 49 rfl rfl rfl _ (y_move rfl rfl) ?_
          refine Sg_ 50 rfl rfl rfl rfl rfl rfl _ (y_fieldAddr rfl rfl fa40_0) ?_
          refine Sg_ 51 rfl rfl rfl rfl rfl rfl _ (y_load 1 rfl rfl rfl rfl Tryd.underlying3 rfl) ?_
          refine Sg_ 52 rfl rfl rfl rfl rfl rfl _ (y_bin rfl rfl rfl (fun _ => b_neq)) ?_
          refine S_ 53 rfl rfl rfl _ (y_and rfl rfl rfl) ?_
          refine S_ 54 rfl rfl rfl _ (y_move rfl rfl) ?_
          refine Sg_ 55 rfl rfl rfl rfl rfl rfl _ (y_fieldAddr rfl rfl fa40_3) ?_
          refine Sg_ 56 rfl rfl rfl rfl rfl rfl _ (y_load 1 rfl rfl rfl rfl Tryd.underlying4 rfl) ?_
          refine Sg_ 57 rfl rfl rfl rfl rfl rfl _ (y_move rfl rfl) ?_
          refine Sg_ 58 rfl rfl rfl rfl rfl rfl _ (y_fieldAddr rfl rfl fa40_2) ?_
          refine Sg_ 59 rfl rfl rfl rfl rfl rfl _ (y_load 1 rfl rfl rfl rfl Tryd.underlying9 rfl) ?_
          refine Sg_ 60 rfl rfl rfl rfl rfl rfl _ (y_bin rfl rfl rfl (fun _ => b_eqls)) ?_
          refine Sg_ 61 rfl rfl rfl rfl rfl rfl _ (y_and rfl rfl rfl) ?_
          refine S_ 62 rfl rfl rfl _ (y_or rfl rfl rfl) ?_
          refine S_ 63 rfl rfl rfl _ (y_move rfl rfl) ?_
          refine Sg_ 64 rfl rfl rfl rfl rfl rfl _ (y_fieldAddr rfl rfl fa40_4) ?_
          refine Sg_ 65 rfl rfl rfl rfl rfl rfl _ (y_load 1 rfl rfl rfl rfl Tryd.underlying3 rfl) ?_
          refine Sg_ 66 rfl rfl rfl rfl rfl rfl _ (y_bin rfl rfl rfl (fun _ => b_neq)) ?_
          refine Sg_ 67 rfl rfl rfl rfl rfl rfl _ (y_move rfl rfl) ?_
          refine Sg_ 68 rfl rfl rfl rfl rfl rfl _ (y_fieldAddr rfl rfl fa40_5) ?_
          refine Sg_ 69 rfl rfl rfl rfl rfl rfl _ (y_load 1 rfl rfl rfl rfl Tryd.underlying3 rfl) ?_
          refine Sg_ 70 rfl rfl rfl rfl rfl rfl _ (y_bin rfl rfl rfl (fun _ => b_neq)) ?_
          refine Sg_ 71 rfl rfl rfl rfl rfl rfl _ (y_or rfl rfl rfl) ?_
          refine Sg_ 72 rfl rfl rfl rfl rfl rfl _ (y_move rfl rfl) ?_
          refine Sg_ 73 rfl rfl rfl rfl rfl rfl _ (y_fieldAddr rfl rfl fa40_6) ?_
          refine Sg_ 74 rfl rfl rfl rfl rfl rfl _ (y_load 1 rfl rfl rfl rfl Tryd.underlying3 rfl) ?_
          refine Sg_ 75 rfl rfl rfl rfl rfl rfl _ (y_bin rfl rfl rfl (fun _ => b_neq)) ?_
          refine Sg_ 76 rfl rfl rfl rfl rfl rfl _ (y_or rfl rfl rfl) ?_
          refine Sg_ 77 rfl rfl rfl rfl rfl rfl _ (y_move rfl rfl) ?_
          refine Sg_ 78 rfl rfl rfl rfl rfl rfl _ (y_fieldAddr rfl rfl fa40_0) ?_
          refine Sg_ 79 rfl rfl rfl rfl rfl rfl _ (y_load 1 rfl rfl rfl rfl Tryd.underlying3 rfl) ?_
          refine Sg_ 80 rfl rfl rfl rfl rfl rfl _ (y_bin rfl rfl rfl (fun _ => b_neq)) ?_
          refine Sg_ 81 rfl rfl rfl rfl rfl rfl _ (y_and rfl rfl rfl) ?_
          refine S_ 82 rfl rfl rfl _ (y_as (v' := .bool (stBadB s)) (by exact rfl) (y_or rfl rfl rfl)) ?_
          refine S_go (fun _ _ h => h) ?_
          refine T_cond rfl (fun h82 => ?_) (fun h82 => ?_)
          · skip
            refine T_seq ?_
            refine T_region ?_
            refine S_ 2 rfl rfl rfl _ (y_assign rfl rfl) ?_
            refine S_go (fun _ _ h => h) ?_
            refine T_ret (fun a w hF hM => hRb a w (post1 rfl rfl (fun w hM => ?_) a w hF hM))
            exact ⟨by rw [stNo, if_neg (by rw [h7]; simp), if_neg (by rw [h30]; simp), if_neg (by simp [hr]), if_pos h82], hM.below⟩
          · skip
            refine T_skip_go (fun _ _ h => h) ?_
            refine T_seq ?_
            refine T_region ?_
            refine S_ 2 rfl rfl rfl _ (y_assign rfl rfl) ?_
            refine S_go (fun _ _ h => h) ?_
            refine T_ret (fun a w hF hM => hRb a w (post1 rfl rfl (fun w hM => ?_) a w hF hM))
            exact ⟨by rw [stNo, if_neg (by rw [h7]; simp), if_neg (by rw [h30]; simp), if_neg (by simp [hr]), if_neg (by rw [h82]; simp)], hM.below⟩
      · skip
        have hin : s.inn = [] := by simpa using h33
        refine T_skip_go (fun _ _ h => h) ?_
        refine T_seq ?_
        refine T_seq ?_
        refine T_region ?_
        refine S_ 42 rfl rfl rfl _ (y_fieldAddr rfl rfl fa40_2) ?_
        refine S_ 43 rfl rfl rfl _ (y_load 1 rfl rfl rfl rfl Tryd.underlying9 rfl) ?_
        refine S_ 44 rfl rfl rfl _ (y_bin rfl rfl rfl (fun _ => b_neqs)) ?_
        refine S_ 45 rfl rfl rfl _ (y_move rfl rfl) ?_
        refine Sg_ 46 rfl rfl rfl rfl rfl rfl _ (y_fieldAddr rfl rfl fa40_3) ?_
        refine Sg_ 47 rfl rfl rfl rfl rfl rfl _ (y_load 1 rfl rfl rfl rfl Tryd.underlying4 rfl) ?_
        refine S_ 48 rfl rfl rfl _ (y_or rfl rfl rfl) ?_
        refine S_ 49 rfl rfl rfl _ (y_move rfl rfl) ?_
        refine Sg_ 50 rfl rfl rfl rfl rfl rfl _ (y_fieldAddr rfl rfl fa40_0) ?_
        refine Sg_ 51 rfl rfl rfl rfl rfl rfl _ (y_load 1 rfl rfl rfl rfl Tryd.underlying3 rfl) ?_
        refine Sg_ 52 rfl rfl rfl rfl rfl rfl _ (y_bin rfl rfl rfl (fun _ => b_neq)) ?_
        refine S_ 53 rfl rfl rfl _ (y_and rfl rfl rfl) ?_
        refine S_ 54 rfl rfl rfl _ (y_move rfl rfl) ?_
        refine Sg_ 55 rfl rfl rfl rfl rfl rfl _ (y_fieldAddr rfl rfl fa40_3) ?_
        refine Sg_ 56 rfl rfl rfl rfl rfl rfl _ (y_load 1 rfl rfl rfl rfl Tryd.underlying4 rfl) ?_
        refine Sg_ 57 rfl rfl rfl rfl rfl rfl _ (y_move rfl rfl) ?_
        refine Sg_ 58 rfl rfl rfl rfl rfl rfl _ (y_fieldAddr rfl rfl fa40_2) ?_
        refine Sg_ 59 rfl rfl rfl rfl rfl rfl _ (y_load 1 rfl rfl rfl rfl Tryd.underlying9 rfl) ?_
        refine Sg_ 60 rfl rfl rfl rfl rfl rfl _ (y_bin rfl rfl rfl (fun _ => b_eqls)) ?_
        refine Sg_ 61 rfl rfl rfl rfl rfl rfl _ (y_and rfl rfl rfl) ?_
        refine S_ 62 rfl rfl rfl _ (y_or rfl rfl rfl) ?_
        refine S_ 63 rfl rfl rfl _ (y_move rfl rfl) ?_
        refine Sg_ 64 rfl rfl rfl rfl rfl rfl _ (y_fieldAddr rfl rfl fa40_4) ?_
        refine Sg_ 65 rfl rfl rfl rfl rfl rfl _ (y_load 1 rfl rfl rfl rfl Tryd.underlying3 rfl) ?_
        refine Sg_ 66 rfl rfl rfl rfl rfl rfl _ (y_bin rfl rfl rfl (fun _ => b_neq)) ?_
        refine Sg_ 67 rfl rfl rfl rfl rfl rfl _ (y_move rfl rfl) ?_
        refine Sg_ 68 rfl rfl rfl rfl rfl rfl _ (y_fieldAddr rfl rfl fa40_5) ?_
        refine Sg_ 69 rfl rfl rfl rfl rfl rfl _ (y_load 1 rfl rfl rfl rfl Tryd.underlying3 rfl) ?_
        refine Sg_ 70 rfl rfl rfl rfl rfl rfl _ (y_bin rfl rfl rfl (fun _ => b_neq)) ?_
        refine Sg_ 71 rfl rfl rfl rfl rfl rfl _ (y_or rfl rfl rfl) ?_
        refine Sg_ 72 rfl rfl rfl rfl rfl rfl _ (y_move rfl rfl) ?_
        refine Sg_ 73 rfl rfl rfl rfl rfl rfl _ (y_fieldAddr rfl rfl fa40_6) ?_
        refine Sg_ 74 rfl rfl rfl rfl rfl rfl _ (y_load 1 rfl rfl rfl rfl Tryd.underlying3 rfl) ?_
        refine Sg_ 75 rfl rfl rfl rfl rfl rfl _ (y_bin rfl rfl rfl (fun _ => b_neq)) ?_
        refine Sg_ 76 rfl rfl rfl rfl rfl rfl _ (y_or rfl rfl rfl) ?_
        refine Sg_ 77 rfl rfl rfl rfl rfl rfl _ (y_move rfl rfl) ?_
        refine Sg_ 78 rfl rfl rfl rfl rfl rfl _ (y_fieldAddr rfl rfl fa40_0) ?_
        refine Sg_ 79 rfl rfl rfl rfl rfl rfl _ (y_load 1 rfl rfl rfl rfl Tryd.underlying3 rfl) ?_
        refine Sg_ 80 rfl rfl rfl rfl rfl rfl _ (y_bin rfl rfl rfl (fun _ => b_neq)) ?_
        refine Sg_ 81 rfl rfl rfl rfl rfl rfl _ (y_and rfl rfl rfl) ?_
        refine S_ 82 rfl rfl rfl _ (y_as (v' := .bool (stBadB s)) (by exact rfl) (y_or rfl rfl rfl)) ?_
        refine S_go (fun _ _ h => h) ?_
        refine T_cond rfl (fun h82 => ?_) (fun h82 => ?_)
        · skip
          refine T_seq ?_
          refine T_region ?_
          refine S_ 2 rfl rfl rfl _ (y_assign rfl rfl) ?_
          refine S_go (fun _ _ h => h) ?_
          refine T_ret (fun a w hF hM => hRb a w (post1 rfl rfl (fun w hM => ?_) a w hF hM))
          exact ⟨by rw [stNo, if_neg (by rw [h7]; simp), if_neg (by rw [h30]; simp), if_neg (by simp [hin]), if_pos h82], hM.below⟩
        · skip
          refine T_skip_go (fun _ _ h => h) ?_
          refine T_seq ?_
          refine T_region ?_
          refine S_ 2 rfl rfl rfl _ (y_assign rfl rfl) ?_
          refine S_go (fun _ _ h => h) ?_
          refine T_ret (fun a w hF hM => hRb a w (post1 rfl rfl (fun w hM => ?_) a w hF hM))
          exact ⟨by rw [stNo, if_neg (by rw [h7]; simp), if_neg (by rw [h30]; simp), if_neg (by simp [hin]), if_neg (by rw [h82]; simp)], hM.below⟩
end Go.Proofs.YtkkngcdikbhkjaaDoor
end
