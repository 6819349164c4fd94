/- Part 3, merged by a program. parse, Parse, Text and what they stand on, walked. Conditions: those of each theorem. Compare, walked, and versions as they lie in memory. Conditions: those of each theorem. -/
import Derived.Test.YtpmlgnbbkpplhaaGreatDoorSjn
import Derived.Test.YtpmlgnbbkpplhaaGreatDoorPermg
import Derived.Test.YtpmlgnbbkpplhaaGreatDoorPk2
section
namespace Go.Proofs.YtpmlgnbbkpplhaaGreatDoor
set_option linter.unusedSimpArgs false
set_option linter.unusedVariables false
set_option maxRecDepth 20000
open Go.RowKit Go.Eng
theorem nilS {w : World} : SlT strE 1 w none 0 [] := ⟨⟨by simp, fun h => by simp at h⟩, rfl⟩
theorem TrimLet_any (s : List UInt8) (hs : s.length ≤ 1000000000) (w : World) : Calls Tryz.prog 84 #[str s, str letB] w fun e w' => e = .returned (str (Lib.trimS s letB)) ∧ Below w.heap.size w w' :=
  Any.strings_Trim_laid Tryz.lays160 (by kernel_rfl) ⟨s.toArray⟩ ⟨letB.toArray⟩ w (by rw [Lib.size_eq]; simp; omega) (by decide) (ascii_of_all (by decide))
theorem allOfL_any (s : List UInt8) (hs : s.length ≤ 1000000000) (w : World) : Calls Tryz.prog 189 #[str s, str letB] w fun e w' => e = .returned (.bool (allOf s letB)) ∧ Below w.heap.size w w' := by
  refine enter_args (args := [str s, str letB]) (F := _) Tryz.func189 rfl Tryz.ntmps189 rfl rfl ?_
  intro Rb hRb hRn
  refine T_seq ?_
  refine T_region ?_
  refine S_ 4 rfl rfl rfl _ (y_assign rfl rfl) ?_
  refine S_go (fun _ _ h => h) ?_
  refine T_seq ?_
  refine T_region ?_
  refine S_ 5 rfl rfl rfl _ (y_move rfl rfl) ?_
  refine S_ 6 rfl rfl rfl _ (y_bin rfl rfl rfl (fun _ => b_neqs)) ?_
  refine S_ 7 rfl rfl rfl _ (y_move rfl rfl) ?_
  refine Sg_ 8 rfl rfl rfl rfl rfl rfl _ (y_move rfl rfl) ?_
  refine Sg_ 9 rfl rfl rfl rfl rfl rfl _ (y_move rfl rfl) ?_
  refine Sg_ 10 rfl rfl rfl rfl rfl rfl _ (y_call rfl rfl rfl cf84 (fun _ w _ => TrimLet_any s hs w)) ?_
  refine Sg_ 11 rfl rfl rfl rfl rfl rfl _ (y_bin rfl rfl rfl (fun _ => b_eqls)) ?_
  refine S_ 12 rfl rfl rfl _ (y_and rfl rfl rfl) ?_
  refine S_ 4 rfl rfl rfl _ (y_assign rfl rfl) ?_
  refine S_go (fun _ _ h => h) ?_
  refine T_ret (fun a w hF hM => hRb a w (post1 rfl rfl (fun w hM => ?_) a w hF hM))
  exact ⟨rfl, hM.below⟩
theorem isPre_any (s : List UInt8) (hs : s.length ≤ 1000000000) (w : World) : Calls Tryz.prog 89 #[str s] w fun e w' => e = .returned (.bool (isPreB s)) ∧ Below w.heap.size w w' := by
  refine enter_args (args := [str s]) (F := _) Tryz.func89 rfl Tryz.ntmps89 rfl rfl ?_
  intro Rb hRb hRn
  refine T_seq ?_
  refine T_region ?_
  refine S_ 2 rfl rfl rfl _ (y_assign rfl rfl) ?_
  refine S_go (fun _ _ h => h) ?_
  refine T_seq ?_
  refine T_seq ?_
  refine T_region ?_
  refine S_ 5 rfl rfl rfl _ (y_move rfl rfl) ?_
  refine S_ 6 rfl rfl rfl _ (y_call rfl rfl rfl cf189 (fun _ w _ => allOfD_any s hs w)) ?_
  refine S_go (fun _ _ h => h) ?_
  refine T_cond rfl (fun h6 => ?_) (fun h6 => ?_)
  · skip
    refine T_seq ?_
    refine T_region ?_
    refine S_ 8 rfl rfl rfl _ (y_move rfl rfl) ?_
    refine S_ 9 rfl rfl rfl _ (y_call rfl rfl rfl cf190 (fun _ w _ => number_any s hs w)) ?_
    refine S_ 7 rfl rfl rfl _ (y_move rfl rfl) ?_
    refine S_ 10 rfl rfl rfl _ (y_extract rfl rfl rfl) ?_
    refine S_ 11 rfl rfl rfl _ (y_extract rfl rfl rfl) ?_
    refine S_ 3 rfl rfl rfl _ (y_assign rfl rfl) ?_
    refine S_ 4 rfl rfl rfl _ (y_assign rfl rfl) ?_
    refine S_go (fun _ _ h => h) ?_
    refine T_seq ?_
    refine T_region ?_
    refine S_ 12 rfl rfl rfl _ (y_move rfl rfl) ?_
    refine S_ 2 rfl rfl rfl _ (y_assign rfl rfl) ?_
    refine S_go (fun _ _ h => h) ?_
    refine T_ret (fun a w hF hM => hRb a w (post1 rfl rfl (fun w hM => ?_) a w hF hM))
    exact ⟨by rw [isPreB, if_pos h6]; rfl, hM.below⟩
  · skip
    refine T_skip_go (fun _ _ h => h) ?_
    refine T_seq ?_
    refine T_region ?_
    refine S_ 13 rfl rfl rfl _ (y_move rfl rfl) ?_
    refine S_ 14 rfl rfl rfl _ (y_call rfl rfl rfl cf189 (fun _ w _ => allOfL_any s hs w)) ?_
    refine S_ 2 rfl rfl rfl _ (y_assign rfl rfl) ?_
    refine S_go (fun _ _ h => h) ?_
    refine T_ret (fun a w hF hM => hRb a w (post1 rfl rfl (fun w hM => ?_) a w hF hM))
    exact ⟨by rw [isPreB, if_neg (by simp [h6])], hM.below⟩
theorem parse1_any (s : List UInt8) (hs : s.length ≤ 1000000000) (w : World) : Calls Tryz.prog 200 #[str s] w fun e w' => e = .returned (.bool (!isPreB s)) ∧ Below w.heap.size w w' := by
  refine enter_args (args := [str s]) (F := _) Tryz.func200 rfl Tryz.ntmps200 rfl rfl ?_
  intro Rb hRb hRn
  refine T_seq ?_
  refine T_region ?_
  refine S_ 2 rfl rfl rfl _ (y_assign rfl rfl) ?_
  refine S_go (fun _ _ h => h) ?_
  refine T_seq ?_
  refine T_region ?_
  refine S_ 3 rfl rfl rfl _ (y_move rfl rfl) ?_
  refine S_ 4 rfl rfl rfl _ (y_call rfl rfl rfl cf89 (fun _ w _ => isPre_any s hs w)) ?_
  refine S_ 5 rfl rfl rfl _ (y_not rfl rfl) ?_
  refine S_ 2 rfl rfl rfl _ (y_assign rfl rfl) ?_
  refine S_go (fun _ _ h => h) ?_
  refine T_ret (fun a w hF hM => hRb a w (post1 rfl rfl (fun w hM => ?_) a w hF hM))
  exact ⟨rfl, hM.below⟩
/-- the first place of what answers yes -/
def findP {α : Type} (p : α → Bool) : List α → Nat → Int
  | [], _ => -1
  | x :: r, i => if p x = true then i else findP p r (i + 1)
theorem findP_any {α : Type} (p : α → Bool) : ∀ (l : List α) (i : Nat), (findP p l i < 0 ↔ l.any p = false) ∧ -1 ≤ findP p l i
  | [], i => ⟨⟨fun _ => rfl, fun _ => by show (-1 : Int) < 0; omega⟩, Int.le_refl _⟩
  | x :: r, i => by
    have h := findP_any p r (i + 1)
    rw [findP, List.any_cons]
    cases hp : p x with
    | true => rw [if_pos rfl]; exact ⟨⟨fun h => by omega, fun h => by cases h⟩, by omega⟩
    | false => rw [if_neg (by simp), Bool.false_or]; exact h
theorem IndexFS_any (A : Option Addr) (q c : Nat) (l : List (List UInt8)) (g : FuncId) (cap : Array Value) (p : List UInt8 → Bool) (w : World) (hl : SlT strE 1 w A q l) (hq : q ≤ 4611686018427387904) (hcf : ∀ args w, (callFunc g args).run Tryz.prog w = .ok (.enter g args) w)
    (hA : ∀ x ∈ l, ∀ w', Below w.heap.size w w' → Calls Tryz.prog g (#[str x] ++ cap) w' fun e w'' => e = .returned (.bool (p x)) ∧ Below w'.heap.size w' w'') :
    Calls Tryz.prog 36 #[.slice A q c, .func (.func g) #[] cap] w fun e w' => e = .returned (.int .i64 (findP p l 0)) ∧ Below w.heap.size w w' := by
  refine enter_args (args := [.slice A q c, .func (.func g) #[] cap]) (F := _) Tryz.func36 rfl Tryz.ntmps36 rfl rfl ?_
  intro Rb hRb hRn
  refine T_seq ?_
  refine T_region ?_
  refine S_ 4 rfl rfl rfl _ (y_assign rfl rfl) ?_
  refine S_go (fun _ _ h => h) ?_
  refine T_seq ?_
  refine T_seq ?_
  refine T_region ?_
  refine S_ 6 rfl rfl rfl _ (y_move rfl rfl) ?_
  refine S_ 7 rfl rfl rfl _ (y_len_slice rfl rfl Tryz.underlying40) ?_
  refine S_ 8 rfl rfl rfl _ (y_move rfl rfl) ?_
  refine S_go (fun _ _ h => h) ?_
  refine T_block ?_
  refine T_loopK1 (kf := [(4, 5), (8, 18)]) (kl := [(4, 5), (8, 18)]) (fun (i : Nat) => [(8, true, .int .i64 (i : Int))]) (fun (i : Nat) => []) (fun (i : Nat) => i ≤ q ∧ findP p l 0 = findP p (l.drop i) i) (fun (i : Nat) => q - i) 0 (by repeat (first | exact kf_nil | (apply kf_in; focus rfl) | (apply kf_out; focus rfl))) (by repeat (first | exact kl_nil | exact kl_rest (by assumption) rfl | (apply kl_in; focus rfl) | (apply kl_out; focus rfl))) ?_ ?_ ?_ ?_
  · exact ⟨by omega, rfl⟩
  · exact ⟨rfl, trivial⟩
  · exact trivial
  rintro i ⟨hp1, hp2⟩
  refine T_seq ?_
  refine T_region ?_
  refine S_ 9 rfl rfl rfl _ (y_bin rfl rfl rfl (fun _ => b_lss)) ?_
  refine S_go (fun _ _ h => h) ?_
  refine T_seq ?_
  refine T_cond rfl (fun h9 => ?_) (fun h9 => ?_)
  · try simp only [decide_eq_true_eq, decide_eq_false_iff_not, Bool.or_eq_true, Bool.or_eq_false_iff, Bool.and_eq_true, Bool.and_eq_false_iff, Bool.not_eq_true', Bool.not_eq_false', Bool.not_eq_true, Bool.not_eq_false, Bool.not_true, Bool.not_false, Int.not_lt, Int.not_le, not_or, not_and, Classical.not_not] at h9
    obtain ⟨x, hx1, hx2⟩ := hl.at (i := i) (by omega)
    refine T_skip_go (fun _ _ h => h) ?_
    refine T_seq ?_
    refine T_block ?_
    refine T_seq ?_
    refine T_region ?_
    refine S_ 10 rfl rfl rfl _ (y_move rfl rfl) ?_
    refine S_ 5 rfl rfl rfl _ (y_assign rfl rfl) ?_
    refine S_go (fun _ _ h => h) ?_
    refine T_seq ?_
    refine T_region ?_
    refine S_ 11 rfl rfl rfl _ (y_move rfl rfl) ?_
    refine S_ 12 rfl rfl rfl _ (y_move rfl rfl) ?_
    refine S_ 13 rfl rfl rfl _ (y_move rfl rfl) ?_
    refine S_ 14 rfl rfl rfl _ (y_indexAddr rfl rfl rfl Tryz.underlying40 sz9 (fun hg => hl.isSome (by omega)) (fun _ => by omega)) ?_
    refine S_ 15 rfl rfl rfl _ (y_loadT1 (val := (fun l : List UInt8 => str l)) rfl rfl hl (fun _ => hx1) Tryz.underlying9 rfl) ?_
    refine S_ 16 rfl rfl rfl _ (y_call rfl rfl rfl hcf (fun _ w hM => hA x (mem_at hx1) w hM.below)) ?_
    refine S_go (fun _ _ h => h) ?_
    refine T_cond rfl (fun h16 => ?_) (fun h16 => ?_)
    · skip
      refine T_seq ?_
      refine T_region ?_
      refine S_ 17 rfl rfl rfl _ (y_move rfl rfl) ?_
      refine S_ 4 rfl rfl rfl _ (y_assign rfl rfl) ?_
      refine S_go (fun _ _ h => h) ?_
      refine T_ret (fun a w hF hM => hRb a w (post1 rfl rfl (fun w hM => ?_) a w hF hM))
      exact ⟨by rw [hp2, hx2, findP, if_pos h16], hM.below⟩
    · skip
      refine T_skip_go (fun _ _ h => h) ?_
      refine T_region ?_
      refine S_ 18 rfl rfl rfl _ (y_bin rfl rfl rfl (fun hg => b_add (by omega))) ?_
      refine S_ 8 rfl rfl rfl _ (y_move rfl rfl) ?_
      refine S_nil (nextK1 (kf := [(4, 5), (8, 18)]) (kl := [(4, 5), (8, 18)]) (i + 1) (by repeat (first | exact kf_nil | (apply kf_in; focus rfl) | (apply kf_out; focus rfl))) (by repeat (first | exact kl_nil | exact kl_rest (by assumption) rfl | (apply kl_in; focus rfl) | (apply kl_out; focus rfl))) ?_ ?_ ?_ ?_)
      · omega
      · exact ⟨by omega, by rw [hp2, hx2, findP, if_neg (by simp [h16])]⟩
      · exact ⟨rfl, trivial⟩
      · exact trivial
  · try simp only [decide_eq_true_eq, decide_eq_false_iff_not, Bool.or_eq_true, Bool.or_eq_false_iff, Bool.and_eq_true, Bool.and_eq_false_iff, Bool.not_eq_true', Bool.not_eq_false', Bool.not_eq_true, Bool.not_eq_false, Bool.not_true, Bool.not_false, Int.not_lt, Int.not_le, not_or, not_and, Classical.not_not] at h9
    refine T_exit_go (fun _ _ h => h) ?_
    refine T_seq ?_
    refine T_region ?_
    refine S_ 4 rfl rfl rfl _ (y_assign rfl rfl) ?_
    refine S_go (fun _ _ h => h) ?_
    refine T_ret (fun a w hF hM => hRb a w (post1 rfl rfl (fun w hM => ?_) a w hF hM))
    exact ⟨by rw [hp2, hl.end (by omega)]; rfl, hM.below⟩
theorem ContFS_any (A : Option Addr) (q c : Nat) (l : List (List UInt8)) (g : FuncId) (cap : Array Value) (p : List UInt8 → Bool) (w : World) (hl : SlT strE 1 w A q l) (hq : q ≤ 4611686018427387904) (hcf : ∀ args w, (callFunc g args).run Tryz.prog w = .ok (.enter g args) w)
    (hA : ∀ x ∈ l, ∀ w', Below w.heap.size w w' → Calls Tryz.prog g (#[str x] ++ cap) w' fun e w'' => e = .returned (.bool (p x)) ∧ Below w'.heap.size w' w'') :
    Calls Tryz.prog 38 #[.slice A q c, .func (.func g) #[] cap] w fun e w' => e = .returned (.bool (l.any p)) ∧ Below w.heap.size w w' := by
  have hf := findP_any p l 0
  have e : l.any p = decide (0 ≤ findP p l 0) := by
    cases h : l.any p with
    | false => rw [decide_eq_false]; have := hf.1.2 h; omega
    | true => rw [decide_eq_true]; rcases Int.lt_or_le (findP p l 0) 0 with h1 | h1
              · rw [hf.1.1 h1] at h; cases h
              · exact h1
  rw [e]
  refine enter_args (args := [.slice A q c, .func (.func g) #[] cap]) (F := _) Tryz.func38 rfl Tryz.ntmps38 rfl rfl ?_
  intro Rb hRb hRn
  refine T_seq ?_
  refine T_region ?_
  refine S_ 4 rfl rfl rfl _ (y_assign rfl rfl) ?_
  refine S_go (fun _ _ h => h) ?_
  refine T_seq ?_
  refine T_region ?_
  refine S_ 5 rfl rfl rfl _ (y_move rfl rfl) ?_
  refine S_ 6 rfl rfl rfl _ (y_move rfl rfl) ?_
  refine S_ 7 rfl rfl rfl _ (y_call rfl rfl rfl cf36 (fun _ w hM => IndexFS_any _ _ _ l g cap p w (hl.below hM.below) hq hcf fun x hx w1 hb => hA x hx w1 (hM.below.trans (hb.mono hM.below.size)))) ?_
  refine S_ 8 rfl rfl rfl _ (y_bin rfl rfl rfl (fun _ => b_geq)) ?_
  refine S_ 4 rfl rfl rfl _ (y_assign rfl rfl) ?_
  refine S_go (fun _ _ h => h) ?_
  refine T_ret (fun a w hF hM => hRb a w (post1 rfl rfl (fun w hM => ?_) a w hF hM))
  exact ⟨rfl, hM.below⟩
abbrev pvV (p : PVer) (A : Option Addr) (c : Nat) : Value := .agg #[str p.p, .int .i64 p.a, .int .i64 p.b, .int .i64 p.c, .slice A p.pre.length c]
theorem split_len40 {c : UInt8} {s : List UInt8} (h : s.length ≤ 40) : (splitC c s).length ≤ 41 := by
  have h1 := splitC_len c s
  have h2 : s.count c ≤ s.length := List.count_le_length
  omega
set_option maxHeartbeats 1600000 in
theorem parse_any (s : List UInt8) (w : World) :
    Calls Tryz.prog 101 #[str s] w fun e w' => ∃ A c, e = .returned (.tuple #[pvV (parseR s).1 A c, .bool (parseR s).2]) ∧ w'.ownsRow w.heap.size 9 1 (.slice A (parseR s).1.pre.length c) (parseR s).1.pre.length ((parseR s).1.pre.flatMap strE) ∧ Below w.heap.size w w' := by
  have hge := Lib.indexByte_ge s 46
  refine enter_args (args := [str s]) (F := _) Tryz.func101 rfl Tryz.ntmps101 rfl rfl ?_
  intro Rb hRb hRn
  refine T_seq ?_
  refine T_region ?_
  refine S_alloc 2 2 rfl rfl rfl rfl z42 ?_
  intro b2
  refine S_ 3 rfl rfl rfl _ (y_assign rfl rfl) ?_
  refine S_go (fun _ _ h => h) ?_
  refine T_seq ?_
  refine T_region ?_
  refine S_ 18 rfl rfl rfl _ (y_move rfl rfl) ?_
  refine S_ 19 rfl rfl rfl _ (y_call rfl rfl rfl cf102 (fun _ w _ => IndexByte_any s 46 w)) ?_
  refine S_ 4 rfl rfl rfl _ (y_assign rfl rfl) ?_
  refine S_go (fun _ _ h => h) ?_
  refine T_seq ?_
  refine T_seq ?_
  refine T_region ?_
  refine S_ 20 rfl rfl rfl _ (y_move rfl rfl) ?_
  refine S_ 21 rfl rfl rfl _ (y_bin rfl rfl rfl (fun _ => b_lss)) ?_
  refine S_ 22 rfl rfl rfl _ (y_move rfl rfl) ?_
  refine Sg_ 23 rfl rfl rfl rfl rfl rfl _ (y_move rfl rfl) ?_
  refine Sg_ 24 rfl rfl rfl rfl rfl rfl _ (y_len_str rfl rfl Tryz.underlying9) ?_
  refine Sg_ 25 rfl rfl rfl rfl rfl rfl _ (y_bin rfl rfl rfl (fun _ => b_gtr)) ?_
  refine S_ 26 rfl rfl rfl _ (y_or rfl rfl rfl) ?_
  refine S_go (fun _ _ h => h) ?_
  refine T_cond rfl (fun h26 => ?_) (fun h26 => ?_)
  · skip
    have hr : parseR s = (pver0, false) := by rw [parseR, if_pos h26]
    refine T_seq ?_
    refine T_region ?_
    refine S_ 27 rfl rfl rfl _ (y_build (zv := .agg #[.string ⟨#[]⟩, .int .i64 0, .int .i64 0, .int .i64 0, .slice none 0 0]) (pl := [(0, 1), (1, 1), (2, 1), (3, 1), (4, 1)]) (out := [.string ⟨#[]⟩, .int .i64 0, .int .i64 0, .int .i64 0, .slice none 0 0]) rfl rfl Tryz.underlying42 z42 (by kernel_rfl) rfl) ?_
    refine S_store 2 rfl rfl rfl rfl rfl rfl sz42 rfl rfl ?_
    refine S_ 3 rfl rfl rfl _ (y_assign rfl rfl) ?_
    refine S_go (fun _ _ h => h) ?_
    refine T_ret (fun a w hF hM => hRb a w (post_cell 2 rfl rfl rfl rfl Tryz.underlying42 rfl (by exact sz42) (fun w hM => ?_) a w hF hM))
    rw [hr]
    exact ⟨none, 0, rfl, World.ownsRow_nil _ _ _ _, hM.below⟩
  · skip
    simp only [Bool.or_eq_false_iff, decide_eq_false_iff_not] at h26
    obtain ⟨o, ho⟩ : ∃ o : Nat, Lib.indexByte s 46 = o := ⟨(Lib.indexByte s 46).toNat, by omega⟩
    obtain ⟨ho1, _⟩ := Lib.indexByte_some ho
    have hol := (List.getElem?_eq_some_iff.1 ho1).1
    have hpt : ptN s = o := by rw [ptN, ho]; rfl
    have hpl : (s.take (ptN s)).length = o := by rw [hpt, List.length_take]; omega
    have hlb : lnI s < o ∧ -1 ≤ lnI s := by
      rcases last_spec (s.take (ptN s)) 45 (s.take (ptN s)).length with ⟨h1, _⟩ | ⟨k, h1, h2, _⟩
      · have h1 : lnI s = -1 := h1
        omega
      · have h1 : lnI s = k := h1
        omega
    refine T_skip_go (fun _ _ h => h) ?_
    refine T_seq ?_
    refine T_region ?_
    refine S_ 28 rfl rfl rfl _ (y_move rfl rfl) ?_
    refine S_ 29 rfl rfl rfl _ (y_move rfl rfl) ?_
    refine S_ 30 rfl rfl rfl _ (y_as (v' := str (s.take (ptN s))) (by exact rfl) (y_strTo rfl rfl rfl Tryz.underlying9 (fun _ => by omega))) ?_
    refine S_ 31 rfl rfl rfl _ (y_as (v' := .int .i64 (lnI s)) (by exact rfl) (y_call rfl rfl rfl cf103 (fun _ w _ => SLast_any (s.take (ptN s)) 45 (by rw [List.length_take]; omega) w))) ?_
    refine S_ 5 rfl rfl rfl _ (y_assign rfl rfl) ?_
    refine S_go (fun _ _ h => h) ?_
    refine T_seq ?_
    refine T_seq ?_
    refine T_region ?_
    refine S_ 32 rfl rfl rfl _ (y_move rfl rfl) ?_
    refine S_ 33 rfl rfl rfl _ (y_bin rfl rfl rfl (fun _ => b_lss)) ?_
    refine S_ 34 rfl rfl rfl _ (y_move rfl rfl) ?_
    refine Sg_ 35 rfl rfl rfl rfl rfl rfl _ (y_move rfl rfl) ?_
    refine Sg_ 36 rfl rfl rfl rfl rfl rfl _ (y_move rfl rfl) ?_
    refine Sg_ 37 rfl rfl rfl rfl rfl rfl _ (y_as (v' := str (prS s)) (by exact rfl) (y_strTo rfl rfl rfl Tryz.underlying9 (fun hg => by simp only [Bool.true_and, Bool.and_eq_true, beq_iff_eq, decide_eq_true_eq, decide_eq_false_iff_not, Int.not_lt, Int.not_le] at hg; omega))) ?_
    refine Sg_ 38 rfl rfl rfl rfl rfl rfl _ (y_call rfl rfl rfl cf86 (fun _ w _ => IsProject_any (prS s) w)) ?_
    refine Sg_ 39 rfl rfl rfl rfl rfl rfl _ (y_not rfl rfl) ?_
    refine S_ 40 rfl rfl rfl _ (y_or rfl rfl rfl) ?_
    refine S_go (fun _ _ h => h) ?_
    refine T_cond rfl (fun h40 => ?_) (fun h40 => ?_)
    · skip
      have hr : parseR s = (pver0, false) := by rw [parseR, if_neg (by simp only [Bool.or_eq_true, decide_eq_true_eq, not_or]; omega), if_pos h40]
      refine T_seq ?_
      refine T_region ?_
      refine S_ 41 rfl rfl rfl _ (y_build (zv := .agg #[.string ⟨#[]⟩, .int .i64 0, .int .i64 0, .int .i64 0, .slice none 0 0]) (pl := [(0, 1), (1, 1), (2, 1), (3, 1), (4, 1)]) (out := [.string ⟨#[]⟩, .int .i64 0, .int .i64 0, .int .i64 0, .slice none 0 0]) rfl rfl Tryz.underlying42 z42 (by kernel_rfl) rfl) ?_
      refine S_store 2 rfl rfl rfl rfl rfl rfl sz42 rfl rfl ?_
      refine S_ 3 rfl rfl rfl _ (y_assign rfl rfl) ?_
      refine S_go (fun _ _ h => h) ?_
      refine T_ret (fun a w hF hM => hRb a w (post_cell 2 rfl rfl rfl rfl Tryz.underlying42 rfl (by exact sz42) (fun w hM => ?_) a w hF hM))
      rw [hr]
      exact ⟨none, 0, rfl, World.ownsRow_nil _ _ _ _, hM.below⟩
    · skip
      have h40b := h40
      simp only [Bool.or_eq_false_iff, decide_eq_false_iff_not] at h40
      obtain ⟨k, hk⟩ : ∃ k : Nat, lnI s = k := ⟨(lnI s).toNat, by omega⟩
      have hrl : (rsS s).length ≤ 40 := by rw [rsS, List.length_drop]; omega
      obtain ⟨hc1, hc2⟩ : (cutC 45 (rsS s)).1.length ≤ 40 ∧ (cutC 45 (rsS s)).2.1.length ≤ 40 := by have := cut_le 45 (rsS s); omega
      have hwl : (wdS s).length ≤ 41 := split_len40 hc1
      have hql : (splitC 46 (cutC 45 (rsS s)).2.1).length ≤ 41 := split_len40 hc2
      refine T_skip_go (fun _ _ h => h) ?_
      refine T_seq ?_
      refine T_region ?_
      refine S_ 42 rfl rfl rfl _ (y_move rfl rfl) ?_
      refine S_ 43 rfl rfl rfl _ (y_move rfl rfl) ?_
      refine S_ 44 rfl rfl rfl _ (y_as (v' := str (prS s)) (by exact rfl) (y_strTo rfl rfl rfl Tryz.underlying9 (fun _ => by omega))) ?_
      refine S_ 45 rfl rfl rfl _ (y_build (zv := .agg #[.string ⟨#[]⟩, .int .i64 0, .int .i64 0, .int .i64 0, .slice none 0 0]) (pl := [(0, 1), (1, 1), (2, 1), (3, 1), (4, 1)]) (out := [_, .int .i64 0, .int .i64 0, .int .i64 0, .slice none 0 0]) rfl rfl Tryz.underlying42 z42 (by kernel_rfl) rfl) ?_
      refine S_alloc 6 6 rfl rfl rfl rfl z42 ?_
      intro b6
      refine S_store 6 rfl rfl rfl rfl rfl rfl sz42 rfl rfl ?_
      refine S_go (fun _ _ h => h) ?_
      refine T_seq ?_
      refine T_region ?_
      refine S_ 47 rfl rfl rfl _ (y_move rfl rfl) ?_
      refine S_ 48 rfl rfl rfl _ (y_move rfl rfl) ?_
      refine S_ 49 rfl rfl rfl _ (y_bin rfl rfl rfl (fun hg => b_add (by omega))) ?_
      refine S_ 50 rfl rfl rfl _ (y_as (v' := str (rsS s)) (by rw [rsS, hk]; rfl) (y_strFrom rfl rfl rfl Tryz.underlying9 (fun _ => by omega))) ?_
      refine S_ 51 rfl rfl rfl _ (y_call rfl rfl rfl cf104 (fun _ w _ => Cut1_any (rsS s) 45 w (by omega))) ?_
      refine S_ 46 rfl rfl rfl _ (y_move rfl rfl) ?_
      refine S_ 52 rfl rfl rfl _ (y_extract rfl rfl rfl) ?_
      refine S_ 53 rfl rfl rfl _ (y_extract rfl rfl rfl) ?_
      refine S_ 54 rfl rfl rfl _ (y_extract rfl rfl rfl) ?_
      refine S_ 7 rfl rfl rfl _ (y_assign rfl rfl) ?_
      refine S_ 8 rfl rfl rfl _ (y_assign rfl rfl) ?_
      refine S_ 9 rfl rfl rfl _ (y_assign rfl rfl) ?_
      refine S_go (fun _ _ h => h) ?_
      refine T_seq ?_
      refine T_region ?_
      refine S_ 55 rfl rfl rfl _ (y_move rfl rfl) ?_
      refine S_callOwn 56 56 rfl rfl rfl rfl rfl rfl rfl cf105 (fun A c => .slice A ((wdS s).length) c) 9 1 ((wdS s).length) ((wdS s).flatMap strE) (fun w hM => Split1_any (cutC 45 (rsS s)).1 46 (by omega) w) ?_
      intro A56 c56
      refine S_ 10 rfl rfl rfl _ (y_assign rfl rfl) ?_
      refine S_go (fun _ _ h => h) ?_
      refine T_seq ?_
      refine T_seq ?_
      refine T_region ?_
      refine S_ 57 rfl rfl rfl _ (y_move rfl rfl) ?_
      refine S_ 58 rfl rfl rfl _ (y_len_slice rfl rfl Tryz.underlying40) ?_
      refine S_ 59 rfl rfl rfl _ (y_bin rfl rfl rfl (fun _ => b_neq)) ?_
      refine S_go (fun _ _ h => h) ?_
      refine T_cond rfl (fun h59 => ?_) (fun h59 => ?_)
      · skip
        have hr : parseR s = (pver0, false) := by rw [parseR, if_neg (by simp only [Bool.or_eq_true, decide_eq_true_eq, not_or]; omega), if_neg (by rw [h40b]; exact Bool.false_ne_true), if_pos (by simpa using h59)]
        refine T_seq ?_
        refine T_region ?_
        refine S_ 60 rfl rfl rfl _ (y_build (zv := .agg #[.string ⟨#[]⟩, .int .i64 0, .int .i64 0, .int .i64 0, .slice none 0 0]) (pl := [(0, 1), (1, 1), (2, 1), (3, 1), (4, 1)]) (out := [.string ⟨#[]⟩, .int .i64 0, .int .i64 0, .int .i64 0, .slice none 0 0]) rfl rfl Tryz.underlying42 z42 (by kernel_rfl) rfl) ?_
        refine S_store 2 rfl rfl rfl rfl rfl rfl sz42 rfl rfl ?_
        refine S_ 3 rfl rfl rfl _ (y_assign rfl rfl) ?_
        refine S_go (fun _ _ h => h) ?_
        refine T_ret (fun a w hF hM => hRb a w (post_cell 2 rfl rfl rfl rfl Tryz.underlying42 rfl (by exact sz42) (fun w hM => ?_) a w hF hM))
        rw [hr]
        exact ⟨none, 0, rfl, World.ownsRow_nil _ _ _ _, hM.below⟩
      · skip
        have h59 : ((wdS s).length : Int) = 3 := by simpa using h59
        obtain ⟨x, y, z, hw⟩ := triple (l := wdS s) (by omega)
        have hwle : ∀ u ∈ wdS s, u.length ≤ 40 := fun u hu => by have := spl_le 46 _ u hu; omega
        have hx := hwle x (by rw [hw]; simp)
        have hy := hwle y (by rw [hw]; simp)
        have hz := hwle z (by rw [hw]; simp)
        refine T_skip_go (fun _ _ h => h) ?_
        refine T_seq ?_
        refine T_region ?_
        refine S_ 62 rfl rfl rfl _ (y_move rfl rfl) ?_
        refine S_ 63 rfl rfl rfl _ (y_indexOwnI (j := 0) 56 rfl rfl rfl (fun _ => rfl) rfl Tryz.underlying40 sz9 (fun _ => by omega)) ?_
        refine S_ 64 rfl rfl rfl _ (y_loadO1 56 (val := (fun l : List UInt8 => str l)) rfl rfl rfl rfl (fun _ => (by rw [hw]; rfl : (wdS s)[0]? = some x)) Tryz.underlying9 rfl) ?_
        refine S_ 65 rfl rfl rfl _ (y_as (v' := .tuple #[.int .i64 (numI x), .bool (numOk x)]) (by exact rfl) (y_call rfl rfl rfl cf190 (fun _ w _ => number_any x (by omega) w))) ?_
        refine S_ 61 rfl rfl rfl _ (y_move rfl rfl) ?_
        refine S_ 66 rfl rfl rfl _ (y_extract rfl rfl rfl) ?_
        refine S_ 67 rfl rfl rfl _ (y_extract rfl rfl rfl) ?_
        refine S_ 11 rfl rfl rfl _ (y_assign rfl rfl) ?_
        refine S_ 12 rfl rfl rfl _ (y_assign rfl rfl) ?_
        refine S_go (fun _ _ h => h) ?_
        refine T_seq ?_
        refine T_region ?_
        refine S_ 69 rfl rfl rfl _ (y_move rfl rfl) ?_
        refine S_ 70 rfl rfl rfl _ (y_indexOwnI (j := 1) 56 rfl rfl rfl (fun _ => rfl) rfl Tryz.underlying40 sz9 (fun _ => by omega)) ?_
        refine S_ 71 rfl rfl rfl _ (y_loadO1 56 (val := (fun l : List UInt8 => str l)) rfl rfl rfl rfl (fun _ => (by rw [hw]; rfl : (wdS s)[1]? = some y)) Tryz.underlying9 rfl) ?_
        refine S_ 72 rfl rfl rfl _ (y_as (v' := .tuple #[.int .i64 (numI y), .bool (numOk y)]) (by exact rfl) (y_call rfl rfl rfl cf190 (fun _ w _ => number_any y (by omega) w))) ?_
        refine S_ 68 rfl rfl rfl _ (y_move rfl rfl) ?_
        refine S_ 73 rfl rfl rfl _ (y_extract rfl rfl rfl) ?_
        refine S_ 74 rfl rfl rfl _ (y_extract rfl rfl rfl) ?_
        refine S_ 13 rfl rfl rfl _ (y_assign rfl rfl) ?_
        refine S_ 14 rfl rfl rfl _ (y_assign rfl rfl) ?_
        refine S_go (fun _ _ h => h) ?_
        refine T_seq ?_
        refine T_region ?_
        refine S_ 76 rfl rfl rfl _ (y_move rfl rfl) ?_
        refine S_ 77 rfl rfl rfl _ (y_indexOwnI (j := 2) 56 rfl rfl rfl (fun _ => rfl) rfl Tryz.underlying40 sz9 (fun _ => by omega)) ?_
        refine S_ 78 rfl rfl rfl _ (y_loadO1 56 (val := (fun l : List UInt8 => str l)) rfl rfl rfl rfl (fun _ => (by rw [hw]; rfl : (wdS s)[2]? = some z)) Tryz.underlying9 rfl) ?_
        refine S_ 79 rfl rfl rfl _ (y_as (v' := .tuple #[.int .i64 (numI z), .bool (numOk z)]) (by exact rfl) (y_call rfl rfl rfl cf190 (fun _ w _ => number_any z (by omega) w))) ?_
        refine S_ 75 rfl rfl rfl _ (y_move rfl rfl) ?_
        refine S_ 80 rfl rfl rfl _ (y_extract rfl rfl rfl) ?_
        refine S_ 81 rfl rfl rfl _ (y_extract rfl rfl rfl) ?_
        refine S_ 15 rfl rfl rfl _ (y_assign rfl rfl) ?_
        refine S_ 16 rfl rfl rfl _ (y_assign rfl rfl) ?_
        refine S_go (fun _ _ h => h) ?_
        refine T_seq ?_
        refine T_region ?_
        refine S_ 82 rfl rfl rfl _ (y_move rfl rfl) ?_
        refine S_ 83 rfl rfl rfl _ (y_move rfl rfl) ?_
        refine S_ 84 rfl rfl rfl _ (y_move rfl rfl) ?_
        refine S_ 85 rfl rfl rfl _ (y_fieldAddr rfl rfl fa42_1) ?_
        refine S_store 6 rfl rfl rfl rfl rfl rfl sz3 rfl rfl ?_
        refine S_ 86 rfl rfl rfl _ (y_fieldAddr rfl rfl fa42_2) ?_
        refine S_store 6 rfl rfl rfl rfl rfl rfl sz3 rfl rfl ?_
        refine S_ 87 rfl rfl rfl _ (y_fieldAddr rfl rfl fa42_3) ?_
        refine S_store 6 rfl rfl rfl rfl rfl rfl sz3 rfl rfl ?_
        refine S_go (fun _ _ h => h) ?_
        refine T_seq ?_
        refine T_seq ?_
        refine T_region ?_
        refine S_ 88 rfl rfl rfl _ (y_move rfl rfl) ?_
        refine S_go (fun _ _ h => h) ?_
        refine T_cond rfl (fun h88 => ?_) (fun h88 => ?_)
        · skip
          have hpre : preS s = splitC 46 (cutC 45 (rsS s)).2.1 := by rw [preS, if_pos h88]
          refine T_region ?_
          refine S_ 89 rfl rfl rfl _ (y_move rfl rfl) ?_
          refine S_callOwn 90 90 rfl rfl rfl rfl rfl rfl rfl cf105 (fun A c => .slice A (splitC 46 (cutC 45 (rsS s)).2.1).length c) 9 1 ((splitC 46 (cutC 45 (rsS s)).2.1).length) ((splitC 46 (cutC 45 (rsS s)).2.1).flatMap strE) (fun w hM => Split1_any (cutC 45 (rsS s)).2.1 46 (by omega) w) ?_
          intro A90 c90
          refine S_ 91 rfl rfl rfl _ (y_fieldAddr rfl rfl fa42_4) ?_
          refine S_store 6 rfl rfl rfl rfl rfl rfl sz40 rfl rfl ?_
          refine S_go (fun _ _ h => h) ?_
          refine T_seq ?_
          refine T_region ?_
          refine S_ 92 rfl rfl rfl _ (y_fieldAddr rfl rfl fa42_4) ?_
          refine S_ 93 rfl rfl rfl _ (y_load 6 rfl rfl rfl rfl Tryz.underlying40 rfl) ?_
          refine S_ 94 rfl rfl rfl _ (y_call rfl rfl rfl cf38 (fun _ w hM => ContFS_any _ _ _ (splitC 46 (cutC 45 (rsS s)).2.1) _ _ (fun p => !isPreB p) w (owned_T (enc := strE) hM rfl (i := 90) rfl) (by omega) cf200 fun x hx w1 _ => parse1_any x (by have := spl_le 46 _ x hx; omega) w1)) ?_
          refine S_ 17 rfl rfl rfl _ (y_assign rfl rfl) ?_
          refine S_go (fun _ _ h => h) ?_
          refine T_seq ?_
          refine T_perm [0, 1, 2, 3, 4, 5, 6, 7, 8, 9, 10, 11, 12, 13, 14, 15, 16, 17, 18, 19] [true, true, true, true, true, true, true, true, true, true, true, true, true, true, true, true, true, true, false, true] [0, 0, 2, 6, 14, 30, 62, 126, 254, 510, 1022, 2046, 4094, 8190, 16382, 32766, 65534, 131070, 8191, 524287] [(0, [6]), (14, [6])] (by kernel_rfl) (by kernel_rfl) (by kernel_rfl) rfl (by kernel_rfl) ?_
          refine Rf_ 0 95 rfl rfl rfl rfl rfl _ ⟨rfl, trivial⟩ (Y.z (y_loadA 6 rfl rfl rfl Tryz.underlying42 rfl sz42) rfl) ?_
          refine Rf_ 1 96 rfl rfl rfl rfl rfl _ trivial (Y.z (y_move rfl rfl) rfl) ?_
          refine Rf_ 2 97 rfl rfl rfl rfl rfl _ trivial (Y.z (y_move rfl rfl) rfl) ?_
          refine Rfg_ 3 98 rfl rfl rfl rfl rfl rfl rfl rfl _ trivial (Y.z (y_move rfl rfl) rfl) ?_
          refine Rf_ 4 99 rfl rfl rfl rfl rfl _ trivial (Y.z (y_and rfl rfl rfl) rfl) ?_
          refine Rf_ 5 100 rfl rfl rfl rfl rfl _ trivial (Y.z (y_move rfl rfl) rfl) ?_
          refine Rfg_ 6 101 rfl rfl rfl rfl rfl rfl rfl rfl _ trivial (Y.z (y_move rfl rfl) rfl) ?_
          refine Rf_ 7 102 rfl rfl rfl rfl rfl _ trivial (Y.z (y_and rfl rfl rfl) rfl) ?_
          refine Rf_ 8 103 rfl rfl rfl rfl rfl _ trivial (Y.z (y_move rfl rfl) rfl) ?_
          refine Rfg_ 9 104 rfl rfl rfl rfl rfl rfl rfl rfl _ trivial (Y.z (y_move rfl rfl) rfl) ?_
          refine Rfg_ 10 105 rfl rfl rfl rfl rfl rfl rfl rfl _ trivial (Y.z (y_not rfl rfl) rfl) ?_
          refine Rf_ 11 106 rfl rfl rfl rfl rfl _ trivial (Y.z (y_and rfl rfl rfl) rfl) ?_
          refine Rf_ 12 107 rfl rfl rfl rfl rfl _ trivial (Y.z (y_move rfl rfl) rfl) ?_
          refine Rfg_ 13 108 rfl rfl rfl rfl rfl rfl rfl rfl _ trivial (Y.z (y_fieldAddr rfl rfl fa42_4) rfl) ?_
          refine Rfg_ 14 109 rfl rfl rfl rfl rfl rfl rfl rfl _ ⟨rfl, trivial⟩ (Y.z (y_load 6 rfl rfl rfl rfl Tryz.underlying40 rfl) rfl) ?_
          refine Rfg_ 15 110 rfl rfl rfl rfl rfl rfl rfl rfl _ trivial (zg_len rfl rfl Tryz.underlying40) ?_
          refine Rfg_ 16 111 rfl rfl rfl rfl rfl rfl rfl rfl _ trivial (Y.z (y_bin rfl rfl rfl (fun _ => b_leq)) rfl) ?_
          refine Rf_ 17 112 rfl rfl rfl rfl rfl _ trivial (Y.z (y_and rfl rfl rfl) rfl) ?_
          refine R_chain 18 rfl rfl ?_
          refine S_store 2 rfl rfl rfl rfl rfl rfl sz42 rfl rfl ?_
          refine R_next ⟨.inl rfl, .inr ⟨rfl, trivial⟩, trivial⟩ ?_
          refine Rf_ 19 3 rfl rfl rfl rfl rfl _ trivial (Y.z (y_assign rfl rfl) rfl) ?_
          refine R_go (fun _ _ h => h) ?_
          refine T_ret (fun a w hF hM => hRb a w (post_cell 2 rfl rfl rfl rfl Tryz.underlying42 rfl (by exact sz42) (fun w hM => ?_) a w hF hM))
          have hr : parseR s = (⟨prS s, numI x, numI y, numI z, splitC 46 (cutC 45 (rsS s)).2.1⟩, numOk x && numOk y && numOk z && !badPre (splitC 46 (cutC 45 (rsS s)).2.1) && decide (((splitC 46 (cutC 45 (rsS s)).2.1).length : Int) ≤ 5)) := by
            rw [parseR, if_neg (by simp only [Bool.or_eq_true, decide_eq_true_eq, not_or]; omega), if_neg (by rw [h40b]; exact Bool.false_ne_true), if_neg (by omega), verV, parseOk, hw, hpre]; rfl
          rw [hr]
          exact ⟨A90, c90, rfl, hM.sat 90 _ rfl, hM.below⟩
        · skip
          have hpre : preS s = [] := by rw [preS, if_neg (by simp [h88])]
          refine T_skip_go (fun _ _ h => h) ?_
          refine T_seq ?_
          refine T_region ?_
          refine S_ 92 rfl rfl rfl _ (y_fieldAddr rfl rfl fa42_4) ?_
          refine S_ 93 rfl rfl rfl _ (y_load 6 rfl rfl rfl rfl Tryz.underlying40 rfl) ?_
          refine S_ 94 rfl rfl rfl _ (y_call rfl rfl rfl cf38 (fun _ w hM => ContFS_any _ _ _ [] _ _ (fun p => !isPreB p) w nilS (by decide) cf200 fun x hx => by cases hx)) ?_
          refine S_ 17 rfl rfl rfl _ (y_assign rfl rfl) ?_
          refine S_go (fun _ _ h => h) ?_
          refine T_seq ?_
          refine T_perm [0, 1, 2, 3, 4, 5, 6, 7, 8, 9, 10, 11, 12, 13, 14, 15, 16, 17, 18, 19] [true, true, true, true, true, true, true, true, true, true, true, true, true, true, true, true, true, true, false, true] [0, 0, 2, 6, 14, 30, 62, 126, 254, 510, 1022, 2046, 4094, 8190, 16382, 32766, 65534, 131070, 8191, 524287] [(0, [6]), (14, [6])] (by kernel_rfl) (by kernel_rfl) (by kernel_rfl) rfl (by kernel_rfl) ?_
          refine Rf_ 0 95 rfl rfl rfl rfl rfl _ ⟨rfl, trivial⟩ (Y.z (y_loadA 6 rfl rfl rfl Tryz.underlying42 rfl sz42) rfl) ?_
          refine Rf_ 1 96 rfl rfl rfl rfl rfl _ trivial (Y.z (y_move rfl rfl) rfl) ?_
          refine Rf_ 2 97 rfl rfl rfl rfl rfl _ trivial (Y.z (y_move rfl rfl) rfl) ?_
          refine Rfg_ 3 98 rfl rfl rfl rfl rfl rfl rfl rfl _ trivial (Y.z (y_move rfl rfl) rfl) ?_
          refine Rf_ 4 99 rfl rfl rfl rfl rfl _ trivial (Y.z (y_and rfl rfl rfl) rfl) ?_
          refine Rf_ 5 100 rfl rfl rfl rfl rfl _ trivial (Y.z (y_move rfl rfl) rfl) ?_
          refine Rfg_ 6 101 rfl rfl rfl rfl rfl rfl rfl rfl _ trivial (Y.z (y_move rfl rfl) rfl) ?_
          refine Rf_ 7 102 rfl rfl rfl rfl rfl _ trivial (Y.z (y_and rfl rfl rfl) rfl) ?_
          refine Rf_ 8 103 rfl rfl rfl rfl rfl _ trivial (Y.z (y_move rfl rfl) rfl) ?_
          refine Rfg_ 9 104 rfl rfl rfl rfl rfl rfl rfl rfl _ trivial (Y.z (y_move rfl rfl) rfl) ?_
          refine Rfg_ 10 105 rfl rfl rfl rfl rfl rfl rfl rfl _ trivial (Y.z (y_not rfl rfl) rfl) ?_
          refine Rf_ 11 106 rfl rfl rfl rfl rfl _ trivial (Y.z (y_and rfl rfl rfl) rfl) ?_
          refine Rf_ 12 107 rfl rfl rfl rfl rfl _ trivial (Y.z (y_move rfl rfl) rfl) ?_
          refine Rfg_ 13 108 rfl rfl rfl rfl rfl rfl rfl rfl _ trivial (Y.z (y_fieldAddr rfl rfl fa42_4) rfl) ?_
          refine Rfg_ 14 109 rfl rfl rfl rfl rfl rfl rfl rfl _ ⟨rfl, trivial⟩ (Y.z (y_load 6 rfl rfl rfl rfl Tryz.underlying40 rfl) rfl) ?_
          refine Rfg_ 15 110 rfl rfl rfl rfl rfl rfl rfl rfl _ trivial (zg_len rfl rfl Tryz.underlying40) ?_
          refine Rfg_ 16 111 rfl rfl rfl rfl rfl rfl rfl rfl _ trivial (Y.z (y_bin rfl rfl rfl (fun _ => b_leq)) rfl) ?_
          refine Rf_ 17 112 rfl rfl rfl rfl rfl _ trivial (Y.z (y_and rfl rfl rfl) rfl) ?_
          refine R_chain 18 rfl rfl ?_
          refine S_store 2 rfl rfl rfl rfl rfl rfl sz42 rfl rfl ?_
          refine R_next ⟨.inl rfl, .inr ⟨rfl, trivial⟩, trivial⟩ ?_
          refine Rf_ 19 3 rfl rfl rfl rfl rfl _ trivial (Y.z (y_assign rfl rfl) rfl) ?_
          refine R_go (fun _ _ h => h) ?_
          refine T_ret (fun a w hF hM => hRb a w (post_cell 2 rfl rfl rfl rfl Tryz.underlying42 rfl (by exact sz42) (fun w hM => ?_) a w hF hM))
          have hr : parseR s = (⟨prS s, numI x, numI y, numI z, []⟩, numOk x && numOk y && numOk z && !badPre [] && decide (((([] : List (List UInt8)).length : Nat) : Int) ≤ 5)) := by
            rw [parseR, if_neg (by simp only [Bool.or_eq_true, decide_eq_true_eq, not_or]; omega), if_neg (by rw [h40b]; exact Bool.false_ne_true), if_neg (by omega), verV, parseOk, hw, hpre]; rfl
          rw [hr]
          exact ⟨none, 0, rfl, World.ownsRow_nil _ _ _ _, hM.below⟩
def parE (s : List UInt8) : PVer × Int := if relOk s = true then (verV s, 0) else (pver0, 8)
end Go.Proofs.YtpmlgnbbkpplhaaGreatDoor
end
section
namespace Go.Proofs.YtpmlgnbbkpplhaaGreatDoor
set_option linter.unusedSimpArgs false
set_option linter.unusedVariables false
set_option maxRecDepth 20000
open Go.RowKit Go.Eng
structure SVer where
  p : List UInt8
  a : Int
  b : Int
  c : Int
  pre : Sl (List UInt8)
def SVer.enc (v : SVer) : List Value := [str v.p, .int .i64 v.a, .int .i64 v.b, .int .i64 v.c, .slice v.pre.A v.pre.q v.pre.c]
def SVer.val (v : SVer) : Value := .agg v.enc.toArray
def SVer.says (v : SVer) : PVer := ⟨v.p, v.a, v.b, v.c, v.pre.l⟩
structure VerOk (w : World) (v : SVer) : Prop where
  ok : v.pre.Ok strE 1 w
  q : v.pre.q ≤ 1000000000
  n : ∀ s ∈ v.pre.l, s.length ≤ 1000000000
  s : v.p.length ≤ 1000000000
  a : -9223372036854775808 ≤ v.a ∧ v.a ≤ 9223372036854775807
  b : -9223372036854775808 ≤ v.b ∧ v.b ≤ 9223372036854775807
  c : -9223372036854775808 ≤ v.c ∧ v.c ≤ 9223372036854775807
theorem VerOk.below {w w' : World} {v : SVer} (h : VerOk w v) (hb : Below w.heap.size w w') : VerOk w' v := ⟨h.ok.below hb, h.q, h.n, h.s, h.a, h.b, h.c⟩
def iE (n : Int) : List Value := [.int .i64 n]
theorem or4_any (A : Option Addr) (c : Nat) (x0 x1 x2 x3 : Int) (w : World) (hl : SlT iE 1 w A 4 [x0, x1, x2, x3]) : Calls Tryz.prog 95 #[.slice A 4 c] w fun e w' => e = .returned (.int .i64 (or4 x0 x1 x2 x3)) ∧ Below w.heap.size w w' := by
  refine enter_args (args := [.slice A 4 c]) (F := _) Tryz.func95 rfl Tryz.ntmps95 rfl rfl ?_
  intro Rb hRb hRn
  refine T_seq ?_
  refine T_region ?_
  refine S_ 2 rfl rfl rfl _ (y_assign rfl rfl) ?_
  refine S_go (fun _ _ h => h) ?_
  refine T_seq ?_
  refine T_region ?_
  refine S_ 3 rfl rfl rfl _ (y_assign rfl rfl) ?_
  refine S_go (fun _ _ h => h) ?_
  refine T_seq ?_
  refine T_seq ?_
  refine T_region ?_
  refine S_ 6 rfl rfl rfl _ (y_move rfl rfl) ?_
  refine S_ 7 rfl rfl rfl _ (y_len_slice rfl rfl Tryz.underlying142) ?_
  refine S_ 8 rfl rfl rfl _ (y_move rfl rfl) ?_
  refine S_go (fun _ _ h => h) ?_
  refine T_block ?_
  refine T_loopK1 (kf := [(2, 2), (5, 5), (8, 16)]) (kl := [(2, 2), (5, 5), (8, 16)]) (fun (i : Nat) => [(8, true, .int .i64 (i : Int))]) (fun (i : Nat) => []) (fun (i : Nat) => i ≤ 4 ∧ or4 x0 x1 x2 x3 = (([x0, x1, x2, x3].drop i).find? (fun x => decide (x ≠ 0))).getD 0) (fun (i : Nat) => 4 - i) 0 (by repeat (first | exact kf_nil | (apply kf_in; focus rfl) | (apply kf_out; focus rfl))) (by repeat (first | exact kl_nil | exact kl_rest (by assumption) rfl | (apply kl_in; focus rfl) | (apply kl_out; focus rfl))) ?_ ?_ ?_ ?_
  · exact ⟨by omega, by unfold or4; by_cases h0 : x0 = 0 <;> by_cases h1 : x1 = 0 <;> by_cases h2 : x2 = 0 <;> by_cases h3 : x3 = 0 <;> simp [h0, h1, h2, h3]⟩
  · exact ⟨rfl, trivial⟩
  · exact trivial
  rintro i ⟨hp1, hp2⟩
  refine T_seq ?_
  refine T_region ?_
  refine S_ 9 rfl rfl rfl _ (y_bin rfl rfl rfl (fun _ => b_lss)) ?_
  refine S_go (fun _ _ h => h) ?_
  refine T_seq ?_
  refine T_cond rfl (fun h9 => ?_) (fun h9 => ?_)
  · try simp only [decide_eq_true_eq, decide_eq_false_iff_not, Bool.or_eq_true, Bool.or_eq_false_iff, Bool.and_eq_true, Bool.and_eq_false_iff, Bool.not_eq_true', Bool.not_eq_false', Bool.not_eq_true, Bool.not_eq_false, Bool.not_true, Bool.not_false, Int.not_lt, Int.not_le, not_or, not_and, Classical.not_not] at h9
    obtain ⟨x, hx1, hx2⟩ := hl.at (i := i) (by omega)
    refine T_skip_go (fun _ _ h => h) ?_
    refine T_seq ?_
    refine T_block ?_
    refine T_seq ?_
    refine T_region ?_
    refine S_ 10 rfl rfl rfl _ (y_indexAddr rfl rfl rfl Tryz.underlying142 sz3 (fun hg => hl.isSome (by omega)) (fun _ => by omega)) ?_
    refine S_ 11 rfl rfl rfl _ (y_loadT1 (val := (fun n : Int => Value.int .i64 n)) rfl rfl hl (fun _ => hx1) Tryz.underlying3 rfl) ?_
    refine S_ 5 rfl rfl rfl _ (y_assign rfl rfl) ?_
    refine S_go (fun _ _ h => h) ?_
    refine T_seq ?_
    refine T_region ?_
    refine S_ 12 rfl rfl rfl _ (y_move rfl rfl) ?_
    refine S_ 13 rfl rfl rfl _ (y_move rfl rfl) ?_
    refine S_ 14 rfl rfl rfl _ (y_bin rfl rfl rfl (fun _ => b_neq)) ?_
    refine S_go (fun _ _ h => h) ?_
    refine T_cond rfl (fun h14 => ?_) (fun h14 => ?_)
    · try simp only [decide_eq_true_eq, decide_eq_false_iff_not, Bool.or_eq_true, Bool.or_eq_false_iff, Bool.and_eq_true, Bool.and_eq_false_iff, Bool.not_eq_true', Bool.not_eq_false', Bool.not_eq_true, Bool.not_eq_false, Bool.not_true, Bool.not_false, Int.not_lt, Int.not_le, not_or, not_and, Classical.not_not] at h14
      refine T_seq ?_
      refine T_region ?_
      refine S_ 15 rfl rfl rfl _ (y_move rfl rfl) ?_
      refine S_ 2 rfl rfl rfl _ (y_assign rfl rfl) ?_
      refine S_go (fun _ _ h => h) ?_
      refine T_ret (fun a w hF hM => hRb a w (post1 rfl rfl (fun w hM => ?_) a w hF hM))
      exact ⟨by rw [hp2, hx2, List.find?_cons_of_pos (by simpa using h14)]; rfl, hM.below⟩
    · try simp only [decide_eq_true_eq, decide_eq_false_iff_not, Bool.or_eq_true, Bool.or_eq_false_iff, Bool.and_eq_true, Bool.and_eq_false_iff, Bool.not_eq_true', Bool.not_eq_false', Bool.not_eq_true, Bool.not_eq_false, Bool.not_true, Bool.not_false, Int.not_lt, Int.not_le, not_or, not_and, Classical.not_not] at h14
      refine T_skip_go (fun _ _ h => h) ?_
      refine T_region ?_
      refine S_ 16 rfl rfl rfl _ (y_bin rfl rfl rfl (fun hg => b_add (by omega))) ?_
      refine S_ 8 rfl rfl rfl _ (y_move rfl rfl) ?_
      refine S_nil (nextK1 (kf := [(2, 2), (5, 5), (8, 16)]) (kl := [(2, 2), (5, 5), (8, 16)]) (i + 1) (by repeat (first | exact kf_nil | (apply kf_in; focus rfl) | (apply kf_out; focus rfl))) (by repeat (first | exact kl_nil | exact kl_rest (by assumption) rfl | (apply kl_in; focus rfl) | (apply kl_out; focus rfl))) ?_ ?_ ?_ ?_)
      · omega
      · exact ⟨by omega, by rw [hp2, hx2, List.find?_cons_of_neg (by simpa using h14)]⟩
      · exact ⟨rfl, trivial⟩
      · exact trivial
  · try simp only [decide_eq_true_eq, decide_eq_false_iff_not, Bool.or_eq_true, Bool.or_eq_false_iff, Bool.and_eq_true, Bool.and_eq_false_iff, Bool.not_eq_true', Bool.not_eq_false', Bool.not_eq_true, Bool.not_eq_false, Bool.not_true, Bool.not_false, Int.not_lt, Int.not_le, not_or, not_and, Classical.not_not] at h9
    refine T_exit_go (fun _ _ h => h) ?_
    refine T_seq ?_
    refine T_region ?_
    refine S_ 17 rfl rfl rfl _ (y_move rfl rfl) ?_
    refine S_ 2 rfl rfl rfl _ (y_assign rfl rfl) ?_
    refine S_go (fun _ _ h => h) ?_
    refine T_ret (fun a w hF hM => hRb a w (post1 rfl rfl (fun w hM => ?_) a w hF hM))
    exact ⟨by rw [hp2, hl.end (by omega)]; rfl, hM.below⟩
theorem pre1_any (s : List UInt8) (hs : s.length ≤ 1000000000) (w : World) : Calls Tryz.prog 198 #[str s] w fun e w' => e = .returned (.bool (ptNum s)) ∧ Below w.heap.size w w' := by
  refine enter_args (args := [str s]) (F := _) Tryz.func198 rfl Tryz.ntmps198 rfl rfl ?_
  intro Rb hRb hRn
  refine T_seq ?_
  refine T_region ?_
  refine S_ 2 rfl rfl rfl _ (y_assign rfl rfl) ?_
  refine S_go (fun _ _ h => h) ?_
  refine T_seq ?_
  refine T_region ?_
  refine S_ 3 rfl rfl rfl _ (y_move rfl rfl) ?_
  refine S_ 4 rfl rfl rfl _ (y_call rfl rfl rfl cf189 (fun _ w _ => allOfD_any s hs w)) ?_
  refine S_ 5 rfl rfl rfl _ (y_move rfl rfl) ?_
  refine Sg_ 6 rfl rfl rfl rfl rfl rfl _ (y_move rfl rfl) ?_
  refine Sg_ 7 rfl rfl rfl rfl rfl rfl _ (y_len_str rfl rfl Tryz.underlying9) ?_
  refine Sg_ 8 rfl rfl rfl rfl rfl rfl _ (y_bin rfl rfl rfl (fun _ => b_leq)) ?_
  refine S_ 9 rfl rfl rfl _ (y_and rfl rfl rfl) ?_
  refine S_ 2 rfl rfl rfl _ (y_assign rfl rfl) ?_
  refine S_go (fun _ _ h => h) ?_
  refine T_ret (fun a w hF hM => hRb a w (post1 rfl rfl (fun w hM => ?_) a w hF hM))
  exact ⟨rfl, hM.below⟩
theorem ptNum_dig {s : List UInt8} (h : ptNum s = true) : s ≠ [] ∧ s.length ≤ 6 ∧ ∀ c ∈ s, 48 ≤ c.toNat ∧ c.toNat ≤ 57 := by
  simp only [ptNum, Bool.and_eq_true, decide_eq_true_eq] at h
  have := allOf_dig h.1
  exact ⟨this.1, by omega, this.2⟩
theorem comparePre_any (x y : List UInt8) (hx : x.length ≤ 1000000000) (hy : y.length ≤ 1000000000) (w : World) : Calls Tryz.prog 99 #[str x, str y] w fun e w' => e = .returned (.int .i64 (cmpPart x y)) ∧ Below w.heap.size w w' := by
  refine enter_args (args := [str x, str y]) (F := _) Tryz.func99 rfl Tryz.ntmps99 rfl rfl ?_
  intro Rb hRb hRn
  refine T_seq ?_
  refine T_region ?_
  refine S_ 4 rfl rfl rfl _ (y_assign rfl rfl) ?_
  refine S_go (fun _ _ h => h) ?_
  refine T_seq ?_
  refine T_region ?_
  refine S_ 5 rfl rfl rfl _ (y_assign rfl rfl) ?_
  refine S_go (fun _ _ h => h) ?_
  refine T_seq ?_
  refine T_region ?_
  refine S_ 12 rfl rfl rfl _ (y_move rfl rfl) ?_
  refine S_ 13 rfl rfl rfl _ (y_move rfl rfl) ?_
  refine S_ 14 rfl rfl rfl _ (y_call rfl rfl rfl cf198 (fun _ w _ => pre1_any x hx w)) ?_
  refine S_ 15 rfl rfl rfl _ (y_move rfl rfl) ?_
  refine S_ 16 rfl rfl rfl _ (y_move rfl rfl) ?_
  refine S_ 17 rfl rfl rfl _ (y_call rfl rfl rfl cf198 (fun _ w _ => pre1_any y hy w)) ?_
  refine S_ 6 rfl rfl rfl _ (y_assign rfl rfl) ?_
  refine S_ 7 rfl rfl rfl _ (y_assign rfl rfl) ?_
  refine S_go (fun _ _ h => h) ?_
  refine T_seq ?_
  refine T_block ?_
  refine T_seq ?_
  refine T_region ?_
  refine S_ 19 rfl rfl rfl _ (y_move rfl rfl) ?_
  refine S_ 20 rfl rfl rfl _ (y_move rfl rfl) ?_
  refine Sg_ 21 rfl rfl rfl rfl rfl rfl _ (y_move rfl rfl) ?_
  refine S_ 22 rfl rfl rfl _ (y_and rfl rfl rfl) ?_
  refine S_ 18 rfl rfl rfl _ (y_assign rfl rfl) ?_
  refine S_go (fun _ _ h => h) ?_
  refine T_cond rfl (fun h18 => ?_) (fun h18 => ?_)
  · skip
    have hd1 := ptNum_dig (by simp only [Bool.and_eq_true] at h18; exact h18.1)
    have hd2 := ptNum_dig (by simp only [Bool.and_eq_true] at h18; exact h18.2)
    refine T_seq ?_
    refine T_region ?_
    refine S_ 24 rfl rfl rfl _ (y_move rfl rfl) ?_
    refine S_ 25 rfl rfl rfl _ (y_call rfl rfl rfl cf199 (fun _ w _ => Atoi_any x hd1.1 (by omega) hd1.2.2 w)) ?_
    refine S_ 23 rfl rfl rfl _ (y_move rfl rfl) ?_
    refine S_ 26 rfl rfl rfl _ (y_extract rfl rfl rfl) ?_
    refine S_ 27 rfl rfl rfl _ (y_extract rfl rfl rfl) ?_
    refine S_ 8 rfl rfl rfl _ (y_assign rfl rfl) ?_
    refine S_ 9 rfl rfl rfl _ (y_assign rfl rfl) ?_
    refine S_go (fun _ _ h => h) ?_
    refine T_seq ?_
    refine T_region ?_
    refine S_ 29 rfl rfl rfl _ (y_move rfl rfl) ?_
    refine S_ 30 rfl rfl rfl _ (y_call rfl rfl rfl cf199 (fun _ w _ => Atoi_any y hd2.1 (by omega) hd2.2.2 w)) ?_
    refine S_ 28 rfl rfl rfl _ (y_move rfl rfl) ?_
    refine S_ 31 rfl rfl rfl _ (y_extract rfl rfl rfl) ?_
    refine S_ 32 rfl rfl rfl _ (y_extract rfl rfl rfl) ?_
    refine S_ 10 rfl rfl rfl _ (y_assign rfl rfl) ?_
    refine S_ 11 rfl rfl rfl _ (y_assign rfl rfl) ?_
    refine S_go (fun _ _ h => h) ?_
    refine T_seq ?_
    refine T_region ?_
    refine S_ 33 rfl rfl rfl _ (y_move rfl rfl) ?_
    refine S_ 34 rfl rfl rfl _ (y_move rfl rfl) ?_
    refine S_ 35 rfl rfl rfl _ (y_call rfl rfl rfl cf97 (fun _ w _ => cmpJ_any _ _ w)) ?_
    refine S_ 4 rfl rfl rfl _ (y_assign rfl rfl) ?_
    refine S_go (fun _ _ h => h) ?_
    refine T_ret (fun a w hF hM => hRb a w (post1 rfl rfl (fun w hM => ?_) a w hF hM))
    exact ⟨by rw [cmpPart, if_pos h18], hM.below⟩
  · skip
    refine T_seq ?_
    refine T_region ?_
    refine S_ 37 rfl rfl rfl _ (y_move rfl rfl) ?_
    refine S_ 36 rfl rfl rfl _ (y_assign rfl rfl) ?_
    refine S_go (fun _ _ h => h) ?_
    refine T_cond rfl (fun h36 => ?_) (fun h36 => ?_)
    · skip
      refine T_seq ?_
      refine T_region ?_
      refine S_ 4 rfl rfl rfl _ (y_assign rfl rfl) ?_
      refine S_go (fun _ _ h => h) ?_
      refine T_ret (fun a w hF hM => hRb a w (post1 rfl rfl (fun w hM => ?_) a w hF hM))
      exact ⟨by rw [cmpPart, if_neg (by simp [h18]), if_pos h36], hM.below⟩
    · skip
      refine T_seq ?_
      refine T_region ?_
      refine S_ 39 rfl rfl rfl _ (y_move rfl rfl) ?_
      refine S_ 38 rfl rfl rfl _ (y_assign rfl rfl) ?_
      refine S_go (fun _ _ h => h) ?_
      refine T_cond rfl (fun h38 => ?_) (fun h38 => ?_)
      · skip
        refine T_seq ?_
        refine T_region ?_
        refine S_ 4 rfl rfl rfl _ (y_assign rfl rfl) ?_
        refine S_go (fun _ _ h => h) ?_
        refine T_ret (fun a w hF hM => hRb a w (post1 rfl rfl (fun w hM => ?_) a w hF hM))
        exact ⟨by rw [cmpPart, if_neg (by simp [h18]), if_neg (by simp [h36]), if_pos h38], hM.below⟩
      · skip
        refine T_skip_go (fun _ _ h => h) ?_
        refine T_seq ?_
        refine T_region ?_
        refine S_ 40 rfl rfl rfl _ (y_move rfl rfl) ?_
        refine S_ 41 rfl rfl rfl _ (y_move rfl rfl) ?_
        refine S_ 42 rfl rfl rfl _ (y_call rfl rfl rfl cf96 (fun _ w _ => cmpB_any _ _ w)) ?_
        refine S_ 4 rfl rfl rfl _ (y_assign rfl rfl) ?_
        refine S_go (fun _ _ h => h) ?_
        refine T_ret (fun a w hF hM => hRb a w (post1 rfl rfl (fun w hM => ?_) a w hF hM))
        exact ⟨by rw [cmpPart, if_neg (by simp [h18]), if_neg (by simp [h36]), if_neg (by simp [h38])], hM.below⟩
theorem CmpF_any (A B : Option Addr) (q c p d : Nat) (l m : List (List UInt8)) (w : World) (hl : SlT strE 1 w A q l) (hm : SlT strE 1 w B p m) (hq : q ≤ 1000000000) (hp : p ≤ 1000000000) (hln : ∀ s ∈ l, s.length ≤ 1000000000) (hmn : ∀ s ∈ m, s.length ≤ 1000000000) :
    Calls Tryz.prog 98 #[.slice A q c, .slice B p d, .func (.func 99) #[] #[]] w fun e w' => e = .returned (.int .i64 (cmpL cmpPart l m)) ∧ Below w.heap.size w w' := by
  have hlen := hl.len
  have hmen := hm.len
  refine enter_args (args := [.slice A q c, .slice B p d, .func (.func 99) #[] #[]]) (F := _) Tryz.func98 rfl Tryz.ntmps98 rfl rfl ?_
  intro Rb hRb hRn
  refine T_seq ?_
  refine T_region ?_
  refine S_ 6 rfl rfl rfl _ (y_assign rfl rfl) ?_
  refine S_go (fun _ _ h => h) ?_
  refine T_seq ?_
  refine T_seq ?_
  refine T_region ?_
  refine S_ 11 rfl rfl rfl _ (y_move rfl rfl) ?_
  refine S_ 12 rfl rfl rfl _ (y_len_slice rfl rfl Tryz.underlying40) ?_
  refine S_ 13 rfl rfl rfl _ (y_move rfl rfl) ?_
  refine S_go (fun _ _ h => h) ?_
  refine T_block ?_
  refine T_loopK1 (kf := [(6, 10), (13, 33)]) (kl := [(6, 10), (13, 33)]) (fun (i : Nat) => [(13, true, .int .i64 (i : Int))]) (fun (i : Nat) => []) (fun (i : Nat) => i ≤ q ∧ i ≤ p ∧ cmpL cmpPart l m = cmpL cmpPart (l.drop i) (m.drop i)) (fun (i : Nat) => q - i) 0 (by repeat (first | exact kf_nil | (apply kf_in; focus rfl) | (apply kf_out; focus rfl))) (by repeat (first | exact kl_nil | exact kl_rest (by assumption) rfl | (apply kl_in; focus rfl) | (apply kl_out; focus rfl))) ?_ ?_ ?_ ?_
  · exact ⟨by omega, by omega, rfl⟩
  · exact ⟨rfl, trivial⟩
  · exact trivial
  rintro i ⟨hp1, hp3, hp2⟩
  refine T_seq ?_
  refine T_region ?_
  refine S_ 14 rfl rfl rfl _ (y_bin rfl rfl rfl (fun _ => b_lss)) ?_
  refine S_go (fun _ _ h => h) ?_
  refine T_seq ?_
  refine T_cond rfl (fun h14 => ?_) (fun h14 => ?_)
  · try simp only [decide_eq_true_eq, decide_eq_false_iff_not, Bool.or_eq_true, Bool.or_eq_false_iff, Bool.and_eq_true, Bool.and_eq_false_iff, Bool.not_eq_true', Bool.not_eq_false', Bool.not_eq_true, Bool.not_eq_false, Bool.not_true, Bool.not_false, Int.not_lt, Int.not_le, not_or, not_and, Classical.not_not] at h14
    obtain ⟨x, hx1, hx2⟩ := hl.at (i := i) (by omega)
    refine T_skip_go (fun _ _ h => h) ?_
    refine T_seq ?_
    refine T_block ?_
    refine T_seq ?_
    refine T_region ?_
    refine S_ 15 rfl rfl rfl _ (y_move rfl rfl) ?_
    refine S_ 16 rfl rfl rfl _ (y_indexAddr rfl rfl rfl Tryz.underlying40 sz9 (fun hg => hl.isSome (by omega)) (fun _ => by omega)) ?_
    refine S_ 17 rfl rfl rfl _ (y_loadT1 (val := (fun l : List UInt8 => str l)) rfl rfl hl (fun _ => hx1) Tryz.underlying9 rfl) ?_
    refine S_ 7 rfl rfl rfl _ (y_assign rfl rfl) ?_
    refine S_ 8 rfl rfl rfl _ (y_assign rfl rfl) ?_
    refine S_go (fun _ _ h => h) ?_
    refine T_seq ?_
    refine T_seq ?_
    refine T_region ?_
    refine S_ 18 rfl rfl rfl _ (y_move rfl rfl) ?_
    refine S_ 19 rfl rfl rfl _ (y_move rfl rfl) ?_
    refine S_ 20 rfl rfl rfl _ (y_len_slice rfl rfl Tryz.underlying40) ?_
    refine S_ 21 rfl rfl rfl _ (y_bin rfl rfl rfl (fun _ => b_geq)) ?_
    refine S_go (fun _ _ h => h) ?_
    refine T_cond rfl (fun h21 => ?_) (fun h21 => ?_)
    · try simp only [decide_eq_true_eq, decide_eq_false_iff_not, Bool.or_eq_true, Bool.or_eq_false_iff, Bool.and_eq_true, Bool.and_eq_false_iff, Bool.not_eq_true', Bool.not_eq_false', Bool.not_eq_true, Bool.not_eq_false, Bool.not_true, Bool.not_false, Int.not_lt, Int.not_le, not_or, not_and, Classical.not_not] at h21
      refine T_seq ?_
      refine T_region ?_
      refine S_ 6 rfl rfl rfl _ (y_assign rfl rfl) ?_
      refine S_go (fun _ _ h => h) ?_
      refine T_ret (fun a w hF hM => hRb a w (post1 rfl rfl (fun w hM => ?_) a w hF hM))
      exact ⟨by rw [hp2, hx2, hm.end (by omega)]; rfl, hM.below⟩
    · try simp only [decide_eq_true_eq, decide_eq_false_iff_not, Bool.or_eq_true, Bool.or_eq_false_iff, Bool.and_eq_true, Bool.and_eq_false_iff, Bool.not_eq_true', Bool.not_eq_false', Bool.not_eq_true, Bool.not_eq_false, Bool.not_true, Bool.not_false, Int.not_lt, Int.not_le, not_or, not_and, Classical.not_not] at h21
      obtain ⟨y, hy1, hy2⟩ := hm.at (i := i) (by omega)
      refine T_skip_go (fun _ _ h => h) ?_
      refine T_seq ?_
      refine T_region ?_
      refine S_ 22 rfl rfl rfl _ (y_move rfl rfl) ?_
      refine S_ 23 rfl rfl rfl _ (y_move rfl rfl) ?_
      refine S_ 24 rfl rfl rfl _ (y_indexAddr rfl rfl rfl Tryz.underlying40 sz9 (fun hg => hm.isSome (by omega)) (fun _ => by omega)) ?_
      refine S_ 25 rfl rfl rfl _ (y_loadT1 (val := (fun l : List UInt8 => str l)) rfl rfl hm (fun _ => hy1) Tryz.underlying9 rfl) ?_
      refine S_ 9 rfl rfl rfl _ (y_assign rfl rfl) ?_
      refine S_go (fun _ _ h => h) ?_
      refine T_seq ?_
      refine T_region ?_
      refine S_ 26 rfl rfl rfl _ (y_move rfl rfl) ?_
      refine S_ 27 rfl rfl rfl _ (y_move rfl rfl) ?_
      refine S_ 28 rfl rfl rfl _ (y_move rfl rfl) ?_
      refine S_ 29 rfl rfl rfl _ (y_call rfl rfl rfl cf99 (fun _ w _ => comparePre_any x y (hln x (mem_at hx1)) (hmn y (mem_at hy1)) w)) ?_
      refine S_ 10 rfl rfl rfl _ (y_assign rfl rfl) ?_
      refine S_go (fun _ _ h => h) ?_
      refine T_seq ?_
      refine T_region ?_
      refine S_ 30 rfl rfl rfl _ (y_move rfl rfl) ?_
      refine S_ 31 rfl rfl rfl _ (y_bin rfl rfl rfl (fun _ => b_neq)) ?_
      refine S_go (fun _ _ h => h) ?_
      refine T_cond rfl (fun h31 => ?_) (fun h31 => ?_)
      · skip
        refine T_seq ?_
        refine T_region ?_
        refine S_ 32 rfl rfl rfl _ (y_move rfl rfl) ?_
        refine S_ 6 rfl rfl rfl _ (y_assign rfl rfl) ?_
        refine S_go (fun _ _ h => h) ?_
        refine T_ret (fun a w hF hM => hRb a w (post1 rfl rfl (fun w hM => ?_) a w hF hM))
        exact ⟨by rw [hp2, hx2, hy2, cmpL, if_pos (by simpa using h31)], hM.below⟩
      · skip
        refine T_skip_go (fun _ _ h => h) ?_
        refine T_region ?_
        refine S_ 33 rfl rfl rfl _ (y_bin rfl rfl rfl (fun hg => b_add (by omega))) ?_
        refine S_ 13 rfl rfl rfl _ (y_move rfl rfl) ?_
        refine S_nil (nextK1 (kf := [(6, 10), (13, 33)]) (kl := [(6, 10), (13, 33)]) (i + 1) (by repeat (first | exact kf_nil | (apply kf_in; focus rfl) | (apply kf_out; focus rfl))) (by repeat (first | exact kl_nil | exact kl_rest (by assumption) rfl | (apply kl_in; focus rfl) | (apply kl_out; focus rfl))) ?_ ?_ ?_ ?_)
        · omega
        · exact ⟨by omega, by omega, by rw [hp2, hx2, hy2, cmpL, if_neg (by simpa using h31)]⟩
        · exact ⟨rfl, trivial⟩
        · exact trivial
  · try simp only [decide_eq_true_eq, decide_eq_false_iff_not, Bool.or_eq_true, Bool.or_eq_false_iff, Bool.and_eq_true, Bool.and_eq_false_iff, Bool.not_eq_true', Bool.not_eq_false', Bool.not_eq_true, Bool.not_eq_false, Bool.not_true, Bool.not_false, Int.not_lt, Int.not_le, not_or, not_and, Classical.not_not] at h14
    refine T_exit_go (fun _ _ h => h) ?_
    refine T_seq ?_
    refine T_seq ?_
    refine T_region ?_
    refine S_ 34 rfl rfl rfl _ (y_move rfl rfl) ?_
    refine S_ 35 rfl rfl rfl _ (y_len_slice rfl rfl Tryz.underlying40) ?_
    refine S_ 36 rfl rfl rfl _ (y_move rfl rfl) ?_
    refine S_ 37 rfl rfl rfl _ (y_len_slice rfl rfl Tryz.underlying40) ?_
    refine S_ 38 rfl rfl rfl _ (y_bin rfl rfl rfl (fun _ => b_lss)) ?_
    refine S_go (fun _ _ h => h) ?_
    refine T_cond rfl (fun h38 => ?_) (fun h38 => ?_)
    · try simp only [decide_eq_true_eq, decide_eq_false_iff_not, Bool.or_eq_true, Bool.or_eq_false_iff, Bool.and_eq_true, Bool.and_eq_false_iff, Bool.not_eq_true', Bool.not_eq_false', Bool.not_eq_true, Bool.not_eq_false, Bool.not_true, Bool.not_false, Int.not_lt, Int.not_le, not_or, not_and, Classical.not_not] at h38
      refine T_seq ?_
      refine T_region ?_
      refine S_ 6 rfl rfl rfl _ (y_assign rfl rfl) ?_
      refine S_go (fun _ _ h => h) ?_
      refine T_ret (fun a w hF hM => hRb a w (post1 rfl rfl (fun w hM => ?_) a w hF hM))
      obtain ⟨y, hy1, hy2⟩ := hm.at (i := i) (by omega)
      exact ⟨by rw [hp2, hl.end (by omega), hy2]; rfl, hM.below⟩
    · try simp only [decide_eq_true_eq, decide_eq_false_iff_not, Bool.or_eq_true, Bool.or_eq_false_iff, Bool.and_eq_true, Bool.and_eq_false_iff, Bool.not_eq_true', Bool.not_eq_false', Bool.not_eq_true, Bool.not_eq_false, Bool.not_true, Bool.not_false, Int.not_lt, Int.not_le, not_or, not_and, Classical.not_not] at h38
      refine T_skip_go (fun _ _ h => h) ?_
      refine T_seq ?_
      refine T_region ?_
      refine S_ 6 rfl rfl rfl _ (y_assign rfl rfl) ?_
      refine S_go (fun _ _ h => h) ?_
      refine T_ret (fun a w hF hM => hRb a w (post1 rfl rfl (fun w hM => ?_) a w hF hM))
      exact ⟨by rw [hp2, hl.end (by omega), hm.end (by omega)]; rfl, hM.below⟩
theorem Compare_any (x y : SVer) (w : World) (hx : VerOk w x) (hy : VerOk w y) :
    Calls Tryz.prog 22 #[x.val, y.val] w fun e w' => e = .returned (.int .i64 (cmpV x.says y.says)) ∧ Below w.heap.size w w' := by
  have hxl := hx.ok.t.len
  have hyl := hy.ok.t.len
  have hxq := hx.q
  have hyq := hy.q
  have nil_iff : ∀ {l : List (List UInt8)} {q : Nat}, l.length = q → (l = [] ↔ (q : Int) = 0) := by
    intro l q h
    constructor
    · intro e; subst e; simp at h; omega
    · intro e; exact List.eq_nil_of_length_eq_zero (by omega)
  have hxn : x.says.pre = [] ↔ (x.pre.q : Int) = 0 := nil_iff hxl
  have hyn : y.says.pre = [] ↔ (y.pre.q : Int) = 0 := nil_iff hyl
  refine enter_args (args := [.agg #[str x.p, .int .i64 x.a, .int .i64 x.b, .int .i64 x.c, .slice x.pre.A x.pre.q x.pre.c], .agg #[str y.p, .int .i64 y.a, .int .i64 y.b, .int .i64 y.c, .slice y.pre.A y.pre.q y.pre.c]]) (F := _) Tryz.func22 rfl Tryz.ntmps22 rfl rfl ?_
  intro Rb hRb hRn
  refine T_seq ?_
  refine T_region ?_
  refine S_box 2 2 rfl rfl rfl rfl rfl ?_
  intro b2
  refine S_box 3 3 rfl rfl rfl rfl rfl ?_
  intro b3
  refine S_ 4 rfl rfl rfl _ (y_assign rfl rfl) ?_
  refine S_go (fun _ _ h => h) ?_
  refine T_seq ?_
  refine T_seq ?_
  refine T_drawsTail 20 (by kernel_rfl) (by kernel_rfl) ?_
  refine D_ 8 rfl rfl rfl _ (y_fieldAddr rfl rfl fa42_0) ?_
  refine D_ 9 rfl rfl rfl _ (y_load 2 rfl rfl rfl rfl Tryz.underlying9 rfl) ?_
  refine D_ 10 rfl rfl rfl _ (y_fieldAddr rfl rfl fa42_0) ?_
  refine D_ 11 rfl rfl rfl _ (y_load 3 rfl rfl rfl rfl Tryz.underlying9 rfl) ?_
  refine D_ 12 rfl rfl rfl _ (y_call rfl rfl rfl cf96 (fun _ w _ => cmpB_any _ _ w)) ?_
  refine D_ 13 rfl rfl rfl _ (y_fieldAddr rfl rfl fa42_1) ?_
  refine D_ 14 rfl rfl rfl _ (y_load 2 rfl rfl rfl rfl Tryz.underlying3 rfl) ?_
  refine D_ 15 rfl rfl rfl _ (y_fieldAddr rfl rfl fa42_1) ?_
  refine D_ 16 rfl rfl rfl _ (y_load 3 rfl rfl rfl rfl Tryz.underlying3 rfl) ?_
  refine D_ 17 rfl rfl rfl _ (y_call rfl rfl rfl cf97 (fun _ w _ => cmpJ_any _ _ w)) ?_
  refine D_ 18 rfl rfl rfl _ (y_fieldAddr rfl rfl fa42_2) ?_
  refine D_ 19 rfl rfl rfl _ (y_load 2 rfl rfl rfl rfl Tryz.underlying3 rfl) ?_
  refine D_ 20 rfl rfl rfl _ (y_fieldAddr rfl rfl fa42_2) ?_
  refine D_ 21 rfl rfl rfl _ (y_load 3 rfl rfl rfl rfl Tryz.underlying3 rfl) ?_
  refine D_ 22 rfl rfl rfl _ (y_call rfl rfl rfl cf97 (fun _ w _ => cmpJ_any _ _ w)) ?_
  refine D_ 23 rfl rfl rfl _ (y_fieldAddr rfl rfl fa42_3) ?_
  refine D_ 24 rfl rfl rfl _ (y_load 2 rfl rfl rfl rfl Tryz.underlying3 rfl) ?_
  refine D_ 25 rfl rfl rfl _ (y_fieldAddr rfl rfl fa42_3) ?_
  refine D_ 26 rfl rfl rfl _ (y_load 3 rfl rfl rfl rfl Tryz.underlying3 rfl) ?_
  refine D_ 27 rfl rfl rfl _ (y_call rfl rfl rfl cf97 (fun _ w _ => cmpJ_any _ _ w)) ?_
  refine D_tail ?_
  refine S_buildSlice 28 28 rfl rfl rfl rfl rfl Tryz.underlying142 inf3 rfl (by decide) (by decide) rfl rfl (by decide) rfl (_) rfl ?_
  intro b28
  refine S_ 29 rfl rfl rfl _ (y_as (v' := .int .i64 (headC x.says y.says)) (by exact rfl) (y_call rfl rfl rfl cf95 (fun _ w hM => or4_any _ _ (cmpB x.p y.p) (cmpJ x.a y.a) (cmpJ x.b y.b) (cmpJ x.c y.c) w ⟨own_reads hM (i := 28) rfl, rfl⟩))) ?_
  refine S_ 5 rfl rfl rfl _ (y_assign rfl rfl) ?_
  refine S_go (fun _ _ h => h) ?_
  refine T_seq ?_
  refine T_region ?_
  refine S_ 30 rfl rfl rfl _ (y_move rfl rfl) ?_
  refine S_ 31 rfl rfl rfl _ (y_bin rfl rfl rfl (fun _ => b_neq)) ?_
  refine S_go (fun _ _ h => h) ?_
  refine T_cond rfl (fun h31 => ?_) (fun h31 => ?_)
  · skip
    have h31 : headC x.says y.says ≠ 0 := by simpa using h31
    refine T_seq ?_
    refine T_region ?_
    refine S_ 32 rfl rfl rfl _ (y_move rfl rfl) ?_
    refine S_ 4 rfl rfl rfl _ (y_assign rfl rfl) ?_
    refine S_go (fun _ _ h => h) ?_
    refine T_ret (fun a w hF hM => hRb a w (post1 rfl rfl (fun w hM => ?_) a w hF hM))
    exact ⟨by rw [cmpV, if_pos h31], hM.below⟩
  · skip
    have h31 : ¬ headC x.says y.says ≠ 0 := by simpa using h31
    refine T_skip_go (fun _ _ h => h) ?_
    refine T_seq ?_
    refine T_seq ?_
    refine T_draws (by kernel_rfl) (by kernel_rfl) ?_
    refine D_ 33 rfl rfl rfl _ (y_fieldAddr rfl rfl fa42_4) ?_
    refine D_ 34 rfl rfl rfl _ (y_load 2 rfl rfl rfl rfl Tryz.underlying40 rfl) ?_
    refine D_ 35 rfl rfl rfl _ (y_len_slice rfl rfl Tryz.underlying40) ?_
    refine D_ 36 rfl rfl rfl _ (y_bin rfl rfl rfl (fun _ => b_eql)) ?_
    refine D_ 37 rfl rfl rfl _ (y_fieldAddr rfl rfl fa42_4) ?_
    refine D_ 38 rfl rfl rfl _ (y_load 3 rfl rfl rfl rfl Tryz.underlying40 rfl) ?_
    refine D_ 39 rfl rfl rfl _ (y_len_slice rfl rfl Tryz.underlying40) ?_
    refine D_ 40 rfl rfl rfl _ (y_bin rfl rfl rfl (fun _ => b_eql)) ?_
    refine D_ 6 rfl rfl rfl _ (y_assign rfl rfl) ?_
    refine D_ 7 rfl rfl rfl _ (y_assign rfl rfl) ?_
    refine D_go (fun _ _ h => h) ?_
    refine T_block ?_
    refine T_seq ?_
    refine T_region ?_
    refine S_ 42 rfl rfl rfl _ (y_move rfl rfl) ?_
    refine S_ 43 rfl rfl rfl _ (y_move rfl rfl) ?_
    refine Sg_ 44 rfl rfl rfl rfl rfl rfl _ (y_move rfl rfl) ?_
    refine S_ 45 rfl rfl rfl _ (y_and rfl rfl rfl) ?_
    refine S_ 41 rfl rfl rfl _ (y_assign rfl rfl) ?_
    refine S_go (fun _ _ h => h) ?_
    refine T_cond rfl (fun h41 => ?_) (fun h41 => ?_)
    · skip
      refine T_seq ?_
      refine T_region ?_
      refine S_ 4 rfl rfl rfl _ (y_assign rfl rfl) ?_
      refine S_go (fun _ _ h => h) ?_
      refine T_ret (fun a w hF hM => hRb a w (post1 rfl rfl (fun w hM => ?_) a w hF hM))
      simp only [Bool.and_eq_true, decide_eq_true_eq] at h41
      exact ⟨by rw [cmpV, if_neg h31, cmpPre, if_pos (hxn.2 h41.1), if_pos (hyn.2 h41.2)], hM.below⟩
    · skip
      refine T_seq ?_
      refine T_region ?_
      refine S_ 47 rfl rfl rfl _ (y_move rfl rfl) ?_
      refine S_ 46 rfl rfl rfl _ (y_assign rfl rfl) ?_
      refine S_go (fun _ _ h => h) ?_
      refine T_cond rfl (fun h46 => ?_) (fun h46 => ?_)
      · skip
        refine T_seq ?_
        refine T_region ?_
        refine S_ 4 rfl rfl rfl _ (y_assign rfl rfl) ?_
        refine S_go (fun _ _ h => h) ?_
        refine T_ret (fun a w hF hM => hRb a w (post1 rfl rfl (fun w hM => ?_) a w hF hM))
        simp only [Bool.and_eq_false_iff, decide_eq_false_iff_not] at h41
        simp only [decide_eq_true_eq] at h46
        exact ⟨by rw [cmpV, if_neg h31, cmpPre, if_pos (hxn.2 h46), if_neg (fun h => by have := hyn.1 h; omega)], hM.below⟩
      · skip
        refine T_seq ?_
        refine T_region ?_
        refine S_ 49 rfl rfl rfl _ (y_move rfl rfl) ?_
        refine S_ 48 rfl rfl rfl _ (y_assign rfl rfl) ?_
        refine S_go (fun _ _ h => h) ?_
        refine T_cond rfl (fun h48 => ?_) (fun h48 => ?_)
        · skip
          refine T_seq ?_
          refine T_region ?_
          refine S_ 4 rfl rfl rfl _ (y_assign rfl rfl) ?_
          refine S_go (fun _ _ h => h) ?_
          refine T_ret (fun a w hF hM => hRb a w (post1 rfl rfl (fun w hM => ?_) a w hF hM))
          simp only [decide_eq_false_iff_not] at h46
          simp only [decide_eq_true_eq] at h48
          exact ⟨by rw [cmpV, if_neg h31, cmpPre, if_neg (fun h => h46 (hxn.1 h)), if_pos (hyn.2 h48)], hM.below⟩
        · skip
          refine T_skip_go (fun _ _ h => h) ?_
          refine T_seq ?_
          refine T_region ?_
          refine S_ 50 rfl rfl rfl _ (y_fieldAddr rfl rfl fa42_4) ?_
          refine S_ 51 rfl rfl rfl _ (y_load 2 rfl rfl rfl rfl Tryz.underlying40 rfl) ?_
          refine S_ 52 rfl rfl rfl _ (y_fieldAddr rfl rfl fa42_4) ?_
          refine S_ 53 rfl rfl rfl _ (y_load 3 rfl rfl rfl rfl Tryz.underlying40 rfl) ?_
          refine S_ 54 rfl rfl rfl _ (y_call rfl rfl rfl cf98 (fun _ w hM => CmpF_any _ _ _ _ _ _ x.pre.l y.pre.l w (hx.ok.t.below hM.below) (hy.ok.t.below hM.below) hxq hyq hx.n hy.n)) ?_
          refine S_ 4 rfl rfl rfl _ (y_assign rfl rfl) ?_
          refine S_go (fun _ _ h => h) ?_
          refine T_ret (fun a w hF hM => hRb a w (post1 rfl rfl (fun w hM => ?_) a w hF hM))
          simp only [decide_eq_false_iff_not] at h46 h48
          exact ⟨by rw [cmpV, if_neg h31, cmpPre, if_neg (fun h => h46 (hxn.1 h)), if_neg (fun h => h48 (hyn.1 h))]; rfl, hM.below⟩
/-! ### What parse makes, as it lies -/
def svr (p : PVer) (A : Option Addr) (c : Nat) : SVer := ⟨p.p, p.a, p.b, p.c, ⟨A, p.pre.length, c, p.pre⟩⟩
theorem svr_says (p : PVer) (A : Option Addr) (c : Nat) : (svr p A c).says = p := rfl
structure PBound (p : PVer) : Prop where
  n : p.pre.length ≤ 41
  s : ∀ s ∈ p.pre, s.length ≤ 40
  r : p.p.length ≤ 40
  a : 0 ≤ p.a ∧ p.a ≤ 999999
  b : 0 ≤ p.b ∧ p.b ≤ 999999
  c : 0 ≤ p.c ∧ p.c ≤ 999999
theorem pver0_bound : PBound pver0 := ⟨Nat.zero_le _, fun s h => (by cases h), Nat.zero_le _, ⟨Int.le_refl _, by decide⟩, ⟨Int.le_refl _, by decide⟩, ⟨Int.le_refl _, by decide⟩⟩
theorem verV_bound {s : List UInt8} (h : s.length ≤ 40) : PBound (verV s) := by
  have hr : (rsS s).length ≤ 40 := by rw [rsS, List.length_drop]; omega
  have hc := cut_le 45 (rsS s)
  have hn : ∀ w, 0 ≤ numI w ∧ numI w ≤ 999999 := by
    intro w
    unfold numI
    split
    · rename_i hw
      have := (numOk_val hw).2
      omega
    · omega
  refine ⟨?_, fun x hx => ?_, by show (prS s).length ≤ 40; rw [prS, List.length_take]; omega, hn _, hn _, hn _⟩
  · show (preS s).length ≤ 41
    unfold preS
    split
    · exact split_len40 (by omega)
    · exact Nat.zero_le _
  · have hx : x ∈ preS s := hx
    unfold preS at hx
    split at hx
    · have := spl_le 46 _ x hx; omega
    · cases hx
theorem parseR_bound (s : List UInt8) : PBound (parseR s).1 := by
  unfold parseR
  split
  · exact pver0_bound
  · rename_i h
    simp only [Bool.or_eq_true, decide_eq_true_eq, not_or] at h
    split
    · exact pver0_bound
    · split
      · exact pver0_bound
      · exact verV_bound (by omega)
theorem rel_len {s : List UInt8} (h : relOk s = true) : s.length ≤ 40 := ((parse_iff s).1 h).2.1
theorem parE_bound (s : List UInt8) : PBound (parE s).1 := by
  unfold parE
  split
  · rename_i h; exact verV_bound (rel_len h)
  · exact pver0_bound
theorem svr_ok {w : World} {p : PVer} {A : Option Addr} {c : Nat} (hp : PBound p) (h : Sl.Ok strE 1 w ⟨A, p.pre.length, c, p.pre⟩) : VerOk w (svr p A c) := by
  have h1 := hp.a
  have h2 := hp.b
  have h3 := hp.c
  exact ⟨h, Nat.le_trans hp.n (by decide), fun s hs => Nat.le_trans (hp.s s hs) (by decide), Nat.le_trans hp.r (by decide), by show _ ≤ p.a ∧ p.a ≤ _; omega, by show _ ≤ p.b ∧ p.b ≤ _; omega, by show _ ≤ p.c ∧ p.c ≤ _; omega⟩
end Go.Proofs.YtpmlgnbbkpplhaaGreatDoor
end
