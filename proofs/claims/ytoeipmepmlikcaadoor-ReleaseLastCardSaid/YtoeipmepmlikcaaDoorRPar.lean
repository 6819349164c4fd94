/- The release "a-1.0.0" parsed: package release is there. No condition. -/
import Derived.Test.YtoeipmepmlikcaaDoorRVer
namespace Go.Proofs.YtoeipmepmlikcaaDoor
set_option linter.unusedSimpArgs false
set_option linter.unusedVariables false
set_option maxRecDepth 20000
open Go.RowKit Go.Eng
abbrev s100 : List UInt8 := [97, 45, 49, 46, 48, 46, 48]
def ver100 : List Value := [str [97], .int .i64 1, .int .i64 0, .int .i64 0, .slice none 0 0]
theorem indexStr_nil (g : FuncId) (cap : Array Value) (w : World) : Calls Tryd.prog 277 #[.slice none 0 0, .func (.func g) #[] cap] w fun e w' => e = .returned (.int .i64 (-1)) ∧ Below w.heap.size w w' := by
  refine enter_args (args := [.slice none 0 0, .func (.func g) #[] cap]) (F := _) Tryd.func277 rfl Tryd.ntmps277 rfl rfl ?_
  intro Rb hRb hRn
  refine T_seq ?_
  refine T_region ?_
  refine S_ 4 rfl rfl rfl _ (y_assign rfl rfl) ?_
  refine S_go (fun _ _ h => h) ?_
  refine T_seq ?_
  refine T_seq ?_
  refine T_region ?_
  refine S_ 6 rfl rfl rfl _ (y_move rfl rfl) ?_
  refine S_ 7 rfl rfl rfl _ (y_len_slice rfl rfl Tryd.underlying25) ?_
  refine S_ 8 rfl rfl rfl _ (y_move rfl rfl) ?_
  refine S_go (fun _ _ h => h) ?_
  refine T_block ?_
  refine T_loopK1 (kf := [(4, 5), (8, 18)]) (kl := [(4, 5), (8, 18)]) (fun (i : Nat) => [(8, true, .int .i64 (i : Int))]) (fun (i : Nat) => []) (fun (i : Nat) => True) (fun (i : Nat) => 0) 0 (by repeat (first | exact kf_nil | (apply kf_in; focus rfl) | (apply kf_out; focus rfl))) (by repeat (first | exact kl_nil | exact kl_rest (by assumption) rfl | (apply kl_in; focus rfl) | (apply kl_out; focus rfl))) ?_ ?_ ?_ ?_
  · trivial
  · exact ⟨rfl, trivial⟩
  · exact trivial
  rintro i hp1
  refine T_seq ?_
  refine T_region ?_
  refine S_ 9 rfl rfl rfl _ (y_bin rfl rfl rfl (fun _ => b_lss)) ?_
  refine S_go (fun _ _ h => h) ?_
  refine T_seq ?_
  refine T_cond rfl (fun h9 => ?_) (fun h9 => ?_)
  · try simp only [decide_eq_true_eq, decide_eq_false_iff_not, Bool.or_eq_true, Bool.or_eq_false_iff, Bool.and_eq_true, Bool.and_eq_false_iff, Bool.not_eq_true', Bool.not_eq_false', Bool.not_eq_true, Bool.not_eq_false, Bool.not_true, Bool.not_false, Int.not_lt, Int.not_le, not_or, not_and, Classical.not_not] at h9
    omega
  · try simp only [decide_eq_true_eq, decide_eq_false_iff_not, Bool.or_eq_true, Bool.or_eq_false_iff, Bool.and_eq_true, Bool.and_eq_false_iff, Bool.not_eq_true', Bool.not_eq_false', Bool.not_eq_true, Bool.not_eq_false, Bool.not_true, Bool.not_false, Int.not_lt, Int.not_le, not_or, not_and, Classical.not_not] at h9
    refine T_exit_go (fun _ _ h => h) ?_
    refine T_seq ?_
    refine T_region ?_
    refine S_ 4 rfl rfl rfl _ (y_assign rfl rfl) ?_
    refine S_go (fun _ _ h => h) ?_
    refine T_ret (fun a w hF hM => hRb a w (post1 rfl rfl (fun w hM => ?_) a w hF hM))
    exact ⟨rfl, hM.below⟩
theorem containsStr_nil (g : FuncId) (cap : Array Value) (w : World) : Calls Tryd.prog 247 #[.slice none 0 0, .func (.func g) #[] cap] w fun e w' => e = .returned (.bool false) ∧ Below w.heap.size w w' := by
  refine enter_args (args := [.slice none 0 0, .func (.func g) #[] cap]) (F := _) Tryd.func247 rfl Tryd.ntmps247 rfl rfl ?_
  intro Rb hRb hRn
  refine T_seq ?_
  refine T_region ?_
  refine S_ 4 rfl rfl rfl _ (y_assign rfl rfl) ?_
  refine S_go (fun _ _ h => h) ?_
  refine T_seq ?_
  refine T_region ?_
  refine S_ 5 rfl rfl rfl _ (y_move rfl rfl) ?_
  refine S_ 6 rfl rfl rfl _ (y_move rfl rfl) ?_
  refine S_ 7 rfl rfl rfl _ (y_call rfl rfl rfl cf277 (fun _ w _ => indexStr_nil g cap w)) ?_
  refine S_ 8 rfl rfl rfl _ (y_bin rfl rfl rfl (fun _ => b_geq)) ?_
  refine S_ 4 rfl rfl rfl _ (y_assign rfl rfl) ?_
  refine S_go (fun _ _ h => h) ?_
  refine T_ret (fun a w hF hM => hRb a w (post1 rfl rfl (fun w hM => ?_) a w hF hM))
  exact ⟨rfl, hM.below⟩
theorem split100_any (w : World) : Calls Tryd.prog 79 #[str [49, 46, 48, 46, 48], str [46]] w fun e w' => ∃ A q, e = .returned (.slice A 3 q) ∧ w'.ownsRow w.heap.size 9 1 (.slice A 3 q) 3 (([[49], [48], [48]] : List (List UInt8)).flatMap strE) ∧ Below w.heap.size w w' := by
  have h := Split1_any [49, 46, 48, 46, 48] 46 (by decide) w
  rw [show splitC 46 [49, 46, 48, 46, 48] = [[49], [48], [48]] from by decide] at h
  exact h
theorem parse100_any (w : World) : Calls Tryd.prog 197 #[str s100] w fun e w' => e = .returned (.tuple #[.agg ver100.toArray, .bool true]) ∧ Below w.heap.size w w' := by
  refine enter_args (args := [str s100]) (F := _) Tryd.func197 rfl Tryd.ntmps197 rfl rfl ?_
  intro Rb hRb hRn
  refine T_seq ?_
  refine T_region ?_
  refine S_alloc 2 2 rfl rfl rfl rfl z165 ?_
  intro b2
  refine S_ 3 rfl rfl rfl _ (y_assign rfl rfl) ?_
  refine S_go (fun _ _ h => h) ?_
  refine T_seq ?_
  refine T_region ?_
  refine S_ 18 rfl rfl rfl _ (y_move rfl rfl) ?_
  refine S_ 19 rfl rfl rfl _ (y_as (v' := .int .i64 3) (by kernel_rfl) (y_call rfl rfl rfl cf243 (fun _ w _ => IndexByte_any s100 46 w))) ?_
  refine S_ 4 rfl rfl rfl _ (y_assign rfl rfl) ?_
  refine S_go (fun _ _ h => h) ?_
  refine T_seq ?_
  refine T_seq ?_
  refine T_region ?_
  refine S_ 20 rfl rfl rfl _ (y_move rfl rfl) ?_
  refine S_ 21 rfl rfl rfl _ (y_bin rfl rfl rfl (fun _ => b_lss)) ?_
  refine S_ 22 rfl rfl rfl _ (y_move rfl rfl) ?_
  refine Sg_ 23 rfl rfl rfl rfl rfl rfl _ (y_move rfl rfl) ?_
  refine Sg_ 24 rfl rfl rfl rfl rfl rfl _ (y_len_str rfl rfl Tryd.underlying9) ?_
  refine Sg_ 25 rfl rfl rfl rfl rfl rfl _ (y_bin rfl rfl rfl (fun _ => b_gtr)) ?_
  refine S_ 26 rfl rfl rfl _ (y_or rfl rfl rfl) ?_
  refine S_go (fun _ _ h => h) ?_
  refine T_cond rfl (fun h26 => ?_) (fun h26 => ?_)
  · skip
    exact absurd h26 (by decide)
  · skip
    refine T_skip_go (fun _ _ h => h) ?_
    refine T_seq ?_
    refine T_region ?_
    refine S_ 28 rfl rfl rfl _ (y_move rfl rfl) ?_
    refine S_ 29 rfl rfl rfl _ (y_move rfl rfl) ?_
    refine S_ 30 rfl rfl rfl _ (y_as (v' := str [97, 45, 49]) (by exact rfl) (y_strTo rfl rfl rfl Tryd.underlying9 (fun _ => by decide))) ?_
    refine S_ 31 rfl rfl rfl _ (y_as (v' := .int .i64 1) (by kernel_rfl) (y_call rfl rfl rfl cf244 (fun _ w _ => SLast_any [97, 45, 49] 45 (by decide) w))) ?_
    refine S_ 5 rfl rfl rfl _ (y_assign rfl rfl) ?_
    refine S_go (fun _ _ h => h) ?_
    refine T_seq ?_
    refine T_seq ?_
    refine T_region ?_
    refine S_ 32 rfl rfl rfl _ (y_move rfl rfl) ?_
    refine S_ 33 rfl rfl rfl _ (y_bin rfl rfl rfl (fun _ => b_lss)) ?_
    refine S_ 34 rfl rfl rfl _ (y_move rfl rfl) ?_
    refine Sg_ 35 rfl rfl rfl rfl rfl rfl _ (y_move rfl rfl) ?_
    refine Sg_ 36 rfl rfl rfl rfl rfl rfl _ (y_move rfl rfl) ?_
    refine Sg_ 37 rfl rfl rfl rfl rfl rfl _ (y_as (v' := str [97]) (by exact rfl) (y_strTo rfl rfl rfl Tryd.underlying9 (fun _ => by decide))) ?_
    refine Sg_ 38 rfl rfl rfl rfl rfl rfl _ (y_as (v' := .bool true) (by kernel_rfl) (y_call rfl rfl rfl cf245 (fun _ w _ => IsProject_any [97] w))) ?_
    refine Sg_ 39 rfl rfl rfl rfl rfl rfl _ (y_not rfl rfl) ?_
    refine S_ 40 rfl rfl rfl _ (y_or rfl rfl rfl) ?_
    refine S_go (fun _ _ h => h) ?_
    refine T_cond rfl (fun h40 => ?_) (fun h40 => ?_)
    · skip
      exact absurd h40 (by decide)
    · skip
      refine T_skip_go (fun _ _ h => h) ?_
      refine T_seq ?_
      refine T_region ?_
      refine S_ 42 rfl rfl rfl _ (y_move rfl rfl) ?_
      refine S_ 43 rfl rfl rfl _ (y_move rfl rfl) ?_
      refine S_ 44 rfl rfl rfl _ (y_as (v' := str [97]) (by exact rfl) (y_strTo rfl rfl rfl Tryd.underlying9 (fun _ => by decide))) ?_
      refine S_ 45 rfl rfl rfl _ (y_build (zv := .agg #[.string ⟨#[]⟩, .int .i64 0, .int .i64 0, .int .i64 0, .slice none 0 0]) (pl := [(0, 1), (1, 1), (2, 1), (3, 1), (4, 1)]) (out := [_, .int .i64 0, .int .i64 0, .int .i64 0, .slice none 0 0]) rfl rfl Tryd.underlying165 z165 (by kernel_rfl) rfl) ?_
      refine S_alloc 6 6 rfl rfl rfl rfl z165 ?_
      intro b6
      refine S_store 6 rfl rfl rfl rfl rfl rfl sz165 rfl rfl ?_
      refine S_go (fun _ _ h => h) ?_
      refine T_seq ?_
      refine T_region ?_
      refine S_ 47 rfl rfl rfl _ (y_move rfl rfl) ?_
      refine S_ 48 rfl rfl rfl _ (y_move rfl rfl) ?_
      refine S_ 49 rfl rfl rfl _ (y_as (v' := .int .i64 2) (by exact rfl) (y_bin rfl rfl rfl (fun hg => b_add (by omega)))) ?_
      refine S_ 50 rfl rfl rfl _ (y_as (v' := str [49, 46, 48, 46, 48]) (by exact rfl) (y_strFrom rfl rfl rfl Tryd.underlying9 (fun _ => by decide))) ?_
      refine S_ 51 rfl rfl rfl _ (y_as (v' := .tuple #[str [49, 46, 48, 46, 48], str [], .bool false]) (by kernel_rfl) (y_call rfl rfl rfl cf78 (fun _ w _ => Cut1_any [49, 46, 48, 46, 48] 45 w (by decide)))) ?_
      refine S_ 46 rfl rfl rfl _ (y_move rfl rfl) ?_
      refine S_ 52 rfl rfl rfl _ (y_extract rfl rfl rfl) ?_
      refine S_ 53 rfl rfl rfl _ (y_extract rfl rfl rfl) ?_
      refine S_ 54 rfl rfl rfl _ (y_extract rfl rfl rfl) ?_
      refine S_ 7 rfl rfl rfl _ (y_assign rfl rfl) ?_
      refine S_ 8 rfl rfl rfl _ (y_assign rfl rfl) ?_
      refine S_ 9 rfl rfl rfl _ (y_assign rfl rfl) ?_
      refine S_go (fun _ _ h => h) ?_
      refine T_seq ?_
      refine T_region ?_
      refine S_ 55 rfl rfl rfl _ (y_move rfl rfl) ?_
      refine S_callOwn 56 56 rfl rfl rfl rfl rfl rfl rfl cf79 (fun A c => .slice A (3) c) 9 1 (3) (([[49], [48], [48]] : List (List UInt8)).flatMap strE) (fun w hM => split100_any w) ?_
      intro A56 c56
      refine S_ 10 rfl rfl rfl _ (y_assign rfl rfl) ?_
      refine S_go (fun _ _ h => h) ?_
      refine T_seq ?_
      refine T_seq ?_
      refine T_region ?_
      refine S_ 57 rfl rfl rfl _ (y_move rfl rfl) ?_
      refine S_ 58 rfl rfl rfl _ (y_len_slice rfl rfl Tryd.underlying25) ?_
      refine S_ 59 rfl rfl rfl _ (y_bin rfl rfl rfl (fun _ => b_neq)) ?_
      refine S_go (fun _ _ h => h) ?_
      refine T_cond rfl (fun h59 => ?_) (fun h59 => ?_)
      · skip
        exact absurd h59 (by decide)
      · skip
        refine T_skip_go (fun _ _ h => h) ?_
        refine T_seq ?_
        refine T_region ?_
        refine S_ 62 rfl rfl rfl _ (y_move rfl rfl) ?_
        refine S_ 63 rfl rfl rfl _ (y_indexOwnI (j := 0) 56 rfl rfl rfl (fun _ => rfl) rfl Tryd.underlying25 sz9 (fun _ => by omega)) ?_
        refine S_ 64 rfl rfl rfl _ (y_loadO1 56 (val := (fun l : List UInt8 => str l)) rfl rfl rfl rfl (fun _ => (rfl : ([[49], [48], [48]] : List (List UInt8))[0]? = some [49])) Tryd.underlying9 rfl) ?_
        refine S_ 65 rfl rfl rfl _ (y_as (v' := .tuple #[.int .i64 1, .bool true]) (by kernel_rfl) (y_call rfl rfl rfl cf246 (fun _ w _ => number_any [49] (by decide) w))) ?_
        refine S_ 61 rfl rfl rfl _ (y_move rfl rfl) ?_
        refine S_ 66 rfl rfl rfl _ (y_extract rfl rfl rfl) ?_
        refine S_ 67 rfl rfl rfl _ (y_extract rfl rfl rfl) ?_
        refine S_ 11 rfl rfl rfl _ (y_assign rfl rfl) ?_
        refine S_ 12 rfl rfl rfl _ (y_assign rfl rfl) ?_
        refine S_go (fun _ _ h => h) ?_
        refine T_seq ?_
        refine T_region ?_
        refine S_ 69 rfl rfl rfl _ (y_move rfl rfl) ?_
        refine S_ 70 rfl rfl rfl _ (y_indexOwnI (j := 1) 56 rfl rfl rfl (fun _ => rfl) rfl Tryd.underlying25 sz9 (fun _ => by omega)) ?_
        refine S_ 71 rfl rfl rfl _ (y_loadO1 56 (val := (fun l : List UInt8 => str l)) rfl rfl rfl rfl (fun _ => (rfl : ([[49], [48], [48]] : List (List UInt8))[1]? = some [48])) Tryd.underlying9 rfl) ?_
        refine S_ 72 rfl rfl rfl _ (y_as (v' := .tuple #[.int .i64 0, .bool true]) (by kernel_rfl) (y_call rfl rfl rfl cf246 (fun _ w _ => number_any [48] (by decide) w))) ?_
        refine S_ 68 rfl rfl rfl _ (y_move rfl rfl) ?_
        refine S_ 73 rfl rfl rfl _ (y_extract rfl rfl rfl) ?_
        refine S_ 74 rfl rfl rfl _ (y_extract rfl rfl rfl) ?_
        refine S_ 13 rfl rfl rfl _ (y_assign rfl rfl) ?_
        refine S_ 14 rfl rfl rfl _ (y_assign rfl rfl) ?_
        refine S_go (fun _ _ h => h) ?_
        refine T_seq ?_
        refine T_region ?_
        refine S_ 76 rfl rfl rfl _ (y_move rfl rfl) ?_
        refine S_ 77 rfl rfl rfl _ (y_indexOwnI (j := 2) 56 rfl rfl rfl (fun _ => rfl) rfl Tryd.underlying25 sz9 (fun _ => by omega)) ?_
        refine S_ 78 rfl rfl rfl _ (y_loadO1 56 (val := (fun l : List UInt8 => str l)) rfl rfl rfl rfl (fun _ => (rfl : ([[49], [48], [48]] : List (List UInt8))[2]? = some [48])) Tryd.underlying9 rfl) ?_
        refine S_ 79 rfl rfl rfl _ (y_as (v' := .tuple #[.int .i64 0, .bool true]) (by kernel_rfl) (y_call rfl rfl rfl cf246 (fun _ w _ => number_any [48] (by decide) w))) ?_
        refine S_ 75 rfl rfl rfl _ (y_move rfl rfl) ?_
        refine S_ 80 rfl rfl rfl _ (y_extract rfl rfl rfl) ?_
        refine S_ 81 rfl rfl rfl _ (y_extract rfl rfl rfl) ?_
        refine S_ 15 rfl rfl rfl _ (y_assign rfl rfl) ?_
        refine S_ 16 rfl rfl rfl _ (y_assign rfl rfl) ?_
        refine S_go (fun _ _ h => h) ?_
        refine T_seq ?_
        refine T_region ?_
        refine S_ 82 rfl rfl rfl _ (y_move rfl rfl) ?_
        refine S_ 83 rfl rfl rfl _ (y_move rfl rfl) ?_
        refine S_ 84 rfl rfl rfl _ (y_move rfl rfl) ?_
        refine S_ 85 rfl rfl rfl _ (y_fieldAddr rfl rfl fa165_1) ?_
        refine S_store 6 rfl rfl rfl rfl rfl rfl sz3 rfl rfl ?_
        refine S_ 86 rfl rfl rfl _ (y_fieldAddr rfl rfl fa165_2) ?_
        refine S_store 6 rfl rfl rfl rfl rfl rfl sz3 rfl rfl ?_
        refine S_ 87 rfl rfl rfl _ (y_fieldAddr rfl rfl fa165_3) ?_
        refine S_store 6 rfl rfl rfl rfl rfl rfl sz3 rfl rfl ?_
        refine S_go (fun _ _ h => h) ?_
        refine T_seq ?_
        refine T_seq ?_
        refine T_region ?_
        refine S_ 88 rfl rfl rfl _ (y_move rfl rfl) ?_
        refine S_go (fun _ _ h => h) ?_
        refine T_cond rfl (fun h88 => ?_) (fun h88 => ?_)
        · skip
          cases h88
        · skip
          refine T_skip_go (fun _ _ h => h) ?_
          refine T_seq ?_
          refine T_region ?_
          refine S_ 92 rfl rfl rfl _ (y_fieldAddr rfl rfl fa165_4) ?_
          refine S_ 93 rfl rfl rfl _ (y_load 6 rfl rfl rfl rfl Tryd.underlying25 rfl) ?_
          refine S_ 94 rfl rfl rfl _ (y_call rfl rfl rfl cf247 (fun _ w _ => containsStr_nil _ #[] w)) ?_
          refine S_ 17 rfl rfl rfl _ (y_assign rfl rfl) ?_
          refine S_go (fun _ _ h => h) ?_
          refine T_seq ?_
          refine T_perm [0, 1, 2, 3, 4, 5, 6, 7, 8, 9, 10, 11, 12, 13, 14, 15, 16, 17, 18, 19] [true, true, true, true, true, true, true, true, true, true, true, true, true, true, true, true, true, true, false, true] [0, 0, 2, 6, 14, 30, 62, 126, 254, 510, 1022, 2046, 4094, 8190, 16382, 32766, 65534, 131070, 8191, 524287] [(0, [6]), (14, [6])] (by kernel_rfl) (by kernel_rfl) (by kernel_rfl) rfl (by kernel_rfl) ?_
          refine Rf_ 0 95 rfl rfl rfl rfl rfl _ ⟨rfl, trivial⟩ (Y.z (y_loadA 6 rfl rfl rfl Tryd.underlying165 rfl sz165) rfl) ?_
          refine Rf_ 1 96 rfl rfl rfl rfl rfl _ trivial (Y.z (y_move rfl rfl) rfl) ?_
          refine Rf_ 2 97 rfl rfl rfl rfl rfl _ trivial (Y.z (y_move rfl rfl) rfl) ?_
          refine Rfg_ 3 98 rfl rfl rfl rfl rfl rfl rfl rfl _ trivial (Y.z (y_move rfl rfl) rfl) ?_
          refine Rf_ 4 99 rfl rfl rfl rfl rfl _ trivial (Y.z (y_and rfl rfl rfl) rfl) ?_
          refine Rf_ 5 100 rfl rfl rfl rfl rfl _ trivial (Y.z (y_move rfl rfl) rfl) ?_
          refine Rfg_ 6 101 rfl rfl rfl rfl rfl rfl rfl rfl _ trivial (Y.z (y_move rfl rfl) rfl) ?_
          refine Rf_ 7 102 rfl rfl rfl rfl rfl _ trivial (Y.z (y_and rfl rfl rfl) rfl) ?_
          refine Rf_ 8 103 rfl rfl rfl rfl rfl _ trivial (Y.z (y_move rfl rfl) rfl) ?_
          refine Rfg_ 9 104 rfl rfl rfl rfl rfl rfl rfl rfl _ trivial (Y.z (y_move rfl rfl) rfl) ?_
          refine Rfg_ 10 105 rfl rfl rfl rfl rfl rfl rfl rfl _ trivial (Y.z (y_not rfl rfl) rfl) ?_
          refine Rf_ 11 106 rfl rfl rfl rfl rfl _ trivial (Y.z (y_and rfl rfl rfl) rfl) ?_
          refine Rf_ 12 107 rfl rfl rfl rfl rfl _ trivial (Y.z (y_move rfl rfl) rfl) ?_
          refine Rfg_ 13 108 rfl rfl rfl rfl rfl rfl rfl rfl _ trivial (Y.z (y_fieldAddr rfl rfl fa165_4) rfl) ?_
          refine Rfg_ 14 109 rfl rfl rfl rfl rfl rfl rfl rfl _ ⟨rfl, trivial⟩ (Y.z (y_load 6 rfl rfl rfl rfl Tryd.underlying25 rfl) rfl) ?_
          refine Rfg_ 15 110 rfl rfl rfl rfl rfl rfl rfl rfl _ trivial (Z.of (z_len rfl rfl Tryd.underlying25)) ?_
          refine Rfg_ 16 111 rfl rfl rfl rfl rfl rfl rfl rfl _ trivial (Y.z (y_bin rfl rfl rfl (fun _ => b_leq)) rfl) ?_
          refine Rf_ 17 112 rfl rfl rfl rfl rfl _ trivial (Y.z (y_as (v' := .bool true) (by kernel_rfl) (y_and rfl rfl rfl)) rfl) ?_
          refine R_chain 18 rfl rfl ?_
          refine S_store 2 rfl rfl rfl rfl rfl rfl sz165 rfl rfl ?_
          refine R_next ⟨.inl rfl, .inr ⟨rfl, trivial⟩, trivial⟩ ?_
          refine Rf_ 19 3 rfl rfl rfl rfl rfl _ trivial (Y.z (y_assign rfl rfl) rfl) ?_
          refine R_go (fun _ _ h => h) ?_
          refine T_ret (fun a w hF hM => hRb a w (post_cell 2 rfl rfl rfl rfl Tryd.underlying165 rfl (by exact sz165) (fun w hM => ?_) a w hF hM))
          exact ⟨rfl, hM.below⟩
theorem Parse100_any (w : World) : Calls Tryd.prog 128 #[str s100] w fun e w' => e = .returned (.tuple #[.agg ver100.toArray, .int .i64 0]) ∧ Below w.heap.size w w' := by
  refine enter_args (args := [str s100]) (F := _) Tryd.func128 rfl Tryd.ntmps128 rfl rfl ?_
  intro Rb hRb hRn
  refine T_seq ?_
  refine T_region ?_
  refine S_alloc 2 2 rfl rfl rfl rfl z165 ?_
  intro b2
  refine S_ 3 rfl rfl rfl _ (y_assign rfl rfl) ?_
  refine S_go (fun _ _ h => h) ?_
  refine T_seq ?_
  refine T_region ?_
  refine S_ 7 rfl rfl rfl _ (y_move rfl rfl) ?_
  refine S_ 8 rfl rfl rfl _ (y_call rfl rfl rfl cf197 (fun _ w _ => parse100_any w)) ?_
  refine S_ 6 rfl rfl rfl _ (y_move rfl rfl) ?_
  refine S_ 9 rfl rfl rfl _ (y_extract rfl rfl rfl) ?_
  refine S_ 10 rfl rfl rfl _ (y_extract rfl rfl rfl) ?_
  refine S_alloc 4 4 rfl rfl rfl rfl z165 ?_
  intro b4
  refine S_store 4 rfl rfl rfl rfl rfl rfl sz165 rfl rfl ?_
  refine S_ 5 rfl rfl rfl _ (y_assign rfl rfl) ?_
  refine S_go (fun _ _ h => h) ?_
  refine T_seq ?_
  refine T_seq ?_
  refine T_region ?_
  refine S_ 11 rfl rfl rfl _ (y_move rfl rfl) ?_
  refine S_ 12 rfl rfl rfl _ (y_not rfl rfl) ?_
  refine S_go (fun _ _ h => h) ?_
  refine T_cond rfl (fun h12 => ?_) (fun h12 => ?_)
  · skip
    cases h12
  · skip
    refine T_skip_go (fun _ _ h => h) ?_
    refine T_seq ?_
    refine T_region ?_
    refine S_ 14 rfl rfl rfl _ (y_loadA 4 rfl rfl rfl Tryd.underlying165 rfl sz165) ?_
    refine S_store 2 rfl rfl rfl rfl rfl rfl sz165 rfl rfl ?_
    refine S_ 3 rfl rfl rfl _ (y_assign rfl rfl) ?_
    refine S_go (fun _ _ h => h) ?_
    refine T_ret (fun a w hF hM => hRb a w (post_cell 2 rfl rfl rfl rfl Tryd.underlying165 rfl (by exact sz165) (fun w hM => ?_) a w hF hM))
    exact ⟨rfl, hM.below⟩
theorem awakeRelease_any (w : World) : Calls Tryd.prog 56 #[] w fun e w' => e = .returned (.bool true) ∧ Below w.heap.size w w' := by
  refine enter_args (args := []) (F := _) Tryd.func56 rfl Tryd.ntmps56 rfl rfl ?_
  intro Rb hRb hRn
  refine T_seq ?_
  refine T_region ?_
  refine S_ 0 rfl rfl rfl _ (y_assign rfl rfl) ?_
  refine S_go (fun _ _ h => h) ?_
  refine T_seq ?_
  refine T_region ?_
  refine S_ 4 rfl rfl rfl _ (y_call rfl rfl rfl cf128 (fun _ w _ => Parse100_any w)) ?_
  refine S_ 3 rfl rfl rfl _ (y_move rfl rfl) ?_
  refine S_ 5 rfl rfl rfl _ (y_extract rfl rfl rfl) ?_
  refine S_ 6 rfl rfl rfl _ (y_extract rfl rfl rfl) ?_
  refine S_alloc 1 1 rfl rfl rfl rfl z165 ?_
  intro b1
  refine S_store 1 rfl rfl rfl rfl rfl rfl sz165 rfl rfl ?_
  refine S_ 2 rfl rfl rfl _ (y_assign rfl rfl) ?_
  refine S_go (fun _ _ h => h) ?_
  refine T_seq ?_
  refine T_region ?_
  refine S_ 7 rfl rfl rfl _ (y_move rfl rfl) ?_
  refine S_ 8 rfl rfl rfl _ (y_bin rfl rfl rfl (fun _ => b_eql)) ?_
  refine S_ 9 rfl rfl rfl _ (y_move rfl rfl) ?_
  refine Sg_ 10 rfl rfl rfl rfl rfl rfl _ (y_fieldAddr rfl rfl fa165_1) ?_
  refine Sg_ 11 rfl rfl rfl rfl rfl rfl _ (y_load 1 rfl rfl rfl rfl Tryd.underlying3 rfl) ?_
  refine Sg_ 12 rfl rfl rfl rfl rfl rfl _ (y_bin rfl rfl rfl (fun _ => b_eql)) ?_
  refine S_ 13 rfl rfl rfl _ (y_and rfl rfl rfl) ?_
  refine S_ 0 rfl rfl rfl _ (y_assign rfl rfl) ?_
  refine S_go (fun _ _ h => h) ?_
  refine T_ret (fun a w hF hM => hRb a w (post1 rfl rfl (fun w hM => ?_) a w hF hM))
  exact ⟨by kernel_rfl, hM.below⟩
end Go.Proofs.YtoeipmepmlikcaaDoor
