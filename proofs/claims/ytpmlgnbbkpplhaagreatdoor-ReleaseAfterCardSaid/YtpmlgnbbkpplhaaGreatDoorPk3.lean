/- Part 3, merged by a program. Sorted, Latest, After, and the reference's SortedReleases, LatestOf, AfterOf, walked. Conditions: those of each theorem. States of groups: CheckState and StateFault, comesBack and after, resolvedAgain and SeenState, walked. Conditions: those of each theorem. The best of releases: best, greatest, Latest, After, and the reference's LatestOf, AfterOf, walked. Conditions: those of each theorem. VersionText, and the law ReleaseVersions, walked. Conditions: those of each theorem. LatestOf and AfterOf, and the law ReleaseLists, walked. Conditions: those of each theorem. The law ReleaseOrder walked. Conditions: those of the theorem. The law ReleaseAfter walked. Conditions: those of each theorem. Events opened: from the form's reading to 'Evt.Ok'. No condition. A world in which the listed tables of Go's hold what their text says, and what a row's condition says of the table of trailing noughts. No condition. A world in which the listed tables hold what their text says, and the two errors of strconv lie as their initialisers lay them. No condition. -/
import Derived.Test.YtpmlgnbbkpplhaaGreatDoorPost
import Derived.Test.YtpmlgnbbkpplhaaGreatDoorOpen
import Derived.Test.YtpmlgnbbkpplhaaGreatDoorCards
import Derived.Test.YtpmlgnbbkpplhaaGreatDoorTie
import Derived.Deep.DeepHandedRow
import Derived.Lib.LaidTab
import Derived.Stop.LaidErr
import Derived.ProofKit
import Derived.OpenShut
import Derived.Test.YtpmlgnbbkpplhaaGreatDoorPk2
section
namespace Go.Proofs.YtpmlgnbbkpplhaaGreatDoor
set_option linter.unusedSimpArgs false
set_option linter.unusedVariables false
set_option maxRecDepth 20000
open Go.RowKit Go.Eng
theorem S_keepL {P : Program} {w0 : World} {n : Nat} {ops : Array Oper} {l : List Oper} {F : FL} {L : HL} {Q : Exit → Act → World → Prop} (ks : List (Nat × Nat)) (KL : HL) (hK : KeepL ks L KL) (h : S P w0 n ops l F KL Q) : S P w0 n ops l F L Q := fun a w hF hM => h a w hF (hM.keep hK [] trivial)
def srtR (S : List (List UInt8)) : List (List UInt8) := if allNo S = 0 then cptF [] (srtL S) else []
theorem last_at {out : List (List UInt8)} (h : 0 < out.length) : out[out.length - 1]? = some (out.getLastD []) ∧ out.getLast? = some (out.getLastD []) := by
  rw [← List.getLast?_eq_getElem?]
  cases out with
  | nil => simp at h
  | cons a r => simp [List.getLast?_cons, List.getLastD_eq_getLast?]
theorem srt_len (S : List (List UInt8)) : (srtL S).length = S.length := (srt_perm S).length_eq
set_option maxHeartbeats 1600000 in
theorem Sorted_any (A : Option Addr) (q c : Nat) (S : List (List UInt8)) (w : World) (hS : SlT strE 1 w A q S) (hP : P10 w) :
    Calls Tryz.prog 33 #[.slice A q c] w fun e w' => ∃ A' c', e = .returned (.tuple #[.slice A' (srtR S).length c', .int .i64 (allNo S)]) ∧ w'.ownsRow w.heap.size 9 1 (.slice A' (srtR S).length c') (srtR S).length ((srtR S).flatMap strE) ∧ Below w.heap.size w w' := by
  refine enter_args (args := [.slice A q c]) (F := _) Tryz.func33 rfl Tryz.ntmps33 rfl rfl ?_
  intro Rb hRb hRn
  refine T_seq ?_
  refine T_region ?_
  refine S_nilSlice 2 (e := 9) (size := 1) ?_
  refine S_ 2 rfl rfl rfl _ (y_assign rfl rfl) ?_
  refine S_ 3 rfl rfl rfl _ (y_assign rfl rfl) ?_
  refine S_go (fun _ _ h => h) ?_
  refine T_seq ?_
  refine T_region ?_
  refine S_ 13 rfl rfl rfl _ (y_move rfl rfl) ?_
  refine S_callN 14 [] [(4, 904), (900, 920)] (X := AllR) rfl rfl rfl rfl rfl rfl rfl cf110 rfl (fun z => .tuple #[.slice z.A z.l.length z.c, .int .i64 (allNo S)]) (fun z => z.Ok w S) (fun z => [(4, .own 42 5 (.slice z.A z.l.length z.c) z.l.length (z.l.flatMap SVer.enc)), (900, .many z.rs)]) (fun _ => rfl) (fun _ => rfl) (fun K1 hK1 w1 hM => parseAll_any hK1 A q c S w1 hS hM) ?_
  intro x14 hx14
  refine S_ 12 rfl rfl rfl _ (y_move rfl rfl) ?_
  refine S_ 15 rfl rfl rfl _ (y_extract rfl rfl rfl) ?_
  refine S_ 16 rfl rfl rfl _ (y_extract rfl rfl rfl) ?_
  refine S_ 4 rfl rfl rfl _ (y_assign rfl rfl) ?_
  refine S_ 5 rfl rfl rfl _ (y_assign rfl rfl) ?_
  refine S_go (fun _ _ h => h) ?_
  refine T_seq ?_
  refine T_seq ?_
  refine T_region ?_
  refine S_ 17 rfl rfl rfl _ (y_move rfl rfl) ?_
  refine S_ 18 rfl rfl rfl _ (y_bin rfl rfl rfl (fun _ => b_neq)) ?_
  refine S_go (fun _ _ h => h) ?_
  refine T_cond rfl (fun h18 => ?_) (fun h18 => ?_)
  · try simp only [decide_eq_true_eq, decide_eq_false_iff_not, Bool.or_eq_true, Bool.or_eq_false_iff, Bool.and_eq_true, Bool.and_eq_false_iff, Bool.not_eq_true', Bool.not_eq_false', Bool.not_eq_true, Bool.not_eq_false, Bool.not_true, Bool.not_false, Int.not_lt, Int.not_le, not_or, not_and, Classical.not_not] at h18
    have hr : srtR S = [] := if_neg h18
    refine T_seq ?_
    refine T_region ?_
    refine S_ 19 rfl rfl rfl _ (y_move rfl rfl) ?_
    refine S_nilSlice 2 (e := 9) (size := 1) ?_
    refine S_ 2 rfl rfl rfl _ (y_assign rfl rfl) ?_
    refine S_ 3 rfl rfl rfl _ (y_assign rfl rfl) ?_
    refine S_go (fun _ _ h => h) ?_
    refine T_ret (fun a w hF hM => hRb a w (post2 rfl rfl rfl (fun w hM => ?_) a w hF hM))
    rw [hr]
    exact ⟨none, 0, rfl, World.ownsRow_nil _ _ _ _, hM.below⟩
  · try simp only [decide_eq_true_eq, decide_eq_false_iff_not, Bool.or_eq_true, Bool.or_eq_false_iff, Bool.and_eq_true, Bool.and_eq_false_iff, Bool.not_eq_true', Bool.not_eq_false', Bool.not_eq_true, Bool.not_eq_false, Bool.not_true, Bool.not_false, Int.not_lt, Int.not_le, not_or, not_and, Classical.not_not] at h18
    have h18 : allNo S = 0 := h18
    have hal := all_ok h18
    have hxl := AllR.len hx14
    refine T_skip_go (fun _ _ h => h) ?_
    refine T_seq ?_
    refine T_region ?_
    refine S_ 20 rfl rfl rfl _ (y_move rfl rfl) ?_
    refine S_callM 21 [(0, 904), (1, 920)] (X := List SVer) rfl rfl rfl rfl rfl rfl rfl cf113 rfl (fun _ => .tuple #[]) (fun l => l.Perm x14.l ∧ l.Pairwise fun (x y : SVer) => cmpV x.says y.says ≤ 0) (fun l => [(0, .own 42 5 (.slice x14.A x14.l.length x14.c) x14.l.length (l.flatMap SVer.enc)), (1, .many x14.rs)]) (fun _ => rfl) (fun _ => rfl) (fun K1 hK1 w1 hM => SortV_any _ _ _ x14.l x14.rs w1 rfl (by omega) hx14.n hM) ?_
    intro x21 hx21
    refine S_go (fun _ _ h => h) ?_
    refine T_seq ?_
    refine T_region ?_
    refine S_keepL [(0, 2)] [(904, .own 42 5 (.slice x14.A x14.l.length x14.c) x14.l.length (x21.flatMap SVer.enc)), (920, .many x14.rs)] (by repeat (first | exact kl_none | refine kl_cons rfl rfl ?_)) ?_
    obtain ⟨hpm, hpw⟩ := hx21
    have hvl : x21.length = x14.l.length := hpm.length_eq
    have hsm : x14.l.map SVer.says = S.map verV := by have := hx14.says; rw [if_pos h18] at this; exact this
    have hgood : ∀ v ∈ x14.l, VRight v.says ∧ (verT v.says).length ≤ 40 := fun v hv => by
      have h1 : v.says ∈ S.map verV := by rw [← hsm]; exact List.mem_map_of_mem hv
      obtain ⟨s, hs, e⟩ := List.mem_map.1 h1
      rw [← e]
      exact ⟨ver_right (hal.2 s hs), by rw [verT_of (hal.2 s hs)]; exact rel_len (hal.2 s hs)⟩
    have hsrt : (x21.map fun v => verT v.says) = srtL S := by
      have h1 := srt_vers (V := x21.map SVer.says) hal.2 (by rw [← hsm]; exact hpm.map _) (by rw [List.pairwise_map]; exact hpw)
      rw [List.map_map] at h1; exact h1
    refine S_nilSlice 6 (e := 9) (size := 1) ?_
    refine S_ 6 rfl rfl rfl _ (y_assign rfl rfl) ?_
    refine S_go (fun _ _ h => h) ?_
    refine T_seq ?_
    refine T_seq ?_
    refine T_region ?_
    refine S_ 22 rfl rfl rfl _ (y_move rfl rfl) ?_
    refine S_ 23 rfl rfl rfl _ (y_len_slice rfl rfl Tryz.underlying146) ?_
    refine S_ 24 rfl rfl rfl _ (y_move rfl rfl) ?_
    refine S_go (fun _ _ h => h) ?_
    refine T_block ?_
    refine T_loopK4 (kf := [(6, 6), (8, 11), (24, 50)]) (kl := [(6, 6), (8, 11), (24, 50)]) (fun (i : Nat) (out : List (List UInt8)) (A6 : Option Addr) (c6 : Nat) => [(24, true, .int .i64 (i : Int)), (6, true, .slice A6 out.length c6)]) (fun (i : Nat) (out : List (List UInt8)) (A6 : Option Addr) (c6 : Nat) => [(6, .own 9 1 (.slice A6 out.length c6) out.length (out.flatMap strE))]) (fun (i : Nat) (out : List (List UInt8)) (A6 : Option Addr) (c6 : Nat) => i ≤ x14.l.length ∧ cptF out ((x21.map fun v => verT v.says).drop i) = cptF [] (x21.map fun v => verT v.says) ∧ out.length ≤ i) (fun (i : Nat) (out : List (List UInt8)) (A6 : Option Addr) (c6 : Nat) => x14.l.length - i) 0 [] none 0 (by repeat (first | exact kf_nil | (apply kf_in; focus rfl) | (apply kf_out; focus rfl))) (by repeat (first | exact kl_nil | exact kl_rest (by assumption) rfl | (apply kl_in; focus rfl) | (apply kl_out; focus rfl))) ?_ ?_ ?_ ?_
    · exact ⟨by omega, rfl, Nat.le_refl _⟩
    · exact ⟨rfl, rfl, trivial⟩
    · exact ⟨rfl, trivial⟩
    rintro i out A6 c6 ⟨hp1, hp2, hp3⟩
    refine T_seq ?_
    refine T_region ?_
    refine S_ 25 rfl rfl rfl _ (y_bin rfl rfl rfl (fun _ => b_lss)) ?_
    refine S_go (fun _ _ h => h) ?_
    refine T_seq ?_
    refine T_cond rfl (fun h25 => ?_) (fun h25 => ?_)
    · try simp only [decide_eq_true_eq, decide_eq_false_iff_not, Bool.or_eq_true, Bool.or_eq_false_iff, Bool.and_eq_true, Bool.and_eq_false_iff, Bool.not_eq_true', Bool.not_eq_false', Bool.not_eq_true, Bool.not_eq_false, Bool.not_true, Bool.not_false, Int.not_lt, Int.not_le, not_or, not_and, Classical.not_not] at h25
      obtain ⟨v, hv1⟩ : ∃ v, x21[i]? = some v := ⟨_, List.getElem?_eq_getElem (by omega)⟩
      have hvm : v ∈ x14.l := hpm.subset (List.mem_of_getElem? hv1)
      obtain ⟨hvr, hvt⟩ := hgood v hvm
      have hdr : (x21.map fun v => verT v.says).drop i = verT v.says :: (x21.map fun v => verT v.says).drop (i + 1) := List.drop_eq_getElem?_toList_append.trans (by rw [List.getElem?_map, hv1]; rfl)
      refine T_skip_go (fun _ _ h => h) ?_
      refine T_seq ?_
      refine T_block ?_
      refine T_seq ?_
      refine T_region ?_
      refine S_ 26 rfl rfl rfl _ (y_indexOwn 904 rfl rfl rfl rfl Tryz.underlying146 sz42 (fun _ => by omega)) ?_
      refine S_ 27 rfl rfl rfl _ (y_loadO 904 rfl rfl rfl hvl (fun _ => rfl) (fun _ => hv1) Tryz.underlying42 rfl sz42) ?_
      refine S_alloc 8 8 rfl rfl rfl rfl z42 ?_
      intro b8
      refine S_store 8 rfl rfl rfl rfl rfl rfl sz42 rfl rfl ?_
      refine S_go (fun _ _ h => h) ?_
      refine T_seq ?_
      refine T_region ?_
      refine S_ 29 rfl rfl rfl _ (y_loadA 8 rfl rfl rfl Tryz.underlying42 rfl sz42) ?_
      refine S_ 30 rfl rfl rfl _ (y_as (v' := .tuple #[str (verT v.says), .int .i64 0]) (by rw [right_txt hvr hvt]) (y_call rfl rfl rfl cf19 (fun _ w hM => Text_any v w ((hx14.n v hvm).at hM 920 rfl) (hP.below hM.below)))) ?_
      refine S_ 28 rfl rfl rfl _ (y_move rfl rfl) ?_
      refine S_ 31 rfl rfl rfl _ (y_extract rfl rfl rfl) ?_
      refine S_ 32 rfl rfl rfl _ (y_extract rfl rfl rfl) ?_
      refine S_ 9 rfl rfl rfl _ (y_assign rfl rfl) ?_
      refine S_ 10 rfl rfl rfl _ (y_assign rfl rfl) ?_
      refine S_go (fun _ _ h => h) ?_
      refine T_seq ?_
      refine T_region ?_
      refine S_ 33 rfl rfl rfl _ (y_move rfl rfl) ?_
      refine S_ 34 rfl rfl rfl _ (y_len_slice rfl rfl Tryz.underlying40) ?_
      refine S_ 11 rfl rfl rfl _ (y_assign rfl rfl) ?_
      refine S_go (fun _ _ h => h) ?_
      refine T_seq ?_
      refine T_region ?_
      refine S_ 35 rfl rfl rfl _ (y_move rfl rfl) ?_
      refine S_ 36 rfl rfl rfl _ (y_bin rfl rfl rfl (fun _ => b_eql)) ?_
      refine S_ 37 rfl rfl rfl _ (y_move rfl rfl) ?_
      refine Sg_ 38 rfl rfl rfl rfl rfl rfl _ (y_move rfl rfl) ?_
      refine Sg_ 39 rfl rfl rfl rfl rfl rfl _ (y_move rfl rfl) ?_
      refine Sg_ 40 rfl rfl rfl rfl rfl rfl _ (y_bin rfl rfl rfl (fun hg => b_subv (((out.length - 1 : Nat) : Int)) (by simp only [Bool.true_and, Bool.and_eq_true, beq_iff_eq, decide_eq_true_eq, decide_eq_false_iff_not, Int.not_lt, Int.not_le] at hg; omega) (by simp only [Bool.true_and, Bool.and_eq_true, beq_iff_eq, decide_eq_true_eq, decide_eq_false_iff_not, Int.not_lt, Int.not_le] at hg; omega))) ?_
      refine Sg_ 41 rfl rfl rfl rfl rfl rfl _ (y_indexOwnI (j := out.length - 1) 6 rfl rfl rfl (fun hg => by simp only [Bool.true_and, Bool.and_eq_true, beq_iff_eq, decide_eq_true_eq, decide_eq_false_iff_not, Int.not_lt, Int.not_le] at hg; omega) rfl Tryz.underlying40 sz9 (fun hg => by simp only [Bool.true_and, Bool.and_eq_true, beq_iff_eq, decide_eq_true_eq, decide_eq_false_iff_not, Int.not_lt, Int.not_le] at hg; omega)) ?_
      refine Sg_ 42 rfl rfl rfl rfl rfl rfl _ (y_loadO1 6 (val := (fun l : List UInt8 => str l)) rfl rfl rfl rfl (fun hg => (last_at (by simp only [Bool.true_and, Bool.and_eq_true, beq_iff_eq, decide_eq_true_eq, decide_eq_false_iff_not, Int.not_lt, Int.not_le] at hg; omega)).1) Tryz.underlying9 rfl) ?_
      refine Sg_ 43 rfl rfl rfl rfl rfl rfl _ (y_move rfl rfl) ?_
      refine Sg_ 44 rfl rfl rfl rfl rfl rfl _ (y_bin rfl rfl rfl (fun _ => b_neqs)) ?_
      refine S_ 45 rfl rfl rfl _ (y_or rfl rfl rfl) ?_
      refine S_go (fun _ _ h => h) ?_
      refine T_cond rfl (fun h45 => ?_) (fun h45 => ?_)
      · skip
        have hne : ¬ out.getLast? = some (verT v.says) := by
          intro e
          have hpos : 0 < out.length := by cases out with
            | nil => simp at e
            | cons a r => simp
          rw [(last_at hpos).2] at e
          rw [Option.some.inj e] at h45
          simp at h45
          rw [h45] at hpos; simp at hpos
        refine T_region ?_
        refine S_ 46 rfl rfl rfl _ (y_move rfl rfl) ?_
        refine S_ 47 rfl rfl rfl _ (y_move rfl rfl) ?_
        refine S_buildSlice 48 48 rfl rfl rfl rfl rfl Tryz.underlying40 inf9 rfl (by decide) (by decide) rfl rfl (by decide) rfl (_) rfl ?_
        intro b48
        obtain ⟨i49, hi49, hz49, hs49, hy49⟩ := info_parts inf9
        refine S_append 49 6 48 rfl rfl rfl rfl rfl rfl rfl rfl Tryz.underlying40 hi49 hz49 hs49 hy49 rfl (by decide) (by decide) rfl ?_ ?_ ((out ++ [verT v.says]).length) ((out ++ [verT v.says]).flatMap strE) ?_ ?_ ?_
        · (simp only [maxLen]; omega)
        · omega
        · simp
        · simp [List.flatMap_append]; rfl
        intro A49 c49
        refine S_ 6 rfl rfl rfl _ (y_assign rfl rfl) ?_
        refine S_go (fun _ _ h => h) ?_
        refine T_region ?_
        refine S_ 50 rfl rfl rfl _ (y_bin rfl rfl rfl (fun hg => b_add (by omega))) ?_
        refine S_ 24 rfl rfl rfl _ (y_move rfl rfl) ?_
        refine S_nil (nextK4 (kf := [(6, 6), (8, 11), (24, 50)]) (kl := [(6, 6), (8, 11), (24, 50)]) (i + 1) (out ++ [verT v.says]) A49 c49 (by repeat (first | exact kf_nil | (apply kf_in; focus rfl) | (apply kf_out; focus rfl))) (by repeat (first | exact kl_none | exact kl_tail (by assumption) rfl (by repeat (first | exact ti_refl | (apply ti_cons; focus rfl))) | refine kl_cons rfl rfl ?_)) ?_ ?_ ?_ ?_)
        · omega
        · exact ⟨by omega, by rw [← hp2, hdr, cptF, if_neg hne], by rw [List.length_append, List.length_singleton]; omega⟩
        · exact ⟨rfl, rfl, trivial⟩
        · exact ⟨rfl, trivial⟩
      · skip
        have heq : out.getLast? = some (verT v.says) := by
          simp only [Bool.or_eq_false_iff, decide_eq_false_iff_not, Bool.not_eq_false', decide_eq_true_eq] at h45
          rw [(last_at (by omega)).2, h45.2]
        refine T_skip_go (fun _ _ h => h) ?_
        refine T_region ?_
        refine S_ 50 rfl rfl rfl _ (y_bin rfl rfl rfl (fun hg => b_add (by omega))) ?_
        refine S_ 24 rfl rfl rfl _ (y_move rfl rfl) ?_
        refine S_nil (nextK4 (kf := [(6, 6), (8, 11), (24, 50)]) (kl := [(6, 6), (8, 11), (24, 50)]) (i + 1) out A6 c6 (by repeat (first | exact kf_nil | (apply kf_in; focus rfl) | (apply kf_out; focus rfl))) (by repeat (first | exact kl_none | exact kl_tail (by assumption) rfl (by repeat (first | exact ti_refl | (apply ti_cons; focus rfl))) | refine kl_cons rfl rfl ?_)) ?_ ?_ ?_ ?_)
        · omega
        · exact ⟨by omega, by rw [← hp2, hdr, cptF, if_pos heq], by omega⟩
        · exact ⟨rfl, rfl, trivial⟩
        · exact ⟨rfl, trivial⟩
    · try simp only [decide_eq_true_eq, decide_eq_false_iff_not, Bool.or_eq_true, Bool.or_eq_false_iff, Bool.and_eq_true, Bool.and_eq_false_iff, Bool.not_eq_true', Bool.not_eq_false', Bool.not_eq_true, Bool.not_eq_false, Bool.not_true, Bool.not_false, Int.not_lt, Int.not_le, not_or, not_and, Classical.not_not] at h25
      refine T_exit_go (fun _ _ h => h) ?_
      refine T_seq ?_
      refine T_region ?_
      refine S_ 51 rfl rfl rfl _ (y_move rfl rfl) ?_
      refine S_ 2 rfl rfl rfl _ (y_assign rfl rfl) ?_
      refine S_ 3 rfl rfl rfl _ (y_assign rfl rfl) ?_
      refine S_go (fun _ _ h => h) ?_
      refine T_ret (fun a w hF hM => hRb a w (post2 rfl rfl rfl (fun w hM => ?_) a w hF hM))
      have hfin : out = srtR S := by
        rw [srtR, if_pos h18, ← hsrt, ← hp2, List.drop_eq_nil_of_le (by rw [List.length_map]; omega)]; rfl
      subst hfin
      rw [h18]
      exact ⟨A6, c6, rfl, hM.sat 6 _ rfl, hM.below⟩
end Go.Proofs.YtpmlgnbbkpplhaaGreatDoor
end
section
namespace Go.Proofs.YtpmlgnbbkpplhaaGreatDoor
set_option linter.unusedSimpArgs false
set_option linter.unusedVariables false
set_option maxRecDepth 20000
open Go.RowKit Go.Eng
structure PSt where
  k : Int
  at_ : Int
  inn : List UInt8
  nx : Bool
  till : Int
  more : Int
  ppl : Int
  again : Int
def PSt.enc (s : PSt) : List Value := [.int .i64 s.k, .int .i64 s.at_, str s.inn, .bool s.nx, .int .i64 s.till, .int .i64 s.more, .int .i64 s.ppl, .int .i64 s.again]
abbrev PSt.val (s : PSt) : Value := .agg #[.int .i64 s.k, .int .i64 s.at_, str s.inn, .bool s.nx, .int .i64 s.till, .int .i64 s.more, .int .i64 s.ppl, .int .i64 s.again]
/-- a block's cells, as they stand for good -/
abbrev CellsAt (w : World) (b : Nat) (cs : List Value) : Prop := (∀ j u, cs[j]? = some u → w.cell? ((⟨b, 0, none⟩ : Addr).add j) = some u) ∧ b < w.heap.size
theorem CellsAt.one {w : World} {b j : Nat} {cs : List Value} {u : Value} (h : CellsAt w b cs) (hj : cs[j]? = some u) : w.cell? ((⟨b, 0, none⟩ : Addr).add j) = some u ∧ ((⟨b, 0, none⟩ : Addr).add j).block < w.heap.size := ⟨h.1 j u hj, by rw [block_of_add]; exact h.2⟩
def opened (s : PSt) (at_ : Int) : PSt := ⟨1, at_, [], false, -1, -1, -1, min (s.again + 1) 1000000⟩
end Go.Proofs.YtpmlgnbbkpplhaaGreatDoor
end
section
namespace Go.Proofs.YtpmlgnbbkpplhaaGreatDoor
set_option linter.unusedSimpArgs false
set_option linter.unusedVariables false
set_option maxRecDepth 20000
open Go.RowKit Go.Eng
theorem beats_eq {α : Type} (cf : α → α → Int) (d x : α) (o : Option α) : (!o.isSome || decide (cf x (o.getD d) < 0)) = beats (fun x y => decide (cf x y < 0)) x o := by cases o <;> rfl
set_option maxHeartbeats 1600000 in
theorem best_any (vs : Sl SVer) (gt go : FuncId) (capt capo : Array Value) (p : SVer → Bool) (cf : SVer → SVer → Int) (w : World) (hv : VersR w vs) (hcf1 : ∀ args w, (callFunc gt args).run Tryz.prog w = .ok (.enter gt args) w) (hcf2 : ∀ args w, (callFunc go args).run Tryz.prog w = .ok (.enter go args) w)
    (hA : ∀ x ∈ vs.l, ∀ w', Below w.heap.size w w' → Calls Tryz.prog gt (#[x.val] ++ capt) w' fun e w'' => e = .returned (.bool (p x)) ∧ Below w'.heap.size w' w'')
    (hB : ∀ x y w', VerOk w' x → VerOk w' y → Calls Tryz.prog go (#[x.val, y.val] ++ capo) w' fun e w'' => e = .returned (.int .i64 (cf x y)) ∧ Below w'.heap.size w' w'') :
    Calls Tryz.prog 114 #[.slice vs.A vs.q vs.c, .func (.func gt) #[] capt, .func (.func go) #[] capo] w fun e w' => e = .returned (.tuple #[((bestF p (fun x y => decide (cf x y < 0)) vs.l none).getD ver0).val, .bool (bestF p (fun x y => decide (cf x y < 0)) vs.l none).isSome]) ∧ Below w.heap.size w w' := by
  have ht := hv.ok.t
  have hq := hv.q
  refine enter_args (args := [.slice vs.A vs.q vs.c, .func (.func gt) #[] capt, .func (.func go) #[] capo]) (F := _) Tryz.func114 rfl Tryz.ntmps114 rfl rfl ?_
  intro Rb hRb hRn
  refine T_seq ?_
  refine T_region ?_
  refine S_alloc 6 6 rfl rfl rfl rfl z42 ?_
  intro b6
  refine S_ 7 rfl rfl rfl _ (y_assign rfl rfl) ?_
  refine S_go (fun _ _ h => h) ?_
  refine T_seq ?_
  refine T_region ?_
  refine S_alloc 8 8 rfl rfl rfl rfl z42 ?_
  intro b8
  refine S_go (fun _ _ h => h) ?_
  refine T_seq ?_
  refine T_region ?_
  refine S_ 9 rfl rfl rfl _ (y_assign rfl rfl) ?_
  refine S_go (fun _ _ h => h) ?_
  refine T_seq ?_
  refine T_seq ?_
  refine T_region ?_
  refine S_ 12 rfl rfl rfl _ (y_move rfl rfl) ?_
  refine S_ 13 rfl rfl rfl _ (y_len_slice rfl rfl Tryz.underlying146) ?_
  refine S_ 14 rfl rfl rfl _ (y_move rfl rfl) ?_
  refine S_go (fun _ _ h => h) ?_
  refine T_block ?_
  refine T_loopK2 (kf := [(9, 9), (11, 11), (14, 33)]) (kl := [(8, 9), (11, 11), (14, 33)]) (fun (i : Nat) (o : Option SVer) => [(14, true, .int .i64 (i : Int)), (9, true, .bool o.isSome)]) (fun (i : Nat) (o : Option SVer) => [(8, .blk b8 (IsBox (o.getD ver0).enc 42))]) (fun (i : Nat) (o : Option SVer) => i ≤ vs.q ∧ bestF p (fun x y => decide (cf x y < 0)) (vs.l.drop i) o = bestF p (fun x y => decide (cf x y < 0)) vs.l none ∧ ∀ y, o = some y → y ∈ vs.l) (fun (i : Nat) (o : Option SVer) => vs.q - i) 0 none (by repeat (first | exact kf_nil | (apply kf_in; focus rfl) | (apply kf_out; focus rfl))) (by repeat (first | exact kl_nil | exact kl_rest (by assumption) rfl | (apply kl_in; focus rfl) | (apply kl_out; focus rfl))) ?_ ?_ ?_ ?_
  · exact ⟨by omega, rfl, fun y h => by cases h⟩
  · exact ⟨rfl, rfl, trivial⟩
  · exact ⟨rfl, trivial⟩
  rintro i o ⟨hp1, hp2, hp3⟩
  refine T_seq ?_
  refine T_region ?_
  refine S_ 15 rfl rfl rfl _ (y_bin rfl rfl rfl (fun _ => b_lss)) ?_
  refine S_go (fun _ _ h => h) ?_
  refine T_seq ?_
  refine T_cond rfl (fun h15 => ?_) (fun h15 => ?_)
  · try simp only [decide_eq_true_eq, decide_eq_false_iff_not, Bool.or_eq_true, Bool.or_eq_false_iff, Bool.and_eq_true, Bool.and_eq_false_iff, Bool.not_eq_true', Bool.not_eq_false', Bool.not_eq_true, Bool.not_eq_false, Bool.not_true, Bool.not_false, Int.not_lt, Int.not_le, not_or, not_and, Classical.not_not] at h15
    obtain ⟨x, hx1, hx2⟩ := ht.at (i := i) (by omega)
    have hog : ∀ w1, Below w.heap.size w w1 → VerOk w1 (o.getD ver0) := fun w1 hb => by
      cases ho : o with
      | none => exact ver0_ok w1
      | some y => exact (hv.n y (hp3 y ho)).below hb
    refine T_skip_go (fun _ _ h => h) ?_
    refine T_seq ?_
    refine T_block ?_
    refine T_seq ?_
    refine T_region ?_
    refine S_ 16 rfl rfl rfl _ (y_indexAddr rfl rfl rfl Tryz.underlying146 sz42 (fun hg => ht.isSome (by omega)) (fun _ => by omega)) ?_
    refine S_ 17 rfl rfl rfl _ (y_loadT rfl rfl ht (fun _ => rfl) (fun _ => hx1) Tryz.underlying42 rfl sz42) ?_
    refine S_alloc 11 11 rfl rfl rfl rfl z42 ?_
    intro b11
    refine S_store 11 rfl rfl rfl rfl rfl rfl sz42 rfl rfl ?_
    refine S_go (fun _ _ h => h) ?_
    refine T_seq ?_
    refine T_region ?_
    refine S_ 18 rfl rfl rfl _ (y_move rfl rfl) ?_
    refine S_ 19 rfl rfl rfl _ (y_loadA 11 rfl rfl rfl Tryz.underlying42 rfl sz42) ?_
    refine S_ 20 rfl rfl rfl _ (y_call rfl rfl rfl hcf1 (fun _ w hM => hA x (mem_at hx1) w hM.below)) ?_
    refine S_ 21 rfl rfl rfl _ (y_move rfl rfl) ?_
    refine Sg_ 22 rfl rfl rfl rfl rfl rfl _ (y_move rfl rfl) ?_
    refine Sg_ 23 rfl rfl rfl rfl rfl rfl _ (y_not rfl rfl) ?_
    refine Sg_ 24 rfl rfl rfl rfl rfl rfl _ (y_move rfl rfl) ?_
    refine Sg_ 25 rfl rfl rfl rfl rfl rfl _ (y_move rfl rfl) ?_
    refine Sg_ 26 rfl rfl rfl rfl rfl rfl _ (y_loadA 11 rfl rfl rfl Tryz.underlying42 rfl sz42) ?_
    refine Sg_ 27 rfl rfl rfl rfl rfl rfl _ (y_loadA 8 rfl rfl rfl Tryz.underlying42 rfl sz42) ?_
    refine Sg_ 28 rfl rfl rfl rfl rfl rfl _ (y_call rfl rfl rfl hcf2 (fun _ w hM => hB x (o.getD ver0) w ((hv.n x (mem_at hx1)).below hM.below) (hog w hM.below))) ?_
    refine Sg_ 29 rfl rfl rfl rfl rfl rfl _ (y_bin rfl rfl rfl (fun _ => b_lss)) ?_
    refine Sg_ 30 rfl rfl rfl rfl rfl rfl _ (y_or rfl rfl rfl) ?_
    refine S_ 31 rfl rfl rfl _ (y_as (v' := .bool (p x && beats (fun x y => decide (cf x y < 0)) x o)) (by rw [← beats_eq cf ver0]) (y_and rfl rfl rfl)) ?_
    refine S_go (fun _ _ h => h) ?_
    refine T_cond rfl (fun h31 => ?_) (fun h31 => ?_)
    · skip
      refine T_region ?_
      refine S_ 32 rfl rfl rfl _ (y_loadA 11 rfl rfl rfl Tryz.underlying42 rfl sz42) ?_
      refine S_store 8 rfl rfl rfl rfl rfl rfl sz42 rfl rfl ?_
      refine S_ 9 rfl rfl rfl _ (y_assign rfl rfl) ?_
      refine S_go (fun _ _ h => h) ?_
      refine T_region ?_
      refine S_ 33 rfl rfl rfl _ (y_bin rfl rfl rfl (fun hg => b_add (by omega))) ?_
      refine S_ 14 rfl rfl rfl _ (y_move rfl rfl) ?_
      refine S_nil (nextK2 (kf := [(9, 9), (11, 11), (14, 33)]) (kl := [(8, 9), (11, 11), (14, 33)]) (i + 1) (some x) (by repeat (first | exact kf_nil | (apply kf_in; focus rfl) | (apply kf_out; focus rfl))) (by repeat (first | exact kl_nil | exact kl_rest (by assumption) rfl | (apply kl_in; focus rfl) | (apply kl_out; focus rfl))) ?_ ?_ ?_ ?_)
      · omega
      · exact ⟨by omega, by rw [← hp2, hx2, bestF, if_pos h31], fun y h => by rw [← Option.some.inj h]; exact mem_at hx1⟩
      · exact ⟨rfl, rfl, trivial⟩
      · exact ⟨rfl, trivial⟩
    · skip
      refine T_skip_go (fun _ _ h => h) ?_
      refine T_region ?_
      refine S_ 33 rfl rfl rfl _ (y_bin rfl rfl rfl (fun hg => b_add (by omega))) ?_
      refine S_ 14 rfl rfl rfl _ (y_move rfl rfl) ?_
      refine S_nil (nextK2 (kf := [(9, 9), (11, 11), (14, 33)]) (kl := [(8, 9), (11, 11), (14, 33)]) (i + 1) o (by repeat (first | exact kf_nil | (apply kf_in; focus rfl) | (apply kf_out; focus rfl))) (by repeat (first | exact kl_nil | exact kl_rest (by assumption) rfl | (apply kl_in; focus rfl) | (apply kl_out; focus rfl))) ?_ ?_ ?_ ?_)
      · omega
      · exact ⟨by omega, by rw [← hp2, hx2, bestF, if_neg (by rw [h31]; simp)], hp3⟩
      · exact ⟨rfl, rfl, trivial⟩
      · exact ⟨rfl, trivial⟩
  · try simp only [decide_eq_true_eq, decide_eq_false_iff_not, Bool.or_eq_true, Bool.or_eq_false_iff, Bool.and_eq_true, Bool.and_eq_false_iff, Bool.not_eq_true', Bool.not_eq_false', Bool.not_eq_true, Bool.not_eq_false, Bool.not_true, Bool.not_false, Int.not_lt, Int.not_le, not_or, not_and, Classical.not_not] at h15
    refine T_exit_go (fun _ _ h => h) ?_
    refine T_seq ?_
    refine T_region ?_
    refine S_ 34 rfl rfl rfl _ (y_loadA 8 rfl rfl rfl Tryz.underlying42 rfl sz42) ?_
    refine S_ 35 rfl rfl rfl _ (y_move rfl rfl) ?_
    refine S_store 6 rfl rfl rfl rfl rfl rfl sz42 rfl rfl ?_
    refine S_ 7 rfl rfl rfl _ (y_assign rfl rfl) ?_
    refine S_go (fun _ _ h => h) ?_
    refine T_ret (fun a w hF hM => hRb a w (post_cell 6 rfl rfl rfl rfl Tryz.underlying42 rfl (by exact sz42) (fun w hM => ?_) a w hF hM))
    have hfin : bestF p (fun x y => decide (cf x y < 0)) vs.l none = o := by rw [← hp2, ht.end (by omega)]; rfl
    rw [hfin]
    exact ⟨rfl, hM.below⟩
theorem greatest1_any (x y : SVer) (w : World) (hx : VerOk w x) (hy : VerOk w y) : Calls Tryz.prog 210 #[x.val, y.val] w fun e w' => e = .returned (.int .i64 (cmpV y.says x.says)) ∧ Below w.heap.size w w' := by
  refine enter_args (args := [.agg #[str x.p, .int .i64 x.a, .int .i64 x.b, .int .i64 x.c, .slice x.pre.A x.pre.q x.pre.c], .agg #[str y.p, .int .i64 y.a, .int .i64 y.b, .int .i64 y.c, .slice y.pre.A y.pre.q y.pre.c]]) (F := _) Tryz.func210 rfl Tryz.ntmps210 rfl rfl ?_
  intro Rb hRb hRn
  refine T_seq ?_
  refine T_region ?_
  refine S_box 2 2 rfl rfl rfl rfl rfl ?_
  intro b2
  refine S_box 3 3 rfl rfl rfl rfl rfl ?_
  intro b3
  refine S_ 4 rfl rfl rfl _ (y_assign rfl rfl) ?_
  refine S_go (fun _ _ h => h) ?_
  refine T_seq ?_
  refine T_region ?_
  refine S_ 5 rfl rfl rfl _ (y_loadA 3 rfl rfl rfl Tryz.underlying42 rfl sz42) ?_
  refine S_ 6 rfl rfl rfl _ (y_loadA 2 rfl rfl rfl Tryz.underlying42 rfl sz42) ?_
  refine S_ 7 rfl rfl rfl _ (y_call rfl rfl rfl cf22 (fun _ w hM => Compare_any y x w (hy.below hM.below) (hx.below hM.below))) ?_
  refine S_ 4 rfl rfl rfl _ (y_assign rfl rfl) ?_
  refine S_go (fun _ _ h => h) ?_
  refine T_ret (fun a w hF hM => hRb a w (post1 rfl rfl (fun w hM => ?_) a w hF hM))
  exact ⟨rfl, hM.below⟩
theorem greatest_any (vs : Sl SVer) (gt : FuncId) (capt : Array Value) (p : SVer → Bool) (w : World) (hv : VersR w vs) (hcf1 : ∀ args w, (callFunc gt args).run Tryz.prog w = .ok (.enter gt args) w)
    (hA : ∀ x ∈ vs.l, ∀ w', Below w.heap.size w w' → Calls Tryz.prog gt (#[x.val] ++ capt) w' fun e w'' => e = .returned (.bool (p x)) ∧ Below w'.heap.size w' w'') :
    Calls Tryz.prog 116 #[.slice vs.A vs.q vs.c, .func (.func gt) #[] capt] w fun e w' => e = .returned (.tuple #[((bestF p (fun x y => decide (cmpV y.says x.says < 0)) vs.l none).getD ver0).val, .bool (bestF p (fun x y => decide (cmpV y.says x.says < 0)) vs.l none).isSome]) ∧ Below w.heap.size w w' := by
  refine enter_args (args := [.slice vs.A vs.q vs.c, .func (.func gt) #[] capt]) (F := _) Tryz.func116 rfl Tryz.ntmps116 rfl rfl ?_
  intro Rb hRb hRn
  refine T_seq ?_
  refine T_region ?_
  refine S_alloc 4 4 rfl rfl rfl rfl z42 ?_
  intro b4
  refine S_ 5 rfl rfl rfl _ (y_assign rfl rfl) ?_
  refine S_go (fun _ _ h => h) ?_
  refine T_seq ?_
  refine T_region ?_
  refine S_ 6 rfl rfl rfl _ (y_move rfl rfl) ?_
  refine S_ 7 rfl rfl rfl _ (y_move rfl rfl) ?_
  refine S_ 8 rfl rfl rfl _ (y_call rfl rfl rfl cf114 (fun _ w hM => best_any vs gt 210 capt #[] p (fun x y => cmpV y.says x.says) w (hv.below hM.below) hcf1 cf210 (fun x hx w1 hb => hA x hx w1 (hM.below.trans (hb.mono hM.below.size))) (fun x y w1 hx hy => greatest1_any x y w1 hx hy))) ?_
  refine S_ 9 rfl rfl rfl _ (y_extract rfl rfl rfl) ?_
  refine S_ 10 rfl rfl rfl _ (y_extract rfl rfl rfl) ?_
  refine S_store 4 rfl rfl rfl rfl rfl rfl sz42 rfl rfl ?_
  refine S_ 5 rfl rfl rfl _ (y_assign rfl rfl) ?_
  refine S_go (fun _ _ h => h) ?_
  refine T_ret (fun a w hF hM => hRb a w (post_cell 4 rfl rfl rfl rfl Tryz.underlying42 rfl (by exact sz42) (fun w hM => ?_) a w hF hM))
  exact ⟨rfl, hM.below⟩
theorem pre_nil {w : World} {x : SVer} (h : VerOk w x) : decide ((x.pre.q : Int) = 0) = decide (x.says.pre = []) := by
  have hl : x.pre.l.length = x.pre.q := h.ok.t.len
  by_cases hq : x.pre.q = 0
  · rw [decide_eq_true (by omega), decide_eq_true (show x.says.pre = [] from List.eq_nil_of_length_eq_zero (by show x.pre.l.length = 0; omega))]
  · rw [decide_eq_false (by omega), decide_eq_false]
    intro e
    have : x.pre.l = [] := e
    rw [this] at hl; simp at hl; omega
def latP (project : List UInt8) (pre : Bool) (v : PVer) : Bool := decide (v.p = project) && (pre || decide (v.pre = []))
def aftP (i v : PVer) : Bool := decide (v.p = i.p) && decide (v.pre = []) && decide (0 < cmpV v i)
theorem Latest1_any (x : SVer) (project : List UInt8) (pre : Bool) (b1 b2 : Nat) (w : World) (hx : VerOk w x) (h1 : CellsAt w b1 [str project]) (h2 : CellsAt w b2 [.bool pre]) :
    Calls Tryz.prog 117 #[x.val, .pointer (some ⟨b1, 0, none⟩), .pointer (some ⟨b2, 0, none⟩)] w fun e w' => e = .returned (.bool (latP project pre x.says)) ∧ Below w.heap.size w w' := by
  refine enter_args (args := [.agg #[str x.p, .int .i64 x.a, .int .i64 x.b, .int .i64 x.c, .slice x.pre.A x.pre.q x.pre.c], .pointer (some ⟨b1, 0, none⟩), .pointer (some ⟨b2, 0, none⟩)]) (F := _) Tryz.func117 rfl Tryz.ntmps117 rfl rfl ?_
  intro Rb hRb hRn
  refine T_seq ?_
  refine T_region ?_
  refine S_box 3 3 rfl rfl rfl rfl rfl ?_
  intro b3
  refine S_ 4 rfl rfl rfl _ (y_assign rfl rfl) ?_
  refine S_go (fun _ _ h => h) ?_
  refine T_seq ?_
  refine T_region ?_
  refine S_ 5 rfl rfl rfl _ (y_fieldAddr rfl rfl fa42_0) ?_
  refine S_ 6 rfl rfl rfl _ (y_load 3 rfl rfl rfl rfl Tryz.underlying9 rfl) ?_
  refine S_ 7 rfl rfl rfl _ (y_load_far rfl rfl (show w.cell? ⟨b1, 0, none⟩ = some (str project) from h1.1 0 _ rfl) h1.2 Tryz.underlying9 rfl) ?_
  refine S_ 8 rfl rfl rfl _ (y_bin rfl rfl rfl (fun _ => b_eqls)) ?_
  refine S_ 9 rfl rfl rfl _ (y_move rfl rfl) ?_
  refine Sg_ 10 rfl rfl rfl rfl rfl rfl _ (y_load_far rfl rfl (show w.cell? ⟨b2, 0, none⟩ = some (.bool pre) from h2.1 0 _ rfl) h2.2 Tryz.underlying4 rfl) ?_
  refine Sg_ 11 rfl rfl rfl rfl rfl rfl _ (y_move rfl rfl) ?_
  refine Sg_ 12 rfl rfl rfl rfl rfl rfl _ (y_fieldAddr rfl rfl fa42_4) ?_
  refine Sg_ 13 rfl rfl rfl rfl rfl rfl _ (y_load 3 rfl rfl rfl rfl Tryz.underlying40 rfl) ?_
  refine Sg_ 14 rfl rfl rfl rfl rfl rfl _ (y_len_slice rfl rfl Tryz.underlying40) ?_
  refine Sg_ 15 rfl rfl rfl rfl rfl rfl _ (y_as (v' := .bool (decide (x.says.pre = []))) (by rw [pre_nil hx]) (y_bin rfl rfl rfl (fun _ => b_eql))) ?_
  refine Sg_ 16 rfl rfl rfl rfl rfl rfl _ (y_or rfl rfl rfl) ?_
  refine S_ 17 rfl rfl rfl _ (y_and rfl rfl rfl) ?_
  refine S_ 4 rfl rfl rfl _ (y_assign rfl rfl) ?_
  refine S_go (fun _ _ h => h) ?_
  refine T_ret (fun a w hF hM => hRb a w (post1 rfl rfl (fun w hM => ?_) a w hF hM))
  exact ⟨rfl, hM.below⟩
theorem After1_any (x i : SVer) (b1 : Nat) (w : World) (hx : VerOk w x) (hi : VerOk w i) (h1 : CellsAt w b1 i.enc) :
    Calls Tryz.prog 115 #[x.val, .pointer (some ⟨b1, 0, none⟩)] w fun e w' => e = .returned (.bool (aftP i.says x.says)) ∧ Below w.heap.size w w' := by
  refine enter_args (args := [.agg #[str x.p, .int .i64 x.a, .int .i64 x.b, .int .i64 x.c, .slice x.pre.A x.pre.q x.pre.c], .pointer (some ⟨b1, 0, none⟩)]) (F := _) Tryz.func115 rfl Tryz.ntmps115 rfl rfl ?_
  intro Rb hRb hRn
  refine T_seq ?_
  refine T_region ?_
  refine S_box 2 2 rfl rfl rfl rfl rfl ?_
  intro b2
  refine S_ 3 rfl rfl rfl _ (y_assign rfl rfl) ?_
  refine S_go (fun _ _ h => h) ?_
  refine T_seq ?_
  refine T_region ?_
  refine S_ 4 rfl rfl rfl _ (y_fieldAddr rfl rfl fa42_0) ?_
  refine S_ 5 rfl rfl rfl _ (y_load 2 rfl rfl rfl rfl Tryz.underlying9 rfl) ?_
  refine S_ 6 rfl rfl rfl _ (y_fieldAddr rfl rfl fa42_0) ?_
  refine S_ 7 rfl rfl rfl _ (y_load_far rfl rfl (h1.one (j := 0) rfl).1 (h1.one (j := 0) (cs := i.enc) rfl).2 Tryz.underlying9 rfl) ?_
  refine S_ 8 rfl rfl rfl _ (y_bin rfl rfl rfl (fun _ => b_eqls)) ?_
  refine S_ 9 rfl rfl rfl _ (y_move rfl rfl) ?_
  refine Sg_ 10 rfl rfl rfl rfl rfl rfl _ (y_fieldAddr rfl rfl fa42_4) ?_
  refine Sg_ 11 rfl rfl rfl rfl rfl rfl _ (y_load 2 rfl rfl rfl rfl Tryz.underlying40 rfl) ?_
  refine Sg_ 12 rfl rfl rfl rfl rfl rfl _ (y_len_slice rfl rfl Tryz.underlying40) ?_
  refine Sg_ 13 rfl rfl rfl rfl rfl rfl _ (y_as (v' := .bool (decide (x.says.pre = []))) (by rw [pre_nil hx]) (y_bin rfl rfl rfl (fun _ => b_eql))) ?_
  refine S_ 14 rfl rfl rfl _ (y_and rfl rfl rfl) ?_
  refine S_ 15 rfl rfl rfl _ (y_move rfl rfl) ?_
  refine Sg_ 16 rfl rfl rfl rfl rfl rfl _ (y_loadA 2 rfl rfl rfl Tryz.underlying42 rfl sz42) ?_
  refine Sg_ 17 rfl rfl rfl rfl rfl rfl _ (y_loadA_far rfl rfl h1.1 h1.2 Tryz.underlying42 rfl sz42) ?_
  refine Sg_ 18 rfl rfl rfl rfl rfl rfl _ (y_call rfl rfl rfl cf22 (fun _ w hM => Compare_any x i w (hx.below hM.below) (hi.below hM.below))) ?_
  refine Sg_ 19 rfl rfl rfl rfl rfl rfl _ (y_bin rfl rfl rfl (fun _ => b_gtr)) ?_
  refine S_ 20 rfl rfl rfl _ (y_and rfl rfl rfl) ?_
  refine S_ 3 rfl rfl rfl _ (y_assign rfl rfl) ?_
  refine S_go (fun _ _ h => h) ?_
  refine T_ret (fun a w hF hM => hRb a w (post1 rfl rfl (fun w hM => ?_) a w hF hM))
  exact ⟨rfl, hM.below⟩
def latO (S : List (List UInt8)) (project : List UInt8) (pre : Bool) : Option (List UInt8) := bestF (fun t => latP project pre (verV t)) (fun x y => decide (cmpV (verV y) (verV x) < 0)) S none
def aftO (S : List (List UInt8)) (s : List UInt8) : Option (List UInt8) := bestF (fun t => aftP (verV s) (verV t)) (fun x y => decide (cmpV (verV x) (verV y) < 0)) S none
def outR : Option (List UInt8) → List UInt8 × Int
  | none => ([], 7)
  | some t => (t, 0)
def latR (S : List (List UInt8)) (project : List UInt8) (pre : Bool) : List UInt8 × Int := if allNo S ≠ 0 then ([], allNo S) else if projOk project = false then ([], 3) else outR (latO S project pre)
def aftR (S : List (List UInt8)) (s : List UInt8) : List UInt8 × Int := if allNo S ≠ 0 then ([], allNo S) else if relOk s = false then ([], 8) else outR (aftO S s)
/-- what is best of the versions is what is best of the texts -/
theorem best_texts {S : List (List UInt8)} {l : List SVer} (h : l.map SVer.says = S.map verV) (p : PVer → Bool) (lt : PVer → PVer → Bool) :
    (bestF (fun x : SVer => p x.says) (fun x y => lt x.says y.says) l none).map SVer.says = (bestF (fun t => p (verV t)) (fun x y => lt (verV x) (verV y)) S none).map verV := by
  rw [← bestF_map SVer.says p lt l none, ← bestF_map verV p lt S none, h]; rfl
theorem best_some {S : List (List UInt8)} {l : List SVer} {o : Option SVer} {u : Option (List UInt8)} (hS : ∀ s ∈ S, relOk s = true) (hu : ∀ t, u = some t → t ∈ S) (h : o.map SVer.says = u.map verV) : (o = none ∧ u = none) ∨ ∃ v t, o = some v ∧ u = some t ∧ v.says = verV t ∧ relOk t = true := by
  cases o with
  | none => cases u with
    | none => exact .inl ⟨rfl, rfl⟩
    | some t => cases h
  | some v => cases u with
    | none => cases h
    | some t => exact .inr ⟨v, t, rfl, rfl, Option.some.inj h, hS t (hu t rfl)⟩
theorem txt_ver {v : SVer} {t : List UInt8} (h : v.says = verV t) (ht : relOk t = true) : txtR v.says = (t, 0) := by
  rw [h, right_txt (ver_right ht) (by rw [verT_of ht]; exact rel_len ht), verT_of ht]
set_option maxHeartbeats 1600000 in
theorem Latest_any (A : Option Addr) (q c : Nat) (S : List (List UInt8)) (project : List UInt8) (pre : Bool) (w : World) (hS : SlT strE 1 w A q S) (hP : P10 w) :
    Calls Tryz.prog 37 #[.slice A q c, str project, .bool pre] w fun e w' => e = .returned (.tuple #[str (latR S project pre).1, .int .i64 (latR S project pre).2]) ∧ Below w.heap.size w w' := by
  refine enter_args (args := [.slice A q c, str project, .bool pre]) (F := _) Tryz.func37 rfl Tryz.ntmps37 rfl rfl ?_
  intro Rb hRb hRn
  refine T_seq ?_
  refine T_region ?_
  refine S_box 4 4 rfl rfl rfl rfl rfl ?_
  intro b4
  refine S_box 5 5 rfl rfl rfl rfl rfl ?_
  intro b5
  refine S_ 6 rfl rfl rfl _ (y_assign rfl rfl) ?_
  refine S_ 7 rfl rfl rfl _ (y_assign rfl rfl) ?_
  refine S_go (fun _ _ h => h) ?_
  refine T_seq ?_
  refine T_region ?_
  refine S_ 13 rfl rfl rfl _ (y_move rfl rfl) ?_
  refine S_callN 14 [] [(4, 904), (900, 920)] (X := AllR) rfl rfl rfl rfl rfl rfl rfl cf110 rfl (fun z => .tuple #[.slice z.A z.l.length z.c, .int .i64 (allNo S)]) (fun z => z.Ok w S) (fun z => [(4, .own 42 5 (.slice z.A z.l.length z.c) z.l.length (z.l.flatMap SVer.enc)), (900, .many z.rs)]) (fun _ => rfl) (fun _ => rfl) (fun K1 hK1 w1 hM => parseAll_any hK1 A q c S w1 hS hM) ?_
  intro x14 hx14
  refine S_ 12 rfl rfl rfl _ (y_move rfl rfl) ?_
  refine S_ 15 rfl rfl rfl _ (y_extract rfl rfl rfl) ?_
  refine S_ 16 rfl rfl rfl _ (y_extract rfl rfl rfl) ?_
  refine S_ 8 rfl rfl rfl _ (y_assign rfl rfl) ?_
  refine S_ 9 rfl rfl rfl _ (y_assign rfl rfl) ?_
  refine S_go (fun _ _ h => h) ?_
  refine T_seq ?_
  refine T_seq ?_
  refine T_region ?_
  refine S_ 17 rfl rfl rfl _ (y_move rfl rfl) ?_
  refine S_ 18 rfl rfl rfl _ (y_bin rfl rfl rfl (fun _ => b_neq)) ?_
  refine S_go (fun _ _ h => h) ?_
  refine T_cond rfl (fun h18 => ?_) (fun h18 => ?_)
  · try simp only [decide_eq_true_eq, decide_eq_false_iff_not, Bool.or_eq_true, Bool.or_eq_false_iff, Bool.and_eq_true, Bool.and_eq_false_iff, Bool.not_eq_true', Bool.not_eq_false', Bool.not_eq_true, Bool.not_eq_false, Bool.not_true, Bool.not_false, Int.not_lt, Int.not_le, not_or, not_and, Classical.not_not] at h18
    have hr : latR S project pre = ([], allNo S) := if_pos h18
    refine T_seq ?_
    refine T_region ?_
    refine S_ 19 rfl rfl rfl _ (y_move rfl rfl) ?_
    refine S_ 6 rfl rfl rfl _ (y_assign rfl rfl) ?_
    refine S_ 7 rfl rfl rfl _ (y_assign rfl rfl) ?_
    refine S_go (fun _ _ h => h) ?_
    refine T_ret (fun a w hF hM => hRb a w (post2 rfl rfl rfl (fun w hM => ?_) a w hF hM))
    exact ⟨by rw [hr]; rfl, hM.below⟩
  · try simp only [decide_eq_true_eq, decide_eq_false_iff_not, Bool.or_eq_true, Bool.or_eq_false_iff, Bool.and_eq_true, Bool.and_eq_false_iff, Bool.not_eq_true', Bool.not_eq_false', Bool.not_eq_true, Bool.not_eq_false, Bool.not_true, Bool.not_false, Int.not_lt, Int.not_le, not_or, not_and, Classical.not_not] at h18
    have h18 : allNo S = 0 := h18
    have hal := all_ok h18
    have hxl := AllR.len hx14
    have hsm : x14.l.map SVer.says = S.map verV := by have := hx14.says; rw [if_pos h18] at this; exact this
    have hbt := best_texts hsm (latP project pre) (fun x y => decide (cmpV y x < 0))
    have hor := best_some (l := x14.l) hal.2 (fun t ht => (bestF_mem ht).resolve_right (by simp)) hbt
    refine T_skip_go (fun _ _ h => h) ?_
    refine T_seq ?_
    refine T_seq ?_
    refine T_region ?_
    refine S_ 20 rfl rfl rfl _ (y_load 4 rfl rfl rfl rfl Tryz.underlying9 rfl) ?_
    refine S_ 21 rfl rfl rfl _ (y_call rfl rfl rfl cf86 (fun _ w _ => IsProject_any project w)) ?_
    refine S_ 22 rfl rfl rfl _ (y_not rfl rfl) ?_
    refine S_go (fun _ _ h => h) ?_
    refine T_cond rfl (fun h22 => ?_) (fun h22 => ?_)
    · skip
      have hr : latR S project pre = ([], 3) := by rw [latR, if_neg (by rw [h18]; simp), if_pos (by simpa using h22)]
      refine T_seq ?_
      refine T_region ?_
      refine S_ 6 rfl rfl rfl _ (y_assign rfl rfl) ?_
      refine S_ 7 rfl rfl rfl _ (y_assign rfl rfl) ?_
      refine S_go (fun _ _ h => h) ?_
      refine T_ret (fun a w hF hM => hRb a w (post2 rfl rfl rfl (fun w hM => ?_) a w hF hM))
      exact ⟨by rw [hr], hM.below⟩
    · skip
      have hpj : projOk project = true := by simpa using h22
      refine T_skip_go (fun _ _ h => h) ?_
      refine T_seq ?_
      refine T_region ?_
      refine S_ 24 rfl rfl rfl _ (y_move rfl rfl) ?_
      refine S_ 25 rfl rfl rfl _ (y_makeFunc rfl rfl rfl rfl rfl) ?_
      refine S_ 26 rfl rfl rfl _ (y_call rfl rfl rfl cf116 (fun _ w hM => greatest_any x14.sl _ _ (fun x => latP project pre x.says) w (AllR.vers hx14 hM 904 920 rfl rfl (by omega)) cf117 (fun x hx w1 hb => Latest1_any x project pre b4 b5 w1 (((hx14.n x hx).at hM 920 rfl).below hb) (cells_below (hM.box_cells 4 rfl) hb) (cells_below (hM.box_cells 5 rfl) hb)))) ?_
      refine S_ 23 rfl rfl rfl _ (y_move rfl rfl) ?_
      refine S_ 27 rfl rfl rfl _ (y_extract rfl rfl rfl) ?_
      refine S_ 28 rfl rfl rfl _ (y_extract rfl rfl rfl) ?_
      refine S_alloc 10 10 rfl rfl rfl rfl z42 ?_
      intro b10
      refine S_store 10 rfl rfl rfl rfl rfl rfl sz42 rfl rfl ?_
      refine S_ 11 rfl rfl rfl _ (y_assign rfl rfl) ?_
      refine S_go (fun _ _ h => h) ?_
      refine T_seq ?_
      refine T_seq ?_
      refine T_region ?_
      refine S_ 29 rfl rfl rfl _ (y_move rfl rfl) ?_
      refine S_ 30 rfl rfl rfl _ (y_not rfl rfl) ?_
      refine S_go (fun _ _ h => h) ?_
      refine T_cond rfl (fun h30 => ?_) (fun h30 => ?_)
      · skip
        have hr : latR S project pre = ([], 7) := by
          rcases hor with ⟨h1, h2⟩ | ⟨v, t, h1, h2, _⟩
          · rw [latR, if_neg (by rw [h18]; simp), if_neg (by rw [hpj]; simp), latO, h2]; rfl
          · rw [show bestF (fun x => latP project pre x.says) (fun x y => decide (cmpV y.says x.says < 0)) x14.sl.l none = some v from h1] at h30; simp at h30
        refine T_seq ?_
        refine T_region ?_
        refine S_ 6 rfl rfl rfl _ (y_assign rfl rfl) ?_
        refine S_ 7 rfl rfl rfl _ (y_assign rfl rfl) ?_
        refine S_go (fun _ _ h => h) ?_
        refine T_ret (fun a w hF hM => hRb a w (post2 rfl rfl rfl (fun w hM => ?_) a w hF hM))
        exact ⟨by rw [hr], hM.below⟩
      · skip
        obtain ⟨v, t, h1, h2, h3, h4⟩ : ∃ v t, bestF (fun x : SVer => latP project pre x.says) (fun x y => decide (cmpV y.says x.says < 0)) x14.sl.l none = some v ∧ latO S project pre = some t ∧ v.says = verV t ∧ relOk t = true := by
          rcases hor with ⟨h1, h2⟩ | h
          · rw [show bestF (fun x => latP project pre x.says) (fun x y => decide (cmpV y.says x.says < 0)) x14.sl.l none = none from h1] at h30; simp at h30
          · exact h
        have hvm : v ∈ x14.l := (bestF_mem h1).resolve_right (by simp)
        have hr : latR S project pre = (t, 0) := by rw [latR, if_neg (by rw [h18]; simp), if_neg (by rw [hpj]; simp), h2]; rfl
        have htx := txt_ver h3 h4
        refine T_skip_go (fun _ _ h => h) ?_
        refine T_seq ?_
        refine T_region ?_
        refine S_ 31 rfl rfl rfl _ (y_as (v' := v.val) (by rw [h1]; rfl) (y_loadA 10 rfl rfl rfl Tryz.underlying42 rfl sz42)) ?_
        refine S_ 32 rfl rfl rfl _ (y_call rfl rfl rfl cf19 (fun _ w hM => Text_any v w ((hx14.n v hvm).at hM 920 rfl) (hP.below hM.below))) ?_
        refine S_ 33 rfl rfl rfl _ (y_extract rfl rfl rfl) ?_
        refine S_ 34 rfl rfl rfl _ (y_extract rfl rfl rfl) ?_
        refine S_ 6 rfl rfl rfl _ (y_assign rfl rfl) ?_
        refine S_ 7 rfl rfl rfl _ (y_assign rfl rfl) ?_
        refine S_go (fun _ _ h => h) ?_
        refine T_ret (fun a w hF hM => hRb a w (post2 rfl rfl rfl (fun w hM => ?_) a w hF hM))
        exact ⟨by rw [hr, htx]; rfl, hM.below⟩
set_option maxHeartbeats 1600000 in
theorem After_any (A : Option Addr) (q c : Nat) (S : List (List UInt8)) (s : List UInt8) (w : World) (hS : SlT strE 1 w A q S) (hP : P10 w) :
    Calls Tryz.prog 34 #[.slice A q c, str s] w fun e w' => e = .returned (.tuple #[str (aftR S s).1, .int .i64 (aftR S s).2]) ∧ Below w.heap.size w w' := by
  refine enter_args (args := [.slice A q c, str s]) (F := _) Tryz.func34 rfl Tryz.ntmps34 rfl rfl ?_
  intro Rb hRb hRn
  refine T_seq ?_
  refine T_region ?_
  refine S_ 4 rfl rfl rfl _ (y_assign rfl rfl) ?_
  refine S_ 5 rfl rfl rfl _ (y_assign rfl rfl) ?_
  refine S_go (fun _ _ h => h) ?_
  refine T_seq ?_
  refine T_region ?_
  refine S_ 13 rfl rfl rfl _ (y_move rfl rfl) ?_
  refine S_callN 14 [] [(4, 904), (900, 920)] (X := AllR) rfl rfl rfl rfl rfl rfl rfl cf110 rfl (fun z => .tuple #[.slice z.A z.l.length z.c, .int .i64 (allNo S)]) (fun z => z.Ok w S) (fun z => [(4, .own 42 5 (.slice z.A z.l.length z.c) z.l.length (z.l.flatMap SVer.enc)), (900, .many z.rs)]) (fun _ => rfl) (fun _ => rfl) (fun K1 hK1 w1 hM => parseAll_any hK1 A q c S w1 hS hM) ?_
  intro x14 hx14
  refine S_ 12 rfl rfl rfl _ (y_move rfl rfl) ?_
  refine S_ 15 rfl rfl rfl _ (y_extract rfl rfl rfl) ?_
  refine S_ 16 rfl rfl rfl _ (y_extract rfl rfl rfl) ?_
  refine S_ 6 rfl rfl rfl _ (y_assign rfl rfl) ?_
  refine S_ 7 rfl rfl rfl _ (y_assign rfl rfl) ?_
  refine S_go (fun _ _ h => h) ?_
  refine T_seq ?_
  refine T_seq ?_
  refine T_region ?_
  refine S_ 17 rfl rfl rfl _ (y_move rfl rfl) ?_
  refine S_ 18 rfl rfl rfl _ (y_bin rfl rfl rfl (fun _ => b_neq)) ?_
  refine S_go (fun _ _ h => h) ?_
  refine T_cond rfl (fun h18 => ?_) (fun h18 => ?_)
  · try simp only [decide_eq_true_eq, decide_eq_false_iff_not, Bool.or_eq_true, Bool.or_eq_false_iff, Bool.and_eq_true, Bool.and_eq_false_iff, Bool.not_eq_true', Bool.not_eq_false', Bool.not_eq_true, Bool.not_eq_false, Bool.not_true, Bool.not_false, Int.not_lt, Int.not_le, not_or, not_and, Classical.not_not] at h18
    have hr : aftR S s = ([], allNo S) := if_pos h18
    refine T_seq ?_
    refine T_region ?_
    refine S_ 19 rfl rfl rfl _ (y_move rfl rfl) ?_
    refine S_ 4 rfl rfl rfl _ (y_assign rfl rfl) ?_
    refine S_ 5 rfl rfl rfl _ (y_assign rfl rfl) ?_
    refine S_go (fun _ _ h => h) ?_
    refine T_ret (fun a w hF hM => hRb a w (post2 rfl rfl rfl (fun w hM => ?_) a w hF hM))
    exact ⟨by rw [hr]; rfl, hM.below⟩
  · try simp only [decide_eq_true_eq, decide_eq_false_iff_not, Bool.or_eq_true, Bool.or_eq_false_iff, Bool.and_eq_true, Bool.and_eq_false_iff, Bool.not_eq_true', Bool.not_eq_false', Bool.not_eq_true, Bool.not_eq_false, Bool.not_true, Bool.not_false, Int.not_lt, Int.not_le, not_or, not_and, Classical.not_not] at h18
    have h18 : allNo S = 0 := h18
    have hal := all_ok h18
    have hxl := AllR.len hx14
    have hsm : x14.l.map SVer.says = S.map verV := by have := hx14.says; rw [if_pos h18] at this; exact this
    have hbt := best_texts hsm (aftP (verV s)) (fun x y => decide (cmpV x y < 0))
    have hor := best_some (l := x14.l) hal.2 (fun t ht => (bestF_mem ht).resolve_right (by simp)) hbt
    refine T_skip_go (fun _ _ h => h) ?_
    refine T_seq ?_
    refine T_region ?_
    refine S_ 21 rfl rfl rfl _ (y_move rfl rfl) ?_
    refine S_callOwn 22 22 rfl rfl rfl rfl rfl rfl rfl cf101 (fun A c => .tuple #[pvV (parseR s).1 A c, .bool (parseR s).2]) 9 1 ((parseR s).1.pre.length) ((parseR s).1.pre.flatMap strE) (fun w hM => parse_any s w) ?_
    intro A22 c22
    refine S_ 20 rfl rfl rfl _ (y_move rfl rfl) ?_
    refine S_ 23 rfl rfl rfl _ (y_extract rfl rfl rfl) ?_
    refine S_ 24 rfl rfl rfl _ (y_extract rfl rfl rfl) ?_
    refine S_alloc 8 8 rfl rfl rfl rfl z42 ?_
    intro b8
    refine S_store 8 rfl rfl rfl rfl rfl rfl sz42 rfl rfl ?_
    refine S_ 9 rfl rfl rfl _ (y_assign rfl rfl) ?_
    refine S_go (fun _ _ h => h) ?_
    refine T_seq ?_
    refine T_seq ?_
    refine T_region ?_
    refine S_ 25 rfl rfl rfl _ (y_move rfl rfl) ?_
    refine S_ 26 rfl rfl rfl _ (y_not rfl rfl) ?_
    refine S_go (fun _ _ h => h) ?_
    refine T_cond rfl (fun h26 => ?_) (fun h26 => ?_)
    · skip
      have hr : aftR S s = ([], 8) := by rw [aftR, if_neg (by rw [h18]; simp), if_pos (by simpa using h26)]
      refine T_seq ?_
      refine T_region ?_
      refine S_ 4 rfl rfl rfl _ (y_assign rfl rfl) ?_
      refine S_ 5 rfl rfl rfl _ (y_assign rfl rfl) ?_
      refine S_go (fun _ _ h => h) ?_
      refine T_ret (fun a w hF hM => hRb a w (post2 rfl rfl rfl (fun w hM => ?_) a w hF hM))
      exact ⟨by rw [hr], hM.below⟩
    · skip
      have hpj : relOk s = true := by simpa using h26
      refine T_skip_go (fun _ _ h => h) ?_
      refine T_seq ?_
      refine T_region ?_
      refine S_ 28 rfl rfl rfl _ (y_move rfl rfl) ?_
      refine S_ 29 rfl rfl rfl _ (y_makeFunc rfl rfl rfl rfl rfl) ?_
      refine S_ 30 rfl rfl rfl _ (y_call rfl rfl rfl cf114 (fun _ w hM => best_any x14.sl _ _ _ _ (fun x => aftP (verV s) x.says) (fun x y => cmpV x.says y.says) w (AllR.vers hx14 hM 904 920 rfl rfl (by omega)) cf115 cf22 (fun x hx w1 hb => (After1_any x (svr (parseR s).1 A22 c22) b8 w1 (((hx14.n x hx).at hM 920 rfl).below hb) (svr_ok (parseR_bound _) ((owned_ok (enc := strE) hM rfl (i := 22) rfl).below hb)) (cells_below (hM.box_cells 8 rfl) hb)).mono fun e w2 h => ⟨by rw [h.1, svr_says, parse_ver hpj], h.2⟩) (fun x y w1 hx hy => Compare_any x y w1 hx hy))) ?_
      refine S_ 27 rfl rfl rfl _ (y_move rfl rfl) ?_
      refine S_ 31 rfl rfl rfl _ (y_extract rfl rfl rfl) ?_
      refine S_ 32 rfl rfl rfl _ (y_extract rfl rfl rfl) ?_
      refine S_alloc 10 10 rfl rfl rfl rfl z42 ?_
      intro b10
      refine S_store 10 rfl rfl rfl rfl rfl rfl sz42 rfl rfl ?_
      refine S_ 11 rfl rfl rfl _ (y_assign rfl rfl) ?_
      refine S_go (fun _ _ h => h) ?_
      refine T_seq ?_
      refine T_seq ?_
      refine T_region ?_
      refine S_ 33 rfl rfl rfl _ (y_move rfl rfl) ?_
      refine S_ 34 rfl rfl rfl _ (y_not rfl rfl) ?_
      refine S_go (fun _ _ h => h) ?_
      refine T_cond rfl (fun h34 => ?_) (fun h34 => ?_)
      · skip
        have hr : aftR S s = ([], 7) := by
          rcases hor with ⟨h1, h2⟩ | ⟨v, t, h1, h2, _⟩
          · rw [aftR, if_neg (by rw [h18]; simp), if_neg (by rw [hpj]; simp), aftO, h2]; rfl
          · rw [show bestF (fun x => aftP (verV s) x.says) (fun x y => decide (cmpV x.says y.says < 0)) x14.sl.l none = some v from h1] at h34; simp at h34
        refine T_seq ?_
        refine T_region ?_
        refine S_ 4 rfl rfl rfl _ (y_assign rfl rfl) ?_
        refine S_ 5 rfl rfl rfl _ (y_assign rfl rfl) ?_
        refine S_go (fun _ _ h => h) ?_
        refine T_ret (fun a w hF hM => hRb a w (post2 rfl rfl rfl (fun w hM => ?_) a w hF hM))
        exact ⟨by rw [hr], hM.below⟩
      · skip
        obtain ⟨v, t, h1, h2, h3, h4⟩ : ∃ v t, bestF (fun x : SVer => aftP (verV s) x.says) (fun x y => decide (cmpV x.says y.says < 0)) x14.sl.l none = some v ∧ aftO S s = some t ∧ v.says = verV t ∧ relOk t = true := by
          rcases hor with ⟨h1, h2⟩ | h
          · rw [show bestF (fun x => aftP (verV s) x.says) (fun x y => decide (cmpV x.says y.says < 0)) x14.sl.l none = none from h1] at h34; simp at h34
          · exact h
        have hvm : v ∈ x14.l := (bestF_mem h1).resolve_right (by simp)
        have hr : aftR S s = (t, 0) := by rw [aftR, if_neg (by rw [h18]; simp), if_neg (by rw [hpj]; simp), h2]; rfl
        have htx := txt_ver h3 h4
        refine T_skip_go (fun _ _ h => h) ?_
        refine T_seq ?_
        refine T_region ?_
        refine S_ 35 rfl rfl rfl _ (y_as (v' := v.val) (by rw [h1]; rfl) (y_loadA 10 rfl rfl rfl Tryz.underlying42 rfl sz42)) ?_
        refine S_ 36 rfl rfl rfl _ (y_call rfl rfl rfl cf19 (fun _ w hM => Text_any v w ((hx14.n v hvm).at hM 920 rfl) (hP.below hM.below))) ?_
        refine S_ 37 rfl rfl rfl _ (y_extract rfl rfl rfl) ?_
        refine S_ 38 rfl rfl rfl _ (y_extract rfl rfl rfl) ?_
        refine S_ 4 rfl rfl rfl _ (y_assign rfl rfl) ?_
        refine S_ 5 rfl rfl rfl _ (y_assign rfl rfl) ?_
        refine S_go (fun _ _ h => h) ?_
        refine T_ret (fun a w hF hM => hRb a w (post2 rfl rfl rfl (fun w hM => ?_) a w hF hM))
        exact ⟨by rw [hr, htx]; rfl, hM.below⟩
end Go.Proofs.YtpmlgnbbkpplhaaGreatDoor
end
section
namespace Go.Proofs.YtpmlgnbbkpplhaaGreatDoor
set_option linter.unusedSimpArgs false
set_option linter.unusedVariables false
set_option maxRecDepth 20000
open Go.RowKit Go.Eng
end Go.Proofs.YtpmlgnbbkpplhaaGreatDoor
end
section
namespace Go.Proofs.YtpmlgnbbkpplhaaGreatDoor
set_option linter.unusedSimpArgs false
set_option linter.unusedVariables false
set_option maxRecDepth 20000
open Go.RowKit Go.Eng
theorem parE_g {s : List UInt8} (h : relOk s = true) : parE s = (verV s, 0) := if_pos h
theorem len_nil (l : List (List UInt8)) : decide ((l.length : Int) = 0) = decide (l = []) := by
  cases l with
  | nil => rfl
  | cons a r => rw [decide_eq_false (by rw [List.length_cons]; omega), decide_eq_false (by simp)]
end Go.Proofs.YtpmlgnbbkpplhaaGreatDoor
end
section
namespace Go.Proofs.YtpmlgnbbkpplhaaGreatDoor
set_option linter.unusedSimpArgs false
set_option linter.unusedVariables false
set_option maxRecDepth 20000
open Go.RowKit Go.Eng
abbrev a100 : List UInt8 := [97, 45, 49, 46, 48, 46, 48]
theorem par100 : parE a100 = (⟨[97], 1, 0, 0, []⟩, 0) := by kernel_rfl
theorem awakeRel_any (w : World) : Calls Tryz.prog 32 #[] w fun e w' => e = .returned (.bool true) ∧ Below w.heap.size w w' := by
  refine enter_args (args := []) (F := _) Tryz.func32 rfl Tryz.ntmps32 rfl rfl ?_
  intro Rb hRb hRn
  refine T_seq ?_
  refine T_region ?_
  refine S_ 0 rfl rfl rfl _ (y_assign rfl rfl) ?_
  refine S_go (fun _ _ h => h) ?_
  refine T_seq ?_
  refine T_region ?_
  refine S_callOwn 4 4 rfl rfl rfl rfl rfl rfl rfl cf24 (fun A c => .tuple #[pvV ⟨[97], 1, 0, 0, []⟩ A c, .int .i64 0]) 9 1 (0) ([]) (fun w hM => by have h := Parse_any a100 w; rw [par100] at h; exact h) ?_
  intro A4 c4
  refine S_ 3 rfl rfl rfl _ (y_move rfl rfl) ?_
  refine S_ 5 rfl rfl rfl _ (y_extract rfl rfl rfl) ?_
  refine S_ 6 rfl rfl rfl _ (y_extract rfl rfl rfl) ?_
  refine S_alloc 1 1 rfl rfl rfl rfl z42 ?_
  intro b1
  refine S_store 1 rfl rfl rfl rfl rfl rfl sz42 rfl rfl ?_
  refine S_ 2 rfl rfl rfl _ (y_assign rfl rfl) ?_
  refine S_go (fun _ _ h => h) ?_
  refine T_seq ?_
  refine T_region ?_
  refine S_ 7 rfl rfl rfl _ (y_move rfl rfl) ?_
  refine S_ 8 rfl rfl rfl _ (y_bin rfl rfl rfl (fun _ => b_eql)) ?_
  refine S_ 9 rfl rfl rfl _ (y_move rfl rfl) ?_
  refine Sg_ 10 rfl rfl rfl rfl rfl rfl _ (y_fieldAddr rfl rfl fa42_1) ?_
  refine Sg_ 11 rfl rfl rfl rfl rfl rfl _ (y_load 1 rfl rfl rfl rfl Tryz.underlying3 rfl) ?_
  refine Sg_ 12 rfl rfl rfl rfl rfl rfl _ (y_bin rfl rfl rfl (fun _ => b_eql)) ?_
  refine S_ 13 rfl rfl rfl _ (y_and rfl rfl rfl) ?_
  refine S_ 0 rfl rfl rfl _ (y_assign rfl rfl) ?_
  refine S_go (fun _ _ h => h) ?_
  refine T_ret (fun a w hF hM => hRb a w (post1 rfl rfl (fun w hM => ?_) a w hF hM))
  exact ⟨rfl, hM.below⟩
end Go.Proofs.YtpmlgnbbkpplhaaGreatDoor
end
section
namespace Go.Proofs.YtpmlgnbbkpplhaaGreatDoor
set_option linter.unusedSimpArgs false
set_option linter.unusedVariables false
set_option maxRecDepth 20000
open Go.RowKit Go.Eng
/-! ### Plain: what is sorted and compact, what is best -/
theorem cpt_mem {x : List UInt8} : ∀ {l out : List (List UInt8)}, x ∈ cptF out l ↔ x ∈ out ∨ x ∈ l
  | [], out => by rw [cptF]; simp
  | s :: r, out => by
    rw [cptF]
    split
    · rename_i h
      rw [cpt_mem, List.mem_cons]
      constructor
      · rintro (h1 | h1)
        · exact .inl h1
        · exact .inr (.inr h1)
      · rintro (h1 | rfl | h1)
        · exact .inl h1
        · exact .inl (List.mem_of_getLast? h)
        · exact .inr h1
    · rw [cpt_mem, List.mem_append, List.mem_singleton, List.mem_cons, or_assoc]
theorem cpt_strict : ∀ (l out : List (List UInt8)), (∀ x ∈ out ++ l, relOk x = true) → out.Pairwise (fun x y => relE x y < 0) → (∀ x ∈ out, ∀ y ∈ l, relE x y ≤ 0) → l.Pairwise (fun x y => relE x y ≤ 0) → (cptF out l).Pairwise fun x y => relE x y < 0
  | [], out, _, h1, _, _ => h1
  | s :: r, out, hr, h1, h2, h3 => by
    rw [cptF]
    have h4 := List.pairwise_cons.1 h3
    split
    · exact cpt_strict r out (fun x hx => hr x (by rcases List.mem_append.1 hx with h | h; exact List.mem_append_left _ h; exact List.mem_append_right _ (List.mem_cons_of_mem _ h))) h1 (fun x hx y hy => h2 x hx y (List.mem_cons_of_mem _ hy)) h4.2
    · rename_i hn
      have hs : relOk s = true := hr s (List.mem_append_right _ (List.mem_cons_self ..))
      have hlt : ∀ x ∈ out, relE x s < 0 := by
        intro x hx
        have h5 := h2 x hx s (List.mem_cons_self ..)
        rcases Int.lt_or_le (relE x s) 0 with h6 | h6
        · exact h6
        · exfalso
          have hxr : relOk x = true := hr x (List.mem_append_left _ hx)
          have h7 := cmp3_E.anti x s
          have e : x = s := relE_zero hxr hs h5 (by omega)
          subst e
          obtain ⟨o, z, rfl⟩ : ∃ o z, out = o ++ [z] := ⟨out.dropLast, out.getLast (List.ne_nil_of_mem hx), (List.dropLast_concat_getLast _).symm⟩
          refine hn ?_
          rw [List.getLast?_concat]
          rcases List.mem_append.1 hx with hx | hx
          · have h8 : relE x z < 0 := (List.pairwise_append.1 h1).2.2 x hx z (List.mem_singleton.2 rfl)
            have h9 := h2 z (List.mem_append_right _ (List.mem_singleton.2 rfl)) x (List.mem_cons_self ..)
            have h10 := cmp3_E.anti x z
            omega
          · rw [List.mem_singleton.1 hx]
      refine cpt_strict r (out ++ [s]) (fun x hx => hr x (by simpa using hx)) ?_ ?_ h4.2
      · rw [List.pairwise_append]
        exact ⟨h1, List.pairwise_singleton _ _, fun x hx y hy => by rw [List.mem_singleton.1 hy]; exact hlt x hx⟩
      · intro x hx y hy
        rcases List.mem_append.1 hx with hx | hx
        · exact h2 x hx y (List.mem_cons_of_mem _ hy)
        · rw [List.mem_singleton.1 hx]; exact h4.1 y hy
theorem srtR_good {S : List (List UInt8)} (h : allNo S = 0) : (srtR S).Pairwise (fun x y => relE x y < 0) ∧ ∀ x, x ∈ srtR S ↔ x ∈ S := by
  have hal := (all_ok h).2
  rw [srtR, if_pos h]
  have hm : ∀ x, x ∈ srtL S ↔ x ∈ S := fun x => (srt_perm S).mem_iff
  exact ⟨cpt_strict (srtL S) [] (fun x hx => hal x ((hm x).1 (by simpa using hx))) List.Pairwise.nil (fun x hx => by cases hx) (srt_sorted S), fun x => by rw [cpt_mem]; simp [hm]⟩
theorem bestF_spec {α : Type} {p : α → Bool} {c : α → α → Int} (hc : Cmp3 c) : ∀ (l : List α) (o : Option α),
    (bestF p (fun x y => decide (c x y < 0)) l o = none ↔ o = none ∧ ∀ y ∈ l, p y = false) ∧ ∀ x, bestF p (fun x y => decide (c x y < 0)) l o = some x → ((x ∈ l ∧ p x = true) ∨ o = some x) ∧ (∀ y ∈ l, p y = true → c x y ≤ 0) ∧ ∀ y, o = some y → c x y ≤ 0
  | [], o => by
    refine ⟨⟨fun h => ⟨h, fun y hy => (by cases hy)⟩, fun h => h.1⟩, fun x h => ⟨.inr h, fun y hy => (by cases hy), fun y hy => ?_⟩⟩
    have h : o = some x := h
    rw [h] at hy
    rw [Option.some.inj hy, hc.refl]; exact Int.le_refl _
  | a :: r, o => by
    rw [bestF]
    obtain ⟨h1, h2⟩ := bestF_spec hc r (if (p a && beats (fun x y => decide (c x y < 0)) a o) = true then some a else o)
    by_cases hb : (p a && beats (fun x y => decide (c x y < 0)) a o) = true
    · rw [if_pos hb] at h1 h2 ⊢
      simp only [Bool.and_eq_true] at hb
      refine ⟨⟨fun h => (by cases (h1.1 h).1), fun h => (by rw [h.2 a (List.mem_cons_self ..)] at hb; cases hb.1)⟩, fun x hx => ?_⟩
      obtain ⟨k1, k2, k3⟩ := h2 x hx
      have k4 := k3 a rfl
      refine ⟨?_, fun y hy hp => ?_, fun y hy => ?_⟩
      · rcases k1 with k1 | k1
        · exact .inl ⟨List.mem_cons_of_mem _ k1.1, k1.2⟩
        · exact .inl ⟨by rw [← Option.some.inj k1]; exact List.mem_cons_self .., by rw [← Option.some.inj k1]; exact hb.1⟩
      · rcases List.mem_cons.1 hy with rfl | hy
        · exact k4
        · exact k2 y hy hp
      · subst hy
        have h5 : c a y < 0 := by simpa [beats] using hb.2
        exact hc.tr _ _ _ k4 (by omega)
    · rw [if_neg hb] at h1 h2 ⊢
      refine ⟨⟨fun h => ?_, fun h => h1.2 ⟨h.1, fun y hy => h.2 y (List.mem_cons_of_mem _ hy)⟩⟩, fun x hx => ?_⟩
      · obtain ⟨k1, k2⟩ := h1.1 h
        refine ⟨k1, fun y hy => ?_⟩
        rcases List.mem_cons.1 hy with rfl | hy
        · subst k1
          simpa [beats] using hb
        · exact k2 y hy
      · obtain ⟨k1, k2, k3⟩ := h2 x hx
        refine ⟨?_, fun y hy hp => ?_, k3⟩
        · rcases k1 with k1 | k1
          · exact .inl ⟨List.mem_cons_of_mem _ k1.1, k1.2⟩
          · exact .inr k1
        · rcases List.mem_cons.1 hy with rfl | hy
          · cases o with
            | none => simp [hp, beats] at hb
            | some z =>
              have h5 : ¬ c y z < 0 := by simpa [hp, beats] using hb
              have h6 := k3 z rfl
              have h7 := hc.anti y z
              exact hc.tr _ _ _ h6 (by omega)
          · exact k2 y hy hp
theorem findP_at {α : Type} {p : α → Bool} : ∀ {l : List α} {i : Nat}, 0 ≤ findP p l i → ∃ (k : Nat) (t : α), findP p l i = ((i + k : Nat) : Int) ∧ l[k]? = some t ∧ p t = true ∧ ∀ (j : Nat) (y : α), j < k → l[j]? = some y → p y = false
  | [], i, h => by have h : (0 : Int) ≤ -1 := h; omega
  | a :: r, i, h => by
    rw [findP] at h ⊢
    by_cases hp : p a = true
    · rw [if_pos hp]
      exact ⟨0, a, rfl, rfl, hp, fun j y hj => by omega⟩
    · rw [if_neg hp] at h ⊢
      obtain ⟨k, t, h1, h2, h3, h4⟩ := findP_at h
      refine ⟨k + 1, t, by rw [h1]; congr 1; omega, h2, h3, fun j y hj hy => ?_⟩
      cases j with
      | zero =>
        have : a = y := by simpa using hy
        rw [← this]; simpa using hp
      | succ j => exact h4 j y (by omega) (by simpa using hy)
theorem cmp3_R : Cmp3 fun x y : List UInt8 => cmpV (verV x) (verV y) := cmp3_V.comap verV
theorem cmp3_flip {α : Type} {f : α → α → Int} (h : Cmp3 f) : Cmp3 fun x y => f y x := ⟨fun a b => h.anti b a, fun a b c h1 h2 => h.tr c b a h2 h1⟩
/-- the first one of the sorted texts that is after is the best one after -/
theorem aft_first {S : List (List UInt8)} {s : List UInt8} (h0 : allNo S = 0) {k : Nat} {t : List UInt8} (h1 : (srtR S)[k]? = some t) (h2 : aftP (verV s) (verV t) = true) (h3 : ∀ (j : Nat) (y : List UInt8), j < k → (srtR S)[j]? = some y → aftP (verV s) (verV y) = false) : aftO S s = some t := by
  obtain ⟨g1, g2⟩ := srtR_good h0
  have hal := (all_ok h0).2
  obtain ⟨b1, b2⟩ := bestF_spec (p := fun t => aftP (verV s) (verV t)) cmp3_R S none
  have htS : t ∈ S := (g2 t).1 (List.mem_of_getElem? h1)
  cases ho : aftO S s with
  | none =>
    have := (b1.1 ho).2 t htS
    rw [h2] at this; cases this
  | some u =>
    obtain ⟨c1, c2, _⟩ := b2 u ho
    obtain ⟨hu, hup⟩ := c1.resolve_right (by simp)
    have c3 := c2 t htS h2
    obtain ⟨j, hj⟩ := List.mem_iff_getElem?.1 ((g2 u).2 hu)
    have hjk : k ≤ j := by
      rcases Nat.lt_or_ge j k with h | h
      · have := h3 j u h hj
        rw [hup] at this; cases this
      · exact h
    have eR : ∀ x y, relOk x = true → relOk y = true → relE x y = cmpV (verV x) (verV y) := fun x y hx hy => by rw [relE, parE_g hx, parE_g hy]
    rcases Nat.eq_or_lt_of_le hjk with e | hlt
    · subst e; rw [h1] at hj; exact hj.symm
    · exfalso
      obtain ⟨hk1, rfl⟩ := List.getElem?_eq_some_iff.1 h1
      obtain ⟨hj1, rfl⟩ := List.getElem?_eq_some_iff.1 hj
      have h5 := List.pairwise_iff_getElem.1 g1 k j hk1 hj1 hlt
      rw [eR _ _ (hal _ htS) (hal _ hu)] at h5
      have h6 := cmp3_V.anti (verV (srtR S)[k]) (verV (srtR S)[j])
      omega
theorem aft_none {S : List (List UInt8)} {s : List UInt8} (h0 : allNo S = 0) (h : findP (fun t => aftP (verV s) (verV t)) (srtR S) 0 < 0) : aftO S s = none := by
  have h1 := (findP_any (fun t => aftP (verV s) (verV t)) (srtR S) 0).1.1 h
  refine (bestF_spec (p := fun t => aftP (verV s) (verV t)) cmp3_R S none).1.2 ⟨rfl, fun y hy => ?_⟩
  cases hq : aftP (verV s) (verV y) with
  | false => rfl
  | true =>
    have : (srtR S).any (fun t => aftP (verV s) (verV t)) = true := List.any_eq_true.2 ⟨y, ((srtR_good h0).2 y).2 hy, hq⟩
    rw [this] at h1; cases h1
/-- where one is of the project there is a latest one, and none of it is greater -/
theorem lat_some {S : List (List UInt8)} {s t : List UInt8} (h0 : allNo S = 0) (ht : t ∈ S) (hp : (verV t).p = (verV s).p) : ∃ u, latO S (verV s).p true = some u ∧ relOk u = true ∧ ∀ y ∈ S, (verV y).p = (verV s).p → ¬ 0 < cmpV (verV y) (verV u) := by
  obtain ⟨b1, b2⟩ := bestF_spec (p := fun t => latP (verV s).p true (verV t)) (cmp3_flip cmp3_R) S none
  have hP : ∀ y, (verV y).p = (verV s).p → latP (verV s).p true (verV y) = true := fun y h => by simp [latP, h]
  cases ho : latO S (verV s).p true with
  | none =>
    have := (b1.1 ho).2 t ht
    rw [hP t hp] at this; cases this
  | some u =>
    obtain ⟨c1, c2, _⟩ := b2 u ho
    obtain ⟨hu, _⟩ := c1.resolve_right (by simp)
    exact ⟨u, rfl, (all_ok h0).2 u hu, fun y hy h => by have := c2 y hy (hP y h); omega⟩
/-! ### The walk -/
theorem RA1_any (x : List UInt8) (i : SVer) (b1 : Nat) (w : World) (hi : VerOk w i) (h1 : CellsAt w b1 i.enc) :
    Calls Tryz.prog 35 #[str x, .pointer (some ⟨b1, 0, none⟩)] w fun e w' => e = .returned (.bool (aftP i.says (parE x).1)) ∧ Below w.heap.size w w' := by
  refine enter_args (args := [str x, .pointer (some ⟨b1, 0, none⟩)]) (F := _) Tryz.func35 rfl Tryz.ntmps35 rfl rfl ?_
  intro Rb hRb hRn
  refine T_seq ?_
  refine T_region ?_
  refine S_ 3 rfl rfl rfl _ (y_assign rfl rfl) ?_
  refine S_go (fun _ _ h => h) ?_
  refine T_seq ?_
  refine T_region ?_
  refine S_ 7 rfl rfl rfl _ (y_move rfl rfl) ?_
  refine S_callOwn 8 8 rfl rfl rfl rfl rfl rfl rfl cf24 (fun A c => .tuple #[pvV (parE x).1 A c, .int .i64 (parE x).2]) 9 1 ((parE x).1.pre.length) ((parE x).1.pre.flatMap strE) (fun w hM => Parse_any x w) ?_
  intro A8 c8
  refine S_ 6 rfl rfl rfl _ (y_move rfl rfl) ?_
  refine S_ 9 rfl rfl rfl _ (y_extract rfl rfl rfl) ?_
  refine S_ 10 rfl rfl rfl _ (y_extract rfl rfl rfl) ?_
  refine S_alloc 4 4 rfl rfl rfl rfl z42 ?_
  intro b4
  refine S_store 4 rfl rfl rfl rfl rfl rfl sz42 rfl rfl ?_
  refine S_ 5 rfl rfl rfl _ (y_assign rfl rfl) ?_
  refine S_go (fun _ _ h => h) ?_
  refine T_seq ?_
  refine T_region ?_
  refine S_ 11 rfl rfl rfl _ (y_fieldAddr rfl rfl fa42_0) ?_
  refine S_ 12 rfl rfl rfl _ (y_load 4 rfl rfl rfl rfl Tryz.underlying9 rfl) ?_
  refine S_ 13 rfl rfl rfl _ (y_fieldAddr rfl rfl fa42_0) ?_
  refine S_ 14 rfl rfl rfl _ (y_load_far rfl rfl (h1.one (j := 0) rfl).1 (h1.one (j := 0) (cs := i.enc) rfl).2 Tryz.underlying9 rfl) ?_
  refine S_ 15 rfl rfl rfl _ (y_bin rfl rfl rfl (fun _ => b_eqls)) ?_
  refine S_ 16 rfl rfl rfl _ (y_move rfl rfl) ?_
  refine Sg_ 17 rfl rfl rfl rfl rfl rfl _ (y_fieldAddr rfl rfl fa42_4) ?_
  refine Sg_ 18 rfl rfl rfl rfl rfl rfl _ (y_load 4 rfl rfl rfl rfl Tryz.underlying40 rfl) ?_
  refine Sg_ 19 rfl rfl rfl rfl rfl rfl _ (y_len_slice rfl rfl Tryz.underlying40) ?_
  refine Sg_ 20 rfl rfl rfl rfl rfl rfl _ (y_as (v' := .bool (decide ((parE x).1.pre = []))) (by rw [len_nil]) (y_bin rfl rfl rfl (fun _ => b_eql))) ?_
  refine S_ 21 rfl rfl rfl _ (y_and rfl rfl rfl) ?_
  refine S_ 22 rfl rfl rfl _ (y_move rfl rfl) ?_
  refine Sg_ 23 rfl rfl rfl rfl rfl rfl _ (y_loadA 4 rfl rfl rfl Tryz.underlying42 rfl sz42) ?_
  refine Sg_ 24 rfl rfl rfl rfl rfl rfl _ (y_loadA_far rfl rfl h1.1 h1.2 Tryz.underlying42 rfl sz42) ?_
  refine Sg_ 25 rfl rfl rfl rfl rfl rfl _ (y_call rfl rfl rfl cf22 (fun _ w hM => Compare_any (svr (parE x).1 A8 c8) i w (svr_ok (parE_bound _) (owned_ok (enc := strE) hM rfl (i := 8) rfl)) (hi.below hM.below))) ?_
  refine Sg_ 26 rfl rfl rfl rfl rfl rfl _ (y_bin rfl rfl rfl (fun _ => b_gtr)) ?_
  refine S_ 27 rfl rfl rfl _ (y_and rfl rfl rfl) ?_
  refine S_ 3 rfl rfl rfl _ (y_assign rfl rfl) ?_
  refine S_go (fun _ _ h => h) ?_
  refine T_ret (fun a w hF hM => hRb a w (post1 rfl rfl (fun w hM => ?_) a w hF hM))
  exact ⟨rfl, hM.below⟩
def gtP (i u v : PVer) : Bool := decide (v.p = i.p) && decide (0 < cmpV v u)
theorem RA2_any (x : List UInt8) (i u : SVer) (b1 b2 : Nat) (w : World) (hi : VerOk w i) (hu : VerOk w u) (h1 : CellsAt w b1 i.enc) (h2 : CellsAt w b2 u.enc) :
    Calls Tryz.prog 39 #[str x, .pointer (some ⟨b1, 0, none⟩), .pointer (some ⟨b2, 0, none⟩)] w fun e w' => e = .returned (.bool (gtP i.says u.says (parE x).1)) ∧ Below w.heap.size w w' := by
  refine enter_args (args := [str x, .pointer (some ⟨b1, 0, none⟩), .pointer (some ⟨b2, 0, none⟩)]) (F := _) Tryz.func39 rfl Tryz.ntmps39 rfl rfl ?_
  intro Rb hRb hRn
  refine T_seq ?_
  refine T_region ?_
  refine S_ 4 rfl rfl rfl _ (y_assign rfl rfl) ?_
  refine S_go (fun _ _ h => h) ?_
  refine T_seq ?_
  refine T_region ?_
  refine S_ 8 rfl rfl rfl _ (y_move rfl rfl) ?_
  refine S_callOwn 9 9 rfl rfl rfl rfl rfl rfl rfl cf24 (fun A c => .tuple #[pvV (parE x).1 A c, .int .i64 (parE x).2]) 9 1 ((parE x).1.pre.length) ((parE x).1.pre.flatMap strE) (fun w hM => Parse_any x w) ?_
  intro A9 c9
  refine S_ 7 rfl rfl rfl _ (y_move rfl rfl) ?_
  refine S_ 10 rfl rfl rfl _ (y_extract rfl rfl rfl) ?_
  refine S_ 11 rfl rfl rfl _ (y_extract rfl rfl rfl) ?_
  refine S_alloc 5 5 rfl rfl rfl rfl z42 ?_
  intro b5
  refine S_store 5 rfl rfl rfl rfl rfl rfl sz42 rfl rfl ?_
  refine S_ 6 rfl rfl rfl _ (y_assign rfl rfl) ?_
  refine S_go (fun _ _ h => h) ?_
  refine T_seq ?_
  refine T_region ?_
  refine S_ 12 rfl rfl rfl _ (y_fieldAddr rfl rfl fa42_0) ?_
  refine S_ 13 rfl rfl rfl _ (y_load 5 rfl rfl rfl rfl Tryz.underlying9 rfl) ?_
  refine S_ 14 rfl rfl rfl _ (y_fieldAddr rfl rfl fa42_0) ?_
  refine S_ 15 rfl rfl rfl _ (y_load_far rfl rfl (h1.one (j := 0) rfl).1 (h1.one (j := 0) (cs := i.enc) rfl).2 Tryz.underlying9 rfl) ?_
  refine S_ 16 rfl rfl rfl _ (y_bin rfl rfl rfl (fun _ => b_eqls)) ?_
  refine S_ 17 rfl rfl rfl _ (y_move rfl rfl) ?_
  refine Sg_ 18 rfl rfl rfl rfl rfl rfl _ (y_loadA 5 rfl rfl rfl Tryz.underlying42 rfl sz42) ?_
  refine Sg_ 19 rfl rfl rfl rfl rfl rfl _ (y_loadA_far rfl rfl h2.1 h2.2 Tryz.underlying42 rfl sz42) ?_
  refine Sg_ 20 rfl rfl rfl rfl rfl rfl _ (y_call rfl rfl rfl cf22 (fun _ w hM => Compare_any (svr (parE x).1 A9 c9) u w (svr_ok (parE_bound _) (owned_ok (enc := strE) hM rfl (i := 9) rfl)) (hu.below hM.below))) ?_
  refine Sg_ 21 rfl rfl rfl rfl rfl rfl _ (y_bin rfl rfl rfl (fun _ => b_gtr)) ?_
  refine S_ 22 rfl rfl rfl _ (y_and rfl rfl rfl) ?_
  refine S_ 4 rfl rfl rfl _ (y_assign rfl rfl) ?_
  refine S_go (fun _ _ h => h) ?_
  refine T_ret (fun a w hF hM => hRb a w (post1 rfl rfl (fun w hM => ?_) a w hF hM))
  exact ⟨rfl, hM.below⟩
set_option maxHeartbeats 3200000 in
theorem ReleaseAfter_any (A : Option Addr) (q c : Nat) (S : List (List UInt8)) (s : List UInt8) (w : World) (hS : SlT strE 1 w A q S) (hP : P10 w) :
    Calls Tryz.prog 7 #[.slice A q c, str s] w fun e w' => e = .returned (.bool true) ∧ Below w.heap.size w w' := by
  refine enter_args (args := [.slice A q c, str s]) (F := _) Tryz.func7 rfl Tryz.ntmps7 rfl rfl ?_
  intro Rb hRb hRn
  refine T_seq ?_
  refine T_region ?_
  refine S_ 4 rfl rfl rfl _ (y_assign rfl rfl) ?_
  refine S_go (fun _ _ h => h) ?_
  refine T_seq ?_
  refine T_seq ?_
  refine T_region ?_
  refine S_ 19 rfl rfl rfl _ (y_call rfl rfl rfl cf32 (fun _ w _ => awakeRel_any w)) ?_
  refine S_ 20 rfl rfl rfl _ (y_not rfl rfl) ?_
  refine S_go (fun _ _ h => h) ?_
  refine T_cond rfl (fun h20 => ?_) (fun h20 => ?_)
  · skip
    cases h20
  · skip
    refine T_skip_go (fun _ _ h => h) ?_
    refine T_seq ?_
    refine T_region ?_
    refine S_ 22 rfl rfl rfl _ (y_move rfl rfl) ?_
    refine S_callOwn 23 23 rfl rfl rfl rfl rfl rfl rfl cf33 (fun A c => .tuple #[.slice A (srtR S).length c, .int .i64 (allNo S)]) 9 1 ((srtR S).length) ((srtR S).flatMap strE) (fun w hM => Sorted_any A q c S w (hS.below hM.below) (hP.below hM.below)) ?_
    intro A23 c23
    refine S_ 21 rfl rfl rfl _ (y_move rfl rfl) ?_
    refine S_ 24 rfl rfl rfl _ (y_extract rfl rfl rfl) ?_
    refine S_ 25 rfl rfl rfl _ (y_extract rfl rfl rfl) ?_
    refine S_ 5 rfl rfl rfl _ (y_assign rfl rfl) ?_
    refine S_ 6 rfl rfl rfl _ (y_assign rfl rfl) ?_
    refine S_go (fun _ _ h => h) ?_
    refine T_seq ?_
    refine T_seq ?_
    refine T_region ?_
    refine S_ 26 rfl rfl rfl _ (y_move rfl rfl) ?_
    refine S_ 27 rfl rfl rfl _ (y_bin rfl rfl rfl (fun _ => b_neq)) ?_
    refine S_go (fun _ _ h => h) ?_
    refine T_cond rfl (fun h27 => ?_) (fun h27 => ?_)
    · try simp only [decide_eq_true_eq, decide_eq_false_iff_not, Bool.or_eq_true, Bool.or_eq_false_iff, Bool.and_eq_true, Bool.and_eq_false_iff, Bool.not_eq_true', Bool.not_eq_false', Bool.not_eq_true, Bool.not_eq_false, Bool.not_true, Bool.not_false, Int.not_lt, Int.not_le, not_or, not_and, Classical.not_not] at h27
      refine T_seq ?_
      refine T_region ?_
      refine S_ 4 rfl rfl rfl _ (y_assign rfl rfl) ?_
      refine S_go (fun _ _ h => h) ?_
      refine T_ret (fun a w hF hM => hRb a w (post1 rfl rfl (fun w hM => ?_) a w hF hM))
      exact ⟨rfl, hM.below⟩
    · try simp only [decide_eq_true_eq, decide_eq_false_iff_not, Bool.or_eq_true, Bool.or_eq_false_iff, Bool.and_eq_true, Bool.and_eq_false_iff, Bool.not_eq_true', Bool.not_eq_false', Bool.not_eq_true, Bool.not_eq_false, Bool.not_true, Bool.not_false, Int.not_lt, Int.not_le, not_or, not_and, Classical.not_not] at h27
      have h27 : allNo S = 0 := h27
      obtain ⟨hT1, hT2⟩ := srtR_good h27
      have hal := all_ok h27
      have hTr : ∀ x ∈ srtR S, relOk x = true := fun x hx => hal.2 x ((hT2 x).1 hx)
      have hTl : (srtR S).length ≤ 2000 := by
        rw [srtR, if_pos h27]
        have h1 := cpt_len (srtL S) []
        have h2 := srt_len S
        simp only [List.length_nil] at h1
        omega
      refine T_skip_go (fun _ _ h => h) ?_
      refine T_seq ?_
      refine T_region ?_
      refine S_ 29 rfl rfl rfl _ (y_move rfl rfl) ?_
      refine S_callOwn 30 30 rfl rfl rfl rfl rfl rfl rfl cf24 (fun A c => .tuple #[pvV (parE s).1 A c, .int .i64 (parE s).2]) 9 1 ((parE s).1.pre.length) ((parE s).1.pre.flatMap strE) (fun w hM => Parse_any s w) ?_
      intro A30 c30
      refine S_ 28 rfl rfl rfl _ (y_move rfl rfl) ?_
      refine S_ 31 rfl rfl rfl _ (y_extract rfl rfl rfl) ?_
      refine S_ 32 rfl rfl rfl _ (y_extract rfl rfl rfl) ?_
      refine S_alloc 7 7 rfl rfl rfl rfl z42 ?_
      intro b7
      refine S_store 7 rfl rfl rfl rfl rfl rfl sz42 rfl rfl ?_
      refine S_ 6 rfl rfl rfl _ (y_assign rfl rfl) ?_
      refine S_go (fun _ _ h => h) ?_
      refine T_seq ?_
      refine T_seq ?_
      refine T_region ?_
      refine S_ 33 rfl rfl rfl _ (y_move rfl rfl) ?_
      refine S_ 34 rfl rfl rfl _ (y_bin rfl rfl rfl (fun _ => b_neq)) ?_
      refine S_go (fun _ _ h => h) ?_
      refine T_cond rfl (fun h34 => ?_) (fun h34 => ?_)
      · try simp only [decide_eq_true_eq, decide_eq_false_iff_not, Bool.or_eq_true, Bool.or_eq_false_iff, Bool.and_eq_true, Bool.and_eq_false_iff, Bool.not_eq_true', Bool.not_eq_false', Bool.not_eq_true, Bool.not_eq_false, Bool.not_true, Bool.not_false, Int.not_lt, Int.not_le, not_or, not_and, Classical.not_not] at h34
        refine T_seq ?_
        refine T_region ?_
        refine S_ 4 rfl rfl rfl _ (y_assign rfl rfl) ?_
        refine S_go (fun _ _ h => h) ?_
        refine T_ret (fun a w hF hM => hRb a w (post1 rfl rfl (fun w hM => ?_) a w hF hM))
        exact ⟨rfl, hM.below⟩
      · try simp only [decide_eq_true_eq, decide_eq_false_iff_not, Bool.or_eq_true, Bool.or_eq_false_iff, Bool.and_eq_true, Bool.and_eq_false_iff, Bool.not_eq_true', Bool.not_eq_false', Bool.not_eq_true, Bool.not_eq_false, Bool.not_true, Bool.not_false, Int.not_lt, Int.not_le, not_or, not_and, Classical.not_not] at h34
        have hsr : relOk s = true := by
          cases hq : relOk s with
          | true => rfl
          | false => rw [parE, if_neg (by rw [hq]; simp)] at h34; exact absurd h34 (by decide)
        refine T_skip_go (fun _ _ h => h) ?_
        refine T_seq ?_
        refine T_seq ?_
        refine T_region ?_
        refine S_ 8 rfl rfl rfl _ (y_assign rfl rfl) ?_
        refine S_go (fun _ _ h => h) ?_
        refine T_block ?_
        refine T_loopK1 (kf := [(4, 4), (8, 12), (35, 61)]) (kl := [(4, 4), (8, 12), (35, 61)]) (fun (i : Nat) => [(8, true, .int .i64 ((i + 1 : Nat) : Int))]) (fun (i : Nat) => []) (fun (i : Nat) => i ≤ (srtR S).length) (fun (i : Nat) => (srtR S).length - i) 0 (by repeat (first | exact kf_nil | (apply kf_in; focus rfl) | (apply kf_out; focus rfl))) (by repeat (first | exact kl_nil | exact kl_rest (by assumption) rfl | (apply kl_in; focus rfl) | (apply kl_out; focus rfl))) ?_ ?_ ?_ ?_
        · omega
        · exact ⟨rfl, trivial⟩
        · exact trivial
        rintro i hp1
        refine T_seq ?_
        refine T_seq ?_
        refine T_region ?_
        refine S_ 35 rfl rfl rfl _ (y_move rfl rfl) ?_
        refine S_ 36 rfl rfl rfl _ (y_move rfl rfl) ?_
        refine S_ 37 rfl rfl rfl _ (y_len_slice rfl rfl Tryz.underlying40) ?_
        refine S_ 38 rfl rfl rfl _ (y_bin rfl rfl rfl (fun _ => b_lss)) ?_
        refine S_go (fun _ _ h => h) ?_
        refine T_cond rfl (fun h38 => ?_) (fun h38 => ?_)
        · try simp only [decide_eq_true_eq, decide_eq_false_iff_not, Bool.or_eq_true, Bool.or_eq_false_iff, Bool.and_eq_true, Bool.and_eq_false_iff, Bool.not_eq_true', Bool.not_eq_false', Bool.not_eq_true, Bool.not_eq_false, Bool.not_true, Bool.not_false, Int.not_lt, Int.not_le, not_or, not_and, Classical.not_not] at h38
          obtain ⟨a, ha1⟩ : ∃ a, (srtR S)[i]? = some a := ⟨_, List.getElem?_eq_getElem (by omega)⟩
          obtain ⟨b, hb1⟩ : ∃ b, (srtR S)[i + 1]? = some b := ⟨_, List.getElem?_eq_getElem (by omega)⟩
          refine T_skip_go (fun _ _ h => h) ?_
          refine T_seq ?_
          refine T_block ?_
          refine T_seq ?_
          refine T_region ?_
          refine S_ 42 rfl rfl rfl _ (y_move rfl rfl) ?_
          refine S_ 43 rfl rfl rfl _ (y_move rfl rfl) ?_
          refine S_ 44 rfl rfl rfl _ (y_bin rfl rfl rfl (fun hg => b_subv (((i : Nat) : Int)) (by omega) (by omega))) ?_
          refine S_ 45 rfl rfl rfl _ (y_indexOwn 23 rfl rfl rfl rfl Tryz.underlying40 sz9 (fun _ => by omega)) ?_
          refine S_ 46 rfl rfl rfl _ (y_loadO1 23 (val := (fun l : List UInt8 => str l)) rfl rfl rfl rfl (fun _ => ha1) Tryz.underlying9 rfl) ?_
          refine S_callOwn 47 47 rfl rfl rfl rfl rfl rfl rfl cf24 (fun A c => .tuple #[pvV (parE a).1 A c, .int .i64 (parE a).2]) 9 1 ((parE a).1.pre.length) ((parE a).1.pre.flatMap strE) (fun w hM => Parse_any a w) ?_
          intro A47 c47
          refine S_ 41 rfl rfl rfl _ (y_move rfl rfl) ?_
          refine S_ 48 rfl rfl rfl _ (y_extract rfl rfl rfl) ?_
          refine S_ 49 rfl rfl rfl _ (y_extract rfl rfl rfl) ?_
          refine S_alloc 9 9 rfl rfl rfl rfl z42 ?_
          intro b9
          refine S_store 9 rfl rfl rfl rfl rfl rfl sz42 rfl rfl ?_
          refine S_ 10 rfl rfl rfl _ (y_assign rfl rfl) ?_
          refine S_go (fun _ _ h => h) ?_
          refine T_seq ?_
          refine T_region ?_
          refine S_ 51 rfl rfl rfl _ (y_move rfl rfl) ?_
          refine S_ 52 rfl rfl rfl _ (y_move rfl rfl) ?_
          refine S_ 53 rfl rfl rfl _ (y_indexOwn 23 rfl rfl rfl rfl Tryz.underlying40 sz9 (fun _ => by omega)) ?_
          refine S_ 54 rfl rfl rfl _ (y_loadO1 23 (val := (fun l : List UInt8 => str l)) rfl rfl rfl rfl (fun _ => hb1) Tryz.underlying9 rfl) ?_
          refine S_callOwn 55 55 rfl rfl rfl rfl rfl rfl rfl cf24 (fun A c => .tuple #[pvV (parE b).1 A c, .int .i64 (parE b).2]) 9 1 ((parE b).1.pre.length) ((parE b).1.pre.flatMap strE) (fun w hM => Parse_any b w) ?_
          intro A55 c55
          refine S_ 50 rfl rfl rfl _ (y_move rfl rfl) ?_
          refine S_ 56 rfl rfl rfl _ (y_extract rfl rfl rfl) ?_
          refine S_ 57 rfl rfl rfl _ (y_extract rfl rfl rfl) ?_
          refine S_alloc 11 11 rfl rfl rfl rfl z42 ?_
          intro b11
          refine S_store 11 rfl rfl rfl rfl rfl rfl sz42 rfl rfl ?_
          refine S_ 12 rfl rfl rfl _ (y_assign rfl rfl) ?_
          refine S_go (fun _ _ h => h) ?_
          refine T_seq ?_
          refine T_region ?_
          refine S_ 58 rfl rfl rfl _ (y_loadA 9 rfl rfl rfl Tryz.underlying42 rfl sz42) ?_
          refine S_ 59 rfl rfl rfl _ (y_loadA 11 rfl rfl rfl Tryz.underlying42 rfl sz42) ?_
          refine S_ 60 rfl rfl rfl _ (y_call rfl rfl rfl cf22 (fun _ w hM => Compare_any (svr (parE a).1 A47 c47) (svr (parE b).1 A55 c55) w (svr_ok (parE_bound _) (owned_ok (enc := strE) hM rfl (i := 47) rfl)) (svr_ok (parE_bound _) (owned_ok (enc := strE) hM rfl (i := 55) rfl)))) ?_
          refine S_ 61 rfl rfl rfl _ (y_bin rfl rfl rfl (fun _ => b_geq)) ?_
          refine S_go (fun _ _ h => h) ?_
          refine T_cond rfl (fun h61 => ?_) (fun h61 => ?_)
          · skip
            exfalso
            obtain ⟨k1, rfl⟩ := List.getElem?_eq_some_iff.1 ha1
            obtain ⟨k2, rfl⟩ := List.getElem?_eq_some_iff.1 hb1
            have h1 := List.pairwise_iff_getElem.1 hT1 i (i + 1) k1 k2 (by omega)
            have h2 : 0 ≤ relE (srtR S)[i] (srtR S)[i + 1] := of_decide_eq_true h61
            omega
          · skip
            refine T_skip_go (fun _ _ h => h) ?_
            refine T_region ?_
            refine S_ 39 rfl rfl rfl _ (y_move rfl rfl) ?_
            refine S_ 40 rfl rfl rfl _ (y_bin rfl rfl rfl (fun hg => b_addv (((i + 1 + 1 : Nat) : Int)) (by omega) (by omega))) ?_
            refine S_ 8 rfl rfl rfl _ (y_assign rfl rfl) ?_
            refine S_nil (nextK1 (kf := [(4, 4), (8, 12), (35, 61)]) (kl := [(4, 4), (8, 12), (35, 61)]) (i + 1) (by repeat (first | exact kf_nil | (apply kf_in; focus rfl) | (apply kf_out; focus rfl))) (by repeat (first | exact kl_nil | exact kl_rest (by assumption) rfl | (apply kl_in; focus rfl) | (apply kl_out; focus rfl))) ?_ ?_ ?_ ?_)
            · omega
            · omega
            · exact ⟨rfl, trivial⟩
            · exact trivial
        · try simp only [decide_eq_true_eq, decide_eq_false_iff_not, Bool.or_eq_true, Bool.or_eq_false_iff, Bool.and_eq_true, Bool.and_eq_false_iff, Bool.not_eq_true', Bool.not_eq_false', Bool.not_eq_true, Bool.not_eq_false, Bool.not_true, Bool.not_false, Int.not_lt, Int.not_le, not_or, not_and, Classical.not_not] at h38
          refine T_exit_go (fun _ _ h => h) ?_
          refine T_seq ?_
          refine T_region ?_
          refine S_ 63 rfl rfl rfl _ (y_move rfl rfl) ?_
          refine S_ 64 rfl rfl rfl _ (y_move rfl rfl) ?_
          refine S_ 65 rfl rfl rfl _ (y_call rfl rfl rfl cf34 (fun _ w hM => After_any A q c S s w (hS.below hM.below) (hP.below hM.below))) ?_
          refine S_ 62 rfl rfl rfl _ (y_move rfl rfl) ?_
          refine S_ 66 rfl rfl rfl _ (y_extract rfl rfl rfl) ?_
          refine S_ 67 rfl rfl rfl _ (y_extract rfl rfl rfl) ?_
          refine S_ 13 rfl rfl rfl _ (y_assign rfl rfl) ?_
          refine S_ 6 rfl rfl rfl _ (y_assign rfl rfl) ?_
          refine S_go (fun _ _ h => h) ?_
          refine T_seq ?_
          refine T_region ?_
          refine S_ 68 rfl rfl rfl _ (y_makeFunc rfl rfl rfl rfl rfl) ?_
          refine S_ 14 rfl rfl rfl _ (y_assign rfl rfl) ?_
          refine S_go (fun _ _ h => h) ?_
          refine T_seq ?_
          refine T_region ?_
          refine S_ 69 rfl rfl rfl _ (y_move rfl rfl) ?_
          refine S_ 70 rfl rfl rfl _ (y_move rfl rfl) ?_
          refine S_ 71 rfl rfl rfl _ (y_call rfl rfl rfl cf36 (fun _ w hM => IndexFS_any _ _ _ (srtR S) _ _ (fun t => aftP (verV s) (verV t)) w (owned_T (enc := strE) hM rfl (i := 23) rfl) (by omega) cf35 (fun x hx w1 hb => (RA1_any x (svr (parE s).1 A30 c30) b7 w1 (svr_ok (parE_bound _) ((owned_ok (enc := strE) hM rfl (i := 30) rfl).below hb)) (cells_below (hM.box_cells 7 rfl) hb)).mono fun e w2 h => ⟨by rw [h.1, svr_says, parE_g hsr, parE_g (hTr x hx)], h.2⟩))) ?_
          refine S_ 15 rfl rfl rfl _ (y_assign rfl rfl) ?_
          refine S_go (fun _ _ h => h) ?_
          refine T_seq ?_
          refine T_seq ?_
          refine T_region ?_
          refine S_ 72 rfl rfl rfl _ (y_move rfl rfl) ?_
          refine S_ 73 rfl rfl rfl _ (y_bin rfl rfl rfl (fun _ => b_lss)) ?_
          refine S_go (fun _ _ h => h) ?_
          refine T_cond rfl (fun h73 => ?_) (fun h73 => ?_)
          · try simp only [decide_eq_true_eq, decide_eq_false_iff_not, Bool.or_eq_true, Bool.or_eq_false_iff, Bool.and_eq_true, Bool.and_eq_false_iff, Bool.not_eq_true', Bool.not_eq_false', Bool.not_eq_true, Bool.not_eq_false, Bool.not_true, Bool.not_false, Int.not_lt, Int.not_le, not_or, not_and, Classical.not_not] at h73
            have haf : aftR S s = ([], 7) := by rw [aftR, if_neg (by rw [h27]; simp), if_neg (by rw [hsr]; simp), aft_none h27 h73]; rfl
            refine T_seq ?_
            refine T_region ?_
            refine S_ 74 rfl rfl rfl _ (y_move rfl rfl) ?_
            refine S_ 75 rfl rfl rfl _ (y_bin rfl rfl rfl (fun _ => b_eql)) ?_
            refine S_ 76 rfl rfl rfl _ (y_move rfl rfl) ?_
            refine Sg_ 77 rfl rfl rfl rfl rfl rfl _ (y_move rfl rfl) ?_
            refine Sg_ 78 rfl rfl rfl rfl rfl rfl _ (y_bin rfl rfl rfl (fun _ => b_eqls)) ?_
            refine S_ 79 rfl rfl rfl _ (y_and rfl rfl rfl) ?_
            refine S_ 4 rfl rfl rfl _ (y_assign rfl rfl) ?_
            refine S_go (fun _ _ h => h) ?_
            refine T_ret (fun a w hF hM => hRb a w (post1 rfl rfl (fun w hM => ?_) a w hF hM))
            exact ⟨by rw [haf]; rfl, hM.below⟩
          · try simp only [decide_eq_true_eq, decide_eq_false_iff_not, Bool.or_eq_true, Bool.or_eq_false_iff, Bool.and_eq_true, Bool.and_eq_false_iff, Bool.not_eq_true', Bool.not_eq_false', Bool.not_eq_true, Bool.not_eq_false, Bool.not_true, Bool.not_false, Int.not_lt, Int.not_le, not_or, not_and, Classical.not_not] at h73
            obtain ⟨k, t, hk, hkt, hkp, hkb⟩ := findP_at (p := fun t => aftP (verV s) (verV t)) (l := srtR S) (i := 0) (by omega)
            rw [Nat.zero_add] at hk
            have hkl : k < (srtR S).length := (List.getElem?_eq_some_iff.1 hkt).1
            have hao := aft_first h27 hkt hkp hkb
            have haf : aftR S s = (t, 0) := by rw [aftR, if_neg (by rw [h27]; simp), if_neg (by rw [hsr]; simp), hao]; rfl
            have htS : t ∈ S := (hT2 t).1 (List.mem_of_getElem? hkt)
            have htp : (verV t).p = (verV s).p := by simp only [aftP, Bool.and_eq_true, decide_eq_true_eq] at hkp; exact hkp.1.1
            obtain ⟨u, hu1, hu2, hu3⟩ := lat_some h27 htS htp
            have hlr : latR S (parE s).1.p true = (u, 0) := by rw [parE_g hsr, latR, if_neg (by rw [h27]; simp), if_neg (by rw [(ver_right hsr).p]; simp), hu1]; rfl
            refine T_skip_go (fun _ _ h => h) ?_
            refine T_seq ?_
            refine T_seq ?_
            refine T_region ?_
            refine S_ 80 rfl rfl rfl _ (y_move rfl rfl) ?_
            refine S_ 81 rfl rfl rfl _ (y_bin rfl rfl rfl (fun _ => b_neq)) ?_
            refine S_ 82 rfl rfl rfl _ (y_move rfl rfl) ?_
            refine Sg_ 83 rfl rfl rfl rfl rfl rfl _ (y_move rfl rfl) ?_
            refine Sg_ 84 rfl rfl rfl rfl rfl rfl _ (y_move rfl rfl) ?_
            refine Sg_ 85 rfl rfl rfl rfl rfl rfl _ (y_as (v' := .int .i64 ((k : Nat) : Int)) (by rw [hk]) (y_move rfl rfl)) ?_
            refine Sg_ 86 rfl rfl rfl rfl rfl rfl _ (y_indexOwn 23 rfl rfl rfl rfl Tryz.underlying40 sz9 (fun _ => hkl)) ?_
            refine Sg_ 87 rfl rfl rfl rfl rfl rfl _ (y_loadO1 23 (val := (fun l : List UInt8 => str l)) rfl rfl rfl rfl (fun _ => hkt) Tryz.underlying9 rfl) ?_
            refine Sg_ 88 rfl rfl rfl rfl rfl rfl _ (y_bin rfl rfl rfl (fun _ => b_neqs)) ?_
            refine S_ 89 rfl rfl rfl _ (y_or rfl rfl rfl) ?_
            refine S_go (fun _ _ h => h) ?_
            refine T_cond rfl (fun h89 => ?_) (fun h89 => ?_)
            · skip
              simp [haf] at h89
            · skip
              refine T_skip_go (fun _ _ h => h) ?_
              refine T_seq ?_
              refine T_region ?_
              refine S_ 91 rfl rfl rfl _ (y_move rfl rfl) ?_
              refine S_ 92 rfl rfl rfl _ (y_fieldAddr rfl rfl fa42_0) ?_
              refine S_ 93 rfl rfl rfl _ (y_load 7 rfl rfl rfl rfl Tryz.underlying9 rfl) ?_
              refine S_ 94 rfl rfl rfl _ (y_call rfl rfl rfl cf37 (fun _ w hM => Latest_any A q c S (parE s).1.p true w (hS.below hM.below) (hP.below hM.below))) ?_
              refine S_ 90 rfl rfl rfl _ (y_move rfl rfl) ?_
              refine S_ 95 rfl rfl rfl _ (y_extract rfl rfl rfl) ?_
              refine S_ 96 rfl rfl rfl _ (y_extract rfl rfl rfl) ?_
              refine S_ 16 rfl rfl rfl _ (y_assign rfl rfl) ?_
              refine S_ 6 rfl rfl rfl _ (y_assign rfl rfl) ?_
              refine S_go (fun _ _ h => h) ?_
              refine T_seq ?_
              refine T_seq ?_
              refine T_region ?_
              refine S_ 97 rfl rfl rfl _ (y_move rfl rfl) ?_
              refine S_ 98 rfl rfl rfl _ (y_bin rfl rfl rfl (fun _ => b_neq)) ?_
              refine S_go (fun _ _ h => h) ?_
              refine T_cond rfl (fun h98 => ?_) (fun h98 => ?_)
              · skip
                simp [hlr] at h98
              · skip
                refine T_skip_go (fun _ _ h => h) ?_
                refine T_seq ?_
                refine T_region ?_
                refine S_ 100 rfl rfl rfl _ (y_move rfl rfl) ?_
                refine S_callOwn 101 101 rfl rfl rfl rfl rfl rfl rfl cf24 (fun A c => .tuple #[pvV (parE (latR S (parE s).1.p true).1).1 A c, .int .i64 (parE (latR S (parE s).1.p true).1).2]) 9 1 ((parE (latR S (parE s).1.p true).1).1.pre.length) ((parE (latR S (parE s).1.p true).1).1.pre.flatMap strE) (fun w hM => Parse_any (latR S (parE s).1.p true).1 w) ?_
                intro A101 c101
                refine S_ 99 rfl rfl rfl _ (y_move rfl rfl) ?_
                refine S_ 102 rfl rfl rfl _ (y_extract rfl rfl rfl) ?_
                refine S_ 103 rfl rfl rfl _ (y_extract rfl rfl rfl) ?_
                refine S_alloc 17 17 rfl rfl rfl rfl z42 ?_
                intro b17
                refine S_store 17 rfl rfl rfl rfl rfl rfl sz42 rfl rfl ?_
                refine S_ 18 rfl rfl rfl _ (y_assign rfl rfl) ?_
                refine S_go (fun _ _ h => h) ?_
                refine T_seq ?_
                refine T_region ?_
                refine S_ 104 rfl rfl rfl _ (y_move rfl rfl) ?_
                refine S_ 105 rfl rfl rfl _ (y_makeFunc rfl rfl rfl rfl rfl) ?_
                refine S_ 106 rfl rfl rfl _ (y_call rfl rfl rfl cf38 (fun _ w hM => ContFS_any _ _ _ (srtR S) _ _ (fun t => gtP (verV s) (verV u) (verV t)) w (owned_T (enc := strE) hM rfl (i := 23) rfl) (by omega) cf39 (fun x hx w1 hb => (RA2_any x (svr (parE s).1 A30 c30) (svr (parE (latR S (parE s).1.p true).1).1 A101 c101) b7 b17 w1 (svr_ok (parE_bound _) ((owned_ok (enc := strE) hM rfl (i := 30) rfl).below hb)) (svr_ok (parE_bound _) ((owned_ok (enc := strE) hM rfl (i := 101) rfl).below hb)) (cells_below (hM.box_cells 7 rfl) hb) (cells_below (hM.box_cells 17 rfl) hb)).mono fun e w2 h => ⟨by rw [h.1, svr_says, svr_says, hlr, parE_g hsr, parE_g hu2, parE_g (hTr x hx)], h.2⟩))) ?_
                refine S_ 107 rfl rfl rfl _ (y_not rfl rfl) ?_
                refine S_ 4 rfl rfl rfl _ (y_assign rfl rfl) ?_
                refine S_go (fun _ _ h => h) ?_
                refine T_ret (fun a w hF hM => hRb a w (post1 rfl rfl (fun w hM => ?_) a w hF hM))
                have hno : (srtR S).any (fun t => gtP (verV s) (verV u) (verV t)) = false := by
                  cases hq : (srtR S).any (fun t => gtP (verV s) (verV u) (verV t)) with
                  | false => rfl
                  | true =>
                    obtain ⟨y, hy, hg⟩ := List.any_eq_true.1 hq
                    simp only [gtP, Bool.and_eq_true, decide_eq_true_eq] at hg
                    exact absurd hg.2 (hu3 y ((hT2 y).1 hy) hg.1)
                exact ⟨by rw [hno]; rfl, hM.below⟩
end Go.Proofs.YtpmlgnbbkpplhaaGreatDoor
end
section
namespace Go.Proofs.YtpmlgnbbkpplhaaGreatDoor
set_option linter.unusedSimpArgs false
set_option linter.unusedVariables false
set_option maxRecDepth 20000
open Go.RowKit Go.Eng
section
variable {H : Type} {enc : TypeId × Value → H} {w : World}
def ShortS (s : List UInt8) : Prop := s.length ≤ reachBytes
theorem reach_len : reachBytes ≤ 4611686018427387904 := by decide
def strEnc (l : List UInt8) : List Value := [str l]
theorem op_s : Opn enc Tryz.prog w 9 strEnc ShortS (fun l d => d = .lit (.string l)) := opn_str Tryz.underlying9
def slV {X : Type} (s : Sl X) : List Value := [.slice s.A s.q s.c]
end
end Go.Proofs.YtpmlgnbbkpplhaaGreatDoor
end
section
namespace Go.Proofs.YtpmlgnbbkpplhaaGreatDoor
set_option linter.unusedSimpArgs false
set_option linter.unusedVariables false
set_option maxRecDepth 20000
open Go.ChangeShapes Go.WideShapes Go.RowKit
theorem ownNone : ownKnob Tryz.prog.godebug = none := by kernel_rfl
theorem laidOut : laidOutB Tryz.prog = true := by kernel_rfl
def firstCells : Array Value := (Go.Pinned.utf8FirstZ.map fun n : Nat => Value.int .u8 (n : Int)).toArray
def tabCells (k : IntKind) (zs : List Int) : Array Value := (zs.map fun n => Value.int k n).toArray
def rangeZ : List Int := [128, 191, 160, 191, 128, 159, 144, 191, 128, 143, 0, 0, 0, 0, 0, 0, 0, 0, 0, 0, 0, 0, 0, 0, 0, 0, 0, 0, 0, 0, 0, 0]
def tz32Z : List Int := [0, 1, 28, 2, 29, 14, 24, 3, 30, 22, 20, 15, 25, 17, 4, 8, 31, 27, 13, 23, 21, 19, 16, 7, 26, 12, 18, 6, 11, 5, 10, 9]
def tz64Z : List Int := [0, 1, 56, 2, 57, 49, 28, 3, 61, 58, 42, 50, 38, 29, 17, 4, 62, 47, 59, 36, 45, 43, 51, 22, 53, 39, 33, 30, 24, 18, 12, 5, 63, 55, 48, 27, 60, 41, 37, 16, 46, 35, 44, 21, 52, 32, 23, 11, 54, 26, 40, 15, 34, 20, 31, 10, 25, 14, 19, 9, 13, 8, 7, 6]
def pow10Z : List Int := [1, 10, 100, 1000, 10000, 100000, 1000000, 10000000, 100000000, 1000000000, 10000000000, 100000000000, 1000000000000, 10000000000000, 100000000000000, 1000000000000000, 10000000000000000, 100000000000000000, 1000000000000000000, 10000000000000000000]
def layCells (cs : Array Value) : Obj → Obj
  | .cells _ t frozen => .cells cs t frozen
  | o => o
end Go.Proofs.YtpmlgnbbkpplhaaGreatDoor
end
section
namespace Go.Proofs.YtpmlgnbbkpplhaaGreatDoor
set_option linter.unusedSimpArgs false
set_option linter.unusedVariables false
set_option maxRecDepth 20000
open Go.ChangeShapes Go.WideShapes Go.RowKit
noncomputable def low2 : Nat := (World.holding Tryz.prog default ⟨#[], #[], []⟩).heap.size
def rangeT : List UInt8 := [118, 97, 108, 117, 101, 32, 111, 117, 116, 32, 111, 102, 32, 114, 97, 110, 103, 101]
def syntaxT : List UInt8 := [105, 110, 118, 97, 108, 105, 100, 32, 115, 121, 110, 116, 97, 120]
noncomputable def laidWorld2 (os : Os) (args : Array Value) : World :=
  { World.holding Tryz.prog os ⟨#[.cells #[.string ⟨rangeT.toArray⟩] 299, .cells #[.string ⟨syntaxT.toArray⟩] 299], args, []⟩ with heap := (((((((World.holding Tryz.prog os ⟨#[.cells #[.string ⟨rangeT.toArray⟩] 299, .cells #[.string ⟨syntaxT.toArray⟩] 299], args, []⟩).heap.modify 1 (layCells firstCells)).modify 2 (layCells (tabCells .u8 rangeZ))).modify 6 (layCells (tabCells .u8 tz32Z))).modify 7 (layCells (tabCells .u8 tz64Z))).modify 3 (layCells (tabCells .u64 pow10Z))).modify 5 (layCells #[.iface 297 (.pointer (some ⟨low2, 0, none⟩))])).modify 4 (layCells #[.iface 297 (.pointer (some ⟨low2 + 1, 0, none⟩))]) }
end Go.Proofs.YtpmlgnbbkpplhaaGreatDoor
end
