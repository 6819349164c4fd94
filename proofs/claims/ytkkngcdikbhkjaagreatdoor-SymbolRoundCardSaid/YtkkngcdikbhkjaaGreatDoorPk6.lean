/- Part 6, merged by a program. symbol.ReadText. Conditions: those of each theorem. What Write, Read, Text and ReadText say of each other. Plain lists; no program in sight. Number, and that the package is there at all. No condition. The law on tables written and read back, walked. Condition: the tables and the powers of ten lie in memory. Tables and modules opened: from the form's reading to 'Tab.Ok'. No condition. A world in which the listed tables of Go's hold what their text says, at a seat of tables; what a row's condition says of the table of powers of ten. No condition. -/
import Derived.Test.YtkkngcdikbhkjaaGreatDoorPost
import Derived.Test.YtkkngcdikbhkjaaGreatDoorOpen
import Derived.Test.YtkkngcdikbhkjaaGreatDoorCards
import Derived.Test.YtkkngcdikbhkjaaGreatDoorTie
import Derived.Deep.DeepHandedRow
import Derived.Lib.LaidTab
import Derived.Stop.LaidErr
import Derived.ProofKit
import Derived.OpenShut
import Derived.Test.YtkkngcdikbhkjaaGreatDoorPk5
section
namespace Go.Proofs.YtkkngcdikbhkjaaGreatDoor
set_option linter.unusedSimpArgs false
set_option linter.unusedVariables false
set_option maxRecDepth 20000
open Go.RowKit Go.Eng
def kinL : List (List UInt8 × Value) := [(kTab, .int .i64 0), (kFil, .int .i64 1), (kFun, .int .i64 2), (kRow, .int .i64 3), (kCal, .int .i64 4)]
def kV (w : List UInt8) : Int := if kindOf w < 0 then 0 else kindOf w
theorem kin_get (w : List UInt8) : (mget kinL w).getD (.int .i64 0) = .int .i64 (kV w) ∧ (mget kinL w).isSome = !decide (kindOf w < 0) := by
  simp only [kinL, mget, kV, kindOf]
  by_cases h0 : w = kTab
  · simp [h0]
  by_cases h1 : w = kFil
  · subst h1; rw [if_neg (by decide)]; exact ⟨rfl, rfl⟩
  by_cases h2 : w = kFun
  · subst h2; rw [if_neg (by decide), if_neg (by decide)]; exact ⟨rfl, rfl⟩
  by_cases h3 : w = kRow
  · subst h3; rw [if_neg (by decide), if_neg (by decide), if_neg (by decide)]; exact ⟨rfl, rfl⟩
  by_cases h4 : w = kCal
  · subst h4; rw [if_neg (by decide), if_neg (by decide), if_neg (by decide), if_neg (by decide)]; exact ⟨rfl, rfl⟩
  simp [h0, h1, h2, h3, h4]
theorem kindOf_le (w : List UInt8) : -1 ≤ kindOf w ∧ kindOf w ≤ 4 := by
  unfold kindOf
  repeat' split
  all_goals omega
theorem words_le {s x : List UInt8} (h : x ∈ wordsT s) : x.length ≤ s.length := Nat.le_trans (spl_le 32 _ x h) (cut_le 10 s).1
theorem cut_less {s : List UInt8} (h : (cutC 10 s).2.2 = true) : (cutC 10 s).2.1.length < s.length := by
  have e := congrArg List.length (cut_t h)
  rw [List.length_append, List.length_cons] at e; omega
theorem words_at0 (s : List UInt8) : ∃ a r, wordsT s = a :: r ∧ kindT s = kindOf a := by
  cases h : wordsT s with
  | nil => exact absurd h (split_ne 32 _)
  | cons a r => exact ⟨a, r, rfl, by rw [kindT, h]; rfl⟩
/-- the condition of the line, as the program computes it -/
theorem bad_eq (s a : List UInt8) (n : Nat) (last : Int) (hk : kindT s = kindOf a) (h0 : 0 ≤ last) : (!(cutC 10 s).2.2 || !!decide (kindOf a < 0) || (decide (kV a = 0) != decide (((n + 1 : Nat) : Int) = 1)) || decide (kV a < last)) = badT s (decide (n = 0)) last := by
  have e1 : decide (((n + 1 : Nat) : Int) = 1) = decide (n = 0) := decide_eq_decide.2 (by omega)
  rw [badT, hk, e1, Bool.not_not]
  by_cases h : kindOf a < 0
  · rw [decide_eq_true h]; simp
  · rw [kV, if_neg h]
def rdRes1 (s : List UInt8) : PT × Nat × Bool := rdLines (s.length + 2) s 0 0 PT0
theorem rdTxt_big {s : List UInt8} (h : (1000000 : Int) < s.length) : rdTxt s = (PT0, 0, 4) := if_pos h
theorem rdTxt_bad {s : List UInt8} {p : PT} {n : Nat} (h : (s.length : Int) ≤ 1000000) (hr : rdRes1 s = (p, n, false)) : rdTxt s = (PT0, (n : Int), 8) := by
  unfold rdTxt
  rw [if_neg (by omega)]
  unfold rdRes1 at hr
  simp only [hr]; rfl
theorem rdTxt_fault {s : List UInt8} {p : PT} {n : Nat} (h : (s.length : Int) ≤ 1000000) (hr : rdRes1 s = (p, n, true)) (hn : tabNoP p ≠ 0) : rdTxt s = (PT0, 0, tabNoP p) := by
  unfold rdTxt
  rw [if_neg (by omega)]
  unfold rdRes1 at hr
  simp only [hr]
  rw [if_neg (by simp), if_pos hn]
theorem rdTxt_ok {s : List UInt8} {p : PT} {n : Nat} (h : (s.length : Int) ≤ 1000000) (hr : rdRes1 s = (p, n, true)) (hn : tabNoP p = 0) : rdTxt s = (p, 0, 0) := by
  unfold rdTxt
  rw [if_neg (by omega)]
  unfold rdRes1 at hr
  simp only [hr]
  rw [if_neg (by simp), if_neg (by simp [hn])]
theorem gate_t {s : List UInt8} {n : Nat} (h : (decide (((n + 1 : Nat) : Int) = 1) || !decide (s = [])) = true) : ¬ (s = [] ∧ n ≠ 0) := by
  rintro ⟨rfl, hn⟩
  simp at h; omega
theorem gate_f {s : List UInt8} {n : Nat} (h : (decide (((n + 1 : Nat) : Int) = 1) || !decide (s = [])) = false) : s = [] ∧ n ≠ 0 := by
  simp at h
  exact ⟨h.2, fun e => h.1 (by omega)⟩
theorem OT.fit_small {o : OT} {n : Nat} (h : o.fit n) (hn : n ≤ 1000001) : o.small := by
  obtain ⟨f1, f2, f3, f4, f5⟩ := h
  exact ⟨f1, ⟨by omega, f2.2⟩, ⟨by omega, f3.2⟩, by omega, ⟨by omega, f5.2⟩⟩
theorem OT0.fit0 : OT0.fit 0 := ⟨by simp [OT0], ⟨by simp [OT0], by simp [OT0]⟩, ⟨by simp [OT0], by simp [OT0]⟩, by simp [OT0], ⟨by simp [OT0], by simp [OT0]⟩⟩
theorem ReadText_any {w0 : World} {K : HL} (hK : FromK K) (u : List UInt8) (w : World) (hM0 : Mem w0 ([] ++ K) w) :
    Calls Tryz.prog 30 #[str u] w fun e w' => ∃ o : OT, e = .returned (.tuple #[o.tab.val, .int .i64 (rdTxt u).2.1, .int .i64 (rdTxt u).2.2]) ∧ (o.tab.pl = (rdTxt u).1 ∧ o.small) ∧ Mem w0 ([(908, rF o.fA o.fc o.fl), (909, rU o.uA o.uc o.ul), (910, rR o.rA o.rc o.rl), (911, rC o.cA o.cc o.cl)] ++ K) w' := by
  refine enterM_args (args := [str u]) (F := _) hM0 Tryz.func30 rfl Tryz.ntmps30 rfl rfl ?_
  intro Rb hRb hRn
  refine T_seq ?_
  refine T_region ?_
  refine S_alloc 2 2 rfl rfl rfl rfl z62 ?_
  intro b2
  refine S_ 3 rfl rfl rfl _ (y_assign rfl rfl) ?_
  refine S_ 4 rfl rfl rfl _ (y_assign rfl rfl) ?_
  refine S_go (fun _ _ h => h) ?_
  refine T_seq ?_
  refine T_seq ?_
  refine T_region ?_
  refine S_ 16 rfl rfl rfl _ (y_move rfl rfl) ?_
  refine S_ 17 rfl rfl rfl _ (y_len_str rfl rfl Tryz.underlying9) ?_
  refine S_ 18 rfl rfl rfl _ (y_bin rfl rfl rfl (fun _ => b_gtr)) ?_
  refine S_go (fun _ _ h => h) ?_
  refine T_cond rfl (fun h18 => ?_) (fun h18 => ?_)
  · try simp only [decide_eq_true_eq, decide_eq_false_iff_not, Bool.or_eq_true, Bool.or_eq_false_iff, Bool.and_eq_true, Bool.and_eq_false_iff, Bool.not_eq_true', Bool.not_eq_false', Bool.not_eq_true, Bool.not_eq_false, Bool.not_true, Bool.not_false, Int.not_lt, Int.not_le, not_or, not_and, Classical.not_not] at h18
    refine T_seq ?_
    refine T_region ?_
    refine S_ 19 rfl rfl rfl _ (y_build (zv := .agg #[.string ⟨#[]⟩, .int .i64 0, .slice none 0 0, .slice none 0 0, .slice none 0 0, .slice none 0 0]) (pl := [(0, 1), (1, 1), (2, 1), (3, 1), (4, 1), (5, 1)]) (out := [.string ⟨#[]⟩, .int .i64 0, .slice none 0 0, .slice none 0 0, .slice none 0 0, .slice none 0 0]) rfl rfl Tryz.underlying62 z62 (by kernel_rfl) rfl) ?_
    refine S_store 2 rfl rfl rfl rfl rfl rfl sz62 rfl rfl ?_
    refine S_ 3 rfl rfl rfl _ (y_assign rfl rfl) ?_
    refine S_ 4 rfl rfl rfl _ (y_assign rfl rfl) ?_
    refine S_go (fun _ _ h => h) ?_
    refine T_ret (fun a w hF hM => hRb a w (post_cell2 2 rfl rfl rfl rfl rfl Tryz.underlying62 rfl (by exact sz62) (fun w hM => ?_) a w hF hM))
    rw [rdTxt_big (by omega)]
    exact ⟨OT0, rfl, ⟨rfl, OT0.sm⟩, Mem.nil4 (hM.keep (ks := [(0, 999)]) (by repeat (first | exact kl_rest (by assumption) rfl | (apply kl_in; focus rfl))) _ trivial : Mem w0 ([] ++ K) w)⟩
  · try simp only [decide_eq_true_eq, decide_eq_false_iff_not, Bool.or_eq_true, Bool.or_eq_false_iff, Bool.and_eq_true, Bool.and_eq_false_iff, Bool.not_eq_true', Bool.not_eq_false', Bool.not_eq_true, Bool.not_eq_false, Bool.not_true, Bool.not_false, Int.not_lt, Int.not_le, not_or, not_and, Classical.not_not] at h18
    have hu : u.length ≤ 1000000 := by omega
    refine T_skip_go (fun _ _ h => h) ?_
    refine T_seq ?_
    refine T_region ?_
    refine S_makeMap 20 20 (fun l : List UInt8 => str l) rfl rfl rfl rfl ?_
    intro b20
    refine S_insert 20 (enc := fun l : List UInt8 => str l) rfl rfl rfl rfl rfl rfl rfl Tryz.underlying204 Tryz.underlying9 rfl same_str fits_str (rfl) ?_
    refine S_insert 20 (enc := fun l : List UInt8 => str l) rfl rfl rfl rfl rfl rfl rfl Tryz.underlying204 Tryz.underlying9 rfl same_str fits_str (rfl) ?_
    refine S_insert 20 (enc := fun l : List UInt8 => str l) rfl rfl rfl rfl rfl rfl rfl Tryz.underlying204 Tryz.underlying9 rfl same_str fits_str (rfl) ?_
    refine S_insert 20 (enc := fun l : List UInt8 => str l) rfl rfl rfl rfl rfl rfl rfl Tryz.underlying204 Tryz.underlying9 rfl same_str fits_str (rfl) ?_
    refine S_insert 20 (enc := fun l : List UInt8 => str l) rfl rfl rfl rfl rfl rfl rfl Tryz.underlying204 Tryz.underlying9 rfl same_str fits_str (rfl) ?_
    refine S_ 21 rfl rfl rfl _ (y_move rfl rfl) ?_
    refine S_ 5 rfl rfl rfl _ (y_assign rfl rfl) ?_
    refine S_go (fun _ _ h => h) ?_
    refine T_seq ?_
    refine T_region ?_
    refine S_alloc 6 6 rfl rfl rfl rfl z62 ?_
    intro b6
    refine S_nilSlice 908 (e := 9) (size := 1) ?_
    refine S_nilSlice 909 (e := 196) (size := 3) ?_
    refine S_nilSlice 910 (e := 198) (size := 3) ?_
    refine S_nilSlice 911 (e := 200) (size := 5) ?_
    refine S_go (fun _ _ h => h) ?_
    refine T_seq ?_
    refine T_region ?_
    refine S_ 7 rfl rfl rfl _ (y_assign rfl rfl) ?_
    refine S_go (fun _ _ h => h) ?_
    refine T_seq ?_
    refine T_seq ?_
    refine T_region ?_
    refine S_ 8 rfl rfl rfl _ (y_assign rfl rfl) ?_
    refine S_go (fun _ _ h => h) ?_
    refine T_block ?_
    refine T_loopK5 (kf := [(0, 0), (3, 4), (7, 14), (22, 73)]) (kl := [(0, 0), (3, 4), (6, 14), (22, 73), (908, 911)]) (fun (s : List UInt8) (n : Nat) (last : Int) (o : OT) (k : Nat) => [(0, true, str s), (8, true, .int .i64 ((n + 1 : Nat) : Int)), (7, true, .int .i64 last)]) (fun (s : List UInt8) (n : Nat) (last : Int) (o : OT) (k : Nat) => [(6, tBox b6 o), (908, rF o.fA o.fc o.fl), (909, rU o.uA o.uc o.ul), (910, rR o.rA o.rc o.rl), (911, rC o.cA o.cc o.cl)]) (fun (s : List UInt8) (n : Nat) (last : Int) (o : OT) (k : Nat) => n + s.length ≤ u.length ∧ rdLines k s n last o.tab.pl = rdRes1 u ∧ o.fit n ∧ s.length + (if n = 0 then 1 else 0) < k ∧ 0 ≤ last) (fun (s : List UInt8) (n : Nat) (last : Int) (o : OT) (k : Nat) => s.length) u 0 0 OT0 (u.length + 2) (by repeat (first | exact kf_nil | (apply kf_in; focus rfl) | (apply kf_out; focus rfl))) (by repeat (first | exact kl_nil | exact kl_rest (by assumption) rfl | (apply kl_in; focus rfl) | (apply kl_out; focus rfl))) ?_ ?_ ?_ ?_
    · exact ⟨by omega, rfl, OT0.fit0, by simp, by omega⟩
    · exact ⟨rfl, rfl, rfl, trivial⟩
    · exact ⟨rfl, rfl, rfl, rfl, rfl, trivial⟩
    rintro s n last o k ⟨hp1, hp2, hp3, hp4, hp5⟩
    refine T_seq ?_
    refine T_seq ?_
    refine T_region ?_
    refine S_ 22 rfl rfl rfl _ (y_move rfl rfl) ?_
    refine S_ 23 rfl rfl rfl _ (y_bin rfl rfl rfl (fun _ => b_eql)) ?_
    refine S_ 24 rfl rfl rfl _ (y_move rfl rfl) ?_
    refine Sg_ 25 rfl rfl rfl rfl rfl rfl _ (y_move rfl rfl) ?_
    refine Sg_ 26 rfl rfl rfl rfl rfl rfl _ (y_bin rfl rfl rfl (fun _ => b_neqs)) ?_
    refine S_ 27 rfl rfl rfl _ (y_or rfl rfl rfl) ?_
    refine S_go (fun _ _ h => h) ?_
    refine T_cond rfl (fun h27 => ?_) (fun h27 => ?_)
    · skip
      have hgo : ¬ (s = [] ∧ n ≠ 0) := gate_t h27
      obtain ⟨a, r, hW, hkd⟩ := words_at0 s
      have hcle := cut_le 10 s
      obtain ⟨k, rfl⟩ : ∃ k1, k = k1 + 1 := ⟨k - 1, by omega⟩
      refine T_skip_go (fun _ _ h => h) ?_
      refine T_seq ?_
      refine T_block ?_
      refine T_seq ?_
      refine T_region ?_
      refine S_ 31 rfl rfl rfl _ (y_move rfl rfl) ?_
      refine S_ 32 rfl rfl rfl _ (y_call rfl rfl rfl cf127 (fun _ w _ => Cut1_any s 10 w (by omega))) ?_
      refine S_ 30 rfl rfl rfl _ (y_move rfl rfl) ?_
      refine S_ 33 rfl rfl rfl _ (y_extract rfl rfl rfl) ?_
      refine S_ 34 rfl rfl rfl _ (y_extract rfl rfl rfl) ?_
      refine S_ 35 rfl rfl rfl _ (y_extract rfl rfl rfl) ?_
      refine S_ 9 rfl rfl rfl _ (y_assign rfl rfl) ?_
      refine S_ 10 rfl rfl rfl _ (y_assign rfl rfl) ?_
      refine S_ 11 rfl rfl rfl _ (y_assign rfl rfl) ?_
      refine S_go (fun _ _ h => h) ?_
      refine T_seq ?_
      refine T_region ?_
      refine S_ 36 rfl rfl rfl _ (y_move rfl rfl) ?_
      refine S_callOwn 37 37 rfl rfl rfl rfl rfl rfl rfl cf128 (fun A c => .slice A ((wordsT s).length) c) 9 1 ((wordsT s).length) ((wordsT s).flatMap strEnc) (fun w hM => Split1_any (cutC 10 s).1 32 (by omega) w) ?_
      intro A37 c37
      refine S_ 12 rfl rfl rfl _ (y_assign rfl rfl) ?_
      refine S_go (fun _ _ h => h) ?_
      refine T_seq ?_
      refine T_region ?_
      refine S_ 39 rfl rfl rfl _ (y_move rfl rfl) ?_
      refine S_ 40 rfl rfl rfl _ (y_move rfl rfl) ?_
      refine S_ 41 rfl rfl rfl _ (y_indexOwnI (j := 0) 37 rfl rfl rfl (fun _ => rfl) rfl Tryz.underlying57 sz9 (fun _ => by rw [hW]; simp)) ?_
      refine S_ 42 rfl rfl rfl _ (y_loadO1 37 (val := (fun l : List UInt8 => str l)) rfl rfl rfl rfl (fun _ => by rw [hW]; rfl) Tryz.underlying9 rfl) ?_
      refine S_ 43 rfl rfl rfl _ (y_as (v' := .tuple #[.int .i64 (kV a), .bool (!decide (kindOf a < 0))]) (by rw [← (kin_get a).1, ← (kin_get a).2]; rfl) (y_lookup2 20 (enc := fun l : List UInt8 => str l) rfl rfl rfl rfl Tryz.underlying204 Tryz.underlying9 rfl same_str z3)) ?_
      refine S_ 38 rfl rfl rfl _ (y_move rfl rfl) ?_
      refine S_ 44 rfl rfl rfl _ (y_extract rfl rfl rfl) ?_
      refine S_ 45 rfl rfl rfl _ (y_extract rfl rfl rfl) ?_
      refine S_ 13 rfl rfl rfl _ (y_assign rfl rfl) ?_
      refine S_ 14 rfl rfl rfl _ (y_assign rfl rfl) ?_
      refine S_go (fun _ _ h => h) ?_
      refine T_seq ?_
      refine T_seq ?_
      refine T_region ?_
      refine S_ 46 rfl rfl rfl _ (y_move rfl rfl) ?_
      refine S_ 47 rfl rfl rfl _ (y_not rfl rfl) ?_
      refine S_ 48 rfl rfl rfl _ (y_move rfl rfl) ?_
      refine Sg_ 49 rfl rfl rfl rfl rfl rfl _ (y_move rfl rfl) ?_
      refine Sg_ 50 rfl rfl rfl rfl rfl rfl _ (y_not rfl rfl) ?_
      refine S_ 51 rfl rfl rfl _ (y_or rfl rfl rfl) ?_
      refine S_ 52 rfl rfl rfl _ (y_move rfl rfl) ?_
      refine Sg_ 53 rfl rfl rfl rfl rfl rfl _ (y_move rfl rfl) ?_
      refine Sg_ 54 rfl rfl rfl rfl rfl rfl _ (y_bin rfl rfl rfl (fun _ => b_eql)) ?_
      refine Sg_ 55 rfl rfl rfl rfl rfl rfl _ (y_move rfl rfl) ?_
      refine Sg_ 56 rfl rfl rfl rfl rfl rfl _ (y_bin rfl rfl rfl (fun _ => b_eql)) ?_
      refine Sg_ 57 rfl rfl rfl rfl rfl rfl _ (y_bin rfl rfl rfl (fun _ => b_neqb Tryz.underlying4)) ?_
      refine S_ 58 rfl rfl rfl _ (y_or rfl rfl rfl) ?_
      refine S_ 59 rfl rfl rfl _ (y_move rfl rfl) ?_
      refine Sg_ 60 rfl rfl rfl rfl rfl rfl _ (y_move rfl rfl) ?_
      refine Sg_ 61 rfl rfl rfl rfl rfl rfl _ (y_move rfl rfl) ?_
      refine Sg_ 62 rfl rfl rfl rfl rfl rfl _ (y_bin rfl rfl rfl (fun _ => b_lss)) ?_
      refine S_ 63 rfl rfl rfl _ (y_or rfl rfl rfl) ?_
      rcases Bool.eq_false_or_eq_true (badT s (decide (n = 0)) last) with hb | hb
      · skip
        refine S_ 64 rfl rfl rfl _ (y_as (v' := .bool true) (by exact congrArg Value.bool ((bad_eq s a n last hkd hp5).trans hb)) (y_move rfl rfl)) ?_
        refine S_skip 65 rfl rfl rfl rfl rfl rfl rfl ?_
        refine S_skip 66 rfl rfl rfl rfl rfl rfl rfl ?_
        refine S_skip 67 rfl rfl rfl rfl rfl rfl rfl ?_
        refine S_skip 68 rfl rfl rfl rfl rfl rfl rfl ?_
        refine S_ 69 rfl rfl rfl _ (y_pickT rfl rfl rfl) ?_
        refine S_go (fun _ _ h => h) ?_
        refine T_cond rfl (fun h69 => ?_) (fun h69 => ?_)
        · skip
          rw [rdL_bad hgo hb] at hp2
          refine T_seq ?_
          refine T_region ?_
          refine S_ 70 rfl rfl rfl _ (y_build (zv := .agg #[.string ⟨#[]⟩, .int .i64 0, .slice none 0 0, .slice none 0 0, .slice none 0 0, .slice none 0 0]) (pl := [(0, 1), (1, 1), (2, 1), (3, 1), (4, 1), (5, 1)]) (out := [.string ⟨#[]⟩, .int .i64 0, .slice none 0 0, .slice none 0 0, .slice none 0 0, .slice none 0 0]) rfl rfl Tryz.underlying62 z62 (by kernel_rfl) rfl) ?_
          refine S_ 71 rfl rfl rfl _ (y_move rfl rfl) ?_
          refine S_store 2 rfl rfl rfl rfl rfl rfl sz62 rfl rfl ?_
          refine S_ 3 rfl rfl rfl _ (y_assign rfl rfl) ?_
          refine S_ 4 rfl rfl rfl _ (y_assign rfl rfl) ?_
          refine S_go (fun _ _ h => h) ?_
          refine T_ret (fun a w hF hM => hRb a w (post_cell2 2 rfl rfl rfl rfl rfl Tryz.underlying62 rfl (by exact sz62) (fun w hM => ?_) a w hF hM))
          rw [rdTxt_bad (by omega) hp2.symm]
          exact ⟨OT0, rfl, ⟨rfl, OT0.sm⟩, Mem.nil4 (hM.keep (ks := [(0, 999)]) (by repeat (first | exact kl_rest (by assumption) rfl | (apply kl_in; focus rfl))) _ trivial : Mem w0 ([] ++ K) w)⟩
        · skip
          cases h69
      · skip
        have hk0 : ¬ kindOf a < 0 := by rw [← hkd]; simp only [badT, Bool.or_eq_false_iff, decide_eq_false_iff_not] at hb; exact hb.1.1.2
        have hce : (cutC 10 s).2.2 = true := by simp only [badT, Bool.or_eq_false_iff, Bool.not_eq_false'] at hb; exact hb.1.1.1
        have hcl := cut_less hce
        have hkv : kV a = kindOf a := if_neg hk0
        have hka : 0 ≤ kV a ∧ kV a ≤ 4 := by have := kindOf_le a; omega
        have hws : ∀ x ∈ wordsT s, x.length ≤ 1000000 := fun x hx => by have := words_le hx; omega
        refine S_ 64 rfl rfl rfl _ (y_as (v' := .bool false) (by exact congrArg Value.bool ((bad_eq s a n last hkd hp5).trans hb)) (y_move rfl rfl)) ?_
        refine Sg_ 65 rfl rfl rfl rfl rfl rfl _ (y_move rfl rfl) ?_
        refine Sg_ 66 rfl rfl rfl rfl rfl rfl _ (y_move rfl rfl) ?_
        refine S_unguard rfl rfl rfl rfl rfl ?_
        refine S_callM 67 [(901, 6), (902, 37), (908, 908), (909, 909), (910, 910), (911, 911)] (X := OT) rfl rfl rfl rfl rfl rfl rfl cf129 rfl (fun _ => .bool (lineT (kV a) (wordsT s) o.tab.pl).isSome) (fun z => (∀ p, lineT (kV a) (wordsT s) o.tab.pl = some p → z.tab.pl = p) ∧ z.fit (n + 1)) (fun z => [(901, tBox b6 z), (902, rF A37 c37 (wordsT s)), (908, rF z.fA z.fc z.fl), (909, rU z.uA z.uc z.ul), (910, rR z.rA z.rc z.rl), (911, rC z.cA z.cc z.cl)]) (fun _ => rfl) (fun _ => rfl) (fun K1 hK1 w hM => takeLine_any hK1 b6 o n (by omega) hp3 (kV a) hka A37 c37 (wordsT s) hws w hM) ?_
        intro z hz
        refine Sg_ 68 rfl rfl rfl rfl rfl rfl _ (y_not rfl rfl) ?_
        refine S_ 69 rfl rfl rfl _ (y_or rfl rfl rfl) ?_
        refine S_go (fun _ _ h => h) ?_
        refine T_cond rfl (fun h69 => ?_) (fun h69 => ?_)
        · skip
          have hln : lineT (kindT s) (wordsT s) o.tab.pl = none := by rw [hkd, ← hkv]; simpa using h69
          rw [rdL_none hgo hb hln] at hp2
          refine T_seq ?_
          refine T_region ?_
          refine S_ 70 rfl rfl rfl _ (y_build (zv := .agg #[.string ⟨#[]⟩, .int .i64 0, .slice none 0 0, .slice none 0 0, .slice none 0 0, .slice none 0 0]) (pl := [(0, 1), (1, 1), (2, 1), (3, 1), (4, 1), (5, 1)]) (out := [.string ⟨#[]⟩, .int .i64 0, .slice none 0 0, .slice none 0 0, .slice none 0 0, .slice none 0 0]) rfl rfl Tryz.underlying62 z62 (by kernel_rfl) rfl) ?_
          refine S_ 71 rfl rfl rfl _ (y_move rfl rfl) ?_
          refine S_store 2 rfl rfl rfl rfl rfl rfl sz62 rfl rfl ?_
          refine S_ 3 rfl rfl rfl _ (y_assign rfl rfl) ?_
          refine S_ 4 rfl rfl rfl _ (y_assign rfl rfl) ?_
          refine S_go (fun _ _ h => h) ?_
          refine T_ret (fun a w hF hM => hRb a w (post_cell2 2 rfl rfl rfl rfl rfl Tryz.underlying62 rfl (by exact sz62) (fun w hM => ?_) a w hF hM))
          rw [rdTxt_bad (by omega) hp2.symm]
          exact ⟨OT0, rfl, ⟨rfl, OT0.sm⟩, Mem.nil4 (hM.keep (ks := [(0, 999)]) (by repeat (first | exact kl_rest (by assumption) rfl | (apply kl_in; focus rfl))) _ trivial : Mem w0 ([] ++ K) w)⟩
        · skip
          obtain ⟨p1, hp1'⟩ : ∃ p, lineT (kV a) (wordsT s) o.tab.pl = some p := Option.isSome_iff_exists.1 (by simpa using h69)
          have hzp := hz.1 p1 hp1'
          rw [rdL_some hgo hb (show lineT (kindT s) (wordsT s) o.tab.pl = some p1 by rw [hkd, ← hkv]; exact hp1'), ← hzp, hkd, ← hkv] at hp2
          refine T_skip_go (fun _ _ h => h) ?_
          refine T_region ?_
          refine S_ 72 rfl rfl rfl _ (y_move rfl rfl) ?_
          refine S_ 73 rfl rfl rfl _ (y_move rfl rfl) ?_
          refine S_ 7 rfl rfl rfl _ (y_assign rfl rfl) ?_
          refine S_ 0 rfl rfl rfl _ (y_assign rfl rfl) ?_
          refine S_go (fun _ _ h => h) ?_
          refine T_region ?_
          refine S_ 28 rfl rfl rfl _ (y_move rfl rfl) ?_
          refine S_ 29 rfl rfl rfl _ (y_bin rfl rfl rfl (fun hg => b_add (by omega))) ?_
          refine S_ 8 rfl rfl rfl _ (y_assign rfl rfl) ?_
          refine S_nil (nextK5 (kf := [(0, 0), (3, 4), (7, 14), (22, 73)]) (kl := [(0, 0), (3, 4), (6, 14), (22, 73), (908, 911)]) (cutC 10 s).2.1 (n + 1) (kV a) z k (by repeat (first | exact kf_nil | (apply kf_in; focus rfl) | (apply kf_out; focus rfl))) (by repeat (first | exact kl_nil | exact kl_rest (by assumption) rfl | (apply kl_in; focus rfl) | (apply kl_out; focus rfl))) ?_ ?_ ?_ ?_)
          · omega
          · exact ⟨by omega, hp2, hz.2, by rw [if_neg (by omega)]; omega, hka.1⟩
          · exact ⟨rfl, rfl, rfl, trivial⟩
          · exact ⟨rfl, rfl, rfl, rfl, rfl, trivial⟩
    · skip
      obtain ⟨hs0, hn0⟩ := gate_f h27
      subst hs0
      obtain ⟨k, rfl⟩ : ∃ k1, k = k1 + 1 := ⟨k - 1, by omega⟩
      rw [rdL_end hn0] at hp2
      have hsm : o.small := OT.fit_small hp3 (by omega)
      refine T_exit_go (fun _ _ h => h) ?_
      refine T_seq ?_
      refine T_seq ?_
      refine T_region ?_
      refine S_ 74 rfl rfl rfl _ (y_loadA 6 rfl rfl rfl Tryz.underlying62 rfl sz62) ?_
      refine S_ 75 rfl rfl rfl _ (y_call rfl rfl rfl cf123 (fun _ w hM => CheckTable_any o.tab w (OT.ok hM hsm rfl rfl rfl rfl))) ?_
      refine S_ 15 rfl rfl rfl _ (y_assign rfl rfl) ?_
      refine S_go (fun _ _ h => h) ?_
      refine T_seq ?_
      refine T_region ?_
      refine S_ 76 rfl rfl rfl _ (y_move rfl rfl) ?_
      refine S_ 77 rfl rfl rfl _ (y_bin rfl rfl rfl (fun _ => b_neq)) ?_
      refine S_go (fun _ _ h => h) ?_
      refine T_cond rfl (fun h77 => ?_) (fun h77 => ?_)
      · try simp only [decide_eq_true_eq, decide_eq_false_iff_not, Bool.or_eq_true, Bool.or_eq_false_iff, Bool.and_eq_true, Bool.and_eq_false_iff, Bool.not_eq_true', Bool.not_eq_false', Bool.not_eq_true, Bool.not_eq_false, Bool.not_true, Bool.not_false, Int.not_lt, Int.not_le, not_or, not_and, Classical.not_not] at h77
        refine T_seq ?_
        refine T_region ?_
        refine S_ 78 rfl rfl rfl _ (y_build (zv := .agg #[.string ⟨#[]⟩, .int .i64 0, .slice none 0 0, .slice none 0 0, .slice none 0 0, .slice none 0 0]) (pl := [(0, 1), (1, 1), (2, 1), (3, 1), (4, 1), (5, 1)]) (out := [.string ⟨#[]⟩, .int .i64 0, .slice none 0 0, .slice none 0 0, .slice none 0 0, .slice none 0 0]) rfl rfl Tryz.underlying62 z62 (by kernel_rfl) rfl) ?_
        refine S_ 79 rfl rfl rfl _ (y_move rfl rfl) ?_
        refine S_store 2 rfl rfl rfl rfl rfl rfl sz62 rfl rfl ?_
        refine S_ 3 rfl rfl rfl _ (y_assign rfl rfl) ?_
        refine S_ 4 rfl rfl rfl _ (y_assign rfl rfl) ?_
        refine S_go (fun _ _ h => h) ?_
        refine T_ret (fun a w hF hM => hRb a w (post_cell2 2 rfl rfl rfl rfl rfl Tryz.underlying62 rfl (by exact sz62) (fun w hM => ?_) a w hF hM))
        have hk := OT.ok hM hsm rfl rfl rfl rfl
        rw [rdTxt_fault (by omega) hp2.symm (by rw [← tabNo_pl hk]; exact h77)]
        exact ⟨OT0, by rw [← tabNo_pl hk]; rfl, ⟨rfl, OT0.sm⟩, Mem.nil4 (hM.keep (ks := [(0, 999)]) (by repeat (first | exact kl_rest (by assumption) rfl | (apply kl_in; focus rfl))) _ trivial : Mem w0 ([] ++ K) w)⟩
      · try simp only [decide_eq_true_eq, decide_eq_false_iff_not, Bool.or_eq_true, Bool.or_eq_false_iff, Bool.and_eq_true, Bool.and_eq_false_iff, Bool.not_eq_true', Bool.not_eq_false', Bool.not_eq_true, Bool.not_eq_false, Bool.not_true, Bool.not_false, Int.not_lt, Int.not_le, not_or, not_and, Classical.not_not] at h77
        refine T_skip_go (fun _ _ h => h) ?_
        refine T_seq ?_
        refine T_region ?_
        refine S_ 80 rfl rfl rfl _ (y_loadA 6 rfl rfl rfl Tryz.underlying62 rfl sz62) ?_
        refine S_store 2 rfl rfl rfl rfl rfl rfl sz62 rfl rfl ?_
        refine S_ 3 rfl rfl rfl _ (y_assign rfl rfl) ?_
        refine S_ 4 rfl rfl rfl _ (y_assign rfl rfl) ?_
        refine S_go (fun _ _ h => h) ?_
        refine T_ret (fun a w hF hM => hRb a w (post_cell2 2 rfl rfl rfl rfl rfl Tryz.underlying62 rfl (by exact sz62) (fun w hM => ?_) a w hF hM))
        have hk := OT.ok hM hsm rfl rfl rfl rfl
        rw [rdTxt_ok (by omega) hp2.symm (by rw [← tabNo_pl hk]; exact h77)]
        exact ⟨o, rfl, ⟨rfl, hsm⟩, hM.keep (ks := [(0, 999)]) (by repeat (first | exact kl_rest (by assumption) rfl | (apply kl_in; focus rfl))) _ ⟨rfl, rfl, rfl, rfl, trivial⟩⟩
end Go.Proofs.YtkkngcdikbhkjaaGreatDoor
end
section
namespace Go.Proofs.YtkkngcdikbhkjaaGreatDoor
set_option linter.unusedSimpArgs false
set_option linter.unusedVariables false
set_option maxRecDepth 20000
open Go.RowKit Go.Eng
theorem tabNo_of {t : Tab} {w : World} (h : t.Ok w) : tabNo t = tabNo (tabOf t.pl) := tabNo_pl h
theorem read_parts {s : List UInt8} (h : readNo s = 0) : (s.length : Int) ≤ 1000000 ∧ ∃ p, parseT s = some p ∧ tabNo (tabOf p) = 0 ∧ readP s = p := by
  have h' := h
  unfold readNo at h
  split at h
  · cases h
  rename_i hl
  cases hp : parseT s with
  | none => rw [hp] at h; cases h
  | some p =>
    rw [hp] at h
    exact ⟨by omega, p, rfl, h, by rw [readP, if_pos h', hp]; rfl⟩
/-- what was read is written as it was -/
theorem read_write {s : List UInt8} {o : Tab} {w : World} (ho : o.Ok w) (h : readNo s = 0) (hp : o.pl = readP s) : writeNo o = 0 ∧ writeS o = s := by
  obtain ⟨hl, p, h1, h2, h3⟩ := read_parts h
  rw [h3] at hp
  have e1 : tabB o = s := by rw [tabB_pl ho, hp]; exact parse_print h1 h2
  have e2 : tabNo o = 0 := by rw [tabNo_of ho, hp]; exact h2
  have e3 : writeNo o = 0 := fst_b e2 (if_neg (by rw [e1]; omega))
  exact ⟨e3, by rw [writeS, if_pos e3, e1]⟩
theorem write_parts {t : Tab} (h : writeNo t = 0) : tabNo t = 0 ∧ ((tabB t).length : Int) ≤ 1000000 ∧ writeS t = tabB t := by
  obtain ⟨h1, h2⟩ := fst_zero h
  refine ⟨h1, ?_, if_pos h⟩
  have := (le_of_ite h2).1
  omega
/-- what was written is read back -/
theorem write_read {t : Tab} {w : World} (ht : t.Ok w) (h : writeNo t = 0) : readNo (writeS t) = 0 ∧ readP (writeS t) = t.pl := by
  obtain ⟨h1, h2, h3⟩ := write_parts h
  have e0 : tabNo (tabOf t.pl) = 0 := by rw [← tabNo_of ht]; exact h1
  have e1 : parseT (writeS t) = some t.pl := by rw [h3, tabB_pl ht]; exact print_parse e0
  have e2 : readNo (writeS t) = 0 := by
    rw [readNo, if_neg (by rw [h3]; omega), e1]; exact e0
  exact ⟨e2, by rw [readP, if_pos e2, e1]; rfl⟩
/-- lines that were written are read back -/
theorem text_read {t : Tab} {w : World} (ht : t.Ok w) (h : textNo t = 0) : rdTxt (textS t) = (t.pl, 0, 0) := by
  obtain ⟨h1, h2⟩ := fst_zero h
  have := (le_of_ite h2).1
  rw [textS, if_pos h]
  exact text_back (by rw [← tabNo_of ht]; exact h1) (by omega)
/-- tables of the same contents are written alike -/
theorem write_same {t u : Tab} {w w' : World} (ht : t.Ok w) (hu : u.Ok w') (h : t.pl = u.pl) : writeNo t = writeNo u ∧ writeS t = writeS u := by
  have e1 : tabNo t = tabNo u := by rw [tabNo_of ht, tabNo_of hu, h]
  have e2 : tabB t = tabB u := by rw [tabB_pl ht, tabB_pl hu, h]
  have e3 : writeNo t = writeNo u := by rw [writeNo, writeNo, e1, e2]
  exact ⟨e3, by rw [writeS, writeS, e3, e2]⟩
end Go.Proofs.YtkkngcdikbhkjaaGreatDoor
end
section
namespace Go.Proofs.YtkkngcdikbhkjaaGreatDoor
set_option linter.unusedSimpArgs false
set_option linter.unusedVariables false
set_option maxRecDepth 20000
open Go.RowKit Go.Eng
theorem Number_any (n : Int) (w : World) :
    Calls Tryz.prog 133 #[.int .i64 n] w fun e w' => e = .returned (.tuple (if 0 ≤ n ∧ n ≤ 281474976710656 then #[str (dig128 n.toNat), .int .i64 0] else #[str [], .int .i64 2])) ∧ Below w.heap.size w w' := by
  refine enter_args (args := [.int .i64 n]) (F := _) Tryz.func133 rfl Tryz.ntmps133 rfl rfl ?_
  intro Rb hRb hRn
  refine T_seq ?_
  refine T_region ?_
  refine S_ 2 rfl rfl rfl _ (y_assign rfl rfl) ?_
  refine S_ 3 rfl rfl rfl _ (y_assign rfl rfl) ?_
  refine S_go (fun _ _ h => h) ?_
  refine T_seq ?_
  refine T_seq ?_
  refine T_region ?_
  refine S_ 4 rfl rfl rfl _ (y_move rfl rfl) ?_
  refine S_ 5 rfl rfl rfl _ (y_call rfl rfl rfl cf166 (fun _ w _ => outside_any _ _ _ w)) ?_
  refine S_go (fun _ _ h => h) ?_
  refine T_cond rfl (fun h5 => ?_) (fun h5 => ?_)
  · try simp only [decide_eq_true_eq, decide_eq_false_iff_not, Bool.or_eq_true, Bool.or_eq_false_iff, Bool.and_eq_true, Bool.and_eq_false_iff, Bool.not_eq_true', Bool.not_eq_false', Bool.not_eq_true, Bool.not_eq_false, Bool.not_true, Bool.not_false, Int.not_lt, Int.not_le, not_or, not_and, Classical.not_not] at h5
    refine T_seq ?_
    refine T_region ?_
    refine S_ 2 rfl rfl rfl _ (y_assign rfl rfl) ?_
    refine S_ 3 rfl rfl rfl _ (y_assign rfl rfl) ?_
    refine S_go (fun _ _ h => h) ?_
    refine T_ret (fun a w hF hM => hRb a w (post2 rfl rfl rfl (fun w hM => ?_) a w hF hM))
    exact ⟨by rw [if_neg (by omega)], hM.below⟩
  · try simp only [decide_eq_true_eq, decide_eq_false_iff_not, Bool.or_eq_true, Bool.or_eq_false_iff, Bool.and_eq_true, Bool.and_eq_false_iff, Bool.not_eq_true', Bool.not_eq_false', Bool.not_eq_true, Bool.not_eq_false, Bool.not_true, Bool.not_false, Int.not_lt, Int.not_le, not_or, not_and, Classical.not_not] at h5
    refine T_skip_go (fun _ _ h => h) ?_
    refine T_seq ?_
    refine T_region ?_
    refine S_ 6 rfl rfl rfl _ (y_move rfl rfl) ?_
    refine S_ 7 rfl rfl rfl _ (y_call rfl rfl rfl cf135 (fun _ w _ => digits_any _ (by omega) (by omega) w)) ?_
    refine S_ 2 rfl rfl rfl _ (y_assign rfl rfl) ?_
    refine S_ 3 rfl rfl rfl _ (y_assign rfl rfl) ?_
    refine S_go (fun _ _ h => h) ?_
    refine T_ret (fun a w hF hM => hRb a w (post2 rfl rfl rfl (fun w hM => ?_) a w hF hM))
    exact ⟨by rw [if_pos (by omega)], hM.below⟩
theorem awake_any (w : World) : Calls Tryz.prog 33 #[] w fun e w' => e = .returned (.bool true) ∧ Below w.heap.size w w' := by
  refine enter_args (args := []) (F := _) Tryz.func33 rfl Tryz.ntmps33 rfl rfl ?_
  intro Rb hRb hRn
  refine T_seq ?_
  refine T_region ?_
  refine S_ 0 rfl rfl rfl _ (y_assign rfl rfl) ?_
  refine S_go (fun _ _ h => h) ?_
  refine T_seq ?_
  refine T_region ?_
  refine S_ 4 rfl rfl rfl _ (y_call rfl rfl rfl cf133 (fun _ w _ => Number_any 300 w)) ?_
  refine S_ 3 rfl rfl rfl _ (y_move rfl rfl) ?_
  refine S_ 5 rfl rfl rfl _ (y_extract rfl rfl rfl) ?_
  refine S_ 6 rfl rfl rfl _ (y_extract rfl rfl rfl) ?_
  refine S_ 1 rfl rfl rfl _ (y_assign rfl rfl) ?_
  refine S_ 2 rfl rfl rfl _ (y_assign rfl rfl) ?_
  refine S_go (fun _ _ h => h) ?_
  refine T_seq ?_
  refine T_region ?_
  refine S_ 7 rfl rfl rfl _ (y_move rfl rfl) ?_
  refine S_ 8 rfl rfl rfl _ (y_bin rfl rfl rfl (fun _ => b_eql)) ?_
  refine S_ 9 rfl rfl rfl _ (y_move rfl rfl) ?_
  refine Sg_ 10 rfl rfl rfl rfl rfl rfl _ (y_move rfl rfl) ?_
  refine Sg_ 11 rfl rfl rfl rfl rfl rfl _ (y_bin rfl rfl rfl (fun _ => b_eqls)) ?_
  refine S_ 12 rfl rfl rfl _ (y_and rfl rfl rfl) ?_
  refine S_ 0 rfl rfl rfl _ (y_assign rfl rfl) ?_
  refine S_go (fun _ _ h => h) ?_
  refine T_ret (fun a w hF hM => hRb a w (post1 rfl rfl (fun w hM => ?_) a w hF hM))
  have e : (decide ((0 : Int) = 0) && decide (dig128 (Int.toNat 300) = [172, 2])) = true := by simp [dig128]
  exact ⟨by rw [e], hM.below⟩
end Go.Proofs.YtkkngcdikbhkjaaGreatDoor
end
section
namespace Go.Proofs.YtkkngcdikbhkjaaGreatDoor
set_option linter.unusedSimpArgs false
set_option linter.unusedVariables false
set_option maxRecDepth 20000
open Go.RowKit Go.Eng
theorem text_four {t : Tab} (h : tabNo t = 0) (hn : ¬ textNo t = 0) : textNo t = 4 := by
  unfold textNo at hn ⊢
  rw [h] at hn ⊢
  have e : fst 0 (if (1000000 : Int) < (tabT t.pl).length then 4 else 0) = if (1000000 : Int) < (tabT t.pl).length then 4 else 0 := rfl
  rw [e] at hn ⊢
  split
  · rfl
  · rename_i h1; rw [if_neg h1] at hn; exact absurd rfl hn
theorem T_knownR {P : Program} {w0 : World} {n : Nat} {c : Code} {F : FL} {L : HL} {Q : Exit → Act → World → Prop} {p : Prop} (h : ∀ w, Mem w0 L w → p) (hK : p → T P w0 n c F L Q) : T P w0 n c F L Q := fun a w hF hM => hK (h w hM) a w hF hM
theorem SymbolRound_any (t : Tab) (s : List UInt8) (w : World) (hok : t.Ok w) (hP : P10 w) :
    Calls Tryz.prog 7 #[.agg #[str t.id, .int .i64 t.size, .slice t.fi.A t.fi.q t.fi.c, .slice t.fu.A t.fu.q t.fu.c, .slice t.ro.A t.ro.q t.ro.c, .slice t.ca.A t.ca.q t.ca.c], str s] w fun e w' => e = .returned (.bool true) ∧ Below w.heap.size w w' := by
  refine enter_args (args := [.agg #[str t.id, .int .i64 t.size, .slice t.fi.A t.fi.q t.fi.c, .slice t.fu.A t.fu.q t.fu.c, .slice t.ro.A t.ro.q t.ro.c, .slice t.ca.A t.ca.q t.ca.c], str s]) (F := _) Tryz.func7 rfl Tryz.ntmps7 rfl rfl ?_
  intro Rb hRb hRn
  refine T_seq ?_
  refine T_region ?_
  refine S_box 2 2 rfl rfl rfl rfl rfl ?_
  intro b2
  refine S_ 4 rfl rfl rfl _ (y_assign rfl rfl) ?_
  refine S_go (fun _ _ h => h) ?_
  refine T_seq ?_
  refine T_seq ?_
  refine T_region ?_
  refine S_ 18 rfl rfl rfl _ (y_call rfl rfl rfl cf33 (fun _ w _ => awake_any w)) ?_
  refine S_ 19 rfl rfl rfl _ (y_not rfl rfl) ?_
  refine S_go (fun _ _ h => h) ?_
  refine T_cond rfl (fun h19 => ?_) (fun h19 => ?_)
  · skip
    cases h19
  · skip
    refine T_skip_go (fun _ _ h => h) ?_
    refine T_seq ?_
    refine T_seq ?_
    refine T_region ?_
    refine S_ 21 rfl rfl rfl _ (y_move rfl rfl) ?_
    refine S_callN 22 [] [(908, 808), (909, 809), (910, 810), (911, 811)] (X := OT) rfl rfl rfl rfl rfl rfl rfl cf34 rfl (fun z => .tuple #[z.tab.val, .int .i64 (readNo (s))]) (fun z => z.tab.pl = readP (s) ∧ z.small) (fun z => [(908, rF z.fA z.fc z.fl), (909, rU z.uA z.uc z.ul), (910, rR z.rA z.rc z.rl), (911, rC z.cA z.cc z.cl)]) (fun _ => rfl) (fun _ => rfl) (fun K1 hK1 w hM => Read_any hK1 (s) w hM) ?_
    intro o ho
    refine S_ 20 rfl rfl rfl _ (y_move rfl rfl) ?_
    refine S_ 23 rfl rfl rfl _ (y_extract rfl rfl rfl) ?_
    refine S_ 24 rfl rfl rfl _ (y_extract rfl rfl rfl) ?_
    refine S_alloc 5 5 rfl rfl rfl rfl z62 ?_
    intro b5
    refine S_store 5 rfl rfl rfl rfl rfl rfl sz62 rfl rfl ?_
    refine S_ 6 rfl rfl rfl _ (y_assign rfl rfl) ?_
    refine S_go (fun _ _ h => h) ?_
    refine T_seq ?_
    refine T_region ?_
    refine S_ 25 rfl rfl rfl _ (y_move rfl rfl) ?_
    refine S_ 26 rfl rfl rfl _ (y_bin rfl rfl rfl (fun _ => b_eql)) ?_
    refine S_go (fun _ _ h => h) ?_
    refine T_cond rfl (fun h26 => ?_) (fun h26 => ?_)
    · try simp only [decide_eq_true_eq, decide_eq_false_iff_not, Bool.or_eq_true, Bool.or_eq_false_iff, Bool.and_eq_true, Bool.and_eq_false_iff, Bool.not_eq_true', Bool.not_eq_false', Bool.not_eq_true, Bool.not_eq_false, Bool.not_true, Bool.not_false, Int.not_lt, Int.not_le, not_or, not_and, Classical.not_not] at h26
      refine T_knownR (fun w hM => read_write (OT.okI 808 hM ho.2 rfl rfl rfl rfl) h26 ho.1) fun he => ?_
      refine T_seq ?_
      refine T_region ?_
      refine S_ 28 rfl rfl rfl _ (y_loadA 5 rfl rfl rfl Tryz.underlying62 rfl sz62) ?_
      refine S_ 29 rfl rfl rfl _ (y_call rfl rfl rfl cf35 (fun _ w hM => Write_any o.tab w (OT.okI 808 hM ho.2 rfl rfl rfl rfl))) ?_
      refine S_ 27 rfl rfl rfl _ (y_move rfl rfl) ?_
      refine S_ 30 rfl rfl rfl _ (y_extract rfl rfl rfl) ?_
      refine S_ 31 rfl rfl rfl _ (y_extract rfl rfl rfl) ?_
      refine S_ 7 rfl rfl rfl _ (y_assign rfl rfl) ?_
      refine S_ 8 rfl rfl rfl _ (y_assign rfl rfl) ?_
      refine S_go (fun _ _ h => h) ?_
      refine T_seq ?_
      refine T_seq ?_
      refine T_region ?_
      refine S_ 32 rfl rfl rfl _ (y_move rfl rfl) ?_
      refine S_ 33 rfl rfl rfl _ (y_bin rfl rfl rfl (fun _ => b_neq)) ?_
      refine S_ 34 rfl rfl rfl _ (y_move rfl rfl) ?_
      refine Sg_ 35 rfl rfl rfl rfl rfl rfl _ (y_move rfl rfl) ?_
      refine Sg_ 36 rfl rfl rfl rfl rfl rfl _ (y_move rfl rfl) ?_
      refine Sg_ 37 rfl rfl rfl rfl rfl rfl _ (y_bin rfl rfl rfl (fun _ => b_neqs)) ?_
      refine S_ 38 rfl rfl rfl _ (y_or rfl rfl rfl) ?_
      refine S_go (fun _ _ h => h) ?_
      refine T_cond rfl (fun h38 => ?_) (fun h38 => ?_)
      · skip
        exfalso
        revert h38
        rw [he.1, he.2]
        simp
      · skip
        refine T_skip_go (fun _ _ h => h) ?_
        refine T_region ?_
        refine S_ 39 rfl rfl rfl _ (y_loadA 5 rfl rfl rfl Tryz.underlying62 rfl sz62) ?_
        refine S_store 2 rfl rfl rfl rfl rfl rfl sz62 rfl rfl ?_
        refine S_go (fun _ _ h => h) ?_
        refine T_seq ?_
        refine T_region ?_
        refine S_ 41 rfl rfl rfl _ (y_loadA 2 rfl rfl rfl Tryz.underlying62 rfl sz62) ?_
        refine S_ 42 rfl rfl rfl _ (y_call rfl rfl rfl cf35 (fun _ w hM => Write_any o.tab w (OT.okI 808 hM ho.2 rfl rfl rfl rfl))) ?_
        refine S_ 40 rfl rfl rfl _ (y_move rfl rfl) ?_
        refine S_ 43 rfl rfl rfl _ (y_extract rfl rfl rfl) ?_
        refine S_ 44 rfl rfl rfl _ (y_extract rfl rfl rfl) ?_
        refine S_ 9 rfl rfl rfl _ (y_assign rfl rfl) ?_
        refine S_ 10 rfl rfl rfl _ (y_assign rfl rfl) ?_
        refine S_go (fun _ _ h => h) ?_
        refine T_seq ?_
        refine T_seq ?_
        refine T_region ?_
        refine S_ 45 rfl rfl rfl _ (y_move rfl rfl) ?_
        refine S_ 46 rfl rfl rfl _ (y_bin rfl rfl rfl (fun _ => b_neq)) ?_
        refine S_go (fun _ _ h => h) ?_
        refine T_cond rfl (fun h46 => ?_) (fun h46 => ?_)
        · try simp only [decide_eq_true_eq, decide_eq_false_iff_not, Bool.or_eq_true, Bool.or_eq_false_iff, Bool.and_eq_true, Bool.and_eq_false_iff, Bool.not_eq_true', Bool.not_eq_false', Bool.not_eq_true, Bool.not_eq_false, Bool.not_true, Bool.not_false, Int.not_lt, Int.not_le, not_or, not_and, Classical.not_not] at h46
          refine T_seq ?_
          refine T_region ?_
          refine S_ 4 rfl rfl rfl _ (y_assign rfl rfl) ?_
          refine S_go (fun _ _ h => h) ?_
          refine T_ret (fun a w hF hM => hRb a w (post1 rfl rfl (fun w hM => ?_) a w hF hM))
          exact ⟨rfl, hM.below⟩
        · try simp only [decide_eq_true_eq, decide_eq_false_iff_not, Bool.or_eq_true, Bool.or_eq_false_iff, Bool.and_eq_true, Bool.and_eq_false_iff, Bool.not_eq_true', Bool.not_eq_false', Bool.not_eq_true, Bool.not_eq_false, Bool.not_true, Bool.not_false, Int.not_lt, Int.not_le, not_or, not_and, Classical.not_not] at h46
          refine T_knownR (fun w hM => write_read (OT.okI 808 hM ho.2 rfl rfl rfl rfl) h46) fun hw => ?_
          refine T_skip_go (fun _ _ h => h) ?_
          refine T_seq ?_
          refine T_region ?_
          refine S_ 48 rfl rfl rfl _ (y_move rfl rfl) ?_
          refine S_callN 49 [] [(908, 708), (909, 709), (910, 710), (911, 711)] (X := OT) rfl rfl rfl rfl rfl rfl rfl cf34 rfl (fun z => .tuple #[z.tab.val, .int .i64 (readNo (writeS o.tab))]) (fun z => z.tab.pl = readP (writeS o.tab) ∧ z.small) (fun z => [(908, rF z.fA z.fc z.fl), (909, rU z.uA z.uc z.ul), (910, rR z.rA z.rc z.rl), (911, rC z.cA z.cc z.cl)]) (fun _ => rfl) (fun _ => rfl) (fun K1 hK1 w hM => Read_any hK1 (writeS o.tab) w hM) ?_
          intro u hu
          refine S_ 47 rfl rfl rfl _ (y_move rfl rfl) ?_
          refine S_ 50 rfl rfl rfl _ (y_extract rfl rfl rfl) ?_
          refine S_ 51 rfl rfl rfl _ (y_extract rfl rfl rfl) ?_
          refine S_alloc 11 11 rfl rfl rfl rfl z62 ?_
          intro b11
          refine S_store 11 rfl rfl rfl rfl rfl rfl sz62 rfl rfl ?_
          refine S_ 10 rfl rfl rfl _ (y_assign rfl rfl) ?_
          refine S_go (fun _ _ h => h) ?_
          refine T_seq ?_
          refine T_region ?_
          refine S_ 53 rfl rfl rfl _ (y_loadA 11 rfl rfl rfl Tryz.underlying62 rfl sz62) ?_
          refine S_ 54 rfl rfl rfl _ (y_call rfl rfl rfl cf35 (fun _ w hM => Write_any u.tab w (OT.okI 708 hM hu.2 rfl rfl rfl rfl))) ?_
          refine S_ 52 rfl rfl rfl _ (y_move rfl rfl) ?_
          refine S_ 55 rfl rfl rfl _ (y_extract rfl rfl rfl) ?_
          refine S_ 56 rfl rfl rfl _ (y_extract rfl rfl rfl) ?_
          refine S_ 12 rfl rfl rfl _ (y_assign rfl rfl) ?_
          refine S_ 13 rfl rfl rfl _ (y_assign rfl rfl) ?_
          refine S_go (fun _ _ h => h) ?_
          refine T_seq ?_
          refine T_seq ?_
          refine T_region ?_
          refine S_ 57 rfl rfl rfl _ (y_move rfl rfl) ?_
          refine S_ 58 rfl rfl rfl _ (y_bin rfl rfl rfl (fun _ => b_neq)) ?_
          refine S_ 59 rfl rfl rfl _ (y_move rfl rfl) ?_
          refine Sg_ 60 rfl rfl rfl rfl rfl rfl _ (y_move rfl rfl) ?_
          refine Sg_ 61 rfl rfl rfl rfl rfl rfl _ (y_bin rfl rfl rfl (fun _ => b_neq)) ?_
          refine S_ 62 rfl rfl rfl _ (y_or rfl rfl rfl) ?_
          refine S_ 63 rfl rfl rfl _ (y_move rfl rfl) ?_
          refine Sg_ 64 rfl rfl rfl rfl rfl rfl _ (y_move rfl rfl) ?_
          refine Sg_ 65 rfl rfl rfl rfl rfl rfl _ (y_move rfl rfl) ?_
          refine Sg_ 66 rfl rfl rfl rfl rfl rfl _ (y_bin rfl rfl rfl (fun _ => b_neqs)) ?_
          refine S_ 67 rfl rfl rfl _ (y_or rfl rfl rfl) ?_
          refine S_go (fun _ _ h => h) ?_
          refine T_cond rfl (fun h67 => ?_) (fun h67 => ?_)
          · skip
            refine T_knownR (fun w hM => write_same (OT.okI 708 hM hu.2 rfl rfl rfl rfl) (OT.okI 808 hM ho.2 rfl rfl rfl rfl) (hu.1.trans hw.2)) fun hs => ?_
            exfalso
            revert h67
            rw [hs.1, hs.2, hw.1, h46]
            simp
          · skip
            refine T_skip_go (fun _ _ h => h) ?_
            refine T_seq ?_
            refine T_region ?_
            refine S_ 69 rfl rfl rfl _ (y_loadA 2 rfl rfl rfl Tryz.underlying62 rfl sz62) ?_
            refine S_ 70 rfl rfl rfl _ (y_call rfl rfl rfl cf28 (fun _ w hM => Text_any o.tab w (OT.okI 808 hM ho.2 rfl rfl rfl rfl) (hP.below hM.below))) ?_
            refine S_ 68 rfl rfl rfl _ (y_move rfl rfl) ?_
            refine S_ 71 rfl rfl rfl _ (y_extract rfl rfl rfl) ?_
            refine S_ 72 rfl rfl rfl _ (y_extract rfl rfl rfl) ?_
            refine S_ 14 rfl rfl rfl _ (y_assign rfl rfl) ?_
            refine S_ 10 rfl rfl rfl _ (y_assign rfl rfl) ?_
            refine S_go (fun _ _ h => h) ?_
            refine T_seq ?_
            refine T_seq ?_
            refine T_region ?_
            refine S_ 73 rfl rfl rfl _ (y_move rfl rfl) ?_
            refine S_ 74 rfl rfl rfl _ (y_bin rfl rfl rfl (fun _ => b_neq)) ?_
            refine S_go (fun _ _ h => h) ?_
            refine T_cond rfl (fun h74 => ?_) (fun h74 => ?_)
            · try simp only [decide_eq_true_eq, decide_eq_false_iff_not, Bool.or_eq_true, Bool.or_eq_false_iff, Bool.and_eq_true, Bool.and_eq_false_iff, Bool.not_eq_true', Bool.not_eq_false', Bool.not_eq_true, Bool.not_eq_false, Bool.not_true, Bool.not_false, Int.not_lt, Int.not_le, not_or, not_and, Classical.not_not] at h74
              refine T_seq ?_
              refine T_region ?_
              refine S_ 75 rfl rfl rfl _ (y_move rfl rfl) ?_
              refine S_ 76 rfl rfl rfl _ (y_bin rfl rfl rfl (fun _ => b_eql)) ?_
              refine S_ 4 rfl rfl rfl _ (y_assign rfl rfl) ?_
              refine S_go (fun _ _ h => h) ?_
              refine T_ret (fun a w hF hM => hRb a w (post1 rfl rfl (fun w hM => ?_) a w hF hM))
              exact ⟨by rw [text_four (write_parts h46).1 h74]; rfl, hM.below⟩
            · try simp only [decide_eq_true_eq, decide_eq_false_iff_not, Bool.or_eq_true, Bool.or_eq_false_iff, Bool.and_eq_true, Bool.and_eq_false_iff, Bool.not_eq_true', Bool.not_eq_false', Bool.not_eq_true, Bool.not_eq_false, Bool.not_true, Bool.not_false, Int.not_lt, Int.not_le, not_or, not_and, Classical.not_not] at h74
              refine T_skip_go (fun _ _ h => h) ?_
              refine T_seq ?_
              refine T_region ?_
              refine S_ 78 rfl rfl rfl _ (y_move rfl rfl) ?_
              refine S_callN 79 [] [(908, 608), (909, 609), (910, 610), (911, 611)] (X := OT) rfl rfl rfl rfl rfl rfl rfl cf30 rfl (fun z => .tuple #[z.tab.val, .int .i64 ((rdTxt (textS o.tab)).2.1), .int .i64 ((rdTxt (textS o.tab)).2.2)]) (fun z => z.tab.pl = (rdTxt (textS o.tab)).1 ∧ z.small) (fun z => [(908, rF z.fA z.fc z.fl), (909, rU z.uA z.uc z.ul), (910, rR z.rA z.rc z.rl), (911, rC z.cA z.cc z.cl)]) (fun _ => rfl) (fun _ => rfl) (fun K1 hK1 w hM => ReadText_any hK1 (textS o.tab) w hM) ?_
              intro v hv
              refine S_ 77 rfl rfl rfl _ (y_move rfl rfl) ?_
              refine S_ 80 rfl rfl rfl _ (y_extract rfl rfl rfl) ?_
              refine S_ 81 rfl rfl rfl _ (y_extract rfl rfl rfl) ?_
              refine S_ 82 rfl rfl rfl _ (y_extract rfl rfl rfl) ?_
              refine S_alloc 15 15 rfl rfl rfl rfl z62 ?_
              intro b15
              refine S_store 15 rfl rfl rfl rfl rfl rfl sz62 rfl rfl ?_
              refine S_ 16 rfl rfl rfl _ (y_assign rfl rfl) ?_
              refine S_ 10 rfl rfl rfl _ (y_assign rfl rfl) ?_
              refine S_go (fun _ _ h => h) ?_
              refine T_seq ?_
              refine T_region ?_
              refine S_ 84 rfl rfl rfl _ (y_loadA 15 rfl rfl rfl Tryz.underlying62 rfl sz62) ?_
              refine S_ 85 rfl rfl rfl _ (y_call rfl rfl rfl cf35 (fun _ w hM => Write_any v.tab w (OT.okI 608 hM hv.2 rfl rfl rfl rfl))) ?_
              refine S_ 83 rfl rfl rfl _ (y_move rfl rfl) ?_
              refine S_ 86 rfl rfl rfl _ (y_extract rfl rfl rfl) ?_
              refine S_ 87 rfl rfl rfl _ (y_extract rfl rfl rfl) ?_
              refine S_ 17 rfl rfl rfl _ (y_assign rfl rfl) ?_
              refine S_ 13 rfl rfl rfl _ (y_assign rfl rfl) ?_
              refine S_go (fun _ _ h => h) ?_
              refine T_seq ?_
              refine T_region ?_
              refine S_ 88 rfl rfl rfl _ (y_move rfl rfl) ?_
              refine S_ 89 rfl rfl rfl _ (y_bin rfl rfl rfl (fun _ => b_eql)) ?_
              refine S_ 90 rfl rfl rfl _ (y_move rfl rfl) ?_
              refine Sg_ 91 rfl rfl rfl rfl rfl rfl _ (y_move rfl rfl) ?_
              refine Sg_ 92 rfl rfl rfl rfl rfl rfl _ (y_bin rfl rfl rfl (fun _ => b_eql)) ?_
              refine S_ 93 rfl rfl rfl _ (y_and rfl rfl rfl) ?_
              refine S_ 94 rfl rfl rfl _ (y_move rfl rfl) ?_
              refine Sg_ 95 rfl rfl rfl rfl rfl rfl _ (y_move rfl rfl) ?_
              refine Sg_ 96 rfl rfl rfl rfl rfl rfl _ (y_bin rfl rfl rfl (fun _ => b_eql)) ?_
              refine S_ 97 rfl rfl rfl _ (y_and rfl rfl rfl) ?_
              refine S_ 98 rfl rfl rfl _ (y_move rfl rfl) ?_
              refine Sg_ 99 rfl rfl rfl rfl rfl rfl _ (y_move rfl rfl) ?_
              refine Sg_ 100 rfl rfl rfl rfl rfl rfl _ (y_move rfl rfl) ?_
              refine Sg_ 101 rfl rfl rfl rfl rfl rfl _ (y_bin rfl rfl rfl (fun _ => b_eqls)) ?_
              refine S_ 102 rfl rfl rfl _ (y_and rfl rfl rfl) ?_
              refine S_ 4 rfl rfl rfl _ (y_assign rfl rfl) ?_
              refine S_go (fun _ _ h => h) ?_
              refine T_ret (fun a w hF hM => hRb a w (post1 rfl rfl (fun w hM => ?_) a w hF hM))
              have hx := text_read (OT.okI 808 hM ho.2 rfl rfl rfl rfl) h74
              have hs := write_same (OT.okI 608 hM hv.2 rfl rfl rfl rfl) (OT.okI 808 hM ho.2 rfl rfl rfl rfl) (hv.1.trans (by rw [hx]))
              exact ⟨by rw [hx, hs.1, hs.2, h46]; simp, hM.below⟩
    · try simp only [decide_eq_true_eq, decide_eq_false_iff_not, Bool.or_eq_true, Bool.or_eq_false_iff, Bool.and_eq_true, Bool.and_eq_false_iff, Bool.not_eq_true', Bool.not_eq_false', Bool.not_eq_true, Bool.not_eq_false, Bool.not_true, Bool.not_false, Int.not_lt, Int.not_le, not_or, not_and, Classical.not_not] at h26
      refine T_skip_go (fun _ _ h => h) ?_
      refine T_seq ?_
      refine T_region ?_
      refine S_ 41 rfl rfl rfl _ (y_loadA 2 rfl rfl rfl Tryz.underlying62 rfl sz62) ?_
      refine S_ 42 rfl rfl rfl _ (y_call rfl rfl rfl cf35 (fun _ w hM => Write_any t w (hok.below hM.below))) ?_
      refine S_ 40 rfl rfl rfl _ (y_move rfl rfl) ?_
      refine S_ 43 rfl rfl rfl _ (y_extract rfl rfl rfl) ?_
      refine S_ 44 rfl rfl rfl _ (y_extract rfl rfl rfl) ?_
      refine S_ 9 rfl rfl rfl _ (y_assign rfl rfl) ?_
      refine S_ 10 rfl rfl rfl _ (y_assign rfl rfl) ?_
      refine S_go (fun _ _ h => h) ?_
      refine T_seq ?_
      refine T_seq ?_
      refine T_region ?_
      refine S_ 45 rfl rfl rfl _ (y_move rfl rfl) ?_
      refine S_ 46 rfl rfl rfl _ (y_bin rfl rfl rfl (fun _ => b_neq)) ?_
      refine S_go (fun _ _ h => h) ?_
      refine T_cond rfl (fun h46 => ?_) (fun h46 => ?_)
      · try simp only [decide_eq_true_eq, decide_eq_false_iff_not, Bool.or_eq_true, Bool.or_eq_false_iff, Bool.and_eq_true, Bool.and_eq_false_iff, Bool.not_eq_true', Bool.not_eq_false', Bool.not_eq_true, Bool.not_eq_false, Bool.not_true, Bool.not_false, Int.not_lt, Int.not_le, not_or, not_and, Classical.not_not] at h46
        refine T_seq ?_
        refine T_region ?_
        refine S_ 4 rfl rfl rfl _ (y_assign rfl rfl) ?_
        refine S_go (fun _ _ h => h) ?_
        refine T_ret (fun a w hF hM => hRb a w (post1 rfl rfl (fun w hM => ?_) a w hF hM))
        exact ⟨rfl, hM.below⟩
      · try simp only [decide_eq_true_eq, decide_eq_false_iff_not, Bool.or_eq_true, Bool.or_eq_false_iff, Bool.and_eq_true, Bool.and_eq_false_iff, Bool.not_eq_true', Bool.not_eq_false', Bool.not_eq_true, Bool.not_eq_false, Bool.not_true, Bool.not_false, Int.not_lt, Int.not_le, not_or, not_and, Classical.not_not] at h46
        have hw := write_read hok h46
        refine T_skip_go (fun _ _ h => h) ?_
        refine T_seq ?_
        refine T_region ?_
        refine S_ 48 rfl rfl rfl _ (y_move rfl rfl) ?_
        refine S_callN 49 [] [(908, 708), (909, 709), (910, 710), (911, 711)] (X := OT) rfl rfl rfl rfl rfl rfl rfl cf34 rfl (fun z => .tuple #[z.tab.val, .int .i64 (readNo (writeS t))]) (fun z => z.tab.pl = readP (writeS t) ∧ z.small) (fun z => [(908, rF z.fA z.fc z.fl), (909, rU z.uA z.uc z.ul), (910, rR z.rA z.rc z.rl), (911, rC z.cA z.cc z.cl)]) (fun _ => rfl) (fun _ => rfl) (fun K1 hK1 w hM => Read_any hK1 (writeS t) w hM) ?_
        intro u hu
        refine S_ 47 rfl rfl rfl _ (y_move rfl rfl) ?_
        refine S_ 50 rfl rfl rfl _ (y_extract rfl rfl rfl) ?_
        refine S_ 51 rfl rfl rfl _ (y_extract rfl rfl rfl) ?_
        refine S_alloc 11 11 rfl rfl rfl rfl z62 ?_
        intro b11
        refine S_store 11 rfl rfl rfl rfl rfl rfl sz62 rfl rfl ?_
        refine S_ 10 rfl rfl rfl _ (y_assign rfl rfl) ?_
        refine S_go (fun _ _ h => h) ?_
        refine T_seq ?_
        refine T_region ?_
        refine S_ 53 rfl rfl rfl _ (y_loadA 11 rfl rfl rfl Tryz.underlying62 rfl sz62) ?_
        refine S_ 54 rfl rfl rfl _ (y_call rfl rfl rfl cf35 (fun _ w hM => Write_any u.tab w (OT.okI 708 hM hu.2 rfl rfl rfl rfl))) ?_
        refine S_ 52 rfl rfl rfl _ (y_move rfl rfl) ?_
        refine S_ 55 rfl rfl rfl _ (y_extract rfl rfl rfl) ?_
        refine S_ 56 rfl rfl rfl _ (y_extract rfl rfl rfl) ?_
        refine S_ 12 rfl rfl rfl _ (y_assign rfl rfl) ?_
        refine S_ 13 rfl rfl rfl _ (y_assign rfl rfl) ?_
        refine S_go (fun _ _ h => h) ?_
        refine T_seq ?_
        refine T_seq ?_
        refine T_region ?_
        refine S_ 57 rfl rfl rfl _ (y_move rfl rfl) ?_
        refine S_ 58 rfl rfl rfl _ (y_bin rfl rfl rfl (fun _ => b_neq)) ?_
        refine S_ 59 rfl rfl rfl _ (y_move rfl rfl) ?_
        refine Sg_ 60 rfl rfl rfl rfl rfl rfl _ (y_move rfl rfl) ?_
        refine Sg_ 61 rfl rfl rfl rfl rfl rfl _ (y_bin rfl rfl rfl (fun _ => b_neq)) ?_
        refine S_ 62 rfl rfl rfl _ (y_or rfl rfl rfl) ?_
        refine S_ 63 rfl rfl rfl _ (y_move rfl rfl) ?_
        refine Sg_ 64 rfl rfl rfl rfl rfl rfl _ (y_move rfl rfl) ?_
        refine Sg_ 65 rfl rfl rfl rfl rfl rfl _ (y_move rfl rfl) ?_
        refine Sg_ 66 rfl rfl rfl rfl rfl rfl _ (y_bin rfl rfl rfl (fun _ => b_neqs)) ?_
        refine S_ 67 rfl rfl rfl _ (y_or rfl rfl rfl) ?_
        refine S_go (fun _ _ h => h) ?_
        refine T_cond rfl (fun h67 => ?_) (fun h67 => ?_)
        · skip
          refine T_knownR (fun w hM => write_same (OT.okI 708 hM hu.2 rfl rfl rfl rfl) hok (hu.1.trans hw.2)) fun hs => ?_
          exfalso
          revert h67
          rw [hs.1, hs.2, hw.1, h46]
          simp
        · skip
          refine T_skip_go (fun _ _ h => h) ?_
          refine T_seq ?_
          refine T_region ?_
          refine S_ 69 rfl rfl rfl _ (y_loadA 2 rfl rfl rfl Tryz.underlying62 rfl sz62) ?_
          refine S_ 70 rfl rfl rfl _ (y_call rfl rfl rfl cf28 (fun _ w hM => Text_any t w (hok.below hM.below) (hP.below hM.below))) ?_
          refine S_ 68 rfl rfl rfl _ (y_move rfl rfl) ?_
          refine S_ 71 rfl rfl rfl _ (y_extract rfl rfl rfl) ?_
          refine S_ 72 rfl rfl rfl _ (y_extract rfl rfl rfl) ?_
          refine S_ 14 rfl rfl rfl _ (y_assign rfl rfl) ?_
          refine S_ 10 rfl rfl rfl _ (y_assign rfl rfl) ?_
          refine S_go (fun _ _ h => h) ?_
          refine T_seq ?_
          refine T_seq ?_
          refine T_region ?_
          refine S_ 73 rfl rfl rfl _ (y_move rfl rfl) ?_
          refine S_ 74 rfl rfl rfl _ (y_bin rfl rfl rfl (fun _ => b_neq)) ?_
          refine S_go (fun _ _ h => h) ?_
          refine T_cond rfl (fun h74 => ?_) (fun h74 => ?_)
          · try simp only [decide_eq_true_eq, decide_eq_false_iff_not, Bool.or_eq_true, Bool.or_eq_false_iff, Bool.and_eq_true, Bool.and_eq_false_iff, Bool.not_eq_true', Bool.not_eq_false', Bool.not_eq_true, Bool.not_eq_false, Bool.not_true, Bool.not_false, Int.not_lt, Int.not_le, not_or, not_and, Classical.not_not] at h74
            refine T_seq ?_
            refine T_region ?_
            refine S_ 75 rfl rfl rfl _ (y_move rfl rfl) ?_
            refine S_ 76 rfl rfl rfl _ (y_bin rfl rfl rfl (fun _ => b_eql)) ?_
            refine S_ 4 rfl rfl rfl _ (y_assign rfl rfl) ?_
            refine S_go (fun _ _ h => h) ?_
            refine T_ret (fun a w hF hM => hRb a w (post1 rfl rfl (fun w hM => ?_) a w hF hM))
            exact ⟨by rw [text_four (write_parts h46).1 h74]; rfl, hM.below⟩
          · try simp only [decide_eq_true_eq, decide_eq_false_iff_not, Bool.or_eq_true, Bool.or_eq_false_iff, Bool.and_eq_true, Bool.and_eq_false_iff, Bool.not_eq_true', Bool.not_eq_false', Bool.not_eq_true, Bool.not_eq_false, Bool.not_true, Bool.not_false, Int.not_lt, Int.not_le, not_or, not_and, Classical.not_not] at h74
            refine T_skip_go (fun _ _ h => h) ?_
            refine T_seq ?_
            refine T_region ?_
            refine S_ 78 rfl rfl rfl _ (y_move rfl rfl) ?_
            refine S_callN 79 [] [(908, 608), (909, 609), (910, 610), (911, 611)] (X := OT) rfl rfl rfl rfl rfl rfl rfl cf30 rfl (fun z => .tuple #[z.tab.val, .int .i64 ((rdTxt (textS t)).2.1), .int .i64 ((rdTxt (textS t)).2.2)]) (fun z => z.tab.pl = (rdTxt (textS t)).1 ∧ z.small) (fun z => [(908, rF z.fA z.fc z.fl), (909, rU z.uA z.uc z.ul), (910, rR z.rA z.rc z.rl), (911, rC z.cA z.cc z.cl)]) (fun _ => rfl) (fun _ => rfl) (fun K1 hK1 w hM => ReadText_any hK1 (textS t) w hM) ?_
            intro v hv
            refine S_ 77 rfl rfl rfl _ (y_move rfl rfl) ?_
            refine S_ 80 rfl rfl rfl _ (y_extract rfl rfl rfl) ?_
            refine S_ 81 rfl rfl rfl _ (y_extract rfl rfl rfl) ?_
            refine S_ 82 rfl rfl rfl _ (y_extract rfl rfl rfl) ?_
            refine S_alloc 15 15 rfl rfl rfl rfl z62 ?_
            intro b15
            refine S_store 15 rfl rfl rfl rfl rfl rfl sz62 rfl rfl ?_
            refine S_ 16 rfl rfl rfl _ (y_assign rfl rfl) ?_
            refine S_ 10 rfl rfl rfl _ (y_assign rfl rfl) ?_
            refine S_go (fun _ _ h => h) ?_
            refine T_seq ?_
            refine T_region ?_
            refine S_ 84 rfl rfl rfl _ (y_loadA 15 rfl rfl rfl Tryz.underlying62 rfl sz62) ?_
            refine S_ 85 rfl rfl rfl _ (y_call rfl rfl rfl cf35 (fun _ w hM => Write_any v.tab w (OT.okI 608 hM hv.2 rfl rfl rfl rfl))) ?_
            refine S_ 83 rfl rfl rfl _ (y_move rfl rfl) ?_
            refine S_ 86 rfl rfl rfl _ (y_extract rfl rfl rfl) ?_
            refine S_ 87 rfl rfl rfl _ (y_extract rfl rfl rfl) ?_
            refine S_ 17 rfl rfl rfl _ (y_assign rfl rfl) ?_
            refine S_ 13 rfl rfl rfl _ (y_assign rfl rfl) ?_
            refine S_go (fun _ _ h => h) ?_
            refine T_seq ?_
            refine T_region ?_
            refine S_ 88 rfl rfl rfl _ (y_move rfl rfl) ?_
            refine S_ 89 rfl rfl rfl _ (y_bin rfl rfl rfl (fun _ => b_eql)) ?_
            refine S_ 90 rfl rfl rfl _ (y_move rfl rfl) ?_
            refine Sg_ 91 rfl rfl rfl rfl rfl rfl _ (y_move rfl rfl) ?_
            refine Sg_ 92 rfl rfl rfl rfl rfl rfl _ (y_bin rfl rfl rfl (fun _ => b_eql)) ?_
            refine S_ 93 rfl rfl rfl _ (y_and rfl rfl rfl) ?_
            refine S_ 94 rfl rfl rfl _ (y_move rfl rfl) ?_
            refine Sg_ 95 rfl rfl rfl rfl rfl rfl _ (y_move rfl rfl) ?_
            refine Sg_ 96 rfl rfl rfl rfl rfl rfl _ (y_bin rfl rfl rfl (fun _ => b_eql)) ?_
            refine S_ 97 rfl rfl rfl _ (y_and rfl rfl rfl) ?_
            refine S_ 98 rfl rfl rfl _ (y_move rfl rfl) ?_
            refine Sg_ 99 rfl rfl rfl rfl rfl rfl _ (y_move rfl rfl) ?_
            refine Sg_ 100 rfl rfl rfl rfl rfl rfl _ (y_move rfl rfl) ?_
            refine Sg_ 101 rfl rfl rfl rfl rfl rfl _ (y_bin rfl rfl rfl (fun _ => b_eqls)) ?_
            refine S_ 102 rfl rfl rfl _ (y_and rfl rfl rfl) ?_
            refine S_ 4 rfl rfl rfl _ (y_assign rfl rfl) ?_
            refine S_go (fun _ _ h => h) ?_
            refine T_ret (fun a w hF hM => hRb a w (post1 rfl rfl (fun w hM => ?_) a w hF hM))
            have hx := text_read hok h74
            have hs := write_same (OT.okI 608 hM hv.2 rfl rfl rfl rfl) hok (hv.1.trans (by rw [hx]))
            exact ⟨by rw [hx, hs.1, hs.2, h46]; simp, hM.below⟩
end Go.Proofs.YtkkngcdikbhkjaaGreatDoor
end
section
namespace Go.Proofs.YtkkngcdikbhkjaaGreatDoor
set_option linter.unusedSimpArgs false
set_option linter.unusedVariables false
set_option maxRecDepth 20000
open Go.RowKit Go.Eng
section
variable {H : Type} {enc : TypeId × Value → H} {w : World}
def IntOk (n : Int) : Prop := (Lit.int .i64 n).wf = true
def ShortS (s : List UInt8) : Prop := s.length ≤ reachBytes
def strD (l : List UInt8) (d : DataW H) : Prop := d = .lit (.string l)
def intD (n : Int) (d : DataW H) : Prop := d = .lit (.int .i64 n)
theorem op_s : Opn enc Tryz.prog w 9 strEnc ShortS (strD (H := H)) := opn_str Tryz.underlying9
theorem op_i : Opn enc Tryz.prog w 3 (fun n : Int => [Value.int .i64 n]) IntOk (intD (H := H)) := opn_int Tryz.underlying3
def slV {X : Type} (s : Sl X) : List Value := [.slice s.A s.q s.c]
def slG {X : Type} (e : X → List Value) (size : Nat) (G : X → Prop) (w : World) (s : Sl X) : Prop := s.Ok e size w ∧ s.q ≤ reachBytes ∧ ∀ a ∈ s.l, G a
def funcG (f : SFunc) : Prop := ShortS f.name ∧ IntOk f.fr ∧ IntOk f.tu
def funcD (f : SFunc) (d : DataW H) : Prop := ∃ d1 d2 d3, d = .agg [d1, d2, d3] ∧ strD f.name d1 ∧ intD f.fr d2 ∧ intD f.tu d3
theorem op_func : Opn enc Tryz.prog w 196 SFunc.enc funcG (funcD (H := H)) :=
  (opn_struct Tryz.underlying196 co196 (opf_cons op_s rfl co9 (opf_cons op_i rfl co3 (opf_cons op_i rfl co3 opf_nil)))).map (fun p => (⟨p.1, p.2.1, p.2.2.1⟩ : SFunc)) (fun _ => rfl)
    (fun _ h => ⟨h.1, h.2.1, h.2.2.1⟩) (fun p d h => by obtain ⟨_, rfl, d1, _, rfl, h1, d2, _, rfl, h2, d3, _, rfl, h3, rfl⟩ := h; exact ⟨d1, d2, d3, rfl, h1, h2, h3⟩)
def rowG (f : SRow) : Prop := IntOk f.pos ∧ IntOk f.fi ∧ IntOk f.ln
def rowD (f : SRow) (d : DataW H) : Prop := ∃ d1 d2 d3, d = .agg [d1, d2, d3] ∧ intD f.pos d1 ∧ intD f.fi d2 ∧ intD f.ln d3
theorem op_row : Opn enc Tryz.prog w 198 SRow.enc rowG (rowD (H := H)) :=
  (opn_struct Tryz.underlying198 co198 (opf_cons op_i rfl co3 (opf_cons op_i rfl co3 (opf_cons op_i rfl co3 opf_nil)))).map (fun p => (⟨p.1, p.2.1, p.2.2.1⟩ : SRow)) (fun _ => rfl)
    (fun _ h => ⟨h.1, h.2.1, h.2.2.1⟩) (fun p d h => by obtain ⟨_, rfl, d1, _, rfl, h1, d2, _, rfl, h2, d3, _, rfl, h3, rfl⟩ := h; exact ⟨d1, d2, d3, rfl, h1, h2, h3⟩)
def callG (f : SCall) : Prop := ShortS f.name ∧ IntOk f.fr ∧ IntOk f.tu ∧ IntOk f.fi ∧ IntOk f.ln
def callD (f : SCall) (d : DataW H) : Prop := ∃ d1 d2 d3 d4 d5, d = .agg [d1, d2, d3, d4, d5] ∧ strD f.name d1 ∧ intD f.fr d2 ∧ intD f.tu d3 ∧ intD f.fi d4 ∧ intD f.ln d5
theorem op_call : Opn enc Tryz.prog w 200 SCall.enc callG (callD (H := H)) :=
  (opn_struct Tryz.underlying200 co200 (opf_cons op_s rfl co9 (opf_cons op_i rfl co3 (opf_cons op_i rfl co3 (opf_cons op_i rfl co3 (opf_cons op_i rfl co3 opf_nil)))))).map (fun p => (⟨p.1, p.2.1, p.2.2.1, p.2.2.2.1, p.2.2.2.2.1⟩ : SCall)) (fun _ => rfl)
    (fun _ h => ⟨h.1, h.2.1, h.2.2.1, h.2.2.2.1, h.2.2.2.2.1⟩) (fun p d h => by obtain ⟨_, rfl, d1, _, rfl, h1, d2, _, rfl, h2, d3, _, rfl, h3, d4, _, rfl, h4, d5, _, rfl, h5, rfl⟩ := h; exact ⟨d1, d2, d3, d4, d5, rfl, h1, h2, h3, h4, h5⟩)
theorem op_files : Opn enc Tryz.prog w 57 slV (slG strEnc 1 ShortS w) (SlRel (strD (H := H))) := opn_slice Tryz.underlying57 co9 (by decide) (by rw [bo9]; decide) (fun _ => rfl) op_s
theorem op_funcs : Opn enc Tryz.prog w 58 slV (slG SFunc.enc 3 funcG w) (SlRel (funcD (H := H))) := opn_slice Tryz.underlying58 co196 (by decide) (by rw [bo196]; decide) (fun _ => rfl) op_func
theorem op_rows : Opn enc Tryz.prog w 59 slV (slG SRow.enc 3 rowG w) (SlRel (rowD (H := H))) := opn_slice Tryz.underlying59 co198 (by decide) (by rw [bo198]; decide) (fun _ => rfl) op_row
theorem op_calls : Opn enc Tryz.prog w 60 slV (slG SCall.enc 5 callG w) (SlRel (callD (H := H))) := opn_slice Tryz.underlying60 co200 (by decide) (by rw [bo200]; decide) (fun _ => rfl) op_call
theorem reach_len : reachBytes ≤ 4611686018427387904 := by decide
def tabD (t : Tab) (d : DataW H) : Prop := ∃ d1 d2 d3 d4 d5 d6, d = .agg [d1, d2, d3, d4, d5, d6] ∧ strD t.id d1 ∧ intD t.size d2 ∧ SlRel strD t.fi d3 ∧ SlRel funcD t.fu d4 ∧ SlRel rowD t.ro d5 ∧ SlRel callD t.ca d6
theorem op_tab : Opn enc Tryz.prog w 62 Tab.enc (Tab.Ok w) (tabD (H := H)) :=
  (opn_struct Tryz.underlying62 co62 (opf_cons op_s rfl co9 (opf_cons op_i rfl co3 (opf_cons op_files rfl co57 (opf_cons op_funcs rfl co58 (opf_cons op_rows rfl co59 (opf_cons op_calls rfl co60 opf_nil))))))).map
    (fun p => (⟨p.1, p.2.1, p.2.2.1, p.2.2.2.1, p.2.2.2.2.1, p.2.2.2.2.2.1⟩ : Tab)) (fun _ => rfl)
    (fun p h => by
      obtain ⟨h1, _, h3, h4, h5, h6, _⟩ := h
      have := reach_len
      exact ⟨h3.1, h4.1, h5.1, h6.1, ⟨Nat.le_trans h1 this, Nat.le_trans h3.2.1 this, Nat.le_trans h4.2.1 this, Nat.le_trans h5.2.1 this, Nat.le_trans h6.2.1 this⟩,
        fun s hs => Nat.le_trans (h3.2.2 s hs) this, fun f hf => Nat.le_trans (h4.2.2 f hf).1 this, fun f hf => Nat.le_trans (h6.2.2 f hf).1 this⟩)
    (fun p d h => by obtain ⟨_, rfl, d1, _, rfl, h1, d2, _, rfl, h2, d3, _, rfl, h3, d4, _, rfl, h4, d5, _, rfl, h5, d6, _, rfl, h6, rfl⟩ := h; exact ⟨d1, d2, d3, d4, d5, d6, rfl, h1, h2, h3, h4, h5, h6⟩)
end
end Go.Proofs.YtkkngcdikbhkjaaGreatDoor
end
section
namespace Go.Proofs.YtkkngcdikbhkjaaGreatDoor
set_option linter.unusedSimpArgs false
set_option linter.unusedVariables false
set_option maxRecDepth 20000
open Go.ChangeShapes Go.WideShapes Go.RowKit
theorem ownNone : ownKnob Tryz.prog.godebug = none := by kernel_rfl
theorem laidOut : laidOutB Tryz.prog = true := by kernel_rfl
def firstCells : Array Value := (Go.Pinned.utf8FirstZ.map fun n : Nat => Value.int .u8 (n : Int)).toArray
def tabCells (k : IntKind) (zs : List Int) : Array Value := (zs.map fun n => Value.int k n).toArray
def rangeZ : List Int := [128, 191, 160, 191, 128, 159, 144, 191, 128, 143, 0, 0, 0, 0, 0, 0, 0, 0, 0, 0, 0, 0, 0, 0, 0, 0, 0, 0, 0, 0, 0, 0]
def tz32Z : List Int := [0, 1, 28, 2, 29, 14, 24, 3, 30, 22, 20, 15, 25, 17, 4, 8, 31, 27, 13, 23, 21, 19, 16, 7, 26, 12, 18, 6, 11, 5, 10, 9]
def tz64Z : List Int := [0, 1, 56, 2, 57, 49, 28, 3, 61, 58, 42, 50, 38, 29, 17, 4, 62, 47, 59, 36, 45, 43, 51, 22, 53, 39, 33, 30, 24, 18, 12, 5, 63, 55, 48, 27, 60, 41, 37, 16, 46, 35, 44, 21, 52, 32, 23, 11, 54, 26, 40, 15, 34, 20, 31, 10, 25, 14, 19, 9, 13, 8, 7, 6]
def pow10Z : List Int := [1, 10, 100, 1000, 10000, 100000, 1000000, 10000000, 100000000, 1000000000, 10000000000, 100000000000, 1000000000000, 10000000000000, 100000000000000, 1000000000000000, 10000000000000000, 100000000000000000, 1000000000000000000, 10000000000000000000]
def layCells (cs : Array Value) : Obj → Obj
  | .cells _ t frozen => .cells cs t frozen
  | o => o
noncomputable def low2 : Nat := (World.holding Tryz.prog default ⟨#[], #[], []⟩).heap.size
def rangeT : List UInt8 := [118, 97, 108, 117, 101, 32, 111, 117, 116, 32, 111, 102, 32, 114, 97, 110, 103, 101]
def syntaxT : List UInt8 := [105, 110, 118, 97, 108, 105, 100, 32, 115, 121, 110, 116, 97, 120]
noncomputable def laidWorld2 (os : Os) (args : Array Value) : World :=
  { World.holding Tryz.prog os ⟨#[.cells #[.string ⟨rangeT.toArray⟩] 439, .cells #[.string ⟨syntaxT.toArray⟩] 439], args, []⟩ with heap := (((((((World.holding Tryz.prog os ⟨#[.cells #[.string ⟨rangeT.toArray⟩] 439, .cells #[.string ⟨syntaxT.toArray⟩] 439], args, []⟩).heap.modify 1 (layCells firstCells)).modify 2 (layCells (tabCells .u8 rangeZ))).modify 6 (layCells (tabCells .u8 tz32Z))).modify 7 (layCells (tabCells .u8 tz64Z))).modify 3 (layCells (tabCells .u64 pow10Z))).modify 5 (layCells #[.iface 437 (.pointer (some ⟨low2, 0, none⟩))])).modify 4 (layCells #[.iface 437 (.pointer (some ⟨low2 + 1, 0, none⟩))]) }
theorem p10_of {x y : String × DataW Unit} {rest : List (String × DataW Unit)} {W : World} (h : laidMet Tryz.prog (x :: y :: ("internal/strconv.uint64pow10", Rows.laid_internal_strconv_uint64pow10) :: rest) W) : P10 W := by
  have h0 : laidMet Tryz.prog (("internal/strconv.uint64pow10", Lib.tabData .u64 Lib.pow10Tab) :: rest) W := h.tail.tail
  have h1 := Lib.tabIs_of_head (P := Tryz.prog) (g := 3) (by kernel_rfl) (by kernel_rfl) Tryz.underlying416 Tryz.underlying297 (by kernel_rfl) (by kernel_rfl) h0
  have h2 := h1.cell (g := 3) (by kernel_rfl) 0 (by decide)
  refine ⟨h1, ?_⟩
  unfold World.cell? at h2
  cases hg : W.heap[3]? with
  | none => rw [hg] at h2; cases h2
  | some o => exact (Array.getElem?_eq_some_iff.1 hg).1
end Go.Proofs.YtkkngcdikbhkjaaGreatDoor
end
