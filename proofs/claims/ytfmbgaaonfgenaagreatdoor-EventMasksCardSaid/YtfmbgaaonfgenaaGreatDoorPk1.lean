/- Part 1, merged by a program. Words, names and ids: what the program and the reference say of them. No condition beyond lengths that a machine can hold. Frames: CheckFrame, checkFrames and what the reference has in their places. Conditions: lengths that a machine can hold. Events in plain lists: faults, tags, crumbs, and their faults' codes. No program in sight. Events are checked: the program's Check and the reference's EventFault. Conditions: those of each theorem. -/
import Derived.Test.YtfmbgaaonfgenaaGreatDoorLem
import Derived.Test.YtfmbgaaonfgenaaGreatDoorShelf
import Derived.Shelf.Strings.SlTrimAscii
import Derived.Test.YtfmbgaaonfgenaaGreatDoorApp
import Derived.Test.YtfmbgaaonfgenaaGreatDoorOpsB
section
namespace Go.Proofs.YtfmbgaaonfgenaaGreatDoor
set_option linter.unusedSimpArgs false
set_option linter.unusedVariables false
set_option maxRecDepth 20000
open Go.RowKit Go.Eng
theorem IndexByte_any (s : List UInt8) (c : UInt8) (w : World) :
    Calls Tryz.prog 238 #[str s, .int .u8 (c.toNat : Int)] w fun e w' => e = .returned (.int .i64 (Lib.indexByte s c)) ∧ Below w.heap.size w w' := by
  refine (Tryz.strings_IndexByte ⟨s.toArray⟩ (c.toNat : Int) w).mono fun e w' ⟨h1, h2⟩ => ⟨?_, h2 ▸ Below.refl _ _⟩
  rw [h1]; simp
def hexs : List UInt8 := [48, 49, 50, 51, 52, 53, 54, 55, 56, 57, 97, 98, 99, 100, 101, 102]
theorem TrimHex_any (s : List UInt8) (hs : s.length ≤ 1000) (w : World) :
    Calls Tryz.prog 72 #[str s, str hexs] w fun e w' => e = .returned (str (Lib.trimS s hexs)) ∧ Below w.heap.size w w' :=
  Any.strings_Trim_laid Tryz.lays160 (by kernel_rfl) ⟨s.toArray⟩ ⟨hexs.toArray⟩ w (by rw [Lib.size_eq]; simp; omega) (by decide) (ascii_of_all (by decide))

/-- 16 digits of base 16 -/
def idOk (s : List UInt8) : Bool := decide ((s.length : Int) = 16) && decide (Lib.trimS s hexs = [])
/-- visible bytes alone, none of some others -/
def byteBad (wo : List UInt8) (c : UInt8) : Bool := decide ((c.toNat : Int) < 33) || decide ((126 : Int) < (c.toNat : Int)) || wo.contains c
def wordOk (wo s : List UInt8) : Bool := !(s.any (byteBad wo))
theorem wordOk_bad {wo : List UInt8} {c : UInt8} {r : List UInt8} (h : byteBad wo c = true) : wordOk wo (c :: r) = false := by simp [wordOk, h]
theorem wordOk_next {wo : List UInt8} {c : UInt8} {r : List UInt8} (h : byteBad wo c = false) : wordOk wo (c :: r) = wordOk wo r := by simp [wordOk, h]
theorem isWord_any (s wo : List UInt8) (hs : s.length ≤ 4611686018427387904) (w : World) :
    Calls Tryz.prog 236 #[str s, str wo] w fun e w' => e = .returned (.bool (wordOk wo s)) ∧ Below w.heap.size w w' := by
  refine enter_args (args := [str s, str wo]) (F := _) Tryz.func236 rfl Tryz.ntmps236 rfl rfl ?_
  intro Rb hRb hRn
  refine T_seq ?_
  refine T_region ?_
  refine S_ 4 rfl rfl rfl _ (y_assign rfl rfl) ?_
  refine S_go (fun _ _ h => h) ?_
  refine T_seq ?_
  refine T_seq ?_
  refine T_region ?_
  refine S_ 6 rfl rfl rfl _ (y_move rfl rfl) ?_
  refine S_ 7 rfl rfl rfl _ (y_len_str rfl rfl Tryz.underlying9) ?_
  refine S_ 8 rfl rfl rfl _ (y_move rfl rfl) ?_
  refine S_go (fun _ _ h => h) ?_
  refine T_block ?_
  refine T_loopK1 (kf := [(4, 5), (8, 29)]) (kl := [(4, 5), (8, 29)]) (fun (i : Nat) => [(8, true, .int .i64 (i : Int))]) (fun (i : Nat) => []) (fun (i : Nat) => i ≤ s.length ∧ wordOk wo s = wordOk wo (s.drop i)) (fun (i : Nat) => s.length - i) 0 (by repeat (first | exact kf_nil | (apply kf_in; focus rfl) | (apply kf_out; focus rfl))) (by repeat (first | exact kl_nil | exact kl_rest (by assumption) rfl | (apply kl_in; focus rfl) | (apply kl_out; focus rfl))) ?_ ?_ ?_ ?_
  · exact ⟨by omega, rfl⟩
  · exact ⟨rfl, trivial⟩
  · exact trivial
  rintro i ⟨hp1, hp2⟩
  refine T_seq ?_
  refine T_region ?_
  refine S_ 9 rfl rfl rfl _ (y_bin rfl rfl rfl (fun _ => b_lss)) ?_
  refine S_go (fun _ _ h => h) ?_
  refine T_seq ?_
  refine T_cond rfl (fun h9 => ?_) (fun h9 => ?_)
  · try simp only [decide_eq_true_eq, decide_eq_false_iff_not, Bool.or_eq_true, Bool.or_eq_false_iff, Bool.and_eq_true, Bool.and_eq_false_iff, Bool.not_eq_true', Bool.not_eq_false', Bool.not_eq_true, Bool.not_eq_false, Bool.not_true, Bool.not_false, Int.not_lt, Int.not_le, not_or, not_and, Classical.not_not] at h9
    refine T_skip_go (fun _ _ h => h) ?_
    refine T_seq ?_
    refine T_block ?_
    refine T_seq ?_
    refine T_region ?_
    refine S_ 10 rfl rfl rfl _ (y_move rfl rfl) ?_
    refine S_ 5 rfl rfl rfl _ (y_assign rfl rfl) ?_
    refine S_go (fun _ _ h => h) ?_
    refine T_seq ?_
    refine T_region ?_
    refine S_ 11 rfl rfl rfl _ (y_move rfl rfl) ?_
    refine S_ 12 rfl rfl rfl _ (y_move rfl rfl) ?_
    refine S_ 13 rfl rfl rfl _ (y_index_str rfl rfl rfl Tryz.underlying9 (fun _ => by omega)) ?_
    refine S_ 14 rfl rfl rfl _ (y_bin rfl rfl rfl (fun _ => b_lss)) ?_
    refine S_ 15 rfl rfl rfl _ (y_move rfl rfl) ?_
    refine Sg_ 16 rfl rfl rfl rfl rfl rfl _ (y_move rfl rfl) ?_
    refine Sg_ 17 rfl rfl rfl rfl rfl rfl _ (y_move rfl rfl) ?_
    refine Sg_ 18 rfl rfl rfl rfl rfl rfl _ (y_index_str rfl rfl rfl Tryz.underlying9 (fun hg => by simp only [Bool.true_and, Bool.and_eq_true, beq_iff_eq, decide_eq_true_eq, decide_eq_false_iff_not, Int.not_lt, Int.not_le] at hg; omega)) ?_
    refine Sg_ 19 rfl rfl rfl rfl rfl rfl _ (y_bin rfl rfl rfl (fun _ => b_gtr)) ?_
    refine S_ 20 rfl rfl rfl _ (y_or rfl rfl rfl) ?_
    refine S_ 21 rfl rfl rfl _ (y_move rfl rfl) ?_
    refine Sg_ 22 rfl rfl rfl rfl rfl rfl _ (y_move rfl rfl) ?_
    refine Sg_ 23 rfl rfl rfl rfl rfl rfl _ (y_move rfl rfl) ?_
    refine Sg_ 24 rfl rfl rfl rfl rfl rfl _ (y_move rfl rfl) ?_
    refine Sg_ 25 rfl rfl rfl rfl rfl rfl _ (y_index_str rfl rfl rfl Tryz.underlying9 (fun hg => by simp only [Bool.true_and, Bool.and_eq_true, beq_iff_eq, decide_eq_true_eq, decide_eq_false_iff_not, Int.not_lt, Int.not_le] at hg; omega)) ?_
    refine Sg_ 26 rfl rfl rfl rfl rfl rfl _ (y_call rfl rfl rfl cf238 (fun _ w _ => IndexByte_any _ _ w)) ?_
    refine Sg_ 27 rfl rfl rfl rfl rfl rfl _ (y_as (v' := .bool (wo.contains (s.getD i 0))) (by rw [Lib.contains_iff_indexByte]) (y_bin rfl rfl rfl (fun _ => b_geq))) ?_
    refine S_ 28 rfl rfl rfl _ (y_as (v' := .bool (byteBad wo (s.getD i 0))) (by exact rfl) (y_or rfl rfl rfl)) ?_
    refine S_go (fun _ _ h => h) ?_
    refine T_cond rfl (fun h28 => ?_) (fun h28 => ?_)
    · skip
      refine T_seq ?_
      refine T_region ?_
      refine S_ 4 rfl rfl rfl _ (y_assign rfl rfl) ?_
      refine S_go (fun _ _ h => h) ?_
      refine T_ret (fun a w hF hM => hRb a w (post1 rfl rfl (fun w hM => ?_) a w hF hM))
      exact ⟨by rw [hp2, drop_str (by omega), wordOk_bad h28], hM.below⟩
    · skip
      refine T_skip_go (fun _ _ h => h) ?_
      refine T_region ?_
      refine S_ 29 rfl rfl rfl _ (y_bin rfl rfl rfl (fun hg => b_add (by omega))) ?_
      refine S_ 8 rfl rfl rfl _ (y_move rfl rfl) ?_
      refine S_nil (nextK1 (kf := [(4, 5), (8, 29)]) (kl := [(4, 5), (8, 29)]) (i + 1) (by repeat (first | exact kf_nil | (apply kf_in; focus rfl) | (apply kf_out; focus rfl))) (by repeat (first | exact kl_nil | exact kl_rest (by assumption) rfl | (apply kl_in; focus rfl) | (apply kl_out; focus rfl))) ?_ ?_ ?_ ?_)
      · omega
      · exact ⟨by omega, by rw [hp2, drop_str (by omega), wordOk_next h28]⟩
      · exact ⟨rfl, trivial⟩
      · exact trivial
  · try simp only [decide_eq_true_eq, decide_eq_false_iff_not, Bool.or_eq_true, Bool.or_eq_false_iff, Bool.and_eq_true, Bool.and_eq_false_iff, Bool.not_eq_true', Bool.not_eq_false', Bool.not_eq_true, Bool.not_eq_false, Bool.not_true, Bool.not_false, Int.not_lt, Int.not_le, not_or, not_and, Classical.not_not] at h9
    refine T_exit_go (fun _ _ h => h) ?_
    refine T_seq ?_
    refine T_region ?_
    refine S_ 4 rfl rfl rfl _ (y_assign rfl rfl) ?_
    refine S_go (fun _ _ h => h) ?_
    refine T_ret (fun a w hF hM => hRb a w (post1 rfl rfl (fun w hM => ?_) a w hF hM))
    exact ⟨by rw [hp2, List.drop_eq_nil_of_le (by omega)]; rfl, hM.below⟩
end Go.Proofs.YtfmbgaaonfgenaaGreatDoor
end
section
namespace Go.Proofs.YtfmbgaaonfgenaaGreatDoor
set_option linter.unusedSimpArgs false
set_option linter.unusedVariables false
set_option maxRecDepth 20000
open Go.RowKit Go.Eng
abbrev marks : List UInt8 := [40, 41, 58, 44]
/-- the fault of three words of a frame -/
def wordsNo (m f fi : List UInt8) : Int :=
  if (decide ((200 : Int) < (m.length : Int)) || decide ((200 : Int) < (f.length : Int)) || decide ((200 : Int) < (fi.length : Int))) = true then 4
  else if (!(wordOk marks m) || !(wordOk marks f) || !(wordOk marks fi)) = true then 9
  else if f = [] then 1 else 0
theorem if_t {α : Type} {c : Bool} {a b : α} (h : c = true) : (if c = true then a else b) = a := if_pos h
theorem if_f {α : Type} {c : Bool} {a b : α} (h : c = false) : (if c = true then a else b) = b := if_neg (by simp [h])
structure Frm where
  m : List UInt8
  f : List UInt8
  fi : List UInt8
  ln : Int
  ad : Int
  own : Bool
def Frm.enc (x : Frm) : List Value := [str x.m, str x.f, str x.fi, .int .i64 x.ln, .int .i64 x.ad, .bool x.own]
def Frm.val (x : Frm) : Value := .agg x.enc.toArray
/-- the fault of a frame -/
def frmNo (x : Frm) : Int :=
  if wordsNo x.m x.f x.fi ≠ 0 then wordsNo x.m x.f x.fi
  else if (decide (x.ln < 0) || decide (9999999 < x.ln) || (decide (x.ad < -1) || decide (281474976710655 < x.ad))) = true then 2
  else if x.ln ≠ 0 ∧ x.fi = [] then 1 else 0
theorem frmNo_words {x : Frm} {k : Int} (h : wordsNo x.m x.f x.fi = k) (hk : k ≠ 0) : frmNo x = k := by unfold frmNo; rw [h, if_pos hk]
theorem frmNo_rest {x : Frm} (h : wordsNo x.m x.f x.fi = 0) : frmNo x = if (decide (x.ln < 0) || decide (9999999 < x.ln) || (decide (x.ad < -1) || decide (281474976710655 < x.ad))) = true then 2
  else if x.ln ≠ 0 ∧ x.fi = [] then 1 else 0 := by unfold frmNo; rw [h, if_neg (by simp)]
theorem soutside_any (n lo hi : Int) (w : World) :
    Calls Tryz.prog 278 #[.int .i64 n, .int .i64 lo, .int .i64 hi] w fun e w' => e = .returned (.bool (decide (n < lo) || decide (hi < n))) ∧ Below w.heap.size w w' := by
  refine enter_args (args := [.int .i64 n, .int .i64 lo, .int .i64 hi]) (F := _) Tryz.func278 rfl Tryz.ntmps278 rfl rfl ?_
  intro Rb hRb hRn
  refine T_seq ?_
  refine T_region ?_
  refine S_ 6 rfl rfl rfl _ (y_assign rfl rfl) ?_
  refine S_go (fun _ _ h => h) ?_
  refine T_seq ?_
  refine T_region ?_
  refine S_ 7 rfl rfl rfl _ (y_move rfl rfl) ?_
  refine S_ 8 rfl rfl rfl _ (y_move rfl rfl) ?_
  refine S_ 9 rfl rfl rfl _ (y_bin rfl rfl rfl (fun _ => b_lss)) ?_
  refine S_ 10 rfl rfl rfl _ (y_move rfl rfl) ?_
  refine Sg_ 11 rfl rfl rfl rfl rfl rfl _ (y_move rfl rfl) ?_
  refine Sg_ 12 rfl rfl rfl rfl rfl rfl _ (y_move rfl rfl) ?_
  refine Sg_ 13 rfl rfl rfl rfl rfl rfl _ (y_bin rfl rfl rfl (fun _ => b_gtr)) ?_
  refine S_ 14 rfl rfl rfl _ (y_or rfl rfl rfl) ?_
  refine S_ 6 rfl rfl rfl _ (y_assign rfl rfl) ?_
  refine S_go (fun _ _ h => h) ?_
  refine T_ret (fun a w hF hM => hRb a w (post1 rfl rfl (fun w hM => ?_) a w hF hM))
  exact ⟨rfl, hM.below⟩
theorem CheckFrame_any (x : Frm) (hl1 : x.m.length ≤ 4611686018427387904) (hl2 : x.f.length ≤ 4611686018427387904) (hl3 : x.fi.length ≤ 4611686018427387904) (w : World) :
    Calls Tryz.prog 265 #[x.val] w fun e w' => e = .returned (.int .i64 (frmNo x)) ∧ Below w.heap.size w w' := by
  obtain ⟨m, f, fi, ln, ad, own⟩ := x
  simp only at hl1 hl2 hl3
  refine enter_args (args := [.agg #[str m, str f, str fi, .int .i64 ln, .int .i64 ad, .bool own]]) (F := _) Tryz.func265 rfl Tryz.ntmps265 rfl rfl ?_
  intro Rb hRb hRn
  refine T_seq ?_
  refine T_region ?_
  refine S_box 1 1 rfl rfl rfl rfl rfl ?_
  intro b1
  refine S_ 2 rfl rfl rfl _ (y_assign rfl rfl) ?_
  refine S_go (fun _ _ h => h) ?_
  refine T_seq ?_
  refine T_block ?_
  refine T_seq ?_
  refine T_region ?_
  refine S_ 4 rfl rfl rfl _ (y_fieldAddr rfl rfl fa116_0) ?_
  refine S_ 5 rfl rfl rfl _ (y_load 1 rfl rfl rfl rfl Tryz.underlying9 rfl) ?_
  refine S_ 6 rfl rfl rfl _ (y_len_str rfl rfl Tryz.underlying9) ?_
  refine S_ 7 rfl rfl rfl _ (y_bin rfl rfl rfl (fun _ => b_gtr)) ?_
  refine S_ 8 rfl rfl rfl _ (y_move rfl rfl) ?_
  refine Sg_ 9 rfl rfl rfl rfl rfl rfl _ (y_fieldAddr rfl rfl fa116_1) ?_
  refine Sg_ 10 rfl rfl rfl rfl rfl rfl _ (y_load 1 rfl rfl rfl rfl Tryz.underlying9 rfl) ?_
  refine Sg_ 11 rfl rfl rfl rfl rfl rfl _ (y_len_str rfl rfl Tryz.underlying9) ?_
  refine Sg_ 12 rfl rfl rfl rfl rfl rfl _ (y_bin rfl rfl rfl (fun _ => b_gtr)) ?_
  refine S_ 13 rfl rfl rfl _ (y_or rfl rfl rfl) ?_
  refine S_ 14 rfl rfl rfl _ (y_move rfl rfl) ?_
  refine Sg_ 15 rfl rfl rfl rfl rfl rfl _ (y_fieldAddr rfl rfl fa116_2) ?_
  refine Sg_ 16 rfl rfl rfl rfl rfl rfl _ (y_load 1 rfl rfl rfl rfl Tryz.underlying9 rfl) ?_
  refine Sg_ 17 rfl rfl rfl rfl rfl rfl _ (y_len_str rfl rfl Tryz.underlying9) ?_
  refine Sg_ 18 rfl rfl rfl rfl rfl rfl _ (y_bin rfl rfl rfl (fun _ => b_gtr)) ?_
  refine S_ 19 rfl rfl rfl _ (y_or rfl rfl rfl) ?_
  refine S_ 3 rfl rfl rfl _ (y_assign rfl rfl) ?_
  refine S_go (fun _ _ h => h) ?_
  refine T_cond rfl (fun h3 => ?_) (fun h3 => ?_)
  · skip
    refine T_seq ?_
    refine T_region ?_
    refine S_ 2 rfl rfl rfl _ (y_assign rfl rfl) ?_
    refine S_go (fun _ _ h => h) ?_
    refine T_ret (fun a w hF hM => hRb a w (post1 rfl rfl (fun w hM => ?_) a w hF hM))
    exact ⟨by rw [frmNo_words (x := ⟨m, f, fi, ln, ad, own⟩) (if_t h3) (by decide)], hM.below⟩
  · skip
    refine T_seq ?_
    refine T_region ?_
    refine S_ 21 rfl rfl rfl _ (y_fieldAddr rfl rfl fa116_0) ?_
    refine S_ 22 rfl rfl rfl _ (y_load 1 rfl rfl rfl rfl Tryz.underlying9 rfl) ?_
    refine S_ 23 rfl rfl rfl _ (y_call rfl rfl rfl cf236 (fun hg w _ => isWord_any _ _ (by first | omega | (have := hsz; omega)) w)) ?_
    refine S_ 24 rfl rfl rfl _ (y_not rfl rfl) ?_
    refine S_ 25 rfl rfl rfl _ (y_move rfl rfl) ?_
    refine Sg_ 26 rfl rfl rfl rfl rfl rfl _ (y_fieldAddr rfl rfl fa116_1) ?_
    refine Sg_ 27 rfl rfl rfl rfl rfl rfl _ (y_load 1 rfl rfl rfl rfl Tryz.underlying9 rfl) ?_
    refine Sg_ 28 rfl rfl rfl rfl rfl rfl _ (y_call rfl rfl rfl cf236 (fun hg w _ => isWord_any _ _ (by first | omega | (have := hsz; omega)) w)) ?_
    refine Sg_ 29 rfl rfl rfl rfl rfl rfl _ (y_not rfl rfl) ?_
    refine S_ 30 rfl rfl rfl _ (y_or rfl rfl rfl) ?_
    refine S_ 31 rfl rfl rfl _ (y_move rfl rfl) ?_
    refine Sg_ 32 rfl rfl rfl rfl rfl rfl _ (y_fieldAddr rfl rfl fa116_2) ?_
    refine Sg_ 33 rfl rfl rfl rfl rfl rfl _ (y_load 1 rfl rfl rfl rfl Tryz.underlying9 rfl) ?_
    refine Sg_ 34 rfl rfl rfl rfl rfl rfl _ (y_call rfl rfl rfl cf236 (fun hg w _ => isWord_any _ _ (by first | omega | (have := hsz; omega)) w)) ?_
    refine Sg_ 35 rfl rfl rfl rfl rfl rfl _ (y_not rfl rfl) ?_
    refine S_ 36 rfl rfl rfl _ (y_or rfl rfl rfl) ?_
    refine S_ 20 rfl rfl rfl _ (y_assign rfl rfl) ?_
    refine S_go (fun _ _ h => h) ?_
    refine T_cond rfl (fun h20 => ?_) (fun h20 => ?_)
    · skip
      refine T_seq ?_
      refine T_region ?_
      refine S_ 2 rfl rfl rfl _ (y_assign rfl rfl) ?_
      refine S_go (fun _ _ h => h) ?_
      refine T_ret (fun a w hF hM => hRb a w (post1 rfl rfl (fun w hM => ?_) a w hF hM))
      exact ⟨by rw [frmNo_words (x := ⟨m, f, fi, ln, ad, own⟩) ((if_f h3).trans (if_t h20)) (by decide)], hM.below⟩
    · skip
      refine T_seq ?_
      refine T_region ?_
      refine S_ 38 rfl rfl rfl _ (y_fieldAddr rfl rfl fa116_1) ?_
      refine S_ 39 rfl rfl rfl _ (y_load 1 rfl rfl rfl rfl Tryz.underlying9 rfl) ?_
      refine S_ 40 rfl rfl rfl _ (y_bin rfl rfl rfl (fun _ => b_eqls)) ?_
      refine S_ 37 rfl rfl rfl _ (y_assign rfl rfl) ?_
      refine S_go (fun _ _ h => h) ?_
      refine T_cond rfl (fun h37 => ?_) (fun h37 => ?_)
      · skip
        refine T_seq ?_
        refine T_region ?_
        refine S_ 2 rfl rfl rfl _ (y_assign rfl rfl) ?_
        refine S_go (fun _ _ h => h) ?_
        refine T_ret (fun a w hF hM => hRb a w (post1 rfl rfl (fun w hM => ?_) a w hF hM))
        exact ⟨by rw [frmNo_words (x := ⟨m, f, fi, ln, ad, own⟩) ((if_f h3).trans ((if_f h20).trans (if_pos (by simpa using h37)))) (by decide)], hM.below⟩
      · skip
        refine T_seq ?_
        refine T_region ?_
        refine S_ 42 rfl rfl rfl _ (y_fieldAddr rfl rfl fa116_3) ?_
        refine S_ 43 rfl rfl rfl _ (y_load 1 rfl rfl rfl rfl Tryz.underlying3 rfl) ?_
        refine S_ 44 rfl rfl rfl _ (y_call rfl rfl rfl cf278 (fun _ w _ => soutside_any _ _ _ w)) ?_
        refine S_ 45 rfl rfl rfl _ (y_move rfl rfl) ?_
        refine Sg_ 46 rfl rfl rfl rfl rfl rfl _ (y_fieldAddr rfl rfl fa116_4) ?_
        refine Sg_ 47 rfl rfl rfl rfl rfl rfl _ (y_load 1 rfl rfl rfl rfl Tryz.underlying3 rfl) ?_
        refine Sg_ 48 rfl rfl rfl rfl rfl rfl _ (y_call rfl rfl rfl cf278 (fun _ w _ => soutside_any _ _ _ w)) ?_
        refine S_ 49 rfl rfl rfl _ (y_or rfl rfl rfl) ?_
        refine S_ 41 rfl rfl rfl _ (y_assign rfl rfl) ?_
        refine S_go (fun _ _ h => h) ?_
        refine T_cond rfl (fun h41 => ?_) (fun h41 => ?_)
        · skip
          refine T_seq ?_
          refine T_region ?_
          refine S_ 2 rfl rfl rfl _ (y_assign rfl rfl) ?_
          refine S_go (fun _ _ h => h) ?_
          refine T_ret (fun a w hF hM => hRb a w (post1 rfl rfl (fun w hM => ?_) a w hF hM))
          exact ⟨by rw [frmNo_rest (x := ⟨m, f, fi, ln, ad, own⟩) ((if_f h3).trans ((if_f h20).trans (if_neg (by simpa using h37)))), if_t h41], hM.below⟩
        · skip
          refine T_seq ?_
          refine T_region ?_
          refine S_ 51 rfl rfl rfl _ (y_fieldAddr rfl rfl fa116_3) ?_
          refine S_ 52 rfl rfl rfl _ (y_load 1 rfl rfl rfl rfl Tryz.underlying3 rfl) ?_
          refine S_ 53 rfl rfl rfl _ (y_bin rfl rfl rfl (fun _ => b_neq)) ?_
          refine S_ 54 rfl rfl rfl _ (y_move rfl rfl) ?_
          refine Sg_ 55 rfl rfl rfl rfl rfl rfl _ (y_fieldAddr rfl rfl fa116_2) ?_
          refine Sg_ 56 rfl rfl rfl rfl rfl rfl _ (y_load 1 rfl rfl rfl rfl Tryz.underlying9 rfl) ?_
          refine Sg_ 57 rfl rfl rfl rfl rfl rfl _ (y_bin rfl rfl rfl (fun _ => b_eqls)) ?_
          refine S_ 58 rfl rfl rfl _ (y_and rfl rfl rfl) ?_
          refine S_ 50 rfl rfl rfl _ (y_assign rfl rfl) ?_
          refine S_go (fun _ _ h => h) ?_
          refine T_cond rfl (fun h50 => ?_) (fun h50 => ?_)
          · skip
            refine T_seq ?_
            refine T_region ?_
            refine S_ 2 rfl rfl rfl _ (y_assign rfl rfl) ?_
            refine S_go (fun _ _ h => h) ?_
            refine T_ret (fun a w hF hM => hRb a w (post1 rfl rfl (fun w hM => ?_) a w hF hM))
            exact ⟨by rw [frmNo_rest (x := ⟨m, f, fi, ln, ad, own⟩) ((if_f h3).trans ((if_f h20).trans (if_neg (by simpa using h37)))), if_f h41, if_pos (by simpa using h50)], hM.below⟩
          · skip
            refine T_skip_go (fun _ _ h => h) ?_
            refine T_seq ?_
            refine T_region ?_
            refine S_ 2 rfl rfl rfl _ (y_assign rfl rfl) ?_
            refine S_go (fun _ _ h => h) ?_
            refine T_ret (fun a w hF hM => hRb a w (post1 rfl rfl (fun w hM => ?_) a w hF hM))
            exact ⟨by rw [frmNo_rest (x := ⟨m, f, fi, ln, ad, own⟩) ((if_f h3).trans ((if_f h20).trans (if_neg (by simpa using h37)))), if_f h41, if_neg (by simpa using h50)], hM.below⟩

/-! ### The reference's -/
theorem three {i : Nat} (m f fi : List UInt8) (h : i < 3) : [str m, str f, str fi][i]? = some (str ([m, f, fi].getD i [])) := by
  match i, h with
  | 0, _ => rfl
  | 1, _ => rfl
  | 2, _ => rfl
theorem any_t {α : Type} {p : α → Bool} {a : α} {r : List α} (h : p a = true) : (a :: r).any p = true := by simp [h]
theorem any_f {α : Type} {p : α → Bool} {a : α} {r : List α} (h : p a = false) : (a :: r).any p = r.any p := by simp [h]
theorem mem_at {α : Type} {l : List α} {i : Nat} {x : α} (h : l[i]? = some x) : x ∈ l := List.mem_of_getElem? h
structure FrmsOk (w : World) (l : Sl Frm) : Prop where
  ok : l.Ok Frm.enc 6 w
  q : l.q ≤ 4611686018427387904
  n : ∀ f ∈ l.l, f.m.length ≤ 4611686018427387904 ∧ f.f.length ≤ 4611686018427387904 ∧ f.fi.length ≤ 4611686018427387904
theorem FrmsOk.below {w w' : World} {l : Sl Frm} (h : FrmsOk w l) (hb : Below w.heap.size w w') : FrmsOk w' l := ⟨h.ok.below hb, h.q, h.n⟩
def frmsNo : List Frm → Int
  | [] => 0
  | f :: r => if frmNo f ≠ 0 then frmNo f else frmsNo r
def framesNo (l : Sl Frm) : Int := if (200 : Int) < l.q then 4 else frmsNo l.l
theorem checkFrames_any (l : Sl Frm) (w : World) (hl : FrmsOk w l) :
    Calls Tryz.prog 237 #[.slice l.A l.q l.c] w fun e w' => e = .returned (.int .i64 (framesNo l)) ∧ Below w.heap.size w w' := by
  have ht := hl.ok.t
  have hq := hl.q
  refine enter_args (args := [.slice l.A l.q l.c]) (F := _) Tryz.func237 rfl Tryz.ntmps237 rfl rfl ?_
  intro Rb hRb hRn
  refine T_seq ?_
  refine T_region ?_
  refine S_ 2 rfl rfl rfl _ (y_assign rfl rfl) ?_
  refine S_go (fun _ _ h => h) ?_
  refine T_seq ?_
  refine T_seq ?_
  refine T_region ?_
  refine S_ 6 rfl rfl rfl _ (y_move rfl rfl) ?_
  refine S_ 7 rfl rfl rfl _ (y_len_slice rfl rfl Tryz.underlying48) ?_
  refine S_ 8 rfl rfl rfl _ (y_bin rfl rfl rfl (fun _ => b_gtr)) ?_
  refine S_go (fun _ _ h => h) ?_
  refine T_cond rfl (fun h8 => ?_) (fun h8 => ?_)
  · try simp only [decide_eq_true_eq, decide_eq_false_iff_not, Bool.or_eq_true, Bool.or_eq_false_iff, Bool.and_eq_true, Bool.and_eq_false_iff, Bool.not_eq_true', Bool.not_eq_false', Bool.not_eq_true, Bool.not_eq_false, Bool.not_true, Bool.not_false, Int.not_lt, Int.not_le, not_or, not_and, Classical.not_not] at h8
    refine T_seq ?_
    refine T_region ?_
    refine S_ 2 rfl rfl rfl _ (y_assign rfl rfl) ?_
    refine S_go (fun _ _ h => h) ?_
    refine T_ret (fun a w hF hM => hRb a w (post1 rfl rfl (fun w hM => ?_) a w hF hM))
    exact ⟨by rw [framesNo, if_pos (by omega)], hM.below⟩
  · try simp only [decide_eq_true_eq, decide_eq_false_iff_not, Bool.or_eq_true, Bool.or_eq_false_iff, Bool.and_eq_true, Bool.and_eq_false_iff, Bool.not_eq_true', Bool.not_eq_false', Bool.not_eq_true, Bool.not_eq_false, Bool.not_true, Bool.not_false, Int.not_lt, Int.not_le, not_or, not_and, Classical.not_not] at h8
    refine T_skip_go (fun _ _ h => h) ?_
    refine T_seq ?_
    refine T_seq ?_
    refine T_region ?_
    refine S_ 9 rfl rfl rfl _ (y_move rfl rfl) ?_
    refine S_ 10 rfl rfl rfl _ (y_len_slice rfl rfl Tryz.underlying48) ?_
    refine S_ 11 rfl rfl rfl _ (y_move rfl rfl) ?_
    refine S_go (fun _ _ h => h) ?_
    refine T_block ?_
    refine T_loopK1 (kf := [(2, 2), (4, 5), (11, 20)]) (kl := [(2, 2), (4, 5), (11, 20)]) (fun (i : Nat) => [(11, true, .int .i64 (i : Int))]) (fun (i : Nat) => []) (fun (i : Nat) => i ≤ l.q ∧ frmsNo l.l = frmsNo (l.l.drop i)) (fun (i : Nat) => l.q - i) 0 (by repeat (first | exact kf_nil | (apply kf_in; focus rfl) | (apply kf_out; focus rfl))) (by repeat (first | exact kl_nil | exact kl_rest (by assumption) rfl | (apply kl_in; focus rfl) | (apply kl_out; focus rfl))) ?_ ?_ ?_ ?_
    · exact ⟨by omega, rfl⟩
    · exact ⟨rfl, trivial⟩
    · exact trivial
    rintro i ⟨hp1, hp2⟩
    refine T_seq ?_
    refine T_region ?_
    refine S_ 12 rfl rfl rfl _ (y_bin rfl rfl rfl (fun _ => b_lss)) ?_
    refine S_go (fun _ _ h => h) ?_
    refine T_seq ?_
    refine T_cond rfl (fun h12 => ?_) (fun h12 => ?_)
    · try simp only [decide_eq_true_eq, decide_eq_false_iff_not, Bool.or_eq_true, Bool.or_eq_false_iff, Bool.and_eq_true, Bool.and_eq_false_iff, Bool.not_eq_true', Bool.not_eq_false', Bool.not_eq_true, Bool.not_eq_false, Bool.not_true, Bool.not_false, Int.not_lt, Int.not_le, not_or, not_and, Classical.not_not] at h12
      obtain ⟨x, hx1, hx2⟩ := ht.at (i := i) (by omega)
      have hn := hl.n x (mem_at hx1)
      refine T_skip_go (fun _ _ h => h) ?_
      refine T_seq ?_
      refine T_block ?_
      refine T_seq ?_
      refine T_region ?_
      refine S_ 13 rfl rfl rfl _ (y_indexAddr rfl rfl rfl Tryz.underlying48 sz116 (fun hg => ht.isSome (by omega)) (fun _ => by omega)) ?_
      refine S_ 14 rfl rfl rfl _ (y_loadT rfl rfl ht (fun _ => rfl) (fun _ => hx1) Tryz.underlying116 rfl sz116) ?_
      refine S_alloc 4 4 rfl rfl rfl rfl z116 ?_
      intro b4
      refine S_store 4 rfl rfl rfl rfl rfl rfl sz116 rfl rfl ?_
      refine S_go (fun _ _ h => h) ?_
      refine T_seq ?_
      refine T_region ?_
      refine S_ 15 rfl rfl rfl _ (y_loadA 4 rfl rfl rfl Tryz.underlying116 rfl sz116) ?_
      refine S_ 16 rfl rfl rfl _ (y_call rfl rfl rfl cf265 (fun _ w _ => CheckFrame_any x hn.1 hn.2.1 hn.2.2 w)) ?_
      refine S_ 5 rfl rfl rfl _ (y_assign rfl rfl) ?_
      refine S_go (fun _ _ h => h) ?_
      refine T_seq ?_
      refine T_region ?_
      refine S_ 17 rfl rfl rfl _ (y_move rfl rfl) ?_
      refine S_ 18 rfl rfl rfl _ (y_bin rfl rfl rfl (fun _ => b_neq)) ?_
      refine S_go (fun _ _ h => h) ?_
      refine T_cond rfl (fun h18 => ?_) (fun h18 => ?_)
      · try simp only [decide_eq_true_eq, decide_eq_false_iff_not, Bool.or_eq_true, Bool.or_eq_false_iff, Bool.and_eq_true, Bool.and_eq_false_iff, Bool.not_eq_true', Bool.not_eq_false', Bool.not_eq_true, Bool.not_eq_false, Bool.not_true, Bool.not_false, Int.not_lt, Int.not_le, not_or, not_and, Classical.not_not] at h18
        refine T_seq ?_
        refine T_region ?_
        refine S_ 19 rfl rfl rfl _ (y_move rfl rfl) ?_
        refine S_ 2 rfl rfl rfl _ (y_assign rfl rfl) ?_
        refine S_go (fun _ _ h => h) ?_
        refine T_ret (fun a w hF hM => hRb a w (post1 rfl rfl (fun w hM => ?_) a w hF hM))
        exact ⟨by rw [framesNo, if_neg (by omega), hp2, hx2, frmsNo, if_pos h18], hM.below⟩
      · try simp only [decide_eq_true_eq, decide_eq_false_iff_not, Bool.or_eq_true, Bool.or_eq_false_iff, Bool.and_eq_true, Bool.and_eq_false_iff, Bool.not_eq_true', Bool.not_eq_false', Bool.not_eq_true, Bool.not_eq_false, Bool.not_true, Bool.not_false, Int.not_lt, Int.not_le, not_or, not_and, Classical.not_not] at h18
        refine T_skip_go (fun _ _ h => h) ?_
        refine T_region ?_
        refine S_ 20 rfl rfl rfl _ (y_bin rfl rfl rfl (fun hg => b_add (by omega))) ?_
        refine S_ 11 rfl rfl rfl _ (y_move rfl rfl) ?_
        refine S_nil (nextK1 (kf := [(2, 2), (4, 5), (11, 20)]) (kl := [(2, 2), (4, 5), (11, 20)]) (i + 1) (by repeat (first | exact kf_nil | (apply kf_in; focus rfl) | (apply kf_out; focus rfl))) (by repeat (first | exact kl_nil | exact kl_rest (by assumption) rfl | (apply kl_in; focus rfl) | (apply kl_out; focus rfl))) ?_ ?_ ?_ ?_)
        · omega
        · exact ⟨by omega, by rw [hp2, hx2, frmsNo, if_neg (by simpa using h18)]⟩
        · exact ⟨rfl, trivial⟩
        · exact trivial
    · try simp only [decide_eq_true_eq, decide_eq_false_iff_not, Bool.or_eq_true, Bool.or_eq_false_iff, Bool.and_eq_true, Bool.and_eq_false_iff, Bool.not_eq_true', Bool.not_eq_false', Bool.not_eq_true, Bool.not_eq_false, Bool.not_true, Bool.not_false, Int.not_lt, Int.not_le, not_or, not_and, Classical.not_not] at h12
      refine T_exit_go (fun _ _ h => h) ?_
      refine T_seq ?_
      refine T_region ?_
      refine S_ 2 rfl rfl rfl _ (y_assign rfl rfl) ?_
      refine S_go (fun _ _ h => h) ?_
      refine T_ret (fun a w hF hM => hRb a w (post1 rfl rfl (fun w hM => ?_) a w hF hM))
      exact ⟨by rw [framesNo, if_neg (by omega), hp2, ht.end (by omega)]; rfl, hM.below⟩
end Go.Proofs.YtfmbgaaonfgenaaGreatDoor
end
section
namespace Go.Proofs.YtfmbgaaonfgenaaGreatDoor
set_option linter.unusedSimpArgs false
set_option linter.unusedVariables false
set_option maxRecDepth 20000
open Go.RowKit Go.Eng
/-- a name: 1 to 40 bytes, the first one a small letter -/
def nameBs : List UInt8 := [97, 98, 99, 100, 101, 102, 103, 104, 105, 106, 107, 108, 109, 110, 111, 112, 113, 114, 115, 116, 117, 118, 119, 120, 121, 122, 48, 49, 50, 51, 52, 53, 54, 55, 56, 57, 45, 46, 95]
def nameOk (s : List UInt8) : Bool := !decide (s = []) && decide ((s.length : Int) ≤ 40) && decide ((97 : Int) ≤ ((s.getD 0 0).toNat : Int)) && decide (((s.getD 0 0).toNat : Int) ≤ 122) && decide (Lib.trimS s nameBs = [])
def valBad (c : UInt8) : Bool := decide ((c.toNat : Int) < 32) || decide ((126 : Int) < (c.toNat : Int))
def sayBad (c : UInt8) : Bool := decide ((c.toNat : Int) < 32) || decide ((c.toNat : Int) = 127)
def valNo (s : List UInt8) : Int := if (200 : Int) < s.length then 4 else if s.any valBad = true then 9 else 0
def sayNo (s : List UInt8) : Int := if (2000 : Int) < s.length then 4 else if s.any sayBad = true then 9 else 0
structure Flt where
  k : List UInt8
  t : List UInt8
  fr : Sl Frm
def Flt.enc (f : Flt) : List Value := [str f.k, str f.t, .slice f.fr.A f.fr.q f.fr.c]
def Flt.val (f : Flt) : Value := .agg f.enc.toArray
structure STag where
  n : List UInt8
  v : List UInt8
def STag.enc (t : STag) : List Value := [str t.n, str t.v]
structure SCrumb where
  at_ : Int
  k : List UInt8
  t : List UInt8
def SCrumb.enc (c : SCrumb) : List Value := [.int .i64 c.at_, str c.k, str c.t]
structure Evt where
  id : List UInt8
  at_ : Int
  lv : Int
  fa : Sl Flt
  ta : Sl STag
  cr : Sl SCrumb
  rel : List UInt8
  us : List UInt8
  wt : Int
def Evt.enc (e : Evt) : List Value := [str e.id, .int .i64 e.at_, .int .i64 e.lv, .slice e.fa.A e.fa.q e.fa.c, .slice e.ta.A e.ta.q e.ta.c, .slice e.cr.A e.cr.q e.cr.c, str e.rel, str e.us, .int .i64 e.wt]
def Evt.val (e : Evt) : Value := .agg e.enc.toArray
structure FltOk (w : World) (f : Flt) : Prop where
  k : f.k.length ≤ 4611686018427387904
  t : f.t.length ≤ 4611686018427387904
  fr : FrmsOk w f.fr
structure FltsOk (w : World) (l : Sl Flt) : Prop where
  ok : l.Ok Flt.enc 3 w
  q : l.q ≤ 4611686018427387904
  n : ∀ f ∈ l.l, FltOk w f
structure TagsOk (w : World) (l : Sl STag) : Prop where
  ok : l.Ok STag.enc 2 w
  q : l.q ≤ 4611686018427387904
  n : ∀ t ∈ l.l, t.n.length ≤ 4611686018427387904 ∧ t.v.length ≤ 4611686018427387904
structure CrumbsOk (w : World) (l : Sl SCrumb) : Prop where
  ok : l.Ok SCrumb.enc 3 w
  q : l.q ≤ 4611686018427387904
  n : ∀ c ∈ l.l, c.k.length ≤ 4611686018427387904 ∧ c.t.length ≤ 4611686018427387904
structure Evt.Ok (w : World) (e : Evt) : Prop where
  fa : FltsOk w e.fa
  ta : TagsOk w e.ta
  cr : CrumbsOk w e.cr
  id : e.id.length ≤ 4611686018427387904
  rel : e.rel.length ≤ 4611686018427387904
  us : e.us.length ≤ 4611686018427387904
section
variable {w w' : World} (hb : Below w.heap.size w w')
include hb
theorem FltOk.below {f : Flt} (h : FltOk w f) : FltOk w' f := ⟨h.k, h.t, h.fr.below hb⟩
theorem FltsOk.below {l : Sl Flt} (h : FltsOk w l) : FltsOk w' l := ⟨h.ok.below hb, h.q, fun f hf => (h.n f hf).below hb⟩
theorem TagsOk.below {l : Sl STag} (h : TagsOk w l) : TagsOk w' l := ⟨h.ok.below hb, h.q, h.n⟩
theorem CrumbsOk.below {l : Sl SCrumb} (h : CrumbsOk w l) : CrumbsOk w' l := ⟨h.ok.below hb, h.q, h.n⟩
theorem Evt.Ok.below {e : Evt} (h : e.Ok w) : e.Ok w' := ⟨h.fa.below hb, h.ta.below hb, h.cr.below hb, h.id, h.rel, h.us⟩
end
/-! ### The codes of their faults -/
def fltNo (f : Flt) : Int :=
  if (200 : Int) < f.k.length then 4 else if wordOk [58] f.k = false then 9 else if f.k = [] then 1 else if sayNo f.t ≠ 0 then sayNo f.t else framesNo f.fr
def fltsNo : List Flt → Int
  | [] => 0
  | f :: r => if fltNo f ≠ 0 then fltNo f else fltsNo r
def faultsNo (l : Sl Flt) : Int := if l.q = 0 then 7 else if (10 : Int) < l.q then 4 else fltsNo l.l
def tagsNo : Option (List UInt8) → List STag → Int
  | _, [] => 0
  | p, t :: r => if nameOk t.n = false then 3 else if (p.any fun s => Op.bytesLess t.n s || decide (t.n = s)) = true then 5 else if valNo t.v ≠ 0 then valNo t.v else tagsNo (some t.n) r
def crumbsNo : Option Int → List SCrumb → Int
  | _, [] => 0
  | p, c :: r => if (decide (c.at_ < 0) || decide (3155759999 < c.at_)) = true then 2 else if (p.any fun n => decide (c.at_ < n)) = true then 5 else if nameOk c.k = false then 3 else if sayNo c.t ≠ 0 then sayNo c.t else crumbsNo (some c.at_) r
def headNo (id : List UInt8) (at_ lv : Int) : Int := if idOk id = false then 1 else if (decide (at_ < 0) || decide (3155759999 < at_) || (decide (lv < 1) || decide (5 < lv))) = true then 2 else 0
def fst (a b : Int) : Int := if a ≠ 0 then a else b
def evNo (e : Evt) : Int := fst (headNo e.id e.at_ e.lv) (fst (faultsNo e.fa) (fst (if (40 : Int) < e.ta.q then 4 else tagsNo none e.ta.l) (fst (if (50 : Int) < e.cr.q then 4 else crumbsNo none e.cr.l)
  (if (!decide (e.rel = []) && !nameOk e.rel) = true then 3 else fst (valNo e.us) (if (decide (e.wt < 1) || decide (1000000 < e.wt)) = true then 2 else 0)))))
theorem fst_t {a b : Int} (h : ¬ a = 0) : fst a b = a := if_pos h
theorem fst_f {a b : Int} (h : a = 0) : fst a b = b := if_neg (by simp [h])
theorem name_t {s : List UInt8} (h : (decide ((s.length : Int) < 1) || decide ((40 : Int) < (s.length : Int)) || decide (((s.getD 0 0).toNat : Int) < 97) || decide ((122 : Int) < ((s.getD 0 0).toNat : Int))) = true) : nameOk s = false := by
  unfold nameOk
  cases s with
  | nil => rfl
  | cons a r =>
    simp only [Bool.or_eq_true, decide_eq_true_eq, List.length_cons] at h
    rw [Bool.eq_false_iff]
    simp only [ne_eq, Bool.and_eq_true, decide_eq_true_eq, List.length_cons]
    omega
theorem name_f {s : List UInt8} (h : (decide ((s.length : Int) < 1) || decide ((40 : Int) < (s.length : Int)) || decide (((s.getD 0 0).toNat : Int) < 97) || decide ((122 : Int) < ((s.getD 0 0).toNat : Int))) = false) : s.length ≤ 40 ∧ decide (Lib.trimS s nameBs = []) = nameOk s := by
  cases s with
  | nil => simp at h
  | cons a r =>
    simp only [Bool.or_eq_false_iff, decide_eq_false_iff_not, List.length_cons] at h
    refine ⟨by simp only [List.length_cons]; omega, ?_⟩
    unfold nameOk
    rw [show (!decide (a :: r = [])) = true from by simp, show decide (((a :: r).length : Int) ≤ 40) = true from decide_eq_true (by simp only [List.length_cons]; omega), show decide ((97 : Int) ≤ (((a :: r).getD 0 0).toNat : Int)) = true from decide_eq_true (by omega),
      show decide ((((a :: r).getD 0 0).toNat : Int) ≤ 122) = true from decide_eq_true (by omega)]
    rfl
def prevN (i : Nat) (b : STag) : Option (List UInt8) := if i = 0 then none else some b.n
def prevA (i : Nat) (b : SCrumb) : Option Int := if i = 0 then none else some b.at_
theorem prevN_any (i : Nat) (b : STag) (f : List UInt8 → Bool) : (prevN i b).any f = (decide ((0 : Int) < (i : Int)) && f b.n) := by
  unfold prevN
  rcases Nat.eq_zero_or_pos i with h | h
  · simp [h]
  · rw [if_neg (by omega)]; simp [h]
theorem prevA_any (i : Nat) (b : SCrumb) (f : Int → Bool) : (prevA i b).any f = (decide ((0 : Int) < (i : Int)) && f b.at_) := by
  unfold prevA
  rcases Nat.eq_zero_or_pos i with h | h
  · simp [h]
  · rw [if_neg (by omega)]; simp [h]
theorem tagsNo_nil (p : Option (List UInt8)) : tagsNo p [] = 0 := by unfold tagsNo; rfl
theorem crumbsNo_nil (p : Option Int) : crumbsNo p [] = 0 := by unfold crumbsNo; rfl
theorem fltNo_say {f : Flt} {k : Int} (h1 : ¬ (200 : Int) < f.k.length) (h2 : wordOk [58] f.k = true) (h3 : ¬ f.k = []) (h : sayNo f.t = k) (hk : ¬ k = 0) : fltNo f = k := by
  rw [fltNo, if_neg h1, if_neg (by rw [h2]; simp), if_neg h3, h, if_pos hk]
theorem fltNo_frs {f : Flt} (h1 : ¬ (200 : Int) < f.k.length) (h2 : wordOk [58] f.k = true) (h3 : ¬ f.k = []) (h : sayNo f.t = 0) : fltNo f = framesNo f.fr := by
  rw [fltNo, if_neg h1, if_neg (by rw [h2]; simp), if_neg h3, h, if_neg (by simp)]
end Go.Proofs.YtfmbgaaonfgenaaGreatDoor
end
section
namespace Go.Proofs.YtfmbgaaonfgenaaGreatDoor
set_option linter.unusedSimpArgs false
set_option linter.unusedVariables false
set_option maxRecDepth 20000
open Go.RowKit Go.Eng
theorem TrimName_any (s : List UInt8) (hs : s.length ≤ 1000) (w : World) :
    Calls Tryz.prog 72 #[str s, str nameBs] w fun e w' => e = .returned (str (Lib.trimS s nameBs)) ∧ Below w.heap.size w w' :=
  Any.strings_Trim_laid Tryz.lays160 (by kernel_rfl) ⟨s.toArray⟩ ⟨nameBs.toArray⟩ w (by rw [Lib.size_eq]; simp; omega) (by decide) (ascii_of_all (by decide))
theorem isDigest_any (s : List UInt8) (w : World) :
    Calls Tryz.prog 194 #[str s] w fun e w' => e = .returned (.bool (idOk s)) ∧ Below w.heap.size w w' := by
  refine enter_args (args := [str s]) (F := _) Tryz.func194 rfl Tryz.ntmps194 rfl rfl ?_
  intro Rb hRb hRn
  refine T_seq ?_
  refine T_region ?_
  refine S_ 2 rfl rfl rfl _ (y_assign rfl rfl) ?_
  refine S_go (fun _ _ h => h) ?_
  refine T_seq ?_
  refine T_region ?_
  refine S_ 3 rfl rfl rfl _ (y_move rfl rfl) ?_
  refine S_ 4 rfl rfl rfl _ (y_len_str rfl rfl Tryz.underlying9) ?_
  refine S_ 5 rfl rfl rfl _ (y_bin rfl rfl rfl (fun _ => b_eql)) ?_
  refine S_ 6 rfl rfl rfl _ (y_move rfl rfl) ?_
  refine Sg_ 7 rfl rfl rfl rfl rfl rfl _ (y_move rfl rfl) ?_
  refine Sg_ 8 rfl rfl rfl rfl rfl rfl _ (y_call rfl rfl rfl cf72 (fun hg w _ => TrimHex_any s (by simp only [Bool.true_and, Bool.and_eq_true, beq_iff_eq, decide_eq_true_eq, decide_eq_false_iff_not, Int.not_lt, Int.not_le] at hg; omega) w)) ?_
  refine Sg_ 9 rfl rfl rfl rfl rfl rfl _ (y_bin rfl rfl rfl (fun _ => b_eqls)) ?_
  refine S_ 10 rfl rfl rfl _ (y_and rfl rfl rfl) ?_
  refine S_ 2 rfl rfl rfl _ (y_assign rfl rfl) ?_
  refine S_go (fun _ _ h => h) ?_
  refine T_ret (fun a w hF hM => hRb a w (post1 rfl rfl (fun w hM => ?_) a w hF hM))
  exact ⟨rfl, hM.below⟩
theorem eoutside_any (n lo hi : Int) (w : World) :
    Calls Tryz.prog 118 #[.int .i64 n, .int .i64 lo, .int .i64 hi] w fun e w' => e = .returned (.bool (decide (n < lo) || decide (hi < n))) ∧ Below w.heap.size w w' := by
  refine enter_args (args := [.int .i64 n, .int .i64 lo, .int .i64 hi]) (F := _) Tryz.func118 rfl Tryz.ntmps118 rfl rfl ?_
  intro Rb hRb hRn
  refine T_seq ?_
  refine T_region ?_
  refine S_ 6 rfl rfl rfl _ (y_assign rfl rfl) ?_
  refine S_go (fun _ _ h => h) ?_
  refine T_seq ?_
  refine T_region ?_
  refine S_ 7 rfl rfl rfl _ (y_move rfl rfl) ?_
  refine S_ 8 rfl rfl rfl _ (y_move rfl rfl) ?_
  refine S_ 9 rfl rfl rfl _ (y_bin rfl rfl rfl (fun _ => b_lss)) ?_
  refine S_ 10 rfl rfl rfl _ (y_move rfl rfl) ?_
  refine Sg_ 11 rfl rfl rfl rfl rfl rfl _ (y_move rfl rfl) ?_
  refine Sg_ 12 rfl rfl rfl rfl rfl rfl _ (y_move rfl rfl) ?_
  refine Sg_ 13 rfl rfl rfl rfl rfl rfl _ (y_bin rfl rfl rfl (fun _ => b_gtr)) ?_
  refine S_ 14 rfl rfl rfl _ (y_or rfl rfl rfl) ?_
  refine S_ 6 rfl rfl rfl _ (y_assign rfl rfl) ?_
  refine S_go (fun _ _ h => h) ?_
  refine T_ret (fun a w hF hM => hRb a w (post1 rfl rfl (fun w hM => ?_) a w hF hM))
  exact ⟨rfl, hM.below⟩
theorem IsName_any (s : List UInt8) (w : World) :
    Calls Tryz.prog 100 #[str s] w fun e w' => e = .returned (.bool (nameOk s)) ∧ Below w.heap.size w w' := by
  refine enter_args (args := [str s]) (F := _) Tryz.func100 rfl Tryz.ntmps100 rfl rfl ?_
  intro Rb hRb hRn
  refine T_seq ?_
  refine T_region ?_
  refine S_ 2 rfl rfl rfl _ (y_assign rfl rfl) ?_
  refine S_go (fun _ _ h => h) ?_
  refine T_seq ?_
  refine T_seq ?_
  refine T_region ?_
  refine S_ 3 rfl rfl rfl _ (y_move rfl rfl) ?_
  refine S_ 4 rfl rfl rfl _ (y_len_str rfl rfl Tryz.underlying9) ?_
  refine S_ 5 rfl rfl rfl _ (y_bin rfl rfl rfl (fun _ => b_lss)) ?_
  refine S_ 6 rfl rfl rfl _ (y_move rfl rfl) ?_
  refine Sg_ 7 rfl rfl rfl rfl rfl rfl _ (y_move rfl rfl) ?_
  refine Sg_ 8 rfl rfl rfl rfl rfl rfl _ (y_len_str rfl rfl Tryz.underlying9) ?_
  refine Sg_ 9 rfl rfl rfl rfl rfl rfl _ (y_bin rfl rfl rfl (fun _ => b_gtr)) ?_
  refine S_ 10 rfl rfl rfl _ (y_or rfl rfl rfl) ?_
  refine S_ 11 rfl rfl rfl _ (y_move rfl rfl) ?_
  refine Sg_ 12 rfl rfl rfl rfl rfl rfl _ (y_move rfl rfl) ?_
  refine Sg_ 13 rfl rfl rfl rfl rfl rfl _ (y_index_str (j := 0) rfl rfl rfl Tryz.underlying9 (fun hg => List.length_pos_iff.2 (fun e => by subst e; simp at hg))) ?_
  refine Sg_ 14 rfl rfl rfl rfl rfl rfl _ (y_bin rfl rfl rfl (fun _ => b_lss)) ?_
  refine S_ 15 rfl rfl rfl _ (y_or rfl rfl rfl) ?_
  refine S_ 16 rfl rfl rfl _ (y_move rfl rfl) ?_
  refine Sg_ 17 rfl rfl rfl rfl rfl rfl _ (y_move rfl rfl) ?_
  refine Sg_ 18 rfl rfl rfl rfl rfl rfl _ (y_index_str (j := 0) rfl rfl rfl Tryz.underlying9 (fun hg => List.length_pos_iff.2 (fun e => by subst e; simp at hg))) ?_
  refine Sg_ 19 rfl rfl rfl rfl rfl rfl _ (y_bin rfl rfl rfl (fun _ => b_gtr)) ?_
  refine S_ 20 rfl rfl rfl _ (y_or rfl rfl rfl) ?_
  refine S_go (fun _ _ h => h) ?_
  refine T_cond rfl (fun h20 => ?_) (fun h20 => ?_)
  · skip
    refine T_seq ?_
    refine T_region ?_
    refine S_ 2 rfl rfl rfl _ (y_assign rfl rfl) ?_
    refine S_go (fun _ _ h => h) ?_
    refine T_ret (fun a w hF hM => hRb a w (post1 rfl rfl (fun w hM => ?_) a w hF hM))
    exact ⟨by rw [name_t h20], hM.below⟩
  · skip
    have hn := name_f h20
    have hl := hn.1
    refine T_skip_go (fun _ _ h => h) ?_
    refine T_seq ?_
    refine T_region ?_
    refine S_ 21 rfl rfl rfl _ (y_move rfl rfl) ?_
    refine S_ 22 rfl rfl rfl _ (y_call rfl rfl rfl cf72 (fun _ w _ => TrimName_any s (by omega) w)) ?_
    refine S_ 23 rfl rfl rfl _ (y_bin rfl rfl rfl (fun _ => b_eqls)) ?_
    refine S_ 2 rfl rfl rfl _ (y_assign rfl rfl) ?_
    refine S_go (fun _ _ h => h) ?_
    refine T_ret (fun a w hF hM => hRb a w (post1 rfl rfl (fun w hM => ?_) a w hF hM))
    exact ⟨by rw [← hn.2], hM.below⟩
theorem checkValue_any (s : List UInt8) (hs : s.length ≤ 4611686018427387904) (w : World) :
    Calls Tryz.prog 117 #[str s] w fun e w' => e = .returned (.int .i64 (valNo s)) ∧ Below w.heap.size w w' := by
  refine enter_args (args := [str s]) (F := _) Tryz.func117 rfl Tryz.ntmps117 rfl rfl ?_
  intro Rb hRb hRn
  refine T_seq ?_
  refine T_region ?_
  refine S_ 2 rfl rfl rfl _ (y_assign rfl rfl) ?_
  refine S_go (fun _ _ h => h) ?_
  refine T_seq ?_
  refine T_seq ?_
  refine T_region ?_
  refine S_ 4 rfl rfl rfl _ (y_move rfl rfl) ?_
  refine S_ 5 rfl rfl rfl _ (y_len_str rfl rfl Tryz.underlying9) ?_
  refine S_ 6 rfl rfl rfl _ (y_bin rfl rfl rfl (fun _ => b_gtr)) ?_
  refine S_go (fun _ _ h => h) ?_
  refine T_cond rfl (fun h6 => ?_) (fun h6 => ?_)
  · try simp only [decide_eq_true_eq, decide_eq_false_iff_not, Bool.or_eq_true, Bool.or_eq_false_iff, Bool.and_eq_true, Bool.and_eq_false_iff, Bool.not_eq_true', Bool.not_eq_false', Bool.not_eq_true, Bool.not_eq_false, Bool.not_true, Bool.not_false, Int.not_lt, Int.not_le, not_or, not_and, Classical.not_not] at h6
    refine T_seq ?_
    refine T_region ?_
    refine S_ 2 rfl rfl rfl _ (y_assign rfl rfl) ?_
    refine S_go (fun _ _ h => h) ?_
    refine T_ret (fun a w hF hM => hRb a w (post1 rfl rfl (fun w hM => ?_) a w hF hM))
    exact ⟨by rw [valNo, if_pos (by omega)], hM.below⟩
  · try simp only [decide_eq_true_eq, decide_eq_false_iff_not, Bool.or_eq_true, Bool.or_eq_false_iff, Bool.and_eq_true, Bool.and_eq_false_iff, Bool.not_eq_true', Bool.not_eq_false', Bool.not_eq_true, Bool.not_eq_false, Bool.not_true, Bool.not_false, Int.not_lt, Int.not_le, not_or, not_and, Classical.not_not] at h6
    refine T_skip_go (fun _ _ h => h) ?_
    refine T_seq ?_
    refine T_seq ?_
    refine T_region ?_
    refine S_ 7 rfl rfl rfl _ (y_move rfl rfl) ?_
    refine S_ 8 rfl rfl rfl _ (y_len_str rfl rfl Tryz.underlying9) ?_
    refine S_ 9 rfl rfl rfl _ (y_move rfl rfl) ?_
    refine S_go (fun _ _ h => h) ?_
    refine T_block ?_
    refine T_loopK1 (kf := [(2, 3), (9, 22)]) (kl := [(2, 3), (9, 22)]) (fun (i : Nat) => [(9, true, .int .i64 (i : Int))]) (fun (i : Nat) => []) (fun (i : Nat) => i ≤ s.length ∧ s.any valBad = (s.drop i).any valBad) (fun (i : Nat) => s.length - i) 0 (by repeat (first | exact kf_nil | (apply kf_in; focus rfl) | (apply kf_out; focus rfl))) (by repeat (first | exact kl_nil | exact kl_rest (by assumption) rfl | (apply kl_in; focus rfl) | (apply kl_out; focus rfl))) ?_ ?_ ?_ ?_
    · exact ⟨by omega, rfl⟩
    · exact ⟨rfl, trivial⟩
    · exact trivial
    rintro i ⟨hp1, hp2⟩
    refine T_seq ?_
    refine T_region ?_
    refine S_ 10 rfl rfl rfl _ (y_bin rfl rfl rfl (fun _ => b_lss)) ?_
    refine S_go (fun _ _ h => h) ?_
    refine T_seq ?_
    refine T_cond rfl (fun h10 => ?_) (fun h10 => ?_)
    · try simp only [decide_eq_true_eq, decide_eq_false_iff_not, Bool.or_eq_true, Bool.or_eq_false_iff, Bool.and_eq_true, Bool.and_eq_false_iff, Bool.not_eq_true', Bool.not_eq_false', Bool.not_eq_true, Bool.not_eq_false, Bool.not_true, Bool.not_false, Int.not_lt, Int.not_le, not_or, not_and, Classical.not_not] at h10
      refine T_skip_go (fun _ _ h => h) ?_
      refine T_seq ?_
      refine T_block ?_
      refine T_seq ?_
      refine T_region ?_
      refine S_ 11 rfl rfl rfl _ (y_move rfl rfl) ?_
      refine S_ 3 rfl rfl rfl _ (y_assign rfl rfl) ?_
      refine S_go (fun _ _ h => h) ?_
      refine T_seq ?_
      refine T_region ?_
      refine S_ 12 rfl rfl rfl _ (y_move rfl rfl) ?_
      refine S_ 13 rfl rfl rfl _ (y_move rfl rfl) ?_
      refine S_ 14 rfl rfl rfl _ (y_index_str rfl rfl rfl Tryz.underlying9 (fun _ => by omega)) ?_
      refine S_ 15 rfl rfl rfl _ (y_bin rfl rfl rfl (fun _ => b_lss)) ?_
      refine S_ 16 rfl rfl rfl _ (y_move rfl rfl) ?_
      refine Sg_ 17 rfl rfl rfl rfl rfl rfl _ (y_move rfl rfl) ?_
      refine Sg_ 18 rfl rfl rfl rfl rfl rfl _ (y_move rfl rfl) ?_
      refine Sg_ 19 rfl rfl rfl rfl rfl rfl _ (y_index_str rfl rfl rfl Tryz.underlying9 (fun hg => by simp only [Bool.true_and, Bool.and_eq_true, beq_iff_eq, decide_eq_true_eq, decide_eq_false_iff_not, Int.not_lt, Int.not_le] at hg; omega)) ?_
      refine Sg_ 20 rfl rfl rfl rfl rfl rfl _ (y_bin rfl rfl rfl (fun _ => b_gtr)) ?_
      refine S_ 21 rfl rfl rfl _ (y_as (v' := .bool (valBad (s.getD i 0))) (by exact rfl) (y_or rfl rfl rfl)) ?_
      refine S_go (fun _ _ h => h) ?_
      refine T_cond rfl (fun h21 => ?_) (fun h21 => ?_)
      · skip
        refine T_seq ?_
        refine T_region ?_
        refine S_ 2 rfl rfl rfl _ (y_assign rfl rfl) ?_
        refine S_go (fun _ _ h => h) ?_
        refine T_ret (fun a w hF hM => hRb a w (post1 rfl rfl (fun w hM => ?_) a w hF hM))
        exact ⟨by rw [valNo, if_neg (by omega), if_pos (by rw [hp2, drop_str (by omega), any_t h21])], hM.below⟩
      · skip
        refine T_skip_go (fun _ _ h => h) ?_
        refine T_region ?_
        refine S_ 22 rfl rfl rfl _ (y_bin rfl rfl rfl (fun hg => b_add (by omega))) ?_
        refine S_ 9 rfl rfl rfl _ (y_move rfl rfl) ?_
        refine S_nil (nextK1 (kf := [(2, 3), (9, 22)]) (kl := [(2, 3), (9, 22)]) (i + 1) (by repeat (first | exact kf_nil | (apply kf_in; focus rfl) | (apply kf_out; focus rfl))) (by repeat (first | exact kl_nil | exact kl_rest (by assumption) rfl | (apply kl_in; focus rfl) | (apply kl_out; focus rfl))) ?_ ?_ ?_ ?_)
        · omega
        · exact ⟨by omega, by rw [hp2, drop_str (by omega), any_f h21]⟩
        · exact ⟨rfl, trivial⟩
        · exact trivial
    · try simp only [decide_eq_true_eq, decide_eq_false_iff_not, Bool.or_eq_true, Bool.or_eq_false_iff, Bool.and_eq_true, Bool.and_eq_false_iff, Bool.not_eq_true', Bool.not_eq_false', Bool.not_eq_true, Bool.not_eq_false, Bool.not_true, Bool.not_false, Int.not_lt, Int.not_le, not_or, not_and, Classical.not_not] at h10
      refine T_exit_go (fun _ _ h => h) ?_
      refine T_seq ?_
      refine T_region ?_
      refine S_ 2 rfl rfl rfl _ (y_assign rfl rfl) ?_
      refine S_go (fun _ _ h => h) ?_
      refine T_ret (fun a w hF hM => hRb a w (post1 rfl rfl (fun w hM => ?_) a w hF hM))
      exact ⟨by rw [valNo, if_neg (by omega), if_neg (by rw [hp2, List.drop_eq_nil_of_le (by omega)]; simp)], hM.below⟩
theorem checkSay_any (s : List UInt8) (hs : s.length ≤ 4611686018427387904) (w : World) :
    Calls Tryz.prog 196 #[str s] w fun e w' => e = .returned (.int .i64 (sayNo s)) ∧ Below w.heap.size w w' := by
  refine enter_args (args := [str s]) (F := _) Tryz.func196 rfl Tryz.ntmps196 rfl rfl ?_
  intro Rb hRb hRn
  refine T_seq ?_
  refine T_region ?_
  refine S_ 2 rfl rfl rfl _ (y_assign rfl rfl) ?_
  refine S_go (fun _ _ h => h) ?_
  refine T_seq ?_
  refine T_seq ?_
  refine T_region ?_
  refine S_ 4 rfl rfl rfl _ (y_move rfl rfl) ?_
  refine S_ 5 rfl rfl rfl _ (y_len_str rfl rfl Tryz.underlying9) ?_
  refine S_ 6 rfl rfl rfl _ (y_bin rfl rfl rfl (fun _ => b_gtr)) ?_
  refine S_go (fun _ _ h => h) ?_
  refine T_cond rfl (fun h6 => ?_) (fun h6 => ?_)
  · try simp only [decide_eq_true_eq, decide_eq_false_iff_not, Bool.or_eq_true, Bool.or_eq_false_iff, Bool.and_eq_true, Bool.and_eq_false_iff, Bool.not_eq_true', Bool.not_eq_false', Bool.not_eq_true, Bool.not_eq_false, Bool.not_true, Bool.not_false, Int.not_lt, Int.not_le, not_or, not_and, Classical.not_not] at h6
    refine T_seq ?_
    refine T_region ?_
    refine S_ 2 rfl rfl rfl _ (y_assign rfl rfl) ?_
    refine S_go (fun _ _ h => h) ?_
    refine T_ret (fun a w hF hM => hRb a w (post1 rfl rfl (fun w hM => ?_) a w hF hM))
    exact ⟨by rw [sayNo, if_pos (by omega)], hM.below⟩
  · try simp only [decide_eq_true_eq, decide_eq_false_iff_not, Bool.or_eq_true, Bool.or_eq_false_iff, Bool.and_eq_true, Bool.and_eq_false_iff, Bool.not_eq_true', Bool.not_eq_false', Bool.not_eq_true, Bool.not_eq_false, Bool.not_true, Bool.not_false, Int.not_lt, Int.not_le, not_or, not_and, Classical.not_not] at h6
    refine T_skip_go (fun _ _ h => h) ?_
    refine T_seq ?_
    refine T_seq ?_
    refine T_region ?_
    refine S_ 7 rfl rfl rfl _ (y_move rfl rfl) ?_
    refine S_ 8 rfl rfl rfl _ (y_len_str rfl rfl Tryz.underlying9) ?_
    refine S_ 9 rfl rfl rfl _ (y_move rfl rfl) ?_
    refine S_go (fun _ _ h => h) ?_
    refine T_block ?_
    refine T_loopK1 (kf := [(2, 3), (9, 22)]) (kl := [(2, 3), (9, 22)]) (fun (i : Nat) => [(9, true, .int .i64 (i : Int))]) (fun (i : Nat) => []) (fun (i : Nat) => i ≤ s.length ∧ s.any sayBad = (s.drop i).any sayBad) (fun (i : Nat) => s.length - i) 0 (by repeat (first | exact kf_nil | (apply kf_in; focus rfl) | (apply kf_out; focus rfl))) (by repeat (first | exact kl_nil | exact kl_rest (by assumption) rfl | (apply kl_in; focus rfl) | (apply kl_out; focus rfl))) ?_ ?_ ?_ ?_
    · exact ⟨by omega, rfl⟩
    · exact ⟨rfl, trivial⟩
    · exact trivial
    rintro i ⟨hp1, hp2⟩
    refine T_seq ?_
    refine T_region ?_
    refine S_ 10 rfl rfl rfl _ (y_bin rfl rfl rfl (fun _ => b_lss)) ?_
    refine S_go (fun _ _ h => h) ?_
    refine T_seq ?_
    refine T_cond rfl (fun h10 => ?_) (fun h10 => ?_)
    · try simp only [decide_eq_true_eq, decide_eq_false_iff_not, Bool.or_eq_true, Bool.or_eq_false_iff, Bool.and_eq_true, Bool.and_eq_false_iff, Bool.not_eq_true', Bool.not_eq_false', Bool.not_eq_true, Bool.not_eq_false, Bool.not_true, Bool.not_false, Int.not_lt, Int.not_le, not_or, not_and, Classical.not_not] at h10
      refine T_skip_go (fun _ _ h => h) ?_
      refine T_seq ?_
      refine T_block ?_
      refine T_seq ?_
      refine T_region ?_
      refine S_ 11 rfl rfl rfl _ (y_move rfl rfl) ?_
      refine S_ 3 rfl rfl rfl _ (y_assign rfl rfl) ?_
      refine S_go (fun _ _ h => h) ?_
      refine T_seq ?_
      refine T_region ?_
      refine S_ 12 rfl rfl rfl _ (y_move rfl rfl) ?_
      refine S_ 13 rfl rfl rfl _ (y_move rfl rfl) ?_
      refine S_ 14 rfl rfl rfl _ (y_index_str rfl rfl rfl Tryz.underlying9 (fun _ => by omega)) ?_
      refine S_ 15 rfl rfl rfl _ (y_bin rfl rfl rfl (fun _ => b_lss)) ?_
      refine S_ 16 rfl rfl rfl _ (y_move rfl rfl) ?_
      refine Sg_ 17 rfl rfl rfl rfl rfl rfl _ (y_move rfl rfl) ?_
      refine Sg_ 18 rfl rfl rfl rfl rfl rfl _ (y_move rfl rfl) ?_
      refine Sg_ 19 rfl rfl rfl rfl rfl rfl _ (y_index_str rfl rfl rfl Tryz.underlying9 (fun hg => by simp only [Bool.true_and, Bool.and_eq_true, beq_iff_eq, decide_eq_true_eq, decide_eq_false_iff_not, Int.not_lt, Int.not_le] at hg; omega)) ?_
      refine Sg_ 20 rfl rfl rfl rfl rfl rfl _ (y_bin rfl rfl rfl (fun _ => b_eql)) ?_
      refine S_ 21 rfl rfl rfl _ (y_as (v' := .bool (sayBad (s.getD i 0))) (by exact rfl) (y_or rfl rfl rfl)) ?_
      refine S_go (fun _ _ h => h) ?_
      refine T_cond rfl (fun h21 => ?_) (fun h21 => ?_)
      · skip
        refine T_seq ?_
        refine T_region ?_
        refine S_ 2 rfl rfl rfl _ (y_assign rfl rfl) ?_
        refine S_go (fun _ _ h => h) ?_
        refine T_ret (fun a w hF hM => hRb a w (post1 rfl rfl (fun w hM => ?_) a w hF hM))
        exact ⟨by rw [sayNo, if_neg (by omega), if_pos (by rw [hp2, drop_str (by omega), any_t h21])], hM.below⟩
      · skip
        refine T_skip_go (fun _ _ h => h) ?_
        refine T_region ?_
        refine S_ 22 rfl rfl rfl _ (y_bin rfl rfl rfl (fun hg => b_add (by omega))) ?_
        refine S_ 9 rfl rfl rfl _ (y_move rfl rfl) ?_
        refine S_nil (nextK1 (kf := [(2, 3), (9, 22)]) (kl := [(2, 3), (9, 22)]) (i + 1) (by repeat (first | exact kf_nil | (apply kf_in; focus rfl) | (apply kf_out; focus rfl))) (by repeat (first | exact kl_nil | exact kl_rest (by assumption) rfl | (apply kl_in; focus rfl) | (apply kl_out; focus rfl))) ?_ ?_ ?_ ?_)
        · omega
        · exact ⟨by omega, by rw [hp2, drop_str (by omega), any_f h21]⟩
        · exact ⟨rfl, trivial⟩
        · exact trivial
    · try simp only [decide_eq_true_eq, decide_eq_false_iff_not, Bool.or_eq_true, Bool.or_eq_false_iff, Bool.and_eq_true, Bool.and_eq_false_iff, Bool.not_eq_true', Bool.not_eq_false', Bool.not_eq_true, Bool.not_eq_false, Bool.not_true, Bool.not_false, Int.not_lt, Int.not_le, not_or, not_and, Classical.not_not] at h10
      refine T_exit_go (fun _ _ h => h) ?_
      refine T_seq ?_
      refine T_region ?_
      refine S_ 2 rfl rfl rfl _ (y_assign rfl rfl) ?_
      refine S_go (fun _ _ h => h) ?_
      refine T_ret (fun a w hF hM => hRb a w (post1 rfl rfl (fun w hM => ?_) a w hF hM))
      exact ⟨by rw [sayNo, if_neg (by omega), if_neg (by rw [hp2, List.drop_eq_nil_of_le (by omega)]; simp)], hM.below⟩
theorem CheckFault_any (f : Flt) (w : World) (hf : FltOk w f) :
    Calls Tryz.prog 195 #[f.val] w fun e w' => e = .returned (.int .i64 (fltNo f)) ∧ Below w.heap.size w w' := by
  have hk := hf.k
  have htl := hf.t
  refine enter_args (args := [.agg #[str f.k, str f.t, .slice f.fr.A f.fr.q f.fr.c]]) (F := _) Tryz.func195 rfl Tryz.ntmps195 rfl rfl ?_
  intro Rb hRb hRn
  refine T_seq ?_
  refine T_region ?_
  refine S_box 1 1 rfl rfl rfl rfl rfl ?_
  intro b1
  refine S_ 2 rfl rfl rfl _ (y_assign rfl rfl) ?_
  refine S_go (fun _ _ h => h) ?_
  refine T_seq ?_
  refine T_block ?_
  refine T_seq ?_
  refine T_region ?_
  refine S_ 5 rfl rfl rfl _ (y_fieldAddr rfl rfl fa50_0) ?_
  refine S_ 6 rfl rfl rfl _ (y_load 1 rfl rfl rfl rfl Tryz.underlying9 rfl) ?_
  refine S_ 7 rfl rfl rfl _ (y_len_str rfl rfl Tryz.underlying9) ?_
  refine S_ 8 rfl rfl rfl _ (y_bin rfl rfl rfl (fun _ => b_gtr)) ?_
  refine S_ 4 rfl rfl rfl _ (y_assign rfl rfl) ?_
  refine S_go (fun _ _ h => h) ?_
  refine T_cond rfl (fun h4 => ?_) (fun h4 => ?_)
  · try simp only [decide_eq_true_eq, decide_eq_false_iff_not, Bool.or_eq_true, Bool.or_eq_false_iff, Bool.and_eq_true, Bool.and_eq_false_iff, Bool.not_eq_true', Bool.not_eq_false', Bool.not_eq_true, Bool.not_eq_false, Bool.not_true, Bool.not_false, Int.not_lt, Int.not_le, not_or, not_and, Classical.not_not] at h4
    refine T_seq ?_
    refine T_region ?_
    refine S_ 2 rfl rfl rfl _ (y_assign rfl rfl) ?_
    refine S_go (fun _ _ h => h) ?_
    refine T_ret (fun a w hF hM => hRb a w (post1 rfl rfl (fun w hM => ?_) a w hF hM))
    exact ⟨by rw [fltNo, if_pos (by omega)], hM.below⟩
  · try simp only [decide_eq_true_eq, decide_eq_false_iff_not, Bool.or_eq_true, Bool.or_eq_false_iff, Bool.and_eq_true, Bool.and_eq_false_iff, Bool.not_eq_true', Bool.not_eq_false', Bool.not_eq_true, Bool.not_eq_false, Bool.not_true, Bool.not_false, Int.not_lt, Int.not_le, not_or, not_and, Classical.not_not] at h4
    refine T_seq ?_
    refine T_region ?_
    refine S_ 10 rfl rfl rfl _ (y_fieldAddr rfl rfl fa50_0) ?_
    refine S_ 11 rfl rfl rfl _ (y_load 1 rfl rfl rfl rfl Tryz.underlying9 rfl) ?_
    refine S_ 12 rfl rfl rfl _ (y_call rfl rfl rfl cf236 (fun hg w _ => isWord_any _ _ (by first | omega | (have := hsz; omega)) w)) ?_
    refine S_ 13 rfl rfl rfl _ (y_not rfl rfl) ?_
    refine S_ 9 rfl rfl rfl _ (y_assign rfl rfl) ?_
    refine S_go (fun _ _ h => h) ?_
    refine T_cond rfl (fun h9 => ?_) (fun h9 => ?_)
    · try simp only [decide_eq_true_eq, decide_eq_false_iff_not, Bool.or_eq_true, Bool.or_eq_false_iff, Bool.and_eq_true, Bool.and_eq_false_iff, Bool.not_eq_true', Bool.not_eq_false', Bool.not_eq_true, Bool.not_eq_false, Bool.not_true, Bool.not_false, Int.not_lt, Int.not_le, not_or, not_and, Classical.not_not] at h9
      refine T_seq ?_
      refine T_region ?_
      refine S_ 2 rfl rfl rfl _ (y_assign rfl rfl) ?_
      refine S_go (fun _ _ h => h) ?_
      refine T_ret (fun a w hF hM => hRb a w (post1 rfl rfl (fun w hM => ?_) a w hF hM))
      exact ⟨by rw [fltNo, if_neg (by omega), if_pos h9], hM.below⟩
    · try simp only [decide_eq_true_eq, decide_eq_false_iff_not, Bool.or_eq_true, Bool.or_eq_false_iff, Bool.and_eq_true, Bool.and_eq_false_iff, Bool.not_eq_true', Bool.not_eq_false', Bool.not_eq_true, Bool.not_eq_false, Bool.not_true, Bool.not_false, Int.not_lt, Int.not_le, not_or, not_and, Classical.not_not] at h9
      refine T_seq ?_
      refine T_region ?_
      refine S_ 15 rfl rfl rfl _ (y_fieldAddr rfl rfl fa50_0) ?_
      refine S_ 16 rfl rfl rfl _ (y_load 1 rfl rfl rfl rfl Tryz.underlying9 rfl) ?_
      refine S_ 17 rfl rfl rfl _ (y_bin rfl rfl rfl (fun _ => b_eqls)) ?_
      refine S_ 14 rfl rfl rfl _ (y_assign rfl rfl) ?_
      refine S_go (fun _ _ h => h) ?_
      refine T_cond rfl (fun h14 => ?_) (fun h14 => ?_)
      · try simp only [decide_eq_true_eq, decide_eq_false_iff_not, Bool.or_eq_true, Bool.or_eq_false_iff, Bool.and_eq_true, Bool.and_eq_false_iff, Bool.not_eq_true', Bool.not_eq_false', Bool.not_eq_true, Bool.not_eq_false, Bool.not_true, Bool.not_false, Int.not_lt, Int.not_le, not_or, not_and, Classical.not_not] at h14
        refine T_seq ?_
        refine T_region ?_
        refine S_ 2 rfl rfl rfl _ (y_assign rfl rfl) ?_
        refine S_go (fun _ _ h => h) ?_
        refine T_ret (fun a w hF hM => hRb a w (post1 rfl rfl (fun w hM => ?_) a w hF hM))
        exact ⟨by rw [fltNo, if_neg (by omega), if_neg (by rw [h9]; simp), if_pos h14], hM.below⟩
      · try simp only [decide_eq_true_eq, decide_eq_false_iff_not, Bool.or_eq_true, Bool.or_eq_false_iff, Bool.and_eq_true, Bool.and_eq_false_iff, Bool.not_eq_true', Bool.not_eq_false', Bool.not_eq_true, Bool.not_eq_false, Bool.not_true, Bool.not_false, Int.not_lt, Int.not_le, not_or, not_and, Classical.not_not] at h14
        refine T_seq ?_
        refine T_region ?_
        refine S_ 19 rfl rfl rfl _ (y_fieldAddr rfl rfl fa50_1) ?_
        refine S_ 20 rfl rfl rfl _ (y_load 1 rfl rfl rfl rfl Tryz.underlying9 rfl) ?_
        refine S_ 21 rfl rfl rfl _ (y_len_str rfl rfl Tryz.underlying9) ?_
        refine S_ 22 rfl rfl rfl _ (y_bin rfl rfl rfl (fun _ => b_gtr)) ?_
        refine S_ 18 rfl rfl rfl _ (y_assign rfl rfl) ?_
        refine S_go (fun _ _ h => h) ?_
        refine T_cond rfl (fun h18 => ?_) (fun h18 => ?_)
        · try simp only [decide_eq_true_eq, decide_eq_false_iff_not, Bool.or_eq_true, Bool.or_eq_false_iff, Bool.and_eq_true, Bool.and_eq_false_iff, Bool.not_eq_true', Bool.not_eq_false', Bool.not_eq_true, Bool.not_eq_false, Bool.not_true, Bool.not_false, Int.not_lt, Int.not_le, not_or, not_and, Classical.not_not] at h18
          refine T_seq ?_
          refine T_region ?_
          refine S_ 2 rfl rfl rfl _ (y_assign rfl rfl) ?_
          refine S_go (fun _ _ h => h) ?_
          refine T_ret (fun a w hF hM => hRb a w (post1 rfl rfl (fun w hM => ?_) a w hF hM))
          exact ⟨by rw [fltNo_say (by omega) h9 h14 (k := 4) (by rw [sayNo, if_pos (by omega)]) (by decide)], hM.below⟩
        · try simp only [decide_eq_true_eq, decide_eq_false_iff_not, Bool.or_eq_true, Bool.or_eq_false_iff, Bool.and_eq_true, Bool.and_eq_false_iff, Bool.not_eq_true', Bool.not_eq_false', Bool.not_eq_true, Bool.not_eq_false, Bool.not_true, Bool.not_false, Int.not_lt, Int.not_le, not_or, not_and, Classical.not_not] at h18
          refine T_skip_go (fun _ _ h => h) ?_
          refine T_seq ?_
          refine T_seq ?_
          refine T_region ?_
          refine S_ 23 rfl rfl rfl _ (y_fieldAddr rfl rfl fa50_1) ?_
          refine S_ 24 rfl rfl rfl _ (y_load 1 rfl rfl rfl rfl Tryz.underlying9 rfl) ?_
          refine S_ 25 rfl rfl rfl _ (y_len_str rfl rfl Tryz.underlying9) ?_
          refine S_ 26 rfl rfl rfl _ (y_move rfl rfl) ?_
          refine S_go (fun _ _ h => h) ?_
          refine T_block ?_
          refine T_loopK1 (kf := [(2, 3), (26, 41)]) (kl := [(2, 3), (26, 41)]) (fun (i : Nat) => [(26, true, .int .i64 (i : Int))]) (fun (i : Nat) => []) (fun (i : Nat) => i ≤ f.t.length ∧ f.t.any sayBad = (f.t.drop i).any sayBad) (fun (i : Nat) => f.t.length - i) 0 (by repeat (first | exact kf_nil | (apply kf_in; focus rfl) | (apply kf_out; focus rfl))) (by repeat (first | exact kl_nil | exact kl_rest (by assumption) rfl | (apply kl_in; focus rfl) | (apply kl_out; focus rfl))) ?_ ?_ ?_ ?_
          · exact ⟨by omega, rfl⟩
          · exact ⟨rfl, trivial⟩
          · exact trivial
          rintro i ⟨hp1, hp2⟩
          refine T_seq ?_
          refine T_region ?_
          refine S_ 27 rfl rfl rfl _ (y_bin rfl rfl rfl (fun _ => b_lss)) ?_
          refine S_go (fun _ _ h => h) ?_
          refine T_seq ?_
          refine T_cond rfl (fun h27 => ?_) (fun h27 => ?_)
          · try simp only [decide_eq_true_eq, decide_eq_false_iff_not, Bool.or_eq_true, Bool.or_eq_false_iff, Bool.and_eq_true, Bool.and_eq_false_iff, Bool.not_eq_true', Bool.not_eq_false', Bool.not_eq_true, Bool.not_eq_false, Bool.not_true, Bool.not_false, Int.not_lt, Int.not_le, not_or, not_and, Classical.not_not] at h27
            refine T_skip_go (fun _ _ h => h) ?_
            refine T_seq ?_
            refine T_block ?_
            refine T_seq ?_
            refine T_region ?_
            refine S_ 28 rfl rfl rfl _ (y_move rfl rfl) ?_
            refine S_ 3 rfl rfl rfl _ (y_assign rfl rfl) ?_
            refine S_go (fun _ _ h => h) ?_
            refine T_seq ?_
            refine T_region ?_
            refine S_ 29 rfl rfl rfl _ (y_fieldAddr rfl rfl fa50_1) ?_
            refine S_ 30 rfl rfl rfl _ (y_load 1 rfl rfl rfl rfl Tryz.underlying9 rfl) ?_
            refine S_ 31 rfl rfl rfl _ (y_move rfl rfl) ?_
            refine S_ 32 rfl rfl rfl _ (y_index_str rfl rfl rfl Tryz.underlying9 (fun _ => by omega)) ?_
            refine S_ 33 rfl rfl rfl _ (y_bin rfl rfl rfl (fun _ => b_lss)) ?_
            refine S_ 34 rfl rfl rfl _ (y_move rfl rfl) ?_
            refine Sg_ 35 rfl rfl rfl rfl rfl rfl _ (y_fieldAddr rfl rfl fa50_1) ?_
            refine Sg_ 36 rfl rfl rfl rfl rfl rfl _ (y_load 1 rfl rfl rfl rfl Tryz.underlying9 rfl) ?_
            refine Sg_ 37 rfl rfl rfl rfl rfl rfl _ (y_move rfl rfl) ?_
            refine Sg_ 38 rfl rfl rfl rfl rfl rfl _ (y_index_str rfl rfl rfl Tryz.underlying9 (fun hg => by simp only [Bool.true_and, Bool.and_eq_true, beq_iff_eq, decide_eq_true_eq, decide_eq_false_iff_not, Int.not_lt, Int.not_le] at hg; omega)) ?_
            refine Sg_ 39 rfl rfl rfl rfl rfl rfl _ (y_bin rfl rfl rfl (fun _ => b_eql)) ?_
            refine S_ 40 rfl rfl rfl _ (y_as (v' := .bool (sayBad (f.t.getD i 0))) (by exact rfl) (y_or rfl rfl rfl)) ?_
            refine S_go (fun _ _ h => h) ?_
            refine T_cond rfl (fun h40 => ?_) (fun h40 => ?_)
            · skip
              refine T_seq ?_
              refine T_region ?_
              refine S_ 2 rfl rfl rfl _ (y_assign rfl rfl) ?_
              refine S_go (fun _ _ h => h) ?_
              refine T_ret (fun a w hF hM => hRb a w (post1 rfl rfl (fun w hM => ?_) a w hF hM))
              exact ⟨by rw [fltNo_say (by omega) h9 h14 (k := 9) (by rw [sayNo, if_neg (by omega), if_pos (by rw [hp2, drop_str (by omega), any_t h40])]) (by decide)], hM.below⟩
            · skip
              refine T_skip_go (fun _ _ h => h) ?_
              refine T_region ?_
              refine S_ 41 rfl rfl rfl _ (y_bin rfl rfl rfl (fun hg => b_add (by omega))) ?_
              refine S_ 26 rfl rfl rfl _ (y_move rfl rfl) ?_
              refine S_nil (nextK1 (kf := [(2, 3), (26, 41)]) (kl := [(2, 3), (26, 41)]) (i + 1) (by repeat (first | exact kf_nil | (apply kf_in; focus rfl) | (apply kf_out; focus rfl))) (by repeat (first | exact kl_nil | exact kl_rest (by assumption) rfl | (apply kl_in; focus rfl) | (apply kl_out; focus rfl))) ?_ ?_ ?_ ?_)
              · omega
              · exact ⟨by omega, by rw [hp2, drop_str (by omega), any_f h40]⟩
              · exact ⟨rfl, trivial⟩
              · exact trivial
          · try simp only [decide_eq_true_eq, decide_eq_false_iff_not, Bool.or_eq_true, Bool.or_eq_false_iff, Bool.and_eq_true, Bool.and_eq_false_iff, Bool.not_eq_true', Bool.not_eq_false', Bool.not_eq_true, Bool.not_eq_false, Bool.not_true, Bool.not_false, Int.not_lt, Int.not_le, not_or, not_and, Classical.not_not] at h27
            refine T_exit_go (fun _ _ h => h) ?_
            refine T_seq ?_
            refine T_region ?_
            refine S_ 42 rfl rfl rfl _ (y_fieldAddr rfl rfl fa50_2) ?_
            refine S_ 43 rfl rfl rfl _ (y_load 1 rfl rfl rfl rfl Tryz.underlying48 rfl) ?_
            refine S_ 44 rfl rfl rfl _ (y_call rfl rfl rfl cf237 (fun _ w hM => checkFrames_any _ w (hf.fr.below hM.below))) ?_
            refine S_ 2 rfl rfl rfl _ (y_assign rfl rfl) ?_
            refine S_go (fun _ _ h => h) ?_
            refine T_ret (fun a w hF hM => hRb a w (post1 rfl rfl (fun w hM => ?_) a w hF hM))
            exact ⟨by rw [fltNo_frs (by omega) h9 h14 (by rw [sayNo, if_neg (by omega), if_neg (by rw [hp2, List.drop_eq_nil_of_le (by omega)]; simp)])], hM.below⟩
theorem sCheck_any (l : Sl Flt) (w : World) (hl : FltsOk w l) :
    Calls Tryz.prog 114 #[.slice l.A l.q l.c] w fun e w' => e = .returned (.int .i64 (faultsNo l)) ∧ Below w.heap.size w w' := by
  have ht := hl.ok.t
  have hq := hl.q
  refine enter_args (args := [.slice l.A l.q l.c]) (F := _) Tryz.func114 rfl Tryz.ntmps114 rfl rfl ?_
  intro Rb hRb hRn
  refine T_seq ?_
  refine T_region ?_
  refine S_ 2 rfl rfl rfl _ (y_assign rfl rfl) ?_
  refine S_go (fun _ _ h => h) ?_
  refine T_seq ?_
  refine T_block ?_
  refine T_seq ?_
  refine T_region ?_
  refine S_ 7 rfl rfl rfl _ (y_move rfl rfl) ?_
  refine S_ 8 rfl rfl rfl _ (y_len_slice rfl rfl Tryz.underlying25) ?_
  refine S_ 9 rfl rfl rfl _ (y_bin rfl rfl rfl (fun _ => b_eql)) ?_
  refine S_ 6 rfl rfl rfl _ (y_assign rfl rfl) ?_
  refine S_go (fun _ _ h => h) ?_
  refine T_cond rfl (fun h6 => ?_) (fun h6 => ?_)
  · try simp only [decide_eq_true_eq, decide_eq_false_iff_not, Bool.or_eq_true, Bool.or_eq_false_iff, Bool.and_eq_true, Bool.and_eq_false_iff, Bool.not_eq_true', Bool.not_eq_false', Bool.not_eq_true, Bool.not_eq_false, Bool.not_true, Bool.not_false, Int.not_lt, Int.not_le, not_or, not_and, Classical.not_not] at h6
    refine T_seq ?_
    refine T_region ?_
    refine S_ 2 rfl rfl rfl _ (y_assign rfl rfl) ?_
    refine S_go (fun _ _ h => h) ?_
    refine T_ret (fun a w hF hM => hRb a w (post1 rfl rfl (fun w hM => ?_) a w hF hM))
    exact ⟨by rw [faultsNo, if_pos (by omega)], hM.below⟩
  · try simp only [decide_eq_true_eq, decide_eq_false_iff_not, Bool.or_eq_true, Bool.or_eq_false_iff, Bool.and_eq_true, Bool.and_eq_false_iff, Bool.not_eq_true', Bool.not_eq_false', Bool.not_eq_true, Bool.not_eq_false, Bool.not_true, Bool.not_false, Int.not_lt, Int.not_le, not_or, not_and, Classical.not_not] at h6
    refine T_seq ?_
    refine T_region ?_
    refine S_ 11 rfl rfl rfl _ (y_move rfl rfl) ?_
    refine S_ 12 rfl rfl rfl _ (y_len_slice rfl rfl Tryz.underlying25) ?_
    refine S_ 13 rfl rfl rfl _ (y_bin rfl rfl rfl (fun _ => b_gtr)) ?_
    refine S_ 10 rfl rfl rfl _ (y_assign rfl rfl) ?_
    refine S_go (fun _ _ h => h) ?_
    refine T_cond rfl (fun h10 => ?_) (fun h10 => ?_)
    · try simp only [decide_eq_true_eq, decide_eq_false_iff_not, Bool.or_eq_true, Bool.or_eq_false_iff, Bool.and_eq_true, Bool.and_eq_false_iff, Bool.not_eq_true', Bool.not_eq_false', Bool.not_eq_true, Bool.not_eq_false, Bool.not_true, Bool.not_false, Int.not_lt, Int.not_le, not_or, not_and, Classical.not_not] at h10
      refine T_seq ?_
      refine T_region ?_
      refine S_ 2 rfl rfl rfl _ (y_assign rfl rfl) ?_
      refine S_go (fun _ _ h => h) ?_
      refine T_ret (fun a w hF hM => hRb a w (post1 rfl rfl (fun w hM => ?_) a w hF hM))
      exact ⟨by rw [faultsNo, if_neg (by omega), if_pos (by omega)], hM.below⟩
    · try simp only [decide_eq_true_eq, decide_eq_false_iff_not, Bool.or_eq_true, Bool.or_eq_false_iff, Bool.and_eq_true, Bool.and_eq_false_iff, Bool.not_eq_true', Bool.not_eq_false', Bool.not_eq_true, Bool.not_eq_false, Bool.not_true, Bool.not_false, Int.not_lt, Int.not_le, not_or, not_and, Classical.not_not] at h10
      refine T_skip_go (fun _ _ h => h) ?_
      refine T_seq ?_
      refine T_seq ?_
      refine T_region ?_
      refine S_ 14 rfl rfl rfl _ (y_move rfl rfl) ?_
      refine S_ 15 rfl rfl rfl _ (y_len_slice rfl rfl Tryz.underlying25) ?_
      refine S_ 16 rfl rfl rfl _ (y_move rfl rfl) ?_
      refine S_go (fun _ _ h => h) ?_
      refine T_block ?_
      refine T_loopK1 (kf := [(2, 2), (4, 5), (16, 25)]) (kl := [(2, 2), (4, 5), (16, 25)]) (fun (i : Nat) => [(16, true, .int .i64 (i : Int))]) (fun (i : Nat) => []) (fun (i : Nat) => i ≤ l.q ∧ fltsNo l.l = fltsNo (l.l.drop i)) (fun (i : Nat) => l.q - i) 0 (by repeat (first | exact kf_nil | (apply kf_in; focus rfl) | (apply kf_out; focus rfl))) (by repeat (first | exact kl_nil | exact kl_rest (by assumption) rfl | (apply kl_in; focus rfl) | (apply kl_out; focus rfl))) ?_ ?_ ?_ ?_
      · exact ⟨by omega, rfl⟩
      · exact ⟨rfl, trivial⟩
      · exact trivial
      rintro i ⟨hp1, hp2⟩
      refine T_seq ?_
      refine T_region ?_
      refine S_ 17 rfl rfl rfl _ (y_bin rfl rfl rfl (fun _ => b_lss)) ?_
      refine S_go (fun _ _ h => h) ?_
      refine T_seq ?_
      refine T_cond rfl (fun h17 => ?_) (fun h17 => ?_)
      · try simp only [decide_eq_true_eq, decide_eq_false_iff_not, Bool.or_eq_true, Bool.or_eq_false_iff, Bool.and_eq_true, Bool.and_eq_false_iff, Bool.not_eq_true', Bool.not_eq_false', Bool.not_eq_true, Bool.not_eq_false, Bool.not_true, Bool.not_false, Int.not_lt, Int.not_le, not_or, not_and, Classical.not_not] at h17
        obtain ⟨x, hx1, hx2⟩ := ht.at (i := i) (by omega)
        refine T_skip_go (fun _ _ h => h) ?_
        refine T_seq ?_
        refine T_block ?_
        refine T_seq ?_
        refine T_region ?_
        refine S_ 18 rfl rfl rfl _ (y_indexAddr rfl rfl rfl Tryz.underlying25 sz50 (fun hg => ht.isSome (by omega)) (fun _ => by omega)) ?_
        refine S_ 19 rfl rfl rfl _ (y_loadT rfl rfl ht (fun _ => rfl) (fun _ => hx1) Tryz.underlying50 rfl sz50) ?_
        refine S_alloc 4 4 rfl rfl rfl rfl z50 ?_
        intro b4
        refine S_store 4 rfl rfl rfl rfl rfl rfl sz50 rfl rfl ?_
        refine S_go (fun _ _ h => h) ?_
        refine T_seq ?_
        refine T_region ?_
        refine S_ 20 rfl rfl rfl _ (y_loadA 4 rfl rfl rfl Tryz.underlying50 rfl sz50) ?_
        refine S_ 21 rfl rfl rfl _ (y_call rfl rfl rfl cf195 (fun _ w hM => CheckFault_any x w ((hl.n x (mem_at hx1)).below hM.below))) ?_
        refine S_ 5 rfl rfl rfl _ (y_assign rfl rfl) ?_
        refine S_go (fun _ _ h => h) ?_
        refine T_seq ?_
        refine T_region ?_
        refine S_ 22 rfl rfl rfl _ (y_move rfl rfl) ?_
        refine S_ 23 rfl rfl rfl _ (y_bin rfl rfl rfl (fun _ => b_neq)) ?_
        refine S_go (fun _ _ h => h) ?_
        refine T_cond rfl (fun h23 => ?_) (fun h23 => ?_)
        · try simp only [decide_eq_true_eq, decide_eq_false_iff_not, Bool.or_eq_true, Bool.or_eq_false_iff, Bool.and_eq_true, Bool.and_eq_false_iff, Bool.not_eq_true', Bool.not_eq_false', Bool.not_eq_true, Bool.not_eq_false, Bool.not_true, Bool.not_false, Int.not_lt, Int.not_le, not_or, not_and, Classical.not_not] at h23
          refine T_seq ?_
          refine T_region ?_
          refine S_ 24 rfl rfl rfl _ (y_move rfl rfl) ?_
          refine S_ 2 rfl rfl rfl _ (y_assign rfl rfl) ?_
          refine S_go (fun _ _ h => h) ?_
          refine T_ret (fun a w hF hM => hRb a w (post1 rfl rfl (fun w hM => ?_) a w hF hM))
          exact ⟨by rw [faultsNo, if_neg (by omega), if_neg (by omega), hp2, hx2, fltsNo, if_pos h23], hM.below⟩
        · try simp only [decide_eq_true_eq, decide_eq_false_iff_not, Bool.or_eq_true, Bool.or_eq_false_iff, Bool.and_eq_true, Bool.and_eq_false_iff, Bool.not_eq_true', Bool.not_eq_false', Bool.not_eq_true, Bool.not_eq_false, Bool.not_true, Bool.not_false, Int.not_lt, Int.not_le, not_or, not_and, Classical.not_not] at h23
          refine T_skip_go (fun _ _ h => h) ?_
          refine T_region ?_
          refine S_ 25 rfl rfl rfl _ (y_bin rfl rfl rfl (fun hg => b_add (by omega))) ?_
          refine S_ 16 rfl rfl rfl _ (y_move rfl rfl) ?_
          refine S_nil (nextK1 (kf := [(2, 2), (4, 5), (16, 25)]) (kl := [(2, 2), (4, 5), (16, 25)]) (i + 1) (by repeat (first | exact kf_nil | (apply kf_in; focus rfl) | (apply kf_out; focus rfl))) (by repeat (first | exact kl_nil | exact kl_rest (by assumption) rfl | (apply kl_in; focus rfl) | (apply kl_out; focus rfl))) ?_ ?_ ?_ ?_)
          · omega
          · exact ⟨by omega, by rw [hp2, hx2, fltsNo, if_neg (by simpa using h23)]⟩
          · exact ⟨rfl, trivial⟩
          · exact trivial
      · try simp only [decide_eq_true_eq, decide_eq_false_iff_not, Bool.or_eq_true, Bool.or_eq_false_iff, Bool.and_eq_true, Bool.and_eq_false_iff, Bool.not_eq_true', Bool.not_eq_false', Bool.not_eq_true, Bool.not_eq_false, Bool.not_true, Bool.not_false, Int.not_lt, Int.not_le, not_or, not_and, Classical.not_not] at h17
        refine T_exit_go (fun _ _ h => h) ?_
        refine T_seq ?_
        refine T_region ?_
        refine S_ 2 rfl rfl rfl _ (y_assign rfl rfl) ?_
        refine S_go (fun _ _ h => h) ?_
        refine T_ret (fun a w hF hM => hRb a w (post1 rfl rfl (fun w hM => ?_) a w hF hM))
        exact ⟨by rw [faultsNo, if_neg (by omega), if_neg (by omega), hp2, ht.end (by omega)]; rfl, hM.below⟩
theorem checkTags_any (l : Sl STag) (w : World) (hl : TagsOk w l) :
    Calls Tryz.prog 115 #[.slice l.A l.q l.c] w fun e w' => e = .returned (.int .i64 (if (40 : Int) < l.q then 4 else tagsNo none l.l)) ∧ Below w.heap.size w w' := by
  have ht := hl.ok.t
  have hq := hl.q
  refine enter_args (args := [.slice l.A l.q l.c]) (F := _) Tryz.func115 rfl Tryz.ntmps115 rfl rfl ?_
  intro Rb hRb hRn
  refine T_seq ?_
  refine T_region ?_
  refine S_ 2 rfl rfl rfl _ (y_assign rfl rfl) ?_
  refine S_go (fun _ _ h => h) ?_
  refine T_seq ?_
  refine T_seq ?_
  refine T_region ?_
  refine S_ 6 rfl rfl rfl _ (y_move rfl rfl) ?_
  refine S_ 7 rfl rfl rfl _ (y_len_slice rfl rfl Tryz.underlying26) ?_
  refine S_ 8 rfl rfl rfl _ (y_bin rfl rfl rfl (fun _ => b_gtr)) ?_
  refine S_go (fun _ _ h => h) ?_
  refine T_cond rfl (fun h8 => ?_) (fun h8 => ?_)
  · try simp only [decide_eq_true_eq, decide_eq_false_iff_not, Bool.or_eq_true, Bool.or_eq_false_iff, Bool.and_eq_true, Bool.and_eq_false_iff, Bool.not_eq_true', Bool.not_eq_false', Bool.not_eq_true, Bool.not_eq_false, Bool.not_true, Bool.not_false, Int.not_lt, Int.not_le, not_or, not_and, Classical.not_not] at h8
    refine T_seq ?_
    refine T_region ?_
    refine S_ 2 rfl rfl rfl _ (y_assign rfl rfl) ?_
    refine S_go (fun _ _ h => h) ?_
    refine T_ret (fun a w hF hM => hRb a w (post1 rfl rfl (fun w hM => ?_) a w hF hM))
    exact ⟨by rw [if_pos (by omega)], hM.below⟩
  · try simp only [decide_eq_true_eq, decide_eq_false_iff_not, Bool.or_eq_true, Bool.or_eq_false_iff, Bool.and_eq_true, Bool.and_eq_false_iff, Bool.not_eq_true', Bool.not_eq_false', Bool.not_eq_true, Bool.not_eq_false, Bool.not_true, Bool.not_false, Int.not_lt, Int.not_le, not_or, not_and, Classical.not_not] at h8
    refine T_skip_go (fun _ _ h => h) ?_
    refine T_seq ?_
    refine T_seq ?_
    refine T_region ?_
    refine S_ 9 rfl rfl rfl _ (y_move rfl rfl) ?_
    refine S_ 10 rfl rfl rfl _ (y_len_slice rfl rfl Tryz.underlying26) ?_
    refine S_ 11 rfl rfl rfl _ (y_move rfl rfl) ?_
    refine S_go (fun _ _ h => h) ?_
    refine T_block ?_
    refine T_loopK2 (kf := [(2, 5), (11, 39)]) (kl := [(2, 5), (11, 39)]) (fun (i : Nat) (b : STag) => [(11, true, .int .i64 (i : Int))]) (fun (i : Nat) (b : STag) => []) (fun (i : Nat) (b : STag) => i ≤ l.q ∧ tagsNo none l.l = tagsNo (prevN i b) (l.l.drop i) ∧ (0 < i → l.l[i - 1]? = some b)) (fun (i : Nat) (b : STag) => l.q - i) 0 ⟨[], []⟩ (by repeat (first | exact kf_nil | (apply kf_in; focus rfl) | (apply kf_out; focus rfl))) (by repeat (first | exact kl_nil | exact kl_rest (by assumption) rfl | (apply kl_in; focus rfl) | (apply kl_out; focus rfl))) ?_ ?_ ?_ ?_
    · exact ⟨by omega, rfl, by omega⟩
    · exact ⟨rfl, trivial⟩
    · exact trivial
    rintro i b ⟨hp1, hp2, hp3⟩
    refine T_seq ?_
    refine T_region ?_
    refine S_ 12 rfl rfl rfl _ (y_bin rfl rfl rfl (fun _ => b_lss)) ?_
    refine S_go (fun _ _ h => h) ?_
    refine T_seq ?_
    refine T_cond rfl (fun h12 => ?_) (fun h12 => ?_)
    · try simp only [decide_eq_true_eq, decide_eq_false_iff_not, Bool.or_eq_true, Bool.or_eq_false_iff, Bool.and_eq_true, Bool.and_eq_false_iff, Bool.not_eq_true', Bool.not_eq_false', Bool.not_eq_true, Bool.not_eq_false, Bool.not_true, Bool.not_false, Int.not_lt, Int.not_le, not_or, not_and, Classical.not_not] at h12
      obtain ⟨x, hx1, hx2⟩ := ht.at (i := i) (by omega)
      have hn := hl.n x (mem_at hx1)
      have hn2 := hn.2
      refine T_skip_go (fun _ _ h => h) ?_
      refine T_seq ?_
      refine T_block ?_
      refine T_seq ?_
      refine T_region ?_
      refine S_ 13 rfl rfl rfl _ (y_move rfl rfl) ?_
      refine S_ 14 rfl rfl rfl _ (y_indexAddr rfl rfl rfl Tryz.underlying26 sz104 (fun hg => ht.isSome (by omega)) (fun _ => by omega)) ?_
      refine S_ 15 rfl rfl rfl _ (y_loadT rfl rfl ht (fun _ => rfl) (fun _ => hx1) Tryz.underlying104 rfl sz104) ?_
      refine S_alloc 4 4 rfl rfl rfl rfl z104 ?_
      intro b4
      refine S_ 3 rfl rfl rfl _ (y_assign rfl rfl) ?_
      refine S_store 4 rfl rfl rfl rfl rfl rfl sz104 rfl rfl ?_
      refine S_go (fun _ _ h => h) ?_
      refine T_seq ?_
      refine T_seq ?_
      refine T_region ?_
      refine S_ 16 rfl rfl rfl _ (y_fieldAddr rfl rfl fa104_0) ?_
      refine S_ 17 rfl rfl rfl _ (y_load 4 rfl rfl rfl rfl Tryz.underlying9 rfl) ?_
      refine S_ 18 rfl rfl rfl _ (y_call rfl rfl rfl cf100 (fun _ w _ => IsName_any _ w)) ?_
      refine S_ 19 rfl rfl rfl _ (y_not rfl rfl) ?_
      refine S_go (fun _ _ h => h) ?_
      refine T_cond rfl (fun h19 => ?_) (fun h19 => ?_)
      · try simp only [decide_eq_true_eq, decide_eq_false_iff_not, Bool.or_eq_true, Bool.or_eq_false_iff, Bool.and_eq_true, Bool.and_eq_false_iff, Bool.not_eq_true', Bool.not_eq_false', Bool.not_eq_true, Bool.not_eq_false, Bool.not_true, Bool.not_false, Int.not_lt, Int.not_le, not_or, not_and, Classical.not_not] at h19
        refine T_seq ?_
        refine T_region ?_
        refine S_ 2 rfl rfl rfl _ (y_assign rfl rfl) ?_
        refine S_go (fun _ _ h => h) ?_
        refine T_ret (fun a w hF hM => hRb a w (post1 rfl rfl (fun w hM => ?_) a w hF hM))
        exact ⟨by rw [if_neg (by omega), hp2, hx2, tagsNo, if_pos h19], hM.below⟩
      · try simp only [decide_eq_true_eq, decide_eq_false_iff_not, Bool.or_eq_true, Bool.or_eq_false_iff, Bool.and_eq_true, Bool.and_eq_false_iff, Bool.not_eq_true', Bool.not_eq_false', Bool.not_eq_true, Bool.not_eq_false, Bool.not_true, Bool.not_false, Int.not_lt, Int.not_le, not_or, not_and, Classical.not_not] at h19
        refine T_skip_go (fun _ _ h => h) ?_
        refine T_seq ?_
        refine T_seq ?_
        refine T_draws (by kernel_rfl) (by kernel_rfl) ?_
        refine D_ 20 rfl rfl rfl _ (y_move rfl rfl) ?_
        refine D_ 21 rfl rfl rfl _ (y_bin rfl rfl rfl (fun _ => b_gtr)) ?_
        refine D_ 22 rfl rfl rfl _ (y_move rfl rfl) ?_
        refine Dg_ 23 rfl rfl rfl rfl rfl rfl _ (y_fieldAddr rfl rfl fa104_0) ?_
        refine Dg_ 24 rfl rfl rfl rfl rfl rfl _ (y_load 4 rfl rfl rfl rfl Tryz.underlying9 rfl) ?_
        refine Dg_ 25 rfl rfl rfl rfl rfl rfl _ (y_move rfl rfl) ?_
        refine Dg_ 26 rfl rfl rfl rfl rfl rfl _ (y_move rfl rfl) ?_
        refine Dg_ 27 rfl rfl rfl rfl rfl rfl _ (y_bin rfl rfl rfl (fun hg => b_subv (((i - 1 : Nat) : Int)) (by simp only [Bool.true_and, Bool.and_eq_true, beq_iff_eq, decide_eq_true_eq, decide_eq_false_iff_not, Int.not_lt, Int.not_le] at hg; omega) (by simp only [Bool.true_and, Bool.and_eq_true, beq_iff_eq, decide_eq_true_eq, decide_eq_false_iff_not, Int.not_lt, Int.not_le] at hg; omega))) ?_
        refine Dg_ 28 rfl rfl rfl rfl rfl rfl _ (y_indexAddr rfl rfl rfl Tryz.underlying26 sz104 (fun hg => ht.isSome (by simp only [Bool.true_and, Bool.and_eq_true, beq_iff_eq, decide_eq_true_eq, decide_eq_false_iff_not, Int.not_lt, Int.not_le] at hg; omega)) (fun hg => by simp only [Bool.true_and, Bool.and_eq_true, beq_iff_eq, decide_eq_true_eq, decide_eq_false_iff_not, Int.not_lt, Int.not_le] at hg; omega)) ?_
        refine Dg_ 29 rfl rfl rfl rfl rfl rfl _ (y_fieldEl rfl rfl ht.rd (fun hg => by simp only [Bool.true_and, Bool.and_eq_true, beq_iff_eq, decide_eq_true_eq, decide_eq_false_iff_not, Int.not_lt, Int.not_le] at hg; omega) fa104_0) ?_
        refine Dg_ 30 rfl rfl rfl rfl rfl rfl _ (y_load_fT rfl rfl ht (fun _ => rfl) (fun hg => hp3 (by simp only [Bool.true_and, Bool.and_eq_true, beq_iff_eq, decide_eq_true_eq, decide_eq_false_iff_not, Int.not_lt, Int.not_le] at hg; omega)) rfl Tryz.underlying9 rfl) ?_
        refine Dg_ 31 rfl rfl rfl rfl rfl rfl _ (y_bin rfl rfl rfl (fun _ => b_leqs)) ?_
        refine D_ 32 rfl rfl rfl _ (y_as (v' := .bool ((prevN i b).any fun s => Op.bytesLess x.n s || decide (x.n = s))) (by rw [prevN_any]) (y_and rfl rfl rfl)) ?_
        refine D_go (fun _ _ h => h) ?_
        refine T_cond rfl (fun h32 => ?_) (fun h32 => ?_)
        · skip
          refine T_seq ?_
          refine T_region ?_
          refine S_ 2 rfl rfl rfl _ (y_assign rfl rfl) ?_
          refine S_go (fun _ _ h => h) ?_
          refine T_ret (fun a w hF hM => hRb a w (post1 rfl rfl (fun w hM => ?_) a w hF hM))
          exact ⟨by rw [if_neg (by omega), hp2, hx2, tagsNo, if_neg (by rw [h19]; simp), if_t h32], hM.below⟩
        · skip
          refine T_skip_go (fun _ _ h => h) ?_
          refine T_seq ?_
          refine T_region ?_
          refine S_ 33 rfl rfl rfl _ (y_fieldAddr rfl rfl fa104_1) ?_
          refine S_ 34 rfl rfl rfl _ (y_load 4 rfl rfl rfl rfl Tryz.underlying9 rfl) ?_
          refine S_ 35 rfl rfl rfl _ (y_call rfl rfl rfl cf117 (fun _ w _ => checkValue_any _ (by first | omega | (simp; done) | (simp; omega) | (simp only; omega)) w)) ?_
          refine S_ 5 rfl rfl rfl _ (y_assign rfl rfl) ?_
          refine S_go (fun _ _ h => h) ?_
          refine T_seq ?_
          refine T_region ?_
          refine S_ 36 rfl rfl rfl _ (y_move rfl rfl) ?_
          refine S_ 37 rfl rfl rfl _ (y_bin rfl rfl rfl (fun _ => b_neq)) ?_
          refine S_go (fun _ _ h => h) ?_
          refine T_cond rfl (fun h37 => ?_) (fun h37 => ?_)
          · try simp only [decide_eq_true_eq, decide_eq_false_iff_not, Bool.or_eq_true, Bool.or_eq_false_iff, Bool.and_eq_true, Bool.and_eq_false_iff, Bool.not_eq_true', Bool.not_eq_false', Bool.not_eq_true, Bool.not_eq_false, Bool.not_true, Bool.not_false, Int.not_lt, Int.not_le, not_or, not_and, Classical.not_not] at h37
            refine T_seq ?_
            refine T_region ?_
            refine S_ 38 rfl rfl rfl _ (y_move rfl rfl) ?_
            refine S_ 2 rfl rfl rfl _ (y_assign rfl rfl) ?_
            refine S_go (fun _ _ h => h) ?_
            refine T_ret (fun a w hF hM => hRb a w (post1 rfl rfl (fun w hM => ?_) a w hF hM))
            exact ⟨by rw [if_neg (by omega), hp2, hx2, tagsNo, if_neg (by rw [h19]; simp), if_f h32, if_pos h37], hM.below⟩
          · try simp only [decide_eq_true_eq, decide_eq_false_iff_not, Bool.or_eq_true, Bool.or_eq_false_iff, Bool.and_eq_true, Bool.and_eq_false_iff, Bool.not_eq_true', Bool.not_eq_false', Bool.not_eq_true, Bool.not_eq_false, Bool.not_true, Bool.not_false, Int.not_lt, Int.not_le, not_or, not_and, Classical.not_not] at h37
            refine T_skip_go (fun _ _ h => h) ?_
            refine T_region ?_
            refine S_ 39 rfl rfl rfl _ (y_bin rfl rfl rfl (fun hg => b_add (by omega))) ?_
            refine S_ 11 rfl rfl rfl _ (y_move rfl rfl) ?_
            refine S_nil (nextK2 (kf := [(2, 5), (11, 39)]) (kl := [(2, 5), (11, 39)]) (i + 1) x (by repeat (first | exact kf_nil | (apply kf_in; focus rfl) | (apply kf_out; focus rfl))) (by repeat (first | exact kl_nil | exact kl_rest (by assumption) rfl | (apply kl_in; focus rfl) | (apply kl_out; focus rfl))) ?_ ?_ ?_ ?_)
            · omega
            · exact ⟨by omega, by rw [hp2, hx2, tagsNo, if_neg (by rw [h19]; simp), if_f h32, if_neg (by simpa using h37)]; rfl, fun _ => hx1⟩
            · exact ⟨rfl, trivial⟩
            · exact trivial
    · try simp only [decide_eq_true_eq, decide_eq_false_iff_not, Bool.or_eq_true, Bool.or_eq_false_iff, Bool.and_eq_true, Bool.and_eq_false_iff, Bool.not_eq_true', Bool.not_eq_false', Bool.not_eq_true, Bool.not_eq_false, Bool.not_true, Bool.not_false, Int.not_lt, Int.not_le, not_or, not_and, Classical.not_not] at h12
      refine T_exit_go (fun _ _ h => h) ?_
      refine T_seq ?_
      refine T_region ?_
      refine S_ 2 rfl rfl rfl _ (y_assign rfl rfl) ?_
      refine S_go (fun _ _ h => h) ?_
      refine T_ret (fun a w hF hM => hRb a w (post1 rfl rfl (fun w hM => ?_) a w hF hM))
      exact ⟨by rw [if_neg (by omega), hp2, ht.end (by omega), tagsNo_nil], hM.below⟩
theorem checkCrumbs_any (l : Sl SCrumb) (w : World) (hl : CrumbsOk w l) :
    Calls Tryz.prog 116 #[.slice l.A l.q l.c] w fun e w' => e = .returned (.int .i64 (if (50 : Int) < l.q then 4 else crumbsNo none l.l)) ∧ Below w.heap.size w w' := by
  have ht := hl.ok.t
  have hq := hl.q
  refine enter_args (args := [.slice l.A l.q l.c]) (F := _) Tryz.func116 rfl Tryz.ntmps116 rfl rfl ?_
  intro Rb hRb hRn
  refine T_seq ?_
  refine T_region ?_
  refine S_ 2 rfl rfl rfl _ (y_assign rfl rfl) ?_
  refine S_go (fun _ _ h => h) ?_
  refine T_seq ?_
  refine T_seq ?_
  refine T_region ?_
  refine S_ 6 rfl rfl rfl _ (y_move rfl rfl) ?_
  refine S_ 7 rfl rfl rfl _ (y_len_slice rfl rfl Tryz.underlying27) ?_
  refine S_ 8 rfl rfl rfl _ (y_bin rfl rfl rfl (fun _ => b_gtr)) ?_
  refine S_go (fun _ _ h => h) ?_
  refine T_cond rfl (fun h8 => ?_) (fun h8 => ?_)
  · try simp only [decide_eq_true_eq, decide_eq_false_iff_not, Bool.or_eq_true, Bool.or_eq_false_iff, Bool.and_eq_true, Bool.and_eq_false_iff, Bool.not_eq_true', Bool.not_eq_false', Bool.not_eq_true, Bool.not_eq_false, Bool.not_true, Bool.not_false, Int.not_lt, Int.not_le, not_or, not_and, Classical.not_not] at h8
    refine T_seq ?_
    refine T_region ?_
    refine S_ 2 rfl rfl rfl _ (y_assign rfl rfl) ?_
    refine S_go (fun _ _ h => h) ?_
    refine T_ret (fun a w hF hM => hRb a w (post1 rfl rfl (fun w hM => ?_) a w hF hM))
    exact ⟨by rw [if_pos (by omega)], hM.below⟩
  · try simp only [decide_eq_true_eq, decide_eq_false_iff_not, Bool.or_eq_true, Bool.or_eq_false_iff, Bool.and_eq_true, Bool.and_eq_false_iff, Bool.not_eq_true', Bool.not_eq_false', Bool.not_eq_true, Bool.not_eq_false, Bool.not_true, Bool.not_false, Int.not_lt, Int.not_le, not_or, not_and, Classical.not_not] at h8
    refine T_skip_go (fun _ _ h => h) ?_
    refine T_seq ?_
    refine T_seq ?_
    refine T_region ?_
    refine S_ 9 rfl rfl rfl _ (y_move rfl rfl) ?_
    refine S_ 10 rfl rfl rfl _ (y_len_slice rfl rfl Tryz.underlying27) ?_
    refine S_ 11 rfl rfl rfl _ (y_move rfl rfl) ?_
    refine S_go (fun _ _ h => h) ?_
    refine T_block ?_
    refine T_loopK2 (kf := [(2, 5), (11, 45)]) (kl := [(2, 5), (11, 45)]) (fun (i : Nat) (b : SCrumb) => [(11, true, .int .i64 (i : Int))]) (fun (i : Nat) (b : SCrumb) => []) (fun (i : Nat) (b : SCrumb) => i ≤ l.q ∧ crumbsNo none l.l = crumbsNo (prevA i b) (l.l.drop i) ∧ (0 < i → l.l[i - 1]? = some b)) (fun (i : Nat) (b : SCrumb) => l.q - i) 0 ⟨0, [], []⟩ (by repeat (first | exact kf_nil | (apply kf_in; focus rfl) | (apply kf_out; focus rfl))) (by repeat (first | exact kl_nil | exact kl_rest (by assumption) rfl | (apply kl_in; focus rfl) | (apply kl_out; focus rfl))) ?_ ?_ ?_ ?_
    · exact ⟨by omega, rfl, by omega⟩
    · exact ⟨rfl, trivial⟩
    · exact trivial
    rintro i b ⟨hp1, hp2, hp3⟩
    refine T_seq ?_
    refine T_region ?_
    refine S_ 12 rfl rfl rfl _ (y_bin rfl rfl rfl (fun _ => b_lss)) ?_
    refine S_go (fun _ _ h => h) ?_
    refine T_seq ?_
    refine T_cond rfl (fun h12 => ?_) (fun h12 => ?_)
    · try simp only [decide_eq_true_eq, decide_eq_false_iff_not, Bool.or_eq_true, Bool.or_eq_false_iff, Bool.and_eq_true, Bool.and_eq_false_iff, Bool.not_eq_true', Bool.not_eq_false', Bool.not_eq_true, Bool.not_eq_false, Bool.not_true, Bool.not_false, Int.not_lt, Int.not_le, not_or, not_and, Classical.not_not] at h12
      obtain ⟨x, hx1, hx2⟩ := ht.at (i := i) (by omega)
      have hn := hl.n x (mem_at hx1)
      have hn2 := hn.2
      refine T_skip_go (fun _ _ h => h) ?_
      refine T_seq ?_
      refine T_block ?_
      refine T_seq ?_
      refine T_region ?_
      refine S_ 13 rfl rfl rfl _ (y_move rfl rfl) ?_
      refine S_ 14 rfl rfl rfl _ (y_indexAddr rfl rfl rfl Tryz.underlying27 sz107 (fun hg => ht.isSome (by omega)) (fun _ => by omega)) ?_
      refine S_ 15 rfl rfl rfl _ (y_loadT rfl rfl ht (fun _ => rfl) (fun _ => hx1) Tryz.underlying107 rfl sz107) ?_
      refine S_alloc 4 4 rfl rfl rfl rfl z107 ?_
      intro b4
      refine S_ 3 rfl rfl rfl _ (y_assign rfl rfl) ?_
      refine S_store 4 rfl rfl rfl rfl rfl rfl sz107 rfl rfl ?_
      refine S_go (fun _ _ h => h) ?_
      refine T_seq ?_
      refine T_block ?_
      refine T_seq ?_
      refine T_region ?_
      refine S_ 17 rfl rfl rfl _ (y_fieldAddr rfl rfl fa107_0) ?_
      refine S_ 18 rfl rfl rfl _ (y_load 4 rfl rfl rfl rfl Tryz.underlying3 rfl) ?_
      refine S_ 19 rfl rfl rfl _ (y_call rfl rfl rfl cf118 (fun _ w _ => eoutside_any _ _ _ w)) ?_
      refine S_ 16 rfl rfl rfl _ (y_assign rfl rfl) ?_
      refine S_go (fun _ _ h => h) ?_
      refine T_cond rfl (fun h16 => ?_) (fun h16 => ?_)
      · skip
        refine T_seq ?_
        refine T_region ?_
        refine S_ 2 rfl rfl rfl _ (y_assign rfl rfl) ?_
        refine S_go (fun _ _ h => h) ?_
        refine T_ret (fun a w hF hM => hRb a w (post1 rfl rfl (fun w hM => ?_) a w hF hM))
        exact ⟨by rw [if_neg (by omega), hp2, hx2, crumbsNo, if_t h16], hM.below⟩
      · skip
        refine T_seq ?_
        refine T_draws (by kernel_rfl) (by kernel_rfl) ?_
        refine D_ 21 rfl rfl rfl _ (y_move rfl rfl) ?_
        refine D_ 22 rfl rfl rfl _ (y_bin rfl rfl rfl (fun _ => b_gtr)) ?_
        refine D_ 23 rfl rfl rfl _ (y_move rfl rfl) ?_
        refine Dg_ 24 rfl rfl rfl rfl rfl rfl _ (y_fieldAddr rfl rfl fa107_0) ?_
        refine Dg_ 25 rfl rfl rfl rfl rfl rfl _ (y_load 4 rfl rfl rfl rfl Tryz.underlying3 rfl) ?_
        refine Dg_ 26 rfl rfl rfl rfl rfl rfl _ (y_move rfl rfl) ?_
        refine Dg_ 27 rfl rfl rfl rfl rfl rfl _ (y_move rfl rfl) ?_
        refine Dg_ 28 rfl rfl rfl rfl rfl rfl _ (y_bin rfl rfl rfl (fun hg => b_subv (((i - 1 : Nat) : Int)) (by simp only [Bool.true_and, Bool.and_eq_true, beq_iff_eq, decide_eq_true_eq, decide_eq_false_iff_not, Int.not_lt, Int.not_le] at hg; omega) (by simp only [Bool.true_and, Bool.and_eq_true, beq_iff_eq, decide_eq_true_eq, decide_eq_false_iff_not, Int.not_lt, Int.not_le] at hg; omega))) ?_
        refine Dg_ 29 rfl rfl rfl rfl rfl rfl _ (y_indexAddr rfl rfl rfl Tryz.underlying27 sz107 (fun hg => ht.isSome (by simp only [Bool.true_and, Bool.and_eq_true, beq_iff_eq, decide_eq_true_eq, decide_eq_false_iff_not, Int.not_lt, Int.not_le] at hg; omega)) (fun hg => by simp only [Bool.true_and, Bool.and_eq_true, beq_iff_eq, decide_eq_true_eq, decide_eq_false_iff_not, Int.not_lt, Int.not_le] at hg; omega)) ?_
        refine Dg_ 30 rfl rfl rfl rfl rfl rfl _ (y_fieldEl rfl rfl ht.rd (fun hg => by simp only [Bool.true_and, Bool.and_eq_true, beq_iff_eq, decide_eq_true_eq, decide_eq_false_iff_not, Int.not_lt, Int.not_le] at hg; omega) fa107_0) ?_
        refine Dg_ 31 rfl rfl rfl rfl rfl rfl _ (y_load_fT rfl rfl ht (fun _ => rfl) (fun hg => hp3 (by simp only [Bool.true_and, Bool.and_eq_true, beq_iff_eq, decide_eq_true_eq, decide_eq_false_iff_not, Int.not_lt, Int.not_le] at hg; omega)) rfl Tryz.underlying3 rfl) ?_
        refine Dg_ 32 rfl rfl rfl rfl rfl rfl _ (y_bin rfl rfl rfl (fun _ => b_lss)) ?_
        refine D_ 33 rfl rfl rfl _ (y_as (v' := .bool ((prevA i b).any fun n => decide (x.at_ < n))) (by rw [prevA_any]) (y_and rfl rfl rfl)) ?_
        refine D_ 20 rfl rfl rfl _ (y_assign rfl rfl) ?_
        refine D_go (fun _ _ h => h) ?_
        refine T_cond rfl (fun h20 => ?_) (fun h20 => ?_)
        · skip
          refine T_seq ?_
          refine T_region ?_
          refine S_ 2 rfl rfl rfl _ (y_assign rfl rfl) ?_
          refine S_go (fun _ _ h => h) ?_
          refine T_ret (fun a w hF hM => hRb a w (post1 rfl rfl (fun w hM => ?_) a w hF hM))
          exact ⟨by rw [if_neg (by omega), hp2, hx2, crumbsNo, if_f h16, if_t h20], hM.below⟩
        · skip
          refine T_seq ?_
          refine T_region ?_
          refine S_ 35 rfl rfl rfl _ (y_fieldAddr rfl rfl fa107_1) ?_
          refine S_ 36 rfl rfl rfl _ (y_load 4 rfl rfl rfl rfl Tryz.underlying9 rfl) ?_
          refine S_ 37 rfl rfl rfl _ (y_call rfl rfl rfl cf100 (fun _ w _ => IsName_any _ w)) ?_
          refine S_ 38 rfl rfl rfl _ (y_not rfl rfl) ?_
          refine S_ 34 rfl rfl rfl _ (y_assign rfl rfl) ?_
          refine S_go (fun _ _ h => h) ?_
          refine T_cond rfl (fun h34 => ?_) (fun h34 => ?_)
          · try simp only [decide_eq_true_eq, decide_eq_false_iff_not, Bool.or_eq_true, Bool.or_eq_false_iff, Bool.and_eq_true, Bool.and_eq_false_iff, Bool.not_eq_true', Bool.not_eq_false', Bool.not_eq_true, Bool.not_eq_false, Bool.not_true, Bool.not_false, Int.not_lt, Int.not_le, not_or, not_and, Classical.not_not] at h34
            refine T_seq ?_
            refine T_region ?_
            refine S_ 2 rfl rfl rfl _ (y_assign rfl rfl) ?_
            refine S_go (fun _ _ h => h) ?_
            refine T_ret (fun a w hF hM => hRb a w (post1 rfl rfl (fun w hM => ?_) a w hF hM))
            exact ⟨by rw [if_neg (by omega), hp2, hx2, crumbsNo, if_f h16, if_f h20, if_pos h34], hM.below⟩
          · try simp only [decide_eq_true_eq, decide_eq_false_iff_not, Bool.or_eq_true, Bool.or_eq_false_iff, Bool.and_eq_true, Bool.and_eq_false_iff, Bool.not_eq_true', Bool.not_eq_false', Bool.not_eq_true, Bool.not_eq_false, Bool.not_true, Bool.not_false, Int.not_lt, Int.not_le, not_or, not_and, Classical.not_not] at h34
            refine T_skip_go (fun _ _ h => h) ?_
            refine T_seq ?_
            refine T_region ?_
            refine S_ 39 rfl rfl rfl _ (y_fieldAddr rfl rfl fa107_2) ?_
            refine S_ 40 rfl rfl rfl _ (y_load 4 rfl rfl rfl rfl Tryz.underlying9 rfl) ?_
            refine S_ 41 rfl rfl rfl _ (y_call rfl rfl rfl cf196 (fun _ w _ => checkSay_any _ (by first | omega | (simp; done) | (simp; omega) | (simp only; omega)) w)) ?_
            refine S_ 5 rfl rfl rfl _ (y_assign rfl rfl) ?_
            refine S_go (fun _ _ h => h) ?_
            refine T_seq ?_
            refine T_region ?_
            refine S_ 42 rfl rfl rfl _ (y_move rfl rfl) ?_
            refine S_ 43 rfl rfl rfl _ (y_bin rfl rfl rfl (fun _ => b_neq)) ?_
            refine S_go (fun _ _ h => h) ?_
            refine T_cond rfl (fun h43 => ?_) (fun h43 => ?_)
            · try simp only [decide_eq_true_eq, decide_eq_false_iff_not, Bool.or_eq_true, Bool.or_eq_false_iff, Bool.and_eq_true, Bool.and_eq_false_iff, Bool.not_eq_true', Bool.not_eq_false', Bool.not_eq_true, Bool.not_eq_false, Bool.not_true, Bool.not_false, Int.not_lt, Int.not_le, not_or, not_and, Classical.not_not] at h43
              refine T_seq ?_
              refine T_region ?_
              refine S_ 44 rfl rfl rfl _ (y_move rfl rfl) ?_
              refine S_ 2 rfl rfl rfl _ (y_assign rfl rfl) ?_
              refine S_go (fun _ _ h => h) ?_
              refine T_ret (fun a w hF hM => hRb a w (post1 rfl rfl (fun w hM => ?_) a w hF hM))
              exact ⟨by rw [if_neg (by omega), hp2, hx2, crumbsNo, if_f h16, if_f h20, if_neg (by rw [h34]; simp), if_pos h43], hM.below⟩
            · try simp only [decide_eq_true_eq, decide_eq_false_iff_not, Bool.or_eq_true, Bool.or_eq_false_iff, Bool.and_eq_true, Bool.and_eq_false_iff, Bool.not_eq_true', Bool.not_eq_false', Bool.not_eq_true, Bool.not_eq_false, Bool.not_true, Bool.not_false, Int.not_lt, Int.not_le, not_or, not_and, Classical.not_not] at h43
              refine T_skip_go (fun _ _ h => h) ?_
              refine T_region ?_
              refine S_ 45 rfl rfl rfl _ (y_bin rfl rfl rfl (fun hg => b_add (by omega))) ?_
              refine S_ 11 rfl rfl rfl _ (y_move rfl rfl) ?_
              refine S_nil (nextK2 (kf := [(2, 5), (11, 45)]) (kl := [(2, 5), (11, 45)]) (i + 1) x (by repeat (first | exact kf_nil | (apply kf_in; focus rfl) | (apply kf_out; focus rfl))) (by repeat (first | exact kl_nil | exact kl_rest (by assumption) rfl | (apply kl_in; focus rfl) | (apply kl_out; focus rfl))) ?_ ?_ ?_ ?_)
              · omega
              · exact ⟨by omega, by rw [hp2, hx2, crumbsNo, if_f h16, if_f h20, if_neg (by rw [h34]; simp), if_neg (by simpa using h43)]; rfl, fun _ => hx1⟩
              · exact ⟨rfl, trivial⟩
              · exact trivial
    · try simp only [decide_eq_true_eq, decide_eq_false_iff_not, Bool.or_eq_true, Bool.or_eq_false_iff, Bool.and_eq_true, Bool.and_eq_false_iff, Bool.not_eq_true', Bool.not_eq_false', Bool.not_eq_true, Bool.not_eq_false, Bool.not_true, Bool.not_false, Int.not_lt, Int.not_le, not_or, not_and, Classical.not_not] at h12
      refine T_exit_go (fun _ _ h => h) ?_
      refine T_seq ?_
      refine T_region ?_
      refine S_ 2 rfl rfl rfl _ (y_assign rfl rfl) ?_
      refine S_go (fun _ _ h => h) ?_
      refine T_ret (fun a w hF hM => hRb a w (post1 rfl rfl (fun w hM => ?_) a w hF hM))
      exact ⟨by rw [if_neg (by omega), hp2, ht.end (by omega), crumbsNo_nil], hM.below⟩
theorem checkHead_any (e : Evt) (w : World) :
    Calls Tryz.prog 113 #[e.val] w fun en w' => en = .returned (.int .i64 (headNo e.id e.at_ e.lv)) ∧ Below w.heap.size w w' := by
  refine enter_args (args := [.agg #[str e.id, .int .i64 e.at_, .int .i64 e.lv, .slice e.fa.A e.fa.q e.fa.c, .slice e.ta.A e.ta.q e.ta.c, .slice e.cr.A e.cr.q e.cr.c, str e.rel, str e.us, .int .i64 e.wt]]) (F := _) Tryz.func113 rfl Tryz.ntmps113 rfl rfl ?_
  intro Rb hRb hRn
  refine T_seq ?_
  refine T_region ?_
  refine S_box 1 1 rfl rfl rfl rfl rfl ?_
  intro b1
  refine S_ 2 rfl rfl rfl _ (y_assign rfl rfl) ?_
  refine S_go (fun _ _ h => h) ?_
  refine T_seq ?_
  refine T_seq ?_
  refine T_region ?_
  refine S_ 3 rfl rfl rfl _ (y_fieldAddr rfl rfl fa29_0) ?_
  refine S_ 4 rfl rfl rfl _ (y_load 1 rfl rfl rfl rfl Tryz.underlying9 rfl) ?_
  refine S_ 5 rfl rfl rfl _ (y_call rfl rfl rfl cf194 (fun _ w _ => isDigest_any _ w)) ?_
  refine S_ 6 rfl rfl rfl _ (y_not rfl rfl) ?_
  refine S_go (fun _ _ h => h) ?_
  refine T_cond rfl (fun h6 => ?_) (fun h6 => ?_)
  · try simp only [decide_eq_true_eq, decide_eq_false_iff_not, Bool.or_eq_true, Bool.or_eq_false_iff, Bool.and_eq_true, Bool.and_eq_false_iff, Bool.not_eq_true', Bool.not_eq_false', Bool.not_eq_true, Bool.not_eq_false, Bool.not_true, Bool.not_false, Int.not_lt, Int.not_le, not_or, not_and, Classical.not_not] at h6
    refine T_seq ?_
    refine T_region ?_
    refine S_ 2 rfl rfl rfl _ (y_assign rfl rfl) ?_
    refine S_go (fun _ _ h => h) ?_
    refine T_ret (fun a w hF hM => hRb a w (post1 rfl rfl (fun w hM => ?_) a w hF hM))
    exact ⟨by rw [headNo, if_pos h6], hM.below⟩
  · try simp only [decide_eq_true_eq, decide_eq_false_iff_not, Bool.or_eq_true, Bool.or_eq_false_iff, Bool.and_eq_true, Bool.and_eq_false_iff, Bool.not_eq_true', Bool.not_eq_false', Bool.not_eq_true, Bool.not_eq_false, Bool.not_true, Bool.not_false, Int.not_lt, Int.not_le, not_or, not_and, Classical.not_not] at h6
    refine T_skip_go (fun _ _ h => h) ?_
    refine T_seq ?_
    refine T_seq ?_
    refine T_region ?_
    refine S_ 7 rfl rfl rfl _ (y_fieldAddr rfl rfl fa29_1) ?_
    refine S_ 8 rfl rfl rfl _ (y_load 1 rfl rfl rfl rfl Tryz.underlying3 rfl) ?_
    refine S_ 9 rfl rfl rfl _ (y_call rfl rfl rfl cf118 (fun _ w _ => eoutside_any _ _ _ w)) ?_
    refine S_ 10 rfl rfl rfl _ (y_move rfl rfl) ?_
    refine Sg_ 11 rfl rfl rfl rfl rfl rfl _ (y_fieldAddr rfl rfl fa29_2) ?_
    refine Sg_ 12 rfl rfl rfl rfl rfl rfl _ (y_load 1 rfl rfl rfl rfl Tryz.underlying3 rfl) ?_
    refine Sg_ 13 rfl rfl rfl rfl rfl rfl _ (y_call rfl rfl rfl cf118 (fun _ w _ => eoutside_any _ _ _ w)) ?_
    refine S_ 14 rfl rfl rfl _ (y_or rfl rfl rfl) ?_
    refine S_go (fun _ _ h => h) ?_
    refine T_cond rfl (fun h14 => ?_) (fun h14 => ?_)
    · skip
      refine T_seq ?_
      refine T_region ?_
      refine S_ 2 rfl rfl rfl _ (y_assign rfl rfl) ?_
      refine S_go (fun _ _ h => h) ?_
      refine T_ret (fun a w hF hM => hRb a w (post1 rfl rfl (fun w hM => ?_) a w hF hM))
      exact ⟨by rw [headNo, if_neg (by rw [h6]; simp), if_t h14], hM.below⟩
    · skip
      refine T_skip_go (fun _ _ h => h) ?_
      refine T_seq ?_
      refine T_region ?_
      refine S_ 2 rfl rfl rfl _ (y_assign rfl rfl) ?_
      refine S_go (fun _ _ h => h) ?_
      refine T_ret (fun a w hF hM => hRb a w (post1 rfl rfl (fun w hM => ?_) a w hF hM))
      exact ⟨by rw [headNo, if_neg (by rw [h6]; simp), if_f h14], hM.below⟩
theorem Check_any (e : Evt) (w : World) (he : e.Ok w) :
    Calls Tryz.prog 44 #[e.val] w fun en w' => en = .returned (.int .i64 (evNo e)) ∧ Below w.heap.size w w' := by
  have hus := he.us
  refine enter_args (args := [.agg #[str e.id, .int .i64 e.at_, .int .i64 e.lv, .slice e.fa.A e.fa.q e.fa.c, .slice e.ta.A e.ta.q e.ta.c, .slice e.cr.A e.cr.q e.cr.c, str e.rel, str e.us, .int .i64 e.wt]]) (F := _) Tryz.func44 rfl Tryz.ntmps44 rfl rfl ?_
  intro Rb hRb hRn
  refine T_seq ?_
  refine T_region ?_
  refine S_box 1 1 rfl rfl rfl rfl rfl ?_
  intro b1
  refine S_ 2 rfl rfl rfl _ (y_assign rfl rfl) ?_
  refine S_go (fun _ _ h => h) ?_
  refine T_seq ?_
  refine T_seq ?_
  refine T_region ?_
  refine S_ 8 rfl rfl rfl _ (y_loadA 1 rfl rfl rfl Tryz.underlying29 rfl sz29) ?_
  refine S_ 9 rfl rfl rfl _ (y_call rfl rfl rfl cf113 (fun _ w _ => checkHead_any e w)) ?_
  refine S_ 3 rfl rfl rfl _ (y_assign rfl rfl) ?_
  refine S_go (fun _ _ h => h) ?_
  refine T_seq ?_
  refine T_region ?_
  refine S_ 10 rfl rfl rfl _ (y_move rfl rfl) ?_
  refine S_ 11 rfl rfl rfl _ (y_bin rfl rfl rfl (fun _ => b_neq)) ?_
  refine S_go (fun _ _ h => h) ?_
  refine T_cond rfl (fun h11 => ?_) (fun h11 => ?_)
  · try simp only [decide_eq_true_eq, decide_eq_false_iff_not, Bool.or_eq_true, Bool.or_eq_false_iff, Bool.and_eq_true, Bool.and_eq_false_iff, Bool.not_eq_true', Bool.not_eq_false', Bool.not_eq_true, Bool.not_eq_false, Bool.not_true, Bool.not_false, Int.not_lt, Int.not_le, not_or, not_and, Classical.not_not] at h11
    refine T_seq ?_
    refine T_region ?_
    refine S_ 12 rfl rfl rfl _ (y_move rfl rfl) ?_
    refine S_ 2 rfl rfl rfl _ (y_assign rfl rfl) ?_
    refine S_go (fun _ _ h => h) ?_
    refine T_ret (fun a w hF hM => hRb a w (post1 rfl rfl (fun w hM => ?_) a w hF hM))
    exact ⟨by rw [evNo, fst_t h11], hM.below⟩
  · try simp only [decide_eq_true_eq, decide_eq_false_iff_not, Bool.or_eq_true, Bool.or_eq_false_iff, Bool.and_eq_true, Bool.and_eq_false_iff, Bool.not_eq_true', Bool.not_eq_false', Bool.not_eq_true, Bool.not_eq_false, Bool.not_true, Bool.not_false, Int.not_lt, Int.not_le, not_or, not_and, Classical.not_not] at h11
    refine T_skip_go (fun _ _ h => h) ?_
    refine T_seq ?_
    refine T_seq ?_
    refine T_region ?_
    refine S_ 13 rfl rfl rfl _ (y_fieldAddr rfl rfl fa29_3) ?_
    refine S_ 14 rfl rfl rfl _ (y_load 1 rfl rfl rfl rfl Tryz.underlying25 rfl) ?_
    refine S_ 15 rfl rfl rfl _ (y_call rfl rfl rfl cf114 (fun _ w hM => sCheck_any e.fa w (he.fa.below hM.below))) ?_
    refine S_ 4 rfl rfl rfl _ (y_assign rfl rfl) ?_
    refine S_go (fun _ _ h => h) ?_
    refine T_seq ?_
    refine T_region ?_
    refine S_ 16 rfl rfl rfl _ (y_move rfl rfl) ?_
    refine S_ 17 rfl rfl rfl _ (y_bin rfl rfl rfl (fun _ => b_neq)) ?_
    refine S_go (fun _ _ h => h) ?_
    refine T_cond rfl (fun h17 => ?_) (fun h17 => ?_)
    · try simp only [decide_eq_true_eq, decide_eq_false_iff_not, Bool.or_eq_true, Bool.or_eq_false_iff, Bool.and_eq_true, Bool.and_eq_false_iff, Bool.not_eq_true', Bool.not_eq_false', Bool.not_eq_true, Bool.not_eq_false, Bool.not_true, Bool.not_false, Int.not_lt, Int.not_le, not_or, not_and, Classical.not_not] at h17
      refine T_seq ?_
      refine T_region ?_
      refine S_ 18 rfl rfl rfl _ (y_move rfl rfl) ?_
      refine S_ 2 rfl rfl rfl _ (y_assign rfl rfl) ?_
      refine S_go (fun _ _ h => h) ?_
      refine T_ret (fun a w hF hM => hRb a w (post1 rfl rfl (fun w hM => ?_) a w hF hM))
      exact ⟨by rw [evNo, fst_f h11, fst_t h17], hM.below⟩
    · try simp only [decide_eq_true_eq, decide_eq_false_iff_not, Bool.or_eq_true, Bool.or_eq_false_iff, Bool.and_eq_true, Bool.and_eq_false_iff, Bool.not_eq_true', Bool.not_eq_false', Bool.not_eq_true, Bool.not_eq_false, Bool.not_true, Bool.not_false, Int.not_lt, Int.not_le, not_or, not_and, Classical.not_not] at h17
      refine T_skip_go (fun _ _ h => h) ?_
      refine T_seq ?_
      refine T_seq ?_
      refine T_region ?_
      refine S_ 19 rfl rfl rfl _ (y_fieldAddr rfl rfl fa29_4) ?_
      refine S_ 20 rfl rfl rfl _ (y_load 1 rfl rfl rfl rfl Tryz.underlying26 rfl) ?_
      refine S_ 21 rfl rfl rfl _ (y_call rfl rfl rfl cf115 (fun _ w hM => checkTags_any e.ta w (he.ta.below hM.below))) ?_
      refine S_ 5 rfl rfl rfl _ (y_assign rfl rfl) ?_
      refine S_go (fun _ _ h => h) ?_
      refine T_seq ?_
      refine T_region ?_
      refine S_ 22 rfl rfl rfl _ (y_move rfl rfl) ?_
      refine S_ 23 rfl rfl rfl _ (y_bin rfl rfl rfl (fun _ => b_neq)) ?_
      refine S_go (fun _ _ h => h) ?_
      refine T_cond rfl (fun h23 => ?_) (fun h23 => ?_)
      · try simp only [decide_eq_true_eq, decide_eq_false_iff_not, Bool.or_eq_true, Bool.or_eq_false_iff, Bool.and_eq_true, Bool.and_eq_false_iff, Bool.not_eq_true', Bool.not_eq_false', Bool.not_eq_true, Bool.not_eq_false, Bool.not_true, Bool.not_false, Int.not_lt, Int.not_le, not_or, not_and, Classical.not_not] at h23
        refine T_seq ?_
        refine T_region ?_
        refine S_ 24 rfl rfl rfl _ (y_move rfl rfl) ?_
        refine S_ 2 rfl rfl rfl _ (y_assign rfl rfl) ?_
        refine S_go (fun _ _ h => h) ?_
        refine T_ret (fun a w hF hM => hRb a w (post1 rfl rfl (fun w hM => ?_) a w hF hM))
        exact ⟨by rw [evNo, fst_f h11, fst_f h17, fst_t h23], hM.below⟩
      · try simp only [decide_eq_true_eq, decide_eq_false_iff_not, Bool.or_eq_true, Bool.or_eq_false_iff, Bool.and_eq_true, Bool.and_eq_false_iff, Bool.not_eq_true', Bool.not_eq_false', Bool.not_eq_true, Bool.not_eq_false, Bool.not_true, Bool.not_false, Int.not_lt, Int.not_le, not_or, not_and, Classical.not_not] at h23
        refine T_skip_go (fun _ _ h => h) ?_
        refine T_seq ?_
        refine T_seq ?_
        refine T_region ?_
        refine S_ 25 rfl rfl rfl _ (y_fieldAddr rfl rfl fa29_5) ?_
        refine S_ 26 rfl rfl rfl _ (y_load 1 rfl rfl rfl rfl Tryz.underlying27 rfl) ?_
        refine S_ 27 rfl rfl rfl _ (y_call rfl rfl rfl cf116 (fun _ w hM => checkCrumbs_any e.cr w (he.cr.below hM.below))) ?_
        refine S_ 6 rfl rfl rfl _ (y_assign rfl rfl) ?_
        refine S_go (fun _ _ h => h) ?_
        refine T_seq ?_
        refine T_region ?_
        refine S_ 28 rfl rfl rfl _ (y_move rfl rfl) ?_
        refine S_ 29 rfl rfl rfl _ (y_bin rfl rfl rfl (fun _ => b_neq)) ?_
        refine S_go (fun _ _ h => h) ?_
        refine T_cond rfl (fun h29 => ?_) (fun h29 => ?_)
        · try simp only [decide_eq_true_eq, decide_eq_false_iff_not, Bool.or_eq_true, Bool.or_eq_false_iff, Bool.and_eq_true, Bool.and_eq_false_iff, Bool.not_eq_true', Bool.not_eq_false', Bool.not_eq_true, Bool.not_eq_false, Bool.not_true, Bool.not_false, Int.not_lt, Int.not_le, not_or, not_and, Classical.not_not] at h29
          refine T_seq ?_
          refine T_region ?_
          refine S_ 30 rfl rfl rfl _ (y_move rfl rfl) ?_
          refine S_ 2 rfl rfl rfl _ (y_assign rfl rfl) ?_
          refine S_go (fun _ _ h => h) ?_
          refine T_ret (fun a w hF hM => hRb a w (post1 rfl rfl (fun w hM => ?_) a w hF hM))
          exact ⟨by rw [evNo, fst_f h11, fst_f h17, fst_f h23, fst_t h29], hM.below⟩
        · try simp only [decide_eq_true_eq, decide_eq_false_iff_not, Bool.or_eq_true, Bool.or_eq_false_iff, Bool.and_eq_true, Bool.and_eq_false_iff, Bool.not_eq_true', Bool.not_eq_false', Bool.not_eq_true, Bool.not_eq_false, Bool.not_true, Bool.not_false, Int.not_lt, Int.not_le, not_or, not_and, Classical.not_not] at h29
          refine T_skip_go (fun _ _ h => h) ?_
          refine T_seq ?_
          refine T_seq ?_
          refine T_region ?_
          refine S_ 31 rfl rfl rfl _ (y_fieldAddr rfl rfl fa29_6) ?_
          refine S_ 32 rfl rfl rfl _ (y_load 1 rfl rfl rfl rfl Tryz.underlying9 rfl) ?_
          refine S_ 33 rfl rfl rfl _ (y_bin rfl rfl rfl (fun _ => b_neqs)) ?_
          refine S_ 34 rfl rfl rfl _ (y_move rfl rfl) ?_
          refine Sg_ 35 rfl rfl rfl rfl rfl rfl _ (y_fieldAddr rfl rfl fa29_6) ?_
          refine Sg_ 36 rfl rfl rfl rfl rfl rfl _ (y_load 1 rfl rfl rfl rfl Tryz.underlying9 rfl) ?_
          refine Sg_ 37 rfl rfl rfl rfl rfl rfl _ (y_call rfl rfl rfl cf100 (fun _ w _ => IsName_any _ w)) ?_
          refine Sg_ 38 rfl rfl rfl rfl rfl rfl _ (y_not rfl rfl) ?_
          refine S_ 39 rfl rfl rfl _ (y_and rfl rfl rfl) ?_
          refine S_go (fun _ _ h => h) ?_
          refine T_cond rfl (fun h39 => ?_) (fun h39 => ?_)
          · skip
            refine T_seq ?_
            refine T_region ?_
            refine S_ 2 rfl rfl rfl _ (y_assign rfl rfl) ?_
            refine S_go (fun _ _ h => h) ?_
            refine T_ret (fun a w hF hM => hRb a w (post1 rfl rfl (fun w hM => ?_) a w hF hM))
            exact ⟨by rw [evNo, fst_f h11, fst_f h17, fst_f h23, fst_f h29, if_t h39], hM.below⟩
          · skip
            refine T_skip_go (fun _ _ h => h) ?_
            refine T_seq ?_
            refine T_seq ?_
            refine T_region ?_
            refine S_ 40 rfl rfl rfl _ (y_fieldAddr rfl rfl fa29_7) ?_
            refine S_ 41 rfl rfl rfl _ (y_load 1 rfl rfl rfl rfl Tryz.underlying9 rfl) ?_
            refine S_ 42 rfl rfl rfl _ (y_call rfl rfl rfl cf117 (fun _ w _ => checkValue_any _ (by first | omega | (simp; done) | (simp; omega) | (simp only; omega)) w)) ?_
            refine S_ 7 rfl rfl rfl _ (y_assign rfl rfl) ?_
            refine S_go (fun _ _ h => h) ?_
            refine T_seq ?_
            refine T_region ?_
            refine S_ 43 rfl rfl rfl _ (y_move rfl rfl) ?_
            refine S_ 44 rfl rfl rfl _ (y_bin rfl rfl rfl (fun _ => b_neq)) ?_
            refine S_go (fun _ _ h => h) ?_
            refine T_cond rfl (fun h44 => ?_) (fun h44 => ?_)
            · try simp only [decide_eq_true_eq, decide_eq_false_iff_not, Bool.or_eq_true, Bool.or_eq_false_iff, Bool.and_eq_true, Bool.and_eq_false_iff, Bool.not_eq_true', Bool.not_eq_false', Bool.not_eq_true, Bool.not_eq_false, Bool.not_true, Bool.not_false, Int.not_lt, Int.not_le, not_or, not_and, Classical.not_not] at h44
              refine T_seq ?_
              refine T_region ?_
              refine S_ 45 rfl rfl rfl _ (y_move rfl rfl) ?_
              refine S_ 2 rfl rfl rfl _ (y_assign rfl rfl) ?_
              refine S_go (fun _ _ h => h) ?_
              refine T_ret (fun a w hF hM => hRb a w (post1 rfl rfl (fun w hM => ?_) a w hF hM))
              exact ⟨by rw [evNo, fst_f h11, fst_f h17, fst_f h23, fst_f h29, if_f h39, fst_t h44], hM.below⟩
            · try simp only [decide_eq_true_eq, decide_eq_false_iff_not, Bool.or_eq_true, Bool.or_eq_false_iff, Bool.and_eq_true, Bool.and_eq_false_iff, Bool.not_eq_true', Bool.not_eq_false', Bool.not_eq_true, Bool.not_eq_false, Bool.not_true, Bool.not_false, Int.not_lt, Int.not_le, not_or, not_and, Classical.not_not] at h44
              refine T_skip_go (fun _ _ h => h) ?_
              refine T_seq ?_
              refine T_seq ?_
              refine T_region ?_
              refine S_ 46 rfl rfl rfl _ (y_fieldAddr rfl rfl fa29_8) ?_
              refine S_ 47 rfl rfl rfl _ (y_load 1 rfl rfl rfl rfl Tryz.underlying3 rfl) ?_
              refine S_ 48 rfl rfl rfl _ (y_call rfl rfl rfl cf118 (fun _ w _ => eoutside_any _ _ _ w)) ?_
              refine S_go (fun _ _ h => h) ?_
              refine T_cond rfl (fun h48 => ?_) (fun h48 => ?_)
              · skip
                refine T_seq ?_
                refine T_region ?_
                refine S_ 2 rfl rfl rfl _ (y_assign rfl rfl) ?_
                refine S_go (fun _ _ h => h) ?_
                refine T_ret (fun a w hF hM => hRb a w (post1 rfl rfl (fun w hM => ?_) a w hF hM))
                exact ⟨by rw [evNo, fst_f h11, fst_f h17, fst_f h23, fst_f h29, if_f h39, fst_f h44, if_t h48], hM.below⟩
              · skip
                refine T_skip_go (fun _ _ h => h) ?_
                refine T_seq ?_
                refine T_region ?_
                refine S_ 2 rfl rfl rfl _ (y_assign rfl rfl) ?_
                refine S_go (fun _ _ h => h) ?_
                refine T_ret (fun a w hF hM => hRb a w (post1 rfl rfl (fun w hM => ?_) a w hF hM))
                exact ⟨by rw [evNo, fst_f h11, fst_f h17, fst_f h23, fst_f h29, if_f h39, fst_f h44, if_f h48], hM.below⟩
end Go.Proofs.YtfmbgaaonfgenaaGreatDoor
end
