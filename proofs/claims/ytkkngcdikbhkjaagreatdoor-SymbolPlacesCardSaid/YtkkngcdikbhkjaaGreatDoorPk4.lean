/- Part 4, merged by a program. symbol.Lines: the spans of a file's line. Conditions: those of each theorem. FuncAt, ModuleAt and what the reference has in their places. symbol.At: the places of an offset. Conditions: those of each theorem. What a right table keeps: rows rise, files are there. No program in sight. rowAt: the file and the line of an offset by rows. Condition: the table is right. symbol.at and symbol.At: the places of an offset. Conditions: those of each theorem. Shares, the plain law: what a name has is the number of offsets whose innermost owner has that name. No program in sight. symbol.At. The reference's places of an offset are those of symbol.at. No program in sight. -/
import Derived.Test.YtkkngcdikbhkjaaGreatDoorOwn
import Derived.Test.YtkkngcdikbhkjaaGreatDoorOpen
import Derived.Test.YtkkngcdikbhkjaaGreatDoorPk3
section
namespace Go.Proofs.YtkkngcdikbhkjaaGreatDoor
set_option linter.unusedSimpArgs false
set_option linter.unusedVariables false
set_option maxRecDepth 20000
open Go.RowKit Go.Eng
structure SSpan where
  fr : Int
  tu : Int
def SSpan.enc (s : SSpan) : List Value := [.int .i64 s.fr, .int .i64 s.tu]
/-- where a row's offsets end -/
def rowEnd (size : Int) : List SRow → Int
  | [] => size
  | r :: _ => r.pos
/-- the spans so far, and one more, joined where it begins where the last one ends -/
def addSpan (out : List SSpan) (fr tu : Int) : List SSpan :=
  match out.getLast? with
  | some k => if k.tu = fr then out.set (out.length - 1) ⟨k.fr, tu⟩ else out ++ [⟨fr, tu⟩]
  | none => [⟨fr, tu⟩]
def otherB (n ln : Int) (r : SRow) : Bool := !(decide (r.fi = n)) || !(decide (r.ln = ln))
def spansOf (size n ln : Int) : List SRow → List SSpan → List SSpan
  | [], out => out
  | r :: rest, out => if otherB n ln r = true then spansOf size n ln rest out else spansOf size n ln rest (addSpan out r.pos (rowEnd size rest))
theorem last_at {α : Type} (out : List α) : out.getLast? = if out = [] then none else out[out.length - 1]? := by
  cases out with
  | nil => rfl
  | cons a r => rw [if_neg (by simp), List.getLast?_eq_getElem?]
theorem addSpan_join {out : List SSpan} {k : SSpan} {fr tu : Int} (hk : out[out.length - 1]? = some k) (h : k.tu = fr) : addSpan out fr tu = out.set (out.length - 1) ⟨k.fr, tu⟩ := by
  unfold addSpan
  rw [last_at, if_neg (by rintro rfl; simp at hk), hk]
  simp only [if_pos h]
theorem addSpan_new {out : List SSpan} {k : SSpan} {fr tu : Int} (hk : 0 < out.length → out[out.length - 1]? = some k) (h : 0 < out.length → k.tu ≠ fr) : addSpan out fr tu = out ++ [⟨fr, tu⟩] := by
  unfold addSpan
  rw [last_at]
  by_cases h0 : out = []
  · rw [if_pos h0]; simp [h0]
  · have hl : 0 < out.length := List.length_pos_iff.2 h0
    rw [if_neg h0, hk hl]
    simp only [if_neg (h hl)]
def linesNo (t : Tab) (file : List UInt8) (ln : Int) : Int := fst (tabNo t) (if findI (eqS file) t.fi.l 0 < 0 then 7 else if outB ln 1 9999999 = true then 2 else 0)
def linesOut (t : Tab) (file : List UInt8) (ln : Int) : List SSpan := if linesNo t file ln = 0 then spansOf t.size (findI (eqS file) t.fi.l 0) ln t.ro.l [] else []
theorem fst_zero {a b : Int} (h : fst a b = 0) : a = 0 ∧ b = 0 := by
  unfold fst at h
  by_cases ha : a = 0
  · rw [if_neg (by simp [ha])] at h; exact ⟨ha, h⟩
  · rw [if_pos ha] at h; exact absurd h ha
theorem le_of_ite {p : Prop} [Decidable p] {a : Int} (h : (if p then (4 : Int) else a) = 0) : ¬ p ∧ a = 0 := by
  by_cases hp : p
  · rw [if_pos hp] at h; cases h
  · rw [if_neg hp] at h; exact ⟨hp, h⟩
/-- what a right table keeps -/
theorem rows_of {t : Tab} (h : tabNo t = 0) : (idOk t.id = true ∧ outB t.size 1 4294967296 = false) ∧ t.fi.q ≤ 200 ∧ t.fu.q ≤ 1000 ∧ t.ro.q ≤ 5000 ∧ t.ca.q ≤ 1000 := by
  unfold tabNo at h
  split at h
  · cases h
  rename_i h1
  split at h
  · cases h
  rename_i h2
  obtain ⟨a, h⟩ := fst_zero h
  obtain ⟨b, h⟩ := fst_zero h
  obtain ⟨c, d⟩ := fst_zero h
  have a := (le_of_ite a).1
  have b := (le_of_ite b).1
  have c := (le_of_ite c).1
  have d := (le_of_ite d).1
  exact ⟨⟨by simpa using h1, by simpa using h2⟩, by omega, by omega, by omega, by omega⟩
theorem Lines_any (t : Tab) (file : List UInt8) (ln : Int) (w : World) (hok : t.Ok w) :
    Calls Tryz.prog 63 #[.agg #[str t.id, .int .i64 t.size, .slice t.fi.A t.fi.q t.fi.c, .slice t.fu.A t.fu.q t.fu.c, .slice t.ro.A t.ro.q t.ro.c, .slice t.ca.A t.ca.q t.ca.c], str file, .int .i64 ln] w fun e w' => ∃ A c, e = .returned (.tuple #[.slice A (linesOut t file ln).length c, .int .i64 (linesNo t file ln)]) ∧
      w'.ownsRow w.heap.size 137 2 (.slice A (linesOut t file ln).length c) (linesOut t file ln).length ((linesOut t file ln).flatMap SSpan.enc) ∧ Below w.heap.size w w' := by
  have hq := hok.small
  have ht := hok.ro.t
  refine enter_args (args := [.agg #[str t.id, .int .i64 t.size, .slice t.fi.A t.fi.q t.fi.c, .slice t.fu.A t.fu.q t.fu.c, .slice t.ro.A t.ro.q t.ro.c, .slice t.ca.A t.ca.q t.ca.c], str file, .int .i64 ln]) (F := _) Tryz.func63 rfl Tryz.ntmps63 rfl rfl ?_
  intro Rb hRb hRn
  refine T_seq ?_
  refine T_region ?_
  refine S_box 3 3 rfl rfl rfl rfl rfl ?_
  intro b3
  refine S_nilSlice 6 (e := 137) (size := 2) ?_
  refine S_ 6 rfl rfl rfl _ (y_assign rfl rfl) ?_
  refine S_ 7 rfl rfl rfl _ (y_assign rfl rfl) ?_
  refine S_go (fun _ _ h => h) ?_
  refine T_seq ?_
  refine T_seq ?_
  refine T_region ?_
  refine S_ 15 rfl rfl rfl _ (y_loadA 3 rfl rfl rfl Tryz.underlying62 rfl sz62) ?_
  refine S_ 16 rfl rfl rfl _ (y_call rfl rfl rfl cf123 (fun _ w hM => CheckTable_any t w (hok.below hM.below))) ?_
  refine S_ 8 rfl rfl rfl _ (y_assign rfl rfl) ?_
  refine S_go (fun _ _ h => h) ?_
  refine T_seq ?_
  refine T_region ?_
  refine S_ 17 rfl rfl rfl _ (y_move rfl rfl) ?_
  refine S_ 18 rfl rfl rfl _ (y_bin rfl rfl rfl (fun _ => b_neq)) ?_
  refine S_go (fun _ _ h => h) ?_
  refine T_cond rfl (fun h18 => ?_) (fun h18 => ?_)
  · try simp only [decide_eq_true_eq, decide_eq_false_iff_not, Bool.or_eq_true, Bool.or_eq_false_iff, Bool.and_eq_true, Bool.and_eq_false_iff, Bool.not_eq_true', Bool.not_eq_false', Bool.not_eq_true, Bool.not_eq_false, Bool.not_true, Bool.not_false, Int.not_lt, Int.not_le, not_or, not_and, Classical.not_not] at h18
    refine T_seq ?_
    refine T_region ?_
    refine S_ 19 rfl rfl rfl _ (y_move rfl rfl) ?_
    refine S_nilSlice 6 (e := 137) (size := 2) ?_
    refine S_ 6 rfl rfl rfl _ (y_assign rfl rfl) ?_
    refine S_ 7 rfl rfl rfl _ (y_assign rfl rfl) ?_
    refine S_go (fun _ _ h => h) ?_
    refine T_ret (fun a w hF hM => hRb a w (post2 rfl rfl rfl (fun w hM => ?_) a w hF hM))
    have e : linesNo t file ln = tabNo t := fst_a rfl h18
    have e2 : linesOut t file ln = [] := by rw [linesOut, e, if_neg (by first | exact h18 | decide)]
    rw [e, e2]
    exact ⟨none, 0, rfl, hM.sat 6 _ rfl, hM.below⟩
  · try simp only [decide_eq_true_eq, decide_eq_false_iff_not, Bool.or_eq_true, Bool.or_eq_false_iff, Bool.and_eq_true, Bool.and_eq_false_iff, Bool.not_eq_true', Bool.not_eq_false', Bool.not_eq_true, Bool.not_eq_false, Bool.not_true, Bool.not_false, Int.not_lt, Int.not_le, not_or, not_and, Classical.not_not] at h18
    have hr := rows_of h18
    refine T_skip_go (fun _ _ h => h) ?_
    refine T_seq ?_
    refine T_region ?_
    refine S_ 20 rfl rfl rfl _ (y_fieldAddr rfl rfl fa62_2) ?_
    refine S_ 21 rfl rfl rfl _ (y_load 3 rfl rfl rfl rfl Tryz.underlying57 rfl) ?_
    refine S_ 22 rfl rfl rfl _ (y_move rfl rfl) ?_
    refine S_ 23 rfl rfl rfl _ (y_call rfl rfl rfl cf130 (fun _ w hM => IndexS_any _ _ _ _ _ w (hok.fi.t.below hM.below) (by omega))) ?_
    refine S_ 9 rfl rfl rfl _ (y_assign rfl rfl) ?_
    refine S_go (fun _ _ h => h) ?_
    refine T_seq ?_
    refine T_seq ?_
    refine T_region ?_
    refine S_ 24 rfl rfl rfl _ (y_move rfl rfl) ?_
    refine S_ 25 rfl rfl rfl _ (y_bin rfl rfl rfl (fun _ => b_lss)) ?_
    refine S_go (fun _ _ h => h) ?_
    refine T_cond rfl (fun h25 => ?_) (fun h25 => ?_)
    · try simp only [decide_eq_true_eq, decide_eq_false_iff_not, Bool.or_eq_true, Bool.or_eq_false_iff, Bool.and_eq_true, Bool.and_eq_false_iff, Bool.not_eq_true', Bool.not_eq_false', Bool.not_eq_true, Bool.not_eq_false, Bool.not_true, Bool.not_false, Int.not_lt, Int.not_le, not_or, not_and, Classical.not_not] at h25
      refine T_seq ?_
      refine T_region ?_
      refine S_nilSlice 6 (e := 137) (size := 2) ?_
      refine S_ 6 rfl rfl rfl _ (y_assign rfl rfl) ?_
      refine S_ 7 rfl rfl rfl _ (y_assign rfl rfl) ?_
      refine S_go (fun _ _ h => h) ?_
      refine T_ret (fun a w hF hM => hRb a w (post2 rfl rfl rfl (fun w hM => ?_) a w hF hM))
      have e : linesNo t file ln = 7 := fst_b h18 (if_pos h25)
      have e2 : linesOut t file ln = [] := by rw [linesOut, e, if_neg (by first | exact h18 | decide)]
      rw [e, e2]
      exact ⟨none, 0, rfl, hM.sat 6 _ rfl, hM.below⟩
    · try simp only [decide_eq_true_eq, decide_eq_false_iff_not, Bool.or_eq_true, Bool.or_eq_false_iff, Bool.and_eq_true, Bool.and_eq_false_iff, Bool.not_eq_true', Bool.not_eq_false', Bool.not_eq_true, Bool.not_eq_false, Bool.not_true, Bool.not_false, Int.not_lt, Int.not_le, not_or, not_and, Classical.not_not] at h25
      refine T_skip_go (fun _ _ h => h) ?_
      refine T_seq ?_
      refine T_seq ?_
      refine T_region ?_
      refine S_ 26 rfl rfl rfl _ (y_move rfl rfl) ?_
      refine S_ 27 rfl rfl rfl _ (y_call rfl rfl rfl cf166 (fun _ w _ => outsideB_any _ _ _ w)) ?_
      refine S_go (fun _ _ h => h) ?_
      refine T_cond rfl (fun h27 => ?_) (fun h27 => ?_)
      · skip
        refine T_seq ?_
        refine T_region ?_
        refine S_nilSlice 6 (e := 137) (size := 2) ?_
        refine S_ 6 rfl rfl rfl _ (y_assign rfl rfl) ?_
        refine S_ 7 rfl rfl rfl _ (y_assign rfl rfl) ?_
        refine S_go (fun _ _ h => h) ?_
        refine T_ret (fun a w hF hM => hRb a w (post2 rfl rfl rfl (fun w hM => ?_) a w hF hM))
        have e : linesNo t file ln = 2 := fst_b h18 ((if_neg (by omega)).trans (if_t h27))
        have e2 : linesOut t file ln = [] := by rw [linesOut, e, if_neg (by first | exact h18 | decide)]
        rw [e, e2]
        exact ⟨none, 0, rfl, hM.sat 6 _ rfl, hM.below⟩
      · skip
        refine T_skip_go (fun _ _ h => h) ?_
        refine T_seq ?_
        refine T_region ?_
        refine S_nilSlice 10 (e := 137) (size := 2) ?_
        refine S_ 10 rfl rfl rfl _ (y_assign rfl rfl) ?_
        refine S_go (fun _ _ h => h) ?_
        refine T_seq ?_
        refine T_seq ?_
        refine T_region ?_
        refine S_ 28 rfl rfl rfl _ (y_fieldAddr rfl rfl fa62_4) ?_
        refine S_ 29 rfl rfl rfl _ (y_load 3 rfl rfl rfl rfl Tryz.underlying59 rfl) ?_
        refine S_ 30 rfl rfl rfl _ (y_len_slice rfl rfl Tryz.underlying59) ?_
        refine S_ 31 rfl rfl rfl _ (y_move rfl rfl) ?_
        refine S_go (fun _ _ h => h) ?_
        refine T_block ?_
        refine T_loopK5 (kf := [(10, 14), (31, 88)]) (kl := [(10, 14), (31, 88)]) (fun (i : Nat) (out : List SSpan) (q : Nat) (A : Option Addr) (c : Nat) => [(31, true, .int .i64 (i : Int)), (10, true, .slice A q c)]) (fun (i : Nat) (out : List SSpan) (q : Nat) (A : Option Addr) (c : Nat) => [(10, .own 137 2 (.slice A q c) q (out.flatMap SSpan.enc))]) (fun (i : Nat) (out : List SSpan) (q : Nat) (A : Option Addr) (c : Nat) => i ≤ t.ro.q ∧ spansOf t.size (findI (eqS file) t.fi.l 0) ln t.ro.l [] = spansOf t.size (findI (eqS file) t.fi.l 0) ln (t.ro.l.drop i) out ∧ q ≤ i ∧ out.length = q) (fun (i : Nat) (out : List SSpan) (q : Nat) (A : Option Addr) (c : Nat) => t.ro.q - i) 0 [] 0 none 0 (by repeat (first | exact kf_nil | (apply kf_in; focus rfl) | (apply kf_out; focus rfl))) (by repeat (first | exact kl_nil | exact kl_rest (by assumption) rfl | (apply kl_in; focus rfl) | (apply kl_out; focus rfl))) ?_ ?_ ?_ ?_
        · exact ⟨by omega, rfl, by simp, rfl⟩
        · exact ⟨rfl, rfl, trivial⟩
        · exact ⟨rfl, trivial⟩
        rintro i out q A c ⟨hp1, hp2, hp3, hp4⟩
        refine T_seq ?_
        refine T_region ?_
        refine S_ 32 rfl rfl rfl _ (y_bin rfl rfl rfl (fun _ => b_lss)) ?_
        refine S_go (fun _ _ h => h) ?_
        refine T_seq ?_
        refine T_cond rfl (fun h32 => ?_) (fun h32 => ?_)
        · try simp only [decide_eq_true_eq, decide_eq_false_iff_not, Bool.or_eq_true, Bool.or_eq_false_iff, Bool.and_eq_true, Bool.and_eq_false_iff, Bool.not_eq_true', Bool.not_eq_false', Bool.not_eq_true, Bool.not_eq_false, Bool.not_true, Bool.not_false, Int.not_lt, Int.not_le, not_or, not_and, Classical.not_not] at h32
          obtain ⟨r, hx1, hx2⟩ := ht.at (i := i) (by omega)
          refine T_skip_go (fun _ _ h => h) ?_
          refine T_seq ?_
          refine T_block ?_
          refine T_seq ?_
          refine T_region ?_
          refine S_ 33 rfl rfl rfl _ (y_move rfl rfl) ?_
          refine S_ 34 rfl rfl rfl _ (y_indexAddr rfl rfl rfl Tryz.underlying59 sz198 (fun hg => ht.isSome (by omega)) (fun _ => by omega)) ?_
          refine S_ 35 rfl rfl rfl _ (y_loadT rfl rfl ht (fun _ => rfl) (fun _ => hx1) Tryz.underlying198 rfl sz198) ?_
          refine S_alloc 12 12 rfl rfl rfl rfl z198 ?_
          intro b12
          refine S_ 11 rfl rfl rfl _ (y_assign rfl rfl) ?_
          refine S_store 12 rfl rfl rfl rfl rfl rfl sz198 rfl rfl ?_
          refine S_go (fun _ _ h => h) ?_
          refine T_seq ?_
          refine T_seq ?_
          refine T_region ?_
          refine S_ 36 rfl rfl rfl _ (y_fieldAddr rfl rfl fa198_1) ?_
          refine S_ 37 rfl rfl rfl _ (y_load 12 rfl rfl rfl rfl Tryz.underlying3 rfl) ?_
          refine S_ 38 rfl rfl rfl _ (y_move rfl rfl) ?_
          refine S_ 39 rfl rfl rfl _ (y_bin rfl rfl rfl (fun _ => b_neq)) ?_
          refine S_ 40 rfl rfl rfl _ (y_move rfl rfl) ?_
          refine Sg_ 41 rfl rfl rfl rfl rfl rfl _ (y_fieldAddr rfl rfl fa198_2) ?_
          refine Sg_ 42 rfl rfl rfl rfl rfl rfl _ (y_load 12 rfl rfl rfl rfl Tryz.underlying3 rfl) ?_
          refine Sg_ 43 rfl rfl rfl rfl rfl rfl _ (y_move rfl rfl) ?_
          refine Sg_ 44 rfl rfl rfl rfl rfl rfl _ (y_bin rfl rfl rfl (fun _ => b_neq)) ?_
          refine S_ 45 rfl rfl rfl _ (y_as (v' := .bool (otherB (findI (eqS file) t.fi.l 0) ln r)) (by exact rfl) (y_or rfl rfl rfl)) ?_
          refine S_go (fun _ _ h => h) ?_
          refine T_cond rfl (fun h45 => ?_) (fun h45 => ?_)
          · skip
            refine T_exit_go (fun _ _ h => h) ?_
            refine T_region ?_
            refine S_ 88 rfl rfl rfl _ (y_bin rfl rfl rfl (fun hg => b_add (by omega))) ?_
            refine S_ 31 rfl rfl rfl _ (y_move rfl rfl) ?_
            refine S_nil (nextK5 (kf := [(10, 14), (31, 88)]) (kl := [(10, 14), (31, 88)]) (i + 1) out q A c (by repeat (first | exact kf_nil | (apply kf_in; focus rfl) | (apply kf_out; focus rfl))) (by repeat (first | exact kl_nil | exact kl_rest (by assumption) rfl | (apply kl_in; focus rfl) | (apply kl_out; focus rfl))) ?_ ?_ ?_ ?_)
            · omega
            · exact ⟨by omega, by rw [hp2, hx2, spansOf, if_t h45], by omega, hp4⟩
            · exact ⟨rfl, rfl, trivial⟩
            · exact ⟨rfl, trivial⟩
          · skip
            refine T_skip_go (fun _ _ h => h) ?_
            refine T_seq ?_
            refine T_region ?_
            refine S_ 46 rfl rfl rfl _ (y_fieldAddr rfl rfl fa62_1) ?_
            refine S_ 47 rfl rfl rfl _ (y_load 3 rfl rfl rfl rfl Tryz.underlying3 rfl) ?_
            refine S_ 13 rfl rfl rfl _ (y_assign rfl rfl) ?_
            refine S_go (fun _ _ h => h) ?_
            refine T_seq ?_
            refine T_seq ?_
            refine T_region ?_
            refine S_ 48 rfl rfl rfl _ (y_move rfl rfl) ?_
            refine S_ 49 rfl rfl rfl _ (y_bin rfl rfl rfl (fun hg => b_add (by omega))) ?_
            refine S_ 50 rfl rfl rfl _ (y_fieldAddr rfl rfl fa62_4) ?_
            refine S_ 51 rfl rfl rfl _ (y_load 3 rfl rfl rfl rfl Tryz.underlying59 rfl) ?_
            refine S_ 52 rfl rfl rfl _ (y_len_slice rfl rfl Tryz.underlying59) ?_
            refine S_ 53 rfl rfl rfl _ (y_bin rfl rfl rfl (fun _ => b_lss)) ?_
            refine S_go (fun _ _ h => h) ?_
            refine T_cond rfl (fun h53 => ?_) (fun h53 => ?_)
            · try simp only [decide_eq_true_eq, decide_eq_false_iff_not, Bool.or_eq_true, Bool.or_eq_false_iff, Bool.and_eq_true, Bool.and_eq_false_iff, Bool.not_eq_true', Bool.not_eq_false', Bool.not_eq_true, Bool.not_eq_false, Bool.not_true, Bool.not_false, Int.not_lt, Int.not_le, not_or, not_and, Classical.not_not] at h53
              obtain ⟨r2, hy1, hy2⟩ := ht.at (i := i + 1) (by omega)
              have hend : rowEnd t.size (t.ro.l.drop (i + 1)) = r2.pos := by rw [hy2]; rfl
              refine T_region ?_
              refine S_ 54 rfl rfl rfl _ (y_fieldAddr rfl rfl fa62_4) ?_
              refine S_ 55 rfl rfl rfl _ (y_load 3 rfl rfl rfl rfl Tryz.underlying59 rfl) ?_
              refine S_ 56 rfl rfl rfl _ (y_move rfl rfl) ?_
              refine S_ 57 rfl rfl rfl _ (y_bin rfl rfl rfl (fun hg => b_addv (((i + 1 : Nat) : Int)) (by omega) (by omega))) ?_
              refine S_ 58 rfl rfl rfl _ (y_indexAddr rfl rfl rfl Tryz.underlying59 sz198 (fun hg => ht.isSome (by omega)) (fun _ => by omega)) ?_
              refine S_ 59 rfl rfl rfl _ (y_fieldEl rfl rfl ht.rd (fun _ => by omega) fa198_0) ?_
              refine S_ 60 rfl rfl rfl _ (y_load_fT rfl rfl ht (fun _ => rfl) (fun _ => hy1) rfl Tryz.underlying3 rfl) ?_
              refine S_ 13 rfl rfl rfl _ (y_assign rfl rfl) ?_
              refine S_go (fun _ _ h => h) ?_
              refine T_seq ?_
              refine T_region ?_
              obtain ⟨k, hk⟩ : ∃ k : SSpan, 0 < q → out[q - 1]? = some k := by
                by_cases h0 : 0 < q
                · exact ⟨out[q - 1], fun _ => by simp [hp4]⟩
                · exact ⟨⟨0, 0⟩, fun h => absurd h h0⟩
              refine S_ 61 rfl rfl rfl _ (y_move rfl rfl) ?_
              refine S_ 62 rfl rfl rfl _ (y_len_slice rfl rfl Tryz.underlying122) ?_
              refine S_ 63 rfl rfl rfl _ (y_bin rfl rfl rfl (fun hg => b_sub (by omega))) ?_
              refine S_ 14 rfl rfl rfl _ (y_assign rfl rfl) ?_
              refine S_go (fun _ _ h => h) ?_
              refine T_seq ?_
              refine T_draws (by kernel_rfl) (by kernel_rfl) ?_
              refine D_ 64 rfl rfl rfl _ (y_move rfl rfl) ?_
              refine D_ 65 rfl rfl rfl _ (y_bin rfl rfl rfl (fun _ => b_geq)) ?_
              refine D_ 66 rfl rfl rfl _ (y_move rfl rfl) ?_
              refine Dg_ 67 rfl rfl rfl rfl rfl rfl _ (y_move rfl rfl) ?_
              refine Dg_ 68 rfl rfl rfl rfl rfl rfl _ (y_move rfl rfl) ?_
              refine Dg_ 69 rfl rfl rfl rfl rfl rfl _ (y_indexOwnI (j := q - 1) 10 rfl rfl rfl (fun hg => by simp only [Bool.true_and, Bool.and_eq_true, beq_iff_eq, decide_eq_true_eq, decide_eq_false_iff_not, Int.not_lt, Int.not_le] at hg; omega) rfl Tryz.underlying122 sz137 (fun hg => by simp only [Bool.true_and, Bool.and_eq_true, beq_iff_eq, decide_eq_true_eq, decide_eq_false_iff_not, Int.not_lt, Int.not_le] at hg; omega)) ?_
              refine Dg_ 70 rfl rfl rfl rfl rfl rfl _ (y_fieldOwn 10 rfl rfl rfl (fun hg => by simp only [Bool.true_and, Bool.and_eq_true, beq_iff_eq, decide_eq_true_eq, decide_eq_false_iff_not, Int.not_lt, Int.not_le] at hg; omega) fa137_1) ?_
              refine Dg_ 71 rfl rfl rfl rfl rfl rfl _ (y_load_cellOwn 10 rfl rfl rfl (fun hg => by simp only [Bool.true_and, Bool.and_eq_true, beq_iff_eq, decide_eq_true_eq, decide_eq_false_iff_not, Int.not_lt, Int.not_le] at hg; omega) (v := .int .i64 k.tu) (fun hg => flat_at (enc := SSpan.enc) (size := 2) (fun _ => rfl) (hk (by simp only [Bool.true_and, Bool.and_eq_true, beq_iff_eq, decide_eq_true_eq, decide_eq_false_iff_not, Int.not_lt, Int.not_le] at hg; omega)) 1 (.int .i64 k.tu) rfl) Tryz.underlying3 rfl) ?_
              refine Dg_ 72 rfl rfl rfl rfl rfl rfl _ (y_fieldAddr rfl rfl fa198_0) ?_
              refine Dg_ 73 rfl rfl rfl rfl rfl rfl _ (y_load 12 rfl rfl rfl rfl Tryz.underlying3 rfl) ?_
              refine Dg_ 74 rfl rfl rfl rfl rfl rfl _ (y_bin rfl rfl rfl (fun _ => b_eql)) ?_
              refine D_ 75 rfl rfl rfl _ (y_and rfl rfl rfl) ?_
              refine D_go (fun _ _ h => h) ?_
              refine T_cond rfl (fun h75 => ?_) (fun h75 => ?_)
              · try simp only [decide_eq_true_eq, decide_eq_false_iff_not, Bool.or_eq_true, Bool.or_eq_false_iff, Bool.and_eq_true, Bool.and_eq_false_iff, Bool.not_eq_true', Bool.not_eq_false', Bool.not_eq_true, Bool.not_eq_false, Bool.not_true, Bool.not_false, Int.not_lt, Int.not_le, not_or, not_and, Classical.not_not] at h75
                refine T_region ?_
                refine S_ 76 rfl rfl rfl _ (y_move rfl rfl) ?_
                refine S_ 77 rfl rfl rfl _ (y_move rfl rfl) ?_
                refine S_ 78 rfl rfl rfl _ (y_move rfl rfl) ?_
                refine S_ 79 rfl rfl rfl _ (y_indexOwnI (j := q - 1) 10 rfl rfl rfl (fun _ => by omega) rfl Tryz.underlying122 sz137 (fun _ => by omega)) ?_
                refine S_ 80 rfl rfl rfl _ (y_fieldOwn 10 rfl rfl rfl (fun _ => by omega) fa137_1) ?_
                refine S_storeOwn 10 rfl rfl rfl rfl rfl rfl sz3 rfl rfl ?_ (xs' := (out.set (q - 1) ⟨k.fr, r2.pos⟩).flatMap SSpan.enc) ?_ ?_
                · (rw [flat_len (e := SSpan.enc) (size := 2) (fun _ => rfl)]; omega)
                · exact flat_set (enc := SSpan.enc) (size := 2) (off := 1) (fun _ => rfl) (hk (by omega)) (by decide) rfl
                refine S_go (fun _ _ h => h) ?_
                refine T_region ?_
                refine S_ 88 rfl rfl rfl _ (y_bin rfl rfl rfl (fun hg => b_add (by omega))) ?_
                refine S_ 31 rfl rfl rfl _ (y_move rfl rfl) ?_
                refine S_nil (nextK5 (kf := [(10, 14), (31, 88)]) (kl := [(10, 14), (31, 88)]) (i + 1) (out.set (q - 1) ⟨k.fr, r2.pos⟩) q A c (by repeat (first | exact kf_nil | (apply kf_in; focus rfl) | (apply kf_out; focus rfl))) (by repeat (first | exact kl_nil | exact kl_rest (by assumption) rfl | (apply kl_in; focus rfl) | (apply kl_out; focus rfl))) ?_ ?_ ?_ ?_)
                · omega
                · exact ⟨by omega, by rw [hp2, hx2, spansOf, if_f h45, hend, addSpan_join (k := k) (by rw [hp4]; exact hk (by omega)) (by omega), hp4], by omega, by simp [hp4]⟩
                · exact ⟨rfl, rfl, trivial⟩
                · exact ⟨rfl, trivial⟩
              · try simp only [decide_eq_true_eq, decide_eq_false_iff_not, Bool.or_eq_true, Bool.or_eq_false_iff, Bool.and_eq_true, Bool.and_eq_false_iff, Bool.not_eq_true', Bool.not_eq_false', Bool.not_eq_true, Bool.not_eq_false, Bool.not_true, Bool.not_false, Int.not_lt, Int.not_le, not_or, not_and, Classical.not_not] at h75
                refine T_region ?_
                refine S_ 81 rfl rfl rfl _ (y_move rfl rfl) ?_
                refine S_ 82 rfl rfl rfl _ (y_fieldAddr rfl rfl fa198_0) ?_
                refine S_ 83 rfl rfl rfl _ (y_load 12 rfl rfl rfl rfl Tryz.underlying3 rfl) ?_
                refine S_ 84 rfl rfl rfl _ (y_move rfl rfl) ?_
                refine S_ 85 rfl rfl rfl _ (y_build (zv := .agg #[.int .i64 0, .int .i64 0]) (pl := [(0, 1), (1, 1)]) (out := [_, _]) rfl rfl Tryz.underlying137 z137 (by kernel_rfl) rfl) ?_
                refine S_buildSlice 86 86 rfl rfl rfl rfl rfl Tryz.underlying122 inf137 rfl (by decide) (by decide) rfl rfl (by decide) rfl (_) rfl ?_
                intro b86
                obtain ⟨i87, hi87, hz87, hs87, hy87⟩ := info_parts inf137
                refine S_append 87 10 86 rfl rfl rfl rfl rfl rfl rfl rfl Tryz.underlying122 hi87 hz87 hs87 hy87 rfl (by decide) (by decide) rfl ?_ ?_ (q + 1) ((out ++ [(⟨r.pos, r2.pos⟩ : SSpan)]).flatMap SSpan.enc) ?_ ?_ ?_
                · (simp only [maxLen]; omega)
                · omega
                · rfl
                · simp [List.flatMap_append, SSpan.enc]; rfl
                intro A87 c87
                refine S_ 10 rfl rfl rfl _ (y_assign rfl rfl) ?_
                refine S_go (fun _ _ h => h) ?_
                refine T_region ?_
                refine S_ 88 rfl rfl rfl _ (y_bin rfl rfl rfl (fun hg => b_add (by omega))) ?_
                refine S_ 31 rfl rfl rfl _ (y_move rfl rfl) ?_
                refine S_nil (nextK5 (kf := [(10, 14), (31, 88)]) (kl := [(10, 14), (31, 88)]) (i + 1) (out ++ [⟨r.pos, r2.pos⟩]) (q + 1) A87 c87 (by repeat (first | exact kf_nil | (apply kf_in; focus rfl) | (apply kf_out; focus rfl))) (by repeat (first | exact kl_nil | exact kl_rest (by assumption) rfl | (apply kl_in; focus rfl) | (apply kl_out; focus rfl))) ?_ ?_ ?_ ?_)
                · omega
                · exact ⟨by omega, by rw [hp2, hx2, spansOf, if_f h45, hend, addSpan_new (k := k) (by rw [hp4]; exact hk) (by rw [hp4]; omega)], by omega, by simp [hp4]⟩
                · exact ⟨rfl, rfl, trivial⟩
                · exact ⟨rfl, trivial⟩
            · try simp only [decide_eq_true_eq, decide_eq_false_iff_not, Bool.or_eq_true, Bool.or_eq_false_iff, Bool.and_eq_true, Bool.and_eq_false_iff, Bool.not_eq_true', Bool.not_eq_false', Bool.not_eq_true, Bool.not_eq_false, Bool.not_true, Bool.not_false, Int.not_lt, Int.not_le, not_or, not_and, Classical.not_not] at h53
              have hend : rowEnd t.size (t.ro.l.drop (i + 1)) = t.size := by rw [ht.end (by omega)]; rfl
              refine T_skip_go (fun _ _ h => h) ?_
              refine T_seq ?_
              refine T_region ?_
              obtain ⟨k, hk⟩ : ∃ k : SSpan, 0 < q → out[q - 1]? = some k := by
                by_cases h0 : 0 < q
                · exact ⟨out[q - 1], fun _ => by simp [hp4]⟩
                · exact ⟨⟨0, 0⟩, fun h => absurd h h0⟩
              refine S_ 61 rfl rfl rfl _ (y_move rfl rfl) ?_
              refine S_ 62 rfl rfl rfl _ (y_len_slice rfl rfl Tryz.underlying122) ?_
              refine S_ 63 rfl rfl rfl _ (y_bin rfl rfl rfl (fun hg => b_sub (by omega))) ?_
              refine S_ 14 rfl rfl rfl _ (y_assign rfl rfl) ?_
              refine S_go (fun _ _ h => h) ?_
              refine T_seq ?_
              refine T_draws (by kernel_rfl) (by kernel_rfl) ?_
              refine D_ 64 rfl rfl rfl _ (y_move rfl rfl) ?_
              refine D_ 65 rfl rfl rfl _ (y_bin rfl rfl rfl (fun _ => b_geq)) ?_
              refine D_ 66 rfl rfl rfl _ (y_move rfl rfl) ?_
              refine Dg_ 67 rfl rfl rfl rfl rfl rfl _ (y_move rfl rfl) ?_
              refine Dg_ 68 rfl rfl rfl rfl rfl rfl _ (y_move rfl rfl) ?_
              refine Dg_ 69 rfl rfl rfl rfl rfl rfl _ (y_indexOwnI (j := q - 1) 10 rfl rfl rfl (fun hg => by simp only [Bool.true_and, Bool.and_eq_true, beq_iff_eq, decide_eq_true_eq, decide_eq_false_iff_not, Int.not_lt, Int.not_le] at hg; omega) rfl Tryz.underlying122 sz137 (fun hg => by simp only [Bool.true_and, Bool.and_eq_true, beq_iff_eq, decide_eq_true_eq, decide_eq_false_iff_not, Int.not_lt, Int.not_le] at hg; omega)) ?_
              refine Dg_ 70 rfl rfl rfl rfl rfl rfl _ (y_fieldOwn 10 rfl rfl rfl (fun hg => by simp only [Bool.true_and, Bool.and_eq_true, beq_iff_eq, decide_eq_true_eq, decide_eq_false_iff_not, Int.not_lt, Int.not_le] at hg; omega) fa137_1) ?_
              refine Dg_ 71 rfl rfl rfl rfl rfl rfl _ (y_load_cellOwn 10 rfl rfl rfl (fun hg => by simp only [Bool.true_and, Bool.and_eq_true, beq_iff_eq, decide_eq_true_eq, decide_eq_false_iff_not, Int.not_lt, Int.not_le] at hg; omega) (v := .int .i64 k.tu) (fun hg => flat_at (enc := SSpan.enc) (size := 2) (fun _ => rfl) (hk (by simp only [Bool.true_and, Bool.and_eq_true, beq_iff_eq, decide_eq_true_eq, decide_eq_false_iff_not, Int.not_lt, Int.not_le] at hg; omega)) 1 (.int .i64 k.tu) rfl) Tryz.underlying3 rfl) ?_
              refine Dg_ 72 rfl rfl rfl rfl rfl rfl _ (y_fieldAddr rfl rfl fa198_0) ?_
              refine Dg_ 73 rfl rfl rfl rfl rfl rfl _ (y_load 12 rfl rfl rfl rfl Tryz.underlying3 rfl) ?_
              refine Dg_ 74 rfl rfl rfl rfl rfl rfl _ (y_bin rfl rfl rfl (fun _ => b_eql)) ?_
              refine D_ 75 rfl rfl rfl _ (y_and rfl rfl rfl) ?_
              refine D_go (fun _ _ h => h) ?_
              refine T_cond rfl (fun h75 => ?_) (fun h75 => ?_)
              · try simp only [decide_eq_true_eq, decide_eq_false_iff_not, Bool.or_eq_true, Bool.or_eq_false_iff, Bool.and_eq_true, Bool.and_eq_false_iff, Bool.not_eq_true', Bool.not_eq_false', Bool.not_eq_true, Bool.not_eq_false, Bool.not_true, Bool.not_false, Int.not_lt, Int.not_le, not_or, not_and, Classical.not_not] at h75
                refine T_region ?_
                refine S_ 76 rfl rfl rfl _ (y_move rfl rfl) ?_
                refine S_ 77 rfl rfl rfl _ (y_move rfl rfl) ?_
                refine S_ 78 rfl rfl rfl _ (y_move rfl rfl) ?_
                refine S_ 79 rfl rfl rfl _ (y_indexOwnI (j := q - 1) 10 rfl rfl rfl (fun _ => by omega) rfl Tryz.underlying122 sz137 (fun _ => by omega)) ?_
                refine S_ 80 rfl rfl rfl _ (y_fieldOwn 10 rfl rfl rfl (fun _ => by omega) fa137_1) ?_
                refine S_storeOwn 10 rfl rfl rfl rfl rfl rfl sz3 rfl rfl ?_ (xs' := (out.set (q - 1) ⟨k.fr, t.size⟩).flatMap SSpan.enc) ?_ ?_
                · (rw [flat_len (e := SSpan.enc) (size := 2) (fun _ => rfl)]; omega)
                · exact flat_set (enc := SSpan.enc) (size := 2) (off := 1) (fun _ => rfl) (hk (by omega)) (by decide) rfl
                refine S_go (fun _ _ h => h) ?_
                refine T_region ?_
                refine S_ 88 rfl rfl rfl _ (y_bin rfl rfl rfl (fun hg => b_add (by omega))) ?_
                refine S_ 31 rfl rfl rfl _ (y_move rfl rfl) ?_
                refine S_nil (nextK5 (kf := [(10, 14), (31, 88)]) (kl := [(10, 14), (31, 88)]) (i + 1) (out.set (q - 1) ⟨k.fr, t.size⟩) q A c (by repeat (first | exact kf_nil | (apply kf_in; focus rfl) | (apply kf_out; focus rfl))) (by repeat (first | exact kl_nil | exact kl_rest (by assumption) rfl | (apply kl_in; focus rfl) | (apply kl_out; focus rfl))) ?_ ?_ ?_ ?_)
                · omega
                · exact ⟨by omega, by rw [hp2, hx2, spansOf, if_f h45, hend, addSpan_join (k := k) (by rw [hp4]; exact hk (by omega)) (by omega), hp4], by omega, by simp [hp4]⟩
                · exact ⟨rfl, rfl, trivial⟩
                · exact ⟨rfl, trivial⟩
              · try simp only [decide_eq_true_eq, decide_eq_false_iff_not, Bool.or_eq_true, Bool.or_eq_false_iff, Bool.and_eq_true, Bool.and_eq_false_iff, Bool.not_eq_true', Bool.not_eq_false', Bool.not_eq_true, Bool.not_eq_false, Bool.not_true, Bool.not_false, Int.not_lt, Int.not_le, not_or, not_and, Classical.not_not] at h75
                refine T_region ?_
                refine S_ 81 rfl rfl rfl _ (y_move rfl rfl) ?_
                refine S_ 82 rfl rfl rfl _ (y_fieldAddr rfl rfl fa198_0) ?_
                refine S_ 83 rfl rfl rfl _ (y_load 12 rfl rfl rfl rfl Tryz.underlying3 rfl) ?_
                refine S_ 84 rfl rfl rfl _ (y_move rfl rfl) ?_
                refine S_ 85 rfl rfl rfl _ (y_build (zv := .agg #[.int .i64 0, .int .i64 0]) (pl := [(0, 1), (1, 1)]) (out := [_, _]) rfl rfl Tryz.underlying137 z137 (by kernel_rfl) rfl) ?_
                refine S_buildSlice 86 86 rfl rfl rfl rfl rfl Tryz.underlying122 inf137 rfl (by decide) (by decide) rfl rfl (by decide) rfl (_) rfl ?_
                intro b86
                obtain ⟨i87, hi87, hz87, hs87, hy87⟩ := info_parts inf137
                refine S_append 87 10 86 rfl rfl rfl rfl rfl rfl rfl rfl Tryz.underlying122 hi87 hz87 hs87 hy87 rfl (by decide) (by decide) rfl ?_ ?_ (q + 1) ((out ++ [(⟨r.pos, t.size⟩ : SSpan)]).flatMap SSpan.enc) ?_ ?_ ?_
                · (simp only [maxLen]; omega)
                · omega
                · rfl
                · simp [List.flatMap_append, SSpan.enc]; rfl
                intro A87 c87
                refine S_ 10 rfl rfl rfl _ (y_assign rfl rfl) ?_
                refine S_go (fun _ _ h => h) ?_
                refine T_region ?_
                refine S_ 88 rfl rfl rfl _ (y_bin rfl rfl rfl (fun hg => b_add (by omega))) ?_
                refine S_ 31 rfl rfl rfl _ (y_move rfl rfl) ?_
                refine S_nil (nextK5 (kf := [(10, 14), (31, 88)]) (kl := [(10, 14), (31, 88)]) (i + 1) (out ++ [⟨r.pos, t.size⟩]) (q + 1) A87 c87 (by repeat (first | exact kf_nil | (apply kf_in; focus rfl) | (apply kf_out; focus rfl))) (by repeat (first | exact kl_nil | exact kl_rest (by assumption) rfl | (apply kl_in; focus rfl) | (apply kl_out; focus rfl))) ?_ ?_ ?_ ?_)
                · omega
                · exact ⟨by omega, by rw [hp2, hx2, spansOf, if_f h45, hend, addSpan_new (k := k) (by rw [hp4]; exact hk) (by rw [hp4]; omega)], by omega, by simp [hp4]⟩
                · exact ⟨rfl, rfl, trivial⟩
                · exact ⟨rfl, trivial⟩
        · try simp only [decide_eq_true_eq, decide_eq_false_iff_not, Bool.or_eq_true, Bool.or_eq_false_iff, Bool.and_eq_true, Bool.and_eq_false_iff, Bool.not_eq_true', Bool.not_eq_false', Bool.not_eq_true, Bool.not_eq_false, Bool.not_true, Bool.not_false, Int.not_lt, Int.not_le, not_or, not_and, Classical.not_not] at h32
          refine T_exit_go (fun _ _ h => h) ?_
          refine T_seq ?_
          refine T_region ?_
          refine S_ 89 rfl rfl rfl _ (y_move rfl rfl) ?_
          refine S_ 6 rfl rfl rfl _ (y_assign rfl rfl) ?_
          refine S_ 7 rfl rfl rfl _ (y_assign rfl rfl) ?_
          refine S_go (fun _ _ h => h) ?_
          refine T_ret (fun a w hF hM => hRb a w (post2 rfl rfl rfl (fun w hM => ?_) a w hF hM))
          have e : linesNo t file ln = 0 := fst_b h18 ((if_neg (by omega)).trans (if_f h27))
          have e2 : linesOut t file ln = out := by rw [linesOut, if_pos e, hp2, ht.end (by omega)]; rfl
          rw [e, e2, hp4]
          exact ⟨A, c, rfl, hM.sat 10 _ rfl, hM.below⟩
end Go.Proofs.YtkkngcdikbhkjaaGreatDoor
end
section
namespace Go.Proofs.YtkkngcdikbhkjaaGreatDoor
set_option linter.unusedSimpArgs false
set_option linter.unusedVariables false
set_option maxRecDepth 20000
open Go.RowKit Go.Eng
theorem FuncAt_any (t : Tab) (x : Int) (w : World) (hok : t.Ok w) :
    Calls Tryz.prog 293 #[.agg #[str t.id, .int .i64 t.size, .slice t.fi.A t.fi.q t.fi.c, .slice t.fu.A t.fu.q t.fu.c, .slice t.ro.A t.ro.q t.ro.c, .slice t.ca.A t.ca.q t.ca.c], .int .i64 x] w fun e w' => e = .returned (found (SFunc.has x) t.fu.l) ∧ Below w.heap.size w w' := by
  refine enter_args (args := [.agg #[str t.id, .int .i64 t.size, .slice t.fi.A t.fi.q t.fi.c, .slice t.fu.A t.fu.q t.fu.c, .slice t.ro.A t.ro.q t.ro.c, .slice t.ca.A t.ca.q t.ca.c], .int .i64 x]) (F := _) Tryz.func293 rfl Tryz.ntmps293 rfl rfl ?_
  intro Rb hRb hRn
  refine T_seq ?_
  refine T_region ?_
  refine S_box 2 2 rfl rfl rfl rfl rfl ?_
  intro b2
  refine S_box 3 3 rfl rfl rfl rfl rfl ?_
  intro b3
  refine S_ 4 rfl rfl rfl _ (y_assign rfl rfl) ?_
  refine S_ 5 rfl rfl rfl _ (y_assign rfl rfl) ?_
  refine S_go (fun _ _ h => h) ?_
  refine T_seq ?_
  refine T_region ?_
  refine S_ 7 rfl rfl rfl _ (y_fieldAddr rfl rfl fa62_3) ?_
  refine S_ 8 rfl rfl rfl _ (y_load 2 rfl rfl rfl rfl Tryz.underlying58 rfl) ?_
  refine S_ 9 rfl rfl rfl _ (y_makeFunc rfl rfl rfl rfl rfl) ?_
  refine S_ 10 rfl rfl rfl _ (y_call rfl rfl rfl cf168 (fun _ w hM => IndexFuncF_any _ _ _ _ _ _ (SFunc.has x) w (hok.fu.t.below hM.below) (hok.small.2.2.1) (asks_FuncAt (hM.box_cell (i := 3) rfl rfl)))) ?_
  refine S_ 6 rfl rfl rfl _ (y_assign rfl rfl) ?_
  refine S_go (fun _ _ h => h) ?_
  refine T_seq ?_
  refine T_region ?_
  refine S_ 11 rfl rfl rfl _ (y_move rfl rfl) ?_
  refine S_ 12 rfl rfl rfl _ (y_max rfl rfl rfl) ?_
  refine S_ 13 rfl rfl rfl _ (y_move rfl rfl) ?_
  refine S_ 14 rfl rfl rfl _ (y_bin rfl rfl rfl (fun _ => b_geq)) ?_
  refine S_ 4 rfl rfl rfl _ (y_assign rfl rfl) ?_
  refine S_ 5 rfl rfl rfl _ (y_assign rfl rfl) ?_
  refine S_go (fun _ _ h => h) ?_
  refine T_ret (fun a w hF hM => hRb a w (post2 rfl rfl rfl (fun w hM => ?_) a w hF hM))
  exact ⟨rfl, hM.below⟩
theorem FuncOf_any (t : Tab) (x : Int) (w : World) (hok : t.Ok w) :
    Calls Tryz.prog 175 #[.agg #[str t.id, .int .i64 t.size, .slice t.fi.A t.fi.q t.fi.c, .slice t.fu.A t.fu.q t.fu.c, .slice t.ro.A t.ro.q t.ro.c, .slice t.ca.A t.ca.q t.ca.c], .int .i64 x] w fun e w' => e = .returned (found (SFunc.has x) t.fu.l) ∧ Below w.heap.size w w' := by
  have hq' := hok.small.2.2.1
  have ht := hok.fu.t
  refine enter_args (args := [.agg #[str t.id, .int .i64 t.size, .slice t.fi.A t.fi.q t.fi.c, .slice t.fu.A t.fu.q t.fu.c, .slice t.ro.A t.ro.q t.ro.c, .slice t.ca.A t.ca.q t.ca.c], .int .i64 x]) (F := _) Tryz.func175 rfl Tryz.ntmps175 rfl rfl ?_
  intro Rb hRb hRn
  refine T_seq ?_
  refine T_region ?_
  refine S_box 2 2 rfl rfl rfl rfl rfl ?_
  intro b2
  refine S_ 4 rfl rfl rfl _ (y_assign rfl rfl) ?_
  refine S_ 5 rfl rfl rfl _ (y_assign rfl rfl) ?_
  refine S_go (fun _ _ h => h) ?_
  refine T_seq ?_
  refine T_seq ?_
  refine T_region ?_
  refine S_ 8 rfl rfl rfl _ (y_fieldAddr rfl rfl fa62_3) ?_
  refine S_ 9 rfl rfl rfl _ (y_load 2 rfl rfl rfl rfl Tryz.underlying58 rfl) ?_
  refine S_ 10 rfl rfl rfl _ (y_len_slice rfl rfl Tryz.underlying58) ?_
  refine S_ 11 rfl rfl rfl _ (y_move rfl rfl) ?_
  refine S_go (fun _ _ h => h) ?_
  refine T_block ?_
  refine T_loopK1 (kf := [(4, 7), (11, 27)]) (kl := [(4, 7), (11, 27)]) (fun (i : Nat) => [(11, true, .int .i64 (i : Int))]) (fun (i : Nat) => []) (fun (i : Nat) => i ≤ t.fu.q ∧ findI (SFunc.has x) t.fu.l 0 = findI (SFunc.has x) (t.fu.l.drop i) i) (fun (i : Nat) => t.fu.q - i) 0 (by repeat (first | exact kf_nil | (apply kf_in; focus rfl) | (apply kf_out; focus rfl))) (by repeat (first | exact kl_nil | exact kl_rest (by assumption) rfl | (apply kl_in; focus rfl) | (apply kl_out; focus rfl))) ?_ ?_ ?_ ?_
  · exact ⟨by omega, rfl⟩
  · exact ⟨rfl, trivial⟩
  · exact trivial
  rintro i ⟨hp1, hp2⟩
  refine T_seq ?_
  refine T_region ?_
  refine S_ 12 rfl rfl rfl _ (y_bin rfl rfl rfl (fun _ => b_lss)) ?_
  refine S_go (fun _ _ h => h) ?_
  refine T_seq ?_
  refine T_cond rfl (fun h12 => ?_) (fun h12 => ?_)
  · try simp only [decide_eq_true_eq, decide_eq_false_iff_not, Bool.or_eq_true, Bool.or_eq_false_iff, Bool.and_eq_true, Bool.and_eq_false_iff, Bool.not_eq_true', Bool.not_eq_false', Bool.not_eq_true, Bool.not_eq_false, Bool.not_true, Bool.not_false, Int.not_lt, Int.not_le, not_or, not_and, Classical.not_not] at h12
    obtain ⟨f, hx1, hx2⟩ := ht.at (i := i) (by omega)
    refine T_skip_go (fun _ _ h => h) ?_
    refine T_seq ?_
    refine T_block ?_
    refine T_seq ?_
    refine T_region ?_
    refine S_ 13 rfl rfl rfl _ (y_move rfl rfl) ?_
    refine S_ 14 rfl rfl rfl _ (y_indexAddr rfl rfl rfl Tryz.underlying58 sz196 (fun hg => ht.isSome (by omega)) (fun _ => by omega)) ?_
    refine S_ 15 rfl rfl rfl _ (y_loadT rfl rfl ht (fun _ => rfl) (fun _ => hx1) Tryz.underlying196 rfl sz196) ?_
    refine S_alloc 7 7 rfl rfl rfl rfl z196 ?_
    intro b7
    refine S_ 6 rfl rfl rfl _ (y_assign rfl rfl) ?_
    refine S_store 7 rfl rfl rfl rfl rfl rfl sz196 rfl rfl ?_
    refine S_go (fun _ _ h => h) ?_
    refine T_seq ?_
    refine T_region ?_
    refine S_ 16 rfl rfl rfl _ (y_fieldAddr rfl rfl fa196_1) ?_
    refine S_ 17 rfl rfl rfl _ (y_load 7 rfl rfl rfl rfl Tryz.underlying3 rfl) ?_
    refine S_ 18 rfl rfl rfl _ (y_move rfl rfl) ?_
    refine S_ 19 rfl rfl rfl _ (y_bin rfl rfl rfl (fun _ => b_leq)) ?_
    refine S_ 20 rfl rfl rfl _ (y_move rfl rfl) ?_
    refine Sg_ 21 rfl rfl rfl rfl rfl rfl _ (y_move rfl rfl) ?_
    refine Sg_ 22 rfl rfl rfl rfl rfl rfl _ (y_fieldAddr rfl rfl fa196_2) ?_
    refine Sg_ 23 rfl rfl rfl rfl rfl rfl _ (y_load 7 rfl rfl rfl rfl Tryz.underlying3 rfl) ?_
    refine Sg_ 24 rfl rfl rfl rfl rfl rfl _ (y_bin rfl rfl rfl (fun _ => b_lss)) ?_
    refine S_ 25 rfl rfl rfl _ (y_as (v' := .bool (SFunc.has x f)) (by exact rfl) (y_and rfl rfl rfl)) ?_
    refine S_go (fun _ _ h => h) ?_
    refine T_cond rfl (fun h25 => ?_) (fun h25 => ?_)
    · skip
      refine T_seq ?_
      refine T_region ?_
      refine S_ 26 rfl rfl rfl _ (y_move rfl rfl) ?_
      refine S_ 4 rfl rfl rfl _ (y_assign rfl rfl) ?_
      refine S_ 5 rfl rfl rfl _ (y_assign rfl rfl) ?_
      refine S_go (fun _ _ h => h) ?_
      refine T_ret (fun a w hF hM => hRb a w (post2 rfl rfl rfl (fun w hM => ?_) a w hF hM))
      exact ⟨by rw [found, hp2, hx2, findI_t h25, if_neg (by omega), decide_eq_true (by omega)], hM.below⟩
    · skip
      refine T_skip_go (fun _ _ h => h) ?_
      refine T_region ?_
      refine S_ 27 rfl rfl rfl _ (y_bin rfl rfl rfl (fun hg => b_add (by omega))) ?_
      refine S_ 11 rfl rfl rfl _ (y_move rfl rfl) ?_
      refine S_nil (nextK1 (kf := [(4, 7), (11, 27)]) (kl := [(4, 7), (11, 27)]) (i + 1) (by repeat (first | exact kf_nil | (apply kf_in; focus rfl) | (apply kf_out; focus rfl))) (by repeat (first | exact kl_nil | exact kl_rest (by assumption) rfl | (apply kl_in; focus rfl) | (apply kl_out; focus rfl))) ?_ ?_ ?_ ?_)
      · omega
      · exact ⟨by omega, by rw [hp2, hx2, findI_f h25]; rfl⟩
      · exact ⟨rfl, trivial⟩
      · exact trivial
  · try simp only [decide_eq_true_eq, decide_eq_false_iff_not, Bool.or_eq_true, Bool.or_eq_false_iff, Bool.and_eq_true, Bool.and_eq_false_iff, Bool.not_eq_true', Bool.not_eq_false', Bool.not_eq_true, Bool.not_eq_false, Bool.not_true, Bool.not_false, Int.not_lt, Int.not_le, not_or, not_and, Classical.not_not] at h12
    refine T_exit_go (fun _ _ h => h) ?_
    refine T_seq ?_
    refine T_region ?_
    refine S_ 4 rfl rfl rfl _ (y_assign rfl rfl) ?_
    refine S_ 5 rfl rfl rfl _ (y_assign rfl rfl) ?_
    refine S_go (fun _ _ h => h) ?_
    refine T_ret (fun a w hF hM => hRb a w (post2 rfl rfl rfl (fun w hM => ?_) a w hF hM))
    exact ⟨by rw [found, hp2, ht.end (by omega)]; rfl, hM.below⟩
end Go.Proofs.YtkkngcdikbhkjaaGreatDoor
end
section
namespace Go.Proofs.YtkkngcdikbhkjaaGreatDoor
set_option linter.unusedSimpArgs false
set_option linter.unusedVariables false
set_option maxRecDepth 20000
open Go.RowKit Go.Eng
/-- how many rows lie before x -/
def rowsBefore (x : Int) : List SRow → Nat
  | [] => 0
  | r :: rest => if r.pos < x then rowsBefore x rest + 1 else 0
def Rising (l : List SRow) : Prop := ∀ (i j : Nat) (a b : SRow), l[i]? = some a → l[j]? = some b → i < j → a.pos < b.pos
theorem rowsBefore_of {x : Int} : ∀ (l : List SRow) (n : Nat), n ≤ l.length → (∀ i a, i < n → l[i]? = some a → a.pos < x) → (∀ a, l[n]? = some a → x ≤ a.pos) → rowsBefore x l = n
  | [], n, h, _, _ => by simp at h; simp [rowsBefore, h]
  | r :: rest, 0, _, _, h2 => by have := h2 r rfl; simp only [rowsBefore]; rw [if_neg (by omega)]
  | r :: rest, n + 1, h, h1, h2 => by
    simp only [rowsBefore]
    rw [if_pos (h1 0 r (by omega) rfl), rowsBefore_of rest n (by simpa using h) (fun i a hi ha => h1 (i + 1) a (by omega) (by simpa using ha)) (fun a ha => h2 a (by simpa using ha))]
theorem isNaN_any (x : Int) (w : World) : Calls Tryz.prog 285 #[.int .i64 x] w fun e w' => e = .returned (.bool false) ∧ Below w.heap.size w w' := by
  refine enter_args (args := [.int .i64 x]) (F := _) Tryz.func285 rfl Tryz.ntmps285 rfl rfl ?_
  intro Rb hRb hRn
  refine T_seq ?_
  refine T_region ?_
  refine S_ 2 rfl rfl rfl _ (y_assign rfl rfl) ?_
  refine S_go (fun _ _ h => h) ?_
  refine T_seq ?_
  refine T_region ?_
  refine S_ 3 rfl rfl rfl _ (y_move rfl rfl) ?_
  refine S_ 4 rfl rfl rfl _ (y_move rfl rfl) ?_
  refine S_ 5 rfl rfl rfl _ (y_bin rfl rfl rfl (fun _ => b_neq)) ?_
  refine S_ 2 rfl rfl rfl _ (y_assign rfl rfl) ?_
  refine S_go (fun _ _ h => h) ?_
  refine T_ret (fun a w hF hM => hRb a w (post1 rfl rfl (fun w hM => ?_) a w hF hM))
  exact ⟨by simp, hM.below⟩
def cmpI (a b : Int) : Int := if a < b then -1 else if b < a then 1 else 0
theorem cmp_any (a b : Int) (w : World) : Calls Tryz.prog 148 #[.int .i64 a, .int .i64 b] w fun e w' => e = .returned (.int .i64 (cmpI a b)) ∧ Below w.heap.size w w' := by
  refine enter_args (args := [.int .i64 a, .int .i64 b]) (F := _) Tryz.func148 rfl Tryz.ntmps148 rfl rfl ?_
  intro Rb hRb hRn
  refine T_seq ?_
  refine T_region ?_
  refine S_ 4 rfl rfl rfl _ (y_assign rfl rfl) ?_
  refine S_go (fun _ _ h => h) ?_
  refine T_seq ?_
  refine T_region ?_
  refine S_ 7 rfl rfl rfl _ (y_move rfl rfl) ?_
  refine S_ 8 rfl rfl rfl _ (y_call rfl rfl rfl cf285 (fun _ w _ => isNaN_any _ w)) ?_
  refine S_ 5 rfl rfl rfl _ (y_assign rfl rfl) ?_
  refine S_go (fun _ _ h => h) ?_
  refine T_seq ?_
  refine T_region ?_
  refine S_ 9 rfl rfl rfl _ (y_move rfl rfl) ?_
  refine S_ 10 rfl rfl rfl _ (y_call rfl rfl rfl cf285 (fun _ w _ => isNaN_any _ w)) ?_
  refine S_ 6 rfl rfl rfl _ (y_assign rfl rfl) ?_
  refine S_go (fun _ _ h => h) ?_
  refine T_seq ?_
  refine T_seq ?_
  refine T_region ?_
  refine S_ 11 rfl rfl rfl _ (y_move rfl rfl) ?_
  refine S_go (fun _ _ h => h) ?_
  refine T_cond rfl (fun h11 => ?_) (fun h11 => ?_)
  · try simp only [decide_eq_true_eq, decide_eq_false_iff_not, Bool.or_eq_true, Bool.or_eq_false_iff, Bool.and_eq_true, Bool.and_eq_false_iff, Bool.not_eq_true', Bool.not_eq_false', Bool.not_eq_true, Bool.not_eq_false, Bool.not_true, Bool.not_false, Int.not_lt, Int.not_le, not_or, not_and, Classical.not_not] at h11
    cases h11
  · try simp only [decide_eq_true_eq, decide_eq_false_iff_not, Bool.or_eq_true, Bool.or_eq_false_iff, Bool.and_eq_true, Bool.and_eq_false_iff, Bool.not_eq_true', Bool.not_eq_false', Bool.not_eq_true, Bool.not_eq_false, Bool.not_true, Bool.not_false, Int.not_lt, Int.not_le, not_or, not_and, Classical.not_not] at h11
    refine T_skip_go (fun _ _ h => h) ?_
    refine T_seq ?_
    refine T_seq ?_
    refine T_region ?_
    refine S_ 13 rfl rfl rfl _ (y_move rfl rfl) ?_
    refine S_go (fun _ _ h => h) ?_
    refine T_cond rfl (fun h13 => ?_) (fun h13 => ?_)
    · try simp only [decide_eq_true_eq, decide_eq_false_iff_not, Bool.or_eq_true, Bool.or_eq_false_iff, Bool.and_eq_true, Bool.and_eq_false_iff, Bool.not_eq_true', Bool.not_eq_false', Bool.not_eq_true, Bool.not_eq_false, Bool.not_true, Bool.not_false, Int.not_lt, Int.not_le, not_or, not_and, Classical.not_not] at h13
      cases h13
    · try simp only [decide_eq_true_eq, decide_eq_false_iff_not, Bool.or_eq_true, Bool.or_eq_false_iff, Bool.and_eq_true, Bool.and_eq_false_iff, Bool.not_eq_true', Bool.not_eq_false', Bool.not_eq_true, Bool.not_eq_false, Bool.not_true, Bool.not_false, Int.not_lt, Int.not_le, not_or, not_and, Classical.not_not] at h13
      refine T_skip_go (fun _ _ h => h) ?_
      refine T_seq ?_
      refine T_seq ?_
      refine T_region ?_
      refine S_ 14 rfl rfl rfl _ (y_move rfl rfl) ?_
      refine S_ 15 rfl rfl rfl _ (y_move rfl rfl) ?_
      refine S_ 16 rfl rfl rfl _ (y_bin rfl rfl rfl (fun _ => b_lss)) ?_
      refine S_go (fun _ _ h => h) ?_
      refine T_cond rfl (fun h16 => ?_) (fun h16 => ?_)
      · try simp only [decide_eq_true_eq, decide_eq_false_iff_not, Bool.or_eq_true, Bool.or_eq_false_iff, Bool.and_eq_true, Bool.and_eq_false_iff, Bool.not_eq_true', Bool.not_eq_false', Bool.not_eq_true, Bool.not_eq_false, Bool.not_true, Bool.not_false, Int.not_lt, Int.not_le, not_or, not_and, Classical.not_not] at h16
        refine T_seq ?_
        refine T_region ?_
        refine S_ 4 rfl rfl rfl _ (y_assign rfl rfl) ?_
        refine S_go (fun _ _ h => h) ?_
        refine T_ret (fun a w hF hM => hRb a w (post1 rfl rfl (fun w hM => ?_) a w hF hM))
        exact ⟨by rw [cmpI, if_pos h16], hM.below⟩
      · try simp only [decide_eq_true_eq, decide_eq_false_iff_not, Bool.or_eq_true, Bool.or_eq_false_iff, Bool.and_eq_true, Bool.and_eq_false_iff, Bool.not_eq_true', Bool.not_eq_false', Bool.not_eq_true, Bool.not_eq_false, Bool.not_true, Bool.not_false, Int.not_lt, Int.not_le, not_or, not_and, Classical.not_not] at h16
        refine T_skip_go (fun _ _ h => h) ?_
        refine T_seq ?_
        refine T_seq ?_
        refine T_region ?_
        refine S_ 17 rfl rfl rfl _ (y_move rfl rfl) ?_
        refine S_ 18 rfl rfl rfl _ (y_move rfl rfl) ?_
        refine S_ 19 rfl rfl rfl _ (y_bin rfl rfl rfl (fun _ => b_gtr)) ?_
        refine S_go (fun _ _ h => h) ?_
        refine T_cond rfl (fun h19 => ?_) (fun h19 => ?_)
        · try simp only [decide_eq_true_eq, decide_eq_false_iff_not, Bool.or_eq_true, Bool.or_eq_false_iff, Bool.and_eq_true, Bool.and_eq_false_iff, Bool.not_eq_true', Bool.not_eq_false', Bool.not_eq_true, Bool.not_eq_false, Bool.not_true, Bool.not_false, Int.not_lt, Int.not_le, not_or, not_and, Classical.not_not] at h19
          refine T_seq ?_
          refine T_region ?_
          refine S_ 4 rfl rfl rfl _ (y_assign rfl rfl) ?_
          refine S_go (fun _ _ h => h) ?_
          refine T_ret (fun a w hF hM => hRb a w (post1 rfl rfl (fun w hM => ?_) a w hF hM))
          exact ⟨by rw [cmpI, if_neg (by omega), if_pos h19], hM.below⟩
        · try simp only [decide_eq_true_eq, decide_eq_false_iff_not, Bool.or_eq_true, Bool.or_eq_false_iff, Bool.and_eq_true, Bool.and_eq_false_iff, Bool.not_eq_true', Bool.not_eq_false', Bool.not_eq_true, Bool.not_eq_false, Bool.not_true, Bool.not_false, Int.not_lt, Int.not_le, not_or, not_and, Classical.not_not] at h19
          refine T_skip_go (fun _ _ h => h) ?_
          refine T_seq ?_
          refine T_region ?_
          refine S_ 4 rfl rfl rfl _ (y_assign rfl rfl) ?_
          refine S_go (fun _ _ h => h) ?_
          refine T_ret (fun a w hF hM => hRb a w (post1 rfl rfl (fun w hM => ?_) a w hF hM))
          exact ⟨by rw [cmpI, if_neg (by omega), if_neg (by omega)], hM.below⟩
theorem rowAt1_any (r : SRow) (x : Int) (w : World) :
    Calls Tryz.prog 357 #[.agg r.enc.toArray, .int .i64 x] w fun e w' => e = .returned (.int .i64 (cmpI r.pos x)) ∧ Below w.heap.size w w' := by
  refine enter_args (args := [.agg #[.int .i64 r.pos, .int .i64 r.fi, .int .i64 r.ln], .int .i64 x]) (F := _) Tryz.func357 rfl Tryz.ntmps357 rfl rfl ?_
  intro Rb hRb hRn
  refine T_seq ?_
  refine T_region ?_
  refine S_box 2 2 rfl rfl rfl rfl rfl ?_
  intro b2
  refine S_ 4 rfl rfl rfl _ (y_assign rfl rfl) ?_
  refine S_go (fun _ _ h => h) ?_
  refine T_seq ?_
  refine T_region ?_
  refine S_ 5 rfl rfl rfl _ (y_fieldAddr rfl rfl fa198_0) ?_
  refine S_ 6 rfl rfl rfl _ (y_load 2 rfl rfl rfl rfl Tryz.underlying3 rfl) ?_
  refine S_ 7 rfl rfl rfl _ (y_move rfl rfl) ?_
  refine S_ 8 rfl rfl rfl _ (y_call rfl rfl rfl cf148 (fun _ w _ => cmp_any r.pos x w)) ?_
  refine S_ 4 rfl rfl rfl _ (y_assign rfl rfl) ?_
  refine S_go (fun _ _ h => h) ?_
  refine T_ret (fun a w hF hM => hRb a w (post1 rfl rfl (fun w hM => ?_) a w hF hM))
  exact ⟨rfl, hM.below⟩
theorem cmp_lt {a b : Int} : cmpI a b < 0 ↔ a < b := by unfold cmpI; split <;> (try split) <;> omega
theorem cmp_ge {a b : Int} (h : 0 ≤ cmpI a b) : b ≤ a := by
  by_cases hc : a < b
  · have := cmp_lt.2 hc; omega
  · omega
theorem cmp_eq {a b : Int} : cmpI a b = 0 ↔ a = b := by unfold cmpI; split <;> (try split) <;> omega
theorem rise_left {l : List SRow} (hr : Rising l) {n : Nat} {m : SRow} {x : Int} (hm : l[n]? = some m) (h : m.pos < x) : ∀ k a, k < n + 1 → l[k]? = some a → a.pos < x := fun k a hk ha => by
  by_cases e : k = n
  · subst e; rw [hm] at ha; cases ha; exact h
  · have := hr k n a m ha hm (by omega); omega
theorem rise_right {l : List SRow} (hr : Rising l) {n : Nat} {m : SRow} {x : Int} (hm : l[n]? = some m) (h : x ≤ m.pos) : ∀ k a, n ≤ k → l[k]? = some a → x ≤ a.pos := fun k a hk ha => by
  by_cases e : k = n
  · subst e; rw [hm] at ha; cases ha; exact h
  · have := hr n k m a hm ha (by omega); omega
theorem found_dec {l : List SRow} {i q : Nat} {m : SRow} {x : Int} (hlen : l.length = q) (hn : i < q → l[i]? = some m) : (decide (i < q) && decide (cmpI m.pos x = 0)) = decide (∃ r, l[i]? = some r ∧ r.pos = x) := by
  rw [Bool.eq_iff_iff]
  simp only [Bool.and_eq_true, decide_eq_true_eq, cmp_eq]
  constructor
  · rintro ⟨h1, h2⟩; exact ⟨m, hn h1, h2⟩
  · rintro ⟨r, h1, h2⟩
    have hi : i < q := by have := (List.getElem?_eq_some_iff.1 h1).1; omega
    rw [hn hi] at h1; cases h1; exact ⟨hi, h2⟩
theorem BSearch_any (A : Option Addr) (q c : Nat) (l : List SRow) (x : Int) (w : World) (hl : SlT SRow.enc 3 w A q l) (hq : q ≤ 4611686018427387904) (hr : Rising l) :
    Calls Tryz.prog 356 #[.slice A q c, .int .i64 x, .func (.func 357) #[] #[]] w fun e w' =>
      e = .returned (.tuple #[.int .i64 (rowsBefore x l : Int), .bool (decide (∃ r, l[rowsBefore x l]? = some r ∧ r.pos = x))]) ∧ Below w.heap.size w w' := by
  have hlen := hl.len
  refine enter_args (args := [.slice A q c, .int .i64 x, .func (.func 357) #[] #[]]) (F := _) Tryz.func356 rfl Tryz.ntmps356 rfl rfl ?_
  intro Rb hRb hRn
  refine T_seq ?_
  refine T_region ?_
  refine S_ 6 rfl rfl rfl _ (y_assign rfl rfl) ?_
  refine S_ 7 rfl rfl rfl _ (y_assign rfl rfl) ?_
  refine S_go (fun _ _ h => h) ?_
  refine T_seq ?_
  refine T_region ?_
  refine S_ 12 rfl rfl rfl _ (y_move rfl rfl) ?_
  refine S_ 13 rfl rfl rfl _ (y_len_slice rfl rfl Tryz.underlying59) ?_
  refine S_ 8 rfl rfl rfl _ (y_assign rfl rfl) ?_
  refine S_go (fun _ _ h => h) ?_
  refine T_seq ?_
  refine T_region ?_
  refine S_ 14 rfl rfl rfl _ (y_move rfl rfl) ?_
  refine S_ 9 rfl rfl rfl _ (y_assign rfl rfl) ?_
  refine S_ 10 rfl rfl rfl _ (y_assign rfl rfl) ?_
  refine S_go (fun _ _ h => h) ?_
  refine T_seq ?_
  refine T_block ?_
  refine T_loopK2 (kf := [(9, 11), (15, 34)]) (kl := [(9, 11), (15, 34)]) (fun (i j : Nat) => [(9, true, .int .i64 (i : Int)), (10, true, .int .i64 (j : Int))]) (fun (i j : Nat) => []) (fun (i j : Nat) => i ≤ j ∧ j ≤ q ∧ (∀ k a, k < i → l[k]? = some a → a.pos < x) ∧ (∀ k a, j ≤ k → l[k]? = some a → x ≤ a.pos)) (fun (i j : Nat) => j - i) 0 q (by repeat (first | exact kf_nil | (apply kf_in; focus rfl) | (apply kf_out; focus rfl))) (by repeat (first | exact kl_nil | exact kl_rest (by assumption) rfl | (apply kl_in; focus rfl) | (apply kl_out; focus rfl))) ?_ ?_ ?_ ?_
  · exact ⟨by omega, by omega, fun k a h => by omega, fun k a h ha => by have := (List.getElem?_eq_some_iff.1 ha).1; omega⟩
  · exact ⟨rfl, rfl, trivial⟩
  · exact trivial
  rintro i j ⟨hp1, hp2, hp3, hp4⟩
  refine T_seq ?_
  refine T_seq ?_
  refine T_region ?_
  refine S_ 15 rfl rfl rfl _ (y_move rfl rfl) ?_
  refine S_ 16 rfl rfl rfl _ (y_move rfl rfl) ?_
  refine S_ 17 rfl rfl rfl _ (y_bin rfl rfl rfl (fun _ => b_lss)) ?_
  refine S_go (fun _ _ h => h) ?_
  refine T_cond rfl (fun h17 => ?_) (fun h17 => ?_)
  · try simp only [decide_eq_true_eq, decide_eq_false_iff_not, Bool.or_eq_true, Bool.or_eq_false_iff, Bool.and_eq_true, Bool.and_eq_false_iff, Bool.not_eq_true', Bool.not_eq_false', Bool.not_eq_true, Bool.not_eq_false, Bool.not_true, Bool.not_false, Int.not_lt, Int.not_le, not_or, not_and, Classical.not_not] at h17
    obtain ⟨m, hm, _⟩ := hl.at (i := (i + j) / 2) (by omega)
    refine T_skip_go (fun _ _ h => h) ?_
    refine T_block ?_
    refine T_seq ?_
    refine T_region ?_
    refine S_ 18 rfl rfl rfl _ (y_move rfl rfl) ?_
    refine S_ 19 rfl rfl rfl _ (y_move rfl rfl) ?_
    refine S_ 20 rfl rfl rfl _ (y_bin rfl rfl rfl (fun hg => b_add (by omega))) ?_
    refine S_ 21 rfl rfl rfl _ (y_as (v' := .int .u64 ((i : Int) + (j : Int))) (by rw [wrap64_in (by omega)]) (y_conv rfl rfl Tryz.underlying3 Tryz.underlying321)) ?_
    refine S_ 22 rfl rfl rfl _ (y_bin rfl rfl rfl (fun hg => b_shrv ((((i + j) / 2 : Nat) : Int)) (by decide) (by decide) (by first | (simp; done) | (simp; omega)))) ?_
    refine S_ 23 rfl rfl rfl _ (y_conv64 rfl rfl Tryz.underlying321 Tryz.underlying3 (fun _ => by omega)) ?_
    refine S_ 11 rfl rfl rfl _ (y_assign rfl rfl) ?_
    refine S_go (fun _ _ h => h) ?_
    refine T_seq ?_
    refine T_region ?_
    refine S_ 24 rfl rfl rfl _ (y_move rfl rfl) ?_
    refine S_ 25 rfl rfl rfl _ (y_move rfl rfl) ?_
    refine S_ 26 rfl rfl rfl _ (y_move rfl rfl) ?_
    refine S_ 27 rfl rfl rfl _ (y_indexAddr rfl rfl rfl Tryz.underlying59 sz198 (fun hg => hl.isSome (by omega)) (fun _ => by omega)) ?_
    refine S_ 28 rfl rfl rfl _ (y_loadT rfl rfl hl (fun _ => rfl) (fun _ => hm) Tryz.underlying198 rfl sz198) ?_
    refine S_ 29 rfl rfl rfl _ (y_move rfl rfl) ?_
    refine S_ 30 rfl rfl rfl _ (y_call rfl rfl rfl cf357 (fun _ w _ => rowAt1_any m x w)) ?_
    refine S_ 31 rfl rfl rfl _ (y_bin rfl rfl rfl (fun _ => b_lss)) ?_
    refine S_go (fun _ _ h => h) ?_
    refine T_cond rfl (fun h31 => ?_) (fun h31 => ?_)
    · try simp only [decide_eq_true_eq, decide_eq_false_iff_not, Bool.or_eq_true, Bool.or_eq_false_iff, Bool.and_eq_true, Bool.and_eq_false_iff, Bool.not_eq_true', Bool.not_eq_false', Bool.not_eq_true, Bool.not_eq_false, Bool.not_true, Bool.not_false, Int.not_lt, Int.not_le, not_or, not_and, Classical.not_not] at h31
      refine T_region ?_
      refine S_ 32 rfl rfl rfl _ (y_move rfl rfl) ?_
      refine S_ 33 rfl rfl rfl _ (y_bin rfl rfl rfl (fun hg => b_add (by omega))) ?_
      refine S_ 9 rfl rfl rfl _ (y_assign rfl rfl) ?_
      refine S_nil (nextK2 (kf := [(9, 11), (15, 34)]) (kl := [(9, 11), (15, 34)]) ((i + j) / 2 + 1) j (by repeat (first | exact kf_nil | (apply kf_in; focus rfl) | (apply kf_out; focus rfl))) (by repeat (first | exact kl_nil | exact kl_rest (by assumption) rfl | (apply kl_in; focus rfl) | (apply kl_out; focus rfl))) ?_ ?_ ?_ ?_)
      · omega
      · exact ⟨by omega, hp2, rise_left hr hm (cmp_lt.1 h31), hp4⟩
      · exact ⟨rfl, rfl, trivial⟩
      · exact trivial
    · try simp only [decide_eq_true_eq, decide_eq_false_iff_not, Bool.or_eq_true, Bool.or_eq_false_iff, Bool.and_eq_true, Bool.and_eq_false_iff, Bool.not_eq_true', Bool.not_eq_false', Bool.not_eq_true, Bool.not_eq_false, Bool.not_true, Bool.not_false, Int.not_lt, Int.not_le, not_or, not_and, Classical.not_not] at h31
      refine T_region ?_
      refine S_ 34 rfl rfl rfl _ (y_move rfl rfl) ?_
      refine S_ 10 rfl rfl rfl _ (y_assign rfl rfl) ?_
      refine S_nil (nextK2 (kf := [(9, 11), (15, 34)]) (kl := [(9, 11), (15, 34)]) i ((i + j) / 2) (by repeat (first | exact kf_nil | (apply kf_in; focus rfl) | (apply kf_out; focus rfl))) (by repeat (first | exact kl_nil | exact kl_rest (by assumption) rfl | (apply kl_in; focus rfl) | (apply kl_out; focus rfl))) ?_ ?_ ?_ ?_)
      · omega
      · exact ⟨by omega, by omega, hp3, rise_right hr hm (cmp_ge h31)⟩
      · exact ⟨rfl, rfl, trivial⟩
      · exact trivial
  · try simp only [decide_eq_true_eq, decide_eq_false_iff_not, Bool.or_eq_true, Bool.or_eq_false_iff, Bool.and_eq_true, Bool.and_eq_false_iff, Bool.not_eq_true', Bool.not_eq_false', Bool.not_eq_true, Bool.not_eq_false, Bool.not_true, Bool.not_false, Int.not_lt, Int.not_le, not_or, not_and, Classical.not_not] at h17
    have hij : i = j := by omega
    subst hij
    obtain ⟨m, hn⟩ : ∃ m : SRow, i < q → l[i]? = some m := by
      by_cases h0 : i < q
      · exact ⟨l[i], fun _ => by simp [hlen, h0]⟩
      · exact ⟨⟨0, 0, 0⟩, fun h => absurd h h0⟩
    refine T_exit_go (fun _ _ h => h) ?_
    refine T_seq ?_
    refine T_region ?_
    refine S_ 35 rfl rfl rfl _ (y_move rfl rfl) ?_
    refine S_ 36 rfl rfl rfl _ (y_move rfl rfl) ?_
    refine S_ 37 rfl rfl rfl _ (y_move rfl rfl) ?_
    refine S_ 38 rfl rfl rfl _ (y_bin rfl rfl rfl (fun _ => b_lss)) ?_
    refine S_ 39 rfl rfl rfl _ (y_move rfl rfl) ?_
    refine Sg_ 40 rfl rfl rfl rfl rfl rfl _ (y_move rfl rfl) ?_
    refine Sg_ 41 rfl rfl rfl rfl rfl rfl _ (y_move rfl rfl) ?_
    refine Sg_ 42 rfl rfl rfl rfl rfl rfl _ (y_move rfl rfl) ?_
    refine Sg_ 43 rfl rfl rfl rfl rfl rfl _ (y_indexAddr rfl rfl rfl Tryz.underlying59 sz198 (fun hg => hl.isSome (by simp only [Bool.true_and, Bool.and_eq_true, beq_iff_eq, decide_eq_true_eq, decide_eq_false_iff_not, Int.not_lt, Int.not_le] at hg; omega)) (fun hg => by simp only [Bool.true_and, Bool.and_eq_true, beq_iff_eq, decide_eq_true_eq, decide_eq_false_iff_not, Int.not_lt, Int.not_le] at hg; omega)) ?_
    refine Sg_ 44 rfl rfl rfl rfl rfl rfl _ (y_loadT rfl rfl hl (fun _ => rfl) (fun hg => hn (by simp only [Bool.true_and, Bool.and_eq_true, beq_iff_eq, decide_eq_true_eq, decide_eq_false_iff_not, Int.not_lt, Int.not_le] at hg; omega)) Tryz.underlying198 rfl sz198) ?_
    refine Sg_ 45 rfl rfl rfl rfl rfl rfl _ (y_move rfl rfl) ?_
    refine Sg_ 46 rfl rfl rfl rfl rfl rfl _ (y_call rfl rfl rfl cf357 (fun _ w _ => rowAt1_any m x w)) ?_
    refine Sg_ 47 rfl rfl rfl rfl rfl rfl _ (y_bin rfl rfl rfl (fun _ => b_eql)) ?_
    refine S_ 48 rfl rfl rfl _ (y_and rfl rfl rfl) ?_
    refine S_ 6 rfl rfl rfl _ (y_assign rfl rfl) ?_
    refine S_ 7 rfl rfl rfl _ (y_assign rfl rfl) ?_
    refine S_go (fun _ _ h => h) ?_
    refine T_ret (fun a w hF hM => hRb a w (post2 rfl rfl rfl (fun w hM => ?_) a w hF hM))
    have e := rowsBefore_of (x := x) l i (by omega) hp3 (fun a ha => hp4 i a (by omega) ha)
    exact ⟨by rw [e, ← found_dec hlen hn]; simp, hM.below⟩
end Go.Proofs.YtkkngcdikbhkjaaGreatDoor
end
section
namespace Go.Proofs.YtkkngcdikbhkjaaGreatDoor
set_option linter.unusedSimpArgs false
set_option linter.unusedVariables false
set_option maxRecDepth 20000
open Go.RowKit Go.Eng
theorem rows_right {size nf : Int} : ∀ (l : List SRow) (last : Int), rowsNo size nf l last = 0 → (∀ (i : Nat) (r : SRow), l[i]? = some r → rowBad size nf r = false ∧ (r.fi = -1 ↔ r.ln = 0) ∧ last < r.pos) ∧ Rising l
  | [], last, _ => ⟨fun i r h => by simp at h, fun i j a b h => by simp at h⟩
  | r :: rest, last, h => by
    unfold rowsNo at h
    split at h
    · cases h
    rename_i h1
    split at h
    · cases h
    rename_i h2
    split at h
    · cases h
    rename_i h3
    obtain ⟨ih1, ih2⟩ := rows_right rest r.pos h
    have h2' : (r.fi = -1 ↔ r.ln = 0) := by
      by_cases ha : r.fi = -1 <;> by_cases hb : r.ln = 0 <;> simp_all
    refine ⟨fun i a ha => ?_, fun i j a b ha hb hij => ?_⟩
    · cases i with
      | zero => simp at ha; subst ha; exact ⟨by simpa using h1, h2', by omega⟩
      | succ i =>
        obtain ⟨x1, x2, x3⟩ := ih1 i a (by simpa using ha)
        exact ⟨x1, x2, by omega⟩
    · cases j with
      | zero => omega
      | succ j =>
        cases i with
        | zero => simp at ha; subst ha; exact (ih1 j b (by simpa using hb)).2.2
        | succ i => exact ih2 i j a b (by simpa using ha) (by simpa using hb) (by omega)
theorem tab_rows {t : Tab} (h : tabNo t = 0) : rowsNo t.size t.fi.q t.ro.l (-1) = 0 := by
  unfold tabNo at h
  split at h
  · cases h
  split at h
  · cases h
  obtain ⟨_, h⟩ := fst_zero h
  obtain ⟨_, h⟩ := fst_zero h
  obtain ⟨c, _⟩ := fst_zero h
  exact (le_of_ite c).2
/-- the last row that begins at x or before it -/
def atRow (x : Int) : List SRow → Option SRow → Option SRow
  | [], o => o
  | r :: rest, o => if x < r.pos then o else atRow x rest (some r)
end Go.Proofs.YtkkngcdikbhkjaaGreatDoor
end
section
namespace Go.Proofs.YtkkngcdikbhkjaaGreatDoor
set_option linter.unusedSimpArgs false
set_option linter.unusedVariables false
set_option maxRecDepth 20000
open Go.RowKit Go.Eng
theorem atRow_of {x : Int} : ∀ (l : List SRow) (o : Option SRow) (n : Nat), n ≤ l.length → (∀ i a, i < n → l[i]? = some a → a.pos ≤ x) → (∀ a, l[n]? = some a → x < a.pos) → atRow x l o = if n = 0 then o else l[n - 1]?
  | [], o, n, h, _, _ => by simp at h; simp [atRow, h]
  | r :: rest, o, 0, _, _, h2 => by simp only [atRow]; rw [if_pos (h2 r rfl)]; rfl
  | r :: rest, o, n + 1, h, h1, h2 => by
    simp only [atRow]
    have := h1 0 r (by omega) rfl
    rw [if_neg (by omega), atRow_of rest (some r) n (by simpa using h) (fun i a hi ha => h1 (i + 1) a (by omega) (by simpa using ha)) (fun a ha => h2 a (by simpa using ha))]
    cases n with
    | zero => simp
    | succ n => simp
def lineFile (files : List (List UInt8)) : Option SRow → List UInt8
  | none => []
  | some r => if r.fi < 0 then [] else files.getD r.fi.toNat []
def lineLine : Option SRow → Int
  | none => 0
  | some r => if r.fi < 0 then 0 else r.ln
theorem before_le (x : Int) : ∀ l : List SRow, rowsBefore x l ≤ l.length
  | [] => Nat.le_refl _
  | r :: rest => by
    simp only [rowsBefore, List.length_cons]
    split
    · have := before_le x rest; omega
    · omega
theorem before_lt (x : Int) : ∀ (l : List SRow) (i : Nat) (a : SRow), i < rowsBefore x l → l[i]? = some a → a.pos < x
  | [], i, a, h, _ => by simp [rowsBefore] at h
  | r :: rest, i, a, h, ha => by
    simp only [rowsBefore] at h
    split at h
    · cases i with
      | zero => simp at ha; subst ha; assumption
      | succ i => exact before_lt x rest i a (by omega) (by simpa using ha)
    · omega
theorem before_ge (x : Int) : ∀ (l : List SRow) (a : SRow), l[rowsBefore x l]? = some a → x ≤ a.pos
  | [], a, h => by simp at h
  | r :: rest, a, h => by
    simp only [rowsBefore] at h
    split at h
    · exact before_ge x rest a (by simpa using h)
    · simp at h; subst h; omega
/-- where the search finds x itself -/
theorem atRow_hit {x : Int} {l : List SRow} {r : SRow} (hr : Rising l) (h : l[rowsBefore x l]? = some r) (hx : r.pos = x) : atRow x l none = some r := by
  have hn := (List.getElem?_eq_some_iff.1 h).1
  rw [atRow_of l none (rowsBefore x l + 1) (by omega) (fun i a hi ha => by
    have := rise_left hr h (x := x + 1) (by omega) i a hi ha
    omega) (fun a ha => by have := hr _ _ r a h ha (by omega); omega)]
  rw [if_neg (by omega)]; exact h
/-- where it does not -/
theorem atRow_miss {x : Int} {l : List SRow} (h : ¬ ∃ r, l[rowsBefore x l]? = some r ∧ r.pos = x) : atRow x l none = if rowsBefore x l = 0 then none else l[rowsBefore x l - 1]? := by
  refine atRow_of l none _ (before_le x l) (fun i a hi ha => by have := before_lt x l i a hi ha; omega) fun a ha => ?_
  have := before_ge x l a ha
  have : a.pos ≠ x := fun e => h ⟨a, ha, e⟩
  omega
theorem fi_of_row {size nf : Int} {r : SRow} (h : rowBad size nf r = false) : -1 ≤ r.fi ∧ r.fi ≤ nf - 1 := by
  simp only [rowBad, outB, Bool.or_eq_false_iff, decide_eq_false_iff_not] at h; omega
theorem get_file {l : List (List UInt8)} {i : Nat} (h : i < l.length) : l[i]? = some (l.getD i []) := by simp [List.getD, h]
theorem rowAt_any (t : Tab) (x : Int) (w : World) (hok : t.Ok w) (h0 : tabNo t = 0) :
    Calls Tryz.prog 294 #[.agg #[str t.id, .int .i64 t.size, .slice t.fi.A t.fi.q t.fi.c, .slice t.fu.A t.fu.q t.fu.c, .slice t.ro.A t.ro.q t.ro.c, .slice t.ca.A t.ca.q t.ca.c], .int .i64 x] w fun e w' => e = .returned (.tuple #[str (lineFile t.fi.l (atRow x t.ro.l none)), .int .i64 (lineLine (atRow x t.ro.l none))]) ∧ Below w.heap.size w w' := by
  have hq := hok.small
  have ht := hok.ro.t
  have hf := hok.fi.t
  have hlen := ht.len
  have hlf := hf.len
  obtain ⟨hall, hrise⟩ := rows_right _ _ (tab_rows h0)
  obtain ⟨n, hn⟩ : ∃ n, rowsBefore x t.ro.l = n := ⟨_, rfl⟩
  have hnq := before_le x t.ro.l
  refine enter_args (args := [.agg #[str t.id, .int .i64 t.size, .slice t.fi.A t.fi.q t.fi.c, .slice t.fu.A t.fu.q t.fu.c, .slice t.ro.A t.ro.q t.ro.c, .slice t.ca.A t.ca.q t.ca.c], .int .i64 x]) (F := _) Tryz.func294 rfl Tryz.ntmps294 rfl rfl ?_
  intro Rb hRb hRn
  refine T_seq ?_
  refine T_region ?_
  refine S_box 2 2 rfl rfl rfl rfl rfl ?_
  intro b2
  refine S_ 4 rfl rfl rfl _ (y_assign rfl rfl) ?_
  refine S_ 5 rfl rfl rfl _ (y_assign rfl rfl) ?_
  refine S_go (fun _ _ h => h) ?_
  refine T_seq ?_
  refine T_region ?_
  refine S_ 9 rfl rfl rfl _ (y_fieldAddr rfl rfl fa62_4) ?_
  refine S_ 10 rfl rfl rfl _ (y_load 2 rfl rfl rfl rfl Tryz.underlying59 rfl) ?_
  refine S_ 11 rfl rfl rfl _ (y_move rfl rfl) ?_
  refine S_ 12 rfl rfl rfl _ (y_call rfl rfl rfl cf356 (fun _ w hM => BSearch_any _ _ _ _ x w (ht.below hM.below) (by omega) hrise)) ?_
  refine S_ 8 rfl rfl rfl _ (y_move rfl rfl) ?_
  refine S_ 13 rfl rfl rfl _ (y_extract rfl rfl rfl) ?_
  refine S_ 14 rfl rfl rfl _ (y_extract rfl rfl rfl) ?_
  refine S_ 6 rfl rfl rfl _ (y_assign rfl rfl) ?_
  refine S_ 7 rfl rfl rfl _ (y_assign rfl rfl) ?_
  refine S_go (fun _ _ h => h) ?_
  refine T_seq ?_
  refine T_seq ?_
  refine T_region ?_
  refine S_ 15 rfl rfl rfl _ (y_move rfl rfl) ?_
  refine S_ 16 rfl rfl rfl _ (y_not rfl rfl) ?_
  refine S_go (fun _ _ h => h) ?_
  refine T_cond rfl (fun h16 => ?_) (fun h16 => ?_)
  · try simp only [decide_eq_true_eq, decide_eq_false_iff_not, Bool.or_eq_true, Bool.or_eq_false_iff, Bool.and_eq_true, Bool.and_eq_false_iff, Bool.not_eq_true', Bool.not_eq_false', Bool.not_eq_true, Bool.not_eq_false, Bool.not_true, Bool.not_false, Int.not_lt, Int.not_le, not_or, not_and, Classical.not_not] at h16
    have hat := atRow_miss h16
    rw [hn] at hat
    obtain ⟨kk, hkk⟩ : ∃ kk, kk = n - 1 := ⟨_, rfl⟩
    obtain ⟨r, hrow⟩ : ∃ r : SRow, 0 < n → t.ro.l[kk]? = some r := by
      by_cases hz : 0 < n
      · exact ⟨t.ro.l[kk], fun _ => by simp⟩
      · exact ⟨row0, fun h => absurd h hz⟩
    refine T_region ?_
    refine S_ 17 rfl rfl rfl _ (y_move rfl rfl) ?_
    refine S_ 18 rfl rfl rfl _ (y_bin rfl rfl rfl (fun hg => b_sub (by omega))) ?_
    refine S_ 6 rfl rfl rfl _ (y_assign rfl rfl) ?_
    refine S_go (fun _ _ h => h) ?_
    refine T_seq ?_
    refine T_seq ?_
    refine T_region ?_
    refine S_ 19 rfl rfl rfl _ (y_move rfl rfl) ?_
    refine S_ 20 rfl rfl rfl _ (y_bin rfl rfl rfl (fun _ => b_lss)) ?_
    refine S_ 21 rfl rfl rfl _ (y_move rfl rfl) ?_
    refine Sg_ 22 rfl rfl rfl rfl rfl rfl _ (y_fieldAddr rfl rfl fa62_4) ?_
    refine Sg_ 23 rfl rfl rfl rfl rfl rfl _ (y_load 2 rfl rfl rfl rfl Tryz.underlying59 rfl) ?_
    refine Sg_ 24 rfl rfl rfl rfl rfl rfl _ (y_move rfl rfl) ?_
    refine Sg_ 25 rfl rfl rfl rfl rfl rfl _ (y_indexAddrI (j := kk) rfl rfl rfl (fun hg => by simp only [Bool.true_and, Bool.and_eq_true, beq_iff_eq, decide_eq_true_eq, decide_eq_false_iff_not, Int.not_lt, Int.not_le] at hg; omega) Tryz.underlying59 sz198 (fun hg => ht.isSome (by simp only [Bool.true_and, Bool.and_eq_true, beq_iff_eq, decide_eq_true_eq, decide_eq_false_iff_not, Int.not_lt, Int.not_le] at hg; omega)) (fun hg => by simp only [Bool.true_and, Bool.and_eq_true, beq_iff_eq, decide_eq_true_eq, decide_eq_false_iff_not, Int.not_lt, Int.not_le] at hg; omega)) ?_
    refine Sg_ 26 rfl rfl rfl rfl rfl rfl _ (y_fieldEl rfl rfl ht.rd (fun hg => by simp only [Bool.true_and, Bool.and_eq_true, beq_iff_eq, decide_eq_true_eq, decide_eq_false_iff_not, Int.not_lt, Int.not_le] at hg; omega) fa198_1) ?_
    refine Sg_ 27 rfl rfl rfl rfl rfl rfl _ (y_load_fT rfl rfl ht (fun _ => rfl) (fun hg => hrow (by simp only [Bool.true_and, Bool.and_eq_true, beq_iff_eq, decide_eq_true_eq, decide_eq_false_iff_not, Int.not_lt, Int.not_le] at hg; omega)) rfl Tryz.underlying3 rfl) ?_
    refine Sg_ 28 rfl rfl rfl rfl rfl rfl _ (y_bin rfl rfl rfl (fun _ => b_lss)) ?_
    refine S_ 29 rfl rfl rfl _ (y_or rfl rfl rfl) ?_
    refine S_go (fun _ _ h => h) ?_
    refine T_cond rfl (fun h29 => ?_) (fun h29 => ?_)
    · try simp only [decide_eq_true_eq, decide_eq_false_iff_not, Bool.or_eq_true, Bool.or_eq_false_iff, Bool.and_eq_true, Bool.and_eq_false_iff, Bool.not_eq_true', Bool.not_eq_false', Bool.not_eq_true, Bool.not_eq_false, Bool.not_true, Bool.not_false, Int.not_lt, Int.not_le, not_or, not_and, Classical.not_not] at h29
      refine T_seq ?_
      refine T_region ?_
      refine S_ 4 rfl rfl rfl _ (y_assign rfl rfl) ?_
      refine S_ 5 rfl rfl rfl _ (y_assign rfl rfl) ?_
      refine S_go (fun _ _ h => h) ?_
      refine T_ret (fun a w hF hM => hRb a w (post2 rfl rfl rfl (fun w hM => ?_) a w hF hM))
      by_cases hz : n = 0
      · exact ⟨by rw [hat, if_pos hz]; rfl, hM.below⟩
      · have hlt : r.fi < 0 := by omega
        exact ⟨by rw [hat, if_neg hz, ← hkk, hrow (by omega)]; simp [lineFile, lineLine, hlt], hM.below⟩
    · try simp only [decide_eq_true_eq, decide_eq_false_iff_not, Bool.or_eq_true, Bool.or_eq_false_iff, Bool.and_eq_true, Bool.and_eq_false_iff, Bool.not_eq_true', Bool.not_eq_false', Bool.not_eq_true, Bool.not_eq_false, Bool.not_true, Bool.not_false, Int.not_lt, Int.not_le, not_or, not_and, Classical.not_not] at h29
      have hrr := hrow (by omega)
      obtain ⟨hb1, _, _⟩ := hall kk r hrr
      have hfi := fi_of_row hb1
      have hfile := get_file (l := t.fi.l) (i := r.fi.toNat) (by omega)
      refine T_skip_go (fun _ _ h => h) ?_
      refine T_seq ?_
      refine T_draws (by kernel_rfl) (by kernel_rfl) ?_
      refine D_ 30 rfl rfl rfl _ (y_fieldAddr rfl rfl fa62_2) ?_
      refine D_ 31 rfl rfl rfl _ (y_load 2 rfl rfl rfl rfl Tryz.underlying57 rfl) ?_
      refine D_ 32 rfl rfl rfl _ (y_fieldAddr rfl rfl fa62_4) ?_
      refine D_ 33 rfl rfl rfl _ (y_load 2 rfl rfl rfl rfl Tryz.underlying59 rfl) ?_
      refine D_ 34 rfl rfl rfl _ (y_move rfl rfl) ?_
      refine D_ 35 rfl rfl rfl _ (y_indexAddrI (j := kk) rfl rfl rfl (fun _ => by omega) Tryz.underlying59 sz198 (fun hg => ht.isSome (by omega)) (fun _ => by omega)) ?_
      refine D_ 36 rfl rfl rfl _ (y_fieldEl rfl rfl ht.rd (fun _ => by omega) fa198_1) ?_
      refine D_ 37 rfl rfl rfl _ (y_load_fT rfl rfl ht (fun _ => rfl) (fun _ => hrow (by omega)) rfl Tryz.underlying3 rfl) ?_
      refine D_ 38 rfl rfl rfl _ (y_indexAddrI (j := r.fi.toNat) rfl rfl rfl (fun _ => by omega) Tryz.underlying57 sz9 (fun hg => hf.isSome (by omega)) (fun _ => by omega)) ?_
      refine D_ 39 rfl rfl rfl _ (y_loadT1 (val := (fun l : List UInt8 => str l)) rfl rfl hf (fun _ => hfile) Tryz.underlying9 rfl) ?_
      refine D_ 40 rfl rfl rfl _ (y_fieldAddr rfl rfl fa62_4) ?_
      refine D_ 41 rfl rfl rfl _ (y_load 2 rfl rfl rfl rfl Tryz.underlying59 rfl) ?_
      refine D_ 42 rfl rfl rfl _ (y_move rfl rfl) ?_
      refine D_ 43 rfl rfl rfl _ (y_indexAddrI (j := kk) rfl rfl rfl (fun _ => by omega) Tryz.underlying59 sz198 (fun hg => ht.isSome (by omega)) (fun _ => by omega)) ?_
      refine D_ 44 rfl rfl rfl _ (y_fieldEl rfl rfl ht.rd (fun _ => by omega) fa198_2) ?_
      refine D_ 45 rfl rfl rfl _ (y_load_fT rfl rfl ht (fun _ => rfl) (fun _ => hrow (by omega)) rfl Tryz.underlying3 rfl) ?_
      refine D_ 4 rfl rfl rfl _ (y_assign rfl rfl) ?_
      refine D_ 5 rfl rfl rfl _ (y_assign rfl rfl) ?_
      refine D_go (fun _ _ h => h) ?_
      refine T_ret (fun a w hF hM => hRb a w (post2 rfl rfl rfl (fun w hM => ?_) a w hF hM))
      have hng : ¬ r.fi < 0 := by omega
      exact ⟨by rw [hat, if_neg (by omega), ← hkk, hrr]; simp only [lineFile, lineLine, if_neg hng], hM.below⟩
  · try simp only [decide_eq_true_eq, decide_eq_false_iff_not, Bool.or_eq_true, Bool.or_eq_false_iff, Bool.and_eq_true, Bool.and_eq_false_iff, Bool.not_eq_true', Bool.not_eq_false', Bool.not_eq_true, Bool.not_eq_false, Bool.not_true, Bool.not_false, Int.not_lt, Int.not_le, not_or, not_and, Classical.not_not] at h16
    obtain ⟨r, hr1, hr2⟩ := h16
    have hat := atRow_hit hrise hr1 hr2
    rw [hn] at hr1
    have hlt := (List.getElem?_eq_some_iff.1 hr1).1
    obtain ⟨kk, hkk⟩ : ∃ kk, kk = n := ⟨_, rfl⟩
    have hrow : 0 < n + 1 → t.ro.l[kk]? = some r := fun _ => hkk ▸ hr1
    refine T_skip_go (fun _ _ h => h) ?_
    refine T_seq ?_
    refine T_seq ?_
    refine T_region ?_
    refine S_ 19 rfl rfl rfl _ (y_move rfl rfl) ?_
    refine S_ 20 rfl rfl rfl _ (y_bin rfl rfl rfl (fun _ => b_lss)) ?_
    refine S_ 21 rfl rfl rfl _ (y_move rfl rfl) ?_
    refine Sg_ 22 rfl rfl rfl rfl rfl rfl _ (y_fieldAddr rfl rfl fa62_4) ?_
    refine Sg_ 23 rfl rfl rfl rfl rfl rfl _ (y_load 2 rfl rfl rfl rfl Tryz.underlying59 rfl) ?_
    refine Sg_ 24 rfl rfl rfl rfl rfl rfl _ (y_move rfl rfl) ?_
    refine Sg_ 25 rfl rfl rfl rfl rfl rfl _ (y_indexAddrI (j := kk) rfl rfl rfl (fun hg => by simp only [Bool.true_and, Bool.and_eq_true, beq_iff_eq, decide_eq_true_eq, decide_eq_false_iff_not, Int.not_lt, Int.not_le] at hg; omega) Tryz.underlying59 sz198 (fun hg => ht.isSome (by simp only [Bool.true_and, Bool.and_eq_true, beq_iff_eq, decide_eq_true_eq, decide_eq_false_iff_not, Int.not_lt, Int.not_le] at hg; omega)) (fun hg => by simp only [Bool.true_and, Bool.and_eq_true, beq_iff_eq, decide_eq_true_eq, decide_eq_false_iff_not, Int.not_lt, Int.not_le] at hg; omega)) ?_
    refine Sg_ 26 rfl rfl rfl rfl rfl rfl _ (y_fieldEl rfl rfl ht.rd (fun hg => by simp only [Bool.true_and, Bool.and_eq_true, beq_iff_eq, decide_eq_true_eq, decide_eq_false_iff_not, Int.not_lt, Int.not_le] at hg; omega) fa198_1) ?_
    refine Sg_ 27 rfl rfl rfl rfl rfl rfl _ (y_load_fT rfl rfl ht (fun _ => rfl) (fun hg => hrow (by simp only [Bool.true_and, Bool.and_eq_true, beq_iff_eq, decide_eq_true_eq, decide_eq_false_iff_not, Int.not_lt, Int.not_le] at hg; omega)) rfl Tryz.underlying3 rfl) ?_
    refine Sg_ 28 rfl rfl rfl rfl rfl rfl _ (y_bin rfl rfl rfl (fun _ => b_lss)) ?_
    refine S_ 29 rfl rfl rfl _ (y_or rfl rfl rfl) ?_
    refine S_go (fun _ _ h => h) ?_
    refine T_cond rfl (fun h29 => ?_) (fun h29 => ?_)
    · try simp only [decide_eq_true_eq, decide_eq_false_iff_not, Bool.or_eq_true, Bool.or_eq_false_iff, Bool.and_eq_true, Bool.and_eq_false_iff, Bool.not_eq_true', Bool.not_eq_false', Bool.not_eq_true, Bool.not_eq_false, Bool.not_true, Bool.not_false, Int.not_lt, Int.not_le, not_or, not_and, Classical.not_not] at h29
      refine T_seq ?_
      refine T_region ?_
      refine S_ 4 rfl rfl rfl _ (y_assign rfl rfl) ?_
      refine S_ 5 rfl rfl rfl _ (y_assign rfl rfl) ?_
      refine S_go (fun _ _ h => h) ?_
      refine T_ret (fun a w hF hM => hRb a w (post2 rfl rfl rfl (fun w hM => ?_) a w hF hM))
      have hlt : r.fi < 0 := by omega
      exact ⟨by rw [hat]; simp [lineFile, lineLine, hlt], hM.below⟩
    · try simp only [decide_eq_true_eq, decide_eq_false_iff_not, Bool.or_eq_true, Bool.or_eq_false_iff, Bool.and_eq_true, Bool.and_eq_false_iff, Bool.not_eq_true', Bool.not_eq_false', Bool.not_eq_true, Bool.not_eq_false, Bool.not_true, Bool.not_false, Int.not_lt, Int.not_le, not_or, not_and, Classical.not_not] at h29
      have hrr := hrow (by omega)
      obtain ⟨hb1, _, _⟩ := hall kk r hrr
      have hfi := fi_of_row hb1
      have hfile := get_file (l := t.fi.l) (i := r.fi.toNat) (by omega)
      refine T_skip_go (fun _ _ h => h) ?_
      refine T_seq ?_
      refine T_draws (by kernel_rfl) (by kernel_rfl) ?_
      refine D_ 30 rfl rfl rfl _ (y_fieldAddr rfl rfl fa62_2) ?_
      refine D_ 31 rfl rfl rfl _ (y_load 2 rfl rfl rfl rfl Tryz.underlying57 rfl) ?_
      refine D_ 32 rfl rfl rfl _ (y_fieldAddr rfl rfl fa62_4) ?_
      refine D_ 33 rfl rfl rfl _ (y_load 2 rfl rfl rfl rfl Tryz.underlying59 rfl) ?_
      refine D_ 34 rfl rfl rfl _ (y_move rfl rfl) ?_
      refine D_ 35 rfl rfl rfl _ (y_indexAddrI (j := kk) rfl rfl rfl (fun _ => by omega) Tryz.underlying59 sz198 (fun hg => ht.isSome (by omega)) (fun _ => by omega)) ?_
      refine D_ 36 rfl rfl rfl _ (y_fieldEl rfl rfl ht.rd (fun _ => by omega) fa198_1) ?_
      refine D_ 37 rfl rfl rfl _ (y_load_fT rfl rfl ht (fun _ => rfl) (fun _ => hrow (by omega)) rfl Tryz.underlying3 rfl) ?_
      refine D_ 38 rfl rfl rfl _ (y_indexAddrI (j := r.fi.toNat) rfl rfl rfl (fun _ => by omega) Tryz.underlying57 sz9 (fun hg => hf.isSome (by omega)) (fun _ => by omega)) ?_
      refine D_ 39 rfl rfl rfl _ (y_loadT1 (val := (fun l : List UInt8 => str l)) rfl rfl hf (fun _ => hfile) Tryz.underlying9 rfl) ?_
      refine D_ 40 rfl rfl rfl _ (y_fieldAddr rfl rfl fa62_4) ?_
      refine D_ 41 rfl rfl rfl _ (y_load 2 rfl rfl rfl rfl Tryz.underlying59 rfl) ?_
      refine D_ 42 rfl rfl rfl _ (y_move rfl rfl) ?_
      refine D_ 43 rfl rfl rfl _ (y_indexAddrI (j := kk) rfl rfl rfl (fun _ => by omega) Tryz.underlying59 sz198 (fun hg => ht.isSome (by omega)) (fun _ => by omega)) ?_
      refine D_ 44 rfl rfl rfl _ (y_fieldEl rfl rfl ht.rd (fun _ => by omega) fa198_2) ?_
      refine D_ 45 rfl rfl rfl _ (y_load_fT rfl rfl ht (fun _ => rfl) (fun _ => hrow (by omega)) rfl Tryz.underlying3 rfl) ?_
      refine D_ 4 rfl rfl rfl _ (y_assign rfl rfl) ?_
      refine D_ 5 rfl rfl rfl _ (y_assign rfl rfl) ?_
      refine D_go (fun _ _ h => h) ?_
      refine T_ret (fun a w hF hM => hRb a w (post2 rfl rfl rfl (fun w hM => ?_) a w hF hM))
      have hng : ¬ r.fi < 0 := by omega
      exact ⟨by rw [hat]; simp only [lineFile, lineLine, if_neg hng], hM.below⟩
end Go.Proofs.YtkkngcdikbhkjaaGreatDoor
end
section
namespace Go.Proofs.YtkkngcdikbhkjaaGreatDoor
set_option linter.unusedSimpArgs false
set_option linter.unusedVariables false
set_option maxRecDepth 20000
open Go.RowKit Go.Eng
structure SPlace where
  fn : List UInt8
  fi : List UInt8
  ln : Int
def SPlace.enc (p : SPlace) : List Value := [str p.fn, str p.fi, .int .i64 p.ln]
def SCall.has (x : Int) (c : SCall) : Bool := decide (c.fr ≤ x) && decide (x < c.tu)
/-- the places of the calls, the innermost (last) first; then the file and line where the outermost was called -/
def goPlaces (x : Int) (files : List (List UInt8)) : List SCall → List UInt8 → Int → List SPlace → List SPlace × List UInt8 × Int
  | [], file, line, out => (out, file, line)
  | c :: r, file, line, out => if c.has x = true then goPlaces x files r (files.getD c.fi.toNat []) c.ln (out ++ [⟨c.name, file, line⟩]) else goPlaces x files r file line out
def atOut (t : Tab) (x : Int) : List SPlace :=
  let n := findI (SFunc.has x) t.fu.l 0
  if n < 0 then [] else
    let p := goPlaces x t.fi.l t.ca.l.reverse (lineFile t.fi.l (atRow x t.ro.l none)) (lineLine (atRow x t.ro.l none)) []
    p.1 ++ [⟨(t.fu.l.getD n.toNat ⟨[], 0, 0⟩).name, p.2.1, p.2.2⟩]
theorem calls_right {size nf : Int} {fu : List SFunc} : ∀ (l before : List SCall) (b : SCall), callsNo size nf fu before l b = 0 →
    (∀ (i : Nat) (c : SCall), l[i]? = some c → nameNo c.name = 0 ∧ callBad size nf c = false ∧ callNo fu (before ++ l.take i) c = 0)
  | [], _, _, _ => fun i c h => by simp at h
  | c :: r, before, b, h => by
    unfold callsNo at h
    split at h
    · rename_i h1; exact absurd h h1
    rename_i h1
    split at h
    · cases h
    rename_i h2
    split at h
    · cases h
    split at h
    · rename_i h4; exact absurd h h4
    rename_i h4
    intro i a ha
    cases i with
    | zero => simp at ha; subst ha; exact ⟨by simpa using h1, by simpa using h2, by simpa using h4⟩
    | succ i =>
      have := calls_right r (before ++ [c]) c h i a (by simpa using ha)
      simpa using this
theorem tab_calls {t : Tab} (h : tabNo t = 0) : callsNo t.size t.fi.q t.fu.l [] t.ca.l call0 = 0 := by
  unfold tabNo at h
  split at h
  · cases h
  split at h
  · cases h
  obtain ⟨_, h⟩ := fst_zero h
  obtain ⟨_, h⟩ := fst_zero h
  obtain ⟨_, d⟩ := fst_zero h
  exact (le_of_ite d).2
theorem take_rev {α : Type} {l : List α} {j : Nat} {x : α} (hj : 0 < j) (h : l[j - 1]? = some x) : (l.take j).reverse = x :: (l.take (j - 1)).reverse := by
  have e := take_succ_at h
  rw [show j - 1 + 1 = j by omega] at e
  rw [e, List.reverse_append]; rfl
theorem fi_of_call {size nf : Int} {c : SCall} (h : callBad size nf c = false) : 0 ≤ c.fi ∧ c.fi ≤ nf - 1 := by
  simp only [callBad, outB, Bool.or_eq_false_iff, decide_eq_false_iff_not] at h; omega
theorem findI_at {α : Type} {p : α → Bool} : ∀ (l : List α) (i : Int), 0 ≤ i → 0 ≤ findI p l i → ∃ (n : Nat) (a : α), findI p l i = i + n ∧ l[n]? = some a ∧ p a = true
  | [], i, _, h => by simp [findI] at h
  | a :: r, i, h0, h => by
    cases hp : p a
    · rw [findI_f hp] at h ⊢
      obtain ⟨n, b, h1, h2, h3⟩ := findI_at r (i + 1) (by omega) h
      exact ⟨n + 1, b, by rw [h1]; omega, by simpa using h2, h3⟩
    · exact ⟨0, a, by rw [findI_t hp]; simp, rfl, hp⟩
theorem at_any (t : Tab) (x : Int) (w : World) (hok : t.Ok w) (h0 : tabNo t = 0) :
    Calls Tryz.prog 167 #[.agg #[str t.id, .int .i64 t.size, .slice t.fi.A t.fi.q t.fi.c, .slice t.fu.A t.fu.q t.fu.c, .slice t.ro.A t.ro.q t.ro.c, .slice t.ca.A t.ca.q t.ca.c], .int .i64 x] w fun e w' => ∃ A c, e = .returned (.tuple #[.slice A (atOut t x).length c, .int .i64 (if findI (SFunc.has x) t.fu.l 0 < 0 then 7 else 0)]) ∧
      w'.ownsRow w.heap.size 134 3 (.slice A (atOut t x).length c) (atOut t x).length ((atOut t x).flatMap SPlace.enc) ∧ Below w.heap.size w w' := by
  have hq := hok.small
  have hr := rows_of h0
  have ht := hok.ca.t
  have hf := hok.fi.t
  have hlf := hf.len
  have hall := calls_right _ _ _ (tab_calls h0)
  refine enter_args (args := [.agg #[str t.id, .int .i64 t.size, .slice t.fi.A t.fi.q t.fi.c, .slice t.fu.A t.fu.q t.fu.c, .slice t.ro.A t.ro.q t.ro.c, .slice t.ca.A t.ca.q t.ca.c], .int .i64 x]) (F := _) Tryz.func167 rfl Tryz.ntmps167 rfl rfl ?_
  intro Rb hRb hRn
  refine T_seq ?_
  refine T_region ?_
  refine S_box 2 2 rfl rfl rfl rfl rfl ?_
  intro b2
  refine S_nilSlice 4 (e := 134) (size := 3) ?_
  refine S_ 4 rfl rfl rfl _ (y_assign rfl rfl) ?_
  refine S_ 5 rfl rfl rfl _ (y_assign rfl rfl) ?_
  refine S_go (fun _ _ h => h) ?_
  refine T_seq ?_
  refine T_region ?_
  refine S_ 14 rfl rfl rfl _ (y_loadA 2 rfl rfl rfl Tryz.underlying62 rfl sz62) ?_
  refine S_ 15 rfl rfl rfl _ (y_move rfl rfl) ?_
  refine S_ 16 rfl rfl rfl _ (y_call rfl rfl rfl cf293 (fun _ w hM => FuncAt_any t x w (hok.below hM.below))) ?_
  refine S_ 13 rfl rfl rfl _ (y_move rfl rfl) ?_
  refine S_ 17 rfl rfl rfl _ (y_extract rfl rfl rfl) ?_
  refine S_ 18 rfl rfl rfl _ (y_extract rfl rfl rfl) ?_
  refine S_ 6 rfl rfl rfl _ (y_assign rfl rfl) ?_
  refine S_ 7 rfl rfl rfl _ (y_assign rfl rfl) ?_
  refine S_go (fun _ _ h => h) ?_
  refine T_seq ?_
  refine T_seq ?_
  refine T_region ?_
  refine S_ 19 rfl rfl rfl _ (y_move rfl rfl) ?_
  refine S_ 20 rfl rfl rfl _ (y_not rfl rfl) ?_
  refine S_go (fun _ _ h => h) ?_
  refine T_cond rfl (fun h20 => ?_) (fun h20 => ?_)
  · try simp only [decide_eq_true_eq, decide_eq_false_iff_not, Bool.or_eq_true, Bool.or_eq_false_iff, Bool.and_eq_true, Bool.and_eq_false_iff, Bool.not_eq_true', Bool.not_eq_false', Bool.not_eq_true, Bool.not_eq_false, Bool.not_true, Bool.not_false, Int.not_lt, Int.not_le, not_or, not_and, Classical.not_not] at h20
    refine T_seq ?_
    refine T_region ?_
    refine S_nilSlice 4 (e := 134) (size := 3) ?_
    refine S_ 4 rfl rfl rfl _ (y_assign rfl rfl) ?_
    refine S_ 5 rfl rfl rfl _ (y_assign rfl rfl) ?_
    refine S_go (fun _ _ h => h) ?_
    refine T_ret (fun a w hF hM => hRb a w (post2 rfl rfl rfl (fun w hM => ?_) a w hF hM))
    have e : atOut t x = [] := by rw [atOut]; exact if_pos h20
    rw [e, if_pos h20]
    exact ⟨none, 0, rfl, hM.sat 4 _ rfl, hM.below⟩
  · try simp only [decide_eq_true_eq, decide_eq_false_iff_not, Bool.or_eq_true, Bool.or_eq_false_iff, Bool.and_eq_true, Bool.and_eq_false_iff, Bool.not_eq_true', Bool.not_eq_false', Bool.not_eq_true, Bool.not_eq_false, Bool.not_true, Bool.not_false, Int.not_lt, Int.not_le, not_or, not_and, Classical.not_not] at h20
    obtain ⟨n, fn, hfi0, hfn, _⟩ := findI_at t.fu.l 0 (by omega) (by omega)
    have hnl := (List.getElem?_eq_some_iff.1 hfn).1
    have hfl := hok.fu.t.len
    refine T_skip_go (fun _ _ h => h) ?_
    refine T_seq ?_
    refine T_region ?_
    refine S_ 22 rfl rfl rfl _ (y_loadA 2 rfl rfl rfl Tryz.underlying62 rfl sz62) ?_
    refine S_ 23 rfl rfl rfl _ (y_move rfl rfl) ?_
    refine S_ 24 rfl rfl rfl _ (y_call rfl rfl rfl cf294 (fun _ w hM => rowAt_any t x w (hok.below hM.below) h0)) ?_
    refine S_ 21 rfl rfl rfl _ (y_move rfl rfl) ?_
    refine S_ 25 rfl rfl rfl _ (y_extract rfl rfl rfl) ?_
    refine S_ 26 rfl rfl rfl _ (y_extract rfl rfl rfl) ?_
    refine S_ 8 rfl rfl rfl _ (y_assign rfl rfl) ?_
    refine S_ 9 rfl rfl rfl _ (y_assign rfl rfl) ?_
    refine S_go (fun _ _ h => h) ?_
    refine T_seq ?_
    refine T_region ?_
    refine S_nilSlice 10 (e := 134) (size := 3) ?_
    refine S_ 10 rfl rfl rfl _ (y_assign rfl rfl) ?_
    refine S_go (fun _ _ h => h) ?_
    refine T_seq ?_
    refine T_seq ?_
    refine T_region ?_
    refine S_ 27 rfl rfl rfl _ (y_fieldAddr rfl rfl fa62_5) ?_
    refine S_ 28 rfl rfl rfl _ (y_load 2 rfl rfl rfl rfl Tryz.underlying60 rfl) ?_
    refine S_ 29 rfl rfl rfl _ (y_len_slice rfl rfl Tryz.underlying60) ?_
    refine S_ 30 rfl rfl rfl _ (y_bin rfl rfl rfl (fun hg => b_sub (by omega))) ?_
    refine S_ 11 rfl rfl rfl _ (y_assign rfl rfl) ?_
    refine S_go (fun _ _ h => h) ?_
    refine T_block ?_
    refine T_loopK6 (kf := [(8, 12), (31, 65)]) (kl := [(8, 12), (31, 65)]) (fun (j : Nat) (out : List SPlace) (q : Nat) (A : Option Addr) (c : Nat) (fl : List UInt8 × Int) => [(11, true, .int .i64 ((j : Int) - 1)), (10, true, .slice A q c), (8, true, str fl.1), (9, true, .int .i64 fl.2)]) (fun (j : Nat) (out : List SPlace) (q : Nat) (A : Option Addr) (c : Nat) (fl : List UInt8 × Int) => [(10, .own 134 3 (.slice A q c) q (out.flatMap SPlace.enc))]) (fun (j : Nat) (out : List SPlace) (q : Nat) (A : Option Addr) (c : Nat) (fl : List UInt8 × Int) => j ≤ t.ca.q ∧ q + j ≤ t.ca.q ∧ out.length = q ∧ goPlaces x t.fi.l t.ca.l.reverse (lineFile t.fi.l (atRow x t.ro.l none)) (lineLine (atRow x t.ro.l none)) [] = goPlaces x t.fi.l (t.ca.l.take j).reverse fl.1 fl.2 out) (fun (j : Nat) (out : List SPlace) (q : Nat) (A : Option Addr) (c : Nat) (fl : List UInt8 × Int) => j) t.ca.q [] 0 none 0 (lineFile t.fi.l (atRow x t.ro.l none), lineLine (atRow x t.ro.l none)) (by repeat (first | exact kf_nil | (apply kf_in; focus rfl) | (apply kf_out; focus rfl))) (by repeat (first | exact kl_nil | exact kl_rest (by assumption) rfl | (apply kl_in; focus rfl) | (apply kl_out; focus rfl))) ?_ ?_ ?_ ?_
    · exact ⟨by omega, by omega, rfl, by rw [← ht.len, List.take_length]⟩
    · exact ⟨rfl, rfl, rfl, rfl, trivial⟩
    · exact ⟨rfl, trivial⟩
    rintro j out q A c fl ⟨hp1, hp2, hp3, hp4⟩
    refine T_seq ?_
    refine T_seq ?_
    refine T_region ?_
    refine S_ 31 rfl rfl rfl _ (y_move rfl rfl) ?_
    refine S_ 32 rfl rfl rfl _ (y_bin rfl rfl rfl (fun _ => b_geq)) ?_
    refine S_go (fun _ _ h => h) ?_
    refine T_cond rfl (fun h32 => ?_) (fun h32 => ?_)
    · try simp only [decide_eq_true_eq, decide_eq_false_iff_not, Bool.or_eq_true, Bool.or_eq_false_iff, Bool.and_eq_true, Bool.and_eq_false_iff, Bool.not_eq_true', Bool.not_eq_false', Bool.not_eq_true, Bool.not_eq_false, Bool.not_true, Bool.not_false, Int.not_lt, Int.not_le, not_or, not_and, Classical.not_not] at h32
      obtain ⟨c0, hx1, _⟩ := ht.at (i := j - 1) (by omega)
      obtain ⟨_, hb, _⟩ := hall (j - 1) c0 hx1
      have hfi := fi_of_call hb
      have hfile := get_file (l := t.fi.l) (i := c0.fi.toNat) (by omega)
      refine T_skip_go (fun _ _ h => h) ?_
      refine T_seq ?_
      refine T_block ?_
      refine T_seq ?_
      refine T_region ?_
      refine S_ 35 rfl rfl rfl _ (y_fieldAddr rfl rfl fa62_5) ?_
      refine S_ 36 rfl rfl rfl _ (y_load 2 rfl rfl rfl rfl Tryz.underlying60 rfl) ?_
      refine S_ 37 rfl rfl rfl _ (y_move rfl rfl) ?_
      refine S_ 38 rfl rfl rfl _ (y_indexAddrI (j := j - 1) rfl rfl rfl (fun _ => by omega) Tryz.underlying60 sz200 (fun hg => ht.isSome (by omega)) (fun _ => by omega)) ?_
      refine S_ 39 rfl rfl rfl _ (y_loadT rfl rfl ht (fun _ => rfl) (fun _ => hx1) Tryz.underlying200 rfl sz200) ?_
      refine S_alloc 12 12 rfl rfl rfl rfl z200 ?_
      intro b12
      refine S_store 12 rfl rfl rfl rfl rfl rfl sz200 rfl rfl ?_
      refine S_go (fun _ _ h => h) ?_
      refine T_seq ?_
      refine T_region ?_
      refine S_ 40 rfl rfl rfl _ (y_fieldAddr rfl rfl fa200_1) ?_
      refine S_ 41 rfl rfl rfl _ (y_load 12 rfl rfl rfl rfl Tryz.underlying3 rfl) ?_
      refine S_ 42 rfl rfl rfl _ (y_move rfl rfl) ?_
      refine S_ 43 rfl rfl rfl _ (y_bin rfl rfl rfl (fun _ => b_leq)) ?_
      refine S_ 44 rfl rfl rfl _ (y_move rfl rfl) ?_
      refine Sg_ 45 rfl rfl rfl rfl rfl rfl _ (y_move rfl rfl) ?_
      refine Sg_ 46 rfl rfl rfl rfl rfl rfl _ (y_fieldAddr rfl rfl fa200_2) ?_
      refine Sg_ 47 rfl rfl rfl rfl rfl rfl _ (y_load 12 rfl rfl rfl rfl Tryz.underlying3 rfl) ?_
      refine Sg_ 48 rfl rfl rfl rfl rfl rfl _ (y_bin rfl rfl rfl (fun _ => b_lss)) ?_
      refine S_ 49 rfl rfl rfl _ (y_as (v' := .bool (c0.has x)) (by exact rfl) (y_and rfl rfl rfl)) ?_
      refine S_go (fun _ _ h => h) ?_
      refine T_cond rfl (fun h49 => ?_) (fun h49 => ?_)
      · skip
        refine T_seq ?_
        refine T_region ?_
        refine S_ 50 rfl rfl rfl _ (y_move rfl rfl) ?_
        refine S_ 51 rfl rfl rfl _ (y_fieldAddr rfl rfl fa200_0) ?_
        refine S_ 52 rfl rfl rfl _ (y_load 12 rfl rfl rfl rfl Tryz.underlying9 rfl) ?_
        refine S_ 53 rfl rfl rfl _ (y_move rfl rfl) ?_
        refine S_ 54 rfl rfl rfl _ (y_move rfl rfl) ?_
        refine S_ 55 rfl rfl rfl _ (y_build (zv := .agg #[.string ⟨#[]⟩, .string ⟨#[]⟩, .int .i64 0]) (pl := [(0, 1), (1, 1), (2, 1)]) (out := [_, _, _]) rfl rfl Tryz.underlying134 z134 (by kernel_rfl) rfl) ?_
        refine S_buildSlice 56 56 rfl rfl rfl rfl rfl Tryz.underlying119 inf134 rfl (by decide) (by decide) rfl rfl (by decide) rfl (_) rfl ?_
        intro b56
        obtain ⟨i57, hi57, hz57, hs57, hy57⟩ := info_parts inf134
        refine S_append 57 10 56 rfl rfl rfl rfl rfl rfl rfl rfl Tryz.underlying119 hi57 hz57 hs57 hy57 rfl (by decide) (by decide) rfl ?_ ?_ (q + 1) ((out ++ [(⟨c0.name, fl.1, fl.2⟩ : SPlace)]).flatMap SPlace.enc) ?_ ?_ ?_
        · (simp only [maxLen]; omega)
        · omega
        · rfl
        · simp [List.flatMap_append, SPlace.enc]; rfl
        intro A57 c57
        refine S_ 10 rfl rfl rfl _ (y_assign rfl rfl) ?_
        refine S_go (fun _ _ h => h) ?_
        refine T_draws (by kernel_rfl) (by kernel_rfl) ?_
        refine D_ 58 rfl rfl rfl _ (y_fieldAddr rfl rfl fa62_2) ?_
        refine D_ 59 rfl rfl rfl _ (y_load 2 rfl rfl rfl rfl Tryz.underlying57 rfl) ?_
        refine D_ 60 rfl rfl rfl _ (y_fieldAddr rfl rfl fa200_3) ?_
        refine D_ 61 rfl rfl rfl _ (y_load 12 rfl rfl rfl rfl Tryz.underlying3 rfl) ?_
        refine D_ 62 rfl rfl rfl _ (y_indexAddrI (j := c0.fi.toNat) rfl rfl rfl (fun _ => by omega) Tryz.underlying57 sz9 (fun hg => hf.isSome (by omega)) (fun _ => by omega)) ?_
        refine D_ 63 rfl rfl rfl _ (y_loadT1 (val := (fun l : List UInt8 => str l)) rfl rfl hf (fun _ => hfile) Tryz.underlying9 rfl) ?_
        refine D_ 64 rfl rfl rfl _ (y_fieldAddr rfl rfl fa200_4) ?_
        refine D_ 65 rfl rfl rfl _ (y_load 12 rfl rfl rfl rfl Tryz.underlying3 rfl) ?_
        refine D_ 8 rfl rfl rfl _ (y_assign rfl rfl) ?_
        refine D_ 9 rfl rfl rfl _ (y_assign rfl rfl) ?_
        refine D_go (fun _ _ h => h) ?_
        refine T_region ?_
        refine S_ 33 rfl rfl rfl _ (y_move rfl rfl) ?_
        refine S_ 34 rfl rfl rfl _ (y_bin rfl rfl rfl (fun hg => b_subv (((j - 1 : Nat) : Int) - 1) (by omega) (by omega))) ?_
        refine S_ 11 rfl rfl rfl _ (y_assign rfl rfl) ?_
        refine S_nil (nextK6 (kf := [(8, 12), (31, 65)]) (kl := [(8, 12), (31, 65)]) (j - 1) (out ++ [(⟨c0.name, fl.1, fl.2⟩ : SPlace)]) (q + 1) A57 c57 (t.fi.l.getD c0.fi.toNat [], c0.ln) (by repeat (first | exact kf_nil | (apply kf_in; focus rfl) | (apply kf_out; focus rfl))) (by repeat (first | exact kl_nil | exact kl_rest (by assumption) rfl | (apply kl_in; focus rfl) | (apply kl_out; focus rfl))) ?_ ?_ ?_ ?_)
        · omega
        · exact ⟨by omega, by omega, by simp [hp3], by rw [hp4, take_rev (by omega) hx1, goPlaces, if_t h49]⟩
        · exact ⟨rfl, rfl, rfl, rfl, trivial⟩
        · exact ⟨rfl, trivial⟩
      · skip
        refine T_skip_go (fun _ _ h => h) ?_
        refine T_region ?_
        refine S_ 33 rfl rfl rfl _ (y_move rfl rfl) ?_
        refine S_ 34 rfl rfl rfl _ (y_bin rfl rfl rfl (fun hg => b_subv (((j - 1 : Nat) : Int) - 1) (by omega) (by omega))) ?_
        refine S_ 11 rfl rfl rfl _ (y_assign rfl rfl) ?_
        refine S_nil (nextK6 (kf := [(8, 12), (31, 65)]) (kl := [(8, 12), (31, 65)]) (j - 1) out q A c fl (by repeat (first | exact kf_nil | (apply kf_in; focus rfl) | (apply kf_out; focus rfl))) (by repeat (first | exact kl_nil | exact kl_rest (by assumption) rfl | (apply kl_in; focus rfl) | (apply kl_out; focus rfl))) ?_ ?_ ?_ ?_)
        · omega
        · exact ⟨by omega, by omega, hp3, by rw [hp4, take_rev (by omega) hx1, goPlaces, if_f h49]⟩
        · exact ⟨rfl, rfl, rfl, rfl, trivial⟩
        · exact ⟨rfl, trivial⟩
    · try simp only [decide_eq_true_eq, decide_eq_false_iff_not, Bool.or_eq_true, Bool.or_eq_false_iff, Bool.and_eq_true, Bool.and_eq_false_iff, Bool.not_eq_true', Bool.not_eq_false', Bool.not_eq_true, Bool.not_eq_false, Bool.not_true, Bool.not_false, Int.not_lt, Int.not_le, not_or, not_and, Classical.not_not] at h32
      refine T_exit_go (fun _ _ h => h) ?_
      refine T_seq ?_
      refine T_region ?_
      refine S_ 66 rfl rfl rfl _ (y_move rfl rfl) ?_
      refine S_ 67 rfl rfl rfl _ (y_fieldAddr rfl rfl fa62_3) ?_
      refine S_ 68 rfl rfl rfl _ (y_load 2 rfl rfl rfl rfl Tryz.underlying58 rfl) ?_
      refine S_ 69 rfl rfl rfl _ (y_move rfl rfl) ?_
      refine S_ 70 rfl rfl rfl _ (y_indexAddrI (j := n) rfl rfl rfl (fun _ => by omega) Tryz.underlying58 sz196 (fun hg => hok.fu.t.isSome (by omega)) (fun _ => by omega)) ?_
      refine S_ 71 rfl rfl rfl _ (y_fieldEl rfl rfl hok.fu.t.rd (fun _ => by omega) fa196_0) ?_
      refine S_ 72 rfl rfl rfl _ (y_load_fT rfl rfl hok.fu.t (fun _ => rfl) (fun _ => hfn) rfl Tryz.underlying9 rfl) ?_
      refine S_ 73 rfl rfl rfl _ (y_move rfl rfl) ?_
      refine S_ 74 rfl rfl rfl _ (y_move rfl rfl) ?_
      refine S_ 75 rfl rfl rfl _ (y_build (zv := .agg #[.string ⟨#[]⟩, .string ⟨#[]⟩, .int .i64 0]) (pl := [(0, 1), (1, 1), (2, 1)]) (out := [_, _, _]) rfl rfl Tryz.underlying134 z134 (by kernel_rfl) rfl) ?_
      refine S_buildSlice 76 76 rfl rfl rfl rfl rfl Tryz.underlying119 inf134 rfl (by decide) (by decide) rfl rfl (by decide) rfl (_) rfl ?_
      intro b76
      obtain ⟨i77, hi77, hz77, hs77, hy77⟩ := info_parts inf134
      refine S_append 77 10 76 rfl rfl rfl rfl rfl rfl rfl rfl Tryz.underlying119 hi77 hz77 hs77 hy77 rfl (by decide) (by decide) rfl ?_ ?_ (q + 1) ((out ++ [(⟨fn.name, fl.1, fl.2⟩ : SPlace)]).flatMap SPlace.enc) ?_ ?_ ?_
      · (simp only [maxLen]; omega)
      · omega
      · rfl
      · simp [List.flatMap_append, SPlace.enc]; rfl
      intro A77 c77
      refine S_ 4 rfl rfl rfl _ (y_assign rfl rfl) ?_
      refine S_ 5 rfl rfl rfl _ (y_assign rfl rfl) ?_
      refine S_go (fun _ _ h => h) ?_
      refine T_ret (fun a w hF hM => hRb a w (post2 rfl rfl rfl (fun w hM => ?_) a w hF hM))
      have hz : j = 0 := by omega
      subst hz
      have e : atOut t x = out ++ [(⟨fn.name, fl.1, fl.2⟩ : SPlace)] := by
        unfold atOut
        simp only [if_neg (show ¬ findI (SFunc.has x) t.fu.l 0 < 0 by omega), hp4]
        rw [hfi0]
        simp [goPlaces, List.getD, hfn]
      have e2 : (out ++ [(⟨fn.name, fl.1, fl.2⟩ : SPlace)]).length = q + 1 := by simp [hp3]
      rw [e, e2, if_neg (by omega)]
      exact ⟨A77, c77, rfl, hM.sat 10 _ rfl, hM.below⟩
end Go.Proofs.YtkkngcdikbhkjaaGreatDoor
end
section
namespace Go.Proofs.YtkkngcdikbhkjaaGreatDoor
set_option linter.unusedSimpArgs false
set_option linter.unusedVariables false
set_option maxRecDepth 20000
open Go.RowKit Go.Eng
abbrev Nm := List UInt8
def upd (f : Int → Option Nm) (a b : Int) (nm : Nm) (x : Int) : Option Nm := if a ≤ x ∧ x < b then some nm else f x
/-- how many offsets below n have this name -/
def cnt (f : Int → Option Nm) (s : Nm) : Nat → Int
  | 0 => 0
  | n + 1 => cnt f s n + if f n = some s then 1 else 0
def inter (a b : Int) : Nat → Int
  | 0 => 0
  | n + 1 => inter a b n + if a ≤ (n : Int) ∧ (n : Int) < b then 1 else 0
theorem cnt_le (f : Int → Option Nm) (s : Nm) : ∀ n, 0 ≤ cnt f s n ∧ cnt f s n ≤ n
  | 0 => by simp [cnt]
  | n + 1 => by
    have := cnt_le f s n
    unfold cnt
    split <;> omega
theorem inter_eq {a b : Int} (h0 : 0 ≤ a) (h1 : a ≤ b) : ∀ n : Nat, inter a b n = if (n : Int) ≤ a then 0 else if (n : Int) ≤ b then n - a else b - a
  | 0 => by rw [if_pos (by omega)]; rfl
  | n + 1 => by
    unfold inter
    rw [inter_eq h0 h1 n]
    split <;> split <;> split <;> (try split) <;> omega
theorem inter_all {a b : Int} {n : Nat} (h0 : 0 ≤ a) (h1 : a ≤ b) (h2 : b ≤ n) : inter a b n = b - a := by
  rw [inter_eq h0 h1]
  split
  · omega
  split <;> omega
theorem cnt_upd {f : Int → Option Nm} {a b : Int} {nm : Nm} {o : Option Nm} (h : ∀ x, a ≤ x → x < b → f x = o) (s : Nm) : ∀ n : Nat,
    cnt (upd f a b nm) s n = cnt f s n + inter a b n * ((if nm = s then 1 else 0) - if o = some s then 1 else 0)
  | 0 => by simp [cnt, inter]
  | n + 1 => by
    unfold cnt inter
    rw [cnt_upd h s n, Int.add_mul]
    by_cases hx : a ≤ (n : Int) ∧ (n : Int) < b
    · have e1 : upd f a b nm n = some nm := if_pos hx
      rw [e1, h n hx.1 hx.2, if_pos hx, Int.one_mul]
      have e2 : (if some nm = some s then (1 : Int) else 0) = if nm = s then 1 else 0 := by simp
      rw [e2]; omega
    · have e1 : upd f a b nm n = f n := if_neg hx
      rw [e1, if_neg hx, Int.zero_mul]; omega
/-! ### Functions, then calls -/
def layF : List SFunc → (Int → Option Nm) → Int → Option Nm
  | [], f => f
  | g :: r, f => layF r (upd f g.fr g.tu g.name)
def layC : List SCall → (Int → Option Nm) → Int → Option Nm
  | [], f => f
  | g :: r, f => layC r (upd f g.fr g.tu g.name)
theorem layC_app (b : SCall) : ∀ (l : List SCall) (f : Int → Option Nm), layC (l ++ [b]) f = upd (layC l f) b.fr b.tu b.name
  | [], f => rfl
  | a :: r, f => by rw [List.cons_append, layC, layC_app b r]; rfl
theorem layF_before {size : Int} : ∀ (l : List SFunc) (last : Int) (f : Int → Option Nm) (x : Int), funcsNo size l last = 0 → x < last → layF l f x = f x
  | [], _, _, _, _, _ => rfl
  | g :: r, last, f, x, h, hx => by
    unfold funcsNo at h
    split at h
    · rename_i h1; exact absurd h h1
    split at h
    · cases h
    rename_i h2
    split at h
    · cases h
    simp only [spanBad, outB, Bool.or_eq_true, decide_eq_true_eq, not_or] at h2
    rw [layF, layF_before r g.tu _ x h (by omega), upd, if_neg (by omega)]
theorem layF_at {size : Int} : ∀ (l : List SFunc) (last : Int) (f : Int → Option Nm) (x : Int) (g : SFunc), funcsNo size l last = 0 → g ∈ l → g.fr ≤ x → x < g.tu → layF l f x = some g.name
  | [], _, _, _, _, _, h, _, _ => by cases h
  | a :: r, last, f, x, g, h, hg, h1, h2 => by
    unfold funcsNo at h
    split at h
    · rename_i h1; exact absurd h h1
    split at h
    · cases h
    split at h
    · cases h
    rw [layF]
    rcases List.mem_cons.1 hg with rfl | hg
    · rw [layF_before r g.tu _ x h h2, upd, if_pos ⟨h1, h2⟩]
    · exact layF_at r a.tu _ x g h hg h1 h2
/-- the name of what is around a call: the last one before it that has it whole -/
def aroundOf (c : SCall) : List SCall → Nm → Nm
  | [], nm => nm
  | b :: r, nm => if enclB b c = true then b.name else aroundOf c r nm
theorem around_lay {c : SCall} {f : Int → Option Nm} {nm : Nm} {x : Int} (h1 : c.fr ≤ x) (h2 : x < c.tu) (hf : f x = some nm) : ∀ r : List SCall, (∀ b ∈ r, apartB b c = true ∨ enclB b c = true) → layC r.reverse f x = some (aroundOf c r nm)
  | [], _ => hf
  | b :: r, h => by
    rw [List.reverse_cons, layC_app, upd, aroundOf]
    rcases h b List.mem_cons_self with hb | hb
    · have hb' : b.tu ≤ c.fr ∨ c.tu ≤ b.fr := by simpa [apartB] using hb
      rw [if_neg (by omega)]
      by_cases he : enclB b c = true
      · have : b.fr ≤ c.fr ∧ c.tu ≤ b.tu := by simpa [enclB] using he
        omega
      · rw [if_neg he]; exact around_lay h1 h2 hf r fun b hb => h b (List.mem_cons_of_mem _ hb)
    · have hb' : b.fr ≤ c.fr ∧ c.tu ≤ b.tu := by simpa [enclB] using hb
      rw [if_pos (by omega), if_pos hb]
theorem nest_apart {c : SCall} : ∀ (l : List SCall) (deep : Int), nestNo c l deep = 0 → ∀ b ∈ l, apartB b c = true ∨ enclB b c = true
  | [], _, _ => fun b h => by cases h
  | a :: r, deep, h => by
    unfold nestNo at h
    intro b hb
    split at h
    · rename_i h1
      rcases List.mem_cons.1 hb with rfl | hb
      · exact .inl h1
      · exact nest_apart r _ h b hb
    split at h
    · cases h
    rename_i h2
    rcases List.mem_cons.1 hb with rfl | hb
    · right
      simp only [cutsB, Bool.or_eq_true, decide_eq_true_eq, not_or] at h2
      simp only [enclB, Bool.and_eq_true, decide_eq_true_eq]
      omega
    · exact nest_apart r _ h b hb
/-! ### The map: names with what they have -/
def gi : List (Nm × Int) → Nm → Int
  | [], _ => 0
  | p :: r, s => if p.1 = s then p.2 else gi r s
def pi' : List (Nm × Int) → Nm → Int → List (Nm × Int)
  | [], s, v => [(s, v)]
  | p :: r, s, v => if p.1 = s then (p.1, v) :: r else p :: pi' r s v
def sumM : List (Nm × Int) → Int
  | [] => 0
  | p :: r => p.2 + sumM r
theorem sum_put (s : Nm) (v : Int) : ∀ l, sumM (pi' l s v) = sumM l - gi l s + v
  | [] => by simp [pi', sumM, gi]
  | p :: r => by
    unfold pi' gi
    split
    · simp only [sumM]; omega
    · simp only [sumM, sum_put s v r]; omega
theorem gi_put (s k : Nm) (v : Int) : ∀ l, gi (pi' l s v) k = if s = k then v else gi l k
  | [] => by simp [pi', gi]
  | p :: r => by
    unfold pi'
    split
    · rename_i h
      subst h
      simp only [gi]
      split <;> rfl
    · rename_i h
      simp only [gi, gi_put s k v r]
      by_cases h1 : p.1 = k
      · rw [if_pos h1, if_neg (by intro h2; exact h (h1.trans h2.symm)), if_pos h1]
      · rw [if_neg h1, if_neg h1]
theorem keys_put (s : Nm) (v : Int) : ∀ l : List (Nm × Int), (l.map Prod.fst).Nodup → ((pi' l s v).map Prod.fst).Nodup ∧ ∀ k ∈ (pi' l s v).map Prod.fst, k = s ∨ k ∈ l.map Prod.fst
  | [], _ => by simp [pi']
  | p :: r, h => by
    rw [List.map_cons, List.nodup_cons] at h
    obtain ⟨ih1, ih2⟩ := keys_put s v r h.2
    unfold pi'
    split
    · exact ⟨by rw [List.map_cons, List.nodup_cons]; exact h, fun k hk => .inr hk⟩
    · rename_i h1
      refine ⟨?_, fun k hk => ?_⟩
      · rw [List.map_cons, List.nodup_cons]
        refine ⟨fun hm => ?_, ih1⟩
        rcases ih2 _ hm with h3 | h3
        · exact h1 h3
        · exact h.1 h3
      · rw [List.map_cons] at hk
        rcases List.mem_cons.1 hk with hk | hk
        · exact .inr (by rw [hk]; exact List.mem_cons_self)
        · rcases ih2 k hk with h3 | h3
          · exact .inl h3
          · exact .inr (List.mem_cons_of_mem _ h3)
theorem gi_mem : ∀ l : List (Nm × Int), (l.map Prod.fst).Nodup → ∀ p ∈ l, gi l p.1 = p.2
  | [], _ => fun p h => by cases h
  | a :: r, h => by
    rw [List.map_cons, List.nodup_cons] at h
    intro p hp
    rcases List.mem_cons.1 hp with rfl | hp
    · exact if_pos rfl
    · have : a.1 ≠ p.1 := fun e => h.1 (by rw [e]; exact List.mem_map_of_mem hp)
      rw [gi, if_neg this]; exact gi_mem r h.2 p hp
/-- what the map holds where f is the owner -/
structure MapOk (n : Nat) (f : Int → Option Nm) (M : List (Nm × Int)) : Prop where
  get : ∀ s, gi M s = cnt f s n
  keys : (M.map Prod.fst).Nodup
theorem MapOk.pos {n : Nat} {f : Int → Option Nm} {M : List (Nm × Int)} (h : MapOk n f M) : ∀ p ∈ M, 0 ≤ p.2 := fun p hp => by
  rw [← gi_mem M h.keys p hp, h.get]; exact (cnt_le f p.1 n).1
theorem MapOk.func {n : Nat} {f : Int → Option Nm} {M : List (Nm × Int)} (h : MapOk n f M) {a b : Int} {nm : Nm} (h0 : 0 ≤ a) (h1 : a ≤ b) (h2 : b ≤ n) (hn : ∀ x, a ≤ x → x < b → f x = none) : MapOk n (upd f a b nm) (pi' M nm (gi M nm + (b - a))) := by
  refine ⟨fun s => ?_, (keys_put _ _ _ h.keys).1⟩
  rw [gi_put, cnt_upd hn s n, inter_all h0 h1 h2, if_neg (by simp : ¬ (none : Option Nm) = some s)]
  split
  · rename_i hs; subst hs; rw [h.get]; omega
  · rw [h.get]; omega
theorem MapOk.call {n : Nat} {f : Int → Option Nm} {M : List (Nm × Int)} (h : MapOk n f M) {a b : Int} {nm ar : Nm} (h0 : 0 ≤ a) (h1 : a ≤ b) (h2 : b ≤ n) (hn : ∀ x, a ≤ x → x < b → f x = some ar) :
    MapOk n (upd f a b nm) (pi' (pi' M ar (gi M ar - (b - a))) nm (gi (pi' M ar (gi M ar - (b - a))) nm + (b - a))) := by
  refine ⟨fun s => ?_, (keys_put _ _ _ (keys_put _ _ _ h.keys).1).1⟩
  rw [gi_put, gi_put, gi_put, cnt_upd hn s n, inter_all h0 h1 h2]
  by_cases hs : nm = s
  · subst hs
    rw [if_pos rfl, if_pos rfl]
    by_cases hr : ar = nm
    · subst hr; rw [if_pos rfl, if_pos rfl, h.get]; omega
    · rw [if_neg hr, if_neg (by simpa using hr), h.get]; omega
  · rw [if_neg hs, if_neg hs]
    by_cases hr : ar = s
    · subst hr; rw [if_pos rfl, if_pos rfl, h.get]; omega
    · rw [if_neg hr, if_neg (by simpa using hr), h.get]; omega
end Go.Proofs.YtkkngcdikbhkjaaGreatDoor
end
section
namespace Go.Proofs.YtkkngcdikbhkjaaGreatDoor
set_option linter.unusedSimpArgs false
set_option linter.unusedVariables false
set_option maxRecDepth 20000
open Go.RowKit Go.Eng
def atNo (t : Tab) (x : Int) : Int := fst (tabNo t) (if outB x 0 (t.size - 1) = true then 2 else if findI (SFunc.has x) t.fu.l 0 < 0 then 7 else 0)
def atAll (t : Tab) (x : Int) : List SPlace := if tabNo t = 0 ∧ outB x 0 (t.size - 1) = false then atOut t x else []
theorem At_any (t : Tab) (x : Int) (w : World) (hok : t.Ok w) :
    Calls Tryz.prog 62 #[.agg #[str t.id, .int .i64 t.size, .slice t.fi.A t.fi.q t.fi.c, .slice t.fu.A t.fu.q t.fu.c, .slice t.ro.A t.ro.q t.ro.c, .slice t.ca.A t.ca.q t.ca.c], .int .i64 x] w fun e w' => ∃ A c, e = .returned (.tuple #[.slice A (atAll t x).length c, .int .i64 (atNo t x)]) ∧
      w'.ownsRow w.heap.size 134 3 (.slice A (atAll t x).length c) (atAll t x).length ((atAll t x).flatMap SPlace.enc) ∧ Below w.heap.size w w' := by
  have hq := hok.small
  refine enter_args (args := [.agg #[str t.id, .int .i64 t.size, .slice t.fi.A t.fi.q t.fi.c, .slice t.fu.A t.fu.q t.fu.c, .slice t.ro.A t.ro.q t.ro.c, .slice t.ca.A t.ca.q t.ca.c], .int .i64 x]) (F := _) Tryz.func62 rfl Tryz.ntmps62 rfl rfl ?_
  intro Rb hRb hRn
  refine T_seq ?_
  refine T_region ?_
  refine S_box 2 2 rfl rfl rfl rfl rfl ?_
  intro b2
  refine S_nilSlice 4 (e := 134) (size := 3) ?_
  refine S_ 4 rfl rfl rfl _ (y_assign rfl rfl) ?_
  refine S_ 5 rfl rfl rfl _ (y_assign rfl rfl) ?_
  refine S_go (fun _ _ h => h) ?_
  refine T_seq ?_
  refine T_seq ?_
  refine T_region ?_
  refine S_ 7 rfl rfl rfl _ (y_loadA 2 rfl rfl rfl Tryz.underlying62 rfl sz62) ?_
  refine S_ 8 rfl rfl rfl _ (y_call rfl rfl rfl cf123 (fun _ w hM => CheckTable_any t w (hok.below hM.below))) ?_
  refine S_ 6 rfl rfl rfl _ (y_assign rfl rfl) ?_
  refine S_go (fun _ _ h => h) ?_
  refine T_seq ?_
  refine T_region ?_
  refine S_ 9 rfl rfl rfl _ (y_move rfl rfl) ?_
  refine S_ 10 rfl rfl rfl _ (y_bin rfl rfl rfl (fun _ => b_neq)) ?_
  refine S_go (fun _ _ h => h) ?_
  refine T_cond rfl (fun h10 => ?_) (fun h10 => ?_)
  · try simp only [decide_eq_true_eq, decide_eq_false_iff_not, Bool.or_eq_true, Bool.or_eq_false_iff, Bool.and_eq_true, Bool.and_eq_false_iff, Bool.not_eq_true', Bool.not_eq_false', Bool.not_eq_true, Bool.not_eq_false, Bool.not_true, Bool.not_false, Int.not_lt, Int.not_le, not_or, not_and, Classical.not_not] at h10
    refine T_seq ?_
    refine T_region ?_
    refine S_ 11 rfl rfl rfl _ (y_move rfl rfl) ?_
    refine S_nilSlice 4 (e := 134) (size := 3) ?_
    refine S_ 4 rfl rfl rfl _ (y_assign rfl rfl) ?_
    refine S_ 5 rfl rfl rfl _ (y_assign rfl rfl) ?_
    refine S_go (fun _ _ h => h) ?_
    refine T_ret (fun a w hF hM => hRb a w (post2 rfl rfl rfl (fun w hM => ?_) a w hF hM))
    have e : atNo t x = tabNo t := fst_a rfl h10
    have e2 : atAll t x = [] := if_neg (fun h => h10 h.1)
    rw [e, e2]
    exact ⟨none, 0, rfl, hM.sat 4 _ rfl, hM.below⟩
  · try simp only [decide_eq_true_eq, decide_eq_false_iff_not, Bool.or_eq_true, Bool.or_eq_false_iff, Bool.and_eq_true, Bool.and_eq_false_iff, Bool.not_eq_true', Bool.not_eq_false', Bool.not_eq_true, Bool.not_eq_false, Bool.not_true, Bool.not_false, Int.not_lt, Int.not_le, not_or, not_and, Classical.not_not] at h10
    have hsz := size_of_out (rows_of h10).1.2
    refine T_skip_go (fun _ _ h => h) ?_
    refine T_seq ?_
    refine T_seq ?_
    refine T_region ?_
    refine S_ 12 rfl rfl rfl _ (y_move rfl rfl) ?_
    refine S_ 13 rfl rfl rfl _ (y_fieldAddr rfl rfl fa62_1) ?_
    refine S_ 14 rfl rfl rfl _ (y_load 2 rfl rfl rfl rfl Tryz.underlying3 rfl) ?_
    refine S_ 15 rfl rfl rfl _ (y_bin rfl rfl rfl (fun hg => b_sub (by omega))) ?_
    refine S_ 16 rfl rfl rfl _ (y_call rfl rfl rfl cf166 (fun _ w _ => outsideB_any _ _ _ w)) ?_
    refine S_go (fun _ _ h => h) ?_
    refine T_cond rfl (fun h16 => ?_) (fun h16 => ?_)
    · skip
      refine T_seq ?_
      refine T_region ?_
      refine S_nilSlice 4 (e := 134) (size := 3) ?_
      refine S_ 4 rfl rfl rfl _ (y_assign rfl rfl) ?_
      refine S_ 5 rfl rfl rfl _ (y_assign rfl rfl) ?_
      refine S_go (fun _ _ h => h) ?_
      refine T_ret (fun a w hF hM => hRb a w (post2 rfl rfl rfl (fun w hM => ?_) a w hF hM))
      have e : atNo t x = 2 := fst_b h10 (if_t h16)
      have e2 : atAll t x = [] := if_neg (fun h => by rw [h16] at h; cases h.2)
      rw [e, e2]
      exact ⟨none, 0, rfl, hM.sat 4 _ rfl, hM.below⟩
    · skip
      refine T_skip_go (fun _ _ h => h) ?_
      refine T_seq ?_
      refine T_region ?_
      refine S_ 17 rfl rfl rfl _ (y_loadA 2 rfl rfl rfl Tryz.underlying62 rfl sz62) ?_
      refine S_ 18 rfl rfl rfl _ (y_move rfl rfl) ?_
      refine S_callOwn 19 19 rfl rfl rfl rfl rfl rfl rfl cf167 (fun A c => .tuple #[.slice A (atOut t x).length c, .int .i64 (if findI (SFunc.has x) t.fu.l 0 < 0 then 7 else 0)]) 134 3 ((atOut t x).length) ((atOut t x).flatMap SPlace.enc) (fun w hM => at_any t x w (hok.below hM.below) h10) ?_
      intro A19 c19
      refine S_ 20 rfl rfl rfl _ (y_extract rfl rfl rfl) ?_
      refine S_ 21 rfl rfl rfl _ (y_extract rfl rfl rfl) ?_
      refine S_ 4 rfl rfl rfl _ (y_assign rfl rfl) ?_
      refine S_ 5 rfl rfl rfl _ (y_assign rfl rfl) ?_
      refine S_go (fun _ _ h => h) ?_
      refine T_ret (fun a w hF hM => hRb a w (post2 rfl rfl rfl (fun w hM => ?_) a w hF hM))
      have e : atNo t x = (if findI (SFunc.has x) t.fu.l 0 < 0 then 7 else 0) := fst_b h10 (if_f h16)
      have e2 : atAll t x = atOut t x := if_pos ⟨h10, h16⟩
      rw [e, e2]
      exact ⟨A19, c19, rfl, hM.sat 19 _ rfl, hM.below⟩
end Go.Proofs.YtkkngcdikbhkjaaGreatDoor
end
section
namespace Go.Proofs.YtkkngcdikbhkjaaGreatDoor
set_option linter.unusedSimpArgs false
set_option linter.unusedVariables false
set_option maxRecDepth 20000
open Go.RowKit Go.Eng
/-- the reference goes the calls in order: the head is the innermost so far -/
def refP (x : Int) (files : List (List UInt8)) : List SCall → SPlace → List SPlace → List SPlace
  | [], p, q => p :: q
  | c :: r, p, q => if c.has x = true then refP x files r ⟨c.name, p.fi, p.ln⟩ (⟨p.fn, files.getD c.fi.toNat [], c.ln⟩ :: q) else refP x files r p q
theorem goPlaces_app {x : Int} {files : List (List UInt8)} (c : SCall) : ∀ (l : List SCall) (file : List UInt8) (line : Int) (out : List SPlace), goPlaces x files (l ++ [c]) file line out =
    (fun p : List SPlace × List UInt8 × Int => if c.has x = true then (p.1 ++ [⟨c.name, p.2.1, p.2.2⟩], files.getD c.fi.toNat [], c.ln) else p) (goPlaces x files l file line out)
  | [], file, line, out => by simp only [List.nil_append, goPlaces]
  | a :: r, file, line, out => by
    simp only [List.cons_append, goPlaces]
    split
    · exact goPlaces_app c r _ _ _
    · exact goPlaces_app c r _ _ _
theorem refP_eq {x : Int} {files : List (List UInt8)} : ∀ (cs : List SCall) (p : SPlace) (q : List SPlace),
    refP x files cs p q = (goPlaces x files cs.reverse p.fi p.ln []).1 ++ ⟨p.fn, (goPlaces x files cs.reverse p.fi p.ln []).2.1, (goPlaces x files cs.reverse p.fi p.ln []).2.2⟩ :: q
  | [], p, q => rfl
  | c :: r, p, q => by
    simp only [refP, List.reverse_cons, goPlaces_app]
    cases hc : c.has x with
    | true => simp only [if_true]; rw [refP_eq r]; simp
    | false => simp only [Bool.false_eq_true, if_false]; rw [refP_eq r]
theorem refP_atOut {t : Tab} {x : Int} {n : Nat} (hn : findI (SFunc.has x) t.fu.l 0 = n) :
    refP x t.fi.l t.ca.l ⟨(t.fu.l.getD n ⟨[], 0, 0⟩).name, lineFile t.fi.l (atRow x t.ro.l none), lineLine (atRow x t.ro.l none)⟩ [] = atOut t x := by
  rw [refP_eq]
  unfold atOut
  simp only [hn]
  rw [if_neg (by omega)]
  simp
end Go.Proofs.YtkkngcdikbhkjaaGreatDoor
end
