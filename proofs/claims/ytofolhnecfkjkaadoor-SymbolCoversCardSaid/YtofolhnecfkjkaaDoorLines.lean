/- symbol.Lines: the spans of a file's line. Conditions: those of each theorem. -/
import Derived.Test.YtofolhnecfkjkaaDoorFlt
import Derived.Test.YtofolhnecfkjkaaDoorOwn
import Derived.Test.YtofolhnecfkjkaaDoorOpen
namespace Go.Proofs.YtofolhnecfkjkaaDoor
set_option linter.unusedSimpArgs false
set_option linter.unusedVariables false
set_option maxRecDepth 20000
open Go.RowKit Go.Eng

structure SSpan where
  fr : Int
  to : Int
def SSpan.enc (s : SSpan) : List Value := [.int .i64 s.fr, .int .i64 s.to]
/-- where a row's offsets end -/
def rowEnd (size : Int) : List SRow → Int
  | [] => size
  | r :: _ => r.pos
/-- the spans so far, and one more, joined where it begins where the last one ends -/
def addSpan (out : List SSpan) (fr to : Int) : List SSpan :=
  match out.getLast? with
  | some k => if k.to = fr then out.set (out.length - 1) ⟨k.fr, to⟩ else out ++ [⟨fr, to⟩]
  | none => [⟨fr, to⟩]
def otherB (n ln : Int) (r : SRow) : Bool := !(decide (r.fi = n)) || !(decide (r.ln = ln))
def spansOf (size n ln : Int) : List SRow → List SSpan → List SSpan
  | [], out => out
  | r :: rest, out => if otherB n ln r = true then spansOf size n ln rest out else spansOf size n ln rest (addSpan out r.pos (rowEnd size rest))
theorem last_at {α : Type} (out : List α) : out.getLast? = if out = [] then none else out[out.length - 1]? := by
  cases out with
  | nil => rfl
  | cons a r => rw [if_neg (by simp), List.getLast?_eq_getElem?]
theorem addSpan_join {out : List SSpan} {k : SSpan} {fr to : Int} (hk : out[out.length - 1]? = some k) (h : k.to = fr) : addSpan out fr to = out.set (out.length - 1) ⟨k.fr, to⟩ := by
  unfold addSpan
  rw [last_at, if_neg (by rintro rfl; simp at hk), hk]
  simp only [if_pos h]
theorem addSpan_new {out : List SSpan} {k : SSpan} {fr to : Int} (hk : 0 < out.length → out[out.length - 1]? = some k) (h : 0 < out.length → k.to ≠ fr) : addSpan out fr to = out ++ [⟨fr, to⟩] := by
  unfold addSpan
  rw [last_at]
  by_cases h0 : out = []
  · rw [if_pos h0]; simp [h0]
  · have hl : 0 < out.length := List.length_pos_iff.2 h0
    rw [if_neg h0, hk hl]
    simp only [if_neg (h hl)]
def linesNo (t : Tab) (file : List UInt8) (ln : Int) : Int := fst (tabNo t) (if findI (eqS file) t.fi.l 0 < 0 then 7 else if outB ln 1 9999999 = true then 2 else 0)
def linesOut (t : Tab) (file : List UInt8) (ln : Int) : List SSpan := if linesNo t file ln = 0 then spansOf t.size (findI (eqS file) t.fi.l 0) ln t.ro.l [] else []
theorem fst_zero {a b : Int} (h : fst a b = 0) : a = 0 ∧ b = 0 := by
  unfold fst at h
  by_cases ha : a = 0
  · rw [if_neg (by simp [ha])] at h; exact ⟨ha, h⟩
  · rw [if_pos ha] at h; exact absurd h ha
theorem le_of_ite {p : Prop} [Decidable p] {a : Int} (h : (if p then (4 : Int) else a) = 0) : ¬ p ∧ a = 0 := by
  by_cases hp : p
  · rw [if_pos hp] at h; cases h
  · rw [if_neg hp] at h; exact ⟨hp, h⟩
/-- what a right table keeps -/
theorem rows_of {t : Tab} (h : tabNo t = 0) : (idOk t.id = true ∧ outB t.size 1 4294967296 = false) ∧ t.fi.q ≤ 200 ∧ t.fu.q ≤ 1000 ∧ t.ro.q ≤ 5000 ∧ t.ca.q ≤ 1000 := by
  unfold tabNo at h
  split at h
  · cases h
  rename_i h1
  split at h
  · cases h
  rename_i h2
  obtain ⟨a, h⟩ := fst_zero h
  obtain ⟨b, h⟩ := fst_zero h
  obtain ⟨c, d⟩ := fst_zero h
  have a := (le_of_ite a).1
  have b := (le_of_ite b).1
  have c := (le_of_ite c).1
  have d := (le_of_ite d).1
  exact ⟨⟨by simpa using h1, by simpa using h2⟩, by omega, by omega, by omega, by omega⟩
theorem Lines_any (t : Tab) (file : List UInt8) (ln : Int) (w : World) (hok : t.Ok w) :
    Calls Tryd.prog 18 #[.agg #[str t.id, .int .i64 t.size, .slice t.fi.A t.fi.q t.fi.c, .slice t.fu.A t.fu.q t.fu.c, .slice t.ro.A t.ro.q t.ro.c, .slice t.ca.A t.ca.q t.ca.c], str file, .int .i64 ln] w fun e w' => ∃ A c, e = .returned (.tuple #[.slice A (linesOut t file ln).length c, .int .i64 (linesNo t file ln)]) ∧
      w'.ownsRow w.heap.size 41 2 (.slice A (linesOut t file ln).length c) (linesOut t file ln).length ((linesOut t file ln).flatMap SSpan.enc) ∧ Below w.heap.size w w' := by
  have hq := hok.small
  have ht := hok.ro.t
  refine enter_args (args := [.agg #[str t.id, .int .i64 t.size, .slice t.fi.A t.fi.q t.fi.c, .slice t.fu.A t.fu.q t.fu.c, .slice t.ro.A t.ro.q t.ro.c, .slice t.ca.A t.ca.q t.ca.c], str file, .int .i64 ln]) (F := _) Tryd.func18 rfl Tryd.ntmps18 rfl rfl ?_
  intro Rb hRb hRn
  refine T_seq ?_
  refine T_region ?_
  refine S_box 3 3 rfl rfl rfl rfl rfl ?_
  intro b3
  refine S_nilSlice 6 (e := 41) (size := 2) ?_
  refine S_ 6 rfl rfl rfl _ (y_assign rfl rfl) ?_
  refine S_ 7 rfl rfl rfl _ (y_assign rfl rfl) ?_
  refine S_go (fun _ _ h => h) ?_
  refine T_seq ?_
  refine T_seq ?_
  refine T_region ?_
  refine S_ 15 rfl rfl rfl _ (y_loadA 3 rfl rfl rfl Tryd.underlying27 rfl sz27) ?_
  refine S_ 16 rfl rfl rfl _ (y_call rfl rfl rfl cf13 (fun _ w hM => CheckTable_any t w (hok.below hM.below))) ?_
  refine S_ 8 rfl rfl rfl _ (y_assign rfl rfl) ?_
  refine S_go (fun _ _ h => h) ?_
  refine T_seq ?_
  refine T_region ?_
  refine S_ 17 rfl rfl rfl _ (y_move rfl rfl) ?_
  refine S_ 18 rfl rfl rfl _ (y_bin rfl rfl rfl (fun _ => b_neq)) ?_
  refine S_go (fun _ _ h => h) ?_
  refine T_cond rfl (fun h18 => ?_) (fun h18 => ?_)
  · try simp only [decide_eq_true_eq, decide_eq_false_iff_not, Bool.or_eq_true, Bool.or_eq_false_iff, Bool.and_eq_true, Bool.and_eq_false_iff, Bool.not_eq_true', Bool.not_eq_false', Bool.not_eq_true, Bool.not_eq_false, Bool.not_true, Bool.not_false, Int.not_lt, Int.not_le, not_or, not_and, Classical.not_not] at h18
    refine T_seq ?_
    refine T_region ?_
    refine S_ 19 rfl rfl rfl _ (y_move rfl rfl) ?_
    refine S_nilSlice 6 (e := 41) (size := 2) ?_
    refine S_ 6 rfl rfl rfl _ (y_assign rfl rfl) ?_
    refine S_ 7 rfl rfl rfl _ (y_assign rfl rfl) ?_
    refine S_go (fun _ _ h => h) ?_
    refine T_ret (fun a w hF hM => hRb a w (post2 rfl rfl rfl (fun w hM => ?_) a w hF hM))
    have e : linesNo t file ln = tabNo t := fst_a rfl h18
    have e2 : linesOut t file ln = [] := by rw [linesOut, e, if_neg (by first | exact h18 | decide)]
    rw [e, e2]
    exact ⟨none, 0, rfl, hM.sat 6 _ rfl, hM.below⟩
  · try simp only [decide_eq_true_eq, decide_eq_false_iff_not, Bool.or_eq_true, Bool.or_eq_false_iff, Bool.and_eq_true, Bool.and_eq_false_iff, Bool.not_eq_true', Bool.not_eq_false', Bool.not_eq_true, Bool.not_eq_false, Bool.not_true, Bool.not_false, Int.not_lt, Int.not_le, not_or, not_and, Classical.not_not] at h18
    have hr := rows_of h18
    refine T_skip_go (fun _ _ h => h) ?_
    refine T_seq ?_
    refine T_region ?_
    refine S_ 20 rfl rfl rfl _ (y_fieldAddr rfl rfl fa27_2) ?_
    refine S_ 21 rfl rfl rfl _ (y_load 3 rfl rfl rfl rfl Tryd.underlying22 rfl) ?_
    refine S_ 22 rfl rfl rfl _ (y_move rfl rfl) ?_
    refine S_ 23 rfl rfl rfl _ (y_call rfl rfl rfl cf58 (fun _ w hM => IndexS_any _ _ _ _ _ w (hok.fi.t.below hM.below) (by omega))) ?_
    refine S_ 9 rfl rfl rfl _ (y_assign rfl rfl) ?_
    refine S_go (fun _ _ h => h) ?_
    refine T_seq ?_
    refine T_seq ?_
    refine T_region ?_
    refine S_ 24 rfl rfl rfl _ (y_move rfl rfl) ?_
    refine S_ 25 rfl rfl rfl _ (y_bin rfl rfl rfl (fun _ => b_lss)) ?_
    refine S_go (fun _ _ h => h) ?_
    refine T_cond rfl (fun h25 => ?_) (fun h25 => ?_)
    · try simp only [decide_eq_true_eq, decide_eq_false_iff_not, Bool.or_eq_true, Bool.or_eq_false_iff, Bool.and_eq_true, Bool.and_eq_false_iff, Bool.not_eq_true', Bool.not_eq_false', Bool.not_eq_true, Bool.not_eq_false, Bool.not_true, Bool.not_false, Int.not_lt, Int.not_le, not_or, not_and, Classical.not_not] at h25
      refine T_seq ?_
      refine T_region ?_
      refine S_nilSlice 6 (e := 41) (size := 2) ?_
      refine S_ 6 rfl rfl rfl _ (y_assign rfl rfl) ?_
      refine S_ 7 rfl rfl rfl _ (y_assign rfl rfl) ?_
      refine S_go (fun _ _ h => h) ?_
      refine T_ret (fun a w hF hM => hRb a w (post2 rfl rfl rfl (fun w hM => ?_) a w hF hM))
      have e : linesNo t file ln = 7 := fst_b h18 (if_pos h25)
      have e2 : linesOut t file ln = [] := by rw [linesOut, e, if_neg (by first | exact h18 | decide)]
      rw [e, e2]
      exact ⟨none, 0, rfl, hM.sat 6 _ rfl, hM.below⟩
    · try simp only [decide_eq_true_eq, decide_eq_false_iff_not, Bool.or_eq_true, Bool.or_eq_false_iff, Bool.and_eq_true, Bool.and_eq_false_iff, Bool.not_eq_true', Bool.not_eq_false', Bool.not_eq_true, Bool.not_eq_false, Bool.not_true, Bool.not_false, Int.not_lt, Int.not_le, not_or, not_and, Classical.not_not] at h25
      refine T_skip_go (fun _ _ h => h) ?_
      refine T_seq ?_
      refine T_seq ?_
      refine T_region ?_
      refine S_ 26 rfl rfl rfl _ (y_move rfl rfl) ?_
      refine S_ 27 rfl rfl rfl _ (y_call rfl rfl rfl cf44 (fun _ w _ => outsideB_any _ _ _ w)) ?_
      refine S_go (fun _ _ h => h) ?_
      refine T_cond rfl (fun h27 => ?_) (fun h27 => ?_)
      · skip
        refine T_seq ?_
        refine T_region ?_
        refine S_nilSlice 6 (e := 41) (size := 2) ?_
        refine S_ 6 rfl rfl rfl _ (y_assign rfl rfl) ?_
        refine S_ 7 rfl rfl rfl _ (y_assign rfl rfl) ?_
        refine S_go (fun _ _ h => h) ?_
        refine T_ret (fun a w hF hM => hRb a w (post2 rfl rfl rfl (fun w hM => ?_) a w hF hM))
        have e : linesNo t file ln = 2 := fst_b h18 ((if_neg (by omega)).trans (if_t h27))
        have e2 : linesOut t file ln = [] := by rw [linesOut, e, if_neg (by first | exact h18 | decide)]
        rw [e, e2]
        exact ⟨none, 0, rfl, hM.sat 6 _ rfl, hM.below⟩
      · skip
        refine T_skip_go (fun _ _ h => h) ?_
        refine T_seq ?_
        refine T_region ?_
        refine S_nilSlice 10 (e := 41) (size := 2) ?_
        refine S_ 10 rfl rfl rfl _ (y_assign rfl rfl) ?_
        refine S_go (fun _ _ h => h) ?_
        refine T_seq ?_
        refine T_seq ?_
        refine T_region ?_
        refine S_ 28 rfl rfl rfl _ (y_fieldAddr rfl rfl fa27_4) ?_
        refine S_ 29 rfl rfl rfl _ (y_load 3 rfl rfl rfl rfl Tryd.underlying24 rfl) ?_
        refine S_ 30 rfl rfl rfl _ (y_len_slice rfl rfl Tryd.underlying24) ?_
        refine S_ 31 rfl rfl rfl _ (y_move rfl rfl) ?_
        refine S_go (fun _ _ h => h) ?_
        refine T_block ?_
        refine T_loopK5 (kf := [(10, 14), (31, 88)]) (kl := [(10, 14), (31, 88)]) (fun (i : Nat) (out : List SSpan) (q : Nat) (A : Option Addr) (c : Nat) => [(31, true, .int .i64 (i : Int)), (10, true, .slice A q c)]) (fun (i : Nat) (out : List SSpan) (q : Nat) (A : Option Addr) (c : Nat) => [(10, .own 41 2 (.slice A q c) q (out.flatMap SSpan.enc))]) (fun (i : Nat) (out : List SSpan) (q : Nat) (A : Option Addr) (c : Nat) => i ≤ t.ro.q ∧ spansOf t.size (findI (eqS file) t.fi.l 0) ln t.ro.l [] = spansOf t.size (findI (eqS file) t.fi.l 0) ln (t.ro.l.drop i) out ∧ q ≤ i ∧ out.length = q) (fun (i : Nat) (out : List SSpan) (q : Nat) (A : Option Addr) (c : Nat) => t.ro.q - i) 0 [] 0 none 0 (by repeat (first | exact kf_nil | (apply kf_in; focus rfl) | (apply kf_out; focus rfl))) (by repeat (first | exact kl_nil | exact kl_rest (by assumption) rfl | (apply kl_in; focus rfl) | (apply kl_out; focus rfl))) ?_ ?_ ?_ ?_
        · exact ⟨by omega, rfl, by simp, rfl⟩
        · exact ⟨rfl, rfl, trivial⟩
        · exact ⟨rfl, trivial⟩
        rintro i out q A c ⟨hp1, hp2, hp3, hp4⟩
        refine T_seq ?_
        refine T_region ?_
        refine S_ 32 rfl rfl rfl _ (y_bin rfl rfl rfl (fun _ => b_lss)) ?_
        refine S_go (fun _ _ h => h) ?_
        refine T_seq ?_
        refine T_cond rfl (fun h32 => ?_) (fun h32 => ?_)
        · try simp only [decide_eq_true_eq, decide_eq_false_iff_not, Bool.or_eq_true, Bool.or_eq_false_iff, Bool.and_eq_true, Bool.and_eq_false_iff, Bool.not_eq_true', Bool.not_eq_false', Bool.not_eq_true, Bool.not_eq_false, Bool.not_true, Bool.not_false, Int.not_lt, Int.not_le, not_or, not_and, Classical.not_not] at h32
          obtain ⟨r, hx1, hx2⟩ := ht.at (i := i) (by omega)
          refine T_skip_go (fun _ _ h => h) ?_
          refine T_seq ?_
          refine T_block ?_
          refine T_seq ?_
          refine T_region ?_
          refine S_ 33 rfl rfl rfl _ (y_move rfl rfl) ?_
          refine S_ 34 rfl rfl rfl _ (y_indexAddr rfl rfl rfl Tryd.underlying24 sz98 (fun hg => ht.isSome (by omega)) (fun _ => by omega)) ?_
          refine S_ 35 rfl rfl rfl _ (y_loadT rfl rfl ht (fun _ => rfl) (fun _ => hx1) Tryd.underlying98 rfl sz98) ?_
          refine S_alloc 12 12 rfl rfl rfl rfl z98 ?_
          intro b12
          refine S_ 11 rfl rfl rfl _ (y_assign rfl rfl) ?_
          refine S_store 12 rfl rfl rfl rfl rfl rfl sz98 rfl rfl ?_
          refine S_go (fun _ _ h => h) ?_
          refine T_seq ?_
          refine T_seq ?_
          refine T_region ?_
          refine S_ 36 rfl rfl rfl _ (y_fieldAddr rfl rfl fa98_1) ?_
          refine S_ 37 rfl rfl rfl _ (y_load 12 rfl rfl rfl rfl Tryd.underlying3 rfl) ?_
          refine S_ 38 rfl rfl rfl _ (y_move rfl rfl) ?_
          refine S_ 39 rfl rfl rfl _ (y_bin rfl rfl rfl (fun _ => b_neq)) ?_
          refine S_ 40 rfl rfl rfl _ (y_move rfl rfl) ?_
          refine Sg_ 41 rfl rfl rfl rfl rfl rfl _ (y_fieldAddr rfl rfl fa98_2) ?_
          refine Sg_ 42 rfl rfl rfl rfl rfl rfl _ (y_load 12 rfl rfl rfl rfl Tryd.underlying3 rfl) ?_
          refine Sg_ 43 rfl rfl rfl rfl rfl rfl _ (y_move rfl rfl) ?_
          refine Sg_ 44 rfl rfl rfl rfl rfl rfl _ (y_bin rfl rfl rfl (fun _ => b_neq)) ?_
          refine S_ 45 rfl rfl rfl _ (y_as (v' := .bool (otherB (findI (eqS file) t.fi.l 0) ln r)) (by exact rfl) (y_or rfl rfl rfl)) ?_
          refine S_go (fun _ _ h => h) ?_
          refine T_cond rfl (fun h45 => ?_) (fun h45 => ?_)
          · skip
            refine T_exit_go (fun _ _ h => h) ?_
            refine T_region ?_
            refine S_ 88 rfl rfl rfl _ (y_bin rfl rfl rfl (fun hg => b_add (by omega))) ?_
            refine S_ 31 rfl rfl rfl _ (y_move rfl rfl) ?_
            refine S_nil (nextK5 (kf := [(10, 14), (31, 88)]) (kl := [(10, 14), (31, 88)]) (i + 1) out q A c (by repeat (first | exact kf_nil | (apply kf_in; focus rfl) | (apply kf_out; focus rfl))) (by repeat (first | exact kl_nil | exact kl_rest (by assumption) rfl | (apply kl_in; focus rfl) | (apply kl_out; focus rfl))) ?_ ?_ ?_ ?_)
            · omega
            · exact ⟨by omega, by rw [hp2, hx2, spansOf, if_t h45], by omega, hp4⟩
            · exact ⟨rfl, rfl, trivial⟩
            · exact ⟨rfl, trivial⟩
          · skip
            refine T_skip_go (fun _ _ h => h) ?_
            refine T_seq ?_
            refine T_region ?_
            refine S_ 46 rfl rfl rfl _ (y_fieldAddr rfl rfl fa27_1) ?_
            refine S_ 47 rfl rfl rfl _ (y_load 3 rfl rfl rfl rfl Tryd.underlying3 rfl) ?_
            refine S_ 13 rfl rfl rfl _ (y_assign rfl rfl) ?_
            refine S_go (fun _ _ h => h) ?_
            refine T_seq ?_
            refine T_seq ?_
            refine T_region ?_
            refine S_ 48 rfl rfl rfl _ (y_move rfl rfl) ?_
            refine S_ 49 rfl rfl rfl _ (y_bin rfl rfl rfl (fun hg => b_add (by omega))) ?_
            refine S_ 50 rfl rfl rfl _ (y_fieldAddr rfl rfl fa27_4) ?_
            refine S_ 51 rfl rfl rfl _ (y_load 3 rfl rfl rfl rfl Tryd.underlying24 rfl) ?_
            refine S_ 52 rfl rfl rfl _ (y_len_slice rfl rfl Tryd.underlying24) ?_
            refine S_ 53 rfl rfl rfl _ (y_bin rfl rfl rfl (fun _ => b_lss)) ?_
            refine S_go (fun _ _ h => h) ?_
            refine T_cond rfl (fun h53 => ?_) (fun h53 => ?_)
            · try simp only [decide_eq_true_eq, decide_eq_false_iff_not, Bool.or_eq_true, Bool.or_eq_false_iff, Bool.and_eq_true, Bool.and_eq_false_iff, Bool.not_eq_true', Bool.not_eq_false', Bool.not_eq_true, Bool.not_eq_false, Bool.not_true, Bool.not_false, Int.not_lt, Int.not_le, not_or, not_and, Classical.not_not] at h53
              obtain ⟨r2, hy1, hy2⟩ := ht.at (i := i + 1) (by omega)
              have hend : rowEnd t.size (t.ro.l.drop (i + 1)) = r2.pos := by rw [hy2]; rfl
              refine T_region ?_
              refine S_ 54 rfl rfl rfl _ (y_fieldAddr rfl rfl fa27_4) ?_
              refine S_ 55 rfl rfl rfl _ (y_load 3 rfl rfl rfl rfl Tryd.underlying24 rfl) ?_
              refine S_ 56 rfl rfl rfl _ (y_move rfl rfl) ?_
              refine S_ 57 rfl rfl rfl _ (y_bin rfl rfl rfl (fun hg => b_addv (((i + 1 : Nat) : Int)) (by omega) (by omega))) ?_
              refine S_ 58 rfl rfl rfl _ (y_indexAddr rfl rfl rfl Tryd.underlying24 sz98 (fun hg => ht.isSome (by omega)) (fun _ => by omega)) ?_
              refine S_ 59 rfl rfl rfl _ (y_fieldEl rfl rfl ht.rd (fun _ => by omega) fa98_0) ?_
              refine S_ 60 rfl rfl rfl _ (y_load_fT rfl rfl ht (fun _ => rfl) (fun _ => hy1) rfl Tryd.underlying3 rfl) ?_
              refine S_ 13 rfl rfl rfl _ (y_assign rfl rfl) ?_
              refine S_go (fun _ _ h => h) ?_
              refine T_seq ?_
              refine T_region ?_
              obtain ⟨k, hk⟩ : ∃ k : SSpan, 0 < q → out[q - 1]? = some k := by
                by_cases h0 : 0 < q
                · exact ⟨out[q - 1], fun _ => by simp [hp4]⟩
                · exact ⟨⟨0, 0⟩, fun h => absurd h h0⟩
              refine S_ 61 rfl rfl rfl _ (y_move rfl rfl) ?_
              refine S_ 62 rfl rfl rfl _ (y_len_slice rfl rfl Tryd.underlying37) ?_
              refine S_ 63 rfl rfl rfl _ (y_bin rfl rfl rfl (fun hg => b_sub (by omega))) ?_
              refine S_ 14 rfl rfl rfl _ (y_assign rfl rfl) ?_
              refine S_go (fun _ _ h => h) ?_
              refine T_seq ?_
              refine T_draws (by kernel_rfl) (by kernel_rfl) ?_
              refine D_ 64 rfl rfl rfl _ (y_move rfl rfl) ?_
              refine D_ 65 rfl rfl rfl _ (y_bin rfl rfl rfl (fun _ => b_geq)) ?_
              refine D_ 66 rfl rfl rfl _ (y_move rfl rfl) ?_
              refine Dg_ 67 rfl rfl rfl rfl rfl rfl _ (y_move rfl rfl) ?_
              refine Dg_ 68 rfl rfl rfl rfl rfl rfl _ (y_move rfl rfl) ?_
              refine Dg_ 69 rfl rfl rfl rfl rfl rfl _ (y_indexOwnI (j := q - 1) 10 rfl rfl rfl (fun hg => by simp only [Bool.true_and, Bool.and_eq_true, beq_iff_eq, decide_eq_true_eq, decide_eq_false_iff_not, Int.not_lt, Int.not_le] at hg; omega) rfl Tryd.underlying37 sz41 (fun hg => by simp only [Bool.true_and, Bool.and_eq_true, beq_iff_eq, decide_eq_true_eq, decide_eq_false_iff_not, Int.not_lt, Int.not_le] at hg; omega)) ?_
              refine Dg_ 70 rfl rfl rfl rfl rfl rfl _ (y_fieldOwn 10 rfl rfl rfl (fun hg => by simp only [Bool.true_and, Bool.and_eq_true, beq_iff_eq, decide_eq_true_eq, decide_eq_false_iff_not, Int.not_lt, Int.not_le] at hg; omega) fa41_1) ?_
              refine Dg_ 71 rfl rfl rfl rfl rfl rfl _ (y_load_cellOwn 10 rfl rfl rfl (fun hg => by simp only [Bool.true_and, Bool.and_eq_true, beq_iff_eq, decide_eq_true_eq, decide_eq_false_iff_not, Int.not_lt, Int.not_le] at hg; omega) (v := .int .i64 k.to) (fun hg => flat_at (enc := SSpan.enc) (size := 2) (fun _ => rfl) (hk (by simp only [Bool.true_and, Bool.and_eq_true, beq_iff_eq, decide_eq_true_eq, decide_eq_false_iff_not, Int.not_lt, Int.not_le] at hg; omega)) 1 (.int .i64 k.to) rfl) Tryd.underlying3 rfl) ?_
              refine Dg_ 72 rfl rfl rfl rfl rfl rfl _ (y_fieldAddr rfl rfl fa98_0) ?_
              refine Dg_ 73 rfl rfl rfl rfl rfl rfl _ (y_load 12 rfl rfl rfl rfl Tryd.underlying3 rfl) ?_
              refine Dg_ 74 rfl rfl rfl rfl rfl rfl _ (y_bin rfl rfl rfl (fun _ => b_eql)) ?_
              refine D_ 75 rfl rfl rfl _ (y_and rfl rfl rfl) ?_
              refine D_go (fun _ _ h => h) ?_
              refine T_cond rfl (fun h75 => ?_) (fun h75 => ?_)
              · try simp only [decide_eq_true_eq, decide_eq_false_iff_not, Bool.or_eq_true, Bool.or_eq_false_iff, Bool.and_eq_true, Bool.and_eq_false_iff, Bool.not_eq_true', Bool.not_eq_false', Bool.not_eq_true, Bool.not_eq_false, Bool.not_true, Bool.not_false, Int.not_lt, Int.not_le, not_or, not_and, Classical.not_not] at h75
                refine T_region ?_
                refine S_ 76 rfl rfl rfl _ (y_move rfl rfl) ?_
                refine S_ 77 rfl rfl rfl _ (y_move rfl rfl) ?_
                refine S_ 78 rfl rfl rfl _ (y_move rfl rfl) ?_
                refine S_ 79 rfl rfl rfl _ (y_indexOwnI (j := q - 1) 10 rfl rfl rfl (fun _ => by omega) rfl Tryd.underlying37 sz41 (fun _ => by omega)) ?_
                refine S_ 80 rfl rfl rfl _ (y_fieldOwn 10 rfl rfl rfl (fun _ => by omega) fa41_1) ?_
                refine S_storeOwn 10 rfl rfl rfl rfl rfl rfl sz3 rfl rfl ?_ (xs' := (out.set (q - 1) ⟨k.fr, r2.pos⟩).flatMap SSpan.enc) ?_ ?_
                · (rw [flat_len (e := SSpan.enc) (size := 2) (fun _ => rfl)]; omega)
                · exact flat_set (enc := SSpan.enc) (size := 2) (off := 1) (fun _ => rfl) (hk (by omega)) (by decide) rfl
                refine S_go (fun _ _ h => h) ?_
                refine T_region ?_
                refine S_ 88 rfl rfl rfl _ (y_bin rfl rfl rfl (fun hg => b_add (by omega))) ?_
                refine S_ 31 rfl rfl rfl _ (y_move rfl rfl) ?_
                refine S_nil (nextK5 (kf := [(10, 14), (31, 88)]) (kl := [(10, 14), (31, 88)]) (i + 1) (out.set (q - 1) ⟨k.fr, r2.pos⟩) q A c (by repeat (first | exact kf_nil | (apply kf_in; focus rfl) | (apply kf_out; focus rfl))) (by repeat (first | exact kl_nil | exact kl_rest (by assumption) rfl | (apply kl_in; focus rfl) | (apply kl_out; focus rfl))) ?_ ?_ ?_ ?_)
                · omega
                · exact ⟨by omega, by rw [hp2, hx2, spansOf, if_f h45, hend, addSpan_join (k := k) (by rw [hp4]; exact hk (by omega)) (by omega), hp4], by omega, by simp [hp4]⟩
                · exact ⟨rfl, rfl, trivial⟩
                · exact ⟨rfl, trivial⟩
              · try simp only [decide_eq_true_eq, decide_eq_false_iff_not, Bool.or_eq_true, Bool.or_eq_false_iff, Bool.and_eq_true, Bool.and_eq_false_iff, Bool.not_eq_true', Bool.not_eq_false', Bool.not_eq_true, Bool.not_eq_false, Bool.not_true, Bool.not_false, Int.not_lt, Int.not_le, not_or, not_and, Classical.not_not] at h75
                refine T_region ?_
                refine S_ 81 rfl rfl rfl _ (y_move rfl rfl) ?_
                refine S_ 82 rfl rfl rfl _ (y_fieldAddr rfl rfl fa98_0) ?_
                refine S_ 83 rfl rfl rfl _ (y_load 12 rfl rfl rfl rfl Tryd.underlying3 rfl) ?_
                refine S_ 84 rfl rfl rfl _ (y_move rfl rfl) ?_
                refine S_ 85 rfl rfl rfl _ (y_build (zv := .agg #[.int .i64 0, .int .i64 0]) (pl := [(0, 1), (1, 1)]) (out := [_, _]) rfl rfl Tryd.underlying41 z41 (by kernel_rfl) rfl) ?_
                refine S_buildSlice 86 86 rfl rfl rfl rfl rfl Tryd.underlying37 inf41 rfl (by decide) (by decide) rfl rfl (by decide) rfl (_) rfl ?_
                intro b86
                obtain ⟨i87, hi87, hz87, hs87, hy87⟩ := info_parts inf41
                refine S_append 87 10 86 rfl rfl rfl rfl rfl rfl rfl rfl Tryd.underlying37 hi87 hz87 hs87 hy87 rfl (by decide) (by decide) rfl ?_ ?_ (q + 1) ((out ++ [(⟨r.pos, r2.pos⟩ : SSpan)]).flatMap SSpan.enc) ?_ ?_ ?_
                · (simp only [maxLen]; omega)
                · omega
                · rfl
                · simp [List.flatMap_append, SSpan.enc]; rfl
                intro A87 c87
                refine S_ 10 rfl rfl rfl _ (y_assign rfl rfl) ?_
                refine S_go (fun _ _ h => h) ?_
                refine T_region ?_
                refine S_ 88 rfl rfl rfl _ (y_bin rfl rfl rfl (fun hg => b_add (by omega))) ?_
                refine S_ 31 rfl rfl rfl _ (y_move rfl rfl) ?_
                refine S_nil (nextK5 (kf := [(10, 14), (31, 88)]) (kl := [(10, 14), (31, 88)]) (i + 1) (out ++ [⟨r.pos, r2.pos⟩]) (q + 1) A87 c87 (by repeat (first | exact kf_nil | (apply kf_in; focus rfl) | (apply kf_out; focus rfl))) (by repeat (first | exact kl_nil | exact kl_rest (by assumption) rfl | (apply kl_in; focus rfl) | (apply kl_out; focus rfl))) ?_ ?_ ?_ ?_)
                · omega
                · exact ⟨by omega, by rw [hp2, hx2, spansOf, if_f h45, hend, addSpan_new (k := k) (by rw [hp4]; exact hk) (by rw [hp4]; omega)], by omega, by simp [hp4]⟩
                · exact ⟨rfl, rfl, trivial⟩
                · exact ⟨rfl, trivial⟩
            · try simp only [decide_eq_true_eq, decide_eq_false_iff_not, Bool.or_eq_true, Bool.or_eq_false_iff, Bool.and_eq_true, Bool.and_eq_false_iff, Bool.not_eq_true', Bool.not_eq_false', Bool.not_eq_true, Bool.not_eq_false, Bool.not_true, Bool.not_false, Int.not_lt, Int.not_le, not_or, not_and, Classical.not_not] at h53
              have hend : rowEnd t.size (t.ro.l.drop (i + 1)) = t.size := by rw [ht.end (by omega)]; rfl
              refine T_skip_go (fun _ _ h => h) ?_
              refine T_seq ?_
              refine T_region ?_
              obtain ⟨k, hk⟩ : ∃ k : SSpan, 0 < q → out[q - 1]? = some k := by
                by_cases h0 : 0 < q
                · exact ⟨out[q - 1], fun _ => by simp [hp4]⟩
                · exact ⟨⟨0, 0⟩, fun h => absurd h h0⟩
              refine S_ 61 rfl rfl rfl _ (y_move rfl rfl) ?_
              refine S_ 62 rfl rfl rfl _ (y_len_slice rfl rfl Tryd.underlying37) ?_
              refine S_ 63 rfl rfl rfl _ (y_bin rfl rfl rfl (fun hg => b_sub (by omega))) ?_
              refine S_ 14 rfl rfl rfl _ (y_assign rfl rfl) ?_
              refine S_go (fun _ _ h => h) ?_
              refine T_seq ?_
              refine T_draws (by kernel_rfl) (by kernel_rfl) ?_
              refine D_ 64 rfl rfl rfl _ (y_move rfl rfl) ?_
              refine D_ 65 rfl rfl rfl _ (y_bin rfl rfl rfl (fun _ => b_geq)) ?_
              refine D_ 66 rfl rfl rfl _ (y_move rfl rfl) ?_
              refine Dg_ 67 rfl rfl rfl rfl rfl rfl _ (y_move rfl rfl) ?_
              refine Dg_ 68 rfl rfl rfl rfl rfl rfl _ (y_move rfl rfl) ?_
              refine Dg_ 69 rfl rfl rfl rfl rfl rfl _ (y_indexOwnI (j := q - 1) 10 rfl rfl rfl (fun hg => by simp only [Bool.true_and, Bool.and_eq_true, beq_iff_eq, decide_eq_true_eq, decide_eq_false_iff_not, Int.not_lt, Int.not_le] at hg; omega) rfl Tryd.underlying37 sz41 (fun hg => by simp only [Bool.true_and, Bool.and_eq_true, beq_iff_eq, decide_eq_true_eq, decide_eq_false_iff_not, Int.not_lt, Int.not_le] at hg; omega)) ?_
              refine Dg_ 70 rfl rfl rfl rfl rfl rfl _ (y_fieldOwn 10 rfl rfl rfl (fun hg => by simp only [Bool.true_and, Bool.and_eq_true, beq_iff_eq, decide_eq_true_eq, decide_eq_false_iff_not, Int.not_lt, Int.not_le] at hg; omega) fa41_1) ?_
              refine Dg_ 71 rfl rfl rfl rfl rfl rfl _ (y_load_cellOwn 10 rfl rfl rfl (fun hg => by simp only [Bool.true_and, Bool.and_eq_true, beq_iff_eq, decide_eq_true_eq, decide_eq_false_iff_not, Int.not_lt, Int.not_le] at hg; omega) (v := .int .i64 k.to) (fun hg => flat_at (enc := SSpan.enc) (size := 2) (fun _ => rfl) (hk (by simp only [Bool.true_and, Bool.and_eq_true, beq_iff_eq, decide_eq_true_eq, decide_eq_false_iff_not, Int.not_lt, Int.not_le] at hg; omega)) 1 (.int .i64 k.to) rfl) Tryd.underlying3 rfl) ?_
              refine Dg_ 72 rfl rfl rfl rfl rfl rfl _ (y_fieldAddr rfl rfl fa98_0) ?_
              refine Dg_ 73 rfl rfl rfl rfl rfl rfl _ (y_load 12 rfl rfl rfl rfl Tryd.underlying3 rfl) ?_
              refine Dg_ 74 rfl rfl rfl rfl rfl rfl _ (y_bin rfl rfl rfl (fun _ => b_eql)) ?_
              refine D_ 75 rfl rfl rfl _ (y_and rfl rfl rfl) ?_
              refine D_go (fun _ _ h => h) ?_
              refine T_cond rfl (fun h75 => ?_) (fun h75 => ?_)
              · try simp only [decide_eq_true_eq, decide_eq_false_iff_not, Bool.or_eq_true, Bool.or_eq_false_iff, Bool.and_eq_true, Bool.and_eq_false_iff, Bool.not_eq_true', Bool.not_eq_false', Bool.not_eq_true, Bool.not_eq_false, Bool.not_true, Bool.not_false, Int.not_lt, Int.not_le, not_or, not_and, Classical.not_not] at h75
                refine T_region ?_
                refine S_ 76 rfl rfl rfl _ (y_move rfl rfl) ?_
                refine S_ 77 rfl rfl rfl _ (y_move rfl rfl) ?_
                refine S_ 78 rfl rfl rfl _ (y_move rfl rfl) ?_
                refine S_ 79 rfl rfl rfl _ (y_indexOwnI (j := q - 1) 10 rfl rfl rfl (fun _ => by omega) rfl Tryd.underlying37 sz41 (fun _ => by omega)) ?_
                refine S_ 80 rfl rfl rfl _ (y_fieldOwn 10 rfl rfl rfl (fun _ => by omega) fa41_1) ?_
                refine S_storeOwn 10 rfl rfl rfl rfl rfl rfl sz3 rfl rfl ?_ (xs' := (out.set (q - 1) ⟨k.fr, t.size⟩).flatMap SSpan.enc) ?_ ?_
                · (rw [flat_len (e := SSpan.enc) (size := 2) (fun _ => rfl)]; omega)
                · exact flat_set (enc := SSpan.enc) (size := 2) (off := 1) (fun _ => rfl) (hk (by omega)) (by decide) rfl
                refine S_go (fun _ _ h => h) ?_
                refine T_region ?_
                refine S_ 88 rfl rfl rfl _ (y_bin rfl rfl rfl (fun hg => b_add (by omega))) ?_
                refine S_ 31 rfl rfl rfl _ (y_move rfl rfl) ?_
                refine S_nil (nextK5 (kf := [(10, 14), (31, 88)]) (kl := [(10, 14), (31, 88)]) (i + 1) (out.set (q - 1) ⟨k.fr, t.size⟩) q A c (by repeat (first | exact kf_nil | (apply kf_in; focus rfl) | (apply kf_out; focus rfl))) (by repeat (first | exact kl_nil | exact kl_rest (by assumption) rfl | (apply kl_in; focus rfl) | (apply kl_out; focus rfl))) ?_ ?_ ?_ ?_)
                · omega
                · exact ⟨by omega, by rw [hp2, hx2, spansOf, if_f h45, hend, addSpan_join (k := k) (by rw [hp4]; exact hk (by omega)) (by omega), hp4], by omega, by simp [hp4]⟩
                · exact ⟨rfl, rfl, trivial⟩
                · exact ⟨rfl, trivial⟩
              · try simp only [decide_eq_true_eq, decide_eq_false_iff_not, Bool.or_eq_true, Bool.or_eq_false_iff, Bool.and_eq_true, Bool.and_eq_false_iff, Bool.not_eq_true', Bool.not_eq_false', Bool.not_eq_true, Bool.not_eq_false, Bool.not_true, Bool.not_false, Int.not_lt, Int.not_le, not_or, not_and, Classical.not_not] at h75
                refine T_region ?_
                refine S_ 81 rfl rfl rfl _ (y_move rfl rfl) ?_
                refine S_ 82 rfl rfl rfl _ (y_fieldAddr rfl rfl fa98_0) ?_
                refine S_ 83 rfl rfl rfl _ (y_load 12 rfl rfl rfl rfl Tryd.underlying3 rfl) ?_
                refine S_ 84 rfl rfl rfl _ (y_move rfl rfl) ?_
                refine S_ 85 rfl rfl rfl _ (y_build (zv := .agg #[.int .i64 0, .int .i64 0]) (pl := [(0, 1), (1, 1)]) (out := [_, _]) rfl rfl Tryd.underlying41 z41 (by kernel_rfl) rfl) ?_
                refine S_buildSlice 86 86 rfl rfl rfl rfl rfl Tryd.underlying37 inf41 rfl (by decide) (by decide) rfl rfl (by decide) rfl (_) rfl ?_
                intro b86
                obtain ⟨i87, hi87, hz87, hs87, hy87⟩ := info_parts inf41
                refine S_append 87 10 86 rfl rfl rfl rfl rfl rfl rfl rfl Tryd.underlying37 hi87 hz87 hs87 hy87 rfl (by decide) (by decide) rfl ?_ ?_ (q + 1) ((out ++ [(⟨r.pos, t.size⟩ : SSpan)]).flatMap SSpan.enc) ?_ ?_ ?_
                · (simp only [maxLen]; omega)
                · omega
                · rfl
                · simp [List.flatMap_append, SSpan.enc]; rfl
                intro A87 c87
                refine S_ 10 rfl rfl rfl _ (y_assign rfl rfl) ?_
                refine S_go (fun _ _ h => h) ?_
                refine T_region ?_
                refine S_ 88 rfl rfl rfl _ (y_bin rfl rfl rfl (fun hg => b_add (by omega))) ?_
                refine S_ 31 rfl rfl rfl _ (y_move rfl rfl) ?_
                refine S_nil (nextK5 (kf := [(10, 14), (31, 88)]) (kl := [(10, 14), (31, 88)]) (i + 1) (out ++ [⟨r.pos, t.size⟩]) (q + 1) A87 c87 (by repeat (first | exact kf_nil | (apply kf_in; focus rfl) | (apply kf_out; focus rfl))) (by repeat (first | exact kl_nil | exact kl_rest (by assumption) rfl | (apply kl_in; focus rfl) | (apply kl_out; focus rfl))) ?_ ?_ ?_ ?_)
                · omega
                · exact ⟨by omega, by rw [hp2, hx2, spansOf, if_f h45, hend, addSpan_new (k := k) (by rw [hp4]; exact hk) (by rw [hp4]; omega)], by omega, by simp [hp4]⟩
                · exact ⟨rfl, rfl, trivial⟩
                · exact ⟨rfl, trivial⟩
        · try simp only [decide_eq_true_eq, decide_eq_false_iff_not, Bool.or_eq_true, Bool.or_eq_false_iff, Bool.and_eq_true, Bool.and_eq_false_iff, Bool.not_eq_true', Bool.not_eq_false', Bool.not_eq_true, Bool.not_eq_false, Bool.not_true, Bool.not_false, Int.not_lt, Int.not_le, not_or, not_and, Classical.not_not] at h32
          refine T_exit_go (fun _ _ h => h) ?_
          refine T_seq ?_
          refine T_region ?_
          refine S_ 89 rfl rfl rfl _ (y_move rfl rfl) ?_
          refine S_ 6 rfl rfl rfl _ (y_assign rfl rfl) ?_
          refine S_ 7 rfl rfl rfl _ (y_assign rfl rfl) ?_
          refine S_go (fun _ _ h => h) ?_
          refine T_ret (fun a w hF hM => hRb a w (post2 rfl rfl rfl (fun w hM => ?_) a w hF hM))
          have e : linesNo t file ln = 0 := fst_b h18 ((if_neg (by omega)).trans (if_f h27))
          have e2 : linesOut t file ln = out := by rw [linesOut, if_pos e, hp2, ht.end (by omega)]; rfl
          rw [e, e2, hp4]
          exact ⟨A, c, rfl, hM.sat 10 _ rfl, hM.below⟩
end Go.Proofs.YtofolhnecfkjkaaDoor
