/- rowAt: the file and the line of an offset by rows. Condition: the table is right. -/
import Derived.Test.YtofolhnecfkjkaaDoorRight
namespace Go.Proofs.YtofolhnecfkjkaaDoor
set_option linter.unusedSimpArgs false
set_option linter.unusedVariables false
set_option maxRecDepth 20000
open Go.RowKit Go.Eng

theorem atRow_of {x : Int} : ∀ (l : List SRow) (o : Option SRow) (n : Nat), n ≤ l.length → (∀ i a, i < n → l[i]? = some a → a.pos ≤ x) → (∀ a, l[n]? = some a → x < a.pos) → atRow x l o = if n = 0 then o else l[n - 1]?
  | [], o, n, h, _, _ => by simp at h; simp [atRow, h]
  | r :: rest, o, 0, _, _, h2 => by simp only [atRow]; rw [if_pos (h2 r rfl)]; rfl
  | r :: rest, o, n + 1, h, h1, h2 => by
    simp only [atRow]
    have := h1 0 r (by omega) rfl
    rw [if_neg (by omega), atRow_of rest (some r) n (by simpa using h) (fun i a hi ha => h1 (i + 1) a (by omega) (by simpa using ha)) (fun a ha => h2 a (by simpa using ha))]
    cases n with
    | zero => simp
    | succ n => simp
def lineFile (files : List (List UInt8)) : Option SRow → List UInt8
  | none => []
  | some r => if r.fi < 0 then [] else files.getD r.fi.toNat []
def lineLine : Option SRow → Int
  | none => 0
  | some r => if r.fi < 0 then 0 else r.ln
theorem before_le (x : Int) : ∀ l : List SRow, rowsBefore x l ≤ l.length
  | [] => Nat.le_refl _
  | r :: rest => by
    simp only [rowsBefore, List.length_cons]
    split
    · have := before_le x rest; omega
    · omega
theorem before_lt (x : Int) : ∀ (l : List SRow) (i : Nat) (a : SRow), i < rowsBefore x l → l[i]? = some a → a.pos < x
  | [], i, a, h, _ => by simp [rowsBefore] at h
  | r :: rest, i, a, h, ha => by
    simp only [rowsBefore] at h
    split at h
    · cases i with
      | zero => simp at ha; subst ha; assumption
      | succ i => exact before_lt x rest i a (by omega) (by simpa using ha)
    · omega
theorem before_ge (x : Int) : ∀ (l : List SRow) (a : SRow), l[rowsBefore x l]? = some a → x ≤ a.pos
  | [], a, h => by simp at h
  | r :: rest, a, h => by
    simp only [rowsBefore] at h
    split at h
    · exact before_ge x rest a (by simpa using h)
    · simp at h; subst h; omega
/-- where the search finds x itself -/
theorem atRow_hit {x : Int} {l : List SRow} {r : SRow} (hr : Rising l) (h : l[rowsBefore x l]? = some r) (hx : r.pos = x) : atRow x l none = some r := by
  have hn := (List.getElem?_eq_some_iff.1 h).1
  rw [atRow_of l none (rowsBefore x l + 1) (by omega) (fun i a hi ha => by
    have := rise_left hr h (x := x + 1) (by omega) i a hi ha
    omega) (fun a ha => by have := hr _ _ r a h ha (by omega); omega)]
  rw [if_neg (by omega)]; exact h
/-- where it does not -/
theorem atRow_miss {x : Int} {l : List SRow} (h : ¬ ∃ r, l[rowsBefore x l]? = some r ∧ r.pos = x) : atRow x l none = if rowsBefore x l = 0 then none else l[rowsBefore x l - 1]? := by
  refine atRow_of l none _ (before_le x l) (fun i a hi ha => by have := before_lt x l i a hi ha; omega) fun a ha => ?_
  have := before_ge x l a ha
  have : a.pos ≠ x := fun e => h ⟨a, ha, e⟩
  omega
theorem fi_of_row {size nf : Int} {r : SRow} (h : rowBad size nf r = false) : -1 ≤ r.fi ∧ r.fi ≤ nf - 1 := by
  simp only [rowBad, outB, Bool.or_eq_false_iff, decide_eq_false_iff_not] at h; omega
theorem get_file {l : List (List UInt8)} {i : Nat} (h : i < l.length) : l[i]? = some (l.getD i []) := by simp [List.getD, h]
theorem rowAt_any (t : Tab) (x : Int) (w : World) (hok : t.Ok w) (h0 : tabNo t = 0) :
    Calls Tryd.prog 99 #[.agg #[str t.id, .int .i64 t.size, .slice t.fi.A t.fi.q t.fi.c, .slice t.fu.A t.fu.q t.fu.c, .slice t.ro.A t.ro.q t.ro.c, .slice t.ca.A t.ca.q t.ca.c], .int .i64 x] w fun e w' => e = .returned (.tuple #[str (lineFile t.fi.l (atRow x t.ro.l none)), .int .i64 (lineLine (atRow x t.ro.l none))]) ∧ Below w.heap.size w w' := by
  have hq := hok.small
  have ht := hok.ro.t
  have hf := hok.fi.t
  have hlen := ht.len
  have hlf := hf.len
  obtain ⟨hall, hrise⟩ := rows_right _ _ (tab_rows h0)
  obtain ⟨n, hn⟩ : ∃ n, rowsBefore x t.ro.l = n := ⟨_, rfl⟩
  have hnq := before_le x t.ro.l
  refine enter_args (args := [.agg #[str t.id, .int .i64 t.size, .slice t.fi.A t.fi.q t.fi.c, .slice t.fu.A t.fu.q t.fu.c, .slice t.ro.A t.ro.q t.ro.c, .slice t.ca.A t.ca.q t.ca.c], .int .i64 x]) (F := _) Tryd.func99 rfl Tryd.ntmps99 rfl rfl ?_
  intro Rb hRb hRn
  refine T_seq ?_
  refine T_region ?_
  refine S_box 2 2 rfl rfl rfl rfl rfl ?_
  intro b2
  refine S_ 4 rfl rfl rfl _ (y_assign rfl rfl) ?_
  refine S_ 5 rfl rfl rfl _ (y_assign rfl rfl) ?_
  refine S_go (fun _ _ h => h) ?_
  refine T_seq ?_
  refine T_region ?_
  refine S_ 9 rfl rfl rfl _ (y_fieldAddr rfl rfl fa27_4) ?_
  refine S_ 10 rfl rfl rfl _ (y_load 2 rfl rfl rfl rfl Tryd.underlying24 rfl) ?_
  refine S_ 11 rfl rfl rfl _ (y_move rfl rfl) ?_
  refine S_ 12 rfl rfl rfl _ (y_call rfl rfl rfl cf133 (fun _ w hM => BSearch_any _ _ _ _ x w (ht.below hM.below) (by omega) hrise)) ?_
  refine S_ 8 rfl rfl rfl _ (y_move rfl rfl) ?_
  refine S_ 13 rfl rfl rfl _ (y_extract rfl rfl rfl) ?_
  refine S_ 14 rfl rfl rfl _ (y_extract rfl rfl rfl) ?_
  refine S_ 6 rfl rfl rfl _ (y_assign rfl rfl) ?_
  refine S_ 7 rfl rfl rfl _ (y_assign rfl rfl) ?_
  refine S_go (fun _ _ h => h) ?_
  refine T_seq ?_
  refine T_seq ?_
  refine T_region ?_
  refine S_ 15 rfl rfl rfl _ (y_move rfl rfl) ?_
  refine S_ 16 rfl rfl rfl _ (y_not rfl rfl) ?_
  refine S_go (fun _ _ h => h) ?_
  refine T_cond rfl (fun h16 => ?_) (fun h16 => ?_)
  · try simp only [decide_eq_true_eq, decide_eq_false_iff_not, Bool.or_eq_true, Bool.or_eq_false_iff, Bool.and_eq_true, Bool.and_eq_false_iff, Bool.not_eq_true', Bool.not_eq_false', Bool.not_eq_true, Bool.not_eq_false, Bool.not_true, Bool.not_false, Int.not_lt, Int.not_le, not_or, not_and, Classical.not_not] at h16
    have hat := atRow_miss h16
    rw [hn] at hat
    obtain ⟨kk, hkk⟩ : ∃ kk, kk = n - 1 := ⟨_, rfl⟩
    obtain ⟨r, hrow⟩ : ∃ r : SRow, 0 < n → t.ro.l[kk]? = some r := by
      by_cases hz : 0 < n
      · exact ⟨t.ro.l[kk], fun _ => by simp⟩
      · exact ⟨row0, fun h => absurd h hz⟩
    refine T_region ?_
    refine S_ 17 rfl rfl rfl _ (y_move rfl rfl) ?_
    refine S_ 18 rfl rfl rfl _ (y_bin rfl rfl rfl (fun hg => b_sub (by omega))) ?_
    refine S_ 6 rfl rfl rfl _ (y_assign rfl rfl) ?_
    refine S_go (fun _ _ h => h) ?_
    refine T_seq ?_
    refine T_seq ?_
    refine T_region ?_
    refine S_ 19 rfl rfl rfl _ (y_move rfl rfl) ?_
    refine S_ 20 rfl rfl rfl _ (y_bin rfl rfl rfl (fun _ => b_lss)) ?_
    refine S_ 21 rfl rfl rfl _ (y_move rfl rfl) ?_
    refine Sg_ 22 rfl rfl rfl rfl rfl rfl _ (y_fieldAddr rfl rfl fa27_4) ?_
    refine Sg_ 23 rfl rfl rfl rfl rfl rfl _ (y_load 2 rfl rfl rfl rfl Tryd.underlying24 rfl) ?_
    refine Sg_ 24 rfl rfl rfl rfl rfl rfl _ (y_move rfl rfl) ?_
    refine Sg_ 25 rfl rfl rfl rfl rfl rfl _ (y_indexAddrI (j := kk) rfl rfl rfl (fun hg => by simp only [Bool.true_and, Bool.and_eq_true, beq_iff_eq, decide_eq_true_eq, decide_eq_false_iff_not, Int.not_lt, Int.not_le] at hg; omega) Tryd.underlying24 sz98 (fun hg => ht.isSome (by simp only [Bool.true_and, Bool.and_eq_true, beq_iff_eq, decide_eq_true_eq, decide_eq_false_iff_not, Int.not_lt, Int.not_le] at hg; omega)) (fun hg => by simp only [Bool.true_and, Bool.and_eq_true, beq_iff_eq, decide_eq_true_eq, decide_eq_false_iff_not, Int.not_lt, Int.not_le] at hg; omega)) ?_
    refine Sg_ 26 rfl rfl rfl rfl rfl rfl _ (y_fieldEl rfl rfl ht.rd (fun hg => by simp only [Bool.true_and, Bool.and_eq_true, beq_iff_eq, decide_eq_true_eq, decide_eq_false_iff_not, Int.not_lt, Int.not_le] at hg; omega) fa98_1) ?_
    refine Sg_ 27 rfl rfl rfl rfl rfl rfl _ (y_load_fT rfl rfl ht (fun _ => rfl) (fun hg => hrow (by simp only [Bool.true_and, Bool.and_eq_true, beq_iff_eq, decide_eq_true_eq, decide_eq_false_iff_not, Int.not_lt, Int.not_le] at hg; omega)) rfl Tryd.underlying3 rfl) ?_
    refine Sg_ 28 rfl rfl rfl rfl rfl rfl _ (y_bin rfl rfl rfl (fun _ => b_lss)) ?_
    refine S_ 29 rfl rfl rfl _ (y_or rfl rfl rfl) ?_
    refine S_go (fun _ _ h => h) ?_
    refine T_cond rfl (fun h29 => ?_) (fun h29 => ?_)
    · try simp only [decide_eq_true_eq, decide_eq_false_iff_not, Bool.or_eq_true, Bool.or_eq_false_iff, Bool.and_eq_true, Bool.and_eq_false_iff, Bool.not_eq_true', Bool.not_eq_false', Bool.not_eq_true, Bool.not_eq_false, Bool.not_true, Bool.not_false, Int.not_lt, Int.not_le, not_or, not_and, Classical.not_not] at h29
      refine T_seq ?_
      refine T_region ?_
      refine S_ 4 rfl rfl rfl _ (y_assign rfl rfl) ?_
      refine S_ 5 rfl rfl rfl _ (y_assign rfl rfl) ?_
      refine S_go (fun _ _ h => h) ?_
      refine T_ret (fun a w hF hM => hRb a w (post2 rfl rfl rfl (fun w hM => ?_) a w hF hM))
      by_cases hz : n = 0
      · exact ⟨by rw [hat, if_pos hz]; rfl, hM.below⟩
      · have hlt : r.fi < 0 := by omega
        exact ⟨by rw [hat, if_neg hz, ← hkk, hrow (by omega)]; simp [lineFile, lineLine, hlt], hM.below⟩
    · try simp only [decide_eq_true_eq, decide_eq_false_iff_not, Bool.or_eq_true, Bool.or_eq_false_iff, Bool.and_eq_true, Bool.and_eq_false_iff, Bool.not_eq_true', Bool.not_eq_false', Bool.not_eq_true, Bool.not_eq_false, Bool.not_true, Bool.not_false, Int.not_lt, Int.not_le, not_or, not_and, Classical.not_not] at h29
      have hrr := hrow (by omega)
      obtain ⟨hb1, _, _⟩ := hall kk r hrr
      have hfi := fi_of_row hb1
      have hfile := get_file (l := t.fi.l) (i := r.fi.toNat) (by omega)
      refine T_skip_go (fun _ _ h => h) ?_
      refine T_seq ?_
      refine T_draws (by kernel_rfl) (by kernel_rfl) ?_
      refine D_ 30 rfl rfl rfl _ (y_fieldAddr rfl rfl fa27_2) ?_
      refine D_ 31 rfl rfl rfl _ (y_load 2 rfl rfl rfl rfl Tryd.underlying22 rfl) ?_
      refine D_ 32 rfl rfl rfl _ (y_fieldAddr rfl rfl fa27_4) ?_
      refine D_ 33 rfl rfl rfl _ (y_load 2 rfl rfl rfl rfl Tryd.underlying24 rfl) ?_
      refine D_ 34 rfl rfl rfl _ (y_move rfl rfl) ?_
      refine D_ 35 rfl rfl rfl _ (y_indexAddrI (j := kk) rfl rfl rfl (fun _ => by omega) Tryd.underlying24 sz98 (fun hg => ht.isSome (by omega)) (fun _ => by omega)) ?_
      refine D_ 36 rfl rfl rfl _ (y_fieldEl rfl rfl ht.rd (fun _ => by omega) fa98_1) ?_
      refine D_ 37 rfl rfl rfl _ (y_load_fT rfl rfl ht (fun _ => rfl) (fun _ => hrow (by omega)) rfl Tryd.underlying3 rfl) ?_
      refine D_ 38 rfl rfl rfl _ (y_indexAddrI (j := r.fi.toNat) rfl rfl rfl (fun _ => by omega) Tryd.underlying22 sz9 (fun hg => hf.isSome (by omega)) (fun _ => by omega)) ?_
      refine D_ 39 rfl rfl rfl _ (y_loadT1 (val := (fun l : List UInt8 => str l)) rfl rfl hf (fun _ => hfile) Tryd.underlying9 rfl) ?_
      refine D_ 40 rfl rfl rfl _ (y_fieldAddr rfl rfl fa27_4) ?_
      refine D_ 41 rfl rfl rfl _ (y_load 2 rfl rfl rfl rfl Tryd.underlying24 rfl) ?_
      refine D_ 42 rfl rfl rfl _ (y_move rfl rfl) ?_
      refine D_ 43 rfl rfl rfl _ (y_indexAddrI (j := kk) rfl rfl rfl (fun _ => by omega) Tryd.underlying24 sz98 (fun hg => ht.isSome (by omega)) (fun _ => by omega)) ?_
      refine D_ 44 rfl rfl rfl _ (y_fieldEl rfl rfl ht.rd (fun _ => by omega) fa98_2) ?_
      refine D_ 45 rfl rfl rfl _ (y_load_fT rfl rfl ht (fun _ => rfl) (fun _ => hrow (by omega)) rfl Tryd.underlying3 rfl) ?_
      refine D_ 4 rfl rfl rfl _ (y_assign rfl rfl) ?_
      refine D_ 5 rfl rfl rfl _ (y_assign rfl rfl) ?_
      refine D_go (fun _ _ h => h) ?_
      refine T_ret (fun a w hF hM => hRb a w (post2 rfl rfl rfl (fun w hM => ?_) a w hF hM))
      have hng : ¬ r.fi < 0 := by omega
      exact ⟨by rw [hat, if_neg (by omega), ← hkk, hrr]; simp only [lineFile, lineLine, if_neg hng], hM.below⟩
  · try simp only [decide_eq_true_eq, decide_eq_false_iff_not, Bool.or_eq_true, Bool.or_eq_false_iff, Bool.and_eq_true, Bool.and_eq_false_iff, Bool.not_eq_true', Bool.not_eq_false', Bool.not_eq_true, Bool.not_eq_false, Bool.not_true, Bool.not_false, Int.not_lt, Int.not_le, not_or, not_and, Classical.not_not] at h16
    obtain ⟨r, hr1, hr2⟩ := h16
    have hat := atRow_hit hrise hr1 hr2
    rw [hn] at hr1
    have hlt := (List.getElem?_eq_some_iff.1 hr1).1
    obtain ⟨kk, hkk⟩ : ∃ kk, kk = n := ⟨_, rfl⟩
    have hrow : 0 < n + 1 → t.ro.l[kk]? = some r := fun _ => hkk ▸ hr1
    refine T_skip_go (fun _ _ h => h) ?_
    refine T_seq ?_
    refine T_seq ?_
    refine T_region ?_
    refine S_ 19 rfl rfl rfl _ (y_move rfl rfl) ?_
    refine S_ 20 rfl rfl rfl _ (y_bin rfl rfl rfl (fun _ => b_lss)) ?_
    refine S_ 21 rfl rfl rfl _ (y_move rfl rfl) ?_
    refine Sg_ 22 rfl rfl rfl rfl rfl rfl _ (y_fieldAddr rfl rfl fa27_4) ?_
    refine Sg_ 23 rfl rfl rfl rfl rfl rfl _ (y_load 2 rfl rfl rfl rfl Tryd.underlying24 rfl) ?_
    refine Sg_ 24 rfl rfl rfl rfl rfl rfl _ (y_move rfl rfl) ?_
    refine Sg_ 25 rfl rfl rfl rfl rfl rfl _ (y_indexAddrI (j := kk) rfl rfl rfl (fun hg => by simp only [Bool.true_and, Bool.and_eq_true, beq_iff_eq, decide_eq_true_eq, decide_eq_false_iff_not, Int.not_lt, Int.not_le] at hg; omega) Tryd.underlying24 sz98 (fun hg => ht.isSome (by simp only [Bool.true_and, Bool.and_eq_true, beq_iff_eq, decide_eq_true_eq, decide_eq_false_iff_not, Int.not_lt, Int.not_le] at hg; omega)) (fun hg => by simp only [Bool.true_and, Bool.and_eq_true, beq_iff_eq, decide_eq_true_eq, decide_eq_false_iff_not, Int.not_lt, Int.not_le] at hg; omega)) ?_
    refine Sg_ 26 rfl rfl rfl rfl rfl rfl _ (y_fieldEl rfl rfl ht.rd (fun hg => by simp only [Bool.true_and, Bool.and_eq_true, beq_iff_eq, decide_eq_true_eq, decide_eq_false_iff_not, Int.not_lt, Int.not_le] at hg; omega) fa98_1) ?_
    refine Sg_ 27 rfl rfl rfl rfl rfl rfl _ (y_load_fT rfl rfl ht (fun _ => rfl) (fun hg => hrow (by simp only [Bool.true_and, Bool.and_eq_true, beq_iff_eq, decide_eq_true_eq, decide_eq_false_iff_not, Int.not_lt, Int.not_le] at hg; omega)) rfl Tryd.underlying3 rfl) ?_
    refine Sg_ 28 rfl rfl rfl rfl rfl rfl _ (y_bin rfl rfl rfl (fun _ => b_lss)) ?_
    refine S_ 29 rfl rfl rfl _ (y_or rfl rfl rfl) ?_
    refine S_go (fun _ _ h => h) ?_
    refine T_cond rfl (fun h29 => ?_) (fun h29 => ?_)
    · try simp only [decide_eq_true_eq, decide_eq_false_iff_not, Bool.or_eq_true, Bool.or_eq_false_iff, Bool.and_eq_true, Bool.and_eq_false_iff, Bool.not_eq_true', Bool.not_eq_false', Bool.not_eq_true, Bool.not_eq_false, Bool.not_true, Bool.not_false, Int.not_lt, Int.not_le, not_or, not_and, Classical.not_not] at h29
      refine T_seq ?_
      refine T_region ?_
      refine S_ 4 rfl rfl rfl _ (y_assign rfl rfl) ?_
      refine S_ 5 rfl rfl rfl _ (y_assign rfl rfl) ?_
      refine S_go (fun _ _ h => h) ?_
      refine T_ret (fun a w hF hM => hRb a w (post2 rfl rfl rfl (fun w hM => ?_) a w hF hM))
      have hlt : r.fi < 0 := by omega
      exact ⟨by rw [hat]; simp [lineFile, lineLine, hlt], hM.below⟩
    · try simp only [decide_eq_true_eq, decide_eq_false_iff_not, Bool.or_eq_true, Bool.or_eq_false_iff, Bool.and_eq_true, Bool.and_eq_false_iff, Bool.not_eq_true', Bool.not_eq_false', Bool.not_eq_true, Bool.not_eq_false, Bool.not_true, Bool.not_false, Int.not_lt, Int.not_le, not_or, not_and, Classical.not_not] at h29
      have hrr := hrow (by omega)
      obtain ⟨hb1, _, _⟩ := hall kk r hrr
      have hfi := fi_of_row hb1
      have hfile := get_file (l := t.fi.l) (i := r.fi.toNat) (by omega)
      refine T_skip_go (fun _ _ h => h) ?_
      refine T_seq ?_
      refine T_draws (by kernel_rfl) (by kernel_rfl) ?_
      refine D_ 30 rfl rfl rfl _ (y_fieldAddr rfl rfl fa27_2) ?_
      refine D_ 31 rfl rfl rfl _ (y_load 2 rfl rfl rfl rfl Tryd.underlying22 rfl) ?_
      refine D_ 32 rfl rfl rfl _ (y_fieldAddr rfl rfl fa27_4) ?_
      refine D_ 33 rfl rfl rfl _ (y_load 2 rfl rfl rfl rfl Tryd.underlying24 rfl) ?_
      refine D_ 34 rfl rfl rfl _ (y_move rfl rfl) ?_
      refine D_ 35 rfl rfl rfl _ (y_indexAddrI (j := kk) rfl rfl rfl (fun _ => by omega) Tryd.underlying24 sz98 (fun hg => ht.isSome (by omega)) (fun _ => by omega)) ?_
      refine D_ 36 rfl rfl rfl _ (y_fieldEl rfl rfl ht.rd (fun _ => by omega) fa98_1) ?_
      refine D_ 37 rfl rfl rfl _ (y_load_fT rfl rfl ht (fun _ => rfl) (fun _ => hrow (by omega)) rfl Tryd.underlying3 rfl) ?_
      refine D_ 38 rfl rfl rfl _ (y_indexAddrI (j := r.fi.toNat) rfl rfl rfl (fun _ => by omega) Tryd.underlying22 sz9 (fun hg => hf.isSome (by omega)) (fun _ => by omega)) ?_
      refine D_ 39 rfl rfl rfl _ (y_loadT1 (val := (fun l : List UInt8 => str l)) rfl rfl hf (fun _ => hfile) Tryd.underlying9 rfl) ?_
      refine D_ 40 rfl rfl rfl _ (y_fieldAddr rfl rfl fa27_4) ?_
      refine D_ 41 rfl rfl rfl _ (y_load 2 rfl rfl rfl rfl Tryd.underlying24 rfl) ?_
      refine D_ 42 rfl rfl rfl _ (y_move rfl rfl) ?_
      refine D_ 43 rfl rfl rfl _ (y_indexAddrI (j := kk) rfl rfl rfl (fun _ => by omega) Tryd.underlying24 sz98 (fun hg => ht.isSome (by omega)) (fun _ => by omega)) ?_
      refine D_ 44 rfl rfl rfl _ (y_fieldEl rfl rfl ht.rd (fun _ => by omega) fa98_2) ?_
      refine D_ 45 rfl rfl rfl _ (y_load_fT rfl rfl ht (fun _ => rfl) (fun _ => hrow (by omega)) rfl Tryd.underlying3 rfl) ?_
      refine D_ 4 rfl rfl rfl _ (y_assign rfl rfl) ?_
      refine D_ 5 rfl rfl rfl _ (y_assign rfl rfl) ?_
      refine D_go (fun _ _ h => h) ?_
      refine T_ret (fun a w hF hM => hRb a w (post2 rfl rfl rfl (fun w hM => ?_) a w hF hM))
      have hng : ¬ r.fi < 0 := by omega
      exact ⟨by rw [hat]; simp only [lineFile, lineLine, if_neg hng], hM.below⟩
end Go.Proofs.YtofolhnecfkjkaaDoor
