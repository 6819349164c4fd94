/- symbol.at and symbol.At: the places of an offset. Conditions: those of each theorem. -/
import Derived.Test.YtofolhnecfkjkaaDoorRowAt
namespace Go.Proofs.YtofolhnecfkjkaaDoor
set_option linter.unusedSimpArgs false
set_option linter.unusedVariables false
set_option maxRecDepth 20000
open Go.RowKit Go.Eng

structure SPlace where
  fn : List UInt8
  fi : List UInt8
  ln : Int
def SPlace.enc (p : SPlace) : List Value := [str p.fn, str p.fi, .int .i64 p.ln]
def SCall.has (x : Int) (c : SCall) : Bool := decide (c.fr ≤ x) && decide (x < c.to)
/-- the places of the calls, the innermost (last) first; then the file and line where the outermost was called -/
def goPlaces (x : Int) (files : List (List UInt8)) : List SCall → List UInt8 → Int → List SPlace → List SPlace × List UInt8 × Int
  | [], file, line, out => (out, file, line)
  | c :: r, file, line, out => if c.has x = true then goPlaces x files r (files.getD c.fi.toNat []) c.ln (out ++ [⟨c.name, file, line⟩]) else goPlaces x files r file line out
def atOut (t : Tab) (x : Int) : List SPlace :=
  let n := findI (SFunc.has x) t.fu.l 0
  if n < 0 then [] else
    let p := goPlaces x t.fi.l t.ca.l.reverse (lineFile t.fi.l (atRow x t.ro.l none)) (lineLine (atRow x t.ro.l none)) []
    p.1 ++ [⟨(t.fu.l.getD n.toNat ⟨[], 0, 0⟩).name, p.2.1, p.2.2⟩]
theorem calls_right {size nf : Int} {fu : List SFunc} : ∀ (l before : List SCall) (b : SCall), callsNo size nf fu before l b = 0 →
    (∀ (i : Nat) (c : SCall), l[i]? = some c → nameNo c.name = 0 ∧ callBad size nf c = false ∧ callNo fu (before ++ l.take i) c = 0)
  | [], _, _, _ => fun i c h => by simp at h
  | c :: r, before, b, h => by
    unfold callsNo at h
    split at h
    · rename_i h1; exact absurd h h1
    rename_i h1
    split at h
    · cases h
    rename_i h2
    split at h
    · cases h
    split at h
    · rename_i h4; exact absurd h h4
    rename_i h4
    intro i a ha
    cases i with
    | zero => simp at ha; subst ha; exact ⟨by simpa using h1, by simpa using h2, by simpa using h4⟩
    | succ i =>
      have := calls_right r (before ++ [c]) c h i a (by simpa using ha)
      simpa using this
theorem tab_calls {t : Tab} (h : tabNo t = 0) : callsNo t.size t.fi.q t.fu.l [] t.ca.l call0 = 0 := by
  unfold tabNo at h
  split at h
  · cases h
  split at h
  · cases h
  obtain ⟨_, h⟩ := fst_zero h
  obtain ⟨_, h⟩ := fst_zero h
  obtain ⟨_, d⟩ := fst_zero h
  exact (le_of_ite d).2
theorem take_rev {α : Type} {l : List α} {j : Nat} {x : α} (hj : 0 < j) (h : l[j - 1]? = some x) : (l.take j).reverse = x :: (l.take (j - 1)).reverse := by
  have e := take_succ_at h
  rw [show j - 1 + 1 = j by omega] at e
  rw [e, List.reverse_append]; rfl
theorem fi_of_call {size nf : Int} {c : SCall} (h : callBad size nf c = false) : 0 ≤ c.fi ∧ c.fi ≤ nf - 1 := by
  simp only [callBad, outB, Bool.or_eq_false_iff, decide_eq_false_iff_not] at h; omega
theorem findI_at {α : Type} {p : α → Bool} : ∀ (l : List α) (i : Int), 0 ≤ i → 0 ≤ findI p l i → ∃ (n : Nat) (a : α), findI p l i = i + n ∧ l[n]? = some a ∧ p a = true
  | [], i, _, h => by simp [findI] at h
  | a :: r, i, h0, h => by
    cases hp : p a
    · rw [findI_f hp] at h ⊢
      obtain ⟨n, b, h1, h2, h3⟩ := findI_at r (i + 1) (by omega) h
      exact ⟨n + 1, b, by rw [h1]; omega, by simpa using h2, h3⟩
    · exact ⟨0, a, by rw [findI_t hp]; simp, rfl, hp⟩
theorem at_any (t : Tab) (x : Int) (w : World) (hok : t.Ok w) (h0 : tabNo t = 0) :
    Calls Tryd.prog 59 #[.agg #[str t.id, .int .i64 t.size, .slice t.fi.A t.fi.q t.fi.c, .slice t.fu.A t.fu.q t.fu.c, .slice t.ro.A t.ro.q t.ro.c, .slice t.ca.A t.ca.q t.ca.c], .int .i64 x] w fun e w' => ∃ A c, e = .returned (.tuple #[.slice A (atOut t x).length c, .int .i64 (if findI (SFunc.has x) t.fu.l 0 < 0 then 7 else 0)]) ∧
      w'.ownsRow w.heap.size 46 3 (.slice A (atOut t x).length c) (atOut t x).length ((atOut t x).flatMap SPlace.enc) ∧ Below w.heap.size w w' := by
  have hq := hok.small
  have hr := rows_of h0
  have ht := hok.ca.t
  have hf := hok.fi.t
  have hlf := hf.len
  have hall := calls_right _ _ _ (tab_calls h0)
  refine enter_args (args := [.agg #[str t.id, .int .i64 t.size, .slice t.fi.A t.fi.q t.fi.c, .slice t.fu.A t.fu.q t.fu.c, .slice t.ro.A t.ro.q t.ro.c, .slice t.ca.A t.ca.q t.ca.c], .int .i64 x]) (F := _) Tryd.func59 rfl Tryd.ntmps59 rfl rfl ?_
  intro Rb hRb hRn
  refine T_seq ?_
  refine T_region ?_
  refine S_box 2 2 rfl rfl rfl rfl rfl ?_
  intro b2
  refine S_nilSlice 4 (e := 46) (size := 3) ?_
  refine S_ 4 rfl rfl rfl _ (y_assign rfl rfl) ?_
  refine S_ 5 rfl rfl rfl _ (y_assign rfl rfl) ?_
  refine S_go (fun _ _ h => h) ?_
  refine T_seq ?_
  refine T_region ?_
  refine S_ 14 rfl rfl rfl _ (y_loadA 2 rfl rfl rfl Tryd.underlying27 rfl sz27) ?_
  refine S_ 15 rfl rfl rfl _ (y_move rfl rfl) ?_
  refine S_ 16 rfl rfl rfl _ (y_call rfl rfl rfl cf9 (fun _ w hM => FuncAt_any t x w (hok.below hM.below))) ?_
  refine S_ 13 rfl rfl rfl _ (y_move rfl rfl) ?_
  refine S_ 17 rfl rfl rfl _ (y_extract rfl rfl rfl) ?_
  refine S_ 18 rfl rfl rfl _ (y_extract rfl rfl rfl) ?_
  refine S_ 6 rfl rfl rfl _ (y_assign rfl rfl) ?_
  refine S_ 7 rfl rfl rfl _ (y_assign rfl rfl) ?_
  refine S_go (fun _ _ h => h) ?_
  refine T_seq ?_
  refine T_seq ?_
  refine T_region ?_
  refine S_ 19 rfl rfl rfl _ (y_move rfl rfl) ?_
  refine S_ 20 rfl rfl rfl _ (y_not rfl rfl) ?_
  refine S_go (fun _ _ h => h) ?_
  refine T_cond rfl (fun h20 => ?_) (fun h20 => ?_)
  · try simp only [decide_eq_true_eq, decide_eq_false_iff_not, Bool.or_eq_true, Bool.or_eq_false_iff, Bool.and_eq_true, Bool.and_eq_false_iff, Bool.not_eq_true', Bool.not_eq_false', Bool.not_eq_true, Bool.not_eq_false, Bool.not_true, Bool.not_false, Int.not_lt, Int.not_le, not_or, not_and, Classical.not_not] at h20
    refine T_seq ?_
    refine T_region ?_
    refine S_nilSlice 4 (e := 46) (size := 3) ?_
    refine S_ 4 rfl rfl rfl _ (y_assign rfl rfl) ?_
    refine S_ 5 rfl rfl rfl _ (y_assign rfl rfl) ?_
    refine S_go (fun _ _ h => h) ?_
    refine T_ret (fun a w hF hM => hRb a w (post2 rfl rfl rfl (fun w hM => ?_) a w hF hM))
    have e : atOut t x = [] := by rw [atOut]; exact if_pos h20
    rw [e, if_pos h20]
    exact ⟨none, 0, rfl, hM.sat 4 _ rfl, hM.below⟩
  · try simp only [decide_eq_true_eq, decide_eq_false_iff_not, Bool.or_eq_true, Bool.or_eq_false_iff, Bool.and_eq_true, Bool.and_eq_false_iff, Bool.not_eq_true', Bool.not_eq_false', Bool.not_eq_true, Bool.not_eq_false, Bool.not_true, Bool.not_false, Int.not_lt, Int.not_le, not_or, not_and, Classical.not_not] at h20
    obtain ⟨n, fn, hfi0, hfn, _⟩ := findI_at t.fu.l 0 (by omega) (by omega)
    have hnl := (List.getElem?_eq_some_iff.1 hfn).1
    have hfl := hok.fu.t.len
    refine T_skip_go (fun _ _ h => h) ?_
    refine T_seq ?_
    refine T_region ?_
    refine S_ 22 rfl rfl rfl _ (y_loadA 2 rfl rfl rfl Tryd.underlying27 rfl sz27) ?_
    refine S_ 23 rfl rfl rfl _ (y_move rfl rfl) ?_
    refine S_ 24 rfl rfl rfl _ (y_call rfl rfl rfl cf99 (fun _ w hM => rowAt_any t x w (hok.below hM.below) h0)) ?_
    refine S_ 21 rfl rfl rfl _ (y_move rfl rfl) ?_
    refine S_ 25 rfl rfl rfl _ (y_extract rfl rfl rfl) ?_
    refine S_ 26 rfl rfl rfl _ (y_extract rfl rfl rfl) ?_
    refine S_ 8 rfl rfl rfl _ (y_assign rfl rfl) ?_
    refine S_ 9 rfl rfl rfl _ (y_assign rfl rfl) ?_
    refine S_go (fun _ _ h => h) ?_
    refine T_seq ?_
    refine T_region ?_
    refine S_nilSlice 10 (e := 46) (size := 3) ?_
    refine S_ 10 rfl rfl rfl _ (y_assign rfl rfl) ?_
    refine S_go (fun _ _ h => h) ?_
    refine T_seq ?_
    refine T_seq ?_
    refine T_region ?_
    refine S_ 27 rfl rfl rfl _ (y_fieldAddr rfl rfl fa27_5) ?_
    refine S_ 28 rfl rfl rfl _ (y_load 2 rfl rfl rfl rfl Tryd.underlying25 rfl) ?_
    refine S_ 29 rfl rfl rfl _ (y_len_slice rfl rfl Tryd.underlying25) ?_
    refine S_ 30 rfl rfl rfl _ (y_bin rfl rfl rfl (fun hg => b_sub (by omega))) ?_
    refine S_ 11 rfl rfl rfl _ (y_assign rfl rfl) ?_
    refine S_go (fun _ _ h => h) ?_
    refine T_block ?_
    refine T_loopK6 (kf := [(8, 12), (31, 65)]) (kl := [(8, 12), (31, 65)]) (fun (j : Nat) (out : List SPlace) (q : Nat) (A : Option Addr) (c : Nat) (fl : List UInt8 × Int) => [(11, true, .int .i64 ((j : Int) - 1)), (10, true, .slice A q c), (8, true, str fl.1), (9, true, .int .i64 fl.2)]) (fun (j : Nat) (out : List SPlace) (q : Nat) (A : Option Addr) (c : Nat) (fl : List UInt8 × Int) => [(10, .own 46 3 (.slice A q c) q (out.flatMap SPlace.enc))]) (fun (j : Nat) (out : List SPlace) (q : Nat) (A : Option Addr) (c : Nat) (fl : List UInt8 × Int) => j ≤ t.ca.q ∧ q + j ≤ t.ca.q ∧ out.length = q ∧ goPlaces x t.fi.l t.ca.l.reverse (lineFile t.fi.l (atRow x t.ro.l none)) (lineLine (atRow x t.ro.l none)) [] = goPlaces x t.fi.l (t.ca.l.take j).reverse fl.1 fl.2 out) (fun (j : Nat) (out : List SPlace) (q : Nat) (A : Option Addr) (c : Nat) (fl : List UInt8 × Int) => j) t.ca.q [] 0 none 0 (lineFile t.fi.l (atRow x t.ro.l none), lineLine (atRow x t.ro.l none)) (by repeat (first | exact kf_nil | (apply kf_in; focus rfl) | (apply kf_out; focus rfl))) (by repeat (first | exact kl_nil | exact kl_rest (by assumption) rfl | (apply kl_in; focus rfl) | (apply kl_out; focus rfl))) ?_ ?_ ?_ ?_
    · exact ⟨by omega, by omega, rfl, by rw [← ht.len, List.take_length]⟩
    · exact ⟨rfl, rfl, rfl, rfl, trivial⟩
    · exact ⟨rfl, trivial⟩
    rintro j out q A c fl ⟨hp1, hp2, hp3, hp4⟩
    refine T_seq ?_
    refine T_seq ?_
    refine T_region ?_
    refine S_ 31 rfl rfl rfl _ (y_move rfl rfl) ?_
    refine S_ 32 rfl rfl rfl _ (y_bin rfl rfl rfl (fun _ => b_geq)) ?_
    refine S_go (fun _ _ h => h) ?_
    refine T_cond rfl (fun h32 => ?_) (fun h32 => ?_)
    · try simp only [decide_eq_true_eq, decide_eq_false_iff_not, Bool.or_eq_true, Bool.or_eq_false_iff, Bool.and_eq_true, Bool.and_eq_false_iff, Bool.not_eq_true', Bool.not_eq_false', Bool.not_eq_true, Bool.not_eq_false, Bool.not_true, Bool.not_false, Int.not_lt, Int.not_le, not_or, not_and, Classical.not_not] at h32
      obtain ⟨c0, hx1, _⟩ := ht.at (i := j - 1) (by omega)
      obtain ⟨_, hb, _⟩ := hall (j - 1) c0 hx1
      have hfi := fi_of_call hb
      have hfile := get_file (l := t.fi.l) (i := c0.fi.toNat) (by omega)
      refine T_skip_go (fun _ _ h => h) ?_
      refine T_seq ?_
      refine T_block ?_
      refine T_seq ?_
      refine T_region ?_
      refine S_ 35 rfl rfl rfl _ (y_fieldAddr rfl rfl fa27_5) ?_
      refine S_ 36 rfl rfl rfl _ (y_load 2 rfl rfl rfl rfl Tryd.underlying25 rfl) ?_
      refine S_ 37 rfl rfl rfl _ (y_move rfl rfl) ?_
      refine S_ 38 rfl rfl rfl _ (y_indexAddrI (j := j - 1) rfl rfl rfl (fun _ => by omega) Tryd.underlying25 sz110 (fun hg => ht.isSome (by omega)) (fun _ => by omega)) ?_
      refine S_ 39 rfl rfl rfl _ (y_loadT rfl rfl ht (fun _ => rfl) (fun _ => hx1) Tryd.underlying110 rfl sz110) ?_
      refine S_alloc 12 12 rfl rfl rfl rfl z110 ?_
      intro b12
      refine S_store 12 rfl rfl rfl rfl rfl rfl sz110 rfl rfl ?_
      refine S_go (fun _ _ h => h) ?_
      refine T_seq ?_
      refine T_region ?_
      refine S_ 40 rfl rfl rfl _ (y_fieldAddr rfl rfl fa110_1) ?_
      refine S_ 41 rfl rfl rfl _ (y_load 12 rfl rfl rfl rfl Tryd.underlying3 rfl) ?_
      refine S_ 42 rfl rfl rfl _ (y_move rfl rfl) ?_
      refine S_ 43 rfl rfl rfl _ (y_bin rfl rfl rfl (fun _ => b_leq)) ?_
      refine S_ 44 rfl rfl rfl _ (y_move rfl rfl) ?_
      refine Sg_ 45 rfl rfl rfl rfl rfl rfl _ (y_move rfl rfl) ?_
      refine Sg_ 46 rfl rfl rfl rfl rfl rfl _ (y_fieldAddr rfl rfl fa110_2) ?_
      refine Sg_ 47 rfl rfl rfl rfl rfl rfl _ (y_load 12 rfl rfl rfl rfl Tryd.underlying3 rfl) ?_
      refine Sg_ 48 rfl rfl rfl rfl rfl rfl _ (y_bin rfl rfl rfl (fun _ => b_lss)) ?_
      refine S_ 49 rfl rfl rfl _ (y_as (v' := .bool (c0.has x)) (by exact rfl) (y_and rfl rfl rfl)) ?_
      refine S_go (fun _ _ h => h) ?_
      refine T_cond rfl (fun h49 => ?_) (fun h49 => ?_)
      · skip
        refine T_seq ?_
        refine T_region ?_
        refine S_ 50 rfl rfl rfl _ (y_move rfl rfl) ?_
        refine S_ 51 rfl rfl rfl _ (y_fieldAddr rfl rfl fa110_0) ?_
        refine S_ 52 rfl rfl rfl _ (y_load 12 rfl rfl rfl rfl Tryd.underlying9 rfl) ?_
        refine S_ 53 rfl rfl rfl _ (y_move rfl rfl) ?_
        refine S_ 54 rfl rfl rfl _ (y_move rfl rfl) ?_
        refine S_ 55 rfl rfl rfl _ (y_build (zv := .agg #[.string ⟨#[]⟩, .string ⟨#[]⟩, .int .i64 0]) (pl := [(0, 1), (1, 1), (2, 1)]) (out := [_, _, _]) rfl rfl Tryd.underlying46 z46 (by kernel_rfl) rfl) ?_
        refine S_buildSlice 56 56 rfl rfl rfl rfl rfl Tryd.underlying42 inf46 rfl (by decide) (by decide) rfl rfl (by decide) rfl (_) rfl ?_
        intro b56
        obtain ⟨i57, hi57, hz57, hs57, hy57⟩ := info_parts inf46
        refine S_append 57 10 56 rfl rfl rfl rfl rfl rfl rfl rfl Tryd.underlying42 hi57 hz57 hs57 hy57 rfl (by decide) (by decide) rfl ?_ ?_ (q + 1) ((out ++ [(⟨c0.name, fl.1, fl.2⟩ : SPlace)]).flatMap SPlace.enc) ?_ ?_ ?_
        · (simp only [maxLen]; omega)
        · omega
        · rfl
        · simp [List.flatMap_append, SPlace.enc]; rfl
        intro A57 c57
        refine S_ 10 rfl rfl rfl _ (y_assign rfl rfl) ?_
        refine S_go (fun _ _ h => h) ?_
        refine T_draws (by kernel_rfl) (by kernel_rfl) ?_
        refine D_ 58 rfl rfl rfl _ (y_fieldAddr rfl rfl fa27_2) ?_
        refine D_ 59 rfl rfl rfl _ (y_load 2 rfl rfl rfl rfl Tryd.underlying22 rfl) ?_
        refine D_ 60 rfl rfl rfl _ (y_fieldAddr rfl rfl fa110_3) ?_
        refine D_ 61 rfl rfl rfl _ (y_load 12 rfl rfl rfl rfl Tryd.underlying3 rfl) ?_
        refine D_ 62 rfl rfl rfl _ (y_indexAddrI (j := c0.fi.toNat) rfl rfl rfl (fun _ => by omega) Tryd.underlying22 sz9 (fun hg => hf.isSome (by omega)) (fun _ => by omega)) ?_
        refine D_ 63 rfl rfl rfl _ (y_loadT1 (val := (fun l : List UInt8 => str l)) rfl rfl hf (fun _ => hfile) Tryd.underlying9 rfl) ?_
        refine D_ 64 rfl rfl rfl _ (y_fieldAddr rfl rfl fa110_4) ?_
        refine D_ 65 rfl rfl rfl _ (y_load 12 rfl rfl rfl rfl Tryd.underlying3 rfl) ?_
        refine D_ 8 rfl rfl rfl _ (y_assign rfl rfl) ?_
        refine D_ 9 rfl rfl rfl _ (y_assign rfl rfl) ?_
        refine D_go (fun _ _ h => h) ?_
        refine T_region ?_
        refine S_ 33 rfl rfl rfl _ (y_move rfl rfl) ?_
        refine S_ 34 rfl rfl rfl _ (y_bin rfl rfl rfl (fun hg => b_subv (((j - 1 : Nat) : Int) - 1) (by omega) (by omega))) ?_
        refine S_ 11 rfl rfl rfl _ (y_assign rfl rfl) ?_
        refine S_nil (nextK6 (kf := [(8, 12), (31, 65)]) (kl := [(8, 12), (31, 65)]) (j - 1) (out ++ [(⟨c0.name, fl.1, fl.2⟩ : SPlace)]) (q + 1) A57 c57 (t.fi.l.getD c0.fi.toNat [], c0.ln) (by repeat (first | exact kf_nil | (apply kf_in; focus rfl) | (apply kf_out; focus rfl))) (by repeat (first | exact kl_nil | exact kl_rest (by assumption) rfl | (apply kl_in; focus rfl) | (apply kl_out; focus rfl))) ?_ ?_ ?_ ?_)
        · omega
        · exact ⟨by omega, by omega, by simp [hp3], by rw [hp4, take_rev (by omega) hx1, goPlaces, if_t h49]⟩
        · exact ⟨rfl, rfl, rfl, rfl, trivial⟩
        · exact ⟨rfl, trivial⟩
      · skip
        refine T_skip_go (fun _ _ h => h) ?_
        refine T_region ?_
        refine S_ 33 rfl rfl rfl _ (y_move rfl rfl) ?_
        refine S_ 34 rfl rfl rfl _ (y_bin rfl rfl rfl (fun hg => b_subv (((j - 1 : Nat) : Int) - 1) (by omega) (by omega))) ?_
        refine S_ 11 rfl rfl rfl _ (y_assign rfl rfl) ?_
        refine S_nil (nextK6 (kf := [(8, 12), (31, 65)]) (kl := [(8, 12), (31, 65)]) (j - 1) out q A c fl (by repeat (first | exact kf_nil | (apply kf_in; focus rfl) | (apply kf_out; focus rfl))) (by repeat (first | exact kl_nil | exact kl_rest (by assumption) rfl | (apply kl_in; focus rfl) | (apply kl_out; focus rfl))) ?_ ?_ ?_ ?_)
        · omega
        · exact ⟨by omega, by omega, hp3, by rw [hp4, take_rev (by omega) hx1, goPlaces, if_f h49]⟩
        · exact ⟨rfl, rfl, rfl, rfl, trivial⟩
        · exact ⟨rfl, trivial⟩
    · try simp only [decide_eq_true_eq, decide_eq_false_iff_not, Bool.or_eq_true, Bool.or_eq_false_iff, Bool.and_eq_true, Bool.and_eq_false_iff, Bool.not_eq_true', Bool.not_eq_false', Bool.not_eq_true, Bool.not_eq_false, Bool.not_true, Bool.not_false, Int.not_lt, Int.not_le, not_or, not_and, Classical.not_not] at h32
      refine T_exit_go (fun _ _ h => h) ?_
      refine T_seq ?_
      refine T_region ?_
      refine S_ 66 rfl rfl rfl _ (y_move rfl rfl) ?_
      refine S_ 67 rfl rfl rfl _ (y_fieldAddr rfl rfl fa27_3) ?_
      refine S_ 68 rfl rfl rfl _ (y_load 2 rfl rfl rfl rfl Tryd.underlying23 rfl) ?_
      refine S_ 69 rfl rfl rfl _ (y_move rfl rfl) ?_
      refine S_ 70 rfl rfl rfl _ (y_indexAddrI (j := n) rfl rfl rfl (fun _ => by omega) Tryd.underlying23 sz80 (fun hg => hok.fu.t.isSome (by omega)) (fun _ => by omega)) ?_
      refine S_ 71 rfl rfl rfl _ (y_fieldEl rfl rfl hok.fu.t.rd (fun _ => by omega) fa80_0) ?_
      refine S_ 72 rfl rfl rfl _ (y_load_fT rfl rfl hok.fu.t (fun _ => rfl) (fun _ => hfn) rfl Tryd.underlying9 rfl) ?_
      refine S_ 73 rfl rfl rfl _ (y_move rfl rfl) ?_
      refine S_ 74 rfl rfl rfl _ (y_move rfl rfl) ?_
      refine S_ 75 rfl rfl rfl _ (y_build (zv := .agg #[.string ⟨#[]⟩, .string ⟨#[]⟩, .int .i64 0]) (pl := [(0, 1), (1, 1), (2, 1)]) (out := [_, _, _]) rfl rfl Tryd.underlying46 z46 (by kernel_rfl) rfl) ?_
      refine S_buildSlice 76 76 rfl rfl rfl rfl rfl Tryd.underlying42 inf46 rfl (by decide) (by decide) rfl rfl (by decide) rfl (_) rfl ?_
      intro b76
      obtain ⟨i77, hi77, hz77, hs77, hy77⟩ := info_parts inf46
      refine S_append 77 10 76 rfl rfl rfl rfl rfl rfl rfl rfl Tryd.underlying42 hi77 hz77 hs77 hy77 rfl (by decide) (by decide) rfl ?_ ?_ (q + 1) ((out ++ [(⟨fn.name, fl.1, fl.2⟩ : SPlace)]).flatMap SPlace.enc) ?_ ?_ ?_
      · (simp only [maxLen]; omega)
      · omega
      · rfl
      · simp [List.flatMap_append, SPlace.enc]; rfl
      intro A77 c77
      refine S_ 4 rfl rfl rfl _ (y_assign rfl rfl) ?_
      refine S_ 5 rfl rfl rfl _ (y_assign rfl rfl) ?_
      refine S_go (fun _ _ h => h) ?_
      refine T_ret (fun a w hF hM => hRb a w (post2 rfl rfl rfl (fun w hM => ?_) a w hF hM))
      have hz : j = 0 := by omega
      subst hz
      have e : atOut t x = out ++ [(⟨fn.name, fl.1, fl.2⟩ : SPlace)] := by
        unfold atOut
        simp only [if_neg (show ¬ findI (SFunc.has x) t.fu.l 0 < 0 by omega), hp4]
        rw [hfi0]
        simp [goPlaces, List.getD, hfn]
      have e2 : (out ++ [(⟨fn.name, fl.1, fl.2⟩ : SPlace)]).length = q + 1 := by simp [hp3]
      rw [e, e2, if_neg (by omega)]
      exact ⟨A77, c77, rfl, hM.sat 10 _ rfl, hM.below⟩
end Go.Proofs.YtofolhnecfkjkaaDoor
