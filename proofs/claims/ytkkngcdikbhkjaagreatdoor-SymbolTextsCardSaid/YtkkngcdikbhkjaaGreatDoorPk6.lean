/- Part 6, merged by a program. Numbers and lines that are read, and what takeLine makes of a line. Conditions: those of each theorem. symbol.ReadText. Conditions: those of each theorem. -/
import Derived.Test.YtkkngcdikbhkjaaGreatDoorIns
import Derived.Test.YtkkngcdikbhkjaaGreatDoorIfc
import Derived.Test.YtkkngcdikbhkjaaGreatDoorPost
import Derived.Test.YtkkngcdikbhkjaaGreatDoorPk5
section
namespace Go.Proofs.YtkkngcdikbhkjaaGreatDoor
set_option linter.unusedSimpArgs false
set_option linter.unusedVariables false
set_option maxRecDepth 20000
open Go.RowKit Go.Eng
theorem plainNumberS_any (s : List UInt8) (hs : s.length ≤ 1000000000) (w : World) :
    Calls Tryz.prog 266 #[str s] w fun e w' => e = .returned (.tuple #[.int .i64 (nJ s), .bool (plainOk s 10)]) ∧ Below w.heap.size w w' := by
  refine enter_args (args := [str s]) (F := _) Tryz.func266 rfl Tryz.ntmps266 rfl rfl ?_
  intro Rb hRb hRn
  refine T_seq ?_
  refine T_region ?_
  refine S_ 2 rfl rfl rfl _ (y_assign rfl rfl) ?_
  refine S_ 3 rfl rfl rfl _ (y_assign rfl rfl) ?_
  refine S_go (fun _ _ h => h) ?_
  refine T_seq ?_
  refine T_seq ?_
  refine T_region ?_
  refine S_ 6 rfl rfl rfl _ (y_move rfl rfl) ?_
  refine S_ 7 rfl rfl rfl _ (y_bin rfl rfl rfl (fun _ => b_eqls)) ?_
  refine S_ 8 rfl rfl rfl _ (y_move rfl rfl) ?_
  refine Sg_ 9 rfl rfl rfl rfl rfl rfl _ (y_move rfl rfl) ?_
  refine Sg_ 10 rfl rfl rfl rfl rfl rfl _ (y_len_str rfl rfl Tryz.underlying9) ?_
  refine Sg_ 11 rfl rfl rfl rfl rfl rfl _ (y_bin rfl rfl rfl (fun _ => b_gtr)) ?_
  refine S_ 12 rfl rfl rfl _ (y_or rfl rfl rfl) ?_
  refine S_ 13 rfl rfl rfl _ (y_move rfl rfl) ?_
  refine Sg_ 14 rfl rfl rfl rfl rfl rfl _ (y_move rfl rfl) ?_
  refine Sg_ 15 rfl rfl rfl rfl rfl rfl _ (y_len_str rfl rfl Tryz.underlying9) ?_
  refine Sg_ 16 rfl rfl rfl rfl rfl rfl _ (y_bin rfl rfl rfl (fun _ => b_gtr)) ?_
  refine Sg_ 17 rfl rfl rfl rfl rfl rfl _ (y_move rfl rfl) ?_
  refine Sg_ 18 rfl rfl rfl rfl rfl rfl _ (y_move rfl rfl) ?_
  refine Sg_ 19 rfl rfl rfl rfl rfl rfl _ (y_index_str (j := 0) rfl rfl rfl Tryz.underlying9 (fun hg => by simp at hg; omega)) ?_
  refine Sg_ 20 rfl rfl rfl rfl rfl rfl _ (y_bin rfl rfl rfl (fun _ => b_eql)) ?_
  refine Sg_ 21 rfl rfl rfl rfl rfl rfl _ (y_and rfl rfl rfl) ?_
  refine S_ 22 rfl rfl rfl _ (y_or rfl rfl rfl) ?_
  refine S_ 23 rfl rfl rfl _ (y_move rfl rfl) ?_
  refine Sg_ 24 rfl rfl rfl rfl rfl rfl _ (y_move rfl rfl) ?_
  refine Sg_ 25 rfl rfl rfl rfl rfl rfl _ (y_call rfl rfl rfl cf102 (fun _ w _ => TrimDig_any s hs w)) ?_
  refine Sg_ 26 rfl rfl rfl rfl rfl rfl _ (y_bin rfl rfl rfl (fun _ => b_neqs)) ?_
  refine S_ 27 rfl rfl rfl _ (y_as (v' := .bool (!plainOk s 10)) (by rw [plainOk, Bool.not_not]; rfl) (y_or rfl rfl rfl)) ?_
  refine S_go (fun _ _ h => h) ?_
  refine T_cond rfl (fun h27 => ?_) (fun h27 => ?_)
  · skip
    have hn : plainOk s 10 = false := by simpa using h27
    refine T_seq ?_
    refine T_region ?_
    refine S_ 2 rfl rfl rfl _ (y_assign rfl rfl) ?_
    refine S_ 3 rfl rfl rfl _ (y_assign rfl rfl) ?_
    refine S_go (fun _ _ h => h) ?_
    refine T_ret (fun a w hF hM => hRb a w (post2 rfl rfl rfl (fun w hM => ?_) a w hF hM))
    exact ⟨by rw [nJ, plainJ, hn]; rfl, hM.below⟩
  · skip
    have hn : plainOk s 10 = true := by simpa using h27
    have hd := plain_parts hn
    refine T_skip_go (fun _ _ h => h) ?_
    refine T_seq ?_
    refine T_region ?_
    refine S_ 29 rfl rfl rfl _ (y_move rfl rfl) ?_
    refine S_ 30 rfl rfl rfl _ (y_call rfl rfl rfl cf335 (fun _ w _ => Atoi_any s hd.1 (by omega) hd.2.2 w)) ?_
    refine S_ 28 rfl rfl rfl _ (y_move rfl rfl) ?_
    refine S_ 31 rfl rfl rfl _ (y_extract rfl rfl rfl) ?_
    refine S_ 32 rfl rfl rfl _ (y_extract rfl rfl rfl) ?_
    refine S_ 4 rfl rfl rfl _ (y_assign rfl rfl) ?_
    refine S_ 5 rfl rfl rfl _ (y_assign rfl rfl) ?_
    refine S_go (fun _ _ h => h) ?_
    refine T_seq ?_
    refine T_draws (by kernel_rfl) (by kernel_rfl) ?_
    refine D_ 33 rfl rfl rfl _ (y_move rfl rfl) ?_
    refine D_ 34 rfl rfl rfl _ (y_move rfl rfl) ?_
    refine D_ 35 rfl rfl rfl _ (y_bin rfl rfl rfl (fun _ => b_eqlII Tryz.underlying191)) ?_
    refine D_ 2 rfl rfl rfl _ (y_assign rfl rfl) ?_
    refine D_ 3 rfl rfl rfl _ (y_assign rfl rfl) ?_
    refine D_go (fun _ _ h => h) ?_
    refine T_ret (fun a w hF hM => hRb a w (post2 rfl rfl rfl (fun w hM => ?_) a w hF hM))
    exact ⟨by rw [nJ, plainJ, hn]; rfl, hM.below⟩
theorem readFile_any (s : List UInt8) (hs : s.length ≤ 1000000000) (w : World) :
    Calls Tryz.prog 268 #[str s] w fun e w' => e = .returned (.tuple #[.int .i64 (rfJ s), .bool (rfOk s)]) ∧ Below w.heap.size w w' := by
  refine enter_args (args := [str s]) (F := _) Tryz.func268 rfl Tryz.ntmps268 rfl rfl ?_
  intro Rb hRb hRn
  refine T_seq ?_
  refine T_region ?_
  refine S_ 2 rfl rfl rfl _ (y_assign rfl rfl) ?_
  refine S_ 3 rfl rfl rfl _ (y_assign rfl rfl) ?_
  refine S_go (fun _ _ h => h) ?_
  refine T_seq ?_
  refine T_seq ?_
  refine T_region ?_
  refine S_ 4 rfl rfl rfl _ (y_move rfl rfl) ?_
  refine S_ 5 rfl rfl rfl _ (y_bin rfl rfl rfl (fun _ => b_eqls)) ?_
  refine S_go (fun _ _ h => h) ?_
  refine T_cond rfl (fun h5 => ?_) (fun h5 => ?_)
  · try simp only [decide_eq_true_eq, decide_eq_false_iff_not, Bool.or_eq_true, Bool.or_eq_false_iff, Bool.and_eq_true, Bool.and_eq_false_iff, Bool.not_eq_true', Bool.not_eq_false', Bool.not_eq_true, Bool.not_eq_false, Bool.not_true, Bool.not_false, Int.not_lt, Int.not_le, not_or, not_and, Classical.not_not] at h5
    have h5 : s = [45, 49] := h5
    refine T_seq ?_
    refine T_region ?_
    refine S_ 2 rfl rfl rfl _ (y_assign rfl rfl) ?_
    refine S_ 3 rfl rfl rfl _ (y_assign rfl rfl) ?_
    refine S_go (fun _ _ h => h) ?_
    refine T_ret (fun a w hF hM => hRb a w (post2 rfl rfl rfl (fun w hM => ?_) a w hF hM))
    exact ⟨by rw [rfJ, rfOk, if_pos h5, decide_eq_true h5]; rfl, hM.below⟩
  · try simp only [decide_eq_true_eq, decide_eq_false_iff_not, Bool.or_eq_true, Bool.or_eq_false_iff, Bool.and_eq_true, Bool.and_eq_false_iff, Bool.not_eq_true', Bool.not_eq_false', Bool.not_eq_true, Bool.not_eq_false, Bool.not_true, Bool.not_false, Int.not_lt, Int.not_le, not_or, not_and, Classical.not_not] at h5
    have h5 : ¬ s = [45, 49] := h5
    refine T_skip_go (fun _ _ h => h) ?_
    refine T_seq ?_
    refine T_region ?_
    refine S_ 6 rfl rfl rfl _ (y_move rfl rfl) ?_
    refine S_ 7 rfl rfl rfl _ (y_call rfl rfl rfl cf266 (fun _ w _ => plainNumberS_any s hs w)) ?_
    refine S_ 8 rfl rfl rfl _ (y_extract rfl rfl rfl) ?_
    refine S_ 9 rfl rfl rfl _ (y_extract rfl rfl rfl) ?_
    refine S_ 2 rfl rfl rfl _ (y_assign rfl rfl) ?_
    refine S_ 3 rfl rfl rfl _ (y_assign rfl rfl) ?_
    refine S_go (fun _ _ h => h) ?_
    refine T_ret (fun a w hF hM => hRb a w (post2 rfl rfl rfl (fun w hM => ?_) a w hF hM))
    exact ⟨by rw [rfJ, rfOk, if_neg h5, decide_eq_false h5]; rfl, hM.below⟩
def numsOk (l : List (List UInt8)) : Bool := l.all fun s => plainOk s 10
def numsP (l : List (List UInt8)) : List Int := if numsOk l = true then l.map nJ else []
theorem nums_step {l : List (List UInt8)} {i : Nat} {m : List Int} {x : List UInt8} (h1 : numsOk l = numsOk (l.drop i)) (h2 : m ++ (l.drop i).map nJ = l.map nJ) (hx : l.drop i = x :: l.drop (i + 1)) (hp : plainOk x 10 = true) :
    numsOk l = numsOk (l.drop (i + 1)) ∧ (m ++ [nJ x]) ++ (l.drop (i + 1)).map nJ = l.map nJ := by
  rw [hx] at h1 h2
  refine ⟨by rw [h1, numsOk, List.all_cons, hp, Bool.true_and]; rfl, ?_⟩
  rw [← h2]; simp
theorem nums_no {l : List (List UInt8)} {i : Nat} {x : List UInt8} (h1 : numsOk l = numsOk (l.drop i)) (hx : l.drop i = x :: l.drop (i + 1)) (hp : plainOk x 10 = false) : numsOk l = false ∧ numsP l = [] := by
  have h : numsOk l = false := by rw [h1, hx, numsOk, List.all_cons, hp, Bool.false_and]
  exact ⟨h, by rw [numsP, h]; rfl⟩
theorem nums_end {l : List (List UInt8)} {i : Nat} {m : List Int} (h1 : numsOk l = numsOk (l.drop i)) (h2 : m ++ (l.drop i).map nJ = l.map nJ) (hx : l.drop i = []) : numsOk l = true ∧ numsP l = m := by
  rw [hx] at h1 h2
  have h : numsOk l = true := h1
  refine ⟨h, ?_⟩
  rw [numsP, if_pos h, ← h2]; simp
theorem readNums_any (A : Option Addr) (q c : Nat) (l : List (List UInt8)) (w : World) (hl : SlT strEnc 1 w A q l) (hq : q ≤ 1000) (hs : ∀ x ∈ l, x.length ≤ 1000000000) :
    Calls Tryz.prog 267 #[.slice A q c] w fun e w' => ∃ B d, e = .returned (.tuple #[.slice B (numsP l).length d, .bool (numsOk l)]) ∧ w'.ownsRow w.heap.size 3 1 (.slice B (numsP l).length d) (numsP l).length ((numsP l).flatMap intE9) ∧ Below w.heap.size w w' := by
  have hlen := hl.len
  refine enter_args (args := [.slice A q c]) (F := _) Tryz.func267 rfl Tryz.ntmps267 rfl rfl ?_
  intro Rb hRb hRn
  refine T_seq ?_
  refine T_region ?_
  refine S_nilSlice 2 (e := 3) (size := 1) ?_
  refine S_ 2 rfl rfl rfl _ (y_assign rfl rfl) ?_
  refine S_ 3 rfl rfl rfl _ (y_assign rfl rfl) ?_
  refine S_go (fun _ _ h => h) ?_
  refine T_seq ?_
  refine T_region ?_
  refine S_nilSlice 4 (e := 3) (size := 1) ?_
  refine S_ 4 rfl rfl rfl _ (y_assign rfl rfl) ?_
  refine S_go (fun _ _ h => h) ?_
  refine T_seq ?_
  refine T_seq ?_
  refine T_region ?_
  refine S_ 9 rfl rfl rfl _ (y_move rfl rfl) ?_
  refine S_ 10 rfl rfl rfl _ (y_len_slice rfl rfl Tryz.underlying57) ?_
  refine S_ 11 rfl rfl rfl _ (y_move rfl rfl) ?_
  refine S_go (fun _ _ h => h) ?_
  refine T_block ?_
  refine T_loopK4 (kf := [(2, 4), (6, 8), (11, 26)]) (kl := [(2, 4), (6, 8), (11, 26)]) (fun (i : Nat) (m : List Int) (B : Option Addr) (d : Nat) => [(11, true, .int .i64 (i : Int)), (4, true, .slice B m.length d)]) (fun (i : Nat) (m : List Int) (B : Option Addr) (d : Nat) => [(4, .own 3 1 (.slice B m.length d) m.length (m.flatMap intE9))]) (fun (i : Nat) (m : List Int) (B : Option Addr) (d : Nat) => i ≤ q ∧ numsOk l = numsOk (l.drop i) ∧ m ++ (l.drop i).map nJ = l.map nJ ∧ m.length = i) (fun (i : Nat) (m : List Int) (B : Option Addr) (d : Nat) => q - i) 0 [] none 0 (by repeat (first | exact kf_nil | (apply kf_in; focus rfl) | (apply kf_out; focus rfl))) (by repeat (first | exact kl_nil | exact kl_rest (by assumption) rfl | (apply kl_in; focus rfl) | (apply kl_out; focus rfl))) ?_ ?_ ?_ ?_
  · exact ⟨by omega, rfl, rfl, rfl⟩
  · exact ⟨rfl, rfl, trivial⟩
  · exact ⟨rfl, trivial⟩
  rintro i m B d ⟨hp1, hp2, hp3, hp4⟩
  refine T_seq ?_
  refine T_region ?_
  refine S_ 12 rfl rfl rfl _ (y_bin rfl rfl rfl (fun _ => b_lss)) ?_
  refine S_go (fun _ _ h => h) ?_
  refine T_seq ?_
  refine T_cond rfl (fun h12 => ?_) (fun h12 => ?_)
  · try simp only [decide_eq_true_eq, decide_eq_false_iff_not, Bool.or_eq_true, Bool.or_eq_false_iff, Bool.and_eq_true, Bool.and_eq_false_iff, Bool.not_eq_true', Bool.not_eq_false', Bool.not_eq_true, Bool.not_eq_false, Bool.not_true, Bool.not_false, Int.not_lt, Int.not_le, not_or, not_and, Classical.not_not] at h12
    obtain ⟨x, hx1, hx2⟩ := hl.at (i := i) (by omega)
    have hxs := hs x (mem_at hx1)
    refine T_skip_go (fun _ _ h => h) ?_
    refine T_seq ?_
    refine T_block ?_
    refine T_seq ?_
    refine T_region ?_
    refine S_ 13 rfl rfl rfl _ (y_indexAddr rfl rfl rfl Tryz.underlying57 sz9 (fun hg => hl.isSome (by omega)) (fun _ => by omega)) ?_
    refine S_ 14 rfl rfl rfl _ (y_loadT1 (val := (fun l : List UInt8 => str l)) rfl rfl hl (fun _ => hx1) Tryz.underlying9 rfl) ?_
    refine S_ 6 rfl rfl rfl _ (y_assign rfl rfl) ?_
    refine S_go (fun _ _ h => h) ?_
    refine T_seq ?_
    refine T_region ?_
    refine S_ 16 rfl rfl rfl _ (y_move rfl rfl) ?_
    refine S_ 17 rfl rfl rfl _ (y_call rfl rfl rfl cf266 (fun _ w _ => plainNumberS_any x (by omega) w)) ?_
    refine S_ 15 rfl rfl rfl _ (y_move rfl rfl) ?_
    refine S_ 18 rfl rfl rfl _ (y_extract rfl rfl rfl) ?_
    refine S_ 19 rfl rfl rfl _ (y_extract rfl rfl rfl) ?_
    refine S_ 7 rfl rfl rfl _ (y_assign rfl rfl) ?_
    refine S_ 8 rfl rfl rfl _ (y_assign rfl rfl) ?_
    refine S_go (fun _ _ h => h) ?_
    refine T_seq ?_
    refine T_seq ?_
    refine T_region ?_
    refine S_ 20 rfl rfl rfl _ (y_move rfl rfl) ?_
    refine S_ 21 rfl rfl rfl _ (y_not rfl rfl) ?_
    refine S_go (fun _ _ h => h) ?_
    refine T_cond rfl (fun h21 => ?_) (fun h21 => ?_)
    · skip
      have hp : plainOk x 10 = false := by simpa using h21
      obtain ⟨e1, e2⟩ := nums_no hp2 hx2 hp
      refine T_seq ?_
      refine T_region ?_
      refine S_nilSlice 2 (e := 3) (size := 1) ?_
      refine S_ 2 rfl rfl rfl _ (y_assign rfl rfl) ?_
      refine S_ 3 rfl rfl rfl _ (y_assign rfl rfl) ?_
      refine S_go (fun _ _ h => h) ?_
      refine T_ret (fun a w hF hM => hRb a w (post2 rfl rfl rfl (fun w hM => ?_) a w hF hM))
      rw [e1, e2]
      exact ⟨none, 0, rfl, World.ownsRow_nil _ _ _ _, hM.below⟩
    · skip
      have hp : plainOk x 10 = true := by simpa using h21
      refine T_skip_go (fun _ _ h => h) ?_
      refine T_region ?_
      refine S_ 22 rfl rfl rfl _ (y_move rfl rfl) ?_
      refine S_ 23 rfl rfl rfl _ (y_move rfl rfl) ?_
      refine S_buildSlice 24 24 rfl rfl rfl rfl rfl Tryz.underlying212 inf3 rfl (by decide) (by decide) rfl rfl (by decide) rfl (_) rfl ?_
      intro b24
      obtain ⟨i25, hi25, hz25, hs25, hy25⟩ := info_parts inf3
      refine S_append 25 4 24 rfl rfl rfl rfl rfl rfl rfl rfl Tryz.underlying212 hi25 hz25 hs25 hy25 rfl (by decide) (by decide) rfl ?_ ?_ ((m ++ [nJ x]).length) ((m ++ [nJ x]).flatMap intE9) ?_ ?_ ?_
      · (simp only [maxLen]; omega)
      · omega
      · simp
      · simp [List.flatMap_append, intE9, nJ]; rfl
      intro A25 c25
      refine S_ 4 rfl rfl rfl _ (y_assign rfl rfl) ?_
      refine S_go (fun _ _ h => h) ?_
      refine T_region ?_
      refine S_ 26 rfl rfl rfl _ (y_bin rfl rfl rfl (fun hg => b_add (by omega))) ?_
      refine S_ 11 rfl rfl rfl _ (y_move rfl rfl) ?_
      obtain ⟨g1, g2⟩ := nums_step hp2 hp3 hx2 hp
      refine S_nil (nextK4 (kf := [(2, 4), (6, 8), (11, 26)]) (kl := [(2, 4), (6, 8), (11, 26)]) (i + 1) (m ++ [nJ x]) A25 c25 (by repeat (first | exact kf_nil | (apply kf_in; focus rfl) | (apply kf_out; focus rfl))) (by repeat (first | exact kl_nil | exact kl_rest (by assumption) rfl | (apply kl_in; focus rfl) | (apply kl_out; focus rfl))) ?_ ?_ ?_ ?_)
      · omega
      · exact ⟨by omega, g1, g2, by simp [hp4]⟩
      · exact ⟨rfl, rfl, trivial⟩
      · exact ⟨rfl, trivial⟩
  · try simp only [decide_eq_true_eq, decide_eq_false_iff_not, Bool.or_eq_true, Bool.or_eq_false_iff, Bool.and_eq_true, Bool.and_eq_false_iff, Bool.not_eq_true', Bool.not_eq_false', Bool.not_eq_true, Bool.not_eq_false, Bool.not_true, Bool.not_false, Int.not_lt, Int.not_le, not_or, not_and, Classical.not_not] at h12
    refine T_exit_go (fun _ _ h => h) ?_
    refine T_seq ?_
    refine T_region ?_
    refine S_ 27 rfl rfl rfl _ (y_move rfl rfl) ?_
    refine S_ 2 rfl rfl rfl _ (y_assign rfl rfl) ?_
    refine S_ 3 rfl rfl rfl _ (y_assign rfl rfl) ?_
    refine S_go (fun _ _ h => h) ?_
    refine T_ret (fun a w hF hM => hRb a w (post2 rfl rfl rfl (fun w hM => ?_) a w hF hM))
    obtain ⟨e1, e2⟩ := nums_end hp2 hp3 (hl.end (by omega))
    rw [e1, e2]
    exact ⟨B, d, rfl, hM.sat 4 _ rfl, hM.below⟩
theorem wholes_any (A : Option Addr) (q c : Nat) (l : List (List UInt8)) (w : World) (hl : SlT strEnc 1 w A q l) (hq : q ≤ 1000) (hs : ∀ x ∈ l, x.length ≤ 1000000000) :
    Calls Tryz.prog 131 #[.slice A q c, .int .i64 10] w fun e w' => ∃ B d, e = .returned (.tuple #[.slice B (numsP l).length d, .bool (numsOk l)]) ∧ w'.ownsRow w.heap.size 3 1 (.slice B (numsP l).length d) (numsP l).length ((numsP l).flatMap intE9) ∧ Below w.heap.size w w' := by
  have hlen := hl.len
  refine enter_args (args := [.slice A q c, .int .i64 10]) (F := _) Tryz.func131 rfl Tryz.ntmps131 rfl rfl ?_
  intro Rb hRb hRn
  refine T_seq ?_
  refine T_region ?_
  refine S_nilSlice 4 (e := 3) (size := 1) ?_
  refine S_ 4 rfl rfl rfl _ (y_assign rfl rfl) ?_
  refine S_ 5 rfl rfl rfl _ (y_assign rfl rfl) ?_
  refine S_go (fun _ _ h => h) ?_
  refine T_seq ?_
  refine T_region ?_
  refine S_nilSlice 6 (e := 3) (size := 1) ?_
  refine S_ 6 rfl rfl rfl _ (y_assign rfl rfl) ?_
  refine S_go (fun _ _ h => h) ?_
  refine T_seq ?_
  refine T_seq ?_
  refine T_region ?_
  refine S_ 11 rfl rfl rfl _ (y_move rfl rfl) ?_
  refine S_ 12 rfl rfl rfl _ (y_len_slice rfl rfl Tryz.underlying57) ?_
  refine S_ 13 rfl rfl rfl _ (y_move rfl rfl) ?_
  refine S_go (fun _ _ h => h) ?_
  refine T_block ?_
  refine T_loopK4 (kf := [(4, 6), (8, 10), (13, 29)]) (kl := [(4, 6), (8, 10), (13, 29)]) (fun (i : Nat) (m : List Int) (B : Option Addr) (d : Nat) => [(13, true, .int .i64 (i : Int)), (6, true, .slice B m.length d)]) (fun (i : Nat) (m : List Int) (B : Option Addr) (d : Nat) => [(6, .own 3 1 (.slice B m.length d) m.length (m.flatMap intE9))]) (fun (i : Nat) (m : List Int) (B : Option Addr) (d : Nat) => i ≤ q ∧ numsOk l = numsOk (l.drop i) ∧ m ++ (l.drop i).map nJ = l.map nJ ∧ m.length = i) (fun (i : Nat) (m : List Int) (B : Option Addr) (d : Nat) => q - i) 0 [] none 0 (by repeat (first | exact kf_nil | (apply kf_in; focus rfl) | (apply kf_out; focus rfl))) (by repeat (first | exact kl_nil | exact kl_rest (by assumption) rfl | (apply kl_in; focus rfl) | (apply kl_out; focus rfl))) ?_ ?_ ?_ ?_
  · exact ⟨by omega, rfl, rfl, rfl⟩
  · exact ⟨rfl, rfl, trivial⟩
  · exact ⟨rfl, trivial⟩
  rintro i m B d ⟨hp1, hp2, hp3, hp4⟩
  refine T_seq ?_
  refine T_region ?_
  refine S_ 14 rfl rfl rfl _ (y_bin rfl rfl rfl (fun _ => b_lss)) ?_
  refine S_go (fun _ _ h => h) ?_
  refine T_seq ?_
  refine T_cond rfl (fun h14 => ?_) (fun h14 => ?_)
  · try simp only [decide_eq_true_eq, decide_eq_false_iff_not, Bool.or_eq_true, Bool.or_eq_false_iff, Bool.and_eq_true, Bool.and_eq_false_iff, Bool.not_eq_true', Bool.not_eq_false', Bool.not_eq_true, Bool.not_eq_false, Bool.not_true, Bool.not_false, Int.not_lt, Int.not_le, not_or, not_and, Classical.not_not] at h14
    obtain ⟨x, hx1, hx2⟩ := hl.at (i := i) (by omega)
    have hxs := hs x (mem_at hx1)
    refine T_skip_go (fun _ _ h => h) ?_
    refine T_seq ?_
    refine T_block ?_
    refine T_seq ?_
    refine T_region ?_
    refine S_ 15 rfl rfl rfl _ (y_indexAddr rfl rfl rfl Tryz.underlying57 sz9 (fun hg => hl.isSome (by omega)) (fun _ => by omega)) ?_
    refine S_ 16 rfl rfl rfl _ (y_loadT1 (val := (fun l : List UInt8 => str l)) rfl rfl hl (fun _ => hx1) Tryz.underlying9 rfl) ?_
    refine S_ 8 rfl rfl rfl _ (y_assign rfl rfl) ?_
    refine S_go (fun _ _ h => h) ?_
    refine T_seq ?_
    refine T_region ?_
    refine S_ 18 rfl rfl rfl _ (y_move rfl rfl) ?_
    refine S_ 19 rfl rfl rfl _ (y_move rfl rfl) ?_
    refine S_ 20 rfl rfl rfl _ (y_call rfl rfl rfl cf269 (fun _ w _ => whole_any x 10 (by decide) (by omega) w)) ?_
    refine S_ 17 rfl rfl rfl _ (y_move rfl rfl) ?_
    refine S_ 21 rfl rfl rfl _ (y_extract rfl rfl rfl) ?_
    refine S_ 22 rfl rfl rfl _ (y_extract rfl rfl rfl) ?_
    refine S_ 9 rfl rfl rfl _ (y_assign rfl rfl) ?_
    refine S_ 10 rfl rfl rfl _ (y_assign rfl rfl) ?_
    refine S_go (fun _ _ h => h) ?_
    refine T_seq ?_
    refine T_seq ?_
    refine T_region ?_
    refine S_ 23 rfl rfl rfl _ (y_move rfl rfl) ?_
    refine S_ 24 rfl rfl rfl _ (y_not rfl rfl) ?_
    refine S_go (fun _ _ h => h) ?_
    refine T_cond rfl (fun h24 => ?_) (fun h24 => ?_)
    · skip
      have hp : plainOk x 10 = false := by simpa using h24
      obtain ⟨e1, e2⟩ := nums_no hp2 hx2 hp
      refine T_seq ?_
      refine T_region ?_
      refine S_nilSlice 4 (e := 3) (size := 1) ?_
      refine S_ 4 rfl rfl rfl _ (y_assign rfl rfl) ?_
      refine S_ 5 rfl rfl rfl _ (y_assign rfl rfl) ?_
      refine S_go (fun _ _ h => h) ?_
      refine T_ret (fun a w hF hM => hRb a w (post2 rfl rfl rfl (fun w hM => ?_) a w hF hM))
      rw [e1, e2]
      exact ⟨none, 0, rfl, World.ownsRow_nil _ _ _ _, hM.below⟩
    · skip
      have hp : plainOk x 10 = true := by simpa using h24
      refine T_skip_go (fun _ _ h => h) ?_
      refine T_region ?_
      refine S_ 25 rfl rfl rfl _ (y_move rfl rfl) ?_
      refine S_ 26 rfl rfl rfl _ (y_move rfl rfl) ?_
      refine S_buildSlice 27 27 rfl rfl rfl rfl rfl Tryz.underlying212 inf3 rfl (by decide) (by decide) rfl rfl (by decide) rfl (_) rfl ?_
      intro b27
      obtain ⟨i28, hi28, hz28, hs28, hy28⟩ := info_parts inf3
      refine S_append 28 6 27 rfl rfl rfl rfl rfl rfl rfl rfl Tryz.underlying212 hi28 hz28 hs28 hy28 rfl (by decide) (by decide) rfl ?_ ?_ ((m ++ [nJ x]).length) ((m ++ [nJ x]).flatMap intE9) ?_ ?_ ?_
      · (simp only [maxLen]; omega)
      · omega
      · simp
      · simp [List.flatMap_append, intE9, nJ]; rfl
      intro A28 c28
      refine S_ 6 rfl rfl rfl _ (y_assign rfl rfl) ?_
      refine S_go (fun _ _ h => h) ?_
      refine T_region ?_
      refine S_ 29 rfl rfl rfl _ (y_bin rfl rfl rfl (fun hg => b_add (by omega))) ?_
      refine S_ 13 rfl rfl rfl _ (y_move rfl rfl) ?_
      obtain ⟨g1, g2⟩ := nums_step hp2 hp3 hx2 hp
      refine S_nil (nextK4 (kf := [(4, 6), (8, 10), (13, 29)]) (kl := [(4, 6), (8, 10), (13, 29)]) (i + 1) (m ++ [nJ x]) A28 c28 (by repeat (first | exact kf_nil | (apply kf_in; focus rfl) | (apply kf_out; focus rfl))) (by repeat (first | exact kl_nil | exact kl_rest (by assumption) rfl | (apply kl_in; focus rfl) | (apply kl_out; focus rfl))) ?_ ?_ ?_ ?_)
      · omega
      · exact ⟨by omega, g1, g2, by simp [hp4]⟩
      · exact ⟨rfl, rfl, trivial⟩
      · exact ⟨rfl, trivial⟩
  · try simp only [decide_eq_true_eq, decide_eq_false_iff_not, Bool.or_eq_true, Bool.or_eq_false_iff, Bool.and_eq_true, Bool.and_eq_false_iff, Bool.not_eq_true', Bool.not_eq_false', Bool.not_eq_true, Bool.not_eq_false, Bool.not_true, Bool.not_false, Int.not_lt, Int.not_le, not_or, not_and, Classical.not_not] at h14
    refine T_exit_go (fun _ _ h => h) ?_
    refine T_seq ?_
    refine T_region ?_
    refine S_ 30 rfl rfl rfl _ (y_move rfl rfl) ?_
    refine S_ 4 rfl rfl rfl _ (y_assign rfl rfl) ?_
    refine S_ 5 rfl rfl rfl _ (y_assign rfl rfl) ?_
    refine S_go (fun _ _ h => h) ?_
    refine T_ret (fun a w hF hM => hRb a w (post2 rfl rfl rfl (fun w hM => ?_) a w hF hM))
    obtain ⟨e1, e2⟩ := nums_end hp2 hp3 (hl.end (by omega))
    rw [e1, e2]
    exact ⟨B, d, rfl, hM.sat 6 _ rfl, hM.below⟩
/-! ### takeLine -/
abbrev tBox (b : Nat) (o : OT) : It := .blk b (IsBox [str o.id, .int .i64 o.size, .slice o.fA o.fl.length o.fc, .slice o.uA o.ul.length o.uc, .slice o.rA o.rl.length o.rc, .slice o.cA o.cl.length o.cc] 62)
def OT.fit (o : OT) (n : Nat) : Prop := o.id.length ≤ 1000000 ∧ (o.fl.length ≤ n ∧ ∀ x ∈ o.fl, x.length ≤ 1000000) ∧ (o.ul.length ≤ n ∧ ∀ x ∈ o.ul, x.name.length ≤ 1000000) ∧ o.rl.length ≤ n ∧ (o.cl.length ≤ n ∧ ∀ x ∈ o.cl, x.name.length ≤ 1000000)
def manyK (k : Int) : Int := if k = 0 then 3 else if k = 1 then 2 else if k = 2 then 4 else if k = 3 then 4 else 6
theorem manyK_at {k : Int} (h : 0 ≤ k ∧ k ≤ 4) : ([.int .i64 3, .int .i64 2, .int .i64 4, .int .i64 4, .int .i64 6] : List Value)[k.toNat]? = some (.int .i64 (manyK k)) := by
  have : k = 0 ∨ k = 1 ∨ k = 2 ∨ k = 3 ∨ k = 4 := by omega
  rcases this with rfl | rfl | rfl | rfl | rfl <;> rfl
theorem line_many {k : Int} (h : 0 ≤ k ∧ k ≤ 4) {ws : List (List UInt8)} {p : PT} (hn : ¬ ((ws.length : Nat) : Int) = manyK k) : lineT k ws p = none := by
  have : k = 0 ∨ k = 1 ∨ k = 2 ∨ k = 3 ∨ k = 4 := by omega
  rcases this with rfl | rfl | rfl | rfl | rfl
  · unfold lineT; exact (if_pos rfl).trans (if_neg fun hh => hn (by rw [hh.1]; rfl))
  · unfold lineT; exact (if_neg (by decide)).trans ((if_pos rfl).trans (if_neg fun hh => hn (by rw [hh.1]; rfl)))
  · unfold lineT; exact (if_neg (by decide)).trans ((if_neg (by decide)).trans ((if_pos rfl).trans (if_neg fun hh => hn (by rw [hh.1]; rfl))))
  · unfold lineT; exact (if_neg (by decide)).trans ((if_neg (by decide)).trans ((if_neg (by decide)).trans ((if_pos rfl).trans (if_neg fun hh => hn (by rw [hh.1]; rfl)))))
  · unfold lineT; exact (if_neg (by decide)).trans ((if_neg (by decide)).trans ((if_neg (by decide)).trans ((if_neg (by decide)).trans ((if_neg fun hh => hn (by rw [hh.1]; rfl))))))
theorem line0 (a b c : List UInt8) (p : PT) : lineT 0 [a, b, c] p = if (plainOk c 10 && !decide (b = [])) = true then some { p with id := b, size := nJ c } else none := by
  unfold lineT
  by_cases h : b = [] <;> cases h2 : plainOk c 10 <;> simp [h, h2]
theorem line1 (a b : List UInt8) (p : PT) : lineT 1 [a, b] p = if (!decide (b = [])) = true then some { p with fi := p.fi ++ [b] } else none := by
  unfold lineT
  by_cases h : b = [] <;> simp [h]
theorem line2 (a b c d : List UInt8) (p : PT) : lineT 2 [a, b, c, d] p = if (numsOk [b, c] && !decide (d = [])) = true then some { p with fu := p.fu ++ [⟨d, nJ b, nJ c⟩] } else none := by
  unfold lineT numsOk
  by_cases h : d = [] <;> cases h1 : plainOk b 10 <;> cases h2 : plainOk c 10 <;> simp [h, h1, h2]
theorem line3 (a b c d : List UInt8) (p : PT) : lineT 3 [a, b, c, d] p = if (plainOk b 10 && rfOk c && plainOk d 10) = true then some { p with ro := p.ro ++ [⟨nJ b, rfJ c, nJ d⟩] } else none := by
  unfold lineT
  cases h1 : plainOk b 10 <;> cases h2 : rfOk c <;> cases h3 : plainOk d 10 <;> simp [h1, h2, h3]
theorem line4 (a b c d e f : List UInt8) (p : PT) : lineT 4 [a, b, c, d, e, f] p = if (numsOk [b, c, d, e] && !decide (f = [])) = true then some { p with ca := p.ca ++ [⟨f, nJ b, nJ c, nJ d, nJ e⟩] } else none := by
  unfold lineT numsOk
  by_cases h : f = [] <;> cases h1 : plainOk b 10 <;> cases h2 : plainOk c 10 <;> cases h3 : plainOk d 10 <;> cases h4 : plainOk e 10 <;> simp [h, h1, h2, h3, h4]
theorem take_ret {x : Option PT} {β : Bool} {p : PT} (h : x = if β = true then some p else none) : x.isSome = β ∧ ∀ p', x = some p' → p = p' := by
  cases β with
  | false => rw [if_neg Bool.false_ne_true] at h; subst h; exact ⟨rfl, fun _ hh => by cases hh⟩
  | true => rw [if_pos rfl] at h; subst h; exact ⟨rfl, fun _ hh => by cases hh; rfl⟩
theorem take_no {x : Option PT} {β γ : Bool} {p : PT} (h : x = if (β && γ) = true then some p else none) (hb : β = false) : x = none := by
  rw [hb, Bool.false_and, if_neg Bool.false_ne_true] at h; exact h
theorem len_2 {ws : List (List UInt8)} (h : ((ws.length : Nat) : Int) = 2) : ∃ a b, ws = [a, b] := by
  match ws, h with
  | [a, b], _ => exact ⟨a, b, rfl⟩
  | [], h => simp at h
  | [a], h => simp at h
  | _ :: _ :: _ :: _, h => simp at h; omega
theorem len_3 {ws : List (List UInt8)} (h : ((ws.length : Nat) : Int) = 3) : ∃ a b c, ws = [a, b, c] := by
  match ws, h with
  | a :: r, h =>
    obtain ⟨b, c, e⟩ := len_2 (ws := r) (by simp at h; omega)
    exact ⟨a, b, c, by rw [e]⟩
theorem len_4 {ws : List (List UInt8)} (h : ((ws.length : Nat) : Int) = 4) : ∃ a b c d, ws = [a, b, c, d] := by
  match ws, h with
  | a :: r, h =>
    obtain ⟨b, c, d, e⟩ := len_3 (ws := r) (by simp at h; omega)
    exact ⟨a, b, c, d, by rw [e]⟩
theorem len_6 {ws : List (List UInt8)} (h : ((ws.length : Nat) : Int) = 6) : ∃ a b c d e f, ws = [a, b, c, d, e, f] := by
  match ws, h with
  | a :: b :: r, h =>
    obtain ⟨c, d, e, f, e'⟩ := len_4 (ws := r) (by simp at h; omega)
    exact ⟨a, b, c, d, e, f, by rw [e']⟩
theorem nums2 {b c : List UInt8} (h : numsOk [b, c] = true) : numsP [b, c] = [nJ b, nJ c] := if_pos h
theorem nums4 {b c d e : List UInt8} (h : numsOk [b, c, d, e] = true) : numsP [b, c, d, e] = [nJ b, nJ c, nJ d, nJ e] := if_pos h
theorem takeLine_any {w0 : World} {K : HL} (hK : FromK K) (bt : Nat) (o : OT) (n : Nat) (hn : n ≤ 1000000) (ho : o.fit n) (k : Int) (hk : 0 ≤ k ∧ k ≤ 4) (wA : Option Addr) (wc : Nat) (ws : List (List UInt8)) (hs : ∀ x ∈ ws, x.length ≤ 1000000) (w : World)
    (hM0 : Mem w0 ([(901, tBox bt o), (902, rF wA wc ws), (908, rF o.fA o.fc o.fl), (909, rU o.uA o.uc o.ul), (910, rR o.rA o.rc o.rl), (911, rC o.cA o.cc o.cl)] ++ K) w) :
    Calls Tryz.prog 129 #[selfP bt, .int .i64 k, .slice wA ws.length wc] w fun e w' => ∃ z : OT, e = .returned (.bool (lineT k ws o.tab.pl).isSome) ∧ ((∀ p', lineT k ws o.tab.pl = some p' → z.tab.pl = p') ∧ z.fit (n + 1)) ∧
      Mem w0 ([(901, tBox bt z), (902, rF wA wc ws), (908, rF z.fA z.fc z.fl), (909, rU z.uA z.uc z.ul), (910, rR z.rA z.rc z.rl), (911, rC z.cA z.cc z.cl)] ++ K) w' := by
  obtain ⟨f1, f2, f3, f4, f5⟩ := ho
  refine enterM_args (args := [selfP bt, .int .i64 k, .slice wA ws.length wc]) (F := _) hM0 Tryz.func129 rfl Tryz.ntmps129 rfl rfl ?_
  intro Rb hRb hRn
  refine T_seq ?_
  refine T_region ?_
  refine S_ 6 rfl rfl rfl _ (y_assign rfl rfl) ?_
  refine S_go (fun _ _ h => h) ?_
  refine T_seq ?_
  refine T_seq ?_
  refine T_region ?_
  refine S_ 19 rfl rfl rfl _ (y_move rfl rfl) ?_
  refine S_ 20 rfl rfl rfl _ (y_len_slice rfl rfl Tryz.underlying57) ?_
  refine S_ 21 rfl rfl rfl _ (y_buildArr (zv := .agg #[.int .i64 0, .int .i64 0, .int .i64 0, .int .i64 0, .int .i64 0]) (out := [.int .i64 3, .int .i64 2, .int .i64 4, .int .i64 4, .int .i64 6]) rfl rfl Tryz.underlying308 z308 sz3 (by kernel_rfl)) ?_
  refine S_ 22 rfl rfl rfl _ (y_move rfl rfl) ?_
  refine S_ 23 rfl rfl rfl _ (y_indexArrV (v := .int .i64 (manyK k)) rfl rfl rfl Tryz.underlying308 sz3 Tryz.underlying3 rfl (fun hg => ⟨hk.1, by omega⟩) (fun hg => manyK_at hk)) ?_
  refine S_ 24 rfl rfl rfl _ (y_bin rfl rfl rfl (fun _ => b_neq)) ?_
  refine S_go (fun _ _ h => h) ?_
  refine T_cond rfl (fun h24 => ?_) (fun h24 => ?_)
  · skip
    have hl : ¬ ((ws.length : Nat) : Int) = manyK k := by simpa using h24
    refine T_seq ?_
    refine T_region ?_
    refine S_ 6 rfl rfl rfl _ (y_assign rfl rfl) ?_
    refine S_go (fun _ _ h => h) ?_
    refine T_ret (fun a w hF hM => hRb a w (post1 rfl rfl (fun w hM => ?_) a w hF hM))
    have hn := line_many hk hl (p := o.tab.pl)
    rw [hn]
    exact ⟨o, rfl, ⟨fun p h => absurd h (by simp), f1, ⟨by show o.fl.length ≤ _; omega, f2.2⟩, ⟨by show o.ul.length ≤ _; omega, f3.2⟩, by show o.rl.length ≤ _; omega, ⟨by show o.cl.length ≤ _; omega, f5.2⟩⟩, hM.keep (ks := [(0, 999)]) (by repeat (first | exact kl_rest (by assumption) rfl | (apply kl_in; focus rfl))) _ ⟨rfl, rfl, rfl, rfl, rfl, rfl, trivial⟩⟩
  · skip
    have hl : ((ws.length : Nat) : Int) = manyK k := by simpa using h24
    refine T_skip_go (fun _ _ h => h) ?_
    refine T_seq ?_
    refine T_seq ?_
    refine T_region ?_
    refine S_ 25 rfl rfl rfl _ (y_move rfl rfl) ?_
    refine S_go (fun _ _ h => h) ?_
    refine T_block ?_
    refine T_seq ?_
    refine T_region ?_
    refine S_ 27 rfl rfl rfl _ (y_bin rfl rfl rfl (fun _ => b_eql)) ?_
    refine S_ 26 rfl rfl rfl _ (y_assign rfl rfl) ?_
    refine S_go (fun _ _ h => h) ?_
    refine T_cond rfl (fun h26 => ?_) (fun h26 => ?_)
    · skip
      have hk0 : k = 0 := by simpa using h26
      subst hk0
      obtain ⟨x0, b, c, rfl⟩ := len_3 hl
      have hc := hs c (by simp)
      have hb := hs b (by simp)
      refine T_seq ?_
      refine T_region ?_
      refine S_ 29 rfl rfl rfl _ (y_move rfl rfl) ?_
      refine S_ 30 rfl rfl rfl _ (y_indexOwnI (j := 2) 902 rfl rfl rfl (fun _ => rfl) rfl Tryz.underlying57 sz9 (fun _ => by simp)) ?_
      refine S_ 31 rfl rfl rfl _ (y_loadO1 902 (val := (fun l : List UInt8 => str l)) rfl rfl rfl rfl (fun _ => rfl) Tryz.underlying9 rfl) ?_
      refine S_ 32 rfl rfl rfl _ (y_call rfl rfl rfl cf266 (fun _ w _ => plainNumberS_any c (by omega) w)) ?_
      refine S_ 28 rfl rfl rfl _ (y_move rfl rfl) ?_
      refine S_ 33 rfl rfl rfl _ (y_extract rfl rfl rfl) ?_
      refine S_ 34 rfl rfl rfl _ (y_extract rfl rfl rfl) ?_
      refine S_ 7 rfl rfl rfl _ (y_assign rfl rfl) ?_
      refine S_ 8 rfl rfl rfl _ (y_assign rfl rfl) ?_
      refine S_go (fun _ _ h => h) ?_
      refine T_seq ?_
      refine T_region ?_
      refine S_ 35 rfl rfl rfl _ (y_move rfl rfl) ?_
      refine S_ 36 rfl rfl rfl _ (y_move rfl rfl) ?_
      refine S_ 37 rfl rfl rfl _ (y_move rfl rfl) ?_
      refine S_ 38 rfl rfl rfl _ (y_indexOwnI (j := 1) 902 rfl rfl rfl (fun _ => rfl) rfl Tryz.underlying57 sz9 (fun _ => by simp)) ?_
      refine S_ 39 rfl rfl rfl _ (y_loadO1 902 (val := (fun l : List UInt8 => str l)) rfl rfl rfl rfl (fun _ => rfl) Tryz.underlying9 rfl) ?_
      refine S_ 40 rfl rfl rfl _ (y_move rfl rfl) ?_
      refine S_ 41 rfl rfl rfl _ (y_nilCheck rfl rfl) ?_
      refine S_ 42 rfl rfl rfl _ (y_fieldAddr rfl rfl fa62_0) ?_
      refine S_store 901 rfl rfl rfl rfl rfl rfl sz9 rfl rfl ?_
      refine S_ 43 rfl rfl rfl _ (y_nilCheck rfl rfl) ?_
      refine S_ 44 rfl rfl rfl _ (y_fieldAddr rfl rfl fa62_1) ?_
      refine S_store 901 rfl rfl rfl rfl rfl rfl sz3 rfl rfl ?_
      refine S_go (fun _ _ h => h) ?_
      refine T_seq ?_
      refine T_region ?_
      refine S_ 45 rfl rfl rfl _ (y_move rfl rfl) ?_
      refine S_ 46 rfl rfl rfl _ (y_move rfl rfl) ?_
      refine Sg_ 47 rfl rfl rfl rfl rfl rfl _ (y_move rfl rfl) ?_
      refine Sg_ 48 rfl rfl rfl rfl rfl rfl _ (y_indexOwnI (j := 1) 902 rfl rfl rfl (fun _ => rfl) rfl Tryz.underlying57 sz9 (fun _ => by simp)) ?_
      refine Sg_ 49 rfl rfl rfl rfl rfl rfl _ (y_loadO1 902 (val := (fun l : List UInt8 => str l)) rfl rfl rfl rfl (fun _ => rfl) Tryz.underlying9 rfl) ?_
      refine Sg_ 50 rfl rfl rfl rfl rfl rfl _ (y_bin rfl rfl rfl (fun _ => b_neqs)) ?_
      refine S_ 51 rfl rfl rfl _ (y_and rfl rfl rfl) ?_
      refine S_ 6 rfl rfl rfl _ (y_assign rfl rfl) ?_
      refine S_go (fun _ _ h => h) ?_
      refine T_ret (fun a w hF hM => hRb a w (post1 rfl rfl (fun w hM => ?_) a w hF hM))
      obtain ⟨r1, r2⟩ := take_ret (line0 x0 b c o.tab.pl)
      rw [r1]
      exact ⟨{ o with id := b, size := nJ c }, rfl, ⟨r2, hb, ⟨by show o.fl.length ≤ _; omega, f2.2⟩, ⟨by show o.ul.length ≤ _; omega, f3.2⟩, by show o.rl.length ≤ _; omega, ⟨by show o.cl.length ≤ _; omega, f5.2⟩⟩, hM.keep (ks := [(0, 999)]) (by repeat (first | exact kl_rest (by assumption) rfl | (apply kl_in; focus rfl))) _ ⟨rfl, rfl, rfl, rfl, rfl, rfl, trivial⟩⟩
    · skip
      have hk0 : ¬ k = 0 := by simpa using h26
      refine T_seq ?_
      refine T_region ?_
      refine S_ 53 rfl rfl rfl _ (y_bin rfl rfl rfl (fun _ => b_eql)) ?_
      refine S_ 52 rfl rfl rfl _ (y_assign rfl rfl) ?_
      refine S_go (fun _ _ h => h) ?_
      refine T_cond rfl (fun h52 => ?_) (fun h52 => ?_)
      · skip
        have hk1 : k = 1 := by simpa using h52
        subst hk1
        obtain ⟨x0, b, rfl⟩ := len_2 hl
        have hb := hs b (by simp)
        refine T_seq ?_
        refine T_perm [0, 1, 2, 3, 4, 5, 6, 7, 8, 9, 10, 11, 12] [true, true, true, true, true, true, true, true, false, false, true, true, false] [0, 0, 2, 6, 14, 0, 32, 96, 224, 510, 1023, 2047, 4095] [(4, [901]), (6, [902]), (7, [902])] (by kernel_rfl) (by kernel_rfl) (by kernel_rfl) rfl (by kernel_rfl) ?_
        refine Rf_ 0 54 rfl rfl rfl rfl rfl _ trivial (Y.z (y_move rfl rfl) rfl) ?_
        refine Rf_ 1 55 rfl rfl rfl rfl rfl _ trivial (Y.z (y_move rfl rfl) rfl) ?_
        refine Rf_ 2 56 rfl rfl rfl rfl rfl _ trivial (Z.of (z_nilCheck rfl rfl)) ?_
        refine Rf_ 3 57 rfl rfl rfl rfl rfl _ trivial (Y.z (y_fieldAddr rfl rfl fa62_2) rfl) ?_
        refine Rf_ 4 58 rfl rfl rfl rfl rfl _ ⟨rfl, trivial⟩ (Y.z (y_load 901 rfl rfl rfl rfl Tryz.underlying57 rfl) rfl) ?_
        refine Rf_ 5 59 rfl rfl rfl rfl rfl _ trivial (Y.z (y_move rfl rfl) rfl) ?_
        refine Rf_ 6 60 rfl rfl rfl rfl rfl _ ⟨rfl, trivial⟩ (Y.z (y_indexOwnI (j := 1) 902 rfl rfl rfl (fun _ => rfl) rfl Tryz.underlying57 sz9 (fun _ => by simp)) rfl) ?_
        refine Rf_ 7 61 rfl rfl rfl rfl rfl _ ⟨rfl, trivial⟩ (Y.z (y_loadO1 902 (val := (fun l : List UInt8 => str l)) rfl rfl rfl rfl (fun _ => rfl) Tryz.underlying9 rfl) rfl) ?_
        refine R_chain 8 rfl rfl ?_
        refine S_buildSlice 62 62 rfl rfl rfl rfl rfl Tryz.underlying57 inf9 rfl (by decide) (by decide) rfl rfl (by decide) rfl (_) rfl ?_
        intro b62
        refine R_next ⟨.inr ⟨rfl, trivial⟩, .inl rfl, .inl rfl, trivial⟩ ?_
        refine R_chain 9 rfl rfl ?_
        obtain ⟨i63, hi63, hz63, hs63, hy63⟩ := info_parts inf9
        refine S_append 63 908 62 rfl rfl rfl rfl rfl rfl rfl rfl Tryz.underlying57 hi63 hz63 hs63 hy63 rfl (by decide) (by decide) rfl ?_ ?_ ((o.fl ++ [b]).length) ((o.fl ++ [b]).flatMap strEnc) ?_ ?_ ?_
        · (simp only [maxLen]; omega)
        · omega
        · simp
        · simp [List.flatMap_append, strEnc]; rfl
        intro A63 c63
        refine R_next ⟨.inl rfl, .inl rfl, .inl rfl, trivial⟩ ?_
        refine Rf_ 10 64 rfl rfl rfl rfl rfl _ trivial (Z.of (z_nilCheck rfl rfl)) ?_
        refine Rf_ 11 65 rfl rfl rfl rfl rfl _ trivial (Y.z (y_fieldAddr rfl rfl fa62_2) rfl) ?_
        refine R_chain 12 rfl rfl ?_
        refine S_store 901 rfl rfl rfl rfl rfl rfl sz57 rfl rfl ?_
        refine R_next ⟨.inl rfl, .inl rfl, .inl rfl, trivial⟩ ?_
        refine R_go (fun _ _ h => h) ?_
        refine T_seq ?_
        refine T_region ?_
        refine S_ 66 rfl rfl rfl _ (y_move rfl rfl) ?_
        refine S_ 67 rfl rfl rfl _ (y_indexOwnI (j := 1) 902 rfl rfl rfl (fun _ => rfl) rfl Tryz.underlying57 sz9 (fun _ => by simp)) ?_
        refine S_ 68 rfl rfl rfl _ (y_loadO1 902 (val := (fun l : List UInt8 => str l)) rfl rfl rfl rfl (fun _ => rfl) Tryz.underlying9 rfl) ?_
        refine S_ 69 rfl rfl rfl _ (y_bin rfl rfl rfl (fun _ => b_neqs)) ?_
        refine S_ 6 rfl rfl rfl _ (y_assign rfl rfl) ?_
        refine S_go (fun _ _ h => h) ?_
        refine T_ret (fun a w hF hM => hRb a w (post1 rfl rfl (fun w hM => ?_) a w hF hM))
        obtain ⟨r1, r2⟩ := take_ret (line1 x0 b o.tab.pl)
        rw [r1]
        exact ⟨{ o with fA := A63, fc := c63, fl := o.fl ++ [b] }, rfl, ⟨r2, f1, ⟨by show (o.fl ++ [b]).length ≤ _; rw [List.length_append]; show o.fl.length + 1 ≤ n + 1; omega, all_snoc rfl f2.2 hb⟩, ⟨by show o.ul.length ≤ _; omega, f3.2⟩, by show o.rl.length ≤ _; omega, ⟨by show o.cl.length ≤ _; omega, f5.2⟩⟩, hM.keep (ks := [(0, 999)]) (by repeat (first | exact kl_rest (by assumption) rfl | (apply kl_in; focus rfl))) _ ⟨rfl, rfl, rfl, rfl, rfl, rfl, trivial⟩⟩
      · skip
        have hk1 : ¬ k = 1 := by simpa using h52
        refine T_seq ?_
        refine T_region ?_
        refine S_ 71 rfl rfl rfl _ (y_bin rfl rfl rfl (fun _ => b_eql)) ?_
        refine S_ 70 rfl rfl rfl _ (y_assign rfl rfl) ?_
        refine S_go (fun _ _ h => h) ?_
        refine T_cond rfl (fun h70 => ?_) (fun h70 => ?_)
        · skip
          have hk2 : k = 2 := by simpa using h70
          subst hk2
          obtain ⟨x0, b, c, d, rfl⟩ := len_4 hl
          have hd := hs d (by simp)
          refine T_cap 902 rfl fun hcap => ?_
          refine T_seq ?_
          refine T_region ?_
          refine S_ 73 rfl rfl rfl _ (y_move rfl rfl) ?_
          refine S_ 74 rfl rfl rfl _ (y_slice (lo := 1) (hi := 3) rfl rfl Tryz.underlying57 sz9 (.inr ⟨_, _, rfl, rfl⟩) (.inr ⟨_, _, rfl, rfl⟩) (by omega) (by simp) hcap) ?_
          refine S_callOwn 75 75 rfl rfl rfl rfl rfl rfl rfl cf267 (fun A0 c0 => .tuple #[.slice A0 (numsP [b, c]).length c0, .bool (numsOk [b, c])]) 3 1 ((numsP [b, c]).length) ((numsP [b, c]).flatMap intE9) (fun w hM => readNums_any _ _ _ [b, c] w ((owned_T (enc := strEnc) hM rfl (i := 902) rfl).cut (lo := 1) (hi := 3) (fun _ => rfl) (by omega) (by simp) hcap) (by omega) (fun x hx => by have := hs x (List.mem_of_mem_drop (i := 1) (List.mem_of_mem_take (i := 2) hx)); omega)) ?_
          intro A75 c75
          refine S_ 72 rfl rfl rfl _ (y_move rfl rfl) ?_
          refine S_ 76 rfl rfl rfl _ (y_extract rfl rfl rfl) ?_
          refine S_ 77 rfl rfl rfl _ (y_extract rfl rfl rfl) ?_
          refine S_ 9 rfl rfl rfl _ (y_assign rfl rfl) ?_
          refine S_ 10 rfl rfl rfl _ (y_assign rfl rfl) ?_
          refine S_go (fun _ _ h => h) ?_
          refine T_seq ?_
          refine T_seq ?_
          refine T_region ?_
          refine S_ 78 rfl rfl rfl _ (y_move rfl rfl) ?_
          refine S_go (fun _ _ h => h) ?_
          refine T_cond rfl (fun h78 => ?_) (fun h78 => ?_)
          · skip
            have e1 : numsOk [b, c] = true := h78
            have e2 := nums2 e1
            refine T_perm [0, 1, 2, 3, 4, 5, 6, 7, 8, 9, 10, 11, 12, 13, 14, 15, 16, 17, 18, 19] [true, true, true, true, true, true, true, true, true, true, true, true, true, true, true, false, false, true, true, false] [0, 0, 2, 6, 14, 0, 32, 96, 0, 256, 768, 0, 2048, 6144, 16352, 32736, 65534, 131071, 262143, 524287] [(4, [901]), (6, [902]), (7, [902]), (9, [75]), (10, [75]), (12, [75]), (13, [75])] (by kernel_rfl) (by kernel_rfl) (by kernel_rfl) rfl (by kernel_rfl) ?_
            refine Rf_ 0 79 rfl rfl rfl rfl rfl _ trivial (Y.z (y_move rfl rfl) rfl) ?_
            refine Rf_ 1 80 rfl rfl rfl rfl rfl _ trivial (Y.z (y_move rfl rfl) rfl) ?_
            refine Rf_ 2 81 rfl rfl rfl rfl rfl _ trivial (Z.of (z_nilCheck rfl rfl)) ?_
            refine Rf_ 3 82 rfl rfl rfl rfl rfl _ trivial (Y.z (y_fieldAddr rfl rfl fa62_3) rfl) ?_
            refine Rf_ 4 83 rfl rfl rfl rfl rfl _ ⟨rfl, trivial⟩ (Y.z (y_load 901 rfl rfl rfl rfl Tryz.underlying58 rfl) rfl) ?_
            refine Rf_ 5 84 rfl rfl rfl rfl rfl _ trivial (Y.z (y_move rfl rfl) rfl) ?_
            refine Rf_ 6 85 rfl rfl rfl rfl rfl _ ⟨rfl, trivial⟩ (Y.z (y_indexOwnI (j := 3) 902 rfl rfl rfl (fun _ => rfl) rfl Tryz.underlying57 sz9 (fun _ => by simp)) rfl) ?_
            refine Rf_ 7 86 rfl rfl rfl rfl rfl _ ⟨rfl, trivial⟩ (Y.z (y_loadO1 902 (val := (fun l : List UInt8 => str l)) rfl rfl rfl rfl (fun _ => rfl) Tryz.underlying9 rfl) rfl) ?_
            refine Rf_ 8 87 rfl rfl rfl rfl rfl _ trivial (Y.z (y_move rfl rfl) rfl) ?_
            refine Rf_ 9 88 rfl rfl rfl rfl rfl _ ⟨rfl, trivial⟩ (Y.z (y_indexOwnI (j := 0) 75 rfl rfl rfl (fun _ => rfl) rfl Tryz.underlying212 sz3 (fun _ => by rw [e2]; simp)) rfl) ?_
            refine Rf_ 10 89 rfl rfl rfl rfl rfl _ ⟨rfl, trivial⟩ (Y.z (y_loadO1 75 (val := (fun n : Int => Value.int .i64 n)) rfl rfl rfl rfl (fun _ => by rw [e2]; rfl) Tryz.underlying3 rfl) rfl) ?_
            refine Rf_ 11 90 rfl rfl rfl rfl rfl _ trivial (Y.z (y_move rfl rfl) rfl) ?_
            refine Rf_ 12 91 rfl rfl rfl rfl rfl _ ⟨rfl, trivial⟩ (Y.z (y_indexOwnI (j := 1) 75 rfl rfl rfl (fun _ => rfl) rfl Tryz.underlying212 sz3 (fun _ => by rw [e2]; simp)) rfl) ?_
            refine Rf_ 13 92 rfl rfl rfl rfl rfl _ ⟨rfl, trivial⟩ (Y.z (y_loadO1 75 (val := (fun n : Int => Value.int .i64 n)) rfl rfl rfl rfl (fun _ => by rw [e2]; rfl) Tryz.underlying3 rfl) rfl) ?_
            refine Rf_ 14 93 rfl rfl rfl rfl rfl _ trivial (Y.z (y_build (zv := .agg #[.string ⟨#[]⟩, .int .i64 0, .int .i64 0]) (pl := [(0, 1), (1, 1), (2, 1)]) (out := [_, _, _]) rfl rfl Tryz.underlying196 z196 (by kernel_rfl) rfl) rfl) ?_
            refine R_chain 15 rfl rfl ?_
            refine S_buildSlice 94 94 rfl rfl rfl rfl rfl Tryz.underlying58 inf196 rfl (by decide) (by decide) rfl rfl (by decide) rfl (_) rfl ?_
            intro b94
            refine R_next ⟨.inr ⟨rfl, trivial⟩, .inl rfl, .inl rfl, .inl rfl, .inl rfl, .inl rfl, .inl rfl, trivial⟩ ?_
            refine R_chain 16 rfl rfl ?_
            obtain ⟨i95, hi95, hz95, hs95, hy95⟩ := info_parts inf196
            refine S_append 95 909 94 rfl rfl rfl rfl rfl rfl rfl rfl Tryz.underlying58 hi95 hz95 hs95 hy95 rfl (by decide) (by decide) rfl ?_ ?_ ((o.ul ++ [(⟨d, nJ b, nJ c⟩ : SFunc)]).length) ((o.ul ++ [(⟨d, nJ b, nJ c⟩ : SFunc)]).flatMap SFunc.enc) ?_ ?_ ?_
            · (simp only [maxLen]; omega)
            · omega
            · simp
            · simp [List.flatMap_append, SFunc.enc]; rfl
            intro A95 c95
            refine R_next ⟨.inl rfl, .inl rfl, .inl rfl, .inl rfl, .inl rfl, .inl rfl, .inl rfl, trivial⟩ ?_
            refine Rf_ 17 96 rfl rfl rfl rfl rfl _ trivial (Z.of (z_nilCheck rfl rfl)) ?_
            refine Rf_ 18 97 rfl rfl rfl rfl rfl _ trivial (Y.z (y_fieldAddr rfl rfl fa62_3) rfl) ?_
            refine R_chain 19 rfl rfl ?_
            refine S_store 901 rfl rfl rfl rfl rfl rfl sz58 rfl rfl ?_
            refine R_next ⟨.inl rfl, .inl rfl, .inl rfl, .inl rfl, .inl rfl, .inl rfl, .inl rfl, trivial⟩ ?_
            refine R_go (fun _ _ h => h) ?_
            refine T_seq ?_
            refine T_region ?_
            refine S_ 98 rfl rfl rfl _ (y_move rfl rfl) ?_
            refine S_ 99 rfl rfl rfl _ (y_move rfl rfl) ?_
            refine Sg_ 100 rfl rfl rfl rfl rfl rfl _ (y_move rfl rfl) ?_
            refine Sg_ 101 rfl rfl rfl rfl rfl rfl _ (y_indexOwnI (j := 3) 902 rfl rfl rfl (fun _ => rfl) rfl Tryz.underlying57 sz9 (fun _ => by simp)) ?_
            refine Sg_ 102 rfl rfl rfl rfl rfl rfl _ (y_loadO1 902 (val := (fun l : List UInt8 => str l)) rfl rfl rfl rfl (fun _ => rfl) Tryz.underlying9 rfl) ?_
            refine Sg_ 103 rfl rfl rfl rfl rfl rfl _ (y_bin rfl rfl rfl (fun _ => b_neqs)) ?_
            refine S_ 104 rfl rfl rfl _ (y_and rfl rfl rfl) ?_
            refine S_ 6 rfl rfl rfl _ (y_assign rfl rfl) ?_
            refine S_go (fun _ _ h => h) ?_
            refine T_ret (fun a w hF hM => hRb a w (post1 rfl rfl (fun w hM => ?_) a w hF hM))
            obtain ⟨r1, r2⟩ := take_ret (line2 x0 b c d o.tab.pl)
            rw [r1]
            exact ⟨{ o with uA := A95, uc := c95, ul := o.ul ++ [(⟨d, nJ b, nJ c⟩ : SFunc)] }, rfl, ⟨r2, f1, ⟨by show o.fl.length ≤ _; omega, f2.2⟩, ⟨by show (o.ul ++ [(⟨d, nJ b, nJ c⟩ : SFunc)]).length ≤ _; rw [List.length_append]; show o.ul.length + 1 ≤ n + 1; omega, all_snoc rfl f3.2 hd⟩, by show o.rl.length ≤ _; omega, ⟨by show o.cl.length ≤ _; omega, f5.2⟩⟩, hM.keep (ks := [(0, 999)]) (by repeat (first | exact kl_rest (by assumption) rfl | (apply kl_in; focus rfl))) _ ⟨rfl, rfl, rfl, rfl, rfl, rfl, trivial⟩⟩
          · skip
            have e1 : numsOk [b, c] = false := h78
            refine T_skip_go (fun _ _ h => h) ?_
            refine T_seq ?_
            refine T_region ?_
            refine S_ 98 rfl rfl rfl _ (y_move rfl rfl) ?_
            refine S_ 99 rfl rfl rfl _ (y_move rfl rfl) ?_
            refine Sg_ 100 rfl rfl rfl rfl rfl rfl _ (y_move rfl rfl) ?_
            refine Sg_ 101 rfl rfl rfl rfl rfl rfl _ (y_indexOwnI (j := 3) 902 rfl rfl rfl (fun _ => rfl) rfl Tryz.underlying57 sz9 (fun _ => by simp)) ?_
            refine Sg_ 102 rfl rfl rfl rfl rfl rfl _ (y_loadO1 902 (val := (fun l : List UInt8 => str l)) rfl rfl rfl rfl (fun _ => rfl) Tryz.underlying9 rfl) ?_
            refine Sg_ 103 rfl rfl rfl rfl rfl rfl _ (y_bin rfl rfl rfl (fun _ => b_neqs)) ?_
            refine S_ 104 rfl rfl rfl _ (y_and rfl rfl rfl) ?_
            refine S_ 6 rfl rfl rfl _ (y_assign rfl rfl) ?_
            refine S_go (fun _ _ h => h) ?_
            refine T_ret (fun a w hF hM => hRb a w (post1 rfl rfl (fun w hM => ?_) a w hF hM))
            obtain ⟨r1, r2⟩ := take_ret (line2 x0 b c d o.tab.pl)
            have r3 := take_no (line2 x0 b c d o.tab.pl) e1
            rw [r1]
            exact ⟨o, rfl, ⟨fun p h => absurd (r3.symm.trans h) (by simp), f1, ⟨by show o.fl.length ≤ _; omega, f2.2⟩, ⟨by show o.ul.length ≤ _; omega, f3.2⟩, by show o.rl.length ≤ _; omega, ⟨by show o.cl.length ≤ _; omega, f5.2⟩⟩, hM.keep (ks := [(0, 999)]) (by repeat (first | exact kl_rest (by assumption) rfl | (apply kl_in; focus rfl))) _ ⟨rfl, rfl, rfl, rfl, rfl, rfl, trivial⟩⟩
        · skip
          have hk2 : ¬ k = 2 := by simpa using h70
          refine T_seq ?_
          refine T_region ?_
          refine S_ 106 rfl rfl rfl _ (y_bin rfl rfl rfl (fun _ => b_eql)) ?_
          refine S_ 105 rfl rfl rfl _ (y_assign rfl rfl) ?_
          refine S_go (fun _ _ h => h) ?_
          refine T_cond rfl (fun h105 => ?_) (fun h105 => ?_)
          · skip
            have hk3 : k = 3 := by simpa using h105
            subst hk3
            obtain ⟨x0, b, c, d, rfl⟩ := len_4 hl
            have hb := hs b (by simp)
            have hc := hs c (by simp)
            have hd := hs d (by simp)
            refine T_seq ?_
            refine T_region ?_
            refine S_ 108 rfl rfl rfl _ (y_move rfl rfl) ?_
            refine S_ 109 rfl rfl rfl _ (y_indexOwnI (j := 1) 902 rfl rfl rfl (fun _ => rfl) rfl Tryz.underlying57 sz9 (fun _ => by simp)) ?_
            refine S_ 110 rfl rfl rfl _ (y_loadO1 902 (val := (fun l : List UInt8 => str l)) rfl rfl rfl rfl (fun _ => rfl) Tryz.underlying9 rfl) ?_
            refine S_ 111 rfl rfl rfl _ (y_call rfl rfl rfl cf266 (fun _ w _ => plainNumberS_any b (by omega) w)) ?_
            refine S_ 107 rfl rfl rfl _ (y_move rfl rfl) ?_
            refine S_ 112 rfl rfl rfl _ (y_extract rfl rfl rfl) ?_
            refine S_ 113 rfl rfl rfl _ (y_extract rfl rfl rfl) ?_
            refine S_ 11 rfl rfl rfl _ (y_assign rfl rfl) ?_
            refine S_ 12 rfl rfl rfl _ (y_assign rfl rfl) ?_
            refine S_go (fun _ _ h => h) ?_
            refine T_seq ?_
            refine T_region ?_
            refine S_ 115 rfl rfl rfl _ (y_move rfl rfl) ?_
            refine S_ 116 rfl rfl rfl _ (y_indexOwnI (j := 2) 902 rfl rfl rfl (fun _ => rfl) rfl Tryz.underlying57 sz9 (fun _ => by simp)) ?_
            refine S_ 117 rfl rfl rfl _ (y_loadO1 902 (val := (fun l : List UInt8 => str l)) rfl rfl rfl rfl (fun _ => rfl) Tryz.underlying9 rfl) ?_
            refine S_ 118 rfl rfl rfl _ (y_call rfl rfl rfl cf268 (fun _ w _ => readFile_any c (by omega) w)) ?_
            refine S_ 114 rfl rfl rfl _ (y_move rfl rfl) ?_
            refine S_ 119 rfl rfl rfl _ (y_extract rfl rfl rfl) ?_
            refine S_ 120 rfl rfl rfl _ (y_extract rfl rfl rfl) ?_
            refine S_ 13 rfl rfl rfl _ (y_assign rfl rfl) ?_
            refine S_ 14 rfl rfl rfl _ (y_assign rfl rfl) ?_
            refine S_go (fun _ _ h => h) ?_
            refine T_seq ?_
            refine T_region ?_
            refine S_ 122 rfl rfl rfl _ (y_move rfl rfl) ?_
            refine S_ 123 rfl rfl rfl _ (y_indexOwnI (j := 3) 902 rfl rfl rfl (fun _ => rfl) rfl Tryz.underlying57 sz9 (fun _ => by simp)) ?_
            refine S_ 124 rfl rfl rfl _ (y_loadO1 902 (val := (fun l : List UInt8 => str l)) rfl rfl rfl rfl (fun _ => rfl) Tryz.underlying9 rfl) ?_
            refine S_ 125 rfl rfl rfl _ (y_call rfl rfl rfl cf266 (fun _ w _ => plainNumberS_any d (by omega) w)) ?_
            refine S_ 121 rfl rfl rfl _ (y_move rfl rfl) ?_
            refine S_ 126 rfl rfl rfl _ (y_extract rfl rfl rfl) ?_
            refine S_ 127 rfl rfl rfl _ (y_extract rfl rfl rfl) ?_
            refine S_ 15 rfl rfl rfl _ (y_assign rfl rfl) ?_
            refine S_ 16 rfl rfl rfl _ (y_assign rfl rfl) ?_
            refine S_go (fun _ _ h => h) ?_
            refine T_seq ?_
            refine T_region ?_
            refine S_ 128 rfl rfl rfl _ (y_move rfl rfl) ?_
            refine S_ 129 rfl rfl rfl _ (y_move rfl rfl) ?_
            refine S_ 130 rfl rfl rfl _ (y_nilCheck rfl rfl) ?_
            refine S_ 131 rfl rfl rfl _ (y_fieldAddr rfl rfl fa62_4) ?_
            refine S_ 132 rfl rfl rfl _ (y_load 901 rfl rfl rfl rfl Tryz.underlying59 rfl) ?_
            refine S_ 133 rfl rfl rfl _ (y_move rfl rfl) ?_
            refine S_ 134 rfl rfl rfl _ (y_move rfl rfl) ?_
            refine S_ 135 rfl rfl rfl _ (y_move rfl rfl) ?_
            refine S_ 136 rfl rfl rfl _ (y_build (zv := .agg #[.int .i64 0, .int .i64 0, .int .i64 0]) (pl := [(0, 1), (1, 1), (2, 1)]) (out := [_, _, _]) rfl rfl Tryz.underlying198 z198 (by kernel_rfl) rfl) ?_
            refine S_buildSlice 137 137 rfl rfl rfl rfl rfl Tryz.underlying59 inf198 rfl (by decide) (by decide) rfl rfl (by decide) rfl (_) rfl ?_
            intro b137
            obtain ⟨i138, hi138, hz138, hs138, hy138⟩ := info_parts inf198
            refine S_append 138 910 137 rfl rfl rfl rfl rfl rfl rfl rfl Tryz.underlying59 hi138 hz138 hs138 hy138 rfl (by decide) (by decide) rfl ?_ ?_ ((o.rl ++ [(⟨nJ b, rfJ c, nJ d⟩ : SRow)]).length) ((o.rl ++ [(⟨nJ b, rfJ c, nJ d⟩ : SRow)]).flatMap SRow.enc) ?_ ?_ ?_
            · (simp only [maxLen]; omega)
            · omega
            · simp
            · simp [List.flatMap_append, SRow.enc]; rfl
            intro A138 c138
            refine S_ 139 rfl rfl rfl _ (y_nilCheck rfl rfl) ?_
            refine S_ 140 rfl rfl rfl _ (y_fieldAddr rfl rfl fa62_4) ?_
            refine S_store 901 rfl rfl rfl rfl rfl rfl sz59 rfl rfl ?_
            refine S_go (fun _ _ h => h) ?_
            refine T_seq ?_
            refine T_region ?_
            refine S_ 141 rfl rfl rfl _ (y_move rfl rfl) ?_
            refine S_ 142 rfl rfl rfl _ (y_move rfl rfl) ?_
            refine Sg_ 143 rfl rfl rfl rfl rfl rfl _ (y_move rfl rfl) ?_
            refine S_ 144 rfl rfl rfl _ (y_and rfl rfl rfl) ?_
            refine S_ 145 rfl rfl rfl _ (y_move rfl rfl) ?_
            refine Sg_ 146 rfl rfl rfl rfl rfl rfl _ (y_move rfl rfl) ?_
            refine S_ 147 rfl rfl rfl _ (y_and rfl rfl rfl) ?_
            refine S_ 6 rfl rfl rfl _ (y_assign rfl rfl) ?_
            refine S_go (fun _ _ h => h) ?_
            refine T_ret (fun a w hF hM => hRb a w (post1 rfl rfl (fun w hM => ?_) a w hF hM))
            obtain ⟨r1, r2⟩ := take_ret (line3 x0 b c d o.tab.pl)
            rw [r1]
            exact ⟨{ o with rA := A138, rc := c138, rl := o.rl ++ [(⟨nJ b, rfJ c, nJ d⟩ : SRow)] }, rfl, ⟨r2, f1, ⟨by show o.fl.length ≤ _; omega, f2.2⟩, ⟨by show o.ul.length ≤ _; omega, f3.2⟩, by show (o.rl ++ [(⟨nJ b, rfJ c, nJ d⟩ : SRow)]).length ≤ _; rw [List.length_append]; show o.rl.length + 1 ≤ n + 1; omega, ⟨by show o.cl.length ≤ _; omega, f5.2⟩⟩, hM.keep (ks := [(0, 999)]) (by repeat (first | exact kl_rest (by assumption) rfl | (apply kl_in; focus rfl))) _ ⟨rfl, rfl, rfl, rfl, rfl, rfl, trivial⟩⟩
          · skip
            have hk3 : ¬ k = 3 := by simpa using h105
            have hk4 : k = 4 := by omega
            subst hk4
            obtain ⟨x0, b, c, d, e, f, rfl⟩ := len_6 hl
            have hf := hs f (by simp)
            refine T_cap 902 rfl fun hcap => ?_
            refine T_skip_go (fun _ _ h => h) ?_
            refine T_seq ?_
            refine T_region ?_
            refine S_ 149 rfl rfl rfl _ (y_move rfl rfl) ?_
            refine S_ 150 rfl rfl rfl _ (y_slice (lo := 1) (hi := 5) rfl rfl Tryz.underlying57 sz9 (.inr ⟨_, _, rfl, rfl⟩) (.inr ⟨_, _, rfl, rfl⟩) (by omega) (by simp) hcap) ?_
            refine S_callOwn 151 151 rfl rfl rfl rfl rfl rfl rfl cf267 (fun A0 c0 => .tuple #[.slice A0 (numsP [b, c, d, e]).length c0, .bool (numsOk [b, c, d, e])]) 3 1 ((numsP [b, c, d, e]).length) ((numsP [b, c, d, e]).flatMap intE9) (fun w hM => readNums_any _ _ _ [b, c, d, e] w ((owned_T (enc := strEnc) hM rfl (i := 902) rfl).cut (lo := 1) (hi := 5) (fun _ => rfl) (by omega) (by simp) hcap) (by omega) (fun x hx => by have := hs x (List.mem_of_mem_drop (i := 1) (List.mem_of_mem_take (i := 4) hx)); omega)) ?_
            intro A151 c151
            refine S_ 148 rfl rfl rfl _ (y_move rfl rfl) ?_
            refine S_ 152 rfl rfl rfl _ (y_extract rfl rfl rfl) ?_
            refine S_ 153 rfl rfl rfl _ (y_extract rfl rfl rfl) ?_
            refine S_ 17 rfl rfl rfl _ (y_assign rfl rfl) ?_
            refine S_ 18 rfl rfl rfl _ (y_assign rfl rfl) ?_
            refine S_go (fun _ _ h => h) ?_
            refine T_seq ?_
            refine T_seq ?_
            refine T_region ?_
            refine S_ 154 rfl rfl rfl _ (y_move rfl rfl) ?_
            refine S_go (fun _ _ h => h) ?_
            refine T_cond rfl (fun h154 => ?_) (fun h154 => ?_)
            · skip
              have e1 : numsOk [b, c, d, e] = true := h154
              have e2 := nums4 e1
              refine T_perm [0, 1, 2, 3, 4, 5, 6, 7, 8, 9, 10, 11, 12, 13, 14, 15, 16, 17, 18, 19, 20, 21, 22, 23, 24, 25] [true, true, true, true, true, true, true, true, true, true, true, true, true, true, true, true, true, true, true, true, true, false, false, true, true, false] [0, 0, 2, 6, 14, 0, 32, 96, 0, 256, 768, 0, 2048, 6144, 0, 16384, 49152, 0, 131072, 393216, 1048544, 2097120, 4194302, 8388607, 16777215, 33554431] [(4, [901]), (6, [902]), (7, [902]), (9, [151]), (10, [151]), (12, [151]), (13, [151]), (15, [151]), (16, [151]), (18, [151]), (19, [151])] (by kernel_rfl) (by kernel_rfl) (by kernel_rfl) rfl (by kernel_rfl) ?_
              refine Rf_ 0 155 rfl rfl rfl rfl rfl _ trivial (Y.z (y_move rfl rfl) rfl) ?_
              refine Rf_ 1 156 rfl rfl rfl rfl rfl _ trivial (Y.z (y_move rfl rfl) rfl) ?_
              refine Rf_ 2 157 rfl rfl rfl rfl rfl _ trivial (Z.of (z_nilCheck rfl rfl)) ?_
              refine Rf_ 3 158 rfl rfl rfl rfl rfl _ trivial (Y.z (y_fieldAddr rfl rfl fa62_5) rfl) ?_
              refine Rf_ 4 159 rfl rfl rfl rfl rfl _ ⟨rfl, trivial⟩ (Y.z (y_load 901 rfl rfl rfl rfl Tryz.underlying60 rfl) rfl) ?_
              refine Rf_ 5 160 rfl rfl rfl rfl rfl _ trivial (Y.z (y_move rfl rfl) rfl) ?_
              refine Rf_ 6 161 rfl rfl rfl rfl rfl _ ⟨rfl, trivial⟩ (Y.z (y_indexOwnI (j := 5) 902 rfl rfl rfl (fun _ => rfl) rfl Tryz.underlying57 sz9 (fun _ => by simp)) rfl) ?_
              refine Rf_ 7 162 rfl rfl rfl rfl rfl _ ⟨rfl, trivial⟩ (Y.z (y_loadO1 902 (val := (fun l : List UInt8 => str l)) rfl rfl rfl rfl (fun _ => rfl) Tryz.underlying9 rfl) rfl) ?_
              refine Rf_ 8 163 rfl rfl rfl rfl rfl _ trivial (Y.z (y_move rfl rfl) rfl) ?_
              refine Rf_ 9 164 rfl rfl rfl rfl rfl _ ⟨rfl, trivial⟩ (Y.z (y_indexOwnI (j := 0) 151 rfl rfl rfl (fun _ => rfl) rfl Tryz.underlying212 sz3 (fun _ => by rw [e2]; simp)) rfl) ?_
              refine Rf_ 10 165 rfl rfl rfl rfl rfl _ ⟨rfl, trivial⟩ (Y.z (y_loadO1 151 (val := (fun n : Int => Value.int .i64 n)) rfl rfl rfl rfl (fun _ => by rw [e2]; rfl) Tryz.underlying3 rfl) rfl) ?_
              refine Rf_ 11 166 rfl rfl rfl rfl rfl _ trivial (Y.z (y_move rfl rfl) rfl) ?_
              refine Rf_ 12 167 rfl rfl rfl rfl rfl _ ⟨rfl, trivial⟩ (Y.z (y_indexOwnI (j := 1) 151 rfl rfl rfl (fun _ => rfl) rfl Tryz.underlying212 sz3 (fun _ => by rw [e2]; simp)) rfl) ?_
              refine Rf_ 13 168 rfl rfl rfl rfl rfl _ ⟨rfl, trivial⟩ (Y.z (y_loadO1 151 (val := (fun n : Int => Value.int .i64 n)) rfl rfl rfl rfl (fun _ => by rw [e2]; rfl) Tryz.underlying3 rfl) rfl) ?_
              refine Rf_ 14 169 rfl rfl rfl rfl rfl _ trivial (Y.z (y_move rfl rfl) rfl) ?_
              refine Rf_ 15 170 rfl rfl rfl rfl rfl _ ⟨rfl, trivial⟩ (Y.z (y_indexOwnI (j := 2) 151 rfl rfl rfl (fun _ => rfl) rfl Tryz.underlying212 sz3 (fun _ => by rw [e2]; simp)) rfl) ?_
              refine Rf_ 16 171 rfl rfl rfl rfl rfl _ ⟨rfl, trivial⟩ (Y.z (y_loadO1 151 (val := (fun n : Int => Value.int .i64 n)) rfl rfl rfl rfl (fun _ => by rw [e2]; rfl) Tryz.underlying3 rfl) rfl) ?_
              refine Rf_ 17 172 rfl rfl rfl rfl rfl _ trivial (Y.z (y_move rfl rfl) rfl) ?_
              refine Rf_ 18 173 rfl rfl rfl rfl rfl _ ⟨rfl, trivial⟩ (Y.z (y_indexOwnI (j := 3) 151 rfl rfl rfl (fun _ => rfl) rfl Tryz.underlying212 sz3 (fun _ => by rw [e2]; simp)) rfl) ?_
              refine Rf_ 19 174 rfl rfl rfl rfl rfl _ ⟨rfl, trivial⟩ (Y.z (y_loadO1 151 (val := (fun n : Int => Value.int .i64 n)) rfl rfl rfl rfl (fun _ => by rw [e2]; rfl) Tryz.underlying3 rfl) rfl) ?_
              refine Rf_ 20 175 rfl rfl rfl rfl rfl _ trivial (Y.z (y_build (zv := .agg #[.string ⟨#[]⟩, .int .i64 0, .int .i64 0, .int .i64 0, .int .i64 0]) (pl := [(0, 1), (1, 1), (2, 1), (3, 1), (4, 1)]) (out := [_, _, _, _, _]) rfl rfl Tryz.underlying200 z200 (by kernel_rfl) rfl) rfl) ?_
              refine R_chain 21 rfl rfl ?_
              refine S_buildSlice 176 176 rfl rfl rfl rfl rfl Tryz.underlying60 inf200 rfl (by decide) (by decide) rfl rfl (by decide) rfl (_) rfl ?_
              intro b176
              refine R_next ⟨.inr ⟨rfl, trivial⟩, .inl rfl, .inl rfl, .inl rfl, .inl rfl, .inl rfl, .inl rfl, .inl rfl, .inl rfl, .inl rfl, .inl rfl, trivial⟩ ?_
              refine R_chain 22 rfl rfl ?_
              obtain ⟨i177, hi177, hz177, hs177, hy177⟩ := info_parts inf200
              refine S_append 177 911 176 rfl rfl rfl rfl rfl rfl rfl rfl Tryz.underlying60 hi177 hz177 hs177 hy177 rfl (by decide) (by decide) rfl ?_ ?_ ((o.cl ++ [(⟨f, nJ b, nJ c, nJ d, nJ e⟩ : SCall)]).length) ((o.cl ++ [(⟨f, nJ b, nJ c, nJ d, nJ e⟩ : SCall)]).flatMap SCall.enc) ?_ ?_ ?_
              · (simp only [maxLen]; omega)
              · omega
              · simp
              · simp [List.flatMap_append, SCall.enc]; rfl
              intro A177 c177
              refine R_next ⟨.inl rfl, .inl rfl, .inl rfl, .inl rfl, .inl rfl, .inl rfl, .inl rfl, .inl rfl, .inl rfl, .inl rfl, .inl rfl, trivial⟩ ?_
              refine Rf_ 23 178 rfl rfl rfl rfl rfl _ trivial (Z.of (z_nilCheck rfl rfl)) ?_
              refine Rf_ 24 179 rfl rfl rfl rfl rfl _ trivial (Y.z (y_fieldAddr rfl rfl fa62_5) rfl) ?_
              refine R_chain 25 rfl rfl ?_
              refine S_store 901 rfl rfl rfl rfl rfl rfl sz60 rfl rfl ?_
              refine R_next ⟨.inl rfl, .inl rfl, .inl rfl, .inl rfl, .inl rfl, .inl rfl, .inl rfl, .inl rfl, .inl rfl, .inl rfl, .inl rfl, trivial⟩ ?_
              refine R_go (fun _ _ h => h) ?_
              refine T_seq ?_
              refine T_region ?_
              refine S_ 180 rfl rfl rfl _ (y_move rfl rfl) ?_
              refine S_ 181 rfl rfl rfl _ (y_move rfl rfl) ?_
              refine Sg_ 182 rfl rfl rfl rfl rfl rfl _ (y_move rfl rfl) ?_
              refine Sg_ 183 rfl rfl rfl rfl rfl rfl _ (y_indexOwnI (j := 5) 902 rfl rfl rfl (fun _ => rfl) rfl Tryz.underlying57 sz9 (fun _ => by simp)) ?_
              refine Sg_ 184 rfl rfl rfl rfl rfl rfl _ (y_loadO1 902 (val := (fun l : List UInt8 => str l)) rfl rfl rfl rfl (fun _ => rfl) Tryz.underlying9 rfl) ?_
              refine Sg_ 185 rfl rfl rfl rfl rfl rfl _ (y_bin rfl rfl rfl (fun _ => b_neqs)) ?_
              refine S_ 186 rfl rfl rfl _ (y_and rfl rfl rfl) ?_
              refine S_ 6 rfl rfl rfl _ (y_assign rfl rfl) ?_
              refine S_go (fun _ _ h => h) ?_
              refine T_ret (fun a w hF hM => hRb a w (post1 rfl rfl (fun w hM => ?_) a w hF hM))
              obtain ⟨r1, r2⟩ := take_ret (line4 x0 b c d e f o.tab.pl)
              rw [r1]
              exact ⟨{ o with cA := A177, cc := c177, cl := o.cl ++ [(⟨f, nJ b, nJ c, nJ d, nJ e⟩ : SCall)] }, rfl, ⟨r2, f1, ⟨by show o.fl.length ≤ _; omega, f2.2⟩, ⟨by show o.ul.length ≤ _; omega, f3.2⟩, by show o.rl.length ≤ _; omega, ⟨by show (o.cl ++ [(⟨f, nJ b, nJ c, nJ d, nJ e⟩ : SCall)]).length ≤ _; rw [List.length_append]; show o.cl.length + 1 ≤ n + 1; omega, all_snoc rfl f5.2 hf⟩⟩, hM.keep (ks := [(0, 999)]) (by repeat (first | exact kl_rest (by assumption) rfl | (apply kl_in; focus rfl))) _ ⟨rfl, rfl, rfl, rfl, rfl, rfl, trivial⟩⟩
            · skip
              have e1 : numsOk [b, c, d, e] = false := h154
              refine T_skip_go (fun _ _ h => h) ?_
              refine T_seq ?_
              refine T_region ?_
              refine S_ 180 rfl rfl rfl _ (y_move rfl rfl) ?_
              refine S_ 181 rfl rfl rfl _ (y_move rfl rfl) ?_
              refine Sg_ 182 rfl rfl rfl rfl rfl rfl _ (y_move rfl rfl) ?_
              refine Sg_ 183 rfl rfl rfl rfl rfl rfl _ (y_indexOwnI (j := 5) 902 rfl rfl rfl (fun _ => rfl) rfl Tryz.underlying57 sz9 (fun _ => by simp)) ?_
              refine Sg_ 184 rfl rfl rfl rfl rfl rfl _ (y_loadO1 902 (val := (fun l : List UInt8 => str l)) rfl rfl rfl rfl (fun _ => rfl) Tryz.underlying9 rfl) ?_
              refine Sg_ 185 rfl rfl rfl rfl rfl rfl _ (y_bin rfl rfl rfl (fun _ => b_neqs)) ?_
              refine S_ 186 rfl rfl rfl _ (y_and rfl rfl rfl) ?_
              refine S_ 6 rfl rfl rfl _ (y_assign rfl rfl) ?_
              refine S_go (fun _ _ h => h) ?_
              refine T_ret (fun a w hF hM => hRb a w (post1 rfl rfl (fun w hM => ?_) a w hF hM))
              obtain ⟨r1, r2⟩ := take_ret (line4 x0 b c d e f o.tab.pl)
              have r3 := take_no (line4 x0 b c d e f o.tab.pl) e1
              rw [r1]
              exact ⟨o, rfl, ⟨fun p h => absurd (r3.symm.trans h) (by simp), f1, ⟨by show o.fl.length ≤ _; omega, f2.2⟩, ⟨by show o.ul.length ≤ _; omega, f3.2⟩, by show o.rl.length ≤ _; omega, ⟨by show o.cl.length ≤ _; omega, f5.2⟩⟩, hM.keep (ks := [(0, 999)]) (by repeat (first | exact kl_rest (by assumption) rfl | (apply kl_in; focus rfl))) _ ⟨rfl, rfl, rfl, rfl, rfl, rfl, trivial⟩⟩
end Go.Proofs.YtkkngcdikbhkjaaGreatDoor
end
section
namespace Go.Proofs.YtkkngcdikbhkjaaGreatDoor
set_option linter.unusedSimpArgs false
set_option linter.unusedVariables false
set_option maxRecDepth 20000
open Go.RowKit Go.Eng
def kinL : List (List UInt8 × Value) := [(kTab, .int .i64 0), (kFil, .int .i64 1), (kFun, .int .i64 2), (kRow, .int .i64 3), (kCal, .int .i64 4)]
def kV (w : List UInt8) : Int := if kindOf w < 0 then 0 else kindOf w
theorem kin_get (w : List UInt8) : (mget kinL w).getD (.int .i64 0) = .int .i64 (kV w) ∧ (mget kinL w).isSome = !decide (kindOf w < 0) := by
  simp only [kinL, mget, kV, kindOf]
  by_cases h0 : w = kTab
  · simp [h0]
  by_cases h1 : w = kFil
  · subst h1; rw [if_neg (by decide)]; exact ⟨rfl, rfl⟩
  by_cases h2 : w = kFun
  · subst h2; rw [if_neg (by decide), if_neg (by decide)]; exact ⟨rfl, rfl⟩
  by_cases h3 : w = kRow
  · subst h3; rw [if_neg (by decide), if_neg (by decide), if_neg (by decide)]; exact ⟨rfl, rfl⟩
  by_cases h4 : w = kCal
  · subst h4; rw [if_neg (by decide), if_neg (by decide), if_neg (by decide), if_neg (by decide)]; exact ⟨rfl, rfl⟩
  simp [h0, h1, h2, h3, h4]
theorem kindOf_le (w : List UInt8) : -1 ≤ kindOf w ∧ kindOf w ≤ 4 := by
  unfold kindOf
  repeat' split
  all_goals omega
theorem words_le {s x : List UInt8} (h : x ∈ wordsT s) : x.length ≤ s.length := Nat.le_trans (spl_le 32 _ x h) (cut_le 10 s).1
theorem cut_less {s : List UInt8} (h : (cutC 10 s).2.2 = true) : (cutC 10 s).2.1.length < s.length := by
  have e := congrArg List.length (cut_t h)
  rw [List.length_append, List.length_cons] at e; omega
theorem words_at0 (s : List UInt8) : ∃ a r, wordsT s = a :: r ∧ kindT s = kindOf a := by
  cases h : wordsT s with
  | nil => exact absurd h (split_ne 32 _)
  | cons a r => exact ⟨a, r, rfl, by rw [kindT, h]; rfl⟩
/-- the condition of the line, as the program computes it -/
theorem bad_eq (s a : List UInt8) (n : Nat) (last : Int) (hk : kindT s = kindOf a) (h0 : 0 ≤ last) : (!(cutC 10 s).2.2 || !!decide (kindOf a < 0) || (decide (kV a = 0) != decide (((n + 1 : Nat) : Int) = 1)) || decide (kV a < last)) = badT s (decide (n = 0)) last := by
  have e1 : decide (((n + 1 : Nat) : Int) = 1) = decide (n = 0) := decide_eq_decide.2 (by omega)
  rw [badT, hk, e1, Bool.not_not]
  by_cases h : kindOf a < 0
  · rw [decide_eq_true h]; simp
  · rw [kV, if_neg h]
def rdRes1 (s : List UInt8) : PT × Nat × Bool := rdLines (s.length + 2) s 0 0 PT0
theorem rdTxt_big {s : List UInt8} (h : (1000000 : Int) < s.length) : rdTxt s = (PT0, 0, 4) := if_pos h
theorem rdTxt_bad {s : List UInt8} {p : PT} {n : Nat} (h : (s.length : Int) ≤ 1000000) (hr : rdRes1 s = (p, n, false)) : rdTxt s = (PT0, (n : Int), 8) := by
  unfold rdTxt
  rw [if_neg (by omega)]
  unfold rdRes1 at hr
  simp only [hr]; rfl
theorem rdTxt_fault {s : List UInt8} {p : PT} {n : Nat} (h : (s.length : Int) ≤ 1000000) (hr : rdRes1 s = (p, n, true)) (hn : tabNoP p ≠ 0) : rdTxt s = (PT0, 0, tabNoP p) := by
  unfold rdTxt
  rw [if_neg (by omega)]
  unfold rdRes1 at hr
  simp only [hr]
  rw [if_neg (by simp), if_pos hn]
theorem rdTxt_ok {s : List UInt8} {p : PT} {n : Nat} (h : (s.length : Int) ≤ 1000000) (hr : rdRes1 s = (p, n, true)) (hn : tabNoP p = 0) : rdTxt s = (p, 0, 0) := by
  unfold rdTxt
  rw [if_neg (by omega)]
  unfold rdRes1 at hr
  simp only [hr]
  rw [if_neg (by simp), if_neg (by simp [hn])]
theorem gate_t {s : List UInt8} {n : Nat} (h : (decide (((n + 1 : Nat) : Int) = 1) || !decide (s = [])) = true) : ¬ (s = [] ∧ n ≠ 0) := by
  rintro ⟨rfl, hn⟩
  simp at h; omega
theorem gate_f {s : List UInt8} {n : Nat} (h : (decide (((n + 1 : Nat) : Int) = 1) || !decide (s = [])) = false) : s = [] ∧ n ≠ 0 := by
  simp at h
  exact ⟨h.2, fun e => h.1 (by omega)⟩
theorem OT.fit_small {o : OT} {n : Nat} (h : o.fit n) (hn : n ≤ 1000001) : o.small := by
  obtain ⟨f1, f2, f3, f4, f5⟩ := h
  exact ⟨f1, ⟨by omega, f2.2⟩, ⟨by omega, f3.2⟩, by omega, ⟨by omega, f5.2⟩⟩
theorem OT0.fit0 : OT0.fit 0 := ⟨by simp [OT0], ⟨by simp [OT0], by simp [OT0]⟩, ⟨by simp [OT0], by simp [OT0]⟩, by simp [OT0], ⟨by simp [OT0], by simp [OT0]⟩⟩
theorem ReadText_any {w0 : World} {K : HL} (hK : FromK K) (u : List UInt8) (w : World) (hM0 : Mem w0 ([] ++ K) w) :
    Calls Tryz.prog 30 #[str u] w fun e w' => ∃ o : OT, e = .returned (.tuple #[o.tab.val, .int .i64 (rdTxt u).2.1, .int .i64 (rdTxt u).2.2]) ∧ (o.tab.pl = (rdTxt u).1 ∧ o.small) ∧ Mem w0 ([(908, rF o.fA o.fc o.fl), (909, rU o.uA o.uc o.ul), (910, rR o.rA o.rc o.rl), (911, rC o.cA o.cc o.cl)] ++ K) w' := by
  refine enterM_args (args := [str u]) (F := _) hM0 Tryz.func30 rfl Tryz.ntmps30 rfl rfl ?_
  intro Rb hRb hRn
  refine T_seq ?_
  refine T_region ?_
  refine S_alloc 2 2 rfl rfl rfl rfl z62 ?_
  intro b2
  refine S_ 3 rfl rfl rfl _ (y_assign rfl rfl) ?_
  refine S_ 4 rfl rfl rfl _ (y_assign rfl rfl) ?_
  refine S_go (fun _ _ h => h) ?_
  refine T_seq ?_
  refine T_seq ?_
  refine T_region ?_
  refine S_ 16 rfl rfl rfl _ (y_move rfl rfl) ?_
  refine S_ 17 rfl rfl rfl _ (y_len_str rfl rfl Tryz.underlying9) ?_
  refine S_ 18 rfl rfl rfl _ (y_bin rfl rfl rfl (fun _ => b_gtr)) ?_
  refine S_go (fun _ _ h => h) ?_
  refine T_cond rfl (fun h18 => ?_) (fun h18 => ?_)
  · try simp only [decide_eq_true_eq, decide_eq_false_iff_not, Bool.or_eq_true, Bool.or_eq_false_iff, Bool.and_eq_true, Bool.and_eq_false_iff, Bool.not_eq_true', Bool.not_eq_false', Bool.not_eq_true, Bool.not_eq_false, Bool.not_true, Bool.not_false, Int.not_lt, Int.not_le, not_or, not_and, Classical.not_not] at h18
    refine T_seq ?_
    refine T_region ?_
    refine S_ 19 rfl rfl rfl _ (y_build (zv := .agg #[.string ⟨#[]⟩, .int .i64 0, .slice none 0 0, .slice none 0 0, .slice none 0 0, .slice none 0 0]) (pl := [(0, 1), (1, 1), (2, 1), (3, 1), (4, 1), (5, 1)]) (out := [.string ⟨#[]⟩, .int .i64 0, .slice none 0 0, .slice none 0 0, .slice none 0 0, .slice none 0 0]) rfl rfl Tryz.underlying62 z62 (by kernel_rfl) rfl) ?_
    refine S_store 2 rfl rfl rfl rfl rfl rfl sz62 rfl rfl ?_
    refine S_ 3 rfl rfl rfl _ (y_assign rfl rfl) ?_
    refine S_ 4 rfl rfl rfl _ (y_assign rfl rfl) ?_
    refine S_go (fun _ _ h => h) ?_
    refine T_ret (fun a w hF hM => hRb a w (post_cell2 2 rfl rfl rfl rfl rfl Tryz.underlying62 rfl (by exact sz62) (fun w hM => ?_) a w hF hM))
    rw [rdTxt_big (by omega)]
    exact ⟨OT0, rfl, ⟨rfl, OT0.sm⟩, Mem.nil4 (hM.keep (ks := [(0, 999)]) (by repeat (first | exact kl_rest (by assumption) rfl | (apply kl_in; focus rfl))) _ trivial : Mem w0 ([] ++ K) w)⟩
  · try simp only [decide_eq_true_eq, decide_eq_false_iff_not, Bool.or_eq_true, Bool.or_eq_false_iff, Bool.and_eq_true, Bool.and_eq_false_iff, Bool.not_eq_true', Bool.not_eq_false', Bool.not_eq_true, Bool.not_eq_false, Bool.not_true, Bool.not_false, Int.not_lt, Int.not_le, not_or, not_and, Classical.not_not] at h18
    have hu : u.length ≤ 1000000 := by omega
    refine T_skip_go (fun _ _ h => h) ?_
    refine T_seq ?_
    refine T_region ?_
    refine S_makeMap 20 20 (fun l : List UInt8 => str l) rfl rfl rfl rfl ?_
    intro b20
    refine S_insert 20 (enc := fun l : List UInt8 => str l) rfl rfl rfl rfl rfl rfl rfl Tryz.underlying204 Tryz.underlying9 rfl same_str fits_str (rfl) ?_
    refine S_insert 20 (enc := fun l : List UInt8 => str l) rfl rfl rfl rfl rfl rfl rfl Tryz.underlying204 Tryz.underlying9 rfl same_str fits_str (rfl) ?_
    refine S_insert 20 (enc := fun l : List UInt8 => str l) rfl rfl rfl rfl rfl rfl rfl Tryz.underlying204 Tryz.underlying9 rfl same_str fits_str (rfl) ?_
    refine S_insert 20 (enc := fun l : List UInt8 => str l) rfl rfl rfl rfl rfl rfl rfl Tryz.underlying204 Tryz.underlying9 rfl same_str fits_str (rfl) ?_
    refine S_insert 20 (enc := fun l : List UInt8 => str l) rfl rfl rfl rfl rfl rfl rfl Tryz.underlying204 Tryz.underlying9 rfl same_str fits_str (rfl) ?_
    refine S_ 21 rfl rfl rfl _ (y_move rfl rfl) ?_
    refine S_ 5 rfl rfl rfl _ (y_assign rfl rfl) ?_
    refine S_go (fun _ _ h => h) ?_
    refine T_seq ?_
    refine T_region ?_
    refine S_alloc 6 6 rfl rfl rfl rfl z62 ?_
    intro b6
    refine S_nilSlice 908 (e := 9) (size := 1) ?_
    refine S_nilSlice 909 (e := 196) (size := 3) ?_
    refine S_nilSlice 910 (e := 198) (size := 3) ?_
    refine S_nilSlice 911 (e := 200) (size := 5) ?_
    refine S_go (fun _ _ h => h) ?_
    refine T_seq ?_
    refine T_region ?_
    refine S_ 7 rfl rfl rfl _ (y_assign rfl rfl) ?_
    refine S_go (fun _ _ h => h) ?_
    refine T_seq ?_
    refine T_seq ?_
    refine T_region ?_
    refine S_ 8 rfl rfl rfl _ (y_assign rfl rfl) ?_
    refine S_go (fun _ _ h => h) ?_
    refine T_block ?_
    refine T_loopK5 (kf := [(0, 0), (3, 4), (7, 14), (22, 73)]) (kl := [(0, 0), (3, 4), (6, 14), (22, 73), (908, 911)]) (fun (s : List UInt8) (n : Nat) (last : Int) (o : OT) (k : Nat) => [(0, true, str s), (8, true, .int .i64 ((n + 1 : Nat) : Int)), (7, true, .int .i64 last)]) (fun (s : List UInt8) (n : Nat) (last : Int) (o : OT) (k : Nat) => [(6, tBox b6 o), (908, rF o.fA o.fc o.fl), (909, rU o.uA o.uc o.ul), (910, rR o.rA o.rc o.rl), (911, rC o.cA o.cc o.cl)]) (fun (s : List UInt8) (n : Nat) (last : Int) (o : OT) (k : Nat) => n + s.length ≤ u.length ∧ rdLines k s n last o.tab.pl = rdRes1 u ∧ o.fit n ∧ s.length + (if n = 0 then 1 else 0) < k ∧ 0 ≤ last) (fun (s : List UInt8) (n : Nat) (last : Int) (o : OT) (k : Nat) => s.length) u 0 0 OT0 (u.length + 2) (by repeat (first | exact kf_nil | (apply kf_in; focus rfl) | (apply kf_out; focus rfl))) (by repeat (first | exact kl_nil | exact kl_rest (by assumption) rfl | (apply kl_in; focus rfl) | (apply kl_out; focus rfl))) ?_ ?_ ?_ ?_
    · exact ⟨by omega, rfl, OT0.fit0, by simp, by omega⟩
    · exact ⟨rfl, rfl, rfl, trivial⟩
    · exact ⟨rfl, rfl, rfl, rfl, rfl, trivial⟩
    rintro s n last o k ⟨hp1, hp2, hp3, hp4, hp5⟩
    refine T_seq ?_
    refine T_seq ?_
    refine T_region ?_
    refine S_ 22 rfl rfl rfl _ (y_move rfl rfl) ?_
    refine S_ 23 rfl rfl rfl _ (y_bin rfl rfl rfl (fun _ => b_eql)) ?_
    refine S_ 24 rfl rfl rfl _ (y_move rfl rfl) ?_
    refine Sg_ 25 rfl rfl rfl rfl rfl rfl _ (y_move rfl rfl) ?_
    refine Sg_ 26 rfl rfl rfl rfl rfl rfl _ (y_bin rfl rfl rfl (fun _ => b_neqs)) ?_
    refine S_ 27 rfl rfl rfl _ (y_or rfl rfl rfl) ?_
    refine S_go (fun _ _ h => h) ?_
    refine T_cond rfl (fun h27 => ?_) (fun h27 => ?_)
    · skip
      have hgo : ¬ (s = [] ∧ n ≠ 0) := gate_t h27
      obtain ⟨a, r, hW, hkd⟩ := words_at0 s
      have hcle := cut_le 10 s
      obtain ⟨k, rfl⟩ : ∃ k1, k = k1 + 1 := ⟨k - 1, by omega⟩
      refine T_skip_go (fun _ _ h => h) ?_
      refine T_seq ?_
      refine T_block ?_
      refine T_seq ?_
      refine T_region ?_
      refine S_ 31 rfl rfl rfl _ (y_move rfl rfl) ?_
      refine S_ 32 rfl rfl rfl _ (y_call rfl rfl rfl cf127 (fun _ w _ => Cut1_any s 10 w (by omega))) ?_
      refine S_ 30 rfl rfl rfl _ (y_move rfl rfl) ?_
      refine S_ 33 rfl rfl rfl _ (y_extract rfl rfl rfl) ?_
      refine S_ 34 rfl rfl rfl _ (y_extract rfl rfl rfl) ?_
      refine S_ 35 rfl rfl rfl _ (y_extract rfl rfl rfl) ?_
      refine S_ 9 rfl rfl rfl _ (y_assign rfl rfl) ?_
      refine S_ 10 rfl rfl rfl _ (y_assign rfl rfl) ?_
      refine S_ 11 rfl rfl rfl _ (y_assign rfl rfl) ?_
      refine S_go (fun _ _ h => h) ?_
      refine T_seq ?_
      refine T_region ?_
      refine S_ 36 rfl rfl rfl _ (y_move rfl rfl) ?_
      refine S_callOwn 37 37 rfl rfl rfl rfl rfl rfl rfl cf128 (fun A c => .slice A ((wordsT s).length) c) 9 1 ((wordsT s).length) ((wordsT s).flatMap strEnc) (fun w hM => Split1_any (cutC 10 s).1 32 (by omega) w) ?_
      intro A37 c37
      refine S_ 12 rfl rfl rfl _ (y_assign rfl rfl) ?_
      refine S_go (fun _ _ h => h) ?_
      refine T_seq ?_
      refine T_region ?_
      refine S_ 39 rfl rfl rfl _ (y_move rfl rfl) ?_
      refine S_ 40 rfl rfl rfl _ (y_move rfl rfl) ?_
      refine S_ 41 rfl rfl rfl _ (y_indexOwnI (j := 0) 37 rfl rfl rfl (fun _ => rfl) rfl Tryz.underlying57 sz9 (fun _ => by rw [hW]; simp)) ?_
      refine S_ 42 rfl rfl rfl _ (y_loadO1 37 (val := (fun l : List UInt8 => str l)) rfl rfl rfl rfl (fun _ => by rw [hW]; rfl) Tryz.underlying9 rfl) ?_
      refine S_ 43 rfl rfl rfl _ (y_as (v' := .tuple #[.int .i64 (kV a), .bool (!decide (kindOf a < 0))]) (by rw [← (kin_get a).1, ← (kin_get a).2]; rfl) (y_lookup2 20 (enc := fun l : List UInt8 => str l) rfl rfl rfl rfl Tryz.underlying204 Tryz.underlying9 rfl same_str z3)) ?_
      refine S_ 38 rfl rfl rfl _ (y_move rfl rfl) ?_
      refine S_ 44 rfl rfl rfl _ (y_extract rfl rfl rfl) ?_
      refine S_ 45 rfl rfl rfl _ (y_extract rfl rfl rfl) ?_
      refine S_ 13 rfl rfl rfl _ (y_assign rfl rfl) ?_
      refine S_ 14 rfl rfl rfl _ (y_assign rfl rfl) ?_
      refine S_go (fun _ _ h => h) ?_
      refine T_seq ?_
      refine T_seq ?_
      refine T_region ?_
      refine S_ 46 rfl rfl rfl _ (y_move rfl rfl) ?_
      refine S_ 47 rfl rfl rfl _ (y_not rfl rfl) ?_
      refine S_ 48 rfl rfl rfl _ (y_move rfl rfl) ?_
      refine Sg_ 49 rfl rfl rfl rfl rfl rfl _ (y_move rfl rfl) ?_
      refine Sg_ 50 rfl rfl rfl rfl rfl rfl _ (y_not rfl rfl) ?_
      refine S_ 51 rfl rfl rfl _ (y_or rfl rfl rfl) ?_
      refine S_ 52 rfl rfl rfl _ (y_move rfl rfl) ?_
      refine Sg_ 53 rfl rfl rfl rfl rfl rfl _ (y_move rfl rfl) ?_
      refine Sg_ 54 rfl rfl rfl rfl rfl rfl _ (y_bin rfl rfl rfl (fun _ => b_eql)) ?_
      refine Sg_ 55 rfl rfl rfl rfl rfl rfl _ (y_move rfl rfl) ?_
      refine Sg_ 56 rfl rfl rfl rfl rfl rfl _ (y_bin rfl rfl rfl (fun _ => b_eql)) ?_
      refine Sg_ 57 rfl rfl rfl rfl rfl rfl _ (y_bin rfl rfl rfl (fun _ => b_neqb Tryz.underlying4)) ?_
      refine S_ 58 rfl rfl rfl _ (y_or rfl rfl rfl) ?_
      refine S_ 59 rfl rfl rfl _ (y_move rfl rfl) ?_
      refine Sg_ 60 rfl rfl rfl rfl rfl rfl _ (y_move rfl rfl) ?_
      refine Sg_ 61 rfl rfl rfl rfl rfl rfl _ (y_move rfl rfl) ?_
      refine Sg_ 62 rfl rfl rfl rfl rfl rfl _ (y_bin rfl rfl rfl (fun _ => b_lss)) ?_
      refine S_ 63 rfl rfl rfl _ (y_or rfl rfl rfl) ?_
      rcases Bool.eq_false_or_eq_true (badT s (decide (n = 0)) last) with hb | hb
      · skip
        refine S_ 64 rfl rfl rfl _ (y_as (v' := .bool true) (by exact congrArg Value.bool ((bad_eq s a n last hkd hp5).trans hb)) (y_move rfl rfl)) ?_
        refine S_skip 65 rfl rfl rfl rfl rfl rfl rfl ?_
        refine S_skip 66 rfl rfl rfl rfl rfl rfl rfl ?_
        refine S_skip 67 rfl rfl rfl rfl rfl rfl rfl ?_
        refine S_skip 68 rfl rfl rfl rfl rfl rfl rfl ?_
        refine S_ 69 rfl rfl rfl _ (y_pickT rfl rfl rfl) ?_
        refine S_go (fun _ _ h => h) ?_
        refine T_cond rfl (fun h69 => ?_) (fun h69 => ?_)
        · skip
          rw [rdL_bad hgo hb] at hp2
          refine T_seq ?_
          refine T_region ?_
          refine S_ 70 rfl rfl rfl _ (y_build (zv := .agg #[.string ⟨#[]⟩, .int .i64 0, .slice none 0 0, .slice none 0 0, .slice none 0 0, .slice none 0 0]) (pl := [(0, 1), (1, 1), (2, 1), (3, 1), (4, 1), (5, 1)]) (out := [.string ⟨#[]⟩, .int .i64 0, .slice none 0 0, .slice none 0 0, .slice none 0 0, .slice none 0 0]) rfl rfl Tryz.underlying62 z62 (by kernel_rfl) rfl) ?_
          refine S_ 71 rfl rfl rfl _ (y_move rfl rfl) ?_
          refine S_store 2 rfl rfl rfl rfl rfl rfl sz62 rfl rfl ?_
          refine S_ 3 rfl rfl rfl _ (y_assign rfl rfl) ?_
          refine S_ 4 rfl rfl rfl _ (y_assign rfl rfl) ?_
          refine S_go (fun _ _ h => h) ?_
          refine T_ret (fun a w hF hM => hRb a w (post_cell2 2 rfl rfl rfl rfl rfl Tryz.underlying62 rfl (by exact sz62) (fun w hM => ?_) a w hF hM))
          rw [rdTxt_bad (by omega) hp2.symm]
          exact ⟨OT0, rfl, ⟨rfl, OT0.sm⟩, Mem.nil4 (hM.keep (ks := [(0, 999)]) (by repeat (first | exact kl_rest (by assumption) rfl | (apply kl_in; focus rfl))) _ trivial : Mem w0 ([] ++ K) w)⟩
        · skip
          cases h69
      · skip
        have hk0 : ¬ kindOf a < 0 := by rw [← hkd]; simp only [badT, Bool.or_eq_false_iff, decide_eq_false_iff_not] at hb; exact hb.1.1.2
        have hce : (cutC 10 s).2.2 = true := by simp only [badT, Bool.or_eq_false_iff, Bool.not_eq_false'] at hb; exact hb.1.1.1
        have hcl := cut_less hce
        have hkv : kV a = kindOf a := if_neg hk0
        have hka : 0 ≤ kV a ∧ kV a ≤ 4 := by have := kindOf_le a; omega
        have hws : ∀ x ∈ wordsT s, x.length ≤ 1000000 := fun x hx => by have := words_le hx; omega
        refine S_ 64 rfl rfl rfl _ (y_as (v' := .bool false) (by exact congrArg Value.bool ((bad_eq s a n last hkd hp5).trans hb)) (y_move rfl rfl)) ?_
        refine Sg_ 65 rfl rfl rfl rfl rfl rfl _ (y_move rfl rfl) ?_
        refine Sg_ 66 rfl rfl rfl rfl rfl rfl _ (y_move rfl rfl) ?_
        refine S_unguard rfl rfl rfl rfl rfl ?_
        refine S_callM 67 [(901, 6), (902, 37), (908, 908), (909, 909), (910, 910), (911, 911)] (X := OT) rfl rfl rfl rfl rfl rfl rfl cf129 rfl (fun _ => .bool (lineT (kV a) (wordsT s) o.tab.pl).isSome) (fun z => (∀ p, lineT (kV a) (wordsT s) o.tab.pl = some p → z.tab.pl = p) ∧ z.fit (n + 1)) (fun z => [(901, tBox b6 z), (902, rF A37 c37 (wordsT s)), (908, rF z.fA z.fc z.fl), (909, rU z.uA z.uc z.ul), (910, rR z.rA z.rc z.rl), (911, rC z.cA z.cc z.cl)]) (fun _ => rfl) (fun _ => rfl) (fun K1 hK1 w hM => takeLine_any hK1 b6 o n (by omega) hp3 (kV a) hka A37 c37 (wordsT s) hws w hM) ?_
        intro z hz
        refine Sg_ 68 rfl rfl rfl rfl rfl rfl _ (y_not rfl rfl) ?_
        refine S_ 69 rfl rfl rfl _ (y_or rfl rfl rfl) ?_
        refine S_go (fun _ _ h => h) ?_
        refine T_cond rfl (fun h69 => ?_) (fun h69 => ?_)
        · skip
          have hln : lineT (kindT s) (wordsT s) o.tab.pl = none := by rw [hkd, ← hkv]; simpa using h69
          rw [rdL_none hgo hb hln] at hp2
          refine T_seq ?_
          refine T_region ?_
          refine S_ 70 rfl rfl rfl _ (y_build (zv := .agg #[.string ⟨#[]⟩, .int .i64 0, .slice none 0 0, .slice none 0 0, .slice none 0 0, .slice none 0 0]) (pl := [(0, 1), (1, 1), (2, 1), (3, 1), (4, 1), (5, 1)]) (out := [.string ⟨#[]⟩, .int .i64 0, .slice none 0 0, .slice none 0 0, .slice none 0 0, .slice none 0 0]) rfl rfl Tryz.underlying62 z62 (by kernel_rfl) rfl) ?_
          refine S_ 71 rfl rfl rfl _ (y_move rfl rfl) ?_
          refine S_store 2 rfl rfl rfl rfl rfl rfl sz62 rfl rfl ?_
          refine S_ 3 rfl rfl rfl _ (y_assign rfl rfl) ?_
          refine S_ 4 rfl rfl rfl _ (y_assign rfl rfl) ?_
          refine S_go (fun _ _ h => h) ?_
          refine T_ret (fun a w hF hM => hRb a w (post_cell2 2 rfl rfl rfl rfl rfl Tryz.underlying62 rfl (by exact sz62) (fun w hM => ?_) a w hF hM))
          rw [rdTxt_bad (by omega) hp2.symm]
          exact ⟨OT0, rfl, ⟨rfl, OT0.sm⟩, Mem.nil4 (hM.keep (ks := [(0, 999)]) (by repeat (first | exact kl_rest (by assumption) rfl | (apply kl_in; focus rfl))) _ trivial : Mem w0 ([] ++ K) w)⟩
        · skip
          obtain ⟨p1, hp1'⟩ : ∃ p, lineT (kV a) (wordsT s) o.tab.pl = some p := Option.isSome_iff_exists.1 (by simpa using h69)
          have hzp := hz.1 p1 hp1'
          rw [rdL_some hgo hb (show lineT (kindT s) (wordsT s) o.tab.pl = some p1 by rw [hkd, ← hkv]; exact hp1'), ← hzp, hkd, ← hkv] at hp2
          refine T_skip_go (fun _ _ h => h) ?_
          refine T_region ?_
          refine S_ 72 rfl rfl rfl _ (y_move rfl rfl) ?_
          refine S_ 73 rfl rfl rfl _ (y_move rfl rfl) ?_
          refine S_ 7 rfl rfl rfl _ (y_assign rfl rfl) ?_
          refine S_ 0 rfl rfl rfl _ (y_assign rfl rfl) ?_
          refine S_go (fun _ _ h => h) ?_
          refine T_region ?_
          refine S_ 28 rfl rfl rfl _ (y_move rfl rfl) ?_
          refine S_ 29 rfl rfl rfl _ (y_bin rfl rfl rfl (fun hg => b_add (by omega))) ?_
          refine S_ 8 rfl rfl rfl _ (y_assign rfl rfl) ?_
          refine S_nil (nextK5 (kf := [(0, 0), (3, 4), (7, 14), (22, 73)]) (kl := [(0, 0), (3, 4), (6, 14), (22, 73), (908, 911)]) (cutC 10 s).2.1 (n + 1) (kV a) z k (by repeat (first | exact kf_nil | (apply kf_in; focus rfl) | (apply kf_out; focus rfl))) (by repeat (first | exact kl_nil | exact kl_rest (by assumption) rfl | (apply kl_in; focus rfl) | (apply kl_out; focus rfl))) ?_ ?_ ?_ ?_)
          · omega
          · exact ⟨by omega, hp2, hz.2, by rw [if_neg (by omega)]; omega, hka.1⟩
          · exact ⟨rfl, rfl, rfl, trivial⟩
          · exact ⟨rfl, rfl, rfl, rfl, rfl, trivial⟩
    · skip
      obtain ⟨hs0, hn0⟩ := gate_f h27
      subst hs0
      obtain ⟨k, rfl⟩ : ∃ k1, k = k1 + 1 := ⟨k - 1, by omega⟩
      rw [rdL_end hn0] at hp2
      have hsm : o.small := OT.fit_small hp3 (by omega)
      refine T_exit_go (fun _ _ h => h) ?_
      refine T_seq ?_
      refine T_seq ?_
      refine T_region ?_
      refine S_ 74 rfl rfl rfl _ (y_loadA 6 rfl rfl rfl Tryz.underlying62 rfl sz62) ?_
      refine S_ 75 rfl rfl rfl _ (y_call rfl rfl rfl cf123 (fun _ w hM => CheckTable_any o.tab w (OT.ok hM hsm rfl rfl rfl rfl))) ?_
      refine S_ 15 rfl rfl rfl _ (y_assign rfl rfl) ?_
      refine S_go (fun _ _ h => h) ?_
      refine T_seq ?_
      refine T_region ?_
      refine S_ 76 rfl rfl rfl _ (y_move rfl rfl) ?_
      refine S_ 77 rfl rfl rfl _ (y_bin rfl rfl rfl (fun _ => b_neq)) ?_
      refine S_go (fun _ _ h => h) ?_
      refine T_cond rfl (fun h77 => ?_) (fun h77 => ?_)
      · try simp only [decide_eq_true_eq, decide_eq_false_iff_not, Bool.or_eq_true, Bool.or_eq_false_iff, Bool.and_eq_true, Bool.and_eq_false_iff, Bool.not_eq_true', Bool.not_eq_false', Bool.not_eq_true, Bool.not_eq_false, Bool.not_true, Bool.not_false, Int.not_lt, Int.not_le, not_or, not_and, Classical.not_not] at h77
        refine T_seq ?_
        refine T_region ?_
        refine S_ 78 rfl rfl rfl _ (y_build (zv := .agg #[.string ⟨#[]⟩, .int .i64 0, .slice none 0 0, .slice none 0 0, .slice none 0 0, .slice none 0 0]) (pl := [(0, 1), (1, 1), (2, 1), (3, 1), (4, 1), (5, 1)]) (out := [.string ⟨#[]⟩, .int .i64 0, .slice none 0 0, .slice none 0 0, .slice none 0 0, .slice none 0 0]) rfl rfl Tryz.underlying62 z62 (by kernel_rfl) rfl) ?_
        refine S_ 79 rfl rfl rfl _ (y_move rfl rfl) ?_
        refine S_store 2 rfl rfl rfl rfl rfl rfl sz62 rfl rfl ?_
        refine S_ 3 rfl rfl rfl _ (y_assign rfl rfl) ?_
        refine S_ 4 rfl rfl rfl _ (y_assign rfl rfl) ?_
        refine S_go (fun _ _ h => h) ?_
        refine T_ret (fun a w hF hM => hRb a w (post_cell2 2 rfl rfl rfl rfl rfl Tryz.underlying62 rfl (by exact sz62) (fun w hM => ?_) a w hF hM))
        have hk := OT.ok hM hsm rfl rfl rfl rfl
        rw [rdTxt_fault (by omega) hp2.symm (by rw [← tabNo_pl hk]; exact h77)]
        exact ⟨OT0, by rw [← tabNo_pl hk]; rfl, ⟨rfl, OT0.sm⟩, Mem.nil4 (hM.keep (ks := [(0, 999)]) (by repeat (first | exact kl_rest (by assumption) rfl | (apply kl_in; focus rfl))) _ trivial : Mem w0 ([] ++ K) w)⟩
      · try simp only [decide_eq_true_eq, decide_eq_false_iff_not, Bool.or_eq_true, Bool.or_eq_false_iff, Bool.and_eq_true, Bool.and_eq_false_iff, Bool.not_eq_true', Bool.not_eq_false', Bool.not_eq_true, Bool.not_eq_false, Bool.not_true, Bool.not_false, Int.not_lt, Int.not_le, not_or, not_and, Classical.not_not] at h77
        refine T_skip_go (fun _ _ h => h) ?_
        refine T_seq ?_
        refine T_region ?_
        refine S_ 80 rfl rfl rfl _ (y_loadA 6 rfl rfl rfl Tryz.underlying62 rfl sz62) ?_
        refine S_store 2 rfl rfl rfl rfl rfl rfl sz62 rfl rfl ?_
        refine S_ 3 rfl rfl rfl _ (y_assign rfl rfl) ?_
        refine S_ 4 rfl rfl rfl _ (y_assign rfl rfl) ?_
        refine S_go (fun _ _ h => h) ?_
        refine T_ret (fun a w hF hM => hRb a w (post_cell2 2 rfl rfl rfl rfl rfl Tryz.underlying62 rfl (by exact sz62) (fun w hM => ?_) a w hF hM))
        have hk := OT.ok hM hsm rfl rfl rfl rfl
        rw [rdTxt_ok (by omega) hp2.symm (by rw [← tabNo_pl hk]; exact h77)]
        exact ⟨o, rfl, ⟨rfl, hsm⟩, hM.keep (ks := [(0, 999)]) (by repeat (first | exact kl_rest (by assumption) rfl | (apply kl_in; focus rfl))) _ ⟨rfl, rfl, rfl, rfl, trivial⟩⟩
end Go.Proofs.YtkkngcdikbhkjaaGreatDoor
end
