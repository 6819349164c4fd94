/- Part 7, merged by a program. The reference's TableTextRead. Conditions: those of each theorem. The law on texts of tables, walked. Condition: the tables and the powers of ten lie in memory. Tables and modules opened: from the form's reading to 'Tab.Ok'. No condition. -/
import Derived.Test.YtkkngcdikbhkjaaGreatDoorOpen
import Derived.Test.YtkkngcdikbhkjaaGreatDoorPk6
section
namespace Go.Proofs.YtkkngcdikbhkjaaGreatDoor
set_option linter.unusedSimpArgs false
set_option linter.unusedVariables false
set_option maxRecDepth 20000
open Go.RowKit Go.Eng
def idxF (s : List UInt8) : List (List UInt8) → Int → Int
  | [], _ => -1
  | x :: r, i => if s = x then i else idxF s r (i + 1)
theorem idx_mem (s : List UInt8) : ∀ (l : List (List UInt8)) (i : Int), 0 ≤ i → decide (0 ≤ idxF s l i) = decide (s ∈ l)
  | [], i, h => by simp [idxF]
  | x :: r, i, h => by
    unfold idxF
    by_cases e : s = x
    · subst e; rw [if_pos rfl, decide_eq_true h, decide_eq_true List.mem_cons_self]
    · rw [if_neg e, idx_mem s r (i + 1) (by omega)]
      exact decide_eq_decide.2 ⟨fun h => List.mem_cons_of_mem _ h, fun h => (List.mem_cons.1 h).resolve_left e⟩
theorem Index5_any (A : Option Addr) (q c : Nat) (l : List (List UInt8)) (s : List UInt8) (w : World) (hl : SlT strEnc 1 w A q l) (hq : q ≤ 4611686018427387904) :
    Calls Tryz.prog 130 #[.slice A q c, str s] w fun e w' => e = .returned (.int .i64 (idxF s l 0)) ∧ Below w.heap.size w w' := by
  have hlen := hl.len
  refine enter_args (args := [.slice A q c, str s]) (F := _) Tryz.func130 rfl Tryz.ntmps130 rfl rfl ?_
  intro Rb hRb hRn
  refine T_seq ?_
  refine T_region ?_
  refine S_ 4 rfl rfl rfl _ (y_assign rfl rfl) ?_
  refine S_go (fun _ _ h => h) ?_
  refine T_seq ?_
  refine T_seq ?_
  refine T_region ?_
  refine S_ 6 rfl rfl rfl _ (y_move rfl rfl) ?_
  refine S_ 7 rfl rfl rfl _ (y_len_slice rfl rfl Tryz.underlying57) ?_
  refine S_ 8 rfl rfl rfl _ (y_move rfl rfl) ?_
  refine S_go (fun _ _ h => h) ?_
  refine T_block ?_
  refine T_loopK1 (kf := [(4, 5), (8, 18)]) (kl := [(4, 5), (8, 18)]) (fun (i : Nat) => [(8, true, .int .i64 (i : Int))]) (fun (i : Nat) => []) (fun (i : Nat) => i ≤ q ∧ idxF s (l.drop i) (i : Int) = idxF s l 0) (fun (i : Nat) => q - i) 0 (by repeat (first | exact kf_nil | (apply kf_in; focus rfl) | (apply kf_out; focus rfl))) (by repeat (first | exact kl_nil | exact kl_rest (by assumption) rfl | (apply kl_in; focus rfl) | (apply kl_out; focus rfl))) ?_ ?_ ?_ ?_
  · exact ⟨by omega, rfl⟩
  · exact ⟨rfl, trivial⟩
  · exact trivial
  rintro i ⟨hp1, hp2⟩
  refine T_seq ?_
  refine T_region ?_
  refine S_ 9 rfl rfl rfl _ (y_bin rfl rfl rfl (fun _ => b_lss)) ?_
  refine S_go (fun _ _ h => h) ?_
  refine T_seq ?_
  refine T_cond rfl (fun h9 => ?_) (fun h9 => ?_)
  · try simp only [decide_eq_true_eq, decide_eq_false_iff_not, Bool.or_eq_true, Bool.or_eq_false_iff, Bool.and_eq_true, Bool.and_eq_false_iff, Bool.not_eq_true', Bool.not_eq_false', Bool.not_eq_true, Bool.not_eq_false, Bool.not_true, Bool.not_false, Int.not_lt, Int.not_le, not_or, not_and, Classical.not_not] at h9
    obtain ⟨x, hx1, hx2⟩ := hl.at (i := i) (by omega)
    rw [hx2, idxF] at hp2
    refine T_skip_go (fun _ _ h => h) ?_
    refine T_seq ?_
    refine T_block ?_
    refine T_seq ?_
    refine T_region ?_
    refine S_ 10 rfl rfl rfl _ (y_move rfl rfl) ?_
    refine S_ 5 rfl rfl rfl _ (y_assign rfl rfl) ?_
    refine S_go (fun _ _ h => h) ?_
    refine T_seq ?_
    refine T_region ?_
    refine S_ 11 rfl rfl rfl _ (y_move rfl rfl) ?_
    refine S_ 12 rfl rfl rfl _ (y_move rfl rfl) ?_
    refine S_ 13 rfl rfl rfl _ (y_move rfl rfl) ?_
    refine S_ 14 rfl rfl rfl _ (y_indexAddr rfl rfl rfl Tryz.underlying57 sz9 (fun hg => hl.isSome (by omega)) (fun _ => by omega)) ?_
    refine S_ 15 rfl rfl rfl _ (y_loadT1 (val := (fun l : List UInt8 => str l)) rfl rfl hl (fun _ => hx1) Tryz.underlying9 rfl) ?_
    refine S_ 16 rfl rfl rfl _ (y_bin rfl rfl rfl (fun _ => b_eqls)) ?_
    refine S_go (fun _ _ h => h) ?_
    refine T_cond rfl (fun h16 => ?_) (fun h16 => ?_)
    · skip
      have h16e : s = x := by simpa using h16
      rw [if_pos h16e] at hp2
      refine T_seq ?_
      refine T_region ?_
      refine S_ 17 rfl rfl rfl _ (y_move rfl rfl) ?_
      refine S_ 4 rfl rfl rfl _ (y_assign rfl rfl) ?_
      refine S_go (fun _ _ h => h) ?_
      refine T_ret (fun a w hF hM => hRb a w (post1 rfl rfl (fun w hM => ?_) a w hF hM))
      exact ⟨by rw [← hp2], hM.below⟩
    · skip
      have h16e : ¬ s = x := by simpa using h16
      rw [if_neg h16e] at hp2
      refine T_skip_go (fun _ _ h => h) ?_
      refine T_region ?_
      refine S_ 18 rfl rfl rfl _ (y_bin rfl rfl rfl (fun hg => b_add (by omega))) ?_
      refine S_ 8 rfl rfl rfl _ (y_move rfl rfl) ?_
      refine S_nil (nextK1 (kf := [(4, 5), (8, 18)]) (kl := [(4, 5), (8, 18)]) (i + 1) (by repeat (first | exact kf_nil | (apply kf_in; focus rfl) | (apply kf_out; focus rfl))) (by repeat (first | exact kl_nil | exact kl_rest (by assumption) rfl | (apply kl_in; focus rfl) | (apply kl_out; focus rfl))) ?_ ?_ ?_ ?_)
      · omega
      · exact ⟨by omega, hp2⟩
      · exact ⟨rfl, trivial⟩
      · exact trivial
  · try simp only [decide_eq_true_eq, decide_eq_false_iff_not, Bool.or_eq_true, Bool.or_eq_false_iff, Bool.and_eq_true, Bool.and_eq_false_iff, Bool.not_eq_true', Bool.not_eq_false', Bool.not_eq_true, Bool.not_eq_false, Bool.not_true, Bool.not_false, Int.not_lt, Int.not_le, not_or, not_and, Classical.not_not] at h9
    refine T_exit_go (fun _ _ h => h) ?_
    refine T_seq ?_
    refine T_region ?_
    refine S_ 4 rfl rfl rfl _ (y_assign rfl rfl) ?_
    refine S_go (fun _ _ h => h) ?_
    refine T_ret (fun a w hF hM => hRb a w (post1 rfl rfl (fun w hM => ?_) a w hF hM))
    exact ⟨by rw [← hp2, hl.end (by omega)]; rfl, hM.below⟩
theorem Contains5_any (A : Option Addr) (q c : Nat) (l : List (List UInt8)) (s : List UInt8) (w : World) (hl : SlT strEnc 1 w A q l) (hq : q ≤ 4611686018427387904) :
    Calls Tryz.prog 116 #[.slice A q c, str s] w fun e w' => e = .returned (.bool (decide (s ∈ l))) ∧ Below w.heap.size w w' := by
  refine enter_args (args := [.slice A q c, str s]) (F := _) Tryz.func116 rfl Tryz.ntmps116 rfl rfl ?_
  intro Rb hRb hRn
  refine T_seq ?_
  refine T_region ?_
  refine S_ 4 rfl rfl rfl _ (y_assign rfl rfl) ?_
  refine S_go (fun _ _ h => h) ?_
  refine T_seq ?_
  refine T_region ?_
  refine S_ 5 rfl rfl rfl _ (y_move rfl rfl) ?_
  refine S_ 6 rfl rfl rfl _ (y_move rfl rfl) ?_
  refine S_ 7 rfl rfl rfl _ (y_call rfl rfl rfl cf130 (fun _ w hM => Index5_any A q c l s w (hl.below hM.below) hq)) ?_
  refine S_ 8 rfl rfl rfl _ (y_bin rfl rfl rfl (fun _ => b_geq)) ?_
  refine S_ 4 rfl rfl rfl _ (y_assign rfl rfl) ?_
  refine S_go (fun _ _ h => h) ?_
  refine T_ret (fun a w hF hM => hRb a w (post1 rfl rfl (fun w hM => ?_) a w hF hM))
  exact ⟨by rw [← idx_mem s l 0 (by omega)], hM.below⟩
def manL : List (Int × Value) := [(0, .int .i64 3), (1, .int .i64 2), (2, .int .i64 4), (3, .int .i64 4), (4, .int .i64 6)]
def manyR (k : Int) : Int := if k = 0 then 3 else if k = 1 then 2 else if k = 2 then 4 else if k = 3 then 4 else if k = 4 then 6 else 0
theorem man_get (k : Int) : (mget manL k).getD (.int .i64 0) = .int .i64 (manyR k) := by
  simp only [manL, mget, manyR]
  by_cases h0 : k = 0
  · simp [h0]
  by_cases h1 : k = 1
  · simp [h1]
  by_cases h2 : k = 2
  · simp [h2]
  by_cases h3 : k = 3
  · simp [h3]
  by_cases h4 : k = 4
  · simp [h4]
  simp [h0, h1, h2, h3, h4]
theorem many_same {k : Int} (h : 0 ≤ k ∧ k ≤ 4) : manyR k = manyK k := by
  have : k = 0 ∨ k = 1 ∨ k = 2 ∨ k = 3 ∨ k = 4 := by omega
  rcases this with rfl | rfl | rfl | rfl | rfl <;> rfl
theorem plain_nil : plainOk [] 10 = false := rfl
theorem line_empty {k : Int} (h : 0 ≤ k ∧ k ≤ 4) {a : List UInt8} {r : List (List UInt8)} {p : PT} (hl : (((a :: r).length : Nat) : Int) = manyK k) (ha : a ≠ []) (he : [] ∈ a :: r) : lineT k (a :: r) p = none := by
  have he : ([] : List UInt8) ∈ r := (List.mem_cons.1 he).resolve_left (fun e => ha e.symm)
  have : k = 0 ∨ k = 1 ∨ k = 2 ∨ k = 3 ∨ k = 4 := by omega
  rcases this with rfl | rfl | rfl | rfl | rfl
  · obtain ⟨x0, b, c, e⟩ := len_3 hl
    cases e
    rw [line0]
    simp only [List.mem_cons, List.not_mem_nil, or_false] at he
    rcases he with e | e <;> subst e <;> simp [plain_nil]
  · obtain ⟨x0, b, e⟩ := len_2 hl
    cases e
    rw [line1]
    simp only [List.mem_cons, List.not_mem_nil, or_false] at he
    subst he; simp
  · obtain ⟨x0, b, c, d, e⟩ := len_4 hl
    cases e
    rw [line2]
    simp only [List.mem_cons, List.not_mem_nil, or_false] at he
    rcases he with e | e | e <;> subst e <;> simp [plain_nil, numsOk]
  · obtain ⟨x0, b, c, d, e⟩ := len_4 hl
    cases e
    rw [line3]
    simp only [List.mem_cons, List.not_mem_nil, or_false] at he
    rcases he with e | e | e <;> subst e <;> simp [plain_nil, rfOk]
  · obtain ⟨x0, b, c, d, e, f, e'⟩ := len_6 hl
    cases e'
    rw [line4]
    simp only [List.mem_cons, List.not_mem_nil, or_false] at he
    rcases he with e | e | e | e | e <;> subst e <;> simp [plain_nil, numsOk]
/-- the reference's first check of a line -/
def badR (s a : List UInt8) (st : Int) : Bool := !(cutC 10 s).2.2 || decide (kindOf a < st) || (decide (kindOf a = 0) != decide (st < 0)) || !decide (((wordsT s).length : Int) = manyR (kindOf a)) || decide (([] : List UInt8) ∈ wordsT s)
theorem kind_ne {a : List UInt8} (h : 0 ≤ kindOf a) : a ≠ [] := fun e => by subst e; exact absurd h (by decide)
theorem badR_parts {s a : List UInt8} {r : List (List UInt8)} {n : Nat} {st last : Int} (hW : wordsT s = a :: r) (hk : kindT s = kindOf a) (hs : (n = 0 ∧ st = -1 ∧ last = 0) ∨ (n ≠ 0 ∧ st = last ∧ 0 ≤ last)) :
    (badR s a st = false → badT s (decide (n = 0)) last = false ∧ (0 ≤ kindOf a ∧ kindOf a ≤ 4) ∧ (((a :: r).length : Nat) : Int) = manyK (kindOf a) ∧ [] ∉ a :: r ∧ (cutC 10 s).2.2 = true) ∧
    (badR s a st = true → badT s (decide (n = 0)) last = true ∨ ∀ p, lineT (kindT s) (wordsT s) p = none) := by
  have hle := kindOf_le a
  constructor
  · intro h
    simp only [badR, Bool.or_eq_false_iff, decide_eq_false_iff_not, Bool.not_eq_false', decide_eq_true_eq] at h
    obtain ⟨⟨⟨⟨h1, h2⟩, h3⟩, h4⟩, h5⟩ := h
    have hk0 : 0 ≤ kindOf a := by
      by_cases hn : kindOf a = -1
      · rw [hn, hW] at h4; simp only [manyR, List.length_cons] at h4; exfalso; simp at h4; omega
      · omega
    have hr : 0 ≤ kindOf a ∧ kindOf a ≤ 4 := ⟨hk0, hle.2⟩
    rw [hW, many_same hr] at h4
    rw [hW] at h5
    refine ⟨?_, hr, h4, h5, h1⟩
    have e3 : decide (kindOf a = 0) = decide (st < 0) := by
      revert h3
      cases decide (kindOf a = 0) <;> cases decide (st < 0) <;> simp
    have e4 : decide (kindOf a = 0) = decide (n = 0) := by rw [e3]; exact decide_eq_decide.2 (by omega)
    have e5 : decide (kindOf a < last) = false := decide_eq_false (by omega)
    have e6 : decide (kindOf a < 0) = false := decide_eq_false (by omega)
    rw [badT, hk, h1, e4, e5, e6]
    cases decide (n = 0) <;> rfl
  · intro h
    cases hb : badT s (decide (n = 0)) last with
    | true => exact .inl rfl
    | false =>
      right
      intro p
      simp only [badT, hk, Bool.or_eq_false_iff, decide_eq_false_iff_not, Bool.not_eq_false'] at hb
      obtain ⟨⟨⟨h1, h2⟩, h3⟩, h4⟩ := hb
      have hr : 0 ≤ kindOf a ∧ kindOf a ≤ 4 := ⟨by omega, hle.2⟩
      have e3 : decide (kindOf a = 0) = decide (n = 0) := by
        revert h3
        cases decide (kindOf a = 0) <;> cases decide (n = 0) <;> simp
      have e4 : decide (st < 0) = decide (n = 0) := decide_eq_decide.2 (by omega)
      have e5 : decide (kindOf a < st) = false := decide_eq_false (by omega)
      rw [badR, h1, e3, e4, e5, many_same hr] at h
      rw [hk, hW]
      by_cases hl : (((a :: r).length : Nat) : Int) = manyK (kindOf a)
      · refine line_empty hr hl (kind_ne hr.1) ?_
        rw [hW, decide_eq_true hl] at h
        have : decide ([] ∈ a :: r) = true := by
          revert h
          cases decide (n = 0) <;> simp
        exact of_decide_eq_true this
      · exact line_many hr hl
theorem rd_badR {s a : List UInt8} {r : List (List UInt8)} {n k : Nat} {st last : Int} {p : PT} (hgo : ¬ (s = [] ∧ n ≠ 0)) (hW : wordsT s = a :: r) (hk : kindT s = kindOf a) (hs : (n = 0 ∧ st = -1 ∧ last = 0) ∨ (n ≠ 0 ∧ st = last ∧ 0 ≤ last)) (h : badR s a st = true) :
    rdLines (k + 1) s n last p = (p, n + 1, false) := by
  cases hb : badT s (decide (n = 0)) last with
  | true => exact rdL_bad hgo hb
  | false =>
    rcases (badR_parts hW hk hs).2 h with h1 | h1
    · rw [hb] at h1; cases h1
    · exact rdL_none hgo hb (h1 p)
theorem tail_len {a : List UInt8} {r : List (List UInt8)} {m : Int} (h : (((a :: r).length : Nat) : Int) = m) : ((r.length : Nat) : Int) = m - 1 := by rw [List.length_cons] at h; omega
theorem len_1 {ws : List (List UInt8)} (h : ((ws.length : Nat) : Int) = 1) : ∃ a, ws = [a] := by
  match ws, h with
  | [a], _ => exact ⟨a, rfl⟩
  | [], h => simp at h
  | _ :: _ :: _, h => simp at h; omega
theorem len_5 {ws : List (List UInt8)} (h : ((ws.length : Nat) : Int) = 5) : ∃ a b c d e, ws = [a, b, c, d, e] := by
  match ws, h with
  | a :: r, h =>
    obtain ⟨b, c, d, e, e'⟩ := len_4 (ws := r) (by simp at h; omega)
    exact ⟨a, b, c, d, e, by rw [e']⟩
theorem num_1 {c : List UInt8} : numsOk [c] = true ↔ plainOk c 10 = true := by simp [numsOk]
theorem num_1f {c : List UInt8} (h : numsOk [c] = false) : plainOk c 10 = false := by simpa [numsOk] using h
theorem num_9 {b d : List UInt8} (h : numsOk [b, [48], d] = true) : (plainOk b 10 && rfOk [45, 49] && plainOk d 10) = true := by
  have h1 : (plainOk b 10 && (plainOk [48] 10 && (plainOk d 10 && true))) = true := h
  simp only [Bool.and_eq_true] at h1
  rw [h1.1, h1.2.2.1]; rfl
theorem num_9f {b d : List UInt8} (h : numsOk [b, [48], d] = false) : ¬ (plainOk b 10 && rfOk [45, 49] && plainOk d 10) = true := by
  have h0 : plainOk [48] 10 = true := by decide
  have h1 : (plainOk b 10 && (plainOk [48] 10 && (plainOk d 10 && true))) = false := h
  rw [h0] at h1
  intro h2
  simp only [Bool.and_eq_true] at h2
  rw [h2.1.1, h2.2] at h1; cases h1
theorem num_8 {b c d : List UInt8} (hc : ¬ c = [45, 49]) (h : numsOk [b, c, d] = true) : (plainOk b 10 && rfOk c && plainOk d 10) = true := by
  have h1 : (plainOk b 10 && (plainOk c 10 && (plainOk d 10 && true))) = true := h
  simp only [Bool.and_eq_true] at h1
  rw [rfOk, h1.1, h1.2.1, h1.2.2.1, Bool.or_true]; rfl
theorem num_8f {b c d : List UInt8} (hc : ¬ c = [45, 49]) (h : numsOk [b, c, d] = false) : ¬ (plainOk b 10 && rfOk c && plainOk d 10) = true := by
  have h1 : (plainOk b 10 && (plainOk c 10 && (plainOk d 10 && true))) = false := h
  intro h2
  simp only [rfOk, decide_eq_false hc, Bool.false_or, Bool.and_eq_true] at h2
  rw [h2.1.1, h2.1.2, h2.2] at h1; cases h1
set_option maxHeartbeats 1600000 in
theorem TableTextRead_any {w0 : World} {K : HL} (hK : FromK K) (u : List UInt8) (w : World) (hM0 : Mem w0 ([] ++ K) w) :
    Calls Tryz.prog 31 #[str u] w fun e w' => ∃ o : OT, e = .returned (.tuple #[o.tab.val, .int .i64 (rdTxt u).2.1, .int .i64 (rdTxt u).2.2]) ∧ (o.tab.pl = (rdTxt u).1 ∧ o.small) ∧ Mem w0 ([(908, rF o.fA o.fc o.fl), (909, rU o.uA o.uc o.ul), (910, rR o.rA o.rc o.rl), (911, rC o.cA o.cc o.cl)] ++ K) w' := by
  refine enterM_args (args := [str u]) (F := _) hM0 Tryz.func31 rfl Tryz.ntmps31 rfl rfl ?_
  intro Rb hRb hRn
  refine T_seq ?_
  refine T_region ?_
  refine S_alloc 2 2 rfl rfl rfl rfl z62 ?_
  intro b2
  refine S_nilSlice 908 (e := 9) (size := 1) ?_
  refine S_nilSlice 909 (e := 196) (size := 3) ?_
  refine S_nilSlice 910 (e := 198) (size := 3) ?_
  refine S_nilSlice 911 (e := 200) (size := 5) ?_
  refine S_ 3 rfl rfl rfl _ (y_assign rfl rfl) ?_
  refine S_ 4 rfl rfl rfl _ (y_assign rfl rfl) ?_
  refine S_go (fun _ _ h => h) ?_
  refine T_seq ?_
  refine T_seq ?_
  refine T_region ?_
  refine S_ 17 rfl rfl rfl _ (y_move rfl rfl) ?_
  refine S_ 18 rfl rfl rfl _ (y_len_str rfl rfl Tryz.underlying9) ?_
  refine S_ 19 rfl rfl rfl _ (y_bin rfl rfl rfl (fun _ => b_gtr)) ?_
  refine S_go (fun _ _ h => h) ?_
  refine T_cond rfl (fun h19 => ?_) (fun h19 => ?_)
  · try simp only [decide_eq_true_eq, decide_eq_false_iff_not, Bool.or_eq_true, Bool.or_eq_false_iff, Bool.and_eq_true, Bool.and_eq_false_iff, Bool.not_eq_true', Bool.not_eq_false', Bool.not_eq_true, Bool.not_eq_false, Bool.not_true, Bool.not_false, Int.not_lt, Int.not_le, not_or, not_and, Classical.not_not] at h19
    refine T_seq ?_
    refine T_region ?_
    refine S_ 20 rfl rfl rfl _ (y_loadA 2 rfl rfl rfl Tryz.underlying62 rfl sz62) ?_
    refine S_store 2 rfl rfl rfl rfl rfl rfl sz62 rfl rfl ?_
    refine S_ 3 rfl rfl rfl _ (y_assign rfl rfl) ?_
    refine S_ 4 rfl rfl rfl _ (y_assign rfl rfl) ?_
    refine S_go (fun _ _ h => h) ?_
    refine T_ret (fun a w hF hM => hRb a w (post_cell2 2 rfl rfl rfl rfl rfl Tryz.underlying62 rfl (by exact sz62) (fun w hM => ?_) a w hF hM))
    rw [rdTxt_big (by omega)]
    exact ⟨OT0, rfl, ⟨rfl, OT0.sm⟩, Mem.nil4 (hM.keep (ks := [(0, 999)]) (by repeat (first | exact kl_rest (by assumption) rfl | (apply kl_in; focus rfl))) _ trivial : Mem w0 ([] ++ K) w)⟩
  · try simp only [decide_eq_true_eq, decide_eq_false_iff_not, Bool.or_eq_true, Bool.or_eq_false_iff, Bool.and_eq_true, Bool.and_eq_false_iff, Bool.not_eq_true', Bool.not_eq_false', Bool.not_eq_true, Bool.not_eq_false, Bool.not_true, Bool.not_false, Int.not_lt, Int.not_le, not_or, not_and, Classical.not_not] at h19
    have hu : u.length ≤ 1000000 := by omega
    refine T_skip_go (fun _ _ h => h) ?_
    refine T_seq ?_
    refine T_seq ?_
    refine T_region ?_
    refine S_ 21 rfl rfl rfl _ (y_move rfl rfl) ?_
    refine S_ 22 rfl rfl rfl _ (y_bin rfl rfl rfl (fun _ => b_eqls)) ?_
    refine S_go (fun _ _ h => h) ?_
    refine T_cond rfl (fun h22 => ?_) (fun h22 => ?_)
    · try simp only [decide_eq_true_eq, decide_eq_false_iff_not, Bool.or_eq_true, Bool.or_eq_false_iff, Bool.and_eq_true, Bool.and_eq_false_iff, Bool.not_eq_true', Bool.not_eq_false', Bool.not_eq_true, Bool.not_eq_false, Bool.not_true, Bool.not_false, Int.not_lt, Int.not_le, not_or, not_and, Classical.not_not] at h22
      have hu0 : u = [] := h22
      subst hu0
      refine T_seq ?_
      refine T_region ?_
      refine S_ 23 rfl rfl rfl _ (y_loadA 2 rfl rfl rfl Tryz.underlying62 rfl sz62) ?_
      refine S_store 2 rfl rfl rfl rfl rfl rfl sz62 rfl rfl ?_
      refine S_ 3 rfl rfl rfl _ (y_assign rfl rfl) ?_
      refine S_ 4 rfl rfl rfl _ (y_assign rfl rfl) ?_
      refine S_go (fun _ _ h => h) ?_
      refine T_ret (fun a w hF hM => hRb a w (post_cell2 2 rfl rfl rfl rfl rfl Tryz.underlying62 rfl (by exact sz62) (fun w hM => ?_) a w hF hM))
      rw [rdTxt_bad (p := PT0) (n := 1) (by simp) rfl]
      exact ⟨OT0, rfl, ⟨rfl, OT0.sm⟩, Mem.nil4 (hM.keep (ks := [(0, 999)]) (by repeat (first | exact kl_rest (by assumption) rfl | (apply kl_in; focus rfl))) _ trivial : Mem w0 ([] ++ K) w)⟩
    · try simp only [decide_eq_true_eq, decide_eq_false_iff_not, Bool.or_eq_true, Bool.or_eq_false_iff, Bool.and_eq_true, Bool.and_eq_false_iff, Bool.not_eq_true', Bool.not_eq_false', Bool.not_eq_true, Bool.not_eq_false, Bool.not_true, Bool.not_false, Int.not_lt, Int.not_le, not_or, not_and, Classical.not_not] at h22
      have hu0 : u ≠ [] := h22
      refine T_skip_go (fun _ _ h => h) ?_
      refine T_seq ?_
      refine T_region ?_
      refine S_ 5 rfl rfl rfl _ (y_assign rfl rfl) ?_
      refine S_go (fun _ _ h => h) ?_
      refine T_seq ?_
      refine T_seq ?_
      refine T_region ?_
      refine S_ 3 rfl rfl rfl _ (y_assign rfl rfl) ?_
      refine S_go (fun _ _ h => h) ?_
      refine T_block ?_
      refine T_loopK6 (kf := [(0, 0), (3, 15), (24, 191)]) (kl := [(0, 0), (2, 15), (24, 191), (908, 911)]) (fun (s : List UInt8) (n : Nat) (last : Int) (st : Int) (o : OT) (k : Nat) => [(0, true, str s), (3, true, .int .i64 ((n + 1 : Nat) : Int)), (5, true, .int .i64 st)]) (fun (s : List UInt8) (n : Nat) (last : Int) (st : Int) (o : OT) (k : Nat) => [(2, tBox b2 o), (908, rF o.fA o.fc o.fl), (909, rU o.uA o.uc o.ul), (910, rR o.rA o.rc o.rl), (911, rC o.cA o.cc o.cl)]) (fun (s : List UInt8) (n : Nat) (last : Int) (st : Int) (o : OT) (k : Nat) => n + s.length ≤ u.length ∧ rdLines k s n last o.tab.pl = rdRes1 u ∧ o.fit n ∧ s.length + (if n = 0 then 1 else 0) < k ∧ (s = [] → n ≠ 0) ∧ ((n = 0 ∧ st = -1 ∧ last = 0) ∨ (n ≠ 0 ∧ st = last ∧ 0 ≤ last))) (fun (s : List UInt8) (n : Nat) (last : Int) (st : Int) (o : OT) (k : Nat) => s.length) u 0 0 (-1) OT0 (u.length + 2) (by repeat (first | exact kf_nil | (apply kf_in; focus rfl) | (apply kf_out; focus rfl))) (by repeat (first | exact kl_nil | exact kl_rest (by assumption) rfl | (apply kl_in; focus rfl) | (apply kl_out; focus rfl))) ?_ ?_ ?_ ?_
      · exact ⟨by omega, rfl, OT0.fit0, by simp, fun e => absurd e hu0, .inl ⟨rfl, rfl, rfl⟩⟩
      · exact ⟨rfl, rfl, rfl, trivial⟩
      · exact ⟨rfl, rfl, rfl, rfl, rfl, trivial⟩
      rintro s n last st o k ⟨hp1, hp2, hp3, hp4, hp5, hp6⟩
      refine T_seq ?_
      refine T_seq ?_
      refine T_region ?_
      refine S_ 24 rfl rfl rfl _ (y_move rfl rfl) ?_
      refine S_ 25 rfl rfl rfl _ (y_bin rfl rfl rfl (fun _ => b_neqs)) ?_
      refine S_go (fun _ _ h => h) ?_
      refine T_cond rfl (fun h25 => ?_) (fun h25 => ?_)
      · try simp only [decide_eq_true_eq, decide_eq_false_iff_not, Bool.or_eq_true, Bool.or_eq_false_iff, Bool.and_eq_true, Bool.and_eq_false_iff, Bool.not_eq_true', Bool.not_eq_false', Bool.not_eq_true, Bool.not_eq_false, Bool.not_true, Bool.not_false, Int.not_lt, Int.not_le, not_or, not_and, Classical.not_not] at h25
        have hs0 : s ≠ [] := h25
        have hgo : ¬ (s = [] ∧ n ≠ 0) := fun e => hs0 e.1
        obtain ⟨a, r, hW, hkd⟩ := words_at0 s
        have hcle := cut_le 10 s
        obtain ⟨k, rfl⟩ : ∃ k1, k = k1 + 1 := ⟨k - 1, by omega⟩
        have hqw : (a :: r).length ≤ 1000001 := by have h1 := splitC_len 32 (cutC 10 s).1; have h2 : (cutC 10 s).1.count 32 ≤ (cutC 10 s).1.length := List.count_le_length; have h3 : (wordsT s).length = (cutC 10 s).1.count 32 + 1 := h1; rw [hW] at h3; omega
        refine T_skip_go (fun _ _ h => h) ?_
        refine T_seq ?_
        refine T_block ?_
        refine T_seq ?_
        refine T_region ?_
        refine S_ 29 rfl rfl rfl _ (y_move rfl rfl) ?_
        refine S_ 30 rfl rfl rfl _ (y_call rfl rfl rfl cf127 (fun _ w _ => Cut1_any s 10 w (by omega))) ?_
        refine S_ 28 rfl rfl rfl _ (y_move rfl rfl) ?_
        refine S_ 31 rfl rfl rfl _ (y_extract rfl rfl rfl) ?_
        refine S_ 32 rfl rfl rfl _ (y_extract rfl rfl rfl) ?_
        refine S_ 33 rfl rfl rfl _ (y_extract rfl rfl rfl) ?_
        refine S_ 6 rfl rfl rfl _ (y_assign rfl rfl) ?_
        refine S_ 7 rfl rfl rfl _ (y_assign rfl rfl) ?_
        refine S_ 8 rfl rfl rfl _ (y_assign rfl rfl) ?_
        refine S_go (fun _ _ h => h) ?_
        refine T_seq ?_
        refine T_region ?_
        refine S_ 34 rfl rfl rfl _ (y_move rfl rfl) ?_
        refine S_ 0 rfl rfl rfl _ (y_assign rfl rfl) ?_
        refine S_go (fun _ _ h => h) ?_
        refine T_seq ?_
        refine T_region ?_
        refine S_ 35 rfl rfl rfl _ (y_move rfl rfl) ?_
        refine S_callOwn 36 36 rfl rfl rfl rfl rfl rfl rfl cf128 (fun A c => .slice A ((a :: r).length) c) 9 1 ((a :: r).length) ((a :: r).flatMap strEnc) (fun w hM => by have h := Split1_any (cutC 10 s).1 32 (by omega) w; rw [show splitC 32 (cutC 10 s).1 = a :: r from hW] at h; exact h) ?_
        intro A36 c36
        refine S_ 9 rfl rfl rfl _ (y_assign rfl rfl) ?_
        refine S_go (fun _ _ h => h) ?_
        refine T_seq ?_
        refine T_region ?_
        refine S_buildSlice 37 37 rfl rfl rfl rfl rfl Tryz.underlying57 inf9 rfl (by decide) (by decide) rfl rfl (by decide) rfl (_) rfl ?_
        intro b37
        refine S_ 38 rfl rfl rfl _ (y_move rfl rfl) ?_
        refine S_ 39 rfl rfl rfl _ (y_indexOwnI (j := 0) 36 rfl rfl rfl (fun _ => rfl) rfl Tryz.underlying57 sz9 (fun _ => by simp)) ?_
        refine S_ 40 rfl rfl rfl _ (y_loadO1 36 (val := (fun l : List UInt8 => str l)) rfl rfl rfl rfl (fun _ => rfl) Tryz.underlying9 rfl) ?_
        refine S_ 41 rfl rfl rfl _ (y_as (v' := .int .i64 (kindOf a)) (by exact rfl) (y_call rfl rfl rfl cf130 (fun _ w hM => Index5_any _ _ _ [kTab, kFil, kFun, kRow, kCal] a w (owned_T (enc := strEnc) (l := [kTab, kFil, kFun, kRow, kCal]) hM rfl (i := 37) rfl) (by decide)))) ?_
        refine S_ 10 rfl rfl rfl _ (y_assign rfl rfl) ?_
        refine S_go (fun _ _ h => h) ?_
        refine T_seq ?_
        refine T_region ?_
        refine S_makeMap 42 42 (fun n : Int => Value.int .i64 n) rfl rfl rfl rfl ?_
        intro b42
        refine S_insert 42 (enc := fun n : Int => Value.int .i64 n) rfl rfl rfl rfl rfl rfl rfl Tryz.underlying211 Tryz.underlying3 rfl (same_int _) (fits_int _) (rfl) ?_
        refine S_insert 42 (enc := fun n : Int => Value.int .i64 n) rfl rfl rfl rfl rfl rfl rfl Tryz.underlying211 Tryz.underlying3 rfl (same_int _) (fits_int _) (rfl) ?_
        refine S_insert 42 (enc := fun n : Int => Value.int .i64 n) rfl rfl rfl rfl rfl rfl rfl Tryz.underlying211 Tryz.underlying3 rfl (same_int _) (fits_int _) (rfl) ?_
        refine S_insert 42 (enc := fun n : Int => Value.int .i64 n) rfl rfl rfl rfl rfl rfl rfl Tryz.underlying211 Tryz.underlying3 rfl (same_int _) (fits_int _) (rfl) ?_
        refine S_insert 42 (enc := fun n : Int => Value.int .i64 n) rfl rfl rfl rfl rfl rfl rfl Tryz.underlying211 Tryz.underlying3 rfl (same_int _) (fits_int _) (rfl) ?_
        refine S_ 43 rfl rfl rfl _ (y_move rfl rfl) ?_
        refine S_ 44 rfl rfl rfl _ (y_move rfl rfl) ?_
        refine S_ 45 rfl rfl rfl _ (y_as (v' := .int .i64 (manyR (kindOf a))) (by rw [← man_get (kindOf a)]; rfl) (y_lookup 42 (enc := fun n : Int => Value.int .i64 n) rfl rfl rfl rfl Tryz.underlying211 Tryz.underlying3 rfl (same_int _) z3)) ?_
        refine S_ 11 rfl rfl rfl _ (y_assign rfl rfl) ?_
        refine S_go (fun _ _ h => h) ?_
        refine T_seq ?_
        refine T_seq ?_
        refine T_region ?_
        refine S_ 46 rfl rfl rfl _ (y_move rfl rfl) ?_
        refine S_ 47 rfl rfl rfl _ (y_not rfl rfl) ?_
        refine S_ 48 rfl rfl rfl _ (y_move rfl rfl) ?_
        refine Sg_ 49 rfl rfl rfl rfl rfl rfl _ (y_move rfl rfl) ?_
        refine Sg_ 50 rfl rfl rfl rfl rfl rfl _ (y_move rfl rfl) ?_
        refine Sg_ 51 rfl rfl rfl rfl rfl rfl _ (y_bin rfl rfl rfl (fun _ => b_lss)) ?_
        refine S_ 52 rfl rfl rfl _ (y_or rfl rfl rfl) ?_
        refine S_ 53 rfl rfl rfl _ (y_move rfl rfl) ?_
        refine Sg_ 54 rfl rfl rfl rfl rfl rfl _ (y_move rfl rfl) ?_
        refine Sg_ 55 rfl rfl rfl rfl rfl rfl _ (y_bin rfl rfl rfl (fun _ => b_eql)) ?_
        refine Sg_ 56 rfl rfl rfl rfl rfl rfl _ (y_move rfl rfl) ?_
        refine Sg_ 57 rfl rfl rfl rfl rfl rfl _ (y_bin rfl rfl rfl (fun _ => b_lss)) ?_
        refine Sg_ 58 rfl rfl rfl rfl rfl rfl _ (y_bin rfl rfl rfl (fun _ => b_neqb Tryz.underlying4)) ?_
        refine S_ 59 rfl rfl rfl _ (y_or rfl rfl rfl) ?_
        refine S_ 60 rfl rfl rfl _ (y_move rfl rfl) ?_
        refine Sg_ 61 rfl rfl rfl rfl rfl rfl _ (y_move rfl rfl) ?_
        refine Sg_ 62 rfl rfl rfl rfl rfl rfl _ (y_len_slice rfl rfl Tryz.underlying57) ?_
        refine Sg_ 63 rfl rfl rfl rfl rfl rfl _ (y_move rfl rfl) ?_
        refine Sg_ 64 rfl rfl rfl rfl rfl rfl _ (y_bin rfl rfl rfl (fun _ => b_neq)) ?_
        refine S_ 65 rfl rfl rfl _ (y_or rfl rfl rfl) ?_
        refine S_ 66 rfl rfl rfl _ (y_move rfl rfl) ?_
        refine Sg_ 67 rfl rfl rfl rfl rfl rfl _ (y_move rfl rfl) ?_
        refine Sg_ 68 rfl rfl rfl rfl rfl rfl _ (y_call rfl rfl rfl cf116 (fun _ w hM => Contains5_any _ _ _ (a :: r) [] w (owned_T (enc := strEnc) hM rfl (i := 36) rfl) (by omega))) ?_
        refine S_ 69 rfl rfl rfl _ (y_as (v' := .bool (badR s a st)) (by rw [badR, hW]) (y_or rfl rfl rfl)) ?_
        refine S_go (fun _ _ h => h) ?_
        refine T_cond rfl (fun h69 => ?_) (fun h69 => ?_)
        · skip
          rw [rd_badR hgo hW hkd hp6 h69] at hp2
          refine T_seq ?_
          refine T_region ?_
          refine S_ 70 rfl rfl rfl _ (y_build (zv := .agg #[.string ⟨#[]⟩, .int .i64 0, .slice none 0 0, .slice none 0 0, .slice none 0 0, .slice none 0 0]) (pl := [(0, 1), (1, 1), (2, 1), (3, 1), (4, 1), (5, 1)]) (out := [.string ⟨#[]⟩, .int .i64 0, .slice none 0 0, .slice none 0 0, .slice none 0 0, .slice none 0 0]) rfl rfl Tryz.underlying62 z62 (by kernel_rfl) rfl) ?_
          refine S_ 71 rfl rfl rfl _ (y_move rfl rfl) ?_
          refine S_store 2 rfl rfl rfl rfl rfl rfl sz62 rfl rfl ?_
          refine S_ 3 rfl rfl rfl _ (y_assign rfl rfl) ?_
          refine S_ 4 rfl rfl rfl _ (y_assign rfl rfl) ?_
          refine S_go (fun _ _ h => h) ?_
          refine T_ret (fun a w hF hM => hRb a w (post_cell2 2 rfl rfl rfl rfl rfl Tryz.underlying62 rfl (by exact sz62) (fun w hM => ?_) a w hF hM))
          rw [rdTxt_bad (by omega) hp2.symm]
          exact ⟨OT0, rfl, ⟨rfl, OT0.sm⟩, Mem.nil4 (hM.keep (ks := [(0, 999)]) (by repeat (first | exact kl_rest (by assumption) rfl | (apply kl_in; focus rfl))) _ trivial : Mem w0 ([] ++ K) w)⟩
        · skip
          obtain ⟨hbt, hr, hlk, hnm, hce⟩ := (badR_parts hW hkd hp6).1 h69
          have hcl := cut_less hce
          have hws : ∀ x ∈ a :: r, x.length ≤ 1000000 := fun x hx => by have := words_le (s := s) (by rw [hW]; exact hx); omega
          obtain ⟨f1, f2, f3, f4, f5⟩ := hp3
          refine T_skip_go (fun _ _ h => h) ?_
          refine T_seq ?_
          refine T_region ?_
          refine S_ 72 rfl rfl rfl _ (y_move rfl rfl) ?_
          refine S_ 5 rfl rfl rfl _ (y_assign rfl rfl) ?_
          refine S_go (fun _ _ h => h) ?_
          refine T_seq ?_
          refine T_region ?_
          refine S_nilSlice 12 (e := 3) (size := 1) ?_
          refine S_ 12 rfl rfl rfl _ (y_assign rfl rfl) ?_
          refine S_go (fun _ _ h => h) ?_
          refine T_seq ?_
          refine T_region ?_
          refine S_ 13 rfl rfl rfl _ (y_assign rfl rfl) ?_
          refine S_go (fun _ _ h => h) ?_
          refine T_seq ?_
          refine T_seq ?_
          refine T_region ?_
          refine S_ 73 rfl rfl rfl _ (y_move rfl rfl) ?_
          refine S_go (fun _ _ h => h) ?_
          refine T_block ?_
          refine T_seq ?_
          refine T_region ?_
          refine S_ 103 rfl rfl rfl _ (y_bin rfl rfl rfl (fun _ => b_eql)) ?_
          refine S_ 102 rfl rfl rfl _ (y_assign rfl rfl) ?_
          refine S_go (fun _ _ h => h) ?_
          refine T_cond rfl (fun h102 => ?_) (fun h102 => ?_)
          · skip
            have hka : kindOf a = 0 := by simpa using h102
            obtain ⟨b, c, rfl⟩ := len_2 (ws := r) ((tail_len hlk).trans (by rw [hka]; rfl))
            have hb := hws b (by simp)
            have hb0 : b ≠ [] := fun e => hnm (by simp [e])
            have hc := hws c (by simp)
            have hc0 : c ≠ [] := fun e => hnm (by simp [e])
            refine T_cap 36 rfl fun hcap => ?_
            refine T_seq ?_
            refine T_region ?_
            refine S_ 105 rfl rfl rfl _ (y_move rfl rfl) ?_
            refine S_ 106 rfl rfl rfl _ (y_slice (lo := 2) (hi := 3) rfl rfl Tryz.underlying57 sz9 (.inr ⟨_, _, rfl, rfl⟩) (.inl ⟨rfl, rfl⟩) (by omega) (by simp) hcap) ?_
            refine S_callOwn 107 107 rfl rfl rfl rfl rfl rfl rfl cf131 (fun A0 c0 => .tuple #[.slice A0 (numsP [c]).length c0, .bool (numsOk [c])]) 3 1 ((numsP [c]).length) ((numsP [c]).flatMap intE9) (fun w hM => wholes_any _ _ _ [c] w ((owned_T (enc := strEnc) (l := [a, b, c]) hM rfl (i := 36) rfl).cut (lo := 2) (hi := 3) (fun _ => rfl) (by omega) (by simp) hcap) (by omega) (fun x hx => by have := hws x (List.mem_of_mem_drop (i := 2) (List.mem_of_mem_take (i := 1) (l := ([a, b, c]).drop 2) hx)); omega)) ?_
            intro A107 c107
            refine S_ 104 rfl rfl rfl _ (y_move rfl rfl) ?_
            refine S_ 108 rfl rfl rfl _ (y_extract rfl rfl rfl) ?_
            refine S_ 109 rfl rfl rfl _ (y_extract rfl rfl rfl) ?_
            refine S_ 12 rfl rfl rfl _ (y_assign rfl rfl) ?_
            refine S_ 13 rfl rfl rfl _ (y_assign rfl rfl) ?_
            refine S_go (fun _ _ h => h) ?_
            refine T_seq ?_
            refine T_region ?_
            refine S_ 110 rfl rfl rfl _ (y_move rfl rfl) ?_
            refine S_ 111 rfl rfl rfl _ (y_indexOwnI (j := 1) 36 rfl rfl rfl (fun _ => rfl) rfl Tryz.underlying57 sz9 (fun _ => by simp)) ?_
            refine S_ 112 rfl rfl rfl _ (y_loadO1 36 (val := (fun l : List UInt8 => str l)) rfl rfl rfl rfl (fun _ => rfl) Tryz.underlying9 rfl) ?_
            refine S_ 113 rfl rfl rfl _ (y_fieldAddr rfl rfl fa62_0) ?_
            refine S_store 2 rfl rfl rfl rfl rfl rfl sz9 rfl rfl ?_
            refine S_go (fun _ _ h => h) ?_
            refine T_seq ?_
            refine T_region ?_
            refine S_ 114 rfl rfl rfl _ (y_move rfl rfl) ?_
            refine S_go (fun _ _ h => h) ?_
            refine T_cond rfl (fun h114 => ?_) (fun h114 => ?_)
            · skip
              have e1 : numsOk [c] = true := h114
              have e2 : numsP [c] = [nJ c] := if_pos e1
              have hln : lineT (kindT s) (wordsT s) o.tab.pl = some { o.tab.pl with id := b, size := nJ c } := by rw [hkd, hka, hW, line0]; exact if_pos (by rw [num_1.1 e1, decide_eq_false hb0]; rfl)
              rw [rdL_some hgo hbt hln, hkd] at hp2
              refine T_region ?_
              refine S_ 115 rfl rfl rfl _ (y_move rfl rfl) ?_
              refine S_ 116 rfl rfl rfl _ (y_indexOwnI (j := 0) 107 rfl rfl rfl (fun _ => rfl) rfl Tryz.underlying212 sz3 (fun _ => by rw [e2]; simp)) ?_
              refine S_ 117 rfl rfl rfl _ (y_loadO1 107 (val := (fun n : Int => Value.int .i64 n)) rfl rfl rfl rfl (fun _ => by rw [e2]; rfl) Tryz.underlying3 rfl) ?_
              refine S_ 118 rfl rfl rfl _ (y_fieldAddr rfl rfl fa62_1) ?_
              refine S_store 2 rfl rfl rfl rfl rfl rfl sz3 rfl rfl ?_
              refine S_go (fun _ _ h => h) ?_
              refine T_seq ?_
              refine T_region ?_
              refine S_ 188 rfl rfl rfl _ (y_move rfl rfl) ?_
              refine S_ 189 rfl rfl rfl _ (y_not rfl rfl) ?_
              refine S_go (fun _ _ h => h) ?_
              refine T_cond rfl (fun h189 => ?_) (fun h189 => ?_)
              · skip
                rw [e1] at h189; cases h189
              · skip
                refine T_skip_go (fun _ _ h => h) ?_
                refine T_region ?_
                refine S_ 26 rfl rfl rfl _ (y_move rfl rfl) ?_
                refine S_ 27 rfl rfl rfl _ (y_bin rfl rfl rfl (fun hg => b_add (by omega))) ?_
                refine S_ 3 rfl rfl rfl _ (y_assign rfl rfl) ?_
                refine S_nil (nextK6 (kf := [(0, 0), (3, 15), (24, 191)]) (kl := [(0, 0), (2, 15), (24, 191), (908, 911)]) (cutC 10 s).2.1 (n + 1) (kindOf a) (kindOf a) ({ o with id := b, size := nJ c }) k (by repeat (first | exact kf_nil | (apply kf_in; focus rfl) | (apply kf_out; focus rfl))) (by repeat (first | exact kl_nil | exact kl_rest (by assumption) rfl | (apply kl_in; focus rfl) | (apply kl_out; focus rfl))) ?_ ?_ ?_ ?_)
                · omega
                · exact ⟨by omega, hp2, ⟨hb, ⟨by show o.fl.length ≤ _; omega, f2.2⟩, ⟨by show o.ul.length ≤ _; omega, f3.2⟩, by show o.rl.length ≤ _; omega, ⟨by show o.cl.length ≤ _; omega, f5.2⟩⟩, by rw [if_neg (by omega)]; omega, fun _ => by omega, .inr ⟨by omega, rfl, by omega⟩⟩
                · exact ⟨rfl, rfl, rfl, trivial⟩
                · exact ⟨rfl, rfl, rfl, rfl, rfl, trivial⟩
            · skip
              have e1 : numsOk [c] = false := h114
              have hln : lineT (kindT s) (wordsT s) o.tab.pl = none := by rw [hkd, hka, hW, line0]; exact if_neg (by rw [num_1f e1]; simp)
              rw [rdL_none hgo hbt hln] at hp2
              refine T_skip_go (fun _ _ h => h) ?_
              refine T_seq ?_
              refine T_region ?_
              refine S_ 188 rfl rfl rfl _ (y_move rfl rfl) ?_
              refine S_ 189 rfl rfl rfl _ (y_not rfl rfl) ?_
              refine S_go (fun _ _ h => h) ?_
              refine T_cond rfl (fun h189 => ?_) (fun h189 => ?_)
              · skip
                refine T_seq ?_
                refine T_region ?_
                refine S_ 190 rfl rfl rfl _ (y_build (zv := .agg #[.string ⟨#[]⟩, .int .i64 0, .slice none 0 0, .slice none 0 0, .slice none 0 0, .slice none 0 0]) (pl := [(0, 1), (1, 1), (2, 1), (3, 1), (4, 1), (5, 1)]) (out := [.string ⟨#[]⟩, .int .i64 0, .slice none 0 0, .slice none 0 0, .slice none 0 0, .slice none 0 0]) rfl rfl Tryz.underlying62 z62 (by kernel_rfl) rfl) ?_
                refine S_ 191 rfl rfl rfl _ (y_move rfl rfl) ?_
                refine S_store 2 rfl rfl rfl rfl rfl rfl sz62 rfl rfl ?_
                refine S_ 3 rfl rfl rfl _ (y_assign rfl rfl) ?_
                refine S_ 4 rfl rfl rfl _ (y_assign rfl rfl) ?_
                refine S_go (fun _ _ h => h) ?_
                refine T_ret (fun a w hF hM => hRb a w (post_cell2 2 rfl rfl rfl rfl rfl Tryz.underlying62 rfl (by exact sz62) (fun w hM => ?_) a w hF hM))
                rw [rdTxt_bad (by omega) hp2.symm]
                exact ⟨OT0, rfl, ⟨rfl, OT0.sm⟩, Mem.nil4 (hM.keep (ks := [(0, 999)]) (by repeat (first | exact kl_rest (by assumption) rfl | (apply kl_in; focus rfl))) _ trivial : Mem w0 ([] ++ K) w)⟩
              · skip
                rw [e1] at h189; cases h189
          · skip
            have hk0 : ¬ kindOf a = 0 := by simpa using h102
            refine T_seq ?_
            refine T_region ?_
            refine S_ 120 rfl rfl rfl _ (y_bin rfl rfl rfl (fun _ => b_eql)) ?_
            refine S_ 119 rfl rfl rfl _ (y_assign rfl rfl) ?_
            refine S_go (fun _ _ h => h) ?_
            refine T_cond rfl (fun h119 => ?_) (fun h119 => ?_)
            · skip
              have hka : kindOf a = 1 := by simpa using h119
              obtain ⟨b, rfl⟩ := len_1 (ws := r) ((tail_len hlk).trans (by rw [hka]; rfl))
              have hb := hws b (by simp)
              have hb0 : b ≠ [] := fun e => hnm (by simp [e])
              have hln : lineT (kindT s) (wordsT s) o.tab.pl = some { o.tab.pl with fi := o.fl ++ [b] } := by rw [hkd, hka, hW, line1]; exact if_pos (by rw [decide_eq_false hb0]; rfl)
              rw [rdL_some hgo hbt hln, hkd] at hp2
              refine T_perm [0, 1, 2, 3, 4, 5, 6, 7, 8] [true, true, true, true, true, false, false, true, false] [0, 1, 0, 4, 12, 28, 63, 127, 255] [(1, [2]), (3, [36]), (4, [36])] (by kernel_rfl) (by kernel_rfl) (by kernel_rfl) rfl (by kernel_rfl) ?_
              refine Rf_ 0 121 rfl rfl rfl rfl rfl _ trivial (Y.z (y_fieldAddr rfl rfl fa62_2) rfl) ?_
              refine Rf_ 1 122 rfl rfl rfl rfl rfl _ ⟨rfl, trivial⟩ (Y.z (y_load 2 rfl rfl rfl rfl Tryz.underlying57 rfl) rfl) ?_
              refine Rf_ 2 123 rfl rfl rfl rfl rfl _ trivial (Y.z (y_move rfl rfl) rfl) ?_
              refine Rf_ 3 124 rfl rfl rfl rfl rfl _ ⟨rfl, trivial⟩ (Y.z (y_indexOwnI (j := 1) 36 rfl rfl rfl (fun _ => rfl) rfl Tryz.underlying57 sz9 (fun _ => by simp)) rfl) ?_
              refine Rf_ 4 125 rfl rfl rfl rfl rfl _ ⟨rfl, trivial⟩ (Y.z (y_loadO1 36 (val := (fun l : List UInt8 => str l)) rfl rfl rfl rfl (fun _ => rfl) Tryz.underlying9 rfl) rfl) ?_
              refine R_chain 5 rfl rfl ?_
              refine S_buildSlice 126 126 rfl rfl rfl rfl rfl Tryz.underlying57 inf9 rfl (by decide) (by decide) rfl rfl (by decide) rfl (_) rfl ?_
              intro b126
              refine R_next ⟨.inr ⟨rfl, trivial⟩, .inl rfl, .inl rfl, trivial⟩ ?_
              refine R_chain 6 rfl rfl ?_
              obtain ⟨i127, hi127, hz127, hs127, hy127⟩ := info_parts inf9
              refine S_append 127 908 126 rfl rfl rfl rfl rfl rfl rfl rfl Tryz.underlying57 hi127 hz127 hs127 hy127 rfl (by decide) (by decide) rfl ?_ ?_ ((o.fl ++ [b]).length) ((o.fl ++ [b]).flatMap strEnc) ?_ ?_ ?_
              · (simp only [maxLen]; omega)
              · omega
              · simp
              · simp [List.flatMap_append, strEnc]; rfl
              intro A127 c127
              refine R_next ⟨.inl rfl, .inl rfl, .inl rfl, trivial⟩ ?_
              refine Rf_ 7 128 rfl rfl rfl rfl rfl _ trivial (Y.z (y_fieldAddr rfl rfl fa62_2) rfl) ?_
              refine R_chain 8 rfl rfl ?_
              refine S_store 2 rfl rfl rfl rfl rfl rfl sz57 rfl rfl ?_
              refine R_next ⟨.inl rfl, .inl rfl, .inl rfl, trivial⟩ ?_
              refine R_go (fun _ _ h => h) ?_
              refine T_seq ?_
              refine T_region ?_
              refine S_ 188 rfl rfl rfl _ (y_move rfl rfl) ?_
              refine S_ 189 rfl rfl rfl _ (y_not rfl rfl) ?_
              refine S_go (fun _ _ h => h) ?_
              refine T_cond rfl (fun h189 => ?_) (fun h189 => ?_)
              · skip
                cases h189
              · skip
                refine T_skip_go (fun _ _ h => h) ?_
                refine T_region ?_
                refine S_ 26 rfl rfl rfl _ (y_move rfl rfl) ?_
                refine S_ 27 rfl rfl rfl _ (y_bin rfl rfl rfl (fun hg => b_add (by omega))) ?_
                refine S_ 3 rfl rfl rfl _ (y_assign rfl rfl) ?_
                refine S_nil (nextK6 (kf := [(0, 0), (3, 15), (24, 191)]) (kl := [(0, 0), (2, 15), (24, 191), (908, 911)]) (cutC 10 s).2.1 (n + 1) (kindOf a) (kindOf a) ({ o with fA := A127, fc := c127, fl := o.fl ++ [b] }) k (by repeat (first | exact kf_nil | (apply kf_in; focus rfl) | (apply kf_out; focus rfl))) (by repeat (first | exact kl_nil | exact kl_rest (by assumption) rfl | (apply kl_in; focus rfl) | (apply kl_out; focus rfl))) ?_ ?_ ?_ ?_)
                · omega
                · exact ⟨by omega, hp2, ⟨f1, ⟨by show (o.fl ++ [b]).length ≤ _; rw [List.length_append]; show o.fl.length + 1 ≤ n + 1; omega, all_snoc rfl f2.2 hb⟩, ⟨by show o.ul.length ≤ _; omega, f3.2⟩, by show o.rl.length ≤ _; omega, ⟨by show o.cl.length ≤ _; omega, f5.2⟩⟩, by rw [if_neg (by omega)]; omega, fun _ => by omega, .inr ⟨by omega, rfl, by omega⟩⟩
                · exact ⟨rfl, rfl, rfl, trivial⟩
                · exact ⟨rfl, rfl, rfl, rfl, rfl, trivial⟩
            · skip
              have hk1 : ¬ kindOf a = 1 := by simpa using h119
              refine T_seq ?_
              refine T_region ?_
              refine S_ 130 rfl rfl rfl _ (y_bin rfl rfl rfl (fun _ => b_eql)) ?_
              refine S_ 129 rfl rfl rfl _ (y_assign rfl rfl) ?_
              refine S_go (fun _ _ h => h) ?_
              refine T_cond rfl (fun h129 => ?_) (fun h129 => ?_)
              · skip
                have hka : kindOf a = 2 := by simpa using h129
                obtain ⟨b, c, d, rfl⟩ := len_3 (ws := r) ((tail_len hlk).trans (by rw [hka]; rfl))
                have hd := hws d (by simp)
                have hd0 : d ≠ [] := fun e => hnm (by simp [e])
                refine T_cap 36 rfl fun hcap => ?_
                refine T_seq ?_
                refine T_region ?_
                refine S_ 132 rfl rfl rfl _ (y_move rfl rfl) ?_
                refine S_ 133 rfl rfl rfl _ (y_slice (lo := 1) (hi := 3) rfl rfl Tryz.underlying57 sz9 (.inr ⟨_, _, rfl, rfl⟩) (.inr ⟨_, _, rfl, rfl⟩) (by omega) (by simp) hcap) ?_
                refine S_callOwn 134 134 rfl rfl rfl rfl rfl rfl rfl cf131 (fun A0 c0 => .tuple #[.slice A0 (numsP [b, c]).length c0, .bool (numsOk [b, c])]) 3 1 ((numsP [b, c]).length) ((numsP [b, c]).flatMap intE9) (fun w hM => wholes_any _ _ _ [b, c] w ((owned_T (enc := strEnc) (l := [a, b, c, d]) hM rfl (i := 36) rfl).cut (lo := 1) (hi := 3) (fun _ => rfl) (by omega) (by simp) hcap) (by omega) (fun x hx => by have := hws x (List.mem_of_mem_drop (i := 1) (List.mem_of_mem_take (i := 2) (l := ([a, b, c, d]).drop 1) hx)); omega)) ?_
                intro A134 c134
                refine S_ 131 rfl rfl rfl _ (y_move rfl rfl) ?_
                refine S_ 135 rfl rfl rfl _ (y_extract rfl rfl rfl) ?_
                refine S_ 136 rfl rfl rfl _ (y_extract rfl rfl rfl) ?_
                refine S_ 12 rfl rfl rfl _ (y_assign rfl rfl) ?_
                refine S_ 13 rfl rfl rfl _ (y_assign rfl rfl) ?_
                refine S_go (fun _ _ h => h) ?_
                refine T_seq ?_
                refine T_region ?_
                refine S_ 137 rfl rfl rfl _ (y_move rfl rfl) ?_
                refine S_go (fun _ _ h => h) ?_
                refine T_cond rfl (fun h137 => ?_) (fun h137 => ?_)
                · skip
                  have e1 : numsOk [b, c] = true := h137
                  have e2 := nums2 e1
                  have hln : lineT (kindT s) (wordsT s) o.tab.pl = some { o.tab.pl with fu := o.ul ++ [⟨d, nJ b, nJ c⟩] } := by rw [hkd, hka, hW, line2]; exact if_pos (by rw [e1, decide_eq_false hd0]; rfl)
                  rw [rdL_some hgo hbt hln, hkd] at hp2
                  refine T_perm [0, 1, 2, 3, 4, 5, 6, 7, 8, 9, 10, 11, 12, 13, 14, 15] [true, true, true, true, true, true, true, true, true, true, true, true, false, false, true, false] [0, 1, 0, 4, 12, 0, 32, 96, 0, 256, 768, 2044, 4092, 8191, 16383, 32767] [(1, [2]), (3, [134]), (4, [134]), (6, [134]), (7, [134]), (9, [36]), (10, [36])] (by kernel_rfl) (by kernel_rfl) (by kernel_rfl) rfl (by kernel_rfl) ?_
                  refine Rf_ 0 138 rfl rfl rfl rfl rfl _ trivial (Y.z (y_fieldAddr rfl rfl fa62_3) rfl) ?_
                  refine Rf_ 1 139 rfl rfl rfl rfl rfl _ ⟨rfl, trivial⟩ (Y.z (y_load 2 rfl rfl rfl rfl Tryz.underlying58 rfl) rfl) ?_
                  refine Rf_ 2 140 rfl rfl rfl rfl rfl _ trivial (Y.z (y_move rfl rfl) rfl) ?_
                  refine Rf_ 3 141 rfl rfl rfl rfl rfl _ ⟨rfl, trivial⟩ (Y.z (y_indexOwnI (j := 0) 134 rfl rfl rfl (fun _ => rfl) rfl Tryz.underlying212 sz3 (fun _ => by rw [e2]; simp)) rfl) ?_
                  refine Rf_ 4 142 rfl rfl rfl rfl rfl _ ⟨rfl, trivial⟩ (Y.z (y_loadO1 134 (val := (fun n : Int => Value.int .i64 n)) rfl rfl rfl rfl (fun _ => by rw [e2]; rfl) Tryz.underlying3 rfl) rfl) ?_
                  refine Rf_ 5 143 rfl rfl rfl rfl rfl _ trivial (Y.z (y_move rfl rfl) rfl) ?_
                  refine Rf_ 6 144 rfl rfl rfl rfl rfl _ ⟨rfl, trivial⟩ (Y.z (y_indexOwnI (j := 1) 134 rfl rfl rfl (fun _ => rfl) rfl Tryz.underlying212 sz3 (fun _ => by rw [e2]; simp)) rfl) ?_
                  refine Rf_ 7 145 rfl rfl rfl rfl rfl _ ⟨rfl, trivial⟩ (Y.z (y_loadO1 134 (val := (fun n : Int => Value.int .i64 n)) rfl rfl rfl rfl (fun _ => by rw [e2]; rfl) Tryz.underlying3 rfl) rfl) ?_
                  refine Rf_ 8 146 rfl rfl rfl rfl rfl _ trivial (Y.z (y_move rfl rfl) rfl) ?_
                  refine Rf_ 9 147 rfl rfl rfl rfl rfl _ ⟨rfl, trivial⟩ (Y.z (y_indexOwnI (j := 3) 36 rfl rfl rfl (fun _ => rfl) rfl Tryz.underlying57 sz9 (fun _ => by simp)) rfl) ?_
                  refine Rf_ 10 148 rfl rfl rfl rfl rfl _ ⟨rfl, trivial⟩ (Y.z (y_loadO1 36 (val := (fun l : List UInt8 => str l)) rfl rfl rfl rfl (fun _ => rfl) Tryz.underlying9 rfl) rfl) ?_
                  refine Rf_ 11 149 rfl rfl rfl rfl rfl _ trivial (Y.z (y_build (zv := .agg #[.string ⟨#[]⟩, .int .i64 0, .int .i64 0]) (pl := [(0, 1), (1, 1), (2, 1)]) (out := [_, _, _]) rfl rfl Tryz.underlying196 z196 (by kernel_rfl) rfl) rfl) ?_
                  refine R_chain 12 rfl rfl ?_
                  refine S_buildSlice 150 150 rfl rfl rfl rfl rfl Tryz.underlying58 inf196 rfl (by decide) (by decide) rfl rfl (by decide) rfl (_) rfl ?_
                  intro b150
                  refine R_next ⟨.inr ⟨rfl, trivial⟩, .inl rfl, .inl rfl, .inl rfl, .inl rfl, .inl rfl, .inl rfl, trivial⟩ ?_
                  refine R_chain 13 rfl rfl ?_
                  obtain ⟨i151, hi151, hz151, hs151, hy151⟩ := info_parts inf196
                  refine S_append 151 909 150 rfl rfl rfl rfl rfl rfl rfl rfl Tryz.underlying58 hi151 hz151 hs151 hy151 rfl (by decide) (by decide) rfl ?_ ?_ ((o.ul ++ [(⟨d, nJ b, nJ c⟩ : SFunc)]).length) ((o.ul ++ [(⟨d, nJ b, nJ c⟩ : SFunc)]).flatMap SFunc.enc) ?_ ?_ ?_
                  · (simp only [maxLen]; omega)
                  · omega
                  · simp
                  · simp [List.flatMap_append, SFunc.enc]; rfl
                  intro A151 c151
                  refine R_next ⟨.inl rfl, .inl rfl, .inl rfl, .inl rfl, .inl rfl, .inl rfl, .inl rfl, trivial⟩ ?_
                  refine Rf_ 14 152 rfl rfl rfl rfl rfl _ trivial (Y.z (y_fieldAddr rfl rfl fa62_3) rfl) ?_
                  refine R_chain 15 rfl rfl ?_
                  refine S_store 2 rfl rfl rfl rfl rfl rfl sz58 rfl rfl ?_
                  refine R_next ⟨.inl rfl, .inl rfl, .inl rfl, .inl rfl, .inl rfl, .inl rfl, .inl rfl, trivial⟩ ?_
                  refine R_go (fun _ _ h => h) ?_
                  refine T_seq ?_
                  refine T_region ?_
                  refine S_ 188 rfl rfl rfl _ (y_move rfl rfl) ?_
                  refine S_ 189 rfl rfl rfl _ (y_not rfl rfl) ?_
                  refine S_go (fun _ _ h => h) ?_
                  refine T_cond rfl (fun h189 => ?_) (fun h189 => ?_)
                  · skip
                    rw [e1] at h189; cases h189
                  · skip
                    refine T_skip_go (fun _ _ h => h) ?_
                    refine T_region ?_
                    refine S_ 26 rfl rfl rfl _ (y_move rfl rfl) ?_
                    refine S_ 27 rfl rfl rfl _ (y_bin rfl rfl rfl (fun hg => b_add (by omega))) ?_
                    refine S_ 3 rfl rfl rfl _ (y_assign rfl rfl) ?_
                    refine S_nil (nextK6 (kf := [(0, 0), (3, 15), (24, 191)]) (kl := [(0, 0), (2, 15), (24, 191), (908, 911)]) (cutC 10 s).2.1 (n + 1) (kindOf a) (kindOf a) ({ o with uA := A151, uc := c151, ul := o.ul ++ [(⟨d, nJ b, nJ c⟩ : SFunc)] }) k (by repeat (first | exact kf_nil | (apply kf_in; focus rfl) | (apply kf_out; focus rfl))) (by repeat (first | exact kl_nil | exact kl_rest (by assumption) rfl | (apply kl_in; focus rfl) | (apply kl_out; focus rfl))) ?_ ?_ ?_ ?_)
                    · omega
                    · exact ⟨by omega, hp2, ⟨f1, ⟨by show o.fl.length ≤ _; omega, f2.2⟩, ⟨by show (o.ul ++ [(⟨d, nJ b, nJ c⟩ : SFunc)]).length ≤ _; rw [List.length_append]; show o.ul.length + 1 ≤ n + 1; omega, all_snoc rfl f3.2 hd⟩, by show o.rl.length ≤ _; omega, ⟨by show o.cl.length ≤ _; omega, f5.2⟩⟩, by rw [if_neg (by omega)]; omega, fun _ => by omega, .inr ⟨by omega, rfl, by omega⟩⟩
                    · exact ⟨rfl, rfl, rfl, trivial⟩
                    · exact ⟨rfl, rfl, rfl, rfl, rfl, trivial⟩
                · skip
                  have e1 : numsOk [b, c] = false := h137
                  have hln : lineT (kindT s) (wordsT s) o.tab.pl = none := by rw [hkd, hka, hW, line2]; exact if_neg (by rw [e1]; simp)
                  rw [rdL_none hgo hbt hln] at hp2
                  refine T_skip_go (fun _ _ h => h) ?_
                  refine T_seq ?_
                  refine T_region ?_
                  refine S_ 188 rfl rfl rfl _ (y_move rfl rfl) ?_
                  refine S_ 189 rfl rfl rfl _ (y_not rfl rfl) ?_
                  refine S_go (fun _ _ h => h) ?_
                  refine T_cond rfl (fun h189 => ?_) (fun h189 => ?_)
                  · skip
                    refine T_seq ?_
                    refine T_region ?_
                    refine S_ 190 rfl rfl rfl _ (y_build (zv := .agg #[.string ⟨#[]⟩, .int .i64 0, .slice none 0 0, .slice none 0 0, .slice none 0 0, .slice none 0 0]) (pl := [(0, 1), (1, 1), (2, 1), (3, 1), (4, 1), (5, 1)]) (out := [.string ⟨#[]⟩, .int .i64 0, .slice none 0 0, .slice none 0 0, .slice none 0 0, .slice none 0 0]) rfl rfl Tryz.underlying62 z62 (by kernel_rfl) rfl) ?_
                    refine S_ 191 rfl rfl rfl _ (y_move rfl rfl) ?_
                    refine S_store 2 rfl rfl rfl rfl rfl rfl sz62 rfl rfl ?_
                    refine S_ 3 rfl rfl rfl _ (y_assign rfl rfl) ?_
                    refine S_ 4 rfl rfl rfl _ (y_assign rfl rfl) ?_
                    refine S_go (fun _ _ h => h) ?_
                    refine T_ret (fun a w hF hM => hRb a w (post_cell2 2 rfl rfl rfl rfl rfl Tryz.underlying62 rfl (by exact sz62) (fun w hM => ?_) a w hF hM))
                    rw [rdTxt_bad (by omega) hp2.symm]
                    exact ⟨OT0, rfl, ⟨rfl, OT0.sm⟩, Mem.nil4 (hM.keep (ks := [(0, 999)]) (by repeat (first | exact kl_rest (by assumption) rfl | (apply kl_in; focus rfl))) _ trivial : Mem w0 ([] ++ K) w)⟩
                  · skip
                    rw [e1] at h189; cases h189
              · skip
                have hk2 : ¬ kindOf a = 2 := by simpa using h129
                refine T_seq ?_
                refine T_region ?_
                refine S_ 154 rfl rfl rfl _ (y_bin rfl rfl rfl (fun _ => b_eql)) ?_
                refine S_ 153 rfl rfl rfl _ (y_assign rfl rfl) ?_
                refine S_go (fun _ _ h => h) ?_
                refine T_cond rfl (fun h153 => ?_) (fun h153 => ?_)
                · skip
                  have hka : kindOf a = 3 := by simpa using h153
                  obtain ⟨b, c, d, rfl⟩ := len_3 (ws := r) ((tail_len hlk).trans (by rw [hka]; rfl))
                  have hb := hws b (by simp)
                  have hb0 : b ≠ [] := fun e => hnm (by simp [e])
                  have hc := hws c (by simp)
                  have hc0 : c ≠ [] := fun e => hnm (by simp [e])
                  have hd := hws d (by simp)
                  have hd0 : d ≠ [] := fun e => hnm (by simp [e])
                  refine T_cap 36 rfl fun hcap => ?_
                  refine T_seq ?_
                  refine T_region ?_
                  refine S_ 155 rfl rfl rfl _ (y_move rfl rfl) ?_
                  refine S_ 156 rfl rfl rfl _ (y_indexOwnI (j := 2) 36 rfl rfl rfl (fun _ => rfl) rfl Tryz.underlying57 sz9 (fun _ => by simp)) ?_
                  refine S_ 157 rfl rfl rfl _ (y_loadO1 36 (val := (fun l : List UInt8 => str l)) rfl rfl rfl rfl (fun _ => rfl) Tryz.underlying9 rfl) ?_
                  refine S_ 14 rfl rfl rfl _ (y_assign rfl rfl) ?_
                  refine S_go (fun _ _ h => h) ?_
                  refine T_seq ?_
                  refine T_seq ?_
                  refine T_region ?_
                  refine S_ 158 rfl rfl rfl _ (y_move rfl rfl) ?_
                  refine S_ 159 rfl rfl rfl _ (y_bin rfl rfl rfl (fun _ => b_eqls)) ?_
                  refine S_go (fun _ _ h => h) ?_
                  refine T_cond rfl (fun h159 => ?_) (fun h159 => ?_)
                  · skip
                    have hc9 : c = [45, 49] := by simpa using h159
                    subst hc9
                    have hws9 : ∀ x ∈ [a, b, [48], d], x.length ≤ 1000000 := fun x hx => by
                      simp only [List.mem_cons, List.not_mem_nil, or_false] at hx
                      rcases hx with rfl | rfl | rfl | rfl
                      · exact hws _ (by simp)
                      · exact hb
                      · decide
                      · exact hd
                    refine T_region ?_
                    refine S_ 160 rfl rfl rfl _ (y_move rfl rfl) ?_
                    refine S_ 161 rfl rfl rfl _ (y_indexOwnI (j := 2) 36 rfl rfl rfl (fun _ => rfl) rfl Tryz.underlying57 sz9 (fun _ => by simp)) ?_
                    refine S_storeOwn 36 rfl rfl rfl rfl rfl rfl sz9 rfl rfl ?_ (xs' := ([a, b, [48], d]).flatMap strEnc) ?_ ?_
                    · exact (by decide : 2 < 4)
                    · rfl
                    refine S_go (fun _ _ h => h) ?_
                    refine T_seq ?_
                    refine T_region ?_
                    refine S_ 163 rfl rfl rfl _ (y_move rfl rfl) ?_
                    refine S_ 164 rfl rfl rfl _ (y_slice (lo := 1) (hi := 4) rfl rfl Tryz.underlying57 sz9 (.inr ⟨_, _, rfl, rfl⟩) (.inl ⟨rfl, rfl⟩) (by omega) (by simp) hcap) ?_
                    refine S_callOwn 165 165 rfl rfl rfl rfl rfl rfl rfl cf131 (fun A0 c0 => .tuple #[.slice A0 (numsP [b, [48], d]).length c0, .bool (numsOk [b, [48], d])]) 3 1 ((numsP [b, [48], d]).length) ((numsP [b, [48], d]).flatMap intE9) (fun w hM => wholes_any _ _ _ [b, [48], d] w ((owned_T (enc := strEnc) (l := [a, b, [48], d]) hM rfl (i := 36) rfl).cut (lo := 1) (hi := 4) (fun _ => rfl) (by omega) (by simp) hcap) (by omega) (fun x hx => by have := hws9 x (List.mem_of_mem_drop (i := 1) (List.mem_of_mem_take (i := 3) (l := ([a, b, [48], d]).drop 1) hx)); omega)) ?_
                    intro A165 c165
                    refine S_ 162 rfl rfl rfl _ (y_move rfl rfl) ?_
                    refine S_ 166 rfl rfl rfl _ (y_extract rfl rfl rfl) ?_
                    refine S_ 167 rfl rfl rfl _ (y_extract rfl rfl rfl) ?_
                    refine S_ 12 rfl rfl rfl _ (y_assign rfl rfl) ?_
                    refine S_ 13 rfl rfl rfl _ (y_assign rfl rfl) ?_
                    refine S_go (fun _ _ h => h) ?_
                    refine T_seq ?_
                    refine T_region ?_
                    refine S_ 168 rfl rfl rfl _ (y_move rfl rfl) ?_
                    refine S_go (fun _ _ h => h) ?_
                    refine T_cond rfl (fun h168 => ?_) (fun h168 => ?_)
                    · skip
                      have e1 : numsOk [b, [48], d] = true := h168
                      have e2 : numsP [b, [48], d] = [nJ b, nJ [48], nJ d] := if_pos e1
                      have hln : lineT (kindT s) (wordsT s) o.tab.pl = some { o.tab.pl with ro := o.rl ++ [⟨nJ b, -1, nJ d⟩] } := by rw [hkd, hka, hW, line3]; exact if_pos (num_9 e1)
                      rw [rdL_some hgo hbt hln, hkd] at hp2
                      refine T_seq ?_
                      refine T_perm [0, 1, 2, 3, 4, 5, 6, 7, 8, 9, 10, 11] [true, true, true, true, true, true, true, true, true, true, false, false] [0, 1, 3, 0, 8, 24, 0, 64, 192, 511, 0, 2047] [(1, [165]), (2, [165]), (4, [165]), (5, [165]), (7, [165]), (8, [165])] (by kernel_rfl) (by kernel_rfl) (by kernel_rfl) rfl (by kernel_rfl) ?_
                      refine Rf_ 0 169 rfl rfl rfl rfl rfl _ trivial (Y.z (y_move rfl rfl) rfl) ?_
                      refine Rf_ 1 170 rfl rfl rfl rfl rfl _ ⟨rfl, trivial⟩ (Y.z (y_indexOwnI (j := 0) 165 rfl rfl rfl (fun _ => rfl) rfl Tryz.underlying212 sz3 (fun _ => by rw [e2]; simp)) rfl) ?_
                      refine Rf_ 2 171 rfl rfl rfl rfl rfl _ ⟨rfl, trivial⟩ (Y.z (y_loadO1 165 (val := (fun n : Int => Value.int .i64 n)) rfl rfl rfl rfl (fun _ => by rw [e2]; rfl) Tryz.underlying3 rfl) rfl) ?_
                      refine Rf_ 3 172 rfl rfl rfl rfl rfl _ trivial (Y.z (y_move rfl rfl) rfl) ?_
                      refine Rf_ 4 173 rfl rfl rfl rfl rfl _ ⟨rfl, trivial⟩ (Y.z (y_indexOwnI (j := 1) 165 rfl rfl rfl (fun _ => rfl) rfl Tryz.underlying212 sz3 (fun _ => by rw [e2]; simp)) rfl) ?_
                      refine Rf_ 5 174 rfl rfl rfl rfl rfl _ ⟨rfl, trivial⟩ (Y.z (y_loadO1 165 (val := (fun n : Int => Value.int .i64 n)) rfl rfl rfl rfl (fun _ => by rw [e2]; rfl) Tryz.underlying3 rfl) rfl) ?_
                      refine Rf_ 6 175 rfl rfl rfl rfl rfl _ trivial (Y.z (y_move rfl rfl) rfl) ?_
                      refine Rf_ 7 176 rfl rfl rfl rfl rfl _ ⟨rfl, trivial⟩ (Y.z (y_indexOwnI (j := 2) 165 rfl rfl rfl (fun _ => rfl) rfl Tryz.underlying212 sz3 (fun _ => by rw [e2]; simp)) rfl) ?_
                      refine Rf_ 8 177 rfl rfl rfl rfl rfl _ ⟨rfl, trivial⟩ (Y.z (y_loadO1 165 (val := (fun n : Int => Value.int .i64 n)) rfl rfl rfl rfl (fun _ => by rw [e2]; rfl) Tryz.underlying3 rfl) rfl) ?_
                      refine Rf_ 9 178 rfl rfl rfl rfl rfl _ trivial (Y.z (y_build (zv := .agg #[.int .i64 0, .int .i64 0, .int .i64 0]) (pl := [(0, 1), (1, 1), (2, 1)]) (out := [_, _, _]) rfl rfl Tryz.underlying198 z198 (by kernel_rfl) rfl) rfl) ?_
                      refine R_chain 10 rfl rfl ?_
                      refine S_alloc 15 15 rfl rfl rfl rfl z198 ?_
                      intro b15
                      refine R_next ⟨.inr ⟨rfl, trivial⟩, .inr ⟨rfl, trivial⟩, .inr ⟨rfl, trivial⟩, .inr ⟨rfl, trivial⟩, .inr ⟨rfl, trivial⟩, .inr ⟨rfl, trivial⟩, trivial⟩ ?_
                      refine R_chain 11 rfl rfl ?_
                      refine S_store 15 rfl rfl rfl rfl rfl rfl sz198 rfl rfl ?_
                      refine R_next ⟨.inl rfl, .inl rfl, .inl rfl, .inl rfl, .inl rfl, .inl rfl, trivial⟩ ?_
                      refine R_go (fun _ _ h => h) ?_
                      refine T_seq ?_
                      refine T_seq ?_
                      refine T_region ?_
                      refine S_ 179 rfl rfl rfl _ (y_move rfl rfl) ?_
                      refine S_ 180 rfl rfl rfl _ (y_bin rfl rfl rfl (fun _ => b_eqls)) ?_
                      refine S_go (fun _ _ h => h) ?_
                      refine T_cond rfl (fun h180 => ?_) (fun h180 => ?_)
                      · skip
                        refine T_region ?_
                        refine S_ 181 rfl rfl rfl _ (y_fieldAddr rfl rfl fa198_1) ?_
                        refine S_store 15 rfl rfl rfl rfl rfl rfl sz3 rfl rfl ?_
                        refine S_go (fun _ _ h => h) ?_
                        refine T_region ?_
                        refine S_ 182 rfl rfl rfl _ (y_fieldAddr rfl rfl fa62_4) ?_
                        refine S_ 183 rfl rfl rfl _ (y_load 2 rfl rfl rfl rfl Tryz.underlying59 rfl) ?_
                        refine S_ 184 rfl rfl rfl _ (y_loadA 15 rfl rfl rfl Tryz.underlying198 rfl sz198) ?_
                        refine S_buildSlice 185 185 rfl rfl rfl rfl rfl Tryz.underlying59 inf198 rfl (by decide) (by decide) rfl rfl (by decide) rfl (_) rfl ?_
                        intro b185
                        obtain ⟨i186, hi186, hz186, hs186, hy186⟩ := info_parts inf198
                        refine S_append 186 910 185 rfl rfl rfl rfl rfl rfl rfl rfl Tryz.underlying59 hi186 hz186 hs186 hy186 rfl (by decide) (by decide) rfl ?_ ?_ ((o.rl ++ [(⟨nJ b, -1, nJ d⟩ : SRow)]).length) ((o.rl ++ [(⟨nJ b, -1, nJ d⟩ : SRow)]).flatMap SRow.enc) ?_ ?_ ?_
                        · (simp only [maxLen]; omega)
                        · omega
                        · simp
                        · simp [List.flatMap_append, SRow.enc]; rfl
                        intro A186 c186
                        refine S_ 187 rfl rfl rfl _ (y_fieldAddr rfl rfl fa62_4) ?_
                        refine S_store 2 rfl rfl rfl rfl rfl rfl sz59 rfl rfl ?_
                        refine S_go (fun _ _ h => h) ?_
                        refine T_seq ?_
                        refine T_region ?_
                        refine S_ 188 rfl rfl rfl _ (y_move rfl rfl) ?_
                        refine S_ 189 rfl rfl rfl _ (y_not rfl rfl) ?_
                        refine S_go (fun _ _ h => h) ?_
                        refine T_cond rfl (fun h189 => ?_) (fun h189 => ?_)
                        · skip
                          rw [e1] at h189; cases h189
                        · skip
                          refine T_skip_go (fun _ _ h => h) ?_
                          refine T_region ?_
                          refine S_ 26 rfl rfl rfl _ (y_move rfl rfl) ?_
                          refine S_ 27 rfl rfl rfl _ (y_bin rfl rfl rfl (fun hg => b_add (by omega))) ?_
                          refine S_ 3 rfl rfl rfl _ (y_assign rfl rfl) ?_
                          refine S_nil (nextK6 (kf := [(0, 0), (3, 15), (24, 191)]) (kl := [(0, 0), (2, 15), (24, 191), (908, 911)]) (cutC 10 s).2.1 (n + 1) (kindOf a) (kindOf a) ({ o with rA := A186, rc := c186, rl := o.rl ++ [(⟨nJ b, -1, nJ d⟩ : SRow)] }) k (by repeat (first | exact kf_nil | (apply kf_in; focus rfl) | (apply kf_out; focus rfl))) (by repeat (first | exact kl_nil | exact kl_rest (by assumption) rfl | (apply kl_in; focus rfl) | (apply kl_out; focus rfl))) ?_ ?_ ?_ ?_)
                          · omega
                          · exact ⟨by omega, hp2, ⟨f1, ⟨by show o.fl.length ≤ _; omega, f2.2⟩, ⟨by show o.ul.length ≤ _; omega, f3.2⟩, by show (o.rl ++ [(⟨nJ b, -1, nJ d⟩ : SRow)]).length ≤ _; rw [List.length_append]; show o.rl.length + 1 ≤ n + 1; omega, ⟨by show o.cl.length ≤ _; omega, f5.2⟩⟩, by rw [if_neg (by omega)]; omega, fun _ => by omega, .inr ⟨by omega, rfl, by omega⟩⟩
                          · exact ⟨rfl, rfl, rfl, trivial⟩
                          · exact ⟨rfl, rfl, rfl, rfl, rfl, trivial⟩
                      · skip
                        exact absurd h180 (by decide)
                    · skip
                      have e1 : numsOk [b, [48], d] = false := h168
                      have hln : lineT (kindT s) (wordsT s) o.tab.pl = none := by rw [hkd, hka, hW, line3]; exact if_neg (num_9f e1)
                      rw [rdL_none hgo hbt hln] at hp2
                      refine T_skip_go (fun _ _ h => h) ?_
                      refine T_seq ?_
                      refine T_region ?_
                      refine S_ 188 rfl rfl rfl _ (y_move rfl rfl) ?_
                      refine S_ 189 rfl rfl rfl _ (y_not rfl rfl) ?_
                      refine S_go (fun _ _ h => h) ?_
                      refine T_cond rfl (fun h189 => ?_) (fun h189 => ?_)
                      · skip
                        refine T_seq ?_
                        refine T_region ?_
                        refine S_ 190 rfl rfl rfl _ (y_build (zv := .agg #[.string ⟨#[]⟩, .int .i64 0, .slice none 0 0, .slice none 0 0, .slice none 0 0, .slice none 0 0]) (pl := [(0, 1), (1, 1), (2, 1), (3, 1), (4, 1), (5, 1)]) (out := [.string ⟨#[]⟩, .int .i64 0, .slice none 0 0, .slice none 0 0, .slice none 0 0, .slice none 0 0]) rfl rfl Tryz.underlying62 z62 (by kernel_rfl) rfl) ?_
                        refine S_ 191 rfl rfl rfl _ (y_move rfl rfl) ?_
                        refine S_store 2 rfl rfl rfl rfl rfl rfl sz62 rfl rfl ?_
                        refine S_ 3 rfl rfl rfl _ (y_assign rfl rfl) ?_
                        refine S_ 4 rfl rfl rfl _ (y_assign rfl rfl) ?_
                        refine S_go (fun _ _ h => h) ?_
                        refine T_ret (fun a w hF hM => hRb a w (post_cell2 2 rfl rfl rfl rfl rfl Tryz.underlying62 rfl (by exact sz62) (fun w hM => ?_) a w hF hM))
                        rw [rdTxt_bad (by omega) hp2.symm]
                        exact ⟨OT0, rfl, ⟨rfl, OT0.sm⟩, Mem.nil4 (hM.keep (ks := [(0, 999)]) (by repeat (first | exact kl_rest (by assumption) rfl | (apply kl_in; focus rfl))) _ trivial : Mem w0 ([] ++ K) w)⟩
                      · skip
                        rw [e1] at h189; cases h189
                  · skip
                    have hc9 : ¬ c = [45, 49] := by simpa using h159
                    refine T_skip_go (fun _ _ h => h) ?_
                    refine T_seq ?_
                    refine T_region ?_
                    refine S_ 163 rfl rfl rfl _ (y_move rfl rfl) ?_
                    refine S_ 164 rfl rfl rfl _ (y_slice (lo := 1) (hi := 4) rfl rfl Tryz.underlying57 sz9 (.inr ⟨_, _, rfl, rfl⟩) (.inl ⟨rfl, rfl⟩) (by omega) (by simp) hcap) ?_
                    refine S_callOwn 165 165 rfl rfl rfl rfl rfl rfl rfl cf131 (fun A0 c0 => .tuple #[.slice A0 (numsP [b, c, d]).length c0, .bool (numsOk [b, c, d])]) 3 1 ((numsP [b, c, d]).length) ((numsP [b, c, d]).flatMap intE9) (fun w hM => wholes_any _ _ _ [b, c, d] w ((owned_T (enc := strEnc) (l := [a, b, c, d]) hM rfl (i := 36) rfl).cut (lo := 1) (hi := 4) (fun _ => rfl) (by omega) (by simp) hcap) (by omega) (fun x hx => by have := hws x (List.mem_of_mem_drop (i := 1) (List.mem_of_mem_take (i := 3) (l := ([a, b, c, d]).drop 1) hx)); omega)) ?_
                    intro A165 c165
                    refine S_ 162 rfl rfl rfl _ (y_move rfl rfl) ?_
                    refine S_ 166 rfl rfl rfl _ (y_extract rfl rfl rfl) ?_
                    refine S_ 167 rfl rfl rfl _ (y_extract rfl rfl rfl) ?_
                    refine S_ 12 rfl rfl rfl _ (y_assign rfl rfl) ?_
                    refine S_ 13 rfl rfl rfl _ (y_assign rfl rfl) ?_
                    refine S_go (fun _ _ h => h) ?_
                    refine T_seq ?_
                    refine T_region ?_
                    refine S_ 168 rfl rfl rfl _ (y_move rfl rfl) ?_
                    refine S_go (fun _ _ h => h) ?_
                    refine T_cond rfl (fun h168 => ?_) (fun h168 => ?_)
                    · skip
                      have e1 : numsOk [b, c, d] = true := h168
                      have e2 : numsP [b, c, d] = [nJ b, nJ c, nJ d] := if_pos e1
                      have hrf : rfJ c = nJ c := if_neg hc9
                      have hln : lineT (kindT s) (wordsT s) o.tab.pl = some { o.tab.pl with ro := o.rl ++ [⟨nJ b, rfJ c, nJ d⟩] } := by rw [hkd, hka, hW, line3]; exact if_pos (num_8 hc9 e1)
                      rw [rdL_some hgo hbt hln, hkd] at hp2
                      rw [hrf] at hp2
                      refine T_seq ?_
                      refine T_perm [0, 1, 2, 3, 4, 5, 6, 7, 8, 9, 10, 11] [true, true, true, true, true, true, true, true, true, true, false, false] [0, 1, 3, 0, 8, 24, 0, 64, 192, 511, 0, 2047] [(1, [165]), (2, [165]), (4, [165]), (5, [165]), (7, [165]), (8, [165])] (by kernel_rfl) (by kernel_rfl) (by kernel_rfl) rfl (by kernel_rfl) ?_
                      refine Rf_ 0 169 rfl rfl rfl rfl rfl _ trivial (Y.z (y_move rfl rfl) rfl) ?_
                      refine Rf_ 1 170 rfl rfl rfl rfl rfl _ ⟨rfl, trivial⟩ (Y.z (y_indexOwnI (j := 0) 165 rfl rfl rfl (fun _ => rfl) rfl Tryz.underlying212 sz3 (fun _ => by rw [e2]; simp)) rfl) ?_
                      refine Rf_ 2 171 rfl rfl rfl rfl rfl _ ⟨rfl, trivial⟩ (Y.z (y_loadO1 165 (val := (fun n : Int => Value.int .i64 n)) rfl rfl rfl rfl (fun _ => by rw [e2]; rfl) Tryz.underlying3 rfl) rfl) ?_
                      refine Rf_ 3 172 rfl rfl rfl rfl rfl _ trivial (Y.z (y_move rfl rfl) rfl) ?_
                      refine Rf_ 4 173 rfl rfl rfl rfl rfl _ ⟨rfl, trivial⟩ (Y.z (y_indexOwnI (j := 1) 165 rfl rfl rfl (fun _ => rfl) rfl Tryz.underlying212 sz3 (fun _ => by rw [e2]; simp)) rfl) ?_
                      refine Rf_ 5 174 rfl rfl rfl rfl rfl _ ⟨rfl, trivial⟩ (Y.z (y_loadO1 165 (val := (fun n : Int => Value.int .i64 n)) rfl rfl rfl rfl (fun _ => by rw [e2]; rfl) Tryz.underlying3 rfl) rfl) ?_
                      refine Rf_ 6 175 rfl rfl rfl rfl rfl _ trivial (Y.z (y_move rfl rfl) rfl) ?_
                      refine Rf_ 7 176 rfl rfl rfl rfl rfl _ ⟨rfl, trivial⟩ (Y.z (y_indexOwnI (j := 2) 165 rfl rfl rfl (fun _ => rfl) rfl Tryz.underlying212 sz3 (fun _ => by rw [e2]; simp)) rfl) ?_
                      refine Rf_ 8 177 rfl rfl rfl rfl rfl _ ⟨rfl, trivial⟩ (Y.z (y_loadO1 165 (val := (fun n : Int => Value.int .i64 n)) rfl rfl rfl rfl (fun _ => by rw [e2]; rfl) Tryz.underlying3 rfl) rfl) ?_
                      refine Rf_ 9 178 rfl rfl rfl rfl rfl _ trivial (Y.z (y_build (zv := .agg #[.int .i64 0, .int .i64 0, .int .i64 0]) (pl := [(0, 1), (1, 1), (2, 1)]) (out := [_, _, _]) rfl rfl Tryz.underlying198 z198 (by kernel_rfl) rfl) rfl) ?_
                      refine R_chain 10 rfl rfl ?_
                      refine S_alloc 15 15 rfl rfl rfl rfl z198 ?_
                      intro b15
                      refine R_next ⟨.inr ⟨rfl, trivial⟩, .inr ⟨rfl, trivial⟩, .inr ⟨rfl, trivial⟩, .inr ⟨rfl, trivial⟩, .inr ⟨rfl, trivial⟩, .inr ⟨rfl, trivial⟩, trivial⟩ ?_
                      refine R_chain 11 rfl rfl ?_
                      refine S_store 15 rfl rfl rfl rfl rfl rfl sz198 rfl rfl ?_
                      refine R_next ⟨.inl rfl, .inl rfl, .inl rfl, .inl rfl, .inl rfl, .inl rfl, trivial⟩ ?_
                      refine R_go (fun _ _ h => h) ?_
                      refine T_seq ?_
                      refine T_seq ?_
                      refine T_region ?_
                      refine S_ 179 rfl rfl rfl _ (y_move rfl rfl) ?_
                      refine S_ 180 rfl rfl rfl _ (y_bin rfl rfl rfl (fun _ => b_eqls)) ?_
                      refine S_go (fun _ _ h => h) ?_
                      refine T_cond rfl (fun h180 => ?_) (fun h180 => ?_)
                      · skip
                        exact absurd (by simpa using h180) hc9
                      · skip
                        refine T_skip_go (fun _ _ h => h) ?_
                        refine T_region ?_
                        refine S_ 182 rfl rfl rfl _ (y_fieldAddr rfl rfl fa62_4) ?_
                        refine S_ 183 rfl rfl rfl _ (y_load 2 rfl rfl rfl rfl Tryz.underlying59 rfl) ?_
                        refine S_ 184 rfl rfl rfl _ (y_loadA 15 rfl rfl rfl Tryz.underlying198 rfl sz198) ?_
                        refine S_buildSlice 185 185 rfl rfl rfl rfl rfl Tryz.underlying59 inf198 rfl (by decide) (by decide) rfl rfl (by decide) rfl (_) rfl ?_
                        intro b185
                        obtain ⟨i186, hi186, hz186, hs186, hy186⟩ := info_parts inf198
                        refine S_append 186 910 185 rfl rfl rfl rfl rfl rfl rfl rfl Tryz.underlying59 hi186 hz186 hs186 hy186 rfl (by decide) (by decide) rfl ?_ ?_ ((o.rl ++ [(⟨nJ b, nJ c, nJ d⟩ : SRow)]).length) ((o.rl ++ [(⟨nJ b, nJ c, nJ d⟩ : SRow)]).flatMap SRow.enc) ?_ ?_ ?_
                        · (simp only [maxLen]; omega)
                        · omega
                        · simp
                        · simp [List.flatMap_append, SRow.enc]; rfl
                        intro A186 c186
                        refine S_ 187 rfl rfl rfl _ (y_fieldAddr rfl rfl fa62_4) ?_
                        refine S_store 2 rfl rfl rfl rfl rfl rfl sz59 rfl rfl ?_
                        refine S_go (fun _ _ h => h) ?_
                        refine T_seq ?_
                        refine T_region ?_
                        refine S_ 188 rfl rfl rfl _ (y_move rfl rfl) ?_
                        refine S_ 189 rfl rfl rfl _ (y_not rfl rfl) ?_
                        refine S_go (fun _ _ h => h) ?_
                        refine T_cond rfl (fun h189 => ?_) (fun h189 => ?_)
                        · skip
                          rw [e1] at h189; cases h189
                        · skip
                          refine T_skip_go (fun _ _ h => h) ?_
                          refine T_region ?_
                          refine S_ 26 rfl rfl rfl _ (y_move rfl rfl) ?_
                          refine S_ 27 rfl rfl rfl _ (y_bin rfl rfl rfl (fun hg => b_add (by omega))) ?_
                          refine S_ 3 rfl rfl rfl _ (y_assign rfl rfl) ?_
                          refine S_nil (nextK6 (kf := [(0, 0), (3, 15), (24, 191)]) (kl := [(0, 0), (2, 15), (24, 191), (908, 911)]) (cutC 10 s).2.1 (n + 1) (kindOf a) (kindOf a) ({ o with rA := A186, rc := c186, rl := o.rl ++ [(⟨nJ b, nJ c, nJ d⟩ : SRow)] }) k (by repeat (first | exact kf_nil | (apply kf_in; focus rfl) | (apply kf_out; focus rfl))) (by repeat (first | exact kl_nil | exact kl_rest (by assumption) rfl | (apply kl_in; focus rfl) | (apply kl_out; focus rfl))) ?_ ?_ ?_ ?_)
                          · omega
                          · exact ⟨by omega, hp2, ⟨f1, ⟨by show o.fl.length ≤ _; omega, f2.2⟩, ⟨by show o.ul.length ≤ _; omega, f3.2⟩, by show (o.rl ++ [(⟨nJ b, nJ c, nJ d⟩ : SRow)]).length ≤ _; rw [List.length_append]; show o.rl.length + 1 ≤ n + 1; omega, ⟨by show o.cl.length ≤ _; omega, f5.2⟩⟩, by rw [if_neg (by omega)]; omega, fun _ => by omega, .inr ⟨by omega, rfl, by omega⟩⟩
                          · exact ⟨rfl, rfl, rfl, trivial⟩
                          · exact ⟨rfl, rfl, rfl, rfl, rfl, trivial⟩
                    · skip
                      have e1 : numsOk [b, c, d] = false := h168
                      have hln : lineT (kindT s) (wordsT s) o.tab.pl = none := by rw [hkd, hka, hW, line3]; exact if_neg (num_8f hc9 e1)
                      rw [rdL_none hgo hbt hln] at hp2
                      refine T_skip_go (fun _ _ h => h) ?_
                      refine T_seq ?_
                      refine T_region ?_
                      refine S_ 188 rfl rfl rfl _ (y_move rfl rfl) ?_
                      refine S_ 189 rfl rfl rfl _ (y_not rfl rfl) ?_
                      refine S_go (fun _ _ h => h) ?_
                      refine T_cond rfl (fun h189 => ?_) (fun h189 => ?_)
                      · skip
                        refine T_seq ?_
                        refine T_region ?_
                        refine S_ 190 rfl rfl rfl _ (y_build (zv := .agg #[.string ⟨#[]⟩, .int .i64 0, .slice none 0 0, .slice none 0 0, .slice none 0 0, .slice none 0 0]) (pl := [(0, 1), (1, 1), (2, 1), (3, 1), (4, 1), (5, 1)]) (out := [.string ⟨#[]⟩, .int .i64 0, .slice none 0 0, .slice none 0 0, .slice none 0 0, .slice none 0 0]) rfl rfl Tryz.underlying62 z62 (by kernel_rfl) rfl) ?_
                        refine S_ 191 rfl rfl rfl _ (y_move rfl rfl) ?_
                        refine S_store 2 rfl rfl rfl rfl rfl rfl sz62 rfl rfl ?_
                        refine S_ 3 rfl rfl rfl _ (y_assign rfl rfl) ?_
                        refine S_ 4 rfl rfl rfl _ (y_assign rfl rfl) ?_
                        refine S_go (fun _ _ h => h) ?_
                        refine T_ret (fun a w hF hM => hRb a w (post_cell2 2 rfl rfl rfl rfl rfl Tryz.underlying62 rfl (by exact sz62) (fun w hM => ?_) a w hF hM))
                        rw [rdTxt_bad (by omega) hp2.symm]
                        exact ⟨OT0, rfl, ⟨rfl, OT0.sm⟩, Mem.nil4 (hM.keep (ks := [(0, 999)]) (by repeat (first | exact kl_rest (by assumption) rfl | (apply kl_in; focus rfl))) _ trivial : Mem w0 ([] ++ K) w)⟩
                      · skip
                        rw [e1] at h189; cases h189
                · skip
                  have hk3 : ¬ kindOf a = 3 := by simpa using h153
                  have hka : kindOf a = 4 := by omega
                  obtain ⟨b, c, d, e, f, rfl⟩ := len_5 (ws := r) ((tail_len hlk).trans (by rw [hka]; rfl))
                  have hf := hws f (by simp)
                  have hf0 : f ≠ [] := fun e => hnm (by simp [e])
                  refine T_cap 36 rfl fun hcap => ?_
                  refine T_seq ?_
                  refine T_region ?_
                  refine S_ 75 rfl rfl rfl _ (y_move rfl rfl) ?_
                  refine S_ 76 rfl rfl rfl _ (y_slice (lo := 1) (hi := 5) rfl rfl Tryz.underlying57 sz9 (.inr ⟨_, _, rfl, rfl⟩) (.inr ⟨_, _, rfl, rfl⟩) (by omega) (by simp) hcap) ?_
                  refine S_callOwn 77 77 rfl rfl rfl rfl rfl rfl rfl cf131 (fun A0 c0 => .tuple #[.slice A0 (numsP [b, c, d, e]).length c0, .bool (numsOk [b, c, d, e])]) 3 1 ((numsP [b, c, d, e]).length) ((numsP [b, c, d, e]).flatMap intE9) (fun w hM => wholes_any _ _ _ [b, c, d, e] w ((owned_T (enc := strEnc) (l := [a, b, c, d, e, f]) hM rfl (i := 36) rfl).cut (lo := 1) (hi := 5) (fun _ => rfl) (by omega) (by simp) hcap) (by omega) (fun x hx => by have := hws x (List.mem_of_mem_drop (i := 1) (List.mem_of_mem_take (i := 4) (l := ([a, b, c, d, e, f]).drop 1) hx)); omega)) ?_
                  intro A77 c77
                  refine S_ 74 rfl rfl rfl _ (y_move rfl rfl) ?_
                  refine S_ 78 rfl rfl rfl _ (y_extract rfl rfl rfl) ?_
                  refine S_ 79 rfl rfl rfl _ (y_extract rfl rfl rfl) ?_
                  refine S_ 12 rfl rfl rfl _ (y_assign rfl rfl) ?_
                  refine S_ 13 rfl rfl rfl _ (y_assign rfl rfl) ?_
                  refine S_go (fun _ _ h => h) ?_
                  refine T_seq ?_
                  refine T_region ?_
                  refine S_ 80 rfl rfl rfl _ (y_move rfl rfl) ?_
                  refine S_go (fun _ _ h => h) ?_
                  refine T_cond rfl (fun h80 => ?_) (fun h80 => ?_)
                  · skip
                    have e1 : numsOk [b, c, d, e] = true := h80
                    have e2 := nums4 e1
                    have hln : lineT (kindT s) (wordsT s) o.tab.pl = some { o.tab.pl with ca := o.cl ++ [⟨f, nJ b, nJ c, nJ d, nJ e⟩] } := by rw [hkd, hka, hW, line4]; exact if_pos (by rw [e1, decide_eq_false hf0]; rfl)
                    rw [rdL_some hgo hbt hln, hkd] at hp2
                    refine T_perm [0, 1, 2, 3, 4, 5, 6, 7, 8, 9, 10, 11, 12, 13, 14, 15, 16, 17, 18, 19, 20, 21] [true, true, true, true, true, true, true, true, true, true, true, true, true, true, true, true, true, true, false, false, true, false] [0, 1, 0, 4, 12, 0, 32, 96, 0, 256, 768, 0, 2048, 6144, 0, 16384, 49152, 131068, 262140, 524287, 1048575, 2097151] [(1, [2]), (3, [77]), (4, [77]), (6, [77]), (7, [77]), (9, [77]), (10, [77]), (12, [77]), (13, [77]), (15, [36]), (16, [36])] (by kernel_rfl) (by kernel_rfl) (by kernel_rfl) rfl (by kernel_rfl) ?_
                    refine Rf_ 0 81 rfl rfl rfl rfl rfl _ trivial (Y.z (y_fieldAddr rfl rfl fa62_5) rfl) ?_
                    refine Rf_ 1 82 rfl rfl rfl rfl rfl _ ⟨rfl, trivial⟩ (Y.z (y_load 2 rfl rfl rfl rfl Tryz.underlying60 rfl) rfl) ?_
                    refine Rf_ 2 83 rfl rfl rfl rfl rfl _ trivial (Y.z (y_move rfl rfl) rfl) ?_
                    refine Rf_ 3 84 rfl rfl rfl rfl rfl _ ⟨rfl, trivial⟩ (Y.z (y_indexOwnI (j := 0) 77 rfl rfl rfl (fun _ => rfl) rfl Tryz.underlying212 sz3 (fun _ => by rw [e2]; simp)) rfl) ?_
                    refine Rf_ 4 85 rfl rfl rfl rfl rfl _ ⟨rfl, trivial⟩ (Y.z (y_loadO1 77 (val := (fun n : Int => Value.int .i64 n)) rfl rfl rfl rfl (fun _ => by rw [e2]; rfl) Tryz.underlying3 rfl) rfl) ?_
                    refine Rf_ 5 86 rfl rfl rfl rfl rfl _ trivial (Y.z (y_move rfl rfl) rfl) ?_
                    refine Rf_ 6 87 rfl rfl rfl rfl rfl _ ⟨rfl, trivial⟩ (Y.z (y_indexOwnI (j := 1) 77 rfl rfl rfl (fun _ => rfl) rfl Tryz.underlying212 sz3 (fun _ => by rw [e2]; simp)) rfl) ?_
                    refine Rf_ 7 88 rfl rfl rfl rfl rfl _ ⟨rfl, trivial⟩ (Y.z (y_loadO1 77 (val := (fun n : Int => Value.int .i64 n)) rfl rfl rfl rfl (fun _ => by rw [e2]; rfl) Tryz.underlying3 rfl) rfl) ?_
                    refine Rf_ 8 89 rfl rfl rfl rfl rfl _ trivial (Y.z (y_move rfl rfl) rfl) ?_
                    refine Rf_ 9 90 rfl rfl rfl rfl rfl _ ⟨rfl, trivial⟩ (Y.z (y_indexOwnI (j := 2) 77 rfl rfl rfl (fun _ => rfl) rfl Tryz.underlying212 sz3 (fun _ => by rw [e2]; simp)) rfl) ?_
                    refine Rf_ 10 91 rfl rfl rfl rfl rfl _ ⟨rfl, trivial⟩ (Y.z (y_loadO1 77 (val := (fun n : Int => Value.int .i64 n)) rfl rfl rfl rfl (fun _ => by rw [e2]; rfl) Tryz.underlying3 rfl) rfl) ?_
                    refine Rf_ 11 92 rfl rfl rfl rfl rfl _ trivial (Y.z (y_move rfl rfl) rfl) ?_
                    refine Rf_ 12 93 rfl rfl rfl rfl rfl _ ⟨rfl, trivial⟩ (Y.z (y_indexOwnI (j := 3) 77 rfl rfl rfl (fun _ => rfl) rfl Tryz.underlying212 sz3 (fun _ => by rw [e2]; simp)) rfl) ?_
                    refine Rf_ 13 94 rfl rfl rfl rfl rfl _ ⟨rfl, trivial⟩ (Y.z (y_loadO1 77 (val := (fun n : Int => Value.int .i64 n)) rfl rfl rfl rfl (fun _ => by rw [e2]; rfl) Tryz.underlying3 rfl) rfl) ?_
                    refine Rf_ 14 95 rfl rfl rfl rfl rfl _ trivial (Y.z (y_move rfl rfl) rfl) ?_
                    refine Rf_ 15 96 rfl rfl rfl rfl rfl _ ⟨rfl, trivial⟩ (Y.z (y_indexOwnI (j := 5) 36 rfl rfl rfl (fun _ => rfl) rfl Tryz.underlying57 sz9 (fun _ => by simp)) rfl) ?_
                    refine Rf_ 16 97 rfl rfl rfl rfl rfl _ ⟨rfl, trivial⟩ (Y.z (y_loadO1 36 (val := (fun l : List UInt8 => str l)) rfl rfl rfl rfl (fun _ => rfl) Tryz.underlying9 rfl) rfl) ?_
                    refine Rf_ 17 98 rfl rfl rfl rfl rfl _ trivial (Y.z (y_build (zv := .agg #[.string ⟨#[]⟩, .int .i64 0, .int .i64 0, .int .i64 0, .int .i64 0]) (pl := [(0, 1), (1, 1), (2, 1), (3, 1), (4, 1)]) (out := [_, _, _, _, _]) rfl rfl Tryz.underlying200 z200 (by kernel_rfl) rfl) rfl) ?_
                    refine R_chain 18 rfl rfl ?_
                    refine S_buildSlice 99 99 rfl rfl rfl rfl rfl Tryz.underlying60 inf200 rfl (by decide) (by decide) rfl rfl (by decide) rfl (_) rfl ?_
                    intro b99
                    refine R_next ⟨.inr ⟨rfl, trivial⟩, .inl rfl, .inl rfl, .inl rfl, .inl rfl, .inl rfl, .inl rfl, .inl rfl, .inl rfl, .inl rfl, .inl rfl, trivial⟩ ?_
                    refine R_chain 19 rfl rfl ?_
                    obtain ⟨i100, hi100, hz100, hs100, hy100⟩ := info_parts inf200
                    refine S_append 100 911 99 rfl rfl rfl rfl rfl rfl rfl rfl Tryz.underlying60 hi100 hz100 hs100 hy100 rfl (by decide) (by decide) rfl ?_ ?_ ((o.cl ++ [(⟨f, nJ b, nJ c, nJ d, nJ e⟩ : SCall)]).length) ((o.cl ++ [(⟨f, nJ b, nJ c, nJ d, nJ e⟩ : SCall)]).flatMap SCall.enc) ?_ ?_ ?_
                    · (simp only [maxLen]; omega)
                    · omega
                    · simp
                    · simp [List.flatMap_append, SCall.enc]; rfl
                    intro A100 c100
                    refine R_next ⟨.inl rfl, .inl rfl, .inl rfl, .inl rfl, .inl rfl, .inl rfl, .inl rfl, .inl rfl, .inl rfl, .inl rfl, .inl rfl, trivial⟩ ?_
                    refine Rf_ 20 101 rfl rfl rfl rfl rfl _ trivial (Y.z (y_fieldAddr rfl rfl fa62_5) rfl) ?_
                    refine R_chain 21 rfl rfl ?_
                    refine S_store 2 rfl rfl rfl rfl rfl rfl sz60 rfl rfl ?_
                    refine R_next ⟨.inl rfl, .inl rfl, .inl rfl, .inl rfl, .inl rfl, .inl rfl, .inl rfl, .inl rfl, .inl rfl, .inl rfl, .inl rfl, trivial⟩ ?_
                    refine R_go (fun _ _ h => h) ?_
                    refine T_seq ?_
                    refine T_region ?_
                    refine S_ 188 rfl rfl rfl _ (y_move rfl rfl) ?_
                    refine S_ 189 rfl rfl rfl _ (y_not rfl rfl) ?_
                    refine S_go (fun _ _ h => h) ?_
                    refine T_cond rfl (fun h189 => ?_) (fun h189 => ?_)
                    · skip
                      rw [e1] at h189; cases h189
                    · skip
                      refine T_skip_go (fun _ _ h => h) ?_
                      refine T_region ?_
                      refine S_ 26 rfl rfl rfl _ (y_move rfl rfl) ?_
                      refine S_ 27 rfl rfl rfl _ (y_bin rfl rfl rfl (fun hg => b_add (by omega))) ?_
                      refine S_ 3 rfl rfl rfl _ (y_assign rfl rfl) ?_
                      refine S_nil (nextK6 (kf := [(0, 0), (3, 15), (24, 191)]) (kl := [(0, 0), (2, 15), (24, 191), (908, 911)]) (cutC 10 s).2.1 (n + 1) (kindOf a) (kindOf a) ({ o with cA := A100, cc := c100, cl := o.cl ++ [(⟨f, nJ b, nJ c, nJ d, nJ e⟩ : SCall)] }) k (by repeat (first | exact kf_nil | (apply kf_in; focus rfl) | (apply kf_out; focus rfl))) (by repeat (first | exact kl_nil | exact kl_rest (by assumption) rfl | (apply kl_in; focus rfl) | (apply kl_out; focus rfl))) ?_ ?_ ?_ ?_)
                      · omega
                      · exact ⟨by omega, hp2, ⟨f1, ⟨by show o.fl.length ≤ _; omega, f2.2⟩, ⟨by show o.ul.length ≤ _; omega, f3.2⟩, by show o.rl.length ≤ _; omega, ⟨by show (o.cl ++ [(⟨f, nJ b, nJ c, nJ d, nJ e⟩ : SCall)]).length ≤ _; rw [List.length_append]; show o.cl.length + 1 ≤ n + 1; omega, all_snoc rfl f5.2 hf⟩⟩, by rw [if_neg (by omega)]; omega, fun _ => by omega, .inr ⟨by omega, rfl, by omega⟩⟩
                      · exact ⟨rfl, rfl, rfl, trivial⟩
                      · exact ⟨rfl, rfl, rfl, rfl, rfl, trivial⟩
                  · skip
                    have e1 : numsOk [b, c, d, e] = false := h80
                    have hln : lineT (kindT s) (wordsT s) o.tab.pl = none := by rw [hkd, hka, hW, line4]; exact if_neg (by rw [e1]; simp)
                    rw [rdL_none hgo hbt hln] at hp2
                    refine T_skip_go (fun _ _ h => h) ?_
                    refine T_seq ?_
                    refine T_region ?_
                    refine S_ 188 rfl rfl rfl _ (y_move rfl rfl) ?_
                    refine S_ 189 rfl rfl rfl _ (y_not rfl rfl) ?_
                    refine S_go (fun _ _ h => h) ?_
                    refine T_cond rfl (fun h189 => ?_) (fun h189 => ?_)
                    · skip
                      refine T_seq ?_
                      refine T_region ?_
                      refine S_ 190 rfl rfl rfl _ (y_build (zv := .agg #[.string ⟨#[]⟩, .int .i64 0, .slice none 0 0, .slice none 0 0, .slice none 0 0, .slice none 0 0]) (pl := [(0, 1), (1, 1), (2, 1), (3, 1), (4, 1), (5, 1)]) (out := [.string ⟨#[]⟩, .int .i64 0, .slice none 0 0, .slice none 0 0, .slice none 0 0, .slice none 0 0]) rfl rfl Tryz.underlying62 z62 (by kernel_rfl) rfl) ?_
                      refine S_ 191 rfl rfl rfl _ (y_move rfl rfl) ?_
                      refine S_store 2 rfl rfl rfl rfl rfl rfl sz62 rfl rfl ?_
                      refine S_ 3 rfl rfl rfl _ (y_assign rfl rfl) ?_
                      refine S_ 4 rfl rfl rfl _ (y_assign rfl rfl) ?_
                      refine S_go (fun _ _ h => h) ?_
                      refine T_ret (fun a w hF hM => hRb a w (post_cell2 2 rfl rfl rfl rfl rfl Tryz.underlying62 rfl (by exact sz62) (fun w hM => ?_) a w hF hM))
                      rw [rdTxt_bad (by omega) hp2.symm]
                      exact ⟨OT0, rfl, ⟨rfl, OT0.sm⟩, Mem.nil4 (hM.keep (ks := [(0, 999)]) (by repeat (first | exact kl_rest (by assumption) rfl | (apply kl_in; focus rfl))) _ trivial : Mem w0 ([] ++ K) w)⟩
                    · skip
                      rw [e1] at h189; cases h189
      · try simp only [decide_eq_true_eq, decide_eq_false_iff_not, Bool.or_eq_true, Bool.or_eq_false_iff, Bool.and_eq_true, Bool.and_eq_false_iff, Bool.not_eq_true', Bool.not_eq_false', Bool.not_eq_true, Bool.not_eq_false, Bool.not_true, Bool.not_false, Int.not_lt, Int.not_le, not_or, not_and, Classical.not_not] at h25
        have hs0 : s = [] := by simpa using h25
        subst hs0
        have hn0 := hp5 rfl
        obtain ⟨k, rfl⟩ : ∃ k1, k = k1 + 1 := ⟨k - 1, by omega⟩
        rw [rdL_end hn0] at hp2
        have hsm : o.small := OT.fit_small hp3 (by omega)
        refine T_exit_go (fun _ _ h => h) ?_
        refine T_seq ?_
        refine T_seq ?_
        refine T_region ?_
        refine S_ 192 rfl rfl rfl _ (y_loadA 2 rfl rfl rfl Tryz.underlying62 rfl sz62) ?_
        refine S_ 193 rfl rfl rfl _ (y_call rfl rfl rfl cf25 (fun _ w hM => TableFault_any o.tab w (OT.ok hM hsm rfl rfl rfl rfl))) ?_
        refine S_ 16 rfl rfl rfl _ (y_assign rfl rfl) ?_
        refine S_go (fun _ _ h => h) ?_
        refine T_seq ?_
        refine T_region ?_
        refine S_ 194 rfl rfl rfl _ (y_move rfl rfl) ?_
        refine S_ 195 rfl rfl rfl _ (y_bin rfl rfl rfl (fun _ => b_neq)) ?_
        refine S_go (fun _ _ h => h) ?_
        refine T_cond rfl (fun h195 => ?_) (fun h195 => ?_)
        · try simp only [decide_eq_true_eq, decide_eq_false_iff_not, Bool.or_eq_true, Bool.or_eq_false_iff, Bool.and_eq_true, Bool.and_eq_false_iff, Bool.not_eq_true', Bool.not_eq_false', Bool.not_eq_true, Bool.not_eq_false, Bool.not_true, Bool.not_false, Int.not_lt, Int.not_le, not_or, not_and, Classical.not_not] at h195
          refine T_seq ?_
          refine T_region ?_
          refine S_ 196 rfl rfl rfl _ (y_build (zv := .agg #[.string ⟨#[]⟩, .int .i64 0, .slice none 0 0, .slice none 0 0, .slice none 0 0, .slice none 0 0]) (pl := [(0, 1), (1, 1), (2, 1), (3, 1), (4, 1), (5, 1)]) (out := [.string ⟨#[]⟩, .int .i64 0, .slice none 0 0, .slice none 0 0, .slice none 0 0, .slice none 0 0]) rfl rfl Tryz.underlying62 z62 (by kernel_rfl) rfl) ?_
          refine S_ 197 rfl rfl rfl _ (y_move rfl rfl) ?_
          refine S_store 2 rfl rfl rfl rfl rfl rfl sz62 rfl rfl ?_
          refine S_ 3 rfl rfl rfl _ (y_assign rfl rfl) ?_
          refine S_ 4 rfl rfl rfl _ (y_assign rfl rfl) ?_
          refine S_go (fun _ _ h => h) ?_
          refine T_ret (fun a w hF hM => hRb a w (post_cell2 2 rfl rfl rfl rfl rfl Tryz.underlying62 rfl (by exact sz62) (fun w hM => ?_) a w hF hM))
          have hk := OT.ok hM hsm rfl rfl rfl rfl
          rw [rdTxt_fault (by omega) hp2.symm (by rw [← tabNo_pl hk]; exact h195)]
          exact ⟨OT0, by rw [← tabNo_pl hk]; rfl, ⟨rfl, OT0.sm⟩, Mem.nil4 (hM.keep (ks := [(0, 999)]) (by repeat (first | exact kl_rest (by assumption) rfl | (apply kl_in; focus rfl))) _ trivial : Mem w0 ([] ++ K) w)⟩
        · try simp only [decide_eq_true_eq, decide_eq_false_iff_not, Bool.or_eq_true, Bool.or_eq_false_iff, Bool.and_eq_true, Bool.and_eq_false_iff, Bool.not_eq_true', Bool.not_eq_false', Bool.not_eq_true, Bool.not_eq_false, Bool.not_true, Bool.not_false, Int.not_lt, Int.not_le, not_or, not_and, Classical.not_not] at h195
          refine T_skip_go (fun _ _ h => h) ?_
          refine T_seq ?_
          refine T_region ?_
          refine S_ 198 rfl rfl rfl _ (y_loadA 2 rfl rfl rfl Tryz.underlying62 rfl sz62) ?_
          refine S_store 2 rfl rfl rfl rfl rfl rfl sz62 rfl rfl ?_
          refine S_ 3 rfl rfl rfl _ (y_assign rfl rfl) ?_
          refine S_ 4 rfl rfl rfl _ (y_assign rfl rfl) ?_
          refine S_go (fun _ _ h => h) ?_
          refine T_ret (fun a w hF hM => hRb a w (post_cell2 2 rfl rfl rfl rfl rfl Tryz.underlying62 rfl (by exact sz62) (fun w hM => ?_) a w hF hM))
          have hk := OT.ok hM hsm rfl rfl rfl rfl
          rw [rdTxt_ok (by omega) hp2.symm (by rw [← tabNo_pl hk]; exact h195)]
          exact ⟨o, rfl, ⟨rfl, hsm⟩, hM.keep (ks := [(0, 999)]) (by repeat (first | exact kl_rest (by assumption) rfl | (apply kl_in; focus rfl))) _ ⟨rfl, rfl, rfl, rfl, trivial⟩⟩
end Go.Proofs.YtkkngcdikbhkjaaGreatDoor
end
section
namespace Go.Proofs.YtkkngcdikbhkjaaGreatDoor
set_option linter.unusedSimpArgs false
set_option linter.unusedVariables false
set_option maxRecDepth 20000
open Go.RowKit Go.Eng
theorem twoT {i : Nat} (a b : List UInt8) (h : i < 2) : [str a, str b][i]? = some (str ([a, b].getD i [])) := by
  match i, h with
  | 0, _ => rfl
  | 1, _ => rfl
theorem rdTxt_zero {x : List UInt8} (h : ¬ (rdTxt x).2.2 = 0) : (rdTxt x).1 = PT0 := by
  unfold rdTxt at h ⊢
  split
  · rfl
  · rename_i h1
    rw [if_neg h1] at h
    dsimp only at h ⊢
    split
    · rfl
    · rename_i h2
      rw [if_neg h2] at h
      split
      · rfl
      · rename_i h3
        rw [if_neg h3] at h
        exact absurd rfl h
theorem same_txt {x : List UInt8} {o u : Tab} (ho : o.pl = (rdTxt x).1) (hu : u.pl = (rdTxt x).1) : (sameB o (if (rdTxt x).2.2 = 0 then u else Tab0) && decide ((rdTxt x).2.2 = (rdTxt x).2.2)) = true := by
  rw [decide_eq_true rfl, Bool.and_true, sameB_iff]
  split
  · rw [ho, hu]
  · rename_i h
    rw [ho, rdTxt_zero h]; rfl
theorem SymbolTexts_any (t : Tab) (s : List UInt8) (w : World) (hok : t.Ok w) (hP : P10 w) :
    Calls Tryz.prog 6 #[.agg #[str t.id, .int .i64 t.size, .slice t.fi.A t.fi.q t.fi.c, .slice t.fu.A t.fu.q t.fu.c, .slice t.ro.A t.ro.q t.ro.c, .slice t.ca.A t.ca.q t.ca.c], str s] w fun e w' => e = .returned (.bool true) ∧ Below w.heap.size w w' := by
  refine enter_args (args := [.agg #[str t.id, .int .i64 t.size, .slice t.fi.A t.fi.q t.fi.c, .slice t.fu.A t.fu.q t.fu.c, .slice t.ro.A t.ro.q t.ro.c, .slice t.ca.A t.ca.q t.ca.c], str s]) (F := _) Tryz.func6 rfl Tryz.ntmps6 rfl rfl ?_
  intro Rb hRb hRn
  refine T_seq ?_
  refine T_region ?_
  refine S_box 2 2 rfl rfl rfl rfl rfl ?_
  intro b2
  refine S_ 4 rfl rfl rfl _ (y_assign rfl rfl) ?_
  refine S_go (fun _ _ h => h) ?_
  refine T_seq ?_
  refine T_region ?_
  refine S_ 17 rfl rfl rfl _ (y_loadA 2 rfl rfl rfl Tryz.underlying62 rfl sz62) ?_
  refine S_ 18 rfl rfl rfl _ (y_call rfl rfl rfl cf25 (fun _ w hM => TableFault_any t w (hok.below hM.below))) ?_
  refine S_ 5 rfl rfl rfl _ (y_assign rfl rfl) ?_
  refine S_go (fun _ _ h => h) ?_
  refine T_seq ?_
  refine T_region ?_
  refine S_ 6 rfl rfl rfl _ (y_assign rfl rfl) ?_
  refine S_go (fun _ _ h => h) ?_
  refine T_seq ?_
  refine T_seq ?_
  refine T_region ?_
  refine S_ 19 rfl rfl rfl _ (y_move rfl rfl) ?_
  refine S_ 20 rfl rfl rfl _ (y_bin rfl rfl rfl (fun _ => b_eql)) ?_
  refine S_go (fun _ _ h => h) ?_
  refine T_cond rfl (fun h20 => ?_) (fun h20 => ?_)
  · try simp only [decide_eq_true_eq, decide_eq_false_iff_not, Bool.or_eq_true, Bool.or_eq_false_iff, Bool.and_eq_true, Bool.and_eq_false_iff, Bool.not_eq_true', Bool.not_eq_false', Bool.not_eq_true, Bool.not_eq_false, Bool.not_true, Bool.not_false, Int.not_lt, Int.not_le, not_or, not_and, Classical.not_not] at h20
    have e1 : textNo t = (if (1000000 : Int) < (tabT t.pl).length then 4 else 0) := fst_b h20 rfl
    refine T_seq ?_
    refine T_region ?_
    refine S_ 21 rfl rfl rfl _ (y_loadA 2 rfl rfl rfl Tryz.underlying62 rfl sz62) ?_
    refine S_ 22 rfl rfl rfl _ (y_call rfl rfl rfl cf26 (fun _ w hM => TableText_any t w (hok.below hM.below) h20 (hP.below hM.below))) ?_
    refine S_ 6 rfl rfl rfl _ (y_assign rfl rfl) ?_
    refine S_go (fun _ _ h => h) ?_
    refine T_region ?_
    refine S_ 23 rfl rfl rfl _ (y_move rfl rfl) ?_
    refine S_ 24 rfl rfl rfl _ (y_call rfl rfl rfl cf27 (fun _ w _ => long_any _ w)) ?_
    refine S_ 5 rfl rfl rfl _ (y_assign rfl rfl) ?_
    refine S_go (fun _ _ h => h) ?_
    refine T_seq ?_
    refine T_region ?_
    refine S_ 26 rfl rfl rfl _ (y_loadA 2 rfl rfl rfl Tryz.underlying62 rfl sz62) ?_
    refine S_ 27 rfl rfl rfl _ (y_call rfl rfl rfl cf28 (fun _ w hM => Text_any t w (hok.below hM.below) (hP.below hM.below))) ?_
    refine S_ 25 rfl rfl rfl _ (y_move rfl rfl) ?_
    refine S_ 28 rfl rfl rfl _ (y_extract rfl rfl rfl) ?_
    refine S_ 29 rfl rfl rfl _ (y_extract rfl rfl rfl) ?_
    refine S_ 7 rfl rfl rfl _ (y_assign rfl rfl) ?_
    refine S_ 8 rfl rfl rfl _ (y_assign rfl rfl) ?_
    refine S_go (fun _ _ h => h) ?_
    refine T_seq ?_
    refine T_seq ?_
    refine T_region ?_
    refine S_ 30 rfl rfl rfl _ (y_move rfl rfl) ?_
    refine S_ 31 rfl rfl rfl _ (y_move rfl rfl) ?_
    refine S_ 32 rfl rfl rfl _ (y_move rfl rfl) ?_
    refine S_ 33 rfl rfl rfl _ (y_move rfl rfl) ?_
    refine S_ 34 rfl rfl rfl _ (y_call rfl rfl rfl cf29 (fun _ w _ => told_any _ _ _ _ w)) ?_
    refine S_ 35 rfl rfl rfl _ (y_not rfl rfl) ?_
    refine S_go (fun _ _ h => h) ?_
    refine T_cond rfl (fun h35 => ?_) (fun h35 => ?_)
    · skip
      exfalso
      revert h35
      rw [textS, e1]
      simp [h20]
    · skip
      refine T_skip_go (fun _ _ h => h) ?_
      refine T_seq ?_
      refine T_seq ?_
      refine T_region ?_
      refine S_ 36 rfl rfl rfl _ (y_move rfl rfl) ?_
      refine S_ 37 rfl rfl rfl _ (y_move rfl rfl) ?_
      refine S_buildSlice 38 38 rfl rfl rfl rfl rfl Tryz.underlying57 inf9 rfl (by decide) (by decide) rfl rfl (by decide) rfl (_) rfl ?_
      intro b38
      refine S_ 39 rfl rfl rfl _ (y_len_slice rfl rfl Tryz.underlying57) ?_
      refine S_ 40 rfl rfl rfl _ (y_move rfl rfl) ?_
      refine S_go (fun _ _ h => h) ?_
      refine T_block ?_
      refine T_loopK1 (kf := [(4, 4), (10, 16), (40, 67)]) (kl := [(4, 4), (10, 16), (40, 67)]) (fun (i : Nat) => [(40, true, .int .i64 (i : Int))]) (fun (i : Nat) => []) (fun (i : Nat) => i ≤ 2) (fun (i : Nat) => 2 - i) 0 (by repeat (first | exact kf_nil | (apply kf_in; focus rfl) | (apply kf_out; focus rfl))) (by repeat (first | exact kl_nil | exact kl_rest (by assumption) rfl | (apply kl_in; focus rfl) | (apply kl_out; focus rfl))) ?_ ?_ ?_ ?_
      · omega
      · exact ⟨rfl, trivial⟩
      · exact trivial
      rintro i hp1
      refine T_seq ?_
      refine T_region ?_
      refine S_ 41 rfl rfl rfl _ (y_bin rfl rfl rfl (fun _ => b_lss)) ?_
      refine S_go (fun _ _ h => h) ?_
      refine T_seq ?_
      refine T_cond rfl (fun h41 => ?_) (fun h41 => ?_)
      · try simp only [decide_eq_true_eq, decide_eq_false_iff_not, Bool.or_eq_true, Bool.or_eq_false_iff, Bool.and_eq_true, Bool.and_eq_false_iff, Bool.not_eq_true', Bool.not_eq_false', Bool.not_eq_true, Bool.not_eq_false, Bool.not_true, Bool.not_false, Int.not_lt, Int.not_le, not_or, not_and, Classical.not_not] at h41
        refine T_skip_go (fun _ _ h => h) ?_
        refine T_seq ?_
        refine T_block ?_
        refine T_seq ?_
        refine T_region ?_
        refine S_ 42 rfl rfl rfl _ (y_indexOwn 38 rfl rfl rfl rfl Tryz.underlying57 sz9 (fun _ => by omega)) ?_
        refine S_ 43 rfl rfl rfl _ (y_load_own 38 rfl rfl rfl (fun _ => by omega) (fun _ => twoT _ _ (by omega)) Tryz.underlying9 rfl) ?_
        generalize List.getD _ i [] = x
        refine S_ 10 rfl rfl rfl _ (y_assign rfl rfl) ?_
        refine S_go (fun _ _ h => h) ?_
        refine T_seq ?_
        refine T_region ?_
        refine S_ 45 rfl rfl rfl _ (y_move rfl rfl) ?_
        refine S_callN 46 [] [(908, 808), (909, 809), (910, 810), (911, 811)] (X := OT) rfl rfl rfl rfl rfl rfl rfl cf30 rfl (fun z => .tuple #[z.tab.val, .int .i64 (rdTxt x).2.1, .int .i64 (rdTxt x).2.2]) (fun z => z.tab.pl = (rdTxt x).1 ∧ z.small) (fun z => [(908, rF z.fA z.fc z.fl), (909, rU z.uA z.uc z.ul), (910, rR z.rA z.rc z.rl), (911, rC z.cA z.cc z.cl)]) (fun _ => rfl) (fun _ => rfl) (fun K1 hK1 w hM => ReadText_any hK1 x w hM) ?_
        intro o ho
        refine S_ 44 rfl rfl rfl _ (y_move rfl rfl) ?_
        refine S_ 47 rfl rfl rfl _ (y_extract rfl rfl rfl) ?_
        refine S_ 48 rfl rfl rfl _ (y_extract rfl rfl rfl) ?_
        refine S_ 49 rfl rfl rfl _ (y_extract rfl rfl rfl) ?_
        refine S_alloc 11 11 rfl rfl rfl rfl z62 ?_
        intro b11
        refine S_store 11 rfl rfl rfl rfl rfl rfl sz62 rfl rfl ?_
        refine S_ 12 rfl rfl rfl _ (y_assign rfl rfl) ?_
        refine S_ 13 rfl rfl rfl _ (y_assign rfl rfl) ?_
        refine S_go (fun _ _ h => h) ?_
        refine T_seq ?_
        refine T_region ?_
        refine S_ 51 rfl rfl rfl _ (y_move rfl rfl) ?_
        refine S_callN 52 [] [(908, 708), (909, 709), (910, 710), (911, 711)] (X := OT) rfl rfl rfl rfl rfl rfl rfl cf31 rfl (fun z => .tuple #[z.tab.val, .int .i64 (rdTxt x).2.1, .int .i64 (rdTxt x).2.2]) (fun z => z.tab.pl = (rdTxt x).1 ∧ z.small) (fun z => [(908, rF z.fA z.fc z.fl), (909, rU z.uA z.uc z.ul), (910, rR z.rA z.rc z.rl), (911, rC z.cA z.cc z.cl)]) (fun _ => rfl) (fun _ => rfl) (fun K1 hK1 w hM => TableTextRead_any hK1 x w hM) ?_
        intro u hu
        refine S_ 50 rfl rfl rfl _ (y_move rfl rfl) ?_
        refine S_ 53 rfl rfl rfl _ (y_extract rfl rfl rfl) ?_
        refine S_ 54 rfl rfl rfl _ (y_extract rfl rfl rfl) ?_
        refine S_ 55 rfl rfl rfl _ (y_extract rfl rfl rfl) ?_
        refine S_alloc 14 14 rfl rfl rfl rfl z62 ?_
        intro b14
        refine S_store 14 rfl rfl rfl rfl rfl rfl sz62 rfl rfl ?_
        refine S_ 15 rfl rfl rfl _ (y_assign rfl rfl) ?_
        refine S_ 16 rfl rfl rfl _ (y_assign rfl rfl) ?_
        refine S_go (fun _ _ h => h) ?_
        refine T_seq ?_
        refine T_region ?_
        refine S_ 56 rfl rfl rfl _ (y_move rfl rfl) ?_
        refine S_ 57 rfl rfl rfl _ (y_move rfl rfl) ?_
        refine S_ 58 rfl rfl rfl _ (y_bin rfl rfl rfl (fun _ => b_neq)) ?_
        refine S_ 59 rfl rfl rfl _ (y_move rfl rfl) ?_
        refine Sg_ 60 rfl rfl rfl rfl rfl rfl _ (y_loadA 11 rfl rfl rfl Tryz.underlying62 rfl sz62) ?_
        refine Sg_ 61 rfl rfl rfl rfl rfl rfl _ (y_move rfl rfl) ?_
        refine Sg_ 62 rfl rfl rfl rfl rfl rfl _ (y_loadA 14 rfl rfl rfl Tryz.underlying62 rfl sz62) ?_
        refine Sg_ 63 rfl rfl rfl rfl rfl rfl _ (y_move rfl rfl) ?_
        refine Sg_ 64 rfl rfl rfl rfl rfl rfl _ (y_call rfl rfl rfl cf32 (fun _ w hM => table_any o.tab u.tab _ _ w (OT.okI 808 hM ho.2 rfl rfl rfl rfl) (OT.okI 708 hM hu.2 rfl rfl rfl rfl))) ?_
        refine Sg_ 65 rfl rfl rfl rfl rfl rfl _ (y_not rfl rfl) ?_
        refine S_ 66 rfl rfl rfl _ (y_or rfl rfl rfl) ?_
        refine S_go (fun _ _ h => h) ?_
        refine T_cond rfl (fun h66 => ?_) (fun h66 => ?_)
        · skip
          exfalso
          revert h66
          rw [same_txt ho.1 hu.1]
          simp
        · skip
          refine T_skip_go (fun _ _ h => h) ?_
          refine T_region ?_
          refine S_ 67 rfl rfl rfl _ (y_bin rfl rfl rfl (fun hg => b_add (by omega))) ?_
          refine S_ 40 rfl rfl rfl _ (y_move rfl rfl) ?_
          refine S_nil (nextK1 (kf := [(4, 4), (10, 16), (40, 67)]) (kl := [(4, 4), (10, 16), (40, 67)]) (i + 1) (by repeat (first | exact kf_nil | (apply kf_in; focus rfl) | (apply kf_out; focus rfl))) (by repeat (first | exact kl_none | exact kl_tail (by assumption) rfl (by repeat (first | exact ti_refl | (apply ti_cons; focus rfl))) | refine kl_cons rfl rfl ?_)) ?_ ?_ ?_ ?_)
          · omega
          · omega
          · exact ⟨rfl, trivial⟩
          · exact trivial
      · try simp only [decide_eq_true_eq, decide_eq_false_iff_not, Bool.or_eq_true, Bool.or_eq_false_iff, Bool.and_eq_true, Bool.and_eq_false_iff, Bool.not_eq_true', Bool.not_eq_false', Bool.not_eq_true, Bool.not_eq_false, Bool.not_true, Bool.not_false, Int.not_lt, Int.not_le, not_or, not_and, Classical.not_not] at h41
        refine T_exit_go (fun _ _ h => h) ?_
        refine T_seq ?_
        refine T_region ?_
        refine S_ 4 rfl rfl rfl _ (y_assign rfl rfl) ?_
        refine S_go (fun _ _ h => h) ?_
        refine T_ret (fun a w hF hM => hRb a w (post1 rfl rfl (fun w hM => ?_) a w hF hM))
        exact ⟨rfl, hM.below⟩
  · try simp only [decide_eq_true_eq, decide_eq_false_iff_not, Bool.or_eq_true, Bool.or_eq_false_iff, Bool.and_eq_true, Bool.and_eq_false_iff, Bool.not_eq_true', Bool.not_eq_false', Bool.not_eq_true, Bool.not_eq_false, Bool.not_true, Bool.not_false, Int.not_lt, Int.not_le, not_or, not_and, Classical.not_not] at h20
    have e1 : textNo t = tabNo t := fst_a rfl h20
    refine T_skip_go (fun _ _ h => h) ?_
    refine T_seq ?_
    refine T_region ?_
    refine S_ 26 rfl rfl rfl _ (y_loadA 2 rfl rfl rfl Tryz.underlying62 rfl sz62) ?_
    refine S_ 27 rfl rfl rfl _ (y_call rfl rfl rfl cf28 (fun _ w hM => Text_any t w (hok.below hM.below) (hP.below hM.below))) ?_
    refine S_ 25 rfl rfl rfl _ (y_move rfl rfl) ?_
    refine S_ 28 rfl rfl rfl _ (y_extract rfl rfl rfl) ?_
    refine S_ 29 rfl rfl rfl _ (y_extract rfl rfl rfl) ?_
    refine S_ 7 rfl rfl rfl _ (y_assign rfl rfl) ?_
    refine S_ 8 rfl rfl rfl _ (y_assign rfl rfl) ?_
    refine S_go (fun _ _ h => h) ?_
    refine T_seq ?_
    refine T_seq ?_
    refine T_region ?_
    refine S_ 30 rfl rfl rfl _ (y_move rfl rfl) ?_
    refine S_ 31 rfl rfl rfl _ (y_move rfl rfl) ?_
    refine S_ 32 rfl rfl rfl _ (y_move rfl rfl) ?_
    refine S_ 33 rfl rfl rfl _ (y_move rfl rfl) ?_
    refine S_ 34 rfl rfl rfl _ (y_call rfl rfl rfl cf29 (fun _ w _ => told_any _ _ _ _ w)) ?_
    refine S_ 35 rfl rfl rfl _ (y_not rfl rfl) ?_
    refine S_go (fun _ _ h => h) ?_
    refine T_cond rfl (fun h35 => ?_) (fun h35 => ?_)
    · skip
      exfalso
      revert h35
      rw [textS, e1]
      simp [h20]
    · skip
      refine T_skip_go (fun _ _ h => h) ?_
      refine T_seq ?_
      refine T_seq ?_
      refine T_region ?_
      refine S_ 36 rfl rfl rfl _ (y_move rfl rfl) ?_
      refine S_ 37 rfl rfl rfl _ (y_move rfl rfl) ?_
      refine S_buildSlice 38 38 rfl rfl rfl rfl rfl Tryz.underlying57 inf9 rfl (by decide) (by decide) rfl rfl (by decide) rfl (_) rfl ?_
      intro b38
      refine S_ 39 rfl rfl rfl _ (y_len_slice rfl rfl Tryz.underlying57) ?_
      refine S_ 40 rfl rfl rfl _ (y_move rfl rfl) ?_
      refine S_go (fun _ _ h => h) ?_
      refine T_block ?_
      refine T_loopK1 (kf := [(4, 4), (10, 16), (40, 67)]) (kl := [(4, 4), (10, 16), (40, 67)]) (fun (i : Nat) => [(40, true, .int .i64 (i : Int))]) (fun (i : Nat) => []) (fun (i : Nat) => i ≤ 2) (fun (i : Nat) => 2 - i) 0 (by repeat (first | exact kf_nil | (apply kf_in; focus rfl) | (apply kf_out; focus rfl))) (by repeat (first | exact kl_nil | exact kl_rest (by assumption) rfl | (apply kl_in; focus rfl) | (apply kl_out; focus rfl))) ?_ ?_ ?_ ?_
      · omega
      · exact ⟨rfl, trivial⟩
      · exact trivial
      rintro i hp1
      refine T_seq ?_
      refine T_region ?_
      refine S_ 41 rfl rfl rfl _ (y_bin rfl rfl rfl (fun _ => b_lss)) ?_
      refine S_go (fun _ _ h => h) ?_
      refine T_seq ?_
      refine T_cond rfl (fun h41 => ?_) (fun h41 => ?_)
      · try simp only [decide_eq_true_eq, decide_eq_false_iff_not, Bool.or_eq_true, Bool.or_eq_false_iff, Bool.and_eq_true, Bool.and_eq_false_iff, Bool.not_eq_true', Bool.not_eq_false', Bool.not_eq_true, Bool.not_eq_false, Bool.not_true, Bool.not_false, Int.not_lt, Int.not_le, not_or, not_and, Classical.not_not] at h41
        refine T_skip_go (fun _ _ h => h) ?_
        refine T_seq ?_
        refine T_block ?_
        refine T_seq ?_
        refine T_region ?_
        refine S_ 42 rfl rfl rfl _ (y_indexOwn 38 rfl rfl rfl rfl Tryz.underlying57 sz9 (fun _ => by omega)) ?_
        refine S_ 43 rfl rfl rfl _ (y_load_own 38 rfl rfl rfl (fun _ => by omega) (fun _ => twoT _ _ (by omega)) Tryz.underlying9 rfl) ?_
        generalize List.getD _ i [] = x
        refine S_ 10 rfl rfl rfl _ (y_assign rfl rfl) ?_
        refine S_go (fun _ _ h => h) ?_
        refine T_seq ?_
        refine T_region ?_
        refine S_ 45 rfl rfl rfl _ (y_move rfl rfl) ?_
        refine S_callN 46 [] [(908, 808), (909, 809), (910, 810), (911, 811)] (X := OT) rfl rfl rfl rfl rfl rfl rfl cf30 rfl (fun z => .tuple #[z.tab.val, .int .i64 (rdTxt x).2.1, .int .i64 (rdTxt x).2.2]) (fun z => z.tab.pl = (rdTxt x).1 ∧ z.small) (fun z => [(908, rF z.fA z.fc z.fl), (909, rU z.uA z.uc z.ul), (910, rR z.rA z.rc z.rl), (911, rC z.cA z.cc z.cl)]) (fun _ => rfl) (fun _ => rfl) (fun K1 hK1 w hM => ReadText_any hK1 x w hM) ?_
        intro o ho
        refine S_ 44 rfl rfl rfl _ (y_move rfl rfl) ?_
        refine S_ 47 rfl rfl rfl _ (y_extract rfl rfl rfl) ?_
        refine S_ 48 rfl rfl rfl _ (y_extract rfl rfl rfl) ?_
        refine S_ 49 rfl rfl rfl _ (y_extract rfl rfl rfl) ?_
        refine S_alloc 11 11 rfl rfl rfl rfl z62 ?_
        intro b11
        refine S_store 11 rfl rfl rfl rfl rfl rfl sz62 rfl rfl ?_
        refine S_ 12 rfl rfl rfl _ (y_assign rfl rfl) ?_
        refine S_ 13 rfl rfl rfl _ (y_assign rfl rfl) ?_
        refine S_go (fun _ _ h => h) ?_
        refine T_seq ?_
        refine T_region ?_
        refine S_ 51 rfl rfl rfl _ (y_move rfl rfl) ?_
        refine S_callN 52 [] [(908, 708), (909, 709), (910, 710), (911, 711)] (X := OT) rfl rfl rfl rfl rfl rfl rfl cf31 rfl (fun z => .tuple #[z.tab.val, .int .i64 (rdTxt x).2.1, .int .i64 (rdTxt x).2.2]) (fun z => z.tab.pl = (rdTxt x).1 ∧ z.small) (fun z => [(908, rF z.fA z.fc z.fl), (909, rU z.uA z.uc z.ul), (910, rR z.rA z.rc z.rl), (911, rC z.cA z.cc z.cl)]) (fun _ => rfl) (fun _ => rfl) (fun K1 hK1 w hM => TableTextRead_any hK1 x w hM) ?_
        intro u hu
        refine S_ 50 rfl rfl rfl _ (y_move rfl rfl) ?_
        refine S_ 53 rfl rfl rfl _ (y_extract rfl rfl rfl) ?_
        refine S_ 54 rfl rfl rfl _ (y_extract rfl rfl rfl) ?_
        refine S_ 55 rfl rfl rfl _ (y_extract rfl rfl rfl) ?_
        refine S_alloc 14 14 rfl rfl rfl rfl z62 ?_
        intro b14
        refine S_store 14 rfl rfl rfl rfl rfl rfl sz62 rfl rfl ?_
        refine S_ 15 rfl rfl rfl _ (y_assign rfl rfl) ?_
        refine S_ 16 rfl rfl rfl _ (y_assign rfl rfl) ?_
        refine S_go (fun _ _ h => h) ?_
        refine T_seq ?_
        refine T_region ?_
        refine S_ 56 rfl rfl rfl _ (y_move rfl rfl) ?_
        refine S_ 57 rfl rfl rfl _ (y_move rfl rfl) ?_
        refine S_ 58 rfl rfl rfl _ (y_bin rfl rfl rfl (fun _ => b_neq)) ?_
        refine S_ 59 rfl rfl rfl _ (y_move rfl rfl) ?_
        refine Sg_ 60 rfl rfl rfl rfl rfl rfl _ (y_loadA 11 rfl rfl rfl Tryz.underlying62 rfl sz62) ?_
        refine Sg_ 61 rfl rfl rfl rfl rfl rfl _ (y_move rfl rfl) ?_
        refine Sg_ 62 rfl rfl rfl rfl rfl rfl _ (y_loadA 14 rfl rfl rfl Tryz.underlying62 rfl sz62) ?_
        refine Sg_ 63 rfl rfl rfl rfl rfl rfl _ (y_move rfl rfl) ?_
        refine Sg_ 64 rfl rfl rfl rfl rfl rfl _ (y_call rfl rfl rfl cf32 (fun _ w hM => table_any o.tab u.tab _ _ w (OT.okI 808 hM ho.2 rfl rfl rfl rfl) (OT.okI 708 hM hu.2 rfl rfl rfl rfl))) ?_
        refine Sg_ 65 rfl rfl rfl rfl rfl rfl _ (y_not rfl rfl) ?_
        refine S_ 66 rfl rfl rfl _ (y_or rfl rfl rfl) ?_
        refine S_go (fun _ _ h => h) ?_
        refine T_cond rfl (fun h66 => ?_) (fun h66 => ?_)
        · skip
          exfalso
          revert h66
          rw [same_txt ho.1 hu.1]
          simp
        · skip
          refine T_skip_go (fun _ _ h => h) ?_
          refine T_region ?_
          refine S_ 67 rfl rfl rfl _ (y_bin rfl rfl rfl (fun hg => b_add (by omega))) ?_
          refine S_ 40 rfl rfl rfl _ (y_move rfl rfl) ?_
          refine S_nil (nextK1 (kf := [(4, 4), (10, 16), (40, 67)]) (kl := [(4, 4), (10, 16), (40, 67)]) (i + 1) (by repeat (first | exact kf_nil | (apply kf_in; focus rfl) | (apply kf_out; focus rfl))) (by repeat (first | exact kl_none | exact kl_tail (by assumption) rfl (by repeat (first | exact ti_refl | (apply ti_cons; focus rfl))) | refine kl_cons rfl rfl ?_)) ?_ ?_ ?_ ?_)
          · omega
          · omega
          · exact ⟨rfl, trivial⟩
          · exact trivial
      · try simp only [decide_eq_true_eq, decide_eq_false_iff_not, Bool.or_eq_true, Bool.or_eq_false_iff, Bool.and_eq_true, Bool.and_eq_false_iff, Bool.not_eq_true', Bool.not_eq_false', Bool.not_eq_true, Bool.not_eq_false, Bool.not_true, Bool.not_false, Int.not_lt, Int.not_le, not_or, not_and, Classical.not_not] at h41
        refine T_exit_go (fun _ _ h => h) ?_
        refine T_seq ?_
        refine T_region ?_
        refine S_ 4 rfl rfl rfl _ (y_assign rfl rfl) ?_
        refine S_go (fun _ _ h => h) ?_
        refine T_ret (fun a w hF hM => hRb a w (post1 rfl rfl (fun w hM => ?_) a w hF hM))
        exact ⟨rfl, hM.below⟩
end Go.Proofs.YtkkngcdikbhkjaaGreatDoor
end
section
namespace Go.Proofs.YtkkngcdikbhkjaaGreatDoor
set_option linter.unusedSimpArgs false
set_option linter.unusedVariables false
set_option maxRecDepth 20000
open Go.RowKit Go.Eng
section
variable {H : Type} {enc : TypeId × Value → H} {w : World}
def IntOk (n : Int) : Prop := (Lit.int .i64 n).wf = true
def ShortS (s : List UInt8) : Prop := s.length ≤ reachBytes
def strD (l : List UInt8) (d : DataW H) : Prop := d = .lit (.string l)
def intD (n : Int) (d : DataW H) : Prop := d = .lit (.int .i64 n)
theorem op_s : Opn enc Tryz.prog w 9 strEnc ShortS (strD (H := H)) := opn_str Tryz.underlying9
theorem op_i : Opn enc Tryz.prog w 3 (fun n : Int => [Value.int .i64 n]) IntOk (intD (H := H)) := opn_int Tryz.underlying3
def slV {X : Type} (s : Sl X) : List Value := [.slice s.A s.q s.c]
def slG {X : Type} (e : X → List Value) (size : Nat) (G : X → Prop) (w : World) (s : Sl X) : Prop := s.Ok e size w ∧ s.q ≤ reachBytes ∧ ∀ a ∈ s.l, G a
def funcG (f : SFunc) : Prop := ShortS f.name ∧ IntOk f.fr ∧ IntOk f.tu
def funcD (f : SFunc) (d : DataW H) : Prop := ∃ d1 d2 d3, d = .agg [d1, d2, d3] ∧ strD f.name d1 ∧ intD f.fr d2 ∧ intD f.tu d3
theorem op_func : Opn enc Tryz.prog w 196 SFunc.enc funcG (funcD (H := H)) :=
  (opn_struct Tryz.underlying196 co196 (opf_cons op_s rfl co9 (opf_cons op_i rfl co3 (opf_cons op_i rfl co3 opf_nil)))).map (fun p => (⟨p.1, p.2.1, p.2.2.1⟩ : SFunc)) (fun _ => rfl)
    (fun _ h => ⟨h.1, h.2.1, h.2.2.1⟩) (fun p d h => by obtain ⟨_, rfl, d1, _, rfl, h1, d2, _, rfl, h2, d3, _, rfl, h3, rfl⟩ := h; exact ⟨d1, d2, d3, rfl, h1, h2, h3⟩)
def rowG (f : SRow) : Prop := IntOk f.pos ∧ IntOk f.fi ∧ IntOk f.ln
def rowD (f : SRow) (d : DataW H) : Prop := ∃ d1 d2 d3, d = .agg [d1, d2, d3] ∧ intD f.pos d1 ∧ intD f.fi d2 ∧ intD f.ln d3
theorem op_row : Opn enc Tryz.prog w 198 SRow.enc rowG (rowD (H := H)) :=
  (opn_struct Tryz.underlying198 co198 (opf_cons op_i rfl co3 (opf_cons op_i rfl co3 (opf_cons op_i rfl co3 opf_nil)))).map (fun p => (⟨p.1, p.2.1, p.2.2.1⟩ : SRow)) (fun _ => rfl)
    (fun _ h => ⟨h.1, h.2.1, h.2.2.1⟩) (fun p d h => by obtain ⟨_, rfl, d1, _, rfl, h1, d2, _, rfl, h2, d3, _, rfl, h3, rfl⟩ := h; exact ⟨d1, d2, d3, rfl, h1, h2, h3⟩)
def callG (f : SCall) : Prop := ShortS f.name ∧ IntOk f.fr ∧ IntOk f.tu ∧ IntOk f.fi ∧ IntOk f.ln
def callD (f : SCall) (d : DataW H) : Prop := ∃ d1 d2 d3 d4 d5, d = .agg [d1, d2, d3, d4, d5] ∧ strD f.name d1 ∧ intD f.fr d2 ∧ intD f.tu d3 ∧ intD f.fi d4 ∧ intD f.ln d5
theorem op_call : Opn enc Tryz.prog w 200 SCall.enc callG (callD (H := H)) :=
  (opn_struct Tryz.underlying200 co200 (opf_cons op_s rfl co9 (opf_cons op_i rfl co3 (opf_cons op_i rfl co3 (opf_cons op_i rfl co3 (opf_cons op_i rfl co3 opf_nil)))))).map (fun p => (⟨p.1, p.2.1, p.2.2.1, p.2.2.2.1, p.2.2.2.2.1⟩ : SCall)) (fun _ => rfl)
    (fun _ h => ⟨h.1, h.2.1, h.2.2.1, h.2.2.2.1, h.2.2.2.2.1⟩) (fun p d h => by obtain ⟨_, rfl, d1, _, rfl, h1, d2, _, rfl, h2, d3, _, rfl, h3, d4, _, rfl, h4, d5, _, rfl, h5, rfl⟩ := h; exact ⟨d1, d2, d3, d4, d5, rfl, h1, h2, h3, h4, h5⟩)
theorem op_files : Opn enc Tryz.prog w 57 slV (slG strEnc 1 ShortS w) (SlRel (strD (H := H))) := opn_slice Tryz.underlying57 co9 (by decide) (by rw [bo9]; decide) (fun _ => rfl) op_s
theorem op_funcs : Opn enc Tryz.prog w 58 slV (slG SFunc.enc 3 funcG w) (SlRel (funcD (H := H))) := opn_slice Tryz.underlying58 co196 (by decide) (by rw [bo196]; decide) (fun _ => rfl) op_func
theorem op_rows : Opn enc Tryz.prog w 59 slV (slG SRow.enc 3 rowG w) (SlRel (rowD (H := H))) := opn_slice Tryz.underlying59 co198 (by decide) (by rw [bo198]; decide) (fun _ => rfl) op_row
theorem op_calls : Opn enc Tryz.prog w 60 slV (slG SCall.enc 5 callG w) (SlRel (callD (H := H))) := opn_slice Tryz.underlying60 co200 (by decide) (by rw [bo200]; decide) (fun _ => rfl) op_call
theorem reach_len : reachBytes ≤ 4611686018427387904 := by decide
def tabD (t : Tab) (d : DataW H) : Prop := ∃ d1 d2 d3 d4 d5 d6, d = .agg [d1, d2, d3, d4, d5, d6] ∧ strD t.id d1 ∧ intD t.size d2 ∧ SlRel strD t.fi d3 ∧ SlRel funcD t.fu d4 ∧ SlRel rowD t.ro d5 ∧ SlRel callD t.ca d6
theorem op_tab : Opn enc Tryz.prog w 62 Tab.enc (Tab.Ok w) (tabD (H := H)) :=
  (opn_struct Tryz.underlying62 co62 (opf_cons op_s rfl co9 (opf_cons op_i rfl co3 (opf_cons op_files rfl co57 (opf_cons op_funcs rfl co58 (opf_cons op_rows rfl co59 (opf_cons op_calls rfl co60 opf_nil))))))).map
    (fun p => (⟨p.1, p.2.1, p.2.2.1, p.2.2.2.1, p.2.2.2.2.1, p.2.2.2.2.2.1⟩ : Tab)) (fun _ => rfl)
    (fun p h => by
      obtain ⟨h1, _, h3, h4, h5, h6, _⟩ := h
      have := reach_len
      exact ⟨h3.1, h4.1, h5.1, h6.1, ⟨Nat.le_trans h1 this, Nat.le_trans h3.2.1 this, Nat.le_trans h4.2.1 this, Nat.le_trans h5.2.1 this, Nat.le_trans h6.2.1 this⟩,
        fun s hs => Nat.le_trans (h3.2.2 s hs) this, fun f hf => Nat.le_trans (h4.2.2 f hf).1 this, fun f hf => Nat.le_trans (h6.2.2 f hf).1 this⟩)
    (fun p d h => by obtain ⟨_, rfl, d1, _, rfl, h1, d2, _, rfl, h2, d3, _, rfl, h3, d4, _, rfl, h4, d5, _, rfl, h5, d6, _, rfl, h6, rfl⟩ := h; exact ⟨d1, d2, d3, d4, d5, d6, rfl, h1, h2, h3, h4, h5, h6⟩)
end
end Go.Proofs.YtkkngcdikbhkjaaGreatDoor
end
