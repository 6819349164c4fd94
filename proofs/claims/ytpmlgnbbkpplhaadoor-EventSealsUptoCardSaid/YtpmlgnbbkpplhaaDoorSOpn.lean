/- Open and the reference's Opened read the same of any text. Conditions: those of each theorem. -/
import Derived.Test.YtpmlgnbbkpplhaaDoorSeal
import Derived.Test.YtpmlgnbbkpplhaaDoorPerm
import Derived.Test.YtpmlgnbbkpplhaaDoorMov
namespace Go.Proofs.YtpmlgnbbkpplhaaDoor
set_option linter.unusedSimpArgs false
set_option linter.unusedVariables false
set_option maxRecDepth 20000
open Go.RowKit Go.Eng
theorem getD_some {α : Type} {l : List α} {j : Nat} {d : α} (h : j < l.length) : l[j]? = some (l.getD j d) := by
  rw [List.getD_eq_getElem?_getD, List.getElem?_eq_getElem h]; rfl
def itemJ (s : List UInt8) : Nat := plainJ (cutC 32 (cutC 10 s).1).2.1 7
def itemBad (s : List UInt8) : Bool := !(cutC 10 s).2.2 || !(cutC 32 (cutC 10 s).1).2.2 || !plainOk (cutC 32 (cutC 10 s).1).2.1 7 || decide ((cutC 32 (cutC 10 s).1).1 = []) || decide ((((cutC 10 s).2.1.length : Nat) : Int) ≤ ((itemJ s : Nat) : Int)) || !decide ((((cutC 10 s).2.1.getD (itemJ s) 0).toNat : Int) = 10)
def itemOf (s : List UInt8) : SItem := ⟨(cutC 32 (cutC 10 s).1).1, (cutC 10 s).2.1.take (itemJ s)⟩
def itemNext (s : List UInt8) : List UInt8 := (cutC 10 s).2.1.drop (itemJ s + 1)
def itemsGo : Nat → List UInt8 → List SItem → Option (List SItem × List UInt8)
  | 0, s, l => some (l, s)
  | k + 1, s, l => if itemBad s = true then none else itemsGo k (itemNext s) (l ++ [itemOf s])
def oiRes (s : List UInt8) (m : Nat) : List SItem × Bool := match itemsGo m s [] with
  | none => ([], false)
  | some (l, r) => (l, decide (r = []))
theorem cut_le (c : UInt8) (s : List UInt8) : (cutC c s).1.length ≤ s.length ∧ (cutC c s).2.1.length ≤ s.length := by
  unfold cutC
  split
  · exact ⟨Nat.le_refl _, Nat.zero_le _⟩
  · simp only [List.length_take, List.length_drop]; omega
theorem item_ok {s : List UInt8} (h : itemBad s = false) : itemJ s < (cutC 10 s).2.1.length := by
  simp only [itemBad, Bool.or_eq_false_iff, decide_eq_false_iff_not] at h
  have := h.1.2; omega
theorem itemNum_any (s : List UInt8) (hs : s.length ≤ 1000000) (w : World) :
    Calls Tryd.prog 50 #[str (cutC 32 (cutC 10 s).1).2.1, .int .i64 7] w fun e w' => e = .returned (.tuple #[.int .i64 ((itemJ s : Nat) : Int), .bool (plainOk (cutC 32 (cutC 10 s).1).2.1 7)]) ∧ Below w.heap.size w w' :=
  plainNumber_any _ 7 (by decide) (by have := cut_le 10 s; have := cut_le 32 (cutC 10 s).1; omega) w
theorem itemWh_any (s : List UInt8) (hs : s.length ≤ 1000000) (w : World) :
    Calls Tryd.prog 53 #[str (cutC 32 (cutC 10 s).1).2.1, .int .i64 7] w fun e w' => e = .returned (.tuple #[.int .i64 ((itemJ s : Nat) : Int), .bool (plainOk (cutC 32 (cutC 10 s).1).2.1 7)]) ∧ Below w.heap.size w w' :=
  whole_any _ 7 (by decide) (by have := cut_le 10 s; have := cut_le 32 (cutC 10 s).1; omega) w
set_option maxHeartbeats 1600000 in
theorem openItems_any (u : List UInt8) (m : Nat) (hu : u.length ≤ 1000000) (hm : m ≤ 1000) (w : World) :
    Calls Tryd.prog 51 #[str u, .int .i64 (m : Int)] w fun e w' => ∃ A c, e = .returned (.tuple #[.slice A (oiRes u m).1.length c, .bool (oiRes u m).2]) ∧ w'.ownsRow w.heap.size 56 2 (.slice A (oiRes u m).1.length c) (oiRes u m).1.length ((oiRes u m).1.flatMap SItem.enc) ∧ Below w.heap.size w w' := by
  have nilR : ∀ {w' : World}, w'.ownsRow w.heap.size 56 2 (.slice none 0 0) 0 (([] : List SItem).flatMap SItem.enc) := fun {w'} => World.ownsRow_nil _ _ _ _
  refine enter_args (args := [str u, .int .i64 (m : Int)]) (F := _) Tryd.func51 rfl Tryd.ntmps51 rfl rfl ?_
  intro Rb hRb hRn
  refine T_seq ?_
  refine T_region ?_
  refine S_nilSlice 4 (e := 56) (size := 2) ?_
  refine S_ 4 rfl rfl rfl _ (y_assign rfl rfl) ?_
  refine S_ 5 rfl rfl rfl _ (y_assign rfl rfl) ?_
  refine S_go (fun _ _ h => h) ?_
  refine T_seq ?_
  refine T_region ?_
  refine S_nilSlice 6 (e := 56) (size := 2) ?_
  refine S_ 6 rfl rfl rfl _ (y_assign rfl rfl) ?_
  refine S_go (fun _ _ h => h) ?_
  refine T_seq ?_
  refine T_seq ?_
  refine T_region ?_
  refine S_ 15 rfl rfl rfl _ (y_move rfl rfl) ?_
  refine S_ 16 rfl rfl rfl _ (y_move rfl rfl) ?_
  refine S_go (fun _ _ h => h) ?_
  refine T_block ?_
  refine T_loopK5 (kf := [(0, 0), (4, 14), (16, 73)]) (kl := [(0, 0), (4, 14), (16, 73)]) (fun (i : Nat) (s : List UInt8) (L : List SItem) (A : Option Addr) (c : Nat) => [(16, true, .int .i64 (i : Int)), (0, true, str s), (6, true, .slice A i c)]) (fun (i : Nat) (s : List UInt8) (L : List SItem) (A : Option Addr) (c : Nat) => [(6, .own 56 2 (.slice A i c) i (L.flatMap SItem.enc))]) (fun (i : Nat) (s : List UInt8) (L : List SItem) (A : Option Addr) (c : Nat) => i ≤ m ∧ itemsGo (m - i) s L = itemsGo m u [] ∧ L.length = i ∧ s.length ≤ u.length) (fun (i : Nat) (s : List UInt8) (L : List SItem) (A : Option Addr) (c : Nat) => m - i) 0 u [] none 0 (by repeat (first | exact kf_nil | (apply kf_in; focus rfl) | (apply kf_out; focus rfl))) (by repeat (first | exact kl_nil | exact kl_rest (by assumption) rfl | (apply kl_in; focus rfl) | (apply kl_out; focus rfl))) ?_ ?_ ?_ ?_
  · exact ⟨by omega, rfl, rfl, by omega⟩
  · exact ⟨rfl, rfl, rfl, trivial⟩
  · exact ⟨rfl, trivial⟩
  rintro i s L A c ⟨hp1, hp2, hp3, hp4⟩
  refine T_seq ?_
  refine T_region ?_
  refine S_ 17 rfl rfl rfl _ (y_bin rfl rfl rfl (fun _ => b_lss)) ?_
  refine S_go (fun _ _ h => h) ?_
  refine T_seq ?_
  refine T_cond rfl (fun h17 => ?_) (fun h17 => ?_)
  · try simp only [decide_eq_true_eq, decide_eq_false_iff_not, Bool.or_eq_true, Bool.or_eq_false_iff, Bool.and_eq_true, Bool.and_eq_false_iff, Bool.not_eq_true', Bool.not_eq_false', Bool.not_eq_true, Bool.not_eq_false, Bool.not_true, Bool.not_false, Int.not_lt, Int.not_le, not_or, not_and, Classical.not_not] at h17
    obtain ⟨hc1, hc2⟩ := cut_le 10 s
    obtain ⟨hc3, hc4⟩ := cut_le 32 (cutC 10 s).1
    obtain ⟨k, hk⟩ : ∃ k, m - i = k + 1 := ⟨m - i - 1, by omega⟩
    rw [hk, itemsGo] at hp2
    refine T_skip_go (fun _ _ h => h) ?_
    refine T_seq ?_
    refine T_block ?_
    refine T_seq ?_
    refine T_region ?_
    refine S_ 19 rfl rfl rfl _ (y_move rfl rfl) ?_
    refine S_ 20 rfl rfl rfl _ (y_call rfl rfl rfl cf47 (fun _ w _ => Cut1_any s 10 w (by omega))) ?_
    refine S_ 18 rfl rfl rfl _ (y_move rfl rfl) ?_
    refine S_ 21 rfl rfl rfl _ (y_extract rfl rfl rfl) ?_
    refine S_ 22 rfl rfl rfl _ (y_extract rfl rfl rfl) ?_
    refine S_ 23 rfl rfl rfl _ (y_extract rfl rfl rfl) ?_
    refine S_ 7 rfl rfl rfl _ (y_assign rfl rfl) ?_
    refine S_ 8 rfl rfl rfl _ (y_assign rfl rfl) ?_
    refine S_ 9 rfl rfl rfl _ (y_assign rfl rfl) ?_
    refine S_go (fun _ _ h => h) ?_
    refine T_seq ?_
    refine T_region ?_
    refine S_ 25 rfl rfl rfl _ (y_move rfl rfl) ?_
    refine S_ 26 rfl rfl rfl _ (y_call rfl rfl rfl cf47 (fun _ w _ => Cut1_any (cutC 10 s).1 32 w (by omega))) ?_
    refine S_ 24 rfl rfl rfl _ (y_move rfl rfl) ?_
    refine S_ 27 rfl rfl rfl _ (y_extract rfl rfl rfl) ?_
    refine S_ 28 rfl rfl rfl _ (y_extract rfl rfl rfl) ?_
    refine S_ 29 rfl rfl rfl _ (y_extract rfl rfl rfl) ?_
    refine S_ 10 rfl rfl rfl _ (y_assign rfl rfl) ?_
    refine S_ 11 rfl rfl rfl _ (y_assign rfl rfl) ?_
    refine S_ 12 rfl rfl rfl _ (y_assign rfl rfl) ?_
    refine S_go (fun _ _ h => h) ?_
    refine T_seq ?_
    refine T_region ?_
    refine S_ 31 rfl rfl rfl _ (y_move rfl rfl) ?_
    refine S_ 32 rfl rfl rfl _ (y_call rfl rfl rfl cf50 (fun _ w _ => itemNum_any s (by omega) w)) ?_
    refine S_ 30 rfl rfl rfl _ (y_move rfl rfl) ?_
    refine S_ 33 rfl rfl rfl _ (y_extract rfl rfl rfl) ?_
    refine S_ 34 rfl rfl rfl _ (y_extract rfl rfl rfl) ?_
    refine S_ 13 rfl rfl rfl _ (y_assign rfl rfl) ?_
    refine S_ 14 rfl rfl rfl _ (y_assign rfl rfl) ?_
    refine S_go (fun _ _ h => h) ?_
    refine T_seq ?_
    refine T_seq ?_
    refine T_region ?_
    refine S_ 35 rfl rfl rfl _ (y_move rfl rfl) ?_
    refine S_ 36 rfl rfl rfl _ (y_not rfl rfl) ?_
    refine S_ 37 rfl rfl rfl _ (y_move rfl rfl) ?_
    refine Sg_ 38 rfl rfl rfl rfl rfl rfl _ (y_move rfl rfl) ?_
    refine Sg_ 39 rfl rfl rfl rfl rfl rfl _ (y_not rfl rfl) ?_
    refine S_ 40 rfl rfl rfl _ (y_or rfl rfl rfl) ?_
    refine S_ 41 rfl rfl rfl _ (y_move rfl rfl) ?_
    refine Sg_ 42 rfl rfl rfl rfl rfl rfl _ (y_move rfl rfl) ?_
    refine Sg_ 43 rfl rfl rfl rfl rfl rfl _ (y_not rfl rfl) ?_
    refine S_ 44 rfl rfl rfl _ (y_or rfl rfl rfl) ?_
    refine S_ 45 rfl rfl rfl _ (y_move rfl rfl) ?_
    refine Sg_ 46 rfl rfl rfl rfl rfl rfl _ (y_move rfl rfl) ?_
    refine Sg_ 47 rfl rfl rfl rfl rfl rfl _ (y_bin rfl rfl rfl (fun _ => b_eqls)) ?_
    refine S_ 48 rfl rfl rfl _ (y_or rfl rfl rfl) ?_
    refine S_ 49 rfl rfl rfl _ (y_move rfl rfl) ?_
    refine Sg_ 50 rfl rfl rfl rfl rfl rfl _ (y_move rfl rfl) ?_
    refine Sg_ 51 rfl rfl rfl rfl rfl rfl _ (y_move rfl rfl) ?_
    refine Sg_ 52 rfl rfl rfl rfl rfl rfl _ (y_len_str rfl rfl Tryd.underlying9) ?_
    refine Sg_ 53 rfl rfl rfl rfl rfl rfl _ (y_bin rfl rfl rfl (fun _ => b_geq)) ?_
    refine S_ 54 rfl rfl rfl _ (y_or rfl rfl rfl) ?_
    refine S_ 55 rfl rfl rfl _ (y_move rfl rfl) ?_
    refine Sg_ 56 rfl rfl rfl rfl rfl rfl _ (y_move rfl rfl) ?_
    refine Sg_ 57 rfl rfl rfl rfl rfl rfl _ (y_move rfl rfl) ?_
    refine Sg_ 58 rfl rfl rfl rfl rfl rfl _ (y_index_str (j := itemJ s) rfl rfl rfl Tryd.underlying9 (fun hg => by simp at hg; omega)) ?_
    refine Sg_ 59 rfl rfl rfl rfl rfl rfl _ (y_bin rfl rfl rfl (fun _ => b_neq)) ?_
    refine S_ 60 rfl rfl rfl _ (y_as (v' := .bool (itemBad s)) (by exact rfl) (y_or rfl rfl rfl)) ?_
    refine S_go (fun _ _ h => h) ?_
    refine T_cond rfl (fun h60 => ?_) (fun h60 => ?_)
    · skip
      rw [if_pos h60] at hp2
      refine T_seq ?_
      refine T_region ?_
      refine S_nilSlice 4 (e := 56) (size := 2) ?_
      refine S_ 4 rfl rfl rfl _ (y_assign rfl rfl) ?_
      refine S_ 5 rfl rfl rfl _ (y_assign rfl rfl) ?_
      refine S_go (fun _ _ h => h) ?_
      refine T_ret (fun a w hF hM => hRb a w (post2 rfl rfl rfl (fun w hM => ?_) a w hF hM))
      have hr : oiRes u m = ([], false) := by rw [oiRes, ← hp2]
      rw [hr]
      exact ⟨none, 0, rfl, nilR, hM.below⟩
    · skip
      rw [if_neg (by rw [h60]; exact Bool.false_ne_true)] at hp2
      have hij := item_ok h60
      refine T_skip_go (fun _ _ h => h) ?_
      refine T_seq ?_
      refine T_region ?_
      refine S_ 61 rfl rfl rfl _ (y_move rfl rfl) ?_
      refine S_ 62 rfl rfl rfl _ (y_move rfl rfl) ?_
      refine S_ 63 rfl rfl rfl _ (y_move rfl rfl) ?_
      refine S_ 64 rfl rfl rfl _ (y_move rfl rfl) ?_
      refine S_ 65 rfl rfl rfl _ (y_as (v' := str ((cutC 10 s).2.1.take (itemJ s))) (by rfl) (y_strTo rfl rfl rfl Tryd.underlying9 (fun _ => by omega))) ?_
      refine S_ 66 rfl rfl rfl _ (y_build (zv := .agg #[.string ⟨#[]⟩, .string ⟨#[]⟩]) (pl := [(0, 1), (1, 1)]) (out := [_, _]) rfl rfl Tryd.underlying56 z56 (by kernel_rfl) rfl) ?_
      refine S_buildSlice 67 67 rfl rfl rfl rfl rfl Tryd.underlying49 inf56 rfl (by decide) (by decide) rfl rfl (by decide) rfl (_) rfl ?_
      intro b67
      obtain ⟨i68, hi68, hz68, hs68, hy68⟩ := info_parts inf56
      refine S_append 68 6 67 rfl rfl rfl rfl rfl rfl rfl rfl Tryd.underlying49 hi68 hz68 hs68 hy68 rfl (by decide) (by decide) rfl ?_ ?_ (i + 1) ((L ++ [itemOf s]).flatMap SItem.enc) ?_ ?_ ?_
      · (simp only [maxLen]; omega)
      · omega
      · rfl
      · simp [List.flatMap_append]; rfl
      intro A68 c68
      refine S_ 6 rfl rfl rfl _ (y_assign rfl rfl) ?_
      refine S_go (fun _ _ h => h) ?_
      refine T_region ?_
      refine S_ 69 rfl rfl rfl _ (y_move rfl rfl) ?_
      refine S_ 70 rfl rfl rfl _ (y_move rfl rfl) ?_
      refine S_ 71 rfl rfl rfl _ (y_bin rfl rfl rfl (fun hg => b_addv (((itemJ s + 1 : Nat) : Int)) (by omega) (by omega))) ?_
      refine S_ 72 rfl rfl rfl _ (y_as (v' := str (itemNext s)) (by rfl) (y_strFrom rfl rfl rfl Tryd.underlying9 (fun _ => by omega))) ?_
      refine S_ 0 rfl rfl rfl _ (y_assign rfl rfl) ?_
      refine S_go (fun _ _ h => h) ?_
      refine T_region ?_
      refine S_ 73 rfl rfl rfl _ (y_bin rfl rfl rfl (fun hg => b_add (by omega))) ?_
      refine S_ 16 rfl rfl rfl _ (y_move rfl rfl) ?_
      refine S_nil (nextK5 (kf := [(0, 0), (4, 14), (16, 73)]) (kl := [(0, 0), (4, 14), (16, 73)]) (i + 1) (itemNext s) (L ++ [itemOf s]) A68 c68 (by repeat (first | exact kf_nil | (apply kf_in; focus rfl) | (apply kf_out; focus rfl))) (by repeat (first | exact kl_nil | exact kl_rest (by assumption) rfl | (apply kl_in; focus rfl) | (apply kl_out; focus rfl))) ?_ ?_ ?_ ?_)
      · omega
      · exact ⟨by omega, by rw [← hp2, show m - (i + 1) = k by omega], by rw [List.length_append, hp3]; rfl, by rw [itemNext, List.length_drop]; omega⟩
      · exact ⟨rfl, rfl, rfl, trivial⟩
      · exact ⟨rfl, trivial⟩
  · try simp only [decide_eq_true_eq, decide_eq_false_iff_not, Bool.or_eq_true, Bool.or_eq_false_iff, Bool.and_eq_true, Bool.and_eq_false_iff, Bool.not_eq_true', Bool.not_eq_false', Bool.not_eq_true, Bool.not_eq_false, Bool.not_true, Bool.not_false, Int.not_lt, Int.not_le, not_or, not_and, Classical.not_not] at h17
    have hk : m - i = 0 := by omega
    rw [hk, itemsGo] at hp2
    refine T_exit_go (fun _ _ h => h) ?_
    refine T_seq ?_
    refine T_region ?_
    refine S_ 74 rfl rfl rfl _ (y_move rfl rfl) ?_
    refine S_ 75 rfl rfl rfl _ (y_move rfl rfl) ?_
    refine S_ 76 rfl rfl rfl _ (y_bin rfl rfl rfl (fun _ => b_eqls)) ?_
    refine S_ 4 rfl rfl rfl _ (y_assign rfl rfl) ?_
    refine S_ 5 rfl rfl rfl _ (y_assign rfl rfl) ?_
    refine S_go (fun _ _ h => h) ?_
    refine T_ret (fun a w hF hM => hRb a w (post2 rfl rfl rfl (fun w hM => ?_) a w hF hM))
    have hr : oiRes u m = (L, decide (s = [])) := by rw [oiRes, ← hp2]
    rw [hr]
    subst hp3
    exact ⟨A, c, rfl, hM.sat 6 _ rfl, hM.below⟩
abbrev opW (u : List UInt8) : List (List UInt8) := splitC 32 (cutC 10 u).1
def headBad (u : List UInt8) : Bool := !(cutC 10 u).2.2 || !decide ((((opW u).length : Nat) : Int) = 3) || !decide ((opW u).getD 0 [] = envB) || !idOk ((opW u).getD 2 [])
def openMany (u : List UInt8) : Nat := plainJ ((opW u).getD 1 []) 3
def openRes (u : List UInt8) : Int × List SItem := if (1000000 : Int) < u.length then (4, []) else if headBad u = true then (8, []) else if plainOk ((opW u).getD 1 []) 3 = false then (8, []) else if sumS (cutC 10 u).2.1 ≠ (opW u).getD 2 [] then (11, [])
  else if (oiRes (cutC 10 u).2.1 (openMany u)).2 = false then (8, []) else if (100 : Int) < (oiRes (cutC 10 u).2.1 (openMany u)).1.length then (4, []) else if kindsBad (oiRes (cutC 10 u).2.1 (openMany u)).1 = true then (3, []) else (0, (oiRes (cutC 10 u).2.1 (openMany u)).1)
theorem head_ok {u : List UInt8} (h : headBad u = false) : (opW u).length = 3 := by
  simp only [headBad, Bool.or_eq_false_iff, Bool.not_eq_false', decide_eq_true_eq] at h
  have := h.1.1.2; omega
theorem valD_le : ∀ (s : List UInt8), (∀ c ∈ s, 48 ≤ c.toNat ∧ c.toNat ≤ 57) → ∀ n, s.foldl (fun n c => n * 10 + (c.toNat - 48)) n < (n + 1) * 10 ^ s.length
  | [], _, n => by simp
  | a :: r, h, n => by
    have h1 := h a (List.mem_cons_self ..)
    have h2 := valD_le r (fun c hc => h c (List.mem_cons_of_mem _ hc)) (n * 10 + (a.toNat - 48))
    rw [List.foldl_cons, List.length_cons, Nat.pow_succ, Nat.mul_comm (10 ^ r.length) 10, ← Nat.mul_assoc]
    refine Nat.lt_of_lt_of_le h2 (Nat.mul_le_mul_right _ ?_)
    omega
theorem many_le (u : List UInt8) : openMany u ≤ 999 := by
  unfold openMany plainJ
  split
  · rename_i h
    obtain ⟨_, h2, h3⟩ := plain_parts h
    have h4 := valD_le _ h3 0
    have h5 : 10 ^ ((opW u).getD 1 []).length ≤ 10 ^ 3 := Nat.pow_le_pow_right (by decide) h2
    unfold valD
    omega
  · exact Nat.zero_le _
theorem openNum_any (u : List UInt8) (hs : ((opW u).getD 1 []).length ≤ 1000000) (w : World) :
    Calls Tryd.prog 50 #[str ((opW u).getD 1 []), .int .i64 3] w fun e w' => e = .returned (.tuple #[.int .i64 ((openMany u : Nat) : Int), .bool (plainOk ((opW u).getD 1 []) 3)]) ∧ Below w.heap.size w w' :=
  plainNumber_any _ 3 (by decide) (by omega) w
theorem openWh_any (u : List UInt8) (hs : ((opW u).getD 1 []).length ≤ 1000000) (w : World) :
    Calls Tryd.prog 53 #[str ((opW u).getD 1 []), .int .i64 3] w fun e w' => e = .returned (.tuple #[.int .i64 ((openMany u : Nat) : Int), .bool (plainOk ((opW u).getD 1 []) 3)]) ∧ Below w.heap.size w w' :=
  whole_any _ 3 (by decide) (by omega) w
theorem split_leO (c : UInt8) : ∀ (s x : List UInt8), x ∈ splitC c s → x.length ≤ s.length
  | [], x, h => by rw [splitC] at h; simp at h; subst h; exact Nat.le_refl _
  | y :: r, x, h => by
    rw [splitC] at h
    split at h
    · rcases List.mem_cons.1 h with rfl | h
      · exact Nat.zero_le _
      · exact Nat.le_succ_of_le (split_leO c r x h)
    · cases hs : splitC c r with
      | nil => rw [hs] at h; simp at h; subst h; simp
      | cons a t =>
        rw [hs] at h
        rcases List.mem_cons.1 h with rfl | h
        · have := split_leO c r a (by rw [hs]; exact List.mem_cons_self ..)
          simpa using this
        · exact Nat.le_succ_of_le (split_leO c r x (by rw [hs]; exact List.mem_cons_of_mem _ h))
theorem part_le {u : List UInt8} (j : Nat) (h : u.length ≤ 1000000) : ((opW u).getD j []).length ≤ 1000000 := by
  by_cases hj : j < (opW u).length
  · have h1 := split_leO 32 (cutC 10 u).1 _ (show (opW u).getD j [] ∈ splitC 32 (cutC 10 u).1 by rw [List.getD_eq_getElem?_getD, List.getElem?_eq_getElem hj]; exact List.getElem_mem hj)
    have h2 := cut_le 10 u
    omega
  · rw [List.getD_eq_getElem?_getD, List.getElem?_eq_none (by omega)]; exact Nat.zero_le _
set_option maxHeartbeats 1600000 in
theorem Open_any (u : List UInt8) (w : World) (hT : TzTab w) :
    Calls Tryd.prog 17 #[str u] w fun e w' => ∃ A c, e = .returned (.tuple #[.slice A (openRes u).2.length c, .int .i64 (openRes u).1]) ∧ w'.ownsRow w.heap.size 56 2 (.slice A (openRes u).2.length c) (openRes u).2.length ((openRes u).2.flatMap SItem.enc) ∧ Below w.heap.size w w' := by
  have nilR : ∀ {w' : World}, w'.ownsRow w.heap.size 56 2 (.slice none 0 0) 0 (([] : List SItem).flatMap SItem.enc) := fun {w'} => World.ownsRow_nil _ _ _ _
  have hmany := many_le u
  refine enter_args (args := [str u]) (F := _) Tryd.func17 rfl Tryd.ntmps17 rfl rfl ?_
  intro Rb hRb hRn
  refine T_seq ?_
  refine T_region ?_
  refine S_nilSlice 2 (e := 56) (size := 2) ?_
  refine S_ 2 rfl rfl rfl _ (y_assign rfl rfl) ?_
  refine S_ 3 rfl rfl rfl _ (y_assign rfl rfl) ?_
  refine S_go (fun _ _ h => h) ?_
  refine T_seq ?_
  refine T_seq ?_
  refine T_region ?_
  refine S_ 13 rfl rfl rfl _ (y_move rfl rfl) ?_
  refine S_ 14 rfl rfl rfl _ (y_len_str rfl rfl Tryd.underlying9) ?_
  refine S_ 15 rfl rfl rfl _ (y_bin rfl rfl rfl (fun _ => b_gtr)) ?_
  refine S_go (fun _ _ h => h) ?_
  refine T_cond rfl (fun h15 => ?_) (fun h15 => ?_)
  · try simp only [decide_eq_true_eq, decide_eq_false_iff_not, Bool.or_eq_true, Bool.or_eq_false_iff, Bool.and_eq_true, Bool.and_eq_false_iff, Bool.not_eq_true', Bool.not_eq_false', Bool.not_eq_true, Bool.not_eq_false, Bool.not_true, Bool.not_false, Int.not_lt, Int.not_le, not_or, not_and, Classical.not_not] at h15
    refine T_seq ?_
    refine T_region ?_
    refine S_nilSlice 2 (e := 56) (size := 2) ?_
    refine S_ 2 rfl rfl rfl _ (y_assign rfl rfl) ?_
    refine S_ 3 rfl rfl rfl _ (y_assign rfl rfl) ?_
    refine S_go (fun _ _ h => h) ?_
    refine T_ret (fun a w hF hM => hRb a w (post2 rfl rfl rfl (fun w hM => ?_) a w hF hM))
    have hr : openRes u = (4, []) := by rw [openRes, if_pos (by omega)]
    rw [hr]
    exact ⟨none, 0, rfl, nilR, hM.below⟩
  · try simp only [decide_eq_true_eq, decide_eq_false_iff_not, Bool.or_eq_true, Bool.or_eq_false_iff, Bool.and_eq_true, Bool.and_eq_false_iff, Bool.not_eq_true', Bool.not_eq_false', Bool.not_eq_true, Bool.not_eq_false, Bool.not_true, Bool.not_false, Int.not_lt, Int.not_le, not_or, not_and, Classical.not_not] at h15
    have hu : u.length ≤ 1000000 := by omega
    obtain ⟨hc1, hc2⟩ := cut_le 10 u
    have hsl := splitC_len 32 (cutC 10 u).1
    have hsc : (cutC 10 u).1.count 32 ≤ (cutC 10 u).1.length := List.count_le_length
    refine T_skip_go (fun _ _ h => h) ?_
    refine T_seq ?_
    refine T_region ?_
    refine S_ 17 rfl rfl rfl _ (y_move rfl rfl) ?_
    refine S_ 18 rfl rfl rfl _ (y_call rfl rfl rfl cf47 (fun _ w _ => Cut1_any u 10 w (by omega))) ?_
    refine S_ 16 rfl rfl rfl _ (y_move rfl rfl) ?_
    refine S_ 19 rfl rfl rfl _ (y_extract rfl rfl rfl) ?_
    refine S_ 20 rfl rfl rfl _ (y_extract rfl rfl rfl) ?_
    refine S_ 21 rfl rfl rfl _ (y_extract rfl rfl rfl) ?_
    refine S_ 4 rfl rfl rfl _ (y_assign rfl rfl) ?_
    refine S_ 5 rfl rfl rfl _ (y_assign rfl rfl) ?_
    refine S_ 6 rfl rfl rfl _ (y_assign rfl rfl) ?_
    refine S_go (fun _ _ h => h) ?_
    refine T_seq ?_
    refine T_region ?_
    refine S_ 22 rfl rfl rfl _ (y_move rfl rfl) ?_
    refine S_callOwn 23 23 rfl rfl rfl rfl rfl rfl rfl cf48 (fun A c => .slice A ((opW u).length) c) 9 1 ((opW u).length) ((opW u).flatMap strE) (fun w hM => Split1_any (cutC 10 u).1 32 (by omega) w) ?_
    intro A23 c23
    refine S_ 7 rfl rfl rfl _ (y_assign rfl rfl) ?_
    refine S_go (fun _ _ h => h) ?_
    refine T_seq ?_
    refine T_seq ?_
    refine T_region ?_
    refine S_ 24 rfl rfl rfl _ (y_move rfl rfl) ?_
    refine S_ 25 rfl rfl rfl _ (y_not rfl rfl) ?_
    refine S_ 26 rfl rfl rfl _ (y_move rfl rfl) ?_
    refine Sg_ 27 rfl rfl rfl rfl rfl rfl _ (y_move rfl rfl) ?_
    refine Sg_ 28 rfl rfl rfl rfl rfl rfl _ (y_len_slice rfl rfl Tryd.underlying40) ?_
    refine Sg_ 29 rfl rfl rfl rfl rfl rfl _ (y_bin rfl rfl rfl (fun _ => b_neq)) ?_
    refine S_ 30 rfl rfl rfl _ (y_or rfl rfl rfl) ?_
    refine S_ 31 rfl rfl rfl _ (y_move rfl rfl) ?_
    refine Sg_ 32 rfl rfl rfl rfl rfl rfl _ (y_move rfl rfl) ?_
    refine Sg_ 33 rfl rfl rfl rfl rfl rfl _ (y_indexOwnI (j := 0) 23 rfl rfl rfl (fun _ => rfl) rfl Tryd.underlying40 sz9 (fun hg => by simp at hg; omega)) ?_
    refine Sg_ 34 rfl rfl rfl rfl rfl rfl _ (y_loadO1 23 (val := (fun l : List UInt8 => str l)) rfl rfl rfl rfl (fun hg => getD_some (d := []) (by simp at hg; omega)) Tryd.underlying9 rfl) ?_
    refine Sg_ 35 rfl rfl rfl rfl rfl rfl _ (y_bin rfl rfl rfl (fun _ => b_neqs)) ?_
    refine S_ 36 rfl rfl rfl _ (y_or rfl rfl rfl) ?_
    refine S_ 37 rfl rfl rfl _ (y_move rfl rfl) ?_
    refine Sg_ 38 rfl rfl rfl rfl rfl rfl _ (y_move rfl rfl) ?_
    refine Sg_ 39 rfl rfl rfl rfl rfl rfl _ (y_indexOwnI (j := 2) 23 rfl rfl rfl (fun _ => rfl) rfl Tryd.underlying40 sz9 (fun hg => by simp at hg; omega)) ?_
    refine Sg_ 40 rfl rfl rfl rfl rfl rfl _ (y_loadO1 23 (val := (fun l : List UInt8 => str l)) rfl rfl rfl rfl (fun hg => getD_some (d := []) (by simp at hg; omega)) Tryd.underlying9 rfl) ?_
    refine Sg_ 41 rfl rfl rfl rfl rfl rfl _ (y_call rfl rfl rfl cf49 (fun _ w _ => isDigest_any ((opW u).getD 2 []) w)) ?_
    refine Sg_ 42 rfl rfl rfl rfl rfl rfl _ (y_not rfl rfl) ?_
    refine S_ 43 rfl rfl rfl _ (y_as (v' := .bool (headBad u)) (by exact rfl) (y_or rfl rfl rfl)) ?_
    refine S_go (fun _ _ h => h) ?_
    refine T_cond rfl (fun h43 => ?_) (fun h43 => ?_)
    · skip
      refine T_seq ?_
      refine T_region ?_
      refine S_nilSlice 2 (e := 56) (size := 2) ?_
      refine S_ 2 rfl rfl rfl _ (y_assign rfl rfl) ?_
      refine S_ 3 rfl rfl rfl _ (y_assign rfl rfl) ?_
      refine S_go (fun _ _ h => h) ?_
      refine T_ret (fun a w hF hM => hRb a w (post2 rfl rfl rfl (fun w hM => ?_) a w hF hM))
      have hr : openRes u = (8, []) := by rw [openRes, if_neg (by omega), if_pos h43]
      rw [hr]
      exact ⟨none, 0, rfl, nilR, hM.below⟩
    · skip
      have hw3 := head_ok h43
      refine T_skip_go (fun _ _ h => h) ?_
      refine T_seq ?_
      refine T_region ?_
      refine S_ 45 rfl rfl rfl _ (y_move rfl rfl) ?_
      refine S_ 46 rfl rfl rfl _ (y_indexOwnI (j := 1) 23 rfl rfl rfl (fun _ => rfl) rfl Tryd.underlying40 sz9 (fun _ => by omega)) ?_
      refine S_ 47 rfl rfl rfl _ (y_loadO1 23 (val := (fun l : List UInt8 => str l)) rfl rfl rfl rfl (fun _ => getD_some (d := []) (by omega)) Tryd.underlying9 rfl) ?_
      refine S_ 48 rfl rfl rfl _ (y_call rfl rfl rfl cf50 (fun _ w _ => openNum_any u (part_le 1 hu) w)) ?_
      refine S_ 44 rfl rfl rfl _ (y_move rfl rfl) ?_
      refine S_ 49 rfl rfl rfl _ (y_extract rfl rfl rfl) ?_
      refine S_ 50 rfl rfl rfl _ (y_extract rfl rfl rfl) ?_
      refine S_ 8 rfl rfl rfl _ (y_assign rfl rfl) ?_
      refine S_ 9 rfl rfl rfl _ (y_assign rfl rfl) ?_
      refine S_go (fun _ _ h => h) ?_
      refine T_seq ?_
      refine T_seq ?_
      refine T_region ?_
      refine S_ 51 rfl rfl rfl _ (y_move rfl rfl) ?_
      refine S_ 52 rfl rfl rfl _ (y_not rfl rfl) ?_
      refine S_go (fun _ _ h => h) ?_
      refine T_cond rfl (fun h52 => ?_) (fun h52 => ?_)
      · skip
        have h52 : plainOk ((opW u).getD 1 []) 3 = false := by simpa using h52
        refine T_seq ?_
        refine T_region ?_
        refine S_nilSlice 2 (e := 56) (size := 2) ?_
        refine S_ 2 rfl rfl rfl _ (y_assign rfl rfl) ?_
        refine S_ 3 rfl rfl rfl _ (y_assign rfl rfl) ?_
        refine S_go (fun _ _ h => h) ?_
        refine T_ret (fun a w hF hM => hRb a w (post2 rfl rfl rfl (fun w hM => ?_) a w hF hM))
        have hr : openRes u = (8, []) := by rw [openRes, if_neg (by omega), if_neg (by rw [h43]; exact Bool.false_ne_true), if_pos h52]
        rw [hr]
        exact ⟨none, 0, rfl, nilR, hM.below⟩
      · skip
        have h52 : plainOk ((opW u).getD 1 []) 3 = true := by simpa using h52
        refine T_skip_go (fun _ _ h => h) ?_
        refine T_seq ?_
        refine T_seq ?_
        refine T_draws (by kernel_rfl) (by kernel_rfl) ?_
        refine D_ 53 rfl rfl rfl _ (y_move rfl rfl) ?_
        refine D_ 54 rfl rfl rfl _ (y_call rfl rfl rfl cf41 (fun _ w hM => Sum_any (cutC 10 u).2.1 (by omega) w (hT.below hM.below))) ?_
        refine D_ 55 rfl rfl rfl _ (y_move rfl rfl) ?_
        refine D_ 56 rfl rfl rfl _ (y_indexOwnI (j := 2) 23 rfl rfl rfl (fun _ => rfl) rfl Tryd.underlying40 sz9 (fun _ => by omega)) ?_
        refine D_ 57 rfl rfl rfl _ (y_loadO1 23 (val := (fun l : List UInt8 => str l)) rfl rfl rfl rfl (fun _ => getD_some (d := []) (by omega)) Tryd.underlying9 rfl) ?_
        refine D_ 58 rfl rfl rfl _ (y_bin rfl rfl rfl (fun _ => b_neqs)) ?_
        refine D_go (fun _ _ h => h) ?_
        refine T_cond rfl (fun h58 => ?_) (fun h58 => ?_)
        · try simp only [decide_eq_true_eq, decide_eq_false_iff_not, Bool.or_eq_true, Bool.or_eq_false_iff, Bool.and_eq_true, Bool.and_eq_false_iff, Bool.not_eq_true', Bool.not_eq_false', Bool.not_eq_true, Bool.not_eq_false, Bool.not_true, Bool.not_false, Int.not_lt, Int.not_le, not_or, not_and, Classical.not_not] at h58
          refine T_seq ?_
          refine T_region ?_
          refine S_nilSlice 2 (e := 56) (size := 2) ?_
          refine S_ 2 rfl rfl rfl _ (y_assign rfl rfl) ?_
          refine S_ 3 rfl rfl rfl _ (y_assign rfl rfl) ?_
          refine S_go (fun _ _ h => h) ?_
          refine T_ret (fun a w hF hM => hRb a w (post2 rfl rfl rfl (fun w hM => ?_) a w hF hM))
          have hr : openRes u = (11, []) := by rw [openRes, if_neg (by omega), if_neg (by rw [h43]; exact Bool.false_ne_true), if_neg (by rw [h52]; decide), if_pos h58]
          rw [hr]
          exact ⟨none, 0, rfl, nilR, hM.below⟩
        · try simp only [decide_eq_true_eq, decide_eq_false_iff_not, Bool.or_eq_true, Bool.or_eq_false_iff, Bool.and_eq_true, Bool.and_eq_false_iff, Bool.not_eq_true', Bool.not_eq_false', Bool.not_eq_true, Bool.not_eq_false, Bool.not_true, Bool.not_false, Int.not_lt, Int.not_le, not_or, not_and, Classical.not_not] at h58
          refine T_skip_go (fun _ _ h => h) ?_
          refine T_seq ?_
          refine T_region ?_
          refine S_ 60 rfl rfl rfl _ (y_move rfl rfl) ?_
          refine S_ 61 rfl rfl rfl _ (y_move rfl rfl) ?_
          refine S_callOwn 62 62 rfl rfl rfl rfl rfl rfl rfl cf51 (fun A c => .tuple #[.slice A (oiRes (cutC 10 u).2.1 (openMany u)).1.length c, .bool (oiRes (cutC 10 u).2.1 (openMany u)).2]) 56 2 ((oiRes (cutC 10 u).2.1 (openMany u)).1.length) ((oiRes (cutC 10 u).2.1 (openMany u)).1.flatMap SItem.enc) (fun w hM => openItems_any (cutC 10 u).2.1 (openMany u) (by omega) (by omega) w) ?_
          intro A62 c62
          refine S_ 59 rfl rfl rfl _ (y_move rfl rfl) ?_
          refine S_ 63 rfl rfl rfl _ (y_extract rfl rfl rfl) ?_
          refine S_ 64 rfl rfl rfl _ (y_extract rfl rfl rfl) ?_
          refine S_ 10 rfl rfl rfl _ (y_assign rfl rfl) ?_
          refine S_ 9 rfl rfl rfl _ (y_assign rfl rfl) ?_
          refine S_go (fun _ _ h => h) ?_
          refine T_seq ?_
          refine T_seq ?_
          refine T_region ?_
          refine S_ 65 rfl rfl rfl _ (y_move rfl rfl) ?_
          refine S_ 66 rfl rfl rfl _ (y_not rfl rfl) ?_
          refine S_go (fun _ _ h => h) ?_
          refine T_cond rfl (fun h66 => ?_) (fun h66 => ?_)
          · skip
            have h66 : (oiRes (cutC 10 u).2.1 (openMany u)).2 = false := by simpa using h66
            refine T_seq ?_
            refine T_region ?_
            refine S_nilSlice 2 (e := 56) (size := 2) ?_
            refine S_ 2 rfl rfl rfl _ (y_assign rfl rfl) ?_
            refine S_ 3 rfl rfl rfl _ (y_assign rfl rfl) ?_
            refine S_go (fun _ _ h => h) ?_
            refine T_ret (fun a w hF hM => hRb a w (post2 rfl rfl rfl (fun w hM => ?_) a w hF hM))
            have hr : openRes u = (8, []) := by rw [openRes, if_neg (by omega), if_neg (by rw [h43]; exact Bool.false_ne_true), if_neg (by rw [h52]; decide), if_neg (by simpa using h58), if_pos h66]
            rw [hr]
            exact ⟨none, 0, rfl, nilR, hM.below⟩
          · skip
            have h66 : (oiRes (cutC 10 u).2.1 (openMany u)).2 = true := by simpa using h66
            refine T_skip_go (fun _ _ h => h) ?_
            refine T_seq ?_
            refine T_seq ?_
            refine T_region ?_
            refine S_ 67 rfl rfl rfl _ (y_move rfl rfl) ?_
            refine S_ 68 rfl rfl rfl _ (y_len_slice rfl rfl Tryd.underlying49) ?_
            refine S_ 69 rfl rfl rfl _ (y_bin rfl rfl rfl (fun _ => b_gtr)) ?_
            refine S_go (fun _ _ h => h) ?_
            refine T_cond rfl (fun h69 => ?_) (fun h69 => ?_)
            · try simp only [decide_eq_true_eq, decide_eq_false_iff_not, Bool.or_eq_true, Bool.or_eq_false_iff, Bool.and_eq_true, Bool.and_eq_false_iff, Bool.not_eq_true', Bool.not_eq_false', Bool.not_eq_true, Bool.not_eq_false, Bool.not_true, Bool.not_false, Int.not_lt, Int.not_le, not_or, not_and, Classical.not_not] at h69
              refine T_seq ?_
              refine T_region ?_
              refine S_nilSlice 2 (e := 56) (size := 2) ?_
              refine S_ 2 rfl rfl rfl _ (y_assign rfl rfl) ?_
              refine S_ 3 rfl rfl rfl _ (y_assign rfl rfl) ?_
              refine S_go (fun _ _ h => h) ?_
              refine T_ret (fun a w hF hM => hRb a w (post2 rfl rfl rfl (fun w hM => ?_) a w hF hM))
              have hr : openRes u = (4, []) := by rw [openRes, if_neg (by omega), if_neg (by rw [h43]; exact Bool.false_ne_true), if_neg (by rw [h52]; decide), if_neg (by simpa using h58), if_neg (by rw [h66]; decide), if_pos (by omega)]
              rw [hr]
              exact ⟨none, 0, rfl, nilR, hM.below⟩
            · try simp only [decide_eq_true_eq, decide_eq_false_iff_not, Bool.or_eq_true, Bool.or_eq_false_iff, Bool.and_eq_true, Bool.and_eq_false_iff, Bool.not_eq_true', Bool.not_eq_false', Bool.not_eq_true, Bool.not_eq_false, Bool.not_true, Bool.not_false, Int.not_lt, Int.not_le, not_or, not_and, Classical.not_not] at h69
              refine T_skip_go (fun _ _ h => h) ?_
              refine T_seq ?_
              refine T_seq ?_
              refine T_region ?_
              refine S_ 70 rfl rfl rfl _ (y_move rfl rfl) ?_
              refine S_ 71 rfl rfl rfl _ (y_len_slice rfl rfl Tryd.underlying49) ?_
              refine S_ 72 rfl rfl rfl _ (y_move rfl rfl) ?_
              refine S_go (fun _ _ h => h) ?_
              refine T_block ?_
              refine T_loopK1 (kf := [(2, 3), (12, 12), (72, 80)]) (kl := [(2, 3), (12, 12), (72, 80)]) (fun (i : Nat) => [(72, true, .int .i64 (i : Int))]) (fun (i : Nat) => []) (fun (i : Nat) => i ≤ (oiRes (cutC 10 u).2.1 (openMany u)).1.length ∧ kindsBad (oiRes (cutC 10 u).2.1 (openMany u)).1 = ((oiRes (cutC 10 u).2.1 (openMany u)).1.drop i).any fun x => !nameOk x.k) (fun (i : Nat) => (oiRes (cutC 10 u).2.1 (openMany u)).1.length - i) 0 (by repeat (first | exact kf_nil | (apply kf_in; focus rfl) | (apply kf_out; focus rfl))) (by repeat (first | exact kl_nil | exact kl_rest (by assumption) rfl | (apply kl_in; focus rfl) | (apply kl_out; focus rfl))) ?_ ?_ ?_ ?_
              · exact ⟨by omega, rfl⟩
              · exact ⟨rfl, trivial⟩
              · exact trivial
              rintro i ⟨hp1, hp2⟩
              refine T_seq ?_
              refine T_region ?_
              refine S_ 73 rfl rfl rfl _ (y_bin rfl rfl rfl (fun _ => b_lss)) ?_
              refine S_go (fun _ _ h => h) ?_
              refine T_seq ?_
              refine T_cond rfl (fun h73 => ?_) (fun h73 => ?_)
              · try simp only [decide_eq_true_eq, decide_eq_false_iff_not, Bool.or_eq_true, Bool.or_eq_false_iff, Bool.and_eq_true, Bool.and_eq_false_iff, Bool.not_eq_true', Bool.not_eq_false', Bool.not_eq_true, Bool.not_eq_false, Bool.not_true, Bool.not_false, Int.not_lt, Int.not_le, not_or, not_and, Classical.not_not] at h73
                obtain ⟨x, hx1, hx2⟩ := at_lt (l := (oiRes (cutC 10 u).2.1 (openMany u)).1) (i := i) (by omega)
                refine T_skip_go (fun _ _ h => h) ?_
                refine T_seq ?_
                refine T_block ?_
                refine T_seq ?_
                refine T_region ?_
                refine S_ 74 rfl rfl rfl _ (y_indexOwn 62 rfl rfl rfl rfl Tryd.underlying49 sz56 (fun _ => by omega)) ?_
                refine S_ 75 rfl rfl rfl _ (y_loadO 62 rfl rfl rfl rfl (fun _ => rfl) (fun _ => hx1) Tryd.underlying56 rfl sz56) ?_
                refine S_alloc 12 12 rfl rfl rfl rfl z56 ?_
                intro b12
                refine S_store 12 rfl rfl rfl rfl rfl rfl sz56 rfl rfl ?_
                refine S_go (fun _ _ h => h) ?_
                refine T_seq ?_
                refine T_region ?_
                refine S_ 76 rfl rfl rfl _ (y_fieldAddr rfl rfl fa56_0) ?_
                refine S_ 77 rfl rfl rfl _ (y_load 12 rfl rfl rfl rfl Tryd.underlying9 rfl) ?_
                refine S_ 78 rfl rfl rfl _ (y_call rfl rfl rfl cf39 (fun _ w _ => IsName_any x.k w)) ?_
                refine S_ 79 rfl rfl rfl _ (y_not rfl rfl) ?_
                refine S_go (fun _ _ h => h) ?_
                refine T_cond rfl (fun h79 => ?_) (fun h79 => ?_)
                · skip
                  have h79 : nameOk x.k = false := by simpa using h79
                  refine T_seq ?_
                  refine T_region ?_
                  refine S_nilSlice 2 (e := 56) (size := 2) ?_
                  refine S_ 2 rfl rfl rfl _ (y_assign rfl rfl) ?_
                  refine S_ 3 rfl rfl rfl _ (y_assign rfl rfl) ?_
                  refine S_go (fun _ _ h => h) ?_
                  refine T_ret (fun a w hF hM => hRb a w (post2 rfl rfl rfl (fun w hM => ?_) a w hF hM))
                  have hr : openRes u = (3, []) := by rw [openRes, if_neg (by omega), if_neg (by rw [h43]; exact Bool.false_ne_true), if_neg (by rw [h52]; decide), if_neg (by simpa using h58), if_neg (by rw [h66]; decide), if_neg (by omega), if_pos (by rw [hp2, hx2, List.any_cons, h79]; rfl)]
                  rw [hr]
                  exact ⟨none, 0, rfl, nilR, hM.below⟩
                · skip
                  have h79 : nameOk x.k = true := by simpa using h79
                  refine T_skip_go (fun _ _ h => h) ?_
                  refine T_region ?_
                  refine S_ 80 rfl rfl rfl _ (y_bin rfl rfl rfl (fun hg => b_add (by omega))) ?_
                  refine S_ 72 rfl rfl rfl _ (y_move rfl rfl) ?_
                  refine S_nil (nextK1 (kf := [(2, 3), (12, 12), (72, 80)]) (kl := [(2, 3), (12, 12), (72, 80)]) (i + 1) (by repeat (first | exact kf_nil | (apply kf_in; focus rfl) | (apply kf_out; focus rfl))) (by repeat (first | exact kl_nil | exact kl_rest (by assumption) rfl | (apply kl_in; focus rfl) | (apply kl_out; focus rfl))) ?_ ?_ ?_ ?_)
                  · omega
                  · exact ⟨by omega, by rw [hp2, kinds_at hx2 h79]⟩
                  · exact ⟨rfl, trivial⟩
                  · exact trivial
              · try simp only [decide_eq_true_eq, decide_eq_false_iff_not, Bool.or_eq_true, Bool.or_eq_false_iff, Bool.and_eq_true, Bool.and_eq_false_iff, Bool.not_eq_true', Bool.not_eq_false', Bool.not_eq_true, Bool.not_eq_false, Bool.not_true, Bool.not_false, Int.not_lt, Int.not_le, not_or, not_and, Classical.not_not] at h73
                refine T_exit_go (fun _ _ h => h) ?_
                refine T_seq ?_
                refine T_region ?_
                refine S_ 81 rfl rfl rfl _ (y_move rfl rfl) ?_
                refine S_ 2 rfl rfl rfl _ (y_assign rfl rfl) ?_
                refine S_ 3 rfl rfl rfl _ (y_assign rfl rfl) ?_
                refine S_go (fun _ _ h => h) ?_
                refine T_ret (fun a w hF hM => hRb a w (post2 rfl rfl rfl (fun w hM => ?_) a w hF hM))
                have hkb : kindsBad (oiRes (cutC 10 u).2.1 (openMany u)).1 = false := by rw [hp2, List.drop_eq_nil_of_le (by omega)]; rfl
                have hr : openRes u = (0, (oiRes (cutC 10 u).2.1 (openMany u)).1) := by rw [openRes, if_neg (by omega), if_neg (by rw [h43]; exact Bool.false_ne_true), if_neg (by rw [h52]; decide), if_neg (by simpa using h58), if_neg (by rw [h66]; decide), if_neg (by omega), if_neg (by rw [hkb]; exact Bool.false_ne_true)]
                rw [hr]
                exact ⟨A62, c62, rfl, hM.sat 62 _ rfl, hM.below⟩
theorem bad_order (a b c d e f : Bool) : ((((a || b) || d) || c) || e || f) = ((((a || b) || c) || d) || e || f) := by cases a <;> cases b <;> cases c <;> cases d <;> rfl
set_option maxHeartbeats 3200000 in
theorem Opened_any (u : List UInt8) (w : World) (hT : TzTab w) :
    Calls Tryd.prog 18 #[str u] w fun e w' => ∃ A c, e = .returned (.tuple #[.slice A (openRes u).2.length c, .int .i64 (openRes u).1]) ∧ w'.ownsRow w.heap.size 56 2 (.slice A (openRes u).2.length c) (openRes u).2.length ((openRes u).2.flatMap SItem.enc) ∧ Below w.heap.size w w' := by
  have nilR : ∀ {w' : World}, w'.ownsRow w.heap.size 56 2 (.slice none 0 0) 0 (([] : List SItem).flatMap SItem.enc) := fun {w'} => World.ownsRow_nil _ _ _ _
  have hmany := many_le u
  refine enter_args (args := [str u]) (F := _) Tryd.func18 rfl Tryd.ntmps18 rfl rfl ?_
  intro Rb hRb hRn
  refine T_seq ?_
  refine T_region ?_
  refine S_nilSlice 2 (e := 56) (size := 2) ?_
  refine S_ 2 rfl rfl rfl _ (y_assign rfl rfl) ?_
  refine S_ 3 rfl rfl rfl _ (y_assign rfl rfl) ?_
  refine S_go (fun _ _ h => h) ?_
  refine T_seq ?_
  refine T_seq ?_
  refine T_region ?_
  refine S_ 21 rfl rfl rfl _ (y_move rfl rfl) ?_
  refine S_ 22 rfl rfl rfl _ (y_len_str rfl rfl Tryd.underlying9) ?_
  refine S_ 23 rfl rfl rfl _ (y_bin rfl rfl rfl (fun _ => b_gtr)) ?_
  refine S_go (fun _ _ h => h) ?_
  refine T_cond rfl (fun h23 => ?_) (fun h23 => ?_)
  · try simp only [decide_eq_true_eq, decide_eq_false_iff_not, Bool.or_eq_true, Bool.or_eq_false_iff, Bool.and_eq_true, Bool.and_eq_false_iff, Bool.not_eq_true', Bool.not_eq_false', Bool.not_eq_true, Bool.not_eq_false, Bool.not_true, Bool.not_false, Int.not_lt, Int.not_le, not_or, not_and, Classical.not_not] at h23
    refine T_seq ?_
    refine T_region ?_
    refine S_nilSlice 2 (e := 56) (size := 2) ?_
    refine S_ 2 rfl rfl rfl _ (y_assign rfl rfl) ?_
    refine S_ 3 rfl rfl rfl _ (y_assign rfl rfl) ?_
    refine S_go (fun _ _ h => h) ?_
    refine T_ret (fun a w hF hM => hRb a w (post2 rfl rfl rfl (fun w hM => ?_) a w hF hM))
    have hr : openRes u = (4, []) := by rw [openRes, if_pos (by omega)]
    rw [hr]
    exact ⟨none, 0, rfl, nilR, hM.below⟩
  · try simp only [decide_eq_true_eq, decide_eq_false_iff_not, Bool.or_eq_true, Bool.or_eq_false_iff, Bool.and_eq_true, Bool.and_eq_false_iff, Bool.not_eq_true', Bool.not_eq_false', Bool.not_eq_true, Bool.not_eq_false, Bool.not_true, Bool.not_false, Int.not_lt, Int.not_le, not_or, not_and, Classical.not_not] at h23
    have hu : u.length ≤ 1000000 := by omega
    obtain ⟨hc1, hc2⟩ := cut_le 10 u
    have hsl := splitC_len 32 (cutC 10 u).1
    have hsc : (cutC 10 u).1.count 32 ≤ (cutC 10 u).1.length := List.count_le_length
    refine T_skip_go (fun _ _ h => h) ?_
    refine T_seq ?_
    refine T_region ?_
    refine S_ 25 rfl rfl rfl _ (y_move rfl rfl) ?_
    refine S_ 26 rfl rfl rfl _ (y_call rfl rfl rfl cf47 (fun _ w _ => Cut1_any u 10 w (by omega))) ?_
    refine S_ 24 rfl rfl rfl _ (y_move rfl rfl) ?_
    refine S_ 27 rfl rfl rfl _ (y_extract rfl rfl rfl) ?_
    refine S_ 28 rfl rfl rfl _ (y_extract rfl rfl rfl) ?_
    refine S_ 29 rfl rfl rfl _ (y_extract rfl rfl rfl) ?_
    refine S_ 4 rfl rfl rfl _ (y_assign rfl rfl) ?_
    refine S_ 5 rfl rfl rfl _ (y_assign rfl rfl) ?_
    refine S_ 6 rfl rfl rfl _ (y_assign rfl rfl) ?_
    refine S_go (fun _ _ h => h) ?_
    refine T_seq ?_
    refine T_region ?_
    refine S_ 30 rfl rfl rfl _ (y_move rfl rfl) ?_
    refine S_callOwn 31 31 rfl rfl rfl rfl rfl rfl rfl cf48 (fun A c => .slice A ((opW u).length) c) 9 1 ((opW u).length) ((opW u).flatMap strE) (fun w hM => Split1_any (cutC 10 u).1 32 (by omega) w) ?_
    intro A31 c31
    refine S_ 7 rfl rfl rfl _ (y_assign rfl rfl) ?_
    refine S_go (fun _ _ h => h) ?_
    refine T_seq ?_
    refine T_seq ?_
    refine T_region ?_
    refine S_ 32 rfl rfl rfl _ (y_move rfl rfl) ?_
    refine S_ 33 rfl rfl rfl _ (y_not rfl rfl) ?_
    refine S_ 34 rfl rfl rfl _ (y_move rfl rfl) ?_
    refine Sg_ 35 rfl rfl rfl rfl rfl rfl _ (y_move rfl rfl) ?_
    refine Sg_ 36 rfl rfl rfl rfl rfl rfl _ (y_len_slice rfl rfl Tryd.underlying40) ?_
    refine Sg_ 37 rfl rfl rfl rfl rfl rfl _ (y_bin rfl rfl rfl (fun _ => b_neq)) ?_
    refine S_ 38 rfl rfl rfl _ (y_or rfl rfl rfl) ?_
    refine S_ 39 rfl rfl rfl _ (y_move rfl rfl) ?_
    refine Sg_ 40 rfl rfl rfl rfl rfl rfl _ (y_move rfl rfl) ?_
    refine Sg_ 41 rfl rfl rfl rfl rfl rfl _ (y_indexOwnI (j := 0) 31 rfl rfl rfl (fun _ => rfl) rfl Tryd.underlying40 sz9 (fun hg => by simp at hg; omega)) ?_
    refine Sg_ 42 rfl rfl rfl rfl rfl rfl _ (y_loadO1 31 (val := (fun l : List UInt8 => str l)) rfl rfl rfl rfl (fun hg => getD_some (d := []) (by simp at hg; omega)) Tryd.underlying9 rfl) ?_
    refine Sg_ 43 rfl rfl rfl rfl rfl rfl _ (y_bin rfl rfl rfl (fun _ => b_neqs)) ?_
    refine S_ 44 rfl rfl rfl _ (y_or rfl rfl rfl) ?_
    refine S_ 45 rfl rfl rfl _ (y_move rfl rfl) ?_
    refine Sg_ 46 rfl rfl rfl rfl rfl rfl _ (y_move rfl rfl) ?_
    refine Sg_ 47 rfl rfl rfl rfl rfl rfl _ (y_indexOwnI (j := 2) 31 rfl rfl rfl (fun _ => rfl) rfl Tryd.underlying40 sz9 (fun hg => by simp at hg; omega)) ?_
    refine Sg_ 48 rfl rfl rfl rfl rfl rfl _ (y_loadO1 31 (val := (fun l : List UInt8 => str l)) rfl rfl rfl rfl (fun hg => getD_some (d := []) (by simp at hg; omega)) Tryd.underlying9 rfl) ?_
    refine Sg_ 49 rfl rfl rfl rfl rfl rfl _ (y_call rfl rfl rfl cf52 (fun _ w _ => digits16_any ((opW u).getD 2 []) w)) ?_
    refine Sg_ 50 rfl rfl rfl rfl rfl rfl _ (y_not rfl rfl) ?_
    refine S_ 51 rfl rfl rfl _ (y_as (v' := .bool (headBad u)) (by exact rfl) (y_or rfl rfl rfl)) ?_
    refine S_go (fun _ _ h => h) ?_
    refine T_cond rfl (fun h51 => ?_) (fun h51 => ?_)
    · skip
      refine T_seq ?_
      refine T_region ?_
      refine S_nilSlice 2 (e := 56) (size := 2) ?_
      refine S_ 2 rfl rfl rfl _ (y_assign rfl rfl) ?_
      refine S_ 3 rfl rfl rfl _ (y_assign rfl rfl) ?_
      refine S_go (fun _ _ h => h) ?_
      refine T_ret (fun a w hF hM => hRb a w (post2 rfl rfl rfl (fun w hM => ?_) a w hF hM))
      have hr : openRes u = (8, []) := by rw [openRes, if_neg (by omega), if_pos h51]
      rw [hr]
      exact ⟨none, 0, rfl, nilR, hM.below⟩
    · skip
      have hw3 := head_ok h51
      refine T_skip_go (fun _ _ h => h) ?_
      refine T_seq ?_
      refine T_region ?_
      refine S_ 53 rfl rfl rfl _ (y_move rfl rfl) ?_
      refine S_ 54 rfl rfl rfl _ (y_indexOwnI (j := 1) 31 rfl rfl rfl (fun _ => rfl) rfl Tryd.underlying40 sz9 (fun _ => by omega)) ?_
      refine S_ 55 rfl rfl rfl _ (y_loadO1 31 (val := (fun l : List UInt8 => str l)) rfl rfl rfl rfl (fun _ => getD_some (d := []) (by omega)) Tryd.underlying9 rfl) ?_
      refine S_ 56 rfl rfl rfl _ (y_call rfl rfl rfl cf53 (fun _ w _ => openWh_any u (part_le 1 hu) w)) ?_
      refine S_ 52 rfl rfl rfl _ (y_move rfl rfl) ?_
      refine S_ 57 rfl rfl rfl _ (y_extract rfl rfl rfl) ?_
      refine S_ 58 rfl rfl rfl _ (y_extract rfl rfl rfl) ?_
      refine S_ 8 rfl rfl rfl _ (y_assign rfl rfl) ?_
      refine S_ 9 rfl rfl rfl _ (y_assign rfl rfl) ?_
      refine S_go (fun _ _ h => h) ?_
      refine T_seq ?_
      refine T_seq ?_
      refine T_region ?_
      refine S_ 59 rfl rfl rfl _ (y_move rfl rfl) ?_
      refine S_ 60 rfl rfl rfl _ (y_not rfl rfl) ?_
      refine S_go (fun _ _ h => h) ?_
      refine T_cond rfl (fun h60 => ?_) (fun h60 => ?_)
      · skip
        have h60 : plainOk ((opW u).getD 1 []) 3 = false := by simpa using h60
        refine T_seq ?_
        refine T_region ?_
        refine S_nilSlice 2 (e := 56) (size := 2) ?_
        refine S_ 2 rfl rfl rfl _ (y_assign rfl rfl) ?_
        refine S_ 3 rfl rfl rfl _ (y_assign rfl rfl) ?_
        refine S_go (fun _ _ h => h) ?_
        refine T_ret (fun a w hF hM => hRb a w (post2 rfl rfl rfl (fun w hM => ?_) a w hF hM))
        have hr : openRes u = (8, []) := by rw [openRes, if_neg (by omega), if_neg (by rw [h51]; exact Bool.false_ne_true), if_pos h60]
        rw [hr]
        exact ⟨none, 0, rfl, nilR, hM.below⟩
      · skip
        have h60 : plainOk ((opW u).getD 1 []) 3 = true := by simpa using h60
        refine T_skip_go (fun _ _ h => h) ?_
        refine T_seq ?_
        refine T_seq ?_
        refine T_draws (by kernel_rfl) (by kernel_rfl) ?_
        refine D_ 61 rfl rfl rfl _ (y_move rfl rfl) ?_
        refine D_ 62 rfl rfl rfl _ (y_call rfl rfl rfl cf46 (fun _ w hM => SumOf_any (cutC 10 u).2.1 (by omega) w (hT.below hM.below))) ?_
        refine D_ 63 rfl rfl rfl _ (y_move rfl rfl) ?_
        refine D_ 64 rfl rfl rfl _ (y_indexOwnI (j := 2) 31 rfl rfl rfl (fun _ => rfl) rfl Tryd.underlying40 sz9 (fun _ => by omega)) ?_
        refine D_ 65 rfl rfl rfl _ (y_loadO1 31 (val := (fun l : List UInt8 => str l)) rfl rfl rfl rfl (fun _ => getD_some (d := []) (by omega)) Tryd.underlying9 rfl) ?_
        refine D_ 66 rfl rfl rfl _ (y_bin rfl rfl rfl (fun _ => b_neqs)) ?_
        refine D_go (fun _ _ h => h) ?_
        refine T_cond rfl (fun h66 => ?_) (fun h66 => ?_)
        · try simp only [decide_eq_true_eq, decide_eq_false_iff_not, Bool.or_eq_true, Bool.or_eq_false_iff, Bool.and_eq_true, Bool.and_eq_false_iff, Bool.not_eq_true', Bool.not_eq_false', Bool.not_eq_true, Bool.not_eq_false, Bool.not_true, Bool.not_false, Int.not_lt, Int.not_le, not_or, not_and, Classical.not_not] at h66
          refine T_seq ?_
          refine T_region ?_
          refine S_nilSlice 2 (e := 56) (size := 2) ?_
          refine S_ 2 rfl rfl rfl _ (y_assign rfl rfl) ?_
          refine S_ 3 rfl rfl rfl _ (y_assign rfl rfl) ?_
          refine S_go (fun _ _ h => h) ?_
          refine T_ret (fun a w hF hM => hRb a w (post2 rfl rfl rfl (fun w hM => ?_) a w hF hM))
          have hr : openRes u = (11, []) := by rw [openRes, if_neg (by omega), if_neg (by rw [h51]; exact Bool.false_ne_true), if_neg (by rw [h60]; decide), if_pos h66]
          rw [hr]
          exact ⟨none, 0, rfl, nilR, hM.below⟩
        · try simp only [decide_eq_true_eq, decide_eq_false_iff_not, Bool.or_eq_true, Bool.or_eq_false_iff, Bool.and_eq_true, Bool.and_eq_false_iff, Bool.not_eq_true', Bool.not_eq_false', Bool.not_eq_true, Bool.not_eq_false, Bool.not_true, Bool.not_false, Int.not_lt, Int.not_le, not_or, not_and, Classical.not_not] at h66
          refine T_skip_go (fun _ _ h => h) ?_
          refine T_seq ?_
          refine T_region ?_
          refine S_nilSlice 10 (e := 56) (size := 2) ?_
          refine S_ 10 rfl rfl rfl _ (y_assign rfl rfl) ?_
          refine S_go (fun _ _ h => h) ?_
          refine T_seq ?_
          refine T_seq ?_
          refine T_region ?_
          refine S_ 67 rfl rfl rfl _ (y_move rfl rfl) ?_
          refine S_ 68 rfl rfl rfl _ (y_move rfl rfl) ?_
          refine S_go (fun _ _ h => h) ?_
          refine T_block ?_
          refine T_loopK5 (kf := [(2, 3), (5, 5), (10, 18), (68, 125)]) (kl := [(2, 3), (5, 5), (10, 18), (68, 125)]) (fun (i : Nat) (s : List UInt8) (L : List SItem) (A : Option Addr) (c : Nat) => [(68, true, .int .i64 (i : Int)), (5, true, str s), (10, true, .slice A i c)]) (fun (i : Nat) (s : List UInt8) (L : List SItem) (A : Option Addr) (c : Nat) => [(10, .own 56 2 (.slice A i c) i (L.flatMap SItem.enc))]) (fun (i : Nat) (s : List UInt8) (L : List SItem) (A : Option Addr) (c : Nat) => i ≤ openMany u ∧ itemsGo (openMany u - i) s L = itemsGo (openMany u) (cutC 10 u).2.1 [] ∧ L.length = i ∧ s.length ≤ u.length) (fun (i : Nat) (s : List UInt8) (L : List SItem) (A : Option Addr) (c : Nat) => openMany u - i) 0 (cutC 10 u).2.1 [] none 0 (by repeat (first | exact kf_nil | (apply kf_in; focus rfl) | (apply kf_out; focus rfl))) (by repeat (first | exact kl_nil | exact kl_rest (by assumption) rfl | (apply kl_in; focus rfl) | (apply kl_out; focus rfl))) ?_ ?_ ?_ ?_
          · exact ⟨by omega, rfl, rfl, by omega⟩
          · exact ⟨rfl, rfl, rfl, trivial⟩
          · exact ⟨rfl, trivial⟩
          rintro i s L A c ⟨hp1, hp2, hp3, hp4⟩
          refine T_seq ?_
          refine T_region ?_
          refine S_ 69 rfl rfl rfl _ (y_bin rfl rfl rfl (fun _ => b_lss)) ?_
          refine S_go (fun _ _ h => h) ?_
          refine T_seq ?_
          refine T_cond rfl (fun h69 => ?_) (fun h69 => ?_)
          · try simp only [decide_eq_true_eq, decide_eq_false_iff_not, Bool.or_eq_true, Bool.or_eq_false_iff, Bool.and_eq_true, Bool.and_eq_false_iff, Bool.not_eq_true', Bool.not_eq_false', Bool.not_eq_true, Bool.not_eq_false, Bool.not_true, Bool.not_false, Int.not_lt, Int.not_le, not_or, not_and, Classical.not_not] at h69
            obtain ⟨hc3, hc4⟩ := cut_le 10 s
            obtain ⟨hc5, hc6⟩ := cut_le 32 (cutC 10 s).1
            obtain ⟨k, hk⟩ : ∃ k, openMany u - i = k + 1 := ⟨openMany u - i - 1, by omega⟩
            rw [hk, itemsGo] at hp2
            refine T_skip_go (fun _ _ h => h) ?_
            refine T_seq ?_
            refine T_block ?_
            refine T_seq ?_
            refine T_region ?_
            refine S_ 71 rfl rfl rfl _ (y_move rfl rfl) ?_
            refine S_ 72 rfl rfl rfl _ (y_call rfl rfl rfl cf47 (fun _ w _ => Cut1_any s 10 w (by omega))) ?_
            refine S_ 70 rfl rfl rfl _ (y_move rfl rfl) ?_
            refine S_ 73 rfl rfl rfl _ (y_extract rfl rfl rfl) ?_
            refine S_ 74 rfl rfl rfl _ (y_extract rfl rfl rfl) ?_
            refine S_ 75 rfl rfl rfl _ (y_extract rfl rfl rfl) ?_
            refine S_ 11 rfl rfl rfl _ (y_assign rfl rfl) ?_
            refine S_ 12 rfl rfl rfl _ (y_assign rfl rfl) ?_
            refine S_ 13 rfl rfl rfl _ (y_assign rfl rfl) ?_
            refine S_go (fun _ _ h => h) ?_
            refine T_seq ?_
            refine T_region ?_
            refine S_ 77 rfl rfl rfl _ (y_move rfl rfl) ?_
            refine S_ 78 rfl rfl rfl _ (y_call rfl rfl rfl cf47 (fun _ w _ => Cut1_any (cutC 10 s).1 32 w (by omega))) ?_
            refine S_ 76 rfl rfl rfl _ (y_move rfl rfl) ?_
            refine S_ 79 rfl rfl rfl _ (y_extract rfl rfl rfl) ?_
            refine S_ 80 rfl rfl rfl _ (y_extract rfl rfl rfl) ?_
            refine S_ 81 rfl rfl rfl _ (y_extract rfl rfl rfl) ?_
            refine S_ 14 rfl rfl rfl _ (y_assign rfl rfl) ?_
            refine S_ 15 rfl rfl rfl _ (y_assign rfl rfl) ?_
            refine S_ 16 rfl rfl rfl _ (y_assign rfl rfl) ?_
            refine S_go (fun _ _ h => h) ?_
            refine T_seq ?_
            refine T_region ?_
            refine S_ 83 rfl rfl rfl _ (y_move rfl rfl) ?_
            refine S_ 84 rfl rfl rfl _ (y_call rfl rfl rfl cf53 (fun _ w _ => itemWh_any s (by omega) w)) ?_
            refine S_ 82 rfl rfl rfl _ (y_move rfl rfl) ?_
            refine S_ 85 rfl rfl rfl _ (y_extract rfl rfl rfl) ?_
            refine S_ 86 rfl rfl rfl _ (y_extract rfl rfl rfl) ?_
            refine S_ 17 rfl rfl rfl _ (y_assign rfl rfl) ?_
            refine S_ 18 rfl rfl rfl _ (y_assign rfl rfl) ?_
            refine S_go (fun _ _ h => h) ?_
            refine T_seq ?_
            refine T_seq ?_
            refine T_region ?_
            refine S_ 87 rfl rfl rfl _ (y_move rfl rfl) ?_
            refine S_ 88 rfl rfl rfl _ (y_not rfl rfl) ?_
            refine S_ 89 rfl rfl rfl _ (y_move rfl rfl) ?_
            refine Sg_ 90 rfl rfl rfl rfl rfl rfl _ (y_move rfl rfl) ?_
            refine Sg_ 91 rfl rfl rfl rfl rfl rfl _ (y_not rfl rfl) ?_
            refine S_ 92 rfl rfl rfl _ (y_or rfl rfl rfl) ?_
            refine S_ 93 rfl rfl rfl _ (y_move rfl rfl) ?_
            refine Sg_ 94 rfl rfl rfl rfl rfl rfl _ (y_move rfl rfl) ?_
            refine Sg_ 95 rfl rfl rfl rfl rfl rfl _ (y_bin rfl rfl rfl (fun _ => b_eqls)) ?_
            refine S_ 96 rfl rfl rfl _ (y_or rfl rfl rfl) ?_
            refine S_ 97 rfl rfl rfl _ (y_move rfl rfl) ?_
            refine Sg_ 98 rfl rfl rfl rfl rfl rfl _ (y_move rfl rfl) ?_
            refine Sg_ 99 rfl rfl rfl rfl rfl rfl _ (y_not rfl rfl) ?_
            refine S_ 100 rfl rfl rfl _ (y_or rfl rfl rfl) ?_
            refine S_ 101 rfl rfl rfl _ (y_move rfl rfl) ?_
            refine Sg_ 102 rfl rfl rfl rfl rfl rfl _ (y_move rfl rfl) ?_
            refine Sg_ 103 rfl rfl rfl rfl rfl rfl _ (y_move rfl rfl) ?_
            refine Sg_ 104 rfl rfl rfl rfl rfl rfl _ (y_len_str rfl rfl Tryd.underlying9) ?_
            refine Sg_ 105 rfl rfl rfl rfl rfl rfl _ (y_bin rfl rfl rfl (fun _ => b_geq)) ?_
            refine S_ 106 rfl rfl rfl _ (y_or rfl rfl rfl) ?_
            refine S_ 107 rfl rfl rfl _ (y_move rfl rfl) ?_
            refine Sg_ 108 rfl rfl rfl rfl rfl rfl _ (y_move rfl rfl) ?_
            refine Sg_ 109 rfl rfl rfl rfl rfl rfl _ (y_move rfl rfl) ?_
            refine Sg_ 110 rfl rfl rfl rfl rfl rfl _ (y_index_str (j := itemJ s) rfl rfl rfl Tryd.underlying9 (fun hg => by simp at hg; omega)) ?_
            refine Sg_ 111 rfl rfl rfl rfl rfl rfl _ (y_bin rfl rfl rfl (fun _ => b_neq)) ?_
            refine S_ 112 rfl rfl rfl _ (y_as (v' := .bool (itemBad s)) (by exact congrArg Value.bool (bad_order _ _ _ _ _ _)) (y_or rfl rfl rfl)) ?_
            refine S_go (fun _ _ h => h) ?_
            refine T_cond rfl (fun h112 => ?_) (fun h112 => ?_)
            · skip
              rw [if_pos h112] at hp2
              refine T_seq ?_
              refine T_region ?_
              refine S_nilSlice 2 (e := 56) (size := 2) ?_
              refine S_ 2 rfl rfl rfl _ (y_assign rfl rfl) ?_
              refine S_ 3 rfl rfl rfl _ (y_assign rfl rfl) ?_
              refine S_go (fun _ _ h => h) ?_
              refine T_ret (fun a w hF hM => hRb a w (post2 rfl rfl rfl (fun w hM => ?_) a w hF hM))
              have hoi : oiRes (cutC 10 u).2.1 (openMany u) = ([], false) := by rw [oiRes, ← hp2]
              have hr : openRes u = (8, []) := by rw [openRes, if_neg (by omega), if_neg (by rw [h51]; exact Bool.false_ne_true), if_neg (by rw [h60]; decide), if_neg (by simpa using h66), if_pos (by rw [hoi])]
              rw [hr]
              exact ⟨none, 0, rfl, nilR, hM.below⟩
            · skip
              rw [if_neg (by rw [h112]; exact Bool.false_ne_true)] at hp2
              have hij := item_ok h112
              refine T_skip_go (fun _ _ h => h) ?_
              refine T_seq ?_
              refine T_region ?_
              refine S_ 113 rfl rfl rfl _ (y_move rfl rfl) ?_
              refine S_ 114 rfl rfl rfl _ (y_move rfl rfl) ?_
              refine S_ 115 rfl rfl rfl _ (y_move rfl rfl) ?_
              refine S_ 116 rfl rfl rfl _ (y_move rfl rfl) ?_
              refine S_ 117 rfl rfl rfl _ (y_as (v' := str ((cutC 10 s).2.1.take (itemJ s))) (by rfl) (y_strTo rfl rfl rfl Tryd.underlying9 (fun _ => by omega))) ?_
              refine S_ 118 rfl rfl rfl _ (y_build (zv := .agg #[.string ⟨#[]⟩, .string ⟨#[]⟩]) (pl := [(0, 1), (1, 1)]) (out := [_, _]) rfl rfl Tryd.underlying56 z56 (by kernel_rfl) rfl) ?_
              refine S_buildSlice 119 119 rfl rfl rfl rfl rfl Tryd.underlying49 inf56 rfl (by decide) (by decide) rfl rfl (by decide) rfl (_) rfl ?_
              intro b119
              obtain ⟨i120, hi120, hz120, hs120, hy120⟩ := info_parts inf56
              refine S_append 120 10 119 rfl rfl rfl rfl rfl rfl rfl rfl Tryd.underlying49 hi120 hz120 hs120 hy120 rfl (by decide) (by decide) rfl ?_ ?_ (i + 1) ((L ++ [itemOf s]).flatMap SItem.enc) ?_ ?_ ?_
              · (simp only [maxLen]; omega)
              · omega
              · rfl
              · simp [List.flatMap_append]; rfl
              intro A120 c120
              refine S_ 10 rfl rfl rfl _ (y_assign rfl rfl) ?_
              refine S_go (fun _ _ h => h) ?_
              refine T_region ?_
              refine S_ 121 rfl rfl rfl _ (y_move rfl rfl) ?_
              refine S_ 122 rfl rfl rfl _ (y_move rfl rfl) ?_
              refine S_ 123 rfl rfl rfl _ (y_bin rfl rfl rfl (fun hg => b_addv (((itemJ s + 1 : Nat) : Int)) (by omega) (by omega))) ?_
              refine S_ 124 rfl rfl rfl _ (y_as (v' := str (itemNext s)) (by rfl) (y_strFrom rfl rfl rfl Tryd.underlying9 (fun _ => by omega))) ?_
              refine S_ 5 rfl rfl rfl _ (y_assign rfl rfl) ?_
              refine S_go (fun _ _ h => h) ?_
              refine T_region ?_
              refine S_ 125 rfl rfl rfl _ (y_bin rfl rfl rfl (fun hg => b_add (by omega))) ?_
              refine S_ 68 rfl rfl rfl _ (y_move rfl rfl) ?_
              refine S_nil (nextK5 (kf := [(2, 3), (5, 5), (10, 18), (68, 125)]) (kl := [(2, 3), (5, 5), (10, 18), (68, 125)]) (i + 1) (itemNext s) (L ++ [itemOf s]) A120 c120 (by repeat (first | exact kf_nil | (apply kf_in; focus rfl) | (apply kf_out; focus rfl))) (by repeat (first | exact kl_nil | exact kl_rest (by assumption) rfl | (apply kl_in; focus rfl) | (apply kl_out; focus rfl))) ?_ ?_ ?_ ?_)
              · omega
              · exact ⟨by omega, by rw [← hp2, show openMany u - (i + 1) = k by omega], by rw [List.length_append, hp3]; rfl, by rw [itemNext, List.length_drop]; omega⟩
              · exact ⟨rfl, rfl, rfl, trivial⟩
              · exact ⟨rfl, trivial⟩
          · try simp only [decide_eq_true_eq, decide_eq_false_iff_not, Bool.or_eq_true, Bool.or_eq_false_iff, Bool.and_eq_true, Bool.and_eq_false_iff, Bool.not_eq_true', Bool.not_eq_false', Bool.not_eq_true, Bool.not_eq_false, Bool.not_true, Bool.not_false, Int.not_lt, Int.not_le, not_or, not_and, Classical.not_not] at h69
            have hk : openMany u - i = 0 := by omega
            rw [hk, itemsGo] at hp2
            have hoi : oiRes (cutC 10 u).2.1 (openMany u) = (L, decide (s = [])) := by rw [oiRes, ← hp2]
            refine T_exit_go (fun _ _ h => h) ?_
            refine T_seq ?_
            refine T_seq ?_
            refine T_region ?_
            refine S_ 126 rfl rfl rfl _ (y_move rfl rfl) ?_
            refine S_ 127 rfl rfl rfl _ (y_bin rfl rfl rfl (fun _ => b_neqs)) ?_
            refine S_go (fun _ _ h => h) ?_
            refine T_cond rfl (fun h127 => ?_) (fun h127 => ?_)
            · try simp only [decide_eq_true_eq, decide_eq_false_iff_not, Bool.or_eq_true, Bool.or_eq_false_iff, Bool.and_eq_true, Bool.and_eq_false_iff, Bool.not_eq_true', Bool.not_eq_false', Bool.not_eq_true, Bool.not_eq_false, Bool.not_true, Bool.not_false, Int.not_lt, Int.not_le, not_or, not_and, Classical.not_not] at h127
              refine T_seq ?_
              refine T_region ?_
              refine S_nilSlice 2 (e := 56) (size := 2) ?_
              refine S_ 2 rfl rfl rfl _ (y_assign rfl rfl) ?_
              refine S_ 3 rfl rfl rfl _ (y_assign rfl rfl) ?_
              refine S_go (fun _ _ h => h) ?_
              refine T_ret (fun a w hF hM => hRb a w (post2 rfl rfl rfl (fun w hM => ?_) a w hF hM))
              have h127 : ¬ s = [] := h127
              have hr : openRes u = (8, []) := by rw [openRes, if_neg (by omega), if_neg (by rw [h51]; exact Bool.false_ne_true), if_neg (by rw [h60]; decide), if_neg (by simpa using h66), if_pos (by rw [hoi]; exact decide_eq_false h127)]
              rw [hr]
              exact ⟨none, 0, rfl, nilR, hM.below⟩
            · try simp only [decide_eq_true_eq, decide_eq_false_iff_not, Bool.or_eq_true, Bool.or_eq_false_iff, Bool.and_eq_true, Bool.and_eq_false_iff, Bool.not_eq_true', Bool.not_eq_false', Bool.not_eq_true, Bool.not_eq_false, Bool.not_true, Bool.not_false, Int.not_lt, Int.not_le, not_or, not_and, Classical.not_not] at h127
              refine T_skip_go (fun _ _ h => h) ?_
              refine T_seq ?_
              refine T_seq ?_
              refine T_region ?_
              refine S_ 128 rfl rfl rfl _ (y_move rfl rfl) ?_
              refine S_ 129 rfl rfl rfl _ (y_len_slice rfl rfl Tryd.underlying49) ?_
              refine S_ 130 rfl rfl rfl _ (y_bin rfl rfl rfl (fun _ => b_gtr)) ?_
              refine S_go (fun _ _ h => h) ?_
              refine T_cond rfl (fun h130 => ?_) (fun h130 => ?_)
              · try simp only [decide_eq_true_eq, decide_eq_false_iff_not, Bool.or_eq_true, Bool.or_eq_false_iff, Bool.and_eq_true, Bool.and_eq_false_iff, Bool.not_eq_true', Bool.not_eq_false', Bool.not_eq_true, Bool.not_eq_false, Bool.not_true, Bool.not_false, Int.not_lt, Int.not_le, not_or, not_and, Classical.not_not] at h130
                refine T_seq ?_
                refine T_region ?_
                refine S_nilSlice 2 (e := 56) (size := 2) ?_
                refine S_ 2 rfl rfl rfl _ (y_assign rfl rfl) ?_
                refine S_ 3 rfl rfl rfl _ (y_assign rfl rfl) ?_
                refine S_go (fun _ _ h => h) ?_
                refine T_ret (fun a w hF hM => hRb a w (post2 rfl rfl rfl (fun w hM => ?_) a w hF hM))
                have h127 : s = [] := by simpa using h127
                have hr : openRes u = (4, []) := by rw [openRes, if_neg (by omega), if_neg (by rw [h51]; exact Bool.false_ne_true), if_neg (by rw [h60]; decide), if_neg (by simpa using h66), hoi, if_neg (by simp [h127]), if_pos (by show (100 : Int) < (L.length : Nat); omega)]
                rw [hr]
                exact ⟨none, 0, rfl, nilR, hM.below⟩
              · try simp only [decide_eq_true_eq, decide_eq_false_iff_not, Bool.or_eq_true, Bool.or_eq_false_iff, Bool.and_eq_true, Bool.and_eq_false_iff, Bool.not_eq_true', Bool.not_eq_false', Bool.not_eq_true, Bool.not_eq_false, Bool.not_true, Bool.not_false, Int.not_lt, Int.not_le, not_or, not_and, Classical.not_not] at h130
                refine T_skip_go (fun _ _ h => h) ?_
                refine T_seq ?_
                refine T_seq ?_
                refine T_region ?_
                refine S_ 131 rfl rfl rfl _ (y_move rfl rfl) ?_
                refine S_ 132 rfl rfl rfl _ (y_len_slice rfl rfl Tryd.underlying49) ?_
                refine S_ 133 rfl rfl rfl _ (y_move rfl rfl) ?_
                refine S_go (fun _ _ h => h) ?_
                refine T_block ?_
                refine T_loopK1 (kf := [(2, 3), (20, 20), (133, 141)]) (kl := [(2, 3), (20, 20), (133, 141)]) (fun (j : Nat) => [(133, true, .int .i64 (j : Int))]) (fun (j : Nat) => []) (fun (j : Nat) => j ≤ i ∧ kindsBad L = (L.drop j).any fun x => !nameOk x.k) (fun (j : Nat) => i - j) 0 (by repeat (first | exact kf_nil | (apply kf_in; focus rfl) | (apply kf_out; focus rfl))) (by repeat (first | exact kl_nil | exact kl_rest (by assumption) rfl | (apply kl_in; focus rfl) | (apply kl_out; focus rfl))) ?_ ?_ ?_ ?_
                · exact ⟨by omega, rfl⟩
                · exact ⟨rfl, trivial⟩
                · exact trivial
                rintro j ⟨hr1, hr2⟩
                refine T_seq ?_
                refine T_region ?_
                refine S_ 134 rfl rfl rfl _ (y_bin rfl rfl rfl (fun _ => b_lss)) ?_
                refine S_go (fun _ _ h => h) ?_
                refine T_seq ?_
                refine T_cond rfl (fun h134 => ?_) (fun h134 => ?_)
                · try simp only [decide_eq_true_eq, decide_eq_false_iff_not, Bool.or_eq_true, Bool.or_eq_false_iff, Bool.and_eq_true, Bool.and_eq_false_iff, Bool.not_eq_true', Bool.not_eq_false', Bool.not_eq_true, Bool.not_eq_false, Bool.not_true, Bool.not_false, Int.not_lt, Int.not_le, not_or, not_and, Classical.not_not] at h134
                  obtain ⟨x, hx1, hx2⟩ := at_lt (l := L) (i := j) (by omega)
                  refine T_skip_go (fun _ _ h => h) ?_
                  refine T_seq ?_
                  refine T_block ?_
                  refine T_seq ?_
                  refine T_region ?_
                  refine S_ 135 rfl rfl rfl _ (y_indexOwn 10 rfl rfl rfl rfl Tryd.underlying49 sz56 (fun _ => by omega)) ?_
                  refine S_ 136 rfl rfl rfl _ (y_loadO 10 rfl rfl rfl hp3 (fun _ => rfl) (fun _ => hx1) Tryd.underlying56 rfl sz56) ?_
                  refine S_alloc 20 20 rfl rfl rfl rfl z56 ?_
                  intro b20
                  refine S_store 20 rfl rfl rfl rfl rfl rfl sz56 rfl rfl ?_
                  refine S_go (fun _ _ h => h) ?_
                  refine T_seq ?_
                  refine T_region ?_
                  refine S_ 137 rfl rfl rfl _ (y_fieldAddr rfl rfl fa56_0) ?_
                  refine S_ 138 rfl rfl rfl _ (y_load 20 rfl rfl rfl rfl Tryd.underlying9 rfl) ?_
                  refine S_ 139 rfl rfl rfl _ (y_call rfl rfl rfl cf43 (fun _ w _ => NameOk_any x.k w)) ?_
                  refine S_ 140 rfl rfl rfl _ (y_not rfl rfl) ?_
                  refine S_go (fun _ _ h => h) ?_
                  refine T_cond rfl (fun h140 => ?_) (fun h140 => ?_)
                  · skip
                    have h140 : nameOk x.k = false := by simpa using h140
                    refine T_seq ?_
                    refine T_region ?_
                    refine S_nilSlice 2 (e := 56) (size := 2) ?_
                    refine S_ 2 rfl rfl rfl _ (y_assign rfl rfl) ?_
                    refine S_ 3 rfl rfl rfl _ (y_assign rfl rfl) ?_
                    refine S_go (fun _ _ h => h) ?_
                    refine T_ret (fun a w hF hM => hRb a w (post2 rfl rfl rfl (fun w hM => ?_) a w hF hM))
                    have h127 : s = [] := by simpa using h127
                    have hr : openRes u = (3, []) := by rw [openRes, if_neg (by omega), if_neg (by rw [h51]; exact Bool.false_ne_true), if_neg (by rw [h60]; decide), if_neg (by simpa using h66), hoi, if_neg (by simp [h127]), if_neg (by show ¬ (100 : Int) < (L.length : Nat); omega), if_pos (by rw [hr2, hx2, List.any_cons, h140]; rfl)]
                    rw [hr]
                    exact ⟨none, 0, rfl, nilR, hM.below⟩
                  · skip
                    have h140 : nameOk x.k = true := by simpa using h140
                    refine T_skip_go (fun _ _ h => h) ?_
                    refine T_region ?_
                    refine S_ 141 rfl rfl rfl _ (y_bin rfl rfl rfl (fun hg => b_add (by omega))) ?_
                    refine S_ 133 rfl rfl rfl _ (y_move rfl rfl) ?_
                    refine S_nil (nextK1 (kf := [(2, 3), (20, 20), (133, 141)]) (kl := [(2, 3), (20, 20), (133, 141)]) (j + 1) (by repeat (first | exact kf_nil | (apply kf_in; focus rfl) | (apply kf_out; focus rfl))) (by repeat (first | exact kl_nil | exact kl_rest (by assumption) rfl | (apply kl_in; focus rfl) | (apply kl_out; focus rfl))) ?_ ?_ ?_ ?_)
                    · omega
                    · exact ⟨by omega, by rw [hr2, kinds_at hx2 h140]⟩
                    · exact ⟨rfl, trivial⟩
                    · exact trivial
                · try simp only [decide_eq_true_eq, decide_eq_false_iff_not, Bool.or_eq_true, Bool.or_eq_false_iff, Bool.and_eq_true, Bool.and_eq_false_iff, Bool.not_eq_true', Bool.not_eq_false', Bool.not_eq_true, Bool.not_eq_false, Bool.not_true, Bool.not_false, Int.not_lt, Int.not_le, not_or, not_and, Classical.not_not] at h134
                  refine T_exit_go (fun _ _ h => h) ?_
                  refine T_seq ?_
                  refine T_region ?_
                  refine S_ 142 rfl rfl rfl _ (y_move rfl rfl) ?_
                  refine S_ 2 rfl rfl rfl _ (y_assign rfl rfl) ?_
                  refine S_ 3 rfl rfl rfl _ (y_assign rfl rfl) ?_
                  refine S_go (fun _ _ h => h) ?_
                  refine T_ret (fun a w hF hM => hRb a w (post2 rfl rfl rfl (fun w hM => ?_) a w hF hM))
                  have h127 : s = [] := by simpa using h127
                  have hkb : kindsBad L = false := by rw [hr2, List.drop_eq_nil_of_le (by omega)]; rfl
                  have hr : openRes u = (0, L) := by rw [openRes, if_neg (by omega), if_neg (by rw [h51]; exact Bool.false_ne_true), if_neg (by rw [h60]; decide), if_neg (by simpa using h66), hoi, if_neg (by simp [h127]), if_neg (by show ¬ (100 : Int) < (L.length : Nat); omega), if_neg (by rw [hkb]; exact Bool.false_ne_true)]
                  rw [hr]
                  subst hp3
                  exact ⟨A, c, rfl, hM.sat 10 _ rfl, hM.below⟩
end Go.Proofs.YtpmlgnbbkpplhaaDoor
