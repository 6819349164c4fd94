/- Part 2, merged by a program. The reference's Star: a table of what fits. Condition: the lengths are bounded. Lower letters: fitting without regard to letters is fitting of the lowered. Plain lists; no program in sight. The reference's lower, and FitsText. Condition: the lengths are bounded. What is made plain is right where the condition was, is plain, is no greater, and holds for the same. Plain trees; no program in sight. Events that are right are small, and what a leaf of a condition asks of an event. No program in sight. Rules that mask find nothing when they are asked again; the same content has the same faults. No program in sight. What is cleared, and groups: the rules' faults, the program's and the reference's. Conditions: those of each theorem. event.Clear with rules that mask. Conditions: those of the theorem. A function value that asks something of what it is given, kept for all later worlds; whether one of a list is such. Conditions: those of each theorem. The functions that find.test returns ask what they ought to. Conditions: those of each theorem. find.test: the function value that it returns asks what its condition holds for. Conditions: the condition is right. find.Holds. Conditions: those of the theorem. The reference's deeper, count and ranged. Conditions: those of each theorem. The reference's fault of a condition. Conditions: those of each theorem. The reference's CondHolds. Conditions: the condition is right, the event is small. FindHolds answers true, for all conditions, events, patterns and texts of the sizes that are named. Conditions: those sizes. An index of events: its state in plain lists. No program in sight. find.Index: NewIndex, Put, Drop, Get, Size. Conditions: those of each theorem. cmp.Compare of numbers and of strings. No condition. Three-way compares, and sorted lists that are one. No program in sight. Merging in place, in plain lists: insertion, the split of two sorted rows, blocks that grow. No program in sight. Events that say the same wherever they lie; the orders of what an index finds. No program in sight. find.(*Index).found: what a condition finds, in order of time. Conditions: those of the theorem. slices.SortStableFunc walked, first part: rows that change places, insertion. Conditions: those of each theorem. slices.Reverse of events, over a row of ours. Conditions: those of the theorem. -/
import Derived.Test.YtekbcbjimajnfaaGreatDoorZip
import Derived.Test.YtekbcbjimajnfaaGreatDoorCopy
import Derived.Test.YtekbcbjimajnfaaGreatDoorMov
import Derived.Test.YtekbcbjimajnfaaGreatDoorSwp
import Derived.Test.YtekbcbjimajnfaaGreatDoorByw
import Derived.Test.YtekbcbjimajnfaaGreatDoorPost
import Derived.Test.YtekbcbjimajnfaaGreatDoorBxr
import Derived.Test.YtekbcbjimajnfaaGreatDoorShelf
import Derived.Test.YtekbcbjimajnfaaGreatDoorMdl
import Derived.Test.YtekbcbjimajnfaaGreatDoorJoi
import Derived.Test.YtekbcbjimajnfaaGreatDoorOpsB
import Derived.Test.YtekbcbjimajnfaaGreatDoorSort
import Derived.Sort.Walk0
import Derived.Test.YtekbcbjimajnfaaGreatDoorSlsf
import Derived.Test.YtekbcbjimajnfaaGreatDoorUnb
import Derived.Test.YtekbcbjimajnfaaGreatDoorPk1
section
namespace Go.Proofs.YtekbcbjimajnfaaGreatDoor
set_option linter.unusedSimpArgs false
set_option linter.unusedVariables false
set_option maxRecDepth 20000
open Go.RowKit Go.Eng
def eqS (a b : UInt8) : Bool := decide (a = b)
def e0L (n : Nat) : List Bool := true :: List.replicate n false
def boolE (b : Bool) : List Value := [.bool b]
theorem bools_flat (l : List Bool) : l.flatMap boolE = l.map Value.bool := by
  induction l with
  | nil => rfl
  | cons a r ih => rw [List.flatMap_cons, ih]; rfl
theorem bools_len (l : List Bool) : (l.flatMap boolE).length = l.length := by rw [bools_flat, List.length_map]
theorem made_bool (z : Value) (hz : z = .bool false) (n : Nat) : (madeCells z.cells (n * 1)).toList = (List.replicate n false).flatMap boolE := by
  subst hz
  rw [bools_flat, Nat.mul_one]
  apply List.ext_getElem?
  intro j
  by_cases h : j < n
  · simp [madeCells, h, List.getElem?_replicate, Value.cells, Nat.mod_one]
  · simp [madeCells, h, List.getElem?_replicate]
/-- the first i places are f's, the others false -/
def bfill (f : Nat → Bool) (q i : Nat) : List Bool := (List.range i).map f ++ List.replicate (q - i) false
theorem bfill_len {f : Nat → Bool} {q i : Nat} (h : i ≤ q) : (bfill f q i).length = q := by simp [bfill]; omega
theorem bfill_0 {f : Nat → Bool} {q : Nat} : bfill f q 0 = List.replicate q false := by simp [bfill]
theorem bfill_at {f : Nat → Bool} {q i j : Nat} (h : j < i) : (bfill f q i)[j]? = some (f j) := by
  rw [bfill, List.getElem?_append_left (by simp; exact h)]
  simp [h]
theorem bfill_set {f : Nat → Bool} {q i : Nat} (h : i < q) : ((bfill f q i).flatMap boolE).set i (.bool (f i)) = (bfill f q (i + 1)).flatMap boolE := by
  obtain ⟨m, hm⟩ : ∃ m, q - i = m + 1 := ⟨q - i - 1, by omega⟩
  rw [bools_flat, bools_flat, bfill, bfill, hm, show q - (i + 1) = m by omega, List.replicate_succ, List.range_succ]
  simp only [List.map_append, List.map_cons, List.map_nil, List.map_map]
  rw [List.set_append_right _ _ (by simp)]
  simp
theorem bfill_end {f : Nat → Bool} {q i : Nat} (h : q ≤ i) (h2 : i ≤ q) : bfill f q i = (List.range q).map f := by
  obtain rfl : i = q := by omega
  simp [bfill]
/-! ### step -/
theorem getD_at {l : List Bool} {i : Nat} (h : i < l.length) : l[i]? = some (l.getD i false) := by
  rw [List.getD_eq_getElem?_getD, List.getElem?_eq_getElem h]; rfl
theorem T_isome {P : Program} {w0 : World} {n : Nat} {k : Code} {F : FL} {L : HL} {Q : Exit → Act → World → Prop} (i : Nat) {e : TypeId} {size q c : Nat} {A : Option Addr} {xs : List Value} (hL : L.get i = some (.own e size (.slice A q c) q xs)) (h : (0 < q → A.isSome = true) → T P w0 n k F L Q) : T P w0 n k F L Q :=
  fun a w hF hM => h (fun h0 => SlR.isSome (own_reads hM hL) h0) a w hF hM
theorem e0_set {z : Value} (hz : z = .bool false) (n : Nat) : ((madeCells z.cells ((n + 1) * 1)).toList).set 0 (.bool true) = (e0L n).flatMap boolE := by
  rw [made_bool z hz, bools_flat, bools_flat, e0L, List.replicate_succ]; rfl
theorem row0 (s : List UInt8) : rowG eqS [] s = e0L s.length := rowG_0 s
theorem rowG_len (p s : List UInt8) : (rowG eqS p s).length = s.length + 1 := by simp [rowG]
theorem rowG_next (p s : List UInt8) (a : UInt8) : (List.range (s.length + 1)).map (nxF (e := eqS) a s (rowG eqS p s)) = rowG eqS (p ++ [a]) s := by
  rw [rowG]
  apply List.map_congr_left
  intro k hk
  exact nxF_row k (by have := List.mem_range.1 hk; omega)
theorem nx_star {a : UInt8} {s : List UInt8} {fits : List Bool} {k : Nat} (ha : a = 42) : (fits.getD k false || (decide ((0 : Int) < ((k : Nat) : Int)) && nxF (e := eqS) a s fits (k - 1))) = nxF (e := eqS) a s fits k := by
  cases k with
  | zero => rw [nxF, if_pos ha, decide_eq_false (by omega), Bool.false_and, Bool.or_false]
  | succ k => rw [nxF, if_pos ha, decide_eq_true (by omega), Bool.true_and, Nat.add_sub_cancel]
theorem nx_lit {a : UInt8} {s : List UInt8} {fits : List Bool} {k : Nat} (ha : a ≠ 42) : (decide ((0 : Int) < ((k : Nat) : Int)) && fits.getD (k - 1) false && decide ((((s.getD (k - 1) 0).toNat : Nat) : Int) = ((a.toNat : Nat) : Int))) = nxF (e := eqS) a s fits k := by
  cases k with
  | zero => rw [nxF, if_neg ha, decide_eq_false (by omega), Bool.false_and, Bool.false_and]
  | succ k =>
    rw [nxF, if_neg ha, decide_eq_true (by omega), Bool.true_and, Nat.add_sub_cancel, eqS]
    congr 1
    exact decide_eq_decide.2 ⟨fun h => (UInt8.toNat_inj.1 (by omega)).symm, fun h => by rw [h]⟩
set_option maxHeartbeats 1600000 in
theorem Star_any (p s : List UInt8) (hp : p.length ≤ 140737488351234) (hqm : s.length ≤ 140737488351232) (w : World) :
    Calls Tryz.prog 219 #[str p, str s] w fun e w' => e = .returned (.bool (gm eqS p s)) ∧ Below w.heap.size w w' := by
  refine enter_args (args := [str p, str s]) (F := _) Tryz.func219 rfl Tryz.ntmps219 rfl rfl ?_
  intro Rb hRb hRn
  refine tx ?_
  refine sr 1 ?_
  refine sgx ?_
  refine sr 1 ?_
  refine s1 (y_len_str rfl rfl Tryz.underlying9) ?_
  refine s1 (y_bin rfl rfl rfl (fun hg => b_addv (((s.length + 1 : Nat) : Int)) (by omega) (by omega))) ?_
  obtain ⟨i12, hi12, hz12, hs12, hy12⟩ := info_parts inf4
  refine S_makeSlice 12 12 rfl rfl rfl rfl rfl rfl Tryz.underlying229 hi12 hz12 hs12 (by rw [hy12]; omega) ((by simp only [maxLen]; omega)) rfl ?_
  intro b12
  refine sr 1 ?_
  refine sgx ?_
  refine sr 1 ?_
  refine s1 (y_indexOwnI (j := 0) 12 rfl rfl rfl (fun _ => rfl) rfl Tryz.underlying229 sz4 (fun _ => by omega)) ?_
  refine S_storeOwn 12 rfl rfl rfl rfl rfl rfl sz4 rfl rfl ?_ (xs' := (e0L s.length).flatMap boolE) ?_ ?_
  · (rw [made_bool _ rfl, bools_len, List.length_replicate]; omega)
  · exact e0_set rfl s.length
  refine sgs ?_
  refine tx ?_
  refine sr 1 ?_
  refine s1 (y_len_str rfl rfl Tryz.underlying9) ?_
  refine sr 1 ?_
  refine sgo ?_
  refine T_block ?_
  refine lK3 (kf := [(5, 8), (17, 75)]) (kl := [(5, 8), (12, 12), (17, 75)]) (fun (i : Nat) (A : Option Addr) (c : Nat) => [(17, true, .int .i64 (i : Int)), (5, true, .slice A (s.length + 1) c)]) (fun (i : Nat) (A : Option Addr) (c : Nat) => [(12, .own 4 1 (.slice A (s.length + 1) c) (s.length + 1) ((rowG eqS (p.take i) s).flatMap boolE))]) (fun (i : Nat) (A : Option Addr) (c : Nat) => i ≤ p.length) (fun (i : Nat) (A : Option Addr) (c : Nat) => p.length - i) 0 (some ⟨b12, 0, none⟩) (s.length + 1) ?_ ?_ ?_ ?_
  · omega
  · exact ⟨rfl, rfl, trivial⟩
  · exact ⟨by rw [List.take_zero, row0]; rfl, trivial⟩
  rintro i A c hr1
  refine tx ?_
  refine sr 1 ?_
  refine sgs ?_
  refine T_cond rfl ?_ ?_ <;> intro h18
  · try simp only [nrm] at h18
    have hi : i < p.length := by omega
    obtain ⟨fits, hft⟩ : ∃ f, f = rowG eqS (p.take i) s := ⟨_, rfl⟩
    have hfl : fits.length = s.length + 1 := by rw [hft, rowG_len]
    rw [← hft]
    have hpt : p.take (i + 1) = p.take i ++ [p.getD i 0] := by rw [List.getD_eq_getElem?_getD, List.getElem?_eq_getElem hi, List.take_succ_eq_append_getElem hi]; rfl
    refine kgs ?_
    refine T_block ?_
    refine tx ?_
    refine sr 2 ?_
    refine sgx ?_
    refine sr 1 ?_
    refine s1 (y_len_str rfl rfl Tryz.underlying9) ?_
    refine s1 (y_bin rfl rfl rfl (fun hg => b_addv (((s.length + 1 : Nat) : Int)) (by omega) (by omega))) ?_
    obtain ⟨i23, hi23, hz23, hs23, hy23⟩ := info_parts inf4
    refine S_makeSlice 23 23 rfl rfl rfl rfl rfl rfl Tryz.underlying229 hi23 hz23 hs23 (by rw [hy23]; omega) ((by simp only [maxLen]; omega)) rfl ?_
    intro b23
    refine sr 1 ?_
    refine sgs ?_
    refine tx ?_
    refine sr 1 ?_
    refine s1 (y_len_slice rfl rfl Tryz.underlying229) ?_
    refine sr 1 ?_
    refine sgo ?_
    refine T_block ?_
    refine lK1 (kf := [(8, 8), (26, 73)]) (kl := [(8, 8), (23, 23), (26, 73)]) (fun (k : Nat) => [(26, true, .int .i64 (k : Int))]) (fun (k : Nat) => [(23, .own 4 1 (.slice (some ⟨b23, 0, none⟩) (s.length + 1) (s.length + 1)) (s.length + 1) ((bfill (nxF (e := eqS) (p.getD i 0) s fits) (s.length + 1) k).flatMap boolE))]) (fun (k : Nat) => k ≤ s.length + 1) (fun (k : Nat) => s.length + 1 - k) 0 ?_ ?_ ?_ ?_
    · omega
    · exact ⟨rfl, trivial⟩
    · exact ⟨by rw [bfill_0, ← made_bool _ rfl]; rfl, trivial⟩
    rintro k hq1
    refine tx ?_
    refine sr 1 ?_
    refine sgs ?_
    refine T_cond rfl ?_ ?_ <;> intro h27
    · try simp only [nrm] at h27
      refine T_isome 23 rfl fun hA23 => ?_
      refine T_isome 12 rfl fun hA12 => ?_
      refine kgs ?_
      refine T_block ?_
      refine tx ?_
      refine sr 2 ?_
      refine sgx ?_
      refine sr 2 ?_
      refine s1 (y_index_str rfl rfl rfl Tryz.underlying9 (fun _ => by omega)) ?_
      refine sr 1 ?_
      refine sgo ?_
      refine T_cond rfl ?_ ?_ <;> intro h32
      · skip
        have ha : p.getD i 0 = 42 := UInt8.toNat_inj.1 (show (p.getD i 0).toNat = 42 by simp only [decide_eq_true_eq] at h32; omega)
        refine T_region ?_
        refine sr 4 ?_
        refine s1 (y_indexAddr rfl rfl rfl Tryz.underlying229 sz4 (fun hg => hA12 (by omega)) (fun _ => by omega)) ?_
        refine s1 (y_loadO1 12 (val := (fun b : Bool => Value.bool b)) rfl rfl rfl (by first | omega | (rw [rowG_len])) (fun _ => getD_at (by omega)) Tryz.underlying4 rfl) ?_
        refine sr 1 ?_
        refine sg rfl (y_move rfl rfl) ?_
        refine sg rfl (y_bin rfl rfl rfl (fun _ => b_gtr)) ?_
        refine sg rfl (y_move rfl rfl) ?_
        refine sg rfl (y_move rfl rfl) ?_
        refine sg rfl (y_move rfl rfl) ?_
        refine sg rfl (y_bin rfl rfl rfl (fun hg => b_subv (((k - 1 : Nat) : Int)) (by simp only [Bool.true_and, Bool.and_eq_true, beq_iff_eq, decide_eq_true_eq, decide_eq_false_iff_not, Int.not_lt, Int.not_le] at hg; omega) (by simp only [Bool.true_and, Bool.and_eq_true, beq_iff_eq, decide_eq_true_eq, decide_eq_false_iff_not, Int.not_lt, Int.not_le] at hg; omega))) ?_
        refine sg rfl (y_indexAddr rfl rfl rfl Tryz.underlying229 sz4 (fun hg => hA23 (by simp only [Bool.true_and, Bool.and_eq_true, beq_iff_eq, decide_eq_true_eq, decide_eq_false_iff_not, Int.not_lt, Int.not_le] at hg; omega)) (fun hg => by simp only [Bool.true_and, Bool.and_eq_true, beq_iff_eq, decide_eq_true_eq, decide_eq_false_iff_not, Int.not_lt, Int.not_le] at hg; omega)) ?_
        refine sg rfl (y_loadO1 23 (val := (fun b : Bool => Value.bool b)) rfl rfl rfl (bfill_len (by omega)) (fun hg => bfill_at (j := k - 1) (by simp only [Bool.true_and, Bool.and_eq_true, beq_iff_eq, decide_eq_true_eq, decide_eq_false_iff_not, Int.not_lt, Int.not_le] at hg; omega)) Tryz.underlying4 rfl) ?_
        refine sg rfl (y_and rfl rfl rfl) ?_
        refine s1 (y_as (v' := .bool (nxF (e := eqS) (p.getD i 0) s fits k)) (by exact congrArg Value.bool (nx_star ha)) (y_or rfl rfl rfl)) ?_
        refine s1 (y_indexAddr rfl rfl rfl Tryz.underlying229 sz4 (fun hg => hA23 (by omega)) (fun _ => by omega)) ?_
        refine S_storeOwn 23 rfl rfl rfl rfl rfl rfl sz4 rfl rfl ?_ (xs' := (bfill (nxF (e := eqS) (p.getD i 0) s fits) (s.length + 1) (k + 1)).flatMap boolE) ?_ ?_
        · (rw [bools_len, bfill_len (by omega)]; omega)
        · exact bfill_set (by omega)
        refine sgr ?_
        refine s1 (y_bin rfl rfl rfl (fun hg => b_add (by omega))) ?_
        refine sr 1 ?_
        refine S_nil (nK1 (kf := [(8, 8), (26, 73)]) (kl := [(8, 8), (23, 23), (26, 73)]) (k + 1) ?_ ?_ ?_ ?_)
        · omega
        · omega
        · exact ⟨rfl, trivial⟩
        · exact ⟨rfl, trivial⟩
      have ha : p.getD i 0 ≠ 42 := fun e => by rw [e] at h32; simp at h32
      refine T_drawsTail 22 (by kernel_rfl) (by kernel_rfl) ?_
      refine d1 (y_move rfl rfl) ?_
      refine d1 (y_move rfl rfl) ?_
      refine d1 (y_move rfl rfl) ?_
      refine d1 (y_bin rfl rfl rfl (fun _ => b_gtr)) ?_
      refine d1 (y_move rfl rfl) ?_
      refine dg rfl (y_move rfl rfl) ?_
      refine dg rfl (y_move rfl rfl) ?_
      refine dg rfl (y_bin rfl rfl rfl (fun hg => b_subv (((k - 1 : Nat) : Int)) (by simp only [Bool.true_and, Bool.and_eq_true, beq_iff_eq, decide_eq_true_eq, decide_eq_false_iff_not, Int.not_lt, Int.not_le] at hg; omega) (by simp only [Bool.true_and, Bool.and_eq_true, beq_iff_eq, decide_eq_true_eq, decide_eq_false_iff_not, Int.not_lt, Int.not_le] at hg; omega))) ?_
      refine dg rfl (y_indexAddr rfl rfl rfl Tryz.underlying229 sz4 (fun hg => hA12 (by simp only [Bool.true_and, Bool.and_eq_true, beq_iff_eq, decide_eq_true_eq, decide_eq_false_iff_not, Int.not_lt, Int.not_le] at hg; omega)) (fun hg => by simp only [Bool.true_and, Bool.and_eq_true, beq_iff_eq, decide_eq_true_eq, decide_eq_false_iff_not, Int.not_lt, Int.not_le] at hg; omega)) ?_
      refine dg rfl (y_loadO1 12 (val := (fun b : Bool => Value.bool b)) rfl rfl rfl (by first | omega | (rw [rowG_len])) (fun hg => getD_at (by simp only [Bool.true_and, Bool.and_eq_true, beq_iff_eq, decide_eq_true_eq, decide_eq_false_iff_not, Int.not_lt, Int.not_le] at hg; omega)) Tryz.underlying4 rfl) ?_
      refine d1 (y_and rfl rfl rfl) ?_
      refine d1 (y_move rfl rfl) ?_
      refine dg rfl (y_move rfl rfl) ?_
      refine dg rfl (y_move rfl rfl) ?_
      refine dg rfl (y_bin rfl rfl rfl (fun hg => b_subv (((k - 1 : Nat) : Int)) (by simp only [Bool.true_and, Bool.and_eq_true, beq_iff_eq, decide_eq_true_eq, decide_eq_false_iff_not, Int.not_lt, Int.not_le] at hg; omega) (by simp only [Bool.true_and, Bool.and_eq_true, beq_iff_eq, decide_eq_true_eq, decide_eq_false_iff_not, Int.not_lt, Int.not_le] at hg; omega))) ?_
      refine dg rfl (y_index_str rfl rfl rfl Tryz.underlying9 (fun hg => by simp only [Bool.true_and, Bool.and_eq_true, beq_iff_eq, decide_eq_true_eq, decide_eq_false_iff_not, Int.not_lt, Int.not_le] at hg; omega)) ?_
      refine dg rfl (y_move rfl rfl) ?_
      refine dg rfl (y_move rfl rfl) ?_
      refine dg rfl (y_index_str rfl rfl rfl Tryz.underlying9 (fun hg => by simp only [Bool.true_and, Bool.and_eq_true, beq_iff_eq, decide_eq_true_eq, decide_eq_false_iff_not, Int.not_lt, Int.not_le] at hg; omega)) ?_
      refine dg rfl (y_bin rfl rfl rfl (fun _ => b_eql)) ?_
      refine d1 (y_as (v' := .bool (nxF (e := eqS) (p.getD i 0) s fits k)) (by exact congrArg Value.bool (nx_lit ha)) (y_and rfl rfl rfl)) ?_
      refine d1 (y_indexAddr rfl rfl rfl Tryz.underlying229 sz4 (fun hg => hA23 (by omega)) (fun _ => by omega)) ?_
      refine D_tail ?_
      refine S_storeOwn 23 rfl rfl rfl rfl rfl rfl sz4 rfl rfl ?_ (xs' := (bfill (nxF (e := eqS) (p.getD i 0) s fits) (s.length + 1) (k + 1)).flatMap boolE) ?_ ?_
      · (rw [bools_len, bfill_len (by omega)]; omega)
      · exact bfill_set (by omega)
      refine sgr ?_
      refine s1 (y_bin rfl rfl rfl (fun hg => b_add (by omega))) ?_
      refine sr 1 ?_
      refine S_nil (nK1 (kf := [(8, 8), (26, 73)]) (kl := [(8, 8), (23, 23), (26, 73)]) (k + 1) ?_ ?_ ?_ ?_)
      · omega
      · omega
      · exact ⟨rfl, trivial⟩
      · exact ⟨rfl, trivial⟩
    try simp only [nrm] at h27
    rw [bfill_end (by omega) hq1, hft, rowG_next, ← hpt]
    refine egr ?_
    refine sr 2 ?_
    refine sgr ?_
    refine s1 (y_bin rfl rfl rfl (fun hg => b_add (by omega))) ?_
    refine sr 1 ?_
    refine S_move [(12, 12), (23, 23)] 12 23 rfl rfl (by repeat (first | exact kl_nil | exact kl_rest (by assumption) rfl | (apply kl_in; focus rfl) | (apply kl_out; focus rfl))) ?_
    refine S_nil (nK3 (kf := [(5, 8), (17, 75)]) (kl := [(5, 8), (12, 12), (17, 75)]) (i + 1) (some ⟨b23, 0, none⟩) (s.length + 1) ?_ ?_ ?_ ?_)
    · omega
    · omega
    · exact ⟨rfl, rfl, trivial⟩
    · exact ⟨rfl, trivial⟩
  try simp only [nrm] at h18
  have hpe : p.take i = p := List.take_of_length_le (by omega)
  rw [hpe]
  refine T_isome 12 rfl fun hA12 => ?_
  refine egx ?_
  refine sr 2 ?_
  refine s1 (y_len_str rfl rfl Tryz.underlying9) ?_
  refine s1 (y_indexAddr rfl rfl rfl Tryz.underlying229 sz4 (fun hg => hA12 (by omega)) (fun _ => by omega)) ?_
  refine s1 (y_loadO1 12 (val := (fun b : Bool => Value.bool b)) rfl rfl rfl (by first | omega | (rw [rowG_len])) (fun _ => getD_at (by rw [rowG_len]; omega)) Tryz.underlying4 rfl) ?_
  refine sr 1 ?_
  refine sgo ?_
  refine tr1 hRb fun w hM => ?_
  exact ⟨by rw [rowG_at (Nat.le_refl _), List.take_length], hM.below⟩
end Go.Proofs.YtekbcbjimajnfaaGreatDoor
end
section
namespace Go.Proofs.YtekbcbjimajnfaaGreatDoor
set_option linter.unusedSimpArgs false
set_option linter.unusedVariables false
set_option maxRecDepth 20000
open Go.RowKit Go.Eng
def lowB (c : UInt8) : UInt8 := UInt8.ofNat (lowN c.toNat)
theorem lowN_lt (c : UInt8) : lowN c.toNat < 256 := by
  have := UInt8.toNat_lt c
  unfold lowN; split <;> omega
theorem lowB_nat (c : UInt8) : (lowB c).toNat = lowN c.toNat := by
  rw [lowB]; simp; exact lowN_lt c
theorem eqL_low (a b : UInt8) : eqL a b = eqS (lowB a) (lowB b) := by
  rw [eqL, eqS]
  refine decide_eq_decide.2 ⟨fun h => UInt8.toNat_inj.1 (by rw [lowB_nat, lowB_nat]; omega), fun h => ?_⟩
  have := congrArg UInt8.toNat h
  rw [lowB_nat, lowB_nat] at this; omega
theorem low_star (a : UInt8) : lowB a = 42 ↔ a = 42 := by
  constructor
  · intro h
    have h1 := congrArg UInt8.toNat h
    rw [lowB_nat] at h1
    have h2 : lowN a.toNat = 42 := h1
    refine UInt8.toNat_inj.1 (show a.toNat = 42 from ?_)
    unfold lowN at h2; split at h2 <;> omega
  · rintro rfl; rfl
theorem gm_low : ∀ (n : Nat) (p s : List UInt8), p.length + s.length ≤ n → gm eqL p s = gm eqS (p.map lowB) (s.map lowB)
  | n, [], [], _ => by rw [List.map_nil, gm, gm]
  | n, [], _ :: _, _ => by rw [List.map_nil, List.map_cons, gm, gm]
  | 0, a :: p, s, h => by simp at h
  | n + 1, a :: p, [], h => by
    rw [List.map_cons, List.map_nil, gm, gm, gm_low n p [] (by simp at h ⊢; omega), List.map_nil]
    congr 1
    exact decide_eq_decide.2 (low_star a).symm
  | n + 1, a :: p, c :: s, h => by
    have h1 := gm_low n p (c :: s) (by simp at h ⊢; omega)
    have h2 := gm_low n (a :: p) s (by simp at h ⊢; omega)
    have h3 := gm_low n p s (by simp at h ⊢; omega)
    rw [List.map_cons] at h1 h2
    rw [List.map_cons, List.map_cons, gm, gm, h3, eqL_low]
    by_cases ha : a = 42
    · have hb := (low_star a).2 ha
      rw [if_pos ha, if_pos hb, h1, h2]
    · have hb : ¬ lowB a = 42 := fun e => ha ((low_star a).1 e)
      rw [if_neg ha, if_neg hb]
end Go.Proofs.YtekbcbjimajnfaaGreatDoor
end
section
namespace Go.Proofs.YtekbcbjimajnfaaGreatDoor
set_option linter.unusedSimpArgs false
set_option linter.unusedVariables false
set_option maxRecDepth 20000
open Go.RowKit Go.Eng
theorem bytesV_len (l : List UInt8) : (bytesV l).length = l.length := by simp [bytesV]
theorem low_set {s : List UInt8} {i : Nat} (h : i < s.length) : (bytesV ((s.take i).map lowB ++ s.drop i)).set i (.int .u8 ((lowN (s.getD i 0).toNat : Nat) : Int)) = bytesV ((s.take (i + 1)).map lowB ++ s.drop (i + 1)) := by
  have h1 : s.drop i = s.getD i 0 :: s.drop (i + 1) := by
    rw [List.drop_eq_getElem_cons h, List.getD_eq_getElem?_getD, List.getElem?_eq_getElem h]; rfl
  have h2 : s.take (i + 1) = s.take i ++ [s.getD i 0] := by
    rw [List.getD_eq_getElem?_getD, List.getElem?_eq_getElem h, List.take_succ_eq_append_getElem h]; rfl
  rw [h1, h2, bytesV, bytesV, List.map_append, List.map_cons, List.map_append, List.map_append, List.map_append]
  rw [List.set_append_right _ _ (by simp; omega)]
  simp [Nat.min_eq_left (Nat.le_of_lt h), lowB_nat]
theorem low_no {s : List UInt8} {i : Nat} (h : i < s.length) (hn : ¬ (65 ≤ (s.getD i 0).toNat ∧ (s.getD i 0).toNat ≤ 90)) : (s.take i).map lowB ++ s.drop i = (s.take (i + 1)).map lowB ++ s.drop (i + 1) := by
  have h1 : s.drop i = s.getD i 0 :: s.drop (i + 1) := by
    rw [List.drop_eq_getElem_cons h, List.getD_eq_getElem?_getD, List.getElem?_eq_getElem h]; rfl
  have h2 : s.take (i + 1) = s.take i ++ [s.getD i 0] := by
    rw [List.getD_eq_getElem?_getD, List.getElem?_eq_getElem h, List.take_succ_eq_append_getElem h]; rfl
  have h3 : lowB (s.getD i 0) = s.getD i 0 := UInt8.toNat_inj.1 (by rw [lowB_nat, lowN, if_neg hn])
  rw [h1, h2, List.map_append, List.map_cons, h3]; simp
theorem low_at {s : List UInt8} {i : Nat} (h : i < s.length) : (bytesV ((s.take i).map lowB ++ s.drop i))[i]? = some (.int .u8 (((s.getD i 0).toNat : Nat) : Int)) := by
  have h1 : s.drop i = s.getD i 0 :: s.drop (i + 1) := by
    rw [List.drop_eq_getElem_cons h, List.getD_eq_getElem?_getD, List.getElem?_eq_getElem h]; rfl
  rw [h1, bytesV, List.getElem?_map, List.getElem?_append_right (by simp; omega)]
  simp [Nat.min_eq_left (Nat.le_of_lt h)]
theorem low_len (s : List UInt8) (i : Nat) : ((s.take i).map lowB ++ s.drop i).length = s.length := by simp; omega
theorem low_end {s : List UInt8} {i : Nat} (h : s.length ≤ i) : (s.take i).map lowB ++ s.drop i = s.map lowB := by
  rw [List.take_of_length_le h, List.drop_eq_nil_of_le h, List.append_nil]
theorem rlower_any (s : List UInt8) (hs : s.length ≤ 1000000000000) (w : World) :
    Calls Tryz.prog 182 #[str s] w fun e w' => e = .returned (str (s.map lowB)) ∧ Below w.heap.size w w' := by
  refine enter_args (args := [str s]) (F := _) Tryz.func182 rfl Tryz.ntmps182 rfl rfl ?_
  intro Rb hRb hRn
  refine tx ?_
  refine sr 1 ?_
  refine sgx ?_
  refine sr 1 ?_
  refine S_strBytesW 7 7 rfl rfl rfl rfl rfl Tryz.underlying9 Tryz.underlying220 Tryz.underlying5 ?_
  intro b7 c7
  refine sr 1 ?_
  refine sgs ?_
  refine tx ?_
  refine sr 1 ?_
  refine s1 (y_len_slice rfl rfl Tryz.underlying220) ?_
  refine sr 1 ?_
  refine sgo ?_
  refine T_block ?_
  refine lK1 (kf := [(4, 5), (10, 27)]) (kl := [(4, 5), (7, 7), (10, 27)]) (fun (i : Nat) => [(10, true, .int .i64 (i : Int))]) (fun (i : Nat) => [(7, .blk b7 (IsRw 5 (bytesV ((s.take i).map lowB ++ s.drop i))))]) (fun (i : Nat) => i ≤ s.length) (fun (i : Nat) => s.length - i) 0 ?_ ?_ ?_ ?_
  · omega
  · exact ⟨rfl, trivial⟩
  · exact ⟨by rw [List.take_zero, List.map_nil, List.nil_append, List.drop_zero]; rfl, trivial⟩
  rintro i hp1
  refine tx ?_
  refine sr 1 ?_
  refine sgs ?_
  refine T_cond rfl ?_ ?_ <;> intro h11
  · try simp only [nrm] at h11
    have hi : i < s.length := by omega
    refine kgs ?_
    refine T_block ?_
    refine tx ?_
    refine sr 1 ?_
    refine s1 (y_indexAddr rfl rfl rfl Tryz.underlying220 sz5 (fun _ => rfl) (fun _ => by omega)) ?_
    refine s1 (y_loadRw 7 rfl rfl rfl (fun _ => low_at (by omega)) Tryz.underlying5 rfl) ?_
    refine sr 2 ?_
    refine sgx ?_
    refine sr 3 ?_
    refine sg rfl (y_move rfl rfl) ?_
    refine sg rfl (y_bin rfl rfl rfl (fun _ => b_leq)) ?_
    refine s1 (y_and rfl rfl rfl) ?_
    refine sgo ?_
    refine T_cond rfl ?_ ?_ <;> intro h20
    · skip
      have hup : 65 ≤ (s.getD i 0).toNat ∧ (s.getD i 0).toNat ≤ 90 := by simp only [Bool.and_eq_true, decide_eq_true_eq] at h20; omega
      refine T_region ?_
      refine sr 3 ?_
      refine s1 (y_bin rfl rfl rfl (fun hg => b_addw)) ?_
      refine s1 (y_as (v' := .int .u8 ((lowN (s.getD i 0).toNat : Nat) : Int)) (by rw [lowN, if_pos hup]; generalize (s.getD i 0).toNat = m at hup ⊢; congr 1; simp [IntKind.wrap, IntKind.signed, IntKind.bits]; omega) (y_bin rfl rfl rfl (fun hg => b_subw))) ?_
      refine s1 (y_indexAddr rfl rfl rfl Tryz.underlying220 sz5 (fun _ => rfl) (fun _ => by omega)) ?_
      refine S_storeRw 7 rfl rfl rfl rfl rfl rfl sz5 rfl rfl (by rw [bytesV_len, low_len]; omega) ?_
      rw [low_set (by omega)]
      refine sgr ?_
      refine s1 (y_bin rfl rfl rfl (fun hg => b_add (by omega))) ?_
      refine sr 1 ?_
      refine S_nil (nK1 (kf := [(4, 5), (10, 27)]) (kl := [(4, 5), (7, 7), (10, 27)]) (i + 1) ?_ ?_ ?_ ?_)
      · omega
      · omega
      · exact ⟨rfl, trivial⟩
      · exact ⟨rfl, trivial⟩
    have hup : ¬ (65 ≤ (s.getD i 0).toNat ∧ (s.getD i 0).toNat ≤ 90) := by intro h; generalize (s.getD i 0).toNat = m at h h20; simp at h20; omega
    rw [low_no hi hup]
    refine kgr ?_
    refine s1 (y_bin rfl rfl rfl (fun hg => b_add (by omega))) ?_
    refine sr 1 ?_
    refine S_nil (nK1 (kf := [(4, 5), (10, 27)]) (kl := [(4, 5), (7, 7), (10, 27)]) (i + 1) ?_ ?_ ?_ ?_)
    · omega
    · omega
    · exact ⟨rfl, trivial⟩
    · exact ⟨rfl, trivial⟩
  try simp only [nrm] at h11
  rw [low_end (by omega)]
  refine egx ?_
  refine sr 1 ?_
  refine s1 (y_str_rw 7 (s.map lowB) rfl rfl rfl (by rw [List.length_map]) Tryz.underlying220 Tryz.underlying5 Tryz.underlying9) ?_
  refine sr 1 ?_
  refine sgo ?_
  refine tr1 hRb fun w hM => ?_
  exact ⟨rfl, hM.below⟩
theorem FitsText_any (p s : List UInt8) (hp : p.length ≤ 1000000000) (hs : s.length ≤ 1000000000000) (w : World) :
    Calls Tryz.prog 179 #[str p, str s] w fun e w' => e = .returned (.bool (gm eqL p s)) ∧ Below w.heap.size w w' := by
  rw [gm_low _ p s (Nat.le_refl _)]
  refine enter_args (args := [str p, str s]) (F := _) Tryz.func179 rfl Tryz.ntmps179 rfl rfl ?_
  intro Rb hRb hRn
  refine tx ?_
  refine sr 1 ?_
  refine sgx ?_
  refine sr 1 ?_
  refine s1 (y_call rfl rfl rfl cf182 (fun _ w _ => rlower_any p (by omega) w)) ?_
  refine sr 1 ?_
  refine s1 (y_call rfl rfl rfl cf182 (fun _ w _ => rlower_any s hs w)) ?_
  refine s1 (y_call rfl rfl rfl cf219 (fun _ w _ => Star_any (p.map lowB) (s.map lowB) (by rw [List.length_map]; omega) (by rw [List.length_map]; omega) w)) ?_
  refine sr 1 ?_
  refine sgo ?_
  refine tr1 hRb fun w hM => ?_
  exact ⟨rfl, hM.below⟩
end Go.Proofs.YtekbcbjimajnfaaGreatDoor
end
section
namespace Go.Proofs.YtekbcbjimajnfaaGreatDoor
set_option linter.unusedSimpArgs false
set_option linter.unusedVariables false
set_option maxRecDepth 20000
open Go.RowKit Go.Eng
/-! ### Right -/
theorem chkL_zero {hd : Int → Nat → Int → Int → List UInt8 → List UInt8 → Int} : ∀ {l : List PC}, chkL hd l = 0 ↔ ∀ k ∈ l, chkP hd k = 0
  | [] => by simp [chkL]
  | a :: r => by
    rw [chkL]
    by_cases h : chkP hd a = 0
    · rw [if_neg (by simp [h]), chkL_zero]
      exact ⟨fun h2 k hk => by
        rcases List.mem_cons.1 hk with rfl | hk
        · exact h
        · exact h2 k hk, fun h2 k hk => h2 k (List.mem_cons_of_mem _ hk)⟩
    · rw [if_pos h]
      exact ⟨fun h2 => absurd h2 h, fun h2 => h2 a List.mem_cons_self⟩
theorem chkP_zero {hd : Int → Nat → Int → Int → List UInt8 → List UInt8 → Int} {op lo hi : Int} {kids : List PC} {n t : List UInt8} : chkP hd (.mk op kids lo hi n t) = 0 ↔ hd op kids.length lo hi n t = 0 ∧ ∀ k ∈ kids, chkP hd k = 0 := by
  rw [chkP]
  by_cases h : hd op kids.length lo hi n t = 0
  · rw [if_neg (by simp [h]), chkL_zero]; simp [h]
  · rw [if_pos h]; simp [h]
section
variable {txt : List UInt8 → Int} {nm : List UInt8 → Bool} {op lo hi : Int} {nk nk' : Nat} {n t : List UInt8}
theorem head_ar (h : chdNo txt nm op nk lo hi n t = 0) : (1 ≤ op ∧ op ≤ 14) ∧ (0 < nk → op ≤ 3) ∧ (op = 1 ∨ op = 2 → 2 ≤ nk) ∧ (op = 3 → nk = 1) := by
  unfold chdNo at h
  split at h
  · cases h
  rename_i h1
  split at h
  · cases h
  rename_i h2
  split at h
  · cases h
  rename_i h3
  simp only [inB, Bool.not_eq_false', Bool.or_eq_true, Bool.and_eq_true, decide_eq_true_eq, not_or, Bool.not_eq_true', Bool.or_eq_false_iff, decide_eq_false_iff_not, grpB, not_and, Bool.not_eq_false, Bool.not_eq_true, Classical.not_not] at h1 h2 h3
  refine ⟨by omega, fun hk => ?_, fun ho => ?_, fun ho => ?_⟩
  · have := h2.1.1.1 hk; omega
  · have := h3.1 ho; omega
  · exact h3.2 ho
end
/-! ### Plain -/
def flatK (op : Int) (k : PC) : List PC := if joinB op k = true then k.kids else [k]
theorem chk_kid {hd : Int → Nat → Int → Int → List UInt8 → List UInt8 → Int} {c k : PC} (h : chkP hd c = 0) (hk : k ∈ c.kids) : chkP hd k = 0 := by
  cases c
  exact (chkP_zero.1 h).2 k hk
end Go.Proofs.YtekbcbjimajnfaaGreatDoor
end
section
namespace Go.Proofs.YtekbcbjimajnfaaGreatDoor
set_option linter.unusedSimpArgs false
set_option linter.unusedVariables false
set_option maxRecDepth 20000
open Go.RowKit Go.Eng
theorem fst_0F {a b : Int} (h : fst a b = 0) : a = 0 ∧ b = 0 := by
  unfold fst at h
  split at h
  · exact absurd h ‹_›
  · exact ⟨by omega, h⟩
theorem flts_smallF : ∀ l : List Flt, fltsNo l = 0 → ∀ f ∈ l, fltNo f = 0
  | [], _ => fun f h => by simp at h
  | a :: r, h => fun f hf => by
    rw [fltsNo] at h
    by_cases ha : fltNo a = 0
    · rw [if_neg (by simpa using ha)] at h
      rcases List.mem_cons.1 hf with rfl | h1
      · exact ha
      · exact flts_smallF r h f h1
    · rw [if_pos ha] at h; exact absurd h ha
theorem frms_smallF : ∀ l : List Frm, frmsNo l = 0 → ∀ f ∈ l, frmNo f = 0
  | [], _ => fun f h => by simp at h
  | a :: r, h => fun f hf => by
    rw [frmsNo] at h
    by_cases ha : frmNo a = 0
    · rw [if_neg (by simpa using ha)] at h
      rcases List.mem_cons.1 hf with rfl | h1
      · exact ha
      · exact frms_smallF r h f h1
    · rw [if_pos ha] at h; exact absurd h ha
structure FltS (f : Flt) : Prop where
  k : f.k.length ≤ 2000
  t : f.t.length ≤ 2000
  fr : ∀ x ∈ f.fr.l, x.f.length ≤ 2000 ∧ x.fi.length ≤ 2000
structure EvS (e : Evt) : Prop where
  rel : e.rel.length ≤ 2000
  us : e.us.length ≤ 2000
  ta : ∀ t ∈ e.ta.l, t.v.length ≤ 2000
  fa : ∀ f ∈ e.fa.l, FltS f
theorem frm_small {x : Frm} (h : frmNo x = 0) : x.f.length ≤ 2000 ∧ x.fi.length ≤ 2000 := by
  have hw : wordsNo x.m x.f x.fi = 0 := by
    unfold frmNo at h
    by_cases hw : wordsNo x.m x.f x.fi = 0
    · exact hw
    · rw [if_pos hw] at h; exact absurd h hw
  unfold wordsNo at hw
  split at hw
  · cases hw
  · rename_i hb
    simp only [Bool.or_eq_true, decide_eq_true_eq, not_or] at hb
    omega
theorem flt_small {f : Flt} (h : fltNo f = 0) : FltS f := by
  unfold fltNo at h
  split at h
  · cases h
  rename_i h1
  split at h
  · cases h
  split at h
  · cases h
  by_cases h2 : sayNo f.t = 0
  · rw [if_neg (by simpa using h2)] at h
    refine ⟨by omega, ?_, fun x hx => ?_⟩
    · unfold sayNo at h2
      split at h2
      · cases h2
      · omega
    · unfold framesNo at h
      split at h
      · cases h
      · exact frm_small (frms_smallF _ h x hx)
  · rw [if_pos h2] at h; exact absurd h h2
theorem tags_small : ∀ (l : List STag) (p : Option (List UInt8)), tagsNo p l = 0 → ∀ t ∈ l, t.v.length ≤ 2000
  | [], _, _ => fun t h => by simp at h
  | a :: r, p, h => fun t ht => by
    rw [tagsNo] at h
    split at h
    · cases h
    split at h
    · cases h
    by_cases hv : valNo a.v = 0
    · rw [if_neg (by simpa using hv)] at h
      rcases List.mem_cons.1 ht with rfl | h1
      · unfold valNo at hv
        split at hv
        · cases hv
        · omega
      · exact tags_small r _ h t h1
    · rw [if_pos hv] at h; exact absurd h hv
theorem ev_small {e : Evt} (h : evNo e = 0) : EvS e := by
  unfold evNo at h
  obtain ⟨_, h⟩ := fst_0F h
  obtain ⟨h1, h⟩ := fst_0F h
  obtain ⟨h2, h⟩ := fst_0F h
  obtain ⟨_, h⟩ := fst_0F h
  split at h
  · cases h
  rename_i hr
  obtain ⟨h3, _⟩ := fst_0F h
  refine ⟨?_, ?_, ?_, ?_⟩
  · simp only [Bool.and_eq_true, Bool.not_eq_true', decide_eq_false_iff_not, not_and, Bool.not_eq_false] at hr
    by_cases he : e.rel = []
    · rw [he]; simp
    · have := hr he
      unfold nameOk at this
      simp only [Bool.and_eq_true, decide_eq_true_eq] at this
      omega
  · unfold valNo at h3
    split at h3
    · cases h3
    · omega
  · split at h2
    · cases h2
    · exact tags_small _ _ h2
  · unfold faultsNo at h1
    split at h1
    · cases h1
    split at h1
    · cases h1
    · exact fun f hf => flt_small (flts_smallF _ h1 f hf)
theorem tagV_small {n : List UInt8} : ∀ {l : List STag}, (∀ t ∈ l, t.v.length ≤ 2000) → (tagV n l).1.length ≤ 2000
  | [], _ => by simp [tagV]
  | a :: r, h => by
    rw [tagV]
    split
    · exact h a List.mem_cons_self
    · exact tagV_small fun t ht => h t (List.mem_cons_of_mem _ ht)
/-- what a leaf asks of an event -/
def lfB (e : Evt) (c : PC) : Bool :=
  if c.op = 4 then inB e.lv c.lo c.hi
  else if c.op = 5 then inB e.at_ c.lo c.hi
  else if c.op = 6 then inB e.wt c.lo c.hi
  else if c.op = 7 ∨ c.op = 8 then (tagV c.name e.ta.l).2 && (decide (c.op = 8) || gm eqL c.text (tagV c.name e.ta.l).1)
  else if c.op = 9 then !decide (e.rel = []) && gm eqL c.text e.rel
  else if c.op = 10 then !decide (e.us = []) && gm eqL c.text e.us
  else if c.op = 11 then e.fa.l.any fun f => gm eqL c.text f.k
  else if c.op = 12 then e.fa.l.any fun f => Lib.contains (f.t.map lowB) (c.text.map lowB)
  else if c.op = 13 then e.fa.l.any fun f => f.fr.l.any fun x => gm eqL c.text x.f
  else e.fa.l.any fun f => f.fr.l.any fun x => gm eqL c.text x.fi
abbrev hoX (e : Evt) (x : SC) : Bool := holdsP (lfB e) x.says
theorem ho1 {e : Evt} {x : SC} (h : x.op = 1) : hoX e x = x.kids.all (hoX e) := by
  show holdsP _ x.says = _
  rw [SC.says_form, holdsP, if_pos h, holdsA_all, List.all_map]; rfl
theorem ho2 {e : Evt} {x : SC} (h : x.op = 2) : hoX e x = x.kids.any (hoX e) := by
  show holdsP _ x.says = _
  rw [SC.says_form, holdsP, if_neg (by omega), if_pos h, holdsO_any, List.any_map]; rfl
theorem ho3 {e : Evt} {x k : SC} (h : x.op = 3) (hk : x.kids = [k]) : hoX e x = !hoX e k := by
  show holdsP _ x.says = _
  rw [SC.says_form, holdsP, if_neg (by omega), if_neg (by omega), if_pos h, hk, List.map_cons, holdsF]
theorem hoL {e : Evt} {x : SC} (h : 4 ≤ x.op) : hoX e x = lfB e (.mk x.op [] x.lo x.hi x.nm x.tx) := by
  show holdsP _ x.says = _
  rw [SC.says_form, holdsP, if_neg (by omega), if_neg (by omega), if_neg (by omega)]
section
variable {e : Evt} {x : SC}
theorem ho4 (h : x.op = 4) : hoX e x = inB e.lv x.lo x.hi := by rw [hoL (by omega), h]; rfl
theorem ho5 (h : x.op = 5) : hoX e x = inB e.at_ x.lo x.hi := by rw [hoL (by omega), h]; rfl
theorem ho6 (h : x.op = 6) : hoX e x = inB e.wt x.lo x.hi := by rw [hoL (by omega), h]; rfl
theorem ho7 (h : x.op = 7 ∨ x.op = 8) : hoX e x = ((tagV x.nm e.ta.l).2 && (decide (x.op = 8) || gm eqL x.tx (tagV x.nm e.ta.l).1)) := by
  rw [hoL (by omega)]
  rcases h with h | h <;> rw [h] <;> rfl
theorem ho9 (h : x.op = 9) : hoX e x = (!decide (e.rel = []) && gm eqL x.tx e.rel) := by rw [hoL (by omega), h]; rfl
theorem ho10 (h : x.op = 10) : hoX e x = (!decide (e.us = []) && gm eqL x.tx e.us) := by rw [hoL (by omega), h]; rfl
theorem ho11 (h : x.op = 11) : hoX e x = e.fa.l.any fun f => gm eqL x.tx f.k := by rw [hoL (by omega), h]; rfl
theorem ho12 (h : x.op = 12) : hoX e x = e.fa.l.any fun f => Lib.contains (f.t.map lowB) (x.tx.map lowB) := by rw [hoL (by omega), h]; rfl
theorem ho13 (h : x.op = 13) : hoX e x = e.fa.l.any fun f => f.fr.l.any fun y => gm eqL x.tx y.f := by rw [hoL (by omega), h]; rfl
theorem ho14 (h : x.op = 14) : hoX e x = e.fa.l.any fun f => f.fr.l.any fun y => gm eqL x.tx y.fi := by rw [hoL (by omega), h]; rfl
end
/-- a right condition is small -/
theorem ch_kids {x k : SC} (h : chX x = 0) (hk : k ∈ x.kids) : chX k = 0 :=
  chk_kid (c := x.says) h (by rw [SC.says_kids]; exact List.mem_map_of_mem hk)
theorem ch_head {x : SC} (h : chX x = 0) : hdX x = 0 := by
  refine Classical.byContradiction fun hn => ?_
  rw [chX_def, if_pos hn] at h
  exact hn h
theorem ch_ar {x : SC} (h : chX x = 0) : (1 ≤ x.op ∧ x.op ≤ 14) ∧ (0 < x.kids.length → x.op ≤ 3) ∧ (x.op = 1 ∨ x.op = 2 → 2 ≤ x.kids.length) ∧ (x.op = 3 → x.kids.length = 1) := head_ar (ch_head h)
theorem ch_text {x : SC} (h : chX x = 0) : x.tx.length ≤ 200 := by
  have h := ch_head h
  rw [hd_def] at h
  split at h
  · cases h
  split at h
  · cases h
  rename_i h1
  split at h
  · cases h
  split at h
  · cases h
  split at h
  · cases h
  split at h
  · cases h
  split at h
  · unfold txtNo at h
    split at h
    · cases h
    split at h
    · cases h
    omega
  · rename_i hw
    simp only [f1B, Bool.or_eq_true, Bool.and_eq_true, not_or, not_and, Bool.not_eq_true', decide_eq_false_iff_not] at h1
    have := h1.2
    by_cases ht : x.tx = []
    · rw [ht]; simp
    · have h2 := this ht
      exact absurd (by simpa using h2) hw
end Go.Proofs.YtekbcbjimajnfaaGreatDoor
end
section
namespace Go.Proofs.YtekbcbjimajnfaaGreatDoor
set_option linter.unusedSimpArgs false
set_option linter.unusedVariables false
set_option maxRecDepth 20000
open Go.RowKit Go.Eng
/-! ### one string -/
/-! ### sums that are nought -/
/-! ### elements -/
section
variable {r r2 : SRl}
/-! ### events -/
end
/-! ### all rules -/
/-! ### the same content -/
structure ContE (a b : Evt) : Prop where
  id : a.id = b.id
  at_ : a.at_ = b.at_
  lv : a.lv = b.lv
  rel : a.rel = b.rel
  us : a.us = b.us
  wt : a.wt = b.wt
  fa : a.fa.l.map Flt.cont = b.fa.l.map Flt.cont
  fq : a.fa.q = b.fa.q
  ta : a.ta.l = b.ta.l
  tq : a.ta.q = b.ta.q
  cr : a.cr.l = b.cr.l
  cq : a.cr.q = b.cr.q
theorem cont_sameM {a b : Evt} (h : ContE a b) : sameE a b = true := by
  have hf : ∀ {x y : List Flt}, x.map Flt.cont = y.map Flt.cont → eqLB Flt.eqB x y = true := by
    intro x
    induction x with
    | nil => intro y h; cases y with
      | nil => rfl
      | cons _ _ => simp at h
    | cons u x ih => intro y h; cases y with
      | nil => simp at h
      | cons v y =>
        simp only [List.map_cons, List.cons.injEq] at h
        obtain ⟨h1, h2⟩ := h
        simp only [Flt.cont, Prod.mk.injEq] at h1
        obtain ⟨hk, ht, hl⟩ := h1
        rw [eqLB, ih h2, Bool.and_true, Flt.eqB, hk, ht, hl]
        simp [eqL_refl (fun a => (Frm.eqB_iff a a).2 rfl)]
  rw [sameE, h.id, h.at_, h.lv, hf h.fa, h.ta, h.cr, h.rel, h.us, h.wt]
  simp [eqL_refl (fun a => (STag.eqB_iff a a).2 rfl), eqL_refl (fun a => (SCrumb.eqB_iff a a).2 rfl)]
def FitE (e : Evt) : Prop := ∀ f ∈ e.fa.l, f.fr.q = f.fr.l.length
theorem flts_contM : ∀ {x y : List Flt}, x.map Flt.cont = y.map Flt.cont → (∀ f ∈ x, f.fr.q = f.fr.l.length) → (∀ f ∈ y, f.fr.q = f.fr.l.length) → fltsNo x = fltsNo y
  | [], [], _, _, _ => rfl
  | [], _ :: _, h, _, _ => by simp at h
  | _ :: _, [], h, _, _ => by simp at h
  | u :: x, v :: y, h, hx, hy => by
    simp only [List.map_cons, List.cons.injEq] at h
    obtain ⟨h1, h2⟩ := h
    simp only [Flt.cont, Prod.mk.injEq] at h1
    obtain ⟨hk, ht, hl⟩ := h1
    have hq : u.fr.q = v.fr.q := by rw [hx u (List.mem_cons_self ..), hy v (List.mem_cons_self ..), hl]
    have e : fltNo u = fltNo v := by rw [fltNo, fltNo, hk, ht, framesNo, framesNo, hl, hq]
    rw [fltsNo, fltsNo, e, flts_contM h2 (fun f hf => hx f (List.mem_cons_of_mem _ hf)) (fun f hf => hy f (List.mem_cons_of_mem _ hf))]
theorem evNo_same {a b : Evt} (h : ContE a b) (ha : FitE a) (hb : FitE b) : evNo a = evNo b := by
  rw [evNo, evNo, h.id, h.at_, h.lv, faultsNo, faultsNo, h.fq, flts_contM h.fa ha hb, h.ta, h.tq, h.cr, h.cq, h.rel, h.us, h.wt]
/-! ### what a right event's lengths are -/
theorem crumbs_smallM : ∀ (l : List SCrumb) (p : Option Int), crumbsNo p l = 0 → ∀ t ∈ l, t.t.length ≤ 2000
  | [], _, _ => fun t h => by simp at h
  | a :: r, p, h => fun t ht => by
    rw [crumbsNo] at h
    split at h
    · cases h
    split at h
    · cases h
    split at h
    · cases h
    by_cases hv : sayNo a.t = 0
    · rw [if_neg (by simpa using hv)] at h
      rcases List.mem_cons.1 ht with rfl | h1
      · unfold sayNo at hv
        split at hv
        · cases hv
        · omega
      · exact crumbs_smallM r _ h t h1
    · rw [if_pos hv] at h; exact absurd h hv
theorem flt_qM {f : Flt} (h : fltNo f = 0) : f.fr.q ≤ 200 := by
  unfold fltNo at h
  split at h
  · cases h
  split at h
  · cases h
  split at h
  · cases h
  by_cases h2 : sayNo f.t = 0
  · rw [if_neg (by simpa using h2)] at h
    unfold framesNo at h
    split at h
    · cases h
    · omega
  · rw [if_pos h2] at h; exact absurd h h2
/-- the parts that stay whatever a rule does -/
structure OkE (e : Evt) : Prop where
  fa : ∀ f ∈ e.fa.l, f.k.length ≤ 4611686018427387904 ∧ f.t.length ≤ 4611686018427387904 ∧ f.fr.l.length = f.fr.q ∧ f.fr.q ≤ 4611686018427387904 ∧ ∀ x ∈ f.fr.l, x.m.length ≤ 4611686018427387904 ∧ x.f.length ≤ 4611686018427387904 ∧ x.fi.length ≤ 4611686018427387904
  fq : e.fa.l.length = e.fa.q ∧ e.fa.q ≤ 4611686018427387904
  ta : ∀ t ∈ e.ta.l, t.n.length ≤ 4611686018427387904 ∧ t.v.length ≤ 4611686018427387904
  tq : e.ta.l.length = e.ta.q ∧ e.ta.q ≤ 4611686018427387904
  cr : ∀ t ∈ e.cr.l, t.k.length ≤ 4611686018427387904 ∧ t.t.length ≤ 4611686018427387904
  cq : e.cr.l.length = e.cr.q ∧ e.cr.q ≤ 4611686018427387904
  id : e.id.length ≤ 4611686018427387904
  rel : e.rel.length ≤ 4611686018427387904
  us : e.us.length ≤ 4611686018427387904
theorem OkE.fit {e : Evt} (h : OkE e) : FitE e := fun f hf => (h.fa f hf).2.2.1.symm
theorem OkE.of {w : World} {e : Evt} (h : e.Ok w) : OkE e :=
  ⟨fun f hf => ⟨(h.fa.n f hf).k, (h.fa.n f hf).t, (h.fa.n f hf).fr.ok.t.len, (h.fa.n f hf).fr.q, (h.fa.n f hf).fr.n⟩, ⟨h.fa.ok.t.len, h.fa.q⟩, h.ta.n, ⟨h.ta.ok.t.len, h.ta.q⟩, h.cr.n, ⟨h.cr.ok.t.len, h.cr.q⟩, h.id, h.rel, h.us⟩
/-- .. in memory -/
theorem evOk_of {w : World} {B : Nat} {e : Evt} (hp : OkE e) (h1 : w.ownsRow B 100 3 (.slice e.fa.A e.fa.q e.fa.c) e.fa.q (e.fa.l.flatMap Flt.enc)) (h2 : ∀ r ∈ e.fa.l.map frRow, w.ownsRow B r.t r.size r.v r.n r.xs)
    (h3 : w.ownsRow B 92 2 (.slice e.ta.A e.ta.q e.ta.c) e.ta.q (e.ta.l.flatMap STag.enc)) (h4 : w.ownsRow B 95 3 (.slice e.cr.A e.cr.q e.cr.c) e.cr.q (e.cr.l.flatMap SCrumb.enc)) : e.Ok w :=
  ⟨⟨row_ok h1 hp.fq.1, hp.fq.2, fun f hf => ⟨(hp.fa f hf).1, (hp.fa f hf).2.1, row_ok (h2 (frRow f) (List.mem_map.2 ⟨f, hf, rfl⟩)) (hp.fa f hf).2.2.1, (hp.fa f hf).2.2.2.1, (hp.fa f hf).2.2.2.2⟩⟩,
   ⟨row_ok h3 hp.tq.1, hp.tq.2, hp.ta⟩, ⟨row_ok h4 hp.cq.1, hp.cq.2, hp.cr⟩, hp.id, hp.rel, hp.us⟩
theorem LenE.of {e : Evt} (h : evNo e = 0) (ho : OkE e) : LenE e := by
  have hs := ev_small h
  have h' := h
  unfold evNo at h'
  obtain ⟨_, h'⟩ := fst_0F h'
  obtain ⟨h1, h'⟩ := fst_0F h'
  obtain ⟨h2, h'⟩ := fst_0F h'
  obtain ⟨h3, _⟩ := fst_0F h'
  have hfq : e.fa.q ≤ 10 ∧ ∀ f ∈ e.fa.l, fltNo f = 0 := by
    unfold faultsNo at h1
    split at h1
    · cases h1
    split at h1
    · cases h1
    · exact ⟨by omega, flts_smallF _ h1⟩
  have htq : e.ta.q ≤ 40 := by
    split at h2
    · cases h2
    · omega
  have hcq : e.cr.q ≤ 50 ∧ ∀ t ∈ e.cr.l, t.t.length ≤ 2000 := by
    split at h3
    · cases h3
    · exact ⟨by omega, crumbs_smallM _ _ h3⟩
  exact ⟨Nat.le_trans hs.us (by decide), fun t ht => ⟨(ho.ta t ht).1, Nat.le_trans (hs.ta t ht) (by decide)⟩, fun t ht => ⟨(ho.cr t ht).1, Nat.le_trans (hcq.2 t ht) (by decide)⟩,
    fun f hf => ⟨Nat.le_trans (hs.fa f hf).t (by decide), Nat.le_trans (flt_qM (hfq.2 f hf)) (by decide), (ho.fa f hf).2.2.1, fun x hx => Nat.le_trans ((hs.fa f hf).fr x hx).2 (by decide)⟩, ⟨by omega, ho.fq.1⟩, ⟨by omega, ho.tq.1⟩, ⟨by omega, ho.cq.1⟩⟩
end Go.Proofs.YtekbcbjimajnfaaGreatDoor
end
section
namespace Go.Proofs.YtekbcbjimajnfaaGreatDoor
set_option linter.unusedSimpArgs false
set_option linter.unusedVariables false
set_option maxRecDepth 20000
open Go.RowKit Go.Eng
end Go.Proofs.YtekbcbjimajnfaaGreatDoor
end
section
namespace Go.Proofs.YtekbcbjimajnfaaGreatDoor
set_option linter.unusedSimpArgs false
set_option linter.unusedVariables false
set_option maxRecDepth 20000
open Go.RowKit Go.Eng
theorem cont_mem {a b : Evt} (h : ContE a b) : ∀ f ∈ a.fa.l, ∃ g ∈ b.fa.l, f.cont = g.cont := fun f hf => by
  have : f.cont ∈ b.fa.l.map Flt.cont := by rw [← h.fa]; exact List.mem_map.2 ⟨f, hf, rfl⟩
  obtain ⟨g, hg, he⟩ := List.mem_map.1 this
  exact ⟨g, hg, he.symm⟩
theorem OkE.cont {a b : Evt} (hb : OkE b) (h : ContE a b) (hf : FitE a) : OkE a := by
  refine ⟨fun f hfm => ?_, ⟨?_, by rw [h.fq]; exact hb.fq.2⟩, by rw [h.ta]; exact hb.ta, by rw [h.ta, h.tq]; exact hb.tq, by rw [h.cr]; exact hb.cr, by rw [h.cr, h.cq]; exact hb.cq, by rw [h.id]; exact hb.id, by rw [h.rel]; exact hb.rel, by rw [h.us]; exact hb.us⟩
  · obtain ⟨g, hg, he⟩ := cont_mem h f hfm
    have hh := hb.fa g hg
    simp only [Flt.cont, Prod.mk.injEq] at he
    obtain ⟨hk, ht, hl⟩ := he
    have hq := hf f hfm
    refine ⟨by rw [hk]; exact hh.1, by rw [ht]; exact hh.2.1, hq.symm, by rw [hq, hl, hh.2.2.1]; exact hh.2.2.2.1, by rw [hl]; exact hh.2.2.2.2⟩
  · have := congrArg List.length h.fa
    rw [List.length_map, List.length_map] at this
    rw [this, h.fq]; exact hb.fq.1
abbrev rsEv (e : Evt) : List Row := ((e.fa.l.map frRow ++ [(⟨100, 3, .slice e.fa.A e.fa.q e.fa.c, e.fa.q, e.fa.l.flatMap Flt.enc⟩ : Row)]) ++ [(⟨92, 2, .slice e.ta.A e.ta.q e.ta.c, e.ta.q, e.ta.l.flatMap STag.enc⟩ : Row)]) ++ [(⟨95, 3, .slice e.cr.A e.cr.q e.cr.c, e.cr.q, e.cr.l.flatMap SCrumb.enc⟩ : Row)]
theorem sees_ev {w0 : World} {e : Evt} (h : OkE e) : Sees w0 (rsEv e) fun w => e.Ok w := fun w _ hr =>
  evOk_of h (hr _ (List.mem_append_left _ (List.mem_append_left _ (List.mem_append_right _ (List.mem_singleton.2 rfl))))) (fun r hx => hr r (List.mem_append_left _ (List.mem_append_left _ (List.mem_append_left _ hx))))
    (hr _ (List.mem_append_left _ (List.mem_append_right _ (List.mem_singleton.2 rfl)))) (hr _ (List.mem_append_right _ (List.mem_singleton.2 rfl)))
def evZM : Evt := ⟨[], 0, 0, ⟨none, 0, 0, []⟩, ⟨none, 0, 0, []⟩, ⟨none, 0, 0, []⟩, [], [], 0⟩
end Go.Proofs.YtekbcbjimajnfaaGreatDoor
end
section
namespace Go.Proofs.YtekbcbjimajnfaaGreatDoor
set_option linter.unusedSimpArgs false
set_option linter.unusedVariables false
set_option maxRecDepth 20000
open Go.RowKit Go.Eng
/-- a block's cells, as they stand for good -/
abbrev CellsAt (w : World) (b : Nat) (cs : List Value) : Prop := (∀ j u, cs[j]? = some u → w.cell? ((⟨b, 0, none⟩ : Addr).add j) = some u) ∧ b < w.heap.size
theorem CellsAt.one {w : World} {b j : Nat} {cs : List Value} {u : Value} (h : CellsAt w b cs) (hj : cs[j]? = some u) : w.cell? ((⟨b, 0, none⟩ : Addr).add j) = some u ∧ ((⟨b, 0, none⟩ : Addr).add j).block < w.heap.size := ⟨h.1 j u hj, by rw [block_of_add]; exact h.2⟩
theorem add_plain (b j : Nat) : (⟨b, 0, none⟩ : Addr).add j = ⟨b, j, none⟩ := by unfold Addr.add; split <;> simp_all
theorem cells_of {w : World} {b : Nat} {cs : List Value} (h : CellsIn b cs w) : CellsAt w b cs := ⟨fun j u hu => by rw [add_plain]; exact h.1 j u hu, h.2⟩
theorem cells_to {w w' : World} {b : Nat} {cs : List Value} (h : CellsAt w b cs) (hb : Below w.heap.size w w') : CellsAt w' b cs := cells_below h hb
/-- a function value with what it has captured -/
structure Fn where
  g : FuncId
  cap : Array Value
abbrev Fn.v (f : Fn) : Value := .func (.func f.g) #[] f.cap
abbrev CfOf (g : FuncId) : Prop := ∀ args w, (callFunc g args).run Tryz.prog w = .ok (.enter g args) w
/-- a function value that asks -/
def AskF {α : Type} (val : α → Value) (ok : World → α → Prop) (f : Fn) (p : α → Bool) (w : World) : Prop :=
  CfOf f.g ∧ ∀ w', Below w.heap.size w w' → ∀ x, ok w' x → Calls Tryz.prog f.g (#[val x] ++ f.cap) w' fun e w'' => e = .returned (.bool (p x)) ∧ Below w'.heap.size w' w''
theorem AskF.below {α : Type} {val : α → Value} {ok : World → α → Prop} {f : Fn} {p : α → Bool} {w w' : World} (h : AskF val ok f p w) (hb : Below w.heap.size w w') : AskF val ok f p w' :=
  ⟨h.1, fun w'' hb2 => h.2 w'' (hb.trans (hb2.mono hb.size))⟩
theorem AskF.ext {α : Type} {val : α → Value} {ok : World → α → Prop} {f : Fn} {p q : α → Bool} {w : World} (h : AskF val ok f p w) (hpq : ∀ x, q x = p x) : AskF val ok f q w := by
  rw [show q = p from funext hpq]; exact h
def FltR (w : World) (f : Flt) : Prop := FltOk w f ∧ FltS f
def FrmR (_ : World) (x : Frm) : Prop := x.f.length ≤ 2000 ∧ x.fi.length ≤ 2000
def EvR (w : World) (e : Evt) : Prop := e.Ok w ∧ EvS e
theorem EvR.below {w w' : World} {e : Evt} (h : EvR w e) (hb : Below w.heap.size w w') : EvR w' e := ⟨h.1.below hb, h.2⟩
abbrev fnE (z : Fn × SC) : List Value := [.func (.func z.1.g) #[] z.1.cap]
theorem IndexFF_any (A : Option Addr) (q c : Nat) (l : List Flt) (g : FuncId) (cap : Array Value) (p : Flt → Bool) (w : World) (hl : SlT Flt.enc 3 w A q l) (hq : q ≤ 4611686018427387904) (hcf : ∀ args w, (callFunc g args).run Tryz.prog w = .ok (.enter g args) w)
    (hA : ∀ x ∈ l, ∀ w', Below w.heap.size w w' → Calls Tryz.prog g (#[x.val] ++ cap) w' fun e w'' => e = .returned (.bool (p x)) ∧ Below w'.heap.size w' w'') :
    Calls Tryz.prog 214 #[.slice A q c, .func (.func g) #[] cap] w fun e w' => e = .returned (.int .i64 (fndP p l 0)) ∧ Below w.heap.size w w' := by
  refine enter_args (args := [.slice A q c, .func (.func g) #[] cap]) (F := _) Tryz.func214 rfl Tryz.ntmps214 rfl rfl ?_
  intro Rb hRb hRn
  refine tx ?_
  refine sr 1 ?_
  refine sgs ?_
  refine tx ?_
  refine sr 1 ?_
  refine s1 (y_len_slice rfl rfl Tryz.underlying27) ?_
  refine sr 1 ?_
  refine sgo ?_
  refine T_block ?_
  refine lK1 (kf := [(4, 5), (8, 18)]) (kl := [(4, 5), (8, 18)]) (fun (i : Nat) => [(8, true, .int .i64 (i : Int))]) (fun (i : Nat) => []) (fun (i : Nat) => i ≤ q ∧ fndP p l 0 = fndP p (l.drop i) i) (fun (i : Nat) => q - i) 0 ?_ ?_ ?_ ?_
  · exact ⟨by omega, rfl⟩
  · exact ⟨rfl, trivial⟩
  · exact trivial
  rintro i ⟨hp1, hp2⟩
  refine tx ?_
  refine sr 1 ?_
  refine sgs ?_
  refine T_cond rfl ?_ ?_ <;> intro h9
  · try simp only [nrm] at h9
    obtain ⟨x, hx1, hx2⟩ := hl.at (i := i) (by omega)
    refine kgs ?_
    refine T_block ?_
    refine tx ?_
    refine sr 2 ?_
    refine sgx ?_
    refine sr 3 ?_
    refine s1 (y_indexAddr rfl rfl rfl Tryz.underlying27 sz100 (fun hg => hl.isSome (by omega)) (fun _ => by omega)) ?_
    refine s1 (y_loadT rfl rfl hl (fun _ => rfl) (fun _ => hx1) Tryz.underlying100 rfl sz100) ?_
    refine s1 (y_call rfl rfl rfl hcf (fun _ w hM => hA x (mem_at hx1) w hM.below)) ?_
    refine sgo ?_
    refine T_cond rfl ?_ ?_ <;> intro h16
    · skip
      refine tx ?_
      refine sr 2 ?_
      refine sgo ?_
      refine tr1 hRb fun w hM => ?_
      exact ⟨by rw [hp2, hx2, fndP, if_pos h16], hM.below⟩
    refine kgr ?_
    refine s1 (y_bin rfl rfl rfl (fun hg => b_add (by omega))) ?_
    refine sr 1 ?_
    refine S_nil (nK1 (kf := [(4, 5), (8, 18)]) (kl := [(4, 5), (8, 18)]) (i + 1) ?_ ?_ ?_ ?_)
    · omega
    · exact ⟨by omega, by rw [hp2, hx2, fndP, if_neg (by simp [h16])]⟩
    · exact ⟨rfl, trivial⟩
    · exact trivial
  try simp only [nrm] at h9
  refine egx ?_
  refine sr 1 ?_
  refine sgo ?_
  refine tr1 hRb fun w hM => ?_
  exact ⟨by rw [hp2, hl.end (by omega)]; rfl, hM.below⟩
theorem ContFF_any (A : Option Addr) (q c : Nat) (l : List Flt) (g : FuncId) (cap : Array Value) (p : Flt → Bool) (w : World) (hl : SlT Flt.enc 3 w A q l) (hq : q ≤ 4611686018427387904) (hcf : ∀ args w, (callFunc g args).run Tryz.prog w = .ok (.enter g args) w)
    (hA : ∀ x ∈ l, ∀ w', Below w.heap.size w w' → Calls Tryz.prog g (#[x.val] ++ cap) w' fun e w'' => e = .returned (.bool (p x)) ∧ Below w'.heap.size w' w'') :
    Calls Tryz.prog 145 #[.slice A q c, .func (.func g) #[] cap] w fun e w' => e = .returned (.bool (l.any p)) ∧ Below w.heap.size w w' := by
  rw [← fndP_any p l 0]
  refine enter_args (args := [.slice A q c, .func (.func g) #[] cap]) (F := _) Tryz.func145 rfl Tryz.ntmps145 rfl rfl ?_
  intro Rb hRb hRn
  refine tx ?_
  refine sr 1 ?_
  refine sgx ?_
  refine sr 2 ?_
  refine s1 (y_call rfl rfl rfl cf214 (fun _ w hM => IndexFF_any A q c l g cap p w (hl.below hM.below) hq hcf fun x hx w1 hb => hA x hx w1 (hM.below.trans (hb.mono hM.below.size)))) ?_
  refine sr 2 ?_
  refine sgo ?_
  refine tr1 hRb fun w hM => ?_
  exact ⟨rfl, hM.below⟩
theorem IndexFR_any (A : Option Addr) (q c : Nat) (l : List Frm) (g : FuncId) (cap : Array Value) (p : Frm → Bool) (w : World) (hl : SlT Frm.enc 6 w A q l) (hq : q ≤ 4611686018427387904) (hcf : ∀ args w, (callFunc g args).run Tryz.prog w = .ok (.enter g args) w)
    (hA : ∀ x ∈ l, ∀ w', Below w.heap.size w w' → Calls Tryz.prog g (#[x.val] ++ cap) w' fun e w'' => e = .returned (.bool (p x)) ∧ Below w'.heap.size w' w'') :
    Calls Tryz.prog 215 #[.slice A q c, .func (.func g) #[] cap] w fun e w' => e = .returned (.int .i64 (fndP p l 0)) ∧ Below w.heap.size w w' := by
  refine enter_args (args := [.slice A q c, .func (.func g) #[] cap]) (F := _) Tryz.func215 rfl Tryz.ntmps215 rfl rfl ?_
  intro Rb hRb hRn
  refine tx ?_
  refine sr 1 ?_
  refine sgs ?_
  refine tx ?_
  refine sr 1 ?_
  refine s1 (y_len_slice rfl rfl Tryz.underlying98) ?_
  refine sr 1 ?_
  refine sgo ?_
  refine T_block ?_
  refine lK1 (kf := [(4, 5), (8, 18)]) (kl := [(4, 5), (8, 18)]) (fun (i : Nat) => [(8, true, .int .i64 (i : Int))]) (fun (i : Nat) => []) (fun (i : Nat) => i ≤ q ∧ fndP p l 0 = fndP p (l.drop i) i) (fun (i : Nat) => q - i) 0 ?_ ?_ ?_ ?_
  · exact ⟨by omega, rfl⟩
  · exact ⟨rfl, trivial⟩
  · exact trivial
  rintro i ⟨hp1, hp2⟩
  refine tx ?_
  refine sr 1 ?_
  refine sgs ?_
  refine T_cond rfl ?_ ?_ <;> intro h9
  · try simp only [nrm] at h9
    obtain ⟨x, hx1, hx2⟩ := hl.at (i := i) (by omega)
    refine kgs ?_
    refine T_block ?_
    refine tx ?_
    refine sr 2 ?_
    refine sgx ?_
    refine sr 3 ?_
    refine s1 (y_indexAddr rfl rfl rfl Tryz.underlying98 sz105 (fun hg => hl.isSome (by omega)) (fun _ => by omega)) ?_
    refine s1 (y_loadT rfl rfl hl (fun _ => rfl) (fun _ => hx1) Tryz.underlying105 rfl sz105) ?_
    refine s1 (y_call rfl rfl rfl hcf (fun _ w hM => hA x (mem_at hx1) w hM.below)) ?_
    refine sgo ?_
    refine T_cond rfl ?_ ?_ <;> intro h16
    · skip
      refine tx ?_
      refine sr 2 ?_
      refine sgo ?_
      refine tr1 hRb fun w hM => ?_
      exact ⟨by rw [hp2, hx2, fndP, if_pos h16], hM.below⟩
    refine kgr ?_
    refine s1 (y_bin rfl rfl rfl (fun hg => b_add (by omega))) ?_
    refine sr 1 ?_
    refine S_nil (nK1 (kf := [(4, 5), (8, 18)]) (kl := [(4, 5), (8, 18)]) (i + 1) ?_ ?_ ?_ ?_)
    · omega
    · exact ⟨by omega, by rw [hp2, hx2, fndP, if_neg (by simp [h16])]⟩
    · exact ⟨rfl, trivial⟩
    · exact trivial
  try simp only [nrm] at h9
  refine egx ?_
  refine sr 1 ?_
  refine sgo ?_
  refine tr1 hRb fun w hM => ?_
  exact ⟨by rw [hp2, hl.end (by omega)]; rfl, hM.below⟩
theorem ContFR_any (A : Option Addr) (q c : Nat) (l : List Frm) (g : FuncId) (cap : Array Value) (p : Frm → Bool) (w : World) (hl : SlT Frm.enc 6 w A q l) (hq : q ≤ 4611686018427387904) (hcf : ∀ args w, (callFunc g args).run Tryz.prog w = .ok (.enter g args) w)
    (hA : ∀ x ∈ l, ∀ w', Below w.heap.size w w' → Calls Tryz.prog g (#[x.val] ++ cap) w' fun e w'' => e = .returned (.bool (p x)) ∧ Below w'.heap.size w' w'') :
    Calls Tryz.prog 148 #[.slice A q c, .func (.func g) #[] cap] w fun e w' => e = .returned (.bool (l.any p)) ∧ Below w.heap.size w w' := by
  rw [← fndP_any p l 0]
  refine enter_args (args := [.slice A q c, .func (.func g) #[] cap]) (F := _) Tryz.func148 rfl Tryz.ntmps148 rfl rfl ?_
  intro Rb hRb hRn
  refine tx ?_
  refine sr 1 ?_
  refine sgx ?_
  refine sr 2 ?_
  refine s1 (y_call rfl rfl rfl cf215 (fun _ w hM => IndexFR_any A q c l g cap p w (hl.below hM.below) hq hcf fun x hx w1 hb => hA x hx w1 (hM.below.trans (hb.mono hM.below.size)))) ?_
  refine sr 2 ?_
  refine sgo ?_
  refine tr1 hRb fun w hM => ?_
  exact ⟨rfl, hM.below⟩
theorem IndexFK_any (A : Option Addr) (q c : Nat) (l : List (Fn × SC)) (g : FuncId) (cap : Array Value) (p : (Fn × SC) → Bool) (w : World) (hl : SlT fnE 1 w A q l) (hq : q ≤ 4611686018427387904) (hcf : ∀ args w, (callFunc g args).run Tryz.prog w = .ok (.enter g args) w)
    (hA : ∀ x ∈ l, ∀ w', Below w.heap.size w w' → Calls Tryz.prog g (#[.func (.func x.1.g) #[] x.1.cap] ++ cap) w' fun e w'' => e = .returned (.bool (p x)) ∧ Below w'.heap.size w' w'') :
    Calls Tryz.prog 216 #[.slice A q c, .func (.func g) #[] cap] w fun e w' => e = .returned (.int .i64 (fndP p l 0)) ∧ Below w.heap.size w w' := by
  refine enter_args (args := [.slice A q c, .func (.func g) #[] cap]) (F := _) Tryz.func216 rfl Tryz.ntmps216 rfl rfl ?_
  intro Rb hRb hRn
  refine tx ?_
  refine sr 1 ?_
  refine sgs ?_
  refine tx ?_
  refine sr 1 ?_
  refine s1 (y_len_slice rfl rfl Tryz.underlying186) ?_
  refine sr 1 ?_
  refine sgo ?_
  refine T_block ?_
  refine lK1 (kf := [(4, 5), (8, 18)]) (kl := [(4, 5), (8, 18)]) (fun (i : Nat) => [(8, true, .int .i64 (i : Int))]) (fun (i : Nat) => []) (fun (i : Nat) => i ≤ q ∧ fndP p l 0 = fndP p (l.drop i) i) (fun (i : Nat) => q - i) 0 ?_ ?_ ?_ ?_
  · exact ⟨by omega, rfl⟩
  · exact ⟨rfl, trivial⟩
  · exact trivial
  rintro i ⟨hp1, hp2⟩
  refine tx ?_
  refine sr 1 ?_
  refine sgs ?_
  refine T_cond rfl ?_ ?_ <;> intro h9
  · try simp only [nrm] at h9
    obtain ⟨x, hx1, hx2⟩ := hl.at (i := i) (by omega)
    refine kgs ?_
    refine T_block ?_
    refine tx ?_
    refine sr 2 ?_
    refine sgx ?_
    refine sr 3 ?_
    refine s1 (y_indexAddr rfl rfl rfl Tryz.underlying186 sz32 (fun hg => hl.isSome (by omega)) (fun _ => by omega)) ?_
    refine s1 (y_loadT1 (val := (fun z : Fn × SC => Value.func (.func z.1.g) #[] z.1.cap)) rfl rfl hl (fun _ => hx1) Tryz.underlying32 rfl) ?_
    refine s1 (y_call rfl rfl rfl hcf (fun _ w hM => hA x (mem_at hx1) w hM.below)) ?_
    refine sgo ?_
    refine T_cond rfl ?_ ?_ <;> intro h16
    · skip
      refine tx ?_
      refine sr 2 ?_
      refine sgo ?_
      refine tr1 hRb fun w hM => ?_
      exact ⟨by rw [hp2, hx2, fndP, if_pos h16], hM.below⟩
    refine kgr ?_
    refine s1 (y_bin rfl rfl rfl (fun hg => b_add (by omega))) ?_
    refine sr 1 ?_
    refine S_nil (nK1 (kf := [(4, 5), (8, 18)]) (kl := [(4, 5), (8, 18)]) (i + 1) ?_ ?_ ?_ ?_)
    · omega
    · exact ⟨by omega, by rw [hp2, hx2, fndP, if_neg (by simp [h16])]⟩
    · exact ⟨rfl, trivial⟩
    · exact trivial
  try simp only [nrm] at h9
  refine egx ?_
  refine sr 1 ?_
  refine sgo ?_
  refine tr1 hRb fun w hM => ?_
  exact ⟨by rw [hp2, hl.end (by omega)]; rfl, hM.below⟩
theorem ContFK_any (A : Option Addr) (q c : Nat) (l : List (Fn × SC)) (g : FuncId) (cap : Array Value) (p : (Fn × SC) → Bool) (w : World) (hl : SlT fnE 1 w A q l) (hq : q ≤ 4611686018427387904) (hcf : ∀ args w, (callFunc g args).run Tryz.prog w = .ok (.enter g args) w)
    (hA : ∀ x ∈ l, ∀ w', Below w.heap.size w w' → Calls Tryz.prog g (#[.func (.func x.1.g) #[] x.1.cap] ++ cap) w' fun e w'' => e = .returned (.bool (p x)) ∧ Below w'.heap.size w' w'') :
    Calls Tryz.prog 152 #[.slice A q c, .func (.func g) #[] cap] w fun e w' => e = .returned (.bool (l.any p)) ∧ Below w.heap.size w w' := by
  rw [← fndP_any p l 0]
  refine enter_args (args := [.slice A q c, .func (.func g) #[] cap]) (F := _) Tryz.func152 rfl Tryz.ntmps152 rfl rfl ?_
  intro Rb hRb hRn
  refine tx ?_
  refine sr 1 ?_
  refine sgx ?_
  refine sr 2 ?_
  refine s1 (y_call rfl rfl rfl cf216 (fun _ w hM => IndexFK_any A q c l g cap p w (hl.below hM.below) hq hcf fun x hx w1 hb => hA x hx w1 (hM.below.trans (hb.mono hM.below.size)))) ?_
  refine sr 2 ?_
  refine sgo ?_
  refine tr1 hRb fun w hM => ?_
  exact ⟨rfl, hM.below⟩
theorem ContFF_ask {l : Sl Flt} {f : Fn} {p : Flt → Bool} {w : World} (hl : FltsOk w l) (hs : ∀ f ∈ l.l, FltS f) (hv : AskF Flt.val FltR f p w) :
    Calls Tryz.prog 145 #[.slice l.A l.q l.c, .func (.func f.g) #[] f.cap] w fun e w' => e = .returned (.bool (l.l.any p)) ∧ Below w.heap.size w w' :=
  ContFF_any l.A l.q l.c l.l f.g f.cap p w hl.ok.t hl.q hv.1 fun x hx w' hb => hv.2 w' hb x ⟨(hl.n x hx).below hb, hs x hx⟩
theorem ContFR_ask {l : Sl Frm} {f : Fn} {p : Frm → Bool} {w : World} (hl : FrmsOk w l) (hs : ∀ x ∈ l.l, x.f.length ≤ 2000 ∧ x.fi.length ≤ 2000) (hv : AskF Frm.val FrmR f p w) :
    Calls Tryz.prog 148 #[.slice l.A l.q l.c, .func (.func f.g) #[] f.cap] w fun e w' => e = .returned (.bool (l.l.any p)) ∧ Below w.heap.size w w' :=
  ContFR_any l.A l.q l.c l.l f.g f.cap p w hl.ok.t hl.q hv.1 fun x hx w' hb => hv.2 w' hb x (hs x hx)
end Go.Proofs.YtekbcbjimajnfaaGreatDoor
end
section
namespace Go.Proofs.YtekbcbjimajnfaaGreatDoor
set_option linter.unusedSimpArgs false
set_option linter.unusedVariables false
set_option maxRecDepth 20000
open Go.RowKit Go.Eng
abbrev ptF (b : Nat) : Value := .pointer (some ⟨b, 0, none⟩)
abbrev Cell1 (w : World) (b : Nat) (v : Value) : Prop := w.cell? ⟨b, 0, none⟩ = some v ∧ b < w.heap.size
theorem cell1_of {w : World} {b : Nat} {v : Value} (h : CellsIn b [v] w) : Cell1 w b v := ⟨h.1 0 v rfl, h.2⟩
/-- the greatest length of what is searched lies in memory -/
def MLen (w : World) : Prop := ∃ m, w.cell? ⟨2, 0, none⟩ = some (.int .i64 m) ∧ 2 < w.heap.size
theorem MLen.below {w w' : World} (h : MLen w) (hb : Below w.heap.size w w') : MLen w' := by
  obtain ⟨m, h1, h2⟩ := h
  exact ⟨m, cellK ⟨h1, h2⟩ hb⟩
theorem Contains2_any (s t : List UInt8) (hs : s.length ≤ 1000000000) (w : World) (hm : MLen w) :
    Calls Tryz.prog 166 #[str s, str t] w fun e w' => e = .returned (.bool (Lib.contains s t)) ∧ Below w.heap.size w w' := by
  obtain ⟨m, h1, h2⟩ := hm
  exact (Any.strings_Contains Tryz.lays144 ⟨s.toArray⟩ ⟨t.toArray⟩ m w (by rw [Lib.size_eq]; simp; omega) h1).mono fun e w' ⟨he, hw⟩ => ⟨by simpa using he, by rw [hw]; exact Below.refl _ _⟩
theorem fsmall_any (s : List UInt8) (hs : s.length ≤ 1000000000000) (w : World) :
    Calls Tryz.prog 164 #[str s] w fun e w' => e = .returned (str (s.map lowB)) ∧ Below w.heap.size w w' := by
  refine enter_args (args := [str s]) (F := _) Tryz.func164 rfl Tryz.ntmps164 rfl rfl ?_
  intro Rb hRb hRn
  refine tx ?_
  refine sr 1 ?_
  refine sgx ?_
  refine sr 1 ?_
  refine S_strBytesW 6 6 rfl rfl rfl rfl rfl Tryz.underlying9 Tryz.underlying220 Tryz.underlying5 ?_
  intro b6 c6
  refine sr 1 ?_
  refine sgs ?_
  refine tx ?_
  refine sr 1 ?_
  refine s1 (y_len_slice rfl rfl Tryz.underlying220) ?_
  refine sr 1 ?_
  refine sgo ?_
  refine T_block ?_
  refine lK1 (kf := [(4, 4), (9, 20)]) (kl := [(4, 4), (6, 6), (9, 20)]) (fun (i : Nat) => [(9, true, .int .i64 (i : Int))]) (fun (i : Nat) => [(6, .blk b6 (IsRw 5 (bytesV ((s.take i).map lowB ++ s.drop i))))]) (fun (i : Nat) => i ≤ s.length) (fun (i : Nat) => s.length - i) 0 ?_ ?_ ?_ ?_
  · omega
  · exact ⟨rfl, trivial⟩
  · exact ⟨by rw [List.take_zero, List.map_nil, List.nil_append, List.drop_zero]; rfl, trivial⟩
  rintro i hp1
  refine tx ?_
  refine sr 1 ?_
  refine sgs ?_
  refine T_cond rfl ?_ ?_ <;> intro h10
  · try simp only [nrm] at h10
    have hi : i < s.length := by omega
    refine kgs ?_
    refine T_block ?_
    refine tx ?_
    refine sr 2 ?_
    refine sgr ?_
    refine sr 4 ?_
    refine s1 (y_indexAddr rfl rfl rfl Tryz.underlying220 sz5 (fun _ => rfl) (fun _ => by omega)) ?_
    refine s1 (y_loadRw 6 rfl rfl rfl (fun _ => low_at (by omega)) Tryz.underlying5 rfl) ?_
    refine s1 (y_call rfl rfl rfl cf112 (fun _ w _ => lower_any _ (UInt8.toNat_lt _) w)) ?_
    refine s1 (y_indexAddr rfl rfl rfl Tryz.underlying220 sz5 (fun _ => rfl) (fun _ => by omega)) ?_
    refine S_storeRw 6 rfl rfl rfl rfl rfl rfl sz5 rfl rfl (by rw [bytesV_len, low_len]; omega) ?_
    rw [low_set (by omega)]
    refine sgr ?_
    refine s1 (y_bin rfl rfl rfl (fun hg => b_add (by omega))) ?_
    refine sr 1 ?_
    refine S_nil (nK1 (kf := [(4, 4), (9, 20)]) (kl := [(4, 4), (6, 6), (9, 20)]) (i + 1) ?_ ?_ ?_ ?_)
    · omega
    · omega
    · exact ⟨rfl, trivial⟩
    · exact ⟨rfl, trivial⟩
  try simp only [nrm] at h10
  rw [low_end (by omega)]
  refine egx ?_
  refine sr 1 ?_
  refine s1 (y_str_rw 6 (s.map lowB) rfl rfl rfl (by rw [List.length_map]) Tryz.underlying220 Tryz.underlying5 Tryz.underlying9) ?_
  refine sr 1 ?_
  refine sgo ?_
  refine tr1 hRb fun w hM => ?_
  exact ⟨rfl, hM.below⟩
/-! ### Of an event: a number between two -/
theorem nlv_any (e : Evt) (w : World) : Calls Tryz.prog 157 #[e.val] w fun en w' => en = .returned (.int .i64 (e.lv)) ∧ Below w.heap.size w w' := by
  refine enter_args (args := [.agg #[str e.id, .int .i64 e.at_, .int .i64 e.lv, .slice e.fa.A e.fa.q e.fa.c, .slice e.ta.A e.ta.q e.ta.c, .slice e.cr.A e.cr.q e.cr.c, str e.rel, str e.us, .int .i64 e.wt]]) (F := _) Tryz.func157 rfl Tryz.ntmps157 rfl rfl ?_
  intro Rb hRb hRn
  refine tx ?_
  refine S_box 1 1 rfl rfl rfl rfl rfl ?_
  intro b1
  refine sr 1 ?_
  refine sgx ?_
  refine s1 (yF fa31_2) ?_
  refine s1 (yL 1 Tryz.underlying3) ?_
  refine sr 1 ?_
  refine sgo ?_
  refine tr1 hRb fun w hM => ?_
  exact ⟨rfl, hM.below⟩
theorem nat_any (e : Evt) (w : World) : Calls Tryz.prog 158 #[e.val] w fun en w' => en = .returned (.int .i64 (e.at_)) ∧ Below w.heap.size w w' := by
  refine enter_args (args := [.agg #[str e.id, .int .i64 e.at_, .int .i64 e.lv, .slice e.fa.A e.fa.q e.fa.c, .slice e.ta.A e.ta.q e.ta.c, .slice e.cr.A e.cr.q e.cr.c, str e.rel, str e.us, .int .i64 e.wt]]) (F := _) Tryz.func158 rfl Tryz.ntmps158 rfl rfl ?_
  intro Rb hRb hRn
  refine tx ?_
  refine S_box 1 1 rfl rfl rfl rfl rfl ?_
  intro b1
  refine sr 1 ?_
  refine sgx ?_
  refine s1 (yF fa31_1) ?_
  refine s1 (yL 1 Tryz.underlying3) ?_
  refine sr 1 ?_
  refine sgo ?_
  refine tr1 hRb fun w hM => ?_
  exact ⟨rfl, hM.below⟩
theorem nwt_any (e : Evt) (w : World) : Calls Tryz.prog 159 #[e.val] w fun en w' => en = .returned (.int .i64 (e.wt)) ∧ Below w.heap.size w w' := by
  refine enter_args (args := [.agg #[str e.id, .int .i64 e.at_, .int .i64 e.lv, .slice e.fa.A e.fa.q e.fa.c, .slice e.ta.A e.ta.q e.ta.c, .slice e.cr.A e.cr.q e.cr.c, str e.rel, str e.us, .int .i64 e.wt]]) (F := _) Tryz.func159 rfl Tryz.ntmps159 rfl rfl ?_
  intro Rb hRb hRn
  refine tx ?_
  refine S_box 1 1 rfl rfl rfl rfl rfl ?_
  intro b1
  refine sr 1 ?_
  refine sgx ?_
  refine s1 (yF fa31_8) ?_
  refine s1 (yL 1 Tryz.underlying3) ?_
  refine sr 1 ?_
  refine sgo ?_
  refine tr1 hRb fun w hM => ?_
  exact ⟨rfl, hM.below⟩
theorem tnum_any (x : SC) (g : FuncId) (f : Evt → Int) (b2 b : Nat) (e : Evt) (w : World) (hcf : ∀ args w, (callFunc g args).run Tryz.prog w = .ok (.enter g args) w)
    (hg : ∀ w', Calls Tryz.prog g #[e.val] w' fun en w'' => en = .returned (.int .i64 (f e)) ∧ Below w'.heap.size w' w'') (h2 : Cell1 w b2 (.func (.func g) #[] #[])) (h : CellsAt w b x.enc) :
    Calls Tryz.prog 150 #[e.val, ptF b2, ptF b] w fun en w' => en = .returned (.bool (inB (f e) x.lo x.hi)) ∧ Below w.heap.size w w' := by
  refine enter_args (args := [.agg #[str e.id, .int .i64 e.at_, .int .i64 e.lv, .slice e.fa.A e.fa.q e.fa.c, .slice e.ta.A e.ta.q e.ta.c, .slice e.cr.A e.cr.q e.cr.c, str e.rel, str e.us, .int .i64 e.wt], ptF b2, ptF b]) (F := _) Tryz.func150 rfl Tryz.ntmps150 rfl rfl ?_
  intro Rb hRb hRn
  refine tx ?_
  refine S_box 3 3 rfl rfl rfl rfl rfl ?_
  intro b3
  refine sr 1 ?_
  refine sgs ?_
  refine T_draws (by kernel_rfl) (by kernel_rfl) ?_
  refine d1 (y_load_far rfl rfl h2.1 h2.2 Tryz.underlying184 rfl) ?_
  refine d1 (yA 3 rfl Tryz.underlying31 sz31) ?_
  refine d1 (y_call rfl rfl rfl hcf (fun _ w _ => hg w)) ?_
  refine d1 (yF fa36_2) ?_
  refine d1 (y_load_far rfl rfl (h.one (j := 2) rfl).1 (h.one (j := 2) (cs := x.enc) rfl).2 Tryz.underlying3 rfl) ?_
  refine d1 (yF fa36_3) ?_
  refine d1 (y_load_far rfl rfl (h.one (j := 3) rfl).1 (h.one (j := 3) (cs := x.enc) rfl).2 Tryz.underlying3 rfl) ?_
  refine d1 (y_call rfl rfl rfl cf55 (fun _ w _ => fout_any _ _ _ w)) ?_
  refine d1 (y_not rfl rfl) ?_
  refine d1 (y_assign rfl rfl) ?_
  refine dgo ?_
  refine tr1 hRb fun w hM => ?_
  exact ⟨by rw [Bool.not_not], hM.below⟩
theorem askNum {x : SC} {g : FuncId} {f : Evt → Int} {b2 b : Nat} {w : World} (hcf : ∀ args w, (callFunc g args).run Tryz.prog w = .ok (.enter g args) w)
    (hg : ∀ e w', Calls Tryz.prog g #[e.val] w' fun en w'' => en = .returned (.int .i64 (f e)) ∧ Below w'.heap.size w' w'') (h2 : Cell1 w b2 (.func (.func g) #[] #[])) (h : CellsAt w b x.enc) :
    AskF Evt.val EvR ⟨150, #[ptF b2, ptF b]⟩ (fun e => inB (f e) x.lo x.hi) w :=
  ⟨cf150, fun w' hb e _ => tnum_any x g f b2 b e w' hcf (hg e) (cellK h2 hb) (cells_to h hb)⟩
/-! ### Of an event: a tag, the release, the user -/
theorem ttag_any (x : SC) (b : Nat) (e : Evt) (w : World) (he : e.Ok w) (hs : EvS e) (ht : x.tx.length ≤ 200) (h : CellsAt w b x.enc) :
    Calls Tryz.prog 160 #[e.val, ptF b] w fun en w' => en = .returned (.bool ((tagV x.nm e.ta.l).2 && (decide (x.op = 8) || gm eqL x.tx (tagV x.nm e.ta.l).1))) ∧ Below w.heap.size w w' := by
  have htl := tagV_small (n := x.nm) hs.ta
  refine enter_args (args := [.agg #[str e.id, .int .i64 e.at_, .int .i64 e.lv, .slice e.fa.A e.fa.q e.fa.c, .slice e.ta.A e.ta.q e.ta.c, .slice e.cr.A e.cr.q e.cr.c, str e.rel, str e.us, .int .i64 e.wt], ptF b]) (F := _) Tryz.func160 rfl Tryz.ntmps160 rfl rfl ?_
  intro Rb hRb hRn
  refine tx ?_
  refine S_box 2 2 rfl rfl rfl rfl rfl ?_
  intro b2
  refine sr 1 ?_
  refine sgx ?_
  refine s1 (yA 2 rfl Tryz.underlying31 sz31) ?_
  refine s1 (yF fa36_4) ?_
  refine s1 (y_load_far rfl rfl (h.one (j := 4) rfl).1 (h.one (j := 4) (cs := x.enc) rfl).2 Tryz.underlying9 rfl) ?_
  refine s1 (y_call rfl rfl rfl cf106 (fun _ w hM => Tag_any e _ w (he.below hM.below))) ?_
  refine sr 5 ?_
  refine sgx ?_
  refine sr 2 ?_
  refine sg rfl (yF fa36_0) ?_
  refine sg rfl (y_load_far rfl rfl (h.one (j := 0) rfl).1 (h.one (j := 0) (cs := x.enc) rfl).2 Tryz.underlying3 rfl) ?_
  refine sg rfl (y_bin rfl rfl rfl (fun _ => b_eql)) ?_
  refine sg rfl (y_move rfl rfl) ?_
  refine sg rfl (yF fa36_5) ?_
  refine sg rfl (y_load_far rfl rfl (h.one (j := 5) rfl).1 (h.one (j := 5) (cs := x.enc) rfl).2 Tryz.underlying9 rfl) ?_
  refine sg rfl (y_move rfl rfl) ?_
  refine sg rfl (y_call rfl rfl rfl cf77 (fun _ w _ => Fits_any _ _ w (by omega) (by omega))) ?_
  refine sg rfl (y_or rfl rfl rfl) ?_
  refine s1 (y_and rfl rfl rfl) ?_
  refine sr 1 ?_
  refine sgo ?_
  refine tr1 hRb fun w hM => ?_
  exact ⟨rfl, hM.below⟩
theorem askTag {x : SC} {b : Nat} {w : World} (ht : x.tx.length ≤ 200) (h : CellsAt w b x.enc) :
    AskF Evt.val EvR ⟨160, #[ptF b]⟩ (fun e => (tagV x.nm e.ta.l).2 && (decide (x.op = 8) || gm eqL x.tx (tagV x.nm e.ta.l).1)) w :=
  ⟨cf160, fun w' hb e he => ttag_any x b e w' he.1 he.2 ht (cells_to h hb)⟩
theorem trel_any (x : SC) (b : Nat) (e : Evt) (w : World) (hs : EvS e) (ht : x.tx.length ≤ 200) (h : CellsAt w b x.enc) :
    Calls Tryz.prog 161 #[e.val, ptF b] w fun en w' => en = .returned (.bool (!decide (e.rel = []) && gm eqL x.tx e.rel)) ∧ Below w.heap.size w w' := by
  have hl := hs.rel
  refine enter_args (args := [.agg #[str e.id, .int .i64 e.at_, .int .i64 e.lv, .slice e.fa.A e.fa.q e.fa.c, .slice e.ta.A e.ta.q e.ta.c, .slice e.cr.A e.cr.q e.cr.c, str e.rel, str e.us, .int .i64 e.wt], ptF b]) (F := _) Tryz.func161 rfl Tryz.ntmps161 rfl rfl ?_
  intro Rb hRb hRn
  refine tx ?_
  refine S_box 2 2 rfl rfl rfl rfl rfl ?_
  intro b2
  refine sr 1 ?_
  refine sgx ?_
  refine s1 (yF fa31_6) ?_
  refine s1 (yL 2 Tryz.underlying9) ?_
  refine s1 (y_bin rfl rfl rfl (fun _ => b_neqs)) ?_
  refine sr 1 ?_
  refine sg rfl (yF fa36_5) ?_
  refine sg rfl (y_load_far rfl rfl (h.one (j := 5) rfl).1 (h.one (j := 5) (cs := x.enc) rfl).2 Tryz.underlying9 rfl) ?_
  refine sg rfl (yF fa31_6) ?_
  refine sg rfl (yL 2 Tryz.underlying9) ?_
  refine sg rfl (y_call rfl rfl rfl cf77 (fun _ w _ => Fits_any _ _ w (by omega) (by omega))) ?_
  refine s1 (y_and rfl rfl rfl) ?_
  refine sr 1 ?_
  refine sgo ?_
  refine tr1 hRb fun w hM => ?_
  exact ⟨rfl, hM.below⟩
theorem askrel {x : SC} {b : Nat} {w : World} (ht : x.tx.length ≤ 200) (h : CellsAt w b x.enc) :
    AskF Evt.val EvR ⟨161, #[ptF b]⟩ (fun e => !decide (e.rel = []) && gm eqL x.tx e.rel) w :=
  ⟨cf161, fun w' hb e he => trel_any x b e w' he.2 ht (cells_to h hb)⟩
theorem tus_any (x : SC) (b : Nat) (e : Evt) (w : World) (hs : EvS e) (ht : x.tx.length ≤ 200) (h : CellsAt w b x.enc) :
    Calls Tryz.prog 162 #[e.val, ptF b] w fun en w' => en = .returned (.bool (!decide (e.us = []) && gm eqL x.tx e.us)) ∧ Below w.heap.size w w' := by
  have hl := hs.us
  refine enter_args (args := [.agg #[str e.id, .int .i64 e.at_, .int .i64 e.lv, .slice e.fa.A e.fa.q e.fa.c, .slice e.ta.A e.ta.q e.ta.c, .slice e.cr.A e.cr.q e.cr.c, str e.rel, str e.us, .int .i64 e.wt], ptF b]) (F := _) Tryz.func162 rfl Tryz.ntmps162 rfl rfl ?_
  intro Rb hRb hRn
  refine tx ?_
  refine S_box 2 2 rfl rfl rfl rfl rfl ?_
  intro b2
  refine sr 1 ?_
  refine sgx ?_
  refine s1 (yF fa31_7) ?_
  refine s1 (yL 2 Tryz.underlying9) ?_
  refine s1 (y_bin rfl rfl rfl (fun _ => b_neqs)) ?_
  refine sr 1 ?_
  refine sg rfl (yF fa36_5) ?_
  refine sg rfl (y_load_far rfl rfl (h.one (j := 5) rfl).1 (h.one (j := 5) (cs := x.enc) rfl).2 Tryz.underlying9 rfl) ?_
  refine sg rfl (yF fa31_7) ?_
  refine sg rfl (yL 2 Tryz.underlying9) ?_
  refine sg rfl (y_call rfl rfl rfl cf77 (fun _ w _ => Fits_any _ _ w (by omega) (by omega))) ?_
  refine s1 (y_and rfl rfl rfl) ?_
  refine sr 1 ?_
  refine sgo ?_
  refine tr1 hRb fun w hM => ?_
  exact ⟨rfl, hM.below⟩
theorem askus {x : SC} {b : Nat} {w : World} (ht : x.tx.length ≤ 200) (h : CellsAt w b x.enc) :
    AskF Evt.val EvR ⟨162, #[ptF b]⟩ (fun e => !decide (e.us = []) && gm eqL x.tx e.us) w :=
  ⟨cf162, fun w' hb e he => tus_any x b e w' he.2 ht (cells_to h hb)⟩
/-! ### Of a fault, of a frame -/
theorem tkind_any (x : SC) (b : Nat) (f : Flt) (w : World) (hs : FltS f) (ht : x.tx.length ≤ 200) (h : CellsAt w b x.enc) :
    Calls Tryz.prog 163 #[f.val, ptF b] w fun en w' => en = .returned (.bool (gm eqL x.tx f.k)) ∧ Below w.heap.size w w' := by
  have hl := hs.k
  refine enter_args (args := [.agg #[str f.k, str f.t, .slice f.fr.A f.fr.q f.fr.c], ptF b]) (F := _) Tryz.func163 rfl Tryz.ntmps163 rfl rfl ?_
  intro Rb hRb hRn
  refine tx ?_
  refine S_box 2 2 rfl rfl rfl rfl rfl ?_
  intro b2
  refine sr 1 ?_
  refine sgx ?_
  refine s1 (yF fa36_5) ?_
  refine s1 (y_load_far rfl rfl (h.one (j := 5) rfl).1 (h.one (j := 5) (cs := x.enc) rfl).2 Tryz.underlying9 rfl) ?_
  refine s1 (yF fa100_0) ?_
  refine s1 (yL 2 Tryz.underlying9) ?_
  refine s1 (y_call rfl rfl rfl cf77 (fun _ w _ => Fits_any _ _ w (by omega) (by omega))) ?_
  refine sr 1 ?_
  refine sgo ?_
  refine tr1 hRb fun w hM => ?_
  exact ⟨rfl, hM.below⟩
theorem askKind {x : SC} {b : Nat} {w : World} (ht : x.tx.length ≤ 200) (h : CellsAt w b x.enc) : AskF Flt.val FltR ⟨163, #[ptF b]⟩ (fun f => gm eqL x.tx f.k) w :=
  ⟨cf163, fun w' hb f hf => tkind_any x b f w' hf.2 ht (cells_to h hb)⟩
theorem tsays_any (t : List UInt8) (b : Nat) (f : Flt) (w : World) (hs : FltS f) (hm : MLen w) (h : Cell1 w b (str t)) :
    Calls Tryz.prog 165 #[f.val, ptF b] w fun en w' => en = .returned (.bool (Lib.contains (f.t.map lowB) t)) ∧ Below w.heap.size w w' := by
  have hl := hs.t
  refine enter_args (args := [.agg #[str f.k, str f.t, .slice f.fr.A f.fr.q f.fr.c], ptF b]) (F := _) Tryz.func165 rfl Tryz.ntmps165 rfl rfl ?_
  intro Rb hRb hRn
  refine tx ?_
  refine S_box 2 2 rfl rfl rfl rfl rfl ?_
  intro b2
  refine sr 1 ?_
  refine sgs ?_
  refine T_draws (by kernel_rfl) (by kernel_rfl) ?_
  refine d1 (yF fa100_1) ?_
  refine d1 (yL 2 Tryz.underlying9) ?_
  refine d1 (y_call rfl rfl rfl cf164 (fun _ w _ => fsmall_any _ (by omega) w)) ?_
  refine d1 (y_load_far rfl rfl h.1 h.2 Tryz.underlying9 rfl) ?_
  refine d1 (y_call rfl rfl rfl cf166 (fun _ w hM => Contains2_any _ _ (by rw [List.length_map]; omega) w (hm.below hM.below))) ?_
  refine d1 (y_assign rfl rfl) ?_
  refine dgo ?_
  refine tr1 hRb fun w hM => ?_
  exact ⟨rfl, hM.below⟩
theorem askSays {t : List UInt8} {b : Nat} {w : World} (hm : MLen w) (h : Cell1 w b (str t)) : AskF Flt.val FltR ⟨165, #[ptF b]⟩ (fun f => Lib.contains (f.t.map lowB) t) w :=
  ⟨cf165, fun w' hb f hf => tsays_any t b f w' hf.2 (hm.below hb) (cellK h hb)⟩
theorem tFunc_any (x : SC) (b : Nat) (y : Frm) (w : World) (hs : y.f.length ≤ 2000 ∧ y.fi.length ≤ 2000) (ht : x.tx.length ≤ 200) (h : CellsAt w b x.enc) :
    Calls Tryz.prog 167 #[y.val, ptF b] w fun en w' => en = .returned (.bool (gm eqL x.tx y.f)) ∧ Below w.heap.size w w' := by
  refine enter_args (args := [.agg #[str y.m, str y.f, str y.fi, .int .i64 y.ln, .int .i64 y.ad, .bool y.own], ptF b]) (F := _) Tryz.func167 rfl Tryz.ntmps167 rfl rfl ?_
  intro Rb hRb hRn
  refine tx ?_
  refine S_box 2 2 rfl rfl rfl rfl rfl ?_
  intro b2
  refine sr 1 ?_
  refine sgx ?_
  refine s1 (yF fa36_5) ?_
  refine s1 (y_load_far rfl rfl (h.one (j := 5) rfl).1 (h.one (j := 5) (cs := x.enc) rfl).2 Tryz.underlying9 rfl) ?_
  refine s1 (yF fa105_1) ?_
  refine s1 (yL 2 Tryz.underlying9) ?_
  refine s1 (y_call rfl rfl rfl cf77 (fun _ w _ => Fits_any _ _ w (by omega) (by omega))) ?_
  refine sr 1 ?_
  refine sgo ?_
  refine tr1 hRb fun w hM => ?_
  exact ⟨rfl, hM.below⟩
theorem askFunc {x : SC} {b : Nat} {w : World} (ht : x.tx.length ≤ 200) (h : CellsAt w b x.enc) : AskF Frm.val FrmR ⟨167, #[ptF b]⟩ (fun y => gm eqL x.tx y.f) w :=
  ⟨cf167, fun w' hb y hy => tFunc_any x b y w' hy ht (cells_to h hb)⟩
theorem tFile_any (x : SC) (b : Nat) (y : Frm) (w : World) (hs : y.f.length ≤ 2000 ∧ y.fi.length ≤ 2000) (ht : x.tx.length ≤ 200) (h : CellsAt w b x.enc) :
    Calls Tryz.prog 168 #[y.val, ptF b] w fun en w' => en = .returned (.bool (gm eqL x.tx y.fi)) ∧ Below w.heap.size w w' := by
  refine enter_args (args := [.agg #[str y.m, str y.f, str y.fi, .int .i64 y.ln, .int .i64 y.ad, .bool y.own], ptF b]) (F := _) Tryz.func168 rfl Tryz.ntmps168 rfl rfl ?_
  intro Rb hRb hRn
  refine tx ?_
  refine S_box 2 2 rfl rfl rfl rfl rfl ?_
  intro b2
  refine sr 1 ?_
  refine sgx ?_
  refine s1 (yF fa36_5) ?_
  refine s1 (y_load_far rfl rfl (h.one (j := 5) rfl).1 (h.one (j := 5) (cs := x.enc) rfl).2 Tryz.underlying9 rfl) ?_
  refine s1 (yF fa105_2) ?_
  refine s1 (yL 2 Tryz.underlying9) ?_
  refine s1 (y_call rfl rfl rfl cf77 (fun _ w _ => Fits_any _ _ w (by omega) (by omega))) ?_
  refine sr 1 ?_
  refine sgo ?_
  refine tr1 hRb fun w hM => ?_
  exact ⟨rfl, hM.below⟩
theorem askFile {x : SC} {b : Nat} {w : World} (ht : x.tx.length ≤ 200) (h : CellsAt w b x.enc) : AskF Frm.val FrmR ⟨168, #[ptF b]⟩ (fun y => gm eqL x.tx y.fi) w :=
  ⟨cf168, fun w' hb y hy => tFile_any x b y w' hy ht (cells_to h hb)⟩
/-! ### Any fault, any frame -/
theorem tfault_any (v : Fn) (p : Flt → Bool) (b : Nat) (e : Evt) (w : World) (he : e.Ok w) (hs : EvS e) (h : Cell1 w b v.v) (hv : AskF Flt.val FltR v p w) :
    Calls Tryz.prog 144 #[e.val, ptF b] w fun en w' => en = .returned (.bool (e.fa.l.any p)) ∧ Below w.heap.size w w' := by
  refine enter_args (args := [.agg #[str e.id, .int .i64 e.at_, .int .i64 e.lv, .slice e.fa.A e.fa.q e.fa.c, .slice e.ta.A e.ta.q e.ta.c, .slice e.cr.A e.cr.q e.cr.c, str e.rel, str e.us, .int .i64 e.wt], ptF b]) (F := _) Tryz.func144 rfl Tryz.ntmps144 rfl rfl ?_
  intro Rb hRb hRn
  refine tx ?_
  refine S_box 2 2 rfl rfl rfl rfl rfl ?_
  intro b2
  refine sr 1 ?_
  refine sgx ?_
  refine s1 (yF fa31_3) ?_
  refine s1 (yL 2 Tryz.underlying27) ?_
  refine s1 (y_load_far rfl rfl h.1 h.2 Tryz.underlying178 rfl) ?_
  refine s1 (y_call rfl rfl rfl cf145 (fun _ w hM => ContFF_ask (he.fa.below hM.below) hs.fa (hv.below hM.below))) ?_
  refine sr 1 ?_
  refine sgo ?_
  refine tr1 hRb fun w hM => ?_
  exact ⟨rfl, hM.below⟩
theorem askFault {v : Fn} {p : Flt → Bool} {b : Nat} {w : World} (h : Cell1 w b v.v) (hv : AskF Flt.val FltR v p w) : AskF Evt.val EvR ⟨144, #[ptF b]⟩ (fun e => e.fa.l.any p) w :=
  ⟨cf144, fun w' hb e he => tfault_any v p b e w' he.1 he.2 (cellK h hb) (hv.below hb)⟩
theorem tframe_any (v : Fn) (p : Frm → Bool) (b : Nat) (f : Flt) (w : World) (hf : FltOk w f) (hs : FltS f) (h : Cell1 w b v.v) (hv : AskF Frm.val FrmR v p w) :
    Calls Tryz.prog 147 #[f.val, ptF b] w fun en w' => en = .returned (.bool (f.fr.l.any p)) ∧ Below w.heap.size w w' := by
  refine enter_args (args := [.agg #[str f.k, str f.t, .slice f.fr.A f.fr.q f.fr.c], ptF b]) (F := _) Tryz.func147 rfl Tryz.ntmps147 rfl rfl ?_
  intro Rb hRb hRn
  refine tx ?_
  refine S_box 2 2 rfl rfl rfl rfl rfl ?_
  intro b2
  refine sr 1 ?_
  refine sgx ?_
  refine s1 (yF fa100_2) ?_
  refine s1 (yL 2 Tryz.underlying98) ?_
  refine s1 (y_load_far rfl rfl h.1 h.2 Tryz.underlying181 rfl) ?_
  refine s1 (y_call rfl rfl rfl cf148 (fun _ w hM => ContFR_ask (hf.fr.below hM.below) hs.fr (hv.below hM.below))) ?_
  refine sr 1 ?_
  refine sgo ?_
  refine tr1 hRb fun w hM => ?_
  exact ⟨rfl, hM.below⟩
theorem askFrame {v : Fn} {p : Frm → Bool} {b : Nat} {w : World} (h : Cell1 w b v.v) (hv : AskF Frm.val FrmR v p w) : AskF Flt.val FltR ⟨147, #[ptF b]⟩ (fun f => f.fr.l.any p) w :=
  ⟨cf147, fun w' hb f hf => tframe_any v p b f w' hf.1 hf.2 (cellK h hb) (hv.below hb)⟩
/-! ### And, Or, Not -/
/-- kids as function values: each asks what its condition holds for -/
def KidsAt (b : Nat) (ks : List SC) (w : World) : Prop := ∃ (A : Option Addr) (q c : Nat) (Z : List (Fn × SC)), Cell1 w b (.slice A q c) ∧ SlT fnE 1 w A q Z ∧ q ≤ 4611686018427387904 ∧ Z.map Prod.snd = ks ∧ ∀ z ∈ Z, AskF Evt.val EvR z.1 (fun e => hoX e z.2) w
theorem tno_any (e : Evt) (g : FuncId) (cap : Array Value) (p : Bool) (be : Nat) (w : World) (hcf : ∀ args w, (callFunc g args).run Tryz.prog w = .ok (.enter g args) w) (h : CellsAt w be e.enc)
    (hg : ∀ w', Below w.heap.size w w' → Calls Tryz.prog g (#[e.val] ++ cap) w' fun en w'' => en = .returned (.bool p) ∧ Below w'.heap.size w' w'') :
    Calls Tryz.prog 153 #[.func (.func g) #[] cap, ptF be] w fun en w' => en = .returned (.bool (!p)) ∧ Below w.heap.size w w' := by
  refine enter_args (args := [.func (.func g) #[] cap, ptF be]) (F := _) Tryz.func153 rfl Tryz.ntmps153 rfl rfl ?_
  intro Rb hRb hRn
  refine tx ?_
  refine sr 1 ?_
  refine sgx ?_
  refine sr 1 ?_
  refine s1 (y_loadA_far rfl rfl h.1 h.2 Tryz.underlying31 rfl sz31) ?_
  refine s1 (y_call rfl rfl rfl hcf (fun _ w hM => hg w hM.below)) ?_
  refine sr 2 ?_
  refine sgo ?_
  refine tr1 hRb fun w hM => ?_
  exact ⟨rfl, hM.below⟩
theorem tis_any (e : Evt) (g : FuncId) (cap : Array Value) (p : Bool) (be : Nat) (w : World) (hcf : ∀ args w, (callFunc g args).run Tryz.prog w = .ok (.enter g args) w) (h : CellsAt w be e.enc)
    (hg : ∀ w', Below w.heap.size w w' → Calls Tryz.prog g (#[e.val] ++ cap) w' fun en w'' => en = .returned (.bool p) ∧ Below w'.heap.size w' w'') :
    Calls Tryz.prog 155 #[.func (.func g) #[] cap, ptF be] w fun en w' => en = .returned (.bool (p)) ∧ Below w.heap.size w w' := by
  refine enter_args (args := [.func (.func g) #[] cap, ptF be]) (F := _) Tryz.func155 rfl Tryz.ntmps155 rfl rfl ?_
  intro Rb hRb hRn
  refine tx ?_
  refine sr 1 ?_
  refine sgx ?_
  refine sr 1 ?_
  refine s1 (y_loadA_far rfl rfl h.1 h.2 Tryz.underlying31 rfl sz31) ?_
  refine s1 (y_call rfl rfl rfl hcf (fun _ w hM => hg w hM.below)) ?_
  refine sr 1 ?_
  refine sgo ?_
  refine tr1 hRb fun w hM => ?_
  exact ⟨rfl, hM.below⟩
theorem tAnd_any (e : Evt) (b : Nat) (A : Option Addr) (q c : Nat) (Z : List (Fn × SC)) (w : World) (he : EvR w e) (h : Cell1 w b (.slice A q c)) (hl : SlT fnE 1 w A q Z) (hq : q ≤ 4611686018427387904) (hz : ∀ z ∈ Z, AskF Evt.val EvR z.1 (fun e => hoX e z.2) w) :
    Calls Tryz.prog 151 #[e.val, ptF b] w fun en w' => en = .returned (.bool (Z.all fun z => hoX e z.2)) ∧ Below w.heap.size w w' := by
  refine enter_args (args := [.agg #[str e.id, .int .i64 e.at_, .int .i64 e.lv, .slice e.fa.A e.fa.q e.fa.c, .slice e.ta.A e.ta.q e.ta.c, .slice e.cr.A e.cr.q e.cr.c, str e.rel, str e.us, .int .i64 e.wt], ptF b]) (F := _) Tryz.func151 rfl Tryz.ntmps151 rfl rfl ?_
  intro Rb hRb hRn
  refine tx ?_
  refine S_box 2 2 rfl rfl rfl rfl rfl ?_
  intro b2
  refine sr 1 ?_
  refine sgx ?_
  refine s1 (y_load_far rfl rfl h.1 h.2 Tryz.underlying186 rfl) ?_
  refine s1 (y_makeFunc rfl rfl rfl rfl rfl) ?_
  refine s1 (y_call rfl rfl rfl cf152 (fun _ w1 hM => ContFK_any A q c Z 153 _ (fun z => !hoX e z.2) w1 (hl.below hM.below) hq cf153 (fun z hzm w2 hb2 => have ha := (hz z hzm).below (hM.below.trans (hb2.mono hM.below.size)); tno_any e z.1.g z.1.cap _ b2 w2 ha.1 (cells_below (hM.box_cells 2 rfl) hb2) (fun w3 hb3 => ha.2 w3 hb3 e ((he.below (hM.below.trans (hb2.mono hM.below.size))).below hb3))))) ?_
  refine sr 2 ?_
  refine sgo ?_
  refine tr1 hRb fun w hM => ?_
  exact ⟨by rw [show (Z.all fun z => hoX e z.2) = !(Z.any fun z => !hoX e z.2) from by rw [List.not_any_eq_all_not]; simp], hM.below⟩
theorem askAnd {b : Nat} {ks : List SC} {w : World} (h : KidsAt b ks w) : AskF Evt.val EvR ⟨151, #[ptF b]⟩ (fun e => ks.all (hoX e)) w := by
  obtain ⟨A, q, c, Z, h1, h2, h3, rfl, h5⟩ := h
  have ha : AskF Evt.val EvR ⟨151, #[ptF b]⟩ (fun e => Z.all fun z => hoX e z.2) w := ⟨cf151, fun w' hb e he => tAnd_any e b A q c Z w' he (cellK h1 hb) (h2.below hb) h3 fun z hz => (h5 z hz).below hb⟩
  exact ha.ext fun e => by rw [List.all_map]; rfl
theorem tOr_any (e : Evt) (b : Nat) (A : Option Addr) (q c : Nat) (Z : List (Fn × SC)) (w : World) (he : EvR w e) (h : Cell1 w b (.slice A q c)) (hl : SlT fnE 1 w A q Z) (hq : q ≤ 4611686018427387904) (hz : ∀ z ∈ Z, AskF Evt.val EvR z.1 (fun e => hoX e z.2) w) :
    Calls Tryz.prog 154 #[e.val, ptF b] w fun en w' => en = .returned (.bool (Z.any fun z => hoX e z.2)) ∧ Below w.heap.size w w' := by
  refine enter_args (args := [.agg #[str e.id, .int .i64 e.at_, .int .i64 e.lv, .slice e.fa.A e.fa.q e.fa.c, .slice e.ta.A e.ta.q e.ta.c, .slice e.cr.A e.cr.q e.cr.c, str e.rel, str e.us, .int .i64 e.wt], ptF b]) (F := _) Tryz.func154 rfl Tryz.ntmps154 rfl rfl ?_
  intro Rb hRb hRn
  refine tx ?_
  refine S_box 2 2 rfl rfl rfl rfl rfl ?_
  intro b2
  refine sr 1 ?_
  refine sgx ?_
  refine s1 (y_load_far rfl rfl h.1 h.2 Tryz.underlying186 rfl) ?_
  refine s1 (y_makeFunc rfl rfl rfl rfl rfl) ?_
  refine s1 (y_call rfl rfl rfl cf152 (fun _ w1 hM => ContFK_any A q c Z 155 _ (fun z => hoX e z.2) w1 (hl.below hM.below) hq cf155 (fun z hzm w2 hb2 => have ha := (hz z hzm).below (hM.below.trans (hb2.mono hM.below.size)); tis_any e z.1.g z.1.cap _ b2 w2 ha.1 (cells_below (hM.box_cells 2 rfl) hb2) (fun w3 hb3 => ha.2 w3 hb3 e ((he.below (hM.below.trans (hb2.mono hM.below.size))).below hb3))))) ?_
  refine sr 1 ?_
  refine sgo ?_
  refine tr1 hRb fun w hM => ?_
  exact ⟨rfl, hM.below⟩
theorem askOr {b : Nat} {ks : List SC} {w : World} (h : KidsAt b ks w) : AskF Evt.val EvR ⟨154, #[ptF b]⟩ (fun e => ks.any (hoX e)) w := by
  obtain ⟨A, q, c, Z, h1, h2, h3, rfl, h5⟩ := h
  have ha : AskF Evt.val EvR ⟨154, #[ptF b]⟩ (fun e => Z.any fun z => hoX e z.2) w := ⟨cf154, fun w' hb e he => tOr_any e b A q c Z w' he (cellK h1 hb) (h2.below hb) h3 fun z hz => (h5 z hz).below hb⟩
  exact ha.ext fun e => by rw [List.any_map]; rfl
theorem tNot_any (e : Evt) (b : Nat) (A : Option Addr) (q c : Nat) (z : Fn × SC) (w : World) (he : EvR w e) (h : Cell1 w b (.slice A q c)) (hl : SlT fnE 1 w A q [z]) (hq : q = 1) (hz : AskF Evt.val EvR z.1 (fun e => hoX e z.2) w) :
    Calls Tryz.prog 156 #[e.val, ptF b] w fun en w' => en = .returned (.bool (!hoX e z.2)) ∧ Below w.heap.size w w' := by
  refine enter_args (args := [.agg #[str e.id, .int .i64 e.at_, .int .i64 e.lv, .slice e.fa.A e.fa.q e.fa.c, .slice e.ta.A e.ta.q e.ta.c, .slice e.cr.A e.cr.q e.cr.c, str e.rel, str e.us, .int .i64 e.wt], ptF b]) (F := _) Tryz.func156 rfl Tryz.ntmps156 rfl rfl ?_
  intro Rb hRb hRn
  refine tx ?_
  refine S_box 2 2 rfl rfl rfl rfl rfl ?_
  intro b2
  refine sr 1 ?_
  refine sgs ?_
  refine T_draws (by kernel_rfl) (by kernel_rfl) ?_
  refine d1 (y_load_far rfl rfl h.1 h.2 Tryz.underlying186 rfl) ?_
  refine d1 (y_indexAddrI (j := 0) rfl rfl rfl (fun _ => rfl) Tryz.underlying186 sz32 (fun hg => hl.isSome (by omega)) (fun _ => by omega)) ?_
  refine d1 (y_loadT1 (val := (fun z : Fn × SC => Value.func (.func z.1.g) #[] z.1.cap)) rfl rfl hl (fun _ => rfl) Tryz.underlying32 rfl) ?_
  refine d1 (yA 2 rfl Tryz.underlying31 sz31) ?_
  refine d1 (y_call rfl rfl rfl hz.1 (fun _ w hM => hz.2 w hM.below e (he.below hM.below))) ?_
  refine d1 (y_not rfl rfl) ?_
  refine d1 (y_assign rfl rfl) ?_
  refine dgo ?_
  refine tr1 hRb fun w hM => ?_
  exact ⟨rfl, hM.below⟩
theorem askNot {b : Nat} {k : SC} {w : World} (h : KidsAt b [k] w) : AskF Evt.val EvR ⟨156, #[ptF b]⟩ (fun e => !hoX e k) w := by
  obtain ⟨A, q, c, Z, h1, h2, h3, h4, h5⟩ := h
  match Z, h4 with
  | [(v, k')], h4 =>
    obtain rfl : k' = k := by simpa using h4
    have hq : q = 1 := by have := h2.len; simpa using this.symm
    exact ⟨cf156, fun w' hb e he => tNot_any e b A q c (v, k') w' he (cellK h1 hb) (h2.below hb) hq ((h5 _ (List.mem_singleton.2 rfl)).below hb)⟩
end Go.Proofs.YtekbcbjimajnfaaGreatDoor
end
section
namespace Go.Proofs.YtekbcbjimajnfaaGreatDoor
set_option linter.unusedSimpArgs false
set_option linter.unusedVariables false
set_option maxRecDepth 20000
open Go.RowKit Go.Eng
structure FnR where
  fn : Fn
  rs : List Row
abbrev FnR.v (z : FnR) : Value := .func (.func z.fn.g) #[] z.fn.cap
/-- what is returned asks p, where C holds; it stands on rows -/
structure FnOk {α : Type} (val : α → Value) (ok : World → α → Prop) (w0 : World) (rs : List Row) (C : World → Prop) (p : α → Bool) (z : FnR) : Prop where
  cf : CfOf z.fn.g
  more : ∀ r ∈ rs, r ∈ z.rs
  sees : Sees w0 z.rs fun w => C w → AskF val ok z.fn p w
theorem in_l {a b : List Row} {r : Row} (h : r ∈ a) : r ∈ a ++ b := List.mem_append_left _ h
theorem in_r {a : List Row} {r : Row} : r ∈ a ++ [r] := List.mem_append_right _ (List.mem_singleton.2 rfl)
theorem test1_any {w0 : World} {K : HL} (hK : FromK K) (rs : List Row) (C : World → Prop) (f : Fn) (p : Flt → Bool) (hv : Sees w0 rs fun w => C w → AskF Flt.val FltR f p w) (w : World) (hM0 : Mem w0 ([(900, .many rs)] ++ K) w) :
    Calls Tryz.prog 143 #[.func (.func f.g) #[] f.cap] w fun e w' => ∃ z : FnR, e = .returned z.v ∧ FnOk Evt.val EvR w0 rs C (fun e => e.fa.l.any p) z ∧ Mem w0 ([(900, .many z.rs)] ++ K) w' := by
  refine enterM_args (args := [.func (.func f.g) #[] f.cap]) (F := _) hM0 Tryz.func143 rfl Tryz.ntmps143 rfl rfl ?_
  intro Rb hRb hRn
  refine tx ?_
  refine S_box 1 1 rfl rfl rfl rfl rfl ?_
  intro b1
  refine sr 1 ?_
  refine sgx ?_
  refine s1 (y_makeFunc rfl rfl rfl rfl rfl) ?_
  refine sr 1 ?_
  refine sgo ?_
  refine tr1 hRb fun w hM => ?_
  have hM := hM.boxRow (i := 1) rfl
  have hM := hM.bankK (ks := [(1, 1), (900, 900)]) (m := 900) (i := 1) rfl rfl rfl (by repeat (first | exact kl_nil | exact kl_rest (by assumption) rfl | (apply kl_in; focus rfl) | (apply kl_out; focus rfl))) rfl
  exact ⟨⟨⟨144, #[ptF b1]⟩, _⟩, rfl, ⟨cf144, fun r h => in_l h, fun w hb hr hC => askFault (cell1_of (row_cells (hr _ in_r))) (hv w hb (fun r h => hr r (in_l h)) hC)⟩, hM.keep (ks := [(0, 999)]) (by repeat (first | exact kl_rest (by assumption) rfl | (apply kl_in; focus rfl))) _ ⟨rfl, trivial⟩⟩
theorem test2_any {w0 : World} {K : HL} (hK : FromK K) (rs : List Row) (C : World → Prop) (f : Fn) (p : Frm → Bool) (b3 : Nat) (hv : Sees w0 rs fun w => C w → AskF Frm.val FrmR f p w) (w : World)
    (hM0 : Mem w0 ([(901, .blk b3 (IsBox [.func (.func 143) #[] #[]] 180)), (900, .many rs)] ++ K) w) :
    Calls Tryz.prog 146 #[.func (.func f.g) #[] f.cap, ptF b3] w fun e w' => ∃ z : FnR, e = .returned z.v ∧ FnOk Evt.val EvR w0 rs C (fun e => e.fa.l.any fun f => f.fr.l.any p) z ∧ Mem w0 ([(901, .blk b3 (IsBox [.func (.func 143) #[] #[]] 180)), (900, .many z.rs)] ++ K) w' := by
  refine enterM_args (args := [.func (.func f.g) #[] f.cap, ptF b3]) (F := _) hM0 Tryz.func146 rfl Tryz.ntmps146 rfl rfl ?_
  intro Rb hRb hRn
  refine tx ?_
  refine S_box 2 2 rfl rfl rfl rfl rfl ?_
  intro b2
  refine sr 1 ?_
  refine sgx ?_
  refine s1 (yL 901 Tryz.underlying180) ?_
  refine s1 (y_makeFunc rfl rfl rfl rfl rfl) ?_
  refine S_callM 6 [(900, 900)] (X := FnR) rfl rfl rfl rfl rfl rfl rfl cf143 rfl (fun z => z.v) (FnOk Evt.val EvR w0 rs (fun w => Cell1 w b2 f.v ∧ C w) (fun e => e.fa.l.any fun f => f.fr.l.any p)) (fun z => [(900, .many z.rs)]) (fun _ => rfl) (fun _ => rfl) (fun K hK w hM => test1_any hK rs (fun w => Cell1 w b2 f.v ∧ C w) ⟨147, #[ptF b2]⟩ (fun f => f.fr.l.any p) (fun w hb hr hC => askFrame hC.1 (hv w hb hr hC.2)) w hM) ?_
  intro x6 hx6
  refine sr 1 ?_
  refine sgo ?_
  refine tr1 hRb fun w hM => ?_
  have hM := hM.boxRow (i := 2) rfl
  have hM := hM.bankK (ks := [(2, 2), (900, 900)]) (m := 900) (i := 2) rfl rfl rfl (by repeat (first | exact kl_nil | exact kl_rest (by assumption) rfl | (apply kl_in; focus rfl) | (apply kl_out; focus rfl))) rfl
  exact ⟨⟨x6.fn, x6.rs ++ [boxRow 181 b2 [f.v]]⟩, rfl, ⟨hx6.cf, fun r h => in_l (hx6.more r h), fun w hb hr hC => hx6.sees w hb (fun r h => hr r (in_l h)) ⟨cell1_of (row_cells (hr _ in_r)), hC⟩⟩, hM.keep (ks := [(0, 999)]) (by repeat (first | exact kl_rest (by assumption) rfl | (apply kl_in; focus rfl))) _ ⟨rfl, rfl, trivial⟩⟩
theorem test3_any {w0 : World} {K : HL} (hK : FromK K) (rs : List Row) (x : SC) (g : FuncId) (f : Evt → Int) (b1 : Nat) (hcf : CfOf g) (hg : ∀ e w', Calls Tryz.prog g #[e.val] w' fun en w'' => en = .returned (.int .i64 (f e)) ∧ Below w'.heap.size w' w'') (w : World) (hM0 : Mem w0 ([(900, .many rs)] ++ K) w) :
    Calls Tryz.prog 149 #[.func (.func g) #[] #[], ptF b1] w fun e w' => ∃ z : FnR, e = .returned z.v ∧ FnOk Evt.val EvR w0 rs (fun w => CellsAt w b1 x.enc) (fun e => inB (f e) x.lo x.hi) z ∧ Mem w0 ([(900, .many z.rs)] ++ K) w' := by
  refine enterM_args (args := [.func (.func g) #[] #[], ptF b1]) (F := _) hM0 Tryz.func149 rfl Tryz.ntmps149 rfl rfl ?_
  intro Rb hRb hRn
  refine tx ?_
  refine S_box 2 2 rfl rfl rfl rfl rfl ?_
  intro b2
  refine sr 1 ?_
  refine sgx ?_
  refine s1 (y_makeFunc rfl rfl rfl rfl rfl) ?_
  refine sr 1 ?_
  refine sgo ?_
  refine tr1 hRb fun w hM => ?_
  have hM := hM.boxRow (i := 2) rfl
  have hM := hM.bankK (ks := [(2, 2), (900, 900)]) (m := 900) (i := 2) rfl rfl rfl (by repeat (first | exact kl_nil | exact kl_rest (by assumption) rfl | (apply kl_in; focus rfl) | (apply kl_out; focus rfl))) rfl
  exact ⟨⟨⟨150, #[ptF b2, ptF b1]⟩, _⟩, rfl, ⟨cf150, fun r h => in_l h, fun w hb hr hC => askNum hcf hg (cell1_of (row_cells (hr _ in_r))) hC⟩, hM.keep (ks := [(0, 999)]) (by repeat (first | exact kl_rest (by assumption) rfl | (apply kl_in; focus rfl))) _ ⟨rfl, trivial⟩⟩
def kidRow (A : Option Addr) (q c : Nat) (Z : List (Fn × SC)) : Row := ⟨32, 1, .slice A q c, q, Z.flatMap fnE⟩
theorem kids_sees {w0 : World} {ws : List Row} {A : Option Addr} {q c b : Nat} {Z : List (Fn × SC)} {ks : List SC} (hl : Z.length = q) (hq : q ≤ 4611686018427387904) (hk : Z.map Prod.snd = ks) (hz : ∀ z ∈ Z, Sees w0 ws (AskF Evt.val EvR z.1 fun e => hoX e z.2)) :
    Sees w0 ((ws ++ [kidRow A q c Z]) ++ [boxRow 186 b [.slice A q c]]) (KidsAt b ks) := fun w hb hr =>
  ⟨A, q, c, Z, cell1_of (row_cells (hr _ in_r)), (row_ok (hr _ (in_l in_r)) hl).t, hq, hk, fun z h => hz z h w hb fun r h => hr r (in_l (in_l h))⟩
def TestAt (x : SC) : Prop := ∀ {w0 : World} {K : HL} (_ : FromK K) (rs : List Row) (w : World), x.Ok w0 → chX x = 0 → MLen w0 → Mem w0 ([(900, .many rs)] ++ K) w →
    Calls Tryz.prog 95 #[x.val] w fun e w' => ∃ z : FnR, e = .returned z.v ∧ FnOk Evt.val EvR w0 rs (fun _ => True) (fun e => hoX e x) z ∧ Mem w0 ([(900, .many z.rs)] ++ K) w'
theorem z180 : ∀ w, (zeroValue 180).run Tryz.prog w = .ok .nilFunc w := fun _ => by kernel_rfl
set_option maxHeartbeats 3200000 in
theorem test_step (x : SC) (ih : ∀ k ∈ x.kids, TestAt k) : TestAt x := by
  intro w0 K hK rs w hok h0 hmx hM0
  obtain ⟨hs, hq, hb80, hn, htl, hk⟩ := hok.parts
  have hl : SlT SC.enc 6 w0 x.ad x.q x.kids := hs.t
  have hlen := hl.len
  have htx := ch_text h0
  obtain ⟨ar1, ar2, ar3, ar4⟩ := ch_ar h0
  refine enterM_args (args := [.agg #[.int .i64 x.op, .slice x.ad x.q x.c, .int .i64 x.lo, .int .i64 x.hi, str x.nm, str x.tx]]) (F := _) hM0 Tryz.func95 rfl Tryz.ntmps95 rfl rfl ?_
  intro Rb hRb hRn
  refine tx ?_
  refine S_box 1 1 rfl rfl rfl rfl rfl ?_
  intro b1
  refine sr 1 ?_
  refine sgx ?_
  refine S_alloc 3 3 rfl rfl rfl rfl z180 ?_
  intro b3
  refine S_store 3 rfl rfl rfl rfl rfl rfl sz180 rfl rfl ?_
  refine sgx ?_
  refine s1 (y_makeFunc rfl rfl rfl rfl rfl) ?_
  refine sr 1 ?_
  refine sgx ?_
  refine s1 (y_makeFunc rfl rfl rfl rfl rfl) ?_
  refine sr 1 ?_
  refine sgx ?_
  refine S_alloc 6 6 rfl rfl rfl rfl z186 ?_
  intro b6
  refine sgs ?_
  refine tx ?_
  refine S_nilSlice 906 (e := 32) (size := 1) ?_
  refine s1 (yF fa36_1) ?_
  refine s1 (yL 1 Tryz.underlying34) ?_
  refine s1 (y_len_slice rfl rfl Tryz.underlying34) ?_
  refine sr 1 ?_
  refine sgo ?_
  refine T_block ?_
  refine lK5 (kf := [(8, 8), (15, 24)]) (kl := [(6, 6), (8, 8), (15, 24), (900, 900), (906, 906)]) (fun (i : Nat) (A : Option Addr) (c : Nat) (Z : List (Fn × SC)) (ws : List Row) => [(15, true, .int .i64 (i : Int))]) (fun (i : Nat) (A : Option Addr) (c : Nat) (Z : List (Fn × SC)) (ws : List Row) => [(6, .blk b6 (IsBox [.slice A i c] 186)), (906, .own 32 1 (.slice A i c) i (Z.flatMap fnE)), (900, .many ws)]) (fun (i : Nat) (A : Option Addr) (c : Nat) (Z : List (Fn × SC)) (ws : List Row) => i ≤ x.q ∧ Z.length = i ∧ Z.map Prod.snd = x.kids.take i ∧ (∀ r ∈ rs, r ∈ ws) ∧ ∀ z ∈ Z, Sees w0 ws (AskF Evt.val EvR z.1 fun e => hoX e z.2)) (fun (i : Nat) (A : Option Addr) (c : Nat) (Z : List (Fn × SC)) (ws : List Row) => x.q - i) 0 none 0 [] rs ?_ ?_ ?_ ?_
  · exact ⟨by omega, rfl, rfl, fun _ h => h, fun _ h => by simp at h⟩
  · exact ⟨rfl, trivial⟩
  · exact ⟨rfl, rfl, rfl, trivial⟩
  rintro i A c Z ws ⟨hp1, hp2, hp3, hp4, hp5⟩
  refine tx ?_
  refine sr 1 ?_
  refine sgs ?_
  refine T_cond rfl ?_ ?_ <;> intro h16
  · try simp only [nrm] at h16
    obtain ⟨k, hx1, hx2⟩ := hl.at (i := i) (by omega)
    refine kgs ?_
    refine T_block ?_
    refine tx ?_
    refine s1 (y_indexAddr rfl rfl rfl Tryz.underlying34 sz36 (fun hg => hl.isSome (by omega)) (fun _ => by omega)) ?_
    refine s1 (y_loadT rfl rfl hl (fun _ => rfl) (fun _ => hx1) Tryz.underlying36 rfl sz36) ?_
    refine S_alloc 8 8 rfl rfl rfl rfl z36 ?_
    intro b8
    refine S_store 8 rfl rfl rfl rfl rfl rfl sz36 rfl rfl ?_
    refine sgo ?_
    refine T_perm [0, 1, 2, 3, 4, 5] [true, true, false, false, false, false] [0, 0, 2, 6, 15, 31] [(0, [6]), (1, [8])] (by kernel_rfl) (by kernel_rfl) (by kernel_rfl) rfl (by kernel_rfl) ?_
    refine Rf_ 0 19 rfl rfl rfl rfl rfl _ ⟨rfl, trivial⟩ (Y.z (yL 6 Tryz.underlying186) rfl) ?_
    refine Rf_ 1 20 rfl rfl rfl rfl rfl _ ⟨rfl, trivial⟩ (Y.z (yA 8 rfl Tryz.underlying36 sz36) rfl) ?_
    refine R_chain 2 rfl rfl ?_
    refine S_callM 21 [(900, 900)] (X := FnR) rfl rfl rfl rfl rfl rfl rfl cf95 rfl (fun z => z.v) (FnOk Evt.val EvR w0 ws (fun _ => True) (fun e => hoX e k)) (fun z => [(900, .many z.rs)]) (fun _ => rfl) (fun _ => rfl) (fun K hK w hM => ih k (mem_at hx1) hK ws w (hk k (mem_at hx1)) (ch_kids h0 (mem_at hx1)) hmx hM) ?_
    intro x21 hx21
    refine R_next ⟨.inr ⟨rfl, trivial⟩, .inl rfl, trivial⟩ ?_
    refine R_chain 3 rfl rfl ?_
    refine S_buildSlice 22 22 rfl rfl rfl rfl rfl Tryz.underlying186 inf32 rfl (by decide) (by decide) rfl rfl (by decide) rfl (_) rfl ?_
    intro b22
    refine R_next ⟨.inr ⟨rfl, trivial⟩, .inl rfl, trivial⟩ ?_
    refine R_chain 4 rfl rfl ?_
    obtain ⟨i23, hi23, hz23, hs23, hy23⟩ := info_parts inf32
    refine S_append 23 906 22 rfl rfl rfl rfl rfl rfl rfl rfl Tryz.underlying186 hi23 hz23 hs23 hy23 rfl (by decide) (by decide) rfl ?_ ?_ (_) ((Z ++ [(x21.fn, k)]).flatMap fnE) rfl ?_ ?_
    · (simp only [maxLen]; omega)
    · omega
    · rw [List.flatMap_append]; rfl
    intro A23 c23
    refine R_next ⟨.inl rfl, .inl rfl, trivial⟩ ?_
    refine R_chain 5 rfl rfl ?_
    refine S_store 6 rfl rfl rfl rfl rfl rfl sz186 rfl rfl ?_
    refine R_next ⟨.inl rfl, .inl rfl, trivial⟩ ?_
    refine R_go (fun _ _ h => h) ?_
    refine T_region ?_
    refine s1 (y_bin rfl rfl rfl (fun hg => b_add (by omega))) ?_
    refine sr 1 ?_
    refine S_nil (nK5 (kf := [(8, 8), (15, 24)]) (kl := [(6, 6), (8, 8), (15, 24), (900, 900), (906, 906)]) (i + 1) A23 c23 (Z ++ [(x21.fn, k)]) x21.rs ?_ ?_ ?_ ?_)
    · omega
    · exact ⟨by omega, by rw [List.length_append, hp2]; rfl, by rw [List.map_append, hp3, List.take_add_one, hx1]; rfl, fun r h => hx21.more r (hp4 r h), fun z hz => by
        rcases List.mem_append.1 hz with h | h
        · exact (hp5 z h).more hx21.more
        · rw [List.mem_singleton.1 h]; exact hx21.sees.map fun w h => h trivial⟩
    · exact ⟨rfl, trivial⟩
    · exact ⟨rfl, rfl, rfl, trivial⟩
  try simp only [nrm] at h16
  have hiq : i = x.q := by omega
  have hZk : Z.map Prod.snd = x.kids := by rw [hp3, List.take_of_length_le (by omega)]
  refine egs ?_
  refine tx ?_
  refine s1 (yF fa36_0) ?_
  refine s1 (yL 1 Tryz.underlying3) ?_
  refine sgo ?_
  refine T_block ?_
  refine tx ?_
  refine sr 2 ?_
  refine sgo ?_
  refine T_cond rfl ?_ ?_ <;> intro h27
  · skip
    have hop : x.op = 1 := by simpa using h27
    refine tx ?_
    refine s1 (y_makeFunc rfl rfl rfl rfl rfl) ?_
    refine sr 1 ?_
    refine sgo ?_
    refine tr1 hRb fun w hM => ?_
    have hM := hM.bankK (ks := [(906, 906), (900, 900)]) (m := 900) (i := 906) rfl rfl rfl (by repeat (first | exact kl_nil | exact kl_rest (by assumption) rfl | (apply kl_in; focus rfl) | (apply kl_out; focus rfl))) rfl
    have hM := hM.boxRow (i := 6) rfl
    have hM := hM.bankK (ks := [(6, 6), (900, 900)]) (m := 900) (i := 6) rfl rfl rfl (by repeat (first | exact kl_nil | exact kl_rest (by assumption) rfl | (apply kl_in; focus rfl) | (apply kl_out; focus rfl))) rfl
    exact ⟨⟨⟨151, #[ptF b6]⟩, _⟩, rfl, ⟨cf151, fun r h => in_l (in_l (hp4 r h)), fun w hb hr _ => (askAnd (kids_sees hp2 (by omega) hZk hp5 w hb hr)).ext fun e => ho1 hop⟩, hM.keep (ks := [(0, 999)]) (by repeat (first | exact kl_rest (by assumption) rfl | (apply kl_in; focus rfl))) _ ⟨rfl, trivial⟩⟩
  have n1 : ¬ x.op = 1 := by simpa using h27
  refine tx ?_
  refine sr 2 ?_
  refine sgo ?_
  refine T_cond rfl ?_ ?_ <;> intro h30
  · skip
    have hop : x.op = 2 := by simpa using h30
    refine tx ?_
    refine s1 (y_makeFunc rfl rfl rfl rfl rfl) ?_
    refine sr 1 ?_
    refine sgo ?_
    refine tr1 hRb fun w hM => ?_
    have hM := hM.bankK (ks := [(906, 906), (900, 900)]) (m := 900) (i := 906) rfl rfl rfl (by repeat (first | exact kl_nil | exact kl_rest (by assumption) rfl | (apply kl_in; focus rfl) | (apply kl_out; focus rfl))) rfl
    have hM := hM.boxRow (i := 6) rfl
    have hM := hM.bankK (ks := [(6, 6), (900, 900)]) (m := 900) (i := 6) rfl rfl rfl (by repeat (first | exact kl_nil | exact kl_rest (by assumption) rfl | (apply kl_in; focus rfl) | (apply kl_out; focus rfl))) rfl
    exact ⟨⟨⟨154, #[ptF b6]⟩, _⟩, rfl, ⟨cf154, fun r h => in_l (in_l (hp4 r h)), fun w hb hr _ => (askOr (kids_sees hp2 (by omega) hZk hp5 w hb hr)).ext fun e => ho2 hop⟩, hM.keep (ks := [(0, 999)]) (by repeat (first | exact kl_rest (by assumption) rfl | (apply kl_in; focus rfl))) _ ⟨rfl, trivial⟩⟩
  have n2 : ¬ x.op = 2 := by simpa using h30
  refine tx ?_
  refine sr 2 ?_
  refine sgo ?_
  refine T_cond rfl ?_ ?_ <;> intro h33
  · skip
    have hop : x.op = 3 := by simpa using h33
    refine tx ?_
    refine s1 (y_makeFunc rfl rfl rfl rfl rfl) ?_
    refine sr 1 ?_
    refine sgo ?_
    refine tr1 hRb fun w hM => ?_
    obtain ⟨k, hk1⟩ : ∃ k, x.kids = [k] := by
      match h : x.kids, ar4 hop with
      | [k], _ => exact ⟨k, rfl⟩
    have hM := hM.bankK (ks := [(906, 906), (900, 900)]) (m := 900) (i := 906) rfl rfl rfl (by repeat (first | exact kl_nil | exact kl_rest (by assumption) rfl | (apply kl_in; focus rfl) | (apply kl_out; focus rfl))) rfl
    have hM := hM.boxRow (i := 6) rfl
    have hM := hM.bankK (ks := [(6, 6), (900, 900)]) (m := 900) (i := 6) rfl rfl rfl (by repeat (first | exact kl_nil | exact kl_rest (by assumption) rfl | (apply kl_in; focus rfl) | (apply kl_out; focus rfl))) rfl
    exact ⟨⟨⟨156, #[ptF b6]⟩, _⟩, rfl, ⟨cf156, fun r h => in_l (in_l (hp4 r h)), fun w hb hr _ => (askNot (kids_sees hp2 (by omega) (hZk.trans hk1) hp5 w hb hr)).ext fun e => ho3 hop hk1⟩, hM.keep (ks := [(0, 999)]) (by repeat (first | exact kl_rest (by assumption) rfl | (apply kl_in; focus rfl))) _ ⟨rfl, trivial⟩⟩
  have n3 : ¬ x.op = 3 := by simpa using h33
  refine tx ?_
  refine sr 2 ?_
  refine sgo ?_
  refine T_cond rfl ?_ ?_ <;> intro h36
  · skip
    have hop : x.op = 4 := by simpa using h36
    refine tx ?_
    refine sr 1 ?_
    refine S_callM 39 [(900, 900)] (X := FnR) rfl rfl rfl rfl rfl rfl rfl cf149 rfl (fun z => z.v) (FnOk Evt.val EvR w0 ws (fun w => CellsAt w b1 x.enc) (fun e => inB e.lv x.lo x.hi)) (fun z => [(900, .many z.rs)]) (fun _ => rfl) (fun _ => rfl) (fun K hK w hM => test3_any hK ws x 157 (fun e => e.lv) b1 cf157 nlv_any w hM) ?_
    intro x39 hx39
    refine sr 1 ?_
    refine sgo ?_
    refine tr1 hRb fun w hM => ?_
    have hM := hM.boxRow (i := 1) rfl
    have hM := hM.bankK (ks := [(1, 1), (900, 900)]) (m := 900) (i := 1) rfl rfl rfl (by repeat (first | exact kl_nil | exact kl_rest (by assumption) rfl | (apply kl_in; focus rfl) | (apply kl_out; focus rfl))) rfl
    exact ⟨⟨x39.fn, x39.rs ++ [boxRow 36 b1 x.enc]⟩, rfl, ⟨hx39.cf, fun r h => in_l (hx39.more r (hp4 r h)), fun w hb hr _ => (hx39.sees w hb (fun r h => hr r (in_l h)) (cells_of (row_cells (hr _ in_r)))).ext fun e => ho4 hop⟩, hM.keep (ks := [(0, 999)]) (by repeat (first | exact kl_rest (by assumption) rfl | (apply kl_in; focus rfl))) _ ⟨rfl, trivial⟩⟩
  have n4 : ¬ x.op = 4 := by simpa using h36
  refine tx ?_
  refine sr 2 ?_
  refine sgo ?_
  refine T_cond rfl ?_ ?_ <;> intro h40
  · skip
    have hop : x.op = 5 := by simpa using h40
    refine tx ?_
    refine sr 1 ?_
    refine S_callM 43 [(900, 900)] (X := FnR) rfl rfl rfl rfl rfl rfl rfl cf149 rfl (fun z => z.v) (FnOk Evt.val EvR w0 ws (fun w => CellsAt w b1 x.enc) (fun e => inB e.at_ x.lo x.hi)) (fun z => [(900, .many z.rs)]) (fun _ => rfl) (fun _ => rfl) (fun K hK w hM => test3_any hK ws x 158 (fun e => e.at_) b1 cf158 nat_any w hM) ?_
    intro x43 hx43
    refine sr 1 ?_
    refine sgo ?_
    refine tr1 hRb fun w hM => ?_
    have hM := hM.boxRow (i := 1) rfl
    have hM := hM.bankK (ks := [(1, 1), (900, 900)]) (m := 900) (i := 1) rfl rfl rfl (by repeat (first | exact kl_nil | exact kl_rest (by assumption) rfl | (apply kl_in; focus rfl) | (apply kl_out; focus rfl))) rfl
    exact ⟨⟨x43.fn, x43.rs ++ [boxRow 36 b1 x.enc]⟩, rfl, ⟨hx43.cf, fun r h => in_l (hx43.more r (hp4 r h)), fun w hb hr _ => (hx43.sees w hb (fun r h => hr r (in_l h)) (cells_of (row_cells (hr _ in_r)))).ext fun e => ho5 hop⟩, hM.keep (ks := [(0, 999)]) (by repeat (first | exact kl_rest (by assumption) rfl | (apply kl_in; focus rfl))) _ ⟨rfl, trivial⟩⟩
  have n5 : ¬ x.op = 5 := by simpa using h40
  refine tx ?_
  refine sr 2 ?_
  refine sgo ?_
  refine T_cond rfl ?_ ?_ <;> intro h44
  · skip
    have hop : x.op = 6 := by simpa using h44
    refine tx ?_
    refine sr 1 ?_
    refine S_callM 47 [(900, 900)] (X := FnR) rfl rfl rfl rfl rfl rfl rfl cf149 rfl (fun z => z.v) (FnOk Evt.val EvR w0 ws (fun w => CellsAt w b1 x.enc) (fun e => inB e.wt x.lo x.hi)) (fun z => [(900, .many z.rs)]) (fun _ => rfl) (fun _ => rfl) (fun K hK w hM => test3_any hK ws x 159 (fun e => e.wt) b1 cf159 nwt_any w hM) ?_
    intro x47 hx47
    refine sr 1 ?_
    refine sgo ?_
    refine tr1 hRb fun w hM => ?_
    have hM := hM.boxRow (i := 1) rfl
    have hM := hM.bankK (ks := [(1, 1), (900, 900)]) (m := 900) (i := 1) rfl rfl rfl (by repeat (first | exact kl_nil | exact kl_rest (by assumption) rfl | (apply kl_in; focus rfl) | (apply kl_out; focus rfl))) rfl
    exact ⟨⟨x47.fn, x47.rs ++ [boxRow 36 b1 x.enc]⟩, rfl, ⟨hx47.cf, fun r h => in_l (hx47.more r (hp4 r h)), fun w hb hr _ => (hx47.sees w hb (fun r h => hr r (in_l h)) (cells_of (row_cells (hr _ in_r)))).ext fun e => ho6 hop⟩, hM.keep (ks := [(0, 999)]) (by repeat (first | exact kl_rest (by assumption) rfl | (apply kl_in; focus rfl))) _ ⟨rfl, trivial⟩⟩
  have n6 : ¬ x.op = 6 := by simpa using h44
  refine T_seq ?_
  refine tx ?_
  refine sr 2 ?_
  refine sgo ?_
  refine T_cond rfl ?_ ?_ <;> intro h48
  · skip
    have hop7 := h48
    have hop : x.op = 7 ∨ x.op = 8 := .inl (by simpa using h48)
    refine kgo ?_
    refine T_cond rfl ?_ ?_ <;> intro h48
    · skip
      refine tx ?_
      refine s1 (y_makeFunc rfl rfl rfl rfl rfl) ?_
      refine sr 1 ?_
      refine sgo ?_
      refine tr1 hRb fun w hM => ?_
      have hM := hM.boxRow (i := 1) rfl
      have hM := hM.bankK (ks := [(1, 1), (900, 900)]) (m := 900) (i := 1) rfl rfl rfl (by repeat (first | exact kl_nil | exact kl_rest (by assumption) rfl | (apply kl_in; focus rfl) | (apply kl_out; focus rfl))) rfl
      exact ⟨⟨⟨160, #[ptF b1]⟩, ws ++ [boxRow 36 b1 x.enc]⟩, rfl, ⟨cf160, fun r h => in_l (hp4 r h), fun w hb hr _ => (askTag htx (cells_of (row_cells (hr _ in_r)))).ext fun e => ho7 hop⟩, hM.keep (ks := [(0, 999)]) (by repeat (first | exact kl_rest (by assumption) rfl | (apply kl_in; focus rfl))) _ ⟨rfl, trivial⟩⟩
    exact absurd (hop7.symm.trans h48) (by decide)
  have n7 : ¬ x.op = 7 := by simpa using h48
  refine T_region ?_
  refine sr 2 ?_
  refine sgo ?_
  refine T_cond rfl ?_ ?_ <;> intro h48
  · skip
    have hop : x.op = 7 ∨ x.op = 8 := .inr (by simpa using h48)
    refine tx ?_
    refine s1 (y_makeFunc rfl rfl rfl rfl rfl) ?_
    refine sr 1 ?_
    refine sgo ?_
    refine tr1 hRb fun w hM => ?_
    have hM := hM.boxRow (i := 1) rfl
    have hM := hM.bankK (ks := [(1, 1), (900, 900)]) (m := 900) (i := 1) rfl rfl rfl (by repeat (first | exact kl_nil | exact kl_rest (by assumption) rfl | (apply kl_in; focus rfl) | (apply kl_out; focus rfl))) rfl
    exact ⟨⟨⟨160, #[ptF b1]⟩, ws ++ [boxRow 36 b1 x.enc]⟩, rfl, ⟨cf160, fun r h => in_l (hp4 r h), fun w hb hr _ => (askTag htx (cells_of (row_cells (hr _ in_r)))).ext fun e => ho7 hop⟩, hM.keep (ks := [(0, 999)]) (by repeat (first | exact kl_rest (by assumption) rfl | (apply kl_in; focus rfl))) _ ⟨rfl, trivial⟩⟩
  have n8 : ¬ x.op = 8 := by simpa using h48
  refine tx ?_
  refine sr 2 ?_
  refine sgo ?_
  refine T_cond rfl ?_ ?_ <;> intro h52
  · skip
    have hop : x.op = 9 := by simpa using h52
    refine tx ?_
    refine s1 (y_makeFunc rfl rfl rfl rfl rfl) ?_
    refine sr 1 ?_
    refine sgo ?_
    refine tr1 hRb fun w hM => ?_
    have hM := hM.boxRow (i := 1) rfl
    have hM := hM.bankK (ks := [(1, 1), (900, 900)]) (m := 900) (i := 1) rfl rfl rfl (by repeat (first | exact kl_nil | exact kl_rest (by assumption) rfl | (apply kl_in; focus rfl) | (apply kl_out; focus rfl))) rfl
    exact ⟨⟨⟨161, #[ptF b1]⟩, ws ++ [boxRow 36 b1 x.enc]⟩, rfl, ⟨cf161, fun r h => in_l (hp4 r h), fun w hb hr _ => (askrel htx (cells_of (row_cells (hr _ in_r)))).ext fun e => ho9 hop⟩, hM.keep (ks := [(0, 999)]) (by repeat (first | exact kl_rest (by assumption) rfl | (apply kl_in; focus rfl))) _ ⟨rfl, trivial⟩⟩
  have n9 : ¬ x.op = 9 := by simpa using h52
  refine tx ?_
  refine sr 2 ?_
  refine sgo ?_
  refine T_cond rfl ?_ ?_ <;> intro h55
  · skip
    have hop : x.op = 10 := by simpa using h55
    refine tx ?_
    refine s1 (y_makeFunc rfl rfl rfl rfl rfl) ?_
    refine sr 1 ?_
    refine sgo ?_
    refine tr1 hRb fun w hM => ?_
    have hM := hM.boxRow (i := 1) rfl
    have hM := hM.bankK (ks := [(1, 1), (900, 900)]) (m := 900) (i := 1) rfl rfl rfl (by repeat (first | exact kl_nil | exact kl_rest (by assumption) rfl | (apply kl_in; focus rfl) | (apply kl_out; focus rfl))) rfl
    exact ⟨⟨⟨162, #[ptF b1]⟩, ws ++ [boxRow 36 b1 x.enc]⟩, rfl, ⟨cf162, fun r h => in_l (hp4 r h), fun w hb hr _ => (askus htx (cells_of (row_cells (hr _ in_r)))).ext fun e => ho10 hop⟩, hM.keep (ks := [(0, 999)]) (by repeat (first | exact kl_rest (by assumption) rfl | (apply kl_in; focus rfl))) _ ⟨rfl, trivial⟩⟩
  have n10 : ¬ x.op = 10 := by simpa using h55
  refine tx ?_
  refine sr 2 ?_
  refine sgo ?_
  refine T_cond rfl ?_ ?_ <;> intro h58
  · skip
    have hop : x.op = 11 := by simpa using h58
    refine tx ?_
    refine s1 (yL 3 Tryz.underlying180) ?_
    refine s1 (y_makeFunc rfl rfl rfl rfl rfl) ?_
    refine S_callM 62 [(900, 900)] (X := FnR) rfl rfl rfl rfl rfl rfl rfl cf143 rfl (fun z => z.v) (FnOk Evt.val EvR w0 ws (fun w => CellsAt w b1 x.enc) (fun e => e.fa.l.any fun f => gm eqL x.tx f.k)) (fun z => [(900, .many z.rs)]) (fun _ => rfl) (fun _ => rfl) (fun K hK w hM => test1_any hK ws (fun w => CellsAt w b1 x.enc) ⟨163, #[ptF b1]⟩ (fun f => gm eqL x.tx f.k) (fun w _ _ hC => askKind htx hC) w hM) ?_
    intro x62 hx62
    refine sr 1 ?_
    refine sgo ?_
    refine tr1 hRb fun w hM => ?_
    have hM := hM.boxRow (i := 1) rfl
    have hM := hM.bankK (ks := [(1, 1), (900, 900)]) (m := 900) (i := 1) rfl rfl rfl (by repeat (first | exact kl_nil | exact kl_rest (by assumption) rfl | (apply kl_in; focus rfl) | (apply kl_out; focus rfl))) rfl
    exact ⟨⟨x62.fn, x62.rs ++ [boxRow 36 b1 x.enc]⟩, rfl, ⟨hx62.cf, fun r h => in_l (hx62.more r (hp4 r h)), fun w hb hr _ => (hx62.sees w hb (fun r h => hr r (in_l h)) (cells_of (row_cells (hr _ in_r)))).ext fun e => ho11 hop⟩, hM.keep (ks := [(0, 999)]) (by repeat (first | exact kl_rest (by assumption) rfl | (apply kl_in; focus rfl))) _ ⟨rfl, trivial⟩⟩
  have n11 : ¬ x.op = 11 := by simpa using h58
  refine tx ?_
  refine sr 2 ?_
  refine sgo ?_
  refine T_cond rfl ?_ ?_ <;> intro h63
  · skip
    have hop : x.op = 12 := by simpa using h63
    refine tx ?_
    refine s1 (yF fa36_5) ?_
    refine s1 (yL 1 Tryz.underlying9) ?_
    refine s1 (y_call rfl rfl rfl cf164 (fun _ w _ => fsmall_any _ (by omega) w)) ?_
    refine S_alloc 9 9 rfl rfl rfl rfl z9 ?_
    intro b9
    refine S_store 9 rfl rfl rfl rfl rfl rfl sz9 rfl rfl ?_
    refine sgx ?_
    refine s1 (yL 3 Tryz.underlying180) ?_
    refine s1 (y_makeFunc rfl rfl rfl rfl rfl) ?_
    refine S_callM 70 [(900, 900)] (X := FnR) rfl rfl rfl rfl rfl rfl rfl cf143 rfl (fun z => z.v) (FnOk Evt.val EvR w0 ws (fun w => Cell1 w b9 (str (x.tx.map lowB))) (fun e => e.fa.l.any fun f => Lib.contains (f.t.map lowB) (x.tx.map lowB))) (fun z => [(900, .many z.rs)]) (fun _ => rfl) (fun _ => rfl) (fun K hK w hM => test1_any hK ws (fun w => Cell1 w b9 (str (x.tx.map lowB))) ⟨165, #[ptF b9]⟩ (fun f => Lib.contains (f.t.map lowB) (x.tx.map lowB)) (fun w hb _ hC => askSays (hmx.below hb) hC) w hM) ?_
    intro x70 hx70
    refine sr 1 ?_
    refine sgo ?_
    refine tr1 hRb fun w hM => ?_
    have hM := hM.boxRow (i := 9) rfl
    have hM := hM.bankK (ks := [(9, 9), (900, 900)]) (m := 900) (i := 9) rfl rfl rfl (by repeat (first | exact kl_nil | exact kl_rest (by assumption) rfl | (apply kl_in; focus rfl) | (apply kl_out; focus rfl))) rfl
    exact ⟨⟨x70.fn, x70.rs ++ [boxRow 9 b9 [str (x.tx.map lowB)]]⟩, rfl, ⟨hx70.cf, fun r h => in_l (hx70.more r (hp4 r h)), fun w hb hr _ => (hx70.sees w hb (fun r h => hr r (in_l h)) (cell1_of (row_cells (hr _ in_r)))).ext fun e => ho12 hop⟩, hM.keep (ks := [(0, 999)]) (by repeat (first | exact kl_rest (by assumption) rfl | (apply kl_in; focus rfl))) _ ⟨rfl, trivial⟩⟩
  have n12 : ¬ x.op = 12 := by simpa using h63
  refine tx ?_
  refine sr 2 ?_
  refine sgo ?_
  refine T_cond rfl ?_ ?_ <;> intro h71
  · skip
    have hop : x.op = 13 := by simpa using h71
    refine tx ?_
    refine sr 1 ?_
    refine s1 (y_makeFunc rfl rfl rfl rfl rfl) ?_
    refine S_callM 75 [(901, 3), (900, 900)] (X := FnR) rfl rfl rfl rfl rfl rfl rfl cf146 rfl (fun z => z.v) (FnOk Evt.val EvR w0 ws (fun w => CellsAt w b1 x.enc) (fun e => e.fa.l.any fun f => f.fr.l.any fun y => gm eqL x.tx y.f)) (fun z => [(901, .blk b3 (IsBox [.func (.func 143) #[] #[]] 180)), (900, .many z.rs)]) (fun _ => rfl) (fun _ => rfl) (fun K hK w hM => test2_any hK ws (fun w => CellsAt w b1 x.enc) ⟨167, #[ptF b1]⟩ (fun y => gm eqL x.tx y.f) b3 (fun w _ _ hC => askFunc htx hC) w hM) ?_
    intro x75 hx75
    refine sr 1 ?_
    refine sgo ?_
    refine tr1 hRb fun w hM => ?_
    have hM := hM.boxRow (i := 1) rfl
    have hM := hM.bankK (ks := [(1, 1), (900, 900)]) (m := 900) (i := 1) rfl rfl rfl (by repeat (first | exact kl_nil | exact kl_rest (by assumption) rfl | (apply kl_in; focus rfl) | (apply kl_out; focus rfl))) rfl
    exact ⟨⟨x75.fn, x75.rs ++ [boxRow 36 b1 x.enc]⟩, rfl, ⟨hx75.cf, fun r h => in_l (hx75.more r (hp4 r h)), fun w hb hr _ => (hx75.sees w hb (fun r h => hr r (in_l h)) (cells_of (row_cells (hr _ in_r)))).ext fun e => ho13 hop⟩, hM.keep (ks := [(0, 999)]) (by repeat (first | exact kl_rest (by assumption) rfl | (apply kl_in; focus rfl))) _ ⟨rfl, trivial⟩⟩
  have n13 : ¬ x.op = 13 := by simpa using h71
  have hop : x.op = 14 := by omega
  refine kgx ?_
  refine sr 1 ?_
  refine s1 (y_makeFunc rfl rfl rfl rfl rfl) ?_
  refine S_callM 78 [(901, 3), (900, 900)] (X := FnR) rfl rfl rfl rfl rfl rfl rfl cf146 rfl (fun z => z.v) (FnOk Evt.val EvR w0 ws (fun w => CellsAt w b1 x.enc) (fun e => e.fa.l.any fun f => f.fr.l.any fun y => gm eqL x.tx y.fi)) (fun z => [(901, .blk b3 (IsBox [.func (.func 143) #[] #[]] 180)), (900, .many z.rs)]) (fun _ => rfl) (fun _ => rfl) (fun K hK w hM => test2_any hK ws (fun w => CellsAt w b1 x.enc) ⟨168, #[ptF b1]⟩ (fun y => gm eqL x.tx y.fi) b3 (fun w _ _ hC => askFile htx hC) w hM) ?_
  intro x78 hx78
  refine sr 1 ?_
  refine sgo ?_
  refine tr1 hRb fun w hM => ?_
  have hM := hM.boxRow (i := 1) rfl
  have hM := hM.bankK (ks := [(1, 1), (900, 900)]) (m := 900) (i := 1) rfl rfl rfl (by repeat (first | exact kl_nil | exact kl_rest (by assumption) rfl | (apply kl_in; focus rfl) | (apply kl_out; focus rfl))) rfl
  exact ⟨⟨x78.fn, x78.rs ++ [boxRow 36 b1 x.enc]⟩, rfl, ⟨hx78.cf, fun r h => in_l (hx78.more r (hp4 r h)), fun w hb hr _ => (hx78.sees w hb (fun r h => hr r (in_l h)) (cells_of (row_cells (hr _ in_r)))).ext fun e => ho14 hop⟩, hM.keep (ks := [(0, 999)]) (by repeat (first | exact kl_rest (by assumption) rfl | (apply kl_in; focus rfl))) _ ⟨rfl, trivial⟩⟩
theorem test_any (x : SC) : TestAt x := SC.ind (Q := TestAt) test_step x
end Go.Proofs.YtekbcbjimajnfaaGreatDoor
end
section
namespace Go.Proofs.YtekbcbjimajnfaaGreatDoor
set_option linter.unusedSimpArgs false
set_option linter.unusedVariables false
set_option maxRecDepth 20000
open Go.RowKit Go.Eng
theorem cond_ch {x : SC} (h : condNo x = 0) : chX x = 0 := by
  unfold condNo at h
  split at h
  · cases h
  split at h
  · cases h
  exact h
end Go.Proofs.YtekbcbjimajnfaaGreatDoor
end
section
namespace Go.Proofs.YtekbcbjimajnfaaGreatDoor
set_option linter.unusedSimpArgs false
set_option linter.unusedVariables false
set_option maxRecDepth 20000
open Go.RowKit Go.Eng
def DeepAtR (m : Nat) : Prop := ∀ (x : SC) (w : World), x.Ok w → Calls Tryz.prog 99 #[x.val, .int .i64 (m : Int)] w fun e w' => e = .returned (.bool (deepP m x.says)) ∧ Below w.heap.size w w'
theorem deepR1_any (m : Nat) (hm : m ≤ 1000000) (ih : DeepAtR m) (x : SC) (b : Nat) (w : World) (hk : x.Ok w) (hc : w.cell? ⟨b, 0, none⟩ = some (.int .i64 ((m + 1 : Nat) : Int)) ∧ b < w.heap.size) :
    Calls Tryz.prog 171 #[x.val, .pointer (some ⟨b, 0, none⟩)] w fun e w' => e = .returned (.bool (deepP m x.says)) ∧ Below w.heap.size w w' := by
  refine enter_args (args := [.agg #[.int .i64 x.op, .slice x.ad x.q x.c, .int .i64 x.lo, .int .i64 x.hi, str x.nm, str x.tx], .pointer (some ⟨b, 0, none⟩)]) (F := _) Tryz.func171 rfl Tryz.ntmps171 rfl rfl ?_
  intro Rb hRb hRn
  refine tx ?_
  refine S_box 2 2 rfl rfl rfl rfl rfl ?_
  intro b2
  refine sr 1 ?_
  refine sgx ?_
  refine s1 (yA 2 rfl Tryz.underlying36 sz36) ?_
  refine s1 (y_load_far rfl rfl hc.1 hc.2 Tryz.underlying3 rfl) ?_
  refine s1 (y_bin rfl rfl rfl (fun hg => b_subv (((m : Nat) : Int)) (by omega) (by omega))) ?_
  refine s1 (y_call rfl rfl rfl cf99 (fun _ w1 hM => ih x w1 (hk.lift hM.below))) ?_
  refine sr 1 ?_
  refine sgo ?_
  refine tr1 hRb fun w hM => ?_
  exact ⟨rfl, hM.below⟩
theorem deepR_step (m : Nat) (hm : m + 1 ≤ 1000000) (ih : DeepAtR m) : DeepAtR (m + 1) := fun x w hok => by
  obtain ⟨hs, hq, hb, hn, ht, hk⟩ := hok.parts
  have e : deepP (m + 1) x.says = x.kids.any fun k => deepP m k.says := by rw [deepP, SC.says_kids, List.any_map]; rfl
  rw [e]
  refine enter_args (args := [.agg #[.int .i64 x.op, .slice x.ad x.q x.c, .int .i64 x.lo, .int .i64 x.hi, str x.nm, str x.tx], .int .i64 ((m + 1 : Nat) : Int)]) (F := _) Tryz.func99 rfl Tryz.ntmps99 rfl rfl ?_
  intro Rb hRb hRn
  refine tx ?_
  refine S_box 2 2 rfl rfl rfl rfl rfl ?_
  intro b2
  refine S_box 3 3 rfl rfl rfl rfl rfl ?_
  intro b3
  refine sr 1 ?_
  refine sgs ?_
  refine tx ?_
  refine s1 (yL 3 Tryz.underlying3) ?_
  refine sr 1 ?_
  refine sgo ?_
  refine T_cond rfl ?_ ?_ <;> intro h6
  · skip
    have : ((m + 1 : Nat) : Int) = 0 := by simpa using h6
    omega
  refine kgx ?_
  refine s1 (yF fa36_1) ?_
  refine s1 (yL 2 Tryz.underlying34) ?_
  refine s1 (y_makeFunc rfl rfl rfl rfl rfl) ?_
  refine s1 (y_call rfl rfl rfl cf136 (fun _ w1 hM => ContFC_any x.ad x.q x.c x.kids 171 _ (fun k => deepP m k.says) w1 (hs.t.below hM.below) hq cf171 (fun k hkm w2 hb2 => deepR1_any m (by omega) ih k b3 w2 ((hk k hkm).lift (hM.below.trans (hb2.mono hM.below.size))) (cellK (hM.box_cell (i := 3) rfl rfl) hb2)))) ?_
  refine sr 1 ?_
  refine sgo ?_
  refine tr1 hRb fun w hM => ?_
  exact ⟨rfl, hM.below⟩
theorem deepR_zero : DeepAtR 0 := fun x w hok => by
  refine enter_args (args := [.agg #[.int .i64 x.op, .slice x.ad x.q x.c, .int .i64 x.lo, .int .i64 x.hi, str x.nm, str x.tx], .int .i64 ((0 : Nat) : Int)]) (F := _) Tryz.func99 rfl Tryz.ntmps99 rfl rfl ?_
  intro Rb hRb hRn
  refine tx ?_
  refine S_box 2 2 rfl rfl rfl rfl rfl ?_
  intro b2
  refine S_box 3 3 rfl rfl rfl rfl rfl ?_
  intro b3
  refine sr 1 ?_
  refine sgs ?_
  refine tx ?_
  refine s1 (yL 3 Tryz.underlying3) ?_
  refine sr 1 ?_
  refine sgo ?_
  refine T_cond rfl ?_ ?_ <;> intro h6
  · skip
    refine tx ?_
    refine sr 1 ?_
    refine sgo ?_
    refine tr1 hRb fun w hM => ?_
    exact ⟨rfl, hM.below⟩
  cases h6
theorem deeper_any : ∀ m : Nat, m ≤ 1000000 → DeepAtR m
  | 0, _ => deepR_zero
  | m + 1, h => deepR_step m h (deeper_any m (by omega))
theorem cntL_mem : ∀ {l : List SC} {k : SC}, k ∈ l → cntP k.says ≤ cntL (l.map SC.says)
  | a :: r, k, h => by
    rw [List.map_cons, cntL]
    rcases List.mem_cons.1 h with rfl | h
    · omega
    · have := cntL_mem h; omega
theorem cntP_form (x : SC) : cntP x.says = cntL (x.kids.map SC.says) + 1 := by rw [SC.says_form, cntP]
def CntAt (x : SC) : Prop := ∀ w : World, x.Ok w → cntP x.says ≤ 1000000000000 → Calls Tryz.prog 100 #[x.val] w fun e w' => e = .returned (.int .i64 ((cntP x.says : Nat) : Int)) ∧ Below w.heap.size w w'
theorem count_step (x : SC) (ih : ∀ k ∈ x.kids, CntAt k) : CntAt x := fun w hok hc => by
  obtain ⟨hs, hq, hb, hn, ht, hk⟩ := hok.parts
  have hl : SlT SC.enc 6 w x.ad x.q x.kids := hs.t
  have hcf := cntP_form x
  refine enter_args (args := [.agg #[.int .i64 x.op, .slice x.ad x.q x.c, .int .i64 x.lo, .int .i64 x.hi, str x.nm, str x.tx]]) (F := _) Tryz.func100 rfl Tryz.ntmps100 rfl rfl ?_
  intro Rb hRb hRn
  refine tx ?_
  refine S_box 1 1 rfl rfl rfl rfl rfl ?_
  intro b1
  refine sr 1 ?_
  refine sgx ?_
  refine sr 1 ?_
  refine sgs ?_
  refine tx ?_
  refine s1 (yF fa36_1) ?_
  refine s1 (yL 1 Tryz.underlying34) ?_
  refine s1 (y_len_slice rfl rfl Tryz.underlying34) ?_
  refine sr 1 ?_
  refine sgo ?_
  refine T_block ?_
  refine lK2 (kf := [(3, 3), (5, 5), (9, 17)]) (kl := [(3, 3), (5, 5), (9, 17)]) (fun (i : Nat) (m : Nat) => [(9, true, .int .i64 (i : Int)), (3, true, .int .i64 (m : Int))]) (fun (i : Nat) (m : Nat) => []) (fun (i : Nat) (m : Nat) => i ≤ x.q ∧ m + cntL ((x.kids.drop i).map SC.says) = cntP x.says) (fun (i : Nat) (m : Nat) => x.q - i) 0 1 ?_ ?_ ?_ ?_
  · exact ⟨by omega, by rw [hcf, List.drop_zero]; omega⟩
  · exact ⟨rfl, rfl, trivial⟩
  · exact trivial
  rintro i m ⟨hp1, hp2⟩
  refine tx ?_
  refine sr 1 ?_
  refine sgs ?_
  refine T_cond rfl ?_ ?_ <;> intro h10
  · try simp only [nrm] at h10
    obtain ⟨k, hx1, hx2⟩ := hl.at (i := i) (by omega)
    rw [hx2, List.map_cons, cntL] at hp2
    refine kgs ?_
    refine T_block ?_
    refine tx ?_
    refine s1 (y_indexAddr rfl rfl rfl Tryz.underlying34 sz36 (fun hg => hl.isSome (by omega)) (fun _ => by omega)) ?_
    refine s1 (y_loadT rfl rfl hl (fun _ => rfl) (fun _ => hx1) Tryz.underlying36 rfl sz36) ?_
    refine S_alloc 5 5 rfl rfl rfl rfl z36 ?_
    intro b5
    refine S_store 5 rfl rfl rfl rfl rfl rfl sz36 rfl rfl ?_
    refine sgr ?_
    refine sr 1 ?_
    refine s1 (yA 5 rfl Tryz.underlying36 sz36) ?_
    refine s1 (y_call rfl rfl rfl cf100 (fun _ w1 hM => ih k (mem_at hx1) w1 ((hk k (mem_at hx1)).lift hM.below) (by have := cntL_mem (mem_at hx1); omega))) ?_
    refine s1 (y_bin rfl rfl rfl (fun hg => b_add (by omega))) ?_
    refine sr 1 ?_
    refine sgr ?_
    refine s1 (y_bin rfl rfl rfl (fun hg => b_add (by omega))) ?_
    refine sr 1 ?_
    refine S_nil (nK2 (kf := [(3, 3), (5, 5), (9, 17)]) (kl := [(3, 3), (5, 5), (9, 17)]) (i + 1) (m + cntP k.says) ?_ ?_ ?_ ?_)
    · omega
    · exact ⟨by omega, by omega⟩
    · exact ⟨rfl, rfl, trivial⟩
    · exact trivial
  try simp only [nrm] at h10
  refine egx ?_
  refine sr 2 ?_
  refine sgo ?_
  refine tr1 hRb fun w hM => ?_
  rw [hl.end (by omega)] at hp2
  exact ⟨by rw [← hp2]; rfl, hM.below⟩
theorem count_any (x : SC) : CntAt x := SC.ind (Q := CntAt) count_step x
theorem ranged_any (op : Int) (w : World) : Calls Tryz.prog 172 #[.int .i64 op] w fun e w' => e = .returned (.tuple #[.int .i64 (if rngB op = true then loR op else 0), .int .i64 (if rngB op = true then hiR op else 0), .bool (rngB op)]) ∧ Below w.heap.size w w' := by
  refine enter_args (args := [.int .i64 op]) (F := _) Tryz.func172 rfl Tryz.ntmps172 rfl rfl ?_
  intro Rb hRb hRn
  refine tx ?_
  refine sr 3 ?_
  refine sgs ?_
  refine tx ?_
  refine sr 1 ?_
  refine sgo ?_
  refine T_block ?_
  refine tx ?_
  refine sr 2 ?_
  refine sgo ?_
  refine T_cond rfl ?_ ?_ <;> intro h6
  · skip
    have h6 : op = 4 := by simpa using h6
    subst h6
    refine tx ?_
    refine sr 3 ?_
    refine sgo ?_
    refine tr3 hRb fun w hM => ?_
    exact ⟨rfl, hM.below⟩
  have h6 : ¬ op = 4 := by simpa using h6
  refine tx ?_
  refine sr 2 ?_
  refine sgo ?_
  refine T_cond rfl ?_ ?_ <;> intro h8
  · skip
    have h8 : op = 5 := by simpa using h8
    subst h8
    refine tx ?_
    refine sr 3 ?_
    refine sgo ?_
    refine tr3 hRb fun w hM => ?_
    exact ⟨rfl, hM.below⟩
  have h8 : ¬ op = 5 := by simpa using h8
  refine tx ?_
  refine sr 2 ?_
  refine sgo ?_
  refine T_cond rfl ?_ ?_ <;> intro h10
  · skip
    have h10 : op = 6 := by simpa using h10
    subst h10
    refine tx ?_
    refine sr 3 ?_
    refine sgo ?_
    refine tr3 hRb fun w hM => ?_
    exact ⟨rfl, hM.below⟩
  have h10 : ¬ op = 6 := by simpa using h10
  refine kgx ?_
  refine sr 3 ?_
  refine sgo ?_
  refine tr3 hRb fun w hM => ?_
  have hr : rngB op = false := by simp [rngB]; omega
  exact ⟨by rw [hr]; rfl, hM.below⟩
end Go.Proofs.YtekbcbjimajnfaaGreatDoor
end
section
namespace Go.Proofs.YtekbcbjimajnfaaGreatDoor
set_option linter.unusedSimpArgs false
set_option linter.unusedVariables false
set_option maxRecDepth 20000
open Go.RowKit Go.Eng
theorem txt_val {s : List UInt8} (h : ¬ s = []) : txtNo s = valNo s := by rw [txtNo, if_neg h]; rfl
def OneAtR (x : SC) : Prop := ∀ w : World, x.Ok w → Calls Tryz.prog 101 #[x.val] w fun e w' => e = .returned (.int .i64 (chX x)) ∧ Below w.heap.size w w'
theorem out_in (n lo hi : Int) : (decide (n < lo) || decide (hi < n)) = !inB n lo hi := by rw [inB, Bool.not_not]
def outQ (n op : Int) : Bool := decide (n < (if rngB op = true then loR op else 0)) || decide ((if rngB op = true then hiR op else 0) < n)
set_option maxHeartbeats 3200000 in
theorem rone_step (x : SC) (ih : ∀ k ∈ x.kids, OneAtR k) : OneAtR x := fun w hok => by
  obtain ⟨hs, hq, hb, hn, ht, hk⟩ := hok.parts
  have hl : SlT SC.enc 6 w x.ad x.q x.kids := hs.t
  have hlen := hl.len
  refine enter_args (args := [.agg #[.int .i64 x.op, .slice x.ad x.q x.c, .int .i64 x.lo, .int .i64 x.hi, str x.nm, str x.tx]]) (F := _) Tryz.func101 rfl Tryz.ntmps101 rfl rfl ?_
  intro Rb hRb hRn
  refine tx ?_
  refine S_box 1 1 rfl rfl rfl rfl rfl ?_
  intro b1
  refine sr 1 ?_
  refine sgs ?_
  refine tx ?_
  refine s1 (yF fa36_0) ?_
  refine s1 (yL 1 Tryz.underlying3) ?_
  refine s1 (y_as (v' := .bool (!inB x.op 1 14)) (by rw [out_in]) (y_call rfl rfl rfl cf42 (fun _ w _ => out_any _ _ _ w))) ?_
  refine sgo ?_
  refine T_cond rfl ?_ ?_ <;> intro h15
  · skip
    have hi1 : inB x.op 1 14 = false := by simpa using h15
    have e1 : chX x = 10 := chX_hd (by rw [hd_def, if_pos hi1]) (by decide)
    refine tx ?_
    refine sr 1 ?_
    refine sgo ?_
    refine tr1 hRb fun w hM => ?_
    first | exact ⟨by rw [e1], hM.below⟩ | exact ⟨by rw [hch, ← hp2, hl.end (by omega)]; rfl, hM.below⟩
  have hi1 : inB x.op 1 14 = true := by simpa using h15
  refine kgx ?_
  refine s1 (yF fa36_0) ?_
  refine s1 (yL 1 Tryz.underlying3) ?_
  refine s1 (y_as (v' := .bool (grpB x.op)) (by exact rfl) (y_bin rfl rfl rfl (fun _ => b_leq))) ?_
  refine sr 1 ?_
  refine sgx ?_
  refine s1 (yF fa36_0) ?_
  refine s1 (yL 1 Tryz.underlying3) ?_
  refine s1 (y_call rfl rfl rfl cf172 (fun _ w _ => ranged_any _ w)) ?_
  refine sr 7 ?_
  refine sgx ?_
  refine s1 (yF fa36_0) ?_
  refine s1 (yL 1 Tryz.underlying3) ?_
  refine sr 2 ?_
  refine sg rfl (yF fa36_0) ?_
  refine sg rfl (yL 1 Tryz.underlying3) ?_
  refine sg rfl (y_bin rfl rfl rfl (fun _ => b_eql)) ?_
  refine s1 (y_as (v' := .bool (nmdB x.op)) (by exact rfl) (y_or rfl rfl rfl)) ?_
  refine sr 1 ?_
  refine sgx ?_
  refine s1 (yF fa36_0) ?_
  refine s1 (yL 1 Tryz.underlying3) ?_
  refine sr 2 ?_
  refine sg rfl (yF fa36_0) ?_
  refine sg rfl (yL 1 Tryz.underlying3) ?_
  refine sg rfl (y_bin rfl rfl rfl (fun _ => b_neq)) ?_
  refine s1 (y_as (v' := .bool (wrdB x.op)) (by exact congrArg Value.bool (by rw [wrdB, Bool.eq_iff_iff]; simp only [Bool.and_eq_true, Bool.or_eq_true, decide_eq_true_eq, Bool.not_eq_true', decide_eq_false_iff_not]; omega)) (y_and rfl rfl rfl)) ?_
  refine sr 1 ?_
  refine sgs ?_
  refine T_block ?_
  refine T_seq ?_
  refine tx ?_
  refine s1 (yF fa36_1) ?_
  refine s1 (yL 1 Tryz.underlying34) ?_
  refine s1 (y_len_slice rfl rfl Tryz.underlying34) ?_
  refine sr 2 ?_
  refine sg rfl (y_move rfl rfl) ?_
  refine sg rfl (y_not rfl rfl) ?_
  refine s1 (y_as (v' := .bool (decide (0 < x.kids.length) && !grpB x.op)) (by simp only [hlen, Int.natCast_pos]) (y_and rfl rfl rfl)) ?_
  refine sr 1 ?_
  refine sgo ?_
  refine T_cond rfl ?_ ?_ <;> intro h42
  · skip
    have c1 := h42
    have e1 : chX x = 1 := chX_hd (by rw [hd_def, if_neg (by rw [hi1]; simp), if_pos (by unfold f1B; rw [c1]; simp)]) (by decide)
    refine kgo ?_
    refine T_cond rfl ?_ ?_ <;> intro h42
    · skip
      refine tx ?_
      refine sr 1 ?_
      refine sgo ?_
      refine tr1 hRb fun w hM => ?_
      first | exact ⟨by rw [e1], hM.below⟩ | exact ⟨by rw [hch, ← hp2, hl.end (by omega)]; rfl, hM.below⟩
    exact absurd (c1.symm.trans h42) (by decide)
  have c1 := h42
  refine tx ?_
  refine s1 (yF fa36_2) ?_
  refine s1 (yL 1 Tryz.underlying3) ?_
  refine sr 2 ?_
  refine sg rfl (yF fa36_3) ?_
  refine sg rfl (yL 1 Tryz.underlying3) ?_
  refine sg rfl (y_bin rfl rfl rfl (fun _ => b_neq)) ?_
  refine s1 (y_or rfl rfl rfl) ?_
  refine sr 1 ?_
  refine sg rfl (y_move rfl rfl) ?_
  refine sg rfl (y_not rfl rfl) ?_
  refine s1 (y_as (v' := .bool ((!decide (x.lo = 0) || !decide (x.hi = 0)) && !rngB x.op)) (by exact rfl) (y_and rfl rfl rfl)) ?_
  refine sr 1 ?_
  refine sgo ?_
  refine T_cond rfl ?_ ?_ <;> intro h42
  · skip
    have c2 := h42
    have e1 : chX x = 1 := chX_hd (by rw [hd_def, if_neg (by rw [hi1]; simp), if_pos (by unfold f1B; rw [c2]; simp)]) (by decide)
    refine kgo ?_
    refine T_cond rfl ?_ ?_ <;> intro h42
    · skip
      refine tx ?_
      refine sr 1 ?_
      refine sgo ?_
      refine tr1 hRb fun w hM => ?_
      first | exact ⟨by rw [e1], hM.below⟩ | exact ⟨by rw [hch, ← hp2, hl.end (by omega)]; rfl, hM.below⟩
    exact absurd (c2.symm.trans h42) (by decide)
  have c2 := h42
  refine tx ?_
  refine s1 (yF fa36_4) ?_
  refine s1 (yL 1 Tryz.underlying9) ?_
  refine s1 (y_bin rfl rfl rfl (fun _ => b_neqs)) ?_
  refine sr 1 ?_
  refine sg rfl (y_move rfl rfl) ?_
  refine sg rfl (y_not rfl rfl) ?_
  refine s1 (y_as (v' := .bool (!decide (x.nm = []) && !nmdB x.op)) (by simp only []) (y_and rfl rfl rfl)) ?_
  refine sr 1 ?_
  refine sgo ?_
  refine T_cond rfl ?_ ?_ <;> intro h42
  · skip
    have c3 := h42
    have e1 : chX x = 1 := chX_hd (by rw [hd_def, if_neg (by rw [hi1]; simp), if_pos (by unfold f1B; rw [c3]; simp)]) (by decide)
    refine kgo ?_
    refine T_cond rfl ?_ ?_ <;> intro h42
    · skip
      refine tx ?_
      refine sr 1 ?_
      refine sgo ?_
      refine tr1 hRb fun w hM => ?_
      first | exact ⟨by rw [e1], hM.below⟩ | exact ⟨by rw [hch, ← hp2, hl.end (by omega)]; rfl, hM.below⟩
    exact absurd (c3.symm.trans h42) (by decide)
  have c3 := h42
  refine T_region ?_
  refine s1 (yF fa36_5) ?_
  refine s1 (yL 1 Tryz.underlying9) ?_
  refine s1 (y_bin rfl rfl rfl (fun _ => b_neqs)) ?_
  refine sr 1 ?_
  refine sg rfl (y_move rfl rfl) ?_
  refine sg rfl (y_not rfl rfl) ?_
  refine s1 (y_as (v' := .bool (!decide (x.tx = []) && !wrdB x.op)) (by simp only []) (y_and rfl rfl rfl)) ?_
  refine sr 1 ?_
  refine sgo ?_
  refine T_cond rfl ?_ ?_ <;> intro h42
  · skip
    have c4 := h42
    have e1 : chX x = 1 := chX_hd (by rw [hd_def, if_neg (by rw [hi1]; simp), if_pos (by unfold f1B; rw [c4]; simp)]) (by decide)
    refine tx ?_
    refine sr 1 ?_
    refine sgo ?_
    refine tr1 hRb fun w hM => ?_
    first | exact ⟨by rw [e1], hM.below⟩ | exact ⟨by rw [hch, ← hp2, hl.end (by omega)]; rfl, hM.below⟩
  have hf1 : f1B x = false := by unfold f1B; rw [c1, c2, c3, h42]; rfl
  refine T_seq ?_
  refine tx ?_
  refine s1 (yF fa36_0) ?_
  refine s1 (yL 1 Tryz.underlying3) ?_
  refine sr 2 ?_
  refine sg rfl (yF fa36_0) ?_
  refine sg rfl (yL 1 Tryz.underlying3) ?_
  refine sg rfl (y_bin rfl rfl rfl (fun _ => b_eql)) ?_
  refine s1 (y_or rfl rfl rfl) ?_
  refine sr 1 ?_
  refine sg rfl (yF fa36_1) ?_
  refine sg rfl (yL 1 Tryz.underlying34) ?_
  refine sg rfl (y_len_slice rfl rfl Tryz.underlying34) ?_
  refine sg rfl (y_bin rfl rfl rfl (fun _ => b_lss)) ?_
  refine s1 (y_as (v' := .bool ((decide (x.op = 1) || decide (x.op = 2)) && decide (x.kids.length < 2))) (by rw [hlen, show decide (((x.q : Nat) : Int) < 2) = decide (x.q < 2) from decide_eq_decide.2 (by omega)]) (y_and rfl rfl rfl)) ?_
  refine sr 1 ?_
  refine sgo ?_
  refine T_cond rfl ?_ ?_ <;> intro h77
  · skip
    have c5 := h77
    have e1 : chX x = 1 := chX_hd (by rw [hd_def, if_neg (by rw [hi1]; simp), if_neg (by rw [hf1]; simp), if_pos (by unfold f2B; rw [c5]; simp)]) (by decide)
    refine kgo ?_
    refine T_cond rfl ?_ ?_ <;> intro h77
    · skip
      refine tx ?_
      refine sr 1 ?_
      refine sgo ?_
      refine tr1 hRb fun w hM => ?_
      first | exact ⟨by rw [e1], hM.below⟩ | exact ⟨by rw [hch, ← hp2, hl.end (by omega)]; rfl, hM.below⟩
    exact absurd (c5.symm.trans h77) (by decide)
  have c5 := h77
  refine T_region ?_
  refine s1 (yF fa36_0) ?_
  refine s1 (yL 1 Tryz.underlying3) ?_
  refine sr 2 ?_
  refine sg rfl (yF fa36_1) ?_
  refine sg rfl (yL 1 Tryz.underlying34) ?_
  refine sg rfl (y_len_slice rfl rfl Tryz.underlying34) ?_
  refine sg rfl (y_bin rfl rfl rfl (fun _ => b_neq)) ?_
  refine s1 (y_as (v' := .bool (decide (x.op = 3) && !decide (x.kids.length = 1))) (by rw [hlen, show decide (((x.q : Nat) : Int) = 1) = decide (x.q = 1) from decide_eq_decide.2 (by omega)]) (y_and rfl rfl rfl)) ?_
  refine sr 1 ?_
  refine sgo ?_
  refine T_cond rfl ?_ ?_ <;> intro h77
  · skip
    have c6 := h77
    have e1 : chX x = 1 := chX_hd (by rw [hd_def, if_neg (by rw [hi1]; simp), if_neg (by rw [hf1]; simp), if_pos (by unfold f2B; rw [c6]; simp)]) (by decide)
    refine tx ?_
    refine sr 1 ?_
    refine sgo ?_
    refine tr1 hRb fun w hM => ?_
    first | exact ⟨by rw [e1], hM.below⟩ | exact ⟨by rw [hch, ← hp2, hl.end (by omega)]; rfl, hM.below⟩
  have hre := hd_rest hi1 hf1 (by unfold f2B; rw [c5, h77]; rfl)
  refine tx ?_
  refine sr 2 ?_
  refine sg rfl (yF fa36_2) ?_
  refine sg rfl (yL 1 Tryz.underlying3) ?_
  refine sg rfl (y_move rfl rfl) ?_
  refine sg rfl (y_move rfl rfl) ?_
  refine sg rfl (y_as (v' := .bool (outQ x.lo x.op)) (by exact rfl) (y_call rfl rfl rfl cf42 (fun _ w _ => out_any _ _ _ w))) ?_
  refine sg rfl (y_move rfl rfl) ?_
  refine sg rfl (yF fa36_3) ?_
  refine sg rfl (yL 1 Tryz.underlying3) ?_
  refine sg rfl (y_move rfl rfl) ?_
  refine sg rfl (y_move rfl rfl) ?_
  refine sg rfl (y_as (v' := .bool (outQ x.hi x.op)) (by exact rfl) (y_call rfl rfl rfl cf42 (fun _ w _ => out_any _ _ _ w))) ?_
  refine sg rfl (y_or rfl rfl rfl) ?_
  refine S_ 116 rfl rfl rfl _ (y_as (v' := .bool (rngB x.op && r1B x)) (by exact congrArg Value.bool (by
    by_cases hr : rngB x.op = true
    · rw [r1B, outQ, outQ, if_pos hr, if_pos hr, out_in, out_in]
    · rw [Bool.not_eq_true] at hr; rw [hr]; rfl)) (y_and rfl rfl rfl)) ?_
  refine sr 1 ?_
  refine sgo ?_
  refine T_cond rfl ?_ ?_ <;> intro h101
  · skip
    have e1 : chX x = 2 := chX_hd (by rw [hre, if_pos h101]) (by decide)
    refine tx ?_
    refine sr 1 ?_
    refine sgo ?_
    refine tr1 hRb fun w hM => ?_
    first | exact ⟨by rw [e1], hM.below⟩ | exact ⟨by rw [hch, ← hp2, hl.end (by omega)]; rfl, hM.below⟩
  rw [if_neg (by rw [h101]; simp)] at hre
  refine tx ?_
  refine sr 2 ?_
  refine sg rfl (yF fa36_3) ?_
  refine sg rfl (yL 1 Tryz.underlying3) ?_
  refine sg rfl (yF fa36_2) ?_
  refine sg rfl (yL 1 Tryz.underlying3) ?_
  refine sg rfl (y_bin rfl rfl rfl (fun _ => b_lss)) ?_
  refine s1 (y_as (v' := .bool (rngB x.op && decide (x.hi < x.lo))) (by exact rfl) (y_and rfl rfl rfl)) ?_
  refine sr 1 ?_
  refine sgo ?_
  refine T_cond rfl ?_ ?_ <;> intro h117
  · skip
    have e1 : chX x = 5 := chX_hd (by rw [hre, if_pos h117]) (by decide)
    refine tx ?_
    refine sr 1 ?_
    refine sgo ?_
    refine tr1 hRb fun w hM => ?_
    first | exact ⟨by rw [e1], hM.below⟩ | exact ⟨by rw [hch, ← hp2, hl.end (by omega)]; rfl, hM.below⟩
  rw [if_neg (by rw [h117]; simp)] at hre
  refine tx ?_
  refine sr 2 ?_
  refine sg rfl (yF fa36_4) ?_
  refine sg rfl (yL 1 Tryz.underlying9) ?_
  refine sg rfl (y_call rfl rfl rfl cf40 (fun _ w _ => NameOk_any _ w)) ?_
  refine sg rfl (y_not rfl rfl) ?_
  refine s1 (y_as (v' := .bool (nmdB x.op && !nameOk x.nm)) (by exact rfl) (y_and rfl rfl rfl)) ?_
  refine sr 1 ?_
  refine sgo ?_
  refine T_cond rfl ?_ ?_ <;> intro h126
  · skip
    have e1 : chX x = 3 := chX_hd (by rw [hre, if_pos h126]) (by decide)
    refine tx ?_
    refine sr 1 ?_
    refine sgo ?_
    refine tr1 hRb fun w hM => ?_
    first | exact ⟨by rw [e1], hM.below⟩ | exact ⟨by rw [hch, ← hp2, hl.end (by omega)]; rfl, hM.below⟩
  rw [if_neg (by rw [h126]; simp)] at hre
  refine tx ?_
  refine sr 2 ?_
  refine sg rfl (yF fa36_5) ?_
  refine sg rfl (yL 1 Tryz.underlying9) ?_
  refine sg rfl (y_bin rfl rfl rfl (fun _ => b_eqls)) ?_
  refine s1 (y_as (v' := .bool (wrdB x.op && decide (x.tx = []))) (by simp only []) (y_and rfl rfl rfl)) ?_
  refine sr 1 ?_
  refine sgo ?_
  refine T_cond rfl ?_ ?_ <;> intro h134
  · skip
    have hw2 := h134
    simp only [Bool.and_eq_true, decide_eq_true_eq] at hw2
    have e1 : chX x = 1 := chX_hd (by rw [hre, if_pos hw2.1, txtNo, if_pos hw2.2]) (by decide)
    refine tx ?_
    refine sr 1 ?_
    refine sgo ?_
    refine tr1 hRb fun w hM => ?_
    first | exact ⟨by rw [e1], hM.below⟩ | exact ⟨by rw [hch, ← hp2, hl.end (by omega)]; rfl, hM.below⟩
  refine kgs ?_
  refine tx ?_
  refine sr 1 ?_
  refine sgo ?_
  refine T_cond rfl ?_ ?_ <;> intro h141
  · skip
    have hte : ¬ x.tx = [] := by rw [h141, Bool.true_and, decide_eq_false_iff_not] at h134; exact h134
    rw [if_pos h141, txt_val hte] at hre
    refine tx ?_
    refine s1 (yF fa36_5) ?_
    refine s1 (yL 1 Tryz.underlying9) ?_
    refine s1 (y_call rfl rfl rfl cf41 (fun _ w _ => wordFault_any _ (by omega) w)) ?_
    refine sr 1 ?_
    refine sgx ?_
    refine sr 2 ?_
    refine sgo ?_
    refine T_cond rfl ?_ ?_ <;> intro h146
    · skip
      have hn0 : valNo x.tx ≠ 0 := by simpa using h146
      have e1 : chX x = valNo x.tx := chX_hd hre hn0
      refine tx ?_
      refine sr 2 ?_
      refine sgo ?_
      refine tr1 hRb fun w hM => ?_
      first | exact ⟨by rw [e1], hM.below⟩ | exact ⟨by rw [hch, ← hp2, hl.end (by omega)]; rfl, hM.below⟩
    have hn0 : valNo x.tx = 0 := by simpa using h146
    have hch := chX_kids (hre.trans hn0)
    refine kgs ?_
    refine tx ?_
    refine s1 (yF fa36_1) ?_
    refine s1 (yL 1 Tryz.underlying34) ?_
    refine s1 (y_len_slice rfl rfl Tryz.underlying34) ?_
    refine sr 1 ?_
    refine sgo ?_
    refine T_block ?_
    refine lK1 (kf := [(2, 2), (11, 12), (151, 160)]) (kl := [(2, 2), (11, 12), (151, 160)]) (fun (i : Nat) => [(151, true, .int .i64 (i : Int))]) (fun (i : Nat) => []) (fun (i : Nat) => i ≤ x.q ∧ chkL (chdNo txtNo nameOk) ((x.kids.drop i).map SC.says) = chkL (chdNo txtNo nameOk) (x.kids.map SC.says)) (fun (i : Nat) => x.q - i) 0 ?_ ?_ ?_ ?_
    · exact ⟨by omega, rfl⟩
    · exact ⟨rfl, trivial⟩
    · exact trivial
    rintro i ⟨hp1, hp2⟩
    refine tx ?_
    refine sr 1 ?_
    refine sgs ?_
    refine T_cond rfl ?_ ?_ <;> intro h152
    · try simp only [nrm] at h152
      obtain ⟨k, hx1, hx2⟩ := hl.at (i := i) (by omega)
      rw [hx2, List.map_cons, chkL] at hp2
      refine kgs ?_
      refine T_block ?_
      refine tx ?_
      refine s1 (y_indexAddr rfl rfl rfl Tryz.underlying34 sz36 (fun hg => hl.isSome (by omega)) (fun _ => by omega)) ?_
      refine s1 (y_loadT rfl rfl hl (fun _ => rfl) (fun _ => hx1) Tryz.underlying36 rfl sz36) ?_
      refine S_alloc 11 11 rfl rfl rfl rfl z36 ?_
      intro b11
      refine S_store 11 rfl rfl rfl rfl rfl rfl sz36 rfl rfl ?_
      refine sgx ?_
      refine s1 (yA 11 rfl Tryz.underlying36 sz36) ?_
      refine s1 (y_call rfl rfl rfl cf101 (fun _ w1 hM => ih k (mem_at hx1) w1 ((hk k (mem_at hx1)).lift hM.below))) ?_
      refine sr 1 ?_
      refine sgx ?_
      refine sr 2 ?_
      refine sgo ?_
      refine T_cond rfl ?_ ?_ <;> intro h158
      · skip
        have hn1 : chX k ≠ 0 := by simpa using h158
        rw [if_pos hn1] at hp2
        have e1 : chX x = chX k := by rw [hch, ← hp2]
        refine tx ?_
        refine sr 2 ?_
        refine sgo ?_
        refine tr1 hRb fun w hM => ?_
        first | exact ⟨by rw [e1], hM.below⟩ | exact ⟨by rw [hch, ← hp2, hl.end (by omega)]; rfl, hM.below⟩
      have hn1 : chX k = 0 := by simpa using h158
      rw [if_neg (by rw [show chkP (chdNo txtNo nameOk) k.says = chX k from rfl, hn1]; simp)] at hp2
      refine kgr ?_
      refine s1 (y_bin rfl rfl rfl (fun hg => b_add (by omega))) ?_
      refine sr 1 ?_
      refine S_nil (nK1 (kf := [(2, 2), (11, 12), (151, 160)]) (kl := [(2, 2), (11, 12), (151, 160)]) (i + 1) ?_ ?_ ?_ ?_)
      · omega
      · exact ⟨by omega, hp2⟩
      · exact ⟨rfl, trivial⟩
      · exact trivial
    try simp only [nrm] at h152
    refine egx ?_
    refine sr 1 ?_
    refine sgo ?_
    refine tr1 hRb fun w hM => ?_
    first | exact ⟨by rw [e1], hM.below⟩ | exact ⟨by rw [hch, ← hp2, hl.end (by omega)]; rfl, hM.below⟩
  rw [if_neg (by rw [h141]; simp)] at hre
  have hch := chX_kids hre
  refine kgs ?_
  refine tx ?_
  refine s1 (yF fa36_1) ?_
  refine s1 (yL 1 Tryz.underlying34) ?_
  refine s1 (y_len_slice rfl rfl Tryz.underlying34) ?_
  refine sr 1 ?_
  refine sgo ?_
  refine T_block ?_
  refine lK1 (kf := [(2, 2), (11, 12), (151, 160)]) (kl := [(2, 2), (11, 12), (151, 160)]) (fun (i : Nat) => [(151, true, .int .i64 (i : Int))]) (fun (i : Nat) => []) (fun (i : Nat) => i ≤ x.q ∧ chkL (chdNo txtNo nameOk) ((x.kids.drop i).map SC.says) = chkL (chdNo txtNo nameOk) (x.kids.map SC.says)) (fun (i : Nat) => x.q - i) 0 ?_ ?_ ?_ ?_
  · exact ⟨by omega, rfl⟩
  · exact ⟨rfl, trivial⟩
  · exact trivial
  rintro i ⟨hp1, hp2⟩
  refine tx ?_
  refine sr 1 ?_
  refine sgs ?_
  refine T_cond rfl ?_ ?_ <;> intro h152
  · try simp only [nrm] at h152
    obtain ⟨k, hx1, hx2⟩ := hl.at (i := i) (by omega)
    rw [hx2, List.map_cons, chkL] at hp2
    refine kgs ?_
    refine T_block ?_
    refine tx ?_
    refine s1 (y_indexAddr rfl rfl rfl Tryz.underlying34 sz36 (fun hg => hl.isSome (by omega)) (fun _ => by omega)) ?_
    refine s1 (y_loadT rfl rfl hl (fun _ => rfl) (fun _ => hx1) Tryz.underlying36 rfl sz36) ?_
    refine S_alloc 11 11 rfl rfl rfl rfl z36 ?_
    intro b11
    refine S_store 11 rfl rfl rfl rfl rfl rfl sz36 rfl rfl ?_
    refine sgx ?_
    refine s1 (yA 11 rfl Tryz.underlying36 sz36) ?_
    refine s1 (y_call rfl rfl rfl cf101 (fun _ w1 hM => ih k (mem_at hx1) w1 ((hk k (mem_at hx1)).lift hM.below))) ?_
    refine sr 1 ?_
    refine sgx ?_
    refine sr 2 ?_
    refine sgo ?_
    refine T_cond rfl ?_ ?_ <;> intro h158
    · skip
      have hn1 : chX k ≠ 0 := by simpa using h158
      rw [if_pos hn1] at hp2
      have e1 : chX x = chX k := by rw [hch, ← hp2]
      refine tx ?_
      refine sr 2 ?_
      refine sgo ?_
      refine tr1 hRb fun w hM => ?_
      first | exact ⟨by rw [e1], hM.below⟩ | exact ⟨by rw [hch, ← hp2, hl.end (by omega)]; rfl, hM.below⟩
    have hn1 : chX k = 0 := by simpa using h158
    rw [if_neg (by rw [show chkP (chdNo txtNo nameOk) k.says = chX k from rfl, hn1]; simp)] at hp2
    refine kgr ?_
    refine s1 (y_bin rfl rfl rfl (fun hg => b_add (by omega))) ?_
    refine sr 1 ?_
    refine S_nil (nK1 (kf := [(2, 2), (11, 12), (151, 160)]) (kl := [(2, 2), (11, 12), (151, 160)]) (i + 1) ?_ ?_ ?_ ?_)
    · omega
    · exact ⟨by omega, hp2⟩
    · exact ⟨rfl, trivial⟩
    · exact trivial
  try simp only [nrm] at h152
  refine egx ?_
  refine sr 1 ?_
  refine sgo ?_
  refine tr1 hRb fun w hM => ?_
  first | exact ⟨by rw [e1], hM.below⟩ | exact ⟨by rw [hch, ← hp2, hl.end (by omega)]; rfl, hM.below⟩
theorem condFault_any (x : SC) : OneAtR x := SC.ind (Q := OneAtR) rone_step x
theorem sizeP_gt (c : PC) : (100 : Int) < sizeP c 100 ↔ 100 < cntP c := by
  rw [sizeP_eq c 100 (by decide)]; omega
theorem CondFault_any (x : SC) (w : World) (hok : x.Ok w) (hc : cntP x.says ≤ 1000000000000) :
    Calls Tryz.prog 61 #[x.val] w fun e w' => e = .returned (.int .i64 (condNo x)) ∧ Below w.heap.size w w' := by
  have hsz := sizeP_gt x.says
  refine enter_args (args := [.agg #[.int .i64 x.op, .slice x.ad x.q x.c, .int .i64 x.lo, .int .i64 x.hi, str x.nm, str x.tx]]) (F := _) Tryz.func61 rfl Tryz.ntmps61 rfl rfl ?_
  intro Rb hRb hRn
  refine tx ?_
  refine S_box 1 1 rfl rfl rfl rfl rfl ?_
  intro b1
  refine sr 1 ?_
  refine sgs ?_
  refine tx ?_
  refine s1 (yA 1 rfl Tryz.underlying36 sz36) ?_
  refine s1 (y_call rfl rfl rfl cf99 (fun _ w1 hM => deeper_any 20 (by decide) x w1 (hok.lift hM.below))) ?_
  refine sgo ?_
  refine T_cond rfl ?_ ?_ <;> intro h4
  · skip
    refine tx ?_
    refine sr 1 ?_
    refine sgo ?_
    refine tr1 hRb fun w hM => ?_
    exact ⟨by rw [condNo, if_pos h4], hM.below⟩
  refine kgs ?_
  refine tx ?_
  refine s1 (yA 1 rfl Tryz.underlying36 sz36) ?_
  refine s1 (y_call rfl rfl rfl cf100 (fun _ w1 hM => count_any x w1 (hok.lift hM.below) hc)) ?_
  refine sr 1 ?_
  refine sgo ?_
  refine T_cond rfl ?_ ?_ <;> intro h7
  · skip
    have h7 : 100 < cntP x.says := by
      have : (100 : Int) < ((cntP x.says : Nat) : Int) := by simpa using h7
      omega
    refine tx ?_
    refine sr 1 ?_
    refine sgo ?_
    refine tr1 hRb fun w hM => ?_
    exact ⟨by rw [condNo, if_neg (by rw [h4]; simp), if_pos (hsz.2 h7)], hM.below⟩
  have h7 : ¬ 100 < cntP x.says := by
    have : ¬ (100 : Int) < ((cntP x.says : Nat) : Int) := by simpa using h7
    omega
  refine kgx ?_
  refine s1 (yA 1 rfl Tryz.underlying36 sz36) ?_
  refine s1 (y_call rfl rfl rfl cf101 (fun _ w1 hM => condFault_any x w1 (hok.lift hM.below))) ?_
  refine sr 1 ?_
  refine sgo ?_
  refine tr1 hRb fun w hM => ?_
  exact ⟨by rw [condNo, if_neg (by rw [h4]; simp), if_neg (fun h => h7 (hsz.1 h))], hM.below⟩
end Go.Proofs.YtekbcbjimajnfaaGreatDoor
end
section
namespace Go.Proofs.YtekbcbjimajnfaaGreatDoor
set_option linter.unusedSimpArgs false
set_option linter.unusedVariables false
set_option maxRecDepth 20000
open Go.RowKit Go.Eng
theorem in_twoR (n lo hi : Int) : (decide (lo ≤ n) && decide (n ≤ hi)) = inB n lo hi := by
  rw [inB, Bool.eq_iff_iff]; simp only [Bool.and_eq_true, decide_eq_true_eq, Bool.not_eq_true', Bool.or_eq_false_iff, decide_eq_false_iff_not]; omega
theorem rwithin_any (x : SC) (b : Nat) (n : Int) (w : World) (h : CellsAt w b x.enc) :
    Calls Tryz.prog 173 #[.int .i64 n, ptF b] w fun e w' => e = .returned (.bool (inB n x.lo x.hi)) ∧ Below w.heap.size w w' := by
  refine enter_args (args := [.int .i64 n, ptF b]) (F := _) Tryz.func173 rfl Tryz.ntmps173 rfl rfl ?_
  intro Rb hRb hRn
  refine tx ?_
  refine sr 1 ?_
  refine sgx ?_
  refine sr 1 ?_
  refine s1 (yF fa36_2) ?_
  refine s1 (y_load_far rfl rfl (h.one (j := 2) rfl).1 (h.one (j := 2) (cs := x.enc) rfl).2 Tryz.underlying3 rfl) ?_
  refine sr 2 ?_
  refine sg rfl (y_move rfl rfl) ?_
  refine sg rfl (yF fa36_3) ?_
  refine sg rfl (y_load_far rfl rfl (h.one (j := 3) rfl).1 (h.one (j := 3) (cs := x.enc) rfl).2 Tryz.underlying3 rfl) ?_
  refine sg rfl (y_bin rfl rfl rfl (fun _ => b_leq)) ?_
  refine s1 (y_and rfl rfl rfl) ?_
  refine sr 1 ?_
  refine sgo ?_
  refine tr1 hRb fun w hM => ?_
  exact ⟨by rw [← in_twoR], hM.below⟩
theorem rfault_any (f : Fn) (p : Flt → Bool) (b : Nat) (e : Evt) (w : World) (he : EvR w e) (h : CellsAt w b e.enc) (hv : AskF Flt.val FltR f p w) :
    Calls Tryz.prog 174 #[.func (.func f.g) #[] f.cap, ptF b] w fun en w' => en = .returned (.bool (e.fa.l.any p)) ∧ Below w.heap.size w w' := by
  refine enter_args (args := [.func (.func f.g) #[] f.cap, ptF b]) (F := _) Tryz.func174 rfl Tryz.ntmps174 rfl rfl ?_
  intro Rb hRb hRn
  refine tx ?_
  refine sr 1 ?_
  refine sgx ?_
  refine s1 (yF fa31_3) ?_
  refine s1 (y_load_far rfl rfl (h.one (j := 3) rfl).1 (h.one (j := 3) (cs := e.enc) rfl).2 Tryz.underlying27 rfl) ?_
  refine sr 1 ?_
  refine s1 (y_call rfl rfl rfl cf145 (fun _ w hM => ContFF_ask (he.1.fa.below hM.below) he.2.fa (hv.below hM.below))) ?_
  refine sr 1 ?_
  refine sgo ?_
  refine tr1 hRb fun w hM => ?_
  exact ⟨rfl, hM.below⟩
theorem rframe_any (v : Fn) (p : Frm → Bool) (b : Nat) (f : Flt) (w : World) (hf : FltOk w f) (hs : FltS f) (h : Cell1 w b v.v) (hv : AskF Frm.val FrmR v p w) :
    Calls Tryz.prog 176 #[f.val, ptF b] w fun en w' => en = .returned (.bool (f.fr.l.any p)) ∧ Below w.heap.size w w' := by
  refine enter_args (args := [.agg #[str f.k, str f.t, .slice f.fr.A f.fr.q f.fr.c], ptF b]) (F := _) Tryz.func176 rfl Tryz.ntmps176 rfl rfl ?_
  intro Rb hRb hRn
  refine tx ?_
  refine S_box 2 2 rfl rfl rfl rfl rfl ?_
  intro b2
  refine sr 1 ?_
  refine sgx ?_
  refine s1 (yF fa100_2) ?_
  refine s1 (yL 2 Tryz.underlying98) ?_
  refine s1 (y_load_far rfl rfl h.1 h.2 Tryz.underlying181 rfl) ?_
  refine s1 (y_call rfl rfl rfl cf148 (fun _ w hM => ContFR_ask (hf.fr.below hM.below) hs.fr (hv.below hM.below))) ?_
  refine sr 1 ?_
  refine sgo ?_
  refine tr1 hRb fun w hM => ?_
  exact ⟨rfl, hM.below⟩
theorem askFrameR {v : Fn} {p : Frm → Bool} {b : Nat} {w : World} (h : Cell1 w b v.v) (hv : AskF Frm.val FrmR v p w) : AskF Flt.val FltR ⟨176, #[ptF b]⟩ (fun f => f.fr.l.any p) w :=
  ⟨cf176, fun w' hb f hf => rframe_any v p b f w' hf.1 hf.2 (cellK h hb) (hv.below hb)⟩
theorem ranyF_any (f : Fn) (p : Frm → Bool) (b6 b : Nat) (e : Evt) (w : World) (he : EvR w e) (h6 : Cell1 w b6 (.func (.func 174) #[] #[ptF b])) (h : CellsAt w b e.enc) (hv : AskF Frm.val FrmR f p w) :
    Calls Tryz.prog 175 #[.func (.func f.g) #[] f.cap, ptF b6] w fun en w' => en = .returned (.bool (e.fa.l.any fun y => y.fr.l.any p)) ∧ Below w.heap.size w w' := by
  refine enter_args (args := [.func (.func f.g) #[] f.cap, ptF b6]) (F := _) Tryz.func175 rfl Tryz.ntmps175 rfl rfl ?_
  intro Rb hRb hRn
  refine tx ?_
  refine S_box 2 2 rfl rfl rfl rfl rfl ?_
  intro b2
  refine sr 1 ?_
  refine sgx ?_
  refine s1 (y_load_far rfl rfl h6.1 h6.2 Tryz.underlying193 rfl) ?_
  refine s1 (y_makeFunc rfl rfl rfl rfl rfl) ?_
  refine s1 (y_call rfl rfl rfl cf174 (fun _ w hM => rfault_any ⟨176, #[ptF b2]⟩ (fun y => y.fr.l.any p) b e w (he.below hM.below) (cells_to h hM.below) (askFrameR (hM.box_cell (i := 2) rfl rfl) (hv.below hM.below)))) ?_
  refine sr 1 ?_
  refine sgo ?_
  refine tr1 hRb fun w hM => ?_
  exact ⟨rfl, hM.below⟩
theorem rkind_any (x : SC) (b : Nat) (f : Flt) (w : World) (hs : FltS f) (ht : x.tx.length ≤ 200) (h : CellsAt w b x.enc) :
    Calls Tryz.prog 180 #[f.val, ptF b] w fun en w' => en = .returned (.bool (gm eqL x.tx f.k)) ∧ Below w.heap.size w w' := by
  have hl := hs.k
  refine enter_args (args := [.agg #[str f.k, str f.t, .slice f.fr.A f.fr.q f.fr.c], ptF b]) (F := _) Tryz.func180 rfl Tryz.ntmps180 rfl rfl ?_
  intro Rb hRb hRn
  refine tx ?_
  refine S_box 2 2 rfl rfl rfl rfl rfl ?_
  intro b2
  refine sr 1 ?_
  refine sgx ?_
  refine s1 (yF fa36_5) ?_
  refine s1 (y_load_far rfl rfl (h.one (j := 5) rfl).1 (h.one (j := 5) (cs := x.enc) rfl).2 Tryz.underlying9 rfl) ?_
  refine s1 (yF fa100_0) ?_
  refine s1 (yL 2 Tryz.underlying9) ?_
  refine s1 (y_call rfl rfl rfl cf179 (fun _ w _ => FitsText_any _ _ (by omega) (by omega) w)) ?_
  refine sr 1 ?_
  refine sgo ?_
  refine tr1 hRb fun w hM => ?_
  exact ⟨rfl, hM.below⟩
theorem raskKind {x : SC} {b : Nat} {w : World} (ht : x.tx.length ≤ 200) (h : CellsAt w b x.enc) : AskF Flt.val FltR ⟨180, #[ptF b]⟩ (fun f => gm eqL x.tx f.k) w :=
  ⟨cf180, fun w' hb f hf => rkind_any x b f w' hf.2 ht (cells_to h hb)⟩
theorem rsays_any (x : SC) (b : Nat) (f : Flt) (w : World) (hs : FltS f) (hm : MLen w) (ht : x.tx.length ≤ 200) (h : CellsAt w b x.enc) :
    Calls Tryz.prog 181 #[f.val, ptF b] w fun en w' => en = .returned (.bool (Lib.contains (f.t.map lowB) (x.tx.map lowB))) ∧ Below w.heap.size w w' := by
  have hl := hs.t
  refine enter_args (args := [.agg #[str f.k, str f.t, .slice f.fr.A f.fr.q f.fr.c], ptF b]) (F := _) Tryz.func181 rfl Tryz.ntmps181 rfl rfl ?_
  intro Rb hRb hRn
  refine tx ?_
  refine S_box 2 2 rfl rfl rfl rfl rfl ?_
  intro b2
  refine sr 1 ?_
  refine sgs ?_
  refine T_draws (by kernel_rfl) (by kernel_rfl) ?_
  refine d1 (yF fa100_1) ?_
  refine d1 (yL 2 Tryz.underlying9) ?_
  refine d1 (y_call rfl rfl rfl cf182 (fun _ w _ => rlower_any _ (by omega) w)) ?_
  refine d1 (yF fa36_5) ?_
  refine d1 (y_load_far rfl rfl (h.one (j := 5) rfl).1 (h.one (j := 5) (cs := x.enc) rfl).2 Tryz.underlying9 rfl) ?_
  refine d1 (y_call rfl rfl rfl cf182 (fun _ w _ => rlower_any _ (by omega) w)) ?_
  refine d1 (y_call rfl rfl rfl cf166 (fun _ w hM => Contains2_any _ _ (by rw [List.length_map]; omega) w (hm.below hM.below))) ?_
  refine d1 (y_assign rfl rfl) ?_
  refine dgo ?_
  refine tr1 hRb fun w hM => ?_
  exact ⟨rfl, hM.below⟩
theorem raskSays {x : SC} {b : Nat} {w : World} (hm : MLen w) (ht : x.tx.length ≤ 200) (h : CellsAt w b x.enc) : AskF Flt.val FltR ⟨181, #[ptF b]⟩ (fun f => Lib.contains (f.t.map lowB) (x.tx.map lowB)) w :=
  ⟨cf181, fun w' hb f hf => rsays_any x b f w' hf.2 (hm.below hb) ht (cells_to h hb)⟩
theorem rFunc_any (x : SC) (b : Nat) (y : Frm) (w : World) (hs : y.f.length ≤ 2000 ∧ y.fi.length ≤ 2000) (ht : x.tx.length ≤ 200) (h : CellsAt w b x.enc) :
    Calls Tryz.prog 183 #[y.val, ptF b] w fun en w' => en = .returned (.bool (gm eqL x.tx y.f)) ∧ Below w.heap.size w w' := by
  refine enter_args (args := [.agg #[str y.m, str y.f, str y.fi, .int .i64 y.ln, .int .i64 y.ad, .bool y.own], ptF b]) (F := _) Tryz.func183 rfl Tryz.ntmps183 rfl rfl ?_
  intro Rb hRb hRn
  refine tx ?_
  refine S_box 2 2 rfl rfl rfl rfl rfl ?_
  intro b2
  refine sr 1 ?_
  refine sgx ?_
  refine s1 (yF fa36_5) ?_
  refine s1 (y_load_far rfl rfl (h.one (j := 5) rfl).1 (h.one (j := 5) (cs := x.enc) rfl).2 Tryz.underlying9 rfl) ?_
  refine s1 (yF fa105_1) ?_
  refine s1 (yL 2 Tryz.underlying9) ?_
  refine s1 (y_call rfl rfl rfl cf179 (fun _ w _ => FitsText_any _ _ (by omega) (by omega) w)) ?_
  refine sr 1 ?_
  refine sgo ?_
  refine tr1 hRb fun w hM => ?_
  exact ⟨rfl, hM.below⟩
theorem raskFunc {x : SC} {b : Nat} {w : World} (ht : x.tx.length ≤ 200) (h : CellsAt w b x.enc) : AskF Frm.val FrmR ⟨183, #[ptF b]⟩ (fun y => gm eqL x.tx y.f) w :=
  ⟨cf183, fun w' hb y hy => rFunc_any x b y w' hy ht (cells_to h hb)⟩
theorem rFile_any (x : SC) (b : Nat) (y : Frm) (w : World) (hs : y.f.length ≤ 2000 ∧ y.fi.length ≤ 2000) (ht : x.tx.length ≤ 200) (h : CellsAt w b x.enc) :
    Calls Tryz.prog 184 #[y.val, ptF b] w fun en w' => en = .returned (.bool (gm eqL x.tx y.fi)) ∧ Below w.heap.size w w' := by
  refine enter_args (args := [.agg #[str y.m, str y.f, str y.fi, .int .i64 y.ln, .int .i64 y.ad, .bool y.own], ptF b]) (F := _) Tryz.func184 rfl Tryz.ntmps184 rfl rfl ?_
  intro Rb hRb hRn
  refine tx ?_
  refine S_box 2 2 rfl rfl rfl rfl rfl ?_
  intro b2
  refine sr 1 ?_
  refine sgx ?_
  refine s1 (yF fa36_5) ?_
  refine s1 (y_load_far rfl rfl (h.one (j := 5) rfl).1 (h.one (j := 5) (cs := x.enc) rfl).2 Tryz.underlying9 rfl) ?_
  refine s1 (yF fa105_2) ?_
  refine s1 (yL 2 Tryz.underlying9) ?_
  refine s1 (y_call rfl rfl rfl cf179 (fun _ w _ => FitsText_any _ _ (by omega) (by omega) w)) ?_
  refine sr 1 ?_
  refine sgo ?_
  refine tr1 hRb fun w hM => ?_
  exact ⟨rfl, hM.below⟩
theorem raskFile {x : SC} {b : Nat} {w : World} (ht : x.tx.length ≤ 200) (h : CellsAt w b x.enc) : AskF Frm.val FrmR ⟨184, #[ptF b]⟩ (fun y => gm eqL x.tx y.fi) w :=
  ⟨cf184, fun w' hb y hy => rFile_any x b y w' hy ht (cells_to h hb)⟩
def CHAt (x : SC) : Prop := ∀ (e : Evt) (w : World), x.Ok w → chX x = 0 → EvR w e → MLen w → Calls Tryz.prog 102 #[x.val, e.val] w fun en w' => en = .returned (.bool (hoX e x)) ∧ Below w.heap.size w w'
theorem rno_any (e : Evt) (k : SC) (b : Nat) (w : World) (ih : CHAt k) (hk : k.Ok w) (h0 : chX k = 0) (he : EvR w e) (hm : MLen w) (h : CellsAt w b e.enc) :
    Calls Tryz.prog 177 #[k.val, ptF b] w fun en w' => en = .returned (.bool (!hoX e k)) ∧ Below w.heap.size w w' := by
  refine enter_args (args := [.agg #[.int .i64 k.op, .slice k.ad k.q k.c, .int .i64 k.lo, .int .i64 k.hi, str k.nm, str k.tx], ptF b]) (F := _) Tryz.func177 rfl Tryz.ntmps177 rfl rfl ?_
  intro Rb hRb hRn
  refine tx ?_
  refine S_box 2 2 rfl rfl rfl rfl rfl ?_
  intro b2
  refine sr 1 ?_
  refine sgx ?_
  refine s1 (yA 2 rfl Tryz.underlying36 sz36) ?_
  refine s1 (y_loadA_far rfl rfl h.1 h.2 Tryz.underlying31 rfl sz31) ?_
  refine s1 (y_call rfl rfl rfl cf102 (fun _ w1 hM => ih e w1 (hk.lift hM.below) h0 (he.below hM.below) (hm.below hM.below))) ?_
  refine sr 2 ?_
  refine sgo ?_
  refine tr1 hRb fun w hM => ?_
  exact ⟨rfl, hM.below⟩
theorem ris_any (e : Evt) (k : SC) (b : Nat) (w : World) (ih : CHAt k) (hk : k.Ok w) (h0 : chX k = 0) (he : EvR w e) (hm : MLen w) (h : CellsAt w b e.enc) :
    Calls Tryz.prog 178 #[k.val, ptF b] w fun en w' => en = .returned (.bool (hoX e k)) ∧ Below w.heap.size w w' := by
  refine enter_args (args := [.agg #[.int .i64 k.op, .slice k.ad k.q k.c, .int .i64 k.lo, .int .i64 k.hi, str k.nm, str k.tx], ptF b]) (F := _) Tryz.func178 rfl Tryz.ntmps178 rfl rfl ?_
  intro Rb hRb hRn
  refine tx ?_
  refine S_box 2 2 rfl rfl rfl rfl rfl ?_
  intro b2
  refine sr 1 ?_
  refine sgx ?_
  refine s1 (yA 2 rfl Tryz.underlying36 sz36) ?_
  refine s1 (y_loadA_far rfl rfl h.1 h.2 Tryz.underlying31 rfl sz31) ?_
  refine s1 (y_call rfl rfl rfl cf102 (fun _ w1 hM => ih e w1 (hk.lift hM.below) h0 (he.below hM.below) (hm.below hM.below))) ?_
  refine sr 1 ?_
  refine sgo ?_
  refine tr1 hRb fun w hM => ?_
  exact ⟨rfl, hM.below⟩
theorem z193 : ∀ w, (zeroValue 193).run Tryz.prog w = .ok .nilFunc w := fun _ => by kernel_rfl
set_option maxHeartbeats 3200000 in
theorem ch_step (x : SC) (ih : ∀ k ∈ x.kids, CHAt k) : CHAt x := fun e w hok h0 he hm => by
  obtain ⟨hs, hq, hb80, hn, htl, hk⟩ := hok.parts
  have hl : SlT SC.enc 6 w x.ad x.q x.kids := hs.t
  have htx := ch_text h0
  obtain ⟨ar1, ar2, ar3, ar4⟩ := ch_ar h0
  have her := he.2.rel
  have heu := he.2.us
  have hta := tagV_small (n := x.nm) he.2.ta
  have he1 := he.1
  refine enter_args (args := [.agg #[.int .i64 x.op, .slice x.ad x.q x.c, .int .i64 x.lo, .int .i64 x.hi, str x.nm, str x.tx], .agg #[str e.id, .int .i64 e.at_, .int .i64 e.lv, .slice e.fa.A e.fa.q e.fa.c, .slice e.ta.A e.ta.q e.ta.c, .slice e.cr.A e.cr.q e.cr.c, str e.rel, str e.us, .int .i64 e.wt]]) (F := _) Tryz.func102 rfl Tryz.ntmps102 rfl rfl ?_
  intro Rb hRb hRn
  refine tx ?_
  refine S_box 2 2 rfl rfl rfl rfl rfl ?_
  intro b2
  refine S_box 3 3 rfl rfl rfl rfl rfl ?_
  intro b3
  refine sr 1 ?_
  refine sgx ?_
  refine s1 (y_makeFunc rfl rfl rfl rfl rfl) ?_
  refine sr 1 ?_
  refine sgx ?_
  refine s1 (y_makeFunc rfl rfl rfl rfl rfl) ?_
  refine S_alloc 6 6 rfl rfl rfl rfl z193 ?_
  intro b6
  refine S_store 6 rfl rfl rfl rfl rfl rfl sz193 rfl rfl ?_
  refine sgx ?_
  refine s1 (y_makeFunc rfl rfl rfl rfl rfl) ?_
  refine sr 1 ?_
  refine sgs ?_
  refine tx ?_
  refine s1 (yF fa36_0) ?_
  refine s1 (yL 2 Tryz.underlying3) ?_
  refine sgo ?_
  refine T_block ?_
  refine tx ?_
  refine sr 2 ?_
  refine sgo ?_
  refine T_cond rfl ?_ ?_ <;> intro h15
  · skip
    have hop : x.op = 1 := by simpa using h15
    refine tx ?_
    refine s1 (yF fa36_1) ?_
    refine s1 (yL 2 Tryz.underlying34) ?_
    refine s1 (y_makeFunc rfl rfl rfl rfl rfl) ?_
    refine s1 (y_call rfl rfl rfl cf136 (fun _ w1 hM => ContFC_any x.ad x.q x.c x.kids 177 _ (fun k => !hoX e k) w1 (hs.t.below hM.below) hq cf177 (fun k hkm w2 hb2 => rno_any e k b3 w2 (ih k hkm) ((hk k hkm).lift (hM.below.trans (hb2.mono hM.below.size))) (ch_kids h0 hkm) (he.below (hM.below.trans (hb2.mono hM.below.size))) (hm.below (hM.below.trans (hb2.mono hM.below.size))) (cells_below (hM.box_cells 3 rfl) hb2)))) ?_
    refine sr 2 ?_
    refine sgo ?_
    refine tr1 hRb fun w hM => ?_
    exact ⟨by rw [ho1 hop, List.not_any_eq_all_not]; simp, hM.below⟩
  have n1 : ¬ x.op = 1 := by simpa using h15
  refine tx ?_
  refine sr 2 ?_
  refine sgo ?_
  refine T_cond rfl ?_ ?_ <;> intro h22
  · skip
    have hop : x.op = 2 := by simpa using h22
    refine tx ?_
    refine s1 (yF fa36_1) ?_
    refine s1 (yL 2 Tryz.underlying34) ?_
    refine s1 (y_makeFunc rfl rfl rfl rfl rfl) ?_
    refine s1 (y_call rfl rfl rfl cf136 (fun _ w1 hM => ContFC_any x.ad x.q x.c x.kids 178 _ (fun k => hoX e k) w1 (hs.t.below hM.below) hq cf178 (fun k hkm w2 hb2 => ris_any e k b3 w2 (ih k hkm) ((hk k hkm).lift (hM.below.trans (hb2.mono hM.below.size))) (ch_kids h0 hkm) (he.below (hM.below.trans (hb2.mono hM.below.size))) (hm.below (hM.below.trans (hb2.mono hM.below.size))) (cells_below (hM.box_cells 3 rfl) hb2)))) ?_
    refine sr 1 ?_
    refine sgo ?_
    refine tr1 hRb fun w hM => ?_
    exact ⟨by rw [ho2 hop], hM.below⟩
  have n2 : ¬ x.op = 2 := by simpa using h22
  refine tx ?_
  refine sr 2 ?_
  refine sgo ?_
  refine T_cond rfl ?_ ?_ <;> intro h28
  · skip
    have hop : x.op = 3 := by simpa using h28
    obtain ⟨k, hk1⟩ : ∃ k, x.kids = [k] := by
      match h : x.kids, ar4 hop with
      | [k], _ => exact ⟨k, rfl⟩
    have hkm : k ∈ x.kids := by rw [hk1]; exact List.mem_singleton.2 rfl
    have hx1q : x.q = 1 := by have := hs.t.len; rw [hk1] at this; exact this.symm
    refine T_seq ?_
    refine T_draws (by kernel_rfl) (by kernel_rfl) ?_
    refine d1 (yF fa36_1) ?_
    refine d1 (yL 2 Tryz.underlying34) ?_
    refine d1 (y_indexAddrI (j := 0) rfl rfl rfl (fun _ => rfl) Tryz.underlying34 sz36 (fun hg => hl.isSome (by omega)) (fun _ => by omega)) ?_
    refine d1 (y_loadT rfl rfl hl (fun _ => rfl) (fun _ => by rw [hk1]; rfl) Tryz.underlying36 rfl sz36) ?_
    refine d1 (yA 3 rfl Tryz.underlying31 sz31) ?_
    refine d1 (y_call rfl rfl rfl cf102 (fun _ w1 hM => ih k hkm e w1 ((hk k hkm).lift hM.below) (ch_kids h0 hkm) (he.below hM.below) (hm.below hM.below))) ?_
    refine d1 (y_not rfl rfl) ?_
    refine d1 (y_assign rfl rfl) ?_
    refine dgo ?_
    refine tr1 hRb fun w hM => ?_
    exact ⟨by rw [ho3 hop hk1], hM.below⟩
  have n3 : ¬ x.op = 3 := by simpa using h28
  refine tx ?_
  refine sr 2 ?_
  refine sgo ?_
  refine T_cond rfl ?_ ?_ <;> intro h37
  · skip
    have hop : x.op = 4 := by simpa using h37
    refine tx ?_
    refine sr 1 ?_
    refine s1 (yF fa31_2) ?_
    refine s1 (yL 3 Tryz.underlying3) ?_
    refine s1 (y_call rfl rfl rfl cf173 (fun _ w1 hM => rwithin_any x b2 e.lv w1 (hM.box_cells 2 rfl))) ?_
    refine sr 1 ?_
    refine sgo ?_
    refine tr1 hRb fun w hM => ?_
    exact ⟨by rw [ho4 hop], hM.below⟩
  have n4 : ¬ x.op = 4 := by simpa using h37
  refine tx ?_
  refine sr 2 ?_
  refine sgo ?_
  refine T_cond rfl ?_ ?_ <;> intro h43
  · skip
    have hop : x.op = 5 := by simpa using h43
    refine tx ?_
    refine sr 1 ?_
    refine s1 (yF fa31_1) ?_
    refine s1 (yL 3 Tryz.underlying3) ?_
    refine s1 (y_call rfl rfl rfl cf173 (fun _ w1 hM => rwithin_any x b2 e.at_ w1 (hM.box_cells 2 rfl))) ?_
    refine sr 1 ?_
    refine sgo ?_
    refine tr1 hRb fun w hM => ?_
    exact ⟨by rw [ho5 hop], hM.below⟩
  have n5 : ¬ x.op = 5 := by simpa using h43
  refine tx ?_
  refine sr 2 ?_
  refine sgo ?_
  refine T_cond rfl ?_ ?_ <;> intro h49
  · skip
    have hop : x.op = 6 := by simpa using h49
    refine tx ?_
    refine sr 1 ?_
    refine s1 (yF fa31_8) ?_
    refine s1 (yL 3 Tryz.underlying3) ?_
    refine s1 (y_call rfl rfl rfl cf173 (fun _ w1 hM => rwithin_any x b2 e.wt w1 (hM.box_cells 2 rfl))) ?_
    refine sr 1 ?_
    refine sgo ?_
    refine tr1 hRb fun w hM => ?_
    exact ⟨by rw [ho6 hop], hM.below⟩
  have n6 : ¬ x.op = 6 := by simpa using h49
  refine T_seq ?_
  refine tx ?_
  refine sr 2 ?_
  refine sgo ?_
  refine T_cond rfl ?_ ?_ <;> intro h55
  · skip
    have hop7 := h55
    have hop : x.op = 7 ∨ x.op = 8 := .inl (by simpa using h55)
    refine kgo ?_
    refine T_cond rfl ?_ ?_ <;> intro h55
    · skip
      refine tx ?_
      refine s1 (yA 3 rfl Tryz.underlying31 sz31) ?_
      refine s1 (yF fa36_4) ?_
      refine s1 (yL 2 Tryz.underlying9) ?_
      refine s1 (y_call rfl rfl rfl cf111 (fun _ w1 hM => Tagged_any e _ w1 (he1.below hM.below))) ?_
      refine sr 5 ?_
      refine sgx ?_
      refine sr 2 ?_
      refine sg rfl (yF fa36_0) ?_
      refine sg rfl (yL 2 Tryz.underlying3) ?_
      refine sg rfl (y_bin rfl rfl rfl (fun _ => b_eql)) ?_
      refine sg rfl (y_move rfl rfl) ?_
      refine sg rfl (yF fa36_5) ?_
      refine sg rfl (yL 2 Tryz.underlying9) ?_
      refine sg rfl (y_move rfl rfl) ?_
      refine sg rfl (y_call rfl rfl rfl cf179 (fun _ w1 _ => FitsText_any x.tx (tagV x.nm e.ta.l).1 (by omega) (by omega) w1)) ?_
      refine sg rfl (y_or rfl rfl rfl) ?_
      refine s1 (y_and rfl rfl rfl) ?_
      refine sr 1 ?_
      refine sgo ?_
      refine tr1 hRb fun w hM => ?_
      exact ⟨by rw [ho7 hop], hM.below⟩
    exact absurd (hop7.symm.trans h55) (by decide)
  have n7 : ¬ x.op = 7 := by simpa using h55
  refine T_region ?_
  refine sr 2 ?_
  refine sgo ?_
  refine T_cond rfl ?_ ?_ <;> intro h55
  · skip
    have hop : x.op = 7 ∨ x.op = 8 := .inr (by simpa using h55)
    refine tx ?_
    refine s1 (yA 3 rfl Tryz.underlying31 sz31) ?_
    refine s1 (yF fa36_4) ?_
    refine s1 (yL 2 Tryz.underlying9) ?_
    refine s1 (y_call rfl rfl rfl cf111 (fun _ w1 hM => Tagged_any e _ w1 (he1.below hM.below))) ?_
    refine sr 5 ?_
    refine sgx ?_
    refine sr 2 ?_
    refine sg rfl (yF fa36_0) ?_
    refine sg rfl (yL 2 Tryz.underlying3) ?_
    refine sg rfl (y_bin rfl rfl rfl (fun _ => b_eql)) ?_
    refine sg rfl (y_move rfl rfl) ?_
    refine sg rfl (yF fa36_5) ?_
    refine sg rfl (yL 2 Tryz.underlying9) ?_
    refine sg rfl (y_move rfl rfl) ?_
    refine sg rfl (y_call rfl rfl rfl cf179 (fun _ w1 _ => FitsText_any x.tx (tagV x.nm e.ta.l).1 (by omega) (by omega) w1)) ?_
    refine sg rfl (y_or rfl rfl rfl) ?_
    refine s1 (y_and rfl rfl rfl) ?_
    refine sr 1 ?_
    refine sgo ?_
    refine tr1 hRb fun w hM => ?_
    exact ⟨by rw [ho7 hop], hM.below⟩
  have n8 : ¬ x.op = 8 := by simpa using h55
  refine tx ?_
  refine sr 2 ?_
  refine sgo ?_
  refine T_cond rfl ?_ ?_ <;> intro h77
  · skip
    have hop : x.op = 9 := by simpa using h77
    refine tx ?_
    refine s1 (yF fa31_6) ?_
    refine s1 (yL 3 Tryz.underlying9) ?_
    refine s1 (y_bin rfl rfl rfl (fun _ => b_neqs)) ?_
    refine sr 1 ?_
    refine sg rfl (yF fa36_5) ?_
    refine sg rfl (yL 2 Tryz.underlying9) ?_
    refine sg rfl (yF fa31_6) ?_
    refine sg rfl (yL 3 Tryz.underlying9) ?_
    refine sg rfl (y_call rfl rfl rfl cf179 (fun _ w1 _ => FitsText_any x.tx e.rel (by omega) (by omega) w1)) ?_
    refine s1 (y_and rfl rfl rfl) ?_
    refine sr 1 ?_
    refine sgo ?_
    refine tr1 hRb fun w hM => ?_
    exact ⟨by rw [ho9 hop], hM.below⟩
  have n9 : ¬ x.op = 9 := by simpa using h77
  refine tx ?_
  refine sr 2 ?_
  refine sgo ?_
  refine T_cond rfl ?_ ?_ <;> intro h89
  · skip
    have hop : x.op = 10 := by simpa using h89
    refine tx ?_
    refine s1 (yF fa31_7) ?_
    refine s1 (yL 3 Tryz.underlying9) ?_
    refine s1 (y_bin rfl rfl rfl (fun _ => b_neqs)) ?_
    refine sr 1 ?_
    refine sg rfl (yF fa36_5) ?_
    refine sg rfl (yL 2 Tryz.underlying9) ?_
    refine sg rfl (yF fa31_7) ?_
    refine sg rfl (yL 3 Tryz.underlying9) ?_
    refine sg rfl (y_call rfl rfl rfl cf179 (fun _ w1 _ => FitsText_any x.tx e.us (by omega) (by omega) w1)) ?_
    refine s1 (y_and rfl rfl rfl) ?_
    refine sr 1 ?_
    refine sgo ?_
    refine tr1 hRb fun w hM => ?_
    exact ⟨by rw [ho10 hop], hM.below⟩
  have n10 : ¬ x.op = 10 := by simpa using h89
  refine tx ?_
  refine sr 2 ?_
  refine sgo ?_
  refine T_cond rfl ?_ ?_ <;> intro h101
  · skip
    have hop : x.op = 11 := by simpa using h101
    refine tx ?_
    refine s1 (yL 6 Tryz.underlying193) ?_
    refine s1 (y_makeFunc rfl rfl rfl rfl rfl) ?_
    refine s1 (y_call rfl rfl rfl cf174 (fun _ w1 hM => rfault_any ⟨180, #[ptF b2]⟩ (fun f => gm eqL x.tx f.k) b3 e w1 (he.below hM.below) (hM.box_cells 3 rfl) (raskKind htx (hM.box_cells 2 rfl)))) ?_
    refine sr 1 ?_
    refine sgo ?_
    refine tr1 hRb fun w hM => ?_
    exact ⟨by rw [ho11 hop], hM.below⟩
  have n11 : ¬ x.op = 11 := by simpa using h101
  refine tx ?_
  refine sr 2 ?_
  refine sgo ?_
  refine T_cond rfl ?_ ?_ <;> intro h106
  · skip
    have hop : x.op = 12 := by simpa using h106
    refine tx ?_
    refine s1 (yL 6 Tryz.underlying193) ?_
    refine s1 (y_makeFunc rfl rfl rfl rfl rfl) ?_
    refine s1 (y_call rfl rfl rfl cf174 (fun _ w1 hM => rfault_any ⟨181, #[ptF b2]⟩ (fun f => Lib.contains (f.t.map lowB) (x.tx.map lowB)) b3 e w1 (he.below hM.below) (hM.box_cells 3 rfl) (raskSays (hm.below hM.below) htx (hM.box_cells 2 rfl)))) ?_
    refine sr 1 ?_
    refine sgo ?_
    refine tr1 hRb fun w hM => ?_
    exact ⟨by rw [ho12 hop], hM.below⟩
  have n12 : ¬ x.op = 12 := by simpa using h106
  refine tx ?_
  refine sr 2 ?_
  refine sgo ?_
  refine T_cond rfl ?_ ?_ <;> intro h111
  · skip
    have hop : x.op = 13 := by simpa using h111
    refine tx ?_
    refine sr 1 ?_
    refine s1 (y_makeFunc rfl rfl rfl rfl rfl) ?_
    refine s1 (y_call rfl rfl rfl cf175 (fun _ w1 hM => ranyF_any ⟨183, #[ptF b2]⟩ (fun y => gm eqL x.tx y.f) b6 b3 e w1 (he.below hM.below) (hM.box_cell (i := 6) rfl rfl) (hM.box_cells 3 rfl) (raskFunc htx (hM.box_cells 2 rfl)))) ?_
    refine sr 1 ?_
    refine sgo ?_
    refine tr1 hRb fun w hM => ?_
    exact ⟨by rw [ho13 hop], hM.below⟩
  have n13 : ¬ x.op = 13 := by simpa using h111
  have hop : x.op = 14 := by omega
  refine kgx ?_
  refine sr 1 ?_
  refine s1 (y_makeFunc rfl rfl rfl rfl rfl) ?_
  refine s1 (y_call rfl rfl rfl cf175 (fun _ w1 hM => ranyF_any ⟨184, #[ptF b2]⟩ (fun y => gm eqL x.tx y.fi) b6 b3 e w1 (he.below hM.below) (hM.box_cell (i := 6) rfl rfl) (hM.box_cells 3 rfl) (raskFile htx (hM.box_cells 2 rfl)))) ?_
  refine sr 1 ?_
  refine sgo ?_
  refine tr1 hRb fun w hM => ?_
  exact ⟨by rw [ho14 hop], hM.below⟩
theorem CondHolds_any (x : SC) : CHAt x := SC.ind (Q := CHAt) ch_step x
end Go.Proofs.YtekbcbjimajnfaaGreatDoor
end
section
namespace Go.Proofs.YtekbcbjimajnfaaGreatDoor
set_option linter.unusedSimpArgs false
set_option linter.unusedVariables false
set_option maxRecDepth 20000
open Go.RowKit Go.Eng
end Go.Proofs.YtekbcbjimajnfaaGreatDoor
end
section
namespace Go.Proofs.YtekbcbjimajnfaaGreatDoor
set_option linter.unusedSimpArgs false
set_option linter.unusedVariables false
set_option maxRecDepth 20000
open Go.RowKit Go.Eng
/-- an event as an entry of the index -/
abbrev ixE (e : Evt) : List UInt8 × Value := (e.id, e.val)
def hasI (m : List Evt) (k : List UInt8) : Bool := m.any fun e => decide (e.id = k)
def putI : List Evt → Evt → List Evt
  | [], e => [e]
  | a :: r, e => if e.id = a.id then e :: r else a :: putI r e
def delI : List Evt → List UInt8 → List Evt
  | [], _ => []
  | a :: r, k => if k = a.id then r else a :: delI r k
def getI : List Evt → List UInt8 → Option Evt
  | [], _ => none
  | a :: r, k => if k = a.id then some a else getI r k
theorem mput_I : ∀ (m : List Evt) (e : Evt), mput (m.map ixE) e.id e.val = (putI m e).map ixE
  | [], e => rfl
  | a :: r, e => by
    rw [List.map_cons, mput, putI]
    split
    · rename_i h
      rw [List.map_cons]
      show (a.id, e.val) :: _ = (e.id, e.val) :: _
      rw [h]
    · rw [List.map_cons, mput_I r e]
theorem mdel_I : ∀ (m : List Evt) (k : List UInt8), mdel (m.map ixE) k = (delI m k).map ixE
  | [], k => rfl
  | a :: r, k => by
    rw [List.map_cons, mdel, delI]
    split
    · rfl
    · rw [List.map_cons, mdel_I r k]
theorem mget_I : ∀ (m : List Evt) (k : List UInt8), mget (m.map ixE) k = (getI m k).map Evt.val
  | [], k => rfl
  | a :: r, k => by
    rw [List.map_cons, mget, getI]
    split
    · rfl
    · exact mget_I r k
theorem getI_has : ∀ (m : List Evt) (k : List UInt8), (getI m k).isSome = hasI m k
  | [], k => rfl
  | a :: r, k => by
    rw [getI, hasI, List.any_cons]
    by_cases h : k = a.id
    · rw [if_pos h, decide_eq_true h.symm]; rfl
    · rw [if_neg h, decide_eq_false (Ne.symm h), Bool.false_or, getI_has r k]; rfl
theorem getI_mem {m : List Evt} {k : List UInt8} {e : Evt} (h : getI m k = some e) : e ∈ m ∧ e.id = k := by
  induction m with
  | nil => cases h
  | cons a r ih =>
    rw [getI] at h
    split at h
    · rename_i hk
      injection h with h
      subst h
      exact ⟨List.mem_cons_self .., hk.symm⟩
    · obtain ⟨h1, h2⟩ := ih h
      exact ⟨List.mem_cons_of_mem _ h1, h2⟩
theorem putI_mem {m : List Evt} {e x : Evt} (h : x ∈ putI m e) : x = e ∨ x ∈ m := by
  induction m with
  | nil => exact .inl (List.mem_singleton.1 h)
  | cons a r ih =>
    rw [putI] at h
    split at h
    · rcases List.mem_cons.1 h with h | h
      · exact .inl h
      · exact .inr (List.mem_cons_of_mem _ h)
    · rcases List.mem_cons.1 h with h | h
      · exact .inr (by rw [h]; exact List.mem_cons_self ..)
      · exact (ih h).imp id (List.mem_cons_of_mem _)
theorem delI_mem {m : List Evt} {k : List UInt8} {x : Evt} (h : x ∈ delI m k) : x ∈ m := by
  induction m with
  | nil => cases h
  | cons a r ih =>
    rw [delI] at h
    split at h
    · exact List.mem_cons_of_mem _ h
    · rcases List.mem_cons.1 h with h | h
      · rw [h]; exact List.mem_cons_self ..
      · exact List.mem_cons_of_mem _ (ih h)
abbrev idsI (m : List Evt) : List (List UInt8) := m.map (·.id)
theorem putI_ids {m : List Evt} {e : Evt} : idsI (putI m e) = if hasI m e.id = true then idsI m else idsI m ++ [e.id] := by
  induction m with
  | nil => rfl
  | cons a r ih =>
    rw [putI]
    by_cases h : e.id = a.id
    · rw [if_pos h, hasI, List.any_cons, decide_eq_true h.symm, Bool.true_or, if_pos rfl]
      show e.id :: _ = a.id :: _
      rw [h]
    · rw [if_neg h, hasI, List.any_cons, decide_eq_false (Ne.symm h), Bool.false_or]
      show a.id :: idsI (putI r e) = _
      rw [ih]
      show a.id :: (if hasI r e.id = true then _ else _) = if hasI r e.id = true then _ else _
      split <;> rfl
theorem has_ids {m : List Evt} {k : List UInt8} : hasI m k = true ↔ k ∈ idsI m := by
  rw [hasI, List.any_eq_true, List.mem_map]
  constructor
  · rintro ⟨e, he, h⟩; exact ⟨e, he, of_decide_eq_true h⟩
  · rintro ⟨e, he, h⟩; exact ⟨e, he, decide_eq_true h⟩
theorem delI_sub {m : List Evt} {k : List UInt8} : (delI m k).Sublist m := by
  induction m with
  | nil => exact List.Sublist.refl _
  | cons a r ih =>
    rw [delI]
    split
    · exact List.sublist_cons_self ..
    · exact ih.cons_cons _
/-- the index's state is right: the events are, no id comes twice -/
structure IxOk (w0 : World) (rs : List Row) (m : List Evt) : Prop where
  ok : ∀ e ∈ m, evNo e = 0 ∧ Sees w0 rs fun w => e.Ok w
  nd : (idsI m).Nodup
  le : m.length ≤ 2000
theorem IxOk.more {w0 : World} {rs rs' : List Row} {m : List Evt} (h : IxOk w0 rs m) : IxOk w0 (rs ++ rs') m := ⟨fun e he => ⟨(h.ok e he).1, (h.ok e he).2.app⟩, h.nd, h.le⟩
theorem IxOk.del {w0 : World} {rs : List Row} {m : List Evt} (h : IxOk w0 rs m) (k : List UInt8) : IxOk w0 rs (delI m k) :=
  ⟨fun e he => h.ok e (delI_mem he), (delI_sub.map _).nodup h.nd, Nat.le_trans delI_sub.length_le h.le⟩
theorem putI_len {m : List Evt} {e : Evt} : (putI m e).length = if hasI m e.id = true then m.length else m.length + 1 := by
  have := congrArg List.length (putI_ids (m := m) (e := e))
  rw [List.length_map] at this
  rw [this]
  split
  · rw [List.length_map]
  · rw [List.length_append, List.length_map]; rfl
theorem IxOk.put {w0 : World} {rs : List Row} {m : List Evt} {e : Evt} (h : IxOk w0 rs m) (h0 : evNo e = 0) (he : Sees w0 rs fun w => e.Ok w) (hl : hasI m e.id = true ∨ m.length < 2000) : IxOk w0 rs (putI m e) := by
  refine ⟨fun x hx => ?_, ?_, ?_⟩
  · rcases putI_mem hx with rfl | hx
    · exact ⟨h0, he⟩
    · exact h.ok x hx
  · rw [putI_ids]
    split
    · exact h.nd
    · rename_i hn
      rw [List.nodup_append]
      refine ⟨h.nd, by simp, fun a ha b hb => ?_⟩
      rw [List.mem_singleton] at hb
      subst hb
      rintro rfl
      exact hn (has_ids.2 ha)
  · rw [putI_len]
    have := h.le
    split
    · exact this
    · rcases hl with h | h
      · exact absurd h ‹_›
      · omega
end Go.Proofs.YtekbcbjimajnfaaGreatDoor
end
section
namespace Go.Proofs.YtekbcbjimajnfaaGreatDoor
set_option linter.unusedSimpArgs false
set_option linter.unusedVariables false
set_option maxRecDepth 20000
open Go.RowKit Go.Eng
abbrev ixBox (b bm : Nat) : It := .blk b (IsBox [.map (some bm)] 89)
abbrev ixMap (bm : Nat) (m : List Evt) : It := .blk bm (IsMap str (m.map ixE))
def geI (m : List Evt) (k : List UInt8) : Evt := (getI m k).getD evZM
theorem mgetV (m : List Evt) (k : List UInt8) : (mget (m.map ixE) k).getD evZM.val = (geI m k).val := by
  rw [mget_I, geI]
  cases getI m k <;> rfl
theorem mgetB (m : List Evt) (k : List UInt8) : (mget (m.map ixE) k).isSome = hasI m k := by
  rw [mget_I, ← getI_has, Option.isSome_map]
theorem evZM_ok (w : World) : evZM.Ok w := ⟨⟨⟨⟨⟨rfl, fun h => absurd h (by decide)⟩, rfl⟩, Nat.le_refl _⟩, Nat.zero_le _, fun _ h => by cases h⟩, ⟨⟨⟨⟨rfl, fun h => absurd h (by decide)⟩, rfl⟩, Nat.le_refl _⟩, Nat.zero_le _, fun _ h => by cases h⟩, ⟨⟨⟨⟨rfl, fun h => absurd h (by decide)⟩, rfl⟩, Nat.le_refl _⟩, Nat.zero_le _, fun _ h => by cases h⟩, Nat.zero_le _, Nat.zero_le _, Nat.zero_le _⟩
def putNo (m : List Evt) (e : Evt) : Int := if evNo e ≠ 0 then evNo e else if hasI m e.id = false ∧ 2000 ≤ m.length then 12 else 0
structure IxR where
  m : List Evt
  rs : List Row
  no : Int
def PutP (w0 : World) (m : List Evt) (e : Evt) (z : IxR) : Prop := z.no = putNo m e ∧ IxOk w0 z.rs z.m ∧ (z.no ≠ 0 → z.m = m) ∧ (z.no = 0 → ∃ e1, ContE e1 e ∧ z.m = putI m e1)
abbrev ixRows (rs : List Row) (e : Evt) : List Row := (((rs ++ e.fa.l.map frRow) ++ [(⟨100, 3, .slice e.fa.A e.fa.q e.fa.c, e.fa.q, e.fa.l.flatMap Flt.enc⟩ : Row)]) ++ [(⟨92, 2, .slice e.ta.A e.ta.q e.ta.c, e.ta.q, e.ta.l.flatMap STag.enc⟩ : Row)]) ++ [(⟨95, 3, .slice e.cr.A e.cr.q e.cr.c, e.cr.q, e.cr.l.flatMap SCrumb.enc⟩ : Row)]
theorem ixRows_eq (rs : List Row) (e : Evt) : ixRows rs e = rs ++ rsEv e := by simp [ixRows, rsEv]
theorem IxOk.new {w0 : World} {rs : List Row} {m : List Evt} {e : Evt} (h : IxOk w0 rs m) (ho : OkE e) (h0 : evNo e = 0) (hl : hasI m e.id = true ∨ m.length < 2000) : IxOk w0 (ixRows rs e) (putI m e) := by
  rw [ixRows_eq]
  exact (h.more).put h0 (sees_ev ho).app' hl
theorem putNo_0 {m : List Evt} {e : Evt} (h : putNo m e = 0) : evNo e = 0 ∧ (hasI m e.id = true ∨ m.length < 2000) := by
  unfold putNo at h
  split at h
  · exact absurd h ‹_›
  split at h
  · cases h
  · rename_i h1 h2
    refine ⟨by simpa using h1, ?_⟩
    cases hh : hasI m e.id
    · exact .inr (by rw [hh] at h2; simp at h2; omega)
    · exact .inl rfl
set_option maxHeartbeats 1600000 in
theorem Put_any {w0 : World} {K : HL} (hK : FromK K) (b bm : Nat) (m : List Evt) (rs : List Row) (e : Evt) (w : World) (hix : IxOk w0 rs m) (he : e.Ok w0) (hM0 : Mem w0 ([(901, ixBox b bm), (902, ixMap bm m), (950, .many rs)] ++ K) w) :
    Calls Tryz.prog 10 #[.pointer (some ⟨b, 0, none⟩), e.val] w fun en w' => ∃ z : IxR, en = .returned (.int .i64 z.no) ∧ PutP w0 m e z ∧ Mem w0 ([(901, ixBox b bm), (902, ixMap bm z.m), (950, .many z.rs)] ++ K) w' := by
  have hoe := OkE.of he
  refine enterM_args (args := [.pointer (some ⟨b, 0, none⟩), .agg #[str e.id, .int .i64 e.at_, .int .i64 e.lv, .slice e.fa.A e.fa.q e.fa.c, .slice e.ta.A e.ta.q e.ta.c, .slice e.cr.A e.cr.q e.cr.c, str e.rel, str e.us, .int .i64 e.wt]]) (F := _) hM0 Tryz.func10 rfl Tryz.ntmps10 rfl rfl ?_
  intro Rb hRb hRn
  refine tx ?_
  refine S_box 3 3 rfl rfl rfl rfl rfl ?_
  intro b3
  refine sr 1 ?_
  refine sgs ?_
  refine tx ?_
  refine s1 (yA 3 rfl Tryz.underlying31 sz31) ?_
  refine s1 (y_call rfl rfl rfl cf44 (fun _ w hM => Check_any e w (he.below hM.below))) ?_
  refine sr 1 ?_
  refine sgx ?_
  refine sr 2 ?_
  refine sgo ?_
  refine T_cond rfl ?_ ?_ <;> intro h11
  · skip
    have h11 : ¬ evNo e = 0 := by simpa using h11
    refine tx ?_
    refine sr 2 ?_
    refine sgo ?_
    refine tr1 hRb fun w hM => ?_
    exact ⟨⟨m, rs, evNo e⟩, rfl, ⟨by rw [putNo, if_pos h11], hix, fun _ => rfl, fun h => absurd h h11⟩, hM.keep (ks := [(0, 999)]) (by repeat (first | exact kl_rest (by assumption) rfl | (apply kl_in; focus rfl))) _ ⟨rfl, rfl, rfl, trivial⟩⟩
  have h11 : evNo e = 0 := by simpa using h11
  have hle0 : LenE e := LenE.of h11 hoe
  refine kgs ?_
  refine T_seq ?_
  refine T_perm [0, 1, 2, 3, 4, 5, 6, 7, 8, 9, 10, 11, 12] [true, true, true, true, true, true, true, true, true, true, false, false, true] [0, 1, 3, 7, 0, 16, 63, 127, 255, 255, 0, 1535, 4095] [(3, [901]), (5, [3]), (6, [902])] (by kernel_rfl) (by kernel_rfl) (by kernel_rfl) rfl (by kernel_rfl) ?_
  refine Rf_ 0 14 rfl rfl rfl rfl rfl _ trivial (Y.z (y_move rfl rfl) rfl) ?_
  refine Rf_ 1 15 rfl rfl rfl rfl rfl _ trivial (Z.of (z_nilCheck rfl rfl)) ?_
  refine Rf_ 2 16 rfl rfl rfl rfl rfl _ trivial (Y.z (yF fa89_0) rfl) ?_
  refine Rf_ 3 17 rfl rfl rfl rfl rfl _ ⟨rfl, trivial⟩ (Y.z (yL 901 Tryz.underlying87) rfl) ?_
  refine Rf_ 4 18 rfl rfl rfl rfl rfl _ trivial (Y.z (yF fa31_0) rfl) ?_
  refine Rf_ 5 19 rfl rfl rfl rfl rfl _ ⟨rfl, trivial⟩ (Y.z (yL 3 Tryz.underlying9) rfl) ?_
  refine Rf_ 6 20 rfl rfl rfl rfl rfl _ ⟨rfl, trivial⟩ (Y.z (y_as (v' := .tuple #[(geI m e.id).val, .bool (hasI m e.id)]) (by rw [mgetB]; exact congrArg (fun v => Value.tuple #[v, .bool (hasI m e.id)]) (mgetV m e.id)) (y_lookup2 902 (enc := fun l : List UInt8 => str l) rfl rfl rfl rfl Tryz.underlying87 Tryz.underlying9 rfl same_str z31)) rfl) ?_
  refine Rf_ 7 13 rfl rfl rfl rfl rfl _ trivial (Y.z (y_move rfl rfl) rfl) ?_
  refine Rf_ 8 21 rfl rfl rfl rfl rfl _ trivial (Y.z (y_extract rfl rfl rfl) rfl) ?_
  refine Rf_ 9 22 rfl rfl rfl rfl rfl _ trivial (Y.z (y_extract rfl rfl rfl) rfl) ?_
  refine R_chain 10 rfl rfl ?_
  refine S_alloc 6 6 rfl rfl rfl rfl z31 ?_
  intro b6
  refine R_next ⟨.inr ⟨rfl, trivial⟩, .inr ⟨rfl, trivial⟩, .inr ⟨rfl, trivial⟩, trivial⟩ ?_
  refine R_chain 11 rfl rfl ?_
  refine S_store 6 rfl rfl rfl rfl rfl rfl sz31 rfl rfl ?_
  refine R_next ⟨.inl rfl, .inl rfl, .inl rfl, trivial⟩ ?_
  refine Rf_ 12 7 rfl rfl rfl rfl rfl _ trivial (Y.z (y_assign rfl rfl) rfl) ?_
  refine R_go (fun _ _ h => h) ?_
  refine tx ?_
  refine sr 3 ?_
  refine sg rfl (y_move rfl rfl) ?_
  refine sg rfl (y_nilCheck rfl rfl) ?_
  refine sg rfl (yF fa89_0) ?_
  refine sg rfl (yL 901 Tryz.underlying87) ?_
  refine sg rfl (y_len_map 902 rfl rfl rfl Tryz.underlying87) ?_
  refine sg rfl (y_bin rfl rfl rfl (fun _ => b_geq)) ?_
  refine s1 (y_and rfl rfl rfl) ?_
  refine sgo ?_
  refine T_cond rfl ?_ ?_ <;> intro h32
  · skip
    have h32 : hasI m e.id = false ∧ 2000 ≤ m.length := by simp at h32; exact ⟨h32.1, by omega⟩
    refine tx ?_
    refine sr 1 ?_
    refine sgo ?_
    refine tr1 hRb fun w hM => ?_
    exact ⟨⟨m, rs, 12⟩, rfl, ⟨by rw [putNo, if_neg (by simpa using h11), if_pos h32], hix, fun _ => rfl, fun h => absurd h (show (12 : Int) ≠ 0 by decide)⟩, hM.keep (ks := [(0, 999)]) (by repeat (first | exact kl_rest (by assumption) rfl | (apply kl_in; focus rfl))) _ ⟨rfl, rfl, rfl, trivial⟩⟩
  have h32 : ¬ (hasI m e.id = false ∧ 2000 ≤ m.length) := fun hh => by simp at h32; have := h32 hh.1; omega
  refine kgs ?_
  refine T_perm [0, 1, 2, 3, 4, 5, 6, 7, 8] [true, true, true, true, true, true, true, false, false] [0, 1, 3, 7, 0, 16, 0, 64, 255] [(3, [901]), (5, [3]), (6, [3])] (by kernel_rfl) (by kernel_rfl) (by kernel_rfl) rfl (by kernel_rfl) ?_
  refine Rf_ 0 33 rfl rfl rfl rfl rfl _ trivial (Y.z (y_move rfl rfl) rfl) ?_
  refine Rf_ 1 34 rfl rfl rfl rfl rfl _ trivial (Z.of (z_nilCheck rfl rfl)) ?_
  refine Rf_ 2 35 rfl rfl rfl rfl rfl _ trivial (Y.z (yF fa89_0) rfl) ?_
  refine Rf_ 3 36 rfl rfl rfl rfl rfl _ ⟨rfl, trivial⟩ (Y.z (yL 901 Tryz.underlying87) rfl) ?_
  refine Rf_ 4 37 rfl rfl rfl rfl rfl _ trivial (Y.z (yF fa31_0) rfl) ?_
  refine Rf_ 5 38 rfl rfl rfl rfl rfl _ ⟨rfl, trivial⟩ (Y.z (yL 3 Tryz.underlying9) rfl) ?_
  refine Rf_ 6 39 rfl rfl rfl rfl rfl _ ⟨rfl, trivial⟩ (Y.z (yA 3 rfl Tryz.underlying31 sz31) rfl) ?_
  refine R_chain 7 rfl rfl ?_
  refine S_callN 40 [] [(8, 908), (900, 960), (35, 935), (39, 939)] (X := CopyR) rfl rfl rfl rfl rfl rfl rfl cf45 rfl (fun z => .agg #[str e.id, .int .i64 e.at_, .int .i64 e.lv, .slice z.A e.fa.q z.c, .slice z.B e.ta.q z.b, .slice z.D e.cr.q z.d, str e.rel, str e.us, .int .i64 e.wt]) (fun z => z.gs.map Flt.cont = e.fa.l.map Flt.cont ∧ (∀ f ∈ z.gs, f.fr.q = f.fr.l.length) ∧ z.rs = z.gs.map frRow ∧ DisF z.gs) (fun z => z.L e) (fun _ => rfl) (fun _ => rfl) (fun K1 hK1 w hM => CopyD_any hK1 e w he ⟨hle0.fq.1, hle0.tq.1, hle0.cq.1, fun f hf => (hle0.fa f hf).2.1⟩ hM) ?_
  rintro z ⟨hz1, hz2, hz3, hz4⟩
  have hce : ContE (z.evt e) e := ⟨rfl, rfl, rfl, rfl, rfl, rfl, hz1, rfl, rfl, rfl, rfl, rfl⟩
  have hfe : FitE (z.evt e) := hz2
  have hoz : OkE (z.evt e) := hoe.cont hce hfe
  have hev1 : evNo (z.evt e) = 0 := (evNo_same hce hfe hoe.fit).trans h11
  refine R_next ⟨.inr ⟨rfl, trivial⟩, .inr ⟨rfl, trivial⟩, .inl rfl, trivial⟩ ?_
  refine R_chain 8 rfl rfl ?_
  refine S_mapUpdate 902 (enc := fun l : List UInt8 => str l) rfl rfl rfl rfl rfl rfl rfl Tryz.underlying87 Tryz.underlying9 rfl same_str fits_str (mput_I m (z.evt e)) ?_
  refine R_next ⟨.inl rfl, .inl rfl, .inl rfl, trivial⟩ ?_
  refine R_go (fun _ _ h => h) ?_
  refine tx ?_
  refine sr 1 ?_
  refine sgo ?_
  refine tr1 hRb fun w hM => ?_
  have hM := hM.joinK (ks := [(950, 950), (960, 960)]) (m := 950) (i := 960) rfl rfl rfl rfl (by repeat (first | exact kl_nil | exact kl_rest (by assumption) rfl | (apply kl_in; focus rfl) | (apply kl_out; focus rfl)))
  have hM := hM.bankK (ks := [(950, 950), (908, 908)]) (m := 950) (i := 908) rfl rfl rfl (by repeat (first | exact kl_nil | exact kl_rest (by assumption) rfl | (apply kl_in; focus rfl) | (apply kl_out; focus rfl))) rfl
  have hM := hM.bankK (ks := [(950, 950), (935, 935)]) (m := 950) (i := 935) rfl rfl rfl (by repeat (first | exact kl_nil | exact kl_rest (by assumption) rfl | (apply kl_in; focus rfl) | (apply kl_out; focus rfl))) rfl
  have hM := hM.bankK (ks := [(950, 950), (939, 939)]) (m := 950) (i := 939) rfl rfl rfl (by repeat (first | exact kl_nil | exact kl_rest (by assumption) rfl | (apply kl_in; focus rfl) | (apply kl_out; focus rfl))) rfl
  have hno : putNo m e = 0 := by rw [putNo, if_neg (by simpa using h11), if_neg h32]
  exact ⟨⟨putI m (z.evt e), ixRows rs (z.evt e), 0⟩, rfl, ⟨hno.symm, hix.new hoz hev1 (putNo_0 hno).2, fun h => absurd rfl h, fun _ => ⟨_, hce, rfl⟩⟩, hM.keep (ks := [(0, 999)]) (by repeat (first | exact kl_rest (by assumption) rfl | (apply kl_in; focus rfl))) _ ⟨rfl, rfl, by rw [hz3]; rfl, trivial⟩⟩
def dropNo (m : List Evt) (k : List UInt8) : Int := if hasI m k = true then 0 else 7
theorem del_no {m : List Evt} {k : List UInt8} (h : hasI m k = false) : delI m k = m := by
  induction m with
  | nil => rfl
  | cons a r ih =>
    rw [hasI, List.any_cons, Bool.or_eq_false_iff] at h
    rw [delI, if_neg (fun he => of_decide_eq_false h.1 he.symm), ih h.2]
theorem Drop_any {w0 : World} {K : HL} (hK : FromK K) (b bm : Nat) (m : List Evt) (k : List UInt8) (w : World) (hM0 : Mem w0 ([(901, ixBox b bm), (902, ixMap bm m)] ++ K) w) :
    Calls Tryz.prog 12 #[.pointer (some ⟨b, 0, none⟩), str k] w fun en w' => ∃ _ : Unit, en = .returned (.int .i64 (dropNo m k)) ∧ True ∧ Mem w0 ([(901, ixBox b bm), (902, ixMap bm (delI m k))] ++ K) w' := by
  refine enterM_args (args := [.pointer (some ⟨b, 0, none⟩), str k]) (F := _) hM0 Tryz.func12 rfl Tryz.ntmps12 rfl rfl ?_
  intro Rb hRb hRn
  refine tx ?_
  refine sr 1 ?_
  refine sgs ?_
  refine tx ?_
  refine sr 1 ?_
  refine s1 (y_nilCheck rfl rfl) ?_
  refine s1 (yF fa89_0) ?_
  refine s1 (yL 901 Tryz.underlying87) ?_
  refine sr 1 ?_
  refine s1 (y_as (v' := .tuple #[(geI m k).val, .bool (hasI m k)]) (by rw [mgetB]; exact congrArg (fun v => Value.tuple #[v, .bool (hasI m k)]) (mgetV m k)) (y_lookup2 902 (enc := fun l : List UInt8 => str l) rfl rfl rfl rfl Tryz.underlying87 Tryz.underlying9 rfl same_str z31)) ?_
  refine sr 3 ?_
  refine S_alloc 5 5 rfl rfl rfl rfl z31 ?_
  intro b5
  refine S_store 5 rfl rfl rfl rfl rfl rfl sz31 rfl rfl ?_
  refine sr 1 ?_
  refine sgx ?_
  refine sr 2 ?_
  refine sgo ?_
  refine T_cond rfl ?_ ?_ <;> intro h17
  · skip
    have h17 : hasI m k = false := by simpa using h17
    refine tx ?_
    refine sr 1 ?_
    refine sgo ?_
    refine tr1 hRb fun w hM => ?_
    exact ⟨(), by rw [dropNo, if_neg (by rw [h17]; exact Bool.false_ne_true)], trivial, hM.keep (ks := [(0, 999)]) (by repeat (first | exact kl_rest (by assumption) rfl | (apply kl_in; focus rfl))) _ ⟨rfl, by rw [del_no h17]; rfl, trivial⟩⟩
  have h17 : hasI m k = true := by simpa using h17
  refine kgx ?_
  refine sr 1 ?_
  refine s1 (y_nilCheck rfl rfl) ?_
  refine s1 (yF fa89_0) ?_
  refine s1 (yL 901 Tryz.underlying87) ?_
  refine sr 1 ?_
  refine S_delete 902 (enc := fun l : List UInt8 => str l) rfl rfl rfl rfl rfl rfl Tryz.underlying87 Tryz.underlying9 rfl same_str (mdel_I m k) ?_
  refine sgx ?_
  refine sr 1 ?_
  refine sgo ?_
  refine tr1 hRb fun w hM => ?_
  exact ⟨(), by rw [dropNo, if_pos h17], trivial, hM.keep (ks := [(0, 999)]) (by repeat (first | exact kl_rest (by assumption) rfl | (apply kl_in; focus rfl))) _ ⟨rfl, rfl, trivial⟩⟩
theorem Size_any {w0 : World} {K : HL} (hK : FromK K) (b bm : Nat) (m : List Evt) (w : World) (hM0 : Mem w0 ([(901, ixBox b bm), (902, ixMap bm m)] ++ K) w) :
    Calls Tryz.prog 31 #[.pointer (some ⟨b, 0, none⟩)] w fun en w' => ∃ _ : Unit, en = .returned (.int .i64 (m.length : Nat)) ∧ True ∧ Mem w0 ([(901, ixBox b bm), (902, ixMap bm m)] ++ K) w' := by
  refine enterM_args (args := [.pointer (some ⟨b, 0, none⟩)]) (F := _) hM0 Tryz.func31 rfl Tryz.ntmps31 rfl rfl ?_
  intro Rb hRb hRn
  refine tx ?_
  refine sr 1 ?_
  refine sgx ?_
  refine sr 1 ?_
  refine s1 (y_nilCheck rfl rfl) ?_
  refine s1 (yF fa89_0) ?_
  refine s1 (yL 901 Tryz.underlying87) ?_
  refine s1 (y_as (v' := .int .i64 (m.length : Nat)) (by rw [List.length_map]) (y_len_map 902 rfl rfl rfl Tryz.underlying87)) ?_
  refine sr 1 ?_
  refine sgo ?_
  refine tr1 hRb fun w hM => ?_
  exact ⟨(), rfl, trivial, hM.keep (ks := [(0, 999)]) (by repeat (first | exact kl_rest (by assumption) rfl | (apply kl_in; focus rfl))) _ ⟨rfl, rfl, trivial⟩⟩
end Go.Proofs.YtekbcbjimajnfaaGreatDoor
end
section
namespace Go.Proofs.YtekbcbjimajnfaaGreatDoor
set_option linter.unusedSimpArgs false
set_option linter.unusedVariables false
set_option maxRecDepth 20000
open Go.RowKit Go.Eng
def cmpJ (x y : Int) : Int := if x < y then -1 else if y < x then 1 else 0
def cmpB (x y : List UInt8) : Int := if Op.bytesLess x y = true then -1 else if x = y then 0 else 1
theorem nanI_any (x : Int) (w : World) : Calls Tryz.prog 98 #[.int .i64 x] w fun e w' => e = .returned (.bool false) ∧ Below w.heap.size w w' := by
  refine enter_args (args := [.int .i64 x]) (F := _) Tryz.func98 rfl Tryz.ntmps98 rfl rfl ?_
  intro Rb hRb hRn
  refine tx ?_
  refine sr 1 ?_
  refine sgx ?_
  refine sr 4 ?_
  refine sgo ?_
  refine tr1 hRb fun w hM => ?_
  exact ⟨by simp, hM.below⟩
theorem nanB_any (x : List UInt8) (w : World) : Calls Tryz.prog 104 #[str x] w fun e w' => e = .returned (.bool false) ∧ Below w.heap.size w w' := by
  refine enter_args (args := [str x]) (F := _) Tryz.func104 rfl Tryz.ntmps104 rfl rfl ?_
  intro Rb hRb hRn
  refine tx ?_
  refine sr 1 ?_
  refine sgx ?_
  refine sr 2 ?_
  refine s1 (y_bin rfl rfl rfl (fun _ => b_neqs)) ?_
  refine sr 1 ?_
  refine sgo ?_
  refine tr1 hRb fun w hM => ?_
  exact ⟨by simp, hM.below⟩
theorem cmpJ_any (x y : Int) (w : World) : Calls Tryz.prog 59 #[.int .i64 x, .int .i64 y] w fun e w' => e = .returned (.int .i64 (cmpJ x y)) ∧ Below w.heap.size w w' := by
  refine enter_args (args := [.int .i64 x, .int .i64 y]) (F := _) Tryz.func59 rfl Tryz.ntmps59 rfl rfl ?_
  intro Rb hRb hRn
  refine tx ?_
  refine sr 1 ?_
  refine sgx ?_
  refine sr 1 ?_
  refine s1 (y_call rfl rfl rfl cf98 (fun _ w _ => nanI_any _ w)) ?_
  refine sr 1 ?_
  refine sgx ?_
  refine sr 1 ?_
  refine s1 (y_call rfl rfl rfl cf98 (fun _ w _ => nanI_any _ w)) ?_
  refine sr 1 ?_
  refine sgs ?_
  refine tx ?_
  refine sr 1 ?_
  refine sgo ?_
  refine T_cond rfl ?_ ?_ <;> intro h11
  · skip
    cases h11
  refine kgs ?_
  refine tx ?_
  refine sr 1 ?_
  refine sgo ?_
  refine T_cond rfl ?_ ?_ <;> intro h13
  · skip
    cases h13
  refine kgs ?_
  refine tx ?_
  refine sr 3 ?_
  refine sgo ?_
  refine T_cond rfl ?_ ?_ <;> intro h16
  · try simp only [nrm] at h16
    refine tx ?_
    refine sr 1 ?_
    refine sgo ?_
    refine tr1 hRb fun w hM => ?_
    exact ⟨by rw [cmpJ, if_pos (by omega)], hM.below⟩
  try simp only [nrm] at h16
  refine kgs ?_
  refine tx ?_
  refine sr 3 ?_
  refine sgo ?_
  refine T_cond rfl ?_ ?_ <;> intro h19
  · try simp only [nrm] at h19
    refine tx ?_
    refine sr 1 ?_
    refine sgo ?_
    refine tr1 hRb fun w hM => ?_
    exact ⟨by rw [cmpJ, if_neg (by omega), if_pos (by omega)], hM.below⟩
  try simp only [nrm] at h19
  refine kgx ?_
  refine sr 1 ?_
  refine sgo ?_
  refine tr1 hRb fun w hM => ?_
  exact ⟨by rw [cmpJ, if_neg (by omega), if_neg (by omega)], hM.below⟩
theorem cmpB_any (x y : List UInt8) (w : World) : Calls Tryz.prog 66 #[str x, str y] w fun e w' => e = .returned (.int .i64 (cmpB x y)) ∧ Below w.heap.size w w' := by
  refine enter_args (args := [str x, str y]) (F := _) Tryz.func66 rfl Tryz.ntmps66 rfl rfl ?_
  intro Rb hRb hRn
  refine tx ?_
  refine sr 1 ?_
  refine sgx ?_
  refine sr 1 ?_
  refine s1 (y_call rfl rfl rfl cf104 (fun _ w _ => nanB_any _ w)) ?_
  refine sr 1 ?_
  refine sgx ?_
  refine sr 1 ?_
  refine s1 (y_call rfl rfl rfl cf104 (fun _ w _ => nanB_any _ w)) ?_
  refine sr 1 ?_
  refine sgs ?_
  refine tx ?_
  refine sr 1 ?_
  refine sgo ?_
  refine T_cond rfl ?_ ?_ <;> intro h11
  · skip
    cases h11
  refine kgs ?_
  refine tx ?_
  refine sr 1 ?_
  refine sgo ?_
  refine T_cond rfl ?_ ?_ <;> intro h13
  · skip
    cases h13
  refine kgs ?_
  refine tx ?_
  refine sr 2 ?_
  refine s1 (y_bin rfl rfl rfl (fun _ => b_lsss)) ?_
  refine sgo ?_
  refine T_cond rfl ?_ ?_ <;> intro h16
  · skip
    refine tx ?_
    refine sr 1 ?_
    refine sgo ?_
    refine tr1 hRb fun w hM => ?_
    exact ⟨by rw [cmpB, if_pos h16], hM.below⟩
  refine kgs ?_
  refine tx ?_
  refine sr 2 ?_
  refine s1 (y_bin rfl rfl rfl (fun _ => b_gtrs)) ?_
  refine sgo ?_
  refine T_cond rfl ?_ ?_ <;> intro h19
  · skip
    refine tx ?_
    refine sr 1 ?_
    refine sgo ?_
    refine tr1 hRb fun w hM => ?_
    exact ⟨by rw [cmpB, if_neg (by simp [h16]), if_neg (by simpa [h16] using h19)], hM.below⟩
  refine kgx ?_
  refine sr 1 ?_
  refine sgo ?_
  refine tr1 hRb fun w hM => ?_
  exact ⟨by rw [cmpB, if_neg (by simp [h16]), if_pos (by simpa [h16] using h19)], hM.below⟩
end Go.Proofs.YtekbcbjimajnfaaGreatDoor
end
section
namespace Go.Proofs.YtekbcbjimajnfaaGreatDoor
set_option linter.unusedSimpArgs false
set_option linter.unusedVariables false
set_option maxRecDepth 20000
open Go.RowKit Go.Eng
structure Cmp3 {α : Type} (f : α → α → Int) : Prop where
  anti : ∀ a b, f b a = -f a b
  tr : ∀ a b c, f a b ≤ 0 → f b c ≤ 0 → f a c ≤ 0
section
variable {α β : Type} {f g : α → α → Int}
theorem Cmp3.refl (h : Cmp3 f) (a : α) : f a a = 0 := by have := h.anti a a; omega
theorem Cmp3.lt_le (h : Cmp3 f) {a b c : α} (h1 : f a b < 0) (h2 : f b c ≤ 0) : f a c < 0 := by
  by_cases h3 : f a c < 0
  · exact h3
  · have h4 := h.anti a c
    have h5 := h.tr b c a h2 (by omega)
    have h6 := h.anti a b
    omega
theorem Cmp3.le_lt (h : Cmp3 f) {a b c : α} (h1 : f a b ≤ 0) (h2 : f b c < 0) : f a c < 0 := by
  by_cases h3 : f a c < 0
  · exact h3
  · have h4 := h.anti a c
    have h5 := h.tr c a b (by omega) h1
    have h6 := h.anti b c
    omega
theorem Cmp3.zero (h : Cmp3 f) {a b c : α} (h1 : f a b = 0) (h2 : f b c = 0) : f a c = 0 := by
  have h3 := h.tr a b c (by omega) (by omega)
  have h4 := h.anti a b
  have h5 := h.anti b c
  have h6 := h.tr c b a (by omega) (by omega)
  have h7 := h.anti a c
  omega
theorem Cmp3.comap (h : Cmp3 f) (k : β → α) : Cmp3 fun x y => f (k x) (k y) := ⟨fun _ _ => h.anti _ _, fun _ _ _ => h.tr _ _ _⟩
theorem cmp3_lex (hf : Cmp3 f) (hg : Cmp3 g) : Cmp3 fun a b => if f a b ≠ 0 then f a b else g a b := by
  constructor
  · intro a b
    have h1 := hf.anti a b
    have h2 := hg.anti a b
    show (if f b a ≠ 0 then f b a else g b a) = -(if f a b ≠ 0 then f a b else g a b)
    by_cases h : f a b = 0
    · rw [if_neg (by omega), if_neg (by omega)]; exact h2
    · rw [if_pos (by omega), if_pos h]; exact h1
  · intro a b c h1 h2
    have h1 : (if f a b ≠ 0 then f a b else g a b) ≤ 0 := h1
    have h2 : (if f b c ≠ 0 then f b c else g b c) ≤ 0 := h2
    show (if f a c ≠ 0 then f a c else g a c) ≤ 0
    by_cases ha : f a b = 0
    · rw [if_neg (by omega)] at h1
      by_cases hb : f b c = 0
      · rw [if_neg (by omega)] at h2
        rw [if_neg (by have := hf.zero ha hb; omega)]; exact hg.tr _ _ _ h1 h2
      · rw [if_pos hb] at h2
        have := hf.le_lt (a := a) (b := b) (c := c) (by omega) (by omega)
        rw [if_pos (by omega)]; omega
    · rw [if_pos ha] at h1
      have hb : f b c ≤ 0 := by
        by_cases hb : f b c = 0
        · omega
        · rw [if_pos hb] at h2; exact h2
      have := hf.lt_le (a := a) (b := b) (c := c) (by omega) hb
      rw [if_pos (by omega)]; omega
end
theorem cmp3_J : Cmp3 cmpJ := by
  constructor
  · intro a b; unfold cmpJ; split <;> split <;> (try split) <;> omega
  · intro a b c h1 h2
    unfold cmpJ at *
    split at h1 <;> split at h2 <;> split <;> (try split) <;> (try split at h1) <;> (try split at h2) <;> omega
theorem bl_irr (a : List UInt8) : ¬ a < a := List.lt_irrefl a
theorem bl_tr {a b c : List UInt8} (h1 : a < b) (h2 : b < c) : a < c := List.lt_trans h1 h2
theorem bl_tot {a b : List UInt8} (h1 : ¬ a < b) (h2 : ¬ b < a) : a = b := List.le_antisymm (List.not_lt.1 h2) (List.not_lt.1 h1)
theorem cmpB_lt (a b : List UInt8) : cmpB a b = if a < b then -1 else if a = b then 0 else 1 := by
  unfold cmpB
  rw [Go.Proofs.bytesLess_eq]
  simp only [decide_eq_true_eq]
theorem cmpB_zero {a b : List UInt8} (h : cmpB a b = 0) : a = b := by
  rw [cmpB_lt] at h
  split at h
  · omega
  · split at h
    · assumption
    · omega
theorem cmpB_le {a b : List UInt8} : cmpB a b ≤ 0 ↔ ¬ b < a := by
  rw [cmpB_lt]
  by_cases h1 : a < b
  · rw [if_pos h1]; exact ⟨fun _ h => bl_irr _ (bl_tr h1 h), fun _ => by omega⟩
  · rw [if_neg h1]
    by_cases h2 : a = b
    · rw [if_pos h2]; subst h2; exact ⟨fun _ => bl_irr _, fun _ => by omega⟩
    · rw [if_neg h2]; exact ⟨fun h => by omega, fun h => absurd (bl_tot h1 h) h2⟩
theorem cmp3_B : Cmp3 cmpB := by
  constructor
  · intro a b
    rw [cmpB_lt, cmpB_lt]
    by_cases h1 : a < b
    · rw [if_pos h1, if_neg (fun h => bl_irr _ (bl_tr h1 h)), if_neg (fun e => by subst e; exact bl_irr _ h1)]; rfl
    · by_cases h2 : a = b
      · subst h2; rw [if_neg h1, if_pos rfl]; rfl
      · have h3 : b < a := by
          by_cases h3 : b < a
          · exact h3
          · exact absurd (bl_tot h1 h3) h2
        rw [if_pos h3, if_neg h1, if_neg h2]
  · intro a b c h1 h2
    rw [cmpB_le] at *
    intro h
    by_cases h3 : b < c
    · exact h1 (bl_tr h3 h)
    · rw [bl_tot h3 h2] at h1; exact h1 h
section
variable {α : Type} {f : α → α → Int}
theorem swo3 (h : Cmp3 f) : Go.Sort.SWO (Go.Proofs.ltOf f) := by
  refine ⟨fun a => ?_, fun a b c h1 h2 => ?_, fun a b c h1 h2 => ?_⟩
  · simp only [Go.Proofs.ltOf, decide_eq_false_iff_not]; have := h.refl a; omega
  · simp only [Go.Proofs.ltOf, decide_eq_true_eq] at h1 h2 ⊢
    exact h.lt_le h1 (by omega)
  · simp only [Go.Proofs.ltOf, decide_eq_false_iff_not] at h1 h2 ⊢
    have a1 := h.anti a b
    have a2 := h.anti b c
    have a3 := h.anti a c
    have := h.tr c b a (by omega) (by omega)
    omega
/-- a list sorted and another one, a permutation of it, sorted as well: where none but equal elements tie they are one list -/
theorem sorted_uniq {R : α → α → Prop} : ∀ {l m : List α}, l.Perm m → l.Pairwise R → m.Pairwise R → (∀ x ∈ l, ∀ y ∈ l, R x y → R y x → x = y) → l = m
  | [], m, hp, _, _, _ => (List.Perm.eq_nil hp.symm).symm
  | a :: r, m, hp, hl, hm, ha => by
    cases m with
    | nil => exact absurd hp.eq_nil (by simp)
    | cons b s =>
      have e : a = b := by
        have h1 : a ∈ b :: s := hp.subset (List.mem_cons_self ..)
        have h2 : b ∈ a :: r := hp.symm.subset (List.mem_cons_self ..)
        rcases List.mem_cons.1 h1 with h1 | h1
        · exact h1
        · rcases List.mem_cons.1 h2 with h2 | h2
          · exact h2.symm
          · exact ha a (List.mem_cons_self ..) b (List.mem_cons_of_mem _ h2) ((List.pairwise_cons.1 hl).1 b h2) ((List.pairwise_cons.1 hm).1 a h1)
      subst e
      rw [sorted_uniq ((List.perm_cons a).1 hp) (List.pairwise_cons.1 hl).2 (List.pairwise_cons.1 hm).2 fun x hx y hy => ha x (List.mem_cons_of_mem _ hx) y (List.mem_cons_of_mem _ hy)]
end
theorem ltOf_f {α : Type} {f : α → α → Int} {x y : α} (h : Go.Proofs.ltOf f y x = false) (hf : Cmp3 f) : f x y ≤ 0 := by
  simp only [Go.Proofs.ltOf, decide_eq_false_iff_not] at h
  have := hf.anti x y
  omega
end Go.Proofs.YtekbcbjimajnfaaGreatDoor
end
section
namespace Go.Proofs.YtekbcbjimajnfaaGreatDoor
set_option linter.unusedSimpArgs false
set_option linter.unusedVariables false
set_option maxRecDepth 20000
section
variable {α : Type}
theorem set_mid {A B : List α} {x y : α} {n : Nat} (h : n = A.length) : (A ++ x :: B).set n y = A ++ y :: B := by
  subst h
  simp
theorem at_mid {A B : List α} {x : α} {n : Nat} (h : n = A.length) : (A ++ x :: B)[n]? = some x := by
  subst h
  simp
/-- x stands in P at place t, between X and Y -/
def insL (X P : List α) (x : α) (t : Nat) (Y : List α) : List α := X ++ (P.take t ++ x :: P.drop t) ++ Y
theorem insL_eq {X P Y : List α} {x : α} {t : Nat} : insL X P x t Y = (X ++ P.take t) ++ x :: (P.drop t ++ Y) := by
  simp [insL]
theorem insL_len {X P Y : List α} {x : α} {t : Nat} : (insL X P x t Y).length = X.length + P.length + 1 + Y.length := by
  simp only [insL, List.length_append, List.length_cons, List.length_take, List.length_drop]
  omega
theorem insL_at {X P Y : List α} {x : α} {t n : Nat} (ht : t ≤ P.length) (hn : n = X.length + t) : (insL X P x t Y)[n]? = some x := by
  rw [insL_eq]
  exact at_mid (by rw [List.length_append, List.length_take]; omega)
theorem drop_at {P : List α} {y : α} {t : Nat} (h : P[t]? = some y) : P.drop t = y :: P.drop (t + 1) := by
  obtain ⟨h1, h2⟩ := List.getElem?_eq_some_iff.1 h
  rw [← h2]; exact List.drop_eq_getElem_cons h1
theorem take_snoc {P : List α} {y : α} {t : Nat} (h : P[t]? = some y) : P.take (t + 1) = P.take t ++ [y] := by
  obtain ⟨h1, h2⟩ := List.getElem?_eq_some_iff.1 h
  rw [← h2, List.take_succ_eq_append_getElem h1]
theorem insL_next {X P Y : List α} {x y : α} {t n : Nat} (h : P[t]? = some y) (hn : n = X.length + t + 1) : (insL X P x t Y)[n]? = some y := by
  have h1 := (List.getElem?_eq_some_iff.1 h).1
  rw [insL_eq, drop_at h, show (X ++ P.take t) ++ x :: (y :: P.drop (t + 1) ++ Y) = (X ++ P.take t ++ [x]) ++ y :: (P.drop (t + 1) ++ Y) by simp]
  exact at_mid (by simp only [List.length_append, List.length_take, List.length_cons, List.length_nil]; omega)
theorem insL_prev {X P Y : List α} {x y : α} {t n : Nat} (h : P[t]? = some y) (hn : n = X.length + t) : (insL X P x (t + 1) Y)[n]? = some y := by
  have h1 := (List.getElem?_eq_some_iff.1 h).1
  rw [insL_eq, take_snoc h, show (X ++ (P.take t ++ [y])) ++ x :: (P.drop (t + 1) ++ Y) = (X ++ P.take t) ++ y :: (x :: (P.drop (t + 1) ++ Y)) by simp]
  exact at_mid (by simp only [List.length_append, List.length_take]; omega)
theorem insL_hi {X P Y : List α} {x y : α} {t i n : Nat} (ht : t ≤ i) (h : P[i]? = some y) (hn : n = X.length + i + 1) : (insL X P x t Y)[n]? = some y := by
  have h1 := (List.getElem?_eq_some_iff.1 h).1
  have hl : (P.take t).length = t := by rw [List.length_take]; omega
  rw [insL, List.append_assoc, List.getElem?_append_right (by omega), List.getElem?_append_left (by simp only [List.length_append, List.length_cons, List.length_drop, hl]; omega), List.getElem?_append_right (by omega), hl,
    show n - X.length - t = (i - t) + 1 by omega, List.getElem?_cons_succ, List.getElem?_drop, show t + (i - t) = i by omega, h]
theorem insL_lo {X P Y : List α} {x y : α} {t i n : Nat} (ht : i < t) (h : P[i]? = some y) (hn : n = X.length + i) : (insL X P x t Y)[n]? = some y := by
  have h1 := (List.getElem?_eq_some_iff.1 h).1
  have hl : i < (P.take t).length := by rw [List.length_take]; omega
  rw [insL, List.append_assoc, List.getElem?_append_right (by omega), List.getElem?_append_left (by rw [List.length_append]; omega), List.getElem?_append_left (by omega), List.getElem?_take, if_pos (by omega), show n - X.length = i by omega, h]
theorem insL_fold {X P D Y : List α} {x : α} {t : Nat} : insL X P x t (D ++ Y) = X ++ (P.take t ++ x :: P.drop t) ++ D ++ Y := by
  simp [insL]
/-- the elements at t and t + 1 change places: x goes up -/
theorem insL_up {X P Y : List α} {x y : α} {t n k : Nat} (h : P[t]? = some y) (hn : n = X.length + t) (hk : k = X.length + t + 1) : ((insL X P x t Y).set n y).set k x = insL X P x (t + 1) Y := by
  have h1 := (List.getElem?_eq_some_iff.1 h).1
  have hl : (X ++ P.take t).length = n := by rw [List.length_append, List.length_take]; omega
  rw [insL_eq, insL_eq, drop_at h, take_snoc h, set_mid hl.symm, show (X ++ P.take t) ++ y :: (y :: P.drop (t + 1) ++ Y) = (X ++ P.take t ++ [y]) ++ y :: (P.drop (t + 1) ++ Y) by simp,
    set_mid (by rw [List.length_append, hl]; simp only [List.length_cons, List.length_nil]; omega)]
  simp
/-- the elements at t + 1 and t change places: x goes down -/
theorem insL_dn {X P Y : List α} {x y : α} {t n k : Nat} (h : P[t]? = some y) (hn : n = X.length + t) (hk : k = X.length + t + 1) : ((insL X P x (t + 1) Y).set k y).set n x = insL X P x t Y := by
  have h1 := (List.getElem?_eq_some_iff.1 h).1
  have hl : (X ++ P.take t).length = n := by rw [List.length_append, List.length_take]; omega
  rw [insL_eq, insL_eq, drop_at h, take_snoc h, set_mid (by simp only [List.length_append, List.length_take, List.length_cons, List.length_nil]; omega),
    show (X ++ (P.take t ++ [y])) ++ y :: (P.drop (t + 1) ++ Y) = (X ++ P.take t) ++ y :: (y :: (P.drop (t + 1) ++ Y)) by simp, set_mid hl.symm]
  simp
theorem ins_perm {P : List α} {x : α} {t : Nat} : (P.take t ++ x :: P.drop t).Perm (x :: P) :=
  List.perm_middle.trans (by rw [List.take_append_drop])
variable {R : α → α → Prop}
theorem last_of {U : List α} (hU : U.Pairwise R) {l x : α} {k : Nat} (hk : U[k]? = some l) {i : Nat} (hi : i ≤ k) (hx : U[i]? = some x) : x = l ∨ R x l := by
  rcases Nat.eq_or_lt_of_le hi with rfl | h
  · rw [hk] at hx; exact .inl (Option.some.inj hx).symm
  · obtain ⟨h1, rfl⟩ := List.getElem?_eq_some_iff.1 hk
    obtain ⟨h2, rfl⟩ := List.getElem?_eq_some_iff.1 hx
    exact .inr (List.pairwise_iff_getElem.1 hU i k h2 h1 h)
theorem mem_take_at {U : List α} {x : α} {k : Nat} (h : x ∈ U.take k) : ∃ i, i < k ∧ U[i]? = some x := by
  obtain ⟨i, hi⟩ := List.mem_iff_getElem?.1 h
  rw [List.getElem?_take] at hi
  split at hi
  · exact ⟨i, ‹_›, hi⟩
  · cases hi
theorem mem_drop_at {U : List α} {x : α} {k : Nat} (h : x ∈ U.drop k) : ∃ i, k ≤ i ∧ U[i]? = some x := by
  obtain ⟨i, hi⟩ := List.mem_iff_getElem?.1 h
  rw [List.getElem?_drop] at hi
  exact ⟨k + i, by omega, hi⟩
theorem ins_sorted (tr : ∀ x y z, R x y → R y z → R x z) {P : List α} (hP : P.Pairwise R) {x : α} {t : Nat} (ht : t ≤ P.length) (h1 : ∀ y, 0 < t → P[t - 1]? = some y → R y x) (h2 : ∀ y, P[t]? = some y → R x y) : (P.take t ++ x :: P.drop t).Pairwise R := by
  have hlo : ∀ y ∈ P.take t, R y x := fun y hy => by
    obtain ⟨i, hi, hy⟩ := mem_take_at hy
    obtain ⟨l, hl⟩ : ∃ l, P[t - 1]? = some l := ⟨P[t - 1]'(by omega), List.getElem?_eq_getElem (by omega)⟩
    rcases last_of hP hl (by omega : i ≤ t - 1) hy with rfl | h
    · exact h1 _ (by omega) hl
    · exact tr _ _ _ h (h1 l (by omega) hl)
  have hhi : ∀ y ∈ P.drop t, R x y := fun y hy => by
    obtain ⟨i, hi, hy⟩ := mem_drop_at hy
    obtain ⟨l, hl⟩ : ∃ l, P[t]? = some l := ⟨P[t]'(by have := (List.getElem?_eq_some_iff.1 hy).1; omega), List.getElem?_eq_getElem (by have := (List.getElem?_eq_some_iff.1 hy).1; omega)⟩
    rcases last_of hP hy hi hl with rfl | h
    · exact h2 _ hl
    · exact tr _ _ _ (h2 l hl) h
  rw [List.pairwise_append]
  refine ⟨hP.sublist (List.take_sublist _ _), List.pairwise_cons.2 ⟨hhi, hP.sublist (List.drop_sublist _ _)⟩, fun a ha b hb => ?_⟩
  rcases List.mem_cons.1 hb with rfl | hb
  · exact hlo a ha
  · exact tr _ _ _ (hlo a ha) (hhi b hb)
/-- two sorted rows U and V, each cut in two: all of the two first parts is ahead of all of the two last parts -/
theorem mrg_split (tr : ∀ x y z, R x y → R y z → R x z) {U V : List α} {s e : Nat} (hU : U.Pairwise R) (hV : V.Pairwise R) (hs : s ≤ U.length) (he : e ≤ V.length)
    (hA : ∀ x y, 0 < s → U[s - 1]? = some x → V[e]? = some y → R x y) (hB : ∀ x y, 0 < e → V[e - 1]? = some x → U[s]? = some y → R x y) : ∀ x ∈ U.take s ++ V.take e, ∀ y ∈ U.drop s ++ V.drop e, R x y := by
  have key : ∀ {U V : List α} {s e : Nat}, U.Pairwise R → V.Pairwise R → s ≤ U.length → (∀ x y, 0 < s → U[s - 1]? = some x → V[e]? = some y → R x y) → ∀ x ∈ U.take s, ∀ y ∈ V.drop e, R x y := by
    intro U V s e hU hV hs h x hx y hy
    obtain ⟨i, hi, hx⟩ := mem_take_at hx
    obtain ⟨j, hj, hy⟩ := mem_drop_at hy
    obtain ⟨l, hl⟩ : ∃ l, U[s - 1]? = some l := ⟨U[s - 1]'(by omega), List.getElem?_eq_getElem (by omega)⟩
    have hjl := (List.getElem?_eq_some_iff.1 hy).1
    obtain ⟨f, hf⟩ : ∃ f, V[e]? = some f := ⟨V[e]'(by omega), List.getElem?_eq_getElem (by omega)⟩
    have h0 := h l f (by omega) hl hf
    have h1 : R x f := by
      rcases last_of hU hl (by omega : i ≤ s - 1) hx with rfl | h
      · exact h0
      · exact tr _ _ _ h h0
    rcases last_of hV hy hj hf with rfl | h
    · exact h1
    · exact tr _ _ _ h1 h
  have own : ∀ {U : List α} {s : Nat}, U.Pairwise R → ∀ x ∈ U.take s, ∀ y ∈ U.drop s, R x y := by
    intro U s hU x hx y hy
    obtain ⟨i, hi, hx⟩ := mem_take_at hx
    obtain ⟨j, hj, hy⟩ := mem_drop_at hy
    obtain ⟨h1, rfl⟩ := List.getElem?_eq_some_iff.1 hx
    obtain ⟨h2, rfl⟩ := List.getElem?_eq_some_iff.1 hy
    exact List.pairwise_iff_getElem.1 hU i j h1 h2 (by omega)
  intro x hx y hy
  rcases List.mem_append.1 hx with hx | hx <;> rcases List.mem_append.1 hy with hy | hy
  · exact own hU x hx y hy
  · exact key hU hV hs hA x hx y hy
  · exact key hV hU he hB x hx y hy
  · exact own hV x hx y hy
theorem mrg_join {U V W1 W2 : List α} {s e : Nat} (h1 : W1.Perm (U.take s ++ V.take e)) (h2 : W2.Perm (U.drop s ++ V.drop e)) : (W1 ++ W2).Perm (U ++ V) := by
  refine (h1.append h2).trans ?_
  have : (U.take s ++ V.take e ++ (U.drop s ++ V.drop e)).Perm (U.take s ++ U.drop s ++ (V.take e ++ V.drop e)) := by
    simp only [List.append_assoc]
    refine List.Perm.append_left _ ?_
    rw [← List.append_assoc, ← List.append_assoc]
    exact List.Perm.append_right _ List.perm_append_comm
  rwa [List.take_append_drop, List.take_append_drop] at this
theorem mrg_sorted {W1 W2 T1 T2 : List α} (h1 : W1.Perm T1) (h2 : W2.Perm T2) (s1 : W1.Pairwise R) (s2 : W2.Pairwise R) (h : ∀ x ∈ T1, ∀ y ∈ T2, R x y) : (W1 ++ W2).Pairwise R :=
  List.pairwise_append.2 ⟨s1, s2, fun x hx y hy => h x (h1.mem_iff.1 hx) y (h2.mem_iff.1 hy)⟩
/-! ### Two rows change places -/
/-- the first i elements of U and V have changed places -/
def swR (X U M V Y : List α) (i : Nat) : List α := (X ++ V.take i) ++ (U.drop i ++ M ++ U.take i) ++ (V.drop i ++ Y)
theorem swR_0 {X U M V Y : List α} : swR X U M V Y 0 = X ++ U ++ M ++ V ++ Y := by simp [swR]
theorem swR_end {X U M V Y : List α} {i : Nat} (hU : U.length ≤ i) (hV : V.length ≤ i) : swR X U M V Y i = X ++ V ++ M ++ U ++ Y := by
  simp [swR, List.take_of_length_le hU, List.take_of_length_le hV, List.drop_eq_nil_of_le hU, List.drop_eq_nil_of_le hV]
theorem swR_len {X U M V Y : List α} {i : Nat} : (swR X U M V Y i).length = (X ++ U ++ M ++ V ++ Y).length := by
  simp only [swR, List.length_append, List.length_take, List.length_drop]; omega
section
variable {X U M V Y : List α} {u v : α} {i n k : Nat} (hu : U[i]? = some u) (hv : V[i]? = some v) (hn : n = X.length + i) (hk : k = X.length + U.length + M.length + i)
include hu hv
theorem swR_eq : swR X U M V Y i = (X ++ V.take i) ++ u :: ((U.drop (i + 1) ++ M ++ U.take i) ++ v :: (V.drop (i + 1) ++ Y)) := by
  rw [swR, drop_at hu, drop_at hv]; simp
include hn
theorem swR_at1 : (swR X U M V Y i)[n]? = some u := by
  have h1 := (List.getElem?_eq_some_iff.1 hv).1
  rw [swR_eq hu hv]
  exact at_mid (by rw [List.length_append, List.length_take]; omega)
omit hn
include hk
theorem swR_at2 : (swR X U M V Y i)[k]? = some v := by
  have h1 := (List.getElem?_eq_some_iff.1 hv).1
  have h2 := (List.getElem?_eq_some_iff.1 hu).1
  rw [swR_eq hu hv, show (X ++ V.take i) ++ u :: ((U.drop (i + 1) ++ M ++ U.take i) ++ v :: (V.drop (i + 1) ++ Y)) = ((X ++ V.take i) ++ u :: (U.drop (i + 1) ++ M ++ U.take i)) ++ v :: (V.drop (i + 1) ++ Y) by simp]
  exact at_mid (by simp only [List.length_append, List.length_take, List.length_cons, List.length_drop]; omega)
include hn
theorem swR_step : ((swR X U M V Y i).set n v).set k u = swR X U M V Y (i + 1) := by
  have h1 := (List.getElem?_eq_some_iff.1 hv).1
  have h2 := (List.getElem?_eq_some_iff.1 hu).1
  rw [swR_eq hu hv, set_mid (by rw [List.length_append, List.length_take]; omega), show (X ++ V.take i) ++ v :: ((U.drop (i + 1) ++ M ++ U.take i) ++ v :: (V.drop (i + 1) ++ Y)) = ((X ++ V.take i) ++ v :: (U.drop (i + 1) ++ M ++ U.take i)) ++ v :: (V.drop (i + 1) ++ Y) by simp,
    set_mid (by simp only [List.length_append, List.length_take, List.length_cons, List.length_drop]; omega), swR, take_snoc hu, take_snoc hv]
  simp
end
/-- what the compare function says of x, which stood ahead, and y -/
def Cmp (R : α → α → Prop) (cf : α → α → Int) (x y : α) : Prop := (cf y x < 0 → R y x) ∧ (¬ cf y x < 0 → R x y)
theorem cat_u {X U V Y : List α} {i n : Nat} {x : α} (h : U[i]? = some x) (hn : n = X.length + i) : (X ++ (U ++ V) ++ Y)[n]? = some x := by
  have h1 := (List.getElem?_eq_some_iff.1 h).1
  rw [List.append_assoc, List.getElem?_append_right (by omega), List.append_assoc, List.getElem?_append_left (by omega), show n - X.length = i by omega, h]
theorem cat_v {X U V Y : List α} {i n : Nat} {x : α} (h : V[i]? = some x) (hn : n = X.length + U.length + i) : (X ++ (U ++ V) ++ Y)[n]? = some x := by
  have h1 := (List.getElem?_eq_some_iff.1 h).1
  rw [List.append_assoc, List.getElem?_append_right (by omega), List.append_assoc, List.getElem?_append_right (by omega), List.getElem?_append_left (by omega), show n - X.length - U.length = i by omega, h]
theorem nil_or {U V : List α} {i e : Nat} (h : ¬ (i < U.length ∧ 0 < e)) : U.drop i ++ V.take e = V.take e ++ U.drop i := by
  rcases Nat.lt_or_ge i U.length with h1 | h1
  · have : e = 0 := by omega
    subst this; simp
  · rw [List.drop_eq_nil_of_le h1]; simp
/-! ### Blocks -/
def blk (k t : Nat) (l : List α) : List α := (l.drop (t * k)).take k
/-- l's blocks of k hold what l0's hold, and are sorted -/
def OkBlk (R : α → α → Prop) (k : Nat) (l l0 : List α) : Prop := ∀ t, (blk k t l).Perm (blk k t l0) ∧ (blk k t l).Pairwise R
theorem okBlk_nil {k : Nat} : OkBlk R k [] [] := fun t => by simp [blk]
theorem okBlk_app {k d : Nat} {D D0 W W0 : List α} (hd : D.length = d * k) (hl : D.length = D0.length) (h : OkBlk R k D D0) (hW : W.Perm W0) (hs : W.Pairwise R) (hWk : W.length ≤ k) : OkBlk R k (D ++ W) (D0 ++ W0) := fun t => by
  have hWl := hW.length_eq
  rcases Nat.lt_trichotomy t d with ht | ht | ht
  · have h1 : t * k + k ≤ d * k := by rw [← Nat.succ_mul]; exact Nat.mul_le_mul_right k ht
    have e1 : blk k t (D ++ W) = blk k t D := by
      unfold blk
      rw [List.drop_append_of_le_length (by omega), List.take_append_of_le_length (by rw [List.length_drop]; omega)]
    have e2 : blk k t (D0 ++ W0) = blk k t D0 := by
      unfold blk
      rw [List.drop_append_of_le_length (by omega), List.take_append_of_le_length (by rw [List.length_drop]; omega)]
    rw [e1, e2]
    exact h t
  · subst ht
    have e1 : blk k t (D ++ W) = W := by
      unfold blk
      rw [← hd, List.drop_left, List.take_of_length_le hWk]
    have e2 : blk k t (D0 ++ W0) = W0 := by
      unfold blk
      rw [← hd, hl, List.drop_left, List.take_of_length_le (by omega)]
    rw [e1, e2]
    exact ⟨hW, hs⟩
  · have h1 : d * k + k ≤ t * k := by rw [← Nat.succ_mul]; exact Nat.mul_le_mul_right k ht
    have e1 : blk k t (D ++ W) = [] := by
      unfold blk
      rw [List.drop_eq_nil_of_le (by rw [List.length_append]; omega), List.take_nil]
    have e2 : blk k t (D0 ++ W0) = [] := by
      unfold blk
      rw [List.drop_eq_nil_of_le (by rw [List.length_append]; omega), List.take_nil]
    rw [e1, e2]
    exact ⟨.refl _, .nil⟩
theorem okBlk_drop {k s : Nat} {E E0 : List α} (h : OkBlk R k E E0) : OkBlk R k (E.drop (s * k)) (E0.drop (s * k)) := fun t => by
  have e : ∀ l : List α, blk k t (l.drop (s * k)) = blk k (s + t) l := fun l => by
    unfold blk
    rw [List.drop_drop, Nat.add_mul]
  rw [e, e]
  exact h (s + t)
theorem okBlk_0 {k : Nat} {E E0 : List α} (h : OkBlk R k E E0) : (E.take k).Perm (E0.take k) ∧ (E.take k).Pairwise R := by simpa [blk] using h 0
theorem okBlk_1 {k : Nat} {E E0 : List α} (h : OkBlk R k E E0) : ((E.drop k).take k).Perm ((E0.drop k).take k) ∧ ((E.drop k).take k).Pairwise R := by simpa [blk] using h 1
theorem okBlk_all {k : Nat} {l l0 : List α} (h : OkBlk R k l l0) (hk : l.length ≤ k) (hl : l.length = l0.length) : l.Perm l0 ∧ l.Pairwise R := by
  have := okBlk_0 h
  rwa [List.take_of_length_le hk, List.take_of_length_le (by omega)] at this
theorem cmp_parts {cf : α → α → Int} {E0 : List α} {k : Nat} (h : E0.Pairwise (Cmp R cf)) {U V : List α} (hU : U.Perm (E0.take k)) (hV : ∀ y ∈ V, y ∈ E0.drop k) : ∀ x ∈ U, ∀ y ∈ V, Cmp R cf x y := fun x hx y hy => by
  rw [← List.take_append_drop k E0, List.pairwise_append] at h
  exact h.2.2 x (hU.mem_iff.1 hx) y (hV y hy)
theorem two_blocks {k : Nat} (l : List α) : l.take k ++ (l.drop k).take k = l.take (2 * k) := by
  rw [Nat.two_mul, List.take_add]
end
end Go.Proofs.YtekbcbjimajnfaaGreatDoor
end
section
namespace Go.Proofs.YtekbcbjimajnfaaGreatDoor
set_option linter.unusedSimpArgs false
set_option linter.unusedVariables false
set_option maxRecDepth 20000
open Go.RowKit Go.Eng
/-! ### content -/
def canF (f : Flt) : Flt := ⟨f.k, f.t, ⟨none, f.fr.l.length, 0, f.fr.l⟩⟩
def can (e : Evt) : Evt := ⟨e.id, e.at_, e.lv, ⟨none, e.fa.q, 0, e.fa.l.map canF⟩, ⟨none, e.ta.q, 0, e.ta.l⟩, ⟨none, e.cr.q, 0, e.cr.l⟩, e.rel, e.us, e.wt⟩
def ofCont (c : List UInt8 × List UInt8 × List Frm) : Flt := ⟨c.1, c.2.1, ⟨none, c.2.2.length, 0, c.2.2⟩⟩
theorem canF_cont (l : List Flt) : l.map canF = (l.map Flt.cont).map ofCont := by rw [List.map_map]; rfl
theorem cont_canF (l : List Flt) : (l.map canF).map Flt.cont = l.map Flt.cont := by rw [List.map_map]; rfl
theorem can_of {a b : Evt} (h : ContE a b) : can a = can b := by
  unfold can
  rw [h.id, h.at_, h.lv, h.rel, h.us, h.wt, h.fq, h.ta, h.tq, h.cr, h.cq, canF_cont, canF_cont, h.fa]
theorem cont_can {a b : Evt} (h : can a = can b) : ContE a b := by
  have h2 := h
  simp only [can, Evt.mk.injEq, Sl.mk.injEq, true_and] at h2
  obtain ⟨h1, h2, h3, ⟨h4, h5⟩, ⟨h6, h7⟩, ⟨h8, h9⟩, h10, h11, h12⟩ := h2
  exact ⟨h1, h2, h3, h10, h11, h12, by rw [← cont_canF, h5, cont_canF], h4, h7, h6, h9, h8⟩
theorem lfB_can (e : Evt) : lfB (can e) = lfB e := by
  funext c
  unfold lfB
  show (if c.op = 4 then _ else if c.op = 5 then _ else if c.op = 6 then _ else if c.op = 7 ∨ c.op = 8 then _ else if c.op = 9 then _ else if c.op = 10 then _ else if c.op = 11 then (e.fa.l.map canF).any _ else if c.op = 12 then (e.fa.l.map canF).any _ else if c.op = 13 then (e.fa.l.map canF).any _ else (e.fa.l.map canF).any _) = _
  simp only [List.any_map]
  rfl
theorem hoX_can (e : Evt) (x : SC) : hoX (can e) x = hoX e x := by
  show holdsP (lfB (can e)) _ = _
  rw [lfB_can]
/-- two lists of events say the same -/
abbrev EqC (m l : List Evt) : Prop := m.map can = l.map can
theorem EqC.len {m l : List Evt} (h : EqC m l) : m.length = l.length := by simpa using congrArg List.length h
theorem EqC.ids {m l : List Evt} (h : EqC m l) : idsI m = idsI l := by
  have := congrArg (List.map (·.id)) h
  rw [List.map_map, List.map_map] at this
  exact this
theorem EqC.has {m l : List Evt} (h : EqC m l) (k : List UInt8) : hasI m k = hasI l k := by
  have : (hasI m k = true) = (hasI l k = true) := propext (by rw [has_ids, has_ids, h.ids])
  cases h1 : hasI m k <;> cases h2 : hasI l k <;> simp_all
theorem EqC.filt {m l : List Evt} (h : EqC m l) (p : Evt → Bool) (hp : ∀ e, p (can e) = p e) : EqC (m.filter p) (l.filter p) := by
  have e : ∀ l : List Evt, (l.filter p).map can = (l.map can).filter p := fun l => by
    rw [List.filter_map]
    congr 2
    funext x
    exact (hp x).symm
  unfold EqC
  rw [e, e, h]
/-! ### the list behind the index: the same places -/
theorem fnd_ix {k : List UInt8} : ∀ (l : List Evt) (i : Nat), (hasI l k = false ∧ fndP (fun e => decide (e.id = k)) l i = -1) ∨ ∃ j, hasI l k = true ∧ fndP (fun e => decide (e.id = k)) l i = ((i + j : Nat) : Int) ∧ j < l.length ∧ (∃ e, l[j]? = some e ∧ getI l k = some e ∧ e.id = k) ∧ delI l k = l.eraseIdx j ∧ ∀ e : Evt, e.id = k → putI l e = l.set j e
  | [], i => .inl ⟨rfl, rfl⟩
  | a :: r, i => by
    by_cases h : a.id = k
    · refine .inr ⟨0, ?_, ?_, by simp, ⟨a, rfl, ?_, h⟩, ?_, fun e he => ?_⟩
      · rw [hasI, List.any_cons, decide_eq_true h]; rfl
      · rw [fndP, if_pos (decide_eq_true h), Nat.add_zero]
      · rw [getI, if_pos h.symm]
      · rw [delI, if_pos h.symm]; rfl
      · rw [putI, if_pos (he.trans h.symm)]; rfl
    · have hd : decide (a.id = k) = false := decide_eq_false h
      rcases fnd_ix r (i + 1) with ⟨h1, h2⟩ | ⟨j, h1, h2, h3, ⟨e, he1, he2, he3⟩, h5, h6⟩
      · refine .inl ⟨?_, ?_⟩
        · rw [hasI, List.any_cons, hd, Bool.false_or]; exact h1
        · rw [fndP, if_neg (by rw [hd]; exact Bool.false_ne_true)]; exact h2
      · refine .inr ⟨j + 1, ?_, ?_, by simpa using h3, ⟨e, he1, ?_, he3⟩, ?_, fun e' he' => ?_⟩
        · rw [hasI, List.any_cons, hd, Bool.false_or]; exact h1
        · rw [fndP, if_neg (by rw [hd]; exact Bool.false_ne_true), h2]; congr 1; omega
        · rw [getI, if_neg (Ne.symm h)]; exact he2
        · rw [delI, if_neg (Ne.symm h), h5]; rfl
        · rw [putI, if_neg (fun e => h (e.symm.trans he')), h6 e' he']; rfl
theorem put_new {l : List Evt} {e : Evt} (h : hasI l e.id = false) : putI l e = l ++ [e] := by
  induction l with
  | nil => rfl
  | cons a r ih =>
    rw [hasI, List.any_cons, Bool.or_eq_false_iff] at h
    rw [putI, if_neg (fun he => of_decide_eq_false h.1 he.symm), ih h.2]; rfl
theorem map_putI {m : List Evt} {e : Evt} : (putI m e).map can = (putI (m.map can) (can e)) := by
  induction m with
  | nil => rfl
  | cons a r ih =>
    rw [putI, List.map_cons, putI]
    show _ = if e.id = a.id then _ else _
    split
    · rfl
    · rw [List.map_cons, ih]
theorem map_delI {m : List Evt} {k : List UInt8} : (delI m k).map can = delI (m.map can) k := by
  induction m with
  | nil => rfl
  | cons a r ih =>
    rw [delI, List.map_cons, delI]
    show _ = if k = a.id then _ else _
    split
    · rfl
    · rw [List.map_cons, ih]
theorem EqC.put {m l : List Evt} (h : EqC m l) {a b : Evt} (hab : can a = can b) : EqC (putI m a) (putI l b) := by
  unfold EqC; rw [map_putI, map_putI, h, hab]
theorem EqC.del {m l : List Evt} (h : EqC m l) (k : List UInt8) : EqC (delI m k) (delI l k) := by
  unfold EqC; rw [map_delI, map_delI, h]
/-! ### orders -/
instance : Inhabited Evt := ⟨evZM⟩
def cmpT (a b : Evt) : Int := if cmpJ a.at_ b.at_ ≠ 0 then cmpJ a.at_ b.at_ else cmpB a.id b.id
theorem cmp3_T : Cmp3 cmpT := cmp3_lex (cmp3_J.comap (fun e : Evt => e.at_)) (cmp3_B.comap (fun e : Evt => e.id))
theorem cmpT_id {a b : Evt} (h : cmpT a b = 0) : a.id = b.id := by
  unfold cmpT at h
  split at h
  · exact absurd h ‹_›
  · exact cmpB_zero h
def keyK (by_ : Int) (a b : Evt) : Int := if by_ = 2 then cmpJ a.lv b.lv else if by_ = 3 then cmpJ a.wt b.wt else 0
theorem cmp3_K (by_ : Int) : Cmp3 (keyK by_) := by
  unfold keyK
  split
  · exact cmp3_J.comap (fun e : Evt => e.lv)
  · split
    · exact cmp3_J.comap (fun e : Evt => e.wt)
    · exact ⟨fun _ _ => rfl, fun _ _ _ _ _ => Int.le_refl _⟩
def cmpK (by_ : Int) (a b : Evt) : Int := if keyK by_ a b ≠ 0 then keyK by_ a b else cmpT a b
theorem cmp3_KT (by_ : Int) : Cmp3 (cmpK by_) := cmp3_lex (cmp3_K by_) cmp3_T
theorem cmp3_neg {α : Type} {f : α → α → Int} (h : Cmp3 f) : Cmp3 fun a b => -f a b :=
  ⟨fun a b => by have := h.anti a b; omega, fun a b c h1 h2 => by
    have a1 := h.anti a b
    have a2 := h.anti b c
    have a3 := h.anti a c
    have := h.tr c b a (by omega) (by omega)
    omega⟩
def cmpQ (by_ : Int) (dn : Bool) (a b : Evt) : Int := if dn = true then -cmpK by_ a b else cmpK by_ a b
theorem cmp3_Q (by_ : Int) (dn : Bool) : Cmp3 (cmpQ by_ dn) := by
  cases dn
  · exact cmp3_KT by_
  · exact cmp3_neg (cmp3_KT by_)
theorem cmpQ_id {by_ : Int} {dn : Bool} {a b : Evt} (h : cmpQ by_ dn a b = 0) : a.id = b.id := by
  have h1 : cmpK by_ a b = 0 := by
    unfold cmpQ at h
    split at h <;> omega
  unfold cmpK at h1
  split at h1
  · exact absurd h1 ‹_›
  · exact cmpT_id h1
/-! ### what is found -/
abbrev filI (x : SC) (m : List Evt) : List Evt := m.filter fun e => hoX e x
theorem nodup_uniq {l : List Evt} (h : (idsI l).Nodup) {a b : Evt} (ha : a ∈ l) (hb : b ∈ l) (he : a.id = b.id) : a = b := by
  induction l with
  | nil => cases ha
  | cons c r ih =>
    have h : c.id ∉ idsI r ∧ (idsI r).Nodup := List.nodup_cons.1 h
    rcases List.mem_cons.1 ha with rfl | ha' <;> rcases List.mem_cons.1 hb with rfl | hb'
    · rfl
    · exact absurd (show _ ∈ idsI r from List.mem_map.2 ⟨b, hb', he.symm⟩) h.1
    · exact absurd (show _ ∈ idsI r from List.mem_map.2 ⟨a, ha', he⟩) h.1
    · exact ih h.2 ha' hb'
theorem fil_nodup {x : SC} {m : List Evt} (h : (idsI m).Nodup) : (idsI (filI x m)).Nodup := (List.filter_sublist.map _).nodup h
/-- of lists that hold the same events, sorted lists are one -/
theorem one_of {f : Evt → Evt → Int} (hf : Cmp3 f) (hi : ∀ a b, f a b = 0 → a.id = b.id) {l u v : List Evt} (hn : (idsI l).Nodup) (h1 : u.Perm l) (h2 : v.Perm l) (s1 : u.Pairwise fun a b => f a b ≤ 0) (s2 : v.Pairwise fun a b => f a b ≤ 0) : u = v :=
  sorted_uniq (h1.trans h2.symm) s1 s2 fun a ha b hb h3 h4 => nodup_uniq hn (h1.subset ha) (h1.subset hb) (hi a b (by have := hf.anti a b; omega))
def askL (x : SC) (by_ : Int) (dn : Bool) (m : List Evt) : List Evt := pdqL (cmpQ by_ dn) (filI x m)
theorem ask_facts (x : SC) (by_ : Int) (dn : Bool) (m : List Evt) : (askL x by_ dn m).Perm (filI x m) ∧ (askL x by_ dn m).Pairwise fun a b => cmpQ by_ dn a b ≤ 0 :=
  ⟨(pdqL_facts (swo3 (cmp3_Q by_ dn)) _).1, (pdqL_facts (swo3 (cmp3_Q by_ dn)) _).2.imp fun h => ltOf_f h (cmp3_Q by_ dn)⟩
theorem ask_one {x : SC} {by_ : Int} {dn : Bool} {m u : List Evt} (hn : (idsI m).Nodup) (h1 : u.Perm (filI x m)) (s1 : u.Pairwise fun a b => cmpQ by_ dn a b ≤ 0) : u = askL x by_ dn m :=
  one_of (cmp3_Q by_ dn) (fun _ _ => cmpQ_id) (fil_nodup hn) h1 (ask_facts x by_ dn m).1 s1 (ask_facts x by_ dn m).2
theorem ask_same {x : SC} {by_ : Int} {dn : Bool} {m l : List Evt} (h : EqC m l) (hn : (idsI m).Nodup) : EqC (askL x by_ dn m) (askL x by_ dn l) := by
  have hc : ∀ e : Evt, (can e).id = e.id := fun _ => rfl
  have hn' : (idsI ((filI x m).map can)).Nodup := by
    show (((filI x m).map can).map _).Nodup
    rw [List.map_map]; exact fil_nodup hn
  have hfl : EqC (filI x m) (filI x l) := h.filt _ fun e => hoX_can e x
  have srt : ∀ u : List Evt, (u.Pairwise fun a b => cmpQ by_ dn a b ≤ 0) → (u.map can).Pairwise fun a b => cmpQ by_ dn a b ≤ 0 := fun u hu => by
    rw [List.pairwise_map]; exact hu
  refine one_of (cmp3_Q by_ dn) (fun _ _ => cmpQ_id) hn' ((ask_facts x by_ dn m).1.map _) ?_ (srt _ (ask_facts x by_ dn m).2) (srt _ (ask_facts x by_ dn l).2)
  rw [hfl]
  exact (ask_facts x by_ dn l).1.map _
/-- a list in order of time, sorted anew by a key so that it stays in order where the key says nothing -/
theorem cmp_key {by_ : Int} {l : List Evt} (h : l.Pairwise fun a b => cmpT a b ≤ 0) : l.Pairwise (Cmp (fun a b => cmpK by_ a b ≤ 0) (keyK by_)) := h.imp fun {a b} hab => by
  have h3 := (cmp3_K by_).anti a b
  refine ⟨fun h1 => ?_, fun h1 => ?_⟩
  · show cmpK by_ b a ≤ 0
    unfold cmpK; rw [if_pos (by omega)]; omega
  · show cmpK by_ a b ≤ 0
    unfold cmpK
    by_cases h0 : keyK by_ a b = 0
    · rw [if_neg (by simpa using h0)]; exact hab
    · rw [if_pos h0]; omega
theorem ask_rev {by_ : Int} {l : List Evt} (h : l.Pairwise fun a b => cmpK by_ a b ≤ 0) : l.reverse.Pairwise fun a b => cmpQ by_ true a b ≤ 0 := by
  rw [List.pairwise_reverse]
  refine h.imp fun {a b} hab => ?_
  have := (cmp3_KT by_).anti a b
  unfold cmpQ
  rw [if_pos rfl]; omega
end Go.Proofs.YtekbcbjimajnfaaGreatDoor
end
section
namespace Go.Proofs.YtekbcbjimajnfaaGreatDoor
set_option linter.unusedSimpArgs false
set_option linter.unusedVariables false
set_option maxRecDepth 20000
open Go.RowKit Go.Eng
def intX (n : Int) : List Value := [.int .i64 n]
def orL (l : List Int) : Int := (l.find? fun x => decide (x ≠ 0)).getD 0
theorem orL_pos {a : Int} {r : List Int} (h : ¬ a = 0) : orL (a :: r) = a := by rw [orL, List.find?_cons_of_pos (by simpa using h)]; rfl
theorem orL_neg {a : Int} {r : List Int} (h : a = 0) : orL (a :: r) = orL r := by rw [orL, List.find?_cons_of_neg (by simpa using h)]; rfl
theorem orL2 (m k : Int) : orL [m, k] = if m ≠ 0 then m else k := by
  by_cases h : m = 0
  · rw [orL_neg h, if_neg (by simpa using h)]
    by_cases h2 : k = 0
    · rw [orL_neg h2, h2]; rfl
    · rw [orL_pos h2]
  · rw [orL_pos h, if_pos h]
theorem orX_any (A : Option Addr) (c : Nat) (l : List Int) (w : World) (q : Nat) (hq : q ≤ 1000) (hl : SlT intX 1 w A q l) : Calls Tryz.prog 65 #[.slice A q c] w fun e w' => e = .returned (.int .i64 (orL l)) ∧ Below w.heap.size w w' := by
  refine enter_args (args := [.slice A q c]) (F := _) Tryz.func65 rfl Tryz.ntmps65 rfl rfl ?_
  intro Rb hRb hRn
  refine tx ?_
  refine sr 1 ?_
  refine sgx ?_
  refine sr 1 ?_
  refine sgs ?_
  refine tx ?_
  refine sr 1 ?_
  refine s1 (y_len_slice rfl rfl Tryz.underlying147) ?_
  refine sr 1 ?_
  refine sgo ?_
  refine T_block ?_
  refine lK1 (kf := [(2, 2), (5, 5), (8, 16)]) (kl := [(2, 2), (5, 5), (8, 16)]) (fun (i : Nat) => [(8, true, .int .i64 (i : Int))]) (fun (i : Nat) => []) (fun (i : Nat) => i ≤ q ∧ orL l = orL (l.drop i)) (fun (i : Nat) => q - i) 0 ?_ ?_ ?_ ?_
  · exact ⟨by omega, rfl⟩
  · exact ⟨rfl, trivial⟩
  · exact trivial
  rintro i ⟨hp1, hp2⟩
  refine tx ?_
  refine sr 1 ?_
  refine sgs ?_
  refine T_cond rfl ?_ ?_ <;> intro h9
  · try simp only [nrm] at h9
    obtain ⟨x, hx1, hx2⟩ := hl.at (i := i) (by omega)
    refine kgs ?_
    refine T_block ?_
    refine tx ?_
    refine s1 (y_indexAddr rfl rfl rfl Tryz.underlying147 sz3 (fun hg => hl.isSome (by omega)) (fun _ => by omega)) ?_
    refine s1 (y_loadT1 (val := (fun n : Int => Value.int .i64 n)) rfl rfl hl (fun _ => hx1) Tryz.underlying3 rfl) ?_
    refine sr 1 ?_
    refine sgx ?_
    refine sr 3 ?_
    refine sgo ?_
    refine T_cond rfl ?_ ?_ <;> intro h14
    · try simp only [nrm] at h14
      refine tx ?_
      refine sr 2 ?_
      refine sgo ?_
      refine tr1 hRb fun w hM => ?_
      exact ⟨by rw [hp2, hx2, orL_pos (by simpa using h14)], hM.below⟩
    try simp only [nrm] at h14
    refine kgr ?_
    refine s1 (y_bin rfl rfl rfl (fun hg => b_add (by omega))) ?_
    refine sr 1 ?_
    refine S_nil (nK1 (kf := [(2, 2), (5, 5), (8, 16)]) (kl := [(2, 2), (5, 5), (8, 16)]) (i + 1) ?_ ?_ ?_ ?_)
    · omega
    · exact ⟨by omega, by rw [hp2, hx2]; exact orL_neg (by simpa using h14)⟩
    · exact ⟨rfl, trivial⟩
    · exact trivial
  try simp only [nrm] at h9
  refine egx ?_
  refine sr 2 ?_
  refine sgo ?_
  refine tr1 hRb fun w hM => ?_
  exact ⟨by rw [hp2, hl.end (by omega)]; rfl, hM.below⟩
theorem found1_any (a b : Evt) (w : World) : Calls Tryz.prog 96 #[a.val, b.val] w fun e w' => e = .returned (.int .i64 (cmpT a b)) ∧ Below w.heap.size w w' := by
  refine enter_args (args := [.agg #[str a.id, .int .i64 a.at_, .int .i64 a.lv, .slice a.fa.A a.fa.q a.fa.c, .slice a.ta.A a.ta.q a.ta.c, .slice a.cr.A a.cr.q a.cr.c, str a.rel, str a.us, .int .i64 a.wt], .agg #[str b.id, .int .i64 b.at_, .int .i64 b.lv, .slice b.fa.A b.fa.q b.fa.c, .slice b.ta.A b.ta.q b.ta.c, .slice b.cr.A b.cr.q b.cr.c, str b.rel, str b.us, .int .i64 b.wt]]) (F := _) Tryz.func96 rfl Tryz.ntmps96 rfl rfl ?_
  intro Rb hRb hRn
  refine tx ?_
  refine S_box 2 2 rfl rfl rfl rfl rfl ?_
  intro b2
  refine S_box 3 3 rfl rfl rfl rfl rfl ?_
  intro b3
  refine sr 1 ?_
  refine sgs ?_
  refine T_drawsTail 10 (by kernel_rfl) (by kernel_rfl) ?_
  refine d1 (yF fa31_1) ?_
  refine d1 (yL 2 Tryz.underlying3) ?_
  refine d1 (yF fa31_1) ?_
  refine d1 (yL 3 Tryz.underlying3) ?_
  refine d1 (y_call rfl rfl rfl cf59 (fun _ w _ => cmpJ_any _ _ w)) ?_
  refine d1 (yF fa31_0) ?_
  refine d1 (yL 2 Tryz.underlying9) ?_
  refine d1 (yF fa31_0) ?_
  refine d1 (yL 3 Tryz.underlying9) ?_
  refine d1 (y_call rfl rfl rfl cf66 (fun _ w _ => cmpB_any _ _ w)) ?_
  refine D_tail ?_
  refine S_buildSlice 15 15 rfl rfl rfl rfl rfl Tryz.underlying147 inf3 rfl (by decide) (by decide) rfl rfl (by decide) rfl (_) rfl ?_
  intro b15
  refine s1 (y_call rfl rfl rfl cf65 (fun _ w hM => orX_any _ _ [cmpJ a.at_ b.at_, cmpB a.id b.id] w 2 (by decide) ⟨own_reads hM (i := 15) rfl, rfl⟩)) ?_
  refine sr 1 ?_
  refine sgo ?_
  refine tr1 hRb fun w hM => ?_
  exact ⟨by rw [orL2]; rfl, hM.below⟩
abbrev ownEv (A : Option Addr) (c : Nat) (l : List Evt) : It := .own 31 9 (.slice A l.length c) l.length (l.flatMap Evt.enc)
theorem enc_one (x : Evt) : ∀ v ∈ x.enc, v.oneCell' = true := fun v hv => by
  simp only [Evt.enc, List.mem_cons, List.not_mem_nil, or_false] at hv
  rcases hv with rfl | rfl | rfl | rfl | rfl | rfl | rfl | rfl | rfl <;> rfl
theorem SortT_any {w0 : World} {K : HL} (hK : FromK K) (A : Option Addr) (q c : Nat) (l : List Evt) (w : World) (hlen : l.length = q) (hq : q ≤ 1000000) (hM : Mem w0 ([(0, .own 31 9 (.slice A q c) q (l.flatMap Evt.enc))] ++ K) w) :
    Calls Tryz.prog 63 #[.slice A q c, .func (.func 96) #[] #[]] w fun e w' => ∃ l' : List Evt, e = .returned (.tuple #[]) ∧ l' = pdqL cmpT l ∧ Mem w0 ([(0, .own 31 9 (.slice A q c) q (l'.flatMap Evt.enc))] ++ K) w' :=
  sort_own Tryz.laysSort63 (k := 9) (enc := Evt.enc) Tryz.isAgg31 Tryz.sizeOf31 (fun _ => rfl) enc_one cmpT (swo3 cmp3_T)
    96 #[] cf96 hK 31 A q c l w hlen (by omega) (fun w' _ x y => found1_any x y w') hM
structure FndR where
  A : Option Addr
  c : Nat
  l : List Evt
def FndP (x : SC) (m : List Evt) (z : FndR) : Prop := z.l.Perm (filI x m) ∧ z.l.Pairwise fun a b => cmpT a b ≤ 0
theorem FndP.len {x : SC} {m : List Evt} {z : FndR} (h : FndP x m z) : z.l.length ≤ m.length := by rw [h.1.length_eq]; exact List.length_filter_le _ _
theorem fil_snoc (x : SC) (D : List Evt) (p : Evt) : filI x (D ++ [p]) = filI x D ++ if hoX p x = true then [p] else [] := by
  rw [filI, List.filter_append]
  congr 1
  rw [List.filter_cons]; rfl
set_option maxHeartbeats 1600000 in
theorem found_any {w0 : World} {K : HL} (hK : FromK K) (b bm : Nat) (m : List Evt) (rs : List Row) (x : SC) (w : World) (hix : IxOk w0 rs m) (hok : x.Ok w0) (h0 : chX x = 0) (hmx : MLen w0) (hM0 : Mem w0 ([(901, ixBox b bm), (902, ixMap bm m), (950, .many rs)] ++ K) w) :
    Calls Tryz.prog 56 #[.pointer (some ⟨b, 0, none⟩), x.val] w fun en w' => ∃ z : FndR, en = .returned (.slice z.A z.l.length z.c) ∧ FndP x m z ∧ Mem w0 ([(901, ixBox b bm), (902, ixMap bm m), (950, .many rs), (906, ownEv z.A z.c z.l)] ++ K) w' := by
  have hle := hix.le
  refine enterM_args (args := [.pointer (some ⟨b, 0, none⟩), .agg #[.int .i64 x.op, .slice x.ad x.q x.c, .int .i64 x.lo, .int .i64 x.hi, str x.nm, str x.tx]]) (F := _) hM0 Tryz.func56 rfl Tryz.ntmps56 rfl rfl ?_
  intro Rb hRb hRn
  refine T_many0 900 ?_
  refine tx ?_
  refine S_box 3 3 rfl rfl rfl rfl rfl ?_
  intro b3
  refine S_nilSlice 4 (e := 31) (size := 9) ?_
  refine sr 1 ?_
  refine sgx ?_
  refine s1 (yA 3 rfl Tryz.underlying36 sz36) ?_
  refine S_callM 10 [(900, 900)] (X := FnR) rfl rfl rfl rfl rfl rfl rfl cf95 rfl (fun z => z.v) (FnOk Evt.val EvR w0 [] (fun _ => True) (fun e => hoX e x)) (fun z => [(900, .many z.rs)]) (fun _ => rfl) (fun _ => rfl) (fun K1 hK1 w1 hM => test_any x hK1 [] w1 hok h0 hmx hM) ?_
  intro x10 hx10
  refine sr 1 ?_
  refine sgx ?_
  refine S_nilSlice 906 (e := 31) (size := 9) ?_
  refine S_nilSlice 6 (e := 31) (size := 9) ?_
  refine sr 1 ?_
  refine sgs ?_
  refine tx ?_
  refine sr 1 ?_
  refine s1 (y_nilCheck rfl rfl) ?_
  refine s1 (yF fa89_0) ?_
  refine s1 (yL 901 Tryz.underlying87) ?_
  refine S_rangeM 15 902 15 (fun e : Evt => str e.id) Evt.val m (by rw [List.map_map]; rfl) rfl rfl rfl rfl rfl rfl (kt := 9) Tryz.underlying87 ?_
  intro r15 es15 ck15 hes15
  refine sgo ?_
  refine T_block ?_
  refine lK6 (kf := [(6, 6), (8, 8), (16, 26)]) (kl := [(6, 6), (8, 8), (15, 26), (906, 906)]) (fun (rem : List Evt) (last : Option Evt) (out : List Evt) (q : Nat) (A : Option Addr) (c : Nat) => [(6, true, .slice A q c)]) (fun (rem : List Evt) (last : Option Evt) (out : List Evt) (q : Nat) (A : Option Addr) (c : Nat) => [(15, .blk r15 (IsIt (fun e : Evt => str e.id) Evt.val bm es15 ck15 rem last)), (906, .own 31 9 (.slice A q c) q (out.flatMap Evt.enc))]) (fun (rem : List Evt) (last : Option Evt) (out : List Evt) (q : Nat) (A : Option Addr) (c : Nat) => (∃ D, m.Perm (D ++ rem) ∧ out = filI x D) ∧ out.length = q ∧ q + rem.length ≤ m.length) (fun (rem : List Evt) (last : Option Evt) (out : List Evt) (q : Nat) (A : Option Addr) (c : Nat) => rem.length) m none [] 0 none 0 ?_ ?_ ?_ ?_
  · exact ⟨⟨[], List.Perm.refl _, rfl⟩, rfl, by simp⟩
  · exact ⟨rfl, trivial⟩
  · exact ⟨rfl, rfl, trivial⟩
  rintro rem last out q A c ⟨hs1, hs2, hs3⟩
  refine tx ?_
  refine S_next 16 902 15 rfl rfl rfl rfl rfl rfl rfl ?_
  intro e16 ps16 hn16 hs16
  refine s1 (y_extract (v := .bool e16.isSome) rfl rfl (by cases e16 <;> rfl)) ?_
  refine sgs ?_
  refine T_cond rfl ?_ ?_ <;> intro h17
  · skip
    obtain ⟨p, rfl⟩ := Option.isSome_iff_exists.1 h17
    have hpm := hs16 p rfl
    have hpo := hix.ok p (by obtain ⟨D, d1, _⟩ := hs1; exact d1.mem_iff.2 (List.mem_append_right _ (hpm.mem_iff.2 (List.mem_cons_self ..))))
    refine kgo ?_
    refine T_block ?_
    refine tx ?_
    refine s1 (y_entry 902 15 rfl rfl rfl rfl) ?_
    refine s1 (y_as (v' := .agg #[str p.id, .int .i64 p.at_, .int .i64 p.lv, .slice p.fa.A p.fa.q p.fa.c, .slice p.ta.A p.ta.q p.ta.c, .slice p.cr.A p.cr.q p.cr.c, str p.rel, str p.us, .int .i64 p.wt]) (by exact rfl) (y_extract rfl rfl rfl)) ?_
    refine S_alloc 8 8 rfl rfl rfl rfl z31 ?_
    intro b8
    refine S_store 8 rfl rfl rfl rfl rfl rfl sz31 rfl rfl ?_
    refine sgx ?_
    refine sr 1 ?_
    refine s1 (yA 8 rfl Tryz.underlying31 sz31) ?_
    refine s1 (y_call rfl rfl rfl hx10.cf (fun _ w1 hM => (hx10.sees.at hM 900 rfl trivial).2 w1 (Below.refl _ _) p ⟨hpo.2.at hM 950 rfl, ev_small hpo.1⟩)) ?_
    refine sgo ?_
    refine T_cond rfl ?_ ?_ <;> intro h22
    · skip
      refine T_region ?_
      refine sr 1 ?_
      refine s1 (yA 8 rfl Tryz.underlying31 sz31) ?_
      refine S_buildSlice 25 25 rfl rfl rfl rfl rfl Tryz.underlying25 inf31 rfl (by decide) (by decide) rfl rfl (by decide) rfl (_) rfl ?_
      intro b25
      obtain ⟨i26, hi26, hz26, hs26, hy26⟩ := info_parts inf31
      refine S_append 26 906 25 rfl rfl rfl rfl rfl rfl rfl rfl Tryz.underlying25 hi26 hz26 hs26 hy26 rfl (by decide) (by decide) rfl ?_ ?_ (q + 1) ((out ++ [p]).flatMap Evt.enc) ?_ ?_ ?_
      · (simp only [maxLen]; omega)
      · omega
      · rfl
      · simp [List.flatMap_append, Evt.enc]; rfl
      intro A26 c26
      refine sr 1 ?_
      refine S_nil (nK6 (kf := [(6, 6), (8, 8), (16, 26)]) (kl := [(6, 6), (8, 8), (15, 26), (906, 906)]) ps16 (some p) (out ++ [p]) (q + 1) A26 c26 ?_ ?_ ?_ ?_)
      · have := hpm.length_eq; simp at this; omega
      · have := hpm.length_eq
        simp at this
        obtain ⟨D, d1, d2⟩ := hs1
        exact ⟨⟨D ++ [p], d1.trans (by rw [List.append_assoc]; exact List.Perm.append_left D hpm), by rw [fil_snoc, if_pos h22, d2]⟩, by simp [hs2], by omega⟩
      · exact ⟨rfl, trivial⟩
      · exact ⟨rfl, rfl, trivial⟩
    refine T_skip (nK6 (kf := [(6, 6), (8, 8), (16, 26)]) (kl := [(6, 6), (8, 8), (15, 26), (906, 906)]) ps16 (some p) out q A c ?_ ?_ ?_ ?_)
    · have := hpm.length_eq; simp at this; omega
    · have := hpm.length_eq
      simp at this
      obtain ⟨D, d1, d2⟩ := hs1
      exact ⟨⟨D ++ [p], d1.trans (by rw [List.append_assoc]; exact List.Perm.append_left D hpm), by rw [fil_snoc, if_neg (by rw [show hoX p x = false from h22]; exact Bool.false_ne_true), d2, List.append_nil]⟩, hs2, by omega⟩
    · exact ⟨rfl, trivial⟩
    · exact ⟨rfl, rfl, trivial⟩
  have hq0 : e16 = none := by simpa using h17
  have hr0 := hn16 hq0
  refine egx ?_
  refine S_remap 902 rfl hes15 ?_
  refine sr 1 ?_
  refine S_callM 28 [(0, 906)] (X := List Evt) rfl rfl rfl rfl rfl rfl rfl cf63 rfl (fun _ => .tuple #[]) (fun l => l = pdqL cmpT out) (fun l => [(0, .own 31 9 (.slice A q c) q (l.flatMap Evt.enc))]) (fun _ => rfl) (fun _ => rfl) (fun K1 hK1 w1 hM => SortT_any hK1 A q c out w1 hs2 (by omega) hM) ?_
  intro sl hsl
  refine sgx ?_
  refine sr 2 ?_
  refine sgo ?_
  refine tr1 hRb fun w hM => ?_
  have hf := pdqL_facts (swo3 cmp3_T) out
  obtain ⟨D, d1, d2⟩ := hs1
  rw [hr0, List.append_nil] at d1
  have hln : sl.length = q := by rw [hsl, hf.1.length_eq, hs2]
  have e9 : ownEv A c sl = .own 31 9 (.slice A q c) q (sl.flatMap Evt.enc) := by unfold ownEv; rw [hln]
  refine ⟨⟨A, c, sl⟩, by rw [hln], ⟨?_, ?_⟩, ?_⟩
  · show sl.Perm _
    rw [hsl]; refine hf.1.trans ?_; rw [d2]; exact (d1.filter _).symm
  · show sl.Pairwise _
    rw [hsl]; exact hf.2.imp fun h => ltOf_f h cmp3_T
  · show Mem w0 ([_, _, _, (906, ownEv A c sl)] ++ K) _
    rw [e9]
    exact hM.keep (ks := [(0, 999)]) (by repeat (first | exact kl_rest (by assumption) rfl | (apply kl_in; focus rfl))) _ ⟨rfl, rfl, rfl, rfl, trivial⟩
end Go.Proofs.YtekbcbjimajnfaaGreatDoor
end
section
namespace Go.Proofs.YtekbcbjimajnfaaGreatDoor
set_option linter.unusedSimpArgs false
set_option linter.unusedVariables false
set_option maxRecDepth 20000
open Go.RowKit Go.Eng
theorem take1_pw {α : Type} {R : α → α → Prop} : ∀ l : List α, (l.take 1).Pairwise R
  | [] => .nil
  | a :: r => by simp
theorem pair_at {α : Type} {C : α → α → Prop} {P : List α} {x y : α} {k : Nat} (h : P.Pairwise C) (hy : y ∈ P.take k) (hx : P[k]? = some x) : C y x := by
  obtain ⟨i, hi, hy⟩ := mem_take_at hy
  obtain ⟨h1, rfl⟩ := List.getElem?_eq_some_iff.1 hx
  obtain ⟨h2, rfl⟩ := List.getElem?_eq_some_iff.1 hy
  exact List.pairwise_iff_getElem.1 h i k h2 h1 hi
theorem some_at {α : Type} {l : List α} {i : Nat} (h : i < l.length) : ∃ x, l[i]? = some x := ⟨_, List.getElem?_eq_getElem h⟩
theorem swapV_any {w0 : World} {K : HL} (hK : FromK K) (cf : Value) (A : Option Addr) (q c : Nat) (X U M V Yt : List Evt) (n a b : Nat) (hU : U.length = n) (hV : V.length = n) (ha : X.length = a) (hb : a + n + M.length = b) (hq : (X ++ U ++ M ++ V ++ Yt).length = q) (hqm : q ≤ 1000000000) (w : World)
    (hM0 : Mem w0 ([(0, .own 31 9 (.slice A q c) q ((X ++ U ++ M ++ V ++ Yt).flatMap Evt.enc))] ++ K) w) :
    Calls Tryz.prog 233 #[.slice A q c, .int .i64 (a : Int), .int .i64 (b : Int), .int .i64 (n : Int), cf] w fun e w' => ∃ _ : Unit, e = .returned (.tuple #[]) ∧ True ∧ Mem w0 ([(0, .own 31 9 (.slice A q c) q ((X ++ V ++ M ++ U ++ Yt).flatMap Evt.enc))] ++ K) w' := by
  rw [← swR_0] at hM0
  simp only [List.length_append] at hq
  refine enterM_args (args := [.slice A q c, .int .i64 (a : Int), .int .i64 (b : Int), .int .i64 (n : Int), cf]) (F := _) hM0 Tryz.func233 rfl Tryz.ntmps233 rfl rfl ?_
  intro Rb hRb hRn
  refine T_some 0 rfl fun hA => ?_
  refine tx ?_
  refine sr 1 ?_
  refine sgo ?_
  refine T_block ?_
  refine lK1 (kf := [(10, 37)]) (kl := [(0, 0), (10, 37)]) (fun (i : Nat) => [(10, true, .int .i64 (i : Int))]) (fun (i : Nat) => [(0, .own 31 9 (.slice A q c) q ((swR X U M V Yt i).flatMap Evt.enc))]) (fun (i : Nat) => i ≤ n) (fun (i : Nat) => n - i) 0 ?_ ?_ ?_ ?_
  · omega
  · exact ⟨rfl, trivial⟩
  · exact ⟨rfl, trivial⟩
  rintro i hp1
  refine T_seq ?_
  refine tx ?_
  refine sr 3 ?_
  refine sgo ?_
  refine T_cond rfl ?_ ?_ <;> intro h13
  · try simp only [nrm] at h13
    obtain ⟨u, hu⟩ := some_at (l := U) (i := i) (by omega)
    obtain ⟨v, hv⟩ := some_at (l := V) (i := i) (by omega)
    refine kgs ?_
    refine T_block ?_
    refine T_perm [0, 1, 2, 3, 4, 5, 6, 7, 8, 9, 10, 11, 12, 13, 14, 15, 16, 17, 18, 19, 20, 21, 22, 23] [true, true, true, true, true, true, true, true, true, true, true, true, true, true, true, true, true, true, true, true, true, false, true, false] [0, 0, 0, 6, 0, 0, 0, 96, 0, 0, 0, 1536, 3840, 7936, 0, 0, 0, 98304, 245760, 507904, 1048335, 2096911, 4194303, 8388607] [(13, [0]), (19, [0])] (by kernel_rfl) (by kernel_rfl) (by kernel_rfl) rfl (by kernel_rfl) ?_
    refine Rf_ 0 16 rfl rfl rfl rfl rfl _ trivial (Y.z (y_move rfl rfl) rfl) ?_
    refine Rf_ 1 17 rfl rfl rfl rfl rfl _ trivial (Y.z (y_move rfl rfl) rfl) ?_
    refine Rf_ 2 18 rfl rfl rfl rfl rfl _ trivial (Y.z (y_move rfl rfl) rfl) ?_
    refine Rf_ 3 19 rfl rfl rfl rfl rfl _ trivial (Y.z (y_bin rfl rfl rfl (fun hg => b_addv (((a + i : Nat) : Int)) (by omega) (by omega))) rfl) ?_
    refine Rf_ 4 20 rfl rfl rfl rfl rfl _ trivial (Y.z (y_move rfl rfl) rfl) ?_
    refine Rf_ 5 21 rfl rfl rfl rfl rfl _ trivial (Y.z (y_move rfl rfl) rfl) ?_
    refine Rf_ 6 22 rfl rfl rfl rfl rfl _ trivial (Y.z (y_move rfl rfl) rfl) ?_
    refine Rf_ 7 23 rfl rfl rfl rfl rfl _ trivial (Y.z (y_bin rfl rfl rfl (fun hg => b_addv (((b + i : Nat) : Int)) (by omega) (by omega))) rfl) ?_
    refine Rf_ 8 24 rfl rfl rfl rfl rfl _ trivial (Y.z (y_move rfl rfl) rfl) ?_
    refine Rf_ 9 25 rfl rfl rfl rfl rfl _ trivial (Y.z (y_move rfl rfl) rfl) ?_
    refine Rf_ 10 26 rfl rfl rfl rfl rfl _ trivial (Y.z (y_move rfl rfl) rfl) ?_
    refine Rf_ 11 27 rfl rfl rfl rfl rfl _ trivial (Y.z (y_bin rfl rfl rfl (fun hg => b_addv (((b + i : Nat) : Int)) (by omega) (by omega))) rfl) ?_
    refine Rf_ 12 28 rfl rfl rfl rfl rfl _ trivial (Y.z (y_indexAddr rfl rfl rfl Tryz.underlying25 sz31 (fun hg => hA (by omega)) (fun _ => by omega)) rfl) ?_
    refine Rf_ 13 29 rfl rfl rfl rfl rfl _ ⟨rfl, trivial⟩ (Y.z (y_loadO 0 rfl rfl rfl (by rw [swR_len]; simp only [List.length_append]; omega) (fun _ => rfl) (fun _ => swR_at2 hu hv (by omega)) Tryz.underlying31 rfl sz31) rfl) ?_
    refine Rf_ 14 30 rfl rfl rfl rfl rfl _ trivial (Y.z (y_move rfl rfl) rfl) ?_
    refine Rf_ 15 31 rfl rfl rfl rfl rfl _ trivial (Y.z (y_move rfl rfl) rfl) ?_
    refine Rf_ 16 32 rfl rfl rfl rfl rfl _ trivial (Y.z (y_move rfl rfl) rfl) ?_
    refine Rf_ 17 33 rfl rfl rfl rfl rfl _ trivial (Y.z (y_bin rfl rfl rfl (fun hg => b_addv (((a + i : Nat) : Int)) (by omega) (by omega))) rfl) ?_
    refine Rf_ 18 34 rfl rfl rfl rfl rfl _ trivial (Y.z (y_indexAddr rfl rfl rfl Tryz.underlying25 sz31 (fun hg => hA (by omega)) (fun _ => by omega)) rfl) ?_
    refine Rf_ 19 35 rfl rfl rfl rfl rfl _ ⟨rfl, trivial⟩ (Y.z (y_loadO 0 rfl rfl rfl (by rw [swR_len]; simp only [List.length_append]; omega) (fun _ => rfl) (fun _ => swR_at1 hu hv (by omega)) Tryz.underlying31 rfl sz31) rfl) ?_
    refine Rf_ 20 36 rfl rfl rfl rfl rfl _ trivial (Y.z (y_indexAddr rfl rfl rfl Tryz.underlying25 sz31 (fun hg => hA (by omega)) (fun _ => by omega)) rfl) ?_
    refine R_chain 21 rfl rfl ?_
    refine S_storeEl 0 rfl rfl rfl rfl rfl rfl sz31 rfl rfl rfl ?_ (xs' := ((swR X U M V Yt i).set (a + i) v).flatMap Evt.enc) ?_ ?_
    · omega
    · exact flat_setE (enc := Evt.enc) (size := 9) (fun _ => rfl) (by rw [swR_len]; simp only [List.length_append]; omega)
    refine R_next ⟨.inl rfl, .inl rfl, trivial⟩ ?_
    refine Rf_ 22 37 rfl rfl rfl rfl rfl _ trivial (Y.z (y_indexAddr rfl rfl rfl Tryz.underlying25 sz31 (fun hg => hA (by omega)) (fun _ => by omega)) rfl) ?_
    refine R_chain 23 rfl rfl ?_
    refine S_storeEl 0 rfl rfl rfl rfl rfl rfl sz31 rfl rfl rfl ?_ (xs' := (swR X U M V Yt (i + 1)).flatMap Evt.enc) ?_ ?_
    · omega
    · rw [flat_setE (enc := Evt.enc) (size := 9) (fun _ => rfl) (by rw [List.length_set, swR_len]; simp only [List.length_append]; omega), swR_step hu hv (by omega) (by omega)]
    refine R_next ⟨.inl rfl, .inl rfl, trivial⟩ ?_
    refine R_go (fun _ _ h => h) ?_
    refine T_region ?_
    refine sr 1 ?_
    refine s1 (y_bin rfl rfl rfl (fun hg => b_addv (((i + 1 : Nat) : Int)) (by omega) (by omega))) ?_
    refine sr 1 ?_
    refine S_nil (nK1 (kf := [(10, 37)]) (kl := [(0, 0), (10, 37)]) (i + 1) ?_ ?_ ?_ ?_)
    · omega
    · omega
    · exact ⟨rfl, trivial⟩
    · exact ⟨rfl, trivial⟩
  try simp only [nrm] at h13
  refine T_exit (fun a w hF hM => hRn a w (post0 rfl (fun w hM => ?_) a w hF hM))
  exact ⟨(), rfl, trivial, hM.keep (ks := [(0, 999)]) (by repeat (first | exact kl_rest (by assumption) rfl | (apply kl_in; focus rfl))) _ ⟨by rw [← swR_end (X := X) (U := U) (M := M) (V := V) (Y := Yt) (i := i) (by omega) (by omega)]; rfl, trivial⟩⟩
theorem insV_any {R : Evt → Evt → Prop} (tr : ∀ x y z, R x y → R y z → R x z) {cf : Evt → Evt → Int} (g : FuncId) (cap : Array Value) (hcf : ∀ args w, (callFunc g args).run Tryz.prog w = .ok (.enter g args) w)
    {w0 : World} {pit : It} (hcmp : ∀ x y w L, Mem w0 L w → HL.get L 901 = some pit → Calls Tryz.prog g (#[.agg (Evt.enc x).toArray, .agg (Evt.enc y).toArray] ++ cap) w fun e w' => e = .returned (.int .i64 (cf x y)) ∧ Below w.heap.size w w')
    {K : HL} (hK : FromK K) (A : Option Addr) (q c : Nat) (X P Yt : List Evt) (a b : Nat) (ha : X.length = a) (hb : a + P.length = b) (hq : (X ++ P ++ Yt).length = q) (hqm : q ≤ 1000000000) (hP : P.Pairwise (Cmp R cf)) (w : World)
    (hM0 : Mem w0 ([(0, .own 31 9 (.slice A q c) q ((X ++ P ++ Yt).flatMap Evt.enc)), (901, pit)] ++ K) w) :
    Calls Tryz.prog 169 #[.slice A q c, .int .i64 (a : Int), .int .i64 (b : Int), .func (.func g) #[] cap] w fun e w' => ∃ W : List Evt, e = .returned (.tuple #[]) ∧ (W.Perm P ∧ W.Pairwise R) ∧ Mem w0 ([(0, .own 31 9 (.slice A q c) q ((X ++ W ++ Yt).flatMap Evt.enc)), (901, pit)] ++ K) w' := by
  rw [show X ++ P ++ Yt = X ++ P.take 1 ++ P.drop 1 ++ Yt from by rw [List.append_assoc X (P.take 1), List.take_append_drop]] at hM0
  simp only [List.length_append] at hq
  refine enterM_args (args := [.slice A q c, .int .i64 (a : Int), .int .i64 (b : Int), .func (.func g) #[] cap]) (F := _) hM0 Tryz.func169 rfl Tryz.ntmps169 rfl rfl ?_
  intro Rb hRb hRn
  refine T_some 0 rfl fun hA => ?_
  refine tx ?_
  refine sr 1 ?_
  refine s1 (y_bin rfl rfl rfl (fun hg => b_addv (((a + 1 : Nat) : Int)) (by omega) (by omega))) ?_
  refine sr 1 ?_
  refine sgo ?_
  refine T_block ?_
  refine lK2 (kf := [(8, 9), (12, 52)]) (kl := [(0, 0), (8, 9), (12, 52)]) (fun (k : Nat) (W : List Evt) => [(8, true, .int .i64 ((a + k : Nat) : Int))]) (fun (k : Nat) (W : List Evt) => [(0, .own 31 9 (.slice A q c) q ((X ++ W ++ P.drop k ++ Yt).flatMap Evt.enc))]) (fun (k : Nat) (W : List Evt) => 1 ≤ k ∧ (k ≤ P.length ∨ k = 1) ∧ W.Perm (P.take k) ∧ W.Pairwise R) (fun (k : Nat) (W : List Evt) => P.length - k) 1 (P.take 1) ?_ ?_ ?_ ?_
  · exact ⟨by omega, .inr rfl, .refl _, take1_pw P⟩
  · exact ⟨rfl, trivial⟩
  · exact ⟨rfl, trivial⟩
  rintro k W ⟨hp1, hp2, hp3, hp4⟩
  refine T_seq ?_
  refine tx ?_
  refine sr 3 ?_
  refine sgo ?_
  refine T_cond rfl ?_ ?_ <;> intro h14
  · try simp only [nrm] at h14
    obtain ⟨x, hx⟩ := some_at (l := P) (i := k) (by omega)
    have hWl : W.length = k := by rw [hp3.length_eq, List.length_take]; omega
    have hdl : (P.drop (k + 1)).length = P.length - (k + 1) := List.length_drop
    rw [show X ++ W ++ P.drop k ++ Yt = insL X W x k (P.drop (k + 1) ++ Yt) from by rw [insL_eq, drop_at hx, List.take_of_length_le (show W.length ≤ k by omega), List.drop_eq_nil_of_le (show W.length ≤ k by omega)]; simp]
    refine kgs ?_
    refine T_block ?_
    refine tx ?_
    refine sr 2 ?_
    refine sgo ?_
    refine T_block ?_
    refine lK1 (kf := [(9, 9), (18, 52)]) (kl := [(0, 0), (9, 9), (18, 52)]) (fun (t : Nat) => [(9, true, .int .i64 ((a + t : Nat) : Int))]) (fun (t : Nat) => [(0, .own 31 9 (.slice A q c) q ((insL X W x t (P.drop (k + 1) ++ Yt)).flatMap Evt.enc))]) (fun (t : Nat) => t ≤ k ∧ ∀ y ∈ W.drop t, R x y) (fun (t : Nat) => t) k ?_ ?_ ?_ ?_
    · exact ⟨by omega, fun y hy => by rw [List.drop_eq_nil_of_le (by omega)] at hy; cases hy⟩
    · exact ⟨rfl, trivial⟩
    · exact ⟨rfl, trivial⟩
    rintro t ⟨hr1, hr2⟩
    obtain ⟨y, hy⟩ : ∃ y, 0 < t → W[t - 1]? = some y := if h : 0 < t then (some_at (l := W) (i := t - 1) (by omega)).imp fun _ h _ => h else ⟨x, fun h2 => absurd h2 h⟩
    refine T_seq ?_
    refine T_seq ?_
    refine T_draws (by kernel_rfl) (by kernel_rfl) ?_
    refine d1 (y_move rfl rfl) ?_
    refine d1 (y_move rfl rfl) ?_
    refine d1 (y_bin rfl rfl rfl (fun _ => b_gtr)) ?_
    refine d1 (y_move rfl rfl) ?_
    refine dg rfl (y_move rfl rfl) ?_
    refine dg rfl (y_move rfl rfl) ?_
    refine dg rfl (y_move rfl rfl) ?_
    refine dg rfl (y_indexAddr rfl rfl rfl Tryz.underlying25 sz31 (fun hg => hA (by simp only [Bool.true_and, Bool.and_eq_true, beq_iff_eq, decide_eq_true_eq, decide_eq_false_iff_not, Int.not_lt, Int.not_le] at hg; omega)) (fun hg => by simp only [Bool.true_and, Bool.and_eq_true, beq_iff_eq, decide_eq_true_eq, decide_eq_false_iff_not, Int.not_lt, Int.not_le] at hg; omega)) ?_
    refine dg rfl (y_loadO 0 rfl rfl rfl (by rw [insL_len]; simp only [List.length_append]; omega) (fun _ => rfl) (fun _ => insL_at (by omega) (by omega)) Tryz.underlying31 rfl sz31) ?_
    refine dg rfl (y_move rfl rfl) ?_
    refine dg rfl (y_move rfl rfl) ?_
    refine dg rfl (y_bin rfl rfl rfl (fun hg => b_subv (((a + t - 1 : Nat) : Int)) (by simp only [Bool.true_and, Bool.and_eq_true, beq_iff_eq, decide_eq_true_eq, decide_eq_false_iff_not, Int.not_lt, Int.not_le] at hg; omega) (by simp only [Bool.true_and, Bool.and_eq_true, beq_iff_eq, decide_eq_true_eq, decide_eq_false_iff_not, Int.not_lt, Int.not_le] at hg; omega))) ?_
    refine dg rfl (y_indexAddr rfl rfl rfl Tryz.underlying25 sz31 (fun hg => hA (by simp only [Bool.true_and, Bool.and_eq_true, beq_iff_eq, decide_eq_true_eq, decide_eq_false_iff_not, Int.not_lt, Int.not_le] at hg; omega)) (fun hg => by simp only [Bool.true_and, Bool.and_eq_true, beq_iff_eq, decide_eq_true_eq, decide_eq_false_iff_not, Int.not_lt, Int.not_le] at hg; omega)) ?_
    refine dg rfl (y_loadO 0 rfl rfl rfl (by rw [insL_len]; simp only [List.length_append]; omega) (fun _ => rfl) (fun hg => insL_lo (t := t) (i := t - 1) (by simp only [Bool.true_and, Bool.and_eq_true, beq_iff_eq, decide_eq_true_eq, decide_eq_false_iff_not, Int.not_lt, Int.not_le] at hg; omega) (hy (by simp only [Bool.true_and, Bool.and_eq_true, beq_iff_eq, decide_eq_true_eq, decide_eq_false_iff_not, Int.not_lt, Int.not_le] at hg; omega)) (by simp only [Bool.true_and, Bool.and_eq_true, beq_iff_eq, decide_eq_true_eq, decide_eq_false_iff_not, Int.not_lt, Int.not_le] at hg; omega)) Tryz.underlying31 rfl sz31) ?_
    refine dg rfl (y_call rfl rfl rfl hcf (fun _ w hM => hcmp x y w _ hM rfl)) ?_
    refine dg rfl (y_bin rfl rfl rfl (fun _ => b_lss)) ?_
    refine d1 (y_and rfl rfl rfl) ?_
    refine dgo ?_
    refine T_cond rfl ?_ ?_ <;> intro h34
    · skip
      simp only [Bool.and_eq_true, decide_eq_true_eq] at h34
      obtain ⟨s, rfl⟩ : ∃ s, t = s + 1 := ⟨t - 1, by omega⟩
      have hy1 : W[s]? = some y := hy (by omega)
      have hxy : R x y := (pair_at hP (hp3.mem_iff.1 (mem_at hy1)) hx).1 h34.2
      refine kgs ?_
      refine T_block ?_
      refine T_perm [0, 1, 2, 3, 4, 5, 6, 7, 8, 9, 10, 11, 12, 13, 14, 15, 16, 17] [true, true, true, true, true, true, true, true, true, true, true, true, true, true, true, false, true, false] [0, 0, 0, 0, 8, 0, 0, 64, 224, 480, 0, 0, 3072, 7168, 16355, 32739, 65535, 131071] [(9, [0]), (13, [0])] (by kernel_rfl) (by kernel_rfl) (by kernel_rfl) rfl (by kernel_rfl) ?_
      refine Rf_ 0 37 rfl rfl rfl rfl rfl _ trivial (Y.z (y_move rfl rfl) rfl) ?_
      refine Rf_ 1 38 rfl rfl rfl rfl rfl _ trivial (Y.z (y_move rfl rfl) rfl) ?_
      refine Rf_ 2 39 rfl rfl rfl rfl rfl _ trivial (Y.z (y_move rfl rfl) rfl) ?_
      refine Rf_ 3 40 rfl rfl rfl rfl rfl _ trivial (Y.z (y_move rfl rfl) rfl) ?_
      refine Rf_ 4 41 rfl rfl rfl rfl rfl _ trivial (Y.z (y_bin rfl rfl rfl (fun hg => b_subv (((a + s : Nat) : Int)) (by omega) (by omega))) rfl) ?_
      refine Rf_ 5 42 rfl rfl rfl rfl rfl _ trivial (Y.z (y_move rfl rfl) rfl) ?_
      refine Rf_ 6 43 rfl rfl rfl rfl rfl _ trivial (Y.z (y_move rfl rfl) rfl) ?_
      refine Rf_ 7 44 rfl rfl rfl rfl rfl _ trivial (Y.z (y_bin rfl rfl rfl (fun hg => b_subv (((a + s : Nat) : Int)) (by omega) (by omega))) rfl) ?_
      refine Rf_ 8 45 rfl rfl rfl rfl rfl _ trivial (Y.z (y_indexAddr rfl rfl rfl Tryz.underlying25 sz31 (fun hg => hA (by omega)) (fun _ => by omega)) rfl) ?_
      refine Rf_ 9 46 rfl rfl rfl rfl rfl _ ⟨rfl, trivial⟩ (Y.z (y_loadO 0 rfl rfl rfl (by rw [insL_len]; simp only [List.length_append]; omega) (fun _ => rfl) (fun _ => insL_prev hy1 (by omega)) Tryz.underlying31 rfl sz31) rfl) ?_
      refine Rf_ 10 47 rfl rfl rfl rfl rfl _ trivial (Y.z (y_move rfl rfl) rfl) ?_
      refine Rf_ 11 48 rfl rfl rfl rfl rfl _ trivial (Y.z (y_move rfl rfl) rfl) ?_
      refine Rf_ 12 49 rfl rfl rfl rfl rfl _ trivial (Y.z (y_indexAddr rfl rfl rfl Tryz.underlying25 sz31 (fun hg => hA (by omega)) (fun _ => by omega)) rfl) ?_
      refine Rf_ 13 50 rfl rfl rfl rfl rfl _ ⟨rfl, trivial⟩ (Y.z (y_loadO 0 rfl rfl rfl (by rw [insL_len]; simp only [List.length_append]; omega) (fun _ => rfl) (fun _ => insL_at (by omega) (by omega)) Tryz.underlying31 rfl sz31) rfl) ?_
      refine Rf_ 14 51 rfl rfl rfl rfl rfl _ trivial (Y.z (y_indexAddr rfl rfl rfl Tryz.underlying25 sz31 (fun hg => hA (by omega)) (fun _ => by omega)) rfl) ?_
      refine R_chain 15 rfl rfl ?_
      refine S_storeEl 0 rfl rfl rfl rfl rfl rfl sz31 rfl rfl rfl ?_ (xs' := ((insL X W x (s + 1) (P.drop (k + 1) ++ Yt)).set (a + (s + 1)) y).flatMap Evt.enc) ?_ ?_
      · omega
      · exact flat_setE (enc := Evt.enc) (size := 9) (fun _ => rfl) (by rw [insL_len]; simp only [List.length_append]; omega)
      refine R_next ⟨.inl rfl, .inl rfl, trivial⟩ ?_
      refine Rf_ 16 52 rfl rfl rfl rfl rfl _ trivial (Y.z (y_indexAddr rfl rfl rfl Tryz.underlying25 sz31 (fun hg => hA (by omega)) (fun _ => by omega)) rfl) ?_
      refine R_chain 17 rfl rfl ?_
      refine S_storeEl 0 rfl rfl rfl rfl rfl rfl sz31 rfl rfl rfl ?_ (xs' := (insL X W x s (P.drop (k + 1) ++ Yt)).flatMap Evt.enc) ?_ ?_
      · omega
      · rw [flat_setE (enc := Evt.enc) (size := 9) (fun _ => rfl) (by rw [List.length_set, insL_len]; simp only [List.length_append]; omega), insL_dn hy1 (by omega) (by omega)]
      refine R_next ⟨.inl rfl, .inl rfl, trivial⟩ ?_
      refine R_go (fun _ _ h => h) ?_
      refine T_region ?_
      refine sr 1 ?_
      refine s1 (y_bin rfl rfl rfl (fun hg => b_subv (((a + s : Nat) : Int)) (by omega) (by omega))) ?_
      refine sr 1 ?_
      refine S_nil (nK1 (kf := [(9, 9), (18, 52)]) (kl := [(0, 0), (9, 9), (18, 52)]) s ?_ ?_ ?_ ?_)
      · omega
      · exact ⟨by omega, fun z hz => by
          rw [drop_at hy1] at hz
          rcases List.mem_cons.1 hz with rfl | hz
          · exact hxy
          · exact hr2 z hz⟩
      · exact ⟨rfl, trivial⟩
      · exact ⟨rfl, trivial⟩
    have hend : 0 < t → ¬ cf x y < 0 := fun h => by
      simp only [Bool.and_eq_false_iff, decide_eq_false_iff_not] at h34
      omega
    rw [insL_fold]
    refine egr ?_
    refine sr 1 ?_
    refine s1 (y_bin rfl rfl rfl (fun hg => b_addv (((a + (k + 1) : Nat) : Int)) (by omega) (by omega))) ?_
    refine sr 1 ?_
    refine S_nil (nK2 (kf := [(8, 9), (12, 52)]) (kl := [(0, 0), (8, 9), (12, 52)]) (k + 1) (W.take t ++ x :: W.drop t) ?_ ?_ ?_ ?_)
    · omega
    · exact ⟨by omega, .inl (by omega), ins_perm.trans ((hp3.cons x).trans (by rw [take_snoc hx]; exact (List.perm_append_comm (l₁ := [x])))), ins_sorted tr hp4 (by omega) (fun z h0 hz => by rw [hy h0] at hz; obtain rfl := Option.some.inj hz; exact (pair_at hP (hp3.mem_iff.1 (mem_at (hy h0))) hx).2 (hend h0)) (fun z hz => hr2 z (by rw [drop_at hz]; exact List.mem_cons_self))⟩
    · exact ⟨rfl, trivial⟩
    · exact ⟨rfl, trivial⟩
  try simp only [nrm] at h14
  refine T_exit (fun a w hF hM => hRn a w (post0 rfl (fun w hM => ?_) a w hF hM))
  have hk : P.length ≤ k := by omega
  exact ⟨W, rfl, ⟨by rwa [List.take_of_length_le hk] at hp3, hp4⟩, hM.keep (ks := [(0, 999)]) (by repeat (first | exact kl_rest (by assumption) rfl | (apply kl_in; focus rfl))) _ ⟨by rw [List.drop_eq_nil_of_le hk, List.append_nil]; rfl, rfl, trivial⟩⟩
end Go.Proofs.YtekbcbjimajnfaaGreatDoor
end
section
namespace Go.Proofs.YtekbcbjimajnfaaGreatDoor
set_option linter.unusedSimpArgs false
set_option linter.unusedVariables false
set_option maxRecDepth 20000
open Go.RowKit Go.Eng
/-- i elements from each end are turned -/
def revS (l : List Evt) (i : Nat) : List Evt := (List.range l.length).map fun k => if k < i ∨ l.length - i ≤ k then l[l.length - 1 - k]! else l[k]!
theorem revS_len (l : List Evt) (i : Nat) : (revS l i).length = l.length := by simp [revS]
theorem revS_at {l : List Evt} {i k : Nat} (h : k < l.length) : (revS l i)[k]? = some (if k < i ∨ l.length - i ≤ k then l[l.length - 1 - k]! else l[k]!) := by
  unfold revS
  rw [List.getElem?_map, List.getElem?_range h]; rfl
theorem revS_zero (l : List Evt) : revS l 0 = l := by
  refine List.ext_getElem? fun k => ?_
  by_cases h : k < l.length
  · rw [revS_at h, if_neg (by omega), List.getElem!_eq_getElem?_getD, List.getElem?_eq_getElem h]; rfl
  · rw [List.getElem?_eq_none (by rw [revS_len]; omega), List.getElem?_eq_none (by omega)]
theorem revS_end {l : List Evt} {i : Nat} (h : l.length ≤ 2 * i + 1) : revS l i = l.reverse := by
  refine List.ext_getElem? fun k => ?_
  by_cases hk : k < l.length
  · rw [revS_at hk, List.getElem?_reverse hk, List.getElem?_eq_getElem (by omega)]
    congr 1
    split
    · rw [List.getElem!_eq_getElem?_getD, List.getElem?_eq_getElem (by omega)]; rfl
    · have e : l.length - 1 - k = k := by omega
      rw [List.getElem!_eq_getElem?_getD, List.getElem?_eq_getElem hk]
      simp only [e]; rfl
  · rw [List.getElem?_eq_none (by rw [revS_len]; omega), List.getElem?_eq_none (by rw [List.length_reverse]; omega)]
theorem revS_step {l : List Evt} {i : Nat} (h : 2 * i + 2 ≤ l.length) : ((revS l i).set i l[l.length - 1 - i]!).set (l.length - 1 - i) l[i]! = revS l (i + 1) := by
  refine List.ext_getElem? fun k => ?_
  by_cases hk : k < l.length
  · rw [List.getElem?_set, List.getElem?_set, List.length_set, revS_len, revS_at hk, revS_at hk]
    by_cases h1 : l.length - 1 - i = k
    · rw [if_pos h1, if_pos (by omega), if_pos (by omega)]
      have e : l.length - 1 - k = i := by omega
      rw [e]
    · rw [if_neg h1]
      by_cases h2 : i = k
      · subst h2; rw [if_pos rfl, if_pos hk, if_pos (by omega)]
      · rw [if_neg h2]
        congr 1
        by_cases h3 : k < i ∨ l.length - i ≤ k
        · rw [if_pos h3, if_pos (by omega)]
        · rw [if_neg h3, if_neg (by omega)]
  · rw [List.getElem?_eq_none (by rw [List.length_set, List.length_set, revS_len]; omega), List.getElem?_eq_none (by rw [revS_len]; omega)]
theorem Reverse_any {w0 : World} {K : HL} (hK : FromK K) (A : Option Addr) (q c : Nat) (l : List Evt) (hq : l.length = q) (hqm : q ≤ 1000000000) (w : World)
    (hM0 : Mem w0 ([(0, .own 31 9 (.slice A q c) q (l.flatMap Evt.enc))] ++ K) w) :
    Calls Tryz.prog 60 #[.slice A q c] w fun e w' => ∃ _ : Unit, e = .returned (.tuple #[]) ∧ True ∧ Mem w0 ([(0, .own 31 9 (.slice A q c) q (l.reverse.flatMap Evt.enc))] ++ K) w' := by
  rw [← revS_zero l] at hM0
  refine enterM_args (args := [.slice A q c]) (F := _) hM0 Tryz.func60 rfl Tryz.ntmps60 rfl rfl ?_
  intro Rb hRb hRn
  refine T_some 0 rfl fun hA => ?_
  refine tx ?_
  refine sr 1 ?_
  refine s1 (y_len_slice rfl rfl Tryz.underlying25) ?_
  refine s1 (y_as (v' := .int .i64 ((q : Int) - 1 - ((0 : Nat) : Int))) (by congr 1; omega) (y_bin rfl rfl rfl (fun hg => b_sub (by omega)))) ?_
  refine sr 2 ?_
  refine sgo ?_
  refine T_block ?_
  refine lK1 (kf := [(2, 3), (7, 27)]) (kl := [(0, 0), (2, 3), (7, 27)]) (fun (i : Nat) => [(2, true, .int .i64 (i : Int)), (3, true, .int .i64 ((q : Int) - 1 - (i : Int)))]) (fun (i : Nat) => [(0, .own 31 9 (.slice A q c) q ((revS l i).flatMap Evt.enc))]) (fun (i : Nat) => 2 * i ≤ q) (fun (i : Nat) => q - i) 0 ?_ ?_ ?_ ?_
  · omega
  · exact ⟨rfl, rfl, trivial⟩
  · exact ⟨rfl, trivial⟩
  rintro i hp1
  refine T_seq ?_
  refine tx ?_
  refine sr 3 ?_
  refine sgo ?_
  refine T_cond rfl ?_ ?_ <;> intro h9
  · try simp only [nrm] at h9
    have hu : (revS l i)[i]? = some l[i]! := by rw [revS_at (by omega), if_neg (by omega)]
    have hv : (revS l i)[q - 1 - i]? = some l[l.length - 1 - i]! := by rw [revS_at (by omega), if_neg (by omega), hq]
    refine kgs ?_
    refine T_block ?_
    refine T_perm [0, 1, 2, 3, 4, 5, 6, 7, 8, 9, 10, 11, 12, 13, 14, 15] [true, true, true, true, true, true, true, true, true, true, true, true, true, false, true, false] [0, 0, 0, 0, 0, 0, 48, 112, 0, 0, 768, 1792, 4083, 8179, 16383, 32767] [(7, [0]), (11, [0])] (by kernel_rfl) (by kernel_rfl) (by kernel_rfl) rfl (by kernel_rfl) ?_
    refine Rf_ 0 14 rfl rfl rfl rfl rfl _ trivial (Y.z (y_move rfl rfl) rfl) ?_
    refine Rf_ 1 15 rfl rfl rfl rfl rfl _ trivial (Y.z (y_move rfl rfl) rfl) ?_
    refine Rf_ 2 16 rfl rfl rfl rfl rfl _ trivial (Y.z (y_move rfl rfl) rfl) ?_
    refine Rf_ 3 17 rfl rfl rfl rfl rfl _ trivial (Y.z (y_as (v' := .int .i64 ((q - 1 - i : Nat) : Int)) (by congr 1; omega) (y_move rfl rfl)) rfl) ?_
    refine Rf_ 4 18 rfl rfl rfl rfl rfl _ trivial (Y.z (y_move rfl rfl) rfl) ?_
    refine Rf_ 5 19 rfl rfl rfl rfl rfl _ trivial (Y.z (y_as (v' := .int .i64 ((q - 1 - i : Nat) : Int)) (by congr 1; omega) (y_move rfl rfl)) rfl) ?_
    refine Rf_ 6 20 rfl rfl rfl rfl rfl _ trivial (Y.z (y_indexAddr rfl rfl rfl Tryz.underlying25 sz31 (fun hg => hA (by omega)) (fun _ => by omega)) rfl) ?_
    refine Rf_ 7 21 rfl rfl rfl rfl rfl _ ⟨rfl, trivial⟩ (Y.z (y_loadO 0 rfl rfl rfl (by rw [revS_len]; omega) (fun _ => rfl) (fun _ => hv) Tryz.underlying31 rfl sz31) rfl) ?_
    refine Rf_ 8 22 rfl rfl rfl rfl rfl _ trivial (Y.z (y_move rfl rfl) rfl) ?_
    refine Rf_ 9 23 rfl rfl rfl rfl rfl _ trivial (Y.z (y_move rfl rfl) rfl) ?_
    refine Rf_ 10 24 rfl rfl rfl rfl rfl _ trivial (Y.z (y_indexAddr rfl rfl rfl Tryz.underlying25 sz31 (fun hg => hA (by omega)) (fun _ => by omega)) rfl) ?_
    refine Rf_ 11 25 rfl rfl rfl rfl rfl _ ⟨rfl, trivial⟩ (Y.z (y_loadO 0 rfl rfl rfl (by rw [revS_len]; omega) (fun _ => rfl) (fun _ => hu) Tryz.underlying31 rfl sz31) rfl) ?_
    refine Rf_ 12 26 rfl rfl rfl rfl rfl _ trivial (Y.z (y_indexAddr rfl rfl rfl Tryz.underlying25 sz31 (fun hg => hA (by omega)) (fun _ => by omega)) rfl) ?_
    refine R_chain 13 rfl rfl ?_
    refine S_storeEl 0 rfl rfl rfl rfl rfl rfl sz31 rfl rfl rfl ?_ (xs' := ((revS l i).set i l[l.length - 1 - i]!).flatMap Evt.enc) ?_ ?_
    · omega
    · exact flat_setE (enc := Evt.enc) (size := 9) (fun _ => rfl) (by rw [revS_len]; omega)
    refine R_next ⟨.inl rfl, .inl rfl, trivial⟩ ?_
    refine Rf_ 14 27 rfl rfl rfl rfl rfl _ trivial (Y.z (y_indexAddr rfl rfl rfl Tryz.underlying25 sz31 (fun hg => hA (by omega)) (fun _ => by omega)) rfl) ?_
    refine R_chain 15 rfl rfl ?_
    refine S_storeEl 0 rfl rfl rfl rfl rfl rfl sz31 rfl rfl rfl ?_ (xs' := (revS l (i + 1)).flatMap Evt.enc) ?_ ?_
    · omega
    · rw [flat_setE (enc := Evt.enc) (size := 9) (fun _ => rfl) (by rw [List.length_set, revS_len]; omega), ← revS_step (by omega), hq]
    refine R_next ⟨.inl rfl, .inl rfl, trivial⟩ ?_
    refine R_go (fun _ _ h => h) ?_
    refine T_region ?_
    refine sr 1 ?_
    refine s1 (y_bin rfl rfl rfl (fun hg => b_addv (((i + 1 : Nat) : Int)) (by omega) (by omega))) ?_
    refine sr 1 ?_
    refine s1 (y_as (v' := .int .i64 ((q : Int) - 1 - ((i + 1 : Nat) : Int))) (by congr 1; omega) (y_bin rfl rfl rfl (fun hg => b_sub (by omega)))) ?_
    refine sr 2 ?_
    refine S_nil (nK1 (kf := [(2, 3), (7, 27)]) (kl := [(0, 0), (2, 3), (7, 27)]) (i + 1) ?_ ?_ ?_ ?_)
    · omega
    · omega
    · exact ⟨rfl, rfl, trivial⟩
    · exact ⟨rfl, trivial⟩
  try simp only [nrm] at h9
  refine T_exit (fun a w hF hM => hRn a w (post0 rfl (fun w hM => ?_) a w hF hM))
  exact ⟨(), rfl, trivial, hM.keep (ks := [(0, 999)]) (by repeat (first | exact kl_rest (by assumption) rfl | (apply kl_in; focus rfl))) _ ⟨by rw [← revS_end (l := l) (i := i) (by omega)]; rfl, trivial⟩⟩
end Go.Proofs.YtekbcbjimajnfaaGreatDoor
end
