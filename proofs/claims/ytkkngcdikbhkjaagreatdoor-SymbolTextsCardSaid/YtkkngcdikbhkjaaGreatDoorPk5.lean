/- Part 5, merged by a program. symbol.Text and the reference's TableText make the same lines of a right table. Conditions: those of each theorem. The reference's taker. Conditions: those of each theorem. The reference's TableRead. Conditions: those of each theorem. The reference's TableBytes of a right table. Conditions: those of each theorem. slices.Equal of several kinds, and tables that are the same. Conditions: those of each theorem. -/
import Derived.Test.YtkkngcdikbhkjaaGreatDoorTail
import Derived.Test.YtkkngcdikbhkjaaGreatDoorSjn
import Derived.Test.YtkkngcdikbhkjaaGreatDoorGrd
import Derived.Shelf.Strings.OnBuilder
import Derived.Test.YtkkngcdikbhkjaaGreatDoorEqS
import Derived.Test.YtkkngcdikbhkjaaGreatDoorPk4
section
namespace Go.Proofs.YtkkngcdikbhkjaaGreatDoor
set_option linter.unusedSimpArgs false
set_option linter.unusedVariables false
set_option maxRecDepth 20000
open Go.RowKit Go.Eng
def intE9 (n : Int) : List Value := [.int .i64 n]
theorem Join_any (A : Option Addr) (q c : Nat) (l : List (List UInt8)) (w : World) (hl : SlT strEnc 1 w A q l) (hq : 0 < q) (hcap : q ≤ c) (hlen : (Lib.join l [32]).length ≤ 140737488355328) (h47 : q ≤ 1000000) :
    Calls Tryz.prog 263 #[.slice A q c, str [32]] w fun e w' => e = .returned (str (Lib.join l [32])) ∧ Below w.heap.size w w' := by
  obtain ⟨ad, rfl, hlt, hc⟩ := hl.rd.2 hq
  obtain ⟨bk, o, sp⟩ := ad
  have hll := hl.len
  have hx : ∀ (j : Nat) (s : List UInt8), l[j]? = some s → w.cell? ((⟨bk, o, sp⟩ : Addr).add j) = some (str s) := fun j s hj => hc j (str s) (by rw [strs_flat, List.getElem?_map, hj]; rfl)
  have hsp : sp = none := by
    obtain ⟨s, hs⟩ : ∃ s, l[0]? = some s := ⟨_, List.getElem?_eq_getElem (by omega)⟩
    have h := hx 0 s hs
    cases sp with
    | none => rfl
    | some k =>
      rw [show (⟨bk, o, some k⟩ : Addr).add 0 = ⟨bk, o, some k⟩ from rfl] at h
      unfold World.cell? at h
      split at h
      · simp at h
      · cases h
  subst hsp
  have hm : (l.map fun s => (⟨s.toArray⟩ : ByteArray)).map (·.data.toList) = l := by rw [List.map_map]; exact (List.map_congr_left fun s _ => rfl).trans (List.map_id l)
  have h := Any.strings_Join Tryz.lays156 Tryz.Builder_Extra_156 bk o c (l.map fun s => ⟨s.toArray⟩) ⟨#[32]⟩ w (fun j x hj => by
      rw [List.getElem?_map] at hj
      obtain ⟨s, hs, rfl⟩ := Option.map_eq_some_iff.1 hj
      have := hx j s hs
      rwa [show (⟨bk, o, none⟩ : Addr).add j = ⟨bk, o + j, none⟩ from by unfold Addr.add; split <;> simp_all] at this) hlt (by rw [List.length_map]; omega) (by rw [List.length_map]; omega) (by rw [hm]; exact hlen)
  rw [hm, List.length_map, hll] at h
  exact h
def numsB (l : List Int) : List UInt8 := l.flatMap fun n => [32] ++ Lib.itoa n
theorem numsB_le : ∀ l : List Int, (∀ n ∈ l, -9223372036854775808 ≤ n ∧ n ≤ 9223372036854775807) → (numsB l).length ≤ l.length * 22
  | [], _ => by simp [numsB]
  | a :: r, h => by
    have h1 := numsB_le r fun n hn => h n (List.mem_cons_of_mem _ hn)
    obtain ⟨h2, h3⟩ := h a (List.mem_cons_self ..)
    have h4 := Lib.itoa_length_le a h2 h3
    have e : numsB (a :: r) = ([32] ++ Lib.itoa a) ++ numsB r := rfl
    rw [e, List.length_append, List.length_append, List.length_cons, List.length_cons, List.length_nil]; omega
theorem numbers_any (A : Option Addr) (q c : Nat) (l : List Int) (w : World) (hl : SlT intE9 1 w A q l) (hq : q ≤ 1000) (hn : ∀ n ∈ l, -9223372036854775808 ≤ n ∧ n ≤ 9223372036854775807) (hP : P10 w) :
    Calls Tryz.prog 121 #[.slice A q c] w fun e w' => e = .returned (str (numsB l)) ∧ Below w.heap.size w w' := by
  have hlen := hl.len
  have hle := numsB_le l hn
  refine enter_args (args := [.slice A q c]) (F := _) Tryz.func121 rfl Tryz.ntmps121 rfl rfl ?_
  intro Rb hRb hRn
  refine T_seq ?_
  refine T_region ?_
  refine S_ 2 rfl rfl rfl _ (y_assign rfl rfl) ?_
  refine S_go (fun _ _ h => h) ?_
  refine T_seq ?_
  refine T_region ?_
  refine S_ 3 rfl rfl rfl _ (y_assign rfl rfl) ?_
  refine S_go (fun _ _ h => h) ?_
  refine T_seq ?_
  refine T_seq ?_
  refine T_region ?_
  refine S_ 6 rfl rfl rfl _ (y_move rfl rfl) ?_
  refine S_ 7 rfl rfl rfl _ (y_len_slice rfl rfl Tryz.underlying212) ?_
  refine S_ 8 rfl rfl rfl _ (y_move rfl rfl) ?_
  refine S_go (fun _ _ h => h) ?_
  refine T_block ?_
  refine T_loopK2 (kf := [(3, 3), (5, 5), (8, 17)]) (kl := [(3, 3), (5, 5), (8, 17)]) (fun (i : Nat) (L : List UInt8) => [(8, true, .int .i64 (i : Int)), (3, true, str L)]) (fun (i : Nat) (L : List UInt8) => []) (fun (i : Nat) (L : List UInt8) => i ≤ q ∧ L ++ numsB (l.drop i) = numsB l) (fun (i : Nat) (L : List UInt8) => q - i) 0 [] (by repeat (first | exact kf_nil | (apply kf_in; focus rfl) | (apply kf_out; focus rfl))) (by repeat (first | exact kl_nil | exact kl_rest (by assumption) rfl | (apply kl_in; focus rfl) | (apply kl_out; focus rfl))) ?_ ?_ ?_ ?_
  · exact ⟨by omega, rfl⟩
  · exact ⟨rfl, rfl, trivial⟩
  · exact trivial
  rintro i L ⟨hp1, hp2⟩
  refine T_seq ?_
  refine T_region ?_
  refine S_ 9 rfl rfl rfl _ (y_bin rfl rfl rfl (fun _ => b_lss)) ?_
  refine S_go (fun _ _ h => h) ?_
  refine T_seq ?_
  refine T_cond rfl (fun h9 => ?_) (fun h9 => ?_)
  · try simp only [decide_eq_true_eq, decide_eq_false_iff_not, Bool.or_eq_true, Bool.or_eq_false_iff, Bool.and_eq_true, Bool.and_eq_false_iff, Bool.not_eq_true', Bool.not_eq_false', Bool.not_eq_true, Bool.not_eq_false, Bool.not_true, Bool.not_false, Int.not_lt, Int.not_le, not_or, not_and, Classical.not_not] at h9
    obtain ⟨x, hx1, hx2⟩ := hl.at (i := i) (by omega)
    have hx3 := hn x (mem_at hx1)
    have hx4 := Lib.itoa_length_le x hx3.1 hx3.2
    have hlx := congrArg List.length hp2
    rw [hx2, show numsB (x :: l.drop (i + 1)) = ([32] ++ Lib.itoa x) ++ numsB (l.drop (i + 1)) from rfl, List.length_append] at hlx
    refine T_skip_go (fun _ _ h => h) ?_
    refine T_seq ?_
    refine T_block ?_
    refine T_seq ?_
    refine T_region ?_
    refine S_ 10 rfl rfl rfl _ (y_indexAddr rfl rfl rfl Tryz.underlying212 sz3 (fun hg => hl.isSome (by omega)) (fun _ => by omega)) ?_
    refine S_ 11 rfl rfl rfl _ (y_loadT1 (val := (fun n : Int => Value.int .i64 n)) rfl rfl hl (fun _ => hx1) Tryz.underlying3 rfl) ?_
    refine S_ 5 rfl rfl rfl _ (y_assign rfl rfl) ?_
    refine S_go (fun _ _ h => h) ?_
    refine T_region ?_
    refine S_ 12 rfl rfl rfl _ (y_move rfl rfl) ?_
    refine S_ 13 rfl rfl rfl _ (y_move rfl rfl) ?_
    refine S_ 14 rfl rfl rfl _ (y_call rfl rfl rfl cf124 (fun _ w hM => Itoa_any x hx3.1 hx3.2 w (hP.below hM.below))) ?_
    refine S_ 15 rfl rfl rfl _ (y_bin rfl rfl rfl (fun hg => b_adds (by first | omega | (simp only [List.length_append, List.length_cons, List.length_nil]; omega)))) ?_
    refine S_ 16 rfl rfl rfl _ (y_bin rfl rfl rfl (fun hg => b_adds (by first | omega | (simp only [List.length_append, List.length_cons, List.length_nil]; omega)))) ?_
    refine S_ 3 rfl rfl rfl _ (y_assign rfl rfl) ?_
    refine S_go (fun _ _ h => h) ?_
    refine T_region ?_
    refine S_ 17 rfl rfl rfl _ (y_bin rfl rfl rfl (fun hg => b_add (by omega))) ?_
    refine S_ 8 rfl rfl rfl _ (y_move rfl rfl) ?_
    refine S_nil (nextK2 (kf := [(3, 3), (5, 5), (8, 17)]) (kl := [(3, 3), (5, 5), (8, 17)]) (i + 1) (L ++ ([32] ++ Lib.itoa x)) (by repeat (first | exact kf_nil | (apply kf_in; focus rfl) | (apply kf_out; focus rfl))) (by repeat (first | exact kl_nil | exact kl_rest (by assumption) rfl | (apply kl_in; focus rfl) | (apply kl_out; focus rfl))) ?_ ?_ ?_ ?_)
    · omega
    · exact ⟨by omega, by rw [← hp2, hx2, List.append_assoc]; rfl⟩
    · exact ⟨rfl, rfl, trivial⟩
    · exact trivial
  · try simp only [decide_eq_true_eq, decide_eq_false_iff_not, Bool.or_eq_true, Bool.or_eq_false_iff, Bool.and_eq_true, Bool.and_eq_false_iff, Bool.not_eq_true', Bool.not_eq_false', Bool.not_eq_true, Bool.not_eq_false, Bool.not_true, Bool.not_false, Int.not_lt, Int.not_le, not_or, not_and, Classical.not_not] at h9
    have e1 : L = numsB l := by rw [hl.end (by omega)] at hp2; simpa [numsB] using hp2
    refine T_exit_go (fun _ _ h => h) ?_
    refine T_seq ?_
    refine T_region ?_
    refine S_ 18 rfl rfl rfl _ (y_move rfl rfl) ?_
    refine S_ 2 rfl rfl rfl _ (y_assign rfl rfl) ?_
    refine S_go (fun _ _ h => h) ?_
    refine T_ret (fun a w hF hM => hRb a w (post1 rfl rfl (fun w hM => ?_) a w hF hM))
    exact ⟨by rw [e1], hM.below⟩
theorem numsB_one (n : Int) : numsB [n] = [32] ++ Lib.itoa n := by simp [numsB]

theorem line_any (A : Option Addr) (q c : Nat) (l : List (List UInt8)) (w : World) (h : Sl.Ok strEnc 1 w ⟨A, q, c, l⟩) (hq : 0 < q) (h47 : q ≤ 1000) (hlen : (jn 32 l).length ≤ 1000000) :
    Calls Tryz.prog 125 #[.slice A q c] w fun e w' => e = .returned (str (lnB l)) ∧ Below w.heap.size w w' := by
  have hj : Lib.join l [32] = jn 32 l := jn_join 32 l
  refine enter_args (args := [.slice A q c]) (F := _) Tryz.func125 rfl Tryz.ntmps125 rfl rfl ?_
  intro Rb hRb hRn
  refine T_seq ?_
  refine T_region ?_
  refine S_ 2 rfl rfl rfl _ (y_assign rfl rfl) ?_
  refine S_go (fun _ _ h => h) ?_
  refine T_seq ?_
  refine T_region ?_
  refine S_ 3 rfl rfl rfl _ (y_move rfl rfl) ?_
  refine S_ 4 rfl rfl rfl _ (y_as (v' := str (jn 32 l)) (by rw [hj]) (y_call rfl rfl rfl cf263 (fun _ w1 hM => Join_any A q c l w1 (h.t.below hM.below) hq h.cap (by rw [hj]; omega) (by omega)))) ?_
  refine S_ 5 rfl rfl rfl _ (y_bin rfl rfl rfl (fun hg => b_adds (by first | omega | (simp only [List.length_append, List.length_cons, List.length_nil]; omega)))) ?_
  refine S_ 2 rfl rfl rfl _ (y_assign rfl rfl) ?_
  refine S_go (fun _ _ h => h) ?_
  refine T_ret (fun a w hF hM => hRb a w (post1 rfl rfl (fun w hM => ?_) a w hF hM))
  exact ⟨rfl, hM.below⟩
/-! ### Lengths -/
theorem it_len {n : Int} (h : -1 ≤ n ∧ n ≤ 4611686018427387904) : (it n).length ≤ 21 := Lib.itoa_length_le n (by omega) (by omega)
theorem headT_le {id : List UInt8} {size : Int} (h : id.length ≤ 38) (hs : -1 ≤ size ∧ size ≤ 4611686018427387904) : (jn 32 (headW id size)).length ≤ 399 ∧ (lnB (headW id size)).length ≤ 400 := by
  have := it_len hs
  simp only [lnB, headW, jn, kTab, List.length_append, List.length_cons, List.length_nil]; omega
theorem fileT_le {s : List UInt8} (h : s.length ≤ 200) : (jn 32 (fileW s)).length ≤ 399 ∧ (lnB (fileW s)).length ≤ 400 := by
  simp only [lnB, fileW, jn, kFil, List.length_append, List.length_cons, List.length_nil]; omega
theorem funcT_le {f : SFunc} (h : f.name.length ≤ 200) (h1 : -1 ≤ f.fr ∧ f.fr ≤ 4611686018427387904) (h2 : -1 ≤ f.tu ∧ f.tu ≤ 4611686018427387904) : (jn 32 (funcW f)).length ≤ 399 ∧ (lnB (funcW f)).length ≤ 400 := by
  have := it_len h1
  have := it_len h2
  simp only [lnB, funcW, jn, kFun, List.length_append, List.length_cons, List.length_nil]; omega
theorem rowT_le {r : SRow} (h1 : -1 ≤ r.pos ∧ r.pos ≤ 4611686018427387904) (h2 : -1 ≤ r.fi ∧ r.fi ≤ 4611686018427387904) (h3 : -1 ≤ r.ln ∧ r.ln ≤ 4611686018427387904) : (jn 32 (rowW r)).length ≤ 399 ∧ (lnB (rowW r)).length ≤ 400 := by
  have := it_len h1
  have := it_len h2
  have := it_len h3
  simp only [lnB, rowW, jn, kRow, List.length_append, List.length_cons, List.length_nil]; omega
theorem callT_le {c : SCall} (h : c.name.length ≤ 200) (h1 : -1 ≤ c.fr ∧ c.fr ≤ 4611686018427387904) (h2 : -1 ≤ c.tu ∧ c.tu ≤ 4611686018427387904) (h3 : -1 ≤ c.fi ∧ c.fi ≤ 4611686018427387904) (h4 : -1 ≤ c.ln ∧ c.ln ≤ 4611686018427387904) : (jn 32 (callW c)).length ≤ 399 ∧ (lnB (callW c)).length ≤ 400 := by
  have := it_len h1
  have := it_len h2
  have := it_len h3
  have := it_len h4
  simp only [lnB, callW, jn, kCal, List.length_append, List.length_cons, List.length_nil]; omega
def qT1 (p : PT) : List UInt8 := lnB (headW p.id p.size) ++ filesT p.fi
def qT2 (p : PT) : List UInt8 := qT1 p ++ funcsT p.fu
def qT3 (p : PT) : List UInt8 := qT2 p ++ rowsT p.ro
def textNo (t : Tab) : Int := fst (tabNo t) (if (1000000 : Int) < (tabT t.pl).length then 4 else 0)
def textS (t : Tab) : List UInt8 := if textNo t = 0 then tabT t.pl else []
set_option maxHeartbeats 1600000 in
theorem Text_any (t : Tab) (w : World) (hok : t.Ok w) (hP : P10 w) :
    Calls Tryz.prog 28 #[.agg #[str t.id, .int .i64 t.size, .slice t.fi.A t.fi.q t.fi.c, .slice t.fu.A t.fu.q t.fu.c, .slice t.ro.A t.ro.q t.ro.c, .slice t.ca.A t.ca.q t.ca.c]] w fun e w' => e = .returned (.tuple #[str (textS t), .int .i64 (textNo t)]) ∧ Below w.heap.size w w' := by
  have hq := hok.small
  refine enter_args (args := [.agg #[str t.id, .int .i64 t.size, .slice t.fi.A t.fi.q t.fi.c, .slice t.fu.A t.fu.q t.fu.c, .slice t.ro.A t.ro.q t.ro.c, .slice t.ca.A t.ca.q t.ca.c]]) (F := _) Tryz.func28 rfl Tryz.ntmps28 rfl rfl ?_
  intro Rb hRb hRn
  refine T_seq ?_
  refine T_region ?_
  refine S_box 1 1 rfl rfl rfl rfl rfl ?_
  intro b1
  refine S_ 2 rfl rfl rfl _ (y_assign rfl rfl) ?_
  refine S_ 3 rfl rfl rfl _ (y_assign rfl rfl) ?_
  refine S_go (fun _ _ h => h) ?_
  refine T_seq ?_
  refine T_seq ?_
  refine T_region ?_
  refine S_ 15 rfl rfl rfl _ (y_loadA 1 rfl rfl rfl Tryz.underlying62 rfl sz62) ?_
  refine S_ 16 rfl rfl rfl _ (y_call rfl rfl rfl cf123 (fun _ w1 hM => CheckTable_any t w1 (hok.below hM.below))) ?_
  refine S_ 4 rfl rfl rfl _ (y_assign rfl rfl) ?_
  refine S_go (fun _ _ h => h) ?_
  refine T_seq ?_
  refine T_region ?_
  refine S_ 17 rfl rfl rfl _ (y_move rfl rfl) ?_
  refine S_ 18 rfl rfl rfl _ (y_bin rfl rfl rfl (fun _ => b_neq)) ?_
  refine S_go (fun _ _ h => h) ?_
  refine T_cond rfl (fun h18 => ?_) (fun h18 => ?_)
  · try simp only [decide_eq_true_eq, decide_eq_false_iff_not, Bool.or_eq_true, Bool.or_eq_false_iff, Bool.and_eq_true, Bool.and_eq_false_iff, Bool.not_eq_true', Bool.not_eq_false', Bool.not_eq_true, Bool.not_eq_false, Bool.not_true, Bool.not_false, Int.not_lt, Int.not_le, not_or, not_and, Classical.not_not] at h18
    refine T_seq ?_
    refine T_region ?_
    refine S_ 19 rfl rfl rfl _ (y_move rfl rfl) ?_
    refine S_ 2 rfl rfl rfl _ (y_assign rfl rfl) ?_
    refine S_ 3 rfl rfl rfl _ (y_assign rfl rfl) ?_
    refine S_go (fun _ _ h => h) ?_
    refine T_ret (fun a w hF hM => hRb a w (post2 rfl rfl rfl (fun w hM => ?_) a w hF hM))
    have e : textNo t = tabNo t := fst_a rfl h18
    have e2 : textS t = [] := if_neg (by rw [e]; exact h18)
    exact ⟨by rw [e, e2], hM.below⟩
  · try simp only [decide_eq_true_eq, decide_eq_false_iff_not, Bool.or_eq_true, Bool.or_eq_false_iff, Bool.and_eq_true, Bool.and_eq_false_iff, Bool.not_eq_true', Bool.not_eq_false', Bool.not_eq_true, Bool.not_eq_false, Bool.not_true, Bool.not_false, Int.not_lt, Int.not_le, not_or, not_and, Classical.not_not] at h18
    have hR := rightT h18
    have hs := hR.size
    have hqs := hR.qs
    have hid : t.id.length ≤ 38 := by have := hR.head.1; simp only [headB, List.length_append] at this; omega
    have hhd := headT_le (size := t.size) hid (by omega)
    have hh4 : 4 ≤ (lnB (headW t.id t.size)).length := by simp only [lnB, headW, jn, kTab, List.length_append, List.length_cons, List.length_nil]; omega
    refine T_skip_go (fun _ _ h => h) ?_
    refine T_seq ?_
    refine T_region ?_
    refine S_alloc 5 5 rfl rfl rfl rfl z189 ?_
    intro b5
    refine S_nilSlice 900 (e := 5) (size := 1) ?_
    refine S_go (fun _ _ h => h) ?_
    refine T_seq ?_
    refine T_region ?_
    refine S_ 6 rfl rfl rfl _ (y_assign rfl rfl) ?_
    refine S_go (fun _ _ h => h) ?_
    refine T_seq ?_
    refine T_drawsTail 6 (by kernel_rfl) (by kernel_rfl) ?_
    refine D_ 20 rfl rfl rfl _ (y_fieldAddr rfl rfl fa62_0) ?_
    refine D_ 21 rfl rfl rfl _ (y_load 1 rfl rfl rfl rfl Tryz.underlying9 rfl) ?_
    refine D_ 22 rfl rfl rfl _ (y_move rfl rfl) ?_
    refine D_ 23 rfl rfl rfl _ (y_fieldAddr rfl rfl fa62_1) ?_
    refine D_ 24 rfl rfl rfl _ (y_load 1 rfl rfl rfl rfl Tryz.underlying3 rfl) ?_
    refine D_ 25 rfl rfl rfl _ (y_call rfl rfl rfl cf124 (fun _ w1 hM => Itoa_any _ (by omega) (by omega) w1 (hP.below hM.below))) ?_
    refine D_tail ?_
    refine S_buildSlice 26 26 rfl rfl rfl rfl rfl Tryz.underlying57 inf9 rfl (by decide) (by decide) rfl rfl (by decide) rfl ((headW t.id t.size).flatMap strEnc) ?_ ?_
    · rfl
    intro b26
    refine S_ 27 rfl rfl rfl _ (y_call rfl rfl rfl cf125 (fun hg w1 hM => line_any _ 3 _ (headW t.id t.size) w1 (owned_ok hM rfl (i := 26) rfl) (by decide) (by decide) (by have := (hhd).1; omega))) ?_
    refine S_callM 28 [(0, 5), (1, 900)] (X := Option Addr × Nat) rfl rfl rfl rfl rfl rfl rfl cf120 rfl (fun _ => .tuple #[.int .i64 (lnB (headW t.id t.size)).length, .nilIface]) (fun _ => True) (fun z0 => [(0, bB b5 (selfP b5) z0.1 z0.2 ([] ++ lnB (headW t.id t.size))), (1, bR z0.1 z0.2 ([] ++ lnB (headW t.id t.size)))]) (fun _ => rfl) (fun _ => rfl) (fun K1 hK1 w hM => (WStr_any hK1 b5 _ _ _ ([]) (lnB (headW t.id t.size)) (.inl rfl) (by simp only [List.length_nil]; omega) w hM).mono fun e w1 h => h.elim fun x h => ⟨x, h.1, trivial, h.2.2⟩) ?_
    intro x28 hx28
    refine S_go (fun _ _ h => h) ?_
    refine T_seq ?_
    refine T_seq ?_
    refine T_region ?_
    refine S_ 29 rfl rfl rfl _ (y_fieldAddr rfl rfl fa62_2) ?_
    refine S_ 30 rfl rfl rfl _ (y_load 1 rfl rfl rfl rfl Tryz.underlying57 rfl) ?_
    refine S_ 31 rfl rfl rfl _ (y_len_slice rfl rfl Tryz.underlying57) ?_
    refine S_ 32 rfl rfl rfl _ (y_move rfl rfl) ?_
    refine S_go (fun _ _ h => h) ?_
    refine T_block ?_
    refine T_loopK4 (kf := [(8, 8), (32, 40)]) (kl := [(5, 5), (8, 8), (32, 40), (900, 900)]) (fun (i : Nat) (l : List UInt8) (A : Option Addr) (c : Nat) => [(32, true, .int .i64 (i : Int))]) (fun (i : Nat) (l : List UInt8) (A : Option Addr) (c : Nat) => [(5, bB b5 (selfP b5) A c l), (900, bR A c l)]) (fun (i : Nat) (l : List UInt8) (A : Option Addr) (c : Nat) => i ≤ t.fi.q ∧ l ++ filesT (t.fi.l.drop i) = qT1 t.pl ∧ l.length ≤ 400 + i * 400 ∧ 4 ≤ l.length) (fun (i : Nat) (l : List UInt8) (A : Option Addr) (c : Nat) => t.fi.q - i) 0 (lnB (headW t.id t.size)) x28.1 x28.2 (by repeat (first | exact kf_nil | (apply kf_in; focus rfl) | (apply kf_out; focus rfl))) (by repeat (first | exact kl_nil | exact kl_rest (by assumption) rfl | (apply kl_in; focus rfl) | (apply kl_out; focus rfl))) ?_ ?_ ?_ ?_
    · exact ⟨by omega, rfl, by omega, by omega⟩
    · exact ⟨rfl, trivial⟩
    · exact ⟨rfl, rfl, trivial⟩
    rintro i l A c ⟨hp1, hp2, hp3, hp4⟩
    refine T_seq ?_
    refine T_region ?_
    refine S_ 33 rfl rfl rfl _ (y_bin rfl rfl rfl (fun _ => b_lss)) ?_
    refine S_go (fun _ _ h => h) ?_
    refine T_seq ?_
    refine T_cond rfl (fun h33 => ?_) (fun h33 => ?_)
    · try simp only [decide_eq_true_eq, decide_eq_false_iff_not, Bool.or_eq_true, Bool.or_eq_false_iff, Bool.and_eq_true, Bool.and_eq_false_iff, Bool.not_eq_true', Bool.not_eq_false', Bool.not_eq_true, Bool.not_eq_false, Bool.not_true, Bool.not_false, Int.not_lt, Int.not_le, not_or, not_and, Classical.not_not] at h33
      obtain ⟨x, hx1, hx2⟩ := hok.fi.t.at (i := i) (by omega)
      have hn1 := hR.files x (mem_at hx1)
      have hw1 := fileT_le hn1
      refine T_skip_go (fun _ _ h => h) ?_
      refine T_seq ?_
      refine T_block ?_
      refine T_seq ?_
      refine T_region ?_
      refine S_ 34 rfl rfl rfl _ (y_indexAddr rfl rfl rfl Tryz.underlying57 sz9 (fun hg => hok.fi.t.isSome (by omega)) (fun _ => by omega)) ?_
      refine S_ 35 rfl rfl rfl _ (y_loadT1 (val := (fun l : List UInt8 => str l)) rfl rfl hok.fi.t (fun _ => hx1) Tryz.underlying9 rfl) ?_
      refine S_ 8 rfl rfl rfl _ (y_assign rfl rfl) ?_
      refine S_go (fun _ _ h => h) ?_
      refine T_region ?_
      refine S_ 36 rfl rfl rfl _ (y_move rfl rfl) ?_
      refine S_buildSlice 37 37 rfl rfl rfl rfl rfl Tryz.underlying57 inf9 rfl (by decide) (by decide) rfl rfl (by decide) rfl ((fileW x).flatMap strEnc) ?_ ?_
      · rfl
      intro b37
      refine S_ 38 rfl rfl rfl _ (y_call rfl rfl rfl cf125 (fun hg w1 hM => line_any _ 2 _ (fileW x) w1 (owned_ok hM rfl (i := 37) rfl) (by decide) (by decide) (by have := (hw1).1; omega))) ?_
      refine S_callM 39 [(0, 5), (1, 900)] (X := Option Addr × Nat) rfl rfl rfl rfl rfl rfl rfl cf120 rfl (fun _ => .tuple #[.int .i64 (lnB (fileW x)).length, .nilIface]) (fun _ => True) (fun z0 => [(0, bB b5 (selfP b5) z0.1 z0.2 (l ++ lnB (fileW x))), (1, bR z0.1 z0.2 (l ++ lnB (fileW x)))]) (fun _ => rfl) (fun _ => rfl) (fun K1 hK1 w hM => (WStr_any hK1 b5 _ _ _ (l) (lnB (fileW x)) (.inr rfl) (by omega) w hM).mono fun e w1 h => h.elim fun x h => ⟨x, h.1, trivial, h.2.2⟩) ?_
      intro x39 hx39
      refine S_go (fun _ _ h => h) ?_
      refine T_region ?_
      refine S_ 40 rfl rfl rfl _ (y_bin rfl rfl rfl (fun hg => b_add (by omega))) ?_
      refine S_ 32 rfl rfl rfl _ (y_move rfl rfl) ?_
      refine S_nil (nextK4 (kf := [(8, 8), (32, 40)]) (kl := [(5, 5), (8, 8), (32, 40), (900, 900)]) (i + 1) (l ++ lnB (fileW x)) x39.1 x39.2 (by repeat (first | exact kf_nil | (apply kf_in; focus rfl) | (apply kf_out; focus rfl))) (by repeat (first | exact kl_nil | exact kl_rest (by assumption) rfl | (apply kl_in; focus rfl) | (apply kl_out; focus rfl))) ?_ ?_ ?_ ?_)
      · omega
      · exact ⟨by omega, by rw [← hp2, hx2, filesT, filesT, List.flatMap_cons, List.append_assoc], by rw [List.length_append]; omega, by rw [List.length_append]; omega⟩
      · exact ⟨rfl, trivial⟩
      · exact ⟨rfl, rfl, trivial⟩
    · try simp only [decide_eq_true_eq, decide_eq_false_iff_not, Bool.or_eq_true, Bool.or_eq_false_iff, Bool.and_eq_true, Bool.and_eq_false_iff, Bool.not_eq_true', Bool.not_eq_false', Bool.not_eq_true, Bool.not_eq_false, Bool.not_true, Bool.not_false, Int.not_lt, Int.not_le, not_or, not_and, Classical.not_not] at h33
      have e1 : l = qT1 t.pl := by rw [hok.fi.t.end (by omega)] at hp2; simpa [filesT] using hp2
      subst e1
      refine T_exit_go (fun _ _ h => h) ?_
      refine T_seq ?_
      refine T_seq ?_
      refine T_region ?_
      refine S_ 41 rfl rfl rfl _ (y_fieldAddr rfl rfl fa62_3) ?_
      refine S_ 42 rfl rfl rfl _ (y_load 1 rfl rfl rfl rfl Tryz.underlying58 rfl) ?_
      refine S_ 43 rfl rfl rfl _ (y_len_slice rfl rfl Tryz.underlying58) ?_
      refine S_ 44 rfl rfl rfl _ (y_move rfl rfl) ?_
      refine S_go (fun _ _ h => h) ?_
      refine T_block ?_
      refine T_loopK4 (kf := [(10, 10), (44, 61)]) (kl := [(5, 5), (10, 10), (44, 61), (900, 900)]) (fun (i : Nat) (l : List UInt8) (A : Option Addr) (c : Nat) => [(44, true, .int .i64 (i : Int))]) (fun (i : Nat) (l : List UInt8) (A : Option Addr) (c : Nat) => [(5, bB b5 (selfP b5) A c l), (900, bR A c l)]) (fun (i : Nat) (l : List UInt8) (A : Option Addr) (c : Nat) => i ≤ t.fu.q ∧ l ++ funcsT (t.fu.l.drop i) = qT2 t.pl ∧ l.length ≤ 100000 + i * 400 ∧ 4 ≤ l.length) (fun (i : Nat) (l : List UInt8) (A : Option Addr) (c : Nat) => t.fu.q - i) 0 (qT1 t.pl) A c (by repeat (first | exact kf_nil | (apply kf_in; focus rfl) | (apply kf_out; focus rfl))) (by repeat (first | exact kl_nil | exact kl_rest (by assumption) rfl | (apply kl_in; focus rfl) | (apply kl_out; focus rfl))) ?_ ?_ ?_ ?_
      · exact ⟨by omega, rfl, by omega, by omega⟩
      · exact ⟨rfl, trivial⟩
      · exact ⟨rfl, rfl, trivial⟩
      rintro i l A c ⟨hp1, hp2, hp3, hp4⟩
      refine T_seq ?_
      refine T_region ?_
      refine S_ 45 rfl rfl rfl _ (y_bin rfl rfl rfl (fun _ => b_lss)) ?_
      refine S_go (fun _ _ h => h) ?_
      refine T_seq ?_
      refine T_cond rfl (fun h45 => ?_) (fun h45 => ?_)
      · try simp only [decide_eq_true_eq, decide_eq_false_iff_not, Bool.or_eq_true, Bool.or_eq_false_iff, Bool.and_eq_true, Bool.and_eq_false_iff, Bool.not_eq_true', Bool.not_eq_false', Bool.not_eq_true, Bool.not_eq_false, Bool.not_true, Bool.not_false, Int.not_lt, Int.not_le, not_or, not_and, Classical.not_not] at h45
        obtain ⟨f, hx1, hx2⟩ := hok.fu.t.at (i := i) (by omega)
        obtain ⟨hf1, hf2, hf3, hf4⟩ := hR.funcs i f hx1
        have hw1 := funcT_le (f := f) hf1 (by omega) (by omega)
        have hi1 := it_len (n := f.fr) (by omega)
        have hi2 := it_len (n := f.tu) (by omega)
        refine T_skip_go (fun _ _ h => h) ?_
        refine T_seq ?_
        refine T_block ?_
        refine T_seq ?_
        refine T_region ?_
        refine S_ 46 rfl rfl rfl _ (y_indexAddr rfl rfl rfl Tryz.underlying58 sz196 (fun hg => hok.fu.t.isSome (by omega)) (fun _ => by omega)) ?_
        refine S_ 47 rfl rfl rfl _ (y_loadT rfl rfl hok.fu.t (fun _ => rfl) (fun _ => hx1) Tryz.underlying196 rfl sz196) ?_
        refine S_alloc 10 10 rfl rfl rfl rfl z196 ?_
        intro b10
        refine S_store 10 rfl rfl rfl rfl rfl rfl sz196 rfl rfl ?_
        refine S_go (fun _ _ h => h) ?_
        refine T_drawsTail 10 (by kernel_rfl) (by kernel_rfl) ?_
        refine D_ 48 rfl rfl rfl _ (y_move rfl rfl) ?_
        refine D_ 49 rfl rfl rfl _ (y_fieldAddr rfl rfl fa196_1) ?_
        refine D_ 50 rfl rfl rfl _ (y_load 10 rfl rfl rfl rfl Tryz.underlying3 rfl) ?_
        refine D_ 51 rfl rfl rfl _ (y_call rfl rfl rfl cf124 (fun _ w1 hM => Itoa_any _ (by omega) (by omega) w1 (hP.below hM.below))) ?_
        refine D_ 52 rfl rfl rfl _ (y_move rfl rfl) ?_
        refine D_ 53 rfl rfl rfl _ (y_fieldAddr rfl rfl fa196_2) ?_
        refine D_ 54 rfl rfl rfl _ (y_load 10 rfl rfl rfl rfl Tryz.underlying3 rfl) ?_
        refine D_ 55 rfl rfl rfl _ (y_call rfl rfl rfl cf124 (fun _ w1 hM => Itoa_any _ (by omega) (by omega) w1 (hP.below hM.below))) ?_
        refine D_ 56 rfl rfl rfl _ (y_fieldAddr rfl rfl fa196_0) ?_
        refine D_ 57 rfl rfl rfl _ (y_load 10 rfl rfl rfl rfl Tryz.underlying9 rfl) ?_
        refine D_tail ?_
        refine S_buildSlice 58 58 rfl rfl rfl rfl rfl Tryz.underlying57 inf9 rfl (by decide) (by decide) rfl rfl (by decide) rfl ((funcW f).flatMap strEnc) ?_ ?_
        · rfl
        intro b58
        refine S_ 59 rfl rfl rfl _ (y_call rfl rfl rfl cf125 (fun hg w1 hM => line_any _ 4 _ (funcW f) w1 (owned_ok hM rfl (i := 58) rfl) (by decide) (by decide) (by have := (hw1).1; omega))) ?_
        refine S_callM 60 [(0, 5), (1, 900)] (X := Option Addr × Nat) rfl rfl rfl rfl rfl rfl rfl cf120 rfl (fun _ => .tuple #[.int .i64 (lnB (funcW f)).length, .nilIface]) (fun _ => True) (fun z0 => [(0, bB b5 (selfP b5) z0.1 z0.2 (l ++ lnB (funcW f))), (1, bR z0.1 z0.2 (l ++ lnB (funcW f)))]) (fun _ => rfl) (fun _ => rfl) (fun K1 hK1 w hM => (WStr_any hK1 b5 _ _ _ (l) (lnB (funcW f)) (.inr rfl) (by omega) w hM).mono fun e w1 h => h.elim fun x h => ⟨x, h.1, trivial, h.2.2⟩) ?_
        intro x60 hx60
        refine S_go (fun _ _ h => h) ?_
        refine T_region ?_
        refine S_ 61 rfl rfl rfl _ (y_bin rfl rfl rfl (fun hg => b_add (by omega))) ?_
        refine S_ 44 rfl rfl rfl _ (y_move rfl rfl) ?_
        refine S_nil (nextK4 (kf := [(10, 10), (44, 61)]) (kl := [(5, 5), (10, 10), (44, 61), (900, 900)]) (i + 1) (l ++ lnB (funcW f)) x60.1 x60.2 (by repeat (first | exact kf_nil | (apply kf_in; focus rfl) | (apply kf_out; focus rfl))) (by repeat (first | exact kl_nil | exact kl_rest (by assumption) rfl | (apply kl_in; focus rfl) | (apply kl_out; focus rfl))) ?_ ?_ ?_ ?_)
        · omega
        · exact ⟨by omega, by rw [← hp2, hx2, funcsT, funcsT, List.flatMap_cons, List.append_assoc], by rw [List.length_append]; omega, by rw [List.length_append]; omega⟩
        · exact ⟨rfl, trivial⟩
        · exact ⟨rfl, rfl, trivial⟩
      · try simp only [decide_eq_true_eq, decide_eq_false_iff_not, Bool.or_eq_true, Bool.or_eq_false_iff, Bool.and_eq_true, Bool.and_eq_false_iff, Bool.not_eq_true', Bool.not_eq_false', Bool.not_eq_true, Bool.not_eq_false, Bool.not_true, Bool.not_false, Int.not_lt, Int.not_le, not_or, not_and, Classical.not_not] at h45
        have e1 : l = qT2 t.pl := by rw [hok.fu.t.end (by omega)] at hp2; simpa [funcsT] using hp2
        subst e1
        refine T_exit_go (fun _ _ h => h) ?_
        refine T_seq ?_
        refine T_seq ?_
        refine T_region ?_
        refine S_ 62 rfl rfl rfl _ (y_fieldAddr rfl rfl fa62_4) ?_
        refine S_ 63 rfl rfl rfl _ (y_load 1 rfl rfl rfl rfl Tryz.underlying59 rfl) ?_
        refine S_ 64 rfl rfl rfl _ (y_len_slice rfl rfl Tryz.underlying59) ?_
        refine S_ 65 rfl rfl rfl _ (y_move rfl rfl) ?_
        refine S_go (fun _ _ h => h) ?_
        refine T_block ?_
        refine T_loopK4 (kf := [(12, 12), (65, 84)]) (kl := [(5, 5), (12, 12), (65, 84), (900, 900)]) (fun (i : Nat) (l : List UInt8) (A : Option Addr) (c : Nat) => [(65, true, .int .i64 (i : Int))]) (fun (i : Nat) (l : List UInt8) (A : Option Addr) (c : Nat) => [(5, bB b5 (selfP b5) A c l), (900, bR A c l)]) (fun (i : Nat) (l : List UInt8) (A : Option Addr) (c : Nat) => i ≤ t.ro.q ∧ l ++ rowsT (t.ro.l.drop i) = qT3 t.pl ∧ l.length ≤ 1000000 + i * 400 ∧ 4 ≤ l.length) (fun (i : Nat) (l : List UInt8) (A : Option Addr) (c : Nat) => t.ro.q - i) 0 (qT2 t.pl) A c (by repeat (first | exact kf_nil | (apply kf_in; focus rfl) | (apply kf_out; focus rfl))) (by repeat (first | exact kl_nil | exact kl_rest (by assumption) rfl | (apply kl_in; focus rfl) | (apply kl_out; focus rfl))) ?_ ?_ ?_ ?_
        · exact ⟨by omega, rfl, by omega, by omega⟩
        · exact ⟨rfl, trivial⟩
        · exact ⟨rfl, rfl, trivial⟩
        rintro i l A c ⟨hp1, hp2, hp3, hp4⟩
        refine T_seq ?_
        refine T_region ?_
        refine S_ 66 rfl rfl rfl _ (y_bin rfl rfl rfl (fun _ => b_lss)) ?_
        refine S_go (fun _ _ h => h) ?_
        refine T_seq ?_
        refine T_cond rfl (fun h66 => ?_) (fun h66 => ?_)
        · try simp only [decide_eq_true_eq, decide_eq_false_iff_not, Bool.or_eq_true, Bool.or_eq_false_iff, Bool.and_eq_true, Bool.and_eq_false_iff, Bool.not_eq_true', Bool.not_eq_false', Bool.not_eq_true, Bool.not_eq_false, Bool.not_true, Bool.not_false, Int.not_lt, Int.not_le, not_or, not_and, Classical.not_not] at h66
          obtain ⟨r, hx1, hx2⟩ := hok.ro.t.at (i := i) (by omega)
          have hr1 := hR.rows i r hx1
          have hw1 := rowT_le (r := r) (by omega) (by omega) (by omega)
          have hi1 := it_len (n := r.pos) (by omega)
          have hi2 := it_len (n := r.fi) (by omega)
          have hi3 := it_len (n := r.ln) (by omega)
          refine T_skip_go (fun _ _ h => h) ?_
          refine T_seq ?_
          refine T_block ?_
          refine T_seq ?_
          refine T_region ?_
          refine S_ 67 rfl rfl rfl _ (y_indexAddr rfl rfl rfl Tryz.underlying59 sz198 (fun hg => hok.ro.t.isSome (by omega)) (fun _ => by omega)) ?_
          refine S_ 68 rfl rfl rfl _ (y_loadT rfl rfl hok.ro.t (fun _ => rfl) (fun _ => hx1) Tryz.underlying198 rfl sz198) ?_
          refine S_alloc 12 12 rfl rfl rfl rfl z198 ?_
          intro b12
          refine S_store 12 rfl rfl rfl rfl rfl rfl sz198 rfl rfl ?_
          refine S_go (fun _ _ h => h) ?_
          refine T_drawsTail 12 (by kernel_rfl) (by kernel_rfl) ?_
          refine D_ 69 rfl rfl rfl _ (y_move rfl rfl) ?_
          refine D_ 70 rfl rfl rfl _ (y_fieldAddr rfl rfl fa198_0) ?_
          refine D_ 71 rfl rfl rfl _ (y_load 12 rfl rfl rfl rfl Tryz.underlying3 rfl) ?_
          refine D_ 72 rfl rfl rfl _ (y_call rfl rfl rfl cf124 (fun _ w1 hM => Itoa_any _ (by omega) (by omega) w1 (hP.below hM.below))) ?_
          refine D_ 73 rfl rfl rfl _ (y_move rfl rfl) ?_
          refine D_ 74 rfl rfl rfl _ (y_fieldAddr rfl rfl fa198_1) ?_
          refine D_ 75 rfl rfl rfl _ (y_load 12 rfl rfl rfl rfl Tryz.underlying3 rfl) ?_
          refine D_ 76 rfl rfl rfl _ (y_call rfl rfl rfl cf124 (fun _ w1 hM => Itoa_any _ (by omega) (by omega) w1 (hP.below hM.below))) ?_
          refine D_ 77 rfl rfl rfl _ (y_move rfl rfl) ?_
          refine D_ 78 rfl rfl rfl _ (y_fieldAddr rfl rfl fa198_2) ?_
          refine D_ 79 rfl rfl rfl _ (y_load 12 rfl rfl rfl rfl Tryz.underlying3 rfl) ?_
          refine D_ 80 rfl rfl rfl _ (y_call rfl rfl rfl cf124 (fun _ w1 hM => Itoa_any _ (by omega) (by omega) w1 (hP.below hM.below))) ?_
          refine D_tail ?_
          refine S_buildSlice 81 81 rfl rfl rfl rfl rfl Tryz.underlying57 inf9 rfl (by decide) (by decide) rfl rfl (by decide) rfl ((rowW r).flatMap strEnc) ?_ ?_
          · rfl
          intro b81
          refine S_ 82 rfl rfl rfl _ (y_call rfl rfl rfl cf125 (fun hg w1 hM => line_any _ 4 _ (rowW r) w1 (owned_ok hM rfl (i := 81) rfl) (by decide) (by decide) (by have := (hw1).1; omega))) ?_
          refine S_callM 83 [(0, 5), (1, 900)] (X := Option Addr × Nat) rfl rfl rfl rfl rfl rfl rfl cf120 rfl (fun _ => .tuple #[.int .i64 (lnB (rowW r)).length, .nilIface]) (fun _ => True) (fun z0 => [(0, bB b5 (selfP b5) z0.1 z0.2 (l ++ lnB (rowW r))), (1, bR z0.1 z0.2 (l ++ lnB (rowW r)))]) (fun _ => rfl) (fun _ => rfl) (fun K1 hK1 w hM => (WStr_any hK1 b5 _ _ _ (l) (lnB (rowW r)) (.inr rfl) (by omega) w hM).mono fun e w1 h => h.elim fun x h => ⟨x, h.1, trivial, h.2.2⟩) ?_
          intro x83 hx83
          refine S_go (fun _ _ h => h) ?_
          refine T_region ?_
          refine S_ 84 rfl rfl rfl _ (y_bin rfl rfl rfl (fun hg => b_add (by omega))) ?_
          refine S_ 65 rfl rfl rfl _ (y_move rfl rfl) ?_
          refine S_nil (nextK4 (kf := [(12, 12), (65, 84)]) (kl := [(5, 5), (12, 12), (65, 84), (900, 900)]) (i + 1) (l ++ lnB (rowW r)) x83.1 x83.2 (by repeat (first | exact kf_nil | (apply kf_in; focus rfl) | (apply kf_out; focus rfl))) (by repeat (first | exact kl_nil | exact kl_rest (by assumption) rfl | (apply kl_in; focus rfl) | (apply kl_out; focus rfl))) ?_ ?_ ?_ ?_)
          · omega
          · exact ⟨by omega, by rw [← hp2, hx2, rowsT, rowsT, List.flatMap_cons, List.append_assoc], by rw [List.length_append]; omega, by rw [List.length_append]; omega⟩
          · exact ⟨rfl, trivial⟩
          · exact ⟨rfl, rfl, trivial⟩
        · try simp only [decide_eq_true_eq, decide_eq_false_iff_not, Bool.or_eq_true, Bool.or_eq_false_iff, Bool.and_eq_true, Bool.and_eq_false_iff, Bool.not_eq_true', Bool.not_eq_false', Bool.not_eq_true, Bool.not_eq_false, Bool.not_true, Bool.not_false, Int.not_lt, Int.not_le, not_or, not_and, Classical.not_not] at h66
          have e1 : l = qT3 t.pl := by rw [hok.ro.t.end (by omega)] at hp2; simpa [rowsT] using hp2
          subst e1
          refine T_exit_go (fun _ _ h => h) ?_
          refine T_seq ?_
          refine T_seq ?_
          refine T_region ?_
          refine S_ 85 rfl rfl rfl _ (y_fieldAddr rfl rfl fa62_5) ?_
          refine S_ 86 rfl rfl rfl _ (y_load 1 rfl rfl rfl rfl Tryz.underlying60 rfl) ?_
          refine S_ 87 rfl rfl rfl _ (y_len_slice rfl rfl Tryz.underlying60) ?_
          refine S_ 88 rfl rfl rfl _ (y_move rfl rfl) ?_
          refine S_go (fun _ _ h => h) ?_
          refine T_block ?_
          refine T_loopK4 (kf := [(14, 14), (88, 113)]) (kl := [(5, 5), (14, 14), (88, 113), (900, 900)]) (fun (i : Nat) (l : List UInt8) (A : Option Addr) (c : Nat) => [(88, true, .int .i64 (i : Int))]) (fun (i : Nat) (l : List UInt8) (A : Option Addr) (c : Nat) => [(5, bB b5 (selfP b5) A c l), (900, bR A c l)]) (fun (i : Nat) (l : List UInt8) (A : Option Addr) (c : Nat) => i ≤ t.ca.q ∧ l ++ callsT (t.ca.l.drop i) = tabT t.pl ∧ l.length ≤ 4000000 + i * 400 ∧ 4 ≤ l.length) (fun (i : Nat) (l : List UInt8) (A : Option Addr) (c : Nat) => t.ca.q - i) 0 (qT3 t.pl) A c (by repeat (first | exact kf_nil | (apply kf_in; focus rfl) | (apply kf_out; focus rfl))) (by repeat (first | exact kl_nil | exact kl_rest (by assumption) rfl | (apply kl_in; focus rfl) | (apply kl_out; focus rfl))) ?_ ?_ ?_ ?_
          · exact ⟨by omega, rfl, by omega, by omega⟩
          · exact ⟨rfl, trivial⟩
          · exact ⟨rfl, rfl, trivial⟩
          rintro i l A c ⟨hp1, hp2, hp3, hp4⟩
          refine T_seq ?_
          refine T_region ?_
          refine S_ 89 rfl rfl rfl _ (y_bin rfl rfl rfl (fun _ => b_lss)) ?_
          refine S_go (fun _ _ h => h) ?_
          refine T_seq ?_
          refine T_cond rfl (fun h89 => ?_) (fun h89 => ?_)
          · try simp only [decide_eq_true_eq, decide_eq_false_iff_not, Bool.or_eq_true, Bool.or_eq_false_iff, Bool.and_eq_true, Bool.and_eq_false_iff, Bool.not_eq_true', Bool.not_eq_false', Bool.not_eq_true, Bool.not_eq_false, Bool.not_true, Bool.not_false, Int.not_lt, Int.not_le, not_or, not_and, Classical.not_not] at h89
            obtain ⟨c0, hx1, hx2⟩ := hok.ca.t.at (i := i) (by omega)
            obtain ⟨hc1, hc2⟩ := hR.calls i c0 hx1
            have hw1 := callT_le (c := c0) hc1 (by omega) (by omega) (by omega) (by omega)
            have hi1 := it_len (n := c0.fr) (by omega)
            have hi2 := it_len (n := c0.tu) (by omega)
            have hi3 := it_len (n := c0.fi) (by omega)
            have hi4 := it_len (n := c0.ln) (by omega)
            refine T_skip_go (fun _ _ h => h) ?_
            refine T_seq ?_
            refine T_block ?_
            refine T_seq ?_
            refine T_region ?_
            refine S_ 90 rfl rfl rfl _ (y_indexAddr rfl rfl rfl Tryz.underlying60 sz200 (fun hg => hok.ca.t.isSome (by omega)) (fun _ => by omega)) ?_
            refine S_ 91 rfl rfl rfl _ (y_loadT rfl rfl hok.ca.t (fun _ => rfl) (fun _ => hx1) Tryz.underlying200 rfl sz200) ?_
            refine S_alloc 14 14 rfl rfl rfl rfl z200 ?_
            intro b14
            refine S_store 14 rfl rfl rfl rfl rfl rfl sz200 rfl rfl ?_
            refine S_go (fun _ _ h => h) ?_
            refine T_drawsTail 18 (by kernel_rfl) (by kernel_rfl) ?_
            refine D_ 92 rfl rfl rfl _ (y_move rfl rfl) ?_
            refine D_ 93 rfl rfl rfl _ (y_fieldAddr rfl rfl fa200_1) ?_
            refine D_ 94 rfl rfl rfl _ (y_load 14 rfl rfl rfl rfl Tryz.underlying3 rfl) ?_
            refine D_ 95 rfl rfl rfl _ (y_call rfl rfl rfl cf124 (fun _ w1 hM => Itoa_any _ (by omega) (by omega) w1 (hP.below hM.below))) ?_
            refine D_ 96 rfl rfl rfl _ (y_move rfl rfl) ?_
            refine D_ 97 rfl rfl rfl _ (y_fieldAddr rfl rfl fa200_2) ?_
            refine D_ 98 rfl rfl rfl _ (y_load 14 rfl rfl rfl rfl Tryz.underlying3 rfl) ?_
            refine D_ 99 rfl rfl rfl _ (y_call rfl rfl rfl cf124 (fun _ w1 hM => Itoa_any _ (by omega) (by omega) w1 (hP.below hM.below))) ?_
            refine D_ 100 rfl rfl rfl _ (y_move rfl rfl) ?_
            refine D_ 101 rfl rfl rfl _ (y_fieldAddr rfl rfl fa200_3) ?_
            refine D_ 102 rfl rfl rfl _ (y_load 14 rfl rfl rfl rfl Tryz.underlying3 rfl) ?_
            refine D_ 103 rfl rfl rfl _ (y_call rfl rfl rfl cf124 (fun _ w1 hM => Itoa_any _ (by omega) (by omega) w1 (hP.below hM.below))) ?_
            refine D_ 104 rfl rfl rfl _ (y_move rfl rfl) ?_
            refine D_ 105 rfl rfl rfl _ (y_fieldAddr rfl rfl fa200_4) ?_
            refine D_ 106 rfl rfl rfl _ (y_load 14 rfl rfl rfl rfl Tryz.underlying3 rfl) ?_
            refine D_ 107 rfl rfl rfl _ (y_call rfl rfl rfl cf124 (fun _ w1 hM => Itoa_any _ (by omega) (by omega) w1 (hP.below hM.below))) ?_
            refine D_ 108 rfl rfl rfl _ (y_fieldAddr rfl rfl fa200_0) ?_
            refine D_ 109 rfl rfl rfl _ (y_load 14 rfl rfl rfl rfl Tryz.underlying9 rfl) ?_
            refine D_tail ?_
            refine S_buildSlice 110 110 rfl rfl rfl rfl rfl Tryz.underlying57 inf9 rfl (by decide) (by decide) rfl rfl (by decide) rfl ((callW c0).flatMap strEnc) ?_ ?_
            · rfl
            intro b110
            refine S_ 111 rfl rfl rfl _ (y_call rfl rfl rfl cf125 (fun hg w1 hM => line_any _ 6 _ (callW c0) w1 (owned_ok hM rfl (i := 110) rfl) (by decide) (by decide) (by have := (hw1).1; omega))) ?_
            refine S_callM 112 [(0, 5), (1, 900)] (X := Option Addr × Nat) rfl rfl rfl rfl rfl rfl rfl cf120 rfl (fun _ => .tuple #[.int .i64 (lnB (callW c0)).length, .nilIface]) (fun _ => True) (fun z0 => [(0, bB b5 (selfP b5) z0.1 z0.2 (l ++ lnB (callW c0))), (1, bR z0.1 z0.2 (l ++ lnB (callW c0)))]) (fun _ => rfl) (fun _ => rfl) (fun K1 hK1 w hM => (WStr_any hK1 b5 _ _ _ (l) (lnB (callW c0)) (.inr rfl) (by omega) w hM).mono fun e w1 h => h.elim fun x h => ⟨x, h.1, trivial, h.2.2⟩) ?_
            intro x112 hx112
            refine S_go (fun _ _ h => h) ?_
            refine T_region ?_
            refine S_ 113 rfl rfl rfl _ (y_bin rfl rfl rfl (fun hg => b_add (by omega))) ?_
            refine S_ 88 rfl rfl rfl _ (y_move rfl rfl) ?_
            refine S_nil (nextK4 (kf := [(14, 14), (88, 113)]) (kl := [(5, 5), (14, 14), (88, 113), (900, 900)]) (i + 1) (l ++ lnB (callW c0)) x112.1 x112.2 (by repeat (first | exact kf_nil | (apply kf_in; focus rfl) | (apply kf_out; focus rfl))) (by repeat (first | exact kl_nil | exact kl_rest (by assumption) rfl | (apply kl_in; focus rfl) | (apply kl_out; focus rfl))) ?_ ?_ ?_ ?_)
            · omega
            · exact ⟨by omega, by rw [← hp2, hx2, callsT, callsT, List.flatMap_cons, List.append_assoc], by rw [List.length_append]; omega, by rw [List.length_append]; omega⟩
            · exact ⟨rfl, trivial⟩
            · exact ⟨rfl, rfl, trivial⟩
          · try simp only [decide_eq_true_eq, decide_eq_false_iff_not, Bool.or_eq_true, Bool.or_eq_false_iff, Bool.and_eq_true, Bool.and_eq_false_iff, Bool.not_eq_true', Bool.not_eq_false', Bool.not_eq_true, Bool.not_eq_false, Bool.not_true, Bool.not_false, Int.not_lt, Int.not_le, not_or, not_and, Classical.not_not] at h89
            have e1 : l = tabT t.pl := by rw [hok.ca.t.end (by omega)] at hp2; simpa [callsT] using hp2
            subst e1
            refine T_exit_go (fun _ _ h => h) ?_
            refine T_seq ?_
            refine T_seq ?_
            refine T_region ?_
            refine S_ 114 rfl rfl rfl _ (y_call rfl rfl rfl cf126 (fun _ w1 hM => BLen_any b5 A (tabT t.pl).length c w1 (hM.box_cell (i := 5) rfl rfl))) ?_
            refine S_ 115 rfl rfl rfl _ (y_bin rfl rfl rfl (fun _ => b_gtr)) ?_
            refine S_go (fun _ _ h => h) ?_
            refine T_cond rfl (fun h115 => ?_) (fun h115 => ?_)
            · try simp only [decide_eq_true_eq, decide_eq_false_iff_not, Bool.or_eq_true, Bool.or_eq_false_iff, Bool.and_eq_true, Bool.and_eq_false_iff, Bool.not_eq_true', Bool.not_eq_false', Bool.not_eq_true, Bool.not_eq_false, Bool.not_true, Bool.not_false, Int.not_lt, Int.not_le, not_or, not_and, Classical.not_not] at h115
              refine T_seq ?_
              refine T_region ?_
              refine S_ 2 rfl rfl rfl _ (y_assign rfl rfl) ?_
              refine S_ 3 rfl rfl rfl _ (y_assign rfl rfl) ?_
              refine S_go (fun _ _ h => h) ?_
              refine T_ret (fun a w hF hM => hRb a w (post2 rfl rfl rfl (fun w hM => ?_) a w hF hM))
              have e : textNo t = 4 := fst_b h18 (if_pos (by omega))
              have e2 : textS t = [] := if_neg (by rw [e]; decide)
              exact ⟨by rw [e, e2], hM.below⟩
            · try simp only [decide_eq_true_eq, decide_eq_false_iff_not, Bool.or_eq_true, Bool.or_eq_false_iff, Bool.and_eq_true, Bool.and_eq_false_iff, Bool.not_eq_true', Bool.not_eq_false', Bool.not_eq_true, Bool.not_eq_false, Bool.not_true, Bool.not_false, Int.not_lt, Int.not_le, not_or, not_and, Classical.not_not] at h115
              refine T_skip_go (fun _ _ h => h) ?_
              refine T_seq ?_
              refine T_region ?_
              refine S_callM 116 [(0, 5), (1, 900)] (X := Unit) rfl rfl rfl rfl rfl rfl rfl cf122 rfl (fun _ => str (tabT t.pl)) (fun _ => True) (fun _ => [(1, bR none 0 []), (0, bB b5 (selfP b5) A c (tabT t.pl))]) (fun _ => rfl) (fun _ => rfl) (fun K1 hK1 w hM => (BStr_any hK1 b5 _ _ _ (tabT t.pl) (by omega) (by omega) w hM).mono fun e w1 h => ⟨(), h.1, trivial, h.2⟩) ?_
              intro _ _
              refine S_ 2 rfl rfl rfl _ (y_assign rfl rfl) ?_
              refine S_ 3 rfl rfl rfl _ (y_assign rfl rfl) ?_
              refine S_go (fun _ _ h => h) ?_
              refine T_ret (fun a w hF hM => hRb a w (post2 rfl rfl rfl (fun w hM => ?_) a w hF hM))
              have e : textNo t = 0 := fst_b h18 (if_neg (by omega))
              have e2 : textS t = tabT t.pl := if_pos e
              exact ⟨by rw [e, e2], hM.below⟩
set_option maxHeartbeats 1600000 in
theorem TableText_any (t : Tab) (w : World) (hok : t.Ok w) (h0 : tabNo t = 0) (hP : P10 w) :
    Calls Tryz.prog 26 #[.agg #[str t.id, .int .i64 t.size, .slice t.fi.A t.fi.q t.fi.c, .slice t.fu.A t.fu.q t.fu.c, .slice t.ro.A t.ro.q t.ro.c, .slice t.ca.A t.ca.q t.ca.c]] w fun e w' => e = .returned (str (tabT t.pl)) ∧ Below w.heap.size w w' := by
  have hR := rightT h0
  have hs := hR.size
  have hqs := hR.qs
  have hid : t.id.length ≤ 38 := by have := hR.head.1; simp only [headB, List.length_append] at this; omega
  have hhd := headT_le (size := t.size) hid (by omega)
  have hh4 : 4 ≤ (lnB (headW t.id t.size)).length := by simp only [lnB, headW, jn, kTab, List.length_append, List.length_cons, List.length_nil]; omega
  have hn0 := it_len (n := t.size) (by omega)
  have nb : ∀ l : List Int, (∀ n ∈ l, -9223372036854775808 ≤ n ∧ n ≤ 9223372036854775807) → (numsB l).length ≤ l.length * 22 := numsB_le
  refine enter_args (args := [.agg #[str t.id, .int .i64 t.size, .slice t.fi.A t.fi.q t.fi.c, .slice t.fu.A t.fu.q t.fu.c, .slice t.ro.A t.ro.q t.ro.c, .slice t.ca.A t.ca.q t.ca.c]]) (F := _) Tryz.func26 rfl Tryz.ntmps26 rfl rfl ?_
  intro Rb hRb hRn
  refine T_seq ?_
  refine T_region ?_
  refine S_box 1 1 rfl rfl rfl rfl rfl ?_
  intro b1
  refine S_ 2 rfl rfl rfl _ (y_assign rfl rfl) ?_
  refine S_go (fun _ _ h => h) ?_
  refine T_seq ?_
  refine T_region ?_
  refine S_alloc 3 3 rfl rfl rfl rfl z189 ?_
  intro b3
  refine S_nilSlice 900 (e := 5) (size := 1) ?_
  refine S_go (fun _ _ h => h) ?_
  refine T_seq ?_
  refine T_perm [0, 1, 2, 3, 4, 5, 6, 7, 8, 9] [true, true, true, true, true, false, false, true, true, false] [0, 1, 3, 0, 8, 24, 56, 127, 255, 511] [(1, [1]), (4, [1])] (by kernel_rfl) (by kernel_rfl) (by kernel_rfl) rfl (by kernel_rfl) ?_
  refine Rf_ 0 12 rfl rfl rfl rfl rfl _ trivial (Y.z (y_fieldAddr rfl rfl fa62_0) rfl) ?_
  refine Rf_ 1 13 rfl rfl rfl rfl rfl _ ⟨rfl, trivial⟩ (Y.z (y_load 1 rfl rfl rfl rfl Tryz.underlying9 rfl) rfl) ?_
  refine Rf_ 2 14 rfl rfl rfl rfl rfl _ trivial (Y.z (y_bin rfl rfl rfl (fun hg => b_adds (by first | omega | (simp only [List.length_append, List.length_cons, List.length_nil]; omega)))) rfl) ?_
  refine Rf_ 3 15 rfl rfl rfl rfl rfl _ trivial (Y.z (y_fieldAddr rfl rfl fa62_1) rfl) ?_
  refine Rf_ 4 16 rfl rfl rfl rfl rfl _ ⟨rfl, trivial⟩ (Y.z (y_load 1 rfl rfl rfl rfl Tryz.underlying3 rfl) rfl) ?_
  refine R_chain 5 rfl rfl ?_
  refine S_buildSlice 17 17 rfl rfl rfl rfl rfl Tryz.underlying212 inf3 rfl (by decide) (by decide) rfl rfl (by decide) rfl ([t.size].flatMap intE9) ?_ ?_
  · rfl
  intro b17
  refine R_next ⟨.inr ⟨rfl, trivial⟩, .inl rfl, trivial⟩ ?_
  refine R_chain 6 rfl rfl ?_
  refine S_ 18 rfl rfl rfl _ (y_as (v' := str ([32] ++ it t.size)) (by rw [numsB_one]) (y_call rfl rfl rfl cf121 (fun hg w1 hM => numbers_any _ 1 _ ([t.size]) w1 (owned_ok (enc := intE9) (l := [t.size]) hM rfl (i := 17) rfl).t (by decide) (fun n hn => by simp only [List.mem_cons, List.not_mem_nil, or_false] at hn; rcases hn with rfl | rfl | rfl | rfl <;> omega) (hP.below hM.below)))) ?_
  refine R_next ⟨.inr ⟨rfl, trivial⟩, .inl rfl, trivial⟩ ?_
  refine Rf_ 7 19 rfl rfl rfl rfl rfl _ trivial (Y.z (y_bin rfl rfl rfl (fun hg => b_adds (by first | omega | (simp only [List.length_append, List.length_cons, List.length_nil]; omega)))) rfl) ?_
  refine Rf_ 8 20 rfl rfl rfl rfl rfl _ trivial (Y.z (y_as (v' := str (lnB (headW t.id t.size))) (by simp [lnB, headW, jn, kTab]) (y_bin rfl rfl rfl (fun hg => b_adds (by first | omega | (simp only [List.length_append, List.length_cons, List.length_nil]; omega))))) rfl) ?_
  refine R_chain 9 rfl rfl ?_
  refine S_callM 21 [(0, 3), (1, 900)] (X := Option Addr × Nat) rfl rfl rfl rfl rfl rfl rfl cf120 rfl (fun _ => .tuple #[.int .i64 (lnB (headW t.id t.size)).length, .nilIface]) (fun _ => True) (fun z0 => [(0, bB b3 (selfP b3) z0.1 z0.2 ([] ++ lnB (headW t.id t.size))), (1, bR z0.1 z0.2 ([] ++ lnB (headW t.id t.size)))]) (fun _ => rfl) (fun _ => rfl) (fun K1 hK1 w hM => (WStr_any hK1 b3 _ _ _ ([]) (lnB (headW t.id t.size)) (.inl rfl) (by simp only [List.length_nil]; omega) w hM).mono fun e w1 h => h.elim fun x h => ⟨x, h.1, trivial, h.2.2⟩) ?_
  intro x21 hx21
  refine R_next ⟨.inl rfl, .inl rfl, trivial⟩ ?_
  refine R_go (fun _ _ h => h) ?_
  refine T_seq ?_
  refine T_seq ?_
  refine T_region ?_
  refine S_ 22 rfl rfl rfl _ (y_fieldAddr rfl rfl fa62_2) ?_
  refine S_ 23 rfl rfl rfl _ (y_load 1 rfl rfl rfl rfl Tryz.underlying57 rfl) ?_
  refine S_ 24 rfl rfl rfl _ (y_len_slice rfl rfl Tryz.underlying57) ?_
  refine S_ 25 rfl rfl rfl _ (y_move rfl rfl) ?_
  refine S_go (fun _ _ h => h) ?_
  refine T_block ?_
  refine T_loopK4 (kf := [(5, 5), (25, 33)]) (kl := [(3, 3), (5, 5), (25, 33), (900, 900)]) (fun (i : Nat) (l : List UInt8) (A : Option Addr) (c : Nat) => [(25, true, .int .i64 (i : Int))]) (fun (i : Nat) (l : List UInt8) (A : Option Addr) (c : Nat) => [(3, bB b3 (selfP b3) A c l), (900, bR A c l)]) (fun (i : Nat) (l : List UInt8) (A : Option Addr) (c : Nat) => i ≤ t.fi.q ∧ l ++ filesT (t.fi.l.drop i) = qT1 t.pl ∧ l.length ≤ 400 + i * 400 ∧ 4 ≤ l.length) (fun (i : Nat) (l : List UInt8) (A : Option Addr) (c : Nat) => t.fi.q - i) 0 (lnB (headW t.id t.size)) x21.1 x21.2 (by repeat (first | exact kf_nil | (apply kf_in; focus rfl) | (apply kf_out; focus rfl))) (by repeat (first | exact kl_nil | exact kl_rest (by assumption) rfl | (apply kl_in; focus rfl) | (apply kl_out; focus rfl))) ?_ ?_ ?_ ?_
  · exact ⟨by omega, rfl, by omega, by omega⟩
  · exact ⟨rfl, trivial⟩
  · exact ⟨rfl, rfl, trivial⟩
  rintro i l A c ⟨hp1, hp2, hp3, hp4⟩
  refine T_seq ?_
  refine T_region ?_
  refine S_ 26 rfl rfl rfl _ (y_bin rfl rfl rfl (fun _ => b_lss)) ?_
  refine S_go (fun _ _ h => h) ?_
  refine T_seq ?_
  refine T_cond rfl (fun h26 => ?_) (fun h26 => ?_)
  · try simp only [decide_eq_true_eq, decide_eq_false_iff_not, Bool.or_eq_true, Bool.or_eq_false_iff, Bool.and_eq_true, Bool.and_eq_false_iff, Bool.not_eq_true', Bool.not_eq_false', Bool.not_eq_true, Bool.not_eq_false, Bool.not_true, Bool.not_false, Int.not_lt, Int.not_le, not_or, not_and, Classical.not_not] at h26
    obtain ⟨x, hx1, hx2⟩ := hok.fi.t.at (i := i) (by omega)
    have hn1 := hR.files x (mem_at hx1)
    have hw1 := fileT_le hn1
    refine T_skip_go (fun _ _ h => h) ?_
    refine T_seq ?_
    refine T_block ?_
    refine T_seq ?_
    refine T_region ?_
    refine S_ 27 rfl rfl rfl _ (y_indexAddr rfl rfl rfl Tryz.underlying57 sz9 (fun hg => hok.fi.t.isSome (by omega)) (fun _ => by omega)) ?_
    refine S_ 28 rfl rfl rfl _ (y_loadT1 (val := (fun l : List UInt8 => str l)) rfl rfl hok.fi.t (fun _ => hx1) Tryz.underlying9 rfl) ?_
    refine S_ 5 rfl rfl rfl _ (y_assign rfl rfl) ?_
    refine S_go (fun _ _ h => h) ?_
    refine T_region ?_
    refine S_ 29 rfl rfl rfl _ (y_move rfl rfl) ?_
    refine S_ 30 rfl rfl rfl _ (y_bin rfl rfl rfl (fun hg => b_adds (by first | omega | (simp only [List.length_append, List.length_cons, List.length_nil]; omega)))) ?_
    refine S_ 31 rfl rfl rfl _ (y_as (v' := str (lnB (fileW x))) (by simp [lnB, fileW, jn, kFil]) (y_bin rfl rfl rfl (fun hg => b_adds (by first | omega | (simp only [List.length_append, List.length_cons, List.length_nil]; omega))))) ?_
    refine S_callM 32 [(0, 3), (1, 900)] (X := Option Addr × Nat) rfl rfl rfl rfl rfl rfl rfl cf120 rfl (fun _ => .tuple #[.int .i64 (lnB (fileW x)).length, .nilIface]) (fun _ => True) (fun z0 => [(0, bB b3 (selfP b3) z0.1 z0.2 (l ++ lnB (fileW x))), (1, bR z0.1 z0.2 (l ++ lnB (fileW x)))]) (fun _ => rfl) (fun _ => rfl) (fun K1 hK1 w hM => (WStr_any hK1 b3 _ _ _ (l) (lnB (fileW x)) (.inr rfl) (by omega) w hM).mono fun e w1 h => h.elim fun x h => ⟨x, h.1, trivial, h.2.2⟩) ?_
    intro x32 hx32
    refine S_go (fun _ _ h => h) ?_
    refine T_region ?_
    refine S_ 33 rfl rfl rfl _ (y_bin rfl rfl rfl (fun hg => b_add (by omega))) ?_
    refine S_ 25 rfl rfl rfl _ (y_move rfl rfl) ?_
    refine S_nil (nextK4 (kf := [(5, 5), (25, 33)]) (kl := [(3, 3), (5, 5), (25, 33), (900, 900)]) (i + 1) (l ++ lnB (fileW x)) x32.1 x32.2 (by repeat (first | exact kf_nil | (apply kf_in; focus rfl) | (apply kf_out; focus rfl))) (by repeat (first | exact kl_nil | exact kl_rest (by assumption) rfl | (apply kl_in; focus rfl) | (apply kl_out; focus rfl))) ?_ ?_ ?_ ?_)
    · omega
    · exact ⟨by omega, by rw [← hp2, hx2, filesT, filesT, List.flatMap_cons, List.append_assoc], by rw [List.length_append]; omega, by rw [List.length_append]; omega⟩
    · exact ⟨rfl, trivial⟩
    · exact ⟨rfl, rfl, trivial⟩
  · try simp only [decide_eq_true_eq, decide_eq_false_iff_not, Bool.or_eq_true, Bool.or_eq_false_iff, Bool.and_eq_true, Bool.and_eq_false_iff, Bool.not_eq_true', Bool.not_eq_false', Bool.not_eq_true, Bool.not_eq_false, Bool.not_true, Bool.not_false, Int.not_lt, Int.not_le, not_or, not_and, Classical.not_not] at h26
    have e1 : l = qT1 t.pl := by rw [hok.fi.t.end (by omega)] at hp2; simpa [filesT] using hp2
    subst e1
    refine T_exit_go (fun _ _ h => h) ?_
    refine T_seq ?_
    refine T_seq ?_
    refine T_region ?_
    refine S_ 34 rfl rfl rfl _ (y_fieldAddr rfl rfl fa62_3) ?_
    refine S_ 35 rfl rfl rfl _ (y_load 1 rfl rfl rfl rfl Tryz.underlying58 rfl) ?_
    refine S_ 36 rfl rfl rfl _ (y_len_slice rfl rfl Tryz.underlying58) ?_
    refine S_ 37 rfl rfl rfl _ (y_move rfl rfl) ?_
    refine S_go (fun _ _ h => h) ?_
    refine T_block ?_
    refine T_loopK4 (kf := [(7, 7), (37, 54)]) (kl := [(3, 3), (7, 7), (37, 54), (900, 900)]) (fun (i : Nat) (l : List UInt8) (A : Option Addr) (c : Nat) => [(37, true, .int .i64 (i : Int))]) (fun (i : Nat) (l : List UInt8) (A : Option Addr) (c : Nat) => [(3, bB b3 (selfP b3) A c l), (900, bR A c l)]) (fun (i : Nat) (l : List UInt8) (A : Option Addr) (c : Nat) => i ≤ t.fu.q ∧ l ++ funcsT (t.fu.l.drop i) = qT2 t.pl ∧ l.length ≤ 100000 + i * 400 ∧ 4 ≤ l.length) (fun (i : Nat) (l : List UInt8) (A : Option Addr) (c : Nat) => t.fu.q - i) 0 (qT1 t.pl) A c (by repeat (first | exact kf_nil | (apply kf_in; focus rfl) | (apply kf_out; focus rfl))) (by repeat (first | exact kl_nil | exact kl_rest (by assumption) rfl | (apply kl_in; focus rfl) | (apply kl_out; focus rfl))) ?_ ?_ ?_ ?_
    · exact ⟨by omega, rfl, by omega, by omega⟩
    · exact ⟨rfl, trivial⟩
    · exact ⟨rfl, rfl, trivial⟩
    rintro i l A c ⟨hp1, hp2, hp3, hp4⟩
    refine T_seq ?_
    refine T_region ?_
    refine S_ 38 rfl rfl rfl _ (y_bin rfl rfl rfl (fun _ => b_lss)) ?_
    refine S_go (fun _ _ h => h) ?_
    refine T_seq ?_
    refine T_cond rfl (fun h38 => ?_) (fun h38 => ?_)
    · try simp only [decide_eq_true_eq, decide_eq_false_iff_not, Bool.or_eq_true, Bool.or_eq_false_iff, Bool.and_eq_true, Bool.and_eq_false_iff, Bool.not_eq_true', Bool.not_eq_false', Bool.not_eq_true, Bool.not_eq_false, Bool.not_true, Bool.not_false, Int.not_lt, Int.not_le, not_or, not_and, Classical.not_not] at h38
      obtain ⟨f, hx1, hx2⟩ := hok.fu.t.at (i := i) (by omega)
      obtain ⟨hf1, hf2, hf3, hf4⟩ := hR.funcs i f hx1
      have hw1 := funcT_le (f := f) hf1 (by omega) (by omega)
      have hi1 := it_len (n := f.fr) (by omega)
      have hi2 := it_len (n := f.tu) (by omega)
      refine T_skip_go (fun _ _ h => h) ?_
      refine T_seq ?_
      refine T_block ?_
      refine T_seq ?_
      refine T_region ?_
      refine S_ 39 rfl rfl rfl _ (y_indexAddr rfl rfl rfl Tryz.underlying58 sz196 (fun hg => hok.fu.t.isSome (by omega)) (fun _ => by omega)) ?_
      refine S_ 40 rfl rfl rfl _ (y_loadT rfl rfl hok.fu.t (fun _ => rfl) (fun _ => hx1) Tryz.underlying196 rfl sz196) ?_
      refine S_alloc 7 7 rfl rfl rfl rfl z196 ?_
      intro b7
      refine S_store 7 rfl rfl rfl rfl rfl rfl sz196 rfl rfl ?_
      refine S_go (fun _ _ h => h) ?_
      refine T_perm [0, 1, 2, 3, 8, 9, 4, 5, 6, 7, 10, 11, 12] [true, true, true, true, false, false, true, true, true, true, true, true, false] [0, 1, 0, 4, 15, 31, 63, 127, 0, 256, 1023, 2047, 4095] [(1, [7]), (3, [7]), (9, [7])] (by kernel_rfl) (by kernel_rfl) (by kernel_rfl) rfl (by kernel_rfl) ?_
      refine Rf_ 0 41 rfl rfl rfl rfl rfl _ trivial (Y.z (y_fieldAddr rfl rfl fa196_1) rfl) ?_
      refine Rf_ 1 42 rfl rfl rfl rfl rfl _ ⟨rfl, trivial⟩ (Y.z (y_load 7 rfl rfl rfl rfl Tryz.underlying3 rfl) rfl) ?_
      refine Rf_ 2 43 rfl rfl rfl rfl rfl _ trivial (Y.z (y_fieldAddr rfl rfl fa196_2) rfl) ?_
      refine Rf_ 3 44 rfl rfl rfl rfl rfl _ ⟨rfl, trivial⟩ (Y.z (y_load 7 rfl rfl rfl rfl Tryz.underlying3 rfl) rfl) ?_
      refine Rf_ 8 49 rfl rfl rfl rfl rfl _ trivial (Y.z (y_fieldAddr rfl rfl fa196_0) rfl) ?_
      refine Rf_ 9 50 rfl rfl rfl rfl rfl _ ⟨rfl, trivial⟩ (Y.z (y_load 7 rfl rfl rfl rfl Tryz.underlying9 rfl) rfl) ?_
      refine R_chain 4 rfl rfl ?_
      refine S_buildSlice 45 45 rfl rfl rfl rfl rfl Tryz.underlying212 inf3 rfl (by decide) (by decide) rfl rfl (by decide) rfl ([f.fr, f.tu].flatMap intE9) ?_ ?_
      · rfl
      intro b45
      refine R_next ⟨.inl rfl, .inl rfl, .inr ⟨rfl, trivial⟩, trivial⟩ ?_
      refine R_chain 5 rfl rfl ?_
      refine S_ 46 rfl rfl rfl _ (y_as (v' := str ([32] ++ it f.fr ++ [32] ++ it f.tu)) (by simp [numsB]) (y_call rfl rfl rfl cf121 (fun hg w1 hM => numbers_any _ 2 _ ([f.fr, f.tu]) w1 (owned_ok (enc := intE9) (l := [f.fr, f.tu]) hM rfl (i := 45) rfl).t (by decide) (fun n hn => by simp only [List.mem_cons, List.not_mem_nil, or_false] at hn; rcases hn with rfl | rfl | rfl | rfl <;> omega) (hP.below hM.below)))) ?_
      refine R_next ⟨.inl rfl, .inl rfl, .inr ⟨rfl, trivial⟩, trivial⟩ ?_
      refine Rf_ 6 47 rfl rfl rfl rfl rfl _ trivial (Y.z (y_bin rfl rfl rfl (fun hg => b_adds (by first | omega | (simp only [List.length_append, List.length_cons, List.length_nil]; omega)))) rfl) ?_
      refine Rf_ 7 48 rfl rfl rfl rfl rfl _ trivial (Y.z (y_bin rfl rfl rfl (fun hg => b_adds (by first | omega | (simp only [List.length_append, List.length_cons, List.length_nil]; omega)))) rfl) ?_
      refine Rf_ 10 51 rfl rfl rfl rfl rfl _ trivial (Y.z (y_bin rfl rfl rfl (fun hg => b_adds (by first | omega | (simp only [List.length_append, List.length_cons, List.length_nil]; omega)))) rfl) ?_
      refine Rf_ 11 52 rfl rfl rfl rfl rfl _ trivial (Y.z (y_as (v' := str (lnB (funcW f))) (by simp [lnB, funcW, jn, kFun]) (y_bin rfl rfl rfl (fun hg => b_adds (by first | omega | (simp only [List.length_append, List.length_cons, List.length_nil]; omega))))) rfl) ?_
      refine R_chain 12 rfl rfl ?_
      refine S_callM 53 [(0, 3), (1, 900)] (X := Option Addr × Nat) rfl rfl rfl rfl rfl rfl rfl cf120 rfl (fun _ => .tuple #[.int .i64 (lnB (funcW f)).length, .nilIface]) (fun _ => True) (fun z0 => [(0, bB b3 (selfP b3) z0.1 z0.2 (l ++ lnB (funcW f))), (1, bR z0.1 z0.2 (l ++ lnB (funcW f)))]) (fun _ => rfl) (fun _ => rfl) (fun K1 hK1 w hM => (WStr_any hK1 b3 _ _ _ (l) (lnB (funcW f)) (.inr rfl) (by omega) w hM).mono fun e w1 h => h.elim fun x h => ⟨x, h.1, trivial, h.2.2⟩) ?_
      intro x53 hx53
      refine R_next ⟨.inl rfl, .inl rfl, .inl rfl, trivial⟩ ?_
      refine R_go (fun _ _ h => h) ?_
      refine T_region ?_
      refine S_ 54 rfl rfl rfl _ (y_bin rfl rfl rfl (fun hg => b_add (by omega))) ?_
      refine S_ 37 rfl rfl rfl _ (y_move rfl rfl) ?_
      refine S_nil (nextK4 (kf := [(7, 7), (37, 54)]) (kl := [(3, 3), (7, 7), (37, 54), (900, 900)]) (i + 1) (l ++ lnB (funcW f)) x53.1 x53.2 (by repeat (first | exact kf_nil | (apply kf_in; focus rfl) | (apply kf_out; focus rfl))) (by repeat (first | exact kl_nil | exact kl_rest (by assumption) rfl | (apply kl_in; focus rfl) | (apply kl_out; focus rfl))) ?_ ?_ ?_ ?_)
      · omega
      · exact ⟨by omega, by rw [← hp2, hx2, funcsT, funcsT, List.flatMap_cons, List.append_assoc], by rw [List.length_append]; omega, by rw [List.length_append]; omega⟩
      · exact ⟨rfl, trivial⟩
      · exact ⟨rfl, rfl, trivial⟩
    · try simp only [decide_eq_true_eq, decide_eq_false_iff_not, Bool.or_eq_true, Bool.or_eq_false_iff, Bool.and_eq_true, Bool.and_eq_false_iff, Bool.not_eq_true', Bool.not_eq_false', Bool.not_eq_true, Bool.not_eq_false, Bool.not_true, Bool.not_false, Int.not_lt, Int.not_le, not_or, not_and, Classical.not_not] at h38
      have e1 : l = qT2 t.pl := by rw [hok.fu.t.end (by omega)] at hp2; simpa [funcsT] using hp2
      subst e1
      refine T_exit_go (fun _ _ h => h) ?_
      refine T_seq ?_
      refine T_seq ?_
      refine T_region ?_
      refine S_ 55 rfl rfl rfl _ (y_fieldAddr rfl rfl fa62_4) ?_
      refine S_ 56 rfl rfl rfl _ (y_load 1 rfl rfl rfl rfl Tryz.underlying59 rfl) ?_
      refine S_ 57 rfl rfl rfl _ (y_len_slice rfl rfl Tryz.underlying59) ?_
      refine S_ 58 rfl rfl rfl _ (y_move rfl rfl) ?_
      refine S_go (fun _ _ h => h) ?_
      refine T_block ?_
      refine T_loopK4 (kf := [(9, 9), (58, 73)]) (kl := [(3, 3), (9, 9), (58, 73), (900, 900)]) (fun (i : Nat) (l : List UInt8) (A : Option Addr) (c : Nat) => [(58, true, .int .i64 (i : Int))]) (fun (i : Nat) (l : List UInt8) (A : Option Addr) (c : Nat) => [(3, bB b3 (selfP b3) A c l), (900, bR A c l)]) (fun (i : Nat) (l : List UInt8) (A : Option Addr) (c : Nat) => i ≤ t.ro.q ∧ l ++ rowsT (t.ro.l.drop i) = qT3 t.pl ∧ l.length ≤ 1000000 + i * 400 ∧ 4 ≤ l.length) (fun (i : Nat) (l : List UInt8) (A : Option Addr) (c : Nat) => t.ro.q - i) 0 (qT2 t.pl) A c (by repeat (first | exact kf_nil | (apply kf_in; focus rfl) | (apply kf_out; focus rfl))) (by repeat (first | exact kl_nil | exact kl_rest (by assumption) rfl | (apply kl_in; focus rfl) | (apply kl_out; focus rfl))) ?_ ?_ ?_ ?_
      · exact ⟨by omega, rfl, by omega, by omega⟩
      · exact ⟨rfl, trivial⟩
      · exact ⟨rfl, rfl, trivial⟩
      rintro i l A c ⟨hp1, hp2, hp3, hp4⟩
      refine T_seq ?_
      refine T_region ?_
      refine S_ 59 rfl rfl rfl _ (y_bin rfl rfl rfl (fun _ => b_lss)) ?_
      refine S_go (fun _ _ h => h) ?_
      refine T_seq ?_
      refine T_cond rfl (fun h59 => ?_) (fun h59 => ?_)
      · try simp only [decide_eq_true_eq, decide_eq_false_iff_not, Bool.or_eq_true, Bool.or_eq_false_iff, Bool.and_eq_true, Bool.and_eq_false_iff, Bool.not_eq_true', Bool.not_eq_false', Bool.not_eq_true, Bool.not_eq_false, Bool.not_true, Bool.not_false, Int.not_lt, Int.not_le, not_or, not_and, Classical.not_not] at h59
        obtain ⟨r, hx1, hx2⟩ := hok.ro.t.at (i := i) (by omega)
        have hr1 := hR.rows i r hx1
        have hw1 := rowT_le (r := r) (by omega) (by omega) (by omega)
        have hi1 := it_len (n := r.pos) (by omega)
        have hi2 := it_len (n := r.fi) (by omega)
        have hi3 := it_len (n := r.ln) (by omega)
        refine T_skip_go (fun _ _ h => h) ?_
        refine T_seq ?_
        refine T_block ?_
        refine T_seq ?_
        refine T_region ?_
        refine S_ 60 rfl rfl rfl _ (y_indexAddr rfl rfl rfl Tryz.underlying59 sz198 (fun hg => hok.ro.t.isSome (by omega)) (fun _ => by omega)) ?_
        refine S_ 61 rfl rfl rfl _ (y_loadT rfl rfl hok.ro.t (fun _ => rfl) (fun _ => hx1) Tryz.underlying198 rfl sz198) ?_
        refine S_alloc 9 9 rfl rfl rfl rfl z198 ?_
        intro b9
        refine S_store 9 rfl rfl rfl rfl rfl rfl sz198 rfl rfl ?_
        refine S_go (fun _ _ h => h) ?_
        refine T_region ?_
        refine S_ 62 rfl rfl rfl _ (y_fieldAddr rfl rfl fa198_0) ?_
        refine S_ 63 rfl rfl rfl _ (y_load 9 rfl rfl rfl rfl Tryz.underlying3 rfl) ?_
        refine S_ 64 rfl rfl rfl _ (y_fieldAddr rfl rfl fa198_1) ?_
        refine S_ 65 rfl rfl rfl _ (y_load 9 rfl rfl rfl rfl Tryz.underlying3 rfl) ?_
        refine S_ 66 rfl rfl rfl _ (y_fieldAddr rfl rfl fa198_2) ?_
        refine S_ 67 rfl rfl rfl _ (y_load 9 rfl rfl rfl rfl Tryz.underlying3 rfl) ?_
        refine S_buildSlice 68 68 rfl rfl rfl rfl rfl Tryz.underlying212 inf3 rfl (by decide) (by decide) rfl rfl (by decide) rfl ([r.pos, r.fi, r.ln].flatMap intE9) ?_ ?_
        · rfl
        intro b68
        refine S_ 69 rfl rfl rfl _ (y_as (v' := str ([32] ++ it r.pos ++ [32] ++ it r.fi ++ [32] ++ it r.ln)) (by simp [numsB]) (y_call rfl rfl rfl cf121 (fun hg w1 hM => numbers_any _ 3 _ ([r.pos, r.fi, r.ln]) w1 (owned_ok (enc := intE9) (l := [r.pos, r.fi, r.ln]) hM rfl (i := 68) rfl).t (by decide) (fun n hn => by simp only [List.mem_cons, List.not_mem_nil, or_false] at hn; rcases hn with rfl | rfl | rfl | rfl <;> omega) (hP.below hM.below)))) ?_
        refine S_ 70 rfl rfl rfl _ (y_bin rfl rfl rfl (fun hg => b_adds (by first | omega | (simp only [List.length_append, List.length_cons, List.length_nil]; omega)))) ?_
        refine S_ 71 rfl rfl rfl _ (y_as (v' := str (lnB (rowW r))) (by simp [lnB, rowW, jn, kRow]) (y_bin rfl rfl rfl (fun hg => b_adds (by first | omega | (simp only [List.length_append, List.length_cons, List.length_nil]; omega))))) ?_
        refine S_callM 72 [(0, 3), (1, 900)] (X := Option Addr × Nat) rfl rfl rfl rfl rfl rfl rfl cf120 rfl (fun _ => .tuple #[.int .i64 (lnB (rowW r)).length, .nilIface]) (fun _ => True) (fun z0 => [(0, bB b3 (selfP b3) z0.1 z0.2 (l ++ lnB (rowW r))), (1, bR z0.1 z0.2 (l ++ lnB (rowW r)))]) (fun _ => rfl) (fun _ => rfl) (fun K1 hK1 w hM => (WStr_any hK1 b3 _ _ _ (l) (lnB (rowW r)) (.inr rfl) (by omega) w hM).mono fun e w1 h => h.elim fun x h => ⟨x, h.1, trivial, h.2.2⟩) ?_
        intro x72 hx72
        refine S_go (fun _ _ h => h) ?_
        refine T_region ?_
        refine S_ 73 rfl rfl rfl _ (y_bin rfl rfl rfl (fun hg => b_add (by omega))) ?_
        refine S_ 58 rfl rfl rfl _ (y_move rfl rfl) ?_
        refine S_nil (nextK4 (kf := [(9, 9), (58, 73)]) (kl := [(3, 3), (9, 9), (58, 73), (900, 900)]) (i + 1) (l ++ lnB (rowW r)) x72.1 x72.2 (by repeat (first | exact kf_nil | (apply kf_in; focus rfl) | (apply kf_out; focus rfl))) (by repeat (first | exact kl_nil | exact kl_rest (by assumption) rfl | (apply kl_in; focus rfl) | (apply kl_out; focus rfl))) ?_ ?_ ?_ ?_)
        · omega
        · exact ⟨by omega, by rw [← hp2, hx2, rowsT, rowsT, List.flatMap_cons, List.append_assoc], by rw [List.length_append]; omega, by rw [List.length_append]; omega⟩
        · exact ⟨rfl, trivial⟩
        · exact ⟨rfl, rfl, trivial⟩
      · try simp only [decide_eq_true_eq, decide_eq_false_iff_not, Bool.or_eq_true, Bool.or_eq_false_iff, Bool.and_eq_true, Bool.and_eq_false_iff, Bool.not_eq_true', Bool.not_eq_false', Bool.not_eq_true, Bool.not_eq_false, Bool.not_true, Bool.not_false, Int.not_lt, Int.not_le, not_or, not_and, Classical.not_not] at h59
        have e1 : l = qT3 t.pl := by rw [hok.ro.t.end (by omega)] at hp2; simpa [rowsT] using hp2
        subst e1
        refine T_exit_go (fun _ _ h => h) ?_
        refine T_seq ?_
        refine T_seq ?_
        refine T_region ?_
        refine S_ 74 rfl rfl rfl _ (y_fieldAddr rfl rfl fa62_5) ?_
        refine S_ 75 rfl rfl rfl _ (y_load 1 rfl rfl rfl rfl Tryz.underlying60 rfl) ?_
        refine S_ 76 rfl rfl rfl _ (y_len_slice rfl rfl Tryz.underlying60) ?_
        refine S_ 77 rfl rfl rfl _ (y_move rfl rfl) ?_
        refine S_go (fun _ _ h => h) ?_
        refine T_block ?_
        refine T_loopK4 (kf := [(11, 11), (77, 98)]) (kl := [(3, 3), (11, 11), (77, 98), (900, 900)]) (fun (i : Nat) (l : List UInt8) (A : Option Addr) (c : Nat) => [(77, true, .int .i64 (i : Int))]) (fun (i : Nat) (l : List UInt8) (A : Option Addr) (c : Nat) => [(3, bB b3 (selfP b3) A c l), (900, bR A c l)]) (fun (i : Nat) (l : List UInt8) (A : Option Addr) (c : Nat) => i ≤ t.ca.q ∧ l ++ callsT (t.ca.l.drop i) = tabT t.pl ∧ l.length ≤ 4000000 + i * 400 ∧ 4 ≤ l.length) (fun (i : Nat) (l : List UInt8) (A : Option Addr) (c : Nat) => t.ca.q - i) 0 (qT3 t.pl) A c (by repeat (first | exact kf_nil | (apply kf_in; focus rfl) | (apply kf_out; focus rfl))) (by repeat (first | exact kl_nil | exact kl_rest (by assumption) rfl | (apply kl_in; focus rfl) | (apply kl_out; focus rfl))) ?_ ?_ ?_ ?_
        · exact ⟨by omega, rfl, by omega, by omega⟩
        · exact ⟨rfl, trivial⟩
        · exact ⟨rfl, rfl, trivial⟩
        rintro i l A c ⟨hp1, hp2, hp3, hp4⟩
        refine T_seq ?_
        refine T_region ?_
        refine S_ 78 rfl rfl rfl _ (y_bin rfl rfl rfl (fun _ => b_lss)) ?_
        refine S_go (fun _ _ h => h) ?_
        refine T_seq ?_
        refine T_cond rfl (fun h78 => ?_) (fun h78 => ?_)
        · try simp only [decide_eq_true_eq, decide_eq_false_iff_not, Bool.or_eq_true, Bool.or_eq_false_iff, Bool.and_eq_true, Bool.and_eq_false_iff, Bool.not_eq_true', Bool.not_eq_false', Bool.not_eq_true, Bool.not_eq_false, Bool.not_true, Bool.not_false, Int.not_lt, Int.not_le, not_or, not_and, Classical.not_not] at h78
          obtain ⟨c0, hx1, hx2⟩ := hok.ca.t.at (i := i) (by omega)
          obtain ⟨hc1, hc2⟩ := hR.calls i c0 hx1
          have hw1 := callT_le (c := c0) hc1 (by omega) (by omega) (by omega) (by omega)
          have hi1 := it_len (n := c0.fr) (by omega)
          have hi2 := it_len (n := c0.tu) (by omega)
          have hi3 := it_len (n := c0.fi) (by omega)
          have hi4 := it_len (n := c0.ln) (by omega)
          refine T_skip_go (fun _ _ h => h) ?_
          refine T_seq ?_
          refine T_block ?_
          refine T_seq ?_
          refine T_region ?_
          refine S_ 79 rfl rfl rfl _ (y_indexAddr rfl rfl rfl Tryz.underlying60 sz200 (fun hg => hok.ca.t.isSome (by omega)) (fun _ => by omega)) ?_
          refine S_ 80 rfl rfl rfl _ (y_loadT rfl rfl hok.ca.t (fun _ => rfl) (fun _ => hx1) Tryz.underlying200 rfl sz200) ?_
          refine S_alloc 11 11 rfl rfl rfl rfl z200 ?_
          intro b11
          refine S_store 11 rfl rfl rfl rfl rfl rfl sz200 rfl rfl ?_
          refine S_go (fun _ _ h => h) ?_
          refine T_perm [0, 1, 2, 3, 4, 5, 6, 7, 12, 13, 8, 9, 10, 11, 14, 15, 16] [true, true, true, true, true, true, true, true, false, false, true, true, true, true, true, true, false] [0, 1, 0, 4, 0, 16, 0, 64, 255, 511, 1023, 2047, 0, 4096, 16383, 32767, 65535] [(1, [11]), (3, [11]), (5, [11]), (7, [11]), (13, [11])] (by kernel_rfl) (by kernel_rfl) (by kernel_rfl) rfl (by kernel_rfl) ?_
          refine Rf_ 0 81 rfl rfl rfl rfl rfl _ trivial (Y.z (y_fieldAddr rfl rfl fa200_1) rfl) ?_
          refine Rf_ 1 82 rfl rfl rfl rfl rfl _ ⟨rfl, trivial⟩ (Y.z (y_load 11 rfl rfl rfl rfl Tryz.underlying3 rfl) rfl) ?_
          refine Rf_ 2 83 rfl rfl rfl rfl rfl _ trivial (Y.z (y_fieldAddr rfl rfl fa200_2) rfl) ?_
          refine Rf_ 3 84 rfl rfl rfl rfl rfl _ ⟨rfl, trivial⟩ (Y.z (y_load 11 rfl rfl rfl rfl Tryz.underlying3 rfl) rfl) ?_
          refine Rf_ 4 85 rfl rfl rfl rfl rfl _ trivial (Y.z (y_fieldAddr rfl rfl fa200_3) rfl) ?_
          refine Rf_ 5 86 rfl rfl rfl rfl rfl _ ⟨rfl, trivial⟩ (Y.z (y_load 11 rfl rfl rfl rfl Tryz.underlying3 rfl) rfl) ?_
          refine Rf_ 6 87 rfl rfl rfl rfl rfl _ trivial (Y.z (y_fieldAddr rfl rfl fa200_4) rfl) ?_
          refine Rf_ 7 88 rfl rfl rfl rfl rfl _ ⟨rfl, trivial⟩ (Y.z (y_load 11 rfl rfl rfl rfl Tryz.underlying3 rfl) rfl) ?_
          refine Rf_ 12 93 rfl rfl rfl rfl rfl _ trivial (Y.z (y_fieldAddr rfl rfl fa200_0) rfl) ?_
          refine Rf_ 13 94 rfl rfl rfl rfl rfl _ ⟨rfl, trivial⟩ (Y.z (y_load 11 rfl rfl rfl rfl Tryz.underlying9 rfl) rfl) ?_
          refine R_chain 8 rfl rfl ?_
          refine S_buildSlice 89 89 rfl rfl rfl rfl rfl Tryz.underlying212 inf3 rfl (by decide) (by decide) rfl rfl (by decide) rfl ([c0.fr, c0.tu, c0.fi, c0.ln].flatMap intE9) ?_ ?_
          · rfl
          intro b89
          refine R_next ⟨.inl rfl, .inl rfl, .inl rfl, .inl rfl, .inr ⟨rfl, trivial⟩, trivial⟩ ?_
          refine R_chain 9 rfl rfl ?_
          refine S_ 90 rfl rfl rfl _ (y_as (v' := str ([32] ++ it c0.fr ++ [32] ++ it c0.tu ++ [32] ++ it c0.fi ++ [32] ++ it c0.ln)) (by simp [numsB]) (y_call rfl rfl rfl cf121 (fun hg w1 hM => numbers_any _ 4 _ ([c0.fr, c0.tu, c0.fi, c0.ln]) w1 (owned_ok (enc := intE9) (l := [c0.fr, c0.tu, c0.fi, c0.ln]) hM rfl (i := 89) rfl).t (by decide) (fun n hn => by simp only [List.mem_cons, List.not_mem_nil, or_false] at hn; rcases hn with rfl | rfl | rfl | rfl <;> omega) (hP.below hM.below)))) ?_
          refine R_next ⟨.inl rfl, .inl rfl, .inl rfl, .inl rfl, .inr ⟨rfl, trivial⟩, trivial⟩ ?_
          refine Rf_ 10 91 rfl rfl rfl rfl rfl _ trivial (Y.z (y_bin rfl rfl rfl (fun hg => b_adds (by first | omega | (simp only [List.length_append, List.length_cons, List.length_nil]; omega)))) rfl) ?_
          refine Rf_ 11 92 rfl rfl rfl rfl rfl _ trivial (Y.z (y_bin rfl rfl rfl (fun hg => b_adds (by first | omega | (simp only [List.length_append, List.length_cons, List.length_nil]; omega)))) rfl) ?_
          refine Rf_ 14 95 rfl rfl rfl rfl rfl _ trivial (Y.z (y_bin rfl rfl rfl (fun hg => b_adds (by first | omega | (simp only [List.length_append, List.length_cons, List.length_nil]; omega)))) rfl) ?_
          refine Rf_ 15 96 rfl rfl rfl rfl rfl _ trivial (Y.z (y_as (v' := str (lnB (callW c0))) (by simp [lnB, callW, jn, kCal]) (y_bin rfl rfl rfl (fun hg => b_adds (by first | omega | (simp only [List.length_append, List.length_cons, List.length_nil]; omega))))) rfl) ?_
          refine R_chain 16 rfl rfl ?_
          refine S_callM 97 [(0, 3), (1, 900)] (X := Option Addr × Nat) rfl rfl rfl rfl rfl rfl rfl cf120 rfl (fun _ => .tuple #[.int .i64 (lnB (callW c0)).length, .nilIface]) (fun _ => True) (fun z0 => [(0, bB b3 (selfP b3) z0.1 z0.2 (l ++ lnB (callW c0))), (1, bR z0.1 z0.2 (l ++ lnB (callW c0)))]) (fun _ => rfl) (fun _ => rfl) (fun K1 hK1 w hM => (WStr_any hK1 b3 _ _ _ (l) (lnB (callW c0)) (.inr rfl) (by omega) w hM).mono fun e w1 h => h.elim fun x h => ⟨x, h.1, trivial, h.2.2⟩) ?_
          intro x97 hx97
          refine R_next ⟨.inl rfl, .inl rfl, .inl rfl, .inl rfl, .inl rfl, trivial⟩ ?_
          refine R_go (fun _ _ h => h) ?_
          refine T_region ?_
          refine S_ 98 rfl rfl rfl _ (y_bin rfl rfl rfl (fun hg => b_add (by omega))) ?_
          refine S_ 77 rfl rfl rfl _ (y_move rfl rfl) ?_
          refine S_nil (nextK4 (kf := [(11, 11), (77, 98)]) (kl := [(3, 3), (11, 11), (77, 98), (900, 900)]) (i + 1) (l ++ lnB (callW c0)) x97.1 x97.2 (by repeat (first | exact kf_nil | (apply kf_in; focus rfl) | (apply kf_out; focus rfl))) (by repeat (first | exact kl_nil | exact kl_rest (by assumption) rfl | (apply kl_in; focus rfl) | (apply kl_out; focus rfl))) ?_ ?_ ?_ ?_)
          · omega
          · exact ⟨by omega, by rw [← hp2, hx2, callsT, callsT, List.flatMap_cons, List.append_assoc], by rw [List.length_append]; omega, by rw [List.length_append]; omega⟩
          · exact ⟨rfl, trivial⟩
          · exact ⟨rfl, rfl, trivial⟩
        · try simp only [decide_eq_true_eq, decide_eq_false_iff_not, Bool.or_eq_true, Bool.or_eq_false_iff, Bool.and_eq_true, Bool.and_eq_false_iff, Bool.not_eq_true', Bool.not_eq_false', Bool.not_eq_true, Bool.not_eq_false, Bool.not_true, Bool.not_false, Int.not_lt, Int.not_le, not_or, not_and, Classical.not_not] at h78
          have e1 : l = tabT t.pl := by rw [hok.ca.t.end (by omega)] at hp2; simpa [callsT] using hp2
          subst e1
          refine T_exit_go (fun _ _ h => h) ?_
          refine T_seq ?_
          refine T_region ?_
          refine S_callM 99 [(0, 3), (1, 900)] (X := Unit) rfl rfl rfl rfl rfl rfl rfl cf122 rfl (fun _ => str (tabT t.pl)) (fun _ => True) (fun _ => [(1, bR none 0 []), (0, bB b3 (selfP b3) A c (tabT t.pl))]) (fun _ => rfl) (fun _ => rfl) (fun K1 hK1 w hM => (BStr_any hK1 b3 _ _ _ (tabT t.pl) (by omega) (by omega) w hM).mono fun e w1 h => ⟨(), h.1, trivial, h.2⟩) ?_
          intro _ _
          refine S_ 2 rfl rfl rfl _ (y_assign rfl rfl) ?_
          refine S_go (fun _ _ h => h) ?_
          refine T_ret (fun a w hF hM => hRb a w (post1 rfl rfl (fun w hM => ?_) a w hF hM))
          exact ⟨rfl, hM.below⟩
end Go.Proofs.YtkkngcdikbhkjaaGreatDoor
end
section
namespace Go.Proofs.YtkkngcdikbhkjaaGreatDoor
set_option linter.unusedSimpArgs false
set_option linter.unusedVariables false
set_option maxRecDepth 20000
open Go.RowKit Go.Eng
end Go.Proofs.YtkkngcdikbhkjaaGreatDoor
end
section
namespace Go.Proofs.YtkkngcdikbhkjaaGreatDoor
set_option linter.unusedSimpArgs false
set_option linter.unusedVariables false
set_option maxRecDepth 20000
open Go.RowKit Go.Eng
end Go.Proofs.YtkkngcdikbhkjaaGreatDoor
end
section
namespace Go.Proofs.YtkkngcdikbhkjaaGreatDoor
set_option linter.unusedSimpArgs false
set_option linter.unusedVariables false
set_option maxRecDepth 20000
open Go.RowKit Go.Eng
end Go.Proofs.YtkkngcdikbhkjaaGreatDoor
end
section
namespace Go.Proofs.YtkkngcdikbhkjaaGreatDoor
set_option linter.unusedSimpArgs false
set_option linter.unusedVariables false
set_option maxRecDepth 20000
open Go.RowKit Go.Eng
def sEq (a b : List UInt8) : Bool := decide (a = b)
def SFunc.eqB (a b : SFunc) : Bool := decide (a.name = b.name) && (decide (a.fr = b.fr) && decide (a.tu = b.tu))
def SRow.eqB (a b : SRow) : Bool := decide (a.pos = b.pos) && (decide (a.fi = b.fi) && decide (a.ln = b.ln))
def SCall.eqB (a b : SCall) : Bool := decide (a.name = b.name) && (decide (a.fr = b.fr) && (decide (a.tu = b.tu) && (decide (a.fi = b.fi) && decide (a.ln = b.ln))))
theorem sEq_iff (a b : List UInt8) : sEq a b = true ↔ a = b := by simp [sEq]
theorem SFunc.eqB_iff (a b : SFunc) : SFunc.eqB a b = true ↔ a = b := by cases a; cases b; simp [SFunc.eqB]
theorem SRow.eqB_iff (a b : SRow) : SRow.eqB a b = true ↔ a = b := by cases a; cases b; simp [SRow.eqB]
theorem SCall.eqB_iff (a b : SCall) : SCall.eqB a b = true ↔ a = b := by cases a; cases b; simp [SCall.eqB]
theorem EqualS_any (A B : Option Addr) (q c p d : Nat) (l m : List (List UInt8)) (w : World) (hl : SlT strEnc 1 w A q l) (hm : SlT strEnc 1 w B p m) (hq : q ≤ 4611686018427387904) (hp : p ≤ 4611686018427387904) :
    Calls Tryz.prog 155 #[.slice A q c, .slice B p d] w fun e w' => e = .returned (.bool (eqLB sEq l m)) ∧ Below w.heap.size w w' := by
  have hlen := hl.len
  have hmen := hm.len
  refine enter_args (args := [.slice A q c, .slice B p d]) (F := _) Tryz.func155 rfl Tryz.ntmps155 rfl rfl ?_
  intro Rb hRb hRn
  refine T_seq ?_
  refine T_region ?_
  refine S_ 4 rfl rfl rfl _ (y_assign rfl rfl) ?_
  refine S_go (fun _ _ h => h) ?_
  refine T_seq ?_
  refine T_seq ?_
  refine T_region ?_
  refine S_ 6 rfl rfl rfl _ (y_move rfl rfl) ?_
  refine S_ 7 rfl rfl rfl _ (y_len_slice rfl rfl Tryz.underlying57) ?_
  refine S_ 8 rfl rfl rfl _ (y_move rfl rfl) ?_
  refine S_ 9 rfl rfl rfl _ (y_len_slice rfl rfl Tryz.underlying57) ?_
  refine S_ 10 rfl rfl rfl _ (y_bin rfl rfl rfl (fun _ => b_neq)) ?_
  refine S_go (fun _ _ h => h) ?_
  refine T_cond rfl (fun h10 => ?_) (fun h10 => ?_)
  · try simp only [decide_eq_true_eq, decide_eq_false_iff_not, Bool.or_eq_true, Bool.or_eq_false_iff, Bool.and_eq_true, Bool.and_eq_false_iff, Bool.not_eq_true', Bool.not_eq_false', Bool.not_eq_true, Bool.not_eq_false, Bool.not_true, Bool.not_false, Int.not_lt, Int.not_le, not_or, not_and, Classical.not_not] at h10
    refine T_seq ?_
    refine T_region ?_
    refine S_ 4 rfl rfl rfl _ (y_assign rfl rfl) ?_
    refine S_go (fun _ _ h => h) ?_
    refine T_ret (fun a w hF hM => hRb a w (post1 rfl rfl (fun w hM => ?_) a w hF hM))
    exact ⟨by rw [eqLB_len l m (by omega)], hM.below⟩
  · try simp only [decide_eq_true_eq, decide_eq_false_iff_not, Bool.or_eq_true, Bool.or_eq_false_iff, Bool.and_eq_true, Bool.and_eq_false_iff, Bool.not_eq_true', Bool.not_eq_false', Bool.not_eq_true, Bool.not_eq_false, Bool.not_true, Bool.not_false, Int.not_lt, Int.not_le, not_or, not_and, Classical.not_not] at h10
    refine T_skip_go (fun _ _ h => h) ?_
    refine T_seq ?_
    refine T_seq ?_
    refine T_region ?_
    refine S_ 11 rfl rfl rfl _ (y_move rfl rfl) ?_
    refine S_ 12 rfl rfl rfl _ (y_len_slice rfl rfl Tryz.underlying57) ?_
    refine S_ 13 rfl rfl rfl _ (y_move rfl rfl) ?_
    refine S_go (fun _ _ h => h) ?_
    refine T_block ?_
    refine T_loopK1 (kf := [(4, 5), (13, 25)]) (kl := [(4, 5), (13, 25)]) (fun (i : Nat) => [(13, true, .int .i64 (i : Int))]) (fun (i : Nat) => []) (fun (i : Nat) => i ≤ q ∧ eqLB sEq l m = eqLB sEq (l.drop i) (m.drop i)) (fun (i : Nat) => q - i) 0 (by repeat (first | exact kf_nil | (apply kf_in; focus rfl) | (apply kf_out; focus rfl))) (by repeat (first | exact kl_nil | exact kl_rest (by assumption) rfl | (apply kl_in; focus rfl) | (apply kl_out; focus rfl))) ?_ ?_ ?_ ?_
    · exact ⟨by omega, rfl⟩
    · exact ⟨rfl, trivial⟩
    · exact trivial
    rintro i ⟨hp1, hp2⟩
    refine T_seq ?_
    refine T_region ?_
    refine S_ 14 rfl rfl rfl _ (y_bin rfl rfl rfl (fun _ => b_lss)) ?_
    refine S_go (fun _ _ h => h) ?_
    refine T_seq ?_
    refine T_cond rfl (fun h14 => ?_) (fun h14 => ?_)
    · try simp only [decide_eq_true_eq, decide_eq_false_iff_not, Bool.or_eq_true, Bool.or_eq_false_iff, Bool.and_eq_true, Bool.and_eq_false_iff, Bool.not_eq_true', Bool.not_eq_false', Bool.not_eq_true, Bool.not_eq_false, Bool.not_true, Bool.not_false, Int.not_lt, Int.not_le, not_or, not_and, Classical.not_not] at h14
      obtain ⟨a, hx1, hx2⟩ := hl.at (i := i) (by omega)
      obtain ⟨b, hy1, hy2⟩ := hm.at (i := i) (by omega)
      refine T_skip_go (fun _ _ h => h) ?_
      refine T_seq ?_
      refine T_block ?_
      refine T_seq ?_
      refine T_region ?_
      refine S_ 15 rfl rfl rfl _ (y_move rfl rfl) ?_
      refine S_ 5 rfl rfl rfl _ (y_assign rfl rfl) ?_
      refine S_go (fun _ _ h => h) ?_
      refine T_seq ?_
      refine T_draws (by kernel_rfl) (by kernel_rfl) ?_
      refine D_ 16 rfl rfl rfl _ (y_move rfl rfl) ?_
      refine D_ 17 rfl rfl rfl _ (y_move rfl rfl) ?_
      refine D_ 18 rfl rfl rfl _ (y_indexAddr rfl rfl rfl Tryz.underlying57 sz9 (fun hg => hl.isSome (by omega)) (fun _ => by omega)) ?_
      refine D_ 19 rfl rfl rfl _ (y_loadT1 (val := (fun l : List UInt8 => str l)) rfl rfl hl (fun _ => hx1) Tryz.underlying9 rfl) ?_
      refine D_ 20 rfl rfl rfl _ (y_move rfl rfl) ?_
      refine D_ 21 rfl rfl rfl _ (y_move rfl rfl) ?_
      refine D_ 22 rfl rfl rfl _ (y_indexAddr rfl rfl rfl Tryz.underlying57 sz9 (fun hg => hm.isSome (by omega)) (fun _ => by omega)) ?_
      refine D_ 23 rfl rfl rfl _ (y_loadT1 (val := (fun l : List UInt8 => str l)) rfl rfl hm (fun _ => hy1) Tryz.underlying9 rfl) ?_
      refine D_ 24 rfl rfl rfl _ (y_as (v' := .bool (!(sEq a b))) (by rw [show (decide (a = b)) = sEq a b from rfl]) (y_bin rfl rfl rfl (fun _ => b_neqs))) ?_
      refine D_go (fun _ _ h => h) ?_
      refine T_cond rfl (fun h24 => ?_) (fun h24 => ?_)
      · skip
        have h24e : sEq a b = false := by simpa using h24
        refine T_seq ?_
        refine T_region ?_
        refine S_ 4 rfl rfl rfl _ (y_assign rfl rfl) ?_
        refine S_go (fun _ _ h => h) ?_
        refine T_ret (fun a w hF hM => hRb a w (post1 rfl rfl (fun w hM => ?_) a w hF hM))
        exact ⟨by rw [hp2, hx2, hy2, eqLB, h24e, Bool.false_and], hM.below⟩
      · skip
        have h24e : sEq a b = true := by simpa using h24
        refine T_skip_go (fun _ _ h => h) ?_
        refine T_region ?_
        refine S_ 25 rfl rfl rfl _ (y_bin rfl rfl rfl (fun hg => b_add (by omega))) ?_
        refine S_ 13 rfl rfl rfl _ (y_move rfl rfl) ?_
        refine S_nil (nextK1 (kf := [(4, 5), (13, 25)]) (kl := [(4, 5), (13, 25)]) (i + 1) (by repeat (first | exact kf_nil | (apply kf_in; focus rfl) | (apply kf_out; focus rfl))) (by repeat (first | exact kl_nil | exact kl_rest (by assumption) rfl | (apply kl_in; focus rfl) | (apply kl_out; focus rfl))) ?_ ?_ ?_ ?_)
        · omega
        · exact ⟨by omega, by rw [hp2, hx2, hy2, eqLB, h24e, Bool.true_and]⟩
        · exact ⟨rfl, trivial⟩
        · exact trivial
    · try simp only [decide_eq_true_eq, decide_eq_false_iff_not, Bool.or_eq_true, Bool.or_eq_false_iff, Bool.and_eq_true, Bool.and_eq_false_iff, Bool.not_eq_true', Bool.not_eq_false', Bool.not_eq_true, Bool.not_eq_false, Bool.not_true, Bool.not_false, Int.not_lt, Int.not_le, not_or, not_and, Classical.not_not] at h14
      refine T_exit_go (fun _ _ h => h) ?_
      refine T_seq ?_
      refine T_region ?_
      refine S_ 4 rfl rfl rfl _ (y_assign rfl rfl) ?_
      refine S_go (fun _ _ h => h) ?_
      refine T_ret (fun a w hF hM => hRb a w (post1 rfl rfl (fun w hM => ?_) a w hF hM))
      exact ⟨by rw [hp2, hl.end (by omega), hm.end (by omega)]; rfl, hM.below⟩
theorem EqualF_any (A B : Option Addr) (q c p d : Nat) (l m : List (SFunc)) (w : World) (hl : SlT SFunc.enc 3 w A q l) (hm : SlT SFunc.enc 3 w B p m) (hq : q ≤ 4611686018427387904) (hp : p ≤ 4611686018427387904) :
    Calls Tryz.prog 270 #[.slice A q c, .slice B p d] w fun e w' => e = .returned (.bool (eqLB SFunc.eqB l m)) ∧ Below w.heap.size w w' := by
  have hlen := hl.len
  have hmen := hm.len
  refine enter_args (args := [.slice A q c, .slice B p d]) (F := _) Tryz.func270 rfl Tryz.ntmps270 rfl rfl ?_
  intro Rb hRb hRn
  refine T_seq ?_
  refine T_region ?_
  refine S_ 4 rfl rfl rfl _ (y_assign rfl rfl) ?_
  refine S_go (fun _ _ h => h) ?_
  refine T_seq ?_
  refine T_seq ?_
  refine T_region ?_
  refine S_ 6 rfl rfl rfl _ (y_move rfl rfl) ?_
  refine S_ 7 rfl rfl rfl _ (y_len_slice rfl rfl Tryz.underlying58) ?_
  refine S_ 8 rfl rfl rfl _ (y_move rfl rfl) ?_
  refine S_ 9 rfl rfl rfl _ (y_len_slice rfl rfl Tryz.underlying58) ?_
  refine S_ 10 rfl rfl rfl _ (y_bin rfl rfl rfl (fun _ => b_neq)) ?_
  refine S_go (fun _ _ h => h) ?_
  refine T_cond rfl (fun h10 => ?_) (fun h10 => ?_)
  · try simp only [decide_eq_true_eq, decide_eq_false_iff_not, Bool.or_eq_true, Bool.or_eq_false_iff, Bool.and_eq_true, Bool.and_eq_false_iff, Bool.not_eq_true', Bool.not_eq_false', Bool.not_eq_true, Bool.not_eq_false, Bool.not_true, Bool.not_false, Int.not_lt, Int.not_le, not_or, not_and, Classical.not_not] at h10
    refine T_seq ?_
    refine T_region ?_
    refine S_ 4 rfl rfl rfl _ (y_assign rfl rfl) ?_
    refine S_go (fun _ _ h => h) ?_
    refine T_ret (fun a w hF hM => hRb a w (post1 rfl rfl (fun w hM => ?_) a w hF hM))
    exact ⟨by rw [eqLB_len l m (by omega)], hM.below⟩
  · try simp only [decide_eq_true_eq, decide_eq_false_iff_not, Bool.or_eq_true, Bool.or_eq_false_iff, Bool.and_eq_true, Bool.and_eq_false_iff, Bool.not_eq_true', Bool.not_eq_false', Bool.not_eq_true, Bool.not_eq_false, Bool.not_true, Bool.not_false, Int.not_lt, Int.not_le, not_or, not_and, Classical.not_not] at h10
    refine T_skip_go (fun _ _ h => h) ?_
    refine T_seq ?_
    refine T_seq ?_
    refine T_region ?_
    refine S_ 11 rfl rfl rfl _ (y_move rfl rfl) ?_
    refine S_ 12 rfl rfl rfl _ (y_len_slice rfl rfl Tryz.underlying58) ?_
    refine S_ 13 rfl rfl rfl _ (y_move rfl rfl) ?_
    refine S_go (fun _ _ h => h) ?_
    refine T_block ?_
    refine T_loopK1 (kf := [(4, 5), (13, 25)]) (kl := [(4, 5), (13, 25)]) (fun (i : Nat) => [(13, true, .int .i64 (i : Int))]) (fun (i : Nat) => []) (fun (i : Nat) => i ≤ q ∧ eqLB SFunc.eqB l m = eqLB SFunc.eqB (l.drop i) (m.drop i)) (fun (i : Nat) => q - i) 0 (by repeat (first | exact kf_nil | (apply kf_in; focus rfl) | (apply kf_out; focus rfl))) (by repeat (first | exact kl_nil | exact kl_rest (by assumption) rfl | (apply kl_in; focus rfl) | (apply kl_out; focus rfl))) ?_ ?_ ?_ ?_
    · exact ⟨by omega, rfl⟩
    · exact ⟨rfl, trivial⟩
    · exact trivial
    rintro i ⟨hp1, hp2⟩
    refine T_seq ?_
    refine T_region ?_
    refine S_ 14 rfl rfl rfl _ (y_bin rfl rfl rfl (fun _ => b_lss)) ?_
    refine S_go (fun _ _ h => h) ?_
    refine T_seq ?_
    refine T_cond rfl (fun h14 => ?_) (fun h14 => ?_)
    · try simp only [decide_eq_true_eq, decide_eq_false_iff_not, Bool.or_eq_true, Bool.or_eq_false_iff, Bool.and_eq_true, Bool.and_eq_false_iff, Bool.not_eq_true', Bool.not_eq_false', Bool.not_eq_true, Bool.not_eq_false, Bool.not_true, Bool.not_false, Int.not_lt, Int.not_le, not_or, not_and, Classical.not_not] at h14
      obtain ⟨a, hx1, hx2⟩ := hl.at (i := i) (by omega)
      obtain ⟨b, hy1, hy2⟩ := hm.at (i := i) (by omega)
      refine T_skip_go (fun _ _ h => h) ?_
      refine T_seq ?_
      refine T_block ?_
      refine T_seq ?_
      refine T_region ?_
      refine S_ 15 rfl rfl rfl _ (y_move rfl rfl) ?_
      refine S_ 5 rfl rfl rfl _ (y_assign rfl rfl) ?_
      refine S_go (fun _ _ h => h) ?_
      refine T_seq ?_
      refine T_draws (by kernel_rfl) (by kernel_rfl) ?_
      refine D_ 16 rfl rfl rfl _ (y_move rfl rfl) ?_
      refine D_ 17 rfl rfl rfl _ (y_move rfl rfl) ?_
      refine D_ 18 rfl rfl rfl _ (y_indexAddr rfl rfl rfl Tryz.underlying58 sz196 (fun hg => hl.isSome (by omega)) (fun _ => by omega)) ?_
      refine D_ 19 rfl rfl rfl _ (y_loadT rfl rfl hl (fun _ => rfl) (fun _ => hx1) Tryz.underlying196 rfl sz196) ?_
      refine D_ 20 rfl rfl rfl _ (y_move rfl rfl) ?_
      refine D_ 21 rfl rfl rfl _ (y_move rfl rfl) ?_
      refine D_ 22 rfl rfl rfl _ (y_indexAddr rfl rfl rfl Tryz.underlying58 sz196 (fun hg => hm.isSome (by omega)) (fun _ => by omega)) ?_
      refine D_ 23 rfl rfl rfl _ (y_loadT rfl rfl hm (fun _ => rfl) (fun _ => hy1) Tryz.underlying196 rfl sz196) ?_
      refine D_ 24 rfl rfl rfl _ (y_as (v' := .bool (!(SFunc.eqB a b))) (by simp [SFunc.eqB, str]) (y_bin rfl rfl rfl (fun _ => b_neqA (rs := [_, _, _]) Tryz.underlying196 (by kernel_rfl) (by kernel_rfl) ⟨by decide, ⟨_, Tryz.underlying9, rfl, _, _, rfl, rfl, rfl⟩, by decide, ⟨_, Tryz.underlying3, rfl, _, _, rfl, rfl, rfl⟩, by decide, ⟨_, Tryz.underlying3, rfl, _, _, rfl, rfl, rfl⟩, trivial⟩))) ?_
      refine D_go (fun _ _ h => h) ?_
      refine T_cond rfl (fun h24 => ?_) (fun h24 => ?_)
      · skip
        have h24e : SFunc.eqB a b = false := by simpa using h24
        refine T_seq ?_
        refine T_region ?_
        refine S_ 4 rfl rfl rfl _ (y_assign rfl rfl) ?_
        refine S_go (fun _ _ h => h) ?_
        refine T_ret (fun a w hF hM => hRb a w (post1 rfl rfl (fun w hM => ?_) a w hF hM))
        exact ⟨by rw [hp2, hx2, hy2, eqLB, h24e, Bool.false_and], hM.below⟩
      · skip
        have h24e : SFunc.eqB a b = true := by simpa using h24
        refine T_skip_go (fun _ _ h => h) ?_
        refine T_region ?_
        refine S_ 25 rfl rfl rfl _ (y_bin rfl rfl rfl (fun hg => b_add (by omega))) ?_
        refine S_ 13 rfl rfl rfl _ (y_move rfl rfl) ?_
        refine S_nil (nextK1 (kf := [(4, 5), (13, 25)]) (kl := [(4, 5), (13, 25)]) (i + 1) (by repeat (first | exact kf_nil | (apply kf_in; focus rfl) | (apply kf_out; focus rfl))) (by repeat (first | exact kl_nil | exact kl_rest (by assumption) rfl | (apply kl_in; focus rfl) | (apply kl_out; focus rfl))) ?_ ?_ ?_ ?_)
        · omega
        · exact ⟨by omega, by rw [hp2, hx2, hy2, eqLB, h24e, Bool.true_and]⟩
        · exact ⟨rfl, trivial⟩
        · exact trivial
    · try simp only [decide_eq_true_eq, decide_eq_false_iff_not, Bool.or_eq_true, Bool.or_eq_false_iff, Bool.and_eq_true, Bool.and_eq_false_iff, Bool.not_eq_true', Bool.not_eq_false', Bool.not_eq_true, Bool.not_eq_false, Bool.not_true, Bool.not_false, Int.not_lt, Int.not_le, not_or, not_and, Classical.not_not] at h14
      refine T_exit_go (fun _ _ h => h) ?_
      refine T_seq ?_
      refine T_region ?_
      refine S_ 4 rfl rfl rfl _ (y_assign rfl rfl) ?_
      refine S_go (fun _ _ h => h) ?_
      refine T_ret (fun a w hF hM => hRb a w (post1 rfl rfl (fun w hM => ?_) a w hF hM))
      exact ⟨by rw [hp2, hl.end (by omega), hm.end (by omega)]; rfl, hM.below⟩
theorem EqualR_any (A B : Option Addr) (q c p d : Nat) (l m : List (SRow)) (w : World) (hl : SlT SRow.enc 3 w A q l) (hm : SlT SRow.enc 3 w B p m) (hq : q ≤ 4611686018427387904) (hp : p ≤ 4611686018427387904) :
    Calls Tryz.prog 271 #[.slice A q c, .slice B p d] w fun e w' => e = .returned (.bool (eqLB SRow.eqB l m)) ∧ Below w.heap.size w w' := by
  have hlen := hl.len
  have hmen := hm.len
  refine enter_args (args := [.slice A q c, .slice B p d]) (F := _) Tryz.func271 rfl Tryz.ntmps271 rfl rfl ?_
  intro Rb hRb hRn
  refine T_seq ?_
  refine T_region ?_
  refine S_ 4 rfl rfl rfl _ (y_assign rfl rfl) ?_
  refine S_go (fun _ _ h => h) ?_
  refine T_seq ?_
  refine T_seq ?_
  refine T_region ?_
  refine S_ 6 rfl rfl rfl _ (y_move rfl rfl) ?_
  refine S_ 7 rfl rfl rfl _ (y_len_slice rfl rfl Tryz.underlying59) ?_
  refine S_ 8 rfl rfl rfl _ (y_move rfl rfl) ?_
  refine S_ 9 rfl rfl rfl _ (y_len_slice rfl rfl Tryz.underlying59) ?_
  refine S_ 10 rfl rfl rfl _ (y_bin rfl rfl rfl (fun _ => b_neq)) ?_
  refine S_go (fun _ _ h => h) ?_
  refine T_cond rfl (fun h10 => ?_) (fun h10 => ?_)
  · try simp only [decide_eq_true_eq, decide_eq_false_iff_not, Bool.or_eq_true, Bool.or_eq_false_iff, Bool.and_eq_true, Bool.and_eq_false_iff, Bool.not_eq_true', Bool.not_eq_false', Bool.not_eq_true, Bool.not_eq_false, Bool.not_true, Bool.not_false, Int.not_lt, Int.not_le, not_or, not_and, Classical.not_not] at h10
    refine T_seq ?_
    refine T_region ?_
    refine S_ 4 rfl rfl rfl _ (y_assign rfl rfl) ?_
    refine S_go (fun _ _ h => h) ?_
    refine T_ret (fun a w hF hM => hRb a w (post1 rfl rfl (fun w hM => ?_) a w hF hM))
    exact ⟨by rw [eqLB_len l m (by omega)], hM.below⟩
  · try simp only [decide_eq_true_eq, decide_eq_false_iff_not, Bool.or_eq_true, Bool.or_eq_false_iff, Bool.and_eq_true, Bool.and_eq_false_iff, Bool.not_eq_true', Bool.not_eq_false', Bool.not_eq_true, Bool.not_eq_false, Bool.not_true, Bool.not_false, Int.not_lt, Int.not_le, not_or, not_and, Classical.not_not] at h10
    refine T_skip_go (fun _ _ h => h) ?_
    refine T_seq ?_
    refine T_seq ?_
    refine T_region ?_
    refine S_ 11 rfl rfl rfl _ (y_move rfl rfl) ?_
    refine S_ 12 rfl rfl rfl _ (y_len_slice rfl rfl Tryz.underlying59) ?_
    refine S_ 13 rfl rfl rfl _ (y_move rfl rfl) ?_
    refine S_go (fun _ _ h => h) ?_
    refine T_block ?_
    refine T_loopK1 (kf := [(4, 5), (13, 25)]) (kl := [(4, 5), (13, 25)]) (fun (i : Nat) => [(13, true, .int .i64 (i : Int))]) (fun (i : Nat) => []) (fun (i : Nat) => i ≤ q ∧ eqLB SRow.eqB l m = eqLB SRow.eqB (l.drop i) (m.drop i)) (fun (i : Nat) => q - i) 0 (by repeat (first | exact kf_nil | (apply kf_in; focus rfl) | (apply kf_out; focus rfl))) (by repeat (first | exact kl_nil | exact kl_rest (by assumption) rfl | (apply kl_in; focus rfl) | (apply kl_out; focus rfl))) ?_ ?_ ?_ ?_
    · exact ⟨by omega, rfl⟩
    · exact ⟨rfl, trivial⟩
    · exact trivial
    rintro i ⟨hp1, hp2⟩
    refine T_seq ?_
    refine T_region ?_
    refine S_ 14 rfl rfl rfl _ (y_bin rfl rfl rfl (fun _ => b_lss)) ?_
    refine S_go (fun _ _ h => h) ?_
    refine T_seq ?_
    refine T_cond rfl (fun h14 => ?_) (fun h14 => ?_)
    · try simp only [decide_eq_true_eq, decide_eq_false_iff_not, Bool.or_eq_true, Bool.or_eq_false_iff, Bool.and_eq_true, Bool.and_eq_false_iff, Bool.not_eq_true', Bool.not_eq_false', Bool.not_eq_true, Bool.not_eq_false, Bool.not_true, Bool.not_false, Int.not_lt, Int.not_le, not_or, not_and, Classical.not_not] at h14
      obtain ⟨a, hx1, hx2⟩ := hl.at (i := i) (by omega)
      obtain ⟨b, hy1, hy2⟩ := hm.at (i := i) (by omega)
      refine T_skip_go (fun _ _ h => h) ?_
      refine T_seq ?_
      refine T_block ?_
      refine T_seq ?_
      refine T_region ?_
      refine S_ 15 rfl rfl rfl _ (y_move rfl rfl) ?_
      refine S_ 5 rfl rfl rfl _ (y_assign rfl rfl) ?_
      refine S_go (fun _ _ h => h) ?_
      refine T_seq ?_
      refine T_draws (by kernel_rfl) (by kernel_rfl) ?_
      refine D_ 16 rfl rfl rfl _ (y_move rfl rfl) ?_
      refine D_ 17 rfl rfl rfl _ (y_move rfl rfl) ?_
      refine D_ 18 rfl rfl rfl _ (y_indexAddr rfl rfl rfl Tryz.underlying59 sz198 (fun hg => hl.isSome (by omega)) (fun _ => by omega)) ?_
      refine D_ 19 rfl rfl rfl _ (y_loadT rfl rfl hl (fun _ => rfl) (fun _ => hx1) Tryz.underlying198 rfl sz198) ?_
      refine D_ 20 rfl rfl rfl _ (y_move rfl rfl) ?_
      refine D_ 21 rfl rfl rfl _ (y_move rfl rfl) ?_
      refine D_ 22 rfl rfl rfl _ (y_indexAddr rfl rfl rfl Tryz.underlying59 sz198 (fun hg => hm.isSome (by omega)) (fun _ => by omega)) ?_
      refine D_ 23 rfl rfl rfl _ (y_loadT rfl rfl hm (fun _ => rfl) (fun _ => hy1) Tryz.underlying198 rfl sz198) ?_
      refine D_ 24 rfl rfl rfl _ (y_as (v' := .bool (!(SRow.eqB a b))) (by simp [SRow.eqB, str]) (y_bin rfl rfl rfl (fun _ => b_neqA (rs := [_, _, _]) Tryz.underlying198 (by kernel_rfl) (by kernel_rfl) ⟨by decide, ⟨_, Tryz.underlying3, rfl, _, _, rfl, rfl, rfl⟩, by decide, ⟨_, Tryz.underlying3, rfl, _, _, rfl, rfl, rfl⟩, by decide, ⟨_, Tryz.underlying3, rfl, _, _, rfl, rfl, rfl⟩, trivial⟩))) ?_
      refine D_go (fun _ _ h => h) ?_
      refine T_cond rfl (fun h24 => ?_) (fun h24 => ?_)
      · skip
        have h24e : SRow.eqB a b = false := by simpa using h24
        refine T_seq ?_
        refine T_region ?_
        refine S_ 4 rfl rfl rfl _ (y_assign rfl rfl) ?_
        refine S_go (fun _ _ h => h) ?_
        refine T_ret (fun a w hF hM => hRb a w (post1 rfl rfl (fun w hM => ?_) a w hF hM))
        exact ⟨by rw [hp2, hx2, hy2, eqLB, h24e, Bool.false_and], hM.below⟩
      · skip
        have h24e : SRow.eqB a b = true := by simpa using h24
        refine T_skip_go (fun _ _ h => h) ?_
        refine T_region ?_
        refine S_ 25 rfl rfl rfl _ (y_bin rfl rfl rfl (fun hg => b_add (by omega))) ?_
        refine S_ 13 rfl rfl rfl _ (y_move rfl rfl) ?_
        refine S_nil (nextK1 (kf := [(4, 5), (13, 25)]) (kl := [(4, 5), (13, 25)]) (i + 1) (by repeat (first | exact kf_nil | (apply kf_in; focus rfl) | (apply kf_out; focus rfl))) (by repeat (first | exact kl_nil | exact kl_rest (by assumption) rfl | (apply kl_in; focus rfl) | (apply kl_out; focus rfl))) ?_ ?_ ?_ ?_)
        · omega
        · exact ⟨by omega, by rw [hp2, hx2, hy2, eqLB, h24e, Bool.true_and]⟩
        · exact ⟨rfl, trivial⟩
        · exact trivial
    · try simp only [decide_eq_true_eq, decide_eq_false_iff_not, Bool.or_eq_true, Bool.or_eq_false_iff, Bool.and_eq_true, Bool.and_eq_false_iff, Bool.not_eq_true', Bool.not_eq_false', Bool.not_eq_true, Bool.not_eq_false, Bool.not_true, Bool.not_false, Int.not_lt, Int.not_le, not_or, not_and, Classical.not_not] at h14
      refine T_exit_go (fun _ _ h => h) ?_
      refine T_seq ?_
      refine T_region ?_
      refine S_ 4 rfl rfl rfl _ (y_assign rfl rfl) ?_
      refine S_go (fun _ _ h => h) ?_
      refine T_ret (fun a w hF hM => hRb a w (post1 rfl rfl (fun w hM => ?_) a w hF hM))
      exact ⟨by rw [hp2, hl.end (by omega), hm.end (by omega)]; rfl, hM.below⟩
theorem EqualC_any (A B : Option Addr) (q c p d : Nat) (l m : List (SCall)) (w : World) (hl : SlT SCall.enc 5 w A q l) (hm : SlT SCall.enc 5 w B p m) (hq : q ≤ 4611686018427387904) (hp : p ≤ 4611686018427387904) :
    Calls Tryz.prog 272 #[.slice A q c, .slice B p d] w fun e w' => e = .returned (.bool (eqLB SCall.eqB l m)) ∧ Below w.heap.size w w' := by
  have hlen := hl.len
  have hmen := hm.len
  refine enter_args (args := [.slice A q c, .slice B p d]) (F := _) Tryz.func272 rfl Tryz.ntmps272 rfl rfl ?_
  intro Rb hRb hRn
  refine T_seq ?_
  refine T_region ?_
  refine S_ 4 rfl rfl rfl _ (y_assign rfl rfl) ?_
  refine S_go (fun _ _ h => h) ?_
  refine T_seq ?_
  refine T_seq ?_
  refine T_region ?_
  refine S_ 6 rfl rfl rfl _ (y_move rfl rfl) ?_
  refine S_ 7 rfl rfl rfl _ (y_len_slice rfl rfl Tryz.underlying60) ?_
  refine S_ 8 rfl rfl rfl _ (y_move rfl rfl) ?_
  refine S_ 9 rfl rfl rfl _ (y_len_slice rfl rfl Tryz.underlying60) ?_
  refine S_ 10 rfl rfl rfl _ (y_bin rfl rfl rfl (fun _ => b_neq)) ?_
  refine S_go (fun _ _ h => h) ?_
  refine T_cond rfl (fun h10 => ?_) (fun h10 => ?_)
  · try simp only [decide_eq_true_eq, decide_eq_false_iff_not, Bool.or_eq_true, Bool.or_eq_false_iff, Bool.and_eq_true, Bool.and_eq_false_iff, Bool.not_eq_true', Bool.not_eq_false', Bool.not_eq_true, Bool.not_eq_false, Bool.not_true, Bool.not_false, Int.not_lt, Int.not_le, not_or, not_and, Classical.not_not] at h10
    refine T_seq ?_
    refine T_region ?_
    refine S_ 4 rfl rfl rfl _ (y_assign rfl rfl) ?_
    refine S_go (fun _ _ h => h) ?_
    refine T_ret (fun a w hF hM => hRb a w (post1 rfl rfl (fun w hM => ?_) a w hF hM))
    exact ⟨by rw [eqLB_len l m (by omega)], hM.below⟩
  · try simp only [decide_eq_true_eq, decide_eq_false_iff_not, Bool.or_eq_true, Bool.or_eq_false_iff, Bool.and_eq_true, Bool.and_eq_false_iff, Bool.not_eq_true', Bool.not_eq_false', Bool.not_eq_true, Bool.not_eq_false, Bool.not_true, Bool.not_false, Int.not_lt, Int.not_le, not_or, not_and, Classical.not_not] at h10
    refine T_skip_go (fun _ _ h => h) ?_
    refine T_seq ?_
    refine T_seq ?_
    refine T_region ?_
    refine S_ 11 rfl rfl rfl _ (y_move rfl rfl) ?_
    refine S_ 12 rfl rfl rfl _ (y_len_slice rfl rfl Tryz.underlying60) ?_
    refine S_ 13 rfl rfl rfl _ (y_move rfl rfl) ?_
    refine S_go (fun _ _ h => h) ?_
    refine T_block ?_
    refine T_loopK1 (kf := [(4, 5), (13, 25)]) (kl := [(4, 5), (13, 25)]) (fun (i : Nat) => [(13, true, .int .i64 (i : Int))]) (fun (i : Nat) => []) (fun (i : Nat) => i ≤ q ∧ eqLB SCall.eqB l m = eqLB SCall.eqB (l.drop i) (m.drop i)) (fun (i : Nat) => q - i) 0 (by repeat (first | exact kf_nil | (apply kf_in; focus rfl) | (apply kf_out; focus rfl))) (by repeat (first | exact kl_nil | exact kl_rest (by assumption) rfl | (apply kl_in; focus rfl) | (apply kl_out; focus rfl))) ?_ ?_ ?_ ?_
    · exact ⟨by omega, rfl⟩
    · exact ⟨rfl, trivial⟩
    · exact trivial
    rintro i ⟨hp1, hp2⟩
    refine T_seq ?_
    refine T_region ?_
    refine S_ 14 rfl rfl rfl _ (y_bin rfl rfl rfl (fun _ => b_lss)) ?_
    refine S_go (fun _ _ h => h) ?_
    refine T_seq ?_
    refine T_cond rfl (fun h14 => ?_) (fun h14 => ?_)
    · try simp only [decide_eq_true_eq, decide_eq_false_iff_not, Bool.or_eq_true, Bool.or_eq_false_iff, Bool.and_eq_true, Bool.and_eq_false_iff, Bool.not_eq_true', Bool.not_eq_false', Bool.not_eq_true, Bool.not_eq_false, Bool.not_true, Bool.not_false, Int.not_lt, Int.not_le, not_or, not_and, Classical.not_not] at h14
      obtain ⟨a, hx1, hx2⟩ := hl.at (i := i) (by omega)
      obtain ⟨b, hy1, hy2⟩ := hm.at (i := i) (by omega)
      refine T_skip_go (fun _ _ h => h) ?_
      refine T_seq ?_
      refine T_block ?_
      refine T_seq ?_
      refine T_region ?_
      refine S_ 15 rfl rfl rfl _ (y_move rfl rfl) ?_
      refine S_ 5 rfl rfl rfl _ (y_assign rfl rfl) ?_
      refine S_go (fun _ _ h => h) ?_
      refine T_seq ?_
      refine T_draws (by kernel_rfl) (by kernel_rfl) ?_
      refine D_ 16 rfl rfl rfl _ (y_move rfl rfl) ?_
      refine D_ 17 rfl rfl rfl _ (y_move rfl rfl) ?_
      refine D_ 18 rfl rfl rfl _ (y_indexAddr rfl rfl rfl Tryz.underlying60 sz200 (fun hg => hl.isSome (by omega)) (fun _ => by omega)) ?_
      refine D_ 19 rfl rfl rfl _ (y_loadT rfl rfl hl (fun _ => rfl) (fun _ => hx1) Tryz.underlying200 rfl sz200) ?_
      refine D_ 20 rfl rfl rfl _ (y_move rfl rfl) ?_
      refine D_ 21 rfl rfl rfl _ (y_move rfl rfl) ?_
      refine D_ 22 rfl rfl rfl _ (y_indexAddr rfl rfl rfl Tryz.underlying60 sz200 (fun hg => hm.isSome (by omega)) (fun _ => by omega)) ?_
      refine D_ 23 rfl rfl rfl _ (y_loadT rfl rfl hm (fun _ => rfl) (fun _ => hy1) Tryz.underlying200 rfl sz200) ?_
      refine D_ 24 rfl rfl rfl _ (y_as (v' := .bool (!(SCall.eqB a b))) (by simp [SCall.eqB, str]) (y_bin rfl rfl rfl (fun _ => b_neqA (rs := [_, _, _, _, _]) Tryz.underlying200 (by kernel_rfl) (by kernel_rfl) ⟨by decide, ⟨_, Tryz.underlying9, rfl, _, _, rfl, rfl, rfl⟩, by decide, ⟨_, Tryz.underlying3, rfl, _, _, rfl, rfl, rfl⟩, by decide, ⟨_, Tryz.underlying3, rfl, _, _, rfl, rfl, rfl⟩, by decide, ⟨_, Tryz.underlying3, rfl, _, _, rfl, rfl, rfl⟩, by decide, ⟨_, Tryz.underlying3, rfl, _, _, rfl, rfl, rfl⟩, trivial⟩))) ?_
      refine D_go (fun _ _ h => h) ?_
      refine T_cond rfl (fun h24 => ?_) (fun h24 => ?_)
      · skip
        have h24e : SCall.eqB a b = false := by simpa using h24
        refine T_seq ?_
        refine T_region ?_
        refine S_ 4 rfl rfl rfl _ (y_assign rfl rfl) ?_
        refine S_go (fun _ _ h => h) ?_
        refine T_ret (fun a w hF hM => hRb a w (post1 rfl rfl (fun w hM => ?_) a w hF hM))
        exact ⟨by rw [hp2, hx2, hy2, eqLB, h24e, Bool.false_and], hM.below⟩
      · skip
        have h24e : SCall.eqB a b = true := by simpa using h24
        refine T_skip_go (fun _ _ h => h) ?_
        refine T_region ?_
        refine S_ 25 rfl rfl rfl _ (y_bin rfl rfl rfl (fun hg => b_add (by omega))) ?_
        refine S_ 13 rfl rfl rfl _ (y_move rfl rfl) ?_
        refine S_nil (nextK1 (kf := [(4, 5), (13, 25)]) (kl := [(4, 5), (13, 25)]) (i + 1) (by repeat (first | exact kf_nil | (apply kf_in; focus rfl) | (apply kf_out; focus rfl))) (by repeat (first | exact kl_nil | exact kl_rest (by assumption) rfl | (apply kl_in; focus rfl) | (apply kl_out; focus rfl))) ?_ ?_ ?_ ?_)
        · omega
        · exact ⟨by omega, by rw [hp2, hx2, hy2, eqLB, h24e, Bool.true_and]⟩
        · exact ⟨rfl, trivial⟩
        · exact trivial
    · try simp only [decide_eq_true_eq, decide_eq_false_iff_not, Bool.or_eq_true, Bool.or_eq_false_iff, Bool.and_eq_true, Bool.and_eq_false_iff, Bool.not_eq_true', Bool.not_eq_false', Bool.not_eq_true, Bool.not_eq_false, Bool.not_true, Bool.not_false, Int.not_lt, Int.not_le, not_or, not_and, Classical.not_not] at h14
      refine T_exit_go (fun _ _ h => h) ?_
      refine T_seq ?_
      refine T_region ?_
      refine S_ 4 rfl rfl rfl _ (y_assign rfl rfl) ?_
      refine S_go (fun _ _ h => h) ?_
      refine T_ret (fun a w hF hM => hRb a w (post1 rfl rfl (fun w hM => ?_) a w hF hM))
      exact ⟨by rw [hp2, hl.end (by omega), hm.end (by omega)]; rfl, hM.below⟩
def sameB (t u : Tab) : Bool := decide (t.id = u.id) && decide (t.size = u.size) && eqLB sEq t.fi.l u.fi.l && eqLB SFunc.eqB t.fu.l u.fu.l && eqLB SRow.eqB t.ro.l u.ro.l && eqLB SCall.eqB t.ca.l u.ca.l
theorem sameB_iff (t u : Tab) : sameB t u = true ↔ t.pl = u.pl := by
  simp only [sameB, Bool.and_eq_true, decide_eq_true_eq, eqLB_iff sEq_iff, eqLB_iff SFunc.eqB_iff, eqLB_iff SRow.eqB_iff, eqLB_iff SCall.eqB_iff, Tab.pl, PT.mk.injEq, and_assoc]
theorem SameTable_any (t u : Tab) (w : World) (ht : t.Ok w) (hu : u.Ok w) :
    Calls Tryz.prog 132 #[.agg #[str t.id, .int .i64 t.size, .slice t.fi.A t.fi.q t.fi.c, .slice t.fu.A t.fu.q t.fu.c, .slice t.ro.A t.ro.q t.ro.c, .slice t.ca.A t.ca.q t.ca.c], .agg #[str u.id, .int .i64 u.size, .slice u.fi.A u.fi.q u.fi.c, .slice u.fu.A u.fu.q u.fu.c, .slice u.ro.A u.ro.q u.ro.c, .slice u.ca.A u.ca.q u.ca.c]] w fun e w' => e = .returned (.bool (sameB t u)) ∧ Below w.heap.size w w' := by
  have hq := ht.small
  have hr := hu.small
  refine enter_args (args := [.agg #[str t.id, .int .i64 t.size, .slice t.fi.A t.fi.q t.fi.c, .slice t.fu.A t.fu.q t.fu.c, .slice t.ro.A t.ro.q t.ro.c, .slice t.ca.A t.ca.q t.ca.c], .agg #[str u.id, .int .i64 u.size, .slice u.fi.A u.fi.q u.fi.c, .slice u.fu.A u.fu.q u.fu.c, .slice u.ro.A u.ro.q u.ro.c, .slice u.ca.A u.ca.q u.ca.c]]) (F := _) Tryz.func132 rfl Tryz.ntmps132 rfl rfl ?_
  intro Rb hRb hRn
  refine T_seq ?_
  refine T_region ?_
  refine S_box 2 2 rfl rfl rfl rfl rfl ?_
  intro b2
  refine S_box 3 3 rfl rfl rfl rfl rfl ?_
  intro b3
  refine S_ 4 rfl rfl rfl _ (y_assign rfl rfl) ?_
  refine S_go (fun _ _ h => h) ?_
  refine T_seq ?_
  refine T_region ?_
  refine S_ 5 rfl rfl rfl _ (y_fieldAddr rfl rfl fa62_0) ?_
  refine S_ 6 rfl rfl rfl _ (y_load 2 rfl rfl rfl rfl Tryz.underlying9 rfl) ?_
  refine S_ 7 rfl rfl rfl _ (y_fieldAddr rfl rfl fa62_0) ?_
  refine S_ 8 rfl rfl rfl _ (y_load 3 rfl rfl rfl rfl Tryz.underlying9 rfl) ?_
  refine S_ 9 rfl rfl rfl _ (y_bin rfl rfl rfl (fun _ => b_eqls)) ?_
  refine S_ 10 rfl rfl rfl _ (y_move rfl rfl) ?_
  refine Sg_ 11 rfl rfl rfl rfl rfl rfl _ (y_fieldAddr rfl rfl fa62_1) ?_
  refine Sg_ 12 rfl rfl rfl rfl rfl rfl _ (y_load 2 rfl rfl rfl rfl Tryz.underlying3 rfl) ?_
  refine Sg_ 13 rfl rfl rfl rfl rfl rfl _ (y_fieldAddr rfl rfl fa62_1) ?_
  refine Sg_ 14 rfl rfl rfl rfl rfl rfl _ (y_load 3 rfl rfl rfl rfl Tryz.underlying3 rfl) ?_
  refine Sg_ 15 rfl rfl rfl rfl rfl rfl _ (y_bin rfl rfl rfl (fun _ => b_eql)) ?_
  refine S_ 16 rfl rfl rfl _ (y_and rfl rfl rfl) ?_
  refine S_ 17 rfl rfl rfl _ (y_move rfl rfl) ?_
  refine Sg_ 18 rfl rfl rfl rfl rfl rfl _ (y_fieldAddr rfl rfl fa62_2) ?_
  refine Sg_ 19 rfl rfl rfl rfl rfl rfl _ (y_load 2 rfl rfl rfl rfl Tryz.underlying57 rfl) ?_
  refine Sg_ 20 rfl rfl rfl rfl rfl rfl _ (y_fieldAddr rfl rfl fa62_2) ?_
  refine Sg_ 21 rfl rfl rfl rfl rfl rfl _ (y_load 3 rfl rfl rfl rfl Tryz.underlying57 rfl) ?_
  refine Sg_ 22 rfl rfl rfl rfl rfl rfl _ (y_call rfl rfl rfl cf155 (fun _ w hM => EqualS_any _ _ _ _ _ _ t.fi.l u.fi.l w (ht.fi.t.below hM.below) (hu.fi.t.below hM.below) (by omega) (by omega))) ?_
  refine S_ 23 rfl rfl rfl _ (y_and rfl rfl rfl) ?_
  refine S_ 24 rfl rfl rfl _ (y_move rfl rfl) ?_
  refine Sg_ 25 rfl rfl rfl rfl rfl rfl _ (y_fieldAddr rfl rfl fa62_3) ?_
  refine Sg_ 26 rfl rfl rfl rfl rfl rfl _ (y_load 2 rfl rfl rfl rfl Tryz.underlying58 rfl) ?_
  refine Sg_ 27 rfl rfl rfl rfl rfl rfl _ (y_fieldAddr rfl rfl fa62_3) ?_
  refine Sg_ 28 rfl rfl rfl rfl rfl rfl _ (y_load 3 rfl rfl rfl rfl Tryz.underlying58 rfl) ?_
  refine Sg_ 29 rfl rfl rfl rfl rfl rfl _ (y_call rfl rfl rfl cf270 (fun _ w hM => EqualF_any _ _ _ _ _ _ t.fu.l u.fu.l w (ht.fu.t.below hM.below) (hu.fu.t.below hM.below) (by omega) (by omega))) ?_
  refine S_ 30 rfl rfl rfl _ (y_and rfl rfl rfl) ?_
  refine S_ 31 rfl rfl rfl _ (y_move rfl rfl) ?_
  refine Sg_ 32 rfl rfl rfl rfl rfl rfl _ (y_fieldAddr rfl rfl fa62_4) ?_
  refine Sg_ 33 rfl rfl rfl rfl rfl rfl _ (y_load 2 rfl rfl rfl rfl Tryz.underlying59 rfl) ?_
  refine Sg_ 34 rfl rfl rfl rfl rfl rfl _ (y_fieldAddr rfl rfl fa62_4) ?_
  refine Sg_ 35 rfl rfl rfl rfl rfl rfl _ (y_load 3 rfl rfl rfl rfl Tryz.underlying59 rfl) ?_
  refine Sg_ 36 rfl rfl rfl rfl rfl rfl _ (y_call rfl rfl rfl cf271 (fun _ w hM => EqualR_any _ _ _ _ _ _ t.ro.l u.ro.l w (ht.ro.t.below hM.below) (hu.ro.t.below hM.below) (by omega) (by omega))) ?_
  refine S_ 37 rfl rfl rfl _ (y_and rfl rfl rfl) ?_
  refine S_ 38 rfl rfl rfl _ (y_move rfl rfl) ?_
  refine Sg_ 39 rfl rfl rfl rfl rfl rfl _ (y_fieldAddr rfl rfl fa62_5) ?_
  refine Sg_ 40 rfl rfl rfl rfl rfl rfl _ (y_load 2 rfl rfl rfl rfl Tryz.underlying60 rfl) ?_
  refine Sg_ 41 rfl rfl rfl rfl rfl rfl _ (y_fieldAddr rfl rfl fa62_5) ?_
  refine Sg_ 42 rfl rfl rfl rfl rfl rfl _ (y_load 3 rfl rfl rfl rfl Tryz.underlying60 rfl) ?_
  refine Sg_ 43 rfl rfl rfl rfl rfl rfl _ (y_call rfl rfl rfl cf272 (fun _ w hM => EqualC_any _ _ _ _ _ _ t.ca.l u.ca.l w (ht.ca.t.below hM.below) (hu.ca.t.below hM.below) (by omega) (by omega))) ?_
  refine S_ 44 rfl rfl rfl _ (y_and rfl rfl rfl) ?_
  refine S_ 4 rfl rfl rfl _ (y_assign rfl rfl) ?_
  refine S_go (fun _ _ h => h) ?_
  refine T_ret (fun a w hF hM => hRb a w (post1 rfl rfl (fun w hM => ?_) a w hF hM))
  exact ⟨rfl, hM.below⟩
theorem table_any (t u : Tab) (a b : Int) (w : World) (ht : t.Ok w) (hu : u.Ok w) :
    Calls Tryz.prog 32 #[.agg #[str t.id, .int .i64 t.size, .slice t.fi.A t.fi.q t.fi.c, .slice t.fu.A t.fu.q t.fu.c, .slice t.ro.A t.ro.q t.ro.c, .slice t.ca.A t.ca.q t.ca.c], .int .i64 a, .agg #[str u.id, .int .i64 u.size, .slice u.fi.A u.fi.q u.fi.c, .slice u.fu.A u.fu.q u.fu.c, .slice u.ro.A u.ro.q u.ro.c, .slice u.ca.A u.ca.q u.ca.c], .int .i64 b] w fun e w' => e = .returned (.bool (sameB t (if b = 0 then u else Tab0) && decide (a = b))) ∧ Below w.heap.size w w' := by
  refine enter_args (args := [.agg #[str t.id, .int .i64 t.size, .slice t.fi.A t.fi.q t.fi.c, .slice t.fu.A t.fu.q t.fu.c, .slice t.ro.A t.ro.q t.ro.c, .slice t.ca.A t.ca.q t.ca.c], .int .i64 a, .agg #[str u.id, .int .i64 u.size, .slice u.fi.A u.fi.q u.fi.c, .slice u.fu.A u.fu.q u.fu.c, .slice u.ro.A u.ro.q u.ro.c, .slice u.ca.A u.ca.q u.ca.c], .int .i64 b]) (F := _) Tryz.func32 rfl Tryz.ntmps32 rfl rfl ?_
  intro Rb hRb hRn
  refine T_seq ?_
  refine T_region ?_
  refine S_box 4 4 rfl rfl rfl rfl rfl ?_
  intro b4
  refine S_box 6 6 rfl rfl rfl rfl rfl ?_
  intro b6
  refine S_ 8 rfl rfl rfl _ (y_assign rfl rfl) ?_
  refine S_go (fun _ _ h => h) ?_
  refine T_seq ?_
  refine T_seq ?_
  refine T_region ?_
  refine S_ 9 rfl rfl rfl _ (y_move rfl rfl) ?_
  refine S_ 10 rfl rfl rfl _ (y_bin rfl rfl rfl (fun _ => b_neq)) ?_
  refine S_go (fun _ _ h => h) ?_
  refine T_cond rfl (fun h10 => ?_) (fun h10 => ?_)
  · try simp only [decide_eq_true_eq, decide_eq_false_iff_not, Bool.or_eq_true, Bool.or_eq_false_iff, Bool.and_eq_true, Bool.and_eq_false_iff, Bool.not_eq_true', Bool.not_eq_false', Bool.not_eq_true, Bool.not_eq_false, Bool.not_true, Bool.not_false, Int.not_lt, Int.not_le, not_or, not_and, Classical.not_not] at h10
    refine T_region ?_
    refine S_ 11 rfl rfl rfl _ (y_build (zv := .agg #[.string ⟨#[]⟩, .int .i64 0, .slice none 0 0, .slice none 0 0, .slice none 0 0, .slice none 0 0]) (pl := [(0, 1), (1, 1), (2, 1), (3, 1), (4, 1), (5, 1)]) (out := [.string ⟨#[]⟩, .int .i64 0, .slice none 0 0, .slice none 0 0, .slice none 0 0, .slice none 0 0]) rfl rfl Tryz.underlying62 z62 (by kernel_rfl) rfl) ?_
    refine S_store 6 rfl rfl rfl rfl rfl rfl sz62 rfl rfl ?_
    refine S_go (fun _ _ h => h) ?_
    refine T_seq ?_
    refine T_region ?_
    refine S_ 12 rfl rfl rfl _ (y_loadA 4 rfl rfl rfl Tryz.underlying62 rfl sz62) ?_
    refine S_ 13 rfl rfl rfl _ (y_loadA 6 rfl rfl rfl Tryz.underlying62 rfl sz62) ?_
    refine S_ 14 rfl rfl rfl _ (y_call rfl rfl rfl cf132 (fun _ w hM => SameTable_any t Tab0 w (ht.below hM.below) Tab0.ok)) ?_
    refine S_ 15 rfl rfl rfl _ (y_move rfl rfl) ?_
    refine Sg_ 16 rfl rfl rfl rfl rfl rfl _ (y_move rfl rfl) ?_
    refine Sg_ 17 rfl rfl rfl rfl rfl rfl _ (y_move rfl rfl) ?_
    refine Sg_ 18 rfl rfl rfl rfl rfl rfl _ (y_bin rfl rfl rfl (fun _ => b_eql)) ?_
    refine S_ 19 rfl rfl rfl _ (y_and rfl rfl rfl) ?_
    refine S_ 8 rfl rfl rfl _ (y_assign rfl rfl) ?_
    refine S_go (fun _ _ h => h) ?_
    refine T_ret (fun a w hF hM => hRb a w (post1 rfl rfl (fun w hM => ?_) a w hF hM))
    exact ⟨by rw [if_neg h10], hM.below⟩
  · try simp only [decide_eq_true_eq, decide_eq_false_iff_not, Bool.or_eq_true, Bool.or_eq_false_iff, Bool.and_eq_true, Bool.and_eq_false_iff, Bool.not_eq_true', Bool.not_eq_false', Bool.not_eq_true, Bool.not_eq_false, Bool.not_true, Bool.not_false, Int.not_lt, Int.not_le, not_or, not_and, Classical.not_not] at h10
    refine T_skip_go (fun _ _ h => h) ?_
    refine T_seq ?_
    refine T_region ?_
    refine S_ 12 rfl rfl rfl _ (y_loadA 4 rfl rfl rfl Tryz.underlying62 rfl sz62) ?_
    refine S_ 13 rfl rfl rfl _ (y_loadA 6 rfl rfl rfl Tryz.underlying62 rfl sz62) ?_
    refine S_ 14 rfl rfl rfl _ (y_call rfl rfl rfl cf132 (fun _ w hM => SameTable_any t u w (ht.below hM.below) (hu.below hM.below))) ?_
    refine S_ 15 rfl rfl rfl _ (y_move rfl rfl) ?_
    refine Sg_ 16 rfl rfl rfl rfl rfl rfl _ (y_move rfl rfl) ?_
    refine Sg_ 17 rfl rfl rfl rfl rfl rfl _ (y_move rfl rfl) ?_
    refine Sg_ 18 rfl rfl rfl rfl rfl rfl _ (y_bin rfl rfl rfl (fun _ => b_eql)) ?_
    refine S_ 19 rfl rfl rfl _ (y_and rfl rfl rfl) ?_
    refine S_ 8 rfl rfl rfl _ (y_assign rfl rfl) ?_
    refine S_go (fun _ _ h => h) ?_
    refine T_ret (fun a w hF hM => hRb a w (post1 rfl rfl (fun w hM => ?_) a w hF hM))
    exact ⟨by rw [if_pos h10], hM.below⟩
theorem long_any (x : List UInt8) (w : World) :
    Calls Tryz.prog 27 #[str x] w fun e w' => e = .returned (.int .i64 (if (1000000 : Int) < x.length then 4 else 0)) ∧ Below w.heap.size w w' := by
  refine enter_args (args := [str x]) (F := _) Tryz.func27 rfl Tryz.ntmps27 rfl rfl ?_
  intro Rb hRb hRn
  refine T_seq ?_
  refine T_region ?_
  refine S_ 2 rfl rfl rfl _ (y_assign rfl rfl) ?_
  refine S_go (fun _ _ h => h) ?_
  refine T_seq ?_
  refine T_seq ?_
  refine T_region ?_
  refine S_ 3 rfl rfl rfl _ (y_move rfl rfl) ?_
  refine S_ 4 rfl rfl rfl _ (y_len_str rfl rfl Tryz.underlying9) ?_
  refine S_ 5 rfl rfl rfl _ (y_bin rfl rfl rfl (fun _ => b_gtr)) ?_
  refine S_go (fun _ _ h => h) ?_
  refine T_cond rfl (fun h5 => ?_) (fun h5 => ?_)
  · try simp only [decide_eq_true_eq, decide_eq_false_iff_not, Bool.or_eq_true, Bool.or_eq_false_iff, Bool.and_eq_true, Bool.and_eq_false_iff, Bool.not_eq_true', Bool.not_eq_false', Bool.not_eq_true, Bool.not_eq_false, Bool.not_true, Bool.not_false, Int.not_lt, Int.not_le, not_or, not_and, Classical.not_not] at h5
    refine T_seq ?_
    refine T_region ?_
    refine S_ 2 rfl rfl rfl _ (y_assign rfl rfl) ?_
    refine S_go (fun _ _ h => h) ?_
    refine T_ret (fun a w hF hM => hRb a w (post1 rfl rfl (fun w hM => ?_) a w hF hM))
    exact ⟨by rw [if_pos h5], hM.below⟩
  · try simp only [decide_eq_true_eq, decide_eq_false_iff_not, Bool.or_eq_true, Bool.or_eq_false_iff, Bool.and_eq_true, Bool.and_eq_false_iff, Bool.not_eq_true', Bool.not_eq_false', Bool.not_eq_true, Bool.not_eq_false, Bool.not_true, Bool.not_false, Int.not_lt, Int.not_le, not_or, not_and, Classical.not_not] at h5
    refine T_skip_go (fun _ _ h => h) ?_
    refine T_seq ?_
    refine T_region ?_
    refine S_ 2 rfl rfl rfl _ (y_assign rfl rfl) ?_
    refine S_go (fun _ _ h => h) ?_
    refine T_ret (fun a w hF hM => hRb a w (post1 rfl rfl (fun w hM => ?_) a w hF hM))
    exact ⟨by rw [if_neg (by omega)], hM.below⟩
end Go.Proofs.YtkkngcdikbhkjaaGreatDoor
end
