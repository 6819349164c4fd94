/- Part 2, merged by a program. The reader of conditions: interval. Conditions: those of each theorem. The reader of conditions: leaf. Conditions: the words of kinds lie there, and those of each theorem. Two bytes replaced by two bytes each: (*strings.byteStringReplacer).Replace at quotation marks and backslashes. Conditions: those of each theorem. The reference's Star: a table of what fits. Condition: the lengths are bounded. Lower letters: fitting without regard to letters is fitting of the lowered. Plain lists; no program in sight. The reference's lower, and FitsText. Condition: the lengths are bounded. Events are compared, and what is asked of one: Same, Tag, Levels, and the reference's. Conditions: those of each theorem. Events that are right are small, and what a leaf of a condition asks of an event. No program in sight. find.plain and find.Plain: the plain form, in new memory. Conditions: the condition is right. What replaces quotation marks and backslashes is built: (*strings.Replacer).build, buildOnce. Conditions: those of each theorem. sync.Once at a Replacer that is not built yet: Lock, Store, Unlock, doSlow, Do. Conditions: those of each theorem. A Replacer built at its first call: buildOnce, doSlow, Do. Conditions: those of each theorem. strings.NewReplacer at quotation marks and backslashes, its Replace, and find.value. Conditions: those of each theorem. A right condition can be written and read back; how long its text is. Plain trees; no program in sight. find.text, kidText, CondText walked. Conditions: those of each theorem. The reader of conditions: how far each part goes, and the steps of the whole, in plain words. No program in sight. Groups of conditions at hand: done, join. Conditions: those of each theorem. The reader of conditions: read. Conditions: the words of kinds and the error of a bad number lie there, and those of each theorem. The reader of conditions walked: read. Conditions: those of the theorem. find.ReadCond walked. Conditions: those of the theorem. find.Same. Conditions: those of the theorem. FindRound answers true, for all conditions. Conditions: the arguments and the listed tables lie in memory. A world in which the listed tables of Go's and the words of conditions hold what their text says; what a row's condition says of them. No condition. -/
import Derived.Test.YtfcedlfeinnhoaaGreatDoorZip
import Derived.Test.YtfcedlfeinnhoaaGreatDoorInv
import Derived.Test.YtfcedlfeinnhoaaGreatDoorArr
import Derived.Test.YtfcedlfeinnhoaaGreatDoorByt
import Derived.Test.YtfcedlfeinnhoaaGreatDoorMid
import Derived.Test.YtfcedlfeinnhoaaGreatDoorPerm
import Derived.Test.YtfcedlfeinnhoaaGreatDoorShelf
import Derived.Test.YtfcedlfeinnhoaaGreatDoorCopy
import Derived.Test.YtfcedlfeinnhoaaGreatDoorMov
import Derived.Test.YtfcedlfeinnhoaaGreatDoorSwp
import Derived.Test.YtfcedlfeinnhoaaGreatDoorByw
import Derived.Test.YtfcedlfeinnhoaaGreatDoorBxr
import Derived.Test.YtfcedlfeinnhoaaGreatDoorUnb
import Derived.Test.YtfcedlfeinnhoaaGreatDoorHere
import Derived.Test.YtfcedlfeinnhoaaGreatDoorUnr
import Derived.Test.YtfcedlfeinnhoaaGreatDoorIfc
import Derived.Tactics
import Derived.Tactics2
import Derived.Defers
import Derived.Laws.Pointers
import Derived.Laws.LoneSync
import Derived.RegionTactic
import Derived.RegionCalls
import Derived.ChangeAlike
import Derived.Test.YtfcedlfeinnhoaaGreatDoorStrs
import Derived.Test.YtfcedlfeinnhoaaGreatDoorSjn
import Derived.Test.YtfcedlfeinnhoaaGreatDoorGrd
import Derived.Shelf.Strings.OnBuilder
import Derived.Lib.Join
import Derived.Test.YtfcedlfeinnhoaaGreatDoorPost
import Derived.Test.YtfcedlfeinnhoaaGreatDoorClr
import Derived.Test.YtfcedlfeinnhoaaGreatDoorTree
import Derived.Test.YtfcedlfeinnhoaaGreatDoorSub
import Derived.Test.YtfcedlfeinnhoaaGreatDoorCards
import Derived.Test.YtfcedlfeinnhoaaGreatDoorTie
import Derived.Deep.DeepHandedRow
import Derived.Lib.LaidTab
import Derived.Stop.LaidErr
import Derived.ProofKit
import Derived.OpenShut
import Derived.Test.YtfcedlfeinnhoaaGreatDoorPk1
section
namespace Go.Proofs.YtfcedlfeinnhoaaGreatDoor
set_option linter.unusedSimpArgs false
set_option linter.unusedVariables false
set_option maxRecDepth 20000
open Go.RowKit Go.Eng
theorem dig_facts (no : List UInt8) : ∀ (t d : List UInt8) (p : Nat), (∀ c ∈ d, qDig c = true) → d.length ≤ 10 → (∀ c ∈ (digQ no d t p).1, qDig c = true) ∧ (digQ no d t p).1.length ≤ 10 ∧ p ≤ (digQ no d t p).2.p ∧ (digQ no d t p).2.p ≤ p + t.length
  | [], d, p, h1, h2 => ⟨h1, h2, Nat.le_refl _, Nat.le_refl _⟩
  | c :: t, d, p, h1, h2 => by
    rw [digQ, List.length_cons]
    by_cases hc : qDig c = true
    · rw [if_pos hc]
      by_cases hm : d ≠ [] ∧ moreQ d = false
      · rw [if_pos hm]; exact ⟨h1, h2, Nat.le_refl _, by show p ≤ _; omega⟩
      · rw [if_neg hm]
        have hd : ∀ x ∈ d ++ [c], qDig x = true := fun x hx => by
          rcases List.mem_append.1 hx with hx | hx
          · exact h1 x hx
          · rw [List.mem_singleton.1 hx]; exact hc
        have hl : (d ++ [c]).length ≤ 10 := by
          rw [List.length_append, List.length_singleton]
          by_cases h0 : d = []
          · rw [h0]; decide
          · have : moreQ d = true := by
              cases hq : moreQ d with
              | true => rfl
              | false => exact absurd ⟨h0, hq⟩ hm
            simp only [moreQ, Bool.and_eq_true, decide_eq_true_eq] at this
            omega
        by_cases hn : d ++ [c] = no ∧ moreQ (d ++ [c]) = false
        · rw [if_pos hn]; exact ⟨hd, hl, by show p ≤ p + 1; omega, by show p + 1 ≤ _; omega⟩
        · rw [if_neg hn]
          obtain ⟨a1, a2, a3, a4⟩ := dig_facts no t (d ++ [c]) (p + 1) hd hl
          exact ⟨a1, a2, by omega, by omega⟩
    · rw [if_neg hc]; exact ⟨h1, h2, Nat.le_refl _, by show p ≤ _; omega⟩
theorem num_facts {s no : List UInt8} {r : QS} (h : r.p ≤ s.length) : (∀ c ∈ (numQ s no r).1, qDig c = true) ∧ (numQ s no r).1.length ≤ 18 ∧ (numQ s no r).2.p ≤ s.length := by
  unfold numQ
  by_cases hw : r.w ≠ none
  · rw [if_pos hw]; exact ⟨fun c hc => (by cases hc), Nat.zero_le _, h⟩
  · rw [if_neg hw]
    obtain ⟨a1, a2, a3, a4⟩ := dig_facts no (s.drop r.p) [] r.p (fun c hc => (by cases hc)) (by decide)
    rw [List.length_drop] at a4
    refine ⟨a1, by dsimp only; omega, ?_⟩
    dsimp only
    split
    · show (digQ no [] (s.drop r.p) r.p).2.p ≤ _; omega
    · omega
theorem take_le {s : List UInt8} : ∀ {t : List UInt8} {r : QS}, r.p ≤ s.length → (takeQ s t r).p ≤ s.length
  | [], r, h => h
  | c :: t, r, h => by
    rw [takeQ]
    split
    · rename_i hq
      exact take_le (by have := (isQ_t hq).2.1; show r.p + 1 ≤ _; omega)
    · exact h
abbrev cdB (b : Nat) (op lo hi : Int) (n t : List UInt8) : It := .blk b (IsBox [.int .i64 op, .slice none 0 0, .int .i64 lo, .int .i64 hi, str n, str t] 24)
theorem rg_t {s : List UInt8} {r : QS} {op : Int} (h : (!decide (op = 4) || isQ s r 46) = true) : op ≠ 4 ∨ isQ s r 46 = true := by
  simp only [Bool.or_eq_true, Bool.not_eq_true', decide_eq_false_iff_not] at h
  exact h
theorem rg_f {s : List UInt8} {r : QS} {op : Int} (h : (!decide (op = 4) || isQ s r 46) = false) : ¬ (op ≠ 4 ∨ isQ s r 46 = true) := by
  simp only [Bool.or_eq_false_iff, Bool.not_eq_false', decide_eq_true_eq] at h
  rintro (h1 | h1)
  · exact h1 h.1
  · rw [h.2] at h1; cases h1
theorem interval_any {w0 : World} {K : HL} (hK : FromK K) (b bc : Nat) (s : List UInt8) (r : QS) (op : Int) (hs : s.length ≤ 1000000) (hr : r.p ≤ s.length) (hE : ErrV w0) (w : World) (hM0 : Mem w0 ([(901, rdI b s r), (902, cdB bc op 0 0 [] [])] ++ K) w) :
    Calls Tryz.prog 83 #[selfQ b, selfQ bc] w fun e w' => ∃ z : Unit, e = .returned (.tuple #[]) ∧ True ∧ Mem w0 ([(901, rdI b s (rangeQ s op r).2), (902, cdB bc op (rangeQ s op r).1.lo (rangeQ s op r).1.hi [] [])] ++ K) w' := by
  have hA := num_facts (no := []) hr
  have hT : (takeQ s [46, 46] (numQ s [] r).2).p ≤ s.length := take_le hA.2.2
  have hB1 := num_facts (no := (numQ s [] r).1) hT
  have hB2 := num_facts (no := []) hT
  refine enterM_args (args := [selfQ b, selfQ bc]) (F := _) hM0 Tryz.func83 rfl Tryz.ntmps83 rfl rfl ?_
  intro Rb hRb hRn
  refine tx ?_
  refine sr 1 ?_
  refine S_callM 8 [(901, 901)] (X := Unit) rfl rfl rfl rfl rfl rfl rfl cf105 rfl (fun _ => str (numQ s [] r).1) (fun _ => True) (fun _ => [(901, rdI b s (numQ s [] r).2)]) (fun _ => rfl) (fun _ => rfl) (fun K1 hK1 w hM => number_any hK1 b s [] r hs hr w hM) ?_
  rintro ⟨⟩ _
  refine sr 1 ?_
  refine sgx ?_
  refine sr 2 ?_
  refine sgs ?_
  refine tx ?_
  refine sr 1 ?_
  refine s1 (y_nilCheck rfl rfl) ?_
  refine s1 (yF fa24_0) ?_
  refine s1 (yL 902 Tryz.underlying3) ?_
  refine sr 2 ?_
  refine sg rfl (y_move rfl rfl) ?_
  refine sg rfl (y_call rfl rfl rfl cf40 (fun _ w hM => isq_any b s (numQ s [] r).2 46 w (rdc (hM.sat 901 _ rfl)).1 (rdc (hM.sat 901 _ rfl)).2.1 (rdc (hM.sat 901 _ rfl)).2.2)) ?_
  refine s1 (y_or rfl rfl rfl) ?_
  refine sgo ?_
  refine T_cond rfl ?_ ?_ <;> intro h18
  · skip
    refine tx ?_
    refine sr 1 ?_
    refine S_callM 20 [(901, 901)] (X := Unit) rfl rfl rfl rfl rfl rfl rfl cf84 rfl (fun _ => .tuple #[]) (fun _ => True) (fun _ => [(901, rdI b s (takeQ s [46, 46] (numQ s [] r).2))]) (fun _ => rfl) (fun _ => rfl) (fun K1 hK1 w hM => take_any hK1 b s [46, 46] (numQ s [] r).2 (by decide) hs w hM) ?_
    rintro ⟨⟩ _
    refine sgx ?_
    refine sr 1 ?_
    refine sgs ?_
    refine tx ?_
    refine sr 1 ?_
    refine s1 (y_nilCheck rfl rfl) ?_
    refine s1 (yF fa24_0) ?_
    refine s1 (yL 902 Tryz.underlying3) ?_
    refine sr 1 ?_
    refine sgo ?_
    refine T_cond rfl ?_ ?_ <;> intro h25
    · try simp only [nrm] at h25
      refine T_region ?_
      refine sr 2 ?_
      refine sgr ?_
      refine sr 2 ?_
      refine S_callM 29 [(901, 901)] (X := Unit) rfl rfl rfl rfl rfl rfl rfl cf105 rfl (fun _ => str (numQ s (numQ s [] r).1 (takeQ s [46, 46] (numQ s [] r).2)).1) (fun _ => True) (fun _ => [(901, rdI b s (numQ s (numQ s [] r).1 (takeQ s [46, 46] (numQ s [] r).2)).2)]) (fun _ => rfl) (fun _ => rfl) (fun K1 hK1 w hM => number_any hK1 b s (numQ s [] r).1 (takeQ s [46, 46] (numQ s [] r).2) hs hT w hM) ?_
      rintro ⟨⟩ _
      refine sr 1 ?_
      refine sgx ?_
      refine sr 2 ?_
      refine S_callM 33 [] (X := Value) rfl rfl rfl rfl rfl rfl rfl cf106 rfl (fun z => .tuple #[.int .i64 ((valD (numQ s [] r).1 : Nat) : Int), z]) (fun _ => True) (fun _ => []) (fun _ => rfl) (fun _ => rfl) (fun K hK w hM => (AtoiQ_any (numQ s [] r).1 (hA).2.1 (hA).1 w (hE.below hM.below)).mono fun e w2 ⟨z, he, hb⟩ => ⟨z, he, trivial, hM.call hb⟩) ?_
      intro z1 _
      refine sr 3 ?_
      refine s1 (y_nilCheck rfl rfl) ?_
      refine s1 (yF fa24_2) ?_
      refine S_store 902 rfl rfl rfl rfl rfl rfl sz3 rfl rfl ?_
      refine sgr ?_
      refine sr 2 ?_
      refine S_callM 41 [] (X := Value) rfl rfl rfl rfl rfl rfl rfl cf106 rfl (fun z => .tuple #[.int .i64 ((valD (numQ s (numQ s [] r).1 (takeQ s [46, 46] (numQ s [] r).2)).1 : Nat) : Int), z]) (fun _ => True) (fun _ => []) (fun _ => rfl) (fun _ => rfl) (fun K hK w hM => (AtoiQ_any (numQ s (numQ s [] r).1 (takeQ s [46, 46] (numQ s [] r).2)).1 (hB1).2.1 (hB1).1 w (hE.below hM.below)).mono fun e w2 ⟨z, he, hb⟩ => ⟨z, he, trivial, hM.call hb⟩) ?_
      intro z2 _
      refine sr 3 ?_
      refine s1 (y_nilCheck rfl rfl) ?_
      refine s1 (yF fa24_3) ?_
      refine S_store 902 rfl rfl rfl rfl rfl rfl sz3 rfl rfl ?_
      refine S_nil (fun a w hF hM => hRn a w (post0 rfl (fun w hM => ?_) a w hF hM))
      have e : rangeQ s op r = (.mk op [] ((valD (numQ s [] r).1 : Nat) : Int) ((valD (numQ s (numQ s [] r).1 (takeQ s [46, 46] (numQ s [] r).2)).1 : Nat) : Int) [] [], (numQ s (numQ s [] r).1 (takeQ s [46, 46] (numQ s [] r).2)).2) := by unfold rangeQ; dsimp only; rw [if_pos (rg_t h18), if_pos h25]
      rw [e]; exact ⟨(), rfl, trivial, hM.keep (ks := [(0, 999)]) (by repeat (first | exact kl_rest (by assumption) rfl | (apply kl_in; focus rfl))) _ ⟨rfl, rfl, trivial⟩⟩
    try simp only [nrm] at h25
    refine kgr ?_
    refine sr 2 ?_
    refine S_callM 29 [(901, 901)] (X := Unit) rfl rfl rfl rfl rfl rfl rfl cf105 rfl (fun _ => str (numQ s [] (takeQ s [46, 46] (numQ s [] r).2)).1) (fun _ => True) (fun _ => [(901, rdI b s (numQ s [] (takeQ s [46, 46] (numQ s [] r).2)).2)]) (fun _ => rfl) (fun _ => rfl) (fun K1 hK1 w hM => number_any hK1 b s [] (takeQ s [46, 46] (numQ s [] r).2) hs hT w hM) ?_
    rintro ⟨⟩ _
    refine sr 1 ?_
    refine sgx ?_
    refine sr 2 ?_
    refine S_callM 33 [] (X := Value) rfl rfl rfl rfl rfl rfl rfl cf106 rfl (fun z => .tuple #[.int .i64 ((valD (numQ s [] r).1 : Nat) : Int), z]) (fun _ => True) (fun _ => []) (fun _ => rfl) (fun _ => rfl) (fun K hK w hM => (AtoiQ_any (numQ s [] r).1 (hA).2.1 (hA).1 w (hE.below hM.below)).mono fun e w2 ⟨z, he, hb⟩ => ⟨z, he, trivial, hM.call hb⟩) ?_
    intro z1 _
    refine sr 3 ?_
    refine s1 (y_nilCheck rfl rfl) ?_
    refine s1 (yF fa24_2) ?_
    refine S_store 902 rfl rfl rfl rfl rfl rfl sz3 rfl rfl ?_
    refine sgr ?_
    refine sr 2 ?_
    refine S_callM 41 [] (X := Value) rfl rfl rfl rfl rfl rfl rfl cf106 rfl (fun z => .tuple #[.int .i64 ((valD (numQ s [] (takeQ s [46, 46] (numQ s [] r).2)).1 : Nat) : Int), z]) (fun _ => True) (fun _ => []) (fun _ => rfl) (fun _ => rfl) (fun K hK w hM => (AtoiQ_any (numQ s [] (takeQ s [46, 46] (numQ s [] r).2)).1 (hB2).2.1 (hB2).1 w (hE.below hM.below)).mono fun e w2 ⟨z, he, hb⟩ => ⟨z, he, trivial, hM.call hb⟩) ?_
    intro z2 _
    refine sr 3 ?_
    refine s1 (y_nilCheck rfl rfl) ?_
    refine s1 (yF fa24_3) ?_
    refine S_store 902 rfl rfl rfl rfl rfl rfl sz3 rfl rfl ?_
    refine S_nil (fun a w hF hM => hRn a w (post0 rfl (fun w hM => ?_) a w hF hM))
    have e : rangeQ s op r = (.mk op [] ((valD (numQ s [] r).1 : Nat) : Int) ((valD (numQ s [] (takeQ s [46, 46] (numQ s [] r).2)).1 : Nat) : Int) [] [], (numQ s [] (takeQ s [46, 46] (numQ s [] r).2)).2) := by unfold rangeQ; dsimp only; rw [if_pos (rg_t h18), if_neg h25]
    rw [e]; exact ⟨(), rfl, trivial, hM.keep (ks := [(0, 999)]) (by repeat (first | exact kl_rest (by assumption) rfl | (apply kl_in; focus rfl))) _ ⟨rfl, rfl, trivial⟩⟩
  refine kgx ?_
  refine sr 2 ?_
  refine S_callM 33 [] (X := Value) rfl rfl rfl rfl rfl rfl rfl cf106 rfl (fun z => .tuple #[.int .i64 ((valD (numQ s [] r).1 : Nat) : Int), z]) (fun _ => True) (fun _ => []) (fun _ => rfl) (fun _ => rfl) (fun K hK w hM => (AtoiQ_any (numQ s [] r).1 (hA).2.1 (hA).1 w (hE.below hM.below)).mono fun e w2 ⟨z, he, hb⟩ => ⟨z, he, trivial, hM.call hb⟩) ?_
  intro z1 _
  refine sr 3 ?_
  refine s1 (y_nilCheck rfl rfl) ?_
  refine s1 (yF fa24_2) ?_
  refine S_store 902 rfl rfl rfl rfl rfl rfl sz3 rfl rfl ?_
  refine sgr ?_
  refine sr 2 ?_
  refine S_callM 41 [] (X := Value) rfl rfl rfl rfl rfl rfl rfl cf106 rfl (fun z => .tuple #[.int .i64 ((valD (numQ s [] r).1 : Nat) : Int), z]) (fun _ => True) (fun _ => []) (fun _ => rfl) (fun _ => rfl) (fun K hK w hM => (AtoiQ_any (numQ s [] r).1 (hA).2.1 (hA).1 w (hE.below hM.below)).mono fun e w2 ⟨z, he, hb⟩ => ⟨z, he, trivial, hM.call hb⟩) ?_
  intro z2 _
  refine sr 3 ?_
  refine s1 (y_nilCheck rfl rfl) ?_
  refine s1 (yF fa24_3) ?_
  refine S_store 902 rfl rfl rfl rfl rfl rfl sz3 rfl rfl ?_
  refine S_nil (fun a w hF hM => hRn a w (post0 rfl (fun w hM => ?_) a w hF hM))
  have e : rangeQ s op r = (.mk op [] ((valD (numQ s [] r).1 : Nat) : Int) ((valD (numQ s [] r).1 : Nat) : Int) [] [], (numQ s [] r).2) := by unfold rangeQ; dsimp only; rw [if_neg (rg_f h18)]
  rw [e]; exact ⟨(), rfl, trivial, hM.keep (ks := [(0, 999)]) (by repeat (first | exact kl_rest (by assumption) rfl | (apply kl_in; focus rfl))) _ ⟨rfl, rfl, trivial⟩⟩
end Go.Proofs.YtfcedlfeinnhoaaGreatDoor
end
section
namespace Go.Proofs.YtfcedlfeinnhoaaGreatDoor
set_option linter.unusedSimpArgs false
set_option linter.unusedVariables false
set_option maxRecDepth 20000
open Go.RowKit Go.Eng
theorem y_sliceAll {P : Program} {w0 : World} {F : FL} {L : HL} {o : Oper} {g gx : Bool} {t : TypeId} {x : Operand} {b N size : Nat} {e : TypeId} (ho : o.op = .slice t x none none none) (hx : F.ev x = some (gx, .pointer (some ⟨b, 0, none⟩))) (ht : P.underlying t = some (.array N e)) (hz : (P.info? e).map (·.size) = some size)
    (hi : g = true → gx = true := by first | exact (fun _ => rfl) | exact (fun h => h) | exact (fun h => (Bool.and_eq_true_iff.1 h).1) | simp_all) : Y P w0 F L g o (.slice (some ⟨b, 0, none⟩) N N) :=
  Y_of fun n a hF hg w _ => by
    cases hq : P.info? e with
    | none => simp [hq] at hz
    | some i =>
      simp only [hq, Option.map_some, Option.some.injEq] at hz
      have ex : a.eval x = .pointer (some ⟨b, 0, none⟩) := hF.eval_on hx hg hi
      simp [execOp, ho, ex, Instr.sliceAt, Instr.sureAddr, Instr.sliceBounds, run_underlying ht, sizeOf, typeInfo, hq, hz, add_zero_off]
abbrev strQ (s : List UInt8) : List Value := [str s]
theorem IndexQ_any (A : Option Addr) (q c : Nat) (l : List (List UInt8)) (s : List UInt8) (w : World) (hl : SlT strQ 1 w A q l) (hq : q ≤ 1000) :
    Calls Tryz.prog 82 #[.slice A q c, str s] w fun e w' => e = .returned (.int .i64 (idxQ s l 0)) ∧ Below w.heap.size w w' := by
  have hlen := hl.len
  refine enter_args (args := [.slice A q c, str s]) (F := _) Tryz.func82 rfl Tryz.ntmps82 rfl rfl ?_
  intro Rb hRb hRn
  refine tx ?_
  refine sr 1 ?_
  refine sgs ?_
  refine tx ?_
  refine sr 1 ?_
  refine s1 (y_len_slice rfl rfl Tryz.underlying41) ?_
  refine sr 1 ?_
  refine sgo ?_
  refine T_block ?_
  refine lK1 (kf := [(4, 5), (8, 18)]) (kl := [(4, 5), (8, 18)]) (fun (i : Nat) => [(8, true, .int .i64 (i : Int))]) (fun (i : Nat) => []) (fun (i : Nat) => i ≤ q ∧ idxQ s (l.drop i) (i : Int) = idxQ s l 0) (fun (i : Nat) => q - i) 0 ?_ ?_ ?_ ?_
  · exact ⟨by omega, rfl⟩
  · exact ⟨rfl, trivial⟩
  · exact trivial
  rintro i ⟨hp1, hp2⟩
  refine tx ?_
  refine sr 1 ?_
  refine sgs ?_
  refine T_cond rfl ?_ ?_ <;> intro h9
  · try simp only [nrm] at h9
    obtain ⟨x, hx1, hx2⟩ := hl.at (i := i) (by omega)
    rw [hx2, idxQ] at hp2
    refine kgs ?_
    refine T_block ?_
    refine tx ?_
    refine sr 2 ?_
    refine sgx ?_
    refine sr 3 ?_
    refine s1 (y_indexAddr rfl rfl rfl Tryz.underlying41 sz9 (fun hg => hl.isSome (by omega)) (fun _ => by omega)) ?_
    refine s1 (y_loadT1 (val := (fun l : List UInt8 => str l)) rfl rfl hl (fun _ => hx1) Tryz.underlying9 rfl) ?_
    refine s1 (y_bin rfl rfl rfl (fun _ => b_eqls)) ?_
    refine sgo ?_
    refine T_cond rfl ?_ ?_ <;> intro h16
    · skip
      have h16e : s = x := by simpa using h16
      rw [if_pos h16e] at hp2
      refine tx ?_
      refine sr 2 ?_
      refine sgo ?_
      refine tr1 hRb fun w hM => ?_
      exact ⟨by rw [← hp2], hM.below⟩
    have h16e : ¬ s = x := by simpa using h16
    rw [if_neg h16e] at hp2
    refine kgr ?_
    refine s1 (y_bin rfl rfl rfl (fun hg => b_add (by omega))) ?_
    refine sr 1 ?_
    refine S_nil (nK1 (kf := [(4, 5), (8, 18)]) (kl := [(4, 5), (8, 18)]) (i + 1) ?_ ?_ ?_ ?_)
    · omega
    · exact ⟨by omega, hp2⟩
    · exact ⟨rfl, trivial⟩
    · exact trivial
  try simp only [nrm] at h9
  refine egx ?_
  refine sr 1 ?_
  refine sgo ?_
  refine tr1 hRb fun w hM => ?_
  exact ⟨by rw [← hp2, hl.end (by omega)]; rfl, hM.below⟩
/-- the words of kinds lie there -/
def OW (w : World) : Prop := (∀ j : Nat, j < 15 → w.cell? ⟨0, j, none⟩ = some (str (wordQ.getD j []))) ∧ 0 < w.heap.size
theorem OW.below {w w' : World} (h : OW w) (hb : Below w.heap.size w w') : OW w' := by
  refine ⟨fun j hj => ?_, Nat.lt_of_lt_of_le h.2 hb.size⟩
  rw [World.cell?, hb.block _ h.2]; exact h.1 j hj
theorem ow_slT {w : World} (h : OW w) : SlT strQ 1 w (some ⟨0, 0, none⟩) 15 wordQ := by
  refine ⟨⟨rfl, fun _ => ⟨_, rfl, h.2, fun j u hu => ?_⟩⟩, rfl⟩
  have hj : j < 15 := by
    have := (List.getElem?_eq_some_iff.1 hu).1
    simpa [wordQ] using this
  have e := h.1 j hj
  have hu2 : u = str (wordQ.getD j []) := by
    have key : ∀ k : Nat, k < 15 → (wordQ.flatMap strQ)[k]? = some (str (wordQ.getD k [])) := by
      intro k hk
      match k, hk with
      | 0, _ | 1, _ | 2, _ | 3, _ | 4, _ | 5, _ | 6, _ | 7, _ | 8, _ | 9, _ | 10, _ | 11, _ | 12, _ | 13, _ | 14, _ => rfl
      | k + 15, hk => omega
    rw [key j hj] at hu; exact (Option.some.inj hu).symm
  rw [hu2, ← e, add_zero_off]; first | rfl | rw [Nat.zero_add] | simp
/-- a condition with no kids, as a value -/
def cvQ (c : PC) : Value := .agg #[.int .i64 c.op, .slice none 0 0, .int .i64 c.lo, .int .i64 c.hi, str c.name, str c.text]
theorem IndexW_any (wd : List UInt8) (w : World) (hO : OW w) :
    Calls Tryz.prog 82 #[.slice (some ⟨0, 0, none⟩) 15 15, str wd] w fun e w' => e = .returned (.int .i64 (opOf wd)) ∧ Below w.heap.size w w' :=
  IndexQ_any (some ⟨0, 0, none⟩) 15 15 wordQ wd w (ow_slT hO) (by decide)
theorem cut_drop (s : List UInt8) (a b : Nat) : (s.take b).drop a = (s.drop a).take (b - a) := by rw [List.drop_take]
theorem name2_any {w0 : World} {K : HL} (hK : FromK K) (b : Nat) (s : List UInt8) (p : Nat) {np : Nat} {nw : Option Nat} {wd : List UInt8} (hs : s.length ≤ 1000000) (hr : p ≤ s.length) (hq : nameQ s ⟨p, none⟩ = ⟨np, nw⟩) (hw : (s.drop p).take (np - p) = wd) (w : World) (hM0 : Mem w0 ([(901, rdN b s p (-1))] ++ K) w) :
    Calls Tryz.prog 80 #[selfQ b] w fun e w' => ∃ z : Unit, e = .returned (str wd) ∧ True ∧ Mem w0 ([(901, rdN b s np (wI nw))] ++ K) w' := by
  have h := name_any hK b s ⟨p, none⟩ hs hr w hM0
  rw [hq] at h
  rw [← hw, ← cut_drop]
  exact h
theorem leafQ_of {s wd : List UInt8} {p np : Nat} {nw : Option Nat} (hq : nameQ s ⟨p, none⟩ = ⟨np, nw⟩) (hw : (s.drop p).take (np - p) = wd) : leafQ s p =
    if isQ s ⟨np, nw⟩ 61 = true then (.mk 7 [] 0 0 wd (valQ s ⟨np + 1, nw⟩).1, (valQ s ⟨np + 1, nw⟩).2)
    else if isQ s ⟨np, nw⟩ 58 = false ∨ opOf wd < 0 then (pc0, failQ ⟨np, nw⟩ np)
    else if opOf wd = 8 then (.mk 8 [] 0 0 ((s.drop (np + 1)).take ((nameQ s ⟨np + 1, nw⟩).p - (np + 1))) [], nameQ s ⟨np + 1, nw⟩)
    else if rngB (opOf wd) = true then rangeQ s (opOf wd) ⟨np + 1, nw⟩
    else (.mk (opOf wd) [] 0 0 [] (valQ s ⟨np + 1, nw⟩).1, (valQ s ⟨np + 1, nw⟩).2) := by
  unfold leafQ
  rw [hq]
  dsimp only
  rw [hw]
theorem lf_bad {a : Bool} {o : Int} (h : (!a || decide (o < 0)) = true) : a = false ∨ o < 0 := by
  simpa using h
theorem lf_ok {a : Bool} {o : Int} (h : (!a || decide (o < 0)) = false) : a = true ∧ ¬ o < 0 := by
  simpa using h
theorem rq_form (s : List UInt8) (o : Int) (r : QS) : cvQ (rangeQ s o r).1 = .agg #[.int .i64 o, .slice none 0 0, .int .i64 (rangeQ s o r).1.lo, .int .i64 (rangeQ s o r).1.hi, str [], str []] := by
  unfold rangeQ
  dsimp only
  split <;> rfl
theorem leaf_any {w0 : World} {K : HL} (hK : FromK K) (b : Nat) (s : List UInt8) (p : Nat) (hs : s.length ≤ 1000000) (hp : p ≤ s.length) (hE : ErrV w0) (hO : OW w0) (w : World) (hM0 : Mem w0 ([(901, rdN b s p (-1))] ++ K) w) :
    Calls Tryz.prog 41 #[selfQ b] w fun e w' => ∃ z : Unit, e = .returned (cvQ (leafQ s p).1) ∧ True ∧ Mem w0 ([(901, rdI b s (leafQ s p).2)] ++ K) w' := by
  have hn := name_le (s := s) (r := ⟨p, none⟩) hp
  obtain ⟨np, nw, hq⟩ : ∃ np nw, nameQ s ⟨p, none⟩ = ⟨np, nw⟩ := ⟨_, _, rfl⟩
  rw [hq] at hn
  obtain ⟨wd, hw⟩ : ∃ wd, (s.drop p).take (np - p) = wd := ⟨_, rfl⟩
  have hnp : np ≤ s.length := hn.1
  have hle := leafQ_of hq hw
  refine enterM_args (args := [selfQ b]) (F := _) hM0 Tryz.func41 rfl Tryz.ntmps41 rfl rfl ?_
  intro Rb hRb hRn
  refine tx ?_
  refine S_alloc 2 2 rfl rfl rfl rfl z24 ?_
  intro b2
  refine sgx ?_
  refine sr 1 ?_
  refine S_callM 7 [(901, 901)] (X := Unit) rfl rfl rfl rfl rfl rfl rfl cf80 rfl (fun _ => str wd) (fun _ => True) (fun _ => [(901, rdN b s np (wI nw))]) (fun _ => rfl) (fun _ => rfl) (fun K1 hK1 w hM => name2_any hK1 b s p hs hp hq hw w hM) ?_
  rintro ⟨⟩ _
  refine sr 1 ?_
  refine sgs ?_
  refine tx ?_
  refine sr 1 ?_
  refine s1 (y_call rfl rfl rfl cf40 (fun _ w hM => isq_any b s ⟨np, nw⟩ 61 w (rdc (hM.sat 901 _ rfl)).1 (rdc (hM.sat 901 _ rfl)).2.1 (rdc (hM.sat 901 _ rfl)).2.2)) ?_
  refine sgo ?_
  refine T_cond rfl ?_ ?_ <;> intro h9
  · skip
    have hw0 : nw = none := (isQ_t h9).1
    have hlt : np < s.length := (isQ_t h9).2.1
    subst hw0
    rw [if_pos h9] at hle
    refine tx ?_
    refine sr 1 ?_
    refine s1 (y_nilCheck rfl rfl) ?_
    refine s1 (yF fa46_1) ?_
    refine s1 (yL 901 Tryz.underlying3) ?_
    refine s1 (y_bin rfl rfl rfl (fun hg => b_addv (((np + 1 : Nat) : Int)) (by omega) (by omega))) ?_
    refine s1 (y_nilCheck rfl rfl) ?_
    refine s1 (yF fa46_1) ?_
    refine S_store 901 rfl rfl rfl rfl rfl rfl sz3 rfl rfl ?_
    refine sgx ?_
    refine sr 2 ?_
    refine S_callM 19 [(901, 901)] (X := Unit) rfl rfl rfl rfl rfl rfl rfl cf81 rfl (fun _ => str (valQ s ⟨(np + 1), none⟩).1) (fun _ => True) (fun _ => [(901, rdI b s (valQ s ⟨(np + 1), none⟩).2)]) (fun _ => rfl) (fun _ => rfl) (fun K1 hK1 w hM => value_any hK1 b s (np + 1) hs (by omega) w hM) ?_
    rintro ⟨⟩ _
    refine s1 (y_build (zv := .agg #[.int .i64 0, .slice none 0 0, .int .i64 0, .int .i64 0, .string ⟨#[]⟩, .string ⟨#[]⟩]) (pl := [(0, 1), (1, 1), (2, 1), (3, 1), (4, 1), (5, 1)]) (out := [_, .slice none 0 0, .int .i64 0, .int .i64 0, _, _]) rfl rfl Tryz.underlying24 z24 (by kernel_rfl) rfl) ?_
    refine S_store 2 rfl rfl rfl rfl rfl rfl sz24 rfl rfl ?_
    refine sgo ?_
    refine T_ret (fun a w hF hM => hRb a w (post_cell1 2 rfl rfl rfl Tryz.underlying24 rfl (by exact sz24) (fun w hM => ?_) a w hF hM))
    rw [hle]; exact ⟨(), rfl, trivial, hM.keep (ks := [(0, 999)]) (by repeat (first | exact kl_rest (by assumption) rfl | (apply kl_in; focus rfl))) _ ⟨rfl, trivial⟩⟩
  rw [if_neg (by rw [h9]; decide)] at hle
  refine kgx ?_
  refine s1 (y_sliceAll rfl rfl Tryz.underlying64 sz9) ?_
  refine sr 1 ?_
  refine s1 (y_call rfl rfl rfl cf82 (fun _ w hM => IndexW_any wd w (hO.below hM.below))) ?_
  refine sr 1 ?_
  refine sgs ?_
  refine tx ?_
  refine sr 1 ?_
  refine s1 (y_call rfl rfl rfl cf40 (fun _ w hM => isq_any b s ⟨np, nw⟩ 58 w (rdc (hM.sat 901 _ rfl)).1 (rdc (hM.sat 901 _ rfl)).2.1 (rdc (hM.sat 901 _ rfl)).2.2)) ?_
  refine sr 2 ?_
  refine sg rfl (y_move rfl rfl) ?_
  refine sg rfl (y_bin rfl rfl rfl (fun _ => b_lss)) ?_
  refine s1 (y_or rfl rfl rfl) ?_
  refine sgo ?_
  refine T_cond rfl ?_ ?_ <;> intro h30
  · skip
    rw [if_pos (lf_bad h30)] at hle
    refine tx ?_
    refine sr 2 ?_
    refine s1 (y_nilCheck rfl rfl) ?_
    refine s1 (yF fa46_1) ?_
    refine s1 (yL 901 Tryz.underlying3) ?_
    refine S_callM 36 [(901, 901)] (X := Unit) rfl rfl rfl rfl rfl rfl rfl cf44 rfl (fun _ => .tuple #[]) (fun _ => True) (fun _ => [(901, rdI b s (failQ ⟨np, nw⟩ np))]) (fun _ => rfl) (fun _ => rfl) (fun K1 hK1 w hM => fail_any hK1 b s ⟨np, nw⟩ np w hM) ?_
    rintro ⟨⟩ _
    refine sgx ?_
    refine s1 (y_build (zv := .agg #[.int .i64 0, .slice none 0 0, .int .i64 0, .int .i64 0, .string ⟨#[]⟩, .string ⟨#[]⟩]) (pl := [(0, 1), (1, 1), (2, 1), (3, 1), (4, 1), (5, 1)]) (out := [.int .i64 0, .slice none 0 0, .int .i64 0, .int .i64 0, .string ⟨#[]⟩, .string ⟨#[]⟩]) rfl rfl Tryz.underlying24 z24 (by kernel_rfl) rfl) ?_
    refine S_store 2 rfl rfl rfl rfl rfl rfl sz24 rfl rfl ?_
    refine sgo ?_
    refine T_ret (fun a w hF hM => hRb a w (post_cell1 2 rfl rfl rfl Tryz.underlying24 rfl (by exact sz24) (fun w hM => ?_) a w hF hM))
    rw [hle]; exact ⟨(), rfl, trivial, hM.keep (ks := [(0, 999)]) (by repeat (first | exact kl_rest (by assumption) rfl | (apply kl_in; focus rfl))) _ ⟨rfl, trivial⟩⟩
  obtain ⟨h58, hop0⟩ := lf_ok h30
  have hw0 : nw = none := (isQ_t h58).1
  have hlt : np < s.length := (isQ_t h58).2.1
  subst hw0
  rw [if_neg (by rintro (h | h); (rw [h58] at h; cases h); exact hop0 h)] at hle
  refine kgx ?_
  refine sr 1 ?_
  refine s1 (y_nilCheck rfl rfl) ?_
  refine s1 (yF fa46_1) ?_
  refine s1 (yL 901 Tryz.underlying3) ?_
  refine s1 (y_bin rfl rfl rfl (fun hg => b_addv (((np + 1 : Nat) : Int)) (by omega) (by omega))) ?_
  refine s1 (y_nilCheck rfl rfl) ?_
  refine s1 (yF fa46_1) ?_
  refine S_store 901 rfl rfl rfl rfl rfl rfl sz3 rfl rfl ?_
  refine sgx ?_
  refine sr 1 ?_
  refine s1 (y_build (zv := .agg #[.int .i64 0, .slice none 0 0, .int .i64 0, .int .i64 0, .string ⟨#[]⟩, .string ⟨#[]⟩]) (pl := [(0, 1), (1, 1), (2, 1), (3, 1), (4, 1), (5, 1)]) (out := [_, .slice none 0 0, .int .i64 0, .int .i64 0, .string ⟨#[]⟩, .string ⟨#[]⟩]) rfl rfl Tryz.underlying24 z24 (by kernel_rfl) rfl) ?_
  refine S_alloc 5 5 rfl rfl rfl rfl z24 ?_
  intro b5
  refine S_store 5 rfl rfl rfl rfl rfl rfl sz24 rfl rfl ?_
  refine sgs ?_
  refine T_block ?_
  refine tx ?_
  refine sr 3 ?_
  refine sgo ?_
  refine T_cond rfl ?_ ?_ <;> intro h50
  · try simp only [nrm] at h50
    rw [if_pos h50] at hle
    refine T_region ?_
    refine sr 1 ?_
    refine S_callM 54 [(901, 901)] (X := Unit) rfl rfl rfl rfl rfl rfl rfl cf80 rfl (fun _ => str ((s.drop (np + 1)).take ((nameQ s ⟨np + 1, none⟩).p - (np + 1)))) (fun _ => True) (fun _ => [(901, rdN b s (nameQ s ⟨np + 1, none⟩).p (wI (nameQ s ⟨np + 1, none⟩).w))]) (fun _ => rfl) (fun _ => rfl) (fun K1 hK1 w hM => name2_any hK1 b s (np + 1) hs (by omega) rfl rfl w hM) ?_
    rintro ⟨⟩ _
    refine s1 (yF fa24_4) ?_
    refine S_store 5 rfl rfl rfl rfl rfl rfl sz9 rfl rfl ?_
    refine sgx ?_
    refine s1 (yA 5 rfl Tryz.underlying24 sz24) ?_
    refine S_store 2 rfl rfl rfl rfl rfl rfl sz24 rfl rfl ?_
    refine sgo ?_
    refine T_ret (fun a w hF hM => hRb a w (post_cell1 2 rfl rfl rfl Tryz.underlying24 rfl (by exact sz24) (fun w hM => ?_) a w hF hM))
    rw [hle]; exact ⟨(), by rw [h50]; rfl, trivial, hM.keep (ks := [(0, 999)]) (by repeat (first | exact kl_rest (by assumption) rfl | (apply kl_in; focus rfl))) _ ⟨rfl, trivial⟩⟩
  try simp only [nrm] at h50
  rw [if_neg h50] at hle
  refine tx ?_
  refine sr 1 ?_
  refine s1 (y_call rfl rfl rfl cf62 (fun _ w _ => ranges_any _ w)) ?_
  refine sr 1 ?_
  refine sgo ?_
  refine T_cond rfl ?_ ?_ <;> intro h56
  · skip
    rw [if_pos h56] at hle
    refine T_region ?_
    refine sr 1 ?_
    refine S_callM 60 [(901, 901), (902, 5)] (X := Unit) rfl rfl rfl rfl rfl rfl rfl cf83 rfl (fun _ => .tuple #[]) (fun _ => True) (fun _ => [(901, rdI b s (rangeQ s (opOf wd) ⟨np + 1, none⟩).2), (902, cdB b5 (opOf wd) (rangeQ s (opOf wd) ⟨np + 1, none⟩).1.lo (rangeQ s (opOf wd) ⟨np + 1, none⟩).1.hi [] [])]) (fun _ => rfl) (fun _ => rfl) (fun K1 hK1 w hM => interval_any hK1 b b5 s ⟨np + 1, none⟩ (opOf wd) hs (by show np + 1 ≤ s.length; omega) hE w hM) ?_
    rintro ⟨⟩ _
    refine sgx ?_
    refine s1 (yA 5 rfl Tryz.underlying24 sz24) ?_
    refine S_store 2 rfl rfl rfl rfl rfl rfl sz24 rfl rfl ?_
    refine sgo ?_
    refine T_ret (fun a w hF hM => hRb a w (post_cell1 2 rfl rfl rfl Tryz.underlying24 rfl (by exact sz24) (fun w hM => ?_) a w hF hM))
    rw [hle]; exact ⟨(), by rw [rq_form]; rfl, trivial, hM.keep (ks := [(0, 999)]) (by repeat (first | exact kl_rest (by assumption) rfl | (apply kl_in; focus rfl))) _ ⟨rfl, trivial⟩⟩
  rw [if_neg (by rw [h56]; decide)] at hle
  refine T_region ?_
  refine sr 1 ?_
  refine S_callM 48 [(901, 901)] (X := Unit) rfl rfl rfl rfl rfl rfl rfl cf81 rfl (fun _ => str (valQ s ⟨(np + 1), none⟩).1) (fun _ => True) (fun _ => [(901, rdI b s (valQ s ⟨(np + 1), none⟩).2)]) (fun _ => rfl) (fun _ => rfl) (fun K1 hK1 w hM => value_any hK1 b s (np + 1) hs (by omega) w hM) ?_
  rintro ⟨⟩ _
  refine s1 (yF fa24_5) ?_
  refine S_store 5 rfl rfl rfl rfl rfl rfl sz9 rfl rfl ?_
  refine sgx ?_
  refine s1 (yA 5 rfl Tryz.underlying24 sz24) ?_
  refine S_store 2 rfl rfl rfl rfl rfl rfl sz24 rfl rfl ?_
  refine sgo ?_
  refine T_ret (fun a w hF hM => hRb a w (post_cell1 2 rfl rfl rfl Tryz.underlying24 rfl (by exact sz24) (fun w hM => ?_) a w hF hM))
  rw [hle]; exact ⟨(), rfl, trivial, hM.keep (ks := [(0, 999)]) (by repeat (first | exact kl_rest (by assumption) rfl | (apply kl_in; focus rfl))) _ ⟨rfl, trivial⟩⟩
end Go.Proofs.YtfcedlfeinnhoaaGreatDoor
end
section
namespace Go.Proofs.YtfcedlfeinnhoaaGreatDoor
set_option linter.unusedSimpArgs false
set_option linter.unusedVariables false
set_option maxRecDepth 20000
open Go.RowKit Go.Eng
theorem Count1q_any (s : List UInt8) (c : UInt8) (w : World) : Calls Tryz.prog 201 #[str s, str [c]] w fun e w' => e = .returned (.int .i64 ((s.count c : Nat) : Int)) ∧ Below w.heap.size w w' :=
  (Tryz.strings_Count_one ⟨s.toArray⟩ c w).mono fun e w' h => ⟨by rw [h.1]; rfl, h.2 ▸ Below.refl _ _⟩
def spB (c : UInt8) : Bool := decide (c = 34) || decide (c = 92)
def rpA (b1 b2 : Nat) (c : UInt8) : Option Addr := if c = 34 then some ⟨b1, 0, none⟩ else if c = 92 then some ⟨b2, 0, none⟩ else none
def rpN (c : UInt8) : Nat := if spB c = true then 2 else 0
def rpC (k1 k2 : Nat) (c : UInt8) : Nat := if c = 34 then k1 else if c = 92 then k2 else 0
theorem rpA_none (b1 b2 : Nat) (c : UInt8) : (!(rpA b1 b2 c).isNone) = spB c := by
  unfold rpA spB
  by_cases h1 : c = 34
  · simp [h1]
  · by_cases h2 : c = 92
    · simp [h2]
    · simp [h1, h2]
theorem esc_sp {c : UInt8} (h : spB c = true) : escC c = [92, c] := by
  simp only [spB, Bool.or_eq_true, decide_eq_true_eq] at h
  rcases h with rfl | rfl <;> rfl
theorem esc_no {c : UInt8} (h : spB c = false) : escC c = [c] := by
  simp only [spB, Bool.or_eq_false_iff, decide_eq_false_iff_not] at h
  unfold escC; rw [if_neg h.1, if_neg h.2]
/-- the table of what is replaced lies there -/
structure BsR (w : World) (b b1 b2 k1 k2 : Nat) (A : Option Addr) (c : Nat) : Prop where
  lt : b < w.heap.size
  cell : ∀ x : UInt8, w.cell? ⟨b, x.toNat, none⟩ = some (.slice (rpA b1 b2 x) (rpN x) (rpC k1 k2 x))
  list : w.cell? ⟨b, 256, none⟩ = some (.slice A 2 c)
  strs : SlT strQ 1 w A 2 [[92], [34]]
  r1 : SlR w 1 (some ⟨b1, 0, none⟩) 2 (bytesV [92, 34])
  r2 : SlR w 1 (some ⟨b2, 0, none⟩) 2 (bytesV [92, 92])
theorem BsR.src {w : World} {b b1 b2 k1 k2 c : Nat} {A : Option Addr} (h : BsR w b b1 b2 k1 k2 A c) {x : UInt8} (hx : spB x = true) : SlR w 1 (rpA b1 b2 x) 2 (bytesV (escC x)) := by
  simp only [spB, Bool.or_eq_true, decide_eq_true_eq] at hx
  rcases hx with rfl | rfl
  · exact h.r1
  · exact h.r2
def cntJ (s : List UInt8) (j : Nat) : Nat := if j = 0 then 0 else if j = 1 then s.count 92 else s.count 92 + s.count 34
def cntI (s : List UInt8) (i : Nat) : Nat := (s.take i).countP spB
theorem esc_app (a b : List UInt8) : escQ (a ++ b) = escQ a ++ escQ b := by simp [escQ]
theorem esc_len : ∀ s : List UInt8, (escQ s).length = s.length + s.countP spB
  | [] => rfl
  | c :: s => by
    show (escC c ++ escQ s).length = _
    rw [List.length_append, esc_len s, List.countP_cons, List.length_cons]
    cases h : spB c with
    | true => rw [esc_sp h]; simp; omega
    | false => rw [esc_no h]; simp; omega
theorem esc_none {s : List UInt8} (h : s.countP spB = 0) : escQ s = s := by
  induction s with
  | nil => rfl
  | cons c s ih =>
    rw [List.countP_cons] at h
    cases hc : spB c with
    | true => rw [hc] at h; simp at h
    | false => show escC c ++ escQ s = _; rw [esc_no hc, ih (by omega)]; rfl
theorem cnt2 (s : List UInt8) : s.countP spB = s.count 92 + s.count 34 := by
  induction s with
  | nil => rfl
  | cons c s ih =>
    rw [List.countP_cons, List.count_cons, List.count_cons, ih]
    by_cases h1 : c = 34
    · subst h1; simp [spB]; omega
    · by_cases h2 : c = 92
      · subst h2; simp [spB]; omega
      · simp [spB, h1, h2]
theorem cntJ_2 (s : List UInt8) : cntJ s 2 = s.countP spB := by rw [cnt2]; rfl
theorem cntJ_le (s : List UInt8) (j : Nat) : cntJ s j ≤ s.length * 2 := by
  have h1 : s.count 92 ≤ s.length := List.count_le_length
  have h2 : s.count 34 ≤ s.length := List.count_le_length
  unfold cntJ; split
  · omega
  · split <;> omega
theorem lst_at (s : List UInt8) {j : Nat} (h : j < 2) : ∃ cj : UInt8, ([[92], [34]] : List (List UInt8))[j]? = some [cj] ∧ spB cj = true ∧ cntJ s (j + 1) = cntJ s j + s.count cj := by
  match j, h with
  | 0, _ => exact ⟨92, rfl, rfl, by simp [cntJ]⟩
  | 1, _ => exact ⟨34, rfl, rfl, by simp [cntJ]⟩
theorem cntI_all {s : List UInt8} {i : Nat} (h : s.length ≤ i) : cntI s i = s.countP spB := by rw [cntI, List.take_of_length_le h]
theorem take_sn {s : List UInt8} {i : Nat} (h : i < s.length) : s.take (i + 1) = s.take i ++ [s.getD i 0] := by
  rw [List.getD_eq_getElem?_getD, List.getElem?_eq_getElem h, List.take_succ_eq_append_getElem h]; rfl
theorem cntI_t {s : List UInt8} {i : Nat} (h : i < s.length) (hb : spB (s.getD i 0) = true) : cntI s (i + 1) = cntI s i + 1 := by
  rw [cntI, take_sn h, List.countP_append, List.countP_singleton, if_pos hb]; rfl
theorem cntI_f {s : List UInt8} {i : Nat} (h : i < s.length) (hb : spB (s.getD i 0) = false) : cntI s (i + 1) = cntI s i := by
  rw [cntI, take_sn h, List.countP_append, List.countP_singleton, if_neg (by rw [hb]; decide)]; rfl
theorem cntI_le (s : List UInt8) (i : Nat) : cntI s i ≤ s.length := Nat.le_trans List.countP_le_length (by rw [List.length_take]; omega)
structure SzR (s : List UInt8) where
  m : Nat
  any : Bool
  h1 : m = (escQ s).length
  h2 : any = decide (0 < s.countP spB)
def SzR.of1 (s : List UInt8) : SzR s := ⟨s.length + cntJ s 2, decide (0 < cntJ s 2), by rw [cntJ_2, esc_len], by rw [cntJ_2]⟩
def SzR.of2 {s : List UInt8} {i : Nat} (h : s.length ≤ i) : SzR s := ⟨s.length + cntI s i, decide (0 < cntI s i), by rw [cntI_all h, esc_len], by rw [cntI_all h]⟩
/-- what is written so far, and what is still to come -/
def bufQ (s : List UInt8) (i : Nat) : List UInt8 := escQ (s.take i) ++ List.replicate (escQ (s.drop i)).length 0
theorem esc_cut (s : List UInt8) (i : Nat) : (escQ (s.take i)).length + (escQ (s.drop i)).length = (escQ s).length := by
  rw [← List.length_append, ← esc_app, List.take_append_drop]
theorem drop_cs {s : List UInt8} {i : Nat} (h : i < s.length) : s.drop i = s.getD i 0 :: s.drop (i + 1) := drQ h
theorem esc_drop {s : List UInt8} {i : Nat} (h : i < s.length) : (escQ (s.drop i)).length = (escC (s.getD i 0)).length + (escQ (s.drop (i + 1))).length := by
  rw [drop_cs h]; show (escC _ ++ escQ _).length = _; rw [List.length_append]
theorem esc_take {s : List UInt8} {i : Nat} (h : i < s.length) : escQ (s.take (i + 1)) = escQ (s.take i) ++ escC (s.getD i 0) := by
  rw [take_sn h, esc_app]; simp [escQ]
theorem buf_put {s : List UInt8} {i j m : Nat} {ys : List UInt8} (h : i < s.length) (hj : j = (escQ (s.take i)).length) (hy : ys = escC (s.getD i 0)) (hm : m = ys.length) :
    (bytesV (bufQ s i)).take j ++ bytesV ys ++ (bytesV (bufQ s i)).drop (j + m) = bytesV (bufQ s (i + 1)) := by
  subst hj; subst hm; subst hy
  unfold bufQ bytesV
  rw [← List.map_take, ← List.map_drop, ← List.map_append, ← List.map_append, List.take_left, ← List.drop_drop, List.drop_left, List.drop_replicate, esc_take h, esc_drop h, Nat.add_sub_cancel_left]
theorem buf_set {s : List UInt8} {i : Nat} (h : i < s.length) (hc : spB (s.getD i 0) = false) : (bytesV (bufQ s i)).set (escQ (s.take i)).length (.int .u8 (((s.getD i 0).toNat : Nat) : Int)) = bytesV (bufQ s (i + 1)) := by
  have e : ∀ c : UInt8, Value.int .u8 ((c.toNat : Nat) : Int) = (fun b : UInt8 => Value.int .u8 ((b.toNat : Nat) : Int)) c := fun _ => rfl
  unfold bufQ bytesV
  rw [esc_drop h, esc_take h, esc_no hc, List.map_append, List.set_append_right _ _ (by rw [List.length_map]; exact Nat.le_refl _), List.length_map, Nat.sub_self]
  simp [Nat.add_comm 1, List.replicate_succ]
theorem buf_len (s : List UInt8) (i : Nat) : (bytesV (bufQ s i)).length = (escQ s).length := by
  rw [bytesV, List.length_map, bufQ, List.length_append, List.length_replicate, esc_cut]
theorem buf_all {s : List UInt8} {i : Nat} (h : s.length ≤ i) : bufQ s i = escQ s := by
  rw [bufQ, List.take_of_length_le h, List.drop_of_length_le h]; simp [escQ]
theorem made_byte (z : Value) (hz : z = .int .u8 0) (s : List UInt8) : (madeCells z.cells ((escQ s).length * 1)).toList = bytesV (bufQ s 0) := by
  subst hz
  rw [Nat.mul_one, show (Value.int IntKind.u8 0).cells = #[Value.int .u8 0] from rfl, toList_madeCells_one]
  simp [bufQ, bytesV, escQ]
theorem one_bytes (l : List UInt8) : ∀ v ∈ bytesV l, v.oneCell' = true := fun v hv => by
  obtain ⟨c, _, rfl⟩ := List.mem_map.1 hv; rfl
theorem bsReplace_any (b b1 b2 k1 k2 : Nat) (A : Option Addr) (c : Nat) (s : List UInt8) (hs : s.length ≤ 1000000) (w : World) (hB : BsR w b b1 b2 k1 k2 A c) :
    Calls Tryz.prog 199 #[selfQ b, str s] w fun e w' => e = .returned (str (escQ s)) ∧ Below w.heap.size w w' := by
  have hel := esc_len s
  have hcp : s.countP spB ≤ s.length := List.countP_le_length
  refine enter_args (args := [selfQ b, str s]) (F := _) Tryz.func199 rfl Tryz.ntmps199 rfl rfl ?_
  intro Rb hRb hRn
  refine tx ?_
  refine sr 1 ?_
  refine sgx ?_
  refine sr 1 ?_
  refine s1 (y_len_str rfl rfl Tryz.underlying9) ?_
  refine sr 1 ?_
  refine sgx ?_
  refine sr 1 ?_
  refine sgs ?_
  refine tx ?_
  refine sr 1 ?_
  refine s1 (y_nilCheck rfl rfl) ?_
  refine s1 (yF fa160_1) ?_
  refine s1 (y_load_far rfl rfl hB.list hB.lt Tryz.underlying41 rfl) ?_
  refine s1 (y_len_slice rfl rfl Tryz.underlying41) ?_
  refine s1 (y_bin rfl rfl rfl (fun hg => b_mul (by omega))) ?_
  refine sr 1 ?_
  refine s1 (y_len_str rfl rfl Tryz.underlying9) ?_
  refine sr 1 ?_
  refine sgo ?_
  refine T_mid (kf := [(5, 6), (8, 11), (27, 80)]) (kl := [(5, 6), (8, 11), (27, 80)]) (fun x : SzR s => [(5, true, .int .i64 (x.m : Int)), (6, true, .bool x.any)]) (fun x : SzR s => []) (by repeat (first | exact kf_nil | (apply kf_in; focus rfl) | (apply kf_out; focus rfl))) (by repeat (first | exact kl_nil | exact kl_rest (by assumption) rfl | (apply kl_in; focus rfl) | (apply kl_out; focus rfl))) ?_ ?_
  · skip
    refine T_cond rfl ?_ ?_ <;> intro h26
    · skip
      refine tx ?_
      refine sr 1 ?_
      refine s1 (y_nilCheck rfl rfl) ?_
      refine s1 (yF fa160_1) ?_
      refine s1 (y_load_far rfl rfl hB.list hB.lt Tryz.underlying41 rfl) ?_
      refine s1 (y_len_slice rfl rfl Tryz.underlying41) ?_
      refine sr 1 ?_
      refine sgo ?_
      refine T_block ?_
      refine lK1 (kf := [(5, 6), (8, 9), (32, 54)]) (kl := [(5, 6), (8, 9), (32, 54)]) (fun (j : Nat) => [(32, true, .int .i64 (j : Int)), (5, true, .int .i64 ((s.length + cntJ s j : Nat) : Int)), (6, true, .bool (decide (0 < cntJ s j)))]) (fun (j : Nat) => []) (fun (j : Nat) => j ≤ 2) (fun (j : Nat) => 2 - j) 0 ?_ ?_ ?_ ?_
      · omega
      · exact ⟨rfl, rfl, rfl, trivial⟩
      · exact trivial
      rintro j hp1
      refine tx ?_
      refine sr 1 ?_
      refine sgs ?_
      refine T_cond rfl ?_ ?_ <;> intro h33
      · try simp only [nrm] at h33
        obtain ⟨cj, hx1, hsp, hcj⟩ := lst_at s (j := j) (by omega)
        have hcl : s.count cj ≤ s.length := List.count_le_length
        have hcle := cntJ_le s j
        refine kgs ?_
        refine T_block ?_
        refine tx ?_
        refine s1 (y_indexAddr rfl rfl rfl Tryz.underlying41 sz9 (fun hg => hB.strs.isSome (by omega)) (fun _ => by omega)) ?_
        refine s1 (y_loadT1 (val := (fun l : List UInt8 => str l)) rfl rfl hB.strs (fun _ => hx1) Tryz.underlying9 rfl) ?_
        refine sr 1 ?_
        refine sgx ?_
        refine sr 2 ?_
        refine s1 (y_call rfl rfl rfl cf201 (fun _ w _ => Count1q_any s cj w)) ?_
        refine sr 1 ?_
        refine sgx ?_
        refine sr 2 ?_
        refine sgo ?_
        refine T_cond rfl ?_ ?_ <;> intro h40
        · try simp only [nrm] at h40
          refine T_seq ?_
          refine T_draws (by kernel_rfl) (by kernel_rfl) ?_
          refine d1 (y_move rfl rfl) ?_
          refine d1 (y_move rfl rfl) ?_
          refine d1 (y_move rfl rfl) ?_
          refine d1 (y_move rfl rfl) ?_
          refine d1 (y_as (v' := .int .u8 ((cj.toNat : Nat) : Int)) (by exact rfl) (y_index_str (j := 0) rfl rfl rfl Tryz.underlying9 (fun _ => Nat.succ_pos _))) ?_
          refine d1 (y_nilCheck rfl rfl) ?_
          refine d1 (y_as (v' := .pointer (some ⟨b, 0, none⟩)) (by exact rfl) (yF fa160_0)) ?_
          refine d1 (y_indexArr (j := cj.toNat) rfl rfl rfl Tryz.underlying158 (by decide) sz79 (fun _ => UInt8.toNat_lt _)) ?_
          refine d1 (y_load_far rfl rfl (hB.cell cj) hB.lt Tryz.underlying79 rfl) ?_
          refine d1 (y_as (v' := .int .i64 2) (by rw [rpN, if_pos hsp]; rfl) (y_len_slice rfl rfl Tryz.underlying79)) ?_
          refine d1 (y_bin rfl rfl rfl (fun hg => b_subv (1) (by omega) (by omega))) ?_
          refine d1 (y_bin rfl rfl rfl (fun hg => b_mulv (((s.count cj : Nat) : Int)) (by omega) (by omega))) ?_
          refine d1 (y_bin rfl rfl rfl (fun hg => b_addv (((s.length + cntJ s (j + 1) : Nat) : Int)) (by omega) (by omega))) ?_
          refine d1 (y_assign rfl rfl) ?_
          refine dgr ?_
          refine sr 1 ?_
          refine sgr ?_
          refine s1 (y_bin rfl rfl rfl (fun hg => b_add (by omega))) ?_
          refine sr 1 ?_
          refine S_nil (nK1 (kf := [(5, 6), (8, 9), (32, 54)]) (kl := [(5, 6), (8, 9), (32, 54)]) (j + 1) ?_ ?_ ?_ ?_)
          · omega
          · omega
          · exact ⟨rfl, rfl, by rw [decide_eq_true (show 0 < cntJ s (j + 1) by omega)]; rfl, trivial⟩
          · exact trivial
        try simp only [nrm] at h40
        refine kgr ?_
        refine s1 (y_bin rfl rfl rfl (fun hg => b_add (by omega))) ?_
        refine sr 1 ?_
        refine S_nil (nK1 (kf := [(5, 6), (8, 9), (32, 54)]) (kl := [(5, 6), (8, 9), (32, 54)]) (j + 1) ?_ ?_ ?_ ?_)
        · omega
        · omega
        · exact ⟨rfl, by rw [show cntJ s (j + 1) = cntJ s j by omega]; rfl, by rw [show cntJ s (j + 1) = cntJ s j by omega]; rfl, trivial⟩
        · exact trivial
      try simp only [nrm] at h33
      have hj2 : j = 2 := by omega
      subst hj2
      refine T_exit (mid_end (kf := [(5, 6), (8, 11), (27, 80)]) (kl := [(5, 6), (8, 11), (27, 80)]) (SzR.of1 s) (by repeat (first | exact kf_nil | (apply kf_in; focus rfl) | (apply kf_out; focus rfl))) (by repeat (first | exact kl_nil | exact kl_rest (by assumption) rfl | (apply kl_in; focus rfl) | (apply kl_out; focus rfl))) ?_ ?_)
      · exact ⟨rfl, rfl, trivial⟩
      · exact trivial
    refine tx ?_
    refine sr 1 ?_
    refine sgo ?_
    refine T_block ?_
    refine lK1 (kf := [(5, 6), (10, 11), (55, 80)]) (kl := [(5, 6), (10, 11), (55, 80)]) (fun (i : Nat) => [(10, true, .int .i64 (i : Int)), (5, true, .int .i64 ((s.length + cntI s i : Nat) : Int)), (6, true, .bool (decide (0 < cntI s i)))]) (fun (i : Nat) => []) (fun (i : Nat) => i ≤ s.length) (fun (i : Nat) => s.length - i) 0 ?_ ?_ ?_ ?_
    · omega
    · exact ⟨rfl, rfl, rfl, trivial⟩
    · exact trivial
    rintro i hp1
    refine T_seq ?_
    refine tx ?_
    refine sr 2 ?_
    refine s1 (y_len_str rfl rfl Tryz.underlying9) ?_
    refine sr 1 ?_
    refine sgo ?_
    refine T_cond rfl ?_ ?_ <;> intro h58
    · try simp only [nrm] at h58
      have hlt : i < s.length := by omega
      have hcil := cntI_le s i
      refine kgs ?_
      refine T_block ?_
      refine tx ?_
      refine sr 2 ?_
      refine s1 (y_index_str rfl rfl rfl Tryz.underlying9 (fun _ => by omega)) ?_
      refine sr 1 ?_
      refine sgx ?_
      refine sr 2 ?_
      refine s1 (y_nilCheck rfl rfl) ?_
      refine s1 (y_as (v' := .pointer (some ⟨b, 0, none⟩)) (by exact rfl) (yF fa160_0)) ?_
      refine s1 (y_indexArr (j := (s.getD i 0).toNat) rfl rfl rfl Tryz.underlying158 (by decide) sz79 (fun _ => UInt8.toNat_lt _)) ?_
      refine s1 (y_load_far rfl rfl (hB.cell (s.getD i 0)) hB.lt Tryz.underlying79 rfl) ?_
      refine s1 (y_as (v' := .bool (spB (s.getD i 0))) (by exact congrArg Value.bool (rpA_none b1 b2 _)) (y_bin rfl rfl rfl (fun _ => b_neqn Tryz.underlying79))) ?_
      refine sgo ?_
      refine T_cond rfl ?_ ?_ <;> intro h70
      · skip
        refine tx ?_
        refine sr 3 ?_
        refine s1 (y_nilCheck rfl rfl) ?_
        refine s1 (y_as (v' := .pointer (some ⟨b, 0, none⟩)) (by exact rfl) (yF fa160_0)) ?_
        refine s1 (y_indexArr (j := (s.getD i 0).toNat) rfl rfl rfl Tryz.underlying158 (by decide) sz79 (fun _ => UInt8.toNat_lt _)) ?_
        refine s1 (y_load_far rfl rfl (hB.cell (s.getD i 0)) hB.lt Tryz.underlying79 rfl) ?_
        refine s1 (y_as (v' := .int .i64 2) (by rw [rpN, if_pos h70]; rfl) (y_len_slice rfl rfl Tryz.underlying79)) ?_
        refine s1 (y_bin rfl rfl rfl (fun hg => b_subv (1) (by omega) (by omega))) ?_
        refine s1 (y_bin rfl rfl rfl (fun hg => b_addv (((s.length + (cntI s i + 1) : Nat) : Int)) (by omega) (by omega))) ?_
        refine sr 1 ?_
        refine sgr ?_
        refine sr 1 ?_
        refine sgr ?_
        refine sr 1 ?_
        refine s1 (y_bin rfl rfl rfl (fun hg => b_add (by omega))) ?_
        refine sr 1 ?_
        refine S_nil (nK1 (kf := [(5, 6), (10, 11), (55, 80)]) (kl := [(5, 6), (10, 11), (55, 80)]) (i + 1) ?_ ?_ ?_ ?_)
        · omega
        · omega
        · exact ⟨rfl, by rw [cntI_t hlt h70]; rfl, by rw [decide_eq_true (show 0 < cntI s (i + 1) by rw [cntI_t hlt h70]; exact Nat.succ_pos _)]; rfl, trivial⟩
        · exact trivial
      refine kgr ?_
      refine sr 1 ?_
      refine s1 (y_bin rfl rfl rfl (fun hg => b_add (by omega))) ?_
      refine sr 1 ?_
      refine S_nil (nK1 (kf := [(5, 6), (10, 11), (55, 80)]) (kl := [(5, 6), (10, 11), (55, 80)]) (i + 1) ?_ ?_ ?_ ?_)
      · omega
      · omega
      · exact ⟨rfl, by rw [cntI_f hlt h70]; rfl, by rw [cntI_f hlt h70]; rfl, trivial⟩
      · exact trivial
    try simp only [nrm] at h58
    have hge : s.length ≤ i := by omega
    refine T_exit (mid_end (kf := [(5, 6), (8, 11), (27, 80)]) (kl := [(5, 6), (8, 11), (27, 80)]) (SzR.of2 (s := s) (i := i) hge) (by repeat (first | exact kf_nil | (apply kf_in; focus rfl) | (apply kf_out; focus rfl))) (by repeat (first | exact kl_nil | exact kl_rest (by assumption) rfl | (apply kl_in; focus rfl) | (apply kl_out; focus rfl))) ?_ ?_)
    · exact ⟨rfl, rfl, trivial⟩
    · exact trivial
  intro x
  have hxm := x.h1
  refine sgs ?_
  refine tx ?_
  refine sr 2 ?_
  refine sgo ?_
  refine T_cond rfl ?_ ?_ <;> intro h82
  · skip
    have h0 : s.countP spB = 0 := by
      have h := h82
      rw [x.h2] at h
      simpa using h
    refine tx ?_
    refine sr 2 ?_
    refine sgo ?_
    refine tr1 hRb fun w hM => ?_
    exact ⟨by rw [esc_none h0], hM.below⟩
  refine kgx ?_
  refine sr 1 ?_
  obtain ⟨i85, hi85, hz85, hs85, hy85⟩ := info_parts inf5
  refine S_makeSlice 85 85 rfl rfl rfl rfl rfl rfl Tryz.underlying79 hi85 hz85 hs85 (by rw [hy85]; omega) (by unfold maxLen; omega) (Eq.trans (congrArg (fun n => (madeCells (Value.int .u8 0).cells (n * 1)).toList) x.h1) (made_byte (.int .u8 0) rfl s)) ?_
  intro b85
  refine sr 1 ?_
  refine sgx ?_
  refine sr 1 ?_
  refine sgs ?_
  refine tx ?_
  refine sr 1 ?_
  refine sgo ?_
  refine T_block ?_
  refine lK1 (kf := [(13, 15), (86, 119)]) (kl := [(13, 15), (85, 119)]) (fun (i : Nat) => [(14, true, .int .i64 (i : Int)), (13, true, .int .i64 ((escQ (s.take i)).length : Int))]) (fun (i : Nat) => [(85, .own 5 1 (.slice (some ⟨b85, 0, none⟩) x.m x.m) x.m (bytesV (bufQ s i)))]) (fun (i : Nat) => i ≤ s.length) (fun (i : Nat) => s.length - i) 0 ?_ ?_ ?_ ?_
  · omega
  · exact ⟨rfl, rfl, trivial⟩
  · exact ⟨rfl, trivial⟩
  rintro i hp1
  refine T_seq ?_
  refine tx ?_
  refine sr 2 ?_
  refine s1 (y_len_str rfl rfl Tryz.underlying9) ?_
  refine sr 1 ?_
  refine sgo ?_
  refine T_cond rfl ?_ ?_ <;> intro h89
  · try simp only [nrm] at h89
    have hlt : i < s.length := by omega
    have hec := esc_cut s i
    have hed := esc_drop hlt
    refine kgs ?_
    refine T_block ?_
    refine tx ?_
    refine sr 2 ?_
    refine s1 (y_index_str rfl rfl rfl Tryz.underlying9 (fun _ => by omega)) ?_
    refine sr 1 ?_
    refine sgx ?_
    refine sr 2 ?_
    refine s1 (y_nilCheck rfl rfl) ?_
    refine s1 (y_as (v' := .pointer (some ⟨b, 0, none⟩)) (by exact rfl) (yF fa160_0)) ?_
    refine s1 (y_indexArr (j := (s.getD i 0).toNat) rfl rfl rfl Tryz.underlying158 (by decide) sz79 (fun _ => UInt8.toNat_lt _)) ?_
    refine s1 (y_load_far rfl rfl (hB.cell (s.getD i 0)) hB.lt Tryz.underlying79 rfl) ?_
    refine s1 (y_as (v' := .bool (spB (s.getD i 0))) (by exact congrArg Value.bool (rpA_none b1 b2 _)) (y_bin rfl rfl rfl (fun _ => b_neqn Tryz.underlying79))) ?_
    refine sgo ?_
    refine T_cond rfl ?_ ?_ <;> intro h101
    · skip
      have h2 : (escC (s.getD i 0)).length = 2 := by rw [esc_sp h101]; rfl
      have het : (escQ (s.take (i + 1))).length = (escQ (s.take i)).length + 2 := by rw [esc_take hlt, List.length_append, h2]
      refine T_perm [0, 1, 2, 3, 4, 5, 6, 7, 8, 9, 10, 11, 12] [true, true, true, true, true, true, true, true, true, true, false, true, true] [0, 0, 0, 6, 0, 0, 16, 80, 240, 496, 1022, 2047, 4095] [] (by kernel_rfl) (by kernel_rfl) (by kernel_rfl) rfl (by kernel_rfl) ?_
      refine Rf_ 0 102 rfl rfl rfl rfl rfl _ trivial (Y.z (y_move rfl rfl) rfl) ?_
      refine Rf_ 1 103 rfl rfl rfl rfl rfl _ trivial (Y.z (y_move rfl rfl) rfl) ?_
      refine Rf_ 2 104 rfl rfl rfl rfl rfl _ trivial (Y.z (y_move rfl rfl) rfl) ?_
      refine Rf_ 3 105 rfl rfl rfl rfl rfl _ trivial (Y.z (y_as (v' := .slice (some ⟨b85, (escQ (s.take i)).length, none⟩) (x.m - (escQ (s.take i)).length) (x.m - (escQ (s.take i)).length)) (by rw [if_neg (by omega)]; simp [Addr.add]; intro h; rw [h]; rfl) (y_slice rfl rfl Tryz.underlying79 sz5 (.inr ⟨_, _, rfl, rfl⟩) (.inl ⟨rfl, rfl⟩) (by omega) (Nat.le_refl _) (Nat.le_refl _))) rfl) ?_
      refine Rf_ 4 106 rfl rfl rfl rfl rfl _ trivial (Y.z (y_move rfl rfl) rfl) ?_
      refine Rf_ 5 107 rfl rfl rfl rfl rfl _ trivial (Y.z (y_move rfl rfl) rfl) ?_
      refine Rf_ 6 108 rfl rfl rfl rfl rfl _ trivial (Z.of (z_nilCheck rfl rfl)) ?_
      refine Rf_ 7 109 rfl rfl rfl rfl rfl _ trivial (Y.z (y_as (v' := .pointer (some ⟨b, 0, none⟩)) (by exact rfl) (yF fa160_0)) rfl) ?_
      refine Rf_ 8 110 rfl rfl rfl rfl rfl _ trivial (Y.z (y_indexArr (j := (s.getD i 0).toNat) rfl rfl rfl Tryz.underlying158 (by decide) sz79 (fun _ => UInt8.toNat_lt _)) rfl) ?_
      refine Rf_ 9 111 rfl rfl rfl rfl rfl _ trivial (Y.z (y_as (v' := .slice (rpA b1 b2 (s.getD i 0)) 2 (rpC k1 k2 (s.getD i 0))) (by rw [rpN, if_pos h101]) (y_load_far rfl rfl (hB.cell (s.getD i 0)) hB.lt Tryz.underlying79 rfl)) rfl) ?_
      refine R_chain 10 rfl rfl ?_
      refine S_copyAt 112 85 rfl rfl rfl rfl rfl rfl rfl Tryz.underlying79 sz5 (fun w1 hM => (hB.src h101).below hM.below) (one_bytes _) (by omega) (by omega) (by omega) (bytesV (bufQ s (i + 1))) (buf_put hlt rfl rfl (by rw [esc_sp h101]; rfl)) ?_
      refine R_next trivial ?_
      refine Rf_ 11 113 rfl rfl rfl rfl rfl _ trivial (Y.z (y_bin rfl rfl rfl (fun hg => b_addv (((escQ (s.take (i + 1))).length : Int)) (by omega) (by omega))) rfl) ?_
      refine Rf_ 12 13 rfl rfl rfl rfl rfl _ trivial (Y.z (y_assign rfl rfl) rfl) ?_
      refine R_go (fun _ _ h => h) ?_
      refine T_region ?_
      refine sr 1 ?_
      refine s1 (y_bin rfl rfl rfl (fun hg => b_add (by omega))) ?_
      refine sr 1 ?_
      refine S_nil (nK1 (kf := [(13, 15), (86, 119)]) (kl := [(13, 15), (85, 119)]) (i + 1) ?_ ?_ ?_ ?_)
      · omega
      · omega
      · exact ⟨rfl, rfl, trivial⟩
      · exact ⟨rfl, trivial⟩
    have h1 : (escC (s.getD i 0)).length = 1 := by rw [esc_no h101]; rfl
    have het : (escQ (s.take (i + 1))).length = (escQ (s.take i)).length + 1 := by rw [esc_take hlt, List.length_append, h1]
    refine tx ?_
    refine sr 3 ?_
    refine s1 (y_indexOwn 85 rfl rfl rfl rfl Tryz.underlying79 sz5 (fun _ => by omega)) ?_
    refine S_storeOwn 85 rfl rfl rfl rfl rfl rfl sz5 rfl rfl ?_ (xs' := bytesV (bufQ s (i + 1))) ?_ ?_
    · rw [buf_len]; omega
    · exact buf_set hlt h101
    refine sgr ?_
    refine sr 1 ?_
    refine s1 (y_bin rfl rfl rfl (fun hg => b_addv (((escQ (s.take (i + 1))).length : Int)) (by omega) (by omega))) ?_
    refine sr 1 ?_
    refine sgr ?_
    refine sr 1 ?_
    refine s1 (y_bin rfl rfl rfl (fun hg => b_add (by omega))) ?_
    refine sr 1 ?_
    refine S_nil (nK1 (kf := [(13, 15), (86, 119)]) (kl := [(13, 15), (85, 119)]) (i + 1) ?_ ?_ ?_ ?_)
    · omega
    · omega
    · exact ⟨rfl, rfl, trivial⟩
    · exact ⟨rfl, trivial⟩
  try simp only [nrm] at h89
  have hge : s.length ≤ i := by omega
  refine egx ?_
  refine sr 1 ?_
  refine s1 (y_as (v' := str (escQ s)) (by rw [buf_all hge]) (y_str_own 85 rfl rfl rfl Tryz.underlying79 Tryz.underlying5 Tryz.underlying9)) ?_
  refine sr 1 ?_
  refine sgo ?_
  refine tr1 hRb fun w hM => ?_
  exact ⟨rfl, hM.below⟩
end Go.Proofs.YtfcedlfeinnhoaaGreatDoor
end
section
namespace Go.Proofs.YtfcedlfeinnhoaaGreatDoor
set_option linter.unusedSimpArgs false
set_option linter.unusedVariables false
set_option maxRecDepth 20000
open Go.RowKit Go.Eng
/-! ### step -/
end Go.Proofs.YtfcedlfeinnhoaaGreatDoor
end
section
namespace Go.Proofs.YtfcedlfeinnhoaaGreatDoor
set_option linter.unusedSimpArgs false
set_option linter.unusedVariables false
set_option maxRecDepth 20000
open Go.RowKit Go.Eng
def lowB (c : UInt8) : UInt8 := UInt8.ofNat (lowN c.toNat)
end Go.Proofs.YtfcedlfeinnhoaaGreatDoor
end
section
namespace Go.Proofs.YtfcedlfeinnhoaaGreatDoor
set_option linter.unusedSimpArgs false
set_option linter.unusedVariables false
set_option maxRecDepth 20000
open Go.RowKit Go.Eng
end Go.Proofs.YtfcedlfeinnhoaaGreatDoor
end
section
namespace Go.Proofs.YtfcedlfeinnhoaaGreatDoor
set_option linter.unusedSimpArgs false
set_option linter.unusedVariables false
set_option maxRecDepth 20000
open Go.RowKit Go.Eng
/-- the value of a tag -/
def tagV (n : List UInt8) : List STag → List UInt8 × Bool
  | [] => ([], false)
  | t :: r => if t.n = n then (t.v, true) else tagV n r
end Go.Proofs.YtfcedlfeinnhoaaGreatDoor
end
section
namespace Go.Proofs.YtfcedlfeinnhoaaGreatDoor
set_option linter.unusedSimpArgs false
set_option linter.unusedVariables false
set_option maxRecDepth 20000
open Go.RowKit Go.Eng
/-- what a leaf asks of an event -/
def lfB (e : Evt) (c : PC) : Bool :=
  if c.op = 4 then inB e.lv c.lo c.hi
  else if c.op = 5 then inB e.at_ c.lo c.hi
  else if c.op = 6 then inB e.wt c.lo c.hi
  else if c.op = 7 ∨ c.op = 8 then (tagV c.name e.ta.l).2 && (decide (c.op = 8) || gm eqL c.text (tagV c.name e.ta.l).1)
  else if c.op = 9 then !decide (e.rel = []) && gm eqL c.text e.rel
  else if c.op = 10 then !decide (e.us = []) && gm eqL c.text e.us
  else if c.op = 11 then e.fa.l.any fun f => gm eqL c.text f.k
  else if c.op = 12 then e.fa.l.any fun f => Lib.contains (f.t.map lowB) (c.text.map lowB)
  else if c.op = 13 then e.fa.l.any fun f => f.fr.l.any fun x => gm eqL c.text x.f
  else e.fa.l.any fun f => f.fr.l.any fun x => gm eqL c.text x.fi
abbrev hoX (e : Evt) (x : SC) : Bool := holdsP (lfB e) x.says
theorem ho1 {e : Evt} {x : SC} (h : x.op = 1) : hoX e x = x.kids.all (hoX e) := by
  show holdsP _ x.says = _
  rw [SC.says_form, holdsP, if_pos h, holdsA_all, List.all_map]; rfl
theorem ho2 {e : Evt} {x : SC} (h : x.op = 2) : hoX e x = x.kids.any (hoX e) := by
  show holdsP _ x.says = _
  rw [SC.says_form, holdsP, if_neg (by omega), if_pos h, holdsO_any, List.any_map]; rfl
theorem ho3 {e : Evt} {x k : SC} (h : x.op = 3) (hk : x.kids = [k]) : hoX e x = !hoX e k := by
  show holdsP _ x.says = _
  rw [SC.says_form, holdsP, if_neg (by omega), if_neg (by omega), if_pos h, hk, List.map_cons, holdsF]
section
variable {e : Evt} {x : SC}
end
/-- a right condition is small -/
theorem ch_kids {x k : SC} (h : chX x = 0) (hk : k ∈ x.kids) : chX k = 0 :=
  chk_kid (c := x.says) h (by rw [SC.says_kids]; exact List.mem_map_of_mem hk)
theorem ch_head {x : SC} (h : chX x = 0) : hdX x = 0 := by
  refine Classical.byContradiction fun hn => ?_
  rw [chX_def, if_pos hn] at h
  exact hn h
theorem ch_ar {x : SC} (h : chX x = 0) : (1 ≤ x.op ∧ x.op ≤ 14) ∧ (0 < x.kids.length → x.op ≤ 3) ∧ (x.op = 1 ∨ x.op = 2 → 2 ≤ x.kids.length) ∧ (x.op = 3 → x.kids.length = 1) := head_ar (ch_head h)
theorem ch_text {x : SC} (h : chX x = 0) : x.tx.length ≤ 200 := by
  have h := ch_head h
  rw [hd_def] at h
  split at h
  · cases h
  split at h
  · cases h
  rename_i h1
  split at h
  · cases h
  split at h
  · cases h
  split at h
  · cases h
  split at h
  · cases h
  split at h
  · unfold txtNo at h
    split at h
    · cases h
    split at h
    · cases h
    omega
  · rename_i hw
    simp only [f1B, Bool.or_eq_true, Bool.and_eq_true, not_or, not_and, Bool.not_eq_true', decide_eq_false_iff_not] at h1
    have := h1.2
    by_cases ht : x.tx = []
    · rw [ht]; simp
    · have h2 := this ht
      exact absurd (by simpa using h2) hw
end Go.Proofs.YtfcedlfeinnhoaaGreatDoor
end
section
namespace Go.Proofs.YtfcedlfeinnhoaaGreatDoor
set_option linter.unusedSimpArgs false
set_option linter.unusedVariables false
set_option maxRecDepth 20000
open Go.RowKit Go.Eng
def sc0 : SC := .mk 0 none 0 0 [] 0 0 [] []
theorem cntP_formP (x : SC) : cntP x.says = cntL (x.kids.map SC.says) + 1 := by rw [SC.says_form, cntP]
theorem len_cnt : ∀ l : List PC, l.length ≤ cntL l
  | [] => Nat.le_refl _
  | a :: r => by have h1 := cntP_pos a; have h2 := len_cnt r; rw [cntL, List.length_cons]; omega
theorem cntL_memP : ∀ {l : List SC} {k : SC}, k ∈ l → cntP k.says ≤ cntL (l.map SC.says)
  | a :: r, k, h => by
    rw [List.map_cons, cntL]
    rcases List.mem_cons.1 h with rfl | h
    · omega
    · have := cntL_memP h; omega
theorem says_op (x : SC) : x.says.op = x.op := by rw [SC.says_form]; rfl
theorem kids_one {x : SC} (h : x.kids.length = 1) : ∃ k, x.kids = [k] := by
  match hx : x.kids, h with
  | [k], _ => exact ⟨k, rfl⟩
end Go.Proofs.YtfcedlfeinnhoaaGreatDoor
end
section
namespace Go.Proofs.YtfcedlfeinnhoaaGreatDoor
set_option linter.unusedSimpArgs false
set_option linter.unusedVariables false
set_option maxRecDepth 20000
open Go.RowKit Go.Eng
/-- a Replacer -/
abbrev rpI (b : Nat) (d st : Int) (r old : Value) : It := .blk b (IsBox [.int .u32 d, .int .i32 st, .int .u32 0, r, old] 123)
abbrev oldL : List (List UInt8) := [[34], [92, 34], [92], [92, 92]]
abbrev oldI (A : Option Addr) (c : Nat) : It := .own 9 1 (.slice A 4 c) 4 (oldL.flatMap strQ)
abbrev z256 : List Value := List.replicate 256 (.slice none 0 0)
structure BdR where
  b : Nat
  b1 : Nat
  b2 : Nat
  k1 : Nat
  k2 : Nat
  A : Option Addr
  c : Nat
abbrev BdR.cells (z : BdR) : List Value := ((z256.set 92 (.slice (some ⟨z.b2, 0, none⟩) 2 z.k2)).set 34 (.slice (some ⟨z.b1, 0, none⟩) 2 z.k1)) ++ [.slice z.A 2 z.c]
abbrev BdR.its (z : BdR) : HL := [(903, .blk z.b (IsBox z.cells 160)), (904, .own 9 1 (.slice z.A 2 z.c) 2 (([[92], [34]] : List (List UInt8)).flatMap strQ)), (905, .blk z.b2 (IsRd 5 (bytesV [92, 92]))), (906, .blk z.b1 (IsRd 5 (bytesV [92, 34])))]
set_option maxHeartbeats 3200000 in
theorem build_any {w0 : World} {K : HL} (hK : FromK K) (b : Nat) (d st : Int) (A : Option Addr) (c : Nat) (w : World) (hM0 : Mem w0 ([(901, rpI b d st .nilIface (.slice A 4 c)), (902, oldI A c)] ++ K) w) :
    Calls Tryz.prog 113 #[selfQ b] w fun e w' => ∃ z : BdR, e = .returned (.iface 161 (selfQ z.b)) ∧ True ∧ Mem w0 (([(901, rpI b d st .nilIface (.slice A 4 c)), (902, oldI A c)] ++ z.its) ++ K) w' := by
  refine enterM_args (args := [selfQ b]) (F := _) hM0 Tryz.func113 rfl Tryz.ntmps113 rfl rfl ?_
  intro Rb hRb hRn
  refine tx ?_
  refine sr 1 ?_
  refine sgx ?_
  refine sr 1 ?_
  refine s1 (y_nilCheck rfl rfl) ?_
  refine s1 (yF fa123_2) ?_
  refine s1 (yL 901 Tryz.underlying41) ?_
  refine sr 1 ?_
  refine sgs ?_
  refine tx ?_
  refine sr 1 ?_
  refine s1 (y_len_slice rfl rfl Tryz.underlying41) ?_
  refine sr 2 ?_
  refine sg rfl (y_move rfl rfl) ?_
  refine sg rfl (y_indexOwnI (j := 0) 902 rfl rfl rfl (fun _ => rfl) rfl Tryz.underlying41 sz9 (fun _ => by decide)) ?_
  refine sg rfl (y_load_own 902 rfl rfl rfl (fun _ => by decide) (fun _ => rfl) Tryz.underlying9 rfl) ?_
  refine sg rfl (y_len_str rfl rfl Tryz.underlying9) ?_
  refine sg rfl (y_bin rfl rfl rfl (fun _ => b_gtr)) ?_
  refine s1 (y_and rfl rfl rfl) ?_
  refine sgo ?_
  refine T_cond rfl ?_ ?_ <;> intro h28
  · skip
    simp at h28
  refine kgx ?_
  refine sr 1 ?_
  refine sgs ?_
  refine tx ?_
  refine sr 1 ?_
  refine sgo ?_
  refine T_block ?_
  refine T_rounds (Nat.succ (Nat.succ Nat.zero)) ?_
  refine T_seq ?_
  refine tx ?_
  refine sr 2 ?_
  refine s1 (y_len_slice rfl rfl Tryz.underlying41) ?_
  refine sr 1 ?_
  refine sgo ?_
  refine T_cond rfl ?_ ?_ <;> intro h40
  · skip
    refine kgs ?_
    refine T_block ?_
    refine T_seq ?_
    refine tx ?_
    refine sr 2 ?_
    refine s1 (y_indexOwnI (j := 0) 902 rfl rfl rfl (fun _ => rfl) rfl Tryz.underlying41 sz9 (fun _ => by decide)) ?_
    refine s1 (y_load_own 902 rfl rfl rfl (fun _ => by decide) (fun _ => rfl) Tryz.underlying9 rfl) ?_
    refine s1 (y_len_str rfl rfl Tryz.underlying9) ?_
    refine sr 1 ?_
    refine sgo ?_
    refine T_cond rfl ?_ ?_ <;> intro h48
    · skip
      simp at h48
    refine kgx ?_
    refine sr 2 ?_
    refine s1 (y_as (v' := .int .i64 1) (by exact rfl) (y_bin rfl rfl rfl (fun hg => b_add (by omega)))) ?_
    refine s1 (y_indexOwnI (j := 1) 902 rfl rfl rfl (fun _ => rfl) rfl Tryz.underlying41 sz9 (fun _ => by decide)) ?_
    refine s1 (y_load_own 902 rfl rfl rfl (fun _ => by decide) (fun _ => rfl) Tryz.underlying9 rfl) ?_
    refine s1 (y_len_str rfl rfl Tryz.underlying9) ?_
    refine sr 1 ?_
    refine sgo ?_
    refine T_cond rfl ?_ ?_ <;> intro h58
    · skip
      refine T_region ?_
      refine sr 1 ?_
      refine sgr ?_
      refine sr 1 ?_
      refine s1 (y_as (v' := .int .i64 2) (by exact rfl) (y_bin rfl rfl rfl (fun hg => b_add (by omega)))) ?_
      refine sr 1 ?_
      refine sgs ?_
      refine tx ?_
      refine sr 2 ?_
      refine s1 (y_len_slice rfl rfl Tryz.underlying41) ?_
      refine sr 1 ?_
      refine sgo ?_
      refine T_cond rfl ?_ ?_ <;> intro h40
      · skip
        refine kgs ?_
        refine T_block ?_
        refine T_seq ?_
        refine tx ?_
        refine sr 2 ?_
        refine s1 (y_indexOwnI (j := 2) 902 rfl rfl rfl (fun _ => rfl) rfl Tryz.underlying41 sz9 (fun _ => by decide)) ?_
        refine s1 (y_load_own 902 rfl rfl rfl (fun _ => by decide) (fun _ => rfl) Tryz.underlying9 rfl) ?_
        refine s1 (y_len_str rfl rfl Tryz.underlying9) ?_
        refine sr 1 ?_
        refine sgo ?_
        refine T_cond rfl ?_ ?_ <;> intro h48
        · skip
          simp at h48
        refine kgx ?_
        refine sr 2 ?_
        refine s1 (y_as (v' := .int .i64 3) (by exact rfl) (y_bin rfl rfl rfl (fun hg => b_add (by omega)))) ?_
        refine s1 (y_indexOwnI (j := 3) 902 rfl rfl rfl (fun _ => rfl) rfl Tryz.underlying41 sz9 (fun _ => by decide)) ?_
        refine s1 (y_load_own 902 rfl rfl rfl (fun _ => by decide) (fun _ => rfl) Tryz.underlying9 rfl) ?_
        refine s1 (y_len_str rfl rfl Tryz.underlying9) ?_
        refine sr 1 ?_
        refine sgo ?_
        refine T_cond rfl ?_ ?_ <;> intro h58
        · skip
          refine T_region ?_
          refine sr 1 ?_
          refine sgr ?_
          refine sr 1 ?_
          refine s1 (y_as (v' := .int .i64 4) (by exact rfl) (y_bin rfl rfl rfl (fun hg => b_add (by omega)))) ?_
          refine sr 1 ?_
          refine sgs ?_
          refine tx ?_
          refine sr 2 ?_
          refine s1 (y_len_slice rfl rfl Tryz.underlying41) ?_
          refine sr 1 ?_
          refine sgo ?_
          refine T_cond rfl ?_ ?_ <;> intro h40
          · skip
            simp at h40
          refine egs ?_
          refine tx ?_
          refine sr 1 ?_
          refine sgo ?_
          refine T_cond rfl ?_ ?_ <;> intro h59
          · skip
            cases h59
          refine kgx ?_
          refine sr 1 ?_
          refine s1 (y_len_slice rfl rfl Tryz.underlying41) ?_
          refine s1 (y_as (v' := .int .i64 ((2 : Nat) : Int)) (by exact rfl) (y_bin rfl rfl rfl (fun hg => b_quo (by omega) (by omega) (by omega)))) ?_
          obtain ⟨i94, hi94, hz94, hs94, hy94⟩ := info_parts inf9
          refine S_makeRoom 94 94 rfl rfl rfl rfl rfl rfl Tryz.underlying41 hi94 hz94 hs94 (by rw [hy94]; decide) (by decide) ?_
          intro b94
          refine s1 (y_as (v' := .agg (z256 ++ [Value.slice (some ⟨b94, 0, none⟩) 0 2]).toArray) (by exact rfl) (y_build (zv := .agg #[.slice none 0 0, .slice none 0 0, .slice none 0 0, .slice none 0 0, .slice none 0 0, .slice none 0 0, .slice none 0 0, .slice none 0 0, .slice none 0 0, .slice none 0 0, .slice none 0 0, .slice none 0 0, .slice none 0 0, .slice none 0 0, .slice none 0 0, .slice none 0 0, .slice none 0 0, .slice none 0 0, .slice none 0 0, .slice none 0 0, .slice none 0 0, .slice none 0 0, .slice none 0 0, .slice none 0 0, .slice none 0 0, .slice none 0 0, .slice none 0 0, .slice none 0 0, .slice none 0 0, .slice none 0 0, .slice none 0 0, .slice none 0 0, .slice none 0 0, .slice none 0 0, .slice none 0 0, .slice none 0 0, .slice none 0 0, .slice none 0 0, .slice none 0 0, .slice none 0 0, .slice none 0 0, .slice none 0 0, .slice none 0 0, .slice none 0 0, .slice none 0 0, .slice none 0 0, .slice none 0 0, .slice none 0 0, .slice none 0 0, .slice none 0 0, .slice none 0 0, .slice none 0 0, .slice none 0 0, .slice none 0 0, .slice none 0 0, .slice none 0 0, .slice none 0 0, .slice none 0 0, .slice none 0 0, .slice none 0 0, .slice none 0 0, .slice none 0 0, .slice none 0 0, .slice none 0 0, .slice none 0 0, .slice none 0 0, .slice none 0 0, .slice none 0 0, .slice none 0 0, .slice none 0 0, .slice none 0 0, .slice none 0 0, .slice none 0 0, .slice none 0 0, .slice none 0 0, .slice none 0 0, .slice none 0 0, .slice none 0 0, .slice none 0 0, .slice none 0 0, .slice none 0 0, .slice none 0 0, .slice none 0 0, .slice none 0 0, .slice none 0 0, .slice none 0 0, .slice none 0 0, .slice none 0 0, .slice none 0 0, .slice none 0 0, .slice none 0 0, .slice none 0 0, .slice none 0 0, .slice none 0 0, .slice none 0 0, .slice none 0 0, .slice none 0 0, .slice none 0 0, .slice none 0 0, .slice none 0 0, .slice none 0 0, .slice none 0 0, .slice none 0 0, .slice none 0 0, .slice none 0 0, .slice none 0 0, .slice none 0 0, .slice none 0 0, .slice none 0 0, .slice none 0 0, .slice none 0 0, .slice none 0 0, .slice none 0 0, .slice none 0 0, .slice none 0 0, .slice none 0 0, .slice none 0 0, .slice none 0 0, .slice none 0 0, .slice none 0 0, .slice none 0 0, .slice none 0 0, .slice none 0 0, .slice none 0 0, .slice none 0 0, .slice none 0 0, .slice none 0 0, .slice none 0 0, .slice none 0 0, .slice none 0 0, .slice none 0 0, .slice none 0 0, .slice none 0 0, .slice none 0 0, .slice none 0 0, .slice none 0 0, .slice none 0 0, .slice none 0 0, .slice none 0 0, .slice none 0 0, .slice none 0 0, .slice none 0 0, .slice none 0 0, .slice none 0 0, .slice none 0 0, .slice none 0 0, .slice none 0 0, .slice none 0 0, .slice none 0 0, .slice none 0 0, .slice none 0 0, .slice none 0 0, .slice none 0 0, .slice none 0 0, .slice none 0 0, .slice none 0 0, .slice none 0 0, .slice none 0 0, .slice none 0 0, .slice none 0 0, .slice none 0 0, .slice none 0 0, .slice none 0 0, .slice none 0 0, .slice none 0 0, .slice none 0 0, .slice none 0 0, .slice none 0 0, .slice none 0 0, .slice none 0 0, .slice none 0 0, .slice none 0 0, .slice none 0 0, .slice none 0 0, .slice none 0 0, .slice none 0 0, .slice none 0 0, .slice none 0 0, .slice none 0 0, .slice none 0 0, .slice none 0 0, .slice none 0 0, .slice none 0 0, .slice none 0 0, .slice none 0 0, .slice none 0 0, .slice none 0 0, .slice none 0 0, .slice none 0 0, .slice none 0 0, .slice none 0 0, .slice none 0 0, .slice none 0 0, .slice none 0 0, .slice none 0 0, .slice none 0 0, .slice none 0 0, .slice none 0 0, .slice none 0 0, .slice none 0 0, .slice none 0 0, .slice none 0 0, .slice none 0 0, .slice none 0 0, .slice none 0 0, .slice none 0 0, .slice none 0 0, .slice none 0 0, .slice none 0 0, .slice none 0 0, .slice none 0 0, .slice none 0 0, .slice none 0 0, .slice none 0 0, .slice none 0 0, .slice none 0 0, .slice none 0 0, .slice none 0 0, .slice none 0 0, .slice none 0 0, .slice none 0 0, .slice none 0 0, .slice none 0 0, .slice none 0 0, .slice none 0 0, .slice none 0 0, .slice none 0 0, .slice none 0 0, .slice none 0 0, .slice none 0 0, .slice none 0 0, .slice none 0 0, .slice none 0 0, .slice none 0 0, .slice none 0 0, .slice none 0 0, .slice none 0 0, .slice none 0 0, .slice none 0 0, .slice none 0 0, .slice none 0 0, .slice none 0 0, .slice none 0 0, .slice none 0 0, .slice none 0 0, .slice none 0 0, .slice none 0 0, .slice none 0 0, .slice none 0 0, .slice none 0 0, .slice none 0 0, .slice none 0 0, .slice none 0 0, .slice none 0 0, .slice none 0 0, .slice none 0 0, .slice none 0 0]) (pl := [(0, 256), (256, 1)]) (out := [.slice none 0 0, .slice none 0 0, .slice none 0 0, .slice none 0 0, .slice none 0 0, .slice none 0 0, .slice none 0 0, .slice none 0 0, .slice none 0 0, .slice none 0 0, .slice none 0 0, .slice none 0 0, .slice none 0 0, .slice none 0 0, .slice none 0 0, .slice none 0 0, .slice none 0 0, .slice none 0 0, .slice none 0 0, .slice none 0 0, .slice none 0 0, .slice none 0 0, .slice none 0 0, .slice none 0 0, .slice none 0 0, .slice none 0 0, .slice none 0 0, .slice none 0 0, .slice none 0 0, .slice none 0 0, .slice none 0 0, .slice none 0 0, .slice none 0 0, .slice none 0 0, .slice none 0 0, .slice none 0 0, .slice none 0 0, .slice none 0 0, .slice none 0 0, .slice none 0 0, .slice none 0 0, .slice none 0 0, .slice none 0 0, .slice none 0 0, .slice none 0 0, .slice none 0 0, .slice none 0 0, .slice none 0 0, .slice none 0 0, .slice none 0 0, .slice none 0 0, .slice none 0 0, .slice none 0 0, .slice none 0 0, .slice none 0 0, .slice none 0 0, .slice none 0 0, .slice none 0 0, .slice none 0 0, .slice none 0 0, .slice none 0 0, .slice none 0 0, .slice none 0 0, .slice none 0 0, .slice none 0 0, .slice none 0 0, .slice none 0 0, .slice none 0 0, .slice none 0 0, .slice none 0 0, .slice none 0 0, .slice none 0 0, .slice none 0 0, .slice none 0 0, .slice none 0 0, .slice none 0 0, .slice none 0 0, .slice none 0 0, .slice none 0 0, .slice none 0 0, .slice none 0 0, .slice none 0 0, .slice none 0 0, .slice none 0 0, .slice none 0 0, .slice none 0 0, .slice none 0 0, .slice none 0 0, .slice none 0 0, .slice none 0 0, .slice none 0 0, .slice none 0 0, .slice none 0 0, .slice none 0 0, .slice none 0 0, .slice none 0 0, .slice none 0 0, .slice none 0 0, .slice none 0 0, .slice none 0 0, .slice none 0 0, .slice none 0 0, .slice none 0 0, .slice none 0 0, .slice none 0 0, .slice none 0 0, .slice none 0 0, .slice none 0 0, .slice none 0 0, .slice none 0 0, .slice none 0 0, .slice none 0 0, .slice none 0 0, .slice none 0 0, .slice none 0 0, .slice none 0 0, .slice none 0 0, .slice none 0 0, .slice none 0 0, .slice none 0 0, .slice none 0 0, .slice none 0 0, .slice none 0 0, .slice none 0 0, .slice none 0 0, .slice none 0 0, .slice none 0 0, .slice none 0 0, .slice none 0 0, .slice none 0 0, .slice none 0 0, .slice none 0 0, .slice none 0 0, .slice none 0 0, .slice none 0 0, .slice none 0 0, .slice none 0 0, .slice none 0 0, .slice none 0 0, .slice none 0 0, .slice none 0 0, .slice none 0 0, .slice none 0 0, .slice none 0 0, .slice none 0 0, .slice none 0 0, .slice none 0 0, .slice none 0 0, .slice none 0 0, .slice none 0 0, .slice none 0 0, .slice none 0 0, .slice none 0 0, .slice none 0 0, .slice none 0 0, .slice none 0 0, .slice none 0 0, .slice none 0 0, .slice none 0 0, .slice none 0 0, .slice none 0 0, .slice none 0 0, .slice none 0 0, .slice none 0 0, .slice none 0 0, .slice none 0 0, .slice none 0 0, .slice none 0 0, .slice none 0 0, .slice none 0 0, .slice none 0 0, .slice none 0 0, .slice none 0 0, .slice none 0 0, .slice none 0 0, .slice none 0 0, .slice none 0 0, .slice none 0 0, .slice none 0 0, .slice none 0 0, .slice none 0 0, .slice none 0 0, .slice none 0 0, .slice none 0 0, .slice none 0 0, .slice none 0 0, .slice none 0 0, .slice none 0 0, .slice none 0 0, .slice none 0 0, .slice none 0 0, .slice none 0 0, .slice none 0 0, .slice none 0 0, .slice none 0 0, .slice none 0 0, .slice none 0 0, .slice none 0 0, .slice none 0 0, .slice none 0 0, .slice none 0 0, .slice none 0 0, .slice none 0 0, .slice none 0 0, .slice none 0 0, .slice none 0 0, .slice none 0 0, .slice none 0 0, .slice none 0 0, .slice none 0 0, .slice none 0 0, .slice none 0 0, .slice none 0 0, .slice none 0 0, .slice none 0 0, .slice none 0 0, .slice none 0 0, .slice none 0 0, .slice none 0 0, .slice none 0 0, .slice none 0 0, .slice none 0 0, .slice none 0 0, .slice none 0 0, .slice none 0 0, .slice none 0 0, .slice none 0 0, .slice none 0 0, .slice none 0 0, .slice none 0 0, .slice none 0 0, .slice none 0 0, .slice none 0 0, .slice none 0 0, .slice none 0 0, .slice none 0 0, .slice none 0 0, .slice none 0 0, .slice none 0 0, .slice none 0 0, .slice none 0 0, .slice none 0 0, .slice none 0 0, .slice none 0 0, .slice none 0 0, .slice none 0 0, .slice none 0 0, .slice none 0 0, .slice none 0 0, .slice none 0 0, .slice none 0 0, .slice none 0 0, .slice none 0 0, .slice none 0 0, .slice none 0 0, .slice none 0 0, _]) rfl rfl Tryz.underlying160 z160 (by kernel_rfl) rfl)) ?_
          refine S_alloc 11 11 rfl rfl rfl rfl z160 ?_
          intro b11
          refine S_store 11 rfl rfl rfl rfl rfl rfl sz160 rfl rfl ?_
          refine sgs ?_
          refine tx ?_
          refine sr 1 ?_
          refine s1 (y_len_slice rfl rfl Tryz.underlying41) ?_
          refine s1 (y_as (v' := .int .i64 2) (by exact rfl) (y_bin rfl rfl rfl (fun hg => b_sub (by omega)))) ?_
          refine sr 1 ?_
          refine sgo ?_
          refine T_block ?_
          refine T_rounds (Nat.succ (Nat.succ Nat.zero)) ?_
          refine T_seq ?_
          refine tx ?_
          refine sr 2 ?_
          refine sgo ?_
          refine T_cond rfl ?_ ?_ <;> intro h100
          · skip
            refine kgs ?_
            refine T_block ?_
            refine tx ?_
            refine sr 2 ?_
            refine s1 (y_indexOwnI (j := 2) 902 rfl rfl rfl (fun _ => rfl) rfl Tryz.underlying41 sz9 (fun _ => by decide)) ?_
            refine s1 (y_load_own 902 rfl rfl rfl (fun _ => by decide) (fun _ => rfl) Tryz.underlying9 rfl) ?_
            refine s1 (y_as (v' := .int .u8 92) (by exact rfl) (y_index_str (j := 0) rfl rfl rfl Tryz.underlying9 (fun _ => by decide))) ?_
            refine sr 1 ?_
            refine sgx ?_
            refine sr 2 ?_
            refine s1 (y_as (v' := .int .i64 3) (by exact rfl) (y_bin rfl rfl rfl (fun hg => b_add (by omega)))) ?_
            refine s1 (y_indexOwnI (j := 3) 902 rfl rfl rfl (fun _ => rfl) rfl Tryz.underlying41 sz9 (fun _ => by decide)) ?_
            refine s1 (y_load_own 902 rfl rfl rfl (fun _ => by decide) (fun _ => rfl) Tryz.underlying9 rfl) ?_
            refine sr 1 ?_
            refine sgs ?_
            refine tx ?_
            refine sr 1 ?_
            refine s1 (y_as (v' := .pointer (some ⟨b11, 0, none⟩)) (by exact rfl) (yF fa160_0)) ?_
            refine s1 (y_indexArr (j := 92) rfl rfl rfl Tryz.underlying158 (by decide) sz79 (fun _ => by decide)) ?_
            refine s1 (yL 11 Tryz.underlying79) ?_
            refine s1 (y_bin rfl rfl rfl (fun _ => b_eqln Tryz.underlying79)) ?_
            refine sgo ?_
            refine T_cond rfl ?_ ?_ <;> intro h117
            · skip
              refine T_region ?_
              refine s1 (yF fa160_1) ?_
              refine s1 (yL 11 Tryz.underlying41) ?_
              refine sr 1 ?_
              refine S_buildSlice 121 121 rfl rfl rfl rfl rfl Tryz.underlying79 inf5 rfl (by decide) (by decide) rfl rfl (by decide) rfl (_) rfl ?_
              intro b121
              refine s1 (y_str_own (l := [92]) 121 rfl rfl rfl Tryz.underlying79 Tryz.underlying5 Tryz.underlying9) ?_
              refine S_buildSlice 123 123 rfl rfl rfl rfl rfl Tryz.underlying41 inf9 rfl (by decide) (by decide) rfl rfl (by decide) rfl (_) rfl ?_
              intro b123
              obtain ⟨i124, hi124, hz124, hs124, hy124⟩ := info_parts inf9
              refine S_append 124 94 123 rfl rfl rfl rfl rfl rfl rfl rfl Tryz.underlying41 hi124 hz124 hs124 hy124 rfl (by decide) (by decide) rfl ?_ ?_ (1) (([[92]] : List (List UInt8)).flatMap strQ) ?_ ?_ ?_
              · (simp only [maxLen]; omega)
              · omega
              · rfl
              · rfl
              intro A124 c124
              refine s1 (yF fa160_1) ?_
              refine S_store 11 rfl rfl rfl rfl rfl rfl sz41 rfl rfl ?_
              refine sgr ?_
              refine sr 2 ?_
              refine S_strBytes 128 128 rfl rfl rfl rfl rfl Tryz.underlying9 Tryz.underlying79 Tryz.underlying5 ?_
              intro b128 c128
              refine s1 (y_as (v' := .pointer (some ⟨b11, 0, none⟩)) (by exact rfl) (yF fa160_0)) ?_
              refine s1 (y_indexArr (j := 92) rfl rfl rfl Tryz.underlying158 (by decide) sz79 (fun _ => by decide)) ?_
              refine S_store 11 rfl rfl rfl rfl rfl rfl sz79 rfl rfl ?_
              refine sgr ?_
              refine sr 1 ?_
              refine s1 (y_as (v' := .int .i64 0) (by exact rfl) (y_bin rfl rfl rfl (fun hg => b_sub (by omega)))) ?_
              refine sr 1 ?_
              refine sgs ?_
              refine tx ?_
              refine sr 2 ?_
              refine sgo ?_
              refine T_cond rfl ?_ ?_ <;> intro h100
              · skip
                refine kgs ?_
                refine T_block ?_
                refine tx ?_
                refine S_move [(128, 128), (905, 905)] 905 128 rfl rfl (by repeat (first | exact kl_nil | exact kl_rest (by assumption) rfl | (apply kl_in; focus rfl) | (apply kl_out; focus rfl))) ?_
                obtain ⟨bq, hbq⟩ : ∃ x, x = b128 := ⟨_, rfl⟩
                obtain ⟨kq, hkq⟩ : ∃ x, x = c128 := ⟨_, rfl⟩
                subst hbq
                subst hkq
                refine sr 2 ?_
                refine s1 (y_indexOwnI (j := 0) 902 rfl rfl rfl (fun _ => rfl) rfl Tryz.underlying41 sz9 (fun _ => by decide)) ?_
                refine s1 (y_load_own 902 rfl rfl rfl (fun _ => by decide) (fun _ => rfl) Tryz.underlying9 rfl) ?_
                refine s1 (y_as (v' := .int .u8 34) (by exact rfl) (y_index_str (j := 0) rfl rfl rfl Tryz.underlying9 (fun _ => by decide))) ?_
                refine sr 1 ?_
                refine sgx ?_
                refine sr 2 ?_
                refine s1 (y_as (v' := .int .i64 1) (by exact rfl) (y_bin rfl rfl rfl (fun hg => b_add (by omega)))) ?_
                refine s1 (y_indexOwnI (j := 1) 902 rfl rfl rfl (fun _ => rfl) rfl Tryz.underlying41 sz9 (fun _ => by decide)) ?_
                refine s1 (y_load_own 902 rfl rfl rfl (fun _ => by decide) (fun _ => rfl) Tryz.underlying9 rfl) ?_
                refine sr 1 ?_
                refine sgs ?_
                refine tx ?_
                refine sr 1 ?_
                refine s1 (y_as (v' := .pointer (some ⟨b11, 0, none⟩)) (by exact rfl) (yF fa160_0)) ?_
                refine s1 (y_indexArr (j := 34) rfl rfl rfl Tryz.underlying158 (by decide) sz79 (fun _ => by decide)) ?_
                refine s1 (yL 11 Tryz.underlying79) ?_
                refine s1 (y_bin rfl rfl rfl (fun _ => b_eqln Tryz.underlying79)) ?_
                refine sgo ?_
                refine T_cond rfl ?_ ?_ <;> intro h117
                · skip
                  refine T_region ?_
                  refine s1 (yF fa160_1) ?_
                  refine s1 (yL 11 Tryz.underlying41) ?_
                  refine sr 1 ?_
                  refine S_buildSlice 121 121 rfl rfl rfl rfl rfl Tryz.underlying79 inf5 rfl (by decide) (by decide) rfl rfl (by decide) rfl (_) rfl ?_
                  intro b121
                  refine s1 (y_str_own (l := [34]) 121 rfl rfl rfl Tryz.underlying79 Tryz.underlying5 Tryz.underlying9) ?_
                  refine S_buildSlice 123 123 rfl rfl rfl rfl rfl Tryz.underlying41 inf9 rfl (by decide) (by decide) rfl rfl (by decide) rfl (_) rfl ?_
                  intro b123
                  obtain ⟨i124, hi124, hz124, hs124, hy124⟩ := info_parts inf9
                  refine S_append 124 94 123 rfl rfl rfl rfl rfl rfl rfl rfl Tryz.underlying41 hi124 hz124 hs124 hy124 rfl (by decide) (by decide) rfl ?_ ?_ (2) (([[92], [34]] : List (List UInt8)).flatMap strQ) ?_ ?_ ?_
                  · (simp only [maxLen]; omega)
                  · omega
                  · rfl
                  · rfl
                  intro A124 c124
                  refine s1 (yF fa160_1) ?_
                  refine S_store 11 rfl rfl rfl rfl rfl rfl sz41 rfl rfl ?_
                  refine sgr ?_
                  refine sr 2 ?_
                  refine S_strBytes 128 128 rfl rfl rfl rfl rfl Tryz.underlying9 Tryz.underlying79 Tryz.underlying5 ?_
                  intro b128 c128
                  refine s1 (y_as (v' := .pointer (some ⟨b11, 0, none⟩)) (by exact rfl) (yF fa160_0)) ?_
                  refine s1 (y_indexArr (j := 34) rfl rfl rfl Tryz.underlying158 (by decide) sz79 (fun _ => by decide)) ?_
                  refine S_store 11 rfl rfl rfl rfl rfl rfl sz79 rfl rfl ?_
                  refine sgr ?_
                  refine sr 1 ?_
                  refine s1 (y_as (v' := .int .i64 (-2)) (by exact rfl) (y_bin rfl rfl rfl (fun hg => b_sub (by omega)))) ?_
                  refine sr 1 ?_
                  refine sgs ?_
                  refine tx ?_
                  refine sr 2 ?_
                  refine sgo ?_
                  refine T_cond rfl ?_ ?_ <;> intro h100
                  · skip
                    simp at h100
                  refine egx ?_
                  refine S_move [(11, 11), (903, 903)] 903 11 rfl rfl (by repeat (first | exact kl_nil | exact kl_rest (by assumption) rfl | (apply kl_in; focus rfl) | (apply kl_out; focus rfl))) ?_
                  refine S_move [(94, 94), (904, 904)] 904 94 rfl rfl (by repeat (first | exact kl_nil | exact kl_rest (by assumption) rfl | (apply kl_in; focus rfl) | (apply kl_out; focus rfl))) ?_
                  refine S_move [(128, 128), (906, 906)] 906 128 rfl rfl (by repeat (first | exact kl_nil | exact kl_rest (by assumption) rfl | (apply kl_in; focus rfl) | (apply kl_out; focus rfl))) ?_
                  refine s1 (y_makeIfaceP rfl rfl Tryz.underlying161) ?_
                  refine sr 1 ?_
                  refine sgo ?_
                  refine tr1 hRb fun w hM => ?_
                  exact ⟨⟨b11, b128, bq, c128, kq, A124, c124⟩, rfl, trivial, hM.keep (ks := [(0, 999)]) (by repeat (first | exact kl_rest (by assumption) rfl | (apply kl_in; focus rfl))) _ ⟨rfl, rfl, rfl, rfl, rfl, rfl, trivial⟩⟩
                cases h117
              simp at h100
            cases h117
          simp at h100
        simp at h58
      simp at h40
    simp at h58
  simp at h40
end Go.Proofs.YtfcedlfeinnhoaaGreatDoor
end
section
namespace Go.Proofs.YtfcedlfeinnhoaaGreatDoor
set_option linter.unusedSimpArgs false
set_option linter.unusedVariables false
set_option maxRecDepth 20000
open Go.RowKit Go.Eng
theorem sd_disable (w : World) : (callFunc 156 #[]).run Tryz.prog w = .ok (.value (.tuple #[])) w := run_call_mark0 Tryz.func156 (by kernel_rfl) (by kernel_rfl) (by kernel_rfl) .disable (by kernel_rfl) w
theorem sd_enable (w : World) : (callFunc 158 #[]).run Tryz.prog w = .ok (.value (.tuple #[])) w := run_call_mark0 Tryz.func158 (by kernel_rfl) (by kernel_rfl) (by kernel_rfl) .enable (by kernel_rfl) w
theorem sd_acquire (a : Addr) (w : World) : (callFunc 159 #[.pointer (some a)]).run Tryz.prog w = .ok (.value (.tuple #[])) w := run_call_marked Tryz.func159 (by kernel_rfl) (by kernel_rfl) (by kernel_rfl) .acquire (by kernel_rfl) a w
theorem sd_release (a : Addr) (w : World) : (callFunc 161 #[.pointer (some a)]).run Tryz.prog w = .ok (.value (.tuple #[])) w := run_call_marked Tryz.func161 (by kernel_rfl) (by kernel_rfl) (by kernel_rfl) .releaseMerge (by kernel_rfl) a w
/-- Store(true) of an atomic.Bool, entered as a deferred call -/
theorem sd_store (a : Addr) (x : Value) (u : FrameMode) (w : World) (hc : w.cell? a = some x) (hz : w.frozen? a = false) :
    CallsD Tryz.prog 128 #[.pointer (some a), .bool true] u w fun e u' w' => u' = u ∧ (e = .returned (.tuple #[]) ∧ w' = w.drew.setCell a (.int .u32 1)) := by
  have hc' : w.drew.cell? a = some x := by go_simp
  have hz' : w.drew.frozen? a = false := by go_simp
  have hst := run_call_store (P := Tryz.prog) Tryz.func147 (by kernel_rfl) (by kernel_rfl) (by kernel_rfl) (by kernel_rfl) (k := .u32) (y := 1) hc' hz'
  go_enter_d Tryz.func128, Tryz.ntmps128
  go_wp2
  go_region_calls
  all_goals (go_end0; exact ⟨rfl, rfl⟩)
/-- Unlock, entered as a deferred call, the lock held and nobody waiting -/
theorem sd_unlock (a : Addr) (u : FrameMode) (w : World) (hc : w.cell? a = some (.int .i32 1)) (hz : w.frozen? a = false) :
    CallsD Tryz.prog 127 #[.pointer (some a)] u w fun e u' w' => u' = u ∧ (e = .returned (.tuple #[]) ∧ w' = w.setCell a (.int .i32 0)) := by
  have hd := sd_disable
  have he := sd_enable
  have hr := sd_release
  have hadd := run_call_add (P := Tryz.prog) Tryz.func162 (by kernel_rfl) (by kernel_rfl) (by kernel_rfl) .i32 (by kernel_rfl) (y := -1) (s := 0) hc hz (by simp [go_sem]; rfl)
  have hcv := run_convert_to_unsafe (P := Tryz.prog) (src := 198) (dst := 133) Tryz.underlying198 Tryz.underlying133 (by kernel_rfl) hc
  go_enter_d Tryz.func127, Tryz.ntmps127
  go_wp2
  go_end0
  go_wp2
  go_end0
  exact ⟨rfl, rfl⟩
/-- Lock, the lock free -/
theorem sd_lock (a : Addr) (w : World) (hc : w.cell? a = some (.int .i32 0)) (hz : w.frozen? a = false) :
    Calls Tryz.prog 126 #[.pointer (some a)] w fun e w' => e = .returned (.tuple #[]) ∧ w' = w.setCell a (.int .i32 1) := by
  have hd := sd_disable
  have he := sd_enable
  have ha := sd_acquire
  have hcas := run_call_cas_hit (P := Tryz.prog) Tryz.func157 (by kernel_rfl) (by kernel_rfl) (by kernel_rfl) .i32 (by kernel_rfl) (y := 1) hc hz
  have hc' : (w.setCell a (.int .i32 1)).cell? a = some (.int .i32 1) := World.cell?_setCell_same w a _ hc
  have hcv := run_convert_to_unsafe (P := Tryz.prog) (src := 198) (dst := 133) Tryz.underlying198 Tryz.underlying133 (by kernel_rfl) hc'
  go_enter Tryz.func126, Tryz.ntmps126
  go_wp2
  first | go_end0 | (simp only [Exit.inBlock, Exit.then]; refine bodyPost_ret (results_none rfl _ _ _) rfl ?_) | refine bodyPost_ret (results_none rfl _ _ _) rfl ?_
  go_wp2
  go_end0
  exact ⟨rfl, rfl⟩
end Go.Proofs.YtfcedlfeinnhoaaGreatDoor
end
section
namespace Go.Proofs.YtfcedlfeinnhoaaGreatDoor
set_option linter.unusedSimpArgs false
set_option linter.unusedVariables false
set_option maxRecDepth 20000
open Go.RowKit Go.Eng
abbrev bsT (z : BdR) : Value := .iface 161 (selfQ z.b)
set_option maxHeartbeats 1600000 in
theorem buildOnce_any {w0 : World} {K : HL} (hK : FromK K) (b : Nat) (d st : Int) (A : Option Addr) (c : Nat) (w : World) (hM0 : Mem w0 ([(901, rpI b d st .nilIface (.slice A 4 c)), (902, oldI A c)] ++ K) w) :
    Calls Tryz.prog 92 #[selfQ b] w fun e w' => ∃ z : BdR, e = .returned (.tuple #[]) ∧ True ∧ Mem w0 (([(901, rpI b d st (bsT z) (.slice none 0 0)), (902, oldI A c)] ++ z.its) ++ K) w' := by
  refine enterM_args (args := [selfQ b]) (F := _) hM0 Tryz.func92 rfl Tryz.ntmps92 rfl rfl ?_
  intro Rb hRb hRn
  refine tx ?_
  refine sr 2 ?_
  refine S_callN 4 [(901, 901), (902, 902)] [(903, 903), (904, 904), (905, 905), (906, 906)] (X := BdR) rfl rfl rfl rfl rfl rfl rfl cf113 rfl (bsT) (fun _ => True) (fun z => [(901, rpI b d st .nilIface (.slice A 4 c)), (902, oldI A c)] ++ z.its) (fun _ => rfl) (fun _ => rfl) (fun K hK w hM => build_any hK b d st A c w hM) ?_
  intro z _
  refine s1 (y_nilCheck rfl rfl) ?_
  refine s1 (yF fa123_1) ?_
  refine S_store 901 rfl rfl rfl rfl rfl rfl sz121 rfl rfl ?_
  refine sgr ?_
  refine sr 1 ?_
  refine s1 (y_nilCheck rfl rfl) ?_
  refine s1 (yF fa123_2) ?_
  refine S_store 901 rfl rfl rfl rfl rfl rfl sz41 rfl rfl ?_
  refine S_nil (fun a w hF hM => hRn a w (post0 rfl (fun w hM => ?_) a w hF hM))
  exact ⟨z, rfl, trivial, hM.keep (ks := [(0, 999)]) (by repeat (first | exact kl_rest (by assumption) rfl | (apply kl_in; focus rfl))) _ ⟨rfl, rfl, rfl, rfl, rfl, rfl, trivial⟩⟩
theorem heap_setB {w : World} {b j : Nat} {v : Value} {cs : List Value} {t : TypeId} (h : w.heap[b]? = some (.cells cs.toArray t (0, 0))) : (w.setCell ⟨b, j, none⟩ v).heap[b]? = some (.cells (cs.set j v).toArray t (0, 0)) := by
  simp [World.setCell, Array.getElem?_modify, h]
theorem Mem.shadow {w0 w : World} {X : HL} {i : Nat} {p p' : It} (h : Mem w0 ((i, p') :: (i, p) :: X) w) : Mem w0 ((i, p') :: X) w := by
  have e : ∀ j q, HL.get ((i, p') :: X) j = some q → HL.get ((i, p') :: (i, p) :: X) j = some q := fun j q hq => by
    simp only [HL.get] at hq ⊢
    cases hb : Nat.beq i j <;> rw [hb] at hq <;> exact hq
  exact ⟨h.below, fun j q hq => h.sat j q (e j q hq), fun j k q r hjk hq hr => h.apart j k q r hjk (e j q hq) (e k r hr)⟩
theorem Mem.setB {w0 w : World} {X : HL} {i b : Nat} {cs : List Value} {t : TypeId} (hM : Mem w0 ((i, .blk b (IsBox cs t)) :: X) w) (j : Nat) (v : Value) : Mem w0 ((i, .blk b (IsBox (cs.set j v) t)) :: X) (w.setCell ⟨b, j, none⟩ v) := by
  have hL : HL.get ((i, It.blk b (IsBox cs t)) :: X) i = some (.blk b (IsBox cs t)) := by simp [HL.get]
  obtain ⟨hb, ob, h2, h3⟩ := hM.sat i _ hL
  unfold IsBox at h3
  subst h3
  exact Mem.shadow (hM.turn (p' := .blk b (IsBox (cs.set j v) t)) hL ⟨rfl, rfl, rfl, by simp [World.setCell], fun k _ hk => Below.heap_setCell _ _ _ k (fun e => hk (by rw [e]; rfl))⟩ ⟨hb, _, heap_setB h2, rfl⟩ (.inl rfl))
theorem Mem.boxC {w0 w : World} {X : HL} {i b : Nat} {cs : List Value} {t : TypeId} (hM : Mem w0 ((i, .blk b (IsBox cs t)) :: X) w) (j : Nat) {u : Value} (hu : cs[j]? = some u) : w.cell? ⟨b, j, none⟩ = some u ∧ w.frozen? ⟨b, j, none⟩ = false := by
  have hL : HL.get ((i, It.blk b (IsBox cs t)) :: X) i = some (.blk b (IsBox cs t)) := by simp [HL.get]
  obtain ⟨hb, ob, h2, h3⟩ := hM.sat i _ hL
  unfold IsBox at h3
  subst h3
  simp [World.cell?, World.frozen?, h2, hu]
theorem sd_load (a : Addr) (w : World) (hc : w.cell? a = some (.int .u32 0)) : Calls Tryz.prog 111 #[.pointer (some a)] w fun e w' => e = .returned (.bool false) ∧ w' = w := by
  have hl := run_call_load (P := Tryz.prog) Tryz.func125 (by kernel_rfl) (by kernel_rfl) (by kernel_rfl) .u32 (by kernel_rfl) hc
  go_enter Tryz.func111, Tryz.ntmps111
  go_wp2
  first | (go_ret; exact ⟨rfl, rfl⟩) | (go_end0; exact ⟨rfl, rfl⟩) | exact ⟨rfl, rfl⟩
set_option maxRecDepth 100000 in
set_option maxHeartbeats 3200000 in
theorem doSlow_any {w0 : World} {K : HL} (hK : FromK K) (b : Nat) (A : Option Addr) (c : Nat) (w : World) (hM0 : Mem w0 ([(901, rpI b 0 0 .nilIface (.slice A 4 c)), (902, oldI A c)] ++ K) w) :
    Calls Tryz.prog 112 #[selfQ b, .func (.func 92) #[selfQ b] #[]] w fun e w' => ∃ z : BdR, e = .returned (.tuple #[]) ∧ True ∧ Mem w0 (([(901, rpI b 1 0 (bsT z) (.slice none 0 0)), (902, oldI A c)] ++ z.its) ++ K) w' := by
  have hM1 : Mem w0 ([(901, rpI b 0 1 .nilIface (.slice A 4 c)), (902, oldI A c)] ++ K) (w.setCell ⟨b, 1, none⟩ (.int .i32 1)) := Mem.setB hM0 1 (.int .i32 1)
  have c1 := Mem.boxC hM0 1 rfl
  have c0 := Mem.boxC hM1 0 rfl
  have hl := run_call_load (P := Tryz.prog) Tryz.func125 (by kernel_rfl) (by kernel_rfl) (by kernel_rfl) .u32 (by kernel_rfl) (w := w.setCell ⟨b, 1, none⟩ (.int .i32 1)) (a := ⟨b, 0, none⟩) (x := 0) c0.1
  have hnot : ∀ (x : Bool) (w : World), (Op.unary .not (.bool x)).run Tryz.prog w = .ok (.bool (!x)) w := fun _ _ => rfl
  go_enter_defers Tryz.func112, Tryz.ntmps112
  go_wp2_with (go_at_call 126; refine (sd_lock ⟨b, 1, none⟩ _ c1.1 c1.2).mono ?_; rintro e w' ⟨rfl, rfl⟩)
  refine (sd_load ⟨b, 0, none⟩ _ c0.1).mono ?_
  rintro e w' ⟨rfl, rfl⟩
  go_wp2_with (go_at_call 92; refine (buildOnce_any hK b 0 1 A c _ hM1).mono ?_; rintro e w2 ⟨z, rfl, -, hM2⟩)
  have hM2 : Mem w0 ((901, rpI b 0 1 (bsT z) (.slice none 0 0)) :: (902, oldI A c) :: (z.its ++ K)) w2 := hM2
  have a0 := Mem.boxC hM2 0 rfl
  refine leaves_cons (f := 128) (args := #[.pointer (some ⟨b, 0, none⟩), .bool true]) (by simp) (by simp [go_sem]) ?_
  refine (sd_store ⟨b, 0, none⟩ (.int .u32 0) .returning _ a0.1 a0.2).mono ?_
  rintro e u' w'' ⟨rfl, rfl, rfl⟩
  have hM3 : Mem w0 ((901, rpI b 1 1 (bsT z) (.slice none 0 0)) :: (902, oldI A c) :: (z.its ++ K)) (w2.drew.setCell ⟨b, 0, none⟩ (.int .u32 1)) := Mem.setB hM2.drew 0 (.int .u32 1)
  have a1 := Mem.boxC hM3 1 rfl
  refine leaves_cons (f := 127) (args := #[.pointer (some ⟨b, 1, none⟩)]) (by simp [settle]) (by simp [go_sem]) ?_
  refine (sd_unlock ⟨b, 1, none⟩ _ _ a1.1 a1.2).mono ?_
  rintro e u' w'' ⟨rfl, rfl, rfl⟩
  have hM4 : Mem w0 ((901, rpI b 1 0 (bsT z) (.slice none 0 0)) :: (902, oldI A c) :: (z.its ++ K)) ((w2.drew.setCell ⟨b, 0, none⟩ (.int .u32 1)).setCell ⟨b, 1, none⟩ (.int .i32 0)) := Mem.setB hM3 1 (.int .i32 0)
  exact ⟨_, results_none rfl _ _ _, z, rfl, trivial, hM4⟩
theorem Do_any {w0 : World} {K : HL} (hK : FromK K) (b : Nat) (A : Option Addr) (c : Nat) (w : World) (hM0 : Mem w0 ([(901, rpI b 0 0 .nilIface (.slice A 4 c)), (902, oldI A c)] ++ K) w) :
    Calls Tryz.prog 91 #[selfQ b, .func (.func 92) #[selfQ b] #[]] w fun e w' => ∃ z : BdR, e = .returned (.tuple #[]) ∧ True ∧ Mem w0 (([(901, rpI b 1 0 (bsT z) (.slice none 0 0)), (902, oldI A c)] ++ z.its) ++ K) w' := by
  have c0 := Mem.boxC hM0 0 rfl
  have hnot : ∀ (x : Bool) (w : World), (Op.unary .not (.bool x)).run Tryz.prog w = .ok (.bool (!x)) w := fun _ _ => rfl
  go_enter Tryz.func91, Tryz.ntmps91
  go_wp2_with (first | (go_at_call 112; refine (doSlow_any hK b A c _ hM0).mono ?_; rintro e w2 ⟨z, rfl, -, hM2⟩) | (go_at_call 111; refine (sd_load ⟨b, 0, none⟩ _ c0.1).mono ?_; rintro e w' ⟨rfl, rfl⟩))
  go_end0
  exact ⟨z, rfl, trivial, hM2⟩
end Go.Proofs.YtfcedlfeinnhoaaGreatDoor
end
section
namespace Go.Proofs.YtfcedlfeinnhoaaGreatDoor
set_option linter.unusedSimpArgs false
set_option linter.unusedVariables false
set_option maxRecDepth 20000
open Go.RowKit Go.Eng
structure NwR where
  b : Nat
  A : Option Addr
  c : Nat
theorem NewReplacer_any {w0 : World} {K : HL} (hK : FromK K) (A : Option Addr) (c : Nat) (w : World) (hM0 : Mem w0 ([(910, oldI A c)] ++ K) w) :
    Calls Tryz.prog 55 #[.slice A 4 c] w fun e w' => ∃ z : NwR, e = .returned (selfQ z.b) ∧ True ∧ Mem w0 ([(910, oldI A c), (901, rpI z.b 0 0 .nilIface (.slice z.A 4 z.c)), (902, oldI z.A z.c)] ++ K) w' := by
  refine enterM_args (args := [.slice A 4 c]) (F := _) hM0 Tryz.func55 rfl Tryz.ntmps55 rfl rfl ?_
  intro Rb hRb hRn
  refine tx ?_
  refine sr 1 ?_
  refine sgs ?_
  refine tx ?_
  refine sr 1 ?_
  refine s1 (y_len_slice rfl rfl Tryz.underlying41) ?_
  refine s1 (y_as (v' := .int .i64 0) (by exact rfl) (y_bin rfl rfl rfl (fun hg => b_rem (by omega) (by omega) (by omega)))) ?_
  refine sr 1 ?_
  refine sgo ?_
  refine T_cond rfl ?_ ?_ <;> intro h6
  · skip
    simp at h6
  refine kgx ?_
  refine sr 1 ?_
  refine S_nilSlice 9 (e := 9) (size := 1) ?_
  obtain ⟨i9, hi9, hz9, hs9, hy9⟩ := info_parts inf9
  refine S_append 9 9 910 rfl rfl rfl rfl rfl rfl rfl rfl Tryz.underlying41 hi9 hz9 hs9 hy9 rfl (by decide) (by decide) rfl ?_ ?_ (4) (oldL.flatMap strQ) ?_ ?_ ?_
  · (simp only [maxLen]; omega)
  · omega
  · rfl
  · rfl
  intro A9 c9
  refine s1 (y_build (zv := .agg #[.int .u32 0, .int .i32 0, .int .u32 0, .nilIface, .slice none 0 0]) (pl := [(0, 3), (3, 1), (4, 1)]) (out := [.int .u32 0, .int .i32 0, .int .u32 0, .nilIface, _]) rfl rfl Tryz.underlying123 z123 (by kernel_rfl) rfl) ?_
  refine S_box 11 11 rfl rfl rfl rfl rfl ?_
  intro b11
  refine S_move [(11, 11), (901, 901)] 901 11 rfl rfl (by repeat (first | exact kl_nil | exact kl_rest (by assumption) rfl | (apply kl_in; focus rfl) | (apply kl_out; focus rfl))) ?_
  refine S_move [(9, 9), (902, 902)] 902 9 rfl rfl (by repeat (first | exact kl_nil | exact kl_rest (by assumption) rfl | (apply kl_in; focus rfl) | (apply kl_out; focus rfl))) ?_
  refine sr 1 ?_
  refine sgo ?_
  refine tr1 hRb fun w hM => ?_
  exact ⟨⟨b11, A9, c9⟩, rfl, trivial, hM.keep (ks := [(0, 999)]) (by repeat (first | exact kl_rest (by assumption) rfl | (apply kl_in; focus rfl))) _ ⟨rfl, rfl, rfl, trivial⟩⟩
theorem meth_bs (b : Nat) : ∀ w, (Go.method (Tryz.prog.types.size + Made.depth) 161 (selfQ b) "Replace").run Tryz.prog w = .ok (199, selfQ b) w := fun w => by kernel_rfl
theorem cells_at (z : BdR) (x : UInt8) : z.cells[x.toNat]? = some (.slice (rpA z.b1 z.b2 x) (rpN x) (rpC z.k1 z.k2 x)) := by
  have hx : x.toNat < 256 := UInt8.toNat_lt x
  have hl : ((z256.set 92 (.slice (some ⟨z.b2, 0, none⟩) 2 z.k2)).set 34 (.slice (some ⟨z.b1, 0, none⟩) 2 z.k1)).length = 256 := by simp
  rw [BdR.cells, List.getElem?_append_left (by rw [hl]; exact hx)]
  by_cases h1 : x = 34
  · subst h1; simp [rpA, rpN, rpC, spB]
  · have n1 : ¬ 34 = x.toNat := fun e => h1 (UInt8.toNat_inj.1 e.symm)
    rw [List.getElem?_set_ne n1]
    by_cases h2 : x = 92
    · subst h2; simp [rpA, rpN, rpC, spB]
    · have n2 : ¬ 92 = x.toNat := fun e => h2 (UInt8.toNat_inj.1 e.symm)
      rw [List.getElem?_set_ne n2]
      simp [rpA, rpN, rpC, spB, h1, h2, hx]
theorem rd_SlR {w0 w : World} {L : HL} {i b : Nat} {e : TypeId} {l : List UInt8} (hM : Mem w0 L w) (h : L.get i = some (.blk b (IsRd e (bytesV l)))) : SlR w 1 (some ⟨b, 0, none⟩) l.length (bytesV l) := by
  obtain ⟨_, ob, h1, cur, fz, rfl, h2⟩ := hM.sat i _ h
  refine ⟨by simp [bytesV], fun _ => ⟨_, rfl, (Array.getElem?_eq_some_iff.1 h1).1, fun j u hu => ?_⟩⟩
  rw [add_zero_off, Nat.zero_add, World.cell?, h1]
  exact h2 j u hu
theorem bsR_of {w0 w : World} {L : HL} {z : BdR} (hM : Mem w0 L w) (h3 : L.get 903 = some (.blk z.b (IsBox z.cells 160))) (h4 : L.get 904 = some (.own 9 1 (.slice z.A 2 z.c) 2 (([[92], [34]] : List (List UInt8)).flatMap strQ)))
    (h5 : L.get 905 = some (.blk z.b2 (IsRd 5 (bytesV [92, 92])))) (h6 : L.get 906 = some (.blk z.b1 (IsRd 5 (bytesV [92, 34])))) : BsR w z.b z.b1 z.b2 z.k1 z.k2 z.A z.c := by
  have hb := hM.box_cells 903 h3
  refine ⟨hb.2, fun x => ?_, ?_, owned_T hM rfl h4, rd_SlR hM h6, rd_SlR hM h5⟩
  · have := hb.1 x.toNat _ (cells_at z x)
    rwa [add_zero_off, Nat.zero_add] at this
  · have := hb.1 256 (.slice z.A 2 z.c) (by simp [BdR.cells])
    rwa [add_zero_off, Nat.zero_add] at this
theorem rReplace_any {w0 : World} {K : HL} (hK : FromK K) (b : Nat) (A : Option Addr) (c : Nat) (s : List UInt8) (hs : s.length ≤ 1000000) (w : World) (hM0 : Mem w0 ([(901, rpI b 0 0 .nilIface (.slice A 4 c)), (902, oldI A c)] ++ K) w) :
    Calls Tryz.prog 56 #[selfQ b, str s] w fun e w' => ∃ z : BdR, e = .returned (str (escQ s)) ∧ True ∧ Mem w0 ([(901, rpI b 1 0 (bsT z) (.slice none 0 0)), (902, oldI A c)] ++ K) w' := by
  refine enterM_args (args := [selfQ b, str s]) (F := _) hM0 Tryz.func56 rfl Tryz.ntmps56 rfl rfl ?_
  intro Rb hRb hRn
  refine tx ?_
  refine sr 1 ?_
  refine sgx ?_
  refine sr 1 ?_
  refine s1 (y_nilCheck rfl rfl) ?_
  refine s1 (yF fa123_0) ?_
  refine sr 1 ?_
  refine s1 (y_makeFunc rfl rfl rfl rfl rfl) ?_
  refine S_callN 10 [(901, 901), (902, 902)] [(903, 903), (904, 904), (905, 905), (906, 906)] (X := BdR) rfl rfl rfl rfl rfl rfl rfl cf91 rfl (fun _ => .tuple #[]) (fun _ => True) (fun z => [(901, rpI b 1 0 (bsT z) (.slice none 0 0)), (902, oldI A c)] ++ z.its) (fun _ => rfl) (fun _ => rfl) (fun K hK w hM => Do_any hK b A c w hM) ?_
  intro z _
  refine sgx ?_
  refine sr 1 ?_
  refine s1 (y_nilCheck rfl rfl) ?_
  refine s1 (yF fa123_1) ?_
  refine s1 (yL 901 Tryz.underlying121) ?_
  refine sr 1 ?_
  refine s1 (y_invoke (f := 199) (rv := selfQ z.b) rfl rfl rfl (meth_bs z.b) cf199 (fun _ w hM => bsReplace_any z.b z.b1 z.b2 z.k1 z.k2 z.A z.c s hs w (bsR_of hM rfl rfl rfl rfl))) ?_
  refine sr 1 ?_
  refine sgo ?_
  refine tr1 hRb fun w hM => ?_
  exact ⟨z, rfl, trivial, hM.keep (ks := [(0, 999)]) (by repeat (first | exact kl_rest (by assumption) rfl | (apply kl_in; focus rfl))) _ ⟨rfl, rfl, trivial⟩⟩
theorem value_text_any (s : List UInt8) (hs : s.length ≤ 1000000) (w : World) :
    Calls Tryz.prog 39 #[str s] w fun e w' => e = .returned (str (valT s)) ∧ Below w.heap.size w w' := by
  have hel := esc_len s
  have hcp : s.countP spB ≤ s.length := List.countP_le_length
  refine enter_args (args := [str s]) (F := _) Tryz.func39 rfl Tryz.ntmps39 rfl rfl ?_
  intro Rb hRb hRn
  refine tx ?_
  refine sr 1 ?_
  refine sgs ?_
  refine tx ?_
  refine sr 1 ?_
  refine s1 (y_call rfl rfl rfl cf79 (fun _ w _ => bare_any s (by omega) w)) ?_
  refine sgo ?_
  refine T_cond rfl ?_ ?_ <;> intro h4
  · skip
    refine tx ?_
    refine sr 2 ?_
    refine sgo ?_
    refine tr1 hRb fun w hM => ?_
    exact ⟨by rw [valT, if_pos h4], hM.below⟩
  refine kgx ?_
  refine S_buildSlice 6 6 rfl rfl rfl rfl rfl Tryz.underlying41 inf9 rfl (by decide) (by decide) rfl rfl (by decide) rfl (_) rfl ?_
  intro b6
  refine S_callN 7 [(910, 6)] [(901, 901), (902, 902)] (X := NwR) rfl rfl rfl rfl rfl rfl rfl cf55 rfl (fun z => selfQ z.b) (fun _ => True) (fun z => [(910, oldI (some ⟨b6, 0, none⟩) 4), (901, rpI z.b 0 0 .nilIface (.slice z.A 4 z.c)), (902, oldI z.A z.c)]) (fun _ => rfl) (fun _ => rfl) (fun K hK w hM => NewReplacer_any hK (some ⟨b6, 0, none⟩) 4 w hM) ?_
  intro n _
  refine sr 1 ?_
  refine S_callM 9 [(901, 901), (902, 902)] (X := BdR) rfl rfl rfl rfl rfl rfl rfl cf56 rfl (fun _ => str (escQ s)) (fun _ => True) (fun z => [(901, rpI n.b 1 0 (bsT z) (.slice none 0 0)), (902, oldI n.A n.c)]) (fun _ => rfl) (fun _ => rfl) (fun K hK w hM => rReplace_any hK n.b n.A n.c s hs w hM) ?_
  intro z _
  refine s1 (y_bin rfl rfl rfl (fun hg => b_adds (by first | omega | (simp only [List.length_append, List.length_cons, List.length_nil]; omega)))) ?_
  refine s1 (y_bin rfl rfl rfl (fun hg => b_adds (by first | omega | (simp only [List.length_append, List.length_cons, List.length_nil]; omega)))) ?_
  refine sr 1 ?_
  refine sgo ?_
  refine tr1 hRb fun w hM => ?_
  exact ⟨by rw [valT, if_neg (by rw [h4]; decide)]; rfl, hM.below⟩
end Go.Proofs.YtfcedlfeinnhoaaGreatDoor
end
section
namespace Go.Proofs.YtfcedlfeinnhoaaGreatDoor
set_option linter.unusedSimpArgs false
set_option linter.unusedVariables false
set_option maxRecDepth 20000
open Go.RowKit Go.Eng
structure HdOk (op : Int) (nk : Nat) (lo hi : Int) (n t : List UInt8) : Prop where
  r : 1 ≤ op ∧ op ≤ 14
  lo0 : rngB op = false → lo = 0 ∧ hi = 0
  n0 : nmdB op = false → n = []
  t0 : wrdB op = false → t = []
  nums : rngB op = true → loR op ≤ lo ∧ lo ≤ hiR op ∧ loR op ≤ hi ∧ hi ≤ hiR op
  nm : nmdB op = true → nameOk n = true
  tx : wrdB op = true → txtNo t = 0
theorem hd_ok {op : Int} {nk : Nat} {lo hi : Int} {n t : List UInt8} (h : chdNo txtNo nameOk op nk lo hi n t = 0) : HdOk op nk lo hi n t := by
  have hr := (head_ar h).1
  unfold chdNo at h
  split at h
  · cases h
  split at h
  · cases h
  rename_i h2
  split at h
  · cases h
  split at h
  · cases h
  rename_i h4
  split at h
  · cases h
  split at h
  · cases h
  rename_i h6
  simp only [Bool.not_eq_true, Bool.or_eq_false_iff, Bool.and_eq_false_iff, Bool.not_eq_false', decide_eq_true_eq, Bool.not_eq_true'] at h2
  refine ⟨hr, fun h0 => ?_, fun h0 => ?_, fun h0 => ?_, fun h0 => ?_, fun h0 => ?_, fun h0 => ?_⟩
  · have := h2.1.1.2.resolve_right (by rw [h0]; decide)
    exact ⟨this.1, this.2⟩
  · exact h2.1.2.resolve_right (by rw [h0]; decide)
  · exact h2.2.resolve_right (by rw [h0]; decide)
  · rw [h0] at h4
    simp only [inB, Bool.true_and, Bool.not_eq_true, Bool.or_eq_false_iff, Bool.not_eq_false', Bool.not_not, Bool.not_eq_true', decide_eq_false_iff_not] at h4
    omega
  · rw [h0] at h6; simpa using h6
  · rw [if_pos h0] at h; exact h
theorem name_ok {n : List UInt8} (h : nameOk n = true) : NameQ n := by
  simp only [nameOk, Bool.and_eq_true, Bool.not_eq_true', decide_eq_false_iff_not, decide_eq_true_eq] at h
  obtain ⟨⟨⟨⟨h1, h2⟩, h3⟩, h4⟩, h5⟩ := h
  refine ⟨h1, by omega, by unfold qLet; rw [decide_eq_true h3, decide_eq_true h4]; rfl, fun c hc => ?_⟩
  have hb := trimS_nilF h5 c hc
  have key : ∀ c ∈ nameBs, qNam c = true := by decide
  exact key c (List.contains_iff_mem.1 hb)
theorem txt_ok {t : List UInt8} (h : txtNo t = 0) : t ≠ [] ∧ t.length ≤ 200 := by
  unfold txtNo at h
  split at h
  · cases h
  rename_i h1
  split at h
  · cases h
  exact ⟨h1, by omega⟩
theorem leaf_ok {op : Int} {nk : Nat} {lo hi : Int} {n t : List UInt8} (h : HdOk op nk lo hi n t) (h4 : 4 ≤ op) : LeafOk op lo hi n t where
  four := h4
  last := h.r.2
  lo0 := h.lo0
  nums := fun hr => by
    have := h.nums hr
    unfold loR hiR at this
    by_cases h5 : op = 5
    · rw [if_pos h5, if_pos h5] at this; omega
    · rw [if_neg h5, if_neg h5] at this
      split at this <;> omega
  level := fun h => by
    rename_i hh
    have := hh.nums (by rw [h]; rfl)
    rw [h] at this
    simp only [loR, hiR] at this
    simp at this
    omega
  nm := fun hn => name_ok (h.nm hn)
  nm0 := h.n0
  tx := fun hw => (txt_ok (h.tx hw)).1
  tx0 := h.t0
abbrev chC (c : PC) : Int := chkP (chdNo txtNo nameOk) c
/-- a right condition is one that can be read -/
theorem rt_of (c : PC) : chC c = 0 → Rt c := by
  induction c using PC.ind with
  | h c ih =>
    cases c with
    | mk op kids lo hi n t =>
      intro hc
      obtain ⟨h1, h2⟩ := chkP_zero.1 hc
      have hh := hd_ok h1
      obtain ⟨ar1, ar2, ar3, ar4⟩ := head_ar h1
      have hk : ∀ k ∈ kids, Rt k := fun k hk => ih k hk (h2 k hk)
      by_cases h3 : op ≤ 3
      · obtain ⟨l0, l1⟩ := hh.lo0 (by simp [rngB]; omega)
        have hn := hh.n0 (by simp [nmdB]; omega)
        have ht := hh.t0 (by simp [wrdB]; omega)
        subst l0; subst l1; subst hn; subst ht
        by_cases ho : op = 1 ∨ op = 2
        · exact .grp op kids ho (ar3 ho) hk
        · have ho3 : op = 3 := by omega
          subst ho3
          have hl := ar4 rfl
          match kids, hl with
          | [x], _ => exact .no x (hk x List.mem_cons_self)
      · have hkn : kids = [] := by
          cases kids with
          | nil => rfl
          | cons a r => have := ar2 (by simp); omega
        subst hkn
        exact .leaf op lo hi n t (leaf_ok hh (by omega))
/-! ### Lengths -/
theorem esc_le (s : List UInt8) : (escQ s).length ≤ 2 * s.length := by
  rw [esc_len]
  have : s.countP spB ≤ s.length := List.countP_le_length
  omega
theorem val_le (s : List UInt8) : (valT s).length ≤ 2 * s.length + 2 := by
  unfold valT
  split
  · omega
  · have := esc_le s
    simp only [List.length_cons, List.length_append, List.length_nil]; omega
theorem it_le {n : Int} (h0 : 0 ≤ n) (h1 : n ≤ 9999999999) : (Lib.itoa n).length ≤ 10 := (it_num h0 h1).1.le
theorem wd_le (op : Int) : (wdQ op).length ≤ 7 := by
  have key : ∀ l ∈ wordQ, l.length ≤ 7 := by decide
  unfold wdQ
  rw [List.getD_eq_getElem?_getD]
  cases h : wordQ[op.toNat]? with
  | none => exact Nat.zero_le _
  | some l => exact key l (List.mem_of_getElem? h)
theorem leafT_le {op lo hi : Int} {n t : List UInt8} (h : LeafOk op lo hi n t) (ht : t.length ≤ 200) : (leafT op lo hi n t).length ≤ 900 := by
  have hv := val_le t
  have hw := wd_le op
  have hn : n.length ≤ 40 := by
    by_cases hb : nmdB op = true
    · exact (h.nm hb).le
    · rw [h.nm0 (by simpa using hb)]; exact Nat.zero_le _
  unfold leafT
  split
  · simp only [List.length_append, List.length_cons]; omega
  · split
    · simp only [List.length_append, List.length_cons, List.length_nil]; omega
    · split
      · rename_i hr
        obtain ⟨b1, b2, b3, b4⟩ := h.nums hr
        have i1 := it_le b1 b2
        have i2 := it_le b3 b4
        split <;> simp only [List.length_append, List.length_cons, List.length_nil] <;> omega
      · simp only [List.length_append, List.length_cons]; omega
theorem jn_le (sep : List UInt8) : ∀ l : List (List UInt8), (jnQ sep l).length ≤ (l.map fun x => x.length + sep.length).sum
  | [] => Nat.zero_le _
  | [a] => by simp [jnQ]
  | a :: b :: r => by
    have := jn_le sep (b :: r)
    rw [jnQ, List.length_append, List.length_append, List.map_cons, List.sum_cons]
    omega
theorem kid_le (op : Int) (k : PC) : (kidT op k).length ≤ (textP k).length + 2 := by
  unfold kidT
  split <;> simp
theorem sum_kids {op : Int} {m : Nat} (hm : m ≤ 4) : ∀ l : List PC, (∀ k ∈ l, (textP k).length + 6 ≤ cntP k * 1000) → ((l.map (kidT op)).map fun x => x.length + m).sum ≤ cntL l * 1000
  | [], _ => Nat.zero_le _
  | k :: r, h => by
    have h1 := h k List.mem_cons_self
    have h2 := sum_kids (op := op) hm r fun x hx => h x (List.mem_cons_of_mem _ hx)
    have h3 := kid_le op k
    rw [List.map_cons, List.map_cons, List.sum_cons, cntL]
    rw [Nat.add_mul]
    omega
theorem text_le (c : PC) : chC c = 0 → (textP c).length + 6 ≤ cntP c * 1000 := by
  induction c using PC.ind with
  | h c ih =>
    cases c with
    | mk op kids lo hi n t =>
      intro hc
      obtain ⟨h1, h2⟩ := chkP_zero.1 hc
      have hh := hd_ok h1
      obtain ⟨ar1, ar2, ar3, ar4⟩ := head_ar h1
      have hk : ∀ k ∈ kids, (textP k).length + 6 ≤ cntP k * 1000 := fun k hk => ih k hk (h2 k hk)
      rw [cntP, Nat.add_mul]
      by_cases ho : op = 1 ∨ op = 2
      · rw [text_grp ho]
        have h3 := jn_le (sepQ op) (kids.map (kidT op))
        have h4 : (sepQ op).length ≤ 4 := by rcases ho with rfl | rfl <;> decide
        have h5 := sum_kids (op := op) h4 kids hk
        omega
      · by_cases h3 : op = 3
        · subst h3
          have hl := ar4 rfl
          match kids, hl with
          | [x], _ =>
            rw [text_not]
            have h4 := hk x List.mem_cons_self
            have h5 := kid_le 3 x
            rw [cntL, cntL, List.length_cons]
            omega
        · have h4 : 4 ≤ op := by omega
          rw [text_leaf h4]
          have ht : t.length ≤ 200 := by
            by_cases hb : wrdB op = true
            · exact (txt_ok (hh.tx hb)).2
            · rw [hh.t0 (by simpa using hb)]; exact Nat.zero_le _
          have := leafT_le (leaf_ok hh h4) ht
          omega
end Go.Proofs.YtfcedlfeinnhoaaGreatDoor
end
section
namespace Go.Proofs.YtfcedlfeinnhoaaGreatDoor
set_option linter.unusedSimpArgs false
set_option linter.unusedVariables false
set_option maxRecDepth 20000
open Go.RowKit Go.Eng
theorem strQ_flat (l : List (List UInt8)) : l.flatMap strQ = l.map str := by
  induction l with
  | nil => rfl
  | cons a r ih => rw [List.flatMap_cons, ih]; rfl
theorem join_jnQ (sep : List UInt8) : ∀ l : List (List UInt8), Lib.join l sep = jnQ sep l
  | [] => rfl
  | [a] => Lib.join_one a sep
  | a :: b :: r => by
    have h := join_jnQ sep (b :: r)
    rw [Lib.join_cons] at h
    rw [Lib.join_cons, jnQ, ← h]
    simp [Lib.joinTail]
theorem JoinS_any (sep : List UInt8) (A : Option Addr) (q c : Nat) (l : List (List UInt8)) (w : World) (hl : SlT strQ 1 w A q l) (hq : 0 < q) (hcap : q ≤ c) (hlen : (jnQ sep l).length ≤ 140737488355328) (h47 : q ≤ 1000000) :
    Calls Tryz.prog 27 #[.slice A q c, str sep] w fun e w' => e = .returned (str (jnQ sep l)) ∧ Below w.heap.size w w' := by
  obtain ⟨ad, rfl, hlt, hc⟩ := hl.rd.2 hq
  obtain ⟨bk, o, sp⟩ := ad
  have hll := hl.len
  have hx : ∀ (j : Nat) (s : List UInt8), l[j]? = some s → w.cell? ((⟨bk, o, sp⟩ : Addr).add j) = some (str s) := fun j s hj => hc j (str s) (by rw [strQ_flat, List.getElem?_map, hj]; rfl)
  have hsp : sp = none := by
    obtain ⟨s, hs⟩ : ∃ s, l[0]? = some s := ⟨_, List.getElem?_eq_getElem (by omega)⟩
    have h := hx 0 s hs
    cases sp with
    | none => rfl
    | some k =>
      rw [show (⟨bk, o, some k⟩ : Addr).add 0 = ⟨bk, o, some k⟩ from rfl] at h
      unfold World.cell? at h
      split at h
      · simp at h
      · cases h
  subst hsp
  have hm : (l.map fun s => (⟨s.toArray⟩ : ByteArray)).map (·.data.toList) = l := by rw [List.map_map]; exact (List.map_congr_left fun s _ => rfl).trans (List.map_id l)
  have h := Tryz.strings_Join bk o c (l.map fun s => ⟨s.toArray⟩) ⟨sep.toArray⟩ w (fun j x hj => by
      rw [List.getElem?_map] at hj
      obtain ⟨s, hs, rfl⟩ := Option.map_eq_some_iff.1 hj
      have := hx j s hs
      rwa [show (⟨bk, o, none⟩ : Addr).add j = ⟨bk, o + j, none⟩ from by unfold Addr.add; split <;> simp_all] at this) hlt (by rw [List.length_map]; omega) (by rw [List.length_map]; omega) (by rw [hm]; show (Lib.join l sep).length ≤ _; rw [join_jnQ]; exact hlen)
  rw [hm, List.length_map, hll] at h
  rw [← join_jnQ]
  exact h
theorem cond_parts2 {x : SC} (h : condNo x = 0) : cntP x.says ≤ 100 ∧ chX x = 0 := ((condN_zero (txt := txtNo) (nm := nameOk) (c := x.says)).1 h).2
def TextAt (x : SC) : Prop := ∀ w : World, x.Ok w → chX x = 0 → cntP x.says ≤ 100 → OW w → P10 w → Calls Tryz.prog 20 #[x.val] w fun e w' => e = .returned (str (textP x.says)) ∧ Below w.heap.size w w'
theorem kidText_any (x : SC) (hT : TextAt x) (op : Int) (w : World) (hok : x.Ok w) (h0 : chX x = 0) (hcnt : cntP x.says ≤ 100) (hO : OW w) (hP : P10 w) :
    Calls Tryz.prog 38 #[x.val, .int .i64 op] w fun e w' => e = .returned (str (kidT op x.says)) ∧ Below w.heap.size w w' := by
  have hlen := text_le x.says h0
  have hso := says_op x
  refine enter_args (args := [.agg #[.int .i64 x.op, .slice x.ad x.q x.c, .int .i64 x.lo, .int .i64 x.hi, str x.nm, str x.tx], .int .i64 op]) (F := _) Tryz.func38 rfl Tryz.ntmps38 rfl rfl ?_
  intro Rb hRb hRn
  refine tx ?_
  refine S_box 2 2 rfl rfl rfl rfl rfl ?_
  intro b2
  refine sr 1 ?_
  refine sgs ?_
  refine tx ?_
  refine s1 (yF fa24_0) ?_
  refine s1 (yL 2 Tryz.underlying3) ?_
  refine sr 2 ?_
  refine sg rfl (yF fa24_0) ?_
  refine sg rfl (yL 2 Tryz.underlying3) ?_
  refine sg rfl (y_bin rfl rfl rfl (fun _ => b_eql)) ?_
  refine s1 (y_or rfl rfl rfl) ?_
  refine sr 1 ?_
  refine sg rfl (yF fa24_0) ?_
  refine sg rfl (yL 2 Tryz.underlying3) ?_
  refine sg rfl (y_bin rfl rfl rfl (fun _ => b_eql)) ?_
  refine sg rfl (y_move rfl rfl) ?_
  refine sg rfl (y_move rfl rfl) ?_
  refine sg rfl (y_bin rfl rfl rfl (fun _ => b_eql)) ?_
  refine sg rfl (y_and rfl rfl rfl) ?_
  refine s1 (y_as (v' := .bool (bracB op x.op)) (by exact rfl) (y_or rfl rfl rfl)) ?_
  refine sgo ?_
  refine T_cond rfl ?_ ?_ <;> intro h21
  · skip
    refine tx ?_
    refine s1 (yA 2 rfl Tryz.underlying24 sz24) ?_
    refine s1 (y_call rfl rfl rfl cf20 (fun _ w1 hM => hT w1 (hok.lift hM.below) h0 hcnt (hO.below hM.below) (hP.below hM.below))) ?_
    refine s1 (y_bin rfl rfl rfl (fun hg => b_adds (by first | omega | (simp only [List.length_append, List.length_cons, List.length_nil]; omega)))) ?_
    refine s1 (y_bin rfl rfl rfl (fun hg => b_adds (by first | omega | (simp only [List.length_append, List.length_cons, List.length_nil]; omega)))) ?_
    refine sr 1 ?_
    refine sgo ?_
    refine tr1 hRb fun w hM => ?_
    refine ⟨?_, hM.below⟩
    unfold kidT
    rw [hso, if_pos h21]; rfl
  refine kgx ?_
  refine s1 (yA 2 rfl Tryz.underlying24 sz24) ?_
  refine s1 (y_call rfl rfl rfl cf20 (fun _ w1 hM => hT w1 (hok.lift hM.below) h0 hcnt (hO.below hM.below) (hP.below hM.below))) ?_
  refine sr 1 ?_
  refine sgo ?_
  refine tr1 hRb fun w hM => ?_
  refine ⟨?_, hM.below⟩
  unfold kidT
  rw [hso, if_neg (by rw [h21]; decide)]
theorem rng6 {op : Int} (h4 : ¬ op = 4) (h5 : ¬ op = 5) : decide (op = 6) = rngB op := by
  unfold rngB
  by_cases h : op = 6
  · rw [h]; rfl
  · rw [decide_eq_false h, eq_comm, Bool.and_eq_false_iff, decide_eq_false_iff_not, decide_eq_false_iff_not]; omega
theorem lo_hi {op lo hi : Int} (h : (!decide (op = 4) || !decide (lo = hi)) = true) : op ≠ 4 ∨ lo ≠ hi := by simpa using h
theorem lo_hi2 {op lo hi : Int} (h : (!decide (op = 4) || !decide (lo = hi)) = false) : ¬ (op ≠ 4 ∨ lo ≠ hi) := by simpa using h
theorem text_form (x : SC) : textP x.says = textP (.mk x.op (x.kids.map SC.says) x.lo x.hi x.nm x.tx) := by rw [← SC.says_form]
theorem text_g {x : SC} (h : x.op = 1 ∨ x.op = 2) : textP x.says = jnQ (sepQ x.op) (x.kids.map fun k => kidT x.op k.says) := by
  rw [text_form, text_grp h, List.map_map]; rfl
theorem text_l {x : SC} (h : 4 ≤ x.op) : textP x.says = leafT x.op x.lo x.hi x.nm x.tx := by rw [text_form, text_leaf h]
theorem text_n {x k : SC} (h : x.op = 3) (hk : x.kids = [k]) : textP x.says = 45 :: kidT 3 k.says := by
  rw [text_form, h, hk]; exact text_not
theorem at_snoc {l : List SC} {i : Nat} {k : SC} (h : l[i]? = some k) : l.take (i + 1) = l.take i ++ [k] := by
  rw [List.take_add_one, h]; rfl
set_option maxHeartbeats 3200000 in
theorem text_step (x : SC) (ih : ∀ k ∈ x.kids, TextAt k) : TextAt x := by
  intro w hok h0 hcnt hO hP
  obtain ⟨hs, hq, hb80, hn, htl, hkid⟩ := hok.parts
  have hst : SlT SC.enc 6 w x.ad x.q x.kids := hs.t
  have hlen := hst.len
  have hcf := cntP_formP x
  have hlc := len_cnt (x.kids.map SC.says)
  rw [List.length_map] at hlc
  have htx := ch_text h0
  have htle := text_le x.says h0
  have hhd := hd_ok (ch_head h0)
  obtain ⟨ar1, ar2, ar3, ar4⟩ := ch_ar h0
  have hvl := val_le x.tx
  have hwl : (wordQ.getD x.op.toNat []).length ≤ 7 := wd_le x.op
  have tn : x.op = ((x.op.toNat : Nat) : Int) := by omega
  refine enter_args (args := [.agg #[.int .i64 x.op, .slice x.ad x.q x.c, .int .i64 x.lo, .int .i64 x.hi, str x.nm, str x.tx]]) (F := _) Tryz.func20 rfl Tryz.ntmps20 rfl rfl ?_
  intro Rb hRb hRn
  refine tx ?_
  refine S_box 1 1 rfl rfl rfl rfl rfl ?_
  intro b1
  refine sr 1 ?_
  refine sgx ?_
  refine S_nilSlice 3 (e := 9) (size := 1) ?_
  refine sr 1 ?_
  refine sgs ?_
  refine tx ?_
  refine s1 (yF fa24_1) ?_
  refine s1 (yL 1 Tryz.underlying22) ?_
  refine s1 (y_len_slice rfl rfl Tryz.underlying22) ?_
  refine sr 1 ?_
  refine sgo ?_
  refine T_block ?_
  refine lK3 (kf := [(3, 3), (5, 5), (10, 21)]) (kl := [(3, 3), (5, 5), (10, 21)]) (fun (i : Nat) (A : Option Addr) (c : Nat) => [(10, true, .int .i64 (i : Int)), (3, true, .slice A i c)]) (fun (i : Nat) (A : Option Addr) (c : Nat) => [(3, .own 9 1 (.slice A i c) i (((x.kids.take i).map fun k => kidT x.op k.says).flatMap strQ))]) (fun (i : Nat) (A : Option Addr) (c : Nat) => i ≤ x.q) (fun (i : Nat) (A : Option Addr) (c : Nat) => x.q - i) 0 none 0 ?_ ?_ ?_ ?_
  · omega
  · exact ⟨rfl, rfl, trivial⟩
  · exact ⟨rfl, trivial⟩
  rintro i A c hp1
  refine tx ?_
  refine sr 1 ?_
  refine sgs ?_
  refine T_cond rfl ?_ ?_ <;> intro h11
  · try simp only [nrm] at h11
    obtain ⟨k, hx1, hx2⟩ := hst.at (i := i) (by omega)
    refine kgs ?_
    refine T_block ?_
    refine tx ?_
    refine s1 (y_indexAddr rfl rfl rfl Tryz.underlying22 sz24 (fun hg => hst.isSome (by omega)) (fun _ => by omega)) ?_
    refine s1 (y_loadT rfl rfl hst (fun _ => rfl) (fun _ => hx1) Tryz.underlying24 rfl sz24) ?_
    refine S_alloc 5 5 rfl rfl rfl rfl z24 ?_
    intro b5
    refine S_store 5 rfl rfl rfl rfl rfl rfl sz24 rfl rfl ?_
    refine sgr ?_
    refine sr 1 ?_
    refine s1 (yA 5 rfl Tryz.underlying24 sz24) ?_
    refine s1 (yF fa24_0) ?_
    refine s1 (yL 1 Tryz.underlying3) ?_
    refine s1 (y_call rfl rfl rfl cf38 (fun _ w1 hM => kidText_any k (ih k (mem_at hx1)) x.op w1 ((hkid k (mem_at hx1)).lift hM.below) (ch_kids h0 (mem_at hx1)) (by have := cntL_memP (mem_at hx1); omega) (hO.below hM.below) (hP.below hM.below))) ?_
    refine S_buildSlice 19 19 rfl rfl rfl rfl rfl Tryz.underlying41 inf9 rfl (by decide) (by decide) rfl rfl (by decide) rfl (_) rfl ?_
    intro b19
    obtain ⟨i20, hi20, hz20, hs20, hy20⟩ := info_parts inf9
    refine S_append 20 3 19 rfl rfl rfl rfl rfl rfl rfl rfl Tryz.underlying41 hi20 hz20 hs20 hy20 rfl (by decide) (by decide) rfl ?_ ?_ (i + 1) (((x.kids.take (i + 1)).map fun k => kidT x.op k.says).flatMap strQ) ?_ ?_ ?_
    · (simp only [maxLen]; omega)
    · omega
    · rfl
    · rw [at_snoc hx1, List.map_append, List.flatMap_append]; rfl
    intro A20 c20
    refine sr 1 ?_
    refine sgr ?_
    refine s1 (y_bin rfl rfl rfl (fun hg => b_add (by omega))) ?_
    refine sr 1 ?_
    refine S_nil (nK3 (kf := [(3, 3), (5, 5), (10, 21)]) (kl := [(3, 3), (5, 5), (10, 21)]) (i + 1) A20 c20 ?_ ?_ ?_ ?_)
    · omega
    · omega
    · exact ⟨rfl, rfl, trivial⟩
    · exact ⟨rfl, trivial⟩
  try simp only [nrm] at h11
  have hiq : i = x.q := by omega
  subst hiq
  rw [List.take_of_length_le (by omega)]
  refine egs ?_
  refine tx ?_
  refine s1 (yF fa24_0) ?_
  refine s1 (yL 1 Tryz.underlying3) ?_
  refine sgo ?_
  refine T_block ?_
  refine tx ?_
  refine sr 2 ?_
  refine sgo ?_
  refine T_cond rfl ?_ ?_ <;> intro h24
  · try simp only [nrm] at h24
    have htg := text_g (x := x) (.inl h24)
    have hk2 := ar3 (.inl h24)
    rw [htg, show sepQ x.op = [32] by rw [h24]; rfl] at htle
    refine tx ?_
    refine sr 1 ?_
    refine s1 (y_call rfl rfl rfl cf27 (fun _ w1 hM => JoinS_any [32] A x.q c _ w1 (owned_T (i := 3) hM (by rw [List.length_map]; exact hlen) rfl) (by omega) (own_cap (i := 3) hM rfl) (by omega) (by omega))) ?_
    refine sr 1 ?_
    refine sgo ?_
    refine tr1 hRb fun w hM => ?_
    exact ⟨by rw [htg, h24]; rfl, hM.below⟩
  try simp only [nrm] at h24
  refine tx ?_
  refine sr 2 ?_
  refine sgo ?_
  refine T_cond rfl ?_ ?_ <;> intro h28
  · try simp only [nrm] at h28
    have htg := text_g (x := x) (.inr h28)
    have hk2 := ar3 (.inr h28)
    rw [htg, show sepQ x.op = [32, 111, 114, 32] by rw [h28]; rfl] at htle
    refine tx ?_
    refine sr 1 ?_
    refine s1 (y_call rfl rfl rfl cf27 (fun _ w1 hM => JoinS_any [32, 111, 114, 32] A x.q c _ w1 (owned_T (i := 3) hM (by rw [List.length_map]; exact hlen) rfl) (by omega) (own_cap (i := 3) hM rfl) (by omega) (by omega))) ?_
    refine sr 1 ?_
    refine sgo ?_
    refine tr1 hRb fun w hM => ?_
    exact ⟨by rw [htg, h28]; rfl, hM.below⟩
  try simp only [nrm] at h28
  refine tx ?_
  refine sr 2 ?_
  refine sgo ?_
  refine T_cond rfl ?_ ?_ <;> intro h32
  · try simp only [nrm] at h32
    obtain ⟨k1, hk1⟩ := kids_one (ar4 h32)
    have hq1 : x.q = 1 := by rw [← hlen, hk1]; rfl
    have htn := text_n h32 hk1
    rw [htn] at htle
    simp only [List.length_cons] at htle
    have hkl : (kidT x.op k1.says).length ≤ 100000 := by rw [h32]; omega
    refine tx ?_
    refine sr 1 ?_
    refine s1 (y_indexOwnI (j := 0) 3 rfl rfl rfl (fun _ => rfl) rfl Tryz.underlying41 sz9 (fun _ => by omega)) ?_
    refine s1 (y_load_own 3 rfl rfl rfl (fun _ => by omega) (fun _ => by rw [hk1]; rfl) Tryz.underlying9 rfl) ?_
    refine s1 (y_bin rfl rfl rfl (fun hg => b_adds (by first | omega | (simp only [List.length_append, List.length_cons, List.length_nil]; omega)))) ?_
    refine sr 1 ?_
    refine sgo ?_
    refine tr1 hRb fun w hM => ?_
    exact ⟨by rw [htn, h32]; rfl, hM.below⟩
  try simp only [nrm] at h32
  have h4 : 4 ≤ x.op := by omega
  have htl4 := text_l h4
  refine tx ?_
  refine sr 2 ?_
  refine sgo ?_
  refine T_cond rfl ?_ ?_ <;> intro h38
  · try simp only [nrm] at h38
    refine T_seq ?_
    refine T_draws (by kernel_rfl) (by kernel_rfl) ?_
    refine d1 (yF fa24_4) ?_
    refine d1 (yL 1 Tryz.underlying9) ?_
    refine d1 (y_bin rfl rfl rfl (fun hg => b_adds (by first | omega | (simp only [List.length_append, List.length_cons, List.length_nil]; omega)))) ?_
    refine d1 (yF fa24_5) ?_
    refine d1 (yL 1 Tryz.underlying9) ?_
    refine d1 (y_call rfl rfl rfl cf39 (fun hg w _ => value_text_any _ (by first | omega | (simp; omega)) w)) ?_
    refine d1 (y_bin rfl rfl rfl (fun hg => b_adds (by first | omega | (simp only [List.length_append, List.length_cons, List.length_nil]; omega)))) ?_
    refine d1 (y_assign rfl rfl) ?_
    refine dgo ?_
    refine tr1 hRb fun w hM => ?_
    refine ⟨?_, hM.below⟩
    rw [htl4, leafT, if_pos h38]; simp
  try simp only [nrm] at h38
  refine tx ?_
  refine sr 2 ?_
  refine sgo ?_
  refine T_cond rfl ?_ ?_ <;> intro h47
  · try simp only [nrm] at h47
    refine tx ?_
    refine s1 (yF fa24_4) ?_
    refine s1 (yL 1 Tryz.underlying9) ?_
    refine s1 (y_bin rfl rfl rfl (fun hg => b_adds (by first | omega | (simp only [List.length_append, List.length_cons, List.length_nil]; omega)))) ?_
    refine sr 1 ?_
    refine sgo ?_
    refine tr1 hRb fun w hM => ?_
    refine ⟨?_, hM.below⟩
    rw [htl4, leafT, if_neg h38, if_pos h47]
  try simp only [nrm] at h47
  refine T_seq ?_
  refine tx ?_
  refine sr 2 ?_
  refine sgo ?_
  refine T_mid (kf := [(52, 52), (54, 55)]) (kl := [(52, 52), (54, 55)]) (fun u : Unit => [(52, true, .bool (rngB x.op))]) (fun u : Unit => []) (by repeat (first | exact kf_nil | (apply kf_in; focus rfl) | (apply kf_out; focus rfl))) (by repeat (first | exact kl_nil | exact kl_rest (by assumption) rfl | (apply kl_in; focus rfl) | (apply kl_out; focus rfl))) ?_ ?_
  · skip
    refine T_cond rfl ?_ ?_ <;> intro h52
    · try simp only [nrm] at h52
      have e4 := h52
      refine T_skip (mid_end (kf := [(52, 52), (54, 55)]) (kl := [(52, 52), (54, 55)]) (()) (by repeat (first | exact kf_nil | (apply kf_in; focus rfl) | (apply kf_out; focus rfl))) (by repeat (first | exact kl_nil | exact kl_rest (by assumption) rfl | (apply kl_in; focus rfl) | (apply kl_out; focus rfl))) ?_ ?_)
      · exact ⟨by rw [e4]; rfl, trivial⟩
      · exact trivial
    try simp only [nrm] at h52
    have n4 := h52
    refine tx ?_
    refine sr 2 ?_
    refine sgo ?_
    refine T_cond rfl ?_ ?_ <;> intro h52
    · try simp only [nrm] at h52
      have e5 := h52
      refine T_skip (mid_end (kf := [(52, 52), (54, 55)]) (kl := [(52, 52), (54, 55)]) (()) (by repeat (first | exact kf_nil | (apply kf_in; focus rfl) | (apply kf_out; focus rfl))) (by repeat (first | exact kl_nil | exact kl_rest (by assumption) rfl | (apply kl_in; focus rfl) | (apply kl_out; focus rfl))) ?_ ?_)
      · exact ⟨by rw [e5]; rfl, trivial⟩
      · exact trivial
    try simp only [nrm] at h52
    have n5 := h52
    refine T_region ?_
    refine sr 2 ?_
    refine S_nil (mid_end (kf := [(52, 52), (54, 55)]) (kl := [(52, 52), (54, 55)]) (()) (by repeat (first | exact kf_nil | (apply kf_in; focus rfl) | (apply kf_out; focus rfl))) (by repeat (first | exact kl_nil | exact kl_rest (by assumption) rfl | (apply kl_in; focus rfl) | (apply kl_out; focus rfl))) ?_ ?_)
    · exact ⟨by rw [rng6 n4 n5]; rfl, trivial⟩
    · exact trivial
  intro u
  refine sgo ?_
  refine T_cond rfl ?_ ?_ <;> intro h52
  · skip
    obtain ⟨g1, g2, g3, g4⟩ := (leaf_ok hhd h4).nums h52
    have i1 := it_le g1 g2
    have i2 := it_le g3 g4
    refine T_seq ?_
    refine T_draws (by kernel_rfl) (by kernel_rfl) ?_
    refine d1 (yF fa24_0) ?_
    refine d1 (y_as (v' := .int .i64 ((x.op.toNat : Nat) : Int)) (by exact congrArg (Value.int .i64) tn) (yL 1 Tryz.underlying3)) ?_
    refine d1 (y_indexArr (j := x.op.toNat) rfl rfl rfl Tryz.underlying64 (by decide) sz9 (fun _ => by omega)) ?_
    refine d1 (y_load_far rfl rfl (hO.1 x.op.toNat (by omega)) hO.2 Tryz.underlying9 rfl) ?_
    refine d1 (y_bin rfl rfl rfl (fun hg => b_adds (by first | omega | (simp only [List.length_append, List.length_cons, List.length_nil]; omega)))) ?_
    refine d1 (yF fa24_2) ?_
    refine d1 (yL 1 Tryz.underlying3) ?_
    refine d1 (y_call rfl rfl rfl cf30 (fun _ w1 hM => Itoa_any x.lo (by omega) (by omega) w1 (hP.below hM.below))) ?_
    refine d1 (y_bin rfl rfl rfl (fun hg => b_adds (by first | omega | (simp only [List.length_append, List.length_cons, List.length_nil]; omega)))) ?_
    refine d1 (y_assign rfl rfl) ?_
    refine dgs ?_
    refine tx ?_
    refine s1 (yF fa24_0) ?_
    refine s1 (yL 1 Tryz.underlying3) ?_
    refine sr 2 ?_
    refine sg rfl (yF fa24_2) ?_
    refine sg rfl (yL 1 Tryz.underlying3) ?_
    refine sg rfl (yF fa24_3) ?_
    refine sg rfl (yL 1 Tryz.underlying3) ?_
    refine sg rfl (y_bin rfl rfl rfl (fun _ => b_neq)) ?_
    refine s1 (y_or rfl rfl rfl) ?_
    refine sgo ?_
    refine T_cond rfl ?_ ?_ <;> intro h74
    · skip
      refine T_region ?_
      refine sr 1 ?_
      refine s1 (yF fa24_3) ?_
      refine s1 (yL 1 Tryz.underlying3) ?_
      refine s1 (y_call rfl rfl rfl cf30 (fun _ w1 hM => Itoa_any x.hi (by omega) (by omega) w1 (hP.below hM.below))) ?_
      refine s1 (y_bin rfl rfl rfl (fun hg => b_adds (by first | omega | (simp only [List.length_append, List.length_cons, List.length_nil]; omega)))) ?_
      refine s1 (y_bin rfl rfl rfl (fun hg => b_adds (by first | omega | (simp only [List.length_append, List.length_cons, List.length_nil]; omega)))) ?_
      refine sr 1 ?_
      refine sgx ?_
      refine sr 2 ?_
      refine sgo ?_
      refine tr1 hRb fun w hM => ?_
      refine ⟨?_, hM.below⟩
      rw [htl4, leafT, if_neg h38, if_neg h47, if_pos h52, if_pos (lo_hi h74)]; simp
    refine kgx ?_
    refine sr 2 ?_
    refine sgo ?_
    refine tr1 hRb fun w hM => ?_
    refine ⟨?_, hM.below⟩
    rw [htl4, leafT, if_neg h38, if_neg h47, if_pos h52, if_neg (lo_hi2 h74)]; simp
  refine kgs ?_
  refine T_draws (by kernel_rfl) (by kernel_rfl) ?_
  refine d1 (yF fa24_0) ?_
  refine d1 (y_as (v' := .int .i64 ((x.op.toNat : Nat) : Int)) (by exact congrArg (Value.int .i64) tn) (yL 1 Tryz.underlying3)) ?_
  refine d1 (y_indexArr (j := x.op.toNat) rfl rfl rfl Tryz.underlying64 (by decide) sz9 (fun _ => by omega)) ?_
  refine d1 (y_load_far rfl rfl (hO.1 x.op.toNat (by omega)) hO.2 Tryz.underlying9 rfl) ?_
  refine d1 (y_bin rfl rfl rfl (fun hg => b_adds (by first | omega | (simp only [List.length_append, List.length_cons, List.length_nil]; omega)))) ?_
  refine d1 (yF fa24_5) ?_
  refine d1 (yL 1 Tryz.underlying9) ?_
  refine d1 (y_call rfl rfl rfl cf39 (fun hg w _ => value_text_any _ (by first | omega | (simp; omega)) w)) ?_
  refine d1 (y_bin rfl rfl rfl (fun hg => b_adds (by first | omega | (simp only [List.length_append, List.length_cons, List.length_nil]; omega)))) ?_
  refine d1 (y_assign rfl rfl) ?_
  refine dgo ?_
  refine tr1 hRb fun w hM => ?_
  refine ⟨?_, hM.below⟩
  rw [htl4, leafT, if_neg h38, if_neg h47, if_neg (by rw [h52]; decide)]; simp
theorem text_any (x : SC) : TextAt x := SC.ind (Q := TextAt) text_step x
theorem CondText_any (x : SC) (w : World) (hok : x.Ok w) (hO : OW w) (hP : P10 w) :
    Calls Tryz.prog 6 #[x.val] w fun e w' => (∃ s no, e = .returned (.tuple #[str s, .int .i64 no]) ∧ (no = 0 → condNo x = 0 ∧ s = textP x.says ∧ s.length ≤ 1000000)) ∧ Below w.heap.size w w' := by
  refine enter_args (args := [.agg #[.int .i64 x.op, .slice x.ad x.q x.c, .int .i64 x.lo, .int .i64 x.hi, str x.nm, str x.tx]]) (F := _) Tryz.func6 rfl Tryz.ntmps6 rfl rfl ?_
  intro Rb hRb hRn
  refine tx ?_
  refine S_box 1 1 rfl rfl rfl rfl rfl ?_
  intro b1
  refine sr 2 ?_
  refine sgs ?_
  refine tx ?_
  refine s1 (yA 1 rfl Tryz.underlying24 sz24) ?_
  refine s1 (y_call rfl rfl rfl cf14 (fun _ w1 hM => CheckCond_any x w1 (hok.lift hM.below))) ?_
  refine sr 1 ?_
  refine sgx ?_
  refine sr 2 ?_
  refine sgo ?_
  refine T_cond rfl ?_ ?_ <;> intro h9
  · skip
    have h9 : ¬ condNo x = 0 := by simpa using h9
    refine tx ?_
    refine sr 3 ?_
    refine sgo ?_
    refine tr2 hRb fun w hM => ?_
    exact ⟨⟨_, _, rfl, fun h => absurd h h9⟩, hM.below⟩
  have h9 : condNo x = 0 := by simpa using h9
  refine kgx ?_
  refine s1 (yA 1 rfl Tryz.underlying24 sz24) ?_
  refine s1 (y_call rfl rfl rfl cf20 (fun _ w1 hM => text_any x w1 (hok.lift hM.below) (cond_parts2 h9).2 (cond_parts2 h9).1 (hO.below hM.below) (hP.below hM.below))) ?_
  refine sr 1 ?_
  refine sgs ?_
  refine tx ?_
  refine sr 1 ?_
  refine s1 (y_len_str rfl rfl Tryz.underlying9) ?_
  refine sr 1 ?_
  refine sgo ?_
  refine T_cond rfl ?_ ?_ <;> intro h15
  · try simp only [nrm] at h15
    refine tx ?_
    refine sr 2 ?_
    refine sgo ?_
    refine tr2 hRb fun w hM => ?_
    exact ⟨⟨_, _, rfl, (fun h => by cases h)⟩, hM.below⟩
  try simp only [nrm] at h15
  refine kgx ?_
  refine sr 3 ?_
  refine sgo ?_
  refine tr2 hRb fun w hM => ?_
  exact ⟨⟨_, _, rfl, fun _ => ⟨h9, rfl, by omega⟩⟩, hM.below⟩
end Go.Proofs.YtfcedlfeinnhoaaGreatDoor
end
section
namespace Go.Proofs.YtfcedlfeinnhoaaGreatDoor
set_option linter.unusedSimpArgs false
set_option linter.unusedVariables false
set_option maxRecDepth 20000
open Go.RowKit Go.Eng
theorem quo_far : ∀ (m : Nat) (t b : List UInt8) (p : Nat), t.length ≤ m → (quoQ b t p).1.length ≤ b.length + t.length ∧ p ≤ (quoQ b t p).2.p ∧ (quoQ b t p).2.p ≤ p + t.length
  | m, [], b, p, _ => by rw [quoQ.eq_def]; simp
  | 0, _ :: _, _, _, h => by simp at h
  | m + 1, c :: t, b, p, h => by
    have h : t.length ≤ m := by simpa using h
    rw [quoQ.eq_def]
    dsimp only
    split
    · simp only [List.length_cons]; omega
    · split
      · cases t with
        | nil => simp
        | cons e t' =>
          dsimp only
          split
          · have := quo_far m t' (b ++ [e]) (p + 2) (by simp at h; omega)
            simp only [List.length_append, List.length_cons, List.length_nil] at this ⊢
            omega
          · simp only [List.length_cons]; omega
      · have := quo_far m t (b ++ [c]) (p + 1) h
        simp only [List.length_append, List.length_cons, List.length_nil] at this ⊢
        omega
theorem bar_le : ∀ (t : List UInt8) (k : Nat), barLen t k ≤ t.length
  | [], k => Nat.le_refl _
  | c :: t, k => by
    rw [barLen]
    split
    · have := bar_le t (k + 1); simp only [List.length_cons]; omega
    · exact Nat.zero_le _
theorem val_far {s : List UInt8} {r : QS} (h : r.p ≤ s.length) : (valQ s r).1.length ≤ s.length ∧ r.p ≤ (valQ s r).2.p ∧ (valQ s r).2.p ≤ s.length := by
  unfold valQ
  split
  · rename_i hq
    have hl := (isQ_t hq).2.1
    have := quo_far (s.drop (r.p + 1)).length (s.drop (r.p + 1)) [] (r.p + 1) (Nat.le_refl _)
    simp only [List.length_drop, List.length_nil] at this
    omega
  · split
    · simp [h]
    · have := bar_le (s.drop r.p) 0
      rw [List.length_drop] at this
      simp only [List.length_take, List.length_drop]
      omega
theorem take_far {s : List UInt8} : ∀ {t : List UInt8} {r : QS}, r.p ≤ (takeQ s t r).p
  | [], r => Nat.le_refl _
  | c :: t, r => by
    rw [takeQ]
    split
    · exact Nat.le_trans (by show r.p ≤ r.p + 1; omega) (take_far (t := t) (r := ⟨r.p + 1, r.w⟩))
    · exact Nat.le_refl _
theorem take_w {s : List UInt8} : ∀ {t : List UInt8} {r : QS}, (takeQ s t r).w = none → r.w = none ∨ t = []
  | [], r => fun _ => .inr rfl
  | c :: t, r => fun h => by
    rw [takeQ] at h
    split at h
    · rename_i hq; exact .inl (isQ_t hq).1
    · cases h
theorem num_far {s no : List UInt8} {r : QS} (h : r.p ≤ s.length) : r.p ≤ (numQ s no r).2.p := by
  unfold numQ
  by_cases hw : r.w ≠ none
  · rw [if_pos hw]; exact Nat.le_refl _
  · rw [if_neg hw]
    obtain ⟨a1, a2, a3, a4⟩ := dig_facts no (s.drop r.p) [] r.p (fun c hc => (by cases hc)) (by decide)
    dsimp only
    split
    · exact a3
    · exact a3
theorem range_far {s : List UInt8} {o : Int} {r : QS} (h : r.p ≤ s.length) : r.p ≤ (rangeQ s o r).2.p ∧ (rangeQ s o r).2.p ≤ s.length := by
  unfold rangeQ
  have h1 := num_far (no := []) h
  have h2 := (num_facts (no := []) h).2.2
  dsimp only
  split
  · have h3 : (takeQ s [46, 46] (numQ s [] r).2).p ≤ s.length := take_le h2
    have h4 : (numQ s [] r).2.p ≤ (takeQ s [46, 46] (numQ s [] r).2).p := take_far
    exact ⟨Nat.le_trans h1 (Nat.le_trans h4 (num_far h3)), (num_facts h3).2.2⟩
  · exact ⟨h1, h2⟩
/-- a leaf as a row of no kids -/
structure LfOk (s : List UInt8) (p : Nat) : Prop where
  kids : (leafQ s p).1.kids = []
  name : (leafQ s p).1.name.length ≤ s.length
  text : (leafQ s p).1.text.length ≤ s.length
  le : (leafQ s p).2.p ≤ s.length
  far : (leafQ s p).2.w = none → p < (leafQ s p).2.p
theorem leaf_far {s : List UInt8} {p : Nat} (hp : p ≤ s.length) : LfOk s p := by
  have hn := name_le (s := s) (r := ⟨p, none⟩) hp
  obtain ⟨np, nw, hq⟩ : ∃ np nw, nameQ s ⟨p, none⟩ = ⟨np, nw⟩ := ⟨_, _, rfl⟩
  rw [hq] at hn
  have hnp : np ≤ s.length := hn.1
  have hpn : p ≤ np := hn.2
  obtain ⟨wd, hw⟩ : ∃ wd, (s.drop p).take (np - p) = wd := ⟨_, rfl⟩
  have hwl : wd.length ≤ s.length := by rw [← hw, List.length_take, List.length_drop]; omega
  have hle := leafQ_of hq hw
  by_cases h1 : isQ s ⟨np, nw⟩ 61 = true
  · rw [if_pos h1] at hle
    have hlt : np < s.length := (isQ_t h1).2.1
    have hv := val_far (s := s) (r := ⟨np + 1, nw⟩) (by show np + 1 ≤ _; omega)
    have hv2 : np + 1 ≤ (valQ s ⟨np + 1, nw⟩).2.p := hv.2.1
    refine ⟨by rw [hle]; rfl, by rw [hle]; exact hwl, by rw [hle]; exact hv.1, by rw [hle]; exact hv.2.2, fun _ => by rw [hle]; show p < (valQ s ⟨np + 1, nw⟩).2.p; omega⟩
  rw [if_neg h1] at hle
  by_cases h2 : isQ s ⟨np, nw⟩ 58 = false ∨ opOf wd < 0
  · rw [if_pos h2] at hle
    exact ⟨by rw [hle]; rfl, by rw [hle]; exact Nat.zero_le _, by rw [hle]; exact Nat.zero_le _, by rw [hle]; exact hnp, fun h => by rw [hle] at h; cases h⟩
  rw [if_neg h2] at hle
  have h58 : isQ s ⟨np, nw⟩ 58 = true := by
    cases hq : isQ s ⟨np, nw⟩ 58 with
    | true => rfl
    | false => exact absurd (.inl hq) h2
  have hlt : np < s.length := (isQ_t h58).2.1
  have hr : (⟨np + 1, nw⟩ : QS).p ≤ s.length := by show np + 1 ≤ _; omega
  by_cases h3 : opOf wd = 8
  · rw [if_pos h3] at hle
    have hm := name_le (s := s) (r := ⟨np + 1, nw⟩) hr
    have hm2 : np + 1 ≤ (nameQ s ⟨np + 1, nw⟩).p := hm.2
    exact ⟨by rw [hle]; rfl, by rw [hle]; show (List.take _ _).length ≤ _; rw [List.length_take, List.length_drop]; omega, by rw [hle]; exact Nat.zero_le _, by rw [hle]; exact hm.1, fun _ => by rw [hle]; show p < (nameQ s ⟨np + 1, nw⟩).p; omega⟩
  rw [if_neg h3] at hle
  by_cases h4 : rngB (opOf wd) = true
  · rw [if_pos h4] at hle
    have hm := range_far (o := opOf wd) hr
    have hm2 : np + 1 ≤ (rangeQ s (opOf wd) ⟨np + 1, nw⟩).2.p := hm.1
    have hk : (rangeQ s (opOf wd) ⟨np + 1, nw⟩).1.kids = [] ∧ (rangeQ s (opOf wd) ⟨np + 1, nw⟩).1.name = [] ∧ (rangeQ s (opOf wd) ⟨np + 1, nw⟩).1.text = [] := by
      unfold rangeQ; dsimp only; split <;> exact ⟨rfl, rfl, rfl⟩
    exact ⟨by rw [hle]; exact hk.1, by rw [hle, hk.2.1]; exact Nat.zero_le _, by rw [hle, hk.2.2]; exact Nat.zero_le _, by rw [hle]; exact hm.2, fun _ => by rw [hle]; omega⟩
  · rw [if_neg h4] at hle
    have hv := val_far (s := s) hr
    have hv2 : np + 1 ≤ (valQ s ⟨np + 1, nw⟩).2.p := hv.2.1
    exact ⟨by rw [hle]; rfl, by rw [hle]; exact Nat.zero_le _, by rw [hle]; exact hv.1, by rw [hle]; exact hv.2.2, fun _ => by rw [hle]; show p < (valQ s ⟨np + 1, nw⟩).2.p; omega⟩
theorem join_far {s : List UInt8} {o : Int} {p : Nat} (hp : p ≤ s.length) : (joinQ s o p).2.p ≤ s.length ∧ ((joinQ s o p).2.w = none → p < (joinQ s o p).2.p) := by
  have h1 : (takeQ s [32] ⟨p, none⟩).p ≤ s.length := take_le hp
  have h2 : (takeQ s kOrS (takeQ s [32] ⟨p, none⟩)).p ≤ s.length := take_le h1
  have h3 : (takeQ s [32] ⟨p, none⟩).p ≤ (takeQ s kOrS (takeQ s [32] ⟨p, none⟩)).p := take_far
  have h4 : (takeQ s [32] ⟨p, none⟩).w = none → p < (takeQ s [32] ⟨p, none⟩).p := fun h => by
    rw [takeQ] at h ⊢
    split
    · rw [takeQ]; show p < p + 1; omega
    · rename_i hq; rw [if_neg hq] at h; cases h
  have h5 : (takeQ s kOrS (takeQ s [32] ⟨p, none⟩)).w = none → (takeQ s [32] ⟨p, none⟩).w = none := fun h => (take_w h).resolve_right (by simp)
  unfold joinQ
  dsimp only
  split
  · exact ⟨h2, fun h => by have := h4 (h5 h); show p < (takeQ s kOrS (takeQ s [32] ⟨p, none⟩)).p; omega⟩
  · split
    · exact ⟨h2, fun h => by have := h4 (h5 h); show p < (takeQ s kOrS (takeQ s [32] ⟨p, none⟩)).p; omega⟩
    · exact ⟨h1, h4⟩
/-! ### Steps of the whole -/
abbrev g0Q : GQ := ⟨0, false, []⟩
/-- after some steps the reader stands here -/
def OnQ (s : List UInt8) (X : Nat → PC ⊕ Nat) : Prop := ∃ n, ∀ f, readQ s (f + n) [g0Q] 0 = X f
theorem OnQ.start (s : List UInt8) : OnQ s fun f => readQ s f [g0Q] 0 := ⟨0, fun _ => rfl⟩
theorem OnQ.push {s : List UInt8} {o : List GQ} {p p1 : Nat} {no : Bool} (h : OnQ s fun f => readQ s f o p) (hb : isQ s ⟨p, none⟩ 45 = no) (hp : p1 = p + if no = true then 1 else 0) (hq : isQ s ⟨p1, none⟩ 40 = true) : OnQ s fun f => readQ s f (⟨0, no, []⟩ :: o) (p1 + 1) := by
  obtain ⟨n, h⟩ := h
  refine ⟨n + 1, fun f => ?_⟩
  rw [show f + (n + 1) = f + 1 + n by omega, h]
  dsimp only
  rw [read_eq hb hp, if_pos hq]
theorem OnQ.leafE {s : List UInt8} {o : List GQ} {p p1 k : Nat} {no : Bool} (h : OnQ s fun f => readQ s f o p) (hb : isQ s ⟨p, none⟩ 45 = no) (hp : p1 = p + if no = true then 1 else 0) (hq : isQ s ⟨p1, none⟩ 40 = false) (hw : (leafQ s p1).2.w = some k) : OnQ s fun _ => .inr k := by
  obtain ⟨n, h⟩ := h
  refine ⟨n + 1, fun f => ?_⟩
  rw [show f + (n + 1) = f + 1 + n by omega, h]
  dsimp only
  rw [read_eq hb hp, if_neg (by rw [hq]; decide), hw]
theorem OnQ.leafN {s : List UInt8} {o : List GQ} {p p1 : Nat} {no : Bool} (h : OnQ s fun f => readQ s f o p) (hb : isQ s ⟨p, none⟩ 45 = no) (hp : p1 = p + if no = true then 1 else 0) (hq : isQ s ⟨p1, none⟩ 40 = false) (hw : (leafQ s p1).2.w = none) : OnQ s fun f => goQ s f o (leafQ s p1).1 no (leafQ s p1).2.p := by
  obtain ⟨n, h⟩ := h
  refine ⟨n + 1, fun f => ?_⟩
  rw [show f + (n + 1) = f + 1 + n by omega, h]
  dsimp only
  rw [read_eq hb hp, if_neg (by rw [hq]; decide), hw]
theorem OnQ.eq {s : List UInt8} {X Y : Nat → PC ⊕ Nat} (h : OnQ s X) (e : ∀ f, X f = Y f) : OnQ s Y := by
  obtain ⟨n, h⟩ := h
  exact ⟨n, fun f => (h f).trans (e f)⟩
theorem go_fin {s : List UInt8} {f p : Nat} {g : GQ} {c : PC} {no : Bool} (hp : p = s.length) : goQ s f [g] c no p = .inl (doneQ ⟨g.op, g.no, g.kids ++ [notQ no c]⟩ true).1 := by
  unfold goQ
  rw [putQ.eq_def]
  dsimp only
  rw [if_pos ⟨hp, rfl⟩]
theorem go_join2 {s : List UInt8} {f p : Nat} {g : GQ} {o : List GQ} {c : PC} {no : Bool} (h1 : ¬ (p = s.length ∧ o = [])) (h2 : isQ s ⟨p, none⟩ 41 = false ∨ o = []) :
    goQ s f (g :: o) c no p = match (joinQ s g.op p).2.w with
      | some k => .inr k
      | none => readQ s f (⟨(joinQ s g.op p).1, g.no, g.kids ++ [notQ no c]⟩ :: o) (joinQ s g.op p).2.p := by
  unfold goQ
  rw [putQ.eq_def]
  dsimp only
  rw [if_neg h1, if_pos h2]
  cases (joinQ s g.op p).2.w <;> rfl
theorem go_shut {s : List UInt8} {f p : Nat} {g : GQ} {o : List GQ} {c : PC} {no : Bool} (h1 : isQ s ⟨p, none⟩ 41 = true) (h2 : o ≠ []) :
    goQ s f (g :: o) c no p = if (doneQ ⟨g.op, g.no, g.kids ++ [notQ no c]⟩ false).2 = true then goQ s f o (doneQ ⟨g.op, g.no, g.kids ++ [notQ no c]⟩ false).1 g.no (p + 1) else .inr p := by
  unfold goQ
  rw [putQ.eq_def]
  dsimp only
  rw [if_neg (fun e => h2 e.2), if_neg (by rintro (e | e); (rw [h1] at e; cases e); exact h2 e)]
  by_cases hd : (doneQ ⟨g.op, g.no, g.kids ++ [notQ no c]⟩ false).2 = true
  · rw [if_pos hd, if_pos hd]
  · rw [if_neg hd, if_neg hd]
end Go.Proofs.YtfcedlfeinnhoaaGreatDoor
end
section
namespace Go.Proofs.YtfcedlfeinnhoaaGreatDoor
set_option linter.unusedSimpArgs false
set_option linter.unusedVariables false
set_option maxRecDepth 20000
open Go.RowKit Go.Eng
theorem begq_any (b : Nat) (s t : List UInt8) (r : QS) (ht : t.length ≤ 1000000) (hs : s.length ≤ 1000000) (hr : r.p ≤ s.length) (w : World) (h0 : w.cell? ⟨b, 0, none⟩ = some (str s) ∧ b < w.heap.size) (h1 : w.cell? ⟨b, 1, none⟩ = some (.int .i64 (r.p : Int)) ∧ b < w.heap.size) (h2 : w.cell? ⟨b, 2, none⟩ = some (.int .i64 (wI r.w)) ∧ b < w.heap.size) :
    Calls Tryz.prog 85 #[selfQ b, str t] w fun e w' => e = .returned (.bool (begQ s r t)) ∧ Below w.heap.size w w' := by
  refine enter_args (args := [selfQ b, str t]) (F := _) Tryz.func85 rfl Tryz.ntmps85 rfl rfl ?_
  intro Rb hRb hRn
  refine tx ?_
  refine sr 1 ?_
  refine sgs ?_
  refine T_draws (by kernel_rfl) (by kernel_rfl) ?_
  refine d1 (y_move rfl rfl) ?_
  refine d1 (y_nilCheck rfl rfl) ?_
  refine d1 (yF fa46_2) ?_
  refine d1 (y_load_far rfl rfl h2.1 h2.2 Tryz.underlying3 rfl) ?_
  refine d1 (y_bin rfl rfl rfl (fun _ => b_lss)) ?_
  refine d1 (y_move rfl rfl) ?_
  refine dg rfl (y_move rfl rfl) ?_
  refine dg rfl (y_nilCheck rfl rfl) ?_
  refine dg rfl (yF fa46_0) ?_
  refine dg rfl (y_load_far rfl rfl h0.1 h0.2 Tryz.underlying9 rfl) ?_
  refine dg rfl (y_len_str rfl rfl Tryz.underlying9) ?_
  refine dg rfl (y_move rfl rfl) ?_
  refine dg rfl (y_nilCheck rfl rfl) ?_
  refine dg rfl (yF fa46_1) ?_
  refine dg rfl (y_load_far rfl rfl h1.1 h1.2 Tryz.underlying3 rfl) ?_
  refine dg rfl (y_bin rfl rfl rfl (fun hg => b_subv (((s.length : Nat) : Int) - (r.p : Int)) (by simp only [Bool.true_and, Bool.and_eq_true, beq_iff_eq, decide_eq_true_eq, decide_eq_false_iff_not, Int.not_lt, Int.not_le] at hg; omega) (by simp only [Bool.true_and, Bool.and_eq_true, beq_iff_eq, decide_eq_true_eq, decide_eq_false_iff_not, Int.not_lt, Int.not_le] at hg; omega))) ?_
  refine dg rfl (y_move rfl rfl) ?_
  refine dg rfl (y_len_str rfl rfl Tryz.underlying9) ?_
  refine dg rfl (y_bin rfl rfl rfl (fun _ => b_geq)) ?_
  refine d1 (y_and rfl rfl rfl) ?_
  refine d1 (y_move rfl rfl) ?_
  refine dg rfl (y_move rfl rfl) ?_
  refine dg rfl (y_nilCheck rfl rfl) ?_
  refine dg rfl (yF fa46_0) ?_
  refine dg rfl (y_load_far rfl rfl h0.1 h0.2 Tryz.underlying9 rfl) ?_
  refine dg rfl (y_move rfl rfl) ?_
  refine dg rfl (y_nilCheck rfl rfl) ?_
  refine dg rfl (yF fa46_1) ?_
  refine dg rfl (y_load_far rfl rfl h1.1 h1.2 Tryz.underlying3 rfl) ?_
  refine dg rfl (y_move rfl rfl) ?_
  refine dg rfl (y_nilCheck rfl rfl) ?_
  refine dg rfl (yF fa46_1) ?_
  refine dg rfl (y_load_far rfl rfl h1.1 h1.2 Tryz.underlying3 rfl) ?_
  refine dg rfl (y_move rfl rfl) ?_
  refine dg rfl (y_len_str rfl rfl Tryz.underlying9) ?_
  refine dg rfl (y_bin rfl rfl rfl (fun hg => b_addv (((r.p + t.length : Nat) : Int)) (by simp only [Bool.true_and, Bool.and_eq_true, beq_iff_eq, decide_eq_true_eq, decide_eq_false_iff_not, Int.not_lt, Int.not_le] at hg; omega) (by simp only [Bool.true_and, Bool.and_eq_true, beq_iff_eq, decide_eq_true_eq, decide_eq_false_iff_not, Int.not_lt, Int.not_le] at hg; omega))) ?_
  refine dg rfl (y_strSub rfl rfl rfl rfl Tryz.underlying9 (fun hg => by simp only [Bool.true_and, Bool.and_eq_true, beq_iff_eq, decide_eq_true_eq, decide_eq_false_iff_not, Int.not_lt, Int.not_le] at hg; omega)) ?_
  refine dg rfl (y_move rfl rfl) ?_
  refine dg rfl (y_bin rfl rfl rfl (fun _ => b_eqls)) ?_
  refine d1 (y_as (v' := .bool (begQ s r t)) (by exact congrArg Value.bool (beg_eq s t r hr)) (y_and rfl rfl rfl)) ?_
  refine d1 (y_assign rfl rfl) ?_
  refine dgo ?_
  refine tr1 hRb fun w hM => ?_
  exact ⟨rfl, hM.below⟩
/-- a group as it lies in the list of those that are open -/
structure GM where
  op : Int
  no : Bool
  A : Option Addr
  c : Nat
  kids : List SC
def GM.enc (g : GM) : List Value := [.int .i64 g.op, .bool g.no, .slice g.A g.kids.length g.c]
def GM.says (g : GM) : GQ := ⟨g.op, g.no, g.kids.map SC.says⟩
def GM.row (g : GM) : Row := ⟨24, 6, .slice g.A g.kids.length g.c, g.kids.length, g.kids.flatMap SC.enc⟩
theorem GM.enc_len (g : GM) : g.enc.length = 3 := rfl
/-- one cell of the last element is set -/
theorem set_last {α : Type} {enc : α → List Value} {n : Nat} (hs : ∀ x, (enc x).length = n) (l : List α) (a a' : α) (k : Nat) (v : Value) (hv : (enc a).set k v = enc a') : ((l ++ [a]).flatMap enc).set (l.length * n + k) v = (l ++ [a']).flatMap enc := by
  have hl : (l.flatMap enc).length = l.length * n := flat_lenN hs l
  rw [List.flatMap_append, List.flatMap_append, List.set_append_right _ _ (by omega), hl, Nat.add_sub_cancel_left]
  simp [hv]
theorem last_at {α : Type} (l : List α) (a : α) : (l ++ [a])[l.length]? = some a := by simp
theorem setL {l : List GM} {g g' : GM} {k m : Nat} {v : Value} (hm : m = l.length * 3 + k) (hv : g.enc.set k v = g'.enc) : ((l ++ [g]).flatMap GM.enc).set m v = (l ++ [g']).flatMap GM.enc := by
  rw [hm]; exact set_last GM.enc_len l g g' k v hv
theorem lastLt {l : List GM} {g : GM} {k m : Nat} (hm : m = l.length * 3 + k) (hk : k < 3) : m < ((l ++ [g]).flatMap GM.enc).length := by
  rw [flat_lenN GM.enc_len, List.length_append, List.length_singleton]; omega
abbrev opnI (A : Option Addr) (c : Nat) (l : List GM) (g : GM) : It := .own 66 3 (.slice A (l.length + 1) c) (l.length + 1) ((l ++ [g]).flatMap GM.enc)
theorem join_any {w0 : World} {K : HL} (hK : FromK K) (b : Nat) (s : List UInt8) (p : Nat) (A : Option Addr) (c : Nat) (l : List GM) (g : GM) (hs : s.length ≤ 1000000) (hp : p ≤ s.length) (w : World) (hM0 : Mem w0 ([(901, rdN b s p (-1)), (902, opnI A c l g)] ++ K) w) :
    Calls Tryz.prog 43 #[selfQ b, .pointer (at_ A l.length 3)] w fun e w' => ∃ z : Unit, e = .returned (.tuple #[]) ∧ True ∧ Mem w0 ([(901, rdI b s (joinQ s g.op p).2), (902, opnI A c l ⟨(joinQ s g.op p).1, g.no, g.A, g.c, g.kids⟩)] ++ K) w' := by
  have h1 : (takeQ s [32] ⟨p, none⟩).p ≤ s.length := take_le hp
  obtain ⟨gop, gno, gA, gc, gk⟩ := g
  refine enterM_args (args := [selfQ b, .pointer (at_ A l.length 3)]) (F := _) hM0 Tryz.func43 rfl Tryz.ntmps43 rfl rfl ?_
  intro Rb hRb hRn
  refine tx ?_
  refine sr 1 ?_
  refine S_callM 5 [(901, 901)] (X := Unit) rfl rfl rfl rfl rfl rfl rfl cf84 rfl (fun _ => .tuple #[]) (fun _ => True) (fun _ => [(901, rdI b s (takeQ s [32] ⟨p, none⟩))]) (fun _ => rfl) (fun _ => rfl) (fun K1 hK1 w hM => take_any hK1 b s [32] ⟨p, none⟩ (by decide) hs w hM) ?_
  rintro ⟨⟩ _
  refine sgo ?_
  refine T_block ?_
  refine tx ?_
  refine sr 1 ?_
  refine s1 (y_nilCheckOwn 902 rfl rfl rfl (fun _ => Nat.lt_succ_self _)) ?_
  refine s1 (y_fieldOwn 902 rfl rfl rfl (fun _ => Nat.lt_succ_self _) fa66_0) ?_
  refine s1 (y_load_cellOwn 902 rfl rfl rfl (fun _ => Nat.succ_pos _) (fun _ => flat_at GM.enc_len (last_at l _) 0 (.int .i64 gop) rfl) Tryz.underlying3 rfl) ?_
  refine sr 2 ?_
  refine sgo ?_
  refine T_cond rfl ?_ ?_ <;> intro h9
  · try simp only [nrm] at h9
    refine T_region ?_
    refine sr 1 ?_
    refine S_callM 16 [(901, 901)] (X := Unit) rfl rfl rfl rfl rfl rfl rfl cf84 rfl (fun _ => .tuple #[]) (fun _ => True) (fun _ => [(901, rdI b s (takeQ s kOrS (takeQ s [32] ⟨p, none⟩)))]) (fun _ => rfl) (fun _ => rfl) (fun K1 hK1 w hM => take_any hK1 b s kOrS (takeQ s [32] ⟨p, none⟩) (by decide) hs w hM) ?_
    rintro ⟨⟩ _
    refine S_nil (fun a w hF hM => hRn a w (post0 rfl (fun w hM => ?_) a w hF hM))
    subst h9
    have e : joinQ s 2 p = (2, takeQ s kOrS (takeQ s [32] ⟨p, none⟩)) := rfl
    rw [e]; exact ⟨(), rfl, trivial, hM.keep (ks := [(0, 999)]) (by repeat (first | exact kl_rest (by assumption) rfl | (apply kl_in; focus rfl))) _ ⟨rfl, rfl, trivial⟩⟩
  try simp only [nrm] at h9
  refine tx ?_
  refine sr 1 ?_
  refine s1 (y_nilCheckOwn 902 rfl rfl rfl (fun _ => Nat.lt_succ_self _)) ?_
  refine s1 (y_fieldOwn 902 rfl rfl rfl (fun _ => Nat.lt_succ_self _) fa66_0) ?_
  refine s1 (y_load_cellOwn 902 rfl rfl rfl (fun _ => Nat.succ_pos _) (fun _ => flat_at GM.enc_len (last_at l _) 0 (.int .i64 gop) rfl) Tryz.underlying3 rfl) ?_
  refine sr 2 ?_
  refine sg rfl (y_move rfl rfl) ?_
  refine sg rfl (y_call rfl rfl rfl cf85 (fun _ w hM => begq_any b s kOrS (takeQ s [32] ⟨p, none⟩) (by decide) hs h1 w (rdc (hM.sat 901 _ rfl)).1 (rdc (hM.sat 901 _ rfl)).2.1 (rdc (hM.sat 901 _ rfl)).2.2)) ?_
  refine s1 (y_and rfl rfl rfl) ?_
  refine sr 1 ?_
  refine sgo ?_
  refine T_cond rfl ?_ ?_ <;> intro h17
  · skip
    refine tx ?_
    refine sr 1 ?_
    refine S_callM 28 [(901, 901)] (X := Unit) rfl rfl rfl rfl rfl rfl rfl cf84 rfl (fun _ => .tuple #[]) (fun _ => True) (fun _ => [(901, rdI b s (takeQ s kOrS (takeQ s [32] ⟨p, none⟩)))]) (fun _ => rfl) (fun _ => rfl) (fun K1 hK1 w hM => take_any hK1 b s kOrS (takeQ s [32] ⟨p, none⟩) (by decide) hs w hM) ?_
    rintro ⟨⟩ _
    refine sgr ?_
    refine sr 1 ?_
    refine s1 (y_nilCheckOwn 902 rfl rfl rfl (fun _ => Nat.lt_succ_self _)) ?_
    refine s1 (y_fieldOwn 902 rfl rfl rfl (fun _ => Nat.lt_succ_self _) fa66_0) ?_
    refine S_storeOwn 902 rfl rfl rfl rfl rfl rfl sz3 rfl rfl ?_ (xs' := (l ++ [(⟨2, gno, gA, gc, gk⟩ : GM)]).flatMap GM.enc) ?_ ?_
    · exact lastLt rfl (by decide)
    · exact setL rfl rfl
    refine S_nil (fun a w hF hM => hRn a w (post0 rfl (fun w hM => ?_) a w hF hM))
    have e : joinQ s gop p = (2, takeQ s kOrS (takeQ s [32] ⟨p, none⟩)) := by unfold joinQ; dsimp only; rw [if_neg h9, if_pos h17]
    rw [e]; exact ⟨(), rfl, trivial, hM.keep (ks := [(0, 999)]) (by repeat (first | exact kl_rest (by assumption) rfl | (apply kl_in; focus rfl))) _ ⟨rfl, rfl, trivial⟩⟩
  refine T_region ?_
  refine sr 1 ?_
  refine s1 (y_nilCheckOwn 902 rfl rfl rfl (fun _ => Nat.lt_succ_self _)) ?_
  refine s1 (y_fieldOwn 902 rfl rfl rfl (fun _ => Nat.lt_succ_self _) fa66_0) ?_
  refine S_storeOwn 902 rfl rfl rfl rfl rfl rfl sz3 rfl rfl ?_ (xs' := (l ++ [(⟨1, gno, gA, gc, gk⟩ : GM)]).flatMap GM.enc) ?_ ?_
  · exact lastLt rfl (by decide)
  · exact setL rfl rfl
  refine S_nil (fun a w hF hM => hRn a w (post0 rfl (fun w hM => ?_) a w hF hM))
  have e : joinQ s gop p = (1, takeQ s [32] ⟨p, none⟩) := by unfold joinQ; dsimp only; rw [if_neg h9, if_neg (by rw [h17]; decide)]
  rw [e]; exact ⟨(), rfl, trivial, hM.keep (ks := [(0, 999)]) (by repeat (first | exact kl_rest (by assumption) rfl | (apply kl_in; focus rfl))) _ ⟨rfl, rfl, trivial⟩⟩
/-- what a group is, in memory -/
def doneS (g : GM) (whole : Bool) : SC × Bool := if 1 < g.kids.length then (.mk g.op g.A g.kids.length g.c g.kids 0 0 [] [], true) else (g.kids.headD sc0, whole || g.no && decide ((g.kids.headD sc0).op = 3))
theorem done_says (g : GM) (whole : Bool) (h : 0 < g.kids.length) : doneQ g.says whole = ((doneS g whole).1.says, (doneS g whole).2) := by
  obtain ⟨op, no, A, c, kids⟩ := g
  unfold doneQ doneS GM.says
  dsimp only
  rw [List.length_map]
  by_cases h1 : 1 < kids.length
  · rw [if_pos h1, if_pos h1, SC.says_mk]
  · rw [if_neg h1, if_neg h1]
    match kids, h with
    | k :: r, _ =>
      show (k.says, whole || no && decide (k.says.op = 3)) = _
      rw [says_op]; rfl
theorem hd_kid {l : List SC} (h : 0 < l.length) : l[0]? = some (l.headD sc0) := by
  match l, h with
  | k :: r, _ => rfl
theorem done_any (g : GM) (whole : Bool) (w : World) (hk : SlT SC.enc 6 w g.A g.kids.length g.kids) (h0 : 0 < g.kids.length) :
    Calls Tryz.prog 42 #[.agg #[.int .i64 g.op, .bool g.no, .slice g.A g.kids.length g.c], .bool whole] w fun e w' => e = .returned (.tuple #[(doneS g whole).1.val, .bool (doneS g whole).2]) ∧ Below w.heap.size w w' := by
  refine enter_args (args := [.agg #[.int .i64 g.op, .bool g.no, .slice g.A g.kids.length g.c], .bool whole]) (F := _) Tryz.func42 rfl Tryz.ntmps42 rfl rfl ?_
  intro Rb hRb hRn
  refine tx ?_
  refine S_box 2 2 rfl rfl rfl rfl rfl ?_
  intro b2
  refine S_alloc 4 4 rfl rfl rfl rfl z24 ?_
  intro b4
  refine sr 1 ?_
  refine sgs ?_
  refine tx ?_
  refine s1 (yF fa66_2) ?_
  refine s1 (yL 2 Tryz.underlying22) ?_
  refine s1 (y_len_slice rfl rfl Tryz.underlying22) ?_
  refine sr 1 ?_
  refine sgo ?_
  refine T_cond rfl ?_ ?_ <;> intro h9
  · try simp only [nrm] at h9
    have h1 : 1 < g.kids.length := by omega
    refine tx ?_
    refine s1 (yF fa66_0) ?_
    refine s1 (yL 2 Tryz.underlying3) ?_
    refine s1 (yF fa66_2) ?_
    refine s1 (yL 2 Tryz.underlying22) ?_
    refine s1 (y_build (zv := .agg #[.int .i64 0, .slice none 0 0, .int .i64 0, .int .i64 0, .string ⟨#[]⟩, .string ⟨#[]⟩]) (pl := [(0, 1), (1, 1), (2, 1), (3, 1), (4, 1), (5, 1)]) (out := [_, _, .int .i64 0, .int .i64 0, .string ⟨#[]⟩, .string ⟨#[]⟩]) rfl rfl Tryz.underlying24 z24 (by kernel_rfl) rfl) ?_
    refine S_store 4 rfl rfl rfl rfl rfl rfl sz24 rfl rfl ?_
    refine sr 1 ?_
    refine sgo ?_
    refine T_ret (fun a w hF hM => hRb a w (post_cell 4 rfl rfl rfl rfl Tryz.underlying24 rfl (by exact sz24) (fun w hM => ?_) a w hF hM))
    refine ⟨?_, hM.below⟩
    unfold doneS
    rw [if_pos h1]; rfl
  try simp only [nrm] at h9
  have h1 : ¬ 1 < g.kids.length := by omega
  refine kgs ?_
  refine T_perm [0, 1, 2, 3, 4, 5, 6, 7, 8, 9, 10, 11, 12, 13, 14, 15, 16, 17, 18] [true, true, true, true, true, true, true, true, true, true, true, true, true, true, true, true, true, false, true] [0, 1, 3, 7, 0, 16, 48, 112, 240, 496, 1008, 2032, 4080, 8176, 16368, 32752, 65520, 511, 262143] [(1, [2]), (7, [2]), (10, [2])] (by kernel_rfl) (by kernel_rfl) (by kernel_rfl) rfl (by kernel_rfl) ?_
  refine Rf_ 0 15 rfl rfl rfl rfl rfl _ trivial (Y.z (yF fa66_2) rfl) ?_
  refine Rf_ 1 16 rfl rfl rfl rfl rfl _ ⟨rfl, trivial⟩ (Y.z (yL 2 Tryz.underlying22) rfl) ?_
  refine Rf_ 2 17 rfl rfl rfl rfl rfl _ trivial (Y.z (y_indexAddr rfl rfl rfl Tryz.underlying22 sz24 (fun hg => hk.isSome (by omega)) (fun _ => h0)) rfl) ?_
  refine Rf_ 3 18 rfl rfl rfl rfl rfl _ trivial (Y.z (y_loadT rfl rfl hk (fun _ => rfl) (fun _ => hd_kid h0) Tryz.underlying24 rfl sz24) rfl) ?_
  refine Rf_ 4 19 rfl rfl rfl rfl rfl _ trivial (Y.z (y_move rfl rfl) rfl) ?_
  refine Rf_ 5 20 rfl rfl rfl rfl rfl _ trivial (Y.z (y_move rfl rfl) rfl) ?_
  refine Rfg_ 6 21 rfl rfl rfl rfl rfl rfl rfl rfl _ trivial (Y.z (yF fa66_1) rfl) ?_
  refine Rfg_ 7 22 rfl rfl rfl rfl rfl rfl rfl rfl _ ⟨rfl, trivial⟩ (Y.z (yL 2 Tryz.underlying4) rfl) ?_
  refine Rfg_ 8 23 rfl rfl rfl rfl rfl rfl rfl rfl _ trivial (Y.z (y_move rfl rfl) rfl) ?_
  refine Rfg_ 9 24 rfl rfl rfl rfl rfl rfl rfl rfl _ trivial (Y.z (yF fa66_2) rfl) ?_
  refine Rfg_ 10 25 rfl rfl rfl rfl rfl rfl rfl rfl _ ⟨rfl, trivial⟩ (Y.z (yL 2 Tryz.underlying22) rfl) ?_
  refine Rfg_ 11 26 rfl rfl rfl rfl rfl rfl rfl rfl _ trivial (Y.z (y_indexAddr rfl rfl rfl Tryz.underlying22 sz24 (fun hg => hk.isSome (by simp only [Bool.true_and, Bool.and_eq_true, beq_iff_eq, decide_eq_true_eq, decide_eq_false_iff_not, Int.not_lt, Int.not_le] at hg; omega)) (fun _ => h0)) rfl) ?_
  refine Rfg_ 12 27 rfl rfl rfl rfl rfl rfl rfl rfl _ trivial (Y.z (y_fieldEl rfl rfl hk.rd (fun _ => h0) fa24_0) rfl) ?_
  refine Rfg_ 13 28 rfl rfl rfl rfl rfl rfl rfl rfl _ trivial (Y.z (y_load_fT rfl rfl hk (fun _ => rfl) (fun _ => hd_kid h0) rfl Tryz.underlying3 rfl) rfl) ?_
  refine Rfg_ 14 29 rfl rfl rfl rfl rfl rfl rfl rfl _ trivial (Y.z (y_bin rfl rfl rfl (fun _ => b_eql)) rfl) ?_
  refine Rfg_ 15 30 rfl rfl rfl rfl rfl rfl rfl rfl _ trivial (Y.z (y_and rfl rfl rfl) rfl) ?_
  refine Rf_ 16 31 rfl rfl rfl rfl rfl _ trivial (Y.z (y_or rfl rfl rfl) rfl) ?_
  refine R_chain 17 rfl rfl ?_
  refine S_store 4 rfl rfl rfl rfl rfl rfl sz24 rfl rfl ?_
  refine R_next ⟨.inl rfl, .inl rfl, .inr ⟨rfl, trivial⟩, trivial⟩ ?_
  refine Rf_ 18 5 rfl rfl rfl rfl rfl _ trivial (Y.z (y_assign rfl rfl) rfl) ?_
  refine R_go (fun _ _ h => h) ?_
  refine T_ret (fun a w hF hM => hRb a w (post_cell 4 rfl rfl rfl rfl Tryz.underlying24 rfl (by exact sz24) (fun w hM => ?_) a w hF hM))
  refine ⟨?_, hM.below⟩
  unfold doneS
  rw [if_neg h1]; rfl
end Go.Proofs.YtfcedlfeinnhoaaGreatDoor
end
section
namespace Go.Proofs.YtfcedlfeinnhoaaGreatDoor
set_option linter.unusedSimpArgs false
set_option linter.unusedVariables false
set_option maxRecDepth 20000
open Go.RowKit Go.Eng
def stkQ (l : List GM) (g : GM) : List GQ := g.says :: (l.map GM.says).reverse
theorem stk_snoc (l : List GM) (g g' : GM) : stkQ (l ++ [g]) g' = g'.says :: stkQ l g := by simp [stkQ]
/-- the rows of kids lie apart -/
def DisG (l : List GM) : Prop := l.Pairwise fun a b => ∀ x, b.row.v.ownBlock = some x → a.row.v.ownBlock ≠ some x
structure RdI (w0 : World) (s : List UInt8) (l : List GM) (g : GM) (ws : List Row) (p : Nat) : Prop where
  le : p ≤ s.length
  dep : l.length ≤ p
  len : ∀ x ∈ l, x.kids.length ≤ p
  ok : ∀ x ∈ l, ∀ k ∈ x.kids, Sees w0 ws fun w => k.Ok w
  okg : ∀ k ∈ g.kids, Sees w0 ws fun w => k.Ok w
  dis : DisG l
abbrev gm0 (no : Bool) : GM := ⟨0, no, none, 0, []⟩
theorem RdI.start (w0 : World) (s : List UInt8) : RdI w0 s [] (gm0 false) [] 0 :=
  ⟨Nat.zero_le _, Nat.le_refl _, (fun x h => by cases h), (fun x h => by cases h), (fun k h => by cases h), List.Pairwise.nil⟩
theorem RdI.push {w0 : World} {s : List UInt8} {l : List GM} {g : GM} {ws : List Row} {p q : Nat} (hi : RdI w0 s l g ws p) (hg : g.kids.length ≤ p) (hap : ∀ r ∈ l.map GM.row, ∀ x, g.row.v.ownBlock = some x → r.v.ownBlock ≠ some x) (hp : p < q) (hq : q ≤ s.length) (no : Bool) : RdI w0 s (l ++ [g]) (gm0 no) ws q := by
  refine ⟨hq, by rw [List.length_append, List.length_singleton]; have := hi.dep; omega, fun x hx => ?_, fun x hx k hk => ?_, fun k hk => by (cases hk), ?_⟩
  · rcases List.mem_append.1 hx with h | h
    · have := hi.len x h; omega
    · rw [List.mem_singleton.1 h]; omega
  · rcases List.mem_append.1 hx with h | h
    · exact hi.ok x h k hk
    · rw [List.mem_singleton.1 h] at hk; exact hi.okg k hk
  · refine List.pairwise_append.2 ⟨hi.dis, List.pairwise_singleton _ _, fun a ha b hb => ?_⟩
    rw [List.mem_singleton.1 hb]
    exact hap _ (List.mem_map_of_mem ha)
theorem RdI.far {w0 : World} {s : List UInt8} {l : List GM} {g : GM} {ws rs : List Row} {p q : Nat} (hi : RdI w0 s l g ws p) (hp : p ≤ q) (hq : q ≤ s.length) (hr : ∀ r ∈ ws, r ∈ rs) : RdI w0 s l g rs q :=
  ⟨hq, Nat.le_trans hi.dep hp, fun x hx => Nat.le_trans (hi.len x hx) hp, fun x hx k hk => (hi.ok x hx k hk).more hr, fun k hk => (hi.okg k hk).more hr, hi.dis⟩
theorem RdI.put {w0 : World} {s : List UInt8} {l : List GM} {g : GM} {ws : List Row} {p : Nat} (hi : RdI w0 s l g ws p) {x : SC} (hx : Sees w0 ws fun w => x.Ok w) (op : Int) (A : Option Addr) (c : Nat) : RdI w0 s l ⟨op, g.no, A, c, g.kids ++ [x]⟩ ws p :=
  ⟨hi.le, hi.dep, hi.len, hi.ok, fun k hk => by
    rcases List.mem_append.1 hk with h | h
    · exact hi.okg k h
    · rw [List.mem_singleton.1 h]; exact hx, hi.dis⟩
theorem RdI.pop {w0 : World} {s : List UInt8} {l : List GM} {g g1 : GM} {ws : List Row} {p : Nat} (hi : RdI w0 s (l ++ [g1]) g ws p) : RdI w0 s l g1 ws p := by
  have hd := hi.dep
  rw [List.length_append, List.length_singleton] at hd
  exact ⟨hi.le, by omega, fun x hx => hi.len x (List.mem_append_left _ hx), fun x hx => hi.ok x (List.mem_append_left _ hx), hi.ok g1 (List.mem_append_right _ (List.mem_singleton.2 rfl)), (List.pairwise_append.1 hi.dis).1⟩
theorem RdI.apart {w0 : World} {s : List UInt8} {l : List GM} {g g1 : GM} {ws : List Row} {p : Nat} (hi : RdI w0 s (l ++ [g1]) g ws p) : ∀ r ∈ l.map GM.row, ∀ x, g1.row.v.ownBlock = some x → r.v.ownBlock ≠ some x := fun r hr x hx => by
  obtain ⟨a, ha, rfl⟩ := List.mem_map.1 hr
  exact (List.pairwise_append.1 hi.dis).2.2 a ha g1 (List.mem_singleton.2 rfl) x hx
/-- a condition, made the kid of a Not or not -/
structure NtR (w0 : World) (ws : List Row) (x : SC) (no : Bool) where
  sc : SC
  rs : List Row
  says : sc.says = notQ no x.says
  more : ∀ r ∈ ws, r ∈ rs
  ok : Sees w0 rs fun w => sc.Ok w
abbrev row1 (b : Nat) (x : SC) : Row := ⟨24, 6, .slice (some ⟨b, 0, none⟩) 1 1, 1, [x].flatMap SC.enc⟩
def NtR.yes {w0 : World} {ws : List Row} {x : SC} {no : Bool} (hx : Sees w0 ws fun w => x.Ok w) (b : Nat) (hn : no = true) : NtR w0 ws x no where
  sc := .mk 3 (some ⟨b, 0, none⟩) 1 1 [x] 0 0 [] []
  rs := ws ++ [row1 b x]
  says := by rw [SC.says_mk, notQ, if_pos hn]; rfl
  more := fun r h => List.mem_append_left _ h
  ok := fun w hb hr => .mk (row_ok (hr (row1 b x) (List.mem_append_right _ (List.mem_singleton.2 rfl))) rfl) (by decide) (by decide) (by decide) (by decide) (fun k hk => by rw [List.mem_singleton.1 hk]; exact hx w hb fun r h => hr r (List.mem_append_left _ h))
def NtR.nay {w0 : World} {ws : List Row} {x : SC} {no : Bool} (hx : Sees w0 ws fun w => x.Ok w) (hn : no = false) : NtR w0 ws x no where
  sc := x
  rs := ws
  says := by rw [notQ, if_neg (by rw [hn]; decide)]
  more := fun r h => h
  ok := hx
structure AdQ (s : List UInt8) (p : Nat) (no : Bool) where
  p1 : Nat
  eq : p1 = p + if no = true then 1 else 0
  le : p1 ≤ s.length
  ge : p ≤ p1
def AdQ.yes {s : List UInt8} {p : Nat} {no : Bool} (hn : no = true) (hp : p < s.length) : AdQ s p no := ⟨p + 1, by rw [if_pos hn], hp, Nat.le_succ _⟩
def AdQ.nay {s : List UInt8} {p : Nat} {no : Bool} (hn : no = false) (hp : p ≤ s.length) : AdQ s p no := ⟨p, by rw [if_neg (by rw [hn]; decide)]; rfl, hp, Nat.le_refl _⟩
def scQ (c : PC) : SC := .mk c.op none 0 0 [] c.lo c.hi c.name c.text
theorem scQ_says {c : PC} (h : c.kids = []) : (scQ c).says = c := by
  cases c
  have h : _ = [] := h
  rw [scQ, SC.says_mk, PC.kids] at *
  simp_all [PC.op, PC.lo, PC.hi, PC.name, PC.text]
theorem scQ_ok {c : PC} {w : World} (h1 : c.name.length ≤ 1000000) (h2 : c.text.length ≤ 1000000) : (scQ c).Ok w :=
  .mk ⟨⟨⟨rfl, fun h => absurd h (Nat.lt_irrefl 0)⟩, rfl⟩, Nat.le_refl 0⟩ (by decide) (by decide) (by omega) (by omega) (fun k hk => by cases hk)
def muQ (s : List UInt8) (p : Nat) : Option Nat → Nat
  | none => s.length - p + 1
  | some _ => 0
theorem mu_lt {s : List UInt8} {p q : Nat} {w : Option Nat} (h : w = none → p < q ∧ q ≤ s.length) : muQ s q w < muQ s p none := by
  cases w with
  | none => have := h rfl; show s.length - q + 1 < s.length - p + 1; omega
  | some k => show 0 < s.length - p + 1; omega
theorem wr_t {w : Option Nat} (h : decide (wI w < 0) = true) : w = none := by
  rw [wI_neg] at h; exact of_decide_eq_true h
theorem wr_f {w : Option Nat} (h : decide (wI w < 0) = false) : ∃ k, w = some k := by
  rw [wI_neg] at h
  cases w with
  | none => simp at h
  | some k => exact ⟨k, rfl⟩
/-- where the reading stands at a round's head -/
structure OutQ (w0 : World) (s : List UInt8) (l : List GM) (g : GM) (ws : List Row) (p : Nat) (wr : Option Nat) : Prop where
  i : RdI w0 s l g ws p
  len : g.kids.length ≤ p
  on : wr = none → OnQ s fun f => readQ s f (stkQ l g) p
  bad : ∀ k, wr = some k → OnQ s fun _ => .inr k
theorem OutQ.start (w0 : World) (s : List UInt8) : OutQ w0 s [] (gm0 false) [] 0 none := ⟨.start w0 s, Nat.le_refl _, fun _ => .start s, fun _ h => by cases h⟩
theorem OutQ.push {w0 : World} {s : List UInt8} {l : List GM} {g : GM} {ws : List Row} {p : Nat} {no : Bool} (h : OutQ w0 s l g ws p none) (hap : ∀ r ∈ l.map GM.row, ∀ x, g.row.v.ownBlock = some x → r.v.ownBlock ≠ some x) (hn : isQ s ⟨p, none⟩ 45 = no) (y : AdQ s p no) (hq : isQ s ⟨y.p1, none⟩ 40 = true) : OutQ w0 s (l ++ [g]) (gm0 no) ws (y.p1 + 1) none := by
  have h1 : y.p1 < s.length := (isQ_t hq).2.1
  have h2 := y.ge
  exact ⟨h.i.push h.len hap (by omega) h1 no, Nat.zero_le _, fun _ => by rw [stk_snoc]; exact (h.on rfl).push hn y.eq hq, fun _ h => by cases h⟩
/-- where it stands within -/
structure InQ (w0 : World) (s : List UInt8) (p0 : Nat) (l : List GM) (g : GM) (ws : List Row) (p : Nat) (wr : Option Nat) (x : SC) (no : Bool) : Prop where
  i : RdI w0 s l g ws p
  len : g.kids.length ≤ p
  ok : Sees w0 ws fun w => x.Ok w
  on : wr = none → g.kids.length + 1 ≤ p ∧ p0 < p ∧ OnQ s fun f => goQ s f (stkQ l g) x.says no p
  bad : ∀ k, wr = some k → OnQ s fun _ => .inr k
theorem InQ.start {w0 : World} {s : List UInt8} {l : List GM} {g : GM} {ws : List Row} {p : Nat} {no : Bool} (h : OutQ w0 s l g ws p none) (hs : s.length ≤ 1000000) (hn : isQ s ⟨p, none⟩ 45 = no) (y : AdQ s p no) (hq : isQ s ⟨y.p1, none⟩ 40 = false) (hge : p ≤ (leafQ s y.p1).2.p) :
    InQ w0 s p l g ws (leafQ s y.p1).2.p (leafQ s y.p1).2.w (scQ (leafQ s y.p1).1) no := by
  have hl := leaf_far y.le
  have h2 := y.ge
  have h3 := h.len
  exact ⟨h.i.far hge hl.le fun _ h => h, by omega, fun w _ _ => scQ_ok (Nat.le_trans hl.name hs) (Nat.le_trans hl.text hs), fun hw => ⟨by have := hl.far hw; omega, by have := hl.far hw; omega, by rw [scQ_says hl.kids]; exact (h.on rfl).leafN hn y.eq hq hw⟩, fun k hw => (h.on rfl).leafE hn y.eq hq hw⟩
theorem InQ.out {w0 : World} {s : List UInt8} {p0 : Nat} {l : List GM} {g : GM} {ws : List Row} {p k : Nat} {x : SC} {no : Bool} (h : InQ w0 s p0 l g ws p (some k) x no) : OutQ w0 s l g ws p (some k) := ⟨h.i, h.len, (fun h => by cases h), h.bad⟩
theorem kids_says {g : GM} {x : SC} {op : Int} {A : Option Addr} {c : Nat} {no : Bool} {y : PC} (h : x.says = notQ no y) : (GM.says ⟨op, g.no, A, c, g.kids ++ [x]⟩) = ⟨op, g.no, g.says.kids ++ [notQ no y]⟩ := by
  simp [GM.says, h]
theorem InQ.fin {w0 : World} {s : List UInt8} {p0 : Nat} {g : GM} {ws : List Row} {p : Nat} {x : SC} {no : Bool} (h : InQ w0 s p0 [] g ws p none x no) (z : NtR w0 ws x no) (hp : p = s.length) (A : Option Addr) (c : Nat) : OnQ s fun _ => .inl (doneS ⟨g.op, g.no, A, c, g.kids ++ [z.sc]⟩ true).1.says :=
  (h.on rfl).2.2.eq fun f => by
    rw [show stkQ [] g = [g.says] from rfl, go_fin hp]
    have h1 := done_says ⟨g.op, g.no, A, c, g.kids ++ [z.sc]⟩ true (by simp)
    rw [kids_says z.says] at h1
    show Sum.inl (doneQ ⟨g.op, g.no, g.says.kids ++ [notQ no x.says]⟩ true).1 = _
    rw [h1]
theorem InQ.join {w0 : World} {s : List UInt8} {p0 : Nat} {l : List GM} {g : GM} {ws : List Row} {p : Nat} {x : SC} {no : Bool} (h : InQ w0 s p0 l g ws p none x no) (z : NtR w0 ws x no) (h1 : ¬ (p = s.length ∧ l = [])) (h2 : isQ s ⟨p, none⟩ 41 = false ∨ l = []) (A : Option Addr) (c : Nat) (hge : p ≤ (joinQ s g.op p).2.p) :
    OutQ w0 s l ⟨(joinQ s g.op p).1, g.no, A, c, g.kids ++ [z.sc]⟩ z.rs (joinQ s g.op p).2.p (joinQ s g.op p).2.w := by
  obtain ⟨o1, o2, o3⟩ := h.on rfl
  have hj := join_far (s := s) (o := g.op) h.i.le
  have e : ((l.map GM.says).reverse = []) ↔ l = [] := by simp
  have o4 := o3.eq (Y := fun f => match (joinQ s g.op p).2.w with
      | some k => .inr k
      | none => readQ s f (stkQ l ⟨(joinQ s g.op p).1, g.no, A, c, g.kids ++ [z.sc]⟩) (joinQ s g.op p).2.p) fun f => by
    rw [stkQ, go_join2 (by rw [e]; exact h1) (by rw [e]; exact h2), stkQ, kids_says z.says]
    rfl
  refine ⟨((h.i.far (Nat.le_refl _) h.i.le z.more).put z.ok _ A c).far hge hj.1 fun _ h => h, by rw [List.length_append, List.length_singleton]; omega, fun hw => ?_, fun k hw => ?_⟩
  · rw [hw] at o4; exact o4
  · rw [hw] at o4; exact o4
theorem InQ.shut {w0 : World} {s : List UInt8} {p0 : Nat} {l : List GM} {g g1 : GM} {ws : List Row} {p : Nat} {x : SC} {no : Bool} (h : InQ w0 s p0 (l ++ [g1]) g ws p none x no) (z : NtR w0 ws x no) (h1 : isQ s ⟨p, none⟩ 41 = true) (A : Option Addr) (c : Nat) {d : SC × Bool} (hd : doneS ⟨g.op, g.no, A, c, g.kids ++ [z.sc]⟩ false = d) :
    OnQ s fun f => if d.2 = true then goQ s f (stkQ l g1) d.1.says g.no (p + 1) else .inr p :=
  (h.on rfl).2.2.eq fun f => by
    have h2 := done_says ⟨g.op, g.no, A, c, g.kids ++ [z.sc]⟩ false (by simp)
    rw [kids_says z.says, hd] at h2
    have e : (GQ.mk g.says.op g.says.no (g.says.kids ++ [notQ no x.says])) = ⟨g.op, g.no, g.says.kids ++ [notQ no x.says]⟩ := rfl
    rw [stk_snoc, go_shut h1 (by simp [stkQ]), e, h2]
    rfl
theorem InQ.bad2 {w0 : World} {s : List UInt8} {p0 : Nat} {l : List GM} {g g1 : GM} {ws : List Row} {p : Nat} {x : SC} {no : Bool} (h : InQ w0 s p0 (l ++ [g1]) g ws p none x no) (z : NtR w0 ws x no) (h1 : isQ s ⟨p, none⟩ 41 = true) (A : Option Addr) (c : Nat) {d : SC × Bool} (hd : doneS ⟨g.op, g.no, A, c, g.kids ++ [z.sc]⟩ false = d) (hf : d.2 = false) :
    OutQ w0 s (l ++ [g1]) ⟨g.op, g.no, A, c, g.kids ++ [z.sc]⟩ z.rs p (some p) := by
  have o1 := (h.on rfl).1
  have o4 := h.shut z h1 A c hd
  have o4 := o4.eq fun f => if_neg (by rw [hf]; decide)
  exact ⟨(h.i.far (Nat.le_refl _) h.i.le z.more).put z.ok _ A c, by rw [List.length_append, List.length_singleton]; omega, (fun h => by cases h), fun k hk => by cases hk; exact o4⟩
theorem doneS_ok {w0 : World} {g : GM} {rs ws : List Row} {whole : Bool} (h0 : 0 < g.kids.length) (hlen : g.kids.length ≤ 1000000) (hk : ∀ k ∈ g.kids, Sees w0 rs fun w => k.Ok w) (hr : ∀ r ∈ rs, r ∈ ws) (hg : g.row ∈ ws) : Sees w0 ws fun w => (doneS g whole).1.Ok w := by
  obtain ⟨op, no, A, c, kids⟩ := g
  unfold doneS
  split
  · exact fun w hb h => .mk (row_ok (h _ hg) rfl) (by show kids.length ≤ _; have : kids.length ≤ 1000000 := hlen; omega) (by show kids.length * 80 ≤ _; have : kids.length ≤ 1000000 := hlen; omega) (by decide) (by decide) (fun k hk2 => hk k hk2 w hb fun r h1 => h r (hr r h1))
  · match kids, h0 with
    | k :: r, _ => exact (hk k List.mem_cons_self).more hr
theorem InQ.pop {w0 : World} {s : List UInt8} {p0 : Nat} {l : List GM} {g g1 : GM} {ws : List Row} {p : Nat} {x : SC} {no : Bool} (hs : s.length ≤ 1000000) (h : InQ w0 s p0 (l ++ [g1]) g ws p none x no) (z : NtR w0 ws x no) (h1 : isQ s ⟨p, none⟩ 41 = true) (A : Option Addr) (c : Nat) {d : SC × Bool} (hd : doneS ⟨g.op, g.no, A, c, g.kids ++ [z.sc]⟩ false = d) (hf : d.2 = true) :
    InQ w0 s p0 l g1 (z.rs ++ [GM.row ⟨g.op, g.no, A, c, g.kids ++ [z.sc]⟩]) (p + 1) none d.1 g.no := by
  have hlt := (isQ_t h1).2.1
  have hlt : p < s.length := hlt
  obtain ⟨o1, o2, o3⟩ := h.on rfl
  have o4 := h.shut z h1 A c hd
  have o4 := o4.eq fun f => if_pos hf
  have hi := (h.i.far (Nat.le_refl _) h.i.le z.more).put z.ok g.op A c
  have hg1 := hi.len g1 (List.mem_append_right _ (List.mem_singleton.2 rfl))
  refine ⟨hi.pop.far (Nat.le_succ _) hlt fun r h => List.mem_append_left _ h, by omega, ?_, fun _ => ⟨by omega, by omega, o4⟩, fun _ h => by cases h⟩
  rw [← hd]
  exact doneS_ok (g := ⟨g.op, g.no, A, c, g.kids ++ [z.sc]⟩) (rs := z.rs) (by show 0 < (g.kids ++ [z.sc]).length; simp) (by show (g.kids ++ [z.sc]).length ≤ _; rw [List.length_append, List.length_singleton]; omega) hi.okg (fun r h => List.mem_append_left _ h) (List.mem_append_right _ (List.mem_singleton.2 rfl))
end Go.Proofs.YtfcedlfeinnhoaaGreatDoor
end
section
namespace Go.Proofs.YtfcedlfeinnhoaaGreatDoor
set_option linter.unusedSimpArgs false
set_option linter.unusedVariables false
set_option maxRecDepth 20000
open Go.RowKit Go.Eng
theorem done2_any (g : GM) (whole : Bool) {d : SC × Bool} (hd : doneS g whole = d) (w : World) (hk : SlT SC.enc 6 w g.A g.kids.length g.kids) (h0 : 0 < g.kids.length) :
    Calls Tryz.prog 42 #[.agg #[.int .i64 g.op, .bool g.no, .slice g.A g.kids.length g.c], .bool whole] w fun e w' => e = .returned (.tuple #[.agg #[.int .i64 d.1.op, .slice d.1.ad d.1.q d.1.c, .int .i64 d.1.lo, .int .i64 d.1.hi, str d.1.nm, str d.1.tx], .bool d.2]) ∧ Below w.heap.size w w' := by
  rw [← hd]; exact done_any g whole w hk h0
structure RdR where
  sc : SC
  rs : List Row
  p : Nat
  w : Option Nat
structure RdOk (w0 : World) (s : List UInt8) (z : RdR) : Prop where
  yes : z.w = none → OnQ s fun _ => .inl z.sc.says
  no : ∀ k, z.w = some k → OnQ s fun _ => .inr k
  ok : Sees w0 z.rs fun w => z.sc.Ok w
theorem leaf_ge {s : List UInt8} {p : Nat} (hp : p ≤ s.length) : p ≤ (leafQ s p).2.p := by
  have hn := name_le (s := s) (r := ⟨p, none⟩) hp
  obtain ⟨np, nw, hq⟩ : ∃ np nw, nameQ s ⟨p, none⟩ = ⟨np, nw⟩ := ⟨_, _, rfl⟩
  rw [hq] at hn
  have hpn : p ≤ np := hn.2
  obtain ⟨wd, hw⟩ : ∃ wd, (s.drop p).take (np - p) = wd := ⟨_, rfl⟩
  have hle := leafQ_of hq hw
  cases hw2 : (leafQ s p).2.w with
  | none => exact Nat.le_of_lt ((leaf_far hp).far hw2)
  | some k =>
    rw [hle]
    by_cases h1 : isQ s ⟨np, nw⟩ 61 = true
    · rw [if_pos h1]
      have hlt : np < s.length := (isQ_t h1).2.1
      have hv := (val_far (s := s) (r := ⟨np + 1, nw⟩) (by show np + 1 ≤ _; omega)).2.1
      have hv : np + 1 ≤ (valQ s ⟨np + 1, nw⟩).2.p := hv
      show p ≤ (valQ s ⟨np + 1, nw⟩).2.p; omega
    rw [if_neg h1]
    by_cases h2 : isQ s ⟨np, nw⟩ 58 = false ∨ opOf wd < 0
    · rw [if_pos h2]; exact hpn
    rw [if_neg h2]
    have h58 : isQ s ⟨np, nw⟩ 58 = true := by
      cases hq : isQ s ⟨np, nw⟩ 58 with
      | true => rfl
      | false => exact absurd (.inl hq) h2
    have hlt : np < s.length := (isQ_t h58).2.1
    have hr : (⟨np + 1, nw⟩ : QS).p ≤ s.length := by show np + 1 ≤ _; omega
    split
    · have hm : np + 1 ≤ (nameQ s ⟨np + 1, nw⟩).p := (name_le (s := s) (r := ⟨np + 1, nw⟩) hr).2
      show p ≤ (nameQ s ⟨np + 1, nw⟩).p; omega
    · split
      · have hm : np + 1 ≤ (rangeQ s (opOf wd) ⟨np + 1, nw⟩).2.p := (range_far (o := opOf wd) hr).1
        omega
      · have hv : np + 1 ≤ (valQ s ⟨np + 1, nw⟩).2.p := (val_far (s := s) hr).2.1
        show p ≤ (valQ s ⟨np + 1, nw⟩).2.p; omega
theorem join_ge {s : List UInt8} {o : Int} {p : Nat} : p ≤ (joinQ s o p).2.p := by
  have h1 : p ≤ (takeQ s [32] ⟨p, none⟩).p := take_far (r := ⟨p, none⟩)
  have h3 : (takeQ s [32] ⟨p, none⟩).p ≤ (takeQ s kOrS (takeQ s [32] ⟨p, none⟩)).p := take_far
  unfold joinQ
  dsimp only
  split
  · exact Nat.le_trans h1 h3
  · split
    · exact Nat.le_trans h1 h3
    · exact h1
theorem w1_t {p n l : Nat} (h : (decide ((p : Int) = ((n : Nat) : Int)) && decide (((l + 1 : Nat) : Int) = 1)) = true) : p = n ∧ l = 0 := by
  simp only [Bool.and_eq_true, decide_eq_true_eq] at h; omega
theorem w1_f {p n l : Nat} (h : (decide ((p : Int) = ((n : Nat) : Int)) && decide (((l + 1 : Nat) : Int) = 1)) = false) : ¬ (p = n ∧ l = 0) := by
  simp only [Bool.and_eq_false_iff, decide_eq_false_iff_not] at h; omega
theorem w2_t {x : Bool} {l : Nat} (h : (!x || decide (((l + 1 : Nat) : Int) = 1)) = true) : x = false ∨ l = 0 := by
  simp only [Bool.or_eq_true, Bool.not_eq_true', decide_eq_true_eq] at h
  rcases h with h | h
  · exact .inl h
  · right; omega
theorem w2_f {x : Bool} {l : Nat} (h : (!x || decide (((l + 1 : Nat) : Int) = 1)) = false) : x = true ∧ l ≠ 0 := by
  simp only [Bool.or_eq_false_iff, Bool.not_eq_false', decide_eq_false_iff_not] at h
  exact ⟨h.1, by omega⟩
theorem sc0Q_ok (w : World) : sc0.Ok w := .mk ⟨⟨⟨rfl, fun h => absurd h (Nat.lt_irrefl 0)⟩, rfl⟩, Nat.le_refl 0⟩ (by decide) (by decide) (by decide) (by decide) (fun k hk => by cases hk)
theorem S_unbank {P : Program} {w0 : World} {n : Nat} {ops : Array Oper} {l : List Oper} {F : FL} {L : HL} {Q : Exit → Act → World → Prop} {rs : List Row} {t : TypeId} {s q : Nat} {v : Value} {xs : List Value} (m i : Nat) (rs' : List Row) (hm : L.get m = some (.many rs)) (hmi : Nat.beq m i = false) (hs : (v.ownBlock = none ∧ ∀ w, (It.own t s v q xs).sat w0.heap.size w) ∨ (⟨t, s, v, q, xs⟩ : Row) ∈ rs) (hr : ∀ r ∈ rs', r ∈ rs) (hd : ∀ r ∈ rs', ∀ b, v.ownBlock = some b → r.v.ownBlock ≠ some b)
    (h : S P w0 n ops l F ((i, .own t s v q xs) :: (m, .many rs') :: L) Q) : S P w0 n ops l F L Q := fun a w hF hM => h a w hF (hM.unbank hm (by intro e; subst e; simp at hmi) (hs.imp (fun x => ⟨x.1, x.2 w⟩) id) hr hd)
theorem cutI {A : Option Addr} {c : Nat} {l : List GM} {g x : GM} : some (It.own 66 3 (.slice A (l.length + 1) c) (l.length + 1) ((((l ++ [g]) ++ [x]).flatMap GM.enc).take ((l.length + 1) * 3))) = some (opnI A c l g) := by
  rw [List.flatMap_append (xs := l ++ [g]), List.take_left' (by rw [flat_lenN GM.enc_len, List.length_append]; rfl)]
theorem snoc_of {α : Type} {l : List α} (h : l.length ≠ 0) : ∃ m a, l = m ++ [a] := by
  rcases List.eq_nil_or_concat l with rfl | ⟨m, a, rfl⟩
  · exact absurd rfl h
  · exact ⟨m, a, by simp⟩
set_option maxHeartbeats 3200000 in
theorem read_any {w0 : World} {K : HL} (hK : FromK K) (b : Nat) (s : List UInt8) (hs : s.length ≤ 1000000) (hE : ErrV w0) (hO : OW w0) (w : World) (hM0 : Mem w0 ([(901, rdN b s 0 (-1)), (900, .many [])] ++ K) w) :
    Calls Tryz.prog 21 #[selfQ b] w fun e w' => ∃ z : RdR, e = .returned z.sc.val ∧ RdOk w0 s z ∧ Mem w0 ([(901, rdN b s z.p (wI z.w)), (900, .many z.rs)] ++ K) w' := by
  refine enterM_args (args := [selfQ b]) (F := _) hM0 Tryz.func21 rfl Tryz.ntmps21 rfl rfl ?_
  intro Rb hRb hRn
  refine T_many0 950 ?_
  refine tx ?_
  refine S_alloc 2 2 rfl rfl rfl rfl z24 ?_
  intro b2
  refine sgx ?_
  refine s1 (y_build (zv := .agg #[.int .i64 0, .bool false, .slice none 0 0]) (pl := [(0, 1), (1, 1), (2, 1)]) (out := [.int .i64 0, .bool false, .slice none 0 0]) rfl rfl Tryz.underlying66 z66 (by kernel_rfl) rfl) ?_
  refine S_nilSlice 951 (e := 24) (size := 6) ?_
  refine S_buildSlice 13 13 rfl rfl rfl rfl rfl Tryz.underlying67 inf66 rfl (by decide) (by decide) rfl rfl (by decide) rfl (_) rfl ?_
  intro b13
  refine sr 1 ?_
  refine sgs ?_
  refine T_block ?_
  refine lK7 (kf := [(3, 11), (14, 134)]) (kl := [(3, 11), (13, 134), (900, 901), (950, 951)]) (fun (A : Option Addr) (c : Nat) (l : List GM) (g : GM) (ws : List Row) (p : Nat) (wr : Option Nat) => [(3, true, .slice A (l.length + 1) c)]) (fun (A : Option Addr) (c : Nat) (l : List GM) (g : GM) (ws : List Row) (p : Nat) (wr : Option Nat) => [(901, rdN b s p (wI wr)), (13, opnI A c l g), (951, .own 24 6 (.slice g.A g.kids.length g.c) g.kids.length (g.kids.flatMap SC.enc)), (950, .many (l.map GM.row)), (900, .many ws)]) (fun (A : Option Addr) (c : Nat) (l : List GM) (g : GM) (ws : List Row) (p : Nat) (wr : Option Nat) => OutQ w0 s l g ws p wr) (fun (A : Option Addr) (c : Nat) (l : List GM) (g : GM) (ws : List Row) (p : Nat) (wr : Option Nat) => muQ s p wr) (some ⟨b13, 0, none⟩) 1 [] (gm0 false) [] 0 none ?_ ?_ ?_ ?_
  · exact OutQ.start w0 s
  · exact ⟨rfl, trivial⟩
  · exact ⟨rfl, rfl, rfl, rfl, rfl, trivial⟩
  rintro A c l g ws p wr hi
  refine T_seq ?_
  refine tx ?_
  refine sr 1 ?_
  refine s1 (y_nilCheck rfl rfl) ?_
  refine s1 (yF fa46_2) ?_
  refine s1 (yL 901 Tryz.underlying3) ?_
  refine sr 1 ?_
  refine sgo ?_
  refine T_cond rfl ?_ ?_ <;> intro h18
  · skip
    obtain rfl := wr_t h18
    refine kgo ?_
    refine T_block ?_
    refine tx ?_
    refine sr 1 ?_
    refine s1 (y_call rfl rfl rfl cf40 (fun _ w hM => isq_any b s ⟨p, none⟩ 45 w (rdc (hM.sat 901 _ rfl)).1 (rdc (hM.sat 901 _ rfl)).2.1 (rdc (hM.sat 901 _ rfl)).2.2)) ?_
    refine sr 1 ?_
    refine sgs ?_
    refine tx ?_
    refine sr 1 ?_
    refine sgo ?_
    refine T_mid (kf := [(22, 28)]) (kl := [(22, 28), (901, 901)]) (fun y : AdQ s p (isQ s ⟨p, none⟩ 45) => []) (fun y : AdQ s p (isQ s ⟨p, none⟩ 45) => [(901, rdN b s y.p1 (-1))]) (by repeat (first | exact kf_nil | (apply kf_in; focus rfl) | (apply kf_out; focus rfl))) (by repeat (first | exact kl_nil | exact kl_rest (by assumption) rfl | (apply kl_in; focus rfl) | (apply kl_out; focus rfl))) ?_ ?_
    · skip
      refine T_cond rfl ?_ ?_ <;> intro h21
      · skip
        have hlt0 : p < s.length := (isQ_t h21).2.1
        refine T_region ?_
        refine sr 1 ?_
        refine s1 (y_nilCheck rfl rfl) ?_
        refine s1 (yF fa46_1) ?_
        refine s1 (yL 901 Tryz.underlying3) ?_
        refine s1 (y_bin rfl rfl rfl (fun hg => b_addv (((p + 1 : Nat) : Int)) (by omega) (by omega))) ?_
        refine s1 (y_nilCheck rfl rfl) ?_
        refine s1 (yF fa46_1) ?_
        refine S_store 901 rfl rfl rfl rfl rfl rfl sz3 rfl rfl ?_
        refine S_nil (mid_end (kf := [(22, 28)]) (kl := [(22, 28), (901, 901)]) (AdQ.yes h21 (isQ_t h21).2.1) (by repeat (first | exact kf_nil | (apply kf_in; focus rfl) | (apply kf_out; focus rfl))) (by repeat (first | exact kl_nil | exact kl_rest (by assumption) rfl | (apply kl_in; focus rfl) | (apply kl_out; focus rfl))) ?_ ?_)
        · exact trivial
        · exact ⟨rfl, trivial⟩
      refine T_skip (mid_end (kf := [(22, 28)]) (kl := [(22, 28), (901, 901)]) (AdQ.nay h21 hi.i.le) (by repeat (first | exact kf_nil | (apply kf_in; focus rfl) | (apply kf_out; focus rfl))) (by repeat (first | exact kl_nil | exact kl_rest (by assumption) rfl | (apply kl_in; focus rfl) | (apply kl_out; focus rfl))) ?_ ?_)
      · exact trivial
      · exact ⟨rfl, trivial⟩
    intro y
    refine sgs ?_
    refine tx ?_
    refine sr 1 ?_
    refine s1 (y_call rfl rfl rfl cf40 (fun _ w hM => isq_any b s ⟨y.p1, none⟩ 40 w (rdc (hM.sat 901 _ rfl)).1 (rdc (hM.sat 901 _ rfl)).2.1 (rdc (hM.sat 901 _ rfl)).2.2)) ?_
    refine sgo ?_
    refine T_cond rfl ?_ ?_ <;> intro h30
    · skip
      have hlt1 : y.p1 < s.length := (isQ_t h30).2.1
      have hd1 := hi.i.dep
      have hg1 := y.ge
      refine tx ?_
      refine sr 1 ?_
      refine s1 (y_nilCheck rfl rfl) ?_
      refine s1 (yF fa46_1) ?_
      refine s1 (yL 901 Tryz.underlying3) ?_
      refine s1 (y_bin rfl rfl rfl (fun hg => b_addv (((y.p1 + 1 : Nat) : Int)) (by omega) (by omega))) ?_
      refine s1 (y_nilCheck rfl rfl) ?_
      refine s1 (yF fa46_1) ?_
      refine S_store 901 rfl rfl rfl rfl rfl rfl sz3 rfl rfl ?_
      refine sgx ?_
      refine S_known (p := ∀ r ∈ l.map GM.row, ∀ x, g.row.v.ownBlock = some x → r.v.ownBlock ≠ some x) (fun w hM => hM.apart_row (m := 950) (i := 951) rfl rfl rfl) fun hap => ?_
      refine S_bank [(951, 951), (950, 950)] 950 951 rfl rfl rfl rfl (by repeat (first | exact kl_nil | exact kl_rest (by assumption) rfl | (apply kl_in; focus rfl) | (apply kl_out; focus rfl))) ?_
      refine S_nilSlice 951 (e := 24) (size := 6) ?_
      refine sr 2 ?_
      refine s1 (y_build (zv := .agg #[.int .i64 0, .bool false, .slice none 0 0]) (pl := [(0, 1), (1, 1), (2, 1)]) (out := [.int .i64 0, _, .slice none 0 0]) rfl rfl Tryz.underlying66 z66 (by kernel_rfl) rfl) ?_
      refine S_buildSlice 41 41 rfl rfl rfl rfl rfl Tryz.underlying67 inf66 rfl (by decide) (by decide) rfl rfl (by decide) rfl (_) rfl ?_
      intro b41
      obtain ⟨i42, hi42, hz42, hs42, hy42⟩ := info_parts inf66
      refine S_append 42 13 41 rfl rfl rfl rfl rfl rfl rfl rfl Tryz.underlying67 hi42 hz42 hs42 hy42 rfl (by decide) (by decide) rfl ?_ ?_ ((l ++ [g]).length + 1) (((l ++ [g]) ++ [gm0 (isQ s ⟨p, none⟩ 45)]).flatMap GM.enc) ?_ ?_ ?_
      · (simp only [maxLen]; omega)
      · omega
      · rw [List.length_append]; rfl
      · rw [List.flatMap_append (xs := l ++ [g])]; rfl
      intro A42 c42
      refine sr 1 ?_
      refine sgo ?_
      refine T_exit (nK7 (kf := [(3, 11), (14, 134)]) (kl := [(3, 11), (13, 134), (900, 901), (950, 951)]) A42 c42 (l ++ [g]) (gm0 (isQ s ⟨p, none⟩ 45)) ws (y.p1 + 1) none ?_ ?_ ?_ ?_)
      · exact mu_lt fun _ => ⟨by omega, hlt1⟩
      · exact hi.push hap rfl y h30
      · exact ⟨rfl, trivial⟩
      · exact ⟨rfl, rfl, rfl, by rw [List.map_append]; rfl, rfl, trivial⟩
    refine kgx ?_
    refine sr 1 ?_
    refine S_callM 44 [(901, 901)] (X := Unit) rfl rfl rfl rfl rfl rfl rfl cf41 rfl (fun _ => .agg #[.int .i64 (leafQ s y.p1).1.op, .slice none 0 0, .int .i64 (leafQ s y.p1).1.lo, .int .i64 (leafQ s y.p1).1.hi, str (leafQ s y.p1).1.name, str (leafQ s y.p1).1.text]) (fun _ => True) (fun _ => [(901, rdI b s (leafQ s y.p1).2)]) (fun _ => rfl) (fun _ => rfl) (fun K1 hK1 w hM => leaf_any hK1 b s y.p1 hs y.le hE hO w hM) ?_
    rintro ⟨⟩ _
    refine S_alloc 5 5 rfl rfl rfl rfl z24 ?_
    intro b5
    refine S_store 5 rfl rfl rfl rfl rfl rfl sz24 rfl rfl ?_
    refine sgo ?_
    refine T_block ?_
    refine lK9 (kf := [(3, 4), (6, 11), (45, 134)]) (kl := [(3, 11), (13, 13), (45, 134), (900, 901), (950, 951)]) (fun (A2 : Option Addr) (c2 : Nat) (l2 : List GM) (g2 : GM) (ws2 : List Row) (p2 : Nat) (wr2 : Option Nat) (cv : SC) (no : Bool) => [(3, true, .slice A2 (l2.length + 1) c2), (4, true, .bool no)]) (fun (A2 : Option Addr) (c2 : Nat) (l2 : List GM) (g2 : GM) (ws2 : List Row) (p2 : Nat) (wr2 : Option Nat) (cv : SC) (no : Bool) => [(901, rdN b s p2 (wI wr2)), (5, .blk b5 (IsBox [.int .i64 cv.op, .slice cv.ad cv.q cv.c, .int .i64 cv.lo, .int .i64 cv.hi, str cv.nm, str cv.tx] 24)), (13, opnI A2 c2 l2 g2), (951, .own 24 6 (.slice g2.A g2.kids.length g2.c) g2.kids.length (g2.kids.flatMap SC.enc)), (950, .many (l2.map GM.row)), (900, .many ws2)]) (fun (A2 : Option Addr) (c2 : Nat) (l2 : List GM) (g2 : GM) (ws2 : List Row) (p2 : Nat) (wr2 : Option Nat) (cv : SC) (no : Bool) => InQ w0 s p l2 g2 ws2 p2 wr2 cv no) (fun (A2 : Option Addr) (c2 : Nat) (l2 : List GM) (g2 : GM) (ws2 : List Row) (p2 : Nat) (wr2 : Option Nat) (cv : SC) (no : Bool) => l2.length) A c l g ws (leafQ s y.p1).2.p (leafQ s y.p1).2.w (scQ (leafQ s y.p1).1) (isQ s ⟨p, none⟩ 45) ?_ ?_ ?_ ?_
    · exact InQ.start hi hs rfl y h30 (Nat.le_trans y.ge (leaf_ge y.le))
    · exact ⟨rfl, rfl, trivial⟩
    · exact ⟨rfl, rfl, rfl, rfl, rfl, rfl, trivial⟩
    rintro A2 c2 l2 g2 ws2 p2 wr2 cv no hi2
    refine T_seq ?_
    refine tx ?_
    refine sr 1 ?_
    refine s1 (y_nilCheck rfl rfl) ?_
    refine s1 (yF fa46_2) ?_
    refine s1 (yL 901 Tryz.underlying3) ?_
    refine sr 1 ?_
    refine sgo ?_
    refine T_cond rfl ?_ ?_ <;> intro h49
    · skip
      obtain rfl := wr_t h49
      refine T_knownS (p := A2.isSome = true) (fun w hM => by obtain ⟨ad, e, _⟩ := (own_reads (i := 13) hM rfl).2 (Nat.succ_pos _); rw [e]; rfl) fun hA2 => ?_
      obtain ⟨hk2, hp2, -⟩ := hi2.on rfl
      have hle2 := hi2.i.le
      have hdp2 := hi2.i.dep
      refine kgo ?_
      refine T_block ?_
      refine T_seq ?_
      refine tx ?_
      refine sr 1 ?_
      refine sgo ?_
      refine T_mid (kf := [(51, 53)]) (kl := [(5, 5), (51, 53), (900, 900)]) (fun z : NtR w0 ws2 cv no => []) (fun z : NtR w0 ws2 cv no => [(5, .blk b5 (IsBox [.int .i64 z.sc.op, .slice z.sc.ad z.sc.q z.sc.c, .int .i64 z.sc.lo, .int .i64 z.sc.hi, str z.sc.nm, str z.sc.tx] 24)), (900, .many z.rs)]) (by repeat (first | exact kf_nil | (apply kf_in; focus rfl) | (apply kf_out; focus rfl))) (by repeat (first | exact kl_nil | exact kl_rest (by assumption) rfl | (apply kl_in; focus rfl) | (apply kl_out; focus rfl))) ?_ ?_
      · skip
        refine T_cond rfl ?_ ?_ <;> intro h50
        · skip
          refine T_region ?_
          refine s1 (yA 5 rfl Tryz.underlying24 sz24) ?_
          refine S_buildSlice 52 52 rfl rfl rfl rfl rfl Tryz.underlying22 inf24 rfl (by decide) (by decide) rfl rfl (by decide) rfl (_) rfl ?_
          intro b52
          refine s1 (y_build (zv := .agg #[.int .i64 0, .slice none 0 0, .int .i64 0, .int .i64 0, .string ⟨#[]⟩, .string ⟨#[]⟩]) (pl := [(0, 1), (1, 1), (2, 1), (3, 1), (4, 1), (5, 1)]) (out := [_, _, .int .i64 0, .int .i64 0, .string ⟨#[]⟩, .string ⟨#[]⟩]) rfl rfl Tryz.underlying24 z24 (by kernel_rfl) rfl) ?_
          refine S_store 5 rfl rfl rfl rfl rfl rfl sz24 rfl rfl ?_
          refine S_bank [(52, 52), (900, 900)] 900 52 rfl rfl rfl rfl (by repeat (first | exact kl_nil | exact kl_rest (by assumption) rfl | (apply kl_in; focus rfl) | (apply kl_out; focus rfl))) ?_
          refine S_nil (mid_end (kf := [(51, 53)]) (kl := [(5, 5), (51, 53), (900, 900)]) (NtR.yes hi2.ok b52 h50) (by repeat (first | exact kf_nil | (apply kf_in; focus rfl) | (apply kf_out; focus rfl))) (by repeat (first | exact kl_nil | exact kl_rest (by assumption) rfl | (apply kl_in; focus rfl) | (apply kl_out; focus rfl))) ?_ ?_)
          · exact trivial
          · exact ⟨rfl, rfl, trivial⟩
        refine T_skip (mid_end (kf := [(51, 53)]) (kl := [(5, 5), (51, 53), (900, 900)]) (NtR.nay hi2.ok h50) (by repeat (first | exact kf_nil | (apply kf_in; focus rfl) | (apply kf_out; focus rfl))) (by repeat (first | exact kl_nil | exact kl_rest (by assumption) rfl | (apply kl_in; focus rfl) | (apply kl_out; focus rfl))) ?_ ?_)
        · exact trivial
        · exact ⟨rfl, rfl, trivial⟩
      intro z
      refine sgx ?_
      refine sr 2 ?_
      refine s1 (y_len_slice rfl rfl Tryz.underlying67) ?_
      refine s1 (y_bin rfl rfl rfl (fun hg => b_sub (by omega))) ?_
      refine s1 (y_indexOwnI (j := l2.length) 13 rfl rfl rfl (fun _ => by omega) rfl Tryz.underlying67 sz66 (fun _ => Nat.lt_succ_self _)) ?_
      refine sr 1 ?_
      refine sgs ?_
      refine T_mid (kf := [(59, 69)]) (kl := [(13, 13), (59, 69), (951, 951)]) (fun ac : Option Addr × Nat => []) (fun ac : Option Addr × Nat => [(13, opnI A2 c2 l2 ⟨g2.op, g2.no, ac.1, ac.2, g2.kids ++ [z.sc]⟩), (951, .own 24 6 (.slice ac.1 (g2.kids ++ [z.sc]).length ac.2) (g2.kids ++ [z.sc]).length ((g2.kids ++ [z.sc]).flatMap SC.enc))]) (by repeat (first | exact kf_nil | (apply kf_in; focus rfl) | (apply kf_out; focus rfl))) (by repeat (first | exact kl_nil | exact kl_rest (by assumption) rfl | (apply kl_in; focus rfl) | (apply kl_out; focus rfl))) ?_ ?_
      · refine T_tree (PTree.one 0 (PTree.one 1 (PTree.one 2 (PTree.one 3 (PTree.one 4 (PTree.one 5 (PTree.one 6 (PTree.one 7 (PTree.one 10 (PTree.one 11 (PTree.two 8 (PTree.two 9 (PTree.one 12 PTree.nil) 12 (PTree.one 9 PTree.nil)) 12 (PTree.one 8 (PTree.one 9 PTree.nil))))))))))))) [true, true, true, true, true, true, false, false, false, false, true, true, false] [0, 1, 3, 7, 0, 15, 0, 127, 255, 511, 255, 1279, 3327] [(3, [13]), (4, [5])] (by kernel_rfl) (by kernel_rfl) (by kernel_rfl) rfl (by kernel_rfl) ?_
        refine R2f_ 0 59 rfl rfl rfl rfl rfl _ trivial (Y.z (y_move rfl rfl) rfl) ?_
        refine R2f_ 1 60 rfl rfl rfl rfl rfl _ trivial (Z.of (z_nilCheckSome rfl rfl hA2)) ?_
        refine R2f_ 2 61 rfl rfl rfl rfl rfl _ trivial (Y.z (y_fieldSome rfl rfl hA2 fa66_2) rfl) ?_
        refine R2f_ 3 62 rfl rfl rfl rfl rfl _ ⟨rfl, trivial⟩ (Y.z (y_load_cellOwn 13 rfl rfl rfl (fun _ => Nat.succ_pos _) (fun _ => flat_at GM.enc_len (last_at l2 _) 2 (.slice g2.A g2.kids.length g2.c) rfl) Tryz.underlying22 rfl) rfl) ?_
        refine R2f_ 4 63 rfl rfl rfl rfl rfl _ ⟨rfl, trivial⟩ (Y.z (yA 5 rfl Tryz.underlying24 sz24) rfl) ?_
        refine R2f_ 5 64 rfl rfl rfl rfl rfl _ trivial (Z.of (z_len rfl rfl Tryz.underlying22)) ?_
        refine R2_chain 6 rfl rfl ?_
        refine S_buildSlice 65 65 rfl rfl rfl rfl rfl Tryz.underlying22 inf24 rfl (by decide) (by decide) rfl rfl (by decide) rfl (_) rfl ?_
        intro b65
        refine R2_next ⟨.inr ⟨rfl, trivial⟩, .inr ⟨rfl, trivial⟩, trivial⟩ ?_
        refine R2_chain 7 rfl rfl ?_
        obtain ⟨i66, hi66, hz66, hs66, hy66⟩ := info_parts inf24
        refine S_append 66 951 65 rfl rfl rfl rfl rfl rfl rfl rfl Tryz.underlying22 hi66 hz66 hs66 hy66 rfl (by decide) (by decide) rfl ?_ ?_ ((g2.kids ++ [z.sc]).length) ((g2.kids ++ [sc0]).flatMap SC.enc) ?_ ?_ ?_
        · (simp only [maxLen]; omega)
        · omega
        · rw [List.length_append]; rfl
        · rw [List.flatMap_append]; rfl
        intro A66 c66
        refine R2_next ⟨.inl rfl, .inl rfl, trivial⟩ ?_
        refine R2f_ 10 68 rfl rfl rfl rfl rfl _ trivial (Z.of (z_nilCheckSome rfl rfl hA2)) ?_
        refine R2f_ 11 69 rfl rfl rfl rfl rfl _ trivial (Y.z (y_fieldSome rfl rfl hA2 fa66_2) rfl) ?_
        refine R2_two rfl rfl ?_ ?_
        · skip
          refine s1 (y_indexOwn 951 rfl rfl rfl rfl Tryz.underlying22 sz24 (fun _ => by rw [List.length_append]; exact Nat.lt_succ_self _)) ?_
          refine R2_next ⟨.inl rfl, .inl rfl, trivial⟩ ?_
          refine R2_two rfl rfl ?_ ?_
          · skip
            refine S_storeEl 951 rfl rfl rfl rfl rfl rfl sz24 rfl rfl rfl ?_ (xs' := (g2.kids ++ [z.sc]).flatMap SC.enc) ?_ ?_
            · rw [List.length_append]; exact Nat.lt_succ_self _
            · exact (flat_setE SC.enc_len (l := g2.kids ++ [sc0]) (x' := z.sc) (by rw [List.length_append]; exact Nat.lt_succ_self _)).trans (by rw [List.set_append_right _ _ (Nat.le_refl _)]; simp)
            refine R2_next ⟨.inl rfl, .inl rfl, trivial⟩ ?_
            refine R2_chain 12 rfl rfl ?_
            refine S_storeOwn 13 rfl rfl rfl rfl rfl rfl sz22 rfl rfl ?_ (xs' := (l2 ++ [(⟨g2.op, g2.no, A66, c66, g2.kids ++ [z.sc]⟩ : GM)]).flatMap GM.enc) ?_ ?_
            · exact lastLt rfl (by decide)
            · exact setL (k := 2) rfl rfl
            refine R2_next ⟨.inl rfl, .inl rfl, trivial⟩ ?_
            exact R2_nil (mid_end (kf := [(59, 69)]) (kl := [(13, 13), (59, 69), (951, 951)]) ((A66, c66)) (by repeat (first | exact kf_nil | (apply kf_in; focus rfl) | (apply kf_out; focus rfl))) (by repeat (first | exact kl_nil | exact kl_rest (by assumption) rfl | (apply kl_in; focus rfl) | (apply kl_out; focus rfl))) (by exact trivial) (by exact ⟨rfl, rfl, trivial⟩))
          · skip
            refine S_storeOwn 13 rfl rfl rfl rfl rfl rfl sz22 rfl rfl ?_ (xs' := (l2 ++ [(⟨g2.op, g2.no, A66, c66, g2.kids ++ [z.sc]⟩ : GM)]).flatMap GM.enc) ?_ ?_
            · exact lastLt rfl (by decide)
            · exact setL (k := 2) rfl rfl
            refine R2_next ⟨.inl rfl, .inl rfl, trivial⟩ ?_
            refine R2_chain 9 rfl rfl ?_
            refine S_storeEl 951 rfl rfl rfl rfl rfl rfl sz24 rfl rfl rfl ?_ (xs' := (g2.kids ++ [z.sc]).flatMap SC.enc) ?_ ?_
            · rw [List.length_append]; exact Nat.lt_succ_self _
            · exact (flat_setE SC.enc_len (l := g2.kids ++ [sc0]) (x' := z.sc) (by rw [List.length_append]; exact Nat.lt_succ_self _)).trans (by rw [List.set_append_right _ _ (Nat.le_refl _)]; simp)
            refine R2_next ⟨.inl rfl, .inl rfl, trivial⟩ ?_
            exact R2_nil (mid_end (kf := [(59, 69)]) (kl := [(13, 13), (59, 69), (951, 951)]) ((A66, c66)) (by repeat (first | exact kf_nil | (apply kf_in; focus rfl) | (apply kf_out; focus rfl))) (by repeat (first | exact kl_nil | exact kl_rest (by assumption) rfl | (apply kl_in; focus rfl) | (apply kl_out; focus rfl))) (by exact trivial) (by exact ⟨rfl, rfl, trivial⟩))
        · skip
          refine S_storeOwn 13 rfl rfl rfl rfl rfl rfl sz22 rfl rfl ?_ (xs' := (l2 ++ [(⟨g2.op, g2.no, A66, c66, g2.kids ++ [z.sc]⟩ : GM)]).flatMap GM.enc) ?_ ?_
          · exact lastLt rfl (by decide)
          · exact setL (k := 2) rfl rfl
          refine R2_next ⟨.inl rfl, .inl rfl, trivial⟩ ?_
          refine R2_chain 8 rfl rfl ?_
          refine s1 (y_indexOwn 951 rfl rfl rfl rfl Tryz.underlying22 sz24 (fun _ => by rw [List.length_append]; exact Nat.lt_succ_self _)) ?_
          refine R2_next ⟨.inl rfl, .inl rfl, trivial⟩ ?_
          refine R2_chain 9 rfl rfl ?_
          refine S_storeEl 951 rfl rfl rfl rfl rfl rfl sz24 rfl rfl rfl ?_ (xs' := (g2.kids ++ [z.sc]).flatMap SC.enc) ?_ ?_
          · rw [List.length_append]; exact Nat.lt_succ_self _
          · exact (flat_setE SC.enc_len (l := g2.kids ++ [sc0]) (x' := z.sc) (by rw [List.length_append]; exact Nat.lt_succ_self _)).trans (by rw [List.set_append_right _ _ (Nat.le_refl _)]; simp)
          refine R2_next ⟨.inl rfl, .inl rfl, trivial⟩ ?_
          exact R2_nil (mid_end (kf := [(59, 69)]) (kl := [(13, 13), (59, 69), (951, 951)]) ((A66, c66)) (by repeat (first | exact kf_nil | (apply kf_in; focus rfl) | (apply kf_out; focus rfl))) (by repeat (first | exact kl_nil | exact kl_rest (by assumption) rfl | (apply kl_in; focus rfl) | (apply kl_out; focus rfl))) (by exact trivial) (by exact ⟨rfl, rfl, trivial⟩))
      intro ac
      refine sgx ?_
      refine sr 1 ?_
      refine s1 (y_len_slice rfl rfl Tryz.underlying67) ?_
      refine sr 2 ?_
      refine sgs ?_
      refine T_seq ?_
      refine T_draws (by kernel_rfl) (by kernel_rfl) ?_
      refine d1 (y_move rfl rfl) ?_
      refine d1 (y_nilCheck rfl rfl) ?_
      refine d1 (yF fa46_1) ?_
      refine d1 (yL 901 Tryz.underlying3) ?_
      refine d1 (y_move rfl rfl) ?_
      refine d1 (y_nilCheck rfl rfl) ?_
      refine d1 (yF fa46_0) ?_
      refine d1 (yL 901 Tryz.underlying9) ?_
      refine d1 (y_len_str rfl rfl Tryz.underlying9) ?_
      refine d1 (y_bin rfl rfl rfl (fun _ => b_eql)) ?_
      refine d1 (y_move rfl rfl) ?_
      refine dg rfl (y_move rfl rfl) ?_
      refine d1 (y_and rfl rfl rfl) ?_
      refine dgo ?_
      refine T_cond rfl ?_ ?_ <;> intro h85
      · skip
        obtain ⟨hpe, hl0⟩ := w1_t h85
        obtain rfl := List.length_eq_zero_iff.1 hl0
        obtain ⟨d, hd⟩ : ∃ d, doneS ⟨g2.op, g2.no, ac.1, ac.2, g2.kids ++ [z.sc]⟩ true = d := ⟨_, rfl⟩
        refine tx ?_
        refine sr 1 ?_
        refine s1 (y_nilCheckOwn 13 rfl rfl rfl (fun _ => Nat.lt_succ_self _)) ?_
        refine s1 (y_load_ownA 13 rfl rfl rfl (fun _ => Nat.lt_succ_self _) (fun _ i u (hu : (GM.enc ⟨g2.op, g2.no, ac.1, ac.2, g2.kids ++ [z.sc]⟩)[i]? = some u) => flat_at GM.enc_len (last_at [] (⟨g2.op, g2.no, ac.1, ac.2, g2.kids ++ [z.sc]⟩ : GM)) i u hu) Tryz.underlying66 rfl sz66) ?_
        refine s1 (y_call rfl rfl rfl cf42 (fun _ w1 hM => done2_any ⟨g2.op, g2.no, ac.1, ac.2, g2.kids ++ [z.sc]⟩ true hd w1 (owned_T (i := 951) hM rfl rfl) (by show 0 < (g2.kids ++ [z.sc]).length; simp))) ?_
        refine sr 3 ?_
        refine S_alloc 8 8 rfl rfl rfl rfl z24 ?_
        intro b8
        refine S_store 8 rfl rfl rfl rfl rfl rfl sz24 rfl rfl ?_
        refine sr 1 ?_
        refine sgx ?_
        refine s1 (yA 8 rfl Tryz.underlying24 sz24) ?_
        refine S_store 2 rfl rfl rfl rfl rfl rfl sz24 rfl rfl ?_
        refine sgo ?_
        refine T_ret (fun a w hF hM => hRb a w (post_cell1 2 rfl rfl rfl Tryz.underlying24 rfl (by exact sz24) (fun w hM => ?_) a w hF hM))
        have hM := hM.bankK (ks := [(951, 951), (900, 900)]) (m := 900) (i := 951) rfl rfl rfl (by repeat (first | exact kl_nil | exact kl_rest (by assumption) rfl | (apply kl_in; focus rfl) | (apply kl_out; focus rfl))) rfl
        exact ⟨⟨d.1, z.rs ++ [GM.row ⟨g2.op, g2.no, ac.1, ac.2, g2.kids ++ [z.sc]⟩], p2, none⟩, rfl, ⟨fun _ => by rw [← hd]; exact hi2.fin z hpe ac.1 ac.2, (fun k h => by cases h), hd ▸ doneS_ok (rs := z.rs) (by show 0 < (g2.kids ++ [z.sc]).length; simp) (by show (g2.kids ++ [z.sc]).length ≤ _; rw [List.length_append, List.length_singleton]; omega) ((hi2.i.far (Nat.le_refl _) hi2.i.le z.more).put z.ok g2.op ac.1 ac.2).okg (fun r h => List.mem_append_left _ h) (List.mem_append_right _ (List.mem_singleton.2 rfl))⟩, hM.keep (ks := [(0, 999)]) (by repeat (first | exact kl_rest (by assumption) rfl | (apply kl_in; focus rfl))) _ ⟨rfl, rfl, trivial⟩⟩
      have h85 := w1_f h85
      refine kgs ?_
      refine tx ?_
      refine sr 1 ?_
      refine s1 (y_call rfl rfl rfl cf40 (fun _ w hM => isq_any b s ⟨p2, none⟩ 41 w (rdc (hM.sat 901 _ rfl)).1 (rdc (hM.sat 901 _ rfl)).2.1 (rdc (hM.sat 901 _ rfl)).2.2)) ?_
      refine sr 2 ?_
      refine sg rfl (y_move rfl rfl) ?_
      refine s1 (y_or rfl rfl rfl) ?_
      refine sgo ?_
      refine T_cond rfl ?_ ?_ <;> intro h99
      · skip
        have h99 := w2_t h99
        refine tx ?_
        refine sr 2 ?_
        refine S_callM 102 [(901, 901), (902, 13)] (X := Unit) rfl rfl rfl rfl rfl rfl rfl cf43 rfl (fun _ => .tuple #[]) (fun _ => True) (fun _ => [(901, rdI b s (joinQ s g2.op p2).2), (902, opnI A2 c2 l2 ⟨(joinQ s g2.op p2).1, g2.no, ac.1, ac.2, g2.kids ++ [z.sc]⟩)]) (fun _ => rfl) (fun _ => rfl) (fun K1 hK1 w hM => join_any hK1 b s p2 A2 c2 l2 ⟨g2.op, g2.no, ac.1, ac.2, g2.kids ++ [z.sc]⟩ hs hi2.i.le w hM) ?_
        rintro ⟨⟩ _
        refine sgo ?_
        refine T_exit (nK7 (kf := [(3, 11), (14, 134)]) (kl := [(3, 11), (13, 134), (900, 901), (950, 951)]) A2 c2 l2 ⟨(joinQ s g2.op p2).1, g2.no, ac.1, ac.2, g2.kids ++ [z.sc]⟩ z.rs (joinQ s g2.op p2).2.p (joinQ s g2.op p2).2.w ?_ ?_ ?_ ?_)
        · exact mu_lt fun hw => ⟨by have := (join_far (o := g2.op) hle2).2 hw; omega, (join_far hle2).1⟩
        · exact hi2.join z (fun h => h85 ⟨h.1, by rw [h.2]; rfl⟩) (h99.imp_right List.length_eq_zero_iff.1) ac.1 ac.2 join_ge
        · exact ⟨rfl, trivial⟩
        · exact ⟨rfl, rfl, rfl, rfl, rfl, trivial⟩
      obtain ⟨hq41, hl0⟩ := w2_f h99
      obtain ⟨l3, g3, rfl⟩ := snoc_of hl0
      have hll : (l3 ++ [g3]).length = l3.length + 1 := by rw [List.length_append]; rfl
      obtain ⟨d, hd⟩ : ∃ d, doneS ⟨g2.op, g2.no, ac.1, ac.2, g2.kids ++ [z.sc]⟩ false = d := ⟨_, rfl⟩
      refine T_cap 13 rfl fun hcap => ?_
      refine kgx ?_
      refine sr 1 ?_
      refine s1 (y_nilCheckOwn 13 rfl rfl rfl (fun _ => Nat.lt_succ_self _)) ?_
      refine s1 (y_load_ownA 13 rfl rfl rfl (fun _ => Nat.lt_succ_self _) (fun _ i u (hu : (GM.enc ⟨g2.op, g2.no, ac.1, ac.2, g2.kids ++ [z.sc]⟩)[i]? = some u) => flat_at GM.enc_len (last_at (l3 ++ [g3]) (⟨g2.op, g2.no, ac.1, ac.2, g2.kids ++ [z.sc]⟩ : GM)) i u hu) Tryz.underlying66 rfl sz66) ?_
      refine s1 (y_call rfl rfl rfl cf42 (fun _ w1 hM => done2_any ⟨g2.op, g2.no, ac.1, ac.2, g2.kids ++ [z.sc]⟩ false hd w1 (owned_T (i := 951) hM rfl rfl) (by show 0 < (g2.kids ++ [z.sc]).length; simp))) ?_
      refine sr 3 ?_
      refine S_alloc 10 10 rfl rfl rfl rfl z24 ?_
      intro b10
      refine S_store 10 rfl rfl rfl rfl rfl rfl sz24 rfl rfl ?_
      refine sr 1 ?_
      refine sgs ?_
      refine tx ?_
      refine sr 2 ?_
      refine sgo ?_
      refine T_cond rfl ?_ ?_ <;> intro h111
      · skip
        have hd2 : d.2 = false := by simpa using h111
        refine tx ?_
        refine sr 2 ?_
        refine s1 (y_nilCheck rfl rfl) ?_
        refine s1 (yF fa46_1) ?_
        refine s1 (yL 901 Tryz.underlying3) ?_
        refine S_callM 117 [(901, 901)] (X := Unit) rfl rfl rfl rfl rfl rfl rfl cf44 rfl (fun _ => .tuple #[]) (fun _ => True) (fun _ => [(901, rdI b s (failQ ⟨p2, none⟩ p2))]) (fun _ => rfl) (fun _ => rfl) (fun K1 hK1 w hM => fail_any hK1 b s ⟨p2, none⟩ p2 w hM) ?_
        rintro ⟨⟩ _
        refine sgo ?_
        refine T_exit (nK7 (kf := [(3, 11), (14, 134)]) (kl := [(3, 11), (13, 134), (900, 901), (950, 951)]) A2 c2 (l3 ++ [g3]) ⟨g2.op, g2.no, ac.1, ac.2, g2.kids ++ [z.sc]⟩ z.rs p2 (some p2) ?_ ?_ ?_ ?_)
        · exact mu_lt fun h => by cases h
        · exact hi2.bad2 z hq41 ac.1 ac.2 hd hd2
        · exact ⟨rfl, trivial⟩
        · exact ⟨rfl, rfl, rfl, rfl, rfl, trivial⟩
      have hd2 : d.2 = true := by simpa using h111
      have hlt2 : p2 < s.length := (isQ_t hq41).2.1
      refine kgs ?_
      refine T_perm [0, 1, 2, 3, 4, 5, 6] [true, true, true, true, true, false, true] [0, 0, 2, 6, 14, 1, 63] [(0, [10]), (4, [13])] (by kernel_rfl) (by kernel_rfl) (by kernel_rfl) rfl (by kernel_rfl) ?_
      refine Rf_ 0 118 rfl rfl rfl rfl rfl _ ⟨rfl, trivial⟩ (Y.z (yA 10 rfl Tryz.underlying24 sz24) rfl) ?_
      refine Rf_ 1 119 rfl rfl rfl rfl rfl _ trivial (Y.z (y_move rfl rfl) rfl) ?_
      refine Rf_ 2 120 rfl rfl rfl rfl rfl _ trivial (Z.of (z_nilCheckSome rfl rfl hA2)) ?_
      refine Rf_ 3 121 rfl rfl rfl rfl rfl _ trivial (Y.z (y_fieldSome rfl rfl hA2 fa66_1) rfl) ?_
      refine Rf_ 4 122 rfl rfl rfl rfl rfl _ ⟨rfl, trivial⟩ (Y.z (y_load_cellOwn 13 rfl rfl rfl (fun _ => Nat.succ_pos _) (fun _ => flat_at GM.enc_len (last_at (l3 ++ [g3]) _) 1 (.bool g2.no) rfl) Tryz.underlying4 rfl) rfl) ?_
      refine R_chain 5 rfl rfl ?_
      refine S_store 5 rfl rfl rfl rfl rfl rfl sz24 rfl rfl ?_
      refine R_next ⟨.inl rfl, .inr ⟨rfl, trivial⟩, trivial⟩ ?_
      refine Rf_ 6 4 rfl rfl rfl rfl rfl _ trivial (Y.z (y_assign rfl rfl) rfl) ?_
      refine R_go (fun _ _ h => h) ?_
      refine tx ?_
      refine sr 1 ?_
      refine s1 (y_nilCheck rfl rfl) ?_
      refine s1 (yF fa46_1) ?_
      refine s1 (yL 901 Tryz.underlying3) ?_
      refine s1 (y_bin rfl rfl rfl (fun hg => b_addv (((p2 + 1 : Nat) : Int)) (by omega) (by omega))) ?_
      refine s1 (y_nilCheck rfl rfl) ?_
      refine s1 (yF fa46_1) ?_
      refine S_store 901 rfl rfl rfl rfl rfl rfl sz3 rfl rfl ?_
      refine sgr ?_
      refine sr 2 ?_
      refine s1 (y_len_slice rfl rfl Tryz.underlying67) ?_
      refine s1 (y_bin rfl rfl rfl (fun hg => b_subv (((l3.length + 1 : Nat) : Int)) (by omega) (by omega))) ?_
      refine S_shrink 13 (l3.length + 1) rfl (by rw [List.length_append]; exact Nat.le_succ _) ?_
      refine s1 (y_as (v' := .slice A2 (l3.length + 1) c2) (by rw [slice0, Nat.sub_zero, Nat.sub_zero]) (y_slice (lo := 0) (hi := l3.length + 1) rfl rfl Tryz.underlying67 sz66 (.inl ⟨rfl, rfl⟩) (.inr ⟨_, _, rfl, rfl⟩) (by omega) (by rw [List.length_append]; exact Nat.le_succ _) hcap)) ?_
      refine sr 1 ?_
      refine S_bank [(951, 951), (900, 900)] 900 951 rfl rfl rfl rfl (by repeat (first | exact kl_nil | exact kl_rest (by assumption) rfl | (apply kl_in; focus rfl) | (apply kl_out; focus rfl))) ?_
      refine S_unbank 950 951 (l3.map GM.row) rfl rfl (.inr (List.mem_map_of_mem (f := GM.row) (List.mem_append_right _ (List.mem_singleton.2 rfl)))) (fun r h => by rw [List.map_append]; exact List.mem_append_left _ h) hi2.i.apart ?_
      refine S_nil (nK9 (kf := [(3, 4), (6, 11), (45, 134)]) (kl := [(3, 11), (13, 13), (45, 134), (900, 901), (950, 951)]) A2 c2 l3 g3 (z.rs ++ [GM.row ⟨g2.op, g2.no, ac.1, ac.2, g2.kids ++ [z.sc]⟩]) (p2 + 1) none d.1 g2.no ?_ ?_ ?_ ?_)
      · rw [List.length_append]; exact Nat.lt_succ_self _
      · exact hi2.pop hs z hq41 ac.1 ac.2 hd hd2
      · exact ⟨rfl, rfl, trivial⟩
      · exact ⟨rfl, rfl, cutI, rfl, rfl, rfl, trivial⟩
    obtain ⟨k, rfl⟩ := wr_f h49
    refine T_exit (nK7 (kf := [(3, 11), (14, 134)]) (kl := [(3, 11), (13, 134), (900, 901), (950, 951)]) A2 c2 l2 g2 ws2 p2 (some k) ?_ ?_ ?_ ?_)
    · exact mu_lt fun h => by cases h
    · exact hi2.out
    · exact ⟨rfl, trivial⟩
    · exact ⟨rfl, rfl, rfl, rfl, rfl, trivial⟩
  obtain ⟨k, rfl⟩ := wr_f h18
  refine egx ?_
  refine s1 (y_build (zv := .agg #[.int .i64 0, .slice none 0 0, .int .i64 0, .int .i64 0, .string ⟨#[]⟩, .string ⟨#[]⟩]) (pl := [(0, 1), (1, 1), (2, 1), (3, 1), (4, 1), (5, 1)]) (out := [.int .i64 0, .slice none 0 0, .int .i64 0, .int .i64 0, .string ⟨#[]⟩, .string ⟨#[]⟩]) rfl rfl Tryz.underlying24 z24 (by kernel_rfl) rfl) ?_
  refine S_store 2 rfl rfl rfl rfl rfl rfl sz24 rfl rfl ?_
  refine sgo ?_
  refine T_ret (fun a w hF hM => hRb a w (post_cell1 2 rfl rfl rfl Tryz.underlying24 rfl (by exact sz24) (fun w hM => ?_) a w hF hM))
  exact ⟨⟨sc0, ws, p, some k⟩, rfl, ⟨(fun h => by cases h), fun j hj => hi.bad j hj, fun w _ _ => sc0Q_ok w⟩, hM.keep (ks := [(0, 999)]) (by repeat (first | exact kl_rest (by assumption) rfl | (apply kl_in; focus rfl))) _ ⟨rfl, rfl, trivial⟩⟩
end Go.Proofs.YtfcedlfeinnhoaaGreatDoor
end
section
namespace Go.Proofs.YtfcedlfeinnhoaaGreatDoor
set_option linter.unusedSimpArgs false
set_option linter.unusedVariables false
set_option maxRecDepth 20000
open Go.RowKit Go.Eng
structure RcR where
  sc : SC
  rs : List Row
  n : Int
  no : Int
structure RcOk (w0 : World) (s : List UInt8) (z : RcR) : Prop where
  big : 1000000 < s.length → z.no = 4
  good : s.length ≤ 1000000 → ∀ c, (OnQ s fun _ => .inl c) → (condN txtNo nameOk c = 0 → z.no = 0 ∧ z.n = 0 ∧ z.sc.says = c) ∧ (condN txtNo nameOk c ≠ 0 → z.no = condN txtNo nameOk c)
  ok : Sees w0 z.rs fun w => z.sc.Ok w
theorem OnQ.one {s : List UInt8} {a b : PC ⊕ Nat} (h : OnQ s fun _ => a) (h' : OnQ s fun _ => b) : a = b := by
  obtain ⟨n, h⟩ := h
  obtain ⟨m, h'⟩ := h'
  have h1 := h m
  have h2 := h' n
  rw [Nat.add_comm] at h2
  exact h1.symm.trans h2
theorem wg_t {w : Option Nat} (h : decide ((0 : Int) ≤ wI w) = true) : ∃ k, w = some k := by
  cases w with
  | none => exact absurd h (by decide)
  | some k => exact ⟨k, rfl⟩
theorem wg_f {w : Option Nat} (h : decide ((0 : Int) ≤ wI w) = false) : w = none := by
  cases w with
  | none => rfl
  | some k => exact absurd (of_decide_eq_false h) (by show ¬ ¬ (0 : Int) ≤ (k : Int); omega)
theorem ReadCond_any {w0 : World} {K : HL} (hK : FromK K) (s : List UInt8) (hE : ErrV w0) (hO : OW w0) (w : World) (hM0 : Mem w0 ([(900, .many [])] ++ K) w) :
    Calls Tryz.prog 7 #[str s] w fun e w' => ∃ z : RcR, e = .returned (.tuple #[z.sc.val, .int .i64 z.n, .int .i64 z.no]) ∧ RcOk w0 s z ∧ Mem w0 ([(900, .many z.rs)] ++ K) w' := by
  refine enterM_args (args := [str s]) (F := _) hM0 Tryz.func7 rfl Tryz.ntmps7 rfl rfl ?_
  intro Rb hRb hRn
  refine tx ?_
  refine S_alloc 2 2 rfl rfl rfl rfl z24 ?_
  intro b2
  refine sr 2 ?_
  refine sgs ?_
  refine tx ?_
  refine sr 1 ?_
  refine s1 (y_len_str rfl rfl Tryz.underlying9) ?_
  refine sr 1 ?_
  refine sgo ?_
  refine T_cond rfl ?_ ?_ <;> intro h10
  · try simp only [nrm] at h10
    refine tx ?_
    refine s1 (y_build (zv := .agg #[.int .i64 0, .slice none 0 0, .int .i64 0, .int .i64 0, .string ⟨#[]⟩, .string ⟨#[]⟩]) (pl := [(0, 1), (1, 1), (2, 1), (3, 1), (4, 1), (5, 1)]) (out := [.int .i64 0, .slice none 0 0, .int .i64 0, .int .i64 0, .string ⟨#[]⟩, .string ⟨#[]⟩]) rfl rfl Tryz.underlying24 z24 (by kernel_rfl) rfl) ?_
    refine S_store 2 rfl rfl rfl rfl rfl rfl sz24 rfl rfl ?_
    refine sr 2 ?_
    refine sgo ?_
    refine T_ret (fun a w hF hM => hRb a w (post_cell2 2 rfl rfl rfl rfl rfl Tryz.underlying24 rfl (by exact sz24) (fun w hM => ?_) a w hF hM))
    exact ⟨⟨sc0, [], 0, 4⟩, rfl, ⟨fun _ => rfl, fun h => by omega, fun w _ _ => sc0Q_ok w⟩, hM.keep (ks := [(0, 999)]) (by repeat (first | exact kl_rest (by assumption) rfl | (apply kl_in; focus rfl))) _ ⟨rfl, trivial⟩⟩
  try simp only [nrm] at h10
  refine kgx ?_
  refine sr 1 ?_
  refine s1 (y_build (zv := .agg #[.string ⟨#[]⟩, .int .i64 0, .int .i64 0]) (pl := [(0, 1), (1, 1), (2, 1)]) (out := [_, .int .i64 0, _]) rfl rfl Tryz.underlying46 z46 (by kernel_rfl) rfl) ?_
  refine S_box 14 14 rfl rfl rfl rfl rfl ?_
  intro b14
  refine sr 1 ?_
  refine sgx ?_
  refine sr 1 ?_
  refine S_callM 16 [(901, 14), (900, 900)] (X := RdR) rfl rfl rfl rfl rfl rfl rfl cf21 rfl (fun z => .agg #[.int .i64 z.sc.op, .slice z.sc.ad z.sc.q z.sc.c, .int .i64 z.sc.lo, .int .i64 z.sc.hi, str z.sc.nm, str z.sc.tx]) (RdOk w0 s) (fun z => [(901, rdN b14 s z.p (wI z.w)), (900, .many z.rs)]) (fun _ => rfl) (fun _ => rfl) (fun K1 hK1 w hM => read_any hK1 b14 s (by omega) hE hO w hM) ?_
  intro z hz
  refine S_alloc 6 6 rfl rfl rfl rfl z24 ?_
  intro b6
  refine S_store 6 rfl rfl rfl rfl rfl rfl sz24 rfl rfl ?_
  refine sgs ?_
  refine tx ?_
  refine sr 1 ?_
  refine s1 (y_nilCheck rfl rfl) ?_
  refine s1 (yF fa46_2) ?_
  refine s1 (yL 14 Tryz.underlying3) ?_
  refine sr 1 ?_
  refine sgo ?_
  refine T_cond rfl ?_ ?_ <;> intro h21
  · skip
    obtain ⟨k, hk⟩ := wg_t h21
    refine T_seq ?_
    refine T_perm [0, 1, 2, 3, 4, 5, 6, 7] [true, true, true, true, true, false, true, true] [0, 0, 2, 6, 14, 1, 63, 127] [(4, [14])] (by kernel_rfl) (by kernel_rfl) (by kernel_rfl) rfl (by kernel_rfl) ?_
    refine Rf_ 0 22 rfl rfl rfl rfl rfl _ trivial (Y.z (y_build (zv := .agg #[.int .i64 0, .slice none 0 0, .int .i64 0, .int .i64 0, .string ⟨#[]⟩, .string ⟨#[]⟩]) (pl := [(0, 1), (1, 1), (2, 1), (3, 1), (4, 1), (5, 1)]) (out := [.int .i64 0, .slice none 0 0, .int .i64 0, .int .i64 0, .string ⟨#[]⟩, .string ⟨#[]⟩]) rfl rfl Tryz.underlying24 z24 (by kernel_rfl) rfl) rfl) ?_
    refine Rf_ 1 23 rfl rfl rfl rfl rfl _ trivial (Y.z (y_move rfl rfl) rfl) ?_
    refine Rf_ 2 24 rfl rfl rfl rfl rfl _ trivial (Z.of (z_nilCheck rfl rfl)) ?_
    refine Rf_ 3 25 rfl rfl rfl rfl rfl _ trivial (Y.z (yF fa46_2) rfl) ?_
    refine Rf_ 4 26 rfl rfl rfl rfl rfl _ ⟨rfl, trivial⟩ (Y.z (yL 14 Tryz.underlying3) rfl) ?_
    refine R_chain 5 rfl rfl ?_
    refine S_store 2 rfl rfl rfl rfl rfl rfl sz24 rfl rfl ?_
    refine R_next ⟨.inr ⟨rfl, trivial⟩, trivial⟩ ?_
    refine Rf_ 6 3 rfl rfl rfl rfl rfl _ trivial (Y.z (y_assign rfl rfl) rfl) ?_
    refine Rf_ 7 4 rfl rfl rfl rfl rfl _ trivial (Y.z (y_assign rfl rfl) rfl) ?_
    refine R_go (fun _ _ h => h) ?_
    refine T_ret (fun a w hF hM => hRb a w (post_cell2 2 rfl rfl rfl rfl rfl Tryz.underlying24 rfl (by exact sz24) (fun w hM => ?_) a w hF hM))
    exact ⟨⟨sc0, z.rs, wI z.w, 8⟩, rfl, ⟨fun h => by omega, fun _ c hc => (by have := hc.one (hz.no k hk); cases this), fun w _ _ => sc0Q_ok w⟩, hM.keep (ks := [(0, 999)]) (by repeat (first | exact kl_rest (by assumption) rfl | (apply kl_in; focus rfl))) _ ⟨rfl, trivial⟩⟩
  have hzw := wg_f h21
  have hy := hz.yes hzw
  refine kgs ?_
  refine tx ?_
  refine s1 (yA 6 rfl Tryz.underlying24 sz24) ?_
  refine s1 (y_call rfl rfl rfl cf14 (fun _ w1 hM => CheckCond_any z.sc w1 (hz.ok.at hM 900 rfl))) ?_
  refine sr 1 ?_
  refine sgx ?_
  refine sr 2 ?_
  refine sgo ?_
  refine T_cond rfl ?_ ?_ <;> intro h30
  · skip
    have h30 : ¬ condNo z.sc = 0 := by simpa using h30
    refine tx ?_
    refine s1 (y_build (zv := .agg #[.int .i64 0, .slice none 0 0, .int .i64 0, .int .i64 0, .string ⟨#[]⟩, .string ⟨#[]⟩]) (pl := [(0, 1), (1, 1), (2, 1), (3, 1), (4, 1), (5, 1)]) (out := [.int .i64 0, .slice none 0 0, .int .i64 0, .int .i64 0, .string ⟨#[]⟩, .string ⟨#[]⟩]) rfl rfl Tryz.underlying24 z24 (by kernel_rfl) rfl) ?_
    refine sr 1 ?_
    refine S_store 2 rfl rfl rfl rfl rfl rfl sz24 rfl rfl ?_
    refine sr 2 ?_
    refine sgo ?_
    refine T_ret (fun a w hF hM => hRb a w (post_cell2 2 rfl rfl rfl rfl rfl Tryz.underlying24 rfl (by exact sz24) (fun w hM => ?_) a w hF hM))
    exact ⟨⟨sc0, z.rs, 0, condNo z.sc⟩, rfl, ⟨fun h => by omega, fun _ c hc => (by have := hc.one hy; injection this with this; subst this; exact ⟨fun h => absurd h h30, fun _ => rfl⟩), fun w _ _ => sc0Q_ok w⟩, hM.keep (ks := [(0, 999)]) (by repeat (first | exact kl_rest (by assumption) rfl | (apply kl_in; focus rfl))) _ ⟨rfl, trivial⟩⟩
  have h30 : condNo z.sc = 0 := by simpa using h30
  refine kgx ?_
  refine s1 (yA 6 rfl Tryz.underlying24 sz24) ?_
  refine S_store 2 rfl rfl rfl rfl rfl rfl sz24 rfl rfl ?_
  refine sr 2 ?_
  refine sgo ?_
  refine T_ret (fun a w hF hM => hRb a w (post_cell2 2 rfl rfl rfl rfl rfl Tryz.underlying24 rfl (by exact sz24) (fun w hM => ?_) a w hF hM))
  exact ⟨⟨z.sc, z.rs, 0, 0⟩, rfl, ⟨fun h => by omega, fun _ c hc => (by have := hc.one hy; injection this with this; subst this; exact ⟨fun _ => ⟨rfl, rfl, rfl⟩, fun h => absurd h30 h⟩), hz.ok⟩, hM.keep (ks := [(0, 999)]) (by repeat (first | exact kl_rest (by assumption) rfl | (apply kl_in; focus rfl))) _ ⟨rfl, trivial⟩⟩
end Go.Proofs.YtfcedlfeinnhoaaGreatDoor
end
section
namespace Go.Proofs.YtfcedlfeinnhoaaGreatDoor
set_option linter.unusedSimpArgs false
set_option linter.unusedVariables false
set_option maxRecDepth 20000
open Go.RowKit Go.Eng
def SameAt (x : SC) : Prop := ∀ (y : SC) (w : World), x.Ok w → y.Ok w → Calls Tryz.prog 8 #[x.val, y.val] w fun e w' => e = .returned (.bool (sameP x.says y.says)) ∧ Below w.heap.size w w'
theorem sameL_len : ∀ {l m : List PC}, l.length ≠ m.length → sameL l m = false
  | [], [], h => absurd rfl h
  | [], _ :: _, _ => rfl
  | _ :: _, [], _ => rfl
  | a :: r, b :: s, h => by rw [sameL, sameL_len (l := r) (m := s) (by simpa using h), Bool.and_false]
theorem EqualFC_any (A B : Option Addr) (q c p d : Nat) (l m : List SC) (w : World) (hl : SlT SC.enc 6 w A q l) (hm : SlT SC.enc 6 w B p m) (hq : q ≤ 4611686018427387904) (hp : p ≤ 4611686018427387904) (ih : ∀ x ∈ l, SameAt x) (hxl : ∀ x ∈ l, x.Ok w) (hxm : ∀ x ∈ m, x.Ok w) :
    Calls Tryz.prog 22 #[.slice A q c, .slice B p d, .func (.func 8) #[] #[]] w fun e w' => e = .returned (.bool (sameL (l.map SC.says) (m.map SC.says))) ∧ Below w.heap.size w w' := by
  have hlen := hl.len
  have hmen := hm.len
  refine enter_args (args := [.slice A q c, .slice B p d, .func (.func 8) #[] #[]]) (F := _) Tryz.func22 rfl Tryz.ntmps22 rfl rfl ?_
  intro Rb hRb hRn
  refine tx ?_
  refine sr 1 ?_
  refine sgs ?_
  refine tx ?_
  refine sr 1 ?_
  refine s1 (y_len_slice rfl rfl Tryz.underlying22) ?_
  refine sr 1 ?_
  refine s1 (y_len_slice rfl rfl Tryz.underlying22) ?_
  refine sr 1 ?_
  refine sgo ?_
  refine T_cond rfl ?_ ?_ <;> intro h14
  · try simp only [nrm] at h14
    refine tx ?_
    refine sr 1 ?_
    refine sgo ?_
    refine tr1 hRb fun w hM => ?_
    exact ⟨by rw [sameL_len (by rw [List.length_map, List.length_map]; omega)], hM.below⟩
  try simp only [nrm] at h14
  refine kgs ?_
  refine tx ?_
  refine sr 1 ?_
  refine s1 (y_len_slice rfl rfl Tryz.underlying22) ?_
  refine sr 1 ?_
  refine sgo ?_
  refine T_block ?_
  refine lK1 (kf := [(6, 9), (17, 31)]) (kl := [(6, 9), (17, 31)]) (fun (i : Nat) => [(17, true, .int .i64 (i : Int))]) (fun (i : Nat) => []) (fun (i : Nat) => i ≤ q ∧ sameL (l.map SC.says) (m.map SC.says) = sameL ((l.drop i).map SC.says) ((m.drop i).map SC.says)) (fun (i : Nat) => q - i) 0 ?_ ?_ ?_ ?_
  · exact ⟨by omega, rfl⟩
  · exact ⟨rfl, trivial⟩
  · exact trivial
  rintro i ⟨hp1, hp2⟩
  refine tx ?_
  refine sr 1 ?_
  refine sgs ?_
  refine T_cond rfl ?_ ?_ <;> intro h18
  · try simp only [nrm] at h18
    obtain ⟨a, hx1, hx2⟩ := hl.at (i := i) (by omega)
    obtain ⟨b, hy1, hy2⟩ := hm.at (i := i) (by omega)
    rw [hx2, hy2, List.map_cons, List.map_cons, sameL] at hp2
    refine kgs ?_
    refine T_block ?_
    refine tx ?_
    refine sr 1 ?_
    refine s1 (y_indexAddr rfl rfl rfl Tryz.underlying22 sz24 (fun hg => hl.isSome (by omega)) (fun _ => by omega)) ?_
    refine s1 (y_loadT rfl rfl hl (fun _ => rfl) (fun _ => hx1) Tryz.underlying24 rfl sz24) ?_
    refine S_alloc 8 8 rfl rfl rfl rfl z24 ?_
    intro b8
    refine sr 1 ?_
    refine S_store 8 rfl rfl rfl rfl rfl rfl sz24 rfl rfl ?_
    refine sgx ?_
    refine sr 2 ?_
    refine s1 (y_indexAddr rfl rfl rfl Tryz.underlying22 sz24 (fun hg => hm.isSome (by omega)) (fun _ => by omega)) ?_
    refine s1 (y_loadT rfl rfl hm (fun _ => rfl) (fun _ => hy1) Tryz.underlying24 rfl sz24) ?_
    refine S_alloc 9 9 rfl rfl rfl rfl z24 ?_
    intro b9
    refine S_store 9 rfl rfl rfl rfl rfl rfl sz24 rfl rfl ?_
    refine sgx ?_
    refine sr 1 ?_
    refine s1 (yA 8 rfl Tryz.underlying24 sz24) ?_
    refine s1 (yA 9 rfl Tryz.underlying24 sz24) ?_
    refine s1 (y_call rfl rfl rfl cf8 (fun _ w1 hM => ih a (mem_at hx1) b w1 ((hxl a (mem_at hx1)).lift hM.below) ((hxm b (mem_at hy1)).lift hM.below))) ?_
    refine sr 1 ?_
    refine sgo ?_
    refine T_cond rfl ?_ ?_ <;> intro h30
    · skip
      have h30e : sameP a.says b.says = false := by simpa using h30
      rw [h30e, Bool.false_and] at hp2
      refine tx ?_
      refine sr 1 ?_
      refine sgo ?_
      refine tr1 hRb fun w hM => ?_
      exact ⟨by rw [hp2], hM.below⟩
    have h30e : sameP a.says b.says = true := by simpa using h30
    rw [h30e, Bool.true_and] at hp2
    refine kgr ?_
    refine s1 (y_bin rfl rfl rfl (fun hg => b_add (by omega))) ?_
    refine sr 1 ?_
    refine S_nil (nK1 (kf := [(6, 9), (17, 31)]) (kl := [(6, 9), (17, 31)]) (i + 1) ?_ ?_ ?_ ?_)
    · omega
    · exact ⟨by omega, hp2⟩
    · exact ⟨rfl, trivial⟩
    · exact trivial
  try simp only [nrm] at h18
  refine egx ?_
  refine sr 1 ?_
  refine sgo ?_
  refine tr1 hRb fun w hM => ?_
  exact ⟨by rw [hp2, hl.end (by omega), hm.end (by omega)]; rfl, hM.below⟩
theorem same_form (x y : SC) : sameP x.says y.says = (decide (x.op = y.op) && decide (x.lo = y.lo) && decide (x.hi = y.hi) && decide (x.nm = y.nm) && decide (x.tx = y.tx) && sameL (x.kids.map SC.says) (y.kids.map SC.says)) := by
  rw [SC.says_form x, SC.says_form y, sameP]; simp only [Bool.and_assoc]
theorem same_step (x : SC) (ih : ∀ k ∈ x.kids, SameAt k) : SameAt x := fun y w hx hy => by
  obtain ⟨hs, hq, hb, hn, ht, hk⟩ := hx.parts
  obtain ⟨gs, gq, gb, gn, gt, gk⟩ := hy.parts
  rw [same_form]
  refine enter_args (args := [.agg #[.int .i64 x.op, .slice x.ad x.q x.c, .int .i64 x.lo, .int .i64 x.hi, str x.nm, str x.tx], .agg #[.int .i64 y.op, .slice y.ad y.q y.c, .int .i64 y.lo, .int .i64 y.hi, str y.nm, str y.tx]]) (F := _) Tryz.func8 rfl Tryz.ntmps8 rfl rfl ?_
  intro Rb hRb hRn
  refine tx ?_
  refine S_box 2 2 rfl rfl rfl rfl rfl ?_
  intro b2
  refine S_box 3 3 rfl rfl rfl rfl rfl ?_
  intro b3
  refine sr 1 ?_
  refine sgx ?_
  refine s1 (yF fa24_0) ?_
  refine s1 (yL 2 Tryz.underlying3) ?_
  refine s1 (yF fa24_0) ?_
  refine s1 (yL 3 Tryz.underlying3) ?_
  refine sr 2 ?_
  refine sg rfl (yF fa24_2) ?_
  refine sg rfl (yL 2 Tryz.underlying3) ?_
  refine sg rfl (yF fa24_2) ?_
  refine sg rfl (yL 3 Tryz.underlying3) ?_
  refine sg rfl (y_bin rfl rfl rfl (fun _ => b_eql)) ?_
  refine s1 (y_and rfl rfl rfl) ?_
  refine sr 1 ?_
  refine sg rfl (yF fa24_3) ?_
  refine sg rfl (yL 2 Tryz.underlying3) ?_
  refine sg rfl (yF fa24_3) ?_
  refine sg rfl (yL 3 Tryz.underlying3) ?_
  refine sg rfl (y_bin rfl rfl rfl (fun _ => b_eql)) ?_
  refine s1 (y_and rfl rfl rfl) ?_
  refine sr 1 ?_
  refine sg rfl (yF fa24_4) ?_
  refine sg rfl (yL 2 Tryz.underlying9) ?_
  refine sg rfl (yF fa24_4) ?_
  refine sg rfl (yL 3 Tryz.underlying9) ?_
  refine sg rfl (y_bin rfl rfl rfl (fun _ => b_eqls)) ?_
  refine s1 (y_and rfl rfl rfl) ?_
  refine sr 1 ?_
  refine sg rfl (yF fa24_5) ?_
  refine sg rfl (yL 2 Tryz.underlying9) ?_
  refine sg rfl (yF fa24_5) ?_
  refine sg rfl (yL 3 Tryz.underlying9) ?_
  refine sg rfl (y_bin rfl rfl rfl (fun _ => b_eqls)) ?_
  refine s1 (y_and rfl rfl rfl) ?_
  refine sr 1 ?_
  refine sg rfl (yF fa24_1) ?_
  refine sg rfl (yL 2 Tryz.underlying22) ?_
  refine sg rfl (yF fa24_1) ?_
  refine sg rfl (yL 3 Tryz.underlying22) ?_
  refine sg rfl (y_call rfl rfl rfl cf22 (fun _ w1 hM => EqualFC_any x.ad y.ad x.q x.c y.q y.c x.kids y.kids w1 (hs.t.below hM.below) (gs.t.below hM.below) hq gq ih (fun k hkm => (hk k hkm).lift hM.below) (fun k hkm => (gk k hkm).lift hM.below))) ?_
  refine s1 (y_and rfl rfl rfl) ?_
  refine sr 1 ?_
  refine sgo ?_
  refine tr1 hRb fun w hM => ?_
  exact ⟨rfl, hM.below⟩
theorem FSame_any (x : SC) : SameAt x := SC.ind (Q := SameAt) same_step x
end Go.Proofs.YtfcedlfeinnhoaaGreatDoor
end
section
namespace Go.Proofs.YtfcedlfeinnhoaaGreatDoor
set_option linter.unusedSimpArgs false
set_option linter.unusedVariables false
set_option maxRecDepth 20000
open Go.RowKit Go.Eng
theorem awakeQ_any (w : World) : Calls Tryz.prog 5 #[] w fun e w' => e = .returned (.bool true) ∧ Below w.heap.size w w' := by
  refine enter_args (args := []) (F := _) Tryz.func5 rfl Tryz.ntmps5 rfl rfl ?_
  intro Rb hRb hRn
  refine tx ?_
  refine sr 1 ?_
  refine sgx ?_
  refine s1 (y_call rfl rfl rfl cf19 (fun _ w _ => Fits_any [97, 42] [97, 98] w (by decide) (by decide))) ?_
  refine sr 1 ?_
  refine sgo ?_
  refine tr1 hRb fun w hM => ?_
  exact ⟨by rw [show gm eqL [97, 42] [97, 98] = true from by first | decide | kernel_rfl], hM.below⟩
theorem on_text {x : SC} (h : condNo x = 0) : OnQ (textP x.says) fun _ => .inl x.says := read_text (rt_of x.says (cond_parts2 h).2)
theorem FindRound_any (x : SC) (w : World) (hok : x.Ok w) (hE : ErrV w) (hO : OW w) (hP : P10 w) :
    Calls Tryz.prog 3 #[x.val] w fun e w' => e = .returned (.bool true) ∧ Below w.heap.size w w' := by
  refine enter_args (args := [.agg #[.int .i64 x.op, .slice x.ad x.q x.c, .int .i64 x.lo, .int .i64 x.hi, str x.nm, str x.tx]]) (F := _) Tryz.func3 rfl Tryz.ntmps3 rfl rfl ?_
  intro Rb hRb hRn
  refine T_many0 900 ?_
  refine tx ?_
  refine S_box 1 1 rfl rfl rfl rfl rfl ?_
  intro b1
  refine sr 1 ?_
  refine sgs ?_
  refine tx ?_
  refine s1 (y_call rfl rfl rfl cf5 (fun _ w1 _ => awakeQ_any w1)) ?_
  refine sr 1 ?_
  refine sgo ?_
  refine T_cond rfl ?_ ?_ <;> intro h8
  · skip
    cases h8
  refine kgx ?_
  refine s1 (yA 1 rfl Tryz.underlying24 sz24) ?_
  refine S_call 11 (X := (List UInt8 × Int)) rfl rfl rfl rfl rfl rfl rfl cf6 (fun z => .tuple #[str z.1, .int .i64 z.2]) (fun z => z.2 = 0 → condNo x = 0 ∧ z.1 = textP x.says ∧ z.1.length ≤ 1000000) (fun _ => _) (fun w1 hM => (CondText_any x w1 (hok.lift hM.below) (hO.below hM.below) (hP.below hM.below)).mono fun e w2 ⟨⟨s, no, h1, h2⟩, hb⟩ => ⟨(s, no), h1, h2, hM.call hb⟩) ?_
  intro z hz
  refine sr 5 ?_
  refine sgs ?_
  refine tx ?_
  refine sr 2 ?_
  refine sgo ?_
  refine T_cond rfl ?_ ?_ <;> intro h15
  · skip
    refine tx ?_
    refine sr 1 ?_
    refine sgo ?_
    refine tr1 hRb fun w hM => ?_
    exact ⟨rfl, hM.below⟩
  have h15 : z.2 = 0 := by simpa using h15
  obtain ⟨hz1, hz2, hz3⟩ := hz h15
  refine kgx ?_
  refine sr 1 ?_
  refine S_callM 18 [(900, 900)] (X := RcR) rfl rfl rfl rfl rfl rfl rfl cf7 rfl (fun r => .tuple #[.agg #[.int .i64 r.sc.op, .slice r.sc.ad r.sc.q r.sc.c, .int .i64 r.sc.lo, .int .i64 r.sc.hi, str r.sc.nm, str r.sc.tx], .int .i64 r.n, .int .i64 r.no]) (RcOk w z.1) (fun r => [(900, .many r.rs)]) (fun _ => rfl) (fun _ => rfl) (fun K hK w1 hM => ReadCond_any hK z.1 hE hO w1 hM) ?_
  intro r hr
  obtain ⟨r1, r2, r3⟩ := (hr.good hz3 x.says (by rw [hz2]; exact on_text hz1)).1 hz1
  refine sr 4 ?_
  refine S_alloc 5 5 rfl rfl rfl rfl z24 ?_
  intro b5
  refine S_store 5 rfl rfl rfl rfl rfl rfl sz24 rfl rfl ?_
  refine sr 2 ?_
  refine sgx ?_
  refine sr 3 ?_
  refine sg rfl (y_move rfl rfl) ?_
  refine sg rfl (y_bin rfl rfl rfl (fun _ => b_eql)) ?_
  refine s1 (y_and rfl rfl rfl) ?_
  refine sr 1 ?_
  refine sg rfl (yA 1 rfl Tryz.underlying24 sz24) ?_
  refine sg rfl (yA 5 rfl Tryz.underlying24 sz24) ?_
  refine sg rfl (y_call rfl rfl rfl cf8 (fun _ w1 hM => FSame_any x r.sc w1 (hok.lift hM.below) (hr.ok.at hM 900 rfl))) ?_
  refine s1 (y_and rfl rfl rfl) ?_
  refine sr 1 ?_
  refine sgo ?_
  refine tr1 hRb fun w hM => ?_
  exact ⟨by rw [r1, r2, r3, sameP_refl]; rfl, hM.below⟩
end Go.Proofs.YtfcedlfeinnhoaaGreatDoor
end
section
namespace Go.Proofs.YtfcedlfeinnhoaaGreatDoor
set_option linter.unusedSimpArgs false
set_option linter.unusedVariables false
set_option maxRecDepth 20000
open Go.ChangeShapes Go.WideShapes Go.RowKit Go.Eng
theorem ownNone : ownKnob Tryz.prog.godebug = none := by kernel_rfl
theorem laidOut : laidOutB Tryz.prog = true := by kernel_rfl
def firstCells : Array Value := (Go.Pinned.utf8FirstZ.map fun n : Nat => Value.int .u8 (n : Int)).toArray
def tabCells (k : IntKind) (zs : List Int) : Array Value := (zs.map fun n => Value.int k n).toArray
def rangeZ : List Int := [128, 191, 160, 191, 128, 159, 144, 191, 128, 143, 0, 0, 0, 0, 0, 0, 0, 0, 0, 0, 0, 0, 0, 0, 0, 0, 0, 0, 0, 0, 0, 0]
def tz32Z : List Int := [0, 1, 28, 2, 29, 14, 24, 3, 30, 22, 20, 15, 25, 17, 4, 8, 31, 27, 13, 23, 21, 19, 16, 7, 26, 12, 18, 6, 11, 5, 10, 9]
def tz64Z : List Int := [0, 1, 56, 2, 57, 49, 28, 3, 61, 58, 42, 50, 38, 29, 17, 4, 62, 47, 59, 36, 45, 43, 51, 22, 53, 39, 33, 30, 24, 18, 12, 5, 63, 55, 48, 27, 60, 41, 37, 16, 46, 35, 44, 21, 52, 32, 23, 11, 54, 26, 40, 15, 34, 20, 31, 10, 25, 14, 19, 9, 13, 8, 7, 6]
def pow10Z : List Int := [1, 10, 100, 1000, 10000, 100000, 1000000, 10000000, 100000000, 1000000000, 10000000000, 100000000000, 1000000000000, 10000000000000, 100000000000000, 1000000000000000, 10000000000000000, 100000000000000000, 1000000000000000000, 10000000000000000000]
def layCells (cs : Array Value) : Obj → Obj
  | .cells _ t frozen => .cells cs t frozen
  | o => o
noncomputable def low2 : Nat := (World.holding Tryz.prog default ⟨#[], #[], []⟩).heap.size
def rangeT : List UInt8 := [118, 97, 108, 117, 101, 32, 111, 117, 116, 32, 111, 102, 32, 114, 97, 110, 103, 101]
def syntaxT : List UInt8 := [105, 110, 118, 97, 108, 105, 100, 32, 115, 121, 110, 116, 97, 120]
noncomputable def laidWorld2 (os : Os) (args : Array Value) : World :=
  { World.holding Tryz.prog os ⟨#[.cells #[.string ⟨rangeT.toArray⟩] 212, .cells #[.string ⟨syntaxT.toArray⟩] 212], args, []⟩ with heap := (((((((World.holding Tryz.prog os ⟨#[.cells #[.string ⟨rangeT.toArray⟩] 212, .cells #[.string ⟨syntaxT.toArray⟩] 212], args, []⟩).heap.modify 3 (layCells firstCells)).modify 4 (layCells (tabCells .u8 rangeZ))).modify 7 (layCells (tabCells .u8 tz32Z))).modify 8 (layCells (tabCells .u8 tz64Z))).modify 2 (layCells (tabCells .u64 pow10Z))).modify 6 (layCells #[.iface 210 (.pointer (some ⟨low2, 0, none⟩))])).modify 5 (layCells #[.iface 210 (.pointer (some ⟨low2 + 1, 0, none⟩))]) }
def opCells : Array Value := (wordQ.map str).toArray
noncomputable def laidWorld3 (os : Os) (args : Array Value) : World :=
  { laidWorld2 os args with heap := (laidWorld2 os args).heap.modify 0 (layCells opCells) }
def strsData {H : Type} (l : List (List UInt8)) : DataW H := .agg (l.map fun s => .lit (.string s))
/-- an array of strings that reads as these words holds them -/
theorem cells_of_strs {H : Type} {enc : TypeId × Value → H} {P : Program} {w : World} {base : Nat} {sp : Nat → Bool} {held : Bool} {fuel : Nat} {t e : TypeId} {n : Nat} {cs : List Value} {zs : List (List UInt8)} {p : List MemPlace}
    (ht : P.underlying t = some (.array n e)) (he : P.underlying e = some .string) (hce : P.cellsOf e = 1) (hct : P.cellsOf t = n)
    (h : DataW.trod enc P w base sp held fuel t cs = some (strsData zs, p)) : cs = zs.map str := by
  cases fuel with
  | zero => simp [DataW.trod] at h
  | succ fuel =>
    simp only [DataW.trod, ht, hce, hct, Nat.mul_one] at h
    split at h
    · rename_i hl
      obtain ⟨xs, hm, hx⟩ := Option.map_eq_some_iff.1 h
      have hxs : xs.map (·.1) = zs.map fun z => (DataW.lit (.string z) : DataW H) := by
        have := congrArg Prod.fst hx
        simpa [strsData] using this
      have hxl : xs.length = n := by simpa using Lib.mapM_length hm
      have hzl : zs.length = n := by
        have := congrArg List.length hxs
        simp at this
        omega
      apply List.ext_getElem?
      intro i
      by_cases hi : i < n
      · obtain ⟨b, hb, hf⟩ := Lib.mapM_at hm i i (by simp [hi])
        obtain ⟨z, hc, rfl, _⟩ := DataW.trod_string he hf
        have h1 : cs[i]? = some (.string z) := by
          have := congrArg (·[0]?) hc
          simpa [List.getElem?_take, List.getElem?_drop] using this
        have h2 : (xs.map (·.1))[i]? = some (DataW.lit (.string z.data.toList) : DataW H) := by simp [hb]
        rw [hxs] at h2
        simp only [List.getElem?_map, Option.map_eq_some_iff, DataW.lit.injEq, Lit.string.injEq] at h2
        obtain ⟨z', hz', rfl⟩ := h2
        rw [h1, List.getElem?_map, hz']
        simp [str]
      · rw [List.getElem?_eq_none (by omega), List.getElem?_eq_none (by simp; omega)]
    · cases h
theorem ow_of {W : World} {rest : List (String × DataW Unit)} (h : laidMet Tryz.prog (("inquest/find.opWords", Rows.laid_inquest_find_opWords) :: rest) W) : OW W := by
  have h' : laidMet Tryz.prog (("inquest/find.opWords", strsData wordQ) :: rest) W := h
  obtain ⟨ps, ⟨g', t', cs, fuel, p, q, hg', ht', hvar, hd, _, _⟩, _⟩ := h'
  have hg : Tryz.prog.globalNamed "inquest/find.opWords" = some 0 := by kernel_rfl
  have hty : (Tryz.prog.globals[0]?).map (·.type) = some 64 := by kernel_rfl
  obtain rfl := Option.some.inj (hg.symm.trans hg')
  obtain rfl := Option.some.inj (hty.symm.trans ht')
  have hcs := cells_of_strs Tryz.underlying64 Tryz.underlying9 (by kernel_rfl) (by kernel_rfl) hd
  have hcell : ∀ i, W.cell? ⟨0, i, none⟩ = cs[i]? := fun i => World.var?_cell hg hvar i
  have hat : ∀ j : Nat, j < 15 → W.cell? ⟨0, j, none⟩ = some (str (wordQ.getD j [])) := fun j hj => by
    have hl : j < wordQ.length := hj
    rw [hcell, ← Array.getElem?_toList, hcs, List.getElem?_map, List.getElem?_eq_getElem hl, List.getD_eq_getElem?_getD, List.getElem?_eq_getElem hl]; rfl
  refine ⟨hat, ?_⟩
  have h2 := hat 0 (by decide)
  unfold World.cell? at h2
  cases hg : W.heap[0]? with
  | none => rw [hg] at h2; cases h2
  | some o => exact (Array.getElem?_eq_some_iff.1 hg).1
theorem q_star : "*" ++ "errors.errorString" = "*errors.errorString" := by decide
theorem q_row (u : TypeId) (h : Tryz.prog.typeName? 3 u = some "*errors.errorString") : u = 210 :=
  typeName_ptr_named (nm := "errors.errorString") (by rw [q_star]; kernel_rfl) (by kernel_rfl) (by decide) u (by rw [q_star]; exact h)
theorem err_of {W : World} {rest : List (String × DataW Unit)} (h : laidMet Tryz.prog (("strconv.ErrSyntax", Rows.laid_strconv_ErrSyntax) :: rest) W) : ErrV W := by
  have hg : Tryz.prog.globalNamed "strconv.ErrSyntax" = some 5 := by kernel_rfl
  obtain ⟨a, s, h1, _⟩ := laid_sentinel (ti := 83) (tp := 210) (te := 212) (ts := 9) h hg (by kernel_rfl) Tryz.underlying83 q_row Tryz.underlying210 Tryz.underlying212 rfl rfl Tryz.underlying9 (by kernel_rfl) (by kernel_rfl)
  have hc : W.cell? ⟨5, 0, none⟩ = some (.iface 210 (.pointer (some a))) := by
    have := World.var?_cell hg h1 0
    simpa using this
  refine ⟨_, _, hc, ?_⟩
  unfold World.cell? at hc
  cases hg : W.heap[5]? with
  | none => rw [hg] at hc; cases hc
  | some o => exact (Array.getElem?_eq_some_iff.1 hg).1
theorem p10_of {x y : String × DataW Unit} {rest : List (String × DataW Unit)} {W : World} (h : laidMet Tryz.prog (x :: y :: ("internal/strconv.uint64pow10", Rows.laid_internal_strconv_uint64pow10) :: rest) W) : P10 W := by
  have h0 : laidMet Tryz.prog (("internal/strconv.uint64pow10", Lib.tabData .u64 Lib.pow10Tab) :: rest) W := h.tail.tail
  have h1 := Lib.tabIs_of_head (P := Tryz.prog) (g := 2) (by kernel_rfl) (by kernel_rfl) Tryz.underlying164 Tryz.underlying140 (by kernel_rfl) (by kernel_rfl) h0
  have h2 := h1.cell (g := 2) (by kernel_rfl) 0 (by decide)
  refine ⟨h1, ?_⟩
  unfold World.cell? at h2
  cases hg : W.heap[2]? with
  | none => rw [hg] at h2; cases h2
  | some o => exact (Array.getElem?_eq_some_iff.1 hg).1
end Go.Proofs.YtfcedlfeinnhoaaGreatDoor
end
