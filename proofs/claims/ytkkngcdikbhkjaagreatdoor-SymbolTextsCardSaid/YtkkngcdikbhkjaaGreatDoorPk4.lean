/- Part 4, merged by a program. symbol.readTable and symbol.Read. Conditions: those of each theorem. SymbolChecks: the program's answers and the reference's are one. symbol.Read. Conditions: those of each theorem. Strings at a seat of tables: one byte looked for, cut and split at it. Conditions: those of each theorem. Numbers as texts at a seat of tables: Itoa, Atoi, plainNumber, whole. Conditions: those of each theorem. Texts joined and split at one byte, numbers as digits: plain lists at a seat of tables. No program in sight. symbol.Write and the reference's TableBytes make the same bytes of a right table. Conditions: those of each theorem. The bytes of a table and the reader of them are inverse, in plain lists. No program in sight. A table as lines, and lines as a table: plain lists. What is written of a right table is read back. No program in sight. -/
import Derived.Test.YtkkngcdikbhkjaaGreatDoorByt
import Derived.Test.YtkkngcdikbhkjaaGreatDoorClr
import Derived.Test.YtkkngcdikbhkjaaGreatDoorMany
import Derived.Test.YtkkngcdikbhkjaaGreatDoorIfc
import Derived.Test.YtkkngcdikbhkjaaGreatDoorSit
import Derived.Lib.ItoaLen
import Derived.Lib.Join
import Derived.Test.YtkkngcdikbhkjaaGreatDoorTail
import Derived.Test.YtkkngcdikbhkjaaGreatDoorPk3
section
namespace Go.Proofs.YtkkngcdikbhkjaaGreatDoor
set_option linter.unusedSimpArgs false
set_option linter.unusedVariables false
set_option maxRecDepth 20000
open Go.RowKit Go.Eng
theorem z117 : ∀ w, (zeroValue 117).run Tryz.prog w = .ok .nilFunc w := fun _ => by kernel_rfl
def Tab.pl (t : Tab) : PT := ⟨t.id, t.size, t.fi.l, t.fu.l, t.ro.l, t.ca.l⟩
/-- a table whose slices are rows of the call's own -/
structure OT where
  id : List UInt8
  size : Int
  fA : Option Addr
  fc : Nat
  fl : List (List UInt8)
  uA : Option Addr
  uc : Nat
  ul : List SFunc
  rA : Option Addr
  rc : Nat
  rl : List SRow
  cA : Option Addr
  cc : Nat
  cl : List SCall
def OT.tab (o : OT) : Tab := ⟨o.id, o.size, ⟨o.fA, o.fl.length, o.fc, o.fl⟩, ⟨o.uA, o.ul.length, o.uc, o.ul⟩, ⟨o.rA, o.rl.length, o.rc, o.rl⟩, ⟨o.cA, o.cl.length, o.cc, o.cl⟩⟩
def OT.small (o : OT) : Prop := o.id.length ≤ 1000000 ∧ (o.fl.length ≤ 1000001 ∧ ∀ x ∈ o.fl, x.length ≤ 1000000) ∧ (o.ul.length ≤ 1000001 ∧ ∀ x ∈ o.ul, x.name.length ≤ 1000000) ∧ o.rl.length ≤ 1000001 ∧ (o.cl.length ≤ 1000001 ∧ ∀ x ∈ o.cl, x.name.length ≤ 1000000)
theorem own_ok {α : Type} {enc : α → List Value} {size : Nat} {e : TypeId} {w0 w : World} {L : HL} {i : Nat} {A : Option Addr} {c : Nat} {l : List α} (hM : Mem w0 L w) (hL : L.get i = some (.own e size (.slice A l.length c) l.length (l.flatMap enc))) : Sl.Ok enc size w ⟨A, l.length, c, l⟩ := by
  refine ⟨⟨own_reads hM hL, rfl⟩, ?_⟩
  have h : w.ownsRow w0.heap.size e size (.slice A l.length c) l.length (l.flatMap enc) := hM.sat i _ hL
  rcases h.2 with ⟨hv, h0⟩ | ⟨g, cap, cur, hv, _, _, hnc, _⟩
  · show l.length ≤ c
    omega
  · have : c = cap := by injection hv
    show l.length ≤ c
    omega
def OT.items (o : OT) (i : Nat) : HL := [(i, rF o.fA o.fc o.fl), (i + 1, rU o.uA o.uc o.ul), (i + 2, rR o.rA o.rc o.rl), (i + 3, rC o.cA o.cc o.cl)]
def OT0 : OT := ⟨[], 0, none, 0, [], none, 0, [], none, 0, [], none, 0, []⟩
theorem OT0.sm : OT0.small := ⟨by simp [OT0], ⟨by simp [OT0], by simp [OT0]⟩, ⟨by simp [OT0], by simp [OT0]⟩, by simp [OT0], by simp [OT0], by simp [OT0]⟩
theorem Mem.nil4 {w0 w : World} {L : HL} (h : Mem w0 L w) : Mem w0 ([(908, rF none 0 []), (909, rU none 0 []), (910, rR none 0 []), (911, rC none 0 [])] ++ L) w :=
  (((h.add 911 (rC none 0 []) rfl (World.ownsRow_nil _ _ _ _)).add 910 (rR none 0 []) rfl (World.ownsRow_nil _ _ _ _)).add 909 (rU none 0 []) rfl (World.ownsRow_nil _ _ _ _)).add 908 (rF none 0 []) rfl (World.ownsRow_nil _ _ _ _)
theorem OT.okI {o : OT} (i : Nat) {w0 w : World} {L : HL} (hM : Mem w0 L w) (hs : o.small) (h1 : L.get i = some (rF o.fA o.fc o.fl)) (h2 : L.get (i + 1) = some (rU o.uA o.uc o.ul)) (h3 : L.get (i + 2) = some (rR o.rA o.rc o.rl)) (h4 : L.get (i + 3) = some (rC o.cA o.cc o.cl)) : o.tab.Ok w := by
  obtain ⟨s1, s2, s3, s4, s5⟩ := hs
  refine ⟨own_ok hM h1, own_ok hM h2, own_ok hM h3, own_ok hM h4, ⟨?_, ?_, ?_, ?_, ?_⟩, fun s hx => ?_, fun s hx => ?_, fun s hx => ?_⟩
  · show o.id.length ≤ _; omega
  · show o.fl.length ≤ _; omega
  · show o.ul.length ≤ _; omega
  · show o.rl.length ≤ _; omega
  · show o.cl.length ≤ _; omega
  · have := s2.2 s hx; omega
  · have := s3.2 s hx; omega
  · have := s5.2 s hx; omega
theorem OT.ok {o : OT} {w0 w : World} {L : HL} (hM : Mem w0 L w) (hs : o.small) (h1 : L.get 908 = some (rF o.fA o.fc o.fl)) (h2 : L.get 909 = some (rU o.uA o.uc o.ul)) (h3 : L.get 910 = some (rR o.rA o.rc o.rl)) (h4 : L.get 911 = some (rC o.cA o.cc o.cl)) : o.tab.Ok w := OT.okI 908 hM hs h1 h2 h3 h4
end Go.Proofs.YtkkngcdikbhkjaaGreatDoor
end
section
namespace Go.Proofs.YtkkngcdikbhkjaaGreatDoor
set_option linter.unusedSimpArgs false
set_option linter.unusedVariables false
set_option maxRecDepth 20000
open Go.RowKit Go.Eng
end Go.Proofs.YtkkngcdikbhkjaaGreatDoor
end
section
namespace Go.Proofs.YtkkngcdikbhkjaaGreatDoor
set_option linter.unusedSimpArgs false
set_option linter.unusedVariables false
set_option maxRecDepth 20000
open Go.RowKit Go.Eng
def PT0 : PT := ⟨[], 0, [], [], [], []⟩
def Tab0 : Tab := ⟨[], 0, ⟨none, 0, 0, []⟩, ⟨none, 0, 0, []⟩, ⟨none, 0, 0, []⟩, ⟨none, 0, 0, []⟩⟩
theorem slOk_nil {α : Type} {enc : α → List Value} {size : Nat} {w : World} : Sl.Ok enc size w ⟨none, 0, 0, []⟩ := ⟨⟨⟨by simp, fun h => absurd h (by simp)⟩, rfl⟩, Nat.le_refl _⟩
theorem Tab0.ok {w : World} : Tab0.Ok w := ⟨slOk_nil, slOk_nil, slOk_nil, slOk_nil, by simp [Tab0], by simp [Tab0]⟩
def tabNoP (p : PT) : Int := tabNo ⟨p.id, p.size, ⟨none, p.fi.length, 0, p.fi⟩, ⟨none, p.fu.length, 0, p.fu⟩, ⟨none, p.ro.length, 0, p.ro⟩, ⟨none, p.ca.length, 0, p.ca⟩⟩
theorem tabNo_pl {t : Tab} {w : World} (h : t.Ok w) : tabNo t = tabNoP t.pl := by
  simp only [tabNo, tabNoP, Tab.pl, h.fi.t.len, h.fu.t.len, h.ro.t.len, h.ca.t.len]
end Go.Proofs.YtkkngcdikbhkjaaGreatDoor
end
section
namespace Go.Proofs.YtkkngcdikbhkjaaGreatDoor
set_option linter.unusedSimpArgs false
set_option linter.unusedVariables false
set_option maxRecDepth 20000
open Go.RowKit Go.Eng
theorem Index1_any (s : List UInt8) (c : UInt8) (w : World) : Calls Tryz.prog 222 #[str s, str [c]] w fun e w' => e = .returned (.int .i64 (Lib.indexByte s c)) ∧ Below w.heap.size w w' :=
  (Tryz.strings_Index_one ⟨s.toArray⟩ c w).mono fun e w' h => ⟨by rw [h.1], h.2 ▸ Below.refl _ _⟩
theorem LIndex1_any (s : List UInt8) (c : UInt8) (w : World) : Calls Tryz.prog 309 #[str s, str [c]] w fun e w' => e = .returned (.int .i64 (Lib.indexByte s c)) ∧ Below w.heap.size w w' :=
  (Tryz.stringslite_Index_one ⟨s.toArray⟩ c w).mono fun e w' h => ⟨by rw [h.1], h.2 ▸ Below.refl _ _⟩
theorem Count1_any (s : List UInt8) (c : UInt8) (w : World) : Calls Tryz.prog 334 #[str s, str [c]] w fun e w' => e = .returned (.int .i64 ((s.count c : Nat) : Int)) ∧ Below w.heap.size w w' :=
  (Tryz.strings_Count_one ⟨s.toArray⟩ c w).mono fun e w' h => ⟨by rw [h.1]; rfl, h.2 ▸ Below.refl _ _⟩
/-! ### Split -/
def splitC (c : UInt8) : List UInt8 → List (List UInt8)
  | [] => [[]]
  | x :: r => if x = c then [] :: splitC c r else match splitC c r with
    | h :: t => (x :: h) :: t
    | [] => [[x]]
theorem splitC_len (c : UInt8) : ∀ s : List UInt8, (splitC c s).length = s.count c + 1
  | [] => rfl
  | x :: r => by
    have ih := splitC_len c r
    rw [splitC]
    by_cases h : x = c
    · subst h; rw [if_pos rfl, List.length_cons, ih, List.count_cons_self]
    · rw [if_neg h, List.count_cons_of_ne h]
      cases hq : splitC c r with
      | nil => rw [hq] at ih; simp at ih
      | cons a t => rw [hq] at ih; simpa using ih
theorem splitC_none (c : UInt8) : ∀ s : List UInt8, (∀ k : Nat, s[k]? ≠ some c) → splitC c s = [s]
  | [], _ => rfl
  | x :: r, h => by
    have hx : ¬ x = c := fun e => h 0 (by simp [e])
    rw [splitC, if_neg hx, splitC_none c r fun k => by have := h (k + 1); simpa using this]
theorem splitC_some (c : UInt8) : ∀ (s : List UInt8) (o : Nat), s[o]? = some c → (∀ k : Nat, k < o → s[k]? ≠ some c) → splitC c s = s.take o :: splitC c (s.drop (o + 1))
  | [], o, h, _ => by simp at h
  | x :: r, 0, h, _ => by
    have hx : x = c := by simpa using h
    rw [splitC, if_pos hx]; rfl
  | x :: r, o + 1, h, hk => by
    have hx : ¬ x = c := fun e => hk 0 (by omega) (by simp [e])
    rw [splitC, if_neg hx, splitC_some c r o (by simpa using h) fun k hko => by have := hk (k + 1) (by omega); simpa using this]
    rfl
theorem strs_flat (l : List (List UInt8)) : l.flatMap strEnc = l.map str := by
  induction l with
  | nil => rfl
  | cons a r ih => rw [List.flatMap_cons, ih]; rfl
theorem strs_len (l : List (List UInt8)) : (l.flatMap strEnc).length = l.length := by rw [strs_flat, List.length_map]
theorem strs_set {out : List (List UInt8)} {i m : Nat} {v : List UInt8} (ho : out.length = i) (hm : 0 < m) : ((out ++ List.replicate m []).flatMap strEnc).set i (str v) = ((out ++ [v]) ++ List.replicate (m - 1) []).flatMap strEnc := by
  obtain ⟨k, rfl⟩ : ∃ k, m = k + 1 := ⟨m - 1, by omega⟩
  subst ho
  rw [strs_flat, strs_flat, Nat.add_sub_cancel, List.replicate_succ]
  simp
theorem made_str (z : Value) (hz : z = str []) (n : Nat) : (madeCells z.cells (n * 1)).toList = (List.replicate n []).flatMap strEnc := by
  subst hz
  rw [strs_flat, Nat.mul_one]
  apply List.ext_getElem?
  intro j
  by_cases h : j < n
  · simp [madeCells, h, List.getElem?_replicate, Value.cells, Nat.mod_one]
  · simp [madeCells, h, List.getElem?_replicate]
set_option maxHeartbeats 1000000 in
theorem genSplit1_any (s : List UInt8) (c : UInt8) (hs : s.length ≤ 1000000000) (w : World) :
    Calls Tryz.prog 265 #[str s, str [c], .int .i64 0, .int .i64 (-1)] w fun e w' => ∃ A q, e = .returned (.slice A (splitC c s).length q) ∧ w'.ownsRow w.heap.size 9 1 (.slice A (splitC c s).length q) (splitC c s).length ((splitC c s).flatMap strEnc) ∧ Below w.heap.size w w' := by
  have hcl : s.count c ≤ s.length := List.count_le_length
  have hsl := splitC_len c s
  refine enter_args (args := [str s, str [c], .int .i64 0, .int .i64 (-1)]) (F := _) Tryz.func265 rfl Tryz.ntmps265 rfl rfl ?_
  intro Rb hRb hRn
  refine T_seq ?_
  refine T_region ?_
  refine S_nilSlice 8 (e := 9) (size := 1) ?_
  refine S_ 8 rfl rfl rfl _ (y_assign rfl rfl) ?_
  refine S_go (fun _ _ h => h) ?_
  refine T_seq ?_
  refine T_seq ?_
  refine T_region ?_
  refine S_ 12 rfl rfl rfl _ (y_move rfl rfl) ?_
  refine S_ 13 rfl rfl rfl _ (y_bin rfl rfl rfl (fun _ => b_eql)) ?_
  refine S_go (fun _ _ h => h) ?_
  refine T_cond rfl (fun h13 => ?_) (fun h13 => ?_)
  · skip
    simp at h13
  · skip
    refine T_skip_go (fun _ _ h => h) ?_
    refine T_seq ?_
    refine T_seq ?_
    refine T_region ?_
    refine S_ 14 rfl rfl rfl _ (y_move rfl rfl) ?_
    refine S_ 15 rfl rfl rfl _ (y_bin rfl rfl rfl (fun _ => b_eqls)) ?_
    refine S_go (fun _ _ h => h) ?_
    refine T_cond rfl (fun h15 => ?_) (fun h15 => ?_)
    · skip
      simp at h15
    · skip
      refine T_skip_go (fun _ _ h => h) ?_
      refine T_seq ?_
      refine T_seq ?_
      refine T_region ?_
      refine S_ 19 rfl rfl rfl _ (y_move rfl rfl) ?_
      refine S_ 20 rfl rfl rfl _ (y_bin rfl rfl rfl (fun _ => b_lss)) ?_
      refine S_go (fun _ _ h => h) ?_
      refine T_cond rfl (fun h20 => ?_) (fun h20 => ?_)
      · skip
        refine T_region ?_
        refine S_ 21 rfl rfl rfl _ (y_move rfl rfl) ?_
        refine S_ 22 rfl rfl rfl _ (y_move rfl rfl) ?_
        refine S_ 23 rfl rfl rfl _ (y_call rfl rfl rfl cf334 (fun _ w _ => Count1_any s c w)) ?_
        refine S_ 24 rfl rfl rfl _ (y_bin rfl rfl rfl (fun hg => b_addv (((s.count c + 1 : Nat) : Int)) (by omega) (by omega))) ?_
        refine S_ 3 rfl rfl rfl _ (y_assign rfl rfl) ?_
        refine S_go (fun _ _ h => h) ?_
        refine T_seq ?_
        refine T_region ?_
        refine S_ 25 rfl rfl rfl _ (y_move rfl rfl) ?_
        refine S_ 26 rfl rfl rfl _ (y_move rfl rfl) ?_
        refine S_ 27 rfl rfl rfl _ (y_len_str rfl rfl Tryz.underlying9) ?_
        refine S_ 28 rfl rfl rfl _ (y_bin rfl rfl rfl (fun hg => b_add (by omega))) ?_
        refine S_ 29 rfl rfl rfl _ (y_as (v' := .int .i64 ((s.count c + 1 : Nat) : Int)) (by congr 1; split <;> omega) (y_min rfl rfl rfl)) ?_
        refine S_ 3 rfl rfl rfl _ (y_assign rfl rfl) ?_
        refine S_go (fun _ _ h => h) ?_
        refine T_seq ?_
        refine T_region ?_
        refine S_ 30 rfl rfl rfl _ (y_move rfl rfl) ?_
        obtain ⟨i31, hi31, hz31, hs31, hy31⟩ := info_parts inf9
        refine S_makeSlice 31 31 rfl rfl rfl rfl rfl rfl Tryz.underlying57 hi31 hz31 hs31 (by rw [hy31]; omega) ((by simp only [maxLen]; omega)) rfl ?_
        intro b31
        refine S_ 9 rfl rfl rfl _ (y_assign rfl rfl) ?_
        refine S_go (fun _ _ h => h) ?_
        refine T_seq ?_
        refine T_region ?_
        refine S_ 32 rfl rfl rfl _ (y_move rfl rfl) ?_
        refine S_ 33 rfl rfl rfl _ (y_bin rfl rfl rfl (fun hg => b_subv (((s.count c : Nat) : Int)) (by omega) (by omega))) ?_
        refine S_ 3 rfl rfl rfl _ (y_assign rfl rfl) ?_
        refine S_go (fun _ _ h => h) ?_
        refine T_seq ?_
        refine T_region ?_
        refine S_ 10 rfl rfl rfl _ (y_assign rfl rfl) ?_
        refine S_go (fun _ _ h => h) ?_
        refine T_seq ?_
        refine T_block ?_
        refine T_loopK3 (kf := [(0, 0), (10, 11), (34, 57)]) (kl := [(0, 0), (10, 11), (31, 31), (34, 57)]) (fun (i : Nat) (out : List (List UInt8)) (rest : List UInt8) => [(10, true, .int .i64 (i : Int)), (0, true, str rest)]) (fun (i : Nat) (out : List (List UInt8)) (rest : List UInt8) => [(31, .own 9 1 (.slice (some ⟨b31, 0, none⟩) (s.count c + 1) (s.count c + 1)) (s.count c + 1) ((out ++ List.replicate (s.count c + 1 - i) []).flatMap strEnc))]) (fun (i : Nat) (out : List (List UInt8)) (rest : List UInt8) => out.length = i ∧ out ++ splitC c rest = splitC c s ∧ i + (splitC c rest).length = s.count c + 1 ∧ rest.length ≤ s.length) (fun (i : Nat) (out : List (List UInt8)) (rest : List UInt8) => s.count c + 1 - i) 0 [] s (by repeat (first | exact kf_nil | (apply kf_in; focus rfl) | (apply kf_out; focus rfl))) (by repeat (first | exact kl_nil | exact kl_rest (by assumption) rfl | (apply kl_in; focus rfl) | (apply kl_out; focus rfl))) ?_ ?_ ?_ ?_
        · exact ⟨rfl, rfl, by omega, by omega⟩
        · exact ⟨rfl, rfl, trivial⟩
        · exact ⟨by rw [made_str _ rfl]; rfl, trivial⟩
        rintro i out rest ⟨hp1, hp2, hp3, hp4⟩
        refine T_seq ?_
        refine T_seq ?_
        refine T_region ?_
        refine S_ 34 rfl rfl rfl _ (y_move rfl rfl) ?_
        refine S_ 35 rfl rfl rfl _ (y_move rfl rfl) ?_
        refine S_ 36 rfl rfl rfl _ (y_bin rfl rfl rfl (fun _ => b_lss)) ?_
        refine S_go (fun _ _ h => h) ?_
        refine T_cond rfl (fun h36 => ?_) (fun h36 => ?_)
        · try simp only [decide_eq_true_eq, decide_eq_false_iff_not, Bool.or_eq_true, Bool.or_eq_false_iff, Bool.and_eq_true, Bool.and_eq_false_iff, Bool.not_eq_true', Bool.not_eq_false', Bool.not_eq_true, Bool.not_eq_false, Bool.not_true, Bool.not_false, Int.not_lt, Int.not_le, not_or, not_and, Classical.not_not] at h36
          refine T_skip_go (fun _ _ h => h) ?_
          refine T_block ?_
          refine T_seq ?_
          refine T_region ?_
          refine S_ 37 rfl rfl rfl _ (y_move rfl rfl) ?_
          refine S_ 38 rfl rfl rfl _ (y_move rfl rfl) ?_
          refine S_ 39 rfl rfl rfl _ (y_call rfl rfl rfl cf222 (fun _ w _ => Index1_any rest c w)) ?_
          refine S_ 11 rfl rfl rfl _ (y_assign rfl rfl) ?_
          refine S_go (fun _ _ h => h) ?_
          refine T_seq ?_
          refine T_seq ?_
          refine T_region ?_
          refine S_ 40 rfl rfl rfl _ (y_move rfl rfl) ?_
          refine S_ 41 rfl rfl rfl _ (y_bin rfl rfl rfl (fun _ => b_lss)) ?_
          refine S_go (fun _ _ h => h) ?_
          refine T_cond rfl (fun h41 => ?_) (fun h41 => ?_)
          · try simp only [decide_eq_true_eq, decide_eq_false_iff_not, Bool.or_eq_true, Bool.or_eq_false_iff, Bool.and_eq_true, Bool.and_eq_false_iff, Bool.not_eq_true', Bool.not_eq_false', Bool.not_eq_true, Bool.not_eq_false, Bool.not_true, Bool.not_false, Int.not_lt, Int.not_le, not_or, not_and, Classical.not_not] at h41
            have hix : Lib.indexByte rest c = -1 := by have := Lib.indexByte_ge rest c; omega
            have hr0 : splitC c rest = [rest] := splitC_none c rest (Lib.indexByte_none hix)
            have hi1 : i + 1 = s.count c + 1 := by rw [hr0] at hp3; exact hp3
            refine T_exit_go (fun _ _ h => h) ?_
            refine T_seq ?_
            refine T_region ?_
            refine S_ 58 rfl rfl rfl _ (y_move rfl rfl) ?_
            refine S_ 59 rfl rfl rfl _ (y_move rfl rfl) ?_
            refine S_ 60 rfl rfl rfl _ (y_move rfl rfl) ?_
            refine S_ 61 rfl rfl rfl _ (y_indexOwn 31 rfl rfl rfl rfl Tryz.underlying57 sz9 (fun _ => by omega)) ?_
            refine S_storeOwn 31 rfl rfl rfl rfl rfl rfl sz9 rfl rfl ?_ (xs' := ((out ++ [rest]) ++ List.replicate (s.count c + 1 - i - 1) []).flatMap strEnc) ?_ ?_
            · (rw [strs_len, List.length_append, List.length_replicate]; omega)
            · exact strs_set hp1 (by omega)
            refine S_go (fun _ _ h => h) ?_
            refine T_seq ?_
            refine T_region ?_
            refine S_ 62 rfl rfl rfl _ (y_move rfl rfl) ?_
            refine S_ 63 rfl rfl rfl _ (y_move rfl rfl) ?_
            refine S_ 64 rfl rfl rfl _ (y_bin rfl rfl rfl (fun hg => b_addv (((i + 1 : Nat) : Int)) (by omega) (by omega))) ?_
            refine S_shrink 31 (i + 1) rfl (by omega) ?_
            refine S_ 65 rfl rfl rfl _ (y_as (v' := .slice (some ⟨b31, 0, none⟩) (i + 1) (s.count c + 1)) (by rw [slice0, Nat.sub_zero, Nat.sub_zero]) (y_slice (lo := 0) (hi := i + 1) rfl rfl Tryz.underlying57 sz9 (.inl ⟨rfl, rfl⟩) (.inr ⟨_, _, rfl, rfl⟩) (by omega) (by omega) (Nat.le_refl _))) ?_
            refine S_ 8 rfl rfl rfl _ (y_assign rfl rfl) ?_
            refine S_go (fun _ _ h => h) ?_
            refine T_ret (fun a w hF hM => hRb a w (post1 rfl rfl (fun w hM => ?_) a w hF hM))
            have hfin : splitC c s = out ++ [rest] := by rw [← hp2, hr0]
            have hlen : (splitC c s).length = i + 1 := by rw [hfin, List.length_append, hp1]; rfl
            rw [hlen]
            refine ⟨some ⟨b31, 0, none⟩, s.count c + 1, rfl, ?_, hM.below⟩
            have h := hM.sat 31 _ rfl
            rw [show s.count c + 1 - i - 1 = 0 by omega, List.replicate_zero, List.append_nil, ← hfin, List.take_of_length_le (by rw [strs_len, hlen]; omega)] at h
            exact h
          · try simp only [decide_eq_true_eq, decide_eq_false_iff_not, Bool.or_eq_true, Bool.or_eq_false_iff, Bool.and_eq_true, Bool.and_eq_false_iff, Bool.not_eq_true', Bool.not_eq_false', Bool.not_eq_true, Bool.not_eq_false, Bool.not_true, Bool.not_false, Int.not_lt, Int.not_le, not_or, not_and, Classical.not_not] at h41
            obtain ⟨o, ho⟩ : ∃ o : Nat, Lib.indexByte rest c = o := ⟨(Lib.indexByte rest c).toNat, by omega⟩
            obtain ⟨ho1, ho2⟩ := Lib.indexByte_some ho
            have hol := (List.getElem?_eq_some_iff.1 ho1).1
            have hsp := splitC_some c rest o ho1 ho2
            have hdl : (rest.drop (o + 1)).length = rest.length - (o + 1) := List.length_drop
            refine T_skip_go (fun _ _ h => h) ?_
            refine T_seq ?_
            refine T_region ?_
            refine S_ 42 rfl rfl rfl _ (y_move rfl rfl) ?_
            refine S_ 43 rfl rfl rfl _ (y_move rfl rfl) ?_
            refine S_ 44 rfl rfl rfl _ (y_move rfl rfl) ?_
            refine S_ 45 rfl rfl rfl _ (y_move rfl rfl) ?_
            refine S_ 46 rfl rfl rfl _ (y_move rfl rfl) ?_
            refine S_ 47 rfl rfl rfl _ (y_bin rfl rfl rfl (fun hg => b_addv (((o : Nat) : Int)) (by omega) (by omega))) ?_
            refine S_ 48 rfl rfl rfl _ (y_as (v' := str (rest.take o)) (by rfl) (y_strTo rfl rfl rfl Tryz.underlying9 (fun _ => by omega))) ?_
            refine S_ 49 rfl rfl rfl _ (y_indexOwn 31 rfl rfl rfl rfl Tryz.underlying57 sz9 (fun _ => by omega)) ?_
            refine S_storeOwn 31 rfl rfl rfl rfl rfl rfl sz9 rfl rfl ?_ (xs' := ((out ++ [rest.take o]) ++ List.replicate (s.count c + 1 - i - 1) []).flatMap strEnc) ?_ ?_
            · (rw [strs_len, List.length_append, List.length_replicate]; omega)
            · exact strs_set hp1 (by omega)
            refine S_go (fun _ _ h => h) ?_
            refine T_seq ?_
            refine T_region ?_
            refine S_ 50 rfl rfl rfl _ (y_move rfl rfl) ?_
            refine S_ 51 rfl rfl rfl _ (y_move rfl rfl) ?_
            refine S_ 52 rfl rfl rfl _ (y_move rfl rfl) ?_
            refine S_ 53 rfl rfl rfl _ (y_as (v' := .int .i64 1) (by exact rfl) (y_len_str rfl rfl Tryz.underlying9)) ?_
            refine S_ 54 rfl rfl rfl _ (y_bin rfl rfl rfl (fun hg => b_addv (((o + 1 : Nat) : Int)) (by omega) (by omega))) ?_
            refine S_ 55 rfl rfl rfl _ (y_as (v' := str (rest.drop (o + 1))) (by rfl) (y_strFrom rfl rfl rfl Tryz.underlying9 (fun _ => by omega))) ?_
            refine S_ 0 rfl rfl rfl _ (y_assign rfl rfl) ?_
            refine S_go (fun _ _ h => h) ?_
            refine T_region ?_
            refine S_ 56 rfl rfl rfl _ (y_move rfl rfl) ?_
            refine S_ 57 rfl rfl rfl _ (y_bin rfl rfl rfl (fun hg => b_addv (((i + 1 : Nat) : Int)) (by omega) (by omega))) ?_
            refine S_ 10 rfl rfl rfl _ (y_assign rfl rfl) ?_
            refine S_nil (nextK3 (kf := [(0, 0), (10, 11), (34, 57)]) (kl := [(0, 0), (10, 11), (31, 31), (34, 57)]) (i + 1) (out ++ [rest.take o]) (rest.drop (o + 1)) (by repeat (first | exact kf_nil | (apply kf_in; focus rfl) | (apply kf_out; focus rfl))) (by repeat (first | exact kl_nil | exact kl_rest (by assumption) rfl | (apply kl_in; focus rfl) | (apply kl_out; focus rfl))) ?_ ?_ ?_ ?_)
            · omega
            · exact ⟨by simp [hp1], by rw [← hp2, hsp, List.append_assoc]; rfl, by rw [hsp, List.length_cons] at hp3; omega, by omega⟩
            · exact ⟨rfl, rfl, trivial⟩
            · exact ⟨rfl, trivial⟩
        · try simp only [decide_eq_true_eq, decide_eq_false_iff_not, Bool.or_eq_true, Bool.or_eq_false_iff, Bool.and_eq_true, Bool.and_eq_false_iff, Bool.not_eq_true', Bool.not_eq_false', Bool.not_eq_true, Bool.not_eq_false, Bool.not_true, Bool.not_false, Int.not_lt, Int.not_le, not_or, not_and, Classical.not_not] at h36
          have hr0 : splitC c rest = [rest] := by
            rcases hq : splitC c rest with _ | ⟨a, _ | ⟨b, t⟩⟩
            · rw [hq] at hp3; have := splitC_len c rest; rw [hq] at this; simp at this
            · have h1 := splitC_len c rest
              rw [hq] at h1
              rw [← hq]
              refine splitC_none c rest fun k hk => ?_
              have := List.count_pos_iff.2 (List.mem_of_getElem? hk)
              simp at h1
              omega
            · rw [hq] at hp3; simp at hp3; omega
          have hi1 : i + 1 = s.count c + 1 := by rw [hr0] at hp3; exact hp3
          refine T_exit_go (fun _ _ h => h) ?_
          refine T_seq ?_
          refine T_region ?_
          refine S_ 58 rfl rfl rfl _ (y_move rfl rfl) ?_
          refine S_ 59 rfl rfl rfl _ (y_move rfl rfl) ?_
          refine S_ 60 rfl rfl rfl _ (y_move rfl rfl) ?_
          refine S_ 61 rfl rfl rfl _ (y_indexOwn 31 rfl rfl rfl rfl Tryz.underlying57 sz9 (fun _ => by omega)) ?_
          refine S_storeOwn 31 rfl rfl rfl rfl rfl rfl sz9 rfl rfl ?_ (xs' := ((out ++ [rest]) ++ List.replicate (s.count c + 1 - i - 1) []).flatMap strEnc) ?_ ?_
          · (rw [strs_len, List.length_append, List.length_replicate]; omega)
          · exact strs_set hp1 (by omega)
          refine S_go (fun _ _ h => h) ?_
          refine T_seq ?_
          refine T_region ?_
          refine S_ 62 rfl rfl rfl _ (y_move rfl rfl) ?_
          refine S_ 63 rfl rfl rfl _ (y_move rfl rfl) ?_
          refine S_ 64 rfl rfl rfl _ (y_bin rfl rfl rfl (fun hg => b_addv (((i + 1 : Nat) : Int)) (by omega) (by omega))) ?_
          refine S_shrink 31 (i + 1) rfl (by omega) ?_
          refine S_ 65 rfl rfl rfl _ (y_as (v' := .slice (some ⟨b31, 0, none⟩) (i + 1) (s.count c + 1)) (by rw [slice0, Nat.sub_zero, Nat.sub_zero]) (y_slice (lo := 0) (hi := i + 1) rfl rfl Tryz.underlying57 sz9 (.inl ⟨rfl, rfl⟩) (.inr ⟨_, _, rfl, rfl⟩) (by omega) (by omega) (Nat.le_refl _))) ?_
          refine S_ 8 rfl rfl rfl _ (y_assign rfl rfl) ?_
          refine S_go (fun _ _ h => h) ?_
          refine T_ret (fun a w hF hM => hRb a w (post1 rfl rfl (fun w hM => ?_) a w hF hM))
          have hfin : splitC c s = out ++ [rest] := by rw [← hp2, hr0]
          have hlen : (splitC c s).length = i + 1 := by rw [hfin, List.length_append, hp1]; rfl
          rw [hlen]
          refine ⟨some ⟨b31, 0, none⟩, s.count c + 1, rfl, ?_, hM.below⟩
          have h := hM.sat 31 _ rfl
          rw [show s.count c + 1 - i - 1 = 0 by omega, List.replicate_zero, List.append_nil, ← hfin, List.take_of_length_le (by rw [strs_len, hlen]; omega)] at h
          exact h
      · skip
        simp at h20
theorem Split1_any (s : List UInt8) (c : UInt8) (hs : s.length ≤ 1000000000) (w : World) :
    Calls Tryz.prog 128 #[str s, str [c]] w fun e w' => ∃ A q, e = .returned (.slice A (splitC c s).length q) ∧ w'.ownsRow w.heap.size 9 1 (.slice A (splitC c s).length q) (splitC c s).length ((splitC c s).flatMap strEnc) ∧ Below w.heap.size w w' := by
  refine enter_args (args := [str s, str [c]]) (F := _) Tryz.func128 rfl Tryz.ntmps128 rfl rfl ?_
  intro Rb hRb hRn
  refine T_seq ?_
  refine T_region ?_
  refine S_nilSlice 4 (e := 9) (size := 1) ?_
  refine S_ 4 rfl rfl rfl _ (y_assign rfl rfl) ?_
  refine S_go (fun _ _ h => h) ?_
  refine T_seq ?_
  refine T_region ?_
  refine S_ 5 rfl rfl rfl _ (y_move rfl rfl) ?_
  refine S_ 6 rfl rfl rfl _ (y_move rfl rfl) ?_
  refine S_callOwn 7 7 rfl rfl rfl rfl rfl rfl rfl cf265 (fun A q => .slice A (splitC c s).length q) 9 1 ((splitC c s).length) ((splitC c s).flatMap strEnc) (fun w hM => genSplit1_any s c hs w) ?_
  intro A7 c7
  refine S_ 4 rfl rfl rfl _ (y_assign rfl rfl) ?_
  refine S_go (fun _ _ h => h) ?_
  refine T_ret (fun a w hF hM => hRb a w (post1 rfl rfl (fun w hM => ?_) a w hF hM))
  exact ⟨A7, c7, rfl, hM.sat 7 _ rfl, hM.below⟩
/-! ### Cut -/
def cutC (c : UInt8) (s : List UInt8) : List UInt8 × List UInt8 × Bool := if Lib.indexByte s c < 0 then (s, [], false) else (s.take (Lib.indexByte s c).toNat, s.drop ((Lib.indexByte s c).toNat + 1), true)
theorem LCut1_any (s : List UInt8) (c : UInt8) (w : World) (hs : s.length ≤ 4611686018427387904) : Calls Tryz.prog 264 #[str s, str [c]] w fun e w' => e = .returned (.tuple #[str (cutC c s).1, str (cutC c s).2.1, .bool (cutC c s).2.2]) ∧ Below w.heap.size w w' := by
  refine enter_args (args := [str s, str [c]]) (F := _) Tryz.func264 rfl Tryz.ntmps264 rfl rfl ?_
  intro Rb hRb hRn
  refine T_seq ?_
  refine T_region ?_
  refine S_ 4 rfl rfl rfl _ (y_assign rfl rfl) ?_
  refine S_ 5 rfl rfl rfl _ (y_assign rfl rfl) ?_
  refine S_ 6 rfl rfl rfl _ (y_assign rfl rfl) ?_
  refine S_go (fun _ _ h => h) ?_
  refine T_seq ?_
  refine T_seq ?_
  refine T_region ?_
  refine S_ 8 rfl rfl rfl _ (y_move rfl rfl) ?_
  refine S_ 9 rfl rfl rfl _ (y_move rfl rfl) ?_
  refine S_ 10 rfl rfl rfl _ (y_call rfl rfl rfl cf309 (fun _ w _ => LIndex1_any s c w)) ?_
  refine S_ 7 rfl rfl rfl _ (y_assign rfl rfl) ?_
  refine S_go (fun _ _ h => h) ?_
  refine T_seq ?_
  refine T_region ?_
  refine S_ 11 rfl rfl rfl _ (y_move rfl rfl) ?_
  refine S_ 12 rfl rfl rfl _ (y_bin rfl rfl rfl (fun _ => b_geq)) ?_
  refine S_go (fun _ _ h => h) ?_
  refine T_cond rfl (fun h12 => ?_) (fun h12 => ?_)
  · try simp only [decide_eq_true_eq, decide_eq_false_iff_not, Bool.or_eq_true, Bool.or_eq_false_iff, Bool.and_eq_true, Bool.and_eq_false_iff, Bool.not_eq_true', Bool.not_eq_false', Bool.not_eq_true, Bool.not_eq_false, Bool.not_true, Bool.not_false, Int.not_lt, Int.not_le, not_or, not_and, Classical.not_not] at h12
    obtain ⟨o, ho⟩ : ∃ o : Nat, Lib.indexByte s c = o := ⟨(Lib.indexByte s c).toNat, by omega⟩
    obtain ⟨ho1, ho2⟩ := Lib.indexByte_some ho
    have hol := (List.getElem?_eq_some_iff.1 ho1).1
    refine T_seq ?_
    refine T_draws (by kernel_rfl) (by kernel_rfl) ?_
    refine D_ 13 rfl rfl rfl _ (y_move rfl rfl) ?_
    refine D_ 14 rfl rfl rfl _ (y_as (v' := .int .i64 ((o : Nat) : Int)) (by rw [ho]) (y_move rfl rfl)) ?_
    refine D_ 15 rfl rfl rfl _ (y_strTo rfl rfl rfl Tryz.underlying9 (fun _ => by omega)) ?_
    refine D_ 16 rfl rfl rfl _ (y_move rfl rfl) ?_
    refine D_ 17 rfl rfl rfl _ (y_as (v' := .int .i64 ((o : Nat) : Int)) (by rw [ho]) (y_move rfl rfl)) ?_
    refine D_ 18 rfl rfl rfl _ (y_move rfl rfl) ?_
    refine D_ 19 rfl rfl rfl _ (y_as (v' := .int .i64 1) (by exact rfl) (y_len_str rfl rfl Tryz.underlying9)) ?_
    refine D_ 20 rfl rfl rfl _ (y_bin rfl rfl rfl (fun hg => b_addv (((o + 1 : Nat) : Int)) (by omega) (by omega))) ?_
    refine D_ 21 rfl rfl rfl _ (y_strFrom rfl rfl rfl Tryz.underlying9 (fun _ => by omega)) ?_
    refine D_ 4 rfl rfl rfl _ (y_assign rfl rfl) ?_
    refine D_ 5 rfl rfl rfl _ (y_assign rfl rfl) ?_
    refine D_ 6 rfl rfl rfl _ (y_assign rfl rfl) ?_
    refine D_go (fun _ _ h => h) ?_
    refine T_ret (fun a w hF hM => hRb a w (post3 rfl rfl rfl rfl (fun w hM => ?_) a w hF hM))
    exact ⟨by rw [cutC, if_neg (by omega), ho]; rfl, hM.below⟩
  · try simp only [decide_eq_true_eq, decide_eq_false_iff_not, Bool.or_eq_true, Bool.or_eq_false_iff, Bool.and_eq_true, Bool.and_eq_false_iff, Bool.not_eq_true', Bool.not_eq_false', Bool.not_eq_true, Bool.not_eq_false, Bool.not_true, Bool.not_false, Int.not_lt, Int.not_le, not_or, not_and, Classical.not_not] at h12
    refine T_skip_go (fun _ _ h => h) ?_
    refine T_seq ?_
    refine T_region ?_
    refine S_ 22 rfl rfl rfl _ (y_move rfl rfl) ?_
    refine S_ 4 rfl rfl rfl _ (y_assign rfl rfl) ?_
    refine S_ 5 rfl rfl rfl _ (y_assign rfl rfl) ?_
    refine S_ 6 rfl rfl rfl _ (y_assign rfl rfl) ?_
    refine S_go (fun _ _ h => h) ?_
    refine T_ret (fun a w hF hM => hRb a w (post3 rfl rfl rfl rfl (fun w hM => ?_) a w hF hM))
    exact ⟨by rw [cutC, if_pos (by omega)], hM.below⟩
theorem Cut1_any (s : List UInt8) (c : UInt8) (w : World) (hs : s.length ≤ 4611686018427387904) : Calls Tryz.prog 127 #[str s, str [c]] w fun e w' => e = .returned (.tuple #[str (cutC c s).1, str (cutC c s).2.1, .bool (cutC c s).2.2]) ∧ Below w.heap.size w w' := by
  refine enter_args (args := [str s, str [c]]) (F := _) Tryz.func127 rfl Tryz.ntmps127 rfl rfl ?_
  intro Rb hRb hRn
  refine T_seq ?_
  refine T_region ?_
  refine S_ 4 rfl rfl rfl _ (y_assign rfl rfl) ?_
  refine S_ 5 rfl rfl rfl _ (y_assign rfl rfl) ?_
  refine S_ 6 rfl rfl rfl _ (y_assign rfl rfl) ?_
  refine S_go (fun _ _ h => h) ?_
  refine T_seq ?_
  refine T_region ?_
  refine S_ 7 rfl rfl rfl _ (y_move rfl rfl) ?_
  refine S_ 8 rfl rfl rfl _ (y_move rfl rfl) ?_
  refine S_ 9 rfl rfl rfl _ (y_call rfl rfl rfl cf264 (fun _ w _ => LCut1_any s c w hs)) ?_
  refine S_ 10 rfl rfl rfl _ (y_extract rfl rfl rfl) ?_
  refine S_ 11 rfl rfl rfl _ (y_extract rfl rfl rfl) ?_
  refine S_ 12 rfl rfl rfl _ (y_extract rfl rfl rfl) ?_
  refine S_ 4 rfl rfl rfl _ (y_assign rfl rfl) ?_
  refine S_ 5 rfl rfl rfl _ (y_assign rfl rfl) ?_
  refine S_ 6 rfl rfl rfl _ (y_assign rfl rfl) ?_
  refine S_go (fun _ _ h => h) ?_
  refine T_ret (fun a w hF hM => hRb a w (post3 rfl rfl rfl rfl (fun w hM => ?_) a w hF hM))
  exact ⟨rfl, hM.below⟩
end Go.Proofs.YtkkngcdikbhkjaaGreatDoor
end
section
namespace Go.Proofs.YtkkngcdikbhkjaaGreatDoor
set_option linter.unusedSimpArgs false
set_option linter.unusedVariables false
set_option maxRecDepth 20000
open Go.RowKit Go.Eng
theorem dropWhile_nil {p : UInt8 → Bool} : ∀ {l : List UInt8}, l.dropWhile p = [] → ∀ c ∈ l, p c = true
  | [], _ => fun c h => by cases h
  | a :: r, h => fun c hc => by
    rw [List.dropWhile_cons] at h
    split at h
    · rcases List.mem_cons.1 hc with rfl | hc
      · assumption
      · exact dropWhile_nil h c hc
    · cases h
theorem dropWhile_head {p : UInt8 → Bool} : ∀ {l : List UInt8} {y : UInt8} {t : List UInt8}, l.dropWhile p = y :: t → p y = false
  | [], y, t, h => by simp at h
  | a :: r, y, t, h => by
    rw [List.dropWhile_cons] at h
    split at h
    · exact dropWhile_head h
    · rename_i hp
      obtain ⟨rfl, _⟩ := List.cons.inj h
      simpa using hp
theorem trimS_nil {s cs : List UInt8} (h : Lib.trimS s cs = []) : ∀ c ∈ s, cs.contains c = true := by
  have h1 := dropWhile_nil (l := Lib.trimRightS s cs) h
  have h2 : s.reverse.dropWhile (cs.contains ·) = [] := by
    cases hq : s.reverse.dropWhile (cs.contains ·) with
    | nil => rfl
    | cons y t =>
      have h3 := dropWhile_head hq
      have h4 := h1 y (by unfold Lib.trimRightS; rw [hq]; simp)
      rw [h3] at h4; cases h4
  intro c hc
  exact dropWhile_nil h2 c (List.mem_reverse.2 hc)
abbrev digB : List UInt8 := [48, 49, 50, 51, 52, 53, 54, 55, 56, 57]
theorem digB_iff {c : UInt8} (h : digB.contains c = true) : 48 ≤ c.toNat ∧ c.toNat ≤ 57 := by
  have h : c ∈ digB := by simpa using h
  simp only [digB, List.mem_cons, List.not_mem_nil, or_false] at h
  rcases h with rfl | rfl | rfl | rfl | rfl | rfl | rfl | rfl | rfl | rfl <;> decide
def valD (s : List UInt8) : Nat := s.foldl (fun n c => n * 10 + (c.toNat - 48)) 0
theorem valD_snoc (l : List UInt8) (c : UInt8) : valD (l ++ [c]) = valD l * 10 + (c.toNat - 48) := by rw [valD, List.foldl_append]; rfl
theorem wrap8_in {V : Int} (h : 0 ≤ V ∧ V ≤ 255) : IntKind.u8.wrap V = V := IntWalk.u8_in _ (by omega)
theorem bytesV_at {s : List UInt8} {i : Nat} (h : i < s.length) : (bytesV s)[i]? = some (.int .u8 (((s.getD i 0).toNat : Nat) : Int)) := by
  simp [bytesV, List.getElem?_map, List.getElem?_eq_getElem h, List.getD_eq_getElem?_getD]
theorem getD_mem {s : List UInt8} {i : Nat} (h : i < s.length) : s.getD i 0 ∈ s := by
  rw [List.getD_eq_getElem?_getD, List.getElem?_eq_getElem h]; exact List.getElem_mem h
theorem take_getD {s : List UInt8} {i : Nat} (h : i < s.length) : s.take (i + 1) = s.take i ++ [s.getD i 0] := by
  rw [List.getD_eq_getElem?_getD, List.getElem?_eq_getElem h, List.take_succ_eq_append_getElem h]; rfl
theorem iAtoi_any (s : List UInt8) (h0 : s ≠ []) (h6 : s.length ≤ 18) (hd : ∀ c ∈ s, 48 ≤ c.toNat ∧ c.toNat ≤ 57) (w : World) :
    Calls Tryz.prog 406 #[str s] w fun e w' => e = .returned (.tuple #[.int .i64 (valD s : Nat), .nilIface]) ∧ Below w.heap.size w w' := by
  have hl : 0 < s.length := List.length_pos_iff.2 h0
  have hd0 := hd _ (getD_mem (i := 0) hl)
  refine enter_args (args := [str s]) (F := _) Tryz.func406 rfl Tryz.ntmps406 rfl rfl ?_
  intro Rb hRb hRn
  refine T_seq ?_
  refine T_region ?_
  refine S_ 2 rfl rfl rfl _ (y_assign rfl rfl) ?_
  refine S_ 3 rfl rfl rfl _ (y_assign rfl rfl) ?_
  refine S_go (fun _ _ h => h) ?_
  refine T_seq ?_
  refine T_region ?_
  refine S_ 11 rfl rfl rfl _ (y_move rfl rfl) ?_
  refine S_ 12 rfl rfl rfl _ (y_len_str rfl rfl Tryz.underlying9) ?_
  refine S_ 4 rfl rfl rfl _ (y_assign rfl rfl) ?_
  refine S_go (fun _ _ h => h) ?_
  refine T_seq ?_
  refine T_seq ?_
  refine T_region ?_
  refine S_ 13 rfl rfl rfl _ (y_move rfl rfl) ?_
  refine Sg_ 14 rfl rfl rfl rfl rfl rfl _ (y_move rfl rfl) ?_
  refine Sg_ 15 rfl rfl rfl rfl rfl rfl _ (y_bin rfl rfl rfl (fun _ => b_lss)) ?_
  refine Sg_ 16 rfl rfl rfl rfl rfl rfl _ (y_move rfl rfl) ?_
  refine Sg_ 17 rfl rfl rfl rfl rfl rfl _ (y_move rfl rfl) ?_
  refine Sg_ 18 rfl rfl rfl rfl rfl rfl _ (y_bin rfl rfl rfl (fun _ => b_lss)) ?_
  refine Sg_ 19 rfl rfl rfl rfl rfl rfl _ (y_and rfl rfl rfl) ?_
  refine S_ 20 rfl rfl rfl _ (y_and rfl rfl rfl) ?_
  refine S_ 21 rfl rfl rfl _ (y_move rfl rfl) ?_
  refine Sg_ 22 rfl rfl rfl rfl rfl rfl _ (y_move rfl rfl) ?_
  refine Sg_ 23 rfl rfl rfl rfl rfl rfl _ (y_move rfl rfl) ?_
  refine Sg_ 24 rfl rfl rfl rfl rfl rfl _ (y_bin rfl rfl rfl (fun _ => b_lss)) ?_
  refine Sg_ 25 rfl rfl rfl rfl rfl rfl _ (y_move rfl rfl) ?_
  refine Sg_ 26 rfl rfl rfl rfl rfl rfl _ (y_move rfl rfl) ?_
  refine Sg_ 27 rfl rfl rfl rfl rfl rfl _ (y_bin rfl rfl rfl (fun _ => b_lss)) ?_
  refine Sg_ 28 rfl rfl rfl rfl rfl rfl _ (y_and rfl rfl rfl) ?_
  refine Sg_ 29 rfl rfl rfl rfl rfl rfl _ (y_and rfl rfl rfl) ?_
  refine S_ 30 rfl rfl rfl _ (y_or rfl rfl rfl) ?_
  refine S_go (fun _ _ h => h) ?_
  refine T_cond rfl (fun h30 => ?_) (fun h30 => ?_)
  · skip
    refine T_seq ?_
    refine T_region ?_
    refine S_ 31 rfl rfl rfl _ (y_move rfl rfl) ?_
    refine S_ 5 rfl rfl rfl _ (y_assign rfl rfl) ?_
    refine S_go (fun _ _ h => h) ?_
    refine T_seq ?_
    refine T_seq ?_
    refine T_region ?_
    refine S_ 32 rfl rfl rfl _ (y_move rfl rfl) ?_
    refine S_ 33 rfl rfl rfl _ (y_index_str (j := 0) rfl rfl rfl Tryz.underlying9 (fun _ => hl)) ?_
    refine S_ 34 rfl rfl rfl _ (y_bin rfl rfl rfl (fun _ => b_eql)) ?_
    refine S_ 35 rfl rfl rfl _ (y_move rfl rfl) ?_
    refine Sg_ 36 rfl rfl rfl rfl rfl rfl _ (y_move rfl rfl) ?_
    refine Sg_ 37 rfl rfl rfl rfl rfl rfl _ (y_index_str (j := 0) rfl rfl rfl Tryz.underlying9 (fun _ => hl)) ?_
    refine Sg_ 38 rfl rfl rfl rfl rfl rfl _ (y_bin rfl rfl rfl (fun _ => b_eql)) ?_
    refine S_ 39 rfl rfl rfl _ (y_or rfl rfl rfl) ?_
    refine S_go (fun _ _ h => h) ?_
    refine T_cond rfl (fun h39 => ?_) (fun h39 => ?_)
    · skip
      simp only [Bool.or_eq_true, decide_eq_true_eq] at h39
      omega
    · skip
      refine T_skip_go (fun _ _ h => h) ?_
      refine T_seq ?_
      refine T_region ?_
      refine S_ 6 rfl rfl rfl _ (y_assign rfl rfl) ?_
      refine S_go (fun _ _ h => h) ?_
      refine T_seq ?_
      refine T_seq ?_
      refine T_region ?_
      refine S_ 46 rfl rfl rfl _ (y_move rfl rfl) ?_
      refine S_strBytes 47 47 rfl rfl rfl rfl rfl Tryz.underlying9 Tryz.underlying187 Tryz.underlying5 ?_
      intro b47 c47
      refine S_ 48 rfl rfl rfl _ (y_len_slice rfl rfl Tryz.underlying187) ?_
      refine S_ 49 rfl rfl rfl _ (y_move rfl rfl) ?_
      refine S_go (fun _ _ h => h) ?_
      refine T_block ?_
      refine T_loopK2 (kf := [(2, 3), (6, 6), (8, 8), (49, 63)]) (kl := [(2, 3), (6, 6), (8, 8), (49, 63)]) (fun (i m : Nat) => [(49, true, .int .i64 (i : Int)), (6, true, .int .i64 (m : Int))]) (fun (i m : Nat) => []) (fun (i m : Nat) => i ≤ s.length ∧ m < 10 ^ i ∧ valD (s.take i) = m) (fun (i m : Nat) => s.length - i) 0 0 (by repeat (first | exact kf_nil | (apply kf_in; focus rfl) | (apply kf_out; focus rfl))) (by repeat (first | exact kl_nil | exact kl_rest (by assumption) rfl | (apply kl_in; focus rfl) | (apply kl_out; focus rfl))) ?_ ?_ ?_ ?_
      · exact ⟨by omega, by decide, rfl⟩
      · exact ⟨rfl, rfl, trivial⟩
      · exact trivial
      rintro i m ⟨hp1, hp2, hp3⟩
      refine T_seq ?_
      refine T_region ?_
      refine S_ 50 rfl rfl rfl _ (y_bin rfl rfl rfl (fun _ => b_lss)) ?_
      refine S_go (fun _ _ h => h) ?_
      refine T_seq ?_
      refine T_cond rfl (fun h50 => ?_) (fun h50 => ?_)
      · try simp only [decide_eq_true_eq, decide_eq_false_iff_not, Bool.or_eq_true, Bool.or_eq_false_iff, Bool.and_eq_true, Bool.and_eq_false_iff, Bool.not_eq_true', Bool.not_eq_false', Bool.not_eq_true, Bool.not_eq_false, Bool.not_true, Bool.not_false, Int.not_lt, Int.not_le, not_or, not_and, Classical.not_not] at h50
        have hdi := hd _ (getD_mem (i := i) (by omega))
        have hp10 : 10 ^ i ≤ 100000000000000000 := Nat.le_trans (Nat.pow_le_pow_right (by decide) (by omega : i ≤ 17)) (by decide)
        refine T_skip_go (fun _ _ h => h) ?_
        refine T_seq ?_
        refine T_block ?_
        refine T_seq ?_
        refine T_region ?_
        refine S_ 51 rfl rfl rfl _ (y_indexAddr rfl rfl rfl Tryz.underlying187 sz5 (fun _ => rfl) (fun _ => by omega)) ?_
        refine S_ 52 rfl rfl rfl _ (y_loadRd 47 rfl rfl rfl (fun _ => bytesV_at (by omega)) Tryz.underlying5 rfl) ?_
        refine S_ 8 rfl rfl rfl _ (y_assign rfl rfl) ?_
        refine S_go (fun _ _ h => h) ?_
        refine T_seq ?_
        refine T_region ?_
        refine S_ 53 rfl rfl rfl _ (y_move rfl rfl) ?_
        refine S_ 54 rfl rfl rfl _ (y_as (v' := .int .u8 (((s.getD i 0).toNat - 48 : Nat) : Int)) (by congr 1; rw [wrap8_in (by omega)]; omega) (y_bin rfl rfl rfl (fun hg => b_subw))) ?_
        refine S_ 8 rfl rfl rfl _ (y_assign rfl rfl) ?_
        refine S_go (fun _ _ h => h) ?_
        refine T_seq ?_
        refine T_seq ?_
        refine T_region ?_
        refine S_ 55 rfl rfl rfl _ (y_move rfl rfl) ?_
        refine S_ 56 rfl rfl rfl _ (y_bin rfl rfl rfl (fun _ => b_gtr)) ?_
        refine S_go (fun _ _ h => h) ?_
        refine T_cond rfl (fun h56 => ?_) (fun h56 => ?_)
        · try simp only [decide_eq_true_eq, decide_eq_false_iff_not, Bool.or_eq_true, Bool.or_eq_false_iff, Bool.and_eq_true, Bool.and_eq_false_iff, Bool.not_eq_true', Bool.not_eq_false', Bool.not_eq_true, Bool.not_eq_false, Bool.not_true, Bool.not_false, Int.not_lt, Int.not_le, not_or, not_and, Classical.not_not] at h56
          omega
        · try simp only [decide_eq_true_eq, decide_eq_false_iff_not, Bool.or_eq_true, Bool.or_eq_false_iff, Bool.and_eq_true, Bool.and_eq_false_iff, Bool.not_eq_true', Bool.not_eq_false', Bool.not_eq_true, Bool.not_eq_false, Bool.not_true, Bool.not_false, Int.not_lt, Int.not_le, not_or, not_and, Classical.not_not] at h56
          refine T_skip_go (fun _ _ h => h) ?_
          refine T_region ?_
          refine S_ 58 rfl rfl rfl _ (y_move rfl rfl) ?_
          refine S_ 59 rfl rfl rfl _ (y_bin rfl rfl rfl (fun hg => b_mulv (((m * 10 : Nat) : Int)) (by omega) (by omega))) ?_
          refine S_ 60 rfl rfl rfl _ (y_move rfl rfl) ?_
          refine S_ 61 rfl rfl rfl _ (y_conv64 rfl rfl Tryz.underlying5 Tryz.underlying3 (fun _ => by omega)) ?_
          refine S_ 62 rfl rfl rfl _ (y_bin rfl rfl rfl (fun hg => b_addv (((m * 10 + ((s.getD i 0).toNat - 48) : Nat) : Int)) (by omega) (by omega))) ?_
          refine S_ 6 rfl rfl rfl _ (y_assign rfl rfl) ?_
          refine S_go (fun _ _ h => h) ?_
          refine T_region ?_
          refine S_ 63 rfl rfl rfl _ (y_bin rfl rfl rfl (fun hg => b_add (by omega))) ?_
          refine S_ 49 rfl rfl rfl _ (y_move rfl rfl) ?_
          refine S_nil (nextK2 (kf := [(2, 3), (6, 6), (8, 8), (49, 63)]) (kl := [(2, 3), (6, 6), (8, 8), (49, 63)]) (i + 1) (m * 10 + ((s.getD i 0).toNat - 48)) (by repeat (first | exact kf_nil | (apply kf_in; focus rfl) | (apply kf_out; focus rfl))) (by repeat (first | exact kl_nil | exact kl_rest (by assumption) rfl | (apply kl_in; focus rfl) | (apply kl_out; focus rfl))) ?_ ?_ ?_ ?_)
          · omega
          · exact ⟨by omega, by rw [Nat.pow_succ]; omega, by rw [take_getD (by omega), valD_snoc, hp3]⟩
          · exact ⟨rfl, rfl, trivial⟩
          · exact trivial
      · try simp only [decide_eq_true_eq, decide_eq_false_iff_not, Bool.or_eq_true, Bool.or_eq_false_iff, Bool.and_eq_true, Bool.and_eq_false_iff, Bool.not_eq_true', Bool.not_eq_false', Bool.not_eq_true, Bool.not_eq_false, Bool.not_true, Bool.not_false, Int.not_lt, Int.not_le, not_or, not_and, Classical.not_not] at h50
        refine T_exit_go (fun _ _ h => h) ?_
        refine T_seq ?_
        refine T_seq ?_
        refine T_region ?_
        refine S_ 64 rfl rfl rfl _ (y_move rfl rfl) ?_
        refine S_ 65 rfl rfl rfl _ (y_index_str (j := 0) rfl rfl rfl Tryz.underlying9 (fun _ => hl)) ?_
        refine S_ 66 rfl rfl rfl _ (y_bin rfl rfl rfl (fun _ => b_eql)) ?_
        refine S_go (fun _ _ h => h) ?_
        refine T_cond rfl (fun h66 => ?_) (fun h66 => ?_)
        · skip
          simp only [decide_eq_true_eq] at h66
          omega
        · skip
          refine T_skip_go (fun _ _ h => h) ?_
          refine T_seq ?_
          refine T_region ?_
          refine S_ 69 rfl rfl rfl _ (y_move rfl rfl) ?_
          refine S_ 2 rfl rfl rfl _ (y_assign rfl rfl) ?_
          refine S_ 3 rfl rfl rfl _ (y_assign rfl rfl) ?_
          refine S_go (fun _ _ h => h) ?_
          refine T_ret (fun a w hF hM => hRb a w (post2 rfl rfl rfl (fun w hM => ?_) a w hF hM))
          have hv : valD s = m := by rw [← hp3, List.take_of_length_le (by omega)]
          exact ⟨by rw [hv], hM.below⟩
  · skip
    simp at h30
    omega
theorem Atoi_any (s : List UInt8) (h0 : s ≠ []) (h6 : s.length ≤ 18) (hd : ∀ c ∈ s, 48 ≤ c.toNat ∧ c.toNat ≤ 57) (w : World) :
    Calls Tryz.prog 335 #[str s] w fun e w' => e = .returned (.tuple #[.int .i64 (valD s : Nat), .nilIface]) ∧ Below w.heap.size w w' := by
  refine enter_args (args := [str s]) (F := _) Tryz.func335 rfl Tryz.ntmps335 rfl rfl ?_
  intro Rb hRb hRn
  refine T_seq ?_
  refine T_region ?_
  refine S_ 2 rfl rfl rfl _ (y_assign rfl rfl) ?_
  refine S_ 3 rfl rfl rfl _ (y_assign rfl rfl) ?_
  refine S_go (fun _ _ h => h) ?_
  refine T_seq ?_
  refine T_region ?_
  refine S_ 7 rfl rfl rfl _ (y_move rfl rfl) ?_
  refine S_ 8 rfl rfl rfl _ (y_call rfl rfl rfl cf406 (fun _ w _ => iAtoi_any s h0 h6 hd w)) ?_
  refine S_ 6 rfl rfl rfl _ (y_move rfl rfl) ?_
  refine S_ 9 rfl rfl rfl _ (y_extract rfl rfl rfl) ?_
  refine S_ 10 rfl rfl rfl _ (y_extract rfl rfl rfl) ?_
  refine S_ 4 rfl rfl rfl _ (y_assign rfl rfl) ?_
  refine S_ 5 rfl rfl rfl _ (y_assign rfl rfl) ?_
  refine S_go (fun _ _ h => h) ?_
  refine T_seq ?_
  refine T_seq ?_
  refine T_region ?_
  refine S_ 11 rfl rfl rfl _ (y_move rfl rfl) ?_
  refine S_ 12 rfl rfl rfl _ (y_bin rfl rfl rfl (fun _ => b_neqII Tryz.underlying191)) ?_
  refine S_go (fun _ _ h => h) ?_
  refine T_cond rfl (fun h12 => ?_) (fun h12 => ?_)
  · skip
    cases h12
  · skip
    refine T_skip_go (fun _ _ h => h) ?_
    refine T_seq ?_
    refine T_region ?_
    refine S_ 17 rfl rfl rfl _ (y_move rfl rfl) ?_
    refine S_ 2 rfl rfl rfl _ (y_assign rfl rfl) ?_
    refine S_ 3 rfl rfl rfl _ (y_assign rfl rfl) ?_
    refine S_go (fun _ _ h => h) ?_
    refine T_ret (fun a w hF hM => hRb a w (post2 rfl rfl rfl (fun w hM => ?_) a w hF hM))
    exact ⟨rfl, hM.below⟩
/-- the table of powers of ten lies there -/
def P10 (w : World) : Prop := Lib.TabIs Tryz.prog w "internal/strconv.uint64pow10" .u64 Lib.pow10Tab ∧ 3 < w.heap.size
theorem P10.below {w w' : World} (h : P10 w) (hb : Below w.heap.size w w') : P10 w' := by
  refine ⟨?_, Nat.lt_of_lt_of_le h.2 hb.size⟩
  have e : Tryz.prog.globalNamed "internal/strconv.uint64pow10" = some 3 := by kernel_rfl
  have h1 := h.1
  unfold Lib.TabIs World.var? at h1 ⊢
  rw [e] at h1 ⊢
  simp only [Option.bind_some] at h1 ⊢
  rw [hb.block _ h.2]; exact h1
theorem below_grow0 (w : World) (k : Nat) (os : Array Obj) : Below w.heap.size w (Sort.grow (w.drewN k) os) :=
  ⟨rfl, rfl, rfl, by show w.heap.size ≤ (w.heap ++ os).size; simp, fun j hj => by show (w.heap ++ os)[j]? = w.heap[j]?; rw [Array.getElem?_append, if_pos hj]⟩
theorem Itoa_any (n : Int) (h0 : -9223372036854775808 ≤ n) (h1 : n ≤ 9223372036854775807) (w : World) (hP : P10 w) :
    Calls Tryz.prog 124 #[.int .i64 n] w fun e w' => e = .returned (str (Lib.itoa n)) ∧ Below w.heap.size w w' :=
  (Any.strconv_Itoa Tryz.laysM171 n h0 h1 w hP.1).mono fun e w' ⟨h, k, os, hw⟩ => ⟨h, hw ▸ below_grow0 w k os⟩
theorem TrimDig_any (s : List UInt8) (hs : s.length ≤ 1000000000) (w : World) : Calls Tryz.prog 102 #[str s, str digB] w fun e w' => e = .returned (str (Lib.trimS s digB)) ∧ Below w.heap.size w w' :=
  Any.strings_Trim_laid Tryz.lays160 (by kernel_rfl) ⟨s.toArray⟩ ⟨digB.toArray⟩ w (by rw [Lib.size_eq]; simp; omega) (by decide) (ascii_of_all (by decide))
def plainOk (s : List UInt8) (k : Nat) : Bool := !(decide (s = []) || decide ((k : Int) < s.length) || (decide ((1 : Int) < s.length) && decide (((s.getD 0 0).toNat : Int) = 48)) || !decide (Lib.trimS s digB = []))
def plainJ (s : List UInt8) (k : Nat) : Nat := if plainOk s k = true then valD s else 0
theorem plain_parts {s : List UInt8} {k : Nat} (h : plainOk s k = true) : s ≠ [] ∧ s.length ≤ k ∧ ∀ c ∈ s, 48 ≤ c.toNat ∧ c.toNat ≤ 57 := by
  simp only [plainOk, Bool.not_eq_true', Bool.or_eq_false_iff, decide_eq_false_iff_not, Bool.not_eq_false', decide_eq_true_eq] at h
  obtain ⟨⟨⟨h1, h2⟩, _⟩, h3⟩ := h
  exact ⟨h1, by omega, fun c hc => digB_iff (trimS_nil h3 c hc)⟩
theorem zero_one {s : List UInt8} (h : s ≠ []) : (decide (((s.getD 0 0).toNat : Int) = 48) && !decide (s = [48])) = (decide ((1 : Int) < s.length) && decide (((s.getD 0 0).toNat : Int) = 48)) := by
  cases s with
  | nil => exact absurd rfl h
  | cons a r =>
    cases r with
    | nil =>
      simp only [List.getD_cons_zero, List.length_cons, List.length_nil, List.cons.injEq, and_true]
      by_cases ha : a = 48
      · subst ha; simp
      · have : ¬ ((a.toNat : Nat) : Int) = 48 := fun e => ha (UInt8.toNat_inj.1 (show a.toNat = 48 by omega))
        simp [ha, this]
    | cons b t =>
      have : (1 : Int) < ((a :: b :: t).length : Nat) := by simp only [List.length_cons]; omega
      rw [decide_eq_true this, decide_eq_false (show ¬ a :: b :: t = [48] by simp)]
      cases decide ((((a :: b :: t).getD 0 0).toNat : Int) = 48) <;> rfl
theorem whole_any (s : List UInt8) (k : Nat) (hk : k ≤ 18) (hs : s.length ≤ 1000000000) (w : World) :
    Calls Tryz.prog 269 #[str s, .int .i64 (k : Int)] w fun e w' => e = .returned (.tuple #[.int .i64 ((plainJ s k : Nat) : Int), .bool (plainOk s k)]) ∧ Below w.heap.size w w' := by
  refine enter_args (args := [str s, .int .i64 (k : Int)]) (F := _) Tryz.func269 rfl Tryz.ntmps269 rfl rfl ?_
  intro Rb hRb hRn
  refine T_seq ?_
  refine T_region ?_
  refine S_ 4 rfl rfl rfl _ (y_assign rfl rfl) ?_
  refine S_ 5 rfl rfl rfl _ (y_assign rfl rfl) ?_
  refine S_go (fun _ _ h => h) ?_
  refine T_seq ?_
  refine T_seq ?_
  refine T_region ?_
  refine S_ 8 rfl rfl rfl _ (y_move rfl rfl) ?_
  refine S_ 9 rfl rfl rfl _ (y_bin rfl rfl rfl (fun _ => b_eqls)) ?_
  refine S_ 10 rfl rfl rfl _ (y_move rfl rfl) ?_
  refine Sg_ 11 rfl rfl rfl rfl rfl rfl _ (y_move rfl rfl) ?_
  refine Sg_ 12 rfl rfl rfl rfl rfl rfl _ (y_len_str rfl rfl Tryz.underlying9) ?_
  refine Sg_ 13 rfl rfl rfl rfl rfl rfl _ (y_move rfl rfl) ?_
  refine Sg_ 14 rfl rfl rfl rfl rfl rfl _ (y_bin rfl rfl rfl (fun _ => b_gtr)) ?_
  refine S_ 15 rfl rfl rfl _ (y_or rfl rfl rfl) ?_
  refine S_ 16 rfl rfl rfl _ (y_move rfl rfl) ?_
  refine Sg_ 17 rfl rfl rfl rfl rfl rfl _ (y_move rfl rfl) ?_
  refine Sg_ 18 rfl rfl rfl rfl rfl rfl _ (y_call rfl rfl rfl cf102 (fun _ w _ => TrimDig_any s hs w)) ?_
  refine Sg_ 19 rfl rfl rfl rfl rfl rfl _ (y_bin rfl rfl rfl (fun _ => b_neqs)) ?_
  refine S_ 20 rfl rfl rfl _ (y_or rfl rfl rfl) ?_
  refine S_ 21 rfl rfl rfl _ (y_move rfl rfl) ?_
  refine Sg_ 22 rfl rfl rfl rfl rfl rfl _ (y_move rfl rfl) ?_
  refine Sg_ 23 rfl rfl rfl rfl rfl rfl _ (y_index_str (j := 0) rfl rfl rfl Tryz.underlying9 (fun hg => List.length_pos_iff.2 (by simp at hg; exact hg.1.1))) ?_
  refine Sg_ 24 rfl rfl rfl rfl rfl rfl _ (y_bin rfl rfl rfl (fun _ => b_eql)) ?_
  refine Sg_ 25 rfl rfl rfl rfl rfl rfl _ (y_move rfl rfl) ?_
  refine Sg_ 26 rfl rfl rfl rfl rfl rfl _ (y_move rfl rfl) ?_
  refine Sg_ 27 rfl rfl rfl rfl rfl rfl _ (y_bin rfl rfl rfl (fun _ => b_neqs)) ?_
  refine Sg_ 28 rfl rfl rfl rfl rfl rfl _ (y_and rfl rfl rfl) ?_
  refine S_ 29 rfl rfl rfl _ (y_as (v' := .bool (!plainOk s k)) (by exact congrArg Value.bool (by
    rw [plainOk, Bool.not_not]
    by_cases h : s = []
    · subst h; simp
    · rw [← zero_one h]
      cases decide (s = []) <;> cases decide ((k : Int) < s.length) <;> cases (decide (((s.getD 0 0).toNat : Int) = 48) && !decide (s = [48])) <;> cases decide (Lib.trimS s digB = []) <;> rfl)) (y_or rfl rfl rfl)) ?_
  refine S_go (fun _ _ h => h) ?_
  refine T_cond rfl (fun h29 => ?_) (fun h29 => ?_)
  · skip
    have hn : plainOk s k = false := by simpa using h29
    refine T_seq ?_
    refine T_region ?_
    refine S_ 4 rfl rfl rfl _ (y_assign rfl rfl) ?_
    refine S_ 5 rfl rfl rfl _ (y_assign rfl rfl) ?_
    refine S_go (fun _ _ h => h) ?_
    refine T_ret (fun a w hF hM => hRb a w (post2 rfl rfl rfl (fun w hM => ?_) a w hF hM))
    exact ⟨by rw [plainJ, hn]; rfl, hM.below⟩
  · skip
    have hn : plainOk s k = true := by simpa using h29
    have hd := plain_parts hn
    refine T_skip_go (fun _ _ h => h) ?_
    refine T_seq ?_
    refine T_region ?_
    refine S_ 31 rfl rfl rfl _ (y_move rfl rfl) ?_
    refine S_ 32 rfl rfl rfl _ (y_call rfl rfl rfl cf335 (fun _ w _ => Atoi_any s hd.1 (by omega) hd.2.2 w)) ?_
    refine S_ 30 rfl rfl rfl _ (y_move rfl rfl) ?_
    refine S_ 33 rfl rfl rfl _ (y_extract rfl rfl rfl) ?_
    refine S_ 34 rfl rfl rfl _ (y_extract rfl rfl rfl) ?_
    refine S_ 6 rfl rfl rfl _ (y_assign rfl rfl) ?_
    refine S_ 7 rfl rfl rfl _ (y_assign rfl rfl) ?_
    refine S_go (fun _ _ h => h) ?_
    refine T_seq ?_
    refine T_draws (by kernel_rfl) (by kernel_rfl) ?_
    refine D_ 35 rfl rfl rfl _ (y_move rfl rfl) ?_
    refine D_ 36 rfl rfl rfl _ (y_move rfl rfl) ?_
    refine D_ 37 rfl rfl rfl _ (y_bin rfl rfl rfl (fun _ => b_eqlII Tryz.underlying191)) ?_
    refine D_ 4 rfl rfl rfl _ (y_assign rfl rfl) ?_
    refine D_ 5 rfl rfl rfl _ (y_assign rfl rfl) ?_
    refine D_go (fun _ _ h => h) ?_
    refine T_ret (fun a w hF hM => hRb a w (post2 rfl rfl rfl (fun w hM => ?_) a w hF hM))
    exact ⟨by rw [plainJ, hn]; rfl, hM.below⟩
end Go.Proofs.YtkkngcdikbhkjaaGreatDoor
end
section
namespace Go.Proofs.YtkkngcdikbhkjaaGreatDoor
set_option linter.unusedSimpArgs false
set_option linter.unusedVariables false
set_option maxRecDepth 20000
open Go.RowKit Go.Eng
def jn (c : UInt8) : List (List UInt8) → List UInt8
  | [] => []
  | [a] => a
  | a :: b :: r => a ++ c :: jn c (b :: r)
theorem jn_join (c : UInt8) : ∀ l : List (List UInt8), Lib.join l [c] = jn c l
  | [] => rfl
  | [a] => Lib.join_one a [c]
  | a :: b :: r => by
    have h := jn_join c (b :: r)
    rw [Lib.join_cons] at h
    rw [Lib.join_cons, jn, ← h]
    simp [Lib.joinTail]
theorem split_ne (c : UInt8) (s : List UInt8) : splitC c s ≠ [] := by
  intro h
  have := splitC_len c s
  rw [h] at this; simp at this
theorem spl_le (c : UInt8) : ∀ (s x : List UInt8), x ∈ splitC c s → x.length ≤ s.length
  | [], x, h => by rw [splitC] at h; simp at h; subst h; exact Nat.le_refl _
  | y :: r, x, h => by
    rw [splitC] at h
    split at h
    · rcases List.mem_cons.1 h with rfl | h
      · exact Nat.zero_le _
      · exact Nat.le_succ_of_le (spl_le c r x h)
    · cases hs : splitC c r with
      | nil => rw [hs] at h; simp at h; subst h; simp
      | cons a t =>
        rw [hs] at h
        rcases List.mem_cons.1 h with rfl | h
        · have := spl_le c r a (by rw [hs]; exact List.mem_cons_self ..)
          simpa using this
        · exact Nat.le_succ_of_le (spl_le c r x (by rw [hs]; exact List.mem_cons_of_mem _ h))
theorem cut_le (c : UInt8) (s : List UInt8) : (cutC c s).1.length ≤ s.length ∧ (cutC c s).2.1.length ≤ s.length := by
  unfold cutC
  split
  · exact ⟨Nat.le_refl _, Nat.zero_le _⟩
  · simp only [List.length_take, List.length_drop]; omega
theorem cut_t {c : UInt8} {s : List UInt8} (h : (cutC c s).2.2 = true) : s = (cutC c s).1 ++ c :: (cutC c s).2.1 := by
  unfold cutC at h ⊢
  split at h
  · cases h
  · rename_i hn
    rw [if_neg hn]
    obtain ⟨o, ho⟩ : ∃ o : Nat, Lib.indexByte s c = o := ⟨(Lib.indexByte s c).toNat, by omega⟩
    obtain ⟨h1, _⟩ := Lib.indexByte_some ho
    obtain ⟨h2, h3⟩ := List.getElem?_eq_some_iff.1 h1
    rw [ho, Int.toNat_natCast]
    rw [← h3, ← List.drop_eq_getElem_cons h2, List.take_append_drop]
end Go.Proofs.YtkkngcdikbhkjaaGreatDoor
end
section
namespace Go.Proofs.YtkkngcdikbhkjaaGreatDoor
set_option linter.unusedSimpArgs false
set_option linter.unusedVariables false
set_option maxRecDepth 20000
open Go.RowKit Go.Eng
theorem headB_le {t : Tab} (h : idOk t.id = true) (h1 : t.size ≤ 4294967296) (h2 : t.fi.q ≤ 200) : (headB t).length ≤ 38 ∧ 4 ≤ (headB t).length := by
  have hid : (t.id.length : Int) = 16 := by simp only [idOk, Bool.and_eq_true, decide_eq_true_eq] at h; exact h.1
  have e1 := digI_le (n := t.size) (by omega)
  have e2 := digI_le (n := t.fi.q) (by omega)
  simp only [headB, magic, List.length_append, List.length_cons, List.length_nil]; omega
/-- what all walks on a right table use -/
structure RightT (t : Tab) : Prop where
  size : 1 ≤ t.size ∧ t.size ≤ 4294967296
  qs : t.fi.q ≤ 200 ∧ t.fu.q ≤ 1000 ∧ t.ro.q ≤ 5000 ∧ t.ca.q ≤ 1000
  head : (headB t).length ≤ 38 ∧ 4 ≤ (headB t).length
  files : ∀ s ∈ t.fi.l, s.length ≤ 200
  funcs : ∀ (i : Nat) (f : SFunc), t.fu.l[i]? = some f → f.name.length ≤ 200 ∧ 0 ≤ f.fr ∧ f.fr < f.tu ∧ f.tu ≤ t.size
  rise : ∀ (i : Nat) (f g : SFunc), t.fu.l[i]? = some f → t.fu.l[i + 1]? = some g → f.tu ≤ g.fr
  rows : ∀ (i : Nat) (r : SRow), t.ro.l[i]? = some r → 0 ≤ r.pos ∧ r.pos < t.size ∧ -1 ≤ r.fi ∧ r.fi ≤ 199 ∧ 0 ≤ r.ln ∧ r.ln ≤ 9999999
  rrise : Rising t.ro.l
  calls : ∀ (i : Nat) (c : SCall), t.ca.l[i]? = some c → c.name.length ≤ 200 ∧ 0 ≤ c.fr ∧ c.fr < c.tu ∧ c.tu ≤ t.size ∧ 0 ≤ c.fi ∧ c.fi ≤ 199 ∧ 1 ≤ c.ln ∧ c.ln ≤ 9999999
  crise : ∀ (i : Nat) (c g : SCall), t.ca.l[i]? = some c → t.ca.l[i + 1]? = some g → c.fr ≤ g.fr
theorem rightT {t : Tab} (h : tabNo t = 0) : RightT t := by
  have hr := rows_of h
  have hs := size_of_out hr.1.2
  have hp := tab_parts h
  have hf := funcs_right _ _ hp.2
  have hro := rows_right _ _ (tab_rows h)
  have hca := calls_right _ _ _ (tab_calls h)
  have hcr := calls_rise _ _ _ (tab_calls h)
  refine ⟨hs, hr.2, headB_le hr.1.1 hs.2 hr.2.1, files_len _ _ hp.1, fun i f hi => ?_, fun i f g hi hg => (hf i f hi).2.2.2 g hg, fun i r hi => ?_, hro.2, fun i c hi => ?_, fun i c g hi hg => (hcr i c hi).2 g hg⟩
  · obtain ⟨x1, x2, _⟩ := hf i f hi
    have := span_in x2
    exact ⟨name_len x1, by omega, by omega, by omega⟩
  · have := row_in (hro.1 i r hi).1
    have := hr.2.1
    omega
  · obtain ⟨x1, x2, _⟩ := hca i c hi
    have := call_in x2
    have := hr.2.1
    exact ⟨name_len x1, by omega, by omega, by omega, by omega, by omega, by omega, by omega⟩
end Go.Proofs.YtkkngcdikbhkjaaGreatDoor
end
section
namespace Go.Proofs.YtkkngcdikbhkjaaGreatDoor
set_option linter.unusedSimpArgs false
set_option linter.unusedVariables false
set_option maxRecDepth 20000
open Go.RowKit Go.Eng
/-! ### Numbers -/
/-! ### Words and signed numbers -/
/-! ### Lists -/
/-! ### Tables -/
end Go.Proofs.YtkkngcdikbhkjaaGreatDoor
end
section
namespace Go.Proofs.YtkkngcdikbhkjaaGreatDoor
set_option linter.unusedSimpArgs false
set_option linter.unusedVariables false
set_option maxRecDepth 20000
open Go.RowKit Go.Eng
abbrev kTab : List UInt8 := [116, 97, 98, 108, 101]
abbrev kFil : List UInt8 := [102, 105, 108, 101]
abbrev kFun : List UInt8 := [102, 117, 110, 99]
abbrev kRow : List UInt8 := [114, 111, 119]
abbrev kCal : List UInt8 := [99, 97, 108, 108]
/-- words with blanks between, and a line feed -/
def lnB (ws : List (List UInt8)) : List UInt8 := jn 32 ws ++ [10]
abbrev it (n : Int) : List UInt8 := Lib.itoa n
def fileW (s : List UInt8) : List (List UInt8) := [kFil, s]
def funcW (f : SFunc) : List (List UInt8) := [kFun, it f.fr, it f.tu, f.name]
def rowW (r : SRow) : List (List UInt8) := [kRow, it r.pos, it r.fi, it r.ln]
def callW (c : SCall) : List (List UInt8) := [kCal, it c.fr, it c.tu, it c.fi, it c.ln, c.name]
def headW (id : List UInt8) (size : Int) : List (List UInt8) := [kTab, id, it size]
def filesT (l : List (List UInt8)) : List UInt8 := l.flatMap fun s => lnB (fileW s)
def funcsT (l : List SFunc) : List UInt8 := l.flatMap fun s => lnB (funcW s)
def rowsT (l : List SRow) : List UInt8 := l.flatMap fun s => lnB (rowW s)
def callsT (l : List SCall) : List UInt8 := l.flatMap fun s => lnB (callW s)
def tabT (p : PT) : List UInt8 := lnB (headW p.id p.size) ++ filesT p.fi ++ funcsT p.fu ++ rowsT p.ro ++ callsT p.ca
/-! ### Read -/
def kindOf (w : List UInt8) : Int := if w = kTab then 0 else if w = kFil then 1 else if w = kFun then 2 else if w = kRow then 3 else if w = kCal then 4 else -1
def rfOk (s : List UInt8) : Bool := decide (s = [45, 49]) || plainOk s 10
def rfJ (s : List UInt8) : Int := if s = [45, 49] then -1 else ((plainJ s 10 : Nat) : Int)
def nJ (s : List UInt8) : Int := ((plainJ s 10 : Nat) : Int)
/-- a line of a kind taken into the table so far -/
def lineT (k : Int) (w : List (List UInt8)) (p : PT) : Option PT :=
  let x := fun i => w.getD i []
  if k = 0 then (if w.length = 3 ∧ x 1 ≠ [] ∧ plainOk (x 2) 10 = true then some { p with id := x 1, size := nJ (x 2) } else none)
  else if k = 1 then (if w.length = 2 ∧ x 1 ≠ [] then some { p with fi := p.fi ++ [x 1] } else none)
  else if k = 2 then (if w.length = 4 ∧ plainOk (x 1) 10 = true ∧ plainOk (x 2) 10 = true ∧ x 3 ≠ [] then some { p with fu := p.fu ++ [⟨x 3, nJ (x 1), nJ (x 2)⟩] } else none)
  else if k = 3 then (if w.length = 4 ∧ plainOk (x 1) 10 = true ∧ rfOk (x 2) = true ∧ plainOk (x 3) 10 = true then some { p with ro := p.ro ++ [⟨nJ (x 1), rfJ (x 2), nJ (x 3)⟩] } else none)
  else (if w.length = 6 ∧ plainOk (x 1) 10 = true ∧ plainOk (x 2) 10 = true ∧ plainOk (x 3) 10 = true ∧ plainOk (x 4) 10 = true ∧ x 5 ≠ [] then some { p with ca := p.ca ++ [⟨x 5, nJ (x 1), nJ (x 2), nJ (x 3), nJ (x 4)⟩] } else none)
def wordsT (s : List UInt8) : List (List UInt8) := splitC 32 (cutC 10 s).1
def kindT (s : List UInt8) : Int := kindOf ((wordsT s).getD 0 [])
def badT (s : List UInt8) (first : Bool) (last : Int) : Bool := !(cutC 10 s).2.2 || decide (kindT s < 0) || (decide (kindT s = 0) != first) || decide (kindT s < last)
/-- the lines one after the other: what they come to, or the number of the first bad one -/
def rdLines : Nat → List UInt8 → Nat → Int → PT → PT × Nat × Bool
  | 0, _, n, _, p => (p, n, false)
  | k + 1, s, n, last, p => if s = [] ∧ n ≠ 0 then (p, n, true) else if badT s (decide (n = 0)) last = true then (p, n + 1, false) else
    match lineT (kindT s) (wordsT s) p with
    | none => (p, n + 1, false)
    | some p' => rdLines k (cutC 10 s).2.1 (n + 1) (kindT s) p'
def rdTxt (s : List UInt8) : PT × Int × Int :=
  if (1000000 : Int) < s.length then (PT0, 0, 4) else
    let r := rdLines (s.length + 2) s 0 0 PT0
    if r.2.2 = false then (PT0, ((r.2.1 : Nat) : Int), 8) else if tabNoP r.1 ≠ 0 then (PT0, 0, tabNoP r.1) else (r.1, 0, 0)
theorem rdL_end {k n : Nat} {last : Int} {p : PT} (hn : n ≠ 0) : rdLines (k + 1) [] n last p = (p, n, true) := if_pos ⟨rfl, hn⟩
theorem rdL_bad {k n : Nat} {last : Int} {p : PT} {s : List UInt8} (h : ¬ (s = [] ∧ n ≠ 0)) (hb : badT s (decide (n = 0)) last = true) : rdLines (k + 1) s n last p = (p, n + 1, false) := by rw [rdLines, if_neg h, if_pos hb]
theorem rdL_none {k n : Nat} {last : Int} {p : PT} {s : List UInt8} (h : ¬ (s = [] ∧ n ≠ 0)) (hb : badT s (decide (n = 0)) last = false) (hl : lineT (kindT s) (wordsT s) p = none) : rdLines (k + 1) s n last p = (p, n + 1, false) := by
  rw [rdLines, if_neg h, if_neg (by simp [hb])]; simp only [hl]
theorem rdL_some {k n : Nat} {last : Int} {p p' : PT} {s : List UInt8} (h : ¬ (s = [] ∧ n ≠ 0)) (hb : badT s (decide (n = 0)) last = false) (hl : lineT (kindT s) (wordsT s) p = some p') : rdLines (k + 1) s n last p = rdLines k (cutC 10 s).2.1 (n + 1) (kindT s) p' := by
  rw [rdLines, if_neg h, if_neg (by simp [hb])]; simp only [hl]
/-! ### Numbers of a right table are read back -/
/-! ### A line that was written -/
end Go.Proofs.YtkkngcdikbhkjaaGreatDoor
end
