/- Part 2, merged by a program. find.test: the function value that it returns asks what its condition holds for. Conditions: the condition is right. find.Holds. Conditions: those of the theorem. The reference's deeper, count and ranged. Conditions: those of each theorem. The reference's fault of a condition. Conditions: those of each theorem. The reference's CondHolds. Conditions: the condition is right, the event is small. FindHolds answers true, for all conditions, events, patterns and texts of the sizes that are named. Conditions: those sizes. An index of events: its state in plain lists. No program in sight. find.Index: NewIndex, Put, Drop, Get, Size. Conditions: those of each theorem. cmp.Compare of numbers and of strings. No condition. Three-way compares, and sorted lists that are one. No program in sight. Merging in place, in plain lists: insertion, the split of two sorted rows, blocks that grow. No program in sight. Events that say the same wherever they lie; the orders of what an index finds. No program in sight. find.(*Index).found: what a condition finds, in order of time. Conditions: those of the theorem. slices.SortStableFunc walked, first part: rows that change places, insertion. Conditions: those of each theorem. slices.Reverse of events, over a row of ours. Conditions: those of the theorem. slices.SortStableFunc walked, second part: rotation and symMerge. Conditions: those of each theorem. slices.SortStableFunc walked, last part: blocks, and the whole. Conditions: those of each theorem. find.(*Index).Find. Conditions: those of the theorem. Strings: one byte looked for, cut and split at it, suffixes; words in a list. Conditions: those of each theorem. find.values and the reference's valuesOf. Conditions: those of each theorem. Facets and bins of events in plain lists. No program in sight. Bins and trends of events in plain lists. No program in sight. find.(*Index).Bins and Trend. Conditions: those of the theorems. -/
import Derived.Test.YtekbcbjimajnfaaGreatDoorZip
import Derived.Test.YtekbcbjimajnfaaGreatDoorMdl
import Derived.Test.YtekbcbjimajnfaaGreatDoorJoi
import Derived.Test.YtekbcbjimajnfaaGreatDoorOpsB
import Derived.Test.YtekbcbjimajnfaaGreatDoorSort
import Derived.Sort.Walk0
import Derived.Test.YtekbcbjimajnfaaGreatDoorSlsf
import Derived.Test.YtekbcbjimajnfaaGreatDoorUnb
import Derived.Test.YtekbcbjimajnfaaGreatDoorSwp
import Derived.Test.YtekbcbjimajnfaaGreatDoorCnv
import Derived.Test.YtekbcbjimajnfaaGreatDoorSub
import Derived.Test.YtekbcbjimajnfaaGreatDoorByt
import Derived.Test.YtekbcbjimajnfaaGreatDoorClr
import Derived.Test.YtekbcbjimajnfaaGreatDoorPost
import Derived.Test.YtekbcbjimajnfaaGreatDoorPk1
section
namespace Go.Proofs.YtekbcbjimajnfaaGreatDoor
set_option linter.unusedSimpArgs false
set_option linter.unusedVariables false
set_option maxRecDepth 20000
open Go.RowKit Go.Eng
structure FnR where
  fn : Fn
  rs : List Row
abbrev FnR.v (z : FnR) : Value := .func (.func z.fn.g) #[] z.fn.cap
/-- what is returned asks p, where C holds; it stands on rows -/
structure FnOk {α : Type} (val : α → Value) (ok : World → α → Prop) (w0 : World) (rs : List Row) (C : World → Prop) (p : α → Bool) (z : FnR) : Prop where
  cf : CfOf z.fn.g
  more : ∀ r ∈ rs, r ∈ z.rs
  sees : Sees w0 z.rs fun w => C w → AskF val ok z.fn p w
theorem in_l {a b : List Row} {r : Row} (h : r ∈ a) : r ∈ a ++ b := List.mem_append_left _ h
theorem in_r {a : List Row} {r : Row} : r ∈ a ++ [r] := List.mem_append_right _ (List.mem_singleton.2 rfl)
theorem test1_any {w0 : World} {K : HL} (hK : FromK K) (rs : List Row) (C : World → Prop) (f : Fn) (p : Flt → Bool) (hv : Sees w0 rs fun w => C w → AskF Flt.val FltR f p w) (w : World) (hM0 : Mem w0 ([(900, .many rs)] ++ K) w) :
    Calls Tryz.prog 143 #[.func (.func f.g) #[] f.cap] w fun e w' => ∃ z : FnR, e = .returned z.v ∧ FnOk Evt.val EvR w0 rs C (fun e => e.fa.l.any p) z ∧ Mem w0 ([(900, .many z.rs)] ++ K) w' := by
  refine enterM_args (args := [.func (.func f.g) #[] f.cap]) (F := _) hM0 Tryz.func143 rfl Tryz.ntmps143 rfl rfl ?_
  intro Rb hRb hRn
  refine tx ?_
  refine S_box 1 1 rfl rfl rfl rfl rfl ?_
  intro b1
  refine sr 1 ?_
  refine sgx ?_
  refine s1 (y_makeFunc rfl rfl rfl rfl rfl) ?_
  refine sr 1 ?_
  refine sgo ?_
  refine tr1 hRb fun w hM => ?_
  have hM := hM.boxRow (i := 1) rfl
  have hM := hM.bankK (ks := [(1, 1), (900, 900)]) (m := 900) (i := 1) rfl rfl rfl (by repeat (first | exact kl_nil | exact kl_rest (by assumption) rfl | (apply kl_in; focus rfl) | (apply kl_out; focus rfl))) rfl
  exact ⟨⟨⟨144, #[ptF b1]⟩, _⟩, rfl, ⟨cf144, fun r h => in_l h, fun w hb hr hC => askFault (cell1_of (row_cells (hr _ in_r))) (hv w hb (fun r h => hr r (in_l h)) hC)⟩, hM.keep (ks := [(0, 999)]) (by repeat (first | exact kl_rest (by assumption) rfl | (apply kl_in; focus rfl))) _ ⟨rfl, trivial⟩⟩
theorem test2_any {w0 : World} {K : HL} (hK : FromK K) (rs : List Row) (C : World → Prop) (f : Fn) (p : Frm → Bool) (b3 : Nat) (hv : Sees w0 rs fun w => C w → AskF Frm.val FrmR f p w) (w : World)
    (hM0 : Mem w0 ([(901, .blk b3 (IsBox [.func (.func 143) #[] #[]] 180)), (900, .many rs)] ++ K) w) :
    Calls Tryz.prog 146 #[.func (.func f.g) #[] f.cap, ptF b3] w fun e w' => ∃ z : FnR, e = .returned z.v ∧ FnOk Evt.val EvR w0 rs C (fun e => e.fa.l.any fun f => f.fr.l.any p) z ∧ Mem w0 ([(901, .blk b3 (IsBox [.func (.func 143) #[] #[]] 180)), (900, .many z.rs)] ++ K) w' := by
  refine enterM_args (args := [.func (.func f.g) #[] f.cap, ptF b3]) (F := _) hM0 Tryz.func146 rfl Tryz.ntmps146 rfl rfl ?_
  intro Rb hRb hRn
  refine tx ?_
  refine S_box 2 2 rfl rfl rfl rfl rfl ?_
  intro b2
  refine sr 1 ?_
  refine sgx ?_
  refine s1 (yL 901 Tryz.underlying180) ?_
  refine s1 (y_makeFunc rfl rfl rfl rfl rfl) ?_
  refine S_callM 6 [(900, 900)] (X := FnR) rfl rfl rfl rfl rfl rfl rfl cf143 rfl (fun z => z.v) (FnOk Evt.val EvR w0 rs (fun w => Cell1 w b2 f.v ∧ C w) (fun e => e.fa.l.any fun f => f.fr.l.any p)) (fun z => [(900, .many z.rs)]) (fun _ => rfl) (fun _ => rfl) (fun K hK w hM => test1_any hK rs (fun w => Cell1 w b2 f.v ∧ C w) ⟨147, #[ptF b2]⟩ (fun f => f.fr.l.any p) (fun w hb hr hC => askFrame hC.1 (hv w hb hr hC.2)) w hM) ?_
  intro x6 hx6
  refine sr 1 ?_
  refine sgo ?_
  refine tr1 hRb fun w hM => ?_
  have hM := hM.boxRow (i := 2) rfl
  have hM := hM.bankK (ks := [(2, 2), (900, 900)]) (m := 900) (i := 2) rfl rfl rfl (by repeat (first | exact kl_nil | exact kl_rest (by assumption) rfl | (apply kl_in; focus rfl) | (apply kl_out; focus rfl))) rfl
  exact ⟨⟨x6.fn, x6.rs ++ [boxRow 181 b2 [f.v]]⟩, rfl, ⟨hx6.cf, fun r h => in_l (hx6.more r h), fun w hb hr hC => hx6.sees w hb (fun r h => hr r (in_l h)) ⟨cell1_of (row_cells (hr _ in_r)), hC⟩⟩, hM.keep (ks := [(0, 999)]) (by repeat (first | exact kl_rest (by assumption) rfl | (apply kl_in; focus rfl))) _ ⟨rfl, rfl, trivial⟩⟩
theorem test3_any {w0 : World} {K : HL} (hK : FromK K) (rs : List Row) (x : SC) (g : FuncId) (f : Evt → Int) (b1 : Nat) (hcf : CfOf g) (hg : ∀ e w', Calls Tryz.prog g #[e.val] w' fun en w'' => en = .returned (.int .i64 (f e)) ∧ Below w'.heap.size w' w'') (w : World) (hM0 : Mem w0 ([(900, .many rs)] ++ K) w) :
    Calls Tryz.prog 149 #[.func (.func g) #[] #[], ptF b1] w fun e w' => ∃ z : FnR, e = .returned z.v ∧ FnOk Evt.val EvR w0 rs (fun w => CellsAt w b1 x.enc) (fun e => inB (f e) x.lo x.hi) z ∧ Mem w0 ([(900, .many z.rs)] ++ K) w' := by
  refine enterM_args (args := [.func (.func g) #[] #[], ptF b1]) (F := _) hM0 Tryz.func149 rfl Tryz.ntmps149 rfl rfl ?_
  intro Rb hRb hRn
  refine tx ?_
  refine S_box 2 2 rfl rfl rfl rfl rfl ?_
  intro b2
  refine sr 1 ?_
  refine sgx ?_
  refine s1 (y_makeFunc rfl rfl rfl rfl rfl) ?_
  refine sr 1 ?_
  refine sgo ?_
  refine tr1 hRb fun w hM => ?_
  have hM := hM.boxRow (i := 2) rfl
  have hM := hM.bankK (ks := [(2, 2), (900, 900)]) (m := 900) (i := 2) rfl rfl rfl (by repeat (first | exact kl_nil | exact kl_rest (by assumption) rfl | (apply kl_in; focus rfl) | (apply kl_out; focus rfl))) rfl
  exact ⟨⟨⟨150, #[ptF b2, ptF b1]⟩, _⟩, rfl, ⟨cf150, fun r h => in_l h, fun w hb hr hC => askNum hcf hg (cell1_of (row_cells (hr _ in_r))) hC⟩, hM.keep (ks := [(0, 999)]) (by repeat (first | exact kl_rest (by assumption) rfl | (apply kl_in; focus rfl))) _ ⟨rfl, trivial⟩⟩
def kidRow (A : Option Addr) (q c : Nat) (Z : List (Fn × SC)) : Row := ⟨32, 1, .slice A q c, q, Z.flatMap fnE⟩
theorem kids_sees {w0 : World} {ws : List Row} {A : Option Addr} {q c b : Nat} {Z : List (Fn × SC)} {ks : List SC} (hl : Z.length = q) (hq : q ≤ 4611686018427387904) (hk : Z.map Prod.snd = ks) (hz : ∀ z ∈ Z, Sees w0 ws (AskF Evt.val EvR z.1 fun e => hoX e z.2)) :
    Sees w0 ((ws ++ [kidRow A q c Z]) ++ [boxRow 186 b [.slice A q c]]) (KidsAt b ks) := fun w hb hr =>
  ⟨A, q, c, Z, cell1_of (row_cells (hr _ in_r)), (row_ok (hr _ (in_l in_r)) hl).t, hq, hk, fun z h => hz z h w hb fun r h => hr r (in_l (in_l h))⟩
def TestAt (x : SC) : Prop := ∀ {w0 : World} {K : HL} (_ : FromK K) (rs : List Row) (w : World), x.Ok w0 → chX x = 0 → MLen w0 → Mem w0 ([(900, .many rs)] ++ K) w →
    Calls Tryz.prog 95 #[x.val] w fun e w' => ∃ z : FnR, e = .returned z.v ∧ FnOk Evt.val EvR w0 rs (fun _ => True) (fun e => hoX e x) z ∧ Mem w0 ([(900, .many z.rs)] ++ K) w'
theorem z180 : ∀ w, (zeroValue 180).run Tryz.prog w = .ok .nilFunc w := fun _ => by kernel_rfl
set_option maxHeartbeats 3200000 in
theorem test_step (x : SC) (ih : ∀ k ∈ x.kids, TestAt k) : TestAt x := by
  intro w0 K hK rs w hok h0 hmx hM0
  obtain ⟨hs, hq, hb80, hn, htl, hk⟩ := hok.parts
  have hl : SlT SC.enc 6 w0 x.ad x.q x.kids := hs.t
  have hlen := hl.len
  have htx := ch_text h0
  obtain ⟨ar1, ar2, ar3, ar4⟩ := ch_ar h0
  refine enterM_args (args := [.agg #[.int .i64 x.op, .slice x.ad x.q x.c, .int .i64 x.lo, .int .i64 x.hi, str x.nm, str x.tx]]) (F := _) hM0 Tryz.func95 rfl Tryz.ntmps95 rfl rfl ?_
  intro Rb hRb hRn
  refine tx ?_
  refine S_box 1 1 rfl rfl rfl rfl rfl ?_
  intro b1
  refine sr 1 ?_
  refine sgx ?_
  refine S_alloc 3 3 rfl rfl rfl rfl z180 ?_
  intro b3
  refine S_store 3 rfl rfl rfl rfl rfl rfl sz180 rfl rfl ?_
  refine sgx ?_
  refine s1 (y_makeFunc rfl rfl rfl rfl rfl) ?_
  refine sr 1 ?_
  refine sgx ?_
  refine s1 (y_makeFunc rfl rfl rfl rfl rfl) ?_
  refine sr 1 ?_
  refine sgx ?_
  refine S_alloc 6 6 rfl rfl rfl rfl z186 ?_
  intro b6
  refine sgs ?_
  refine tx ?_
  refine S_nilSlice 906 (e := 32) (size := 1) ?_
  refine s1 (yF fa36_1) ?_
  refine s1 (yL 1 Tryz.underlying34) ?_
  refine s1 (y_len_slice rfl rfl Tryz.underlying34) ?_
  refine sr 1 ?_
  refine sgo ?_
  refine T_block ?_
  refine lK5 (kf := [(8, 8), (15, 24)]) (kl := [(6, 6), (8, 8), (15, 24), (900, 900), (906, 906)]) (fun (i : Nat) (A : Option Addr) (c : Nat) (Z : List (Fn × SC)) (ws : List Row) => [(15, true, .int .i64 (i : Int))]) (fun (i : Nat) (A : Option Addr) (c : Nat) (Z : List (Fn × SC)) (ws : List Row) => [(6, .blk b6 (IsBox [.slice A i c] 186)), (906, .own 32 1 (.slice A i c) i (Z.flatMap fnE)), (900, .many ws)]) (fun (i : Nat) (A : Option Addr) (c : Nat) (Z : List (Fn × SC)) (ws : List Row) => i ≤ x.q ∧ Z.length = i ∧ Z.map Prod.snd = x.kids.take i ∧ (∀ r ∈ rs, r ∈ ws) ∧ ∀ z ∈ Z, Sees w0 ws (AskF Evt.val EvR z.1 fun e => hoX e z.2)) (fun (i : Nat) (A : Option Addr) (c : Nat) (Z : List (Fn × SC)) (ws : List Row) => x.q - i) 0 none 0 [] rs ?_ ?_ ?_ ?_
  · exact ⟨by omega, rfl, rfl, fun _ h => h, fun _ h => by simp at h⟩
  · exact ⟨rfl, trivial⟩
  · exact ⟨rfl, rfl, rfl, trivial⟩
  rintro i A c Z ws ⟨hp1, hp2, hp3, hp4, hp5⟩
  refine tx ?_
  refine sr 1 ?_
  refine sgs ?_
  refine T_cond rfl ?_ ?_ <;> intro h16
  · try simp only [nrm] at h16
    obtain ⟨k, hx1, hx2⟩ := hl.at (i := i) (by omega)
    refine kgs ?_
    refine T_block ?_
    refine tx ?_
    refine s1 (y_indexAddr rfl rfl rfl Tryz.underlying34 sz36 (fun hg => hl.isSome (by omega)) (fun _ => by omega)) ?_
    refine s1 (y_loadT rfl rfl hl (fun _ => rfl) (fun _ => hx1) Tryz.underlying36 rfl sz36) ?_
    refine S_alloc 8 8 rfl rfl rfl rfl z36 ?_
    intro b8
    refine S_store 8 rfl rfl rfl rfl rfl rfl sz36 rfl rfl ?_
    refine sgo ?_
    refine T_perm [0, 1, 2, 3, 4, 5] [true, true, false, false, false, false] [0, 0, 2, 6, 15, 31] [(0, [6]), (1, [8])] (by kernel_rfl) (by kernel_rfl) (by kernel_rfl) rfl (by kernel_rfl) ?_
    refine Rf_ 0 19 rfl rfl rfl rfl rfl _ ⟨rfl, trivial⟩ (Y.z (yL 6 Tryz.underlying186) rfl) ?_
    refine Rf_ 1 20 rfl rfl rfl rfl rfl _ ⟨rfl, trivial⟩ (Y.z (yA 8 rfl Tryz.underlying36 sz36) rfl) ?_
    refine R_chain 2 rfl rfl ?_
    refine S_callM 21 [(900, 900)] (X := FnR) rfl rfl rfl rfl rfl rfl rfl cf95 rfl (fun z => z.v) (FnOk Evt.val EvR w0 ws (fun _ => True) (fun e => hoX e k)) (fun z => [(900, .many z.rs)]) (fun _ => rfl) (fun _ => rfl) (fun K hK w hM => ih k (mem_at hx1) hK ws w (hk k (mem_at hx1)) (ch_kids h0 (mem_at hx1)) hmx hM) ?_
    intro x21 hx21
    refine R_next ⟨.inr ⟨rfl, trivial⟩, .inl rfl, trivial⟩ ?_
    refine R_chain 3 rfl rfl ?_
    refine S_buildSlice 22 22 rfl rfl rfl rfl rfl Tryz.underlying186 inf32 rfl (by decide) (by decide) rfl rfl (by decide) rfl (_) rfl ?_
    intro b22
    refine R_next ⟨.inr ⟨rfl, trivial⟩, .inl rfl, trivial⟩ ?_
    refine R_chain 4 rfl rfl ?_
    obtain ⟨i23, hi23, hz23, hs23, hy23⟩ := info_parts inf32
    refine S_append 23 906 22 rfl rfl rfl rfl rfl rfl rfl rfl Tryz.underlying186 hi23 hz23 hs23 hy23 rfl (by decide) (by decide) rfl ?_ ?_ (_) ((Z ++ [(x21.fn, k)]).flatMap fnE) rfl ?_ ?_
    · (simp only [maxLen]; omega)
    · omega
    · rw [List.flatMap_append]; rfl
    intro A23 c23
    refine R_next ⟨.inl rfl, .inl rfl, trivial⟩ ?_
    refine R_chain 5 rfl rfl ?_
    refine S_store 6 rfl rfl rfl rfl rfl rfl sz186 rfl rfl ?_
    refine R_next ⟨.inl rfl, .inl rfl, trivial⟩ ?_
    refine R_go (fun _ _ h => h) ?_
    refine T_region ?_
    refine s1 (y_bin rfl rfl rfl (fun hg => b_add (by omega))) ?_
    refine sr 1 ?_
    refine S_nil (nK5 (kf := [(8, 8), (15, 24)]) (kl := [(6, 6), (8, 8), (15, 24), (900, 900), (906, 906)]) (i + 1) A23 c23 (Z ++ [(x21.fn, k)]) x21.rs ?_ ?_ ?_ ?_)
    · omega
    · exact ⟨by omega, by rw [List.length_append, hp2]; rfl, by rw [List.map_append, hp3, List.take_add_one, hx1]; rfl, fun r h => hx21.more r (hp4 r h), fun z hz => by
        rcases List.mem_append.1 hz with h | h
        · exact (hp5 z h).more hx21.more
        · rw [List.mem_singleton.1 h]; exact hx21.sees.map fun w h => h trivial⟩
    · exact ⟨rfl, trivial⟩
    · exact ⟨rfl, rfl, rfl, trivial⟩
  try simp only [nrm] at h16
  have hiq : i = x.q := by omega
  have hZk : Z.map Prod.snd = x.kids := by rw [hp3, List.take_of_length_le (by omega)]
  refine egs ?_
  refine tx ?_
  refine s1 (yF fa36_0) ?_
  refine s1 (yL 1 Tryz.underlying3) ?_
  refine sgo ?_
  refine T_block ?_
  refine tx ?_
  refine sr 2 ?_
  refine sgo ?_
  refine T_cond rfl ?_ ?_ <;> intro h27
  · skip
    have hop : x.op = 1 := by simpa using h27
    refine tx ?_
    refine s1 (y_makeFunc rfl rfl rfl rfl rfl) ?_
    refine sr 1 ?_
    refine sgo ?_
    refine tr1 hRb fun w hM => ?_
    have hM := hM.bankK (ks := [(906, 906), (900, 900)]) (m := 900) (i := 906) rfl rfl rfl (by repeat (first | exact kl_nil | exact kl_rest (by assumption) rfl | (apply kl_in; focus rfl) | (apply kl_out; focus rfl))) rfl
    have hM := hM.boxRow (i := 6) rfl
    have hM := hM.bankK (ks := [(6, 6), (900, 900)]) (m := 900) (i := 6) rfl rfl rfl (by repeat (first | exact kl_nil | exact kl_rest (by assumption) rfl | (apply kl_in; focus rfl) | (apply kl_out; focus rfl))) rfl
    exact ⟨⟨⟨151, #[ptF b6]⟩, _⟩, rfl, ⟨cf151, fun r h => in_l (in_l (hp4 r h)), fun w hb hr _ => (askAnd (kids_sees hp2 (by omega) hZk hp5 w hb hr)).ext fun e => ho1 hop⟩, hM.keep (ks := [(0, 999)]) (by repeat (first | exact kl_rest (by assumption) rfl | (apply kl_in; focus rfl))) _ ⟨rfl, trivial⟩⟩
  have n1 : ¬ x.op = 1 := by simpa using h27
  refine tx ?_
  refine sr 2 ?_
  refine sgo ?_
  refine T_cond rfl ?_ ?_ <;> intro h30
  · skip
    have hop : x.op = 2 := by simpa using h30
    refine tx ?_
    refine s1 (y_makeFunc rfl rfl rfl rfl rfl) ?_
    refine sr 1 ?_
    refine sgo ?_
    refine tr1 hRb fun w hM => ?_
    have hM := hM.bankK (ks := [(906, 906), (900, 900)]) (m := 900) (i := 906) rfl rfl rfl (by repeat (first | exact kl_nil | exact kl_rest (by assumption) rfl | (apply kl_in; focus rfl) | (apply kl_out; focus rfl))) rfl
    have hM := hM.boxRow (i := 6) rfl
    have hM := hM.bankK (ks := [(6, 6), (900, 900)]) (m := 900) (i := 6) rfl rfl rfl (by repeat (first | exact kl_nil | exact kl_rest (by assumption) rfl | (apply kl_in; focus rfl) | (apply kl_out; focus rfl))) rfl
    exact ⟨⟨⟨154, #[ptF b6]⟩, _⟩, rfl, ⟨cf154, fun r h => in_l (in_l (hp4 r h)), fun w hb hr _ => (askOr (kids_sees hp2 (by omega) hZk hp5 w hb hr)).ext fun e => ho2 hop⟩, hM.keep (ks := [(0, 999)]) (by repeat (first | exact kl_rest (by assumption) rfl | (apply kl_in; focus rfl))) _ ⟨rfl, trivial⟩⟩
  have n2 : ¬ x.op = 2 := by simpa using h30
  refine tx ?_
  refine sr 2 ?_
  refine sgo ?_
  refine T_cond rfl ?_ ?_ <;> intro h33
  · skip
    have hop : x.op = 3 := by simpa using h33
    refine tx ?_
    refine s1 (y_makeFunc rfl rfl rfl rfl rfl) ?_
    refine sr 1 ?_
    refine sgo ?_
    refine tr1 hRb fun w hM => ?_
    obtain ⟨k, hk1⟩ : ∃ k, x.kids = [k] := by
      match h : x.kids, ar4 hop with
      | [k], _ => exact ⟨k, rfl⟩
    have hM := hM.bankK (ks := [(906, 906), (900, 900)]) (m := 900) (i := 906) rfl rfl rfl (by repeat (first | exact kl_nil | exact kl_rest (by assumption) rfl | (apply kl_in; focus rfl) | (apply kl_out; focus rfl))) rfl
    have hM := hM.boxRow (i := 6) rfl
    have hM := hM.bankK (ks := [(6, 6), (900, 900)]) (m := 900) (i := 6) rfl rfl rfl (by repeat (first | exact kl_nil | exact kl_rest (by assumption) rfl | (apply kl_in; focus rfl) | (apply kl_out; focus rfl))) rfl
    exact ⟨⟨⟨156, #[ptF b6]⟩, _⟩, rfl, ⟨cf156, fun r h => in_l (in_l (hp4 r h)), fun w hb hr _ => (askNot (kids_sees hp2 (by omega) (hZk.trans hk1) hp5 w hb hr)).ext fun e => ho3 hop hk1⟩, hM.keep (ks := [(0, 999)]) (by repeat (first | exact kl_rest (by assumption) rfl | (apply kl_in; focus rfl))) _ ⟨rfl, trivial⟩⟩
  have n3 : ¬ x.op = 3 := by simpa using h33
  refine tx ?_
  refine sr 2 ?_
  refine sgo ?_
  refine T_cond rfl ?_ ?_ <;> intro h36
  · skip
    have hop : x.op = 4 := by simpa using h36
    refine tx ?_
    refine sr 1 ?_
    refine S_callM 39 [(900, 900)] (X := FnR) rfl rfl rfl rfl rfl rfl rfl cf149 rfl (fun z => z.v) (FnOk Evt.val EvR w0 ws (fun w => CellsAt w b1 x.enc) (fun e => inB e.lv x.lo x.hi)) (fun z => [(900, .many z.rs)]) (fun _ => rfl) (fun _ => rfl) (fun K hK w hM => test3_any hK ws x 157 (fun e => e.lv) b1 cf157 nlv_any w hM) ?_
    intro x39 hx39
    refine sr 1 ?_
    refine sgo ?_
    refine tr1 hRb fun w hM => ?_
    have hM := hM.boxRow (i := 1) rfl
    have hM := hM.bankK (ks := [(1, 1), (900, 900)]) (m := 900) (i := 1) rfl rfl rfl (by repeat (first | exact kl_nil | exact kl_rest (by assumption) rfl | (apply kl_in; focus rfl) | (apply kl_out; focus rfl))) rfl
    exact ⟨⟨x39.fn, x39.rs ++ [boxRow 36 b1 x.enc]⟩, rfl, ⟨hx39.cf, fun r h => in_l (hx39.more r (hp4 r h)), fun w hb hr _ => (hx39.sees w hb (fun r h => hr r (in_l h)) (cells_of (row_cells (hr _ in_r)))).ext fun e => ho4 hop⟩, hM.keep (ks := [(0, 999)]) (by repeat (first | exact kl_rest (by assumption) rfl | (apply kl_in; focus rfl))) _ ⟨rfl, trivial⟩⟩
  have n4 : ¬ x.op = 4 := by simpa using h36
  refine tx ?_
  refine sr 2 ?_
  refine sgo ?_
  refine T_cond rfl ?_ ?_ <;> intro h40
  · skip
    have hop : x.op = 5 := by simpa using h40
    refine tx ?_
    refine sr 1 ?_
    refine S_callM 43 [(900, 900)] (X := FnR) rfl rfl rfl rfl rfl rfl rfl cf149 rfl (fun z => z.v) (FnOk Evt.val EvR w0 ws (fun w => CellsAt w b1 x.enc) (fun e => inB e.at_ x.lo x.hi)) (fun z => [(900, .many z.rs)]) (fun _ => rfl) (fun _ => rfl) (fun K hK w hM => test3_any hK ws x 158 (fun e => e.at_) b1 cf158 nat_any w hM) ?_
    intro x43 hx43
    refine sr 1 ?_
    refine sgo ?_
    refine tr1 hRb fun w hM => ?_
    have hM := hM.boxRow (i := 1) rfl
    have hM := hM.bankK (ks := [(1, 1), (900, 900)]) (m := 900) (i := 1) rfl rfl rfl (by repeat (first | exact kl_nil | exact kl_rest (by assumption) rfl | (apply kl_in; focus rfl) | (apply kl_out; focus rfl))) rfl
    exact ⟨⟨x43.fn, x43.rs ++ [boxRow 36 b1 x.enc]⟩, rfl, ⟨hx43.cf, fun r h => in_l (hx43.more r (hp4 r h)), fun w hb hr _ => (hx43.sees w hb (fun r h => hr r (in_l h)) (cells_of (row_cells (hr _ in_r)))).ext fun e => ho5 hop⟩, hM.keep (ks := [(0, 999)]) (by repeat (first | exact kl_rest (by assumption) rfl | (apply kl_in; focus rfl))) _ ⟨rfl, trivial⟩⟩
  have n5 : ¬ x.op = 5 := by simpa using h40
  refine tx ?_
  refine sr 2 ?_
  refine sgo ?_
  refine T_cond rfl ?_ ?_ <;> intro h44
  · skip
    have hop : x.op = 6 := by simpa using h44
    refine tx ?_
    refine sr 1 ?_
    refine S_callM 47 [(900, 900)] (X := FnR) rfl rfl rfl rfl rfl rfl rfl cf149 rfl (fun z => z.v) (FnOk Evt.val EvR w0 ws (fun w => CellsAt w b1 x.enc) (fun e => inB e.wt x.lo x.hi)) (fun z => [(900, .many z.rs)]) (fun _ => rfl) (fun _ => rfl) (fun K hK w hM => test3_any hK ws x 159 (fun e => e.wt) b1 cf159 nwt_any w hM) ?_
    intro x47 hx47
    refine sr 1 ?_
    refine sgo ?_
    refine tr1 hRb fun w hM => ?_
    have hM := hM.boxRow (i := 1) rfl
    have hM := hM.bankK (ks := [(1, 1), (900, 900)]) (m := 900) (i := 1) rfl rfl rfl (by repeat (first | exact kl_nil | exact kl_rest (by assumption) rfl | (apply kl_in; focus rfl) | (apply kl_out; focus rfl))) rfl
    exact ⟨⟨x47.fn, x47.rs ++ [boxRow 36 b1 x.enc]⟩, rfl, ⟨hx47.cf, fun r h => in_l (hx47.more r (hp4 r h)), fun w hb hr _ => (hx47.sees w hb (fun r h => hr r (in_l h)) (cells_of (row_cells (hr _ in_r)))).ext fun e => ho6 hop⟩, hM.keep (ks := [(0, 999)]) (by repeat (first | exact kl_rest (by assumption) rfl | (apply kl_in; focus rfl))) _ ⟨rfl, trivial⟩⟩
  have n6 : ¬ x.op = 6 := by simpa using h44
  refine T_seq ?_
  refine tx ?_
  refine sr 2 ?_
  refine sgo ?_
  refine T_cond rfl ?_ ?_ <;> intro h48
  · skip
    have hop7 := h48
    have hop : x.op = 7 ∨ x.op = 8 := .inl (by simpa using h48)
    refine kgo ?_
    refine T_cond rfl ?_ ?_ <;> intro h48
    · skip
      refine tx ?_
      refine s1 (y_makeFunc rfl rfl rfl rfl rfl) ?_
      refine sr 1 ?_
      refine sgo ?_
      refine tr1 hRb fun w hM => ?_
      have hM := hM.boxRow (i := 1) rfl
      have hM := hM.bankK (ks := [(1, 1), (900, 900)]) (m := 900) (i := 1) rfl rfl rfl (by repeat (first | exact kl_nil | exact kl_rest (by assumption) rfl | (apply kl_in; focus rfl) | (apply kl_out; focus rfl))) rfl
      exact ⟨⟨⟨160, #[ptF b1]⟩, ws ++ [boxRow 36 b1 x.enc]⟩, rfl, ⟨cf160, fun r h => in_l (hp4 r h), fun w hb hr _ => (askTag htx (cells_of (row_cells (hr _ in_r)))).ext fun e => ho7 hop⟩, hM.keep (ks := [(0, 999)]) (by repeat (first | exact kl_rest (by assumption) rfl | (apply kl_in; focus rfl))) _ ⟨rfl, trivial⟩⟩
    exact absurd (hop7.symm.trans h48) (by decide)
  have n7 : ¬ x.op = 7 := by simpa using h48
  refine T_region ?_
  refine sr 2 ?_
  refine sgo ?_
  refine T_cond rfl ?_ ?_ <;> intro h48
  · skip
    have hop : x.op = 7 ∨ x.op = 8 := .inr (by simpa using h48)
    refine tx ?_
    refine s1 (y_makeFunc rfl rfl rfl rfl rfl) ?_
    refine sr 1 ?_
    refine sgo ?_
    refine tr1 hRb fun w hM => ?_
    have hM := hM.boxRow (i := 1) rfl
    have hM := hM.bankK (ks := [(1, 1), (900, 900)]) (m := 900) (i := 1) rfl rfl rfl (by repeat (first | exact kl_nil | exact kl_rest (by assumption) rfl | (apply kl_in; focus rfl) | (apply kl_out; focus rfl))) rfl
    exact ⟨⟨⟨160, #[ptF b1]⟩, ws ++ [boxRow 36 b1 x.enc]⟩, rfl, ⟨cf160, fun r h => in_l (hp4 r h), fun w hb hr _ => (askTag htx (cells_of (row_cells (hr _ in_r)))).ext fun e => ho7 hop⟩, hM.keep (ks := [(0, 999)]) (by repeat (first | exact kl_rest (by assumption) rfl | (apply kl_in; focus rfl))) _ ⟨rfl, trivial⟩⟩
  have n8 : ¬ x.op = 8 := by simpa using h48
  refine tx ?_
  refine sr 2 ?_
  refine sgo ?_
  refine T_cond rfl ?_ ?_ <;> intro h52
  · skip
    have hop : x.op = 9 := by simpa using h52
    refine tx ?_
    refine s1 (y_makeFunc rfl rfl rfl rfl rfl) ?_
    refine sr 1 ?_
    refine sgo ?_
    refine tr1 hRb fun w hM => ?_
    have hM := hM.boxRow (i := 1) rfl
    have hM := hM.bankK (ks := [(1, 1), (900, 900)]) (m := 900) (i := 1) rfl rfl rfl (by repeat (first | exact kl_nil | exact kl_rest (by assumption) rfl | (apply kl_in; focus rfl) | (apply kl_out; focus rfl))) rfl
    exact ⟨⟨⟨161, #[ptF b1]⟩, ws ++ [boxRow 36 b1 x.enc]⟩, rfl, ⟨cf161, fun r h => in_l (hp4 r h), fun w hb hr _ => (askrel htx (cells_of (row_cells (hr _ in_r)))).ext fun e => ho9 hop⟩, hM.keep (ks := [(0, 999)]) (by repeat (first | exact kl_rest (by assumption) rfl | (apply kl_in; focus rfl))) _ ⟨rfl, trivial⟩⟩
  have n9 : ¬ x.op = 9 := by simpa using h52
  refine tx ?_
  refine sr 2 ?_
  refine sgo ?_
  refine T_cond rfl ?_ ?_ <;> intro h55
  · skip
    have hop : x.op = 10 := by simpa using h55
    refine tx ?_
    refine s1 (y_makeFunc rfl rfl rfl rfl rfl) ?_
    refine sr 1 ?_
    refine sgo ?_
    refine tr1 hRb fun w hM => ?_
    have hM := hM.boxRow (i := 1) rfl
    have hM := hM.bankK (ks := [(1, 1), (900, 900)]) (m := 900) (i := 1) rfl rfl rfl (by repeat (first | exact kl_nil | exact kl_rest (by assumption) rfl | (apply kl_in; focus rfl) | (apply kl_out; focus rfl))) rfl
    exact ⟨⟨⟨162, #[ptF b1]⟩, ws ++ [boxRow 36 b1 x.enc]⟩, rfl, ⟨cf162, fun r h => in_l (hp4 r h), fun w hb hr _ => (askus htx (cells_of (row_cells (hr _ in_r)))).ext fun e => ho10 hop⟩, hM.keep (ks := [(0, 999)]) (by repeat (first | exact kl_rest (by assumption) rfl | (apply kl_in; focus rfl))) _ ⟨rfl, trivial⟩⟩
  have n10 : ¬ x.op = 10 := by simpa using h55
  refine tx ?_
  refine sr 2 ?_
  refine sgo ?_
  refine T_cond rfl ?_ ?_ <;> intro h58
  · skip
    have hop : x.op = 11 := by simpa using h58
    refine tx ?_
    refine s1 (yL 3 Tryz.underlying180) ?_
    refine s1 (y_makeFunc rfl rfl rfl rfl rfl) ?_
    refine S_callM 62 [(900, 900)] (X := FnR) rfl rfl rfl rfl rfl rfl rfl cf143 rfl (fun z => z.v) (FnOk Evt.val EvR w0 ws (fun w => CellsAt w b1 x.enc) (fun e => e.fa.l.any fun f => gm eqL x.tx f.k)) (fun z => [(900, .many z.rs)]) (fun _ => rfl) (fun _ => rfl) (fun K hK w hM => test1_any hK ws (fun w => CellsAt w b1 x.enc) ⟨163, #[ptF b1]⟩ (fun f => gm eqL x.tx f.k) (fun w _ _ hC => askKind htx hC) w hM) ?_
    intro x62 hx62
    refine sr 1 ?_
    refine sgo ?_
    refine tr1 hRb fun w hM => ?_
    have hM := hM.boxRow (i := 1) rfl
    have hM := hM.bankK (ks := [(1, 1), (900, 900)]) (m := 900) (i := 1) rfl rfl rfl (by repeat (first | exact kl_nil | exact kl_rest (by assumption) rfl | (apply kl_in; focus rfl) | (apply kl_out; focus rfl))) rfl
    exact ⟨⟨x62.fn, x62.rs ++ [boxRow 36 b1 x.enc]⟩, rfl, ⟨hx62.cf, fun r h => in_l (hx62.more r (hp4 r h)), fun w hb hr _ => (hx62.sees w hb (fun r h => hr r (in_l h)) (cells_of (row_cells (hr _ in_r)))).ext fun e => ho11 hop⟩, hM.keep (ks := [(0, 999)]) (by repeat (first | exact kl_rest (by assumption) rfl | (apply kl_in; focus rfl))) _ ⟨rfl, trivial⟩⟩
  have n11 : ¬ x.op = 11 := by simpa using h58
  refine tx ?_
  refine sr 2 ?_
  refine sgo ?_
  refine T_cond rfl ?_ ?_ <;> intro h63
  · skip
    have hop : x.op = 12 := by simpa using h63
    refine tx ?_
    refine s1 (yF fa36_5) ?_
    refine s1 (yL 1 Tryz.underlying9) ?_
    refine s1 (y_call rfl rfl rfl cf164 (fun _ w _ => fsmall_any _ (by omega) w)) ?_
    refine S_alloc 9 9 rfl rfl rfl rfl z9 ?_
    intro b9
    refine S_store 9 rfl rfl rfl rfl rfl rfl sz9 rfl rfl ?_
    refine sgx ?_
    refine s1 (yL 3 Tryz.underlying180) ?_
    refine s1 (y_makeFunc rfl rfl rfl rfl rfl) ?_
    refine S_callM 70 [(900, 900)] (X := FnR) rfl rfl rfl rfl rfl rfl rfl cf143 rfl (fun z => z.v) (FnOk Evt.val EvR w0 ws (fun w => Cell1 w b9 (str (x.tx.map lowB))) (fun e => e.fa.l.any fun f => Lib.contains (f.t.map lowB) (x.tx.map lowB))) (fun z => [(900, .many z.rs)]) (fun _ => rfl) (fun _ => rfl) (fun K hK w hM => test1_any hK ws (fun w => Cell1 w b9 (str (x.tx.map lowB))) ⟨165, #[ptF b9]⟩ (fun f => Lib.contains (f.t.map lowB) (x.tx.map lowB)) (fun w hb _ hC => askSays (hmx.below hb) hC) w hM) ?_
    intro x70 hx70
    refine sr 1 ?_
    refine sgo ?_
    refine tr1 hRb fun w hM => ?_
    have hM := hM.boxRow (i := 9) rfl
    have hM := hM.bankK (ks := [(9, 9), (900, 900)]) (m := 900) (i := 9) rfl rfl rfl (by repeat (first | exact kl_nil | exact kl_rest (by assumption) rfl | (apply kl_in; focus rfl) | (apply kl_out; focus rfl))) rfl
    exact ⟨⟨x70.fn, x70.rs ++ [boxRow 9 b9 [str (x.tx.map lowB)]]⟩, rfl, ⟨hx70.cf, fun r h => in_l (hx70.more r (hp4 r h)), fun w hb hr _ => (hx70.sees w hb (fun r h => hr r (in_l h)) (cell1_of (row_cells (hr _ in_r)))).ext fun e => ho12 hop⟩, hM.keep (ks := [(0, 999)]) (by repeat (first | exact kl_rest (by assumption) rfl | (apply kl_in; focus rfl))) _ ⟨rfl, trivial⟩⟩
  have n12 : ¬ x.op = 12 := by simpa using h63
  refine tx ?_
  refine sr 2 ?_
  refine sgo ?_
  refine T_cond rfl ?_ ?_ <;> intro h71
  · skip
    have hop : x.op = 13 := by simpa using h71
    refine tx ?_
    refine sr 1 ?_
    refine s1 (y_makeFunc rfl rfl rfl rfl rfl) ?_
    refine S_callM 75 [(901, 3), (900, 900)] (X := FnR) rfl rfl rfl rfl rfl rfl rfl cf146 rfl (fun z => z.v) (FnOk Evt.val EvR w0 ws (fun w => CellsAt w b1 x.enc) (fun e => e.fa.l.any fun f => f.fr.l.any fun y => gm eqL x.tx y.f)) (fun z => [(901, .blk b3 (IsBox [.func (.func 143) #[] #[]] 180)), (900, .many z.rs)]) (fun _ => rfl) (fun _ => rfl) (fun K hK w hM => test2_any hK ws (fun w => CellsAt w b1 x.enc) ⟨167, #[ptF b1]⟩ (fun y => gm eqL x.tx y.f) b3 (fun w _ _ hC => askFunc htx hC) w hM) ?_
    intro x75 hx75
    refine sr 1 ?_
    refine sgo ?_
    refine tr1 hRb fun w hM => ?_
    have hM := hM.boxRow (i := 1) rfl
    have hM := hM.bankK (ks := [(1, 1), (900, 900)]) (m := 900) (i := 1) rfl rfl rfl (by repeat (first | exact kl_nil | exact kl_rest (by assumption) rfl | (apply kl_in; focus rfl) | (apply kl_out; focus rfl))) rfl
    exact ⟨⟨x75.fn, x75.rs ++ [boxRow 36 b1 x.enc]⟩, rfl, ⟨hx75.cf, fun r h => in_l (hx75.more r (hp4 r h)), fun w hb hr _ => (hx75.sees w hb (fun r h => hr r (in_l h)) (cells_of (row_cells (hr _ in_r)))).ext fun e => ho13 hop⟩, hM.keep (ks := [(0, 999)]) (by repeat (first | exact kl_rest (by assumption) rfl | (apply kl_in; focus rfl))) _ ⟨rfl, trivial⟩⟩
  have n13 : ¬ x.op = 13 := by simpa using h71
  have hop : x.op = 14 := by omega
  refine kgx ?_
  refine sr 1 ?_
  refine s1 (y_makeFunc rfl rfl rfl rfl rfl) ?_
  refine S_callM 78 [(901, 3), (900, 900)] (X := FnR) rfl rfl rfl rfl rfl rfl rfl cf146 rfl (fun z => z.v) (FnOk Evt.val EvR w0 ws (fun w => CellsAt w b1 x.enc) (fun e => e.fa.l.any fun f => f.fr.l.any fun y => gm eqL x.tx y.fi)) (fun z => [(901, .blk b3 (IsBox [.func (.func 143) #[] #[]] 180)), (900, .many z.rs)]) (fun _ => rfl) (fun _ => rfl) (fun K hK w hM => test2_any hK ws (fun w => CellsAt w b1 x.enc) ⟨168, #[ptF b1]⟩ (fun y => gm eqL x.tx y.fi) b3 (fun w _ _ hC => askFile htx hC) w hM) ?_
  intro x78 hx78
  refine sr 1 ?_
  refine sgo ?_
  refine tr1 hRb fun w hM => ?_
  have hM := hM.boxRow (i := 1) rfl
  have hM := hM.bankK (ks := [(1, 1), (900, 900)]) (m := 900) (i := 1) rfl rfl rfl (by repeat (first | exact kl_nil | exact kl_rest (by assumption) rfl | (apply kl_in; focus rfl) | (apply kl_out; focus rfl))) rfl
  exact ⟨⟨x78.fn, x78.rs ++ [boxRow 36 b1 x.enc]⟩, rfl, ⟨hx78.cf, fun r h => in_l (hx78.more r (hp4 r h)), fun w hb hr _ => (hx78.sees w hb (fun r h => hr r (in_l h)) (cells_of (row_cells (hr _ in_r)))).ext fun e => ho14 hop⟩, hM.keep (ks := [(0, 999)]) (by repeat (first | exact kl_rest (by assumption) rfl | (apply kl_in; focus rfl))) _ ⟨rfl, trivial⟩⟩
theorem test_any (x : SC) : TestAt x := SC.ind (Q := TestAt) test_step x
end Go.Proofs.YtekbcbjimajnfaaGreatDoor
end
section
namespace Go.Proofs.YtekbcbjimajnfaaGreatDoor
set_option linter.unusedSimpArgs false
set_option linter.unusedVariables false
set_option maxRecDepth 20000
open Go.RowKit Go.Eng
theorem cond_ch {x : SC} (h : condNo x = 0) : chX x = 0 := by
  unfold condNo at h
  split at h
  · cases h
  split at h
  · cases h
  exact h
end Go.Proofs.YtekbcbjimajnfaaGreatDoor
end
section
namespace Go.Proofs.YtekbcbjimajnfaaGreatDoor
set_option linter.unusedSimpArgs false
set_option linter.unusedVariables false
set_option maxRecDepth 20000
open Go.RowKit Go.Eng
end Go.Proofs.YtekbcbjimajnfaaGreatDoor
end
section
namespace Go.Proofs.YtekbcbjimajnfaaGreatDoor
set_option linter.unusedSimpArgs false
set_option linter.unusedVariables false
set_option maxRecDepth 20000
open Go.RowKit Go.Eng
end Go.Proofs.YtekbcbjimajnfaaGreatDoor
end
section
namespace Go.Proofs.YtekbcbjimajnfaaGreatDoor
set_option linter.unusedSimpArgs false
set_option linter.unusedVariables false
set_option maxRecDepth 20000
open Go.RowKit Go.Eng
end Go.Proofs.YtekbcbjimajnfaaGreatDoor
end
section
namespace Go.Proofs.YtekbcbjimajnfaaGreatDoor
set_option linter.unusedSimpArgs false
set_option linter.unusedVariables false
set_option maxRecDepth 20000
open Go.RowKit Go.Eng
end Go.Proofs.YtekbcbjimajnfaaGreatDoor
end
section
namespace Go.Proofs.YtekbcbjimajnfaaGreatDoor
set_option linter.unusedSimpArgs false
set_option linter.unusedVariables false
set_option maxRecDepth 20000
open Go.RowKit Go.Eng
/-- an event as an entry of the index -/
abbrev ixE (e : Evt) : List UInt8 × Value := (e.id, e.val)
def hasI (m : List Evt) (k : List UInt8) : Bool := m.any fun e => decide (e.id = k)
def putI : List Evt → Evt → List Evt
  | [], e => [e]
  | a :: r, e => if e.id = a.id then e :: r else a :: putI r e
def getI : List Evt → List UInt8 → Option Evt
  | [], _ => none
  | a :: r, k => if k = a.id then some a else getI r k
theorem mput_I : ∀ (m : List Evt) (e : Evt), mput (m.map ixE) e.id e.val = (putI m e).map ixE
  | [], e => rfl
  | a :: r, e => by
    rw [List.map_cons, mput, putI]
    split
    · rename_i h
      rw [List.map_cons]
      show (a.id, e.val) :: _ = (e.id, e.val) :: _
      rw [h]
    · rw [List.map_cons, mput_I r e]
theorem mget_I : ∀ (m : List Evt) (k : List UInt8), mget (m.map ixE) k = (getI m k).map Evt.val
  | [], k => rfl
  | a :: r, k => by
    rw [List.map_cons, mget, getI]
    split
    · rfl
    · exact mget_I r k
theorem getI_has : ∀ (m : List Evt) (k : List UInt8), (getI m k).isSome = hasI m k
  | [], k => rfl
  | a :: r, k => by
    rw [getI, hasI, List.any_cons]
    by_cases h : k = a.id
    · rw [if_pos h, decide_eq_true h.symm]; rfl
    · rw [if_neg h, decide_eq_false (Ne.symm h), Bool.false_or, getI_has r k]; rfl
theorem getI_mem {m : List Evt} {k : List UInt8} {e : Evt} (h : getI m k = some e) : e ∈ m ∧ e.id = k := by
  induction m with
  | nil => cases h
  | cons a r ih =>
    rw [getI] at h
    split at h
    · rename_i hk
      injection h with h
      subst h
      exact ⟨List.mem_cons_self .., hk.symm⟩
    · obtain ⟨h1, h2⟩ := ih h
      exact ⟨List.mem_cons_of_mem _ h1, h2⟩
theorem putI_mem {m : List Evt} {e x : Evt} (h : x ∈ putI m e) : x = e ∨ x ∈ m := by
  induction m with
  | nil => exact .inl (List.mem_singleton.1 h)
  | cons a r ih =>
    rw [putI] at h
    split at h
    · rcases List.mem_cons.1 h with h | h
      · exact .inl h
      · exact .inr (List.mem_cons_of_mem _ h)
    · rcases List.mem_cons.1 h with h | h
      · exact .inr (by rw [h]; exact List.mem_cons_self ..)
      · exact (ih h).imp id (List.mem_cons_of_mem _)
abbrev idsI (m : List Evt) : List (List UInt8) := m.map (·.id)
theorem putI_ids {m : List Evt} {e : Evt} : idsI (putI m e) = if hasI m e.id = true then idsI m else idsI m ++ [e.id] := by
  induction m with
  | nil => rfl
  | cons a r ih =>
    rw [putI]
    by_cases h : e.id = a.id
    · rw [if_pos h, hasI, List.any_cons, decide_eq_true h.symm, Bool.true_or, if_pos rfl]
      show e.id :: _ = a.id :: _
      rw [h]
    · rw [if_neg h, hasI, List.any_cons, decide_eq_false (Ne.symm h), Bool.false_or]
      show a.id :: idsI (putI r e) = _
      rw [ih]
      show a.id :: (if hasI r e.id = true then _ else _) = if hasI r e.id = true then _ else _
      split <;> rfl
theorem has_ids {m : List Evt} {k : List UInt8} : hasI m k = true ↔ k ∈ idsI m := by
  rw [hasI, List.any_eq_true, List.mem_map]
  constructor
  · rintro ⟨e, he, h⟩; exact ⟨e, he, of_decide_eq_true h⟩
  · rintro ⟨e, he, h⟩; exact ⟨e, he, decide_eq_true h⟩
/-- the index's state is right: the events are, no id comes twice -/
structure IxOk (w0 : World) (rs : List Row) (m : List Evt) : Prop where
  ok : ∀ e ∈ m, evNo e = 0 ∧ Sees w0 rs fun w => e.Ok w
  nd : (idsI m).Nodup
  le : m.length ≤ 2000
theorem IxOk.more {w0 : World} {rs rs' : List Row} {m : List Evt} (h : IxOk w0 rs m) : IxOk w0 (rs ++ rs') m := ⟨fun e he => ⟨(h.ok e he).1, (h.ok e he).2.app⟩, h.nd, h.le⟩
theorem putI_len {m : List Evt} {e : Evt} : (putI m e).length = if hasI m e.id = true then m.length else m.length + 1 := by
  have := congrArg List.length (putI_ids (m := m) (e := e))
  rw [List.length_map] at this
  rw [this]
  split
  · rw [List.length_map]
  · rw [List.length_append, List.length_map]; rfl
theorem IxOk.put {w0 : World} {rs : List Row} {m : List Evt} {e : Evt} (h : IxOk w0 rs m) (h0 : evNo e = 0) (he : Sees w0 rs fun w => e.Ok w) (hl : hasI m e.id = true ∨ m.length < 2000) : IxOk w0 rs (putI m e) := by
  refine ⟨fun x hx => ?_, ?_, ?_⟩
  · rcases putI_mem hx with rfl | hx
    · exact ⟨h0, he⟩
    · exact h.ok x hx
  · rw [putI_ids]
    split
    · exact h.nd
    · rename_i hn
      rw [List.nodup_append]
      refine ⟨h.nd, by simp, fun a ha b hb => ?_⟩
      rw [List.mem_singleton] at hb
      subst hb
      rintro rfl
      exact hn (has_ids.2 ha)
  · rw [putI_len]
    have := h.le
    split
    · exact this
    · rcases hl with h | h
      · exact absurd h ‹_›
      · omega
end Go.Proofs.YtekbcbjimajnfaaGreatDoor
end
section
namespace Go.Proofs.YtekbcbjimajnfaaGreatDoor
set_option linter.unusedSimpArgs false
set_option linter.unusedVariables false
set_option maxRecDepth 20000
open Go.RowKit Go.Eng
abbrev ixBox (b bm : Nat) : It := .blk b (IsBox [.map (some bm)] 89)
abbrev ixMap (bm : Nat) (m : List Evt) : It := .blk bm (IsMap str (m.map ixE))
def geI (m : List Evt) (k : List UInt8) : Evt := (getI m k).getD evZM
theorem mgetV (m : List Evt) (k : List UInt8) : (mget (m.map ixE) k).getD evZM.val = (geI m k).val := by
  rw [mget_I, geI]
  cases getI m k <;> rfl
theorem mgetB (m : List Evt) (k : List UInt8) : (mget (m.map ixE) k).isSome = hasI m k := by
  rw [mget_I, ← getI_has, Option.isSome_map]
theorem evZM_ok (w : World) : evZM.Ok w := ⟨⟨⟨⟨⟨rfl, fun h => absurd h (by decide)⟩, rfl⟩, Nat.le_refl _⟩, Nat.zero_le _, fun _ h => by cases h⟩, ⟨⟨⟨⟨rfl, fun h => absurd h (by decide)⟩, rfl⟩, Nat.le_refl _⟩, Nat.zero_le _, fun _ h => by cases h⟩, ⟨⟨⟨⟨rfl, fun h => absurd h (by decide)⟩, rfl⟩, Nat.le_refl _⟩, Nat.zero_le _, fun _ h => by cases h⟩, Nat.zero_le _, Nat.zero_le _, Nat.zero_le _⟩
def putNo (m : List Evt) (e : Evt) : Int := if evNo e ≠ 0 then evNo e else if hasI m e.id = false ∧ 2000 ≤ m.length then 12 else 0
structure IxR where
  m : List Evt
  rs : List Row
  no : Int
def PutP (w0 : World) (m : List Evt) (e : Evt) (z : IxR) : Prop := z.no = putNo m e ∧ IxOk w0 z.rs z.m ∧ (z.no ≠ 0 → z.m = m) ∧ (z.no = 0 → ∃ e1, ContE e1 e ∧ z.m = putI m e1)
abbrev ixRows (rs : List Row) (e : Evt) : List Row := (((rs ++ e.fa.l.map frRow) ++ [(⟨100, 3, .slice e.fa.A e.fa.q e.fa.c, e.fa.q, e.fa.l.flatMap Flt.enc⟩ : Row)]) ++ [(⟨92, 2, .slice e.ta.A e.ta.q e.ta.c, e.ta.q, e.ta.l.flatMap STag.enc⟩ : Row)]) ++ [(⟨95, 3, .slice e.cr.A e.cr.q e.cr.c, e.cr.q, e.cr.l.flatMap SCrumb.enc⟩ : Row)]
theorem ixRows_eq (rs : List Row) (e : Evt) : ixRows rs e = rs ++ rsEv e := by simp [ixRows, rsEv]
theorem IxOk.new {w0 : World} {rs : List Row} {m : List Evt} {e : Evt} (h : IxOk w0 rs m) (ho : OkE e) (h0 : evNo e = 0) (hl : hasI m e.id = true ∨ m.length < 2000) : IxOk w0 (ixRows rs e) (putI m e) := by
  rw [ixRows_eq]
  exact (h.more).put h0 (sees_ev ho).app' hl
theorem putNo_0 {m : List Evt} {e : Evt} (h : putNo m e = 0) : evNo e = 0 ∧ (hasI m e.id = true ∨ m.length < 2000) := by
  unfold putNo at h
  split at h
  · exact absurd h ‹_›
  split at h
  · cases h
  · rename_i h1 h2
    refine ⟨by simpa using h1, ?_⟩
    cases hh : hasI m e.id
    · exact .inr (by rw [hh] at h2; simp at h2; omega)
    · exact .inl rfl
set_option maxHeartbeats 1600000 in
theorem Put_any {w0 : World} {K : HL} (hK : FromK K) (b bm : Nat) (m : List Evt) (rs : List Row) (e : Evt) (w : World) (hix : IxOk w0 rs m) (he : e.Ok w0) (hM0 : Mem w0 ([(901, ixBox b bm), (902, ixMap bm m), (950, .many rs)] ++ K) w) :
    Calls Tryz.prog 10 #[.pointer (some ⟨b, 0, none⟩), e.val] w fun en w' => ∃ z : IxR, en = .returned (.int .i64 z.no) ∧ PutP w0 m e z ∧ Mem w0 ([(901, ixBox b bm), (902, ixMap bm z.m), (950, .many z.rs)] ++ K) w' := by
  have hoe := OkE.of he
  refine enterM_args (args := [.pointer (some ⟨b, 0, none⟩), .agg #[str e.id, .int .i64 e.at_, .int .i64 e.lv, .slice e.fa.A e.fa.q e.fa.c, .slice e.ta.A e.ta.q e.ta.c, .slice e.cr.A e.cr.q e.cr.c, str e.rel, str e.us, .int .i64 e.wt]]) (F := _) hM0 Tryz.func10 rfl Tryz.ntmps10 rfl rfl ?_
  intro Rb hRb hRn
  refine tx ?_
  refine S_box 3 3 rfl rfl rfl rfl rfl ?_
  intro b3
  refine sr 1 ?_
  refine sgs ?_
  refine tx ?_
  refine s1 (yA 3 rfl Tryz.underlying31 sz31) ?_
  refine s1 (y_call rfl rfl rfl cf44 (fun _ w hM => Check_any e w (he.below hM.below))) ?_
  refine sr 1 ?_
  refine sgx ?_
  refine sr 2 ?_
  refine sgo ?_
  refine T_cond rfl ?_ ?_ <;> intro h11
  · skip
    have h11 : ¬ evNo e = 0 := by simpa using h11
    refine tx ?_
    refine sr 2 ?_
    refine sgo ?_
    refine tr1 hRb fun w hM => ?_
    exact ⟨⟨m, rs, evNo e⟩, rfl, ⟨by rw [putNo, if_pos h11], hix, fun _ => rfl, fun h => absurd h h11⟩, hM.keep (ks := [(0, 999)]) (by repeat (first | exact kl_rest (by assumption) rfl | (apply kl_in; focus rfl))) _ ⟨rfl, rfl, rfl, trivial⟩⟩
  have h11 : evNo e = 0 := by simpa using h11
  have hle0 : LenE e := LenE.of h11 hoe
  refine kgs ?_
  refine T_seq ?_
  refine T_perm [0, 1, 2, 3, 4, 5, 6, 7, 8, 9, 10, 11, 12] [true, true, true, true, true, true, true, true, true, true, false, false, true] [0, 1, 3, 7, 0, 16, 63, 127, 255, 255, 0, 1535, 4095] [(3, [901]), (5, [3]), (6, [902])] (by kernel_rfl) (by kernel_rfl) (by kernel_rfl) rfl (by kernel_rfl) ?_
  refine Rf_ 0 14 rfl rfl rfl rfl rfl _ trivial (Y.z (y_move rfl rfl) rfl) ?_
  refine Rf_ 1 15 rfl rfl rfl rfl rfl _ trivial (Z.of (z_nilCheck rfl rfl)) ?_
  refine Rf_ 2 16 rfl rfl rfl rfl rfl _ trivial (Y.z (yF fa89_0) rfl) ?_
  refine Rf_ 3 17 rfl rfl rfl rfl rfl _ ⟨rfl, trivial⟩ (Y.z (yL 901 Tryz.underlying87) rfl) ?_
  refine Rf_ 4 18 rfl rfl rfl rfl rfl _ trivial (Y.z (yF fa31_0) rfl) ?_
  refine Rf_ 5 19 rfl rfl rfl rfl rfl _ ⟨rfl, trivial⟩ (Y.z (yL 3 Tryz.underlying9) rfl) ?_
  refine Rf_ 6 20 rfl rfl rfl rfl rfl _ ⟨rfl, trivial⟩ (Y.z (y_as (v' := .tuple #[(geI m e.id).val, .bool (hasI m e.id)]) (by rw [mgetB]; exact congrArg (fun v => Value.tuple #[v, .bool (hasI m e.id)]) (mgetV m e.id)) (y_lookup2 902 (enc := fun l : List UInt8 => str l) rfl rfl rfl rfl Tryz.underlying87 Tryz.underlying9 rfl same_str z31)) rfl) ?_
  refine Rf_ 7 13 rfl rfl rfl rfl rfl _ trivial (Y.z (y_move rfl rfl) rfl) ?_
  refine Rf_ 8 21 rfl rfl rfl rfl rfl _ trivial (Y.z (y_extract rfl rfl rfl) rfl) ?_
  refine Rf_ 9 22 rfl rfl rfl rfl rfl _ trivial (Y.z (y_extract rfl rfl rfl) rfl) ?_
  refine R_chain 10 rfl rfl ?_
  refine S_alloc 6 6 rfl rfl rfl rfl z31 ?_
  intro b6
  refine R_next ⟨.inr ⟨rfl, trivial⟩, .inr ⟨rfl, trivial⟩, .inr ⟨rfl, trivial⟩, trivial⟩ ?_
  refine R_chain 11 rfl rfl ?_
  refine S_store 6 rfl rfl rfl rfl rfl rfl sz31 rfl rfl ?_
  refine R_next ⟨.inl rfl, .inl rfl, .inl rfl, trivial⟩ ?_
  refine Rf_ 12 7 rfl rfl rfl rfl rfl _ trivial (Y.z (y_assign rfl rfl) rfl) ?_
  refine R_go (fun _ _ h => h) ?_
  refine tx ?_
  refine sr 3 ?_
  refine sg rfl (y_move rfl rfl) ?_
  refine sg rfl (y_nilCheck rfl rfl) ?_
  refine sg rfl (yF fa89_0) ?_
  refine sg rfl (yL 901 Tryz.underlying87) ?_
  refine sg rfl (y_len_map 902 rfl rfl rfl Tryz.underlying87) ?_
  refine sg rfl (y_bin rfl rfl rfl (fun _ => b_geq)) ?_
  refine s1 (y_and rfl rfl rfl) ?_
  refine sgo ?_
  refine T_cond rfl ?_ ?_ <;> intro h32
  · skip
    have h32 : hasI m e.id = false ∧ 2000 ≤ m.length := by simp at h32; exact ⟨h32.1, by omega⟩
    refine tx ?_
    refine sr 1 ?_
    refine sgo ?_
    refine tr1 hRb fun w hM => ?_
    exact ⟨⟨m, rs, 12⟩, rfl, ⟨by rw [putNo, if_neg (by simpa using h11), if_pos h32], hix, fun _ => rfl, fun h => absurd h (show (12 : Int) ≠ 0 by decide)⟩, hM.keep (ks := [(0, 999)]) (by repeat (first | exact kl_rest (by assumption) rfl | (apply kl_in; focus rfl))) _ ⟨rfl, rfl, rfl, trivial⟩⟩
  have h32 : ¬ (hasI m e.id = false ∧ 2000 ≤ m.length) := fun hh => by simp at h32; have := h32 hh.1; omega
  refine kgs ?_
  refine T_perm [0, 1, 2, 3, 4, 5, 6, 7, 8] [true, true, true, true, true, true, true, false, false] [0, 1, 3, 7, 0, 16, 0, 64, 255] [(3, [901]), (5, [3]), (6, [3])] (by kernel_rfl) (by kernel_rfl) (by kernel_rfl) rfl (by kernel_rfl) ?_
  refine Rf_ 0 33 rfl rfl rfl rfl rfl _ trivial (Y.z (y_move rfl rfl) rfl) ?_
  refine Rf_ 1 34 rfl rfl rfl rfl rfl _ trivial (Z.of (z_nilCheck rfl rfl)) ?_
  refine Rf_ 2 35 rfl rfl rfl rfl rfl _ trivial (Y.z (yF fa89_0) rfl) ?_
  refine Rf_ 3 36 rfl rfl rfl rfl rfl _ ⟨rfl, trivial⟩ (Y.z (yL 901 Tryz.underlying87) rfl) ?_
  refine Rf_ 4 37 rfl rfl rfl rfl rfl _ trivial (Y.z (yF fa31_0) rfl) ?_
  refine Rf_ 5 38 rfl rfl rfl rfl rfl _ ⟨rfl, trivial⟩ (Y.z (yL 3 Tryz.underlying9) rfl) ?_
  refine Rf_ 6 39 rfl rfl rfl rfl rfl _ ⟨rfl, trivial⟩ (Y.z (yA 3 rfl Tryz.underlying31 sz31) rfl) ?_
  refine R_chain 7 rfl rfl ?_
  refine S_callN 40 [] [(8, 908), (900, 960), (35, 935), (39, 939)] (X := CopyR) rfl rfl rfl rfl rfl rfl rfl cf45 rfl (fun z => .agg #[str e.id, .int .i64 e.at_, .int .i64 e.lv, .slice z.A e.fa.q z.c, .slice z.B e.ta.q z.b, .slice z.D e.cr.q z.d, str e.rel, str e.us, .int .i64 e.wt]) (fun z => z.gs.map Flt.cont = e.fa.l.map Flt.cont ∧ (∀ f ∈ z.gs, f.fr.q = f.fr.l.length) ∧ z.rs = z.gs.map frRow ∧ DisF z.gs) (fun z => z.L e) (fun _ => rfl) (fun _ => rfl) (fun K1 hK1 w hM => CopyD_any hK1 e w he ⟨hle0.fq.1, hle0.tq.1, hle0.cq.1, fun f hf => (hle0.fa f hf).2.1⟩ hM) ?_
  rintro z ⟨hz1, hz2, hz3, hz4⟩
  have hce : ContE (z.evt e) e := ⟨rfl, rfl, rfl, rfl, rfl, rfl, hz1, rfl, rfl, rfl, rfl, rfl⟩
  have hfe : FitE (z.evt e) := hz2
  have hoz : OkE (z.evt e) := hoe.cont hce hfe
  have hev1 : evNo (z.evt e) = 0 := (evNo_same hce hfe hoe.fit).trans h11
  refine R_next ⟨.inr ⟨rfl, trivial⟩, .inr ⟨rfl, trivial⟩, .inl rfl, trivial⟩ ?_
  refine R_chain 8 rfl rfl ?_
  refine S_mapUpdate 902 (enc := fun l : List UInt8 => str l) rfl rfl rfl rfl rfl rfl rfl Tryz.underlying87 Tryz.underlying9 rfl same_str fits_str (mput_I m (z.evt e)) ?_
  refine R_next ⟨.inl rfl, .inl rfl, .inl rfl, trivial⟩ ?_
  refine R_go (fun _ _ h => h) ?_
  refine tx ?_
  refine sr 1 ?_
  refine sgo ?_
  refine tr1 hRb fun w hM => ?_
  have hM := hM.joinK (ks := [(950, 950), (960, 960)]) (m := 950) (i := 960) rfl rfl rfl rfl (by repeat (first | exact kl_nil | exact kl_rest (by assumption) rfl | (apply kl_in; focus rfl) | (apply kl_out; focus rfl)))
  have hM := hM.bankK (ks := [(950, 950), (908, 908)]) (m := 950) (i := 908) rfl rfl rfl (by repeat (first | exact kl_nil | exact kl_rest (by assumption) rfl | (apply kl_in; focus rfl) | (apply kl_out; focus rfl))) rfl
  have hM := hM.bankK (ks := [(950, 950), (935, 935)]) (m := 950) (i := 935) rfl rfl rfl (by repeat (first | exact kl_nil | exact kl_rest (by assumption) rfl | (apply kl_in; focus rfl) | (apply kl_out; focus rfl))) rfl
  have hM := hM.bankK (ks := [(950, 950), (939, 939)]) (m := 950) (i := 939) rfl rfl rfl (by repeat (first | exact kl_nil | exact kl_rest (by assumption) rfl | (apply kl_in; focus rfl) | (apply kl_out; focus rfl))) rfl
  have hno : putNo m e = 0 := by rw [putNo, if_neg (by simpa using h11), if_neg h32]
  exact ⟨⟨putI m (z.evt e), ixRows rs (z.evt e), 0⟩, rfl, ⟨hno.symm, hix.new hoz hev1 (putNo_0 hno).2, fun h => absurd rfl h, fun _ => ⟨_, hce, rfl⟩⟩, hM.keep (ks := [(0, 999)]) (by repeat (first | exact kl_rest (by assumption) rfl | (apply kl_in; focus rfl))) _ ⟨rfl, rfl, by rw [hz3]; rfl, trivial⟩⟩
end Go.Proofs.YtekbcbjimajnfaaGreatDoor
end
section
namespace Go.Proofs.YtekbcbjimajnfaaGreatDoor
set_option linter.unusedSimpArgs false
set_option linter.unusedVariables false
set_option maxRecDepth 20000
open Go.RowKit Go.Eng
def cmpJ (x y : Int) : Int := if x < y then -1 else if y < x then 1 else 0
def cmpB (x y : List UInt8) : Int := if Op.bytesLess x y = true then -1 else if x = y then 0 else 1
theorem nanI_any (x : Int) (w : World) : Calls Tryz.prog 98 #[.int .i64 x] w fun e w' => e = .returned (.bool false) ∧ Below w.heap.size w w' := by
  refine enter_args (args := [.int .i64 x]) (F := _) Tryz.func98 rfl Tryz.ntmps98 rfl rfl ?_
  intro Rb hRb hRn
  refine tx ?_
  refine sr 1 ?_
  refine sgx ?_
  refine sr 4 ?_
  refine sgo ?_
  refine tr1 hRb fun w hM => ?_
  exact ⟨by simp, hM.below⟩
theorem nanB_any (x : List UInt8) (w : World) : Calls Tryz.prog 104 #[str x] w fun e w' => e = .returned (.bool false) ∧ Below w.heap.size w w' := by
  refine enter_args (args := [str x]) (F := _) Tryz.func104 rfl Tryz.ntmps104 rfl rfl ?_
  intro Rb hRb hRn
  refine tx ?_
  refine sr 1 ?_
  refine sgx ?_
  refine sr 2 ?_
  refine s1 (y_bin rfl rfl rfl (fun _ => b_neqs)) ?_
  refine sr 1 ?_
  refine sgo ?_
  refine tr1 hRb fun w hM => ?_
  exact ⟨by simp, hM.below⟩
theorem cmpJ_any (x y : Int) (w : World) : Calls Tryz.prog 59 #[.int .i64 x, .int .i64 y] w fun e w' => e = .returned (.int .i64 (cmpJ x y)) ∧ Below w.heap.size w w' := by
  refine enter_args (args := [.int .i64 x, .int .i64 y]) (F := _) Tryz.func59 rfl Tryz.ntmps59 rfl rfl ?_
  intro Rb hRb hRn
  refine tx ?_
  refine sr 1 ?_
  refine sgx ?_
  refine sr 1 ?_
  refine s1 (y_call rfl rfl rfl cf98 (fun _ w _ => nanI_any _ w)) ?_
  refine sr 1 ?_
  refine sgx ?_
  refine sr 1 ?_
  refine s1 (y_call rfl rfl rfl cf98 (fun _ w _ => nanI_any _ w)) ?_
  refine sr 1 ?_
  refine sgs ?_
  refine tx ?_
  refine sr 1 ?_
  refine sgo ?_
  refine T_cond rfl ?_ ?_ <;> intro h11
  · skip
    cases h11
  refine kgs ?_
  refine tx ?_
  refine sr 1 ?_
  refine sgo ?_
  refine T_cond rfl ?_ ?_ <;> intro h13
  · skip
    cases h13
  refine kgs ?_
  refine tx ?_
  refine sr 3 ?_
  refine sgo ?_
  refine T_cond rfl ?_ ?_ <;> intro h16
  · try simp only [nrm] at h16
    refine tx ?_
    refine sr 1 ?_
    refine sgo ?_
    refine tr1 hRb fun w hM => ?_
    exact ⟨by rw [cmpJ, if_pos (by omega)], hM.below⟩
  try simp only [nrm] at h16
  refine kgs ?_
  refine tx ?_
  refine sr 3 ?_
  refine sgo ?_
  refine T_cond rfl ?_ ?_ <;> intro h19
  · try simp only [nrm] at h19
    refine tx ?_
    refine sr 1 ?_
    refine sgo ?_
    refine tr1 hRb fun w hM => ?_
    exact ⟨by rw [cmpJ, if_neg (by omega), if_pos (by omega)], hM.below⟩
  try simp only [nrm] at h19
  refine kgx ?_
  refine sr 1 ?_
  refine sgo ?_
  refine tr1 hRb fun w hM => ?_
  exact ⟨by rw [cmpJ, if_neg (by omega), if_neg (by omega)], hM.below⟩
theorem cmpB_any (x y : List UInt8) (w : World) : Calls Tryz.prog 66 #[str x, str y] w fun e w' => e = .returned (.int .i64 (cmpB x y)) ∧ Below w.heap.size w w' := by
  refine enter_args (args := [str x, str y]) (F := _) Tryz.func66 rfl Tryz.ntmps66 rfl rfl ?_
  intro Rb hRb hRn
  refine tx ?_
  refine sr 1 ?_
  refine sgx ?_
  refine sr 1 ?_
  refine s1 (y_call rfl rfl rfl cf104 (fun _ w _ => nanB_any _ w)) ?_
  refine sr 1 ?_
  refine sgx ?_
  refine sr 1 ?_
  refine s1 (y_call rfl rfl rfl cf104 (fun _ w _ => nanB_any _ w)) ?_
  refine sr 1 ?_
  refine sgs ?_
  refine tx ?_
  refine sr 1 ?_
  refine sgo ?_
  refine T_cond rfl ?_ ?_ <;> intro h11
  · skip
    cases h11
  refine kgs ?_
  refine tx ?_
  refine sr 1 ?_
  refine sgo ?_
  refine T_cond rfl ?_ ?_ <;> intro h13
  · skip
    cases h13
  refine kgs ?_
  refine tx ?_
  refine sr 2 ?_
  refine s1 (y_bin rfl rfl rfl (fun _ => b_lsss)) ?_
  refine sgo ?_
  refine T_cond rfl ?_ ?_ <;> intro h16
  · skip
    refine tx ?_
    refine sr 1 ?_
    refine sgo ?_
    refine tr1 hRb fun w hM => ?_
    exact ⟨by rw [cmpB, if_pos h16], hM.below⟩
  refine kgs ?_
  refine tx ?_
  refine sr 2 ?_
  refine s1 (y_bin rfl rfl rfl (fun _ => b_gtrs)) ?_
  refine sgo ?_
  refine T_cond rfl ?_ ?_ <;> intro h19
  · skip
    refine tx ?_
    refine sr 1 ?_
    refine sgo ?_
    refine tr1 hRb fun w hM => ?_
    exact ⟨by rw [cmpB, if_neg (by simp [h16]), if_neg (by simpa [h16] using h19)], hM.below⟩
  refine kgx ?_
  refine sr 1 ?_
  refine sgo ?_
  refine tr1 hRb fun w hM => ?_
  exact ⟨by rw [cmpB, if_neg (by simp [h16]), if_pos (by simpa [h16] using h19)], hM.below⟩
end Go.Proofs.YtekbcbjimajnfaaGreatDoor
end
section
namespace Go.Proofs.YtekbcbjimajnfaaGreatDoor
set_option linter.unusedSimpArgs false
set_option linter.unusedVariables false
set_option maxRecDepth 20000
open Go.RowKit Go.Eng
structure Cmp3 {α : Type} (f : α → α → Int) : Prop where
  anti : ∀ a b, f b a = -f a b
  tr : ∀ a b c, f a b ≤ 0 → f b c ≤ 0 → f a c ≤ 0
section
variable {α β : Type} {f g : α → α → Int}
theorem Cmp3.refl (h : Cmp3 f) (a : α) : f a a = 0 := by have := h.anti a a; omega
theorem Cmp3.lt_le (h : Cmp3 f) {a b c : α} (h1 : f a b < 0) (h2 : f b c ≤ 0) : f a c < 0 := by
  by_cases h3 : f a c < 0
  · exact h3
  · have h4 := h.anti a c
    have h5 := h.tr b c a h2 (by omega)
    have h6 := h.anti a b
    omega
theorem Cmp3.le_lt (h : Cmp3 f) {a b c : α} (h1 : f a b ≤ 0) (h2 : f b c < 0) : f a c < 0 := by
  by_cases h3 : f a c < 0
  · exact h3
  · have h4 := h.anti a c
    have h5 := h.tr c a b (by omega) h1
    have h6 := h.anti b c
    omega
theorem Cmp3.zero (h : Cmp3 f) {a b c : α} (h1 : f a b = 0) (h2 : f b c = 0) : f a c = 0 := by
  have h3 := h.tr a b c (by omega) (by omega)
  have h4 := h.anti a b
  have h5 := h.anti b c
  have h6 := h.tr c b a (by omega) (by omega)
  have h7 := h.anti a c
  omega
theorem Cmp3.comap (h : Cmp3 f) (k : β → α) : Cmp3 fun x y => f (k x) (k y) := ⟨fun _ _ => h.anti _ _, fun _ _ _ => h.tr _ _ _⟩
theorem cmp3_lex (hf : Cmp3 f) (hg : Cmp3 g) : Cmp3 fun a b => if f a b ≠ 0 then f a b else g a b := by
  constructor
  · intro a b
    have h1 := hf.anti a b
    have h2 := hg.anti a b
    show (if f b a ≠ 0 then f b a else g b a) = -(if f a b ≠ 0 then f a b else g a b)
    by_cases h : f a b = 0
    · rw [if_neg (by omega), if_neg (by omega)]; exact h2
    · rw [if_pos (by omega), if_pos h]; exact h1
  · intro a b c h1 h2
    have h1 : (if f a b ≠ 0 then f a b else g a b) ≤ 0 := h1
    have h2 : (if f b c ≠ 0 then f b c else g b c) ≤ 0 := h2
    show (if f a c ≠ 0 then f a c else g a c) ≤ 0
    by_cases ha : f a b = 0
    · rw [if_neg (by omega)] at h1
      by_cases hb : f b c = 0
      · rw [if_neg (by omega)] at h2
        rw [if_neg (by have := hf.zero ha hb; omega)]; exact hg.tr _ _ _ h1 h2
      · rw [if_pos hb] at h2
        have := hf.le_lt (a := a) (b := b) (c := c) (by omega) (by omega)
        rw [if_pos (by omega)]; omega
    · rw [if_pos ha] at h1
      have hb : f b c ≤ 0 := by
        by_cases hb : f b c = 0
        · omega
        · rw [if_pos hb] at h2; exact h2
      have := hf.lt_le (a := a) (b := b) (c := c) (by omega) hb
      rw [if_pos (by omega)]; omega
end
theorem cmp3_J : Cmp3 cmpJ := by
  constructor
  · intro a b; unfold cmpJ; split <;> split <;> (try split) <;> omega
  · intro a b c h1 h2
    unfold cmpJ at *
    split at h1 <;> split at h2 <;> split <;> (try split) <;> (try split at h1) <;> (try split at h2) <;> omega
theorem bl_irr (a : List UInt8) : ¬ a < a := List.lt_irrefl a
theorem bl_tr {a b c : List UInt8} (h1 : a < b) (h2 : b < c) : a < c := List.lt_trans h1 h2
theorem bl_tot {a b : List UInt8} (h1 : ¬ a < b) (h2 : ¬ b < a) : a = b := List.le_antisymm (List.not_lt.1 h2) (List.not_lt.1 h1)
theorem cmpB_lt (a b : List UInt8) : cmpB a b = if a < b then -1 else if a = b then 0 else 1 := by
  unfold cmpB
  rw [Go.Proofs.bytesLess_eq]
  simp only [decide_eq_true_eq]
theorem cmpB_zero {a b : List UInt8} (h : cmpB a b = 0) : a = b := by
  rw [cmpB_lt] at h
  split at h
  · omega
  · split at h
    · assumption
    · omega
theorem cmpB_le {a b : List UInt8} : cmpB a b ≤ 0 ↔ ¬ b < a := by
  rw [cmpB_lt]
  by_cases h1 : a < b
  · rw [if_pos h1]; exact ⟨fun _ h => bl_irr _ (bl_tr h1 h), fun _ => by omega⟩
  · rw [if_neg h1]
    by_cases h2 : a = b
    · rw [if_pos h2]; subst h2; exact ⟨fun _ => bl_irr _, fun _ => by omega⟩
    · rw [if_neg h2]; exact ⟨fun h => by omega, fun h => absurd (bl_tot h1 h) h2⟩
theorem cmp3_B : Cmp3 cmpB := by
  constructor
  · intro a b
    rw [cmpB_lt, cmpB_lt]
    by_cases h1 : a < b
    · rw [if_pos h1, if_neg (fun h => bl_irr _ (bl_tr h1 h)), if_neg (fun e => by subst e; exact bl_irr _ h1)]; rfl
    · by_cases h2 : a = b
      · subst h2; rw [if_neg h1, if_pos rfl]; rfl
      · have h3 : b < a := by
          by_cases h3 : b < a
          · exact h3
          · exact absurd (bl_tot h1 h3) h2
        rw [if_pos h3, if_neg h1, if_neg h2]
  · intro a b c h1 h2
    rw [cmpB_le] at *
    intro h
    by_cases h3 : b < c
    · exact h1 (bl_tr h3 h)
    · rw [bl_tot h3 h2] at h1; exact h1 h
section
variable {α : Type} {f : α → α → Int}
theorem swo3 (h : Cmp3 f) : Go.Sort.SWO (Go.Proofs.ltOf f) := by
  refine ⟨fun a => ?_, fun a b c h1 h2 => ?_, fun a b c h1 h2 => ?_⟩
  · simp only [Go.Proofs.ltOf, decide_eq_false_iff_not]; have := h.refl a; omega
  · simp only [Go.Proofs.ltOf, decide_eq_true_eq] at h1 h2 ⊢
    exact h.lt_le h1 (by omega)
  · simp only [Go.Proofs.ltOf, decide_eq_false_iff_not] at h1 h2 ⊢
    have a1 := h.anti a b
    have a2 := h.anti b c
    have a3 := h.anti a c
    have := h.tr c b a (by omega) (by omega)
    omega
/-- a list sorted and another one, a permutation of it, sorted as well: where none but equal elements tie they are one list -/
theorem sorted_uniq {R : α → α → Prop} : ∀ {l m : List α}, l.Perm m → l.Pairwise R → m.Pairwise R → (∀ x ∈ l, ∀ y ∈ l, R x y → R y x → x = y) → l = m
  | [], m, hp, _, _, _ => (List.Perm.eq_nil hp.symm).symm
  | a :: r, m, hp, hl, hm, ha => by
    cases m with
    | nil => exact absurd hp.eq_nil (by simp)
    | cons b s =>
      have e : a = b := by
        have h1 : a ∈ b :: s := hp.subset (List.mem_cons_self ..)
        have h2 : b ∈ a :: r := hp.symm.subset (List.mem_cons_self ..)
        rcases List.mem_cons.1 h1 with h1 | h1
        · exact h1
        · rcases List.mem_cons.1 h2 with h2 | h2
          · exact h2.symm
          · exact ha a (List.mem_cons_self ..) b (List.mem_cons_of_mem _ h2) ((List.pairwise_cons.1 hl).1 b h2) ((List.pairwise_cons.1 hm).1 a h1)
      subst e
      rw [sorted_uniq ((List.perm_cons a).1 hp) (List.pairwise_cons.1 hl).2 (List.pairwise_cons.1 hm).2 fun x hx y hy => ha x (List.mem_cons_of_mem _ hx) y (List.mem_cons_of_mem _ hy)]
end
theorem ltOf_f {α : Type} {f : α → α → Int} {x y : α} (h : Go.Proofs.ltOf f y x = false) (hf : Cmp3 f) : f x y ≤ 0 := by
  simp only [Go.Proofs.ltOf, decide_eq_false_iff_not] at h
  have := hf.anti x y
  omega
end Go.Proofs.YtekbcbjimajnfaaGreatDoor
end
section
namespace Go.Proofs.YtekbcbjimajnfaaGreatDoor
set_option linter.unusedSimpArgs false
set_option linter.unusedVariables false
set_option maxRecDepth 20000
section
variable {α : Type}
theorem set_mid {A B : List α} {x y : α} {n : Nat} (h : n = A.length) : (A ++ x :: B).set n y = A ++ y :: B := by
  subst h
  simp
theorem at_mid {A B : List α} {x : α} {n : Nat} (h : n = A.length) : (A ++ x :: B)[n]? = some x := by
  subst h
  simp
/-- x stands in P at place t, between X and Y -/
def insL (X P : List α) (x : α) (t : Nat) (Y : List α) : List α := X ++ (P.take t ++ x :: P.drop t) ++ Y
theorem insL_eq {X P Y : List α} {x : α} {t : Nat} : insL X P x t Y = (X ++ P.take t) ++ x :: (P.drop t ++ Y) := by
  simp [insL]
theorem insL_len {X P Y : List α} {x : α} {t : Nat} : (insL X P x t Y).length = X.length + P.length + 1 + Y.length := by
  simp only [insL, List.length_append, List.length_cons, List.length_take, List.length_drop]
  omega
theorem insL_at {X P Y : List α} {x : α} {t n : Nat} (ht : t ≤ P.length) (hn : n = X.length + t) : (insL X P x t Y)[n]? = some x := by
  rw [insL_eq]
  exact at_mid (by rw [List.length_append, List.length_take]; omega)
theorem drop_at {P : List α} {y : α} {t : Nat} (h : P[t]? = some y) : P.drop t = y :: P.drop (t + 1) := by
  obtain ⟨h1, h2⟩ := List.getElem?_eq_some_iff.1 h
  rw [← h2]; exact List.drop_eq_getElem_cons h1
theorem take_snoc {P : List α} {y : α} {t : Nat} (h : P[t]? = some y) : P.take (t + 1) = P.take t ++ [y] := by
  obtain ⟨h1, h2⟩ := List.getElem?_eq_some_iff.1 h
  rw [← h2, List.take_succ_eq_append_getElem h1]
theorem insL_next {X P Y : List α} {x y : α} {t n : Nat} (h : P[t]? = some y) (hn : n = X.length + t + 1) : (insL X P x t Y)[n]? = some y := by
  have h1 := (List.getElem?_eq_some_iff.1 h).1
  rw [insL_eq, drop_at h, show (X ++ P.take t) ++ x :: (y :: P.drop (t + 1) ++ Y) = (X ++ P.take t ++ [x]) ++ y :: (P.drop (t + 1) ++ Y) by simp]
  exact at_mid (by simp only [List.length_append, List.length_take, List.length_cons, List.length_nil]; omega)
theorem insL_prev {X P Y : List α} {x y : α} {t n : Nat} (h : P[t]? = some y) (hn : n = X.length + t) : (insL X P x (t + 1) Y)[n]? = some y := by
  have h1 := (List.getElem?_eq_some_iff.1 h).1
  rw [insL_eq, take_snoc h, show (X ++ (P.take t ++ [y])) ++ x :: (P.drop (t + 1) ++ Y) = (X ++ P.take t) ++ y :: (x :: (P.drop (t + 1) ++ Y)) by simp]
  exact at_mid (by simp only [List.length_append, List.length_take]; omega)
theorem insL_hi {X P Y : List α} {x y : α} {t i n : Nat} (ht : t ≤ i) (h : P[i]? = some y) (hn : n = X.length + i + 1) : (insL X P x t Y)[n]? = some y := by
  have h1 := (List.getElem?_eq_some_iff.1 h).1
  have hl : (P.take t).length = t := by rw [List.length_take]; omega
  rw [insL, List.append_assoc, List.getElem?_append_right (by omega), List.getElem?_append_left (by simp only [List.length_append, List.length_cons, List.length_drop, hl]; omega), List.getElem?_append_right (by omega), hl,
    show n - X.length - t = (i - t) + 1 by omega, List.getElem?_cons_succ, List.getElem?_drop, show t + (i - t) = i by omega, h]
theorem insL_lo {X P Y : List α} {x y : α} {t i n : Nat} (ht : i < t) (h : P[i]? = some y) (hn : n = X.length + i) : (insL X P x t Y)[n]? = some y := by
  have h1 := (List.getElem?_eq_some_iff.1 h).1
  have hl : i < (P.take t).length := by rw [List.length_take]; omega
  rw [insL, List.append_assoc, List.getElem?_append_right (by omega), List.getElem?_append_left (by rw [List.length_append]; omega), List.getElem?_append_left (by omega), List.getElem?_take, if_pos (by omega), show n - X.length = i by omega, h]
theorem insL_fold {X P D Y : List α} {x : α} {t : Nat} : insL X P x t (D ++ Y) = X ++ (P.take t ++ x :: P.drop t) ++ D ++ Y := by
  simp [insL]
/-- the elements at t and t + 1 change places: x goes up -/
theorem insL_up {X P Y : List α} {x y : α} {t n k : Nat} (h : P[t]? = some y) (hn : n = X.length + t) (hk : k = X.length + t + 1) : ((insL X P x t Y).set n y).set k x = insL X P x (t + 1) Y := by
  have h1 := (List.getElem?_eq_some_iff.1 h).1
  have hl : (X ++ P.take t).length = n := by rw [List.length_append, List.length_take]; omega
  rw [insL_eq, insL_eq, drop_at h, take_snoc h, set_mid hl.symm, show (X ++ P.take t) ++ y :: (y :: P.drop (t + 1) ++ Y) = (X ++ P.take t ++ [y]) ++ y :: (P.drop (t + 1) ++ Y) by simp,
    set_mid (by rw [List.length_append, hl]; simp only [List.length_cons, List.length_nil]; omega)]
  simp
/-- the elements at t + 1 and t change places: x goes down -/
theorem insL_dn {X P Y : List α} {x y : α} {t n k : Nat} (h : P[t]? = some y) (hn : n = X.length + t) (hk : k = X.length + t + 1) : ((insL X P x (t + 1) Y).set k y).set n x = insL X P x t Y := by
  have h1 := (List.getElem?_eq_some_iff.1 h).1
  have hl : (X ++ P.take t).length = n := by rw [List.length_append, List.length_take]; omega
  rw [insL_eq, insL_eq, drop_at h, take_snoc h, set_mid (by simp only [List.length_append, List.length_take, List.length_cons, List.length_nil]; omega),
    show (X ++ (P.take t ++ [y])) ++ y :: (P.drop (t + 1) ++ Y) = (X ++ P.take t) ++ y :: (y :: (P.drop (t + 1) ++ Y)) by simp, set_mid hl.symm]
  simp
theorem ins_perm {P : List α} {x : α} {t : Nat} : (P.take t ++ x :: P.drop t).Perm (x :: P) :=
  List.perm_middle.trans (by rw [List.take_append_drop])
variable {R : α → α → Prop}
theorem last_of {U : List α} (hU : U.Pairwise R) {l x : α} {k : Nat} (hk : U[k]? = some l) {i : Nat} (hi : i ≤ k) (hx : U[i]? = some x) : x = l ∨ R x l := by
  rcases Nat.eq_or_lt_of_le hi with rfl | h
  · rw [hk] at hx; exact .inl (Option.some.inj hx).symm
  · obtain ⟨h1, rfl⟩ := List.getElem?_eq_some_iff.1 hk
    obtain ⟨h2, rfl⟩ := List.getElem?_eq_some_iff.1 hx
    exact .inr (List.pairwise_iff_getElem.1 hU i k h2 h1 h)
theorem mem_take_at {U : List α} {x : α} {k : Nat} (h : x ∈ U.take k) : ∃ i, i < k ∧ U[i]? = some x := by
  obtain ⟨i, hi⟩ := List.mem_iff_getElem?.1 h
  rw [List.getElem?_take] at hi
  split at hi
  · exact ⟨i, ‹_›, hi⟩
  · cases hi
theorem mem_drop_at {U : List α} {x : α} {k : Nat} (h : x ∈ U.drop k) : ∃ i, k ≤ i ∧ U[i]? = some x := by
  obtain ⟨i, hi⟩ := List.mem_iff_getElem?.1 h
  rw [List.getElem?_drop] at hi
  exact ⟨k + i, by omega, hi⟩
theorem ins_sorted (tr : ∀ x y z, R x y → R y z → R x z) {P : List α} (hP : P.Pairwise R) {x : α} {t : Nat} (ht : t ≤ P.length) (h1 : ∀ y, 0 < t → P[t - 1]? = some y → R y x) (h2 : ∀ y, P[t]? = some y → R x y) : (P.take t ++ x :: P.drop t).Pairwise R := by
  have hlo : ∀ y ∈ P.take t, R y x := fun y hy => by
    obtain ⟨i, hi, hy⟩ := mem_take_at hy
    obtain ⟨l, hl⟩ : ∃ l, P[t - 1]? = some l := ⟨P[t - 1]'(by omega), List.getElem?_eq_getElem (by omega)⟩
    rcases last_of hP hl (by omega : i ≤ t - 1) hy with rfl | h
    · exact h1 _ (by omega) hl
    · exact tr _ _ _ h (h1 l (by omega) hl)
  have hhi : ∀ y ∈ P.drop t, R x y := fun y hy => by
    obtain ⟨i, hi, hy⟩ := mem_drop_at hy
    obtain ⟨l, hl⟩ : ∃ l, P[t]? = some l := ⟨P[t]'(by have := (List.getElem?_eq_some_iff.1 hy).1; omega), List.getElem?_eq_getElem (by have := (List.getElem?_eq_some_iff.1 hy).1; omega)⟩
    rcases last_of hP hy hi hl with rfl | h
    · exact h2 _ hl
    · exact tr _ _ _ (h2 l hl) h
  rw [List.pairwise_append]
  refine ⟨hP.sublist (List.take_sublist _ _), List.pairwise_cons.2 ⟨hhi, hP.sublist (List.drop_sublist _ _)⟩, fun a ha b hb => ?_⟩
  rcases List.mem_cons.1 hb with rfl | hb
  · exact hlo a ha
  · exact tr _ _ _ (hlo a ha) (hhi b hb)
/-- two sorted rows U and V, each cut in two: all of the two first parts is ahead of all of the two last parts -/
theorem mrg_split (tr : ∀ x y z, R x y → R y z → R x z) {U V : List α} {s e : Nat} (hU : U.Pairwise R) (hV : V.Pairwise R) (hs : s ≤ U.length) (he : e ≤ V.length)
    (hA : ∀ x y, 0 < s → U[s - 1]? = some x → V[e]? = some y → R x y) (hB : ∀ x y, 0 < e → V[e - 1]? = some x → U[s]? = some y → R x y) : ∀ x ∈ U.take s ++ V.take e, ∀ y ∈ U.drop s ++ V.drop e, R x y := by
  have key : ∀ {U V : List α} {s e : Nat}, U.Pairwise R → V.Pairwise R → s ≤ U.length → (∀ x y, 0 < s → U[s - 1]? = some x → V[e]? = some y → R x y) → ∀ x ∈ U.take s, ∀ y ∈ V.drop e, R x y := by
    intro U V s e hU hV hs h x hx y hy
    obtain ⟨i, hi, hx⟩ := mem_take_at hx
    obtain ⟨j, hj, hy⟩ := mem_drop_at hy
    obtain ⟨l, hl⟩ : ∃ l, U[s - 1]? = some l := ⟨U[s - 1]'(by omega), List.getElem?_eq_getElem (by omega)⟩
    have hjl := (List.getElem?_eq_some_iff.1 hy).1
    obtain ⟨f, hf⟩ : ∃ f, V[e]? = some f := ⟨V[e]'(by omega), List.getElem?_eq_getElem (by omega)⟩
    have h0 := h l f (by omega) hl hf
    have h1 : R x f := by
      rcases last_of hU hl (by omega : i ≤ s - 1) hx with rfl | h
      · exact h0
      · exact tr _ _ _ h h0
    rcases last_of hV hy hj hf with rfl | h
    · exact h1
    · exact tr _ _ _ h1 h
  have own : ∀ {U : List α} {s : Nat}, U.Pairwise R → ∀ x ∈ U.take s, ∀ y ∈ U.drop s, R x y := by
    intro U s hU x hx y hy
    obtain ⟨i, hi, hx⟩ := mem_take_at hx
    obtain ⟨j, hj, hy⟩ := mem_drop_at hy
    obtain ⟨h1, rfl⟩ := List.getElem?_eq_some_iff.1 hx
    obtain ⟨h2, rfl⟩ := List.getElem?_eq_some_iff.1 hy
    exact List.pairwise_iff_getElem.1 hU i j h1 h2 (by omega)
  intro x hx y hy
  rcases List.mem_append.1 hx with hx | hx <;> rcases List.mem_append.1 hy with hy | hy
  · exact own hU x hx y hy
  · exact key hU hV hs hA x hx y hy
  · exact key hV hU he hB x hx y hy
  · exact own hV x hx y hy
theorem mrg_join {U V W1 W2 : List α} {s e : Nat} (h1 : W1.Perm (U.take s ++ V.take e)) (h2 : W2.Perm (U.drop s ++ V.drop e)) : (W1 ++ W2).Perm (U ++ V) := by
  refine (h1.append h2).trans ?_
  have : (U.take s ++ V.take e ++ (U.drop s ++ V.drop e)).Perm (U.take s ++ U.drop s ++ (V.take e ++ V.drop e)) := by
    simp only [List.append_assoc]
    refine List.Perm.append_left _ ?_
    rw [← List.append_assoc, ← List.append_assoc]
    exact List.Perm.append_right _ List.perm_append_comm
  rwa [List.take_append_drop, List.take_append_drop] at this
theorem mrg_sorted {W1 W2 T1 T2 : List α} (h1 : W1.Perm T1) (h2 : W2.Perm T2) (s1 : W1.Pairwise R) (s2 : W2.Pairwise R) (h : ∀ x ∈ T1, ∀ y ∈ T2, R x y) : (W1 ++ W2).Pairwise R :=
  List.pairwise_append.2 ⟨s1, s2, fun x hx y hy => h x (h1.mem_iff.1 hx) y (h2.mem_iff.1 hy)⟩
/-! ### Two rows change places -/
/-- the first i elements of U and V have changed places -/
def swR (X U M V Y : List α) (i : Nat) : List α := (X ++ V.take i) ++ (U.drop i ++ M ++ U.take i) ++ (V.drop i ++ Y)
theorem swR_0 {X U M V Y : List α} : swR X U M V Y 0 = X ++ U ++ M ++ V ++ Y := by simp [swR]
theorem swR_end {X U M V Y : List α} {i : Nat} (hU : U.length ≤ i) (hV : V.length ≤ i) : swR X U M V Y i = X ++ V ++ M ++ U ++ Y := by
  simp [swR, List.take_of_length_le hU, List.take_of_length_le hV, List.drop_eq_nil_of_le hU, List.drop_eq_nil_of_le hV]
theorem swR_len {X U M V Y : List α} {i : Nat} : (swR X U M V Y i).length = (X ++ U ++ M ++ V ++ Y).length := by
  simp only [swR, List.length_append, List.length_take, List.length_drop]; omega
section
variable {X U M V Y : List α} {u v : α} {i n k : Nat} (hu : U[i]? = some u) (hv : V[i]? = some v) (hn : n = X.length + i) (hk : k = X.length + U.length + M.length + i)
include hu hv
theorem swR_eq : swR X U M V Y i = (X ++ V.take i) ++ u :: ((U.drop (i + 1) ++ M ++ U.take i) ++ v :: (V.drop (i + 1) ++ Y)) := by
  rw [swR, drop_at hu, drop_at hv]; simp
include hn
theorem swR_at1 : (swR X U M V Y i)[n]? = some u := by
  have h1 := (List.getElem?_eq_some_iff.1 hv).1
  rw [swR_eq hu hv]
  exact at_mid (by rw [List.length_append, List.length_take]; omega)
omit hn
include hk
theorem swR_at2 : (swR X U M V Y i)[k]? = some v := by
  have h1 := (List.getElem?_eq_some_iff.1 hv).1
  have h2 := (List.getElem?_eq_some_iff.1 hu).1
  rw [swR_eq hu hv, show (X ++ V.take i) ++ u :: ((U.drop (i + 1) ++ M ++ U.take i) ++ v :: (V.drop (i + 1) ++ Y)) = ((X ++ V.take i) ++ u :: (U.drop (i + 1) ++ M ++ U.take i)) ++ v :: (V.drop (i + 1) ++ Y) by simp]
  exact at_mid (by simp only [List.length_append, List.length_take, List.length_cons, List.length_drop]; omega)
include hn
theorem swR_step : ((swR X U M V Y i).set n v).set k u = swR X U M V Y (i + 1) := by
  have h1 := (List.getElem?_eq_some_iff.1 hv).1
  have h2 := (List.getElem?_eq_some_iff.1 hu).1
  rw [swR_eq hu hv, set_mid (by rw [List.length_append, List.length_take]; omega), show (X ++ V.take i) ++ v :: ((U.drop (i + 1) ++ M ++ U.take i) ++ v :: (V.drop (i + 1) ++ Y)) = ((X ++ V.take i) ++ v :: (U.drop (i + 1) ++ M ++ U.take i)) ++ v :: (V.drop (i + 1) ++ Y) by simp,
    set_mid (by simp only [List.length_append, List.length_take, List.length_cons, List.length_drop]; omega), swR, take_snoc hu, take_snoc hv]
  simp
end
/-- what the compare function says of x, which stood ahead, and y -/
def Cmp (R : α → α → Prop) (cf : α → α → Int) (x y : α) : Prop := (cf y x < 0 → R y x) ∧ (¬ cf y x < 0 → R x y)
theorem cat_u {X U V Y : List α} {i n : Nat} {x : α} (h : U[i]? = some x) (hn : n = X.length + i) : (X ++ (U ++ V) ++ Y)[n]? = some x := by
  have h1 := (List.getElem?_eq_some_iff.1 h).1
  rw [List.append_assoc, List.getElem?_append_right (by omega), List.append_assoc, List.getElem?_append_left (by omega), show n - X.length = i by omega, h]
theorem cat_v {X U V Y : List α} {i n : Nat} {x : α} (h : V[i]? = some x) (hn : n = X.length + U.length + i) : (X ++ (U ++ V) ++ Y)[n]? = some x := by
  have h1 := (List.getElem?_eq_some_iff.1 h).1
  rw [List.append_assoc, List.getElem?_append_right (by omega), List.append_assoc, List.getElem?_append_right (by omega), List.getElem?_append_left (by omega), show n - X.length - U.length = i by omega, h]
theorem nil_or {U V : List α} {i e : Nat} (h : ¬ (i < U.length ∧ 0 < e)) : U.drop i ++ V.take e = V.take e ++ U.drop i := by
  rcases Nat.lt_or_ge i U.length with h1 | h1
  · have : e = 0 := by omega
    subst this; simp
  · rw [List.drop_eq_nil_of_le h1]; simp
/-! ### Blocks -/
def blk (k t : Nat) (l : List α) : List α := (l.drop (t * k)).take k
/-- l's blocks of k hold what l0's hold, and are sorted -/
def OkBlk (R : α → α → Prop) (k : Nat) (l l0 : List α) : Prop := ∀ t, (blk k t l).Perm (blk k t l0) ∧ (blk k t l).Pairwise R
theorem okBlk_nil {k : Nat} : OkBlk R k [] [] := fun t => by simp [blk]
theorem okBlk_app {k d : Nat} {D D0 W W0 : List α} (hd : D.length = d * k) (hl : D.length = D0.length) (h : OkBlk R k D D0) (hW : W.Perm W0) (hs : W.Pairwise R) (hWk : W.length ≤ k) : OkBlk R k (D ++ W) (D0 ++ W0) := fun t => by
  have hWl := hW.length_eq
  rcases Nat.lt_trichotomy t d with ht | ht | ht
  · have h1 : t * k + k ≤ d * k := by rw [← Nat.succ_mul]; exact Nat.mul_le_mul_right k ht
    have e1 : blk k t (D ++ W) = blk k t D := by
      unfold blk
      rw [List.drop_append_of_le_length (by omega), List.take_append_of_le_length (by rw [List.length_drop]; omega)]
    have e2 : blk k t (D0 ++ W0) = blk k t D0 := by
      unfold blk
      rw [List.drop_append_of_le_length (by omega), List.take_append_of_le_length (by rw [List.length_drop]; omega)]
    rw [e1, e2]
    exact h t
  · subst ht
    have e1 : blk k t (D ++ W) = W := by
      unfold blk
      rw [← hd, List.drop_left, List.take_of_length_le hWk]
    have e2 : blk k t (D0 ++ W0) = W0 := by
      unfold blk
      rw [← hd, hl, List.drop_left, List.take_of_length_le (by omega)]
    rw [e1, e2]
    exact ⟨hW, hs⟩
  · have h1 : d * k + k ≤ t * k := by rw [← Nat.succ_mul]; exact Nat.mul_le_mul_right k ht
    have e1 : blk k t (D ++ W) = [] := by
      unfold blk
      rw [List.drop_eq_nil_of_le (by rw [List.length_append]; omega), List.take_nil]
    have e2 : blk k t (D0 ++ W0) = [] := by
      unfold blk
      rw [List.drop_eq_nil_of_le (by rw [List.length_append]; omega), List.take_nil]
    rw [e1, e2]
    exact ⟨.refl _, .nil⟩
theorem okBlk_drop {k s : Nat} {E E0 : List α} (h : OkBlk R k E E0) : OkBlk R k (E.drop (s * k)) (E0.drop (s * k)) := fun t => by
  have e : ∀ l : List α, blk k t (l.drop (s * k)) = blk k (s + t) l := fun l => by
    unfold blk
    rw [List.drop_drop, Nat.add_mul]
  rw [e, e]
  exact h (s + t)
theorem okBlk_0 {k : Nat} {E E0 : List α} (h : OkBlk R k E E0) : (E.take k).Perm (E0.take k) ∧ (E.take k).Pairwise R := by simpa [blk] using h 0
theorem okBlk_1 {k : Nat} {E E0 : List α} (h : OkBlk R k E E0) : ((E.drop k).take k).Perm ((E0.drop k).take k) ∧ ((E.drop k).take k).Pairwise R := by simpa [blk] using h 1
theorem okBlk_all {k : Nat} {l l0 : List α} (h : OkBlk R k l l0) (hk : l.length ≤ k) (hl : l.length = l0.length) : l.Perm l0 ∧ l.Pairwise R := by
  have := okBlk_0 h
  rwa [List.take_of_length_le hk, List.take_of_length_le (by omega)] at this
theorem cmp_parts {cf : α → α → Int} {E0 : List α} {k : Nat} (h : E0.Pairwise (Cmp R cf)) {U V : List α} (hU : U.Perm (E0.take k)) (hV : ∀ y ∈ V, y ∈ E0.drop k) : ∀ x ∈ U, ∀ y ∈ V, Cmp R cf x y := fun x hx y hy => by
  rw [← List.take_append_drop k E0, List.pairwise_append] at h
  exact h.2.2 x (hU.mem_iff.1 hx) y (hV y hy)
theorem two_blocks {k : Nat} (l : List α) : l.take k ++ (l.drop k).take k = l.take (2 * k) := by
  rw [Nat.two_mul, List.take_add]
end
end Go.Proofs.YtekbcbjimajnfaaGreatDoor
end
section
namespace Go.Proofs.YtekbcbjimajnfaaGreatDoor
set_option linter.unusedSimpArgs false
set_option linter.unusedVariables false
set_option maxRecDepth 20000
open Go.RowKit Go.Eng
/-! ### content -/
def canF (f : Flt) : Flt := ⟨f.k, f.t, ⟨none, f.fr.l.length, 0, f.fr.l⟩⟩
def can (e : Evt) : Evt := ⟨e.id, e.at_, e.lv, ⟨none, e.fa.q, 0, e.fa.l.map canF⟩, ⟨none, e.ta.q, 0, e.ta.l⟩, ⟨none, e.cr.q, 0, e.cr.l⟩, e.rel, e.us, e.wt⟩
/-- two lists of events say the same -/
abbrev EqC (m l : List Evt) : Prop := m.map can = l.map can
theorem EqC.ids {m l : List Evt} (h : EqC m l) : idsI m = idsI l := by
  have := congrArg (List.map (·.id)) h
  rw [List.map_map, List.map_map] at this
  exact this
theorem EqC.has {m l : List Evt} (h : EqC m l) (k : List UInt8) : hasI m k = hasI l k := by
  have : (hasI m k = true) = (hasI l k = true) := propext (by rw [has_ids, has_ids, h.ids])
  cases h1 : hasI m k <;> cases h2 : hasI l k <;> simp_all
/-! ### the list behind the index: the same places -/
/-! ### orders -/
instance : Inhabited Evt := ⟨evZM⟩
def cmpT (a b : Evt) : Int := if cmpJ a.at_ b.at_ ≠ 0 then cmpJ a.at_ b.at_ else cmpB a.id b.id
theorem cmp3_T : Cmp3 cmpT := cmp3_lex (cmp3_J.comap (fun e : Evt => e.at_)) (cmp3_B.comap (fun e : Evt => e.id))
theorem cmpT_id {a b : Evt} (h : cmpT a b = 0) : a.id = b.id := by
  unfold cmpT at h
  split at h
  · exact absurd h ‹_›
  · exact cmpB_zero h
def keyK (by_ : Int) (a b : Evt) : Int := if by_ = 2 then cmpJ a.lv b.lv else if by_ = 3 then cmpJ a.wt b.wt else 0
theorem cmp3_K (by_ : Int) : Cmp3 (keyK by_) := by
  unfold keyK
  split
  · exact cmp3_J.comap (fun e : Evt => e.lv)
  · split
    · exact cmp3_J.comap (fun e : Evt => e.wt)
    · exact ⟨fun _ _ => rfl, fun _ _ _ _ _ => Int.le_refl _⟩
def cmpK (by_ : Int) (a b : Evt) : Int := if keyK by_ a b ≠ 0 then keyK by_ a b else cmpT a b
theorem cmp3_KT (by_ : Int) : Cmp3 (cmpK by_) := cmp3_lex (cmp3_K by_) cmp3_T
theorem cmp3_neg {α : Type} {f : α → α → Int} (h : Cmp3 f) : Cmp3 fun a b => -f a b :=
  ⟨fun a b => by have := h.anti a b; omega, fun a b c h1 h2 => by
    have a1 := h.anti a b
    have a2 := h.anti b c
    have a3 := h.anti a c
    have := h.tr c b a (by omega) (by omega)
    omega⟩
def cmpQ (by_ : Int) (dn : Bool) (a b : Evt) : Int := if dn = true then -cmpK by_ a b else cmpK by_ a b
theorem cmp3_Q (by_ : Int) (dn : Bool) : Cmp3 (cmpQ by_ dn) := by
  cases dn
  · exact cmp3_KT by_
  · exact cmp3_neg (cmp3_KT by_)
theorem cmpQ_id {by_ : Int} {dn : Bool} {a b : Evt} (h : cmpQ by_ dn a b = 0) : a.id = b.id := by
  have h1 : cmpK by_ a b = 0 := by
    unfold cmpQ at h
    split at h <;> omega
  unfold cmpK at h1
  split at h1
  · exact absurd h1 ‹_›
  · exact cmpT_id h1
/-! ### what is found -/
abbrev filI (x : SC) (m : List Evt) : List Evt := m.filter fun e => hoX e x
theorem nodup_uniq {l : List Evt} (h : (idsI l).Nodup) {a b : Evt} (ha : a ∈ l) (hb : b ∈ l) (he : a.id = b.id) : a = b := by
  induction l with
  | nil => cases ha
  | cons c r ih =>
    have h : c.id ∉ idsI r ∧ (idsI r).Nodup := List.nodup_cons.1 h
    rcases List.mem_cons.1 ha with rfl | ha' <;> rcases List.mem_cons.1 hb with rfl | hb'
    · rfl
    · exact absurd (show _ ∈ idsI r from List.mem_map.2 ⟨b, hb', he.symm⟩) h.1
    · exact absurd (show _ ∈ idsI r from List.mem_map.2 ⟨a, ha', he⟩) h.1
    · exact ih h.2 ha' hb'
theorem fil_nodup {x : SC} {m : List Evt} (h : (idsI m).Nodup) : (idsI (filI x m)).Nodup := (List.filter_sublist.map _).nodup h
/-- of lists that hold the same events, sorted lists are one -/
theorem one_of {f : Evt → Evt → Int} (hf : Cmp3 f) (hi : ∀ a b, f a b = 0 → a.id = b.id) {l u v : List Evt} (hn : (idsI l).Nodup) (h1 : u.Perm l) (h2 : v.Perm l) (s1 : u.Pairwise fun a b => f a b ≤ 0) (s2 : v.Pairwise fun a b => f a b ≤ 0) : u = v :=
  sorted_uniq (h1.trans h2.symm) s1 s2 fun a ha b hb h3 h4 => nodup_uniq hn (h1.subset ha) (h1.subset hb) (hi a b (by have := hf.anti a b; omega))
def askL (x : SC) (by_ : Int) (dn : Bool) (m : List Evt) : List Evt := pdqL (cmpQ by_ dn) (filI x m)
theorem ask_facts (x : SC) (by_ : Int) (dn : Bool) (m : List Evt) : (askL x by_ dn m).Perm (filI x m) ∧ (askL x by_ dn m).Pairwise fun a b => cmpQ by_ dn a b ≤ 0 :=
  ⟨(pdqL_facts (swo3 (cmp3_Q by_ dn)) _).1, (pdqL_facts (swo3 (cmp3_Q by_ dn)) _).2.imp fun h => ltOf_f h (cmp3_Q by_ dn)⟩
theorem ask_one {x : SC} {by_ : Int} {dn : Bool} {m u : List Evt} (hn : (idsI m).Nodup) (h1 : u.Perm (filI x m)) (s1 : u.Pairwise fun a b => cmpQ by_ dn a b ≤ 0) : u = askL x by_ dn m :=
  one_of (cmp3_Q by_ dn) (fun _ _ => cmpQ_id) (fil_nodup hn) h1 (ask_facts x by_ dn m).1 s1 (ask_facts x by_ dn m).2
/-- a list in order of time, sorted anew by a key so that it stays in order where the key says nothing -/
theorem cmp_key {by_ : Int} {l : List Evt} (h : l.Pairwise fun a b => cmpT a b ≤ 0) : l.Pairwise (Cmp (fun a b => cmpK by_ a b ≤ 0) (keyK by_)) := h.imp fun {a b} hab => by
  have h3 := (cmp3_K by_).anti a b
  refine ⟨fun h1 => ?_, fun h1 => ?_⟩
  · show cmpK by_ b a ≤ 0
    unfold cmpK; rw [if_pos (by omega)]; omega
  · show cmpK by_ a b ≤ 0
    unfold cmpK
    by_cases h0 : keyK by_ a b = 0
    · rw [if_neg (by simpa using h0)]; exact hab
    · rw [if_pos h0]; omega
theorem ask_rev {by_ : Int} {l : List Evt} (h : l.Pairwise fun a b => cmpK by_ a b ≤ 0) : l.reverse.Pairwise fun a b => cmpQ by_ true a b ≤ 0 := by
  rw [List.pairwise_reverse]
  refine h.imp fun {a b} hab => ?_
  have := (cmp3_KT by_).anti a b
  unfold cmpQ
  rw [if_pos rfl]; omega
end Go.Proofs.YtekbcbjimajnfaaGreatDoor
end
section
namespace Go.Proofs.YtekbcbjimajnfaaGreatDoor
set_option linter.unusedSimpArgs false
set_option linter.unusedVariables false
set_option maxRecDepth 20000
open Go.RowKit Go.Eng
def intX (n : Int) : List Value := [.int .i64 n]
def orL (l : List Int) : Int := (l.find? fun x => decide (x ≠ 0)).getD 0
theorem orL_pos {a : Int} {r : List Int} (h : ¬ a = 0) : orL (a :: r) = a := by rw [orL, List.find?_cons_of_pos (by simpa using h)]; rfl
theorem orL_neg {a : Int} {r : List Int} (h : a = 0) : orL (a :: r) = orL r := by rw [orL, List.find?_cons_of_neg (by simpa using h)]; rfl
theorem orL2 (m k : Int) : orL [m, k] = if m ≠ 0 then m else k := by
  by_cases h : m = 0
  · rw [orL_neg h, if_neg (by simpa using h)]
    by_cases h2 : k = 0
    · rw [orL_neg h2, h2]; rfl
    · rw [orL_pos h2]
  · rw [orL_pos h, if_pos h]
theorem orX_any (A : Option Addr) (c : Nat) (l : List Int) (w : World) (q : Nat) (hq : q ≤ 1000) (hl : SlT intX 1 w A q l) : Calls Tryz.prog 65 #[.slice A q c] w fun e w' => e = .returned (.int .i64 (orL l)) ∧ Below w.heap.size w w' := by
  refine enter_args (args := [.slice A q c]) (F := _) Tryz.func65 rfl Tryz.ntmps65 rfl rfl ?_
  intro Rb hRb hRn
  refine tx ?_
  refine sr 1 ?_
  refine sgx ?_
  refine sr 1 ?_
  refine sgs ?_
  refine tx ?_
  refine sr 1 ?_
  refine s1 (y_len_slice rfl rfl Tryz.underlying147) ?_
  refine sr 1 ?_
  refine sgo ?_
  refine T_block ?_
  refine lK1 (kf := [(2, 2), (5, 5), (8, 16)]) (kl := [(2, 2), (5, 5), (8, 16)]) (fun (i : Nat) => [(8, true, .int .i64 (i : Int))]) (fun (i : Nat) => []) (fun (i : Nat) => i ≤ q ∧ orL l = orL (l.drop i)) (fun (i : Nat) => q - i) 0 ?_ ?_ ?_ ?_
  · exact ⟨by omega, rfl⟩
  · exact ⟨rfl, trivial⟩
  · exact trivial
  rintro i ⟨hp1, hp2⟩
  refine tx ?_
  refine sr 1 ?_
  refine sgs ?_
  refine T_cond rfl ?_ ?_ <;> intro h9
  · try simp only [nrm] at h9
    obtain ⟨x, hx1, hx2⟩ := hl.at (i := i) (by omega)
    refine kgs ?_
    refine T_block ?_
    refine tx ?_
    refine s1 (y_indexAddr rfl rfl rfl Tryz.underlying147 sz3 (fun hg => hl.isSome (by omega)) (fun _ => by omega)) ?_
    refine s1 (y_loadT1 (val := (fun n : Int => Value.int .i64 n)) rfl rfl hl (fun _ => hx1) Tryz.underlying3 rfl) ?_
    refine sr 1 ?_
    refine sgx ?_
    refine sr 3 ?_
    refine sgo ?_
    refine T_cond rfl ?_ ?_ <;> intro h14
    · try simp only [nrm] at h14
      refine tx ?_
      refine sr 2 ?_
      refine sgo ?_
      refine tr1 hRb fun w hM => ?_
      exact ⟨by rw [hp2, hx2, orL_pos (by simpa using h14)], hM.below⟩
    try simp only [nrm] at h14
    refine kgr ?_
    refine s1 (y_bin rfl rfl rfl (fun hg => b_add (by omega))) ?_
    refine sr 1 ?_
    refine S_nil (nK1 (kf := [(2, 2), (5, 5), (8, 16)]) (kl := [(2, 2), (5, 5), (8, 16)]) (i + 1) ?_ ?_ ?_ ?_)
    · omega
    · exact ⟨by omega, by rw [hp2, hx2]; exact orL_neg (by simpa using h14)⟩
    · exact ⟨rfl, trivial⟩
    · exact trivial
  try simp only [nrm] at h9
  refine egx ?_
  refine sr 2 ?_
  refine sgo ?_
  refine tr1 hRb fun w hM => ?_
  exact ⟨by rw [hp2, hl.end (by omega)]; rfl, hM.below⟩
theorem found1_any (a b : Evt) (w : World) : Calls Tryz.prog 96 #[a.val, b.val] w fun e w' => e = .returned (.int .i64 (cmpT a b)) ∧ Below w.heap.size w w' := by
  refine enter_args (args := [.agg #[str a.id, .int .i64 a.at_, .int .i64 a.lv, .slice a.fa.A a.fa.q a.fa.c, .slice a.ta.A a.ta.q a.ta.c, .slice a.cr.A a.cr.q a.cr.c, str a.rel, str a.us, .int .i64 a.wt], .agg #[str b.id, .int .i64 b.at_, .int .i64 b.lv, .slice b.fa.A b.fa.q b.fa.c, .slice b.ta.A b.ta.q b.ta.c, .slice b.cr.A b.cr.q b.cr.c, str b.rel, str b.us, .int .i64 b.wt]]) (F := _) Tryz.func96 rfl Tryz.ntmps96 rfl rfl ?_
  intro Rb hRb hRn
  refine tx ?_
  refine S_box 2 2 rfl rfl rfl rfl rfl ?_
  intro b2
  refine S_box 3 3 rfl rfl rfl rfl rfl ?_
  intro b3
  refine sr 1 ?_
  refine sgs ?_
  refine T_drawsTail 10 (by kernel_rfl) (by kernel_rfl) ?_
  refine d1 (yF fa31_1) ?_
  refine d1 (yL 2 Tryz.underlying3) ?_
  refine d1 (yF fa31_1) ?_
  refine d1 (yL 3 Tryz.underlying3) ?_
  refine d1 (y_call rfl rfl rfl cf59 (fun _ w _ => cmpJ_any _ _ w)) ?_
  refine d1 (yF fa31_0) ?_
  refine d1 (yL 2 Tryz.underlying9) ?_
  refine d1 (yF fa31_0) ?_
  refine d1 (yL 3 Tryz.underlying9) ?_
  refine d1 (y_call rfl rfl rfl cf66 (fun _ w _ => cmpB_any _ _ w)) ?_
  refine D_tail ?_
  refine S_buildSlice 15 15 rfl rfl rfl rfl rfl Tryz.underlying147 inf3 rfl (by decide) (by decide) rfl rfl (by decide) rfl (_) rfl ?_
  intro b15
  refine s1 (y_call rfl rfl rfl cf65 (fun _ w hM => orX_any _ _ [cmpJ a.at_ b.at_, cmpB a.id b.id] w 2 (by decide) ⟨own_reads hM (i := 15) rfl, rfl⟩)) ?_
  refine sr 1 ?_
  refine sgo ?_
  refine tr1 hRb fun w hM => ?_
  exact ⟨by rw [orL2]; rfl, hM.below⟩
abbrev ownEv (A : Option Addr) (c : Nat) (l : List Evt) : It := .own 31 9 (.slice A l.length c) l.length (l.flatMap Evt.enc)
theorem enc_one (x : Evt) : ∀ v ∈ x.enc, v.oneCell' = true := fun v hv => by
  simp only [Evt.enc, List.mem_cons, List.not_mem_nil, or_false] at hv
  rcases hv with rfl | rfl | rfl | rfl | rfl | rfl | rfl | rfl | rfl <;> rfl
theorem SortT_any {w0 : World} {K : HL} (hK : FromK K) (A : Option Addr) (q c : Nat) (l : List Evt) (w : World) (hlen : l.length = q) (hq : q ≤ 1000000) (hM : Mem w0 ([(0, .own 31 9 (.slice A q c) q (l.flatMap Evt.enc))] ++ K) w) :
    Calls Tryz.prog 63 #[.slice A q c, .func (.func 96) #[] #[]] w fun e w' => ∃ l' : List Evt, e = .returned (.tuple #[]) ∧ l' = pdqL cmpT l ∧ Mem w0 ([(0, .own 31 9 (.slice A q c) q (l'.flatMap Evt.enc))] ++ K) w' :=
  sort_own Tryz.laysSort63 (k := 9) (enc := Evt.enc) Tryz.isAgg31 Tryz.sizeOf31 (fun _ => rfl) enc_one cmpT (swo3 cmp3_T)
    96 #[] cf96 hK 31 A q c l w hlen (by omega) (fun w' _ x y => found1_any x y w') hM
structure FndR where
  A : Option Addr
  c : Nat
  l : List Evt
def FndP (x : SC) (m : List Evt) (z : FndR) : Prop := z.l.Perm (filI x m) ∧ z.l.Pairwise fun a b => cmpT a b ≤ 0
theorem FndP.len {x : SC} {m : List Evt} {z : FndR} (h : FndP x m z) : z.l.length ≤ m.length := by rw [h.1.length_eq]; exact List.length_filter_le _ _
theorem fil_snoc (x : SC) (D : List Evt) (p : Evt) : filI x (D ++ [p]) = filI x D ++ if hoX p x = true then [p] else [] := by
  rw [filI, List.filter_append]
  congr 1
  rw [List.filter_cons]; rfl
set_option maxHeartbeats 1600000 in
theorem found_any {w0 : World} {K : HL} (hK : FromK K) (b bm : Nat) (m : List Evt) (rs : List Row) (x : SC) (w : World) (hix : IxOk w0 rs m) (hok : x.Ok w0) (h0 : chX x = 0) (hmx : MLen w0) (hM0 : Mem w0 ([(901, ixBox b bm), (902, ixMap bm m), (950, .many rs)] ++ K) w) :
    Calls Tryz.prog 56 #[.pointer (some ⟨b, 0, none⟩), x.val] w fun en w' => ∃ z : FndR, en = .returned (.slice z.A z.l.length z.c) ∧ FndP x m z ∧ Mem w0 ([(901, ixBox b bm), (902, ixMap bm m), (950, .many rs), (906, ownEv z.A z.c z.l)] ++ K) w' := by
  have hle := hix.le
  refine enterM_args (args := [.pointer (some ⟨b, 0, none⟩), .agg #[.int .i64 x.op, .slice x.ad x.q x.c, .int .i64 x.lo, .int .i64 x.hi, str x.nm, str x.tx]]) (F := _) hM0 Tryz.func56 rfl Tryz.ntmps56 rfl rfl ?_
  intro Rb hRb hRn
  refine T_many0 900 ?_
  refine tx ?_
  refine S_box 3 3 rfl rfl rfl rfl rfl ?_
  intro b3
  refine S_nilSlice 4 (e := 31) (size := 9) ?_
  refine sr 1 ?_
  refine sgx ?_
  refine s1 (yA 3 rfl Tryz.underlying36 sz36) ?_
  refine S_callM 10 [(900, 900)] (X := FnR) rfl rfl rfl rfl rfl rfl rfl cf95 rfl (fun z => z.v) (FnOk Evt.val EvR w0 [] (fun _ => True) (fun e => hoX e x)) (fun z => [(900, .many z.rs)]) (fun _ => rfl) (fun _ => rfl) (fun K1 hK1 w1 hM => test_any x hK1 [] w1 hok h0 hmx hM) ?_
  intro x10 hx10
  refine sr 1 ?_
  refine sgx ?_
  refine S_nilSlice 906 (e := 31) (size := 9) ?_
  refine S_nilSlice 6 (e := 31) (size := 9) ?_
  refine sr 1 ?_
  refine sgs ?_
  refine tx ?_
  refine sr 1 ?_
  refine s1 (y_nilCheck rfl rfl) ?_
  refine s1 (yF fa89_0) ?_
  refine s1 (yL 901 Tryz.underlying87) ?_
  refine S_rangeM 15 902 15 (fun e : Evt => str e.id) Evt.val m (by rw [List.map_map]; rfl) rfl rfl rfl rfl rfl rfl (kt := 9) Tryz.underlying87 ?_
  intro r15 es15 ck15 hes15
  refine sgo ?_
  refine T_block ?_
  refine lK6 (kf := [(6, 6), (8, 8), (16, 26)]) (kl := [(6, 6), (8, 8), (15, 26), (906, 906)]) (fun (rem : List Evt) (last : Option Evt) (out : List Evt) (q : Nat) (A : Option Addr) (c : Nat) => [(6, true, .slice A q c)]) (fun (rem : List Evt) (last : Option Evt) (out : List Evt) (q : Nat) (A : Option Addr) (c : Nat) => [(15, .blk r15 (IsIt (fun e : Evt => str e.id) Evt.val bm es15 ck15 rem last)), (906, .own 31 9 (.slice A q c) q (out.flatMap Evt.enc))]) (fun (rem : List Evt) (last : Option Evt) (out : List Evt) (q : Nat) (A : Option Addr) (c : Nat) => (∃ D, m.Perm (D ++ rem) ∧ out = filI x D) ∧ out.length = q ∧ q + rem.length ≤ m.length) (fun (rem : List Evt) (last : Option Evt) (out : List Evt) (q : Nat) (A : Option Addr) (c : Nat) => rem.length) m none [] 0 none 0 ?_ ?_ ?_ ?_
  · exact ⟨⟨[], List.Perm.refl _, rfl⟩, rfl, by simp⟩
  · exact ⟨rfl, trivial⟩
  · exact ⟨rfl, rfl, trivial⟩
  rintro rem last out q A c ⟨hs1, hs2, hs3⟩
  refine tx ?_
  refine S_next 16 902 15 rfl rfl rfl rfl rfl rfl rfl ?_
  intro e16 ps16 hn16 hs16
  refine s1 (y_extract (v := .bool e16.isSome) rfl rfl (by cases e16 <;> rfl)) ?_
  refine sgs ?_
  refine T_cond rfl ?_ ?_ <;> intro h17
  · skip
    obtain ⟨p, rfl⟩ := Option.isSome_iff_exists.1 h17
    have hpm := hs16 p rfl
    have hpo := hix.ok p (by obtain ⟨D, d1, _⟩ := hs1; exact d1.mem_iff.2 (List.mem_append_right _ (hpm.mem_iff.2 (List.mem_cons_self ..))))
    refine kgo ?_
    refine T_block ?_
    refine tx ?_
    refine s1 (y_entry 902 15 rfl rfl rfl rfl) ?_
    refine s1 (y_as (v' := .agg #[str p.id, .int .i64 p.at_, .int .i64 p.lv, .slice p.fa.A p.fa.q p.fa.c, .slice p.ta.A p.ta.q p.ta.c, .slice p.cr.A p.cr.q p.cr.c, str p.rel, str p.us, .int .i64 p.wt]) (by exact rfl) (y_extract rfl rfl rfl)) ?_
    refine S_alloc 8 8 rfl rfl rfl rfl z31 ?_
    intro b8
    refine S_store 8 rfl rfl rfl rfl rfl rfl sz31 rfl rfl ?_
    refine sgx ?_
    refine sr 1 ?_
    refine s1 (yA 8 rfl Tryz.underlying31 sz31) ?_
    refine s1 (y_call rfl rfl rfl hx10.cf (fun _ w1 hM => (hx10.sees.at hM 900 rfl trivial).2 w1 (Below.refl _ _) p ⟨hpo.2.at hM 950 rfl, ev_small hpo.1⟩)) ?_
    refine sgo ?_
    refine T_cond rfl ?_ ?_ <;> intro h22
    · skip
      refine T_region ?_
      refine sr 1 ?_
      refine s1 (yA 8 rfl Tryz.underlying31 sz31) ?_
      refine S_buildSlice 25 25 rfl rfl rfl rfl rfl Tryz.underlying25 inf31 rfl (by decide) (by decide) rfl rfl (by decide) rfl (_) rfl ?_
      intro b25
      obtain ⟨i26, hi26, hz26, hs26, hy26⟩ := info_parts inf31
      refine S_append 26 906 25 rfl rfl rfl rfl rfl rfl rfl rfl Tryz.underlying25 hi26 hz26 hs26 hy26 rfl (by decide) (by decide) rfl ?_ ?_ (q + 1) ((out ++ [p]).flatMap Evt.enc) ?_ ?_ ?_
      · (simp only [maxLen]; omega)
      · omega
      · rfl
      · simp [List.flatMap_append, Evt.enc]; rfl
      intro A26 c26
      refine sr 1 ?_
      refine S_nil (nK6 (kf := [(6, 6), (8, 8), (16, 26)]) (kl := [(6, 6), (8, 8), (15, 26), (906, 906)]) ps16 (some p) (out ++ [p]) (q + 1) A26 c26 ?_ ?_ ?_ ?_)
      · have := hpm.length_eq; simp at this; omega
      · have := hpm.length_eq
        simp at this
        obtain ⟨D, d1, d2⟩ := hs1
        exact ⟨⟨D ++ [p], d1.trans (by rw [List.append_assoc]; exact List.Perm.append_left D hpm), by rw [fil_snoc, if_pos h22, d2]⟩, by simp [hs2], by omega⟩
      · exact ⟨rfl, trivial⟩
      · exact ⟨rfl, rfl, trivial⟩
    refine T_skip (nK6 (kf := [(6, 6), (8, 8), (16, 26)]) (kl := [(6, 6), (8, 8), (15, 26), (906, 906)]) ps16 (some p) out q A c ?_ ?_ ?_ ?_)
    · have := hpm.length_eq; simp at this; omega
    · have := hpm.length_eq
      simp at this
      obtain ⟨D, d1, d2⟩ := hs1
      exact ⟨⟨D ++ [p], d1.trans (by rw [List.append_assoc]; exact List.Perm.append_left D hpm), by rw [fil_snoc, if_neg (by rw [show hoX p x = false from h22]; exact Bool.false_ne_true), d2, List.append_nil]⟩, hs2, by omega⟩
    · exact ⟨rfl, trivial⟩
    · exact ⟨rfl, rfl, trivial⟩
  have hq0 : e16 = none := by simpa using h17
  have hr0 := hn16 hq0
  refine egx ?_
  refine S_remap 902 rfl hes15 ?_
  refine sr 1 ?_
  refine S_callM 28 [(0, 906)] (X := List Evt) rfl rfl rfl rfl rfl rfl rfl cf63 rfl (fun _ => .tuple #[]) (fun l => l = pdqL cmpT out) (fun l => [(0, .own 31 9 (.slice A q c) q (l.flatMap Evt.enc))]) (fun _ => rfl) (fun _ => rfl) (fun K1 hK1 w1 hM => SortT_any hK1 A q c out w1 hs2 (by omega) hM) ?_
  intro sl hsl
  refine sgx ?_
  refine sr 2 ?_
  refine sgo ?_
  refine tr1 hRb fun w hM => ?_
  have hf := pdqL_facts (swo3 cmp3_T) out
  obtain ⟨D, d1, d2⟩ := hs1
  rw [hr0, List.append_nil] at d1
  have hln : sl.length = q := by rw [hsl, hf.1.length_eq, hs2]
  have e9 : ownEv A c sl = .own 31 9 (.slice A q c) q (sl.flatMap Evt.enc) := by unfold ownEv; rw [hln]
  refine ⟨⟨A, c, sl⟩, by rw [hln], ⟨?_, ?_⟩, ?_⟩
  · show sl.Perm _
    rw [hsl]; refine hf.1.trans ?_; rw [d2]; exact (d1.filter _).symm
  · show sl.Pairwise _
    rw [hsl]; exact hf.2.imp fun h => ltOf_f h cmp3_T
  · show Mem w0 ([_, _, _, (906, ownEv A c sl)] ++ K) _
    rw [e9]
    exact hM.keep (ks := [(0, 999)]) (by repeat (first | exact kl_rest (by assumption) rfl | (apply kl_in; focus rfl))) _ ⟨rfl, rfl, rfl, rfl, trivial⟩
end Go.Proofs.YtekbcbjimajnfaaGreatDoor
end
section
namespace Go.Proofs.YtekbcbjimajnfaaGreatDoor
set_option linter.unusedSimpArgs false
set_option linter.unusedVariables false
set_option maxRecDepth 20000
open Go.RowKit Go.Eng
theorem take1_pw {α : Type} {R : α → α → Prop} : ∀ l : List α, (l.take 1).Pairwise R
  | [] => .nil
  | a :: r => by simp
theorem pair_at {α : Type} {C : α → α → Prop} {P : List α} {x y : α} {k : Nat} (h : P.Pairwise C) (hy : y ∈ P.take k) (hx : P[k]? = some x) : C y x := by
  obtain ⟨i, hi, hy⟩ := mem_take_at hy
  obtain ⟨h1, rfl⟩ := List.getElem?_eq_some_iff.1 hx
  obtain ⟨h2, rfl⟩ := List.getElem?_eq_some_iff.1 hy
  exact List.pairwise_iff_getElem.1 h i k h2 h1 hi
theorem some_at {α : Type} {l : List α} {i : Nat} (h : i < l.length) : ∃ x, l[i]? = some x := ⟨_, List.getElem?_eq_getElem h⟩
theorem swapV_any {w0 : World} {K : HL} (hK : FromK K) (cf : Value) (A : Option Addr) (q c : Nat) (X U M V Yt : List Evt) (n a b : Nat) (hU : U.length = n) (hV : V.length = n) (ha : X.length = a) (hb : a + n + M.length = b) (hq : (X ++ U ++ M ++ V ++ Yt).length = q) (hqm : q ≤ 1000000000) (w : World)
    (hM0 : Mem w0 ([(0, .own 31 9 (.slice A q c) q ((X ++ U ++ M ++ V ++ Yt).flatMap Evt.enc))] ++ K) w) :
    Calls Tryz.prog 233 #[.slice A q c, .int .i64 (a : Int), .int .i64 (b : Int), .int .i64 (n : Int), cf] w fun e w' => ∃ _ : Unit, e = .returned (.tuple #[]) ∧ True ∧ Mem w0 ([(0, .own 31 9 (.slice A q c) q ((X ++ V ++ M ++ U ++ Yt).flatMap Evt.enc))] ++ K) w' := by
  rw [← swR_0] at hM0
  simp only [List.length_append] at hq
  refine enterM_args (args := [.slice A q c, .int .i64 (a : Int), .int .i64 (b : Int), .int .i64 (n : Int), cf]) (F := _) hM0 Tryz.func233 rfl Tryz.ntmps233 rfl rfl ?_
  intro Rb hRb hRn
  refine T_some 0 rfl fun hA => ?_
  refine tx ?_
  refine sr 1 ?_
  refine sgo ?_
  refine T_block ?_
  refine lK1 (kf := [(10, 37)]) (kl := [(0, 0), (10, 37)]) (fun (i : Nat) => [(10, true, .int .i64 (i : Int))]) (fun (i : Nat) => [(0, .own 31 9 (.slice A q c) q ((swR X U M V Yt i).flatMap Evt.enc))]) (fun (i : Nat) => i ≤ n) (fun (i : Nat) => n - i) 0 ?_ ?_ ?_ ?_
  · omega
  · exact ⟨rfl, trivial⟩
  · exact ⟨rfl, trivial⟩
  rintro i hp1
  refine T_seq ?_
  refine tx ?_
  refine sr 3 ?_
  refine sgo ?_
  refine T_cond rfl ?_ ?_ <;> intro h13
  · try simp only [nrm] at h13
    obtain ⟨u, hu⟩ := some_at (l := U) (i := i) (by omega)
    obtain ⟨v, hv⟩ := some_at (l := V) (i := i) (by omega)
    refine kgs ?_
    refine T_block ?_
    refine T_perm [0, 1, 2, 3, 4, 5, 6, 7, 8, 9, 10, 11, 12, 13, 14, 15, 16, 17, 18, 19, 20, 21, 22, 23] [true, true, true, true, true, true, true, true, true, true, true, true, true, true, true, true, true, true, true, true, true, false, true, false] [0, 0, 0, 6, 0, 0, 0, 96, 0, 0, 0, 1536, 3840, 7936, 0, 0, 0, 98304, 245760, 507904, 1048335, 2096911, 4194303, 8388607] [(13, [0]), (19, [0])] (by kernel_rfl) (by kernel_rfl) (by kernel_rfl) rfl (by kernel_rfl) ?_
    refine Rf_ 0 16 rfl rfl rfl rfl rfl _ trivial (Y.z (y_move rfl rfl) rfl) ?_
    refine Rf_ 1 17 rfl rfl rfl rfl rfl _ trivial (Y.z (y_move rfl rfl) rfl) ?_
    refine Rf_ 2 18 rfl rfl rfl rfl rfl _ trivial (Y.z (y_move rfl rfl) rfl) ?_
    refine Rf_ 3 19 rfl rfl rfl rfl rfl _ trivial (Y.z (y_bin rfl rfl rfl (fun hg => b_addv (((a + i : Nat) : Int)) (by omega) (by omega))) rfl) ?_
    refine Rf_ 4 20 rfl rfl rfl rfl rfl _ trivial (Y.z (y_move rfl rfl) rfl) ?_
    refine Rf_ 5 21 rfl rfl rfl rfl rfl _ trivial (Y.z (y_move rfl rfl) rfl) ?_
    refine Rf_ 6 22 rfl rfl rfl rfl rfl _ trivial (Y.z (y_move rfl rfl) rfl) ?_
    refine Rf_ 7 23 rfl rfl rfl rfl rfl _ trivial (Y.z (y_bin rfl rfl rfl (fun hg => b_addv (((b + i : Nat) : Int)) (by omega) (by omega))) rfl) ?_
    refine Rf_ 8 24 rfl rfl rfl rfl rfl _ trivial (Y.z (y_move rfl rfl) rfl) ?_
    refine Rf_ 9 25 rfl rfl rfl rfl rfl _ trivial (Y.z (y_move rfl rfl) rfl) ?_
    refine Rf_ 10 26 rfl rfl rfl rfl rfl _ trivial (Y.z (y_move rfl rfl) rfl) ?_
    refine Rf_ 11 27 rfl rfl rfl rfl rfl _ trivial (Y.z (y_bin rfl rfl rfl (fun hg => b_addv (((b + i : Nat) : Int)) (by omega) (by omega))) rfl) ?_
    refine Rf_ 12 28 rfl rfl rfl rfl rfl _ trivial (Y.z (y_indexAddr rfl rfl rfl Tryz.underlying25 sz31 (fun hg => hA (by omega)) (fun _ => by omega)) rfl) ?_
    refine Rf_ 13 29 rfl rfl rfl rfl rfl _ ⟨rfl, trivial⟩ (Y.z (y_loadO 0 rfl rfl rfl (by rw [swR_len]; simp only [List.length_append]; omega) (fun _ => rfl) (fun _ => swR_at2 hu hv (by omega)) Tryz.underlying31 rfl sz31) rfl) ?_
    refine Rf_ 14 30 rfl rfl rfl rfl rfl _ trivial (Y.z (y_move rfl rfl) rfl) ?_
    refine Rf_ 15 31 rfl rfl rfl rfl rfl _ trivial (Y.z (y_move rfl rfl) rfl) ?_
    refine Rf_ 16 32 rfl rfl rfl rfl rfl _ trivial (Y.z (y_move rfl rfl) rfl) ?_
    refine Rf_ 17 33 rfl rfl rfl rfl rfl _ trivial (Y.z (y_bin rfl rfl rfl (fun hg => b_addv (((a + i : Nat) : Int)) (by omega) (by omega))) rfl) ?_
    refine Rf_ 18 34 rfl rfl rfl rfl rfl _ trivial (Y.z (y_indexAddr rfl rfl rfl Tryz.underlying25 sz31 (fun hg => hA (by omega)) (fun _ => by omega)) rfl) ?_
    refine Rf_ 19 35 rfl rfl rfl rfl rfl _ ⟨rfl, trivial⟩ (Y.z (y_loadO 0 rfl rfl rfl (by rw [swR_len]; simp only [List.length_append]; omega) (fun _ => rfl) (fun _ => swR_at1 hu hv (by omega)) Tryz.underlying31 rfl sz31) rfl) ?_
    refine Rf_ 20 36 rfl rfl rfl rfl rfl _ trivial (Y.z (y_indexAddr rfl rfl rfl Tryz.underlying25 sz31 (fun hg => hA (by omega)) (fun _ => by omega)) rfl) ?_
    refine R_chain 21 rfl rfl ?_
    refine S_storeEl 0 rfl rfl rfl rfl rfl rfl sz31 rfl rfl rfl ?_ (xs' := ((swR X U M V Yt i).set (a + i) v).flatMap Evt.enc) ?_ ?_
    · omega
    · exact flat_setE (enc := Evt.enc) (size := 9) (fun _ => rfl) (by rw [swR_len]; simp only [List.length_append]; omega)
    refine R_next ⟨.inl rfl, .inl rfl, trivial⟩ ?_
    refine Rf_ 22 37 rfl rfl rfl rfl rfl _ trivial (Y.z (y_indexAddr rfl rfl rfl Tryz.underlying25 sz31 (fun hg => hA (by omega)) (fun _ => by omega)) rfl) ?_
    refine R_chain 23 rfl rfl ?_
    refine S_storeEl 0 rfl rfl rfl rfl rfl rfl sz31 rfl rfl rfl ?_ (xs' := (swR X U M V Yt (i + 1)).flatMap Evt.enc) ?_ ?_
    · omega
    · rw [flat_setE (enc := Evt.enc) (size := 9) (fun _ => rfl) (by rw [List.length_set, swR_len]; simp only [List.length_append]; omega), swR_step hu hv (by omega) (by omega)]
    refine R_next ⟨.inl rfl, .inl rfl, trivial⟩ ?_
    refine R_go (fun _ _ h => h) ?_
    refine T_region ?_
    refine sr 1 ?_
    refine s1 (y_bin rfl rfl rfl (fun hg => b_addv (((i + 1 : Nat) : Int)) (by omega) (by omega))) ?_
    refine sr 1 ?_
    refine S_nil (nK1 (kf := [(10, 37)]) (kl := [(0, 0), (10, 37)]) (i + 1) ?_ ?_ ?_ ?_)
    · omega
    · omega
    · exact ⟨rfl, trivial⟩
    · exact ⟨rfl, trivial⟩
  try simp only [nrm] at h13
  refine T_exit (fun a w hF hM => hRn a w (post0 rfl (fun w hM => ?_) a w hF hM))
  exact ⟨(), rfl, trivial, hM.keep (ks := [(0, 999)]) (by repeat (first | exact kl_rest (by assumption) rfl | (apply kl_in; focus rfl))) _ ⟨by rw [← swR_end (X := X) (U := U) (M := M) (V := V) (Y := Yt) (i := i) (by omega) (by omega)]; rfl, trivial⟩⟩
theorem insV_any {R : Evt → Evt → Prop} (tr : ∀ x y z, R x y → R y z → R x z) {cf : Evt → Evt → Int} (g : FuncId) (cap : Array Value) (hcf : ∀ args w, (callFunc g args).run Tryz.prog w = .ok (.enter g args) w)
    {w0 : World} {pit : It} (hcmp : ∀ x y w L, Mem w0 L w → HL.get L 901 = some pit → Calls Tryz.prog g (#[.agg (Evt.enc x).toArray, .agg (Evt.enc y).toArray] ++ cap) w fun e w' => e = .returned (.int .i64 (cf x y)) ∧ Below w.heap.size w w')
    {K : HL} (hK : FromK K) (A : Option Addr) (q c : Nat) (X P Yt : List Evt) (a b : Nat) (ha : X.length = a) (hb : a + P.length = b) (hq : (X ++ P ++ Yt).length = q) (hqm : q ≤ 1000000000) (hP : P.Pairwise (Cmp R cf)) (w : World)
    (hM0 : Mem w0 ([(0, .own 31 9 (.slice A q c) q ((X ++ P ++ Yt).flatMap Evt.enc)), (901, pit)] ++ K) w) :
    Calls Tryz.prog 169 #[.slice A q c, .int .i64 (a : Int), .int .i64 (b : Int), .func (.func g) #[] cap] w fun e w' => ∃ W : List Evt, e = .returned (.tuple #[]) ∧ (W.Perm P ∧ W.Pairwise R) ∧ Mem w0 ([(0, .own 31 9 (.slice A q c) q ((X ++ W ++ Yt).flatMap Evt.enc)), (901, pit)] ++ K) w' := by
  rw [show X ++ P ++ Yt = X ++ P.take 1 ++ P.drop 1 ++ Yt from by rw [List.append_assoc X (P.take 1), List.take_append_drop]] at hM0
  simp only [List.length_append] at hq
  refine enterM_args (args := [.slice A q c, .int .i64 (a : Int), .int .i64 (b : Int), .func (.func g) #[] cap]) (F := _) hM0 Tryz.func169 rfl Tryz.ntmps169 rfl rfl ?_
  intro Rb hRb hRn
  refine T_some 0 rfl fun hA => ?_
  refine tx ?_
  refine sr 1 ?_
  refine s1 (y_bin rfl rfl rfl (fun hg => b_addv (((a + 1 : Nat) : Int)) (by omega) (by omega))) ?_
  refine sr 1 ?_
  refine sgo ?_
  refine T_block ?_
  refine lK2 (kf := [(8, 9), (12, 52)]) (kl := [(0, 0), (8, 9), (12, 52)]) (fun (k : Nat) (W : List Evt) => [(8, true, .int .i64 ((a + k : Nat) : Int))]) (fun (k : Nat) (W : List Evt) => [(0, .own 31 9 (.slice A q c) q ((X ++ W ++ P.drop k ++ Yt).flatMap Evt.enc))]) (fun (k : Nat) (W : List Evt) => 1 ≤ k ∧ (k ≤ P.length ∨ k = 1) ∧ W.Perm (P.take k) ∧ W.Pairwise R) (fun (k : Nat) (W : List Evt) => P.length - k) 1 (P.take 1) ?_ ?_ ?_ ?_
  · exact ⟨by omega, .inr rfl, .refl _, take1_pw P⟩
  · exact ⟨rfl, trivial⟩
  · exact ⟨rfl, trivial⟩
  rintro k W ⟨hp1, hp2, hp3, hp4⟩
  refine T_seq ?_
  refine tx ?_
  refine sr 3 ?_
  refine sgo ?_
  refine T_cond rfl ?_ ?_ <;> intro h14
  · try simp only [nrm] at h14
    obtain ⟨x, hx⟩ := some_at (l := P) (i := k) (by omega)
    have hWl : W.length = k := by rw [hp3.length_eq, List.length_take]; omega
    have hdl : (P.drop (k + 1)).length = P.length - (k + 1) := List.length_drop
    rw [show X ++ W ++ P.drop k ++ Yt = insL X W x k (P.drop (k + 1) ++ Yt) from by rw [insL_eq, drop_at hx, List.take_of_length_le (show W.length ≤ k by omega), List.drop_eq_nil_of_le (show W.length ≤ k by omega)]; simp]
    refine kgs ?_
    refine T_block ?_
    refine tx ?_
    refine sr 2 ?_
    refine sgo ?_
    refine T_block ?_
    refine lK1 (kf := [(9, 9), (18, 52)]) (kl := [(0, 0), (9, 9), (18, 52)]) (fun (t : Nat) => [(9, true, .int .i64 ((a + t : Nat) : Int))]) (fun (t : Nat) => [(0, .own 31 9 (.slice A q c) q ((insL X W x t (P.drop (k + 1) ++ Yt)).flatMap Evt.enc))]) (fun (t : Nat) => t ≤ k ∧ ∀ y ∈ W.drop t, R x y) (fun (t : Nat) => t) k ?_ ?_ ?_ ?_
    · exact ⟨by omega, fun y hy => by rw [List.drop_eq_nil_of_le (by omega)] at hy; cases hy⟩
    · exact ⟨rfl, trivial⟩
    · exact ⟨rfl, trivial⟩
    rintro t ⟨hr1, hr2⟩
    obtain ⟨y, hy⟩ : ∃ y, 0 < t → W[t - 1]? = some y := if h : 0 < t then (some_at (l := W) (i := t - 1) (by omega)).imp fun _ h _ => h else ⟨x, fun h2 => absurd h2 h⟩
    refine T_seq ?_
    refine T_seq ?_
    refine T_draws (by kernel_rfl) (by kernel_rfl) ?_
    refine d1 (y_move rfl rfl) ?_
    refine d1 (y_move rfl rfl) ?_
    refine d1 (y_bin rfl rfl rfl (fun _ => b_gtr)) ?_
    refine d1 (y_move rfl rfl) ?_
    refine dg rfl (y_move rfl rfl) ?_
    refine dg rfl (y_move rfl rfl) ?_
    refine dg rfl (y_move rfl rfl) ?_
    refine dg rfl (y_indexAddr rfl rfl rfl Tryz.underlying25 sz31 (fun hg => hA (by simp only [Bool.true_and, Bool.and_eq_true, beq_iff_eq, decide_eq_true_eq, decide_eq_false_iff_not, Int.not_lt, Int.not_le] at hg; omega)) (fun hg => by simp only [Bool.true_and, Bool.and_eq_true, beq_iff_eq, decide_eq_true_eq, decide_eq_false_iff_not, Int.not_lt, Int.not_le] at hg; omega)) ?_
    refine dg rfl (y_loadO 0 rfl rfl rfl (by rw [insL_len]; simp only [List.length_append]; omega) (fun _ => rfl) (fun _ => insL_at (by omega) (by omega)) Tryz.underlying31 rfl sz31) ?_
    refine dg rfl (y_move rfl rfl) ?_
    refine dg rfl (y_move rfl rfl) ?_
    refine dg rfl (y_bin rfl rfl rfl (fun hg => b_subv (((a + t - 1 : Nat) : Int)) (by simp only [Bool.true_and, Bool.and_eq_true, beq_iff_eq, decide_eq_true_eq, decide_eq_false_iff_not, Int.not_lt, Int.not_le] at hg; omega) (by simp only [Bool.true_and, Bool.and_eq_true, beq_iff_eq, decide_eq_true_eq, decide_eq_false_iff_not, Int.not_lt, Int.not_le] at hg; omega))) ?_
    refine dg rfl (y_indexAddr rfl rfl rfl Tryz.underlying25 sz31 (fun hg => hA (by simp only [Bool.true_and, Bool.and_eq_true, beq_iff_eq, decide_eq_true_eq, decide_eq_false_iff_not, Int.not_lt, Int.not_le] at hg; omega)) (fun hg => by simp only [Bool.true_and, Bool.and_eq_true, beq_iff_eq, decide_eq_true_eq, decide_eq_false_iff_not, Int.not_lt, Int.not_le] at hg; omega)) ?_
    refine dg rfl (y_loadO 0 rfl rfl rfl (by rw [insL_len]; simp only [List.length_append]; omega) (fun _ => rfl) (fun hg => insL_lo (t := t) (i := t - 1) (by simp only [Bool.true_and, Bool.and_eq_true, beq_iff_eq, decide_eq_true_eq, decide_eq_false_iff_not, Int.not_lt, Int.not_le] at hg; omega) (hy (by simp only [Bool.true_and, Bool.and_eq_true, beq_iff_eq, decide_eq_true_eq, decide_eq_false_iff_not, Int.not_lt, Int.not_le] at hg; omega)) (by simp only [Bool.true_and, Bool.and_eq_true, beq_iff_eq, decide_eq_true_eq, decide_eq_false_iff_not, Int.not_lt, Int.not_le] at hg; omega)) Tryz.underlying31 rfl sz31) ?_
    refine dg rfl (y_call rfl rfl rfl hcf (fun _ w hM => hcmp x y w _ hM rfl)) ?_
    refine dg rfl (y_bin rfl rfl rfl (fun _ => b_lss)) ?_
    refine d1 (y_and rfl rfl rfl) ?_
    refine dgo ?_
    refine T_cond rfl ?_ ?_ <;> intro h34
    · skip
      simp only [Bool.and_eq_true, decide_eq_true_eq] at h34
      obtain ⟨s, rfl⟩ : ∃ s, t = s + 1 := ⟨t - 1, by omega⟩
      have hy1 : W[s]? = some y := hy (by omega)
      have hxy : R x y := (pair_at hP (hp3.mem_iff.1 (mem_at hy1)) hx).1 h34.2
      refine kgs ?_
      refine T_block ?_
      refine T_perm [0, 1, 2, 3, 4, 5, 6, 7, 8, 9, 10, 11, 12, 13, 14, 15, 16, 17] [true, true, true, true, true, true, true, true, true, true, true, true, true, true, true, false, true, false] [0, 0, 0, 0, 8, 0, 0, 64, 224, 480, 0, 0, 3072, 7168, 16355, 32739, 65535, 131071] [(9, [0]), (13, [0])] (by kernel_rfl) (by kernel_rfl) (by kernel_rfl) rfl (by kernel_rfl) ?_
      refine Rf_ 0 37 rfl rfl rfl rfl rfl _ trivial (Y.z (y_move rfl rfl) rfl) ?_
      refine Rf_ 1 38 rfl rfl rfl rfl rfl _ trivial (Y.z (y_move rfl rfl) rfl) ?_
      refine Rf_ 2 39 rfl rfl rfl rfl rfl _ trivial (Y.z (y_move rfl rfl) rfl) ?_
      refine Rf_ 3 40 rfl rfl rfl rfl rfl _ trivial (Y.z (y_move rfl rfl) rfl) ?_
      refine Rf_ 4 41 rfl rfl rfl rfl rfl _ trivial (Y.z (y_bin rfl rfl rfl (fun hg => b_subv (((a + s : Nat) : Int)) (by omega) (by omega))) rfl) ?_
      refine Rf_ 5 42 rfl rfl rfl rfl rfl _ trivial (Y.z (y_move rfl rfl) rfl) ?_
      refine Rf_ 6 43 rfl rfl rfl rfl rfl _ trivial (Y.z (y_move rfl rfl) rfl) ?_
      refine Rf_ 7 44 rfl rfl rfl rfl rfl _ trivial (Y.z (y_bin rfl rfl rfl (fun hg => b_subv (((a + s : Nat) : Int)) (by omega) (by omega))) rfl) ?_
      refine Rf_ 8 45 rfl rfl rfl rfl rfl _ trivial (Y.z (y_indexAddr rfl rfl rfl Tryz.underlying25 sz31 (fun hg => hA (by omega)) (fun _ => by omega)) rfl) ?_
      refine Rf_ 9 46 rfl rfl rfl rfl rfl _ ⟨rfl, trivial⟩ (Y.z (y_loadO 0 rfl rfl rfl (by rw [insL_len]; simp only [List.length_append]; omega) (fun _ => rfl) (fun _ => insL_prev hy1 (by omega)) Tryz.underlying31 rfl sz31) rfl) ?_
      refine Rf_ 10 47 rfl rfl rfl rfl rfl _ trivial (Y.z (y_move rfl rfl) rfl) ?_
      refine Rf_ 11 48 rfl rfl rfl rfl rfl _ trivial (Y.z (y_move rfl rfl) rfl) ?_
      refine Rf_ 12 49 rfl rfl rfl rfl rfl _ trivial (Y.z (y_indexAddr rfl rfl rfl Tryz.underlying25 sz31 (fun hg => hA (by omega)) (fun _ => by omega)) rfl) ?_
      refine Rf_ 13 50 rfl rfl rfl rfl rfl _ ⟨rfl, trivial⟩ (Y.z (y_loadO 0 rfl rfl rfl (by rw [insL_len]; simp only [List.length_append]; omega) (fun _ => rfl) (fun _ => insL_at (by omega) (by omega)) Tryz.underlying31 rfl sz31) rfl) ?_
      refine Rf_ 14 51 rfl rfl rfl rfl rfl _ trivial (Y.z (y_indexAddr rfl rfl rfl Tryz.underlying25 sz31 (fun hg => hA (by omega)) (fun _ => by omega)) rfl) ?_
      refine R_chain 15 rfl rfl ?_
      refine S_storeEl 0 rfl rfl rfl rfl rfl rfl sz31 rfl rfl rfl ?_ (xs' := ((insL X W x (s + 1) (P.drop (k + 1) ++ Yt)).set (a + (s + 1)) y).flatMap Evt.enc) ?_ ?_
      · omega
      · exact flat_setE (enc := Evt.enc) (size := 9) (fun _ => rfl) (by rw [insL_len]; simp only [List.length_append]; omega)
      refine R_next ⟨.inl rfl, .inl rfl, trivial⟩ ?_
      refine Rf_ 16 52 rfl rfl rfl rfl rfl _ trivial (Y.z (y_indexAddr rfl rfl rfl Tryz.underlying25 sz31 (fun hg => hA (by omega)) (fun _ => by omega)) rfl) ?_
      refine R_chain 17 rfl rfl ?_
      refine S_storeEl 0 rfl rfl rfl rfl rfl rfl sz31 rfl rfl rfl ?_ (xs' := (insL X W x s (P.drop (k + 1) ++ Yt)).flatMap Evt.enc) ?_ ?_
      · omega
      · rw [flat_setE (enc := Evt.enc) (size := 9) (fun _ => rfl) (by rw [List.length_set, insL_len]; simp only [List.length_append]; omega), insL_dn hy1 (by omega) (by omega)]
      refine R_next ⟨.inl rfl, .inl rfl, trivial⟩ ?_
      refine R_go (fun _ _ h => h) ?_
      refine T_region ?_
      refine sr 1 ?_
      refine s1 (y_bin rfl rfl rfl (fun hg => b_subv (((a + s : Nat) : Int)) (by omega) (by omega))) ?_
      refine sr 1 ?_
      refine S_nil (nK1 (kf := [(9, 9), (18, 52)]) (kl := [(0, 0), (9, 9), (18, 52)]) s ?_ ?_ ?_ ?_)
      · omega
      · exact ⟨by omega, fun z hz => by
          rw [drop_at hy1] at hz
          rcases List.mem_cons.1 hz with rfl | hz
          · exact hxy
          · exact hr2 z hz⟩
      · exact ⟨rfl, trivial⟩
      · exact ⟨rfl, trivial⟩
    have hend : 0 < t → ¬ cf x y < 0 := fun h => by
      simp only [Bool.and_eq_false_iff, decide_eq_false_iff_not] at h34
      omega
    rw [insL_fold]
    refine egr ?_
    refine sr 1 ?_
    refine s1 (y_bin rfl rfl rfl (fun hg => b_addv (((a + (k + 1) : Nat) : Int)) (by omega) (by omega))) ?_
    refine sr 1 ?_
    refine S_nil (nK2 (kf := [(8, 9), (12, 52)]) (kl := [(0, 0), (8, 9), (12, 52)]) (k + 1) (W.take t ++ x :: W.drop t) ?_ ?_ ?_ ?_)
    · omega
    · exact ⟨by omega, .inl (by omega), ins_perm.trans ((hp3.cons x).trans (by rw [take_snoc hx]; exact (List.perm_append_comm (l₁ := [x])))), ins_sorted tr hp4 (by omega) (fun z h0 hz => by rw [hy h0] at hz; obtain rfl := Option.some.inj hz; exact (pair_at hP (hp3.mem_iff.1 (mem_at (hy h0))) hx).2 (hend h0)) (fun z hz => hr2 z (by rw [drop_at hz]; exact List.mem_cons_self))⟩
    · exact ⟨rfl, trivial⟩
    · exact ⟨rfl, trivial⟩
  try simp only [nrm] at h14
  refine T_exit (fun a w hF hM => hRn a w (post0 rfl (fun w hM => ?_) a w hF hM))
  have hk : P.length ≤ k := by omega
  exact ⟨W, rfl, ⟨by rwa [List.take_of_length_le hk] at hp3, hp4⟩, hM.keep (ks := [(0, 999)]) (by repeat (first | exact kl_rest (by assumption) rfl | (apply kl_in; focus rfl))) _ ⟨by rw [List.drop_eq_nil_of_le hk, List.append_nil]; rfl, rfl, trivial⟩⟩
end Go.Proofs.YtekbcbjimajnfaaGreatDoor
end
section
namespace Go.Proofs.YtekbcbjimajnfaaGreatDoor
set_option linter.unusedSimpArgs false
set_option linter.unusedVariables false
set_option maxRecDepth 20000
open Go.RowKit Go.Eng
/-- i elements from each end are turned -/
def revS (l : List Evt) (i : Nat) : List Evt := (List.range l.length).map fun k => if k < i ∨ l.length - i ≤ k then l[l.length - 1 - k]! else l[k]!
theorem revS_len (l : List Evt) (i : Nat) : (revS l i).length = l.length := by simp [revS]
theorem revS_at {l : List Evt} {i k : Nat} (h : k < l.length) : (revS l i)[k]? = some (if k < i ∨ l.length - i ≤ k then l[l.length - 1 - k]! else l[k]!) := by
  unfold revS
  rw [List.getElem?_map, List.getElem?_range h]; rfl
theorem revS_zero (l : List Evt) : revS l 0 = l := by
  refine List.ext_getElem? fun k => ?_
  by_cases h : k < l.length
  · rw [revS_at h, if_neg (by omega), List.getElem!_eq_getElem?_getD, List.getElem?_eq_getElem h]; rfl
  · rw [List.getElem?_eq_none (by rw [revS_len]; omega), List.getElem?_eq_none (by omega)]
theorem revS_end {l : List Evt} {i : Nat} (h : l.length ≤ 2 * i + 1) : revS l i = l.reverse := by
  refine List.ext_getElem? fun k => ?_
  by_cases hk : k < l.length
  · rw [revS_at hk, List.getElem?_reverse hk, List.getElem?_eq_getElem (by omega)]
    congr 1
    split
    · rw [List.getElem!_eq_getElem?_getD, List.getElem?_eq_getElem (by omega)]; rfl
    · have e : l.length - 1 - k = k := by omega
      rw [List.getElem!_eq_getElem?_getD, List.getElem?_eq_getElem hk]
      simp only [e]; rfl
  · rw [List.getElem?_eq_none (by rw [revS_len]; omega), List.getElem?_eq_none (by rw [List.length_reverse]; omega)]
theorem revS_step {l : List Evt} {i : Nat} (h : 2 * i + 2 ≤ l.length) : ((revS l i).set i l[l.length - 1 - i]!).set (l.length - 1 - i) l[i]! = revS l (i + 1) := by
  refine List.ext_getElem? fun k => ?_
  by_cases hk : k < l.length
  · rw [List.getElem?_set, List.getElem?_set, List.length_set, revS_len, revS_at hk, revS_at hk]
    by_cases h1 : l.length - 1 - i = k
    · rw [if_pos h1, if_pos (by omega), if_pos (by omega)]
      have e : l.length - 1 - k = i := by omega
      rw [e]
    · rw [if_neg h1]
      by_cases h2 : i = k
      · subst h2; rw [if_pos rfl, if_pos hk, if_pos (by omega)]
      · rw [if_neg h2]
        congr 1
        by_cases h3 : k < i ∨ l.length - i ≤ k
        · rw [if_pos h3, if_pos (by omega)]
        · rw [if_neg h3, if_neg (by omega)]
  · rw [List.getElem?_eq_none (by rw [List.length_set, List.length_set, revS_len]; omega), List.getElem?_eq_none (by rw [revS_len]; omega)]
theorem Reverse_any {w0 : World} {K : HL} (hK : FromK K) (A : Option Addr) (q c : Nat) (l : List Evt) (hq : l.length = q) (hqm : q ≤ 1000000000) (w : World)
    (hM0 : Mem w0 ([(0, .own 31 9 (.slice A q c) q (l.flatMap Evt.enc))] ++ K) w) :
    Calls Tryz.prog 60 #[.slice A q c] w fun e w' => ∃ _ : Unit, e = .returned (.tuple #[]) ∧ True ∧ Mem w0 ([(0, .own 31 9 (.slice A q c) q (l.reverse.flatMap Evt.enc))] ++ K) w' := by
  rw [← revS_zero l] at hM0
  refine enterM_args (args := [.slice A q c]) (F := _) hM0 Tryz.func60 rfl Tryz.ntmps60 rfl rfl ?_
  intro Rb hRb hRn
  refine T_some 0 rfl fun hA => ?_
  refine tx ?_
  refine sr 1 ?_
  refine s1 (y_len_slice rfl rfl Tryz.underlying25) ?_
  refine s1 (y_as (v' := .int .i64 ((q : Int) - 1 - ((0 : Nat) : Int))) (by congr 1; omega) (y_bin rfl rfl rfl (fun hg => b_sub (by omega)))) ?_
  refine sr 2 ?_
  refine sgo ?_
  refine T_block ?_
  refine lK1 (kf := [(2, 3), (7, 27)]) (kl := [(0, 0), (2, 3), (7, 27)]) (fun (i : Nat) => [(2, true, .int .i64 (i : Int)), (3, true, .int .i64 ((q : Int) - 1 - (i : Int)))]) (fun (i : Nat) => [(0, .own 31 9 (.slice A q c) q ((revS l i).flatMap Evt.enc))]) (fun (i : Nat) => 2 * i ≤ q) (fun (i : Nat) => q - i) 0 ?_ ?_ ?_ ?_
  · omega
  · exact ⟨rfl, rfl, trivial⟩
  · exact ⟨rfl, trivial⟩
  rintro i hp1
  refine T_seq ?_
  refine tx ?_
  refine sr 3 ?_
  refine sgo ?_
  refine T_cond rfl ?_ ?_ <;> intro h9
  · try simp only [nrm] at h9
    have hu : (revS l i)[i]? = some l[i]! := by rw [revS_at (by omega), if_neg (by omega)]
    have hv : (revS l i)[q - 1 - i]? = some l[l.length - 1 - i]! := by rw [revS_at (by omega), if_neg (by omega), hq]
    refine kgs ?_
    refine T_block ?_
    refine T_perm [0, 1, 2, 3, 4, 5, 6, 7, 8, 9, 10, 11, 12, 13, 14, 15] [true, true, true, true, true, true, true, true, true, true, true, true, true, false, true, false] [0, 0, 0, 0, 0, 0, 48, 112, 0, 0, 768, 1792, 4083, 8179, 16383, 32767] [(7, [0]), (11, [0])] (by kernel_rfl) (by kernel_rfl) (by kernel_rfl) rfl (by kernel_rfl) ?_
    refine Rf_ 0 14 rfl rfl rfl rfl rfl _ trivial (Y.z (y_move rfl rfl) rfl) ?_
    refine Rf_ 1 15 rfl rfl rfl rfl rfl _ trivial (Y.z (y_move rfl rfl) rfl) ?_
    refine Rf_ 2 16 rfl rfl rfl rfl rfl _ trivial (Y.z (y_move rfl rfl) rfl) ?_
    refine Rf_ 3 17 rfl rfl rfl rfl rfl _ trivial (Y.z (y_as (v' := .int .i64 ((q - 1 - i : Nat) : Int)) (by congr 1; omega) (y_move rfl rfl)) rfl) ?_
    refine Rf_ 4 18 rfl rfl rfl rfl rfl _ trivial (Y.z (y_move rfl rfl) rfl) ?_
    refine Rf_ 5 19 rfl rfl rfl rfl rfl _ trivial (Y.z (y_as (v' := .int .i64 ((q - 1 - i : Nat) : Int)) (by congr 1; omega) (y_move rfl rfl)) rfl) ?_
    refine Rf_ 6 20 rfl rfl rfl rfl rfl _ trivial (Y.z (y_indexAddr rfl rfl rfl Tryz.underlying25 sz31 (fun hg => hA (by omega)) (fun _ => by omega)) rfl) ?_
    refine Rf_ 7 21 rfl rfl rfl rfl rfl _ ⟨rfl, trivial⟩ (Y.z (y_loadO 0 rfl rfl rfl (by rw [revS_len]; omega) (fun _ => rfl) (fun _ => hv) Tryz.underlying31 rfl sz31) rfl) ?_
    refine Rf_ 8 22 rfl rfl rfl rfl rfl _ trivial (Y.z (y_move rfl rfl) rfl) ?_
    refine Rf_ 9 23 rfl rfl rfl rfl rfl _ trivial (Y.z (y_move rfl rfl) rfl) ?_
    refine Rf_ 10 24 rfl rfl rfl rfl rfl _ trivial (Y.z (y_indexAddr rfl rfl rfl Tryz.underlying25 sz31 (fun hg => hA (by omega)) (fun _ => by omega)) rfl) ?_
    refine Rf_ 11 25 rfl rfl rfl rfl rfl _ ⟨rfl, trivial⟩ (Y.z (y_loadO 0 rfl rfl rfl (by rw [revS_len]; omega) (fun _ => rfl) (fun _ => hu) Tryz.underlying31 rfl sz31) rfl) ?_
    refine Rf_ 12 26 rfl rfl rfl rfl rfl _ trivial (Y.z (y_indexAddr rfl rfl rfl Tryz.underlying25 sz31 (fun hg => hA (by omega)) (fun _ => by omega)) rfl) ?_
    refine R_chain 13 rfl rfl ?_
    refine S_storeEl 0 rfl rfl rfl rfl rfl rfl sz31 rfl rfl rfl ?_ (xs' := ((revS l i).set i l[l.length - 1 - i]!).flatMap Evt.enc) ?_ ?_
    · omega
    · exact flat_setE (enc := Evt.enc) (size := 9) (fun _ => rfl) (by rw [revS_len]; omega)
    refine R_next ⟨.inl rfl, .inl rfl, trivial⟩ ?_
    refine Rf_ 14 27 rfl rfl rfl rfl rfl _ trivial (Y.z (y_indexAddr rfl rfl rfl Tryz.underlying25 sz31 (fun hg => hA (by omega)) (fun _ => by omega)) rfl) ?_
    refine R_chain 15 rfl rfl ?_
    refine S_storeEl 0 rfl rfl rfl rfl rfl rfl sz31 rfl rfl rfl ?_ (xs' := (revS l (i + 1)).flatMap Evt.enc) ?_ ?_
    · omega
    · rw [flat_setE (enc := Evt.enc) (size := 9) (fun _ => rfl) (by rw [List.length_set, revS_len]; omega), ← revS_step (by omega), hq]
    refine R_next ⟨.inl rfl, .inl rfl, trivial⟩ ?_
    refine R_go (fun _ _ h => h) ?_
    refine T_region ?_
    refine sr 1 ?_
    refine s1 (y_bin rfl rfl rfl (fun hg => b_addv (((i + 1 : Nat) : Int)) (by omega) (by omega))) ?_
    refine sr 1 ?_
    refine s1 (y_as (v' := .int .i64 ((q : Int) - 1 - ((i + 1 : Nat) : Int))) (by congr 1; omega) (y_bin rfl rfl rfl (fun hg => b_sub (by omega)))) ?_
    refine sr 2 ?_
    refine S_nil (nK1 (kf := [(2, 3), (7, 27)]) (kl := [(0, 0), (2, 3), (7, 27)]) (i + 1) ?_ ?_ ?_ ?_)
    · omega
    · omega
    · exact ⟨rfl, rfl, trivial⟩
    · exact ⟨rfl, trivial⟩
  try simp only [nrm] at h9
  refine T_exit (fun a w hF hM => hRn a w (post0 rfl (fun w hM => ?_) a w hF hM))
  exact ⟨(), rfl, trivial, hM.keep (ks := [(0, 999)]) (by repeat (first | exact kl_rest (by assumption) rfl | (apply kl_in; focus rfl))) _ ⟨by rw [← revS_end (l := l) (i := i) (by omega)]; rfl, trivial⟩⟩
end Go.Proofs.YtekbcbjimajnfaaGreatDoor
end
section
namespace Go.Proofs.YtekbcbjimajnfaaGreatDoor
set_option linter.unusedSimpArgs false
set_option linter.unusedVariables false
set_option maxRecDepth 20000
open Go.RowKit Go.Eng
theorem cut4 {α : Type} {X U V Y : List α} {i e : Nat} : X ++ (U ++ V) ++ Y = (X ++ U.take i) ++ (U.drop i ++ V.take e) ++ (V.drop e ++ Y) := by
  have h : (X ++ U.take i) ++ (U.drop i ++ V.take e) ++ (V.drop e ++ Y) = X ++ ((U.take i ++ U.drop i) ++ (V.take e ++ V.drop e)) ++ Y := by simp only [List.append_assoc]
  rw [h, List.take_append_drop, List.take_append_drop]
theorem rotV_any {w0 : World} {K : HL} (hK : FromK K) (cf : Value) (A : Option Addr) (q c : Nat) (X U V Yt : List Evt) (a m b : Nat) (ha : X.length = a) (hm : a + U.length = m) (hb : m + V.length = b) (hU : 0 < U.length) (hV : 0 < V.length) (hq : (X ++ (U ++ V) ++ Yt).length = q) (hqm : q ≤ 1000000000) (w : World)
    (hM0 : Mem w0 ([(0, .own 31 9 (.slice A q c) q ((X ++ (U ++ V) ++ Yt).flatMap Evt.enc))] ++ K) w) :
    Calls Tryz.prog 218 #[.slice A q c, .int .i64 (a : Int), .int .i64 (m : Int), .int .i64 (b : Int), cf] w fun e w' => ∃ _ : Unit, e = .returned (.tuple #[]) ∧ True ∧ Mem w0 ([(0, .own 31 9 (.slice A q c) q ((X ++ (V ++ U) ++ Yt).flatMap Evt.enc))] ++ K) w' := by
  simp only [List.length_append] at hq
  refine enterM_args (args := [.slice A q c, .int .i64 (a : Int), .int .i64 (m : Int), .int .i64 (b : Int), cf]) (F := _) hM0 Tryz.func218 rfl Tryz.ntmps218 rfl rfl ?_
  intro Rb hRb hRn
  refine T_some 0 rfl fun hA => ?_
  refine tx ?_
  refine sr 2 ?_
  refine s1 (y_bin rfl rfl rfl (fun hg => b_subv (((U.length : Nat) : Int)) (by omega) (by omega))) ?_
  refine sr 1 ?_
  refine sgx ?_
  refine sr 2 ?_
  refine s1 (y_bin rfl rfl rfl (fun hg => b_subv (((V.length : Nat) : Int)) (by omega) (by omega))) ?_
  refine sr 1 ?_
  refine sgs ?_
  refine T_block ?_
  refine lK4 (kf := [(10, 11), (18, 49)]) (kl := [(0, 0), (10, 11), (18, 49)]) (fun (x1 u v y1 : List Evt) => [(10, true, .int .i64 ((u.length : Nat) : Int)), (11, true, .int .i64 ((v.length : Nat) : Int))]) (fun (x1 u v y1 : List Evt) => [(0, .own 31 9 (.slice A q c) q ((x1 ++ (u ++ v) ++ y1).flatMap Evt.enc))]) (fun (x1 u v y1 : List Evt) => 0 < u.length ∧ 0 < v.length ∧ x1.length + u.length = m ∧ m + v.length ≤ b ∧ x1.length + u.length + v.length + y1.length = q ∧ x1 ++ (v ++ u) ++ y1 = X ++ (V ++ U) ++ Yt) (fun (x1 u v y1 : List Evt) => u.length + v.length) X U V Yt ?_ ?_ ?_ ?_
  · exact ⟨hU, hV, by omega, by omega, by omega, rfl⟩
  · exact ⟨rfl, rfl, trivial⟩
  · exact ⟨rfl, trivial⟩
  rintro x1 u v y1 ⟨hp1, hp2, hp3, hp4, hp5, hp6⟩
  refine T_seq ?_
  refine tx ?_
  refine sr 3 ?_
  refine sgo ?_
  refine T_cond rfl ?_ ?_ <;> intro h20
  · try simp only [nrm] at h20
    have h20 : ¬ u.length = v.length := by omega
    refine kgo ?_
    refine T_block ?_
    refine tx ?_
    refine sr 3 ?_
    refine sgo ?_
    refine T_cond rfl ?_ ?_ <;> intro h23
    · try simp only [nrm] at h23
      have hl1 : (u.drop v.length).length = u.length - v.length := List.length_drop
      have hl2 : (u.take v.length).length = v.length := by rw [List.length_take]; omega
      have hlu : u.length = v.length + (u.drop v.length).length := by omega
      rw [show x1 ++ (u ++ v) ++ y1 = x1 ++ u.take v.length ++ u.drop v.length ++ v ++ y1 from by rw [List.append_assoc x1 (u.take v.length), List.take_append_drop]; simp]
      refine tx ?_
      refine sr 3 ?_
      refine s1 (y_bin rfl rfl rfl (fun hg => b_subv (((x1.length : Nat) : Int)) (by omega) (by omega))) ?_
      refine sr 3 ?_
      refine S_callM 31 [(0, 0)] (X := Unit) rfl rfl rfl rfl rfl rfl rfl cf233 rfl (fun _ => .tuple #[]) (fun _ => True) (fun _ => [(0, .own 31 9 (.slice A q c) q ((x1 ++ v ++ u.drop v.length ++ u.take v.length ++ y1).flatMap Evt.enc))]) (fun _ => rfl) (fun _ => rfl) (fun K1 hK1 w hM => swapV_any hK1 cf A q c x1 (u.take v.length) (u.drop v.length) v y1 v.length x1.length m hl2 rfl rfl (by omega) (by simp only [List.length_append]; omega) hqm w hM) ?_
      intro _ _
      refine sgr ?_
      refine sr 2 ?_
      refine s1 (y_bin rfl rfl rfl (fun hg => b_subv ((((u.drop v.length).length : Nat) : Int)) (by omega) (by omega))) ?_
      refine sr 1 ?_
      rw [show x1 ++ v ++ u.drop v.length ++ u.take v.length ++ y1 = (x1 ++ v) ++ (u.drop v.length ++ u.take v.length) ++ y1 from by simp]
      rw [show Value.int IntKind.i64 ((v.length : Nat) : Int) = .int .i64 (((u.take v.length).length : Nat) : Int) from by rw [hl2]]
      refine S_nil (nK4 (kf := [(10, 11), (18, 49)]) (kl := [(0, 0), (10, 11), (18, 49)]) (x1 ++ v) (u.drop v.length) (u.take v.length) y1 ?_ ?_ ?_ ?_)
      · omega
      · exact ⟨by omega, by omega, by rw [List.length_append]; omega, by omega, by rw [List.length_append]; omega, by rw [← hp6, List.take_append_drop]; simp⟩
      · exact ⟨rfl, rfl, trivial⟩
      · exact ⟨rfl, trivial⟩
    try simp only [nrm] at h23
    have hl1 : (v.take (v.length - u.length)).length = v.length - u.length := by rw [List.length_take]; omega
    have hl2 : (v.drop (v.length - u.length)).length = u.length := by rw [List.length_drop]; omega
    rw [show x1 ++ (u ++ v) ++ y1 = x1 ++ u ++ v.take (v.length - u.length) ++ v.drop (v.length - u.length) ++ y1 from by rw [List.append_assoc (x1 ++ u), List.take_append_drop]; simp]
    refine tx ?_
    refine sr 3 ?_
    refine s1 (y_bin rfl rfl rfl (fun hg => b_subv (((x1.length : Nat) : Int)) (by omega) (by omega))) ?_
    refine sr 2 ?_
    refine s1 (y_bin rfl rfl rfl (fun hg => b_addv (((m + v.length : Nat) : Int)) (by omega) (by omega))) ?_
    refine sr 1 ?_
    refine s1 (y_bin rfl rfl rfl (fun hg => b_subv (((m + v.length - u.length : Nat) : Int)) (by omega) (by omega))) ?_
    refine sr 2 ?_
    refine S_callM 46 [(0, 0)] (X := Unit) rfl rfl rfl rfl rfl rfl rfl cf233 rfl (fun _ => .tuple #[]) (fun _ => True) (fun _ => [(0, .own 31 9 (.slice A q c) q ((x1 ++ v.drop (v.length - u.length) ++ v.take (v.length - u.length) ++ u ++ y1).flatMap Evt.enc))]) (fun _ => rfl) (fun _ => rfl) (fun K1 hK1 w hM => swapV_any hK1 cf A q c x1 u (v.take (v.length - u.length)) (v.drop (v.length - u.length)) y1 u.length x1.length (m + v.length - u.length) rfl hl2 rfl (by omega) (by simp only [List.length_append]; omega) hqm w hM) ?_
    intro _ _
    refine sgr ?_
    refine sr 2 ?_
    refine s1 (y_bin rfl rfl rfl (fun hg => b_subv ((((v.take (v.length - u.length)).length : Nat) : Int)) (by omega) (by omega))) ?_
    refine sr 1 ?_
    rw [show x1 ++ v.drop (v.length - u.length) ++ v.take (v.length - u.length) ++ u ++ y1 = x1 ++ (v.drop (v.length - u.length) ++ v.take (v.length - u.length)) ++ (u ++ y1) from by simp]
    rw [show Value.int IntKind.i64 ((u.length : Nat) : Int) = .int .i64 (((v.drop (v.length - u.length)).length : Nat) : Int) from by rw [hl2]]
    refine S_nil (nK4 (kf := [(10, 11), (18, 49)]) (kl := [(0, 0), (10, 11), (18, 49)]) x1 (v.drop (v.length - u.length)) (v.take (v.length - u.length)) (u ++ y1) ?_ ?_ ?_ ?_)
    · omega
    · exact ⟨by omega, by omega, by omega, by omega, by rw [List.length_append]; omega, by rw [← hp6, List.take_append_drop]; simp⟩
    · exact ⟨rfl, rfl, trivial⟩
    · exact ⟨rfl, trivial⟩
  try simp only [nrm] at h20
  have h20 : u.length = v.length := by omega
  rw [show x1 ++ (u ++ v) ++ y1 = x1 ++ u ++ [] ++ v ++ y1 from by simp]
  refine egr ?_
  refine sr 3 ?_
  refine s1 (y_bin rfl rfl rfl (fun hg => b_subv (((x1.length : Nat) : Int)) (by omega) (by omega))) ?_
  refine sr 3 ?_
  refine S_callM 57 [(0, 0)] (X := Unit) rfl rfl rfl rfl rfl rfl rfl cf233 rfl (fun _ => .tuple #[]) (fun _ => True) (fun _ => [(0, .own 31 9 (.slice A q c) q ((x1 ++ v ++ ([] : List Evt) ++ u ++ y1).flatMap Evt.enc))]) (fun _ => rfl) (fun _ => rfl) (fun K1 hK1 w hM => swapV_any hK1 cf A q c x1 u [] v y1 u.length x1.length m rfl h20.symm rfl (by simp only [List.length_nil]; omega) (by simp only [List.length_append, List.length_nil]; omega) hqm w hM) ?_
  intro _ _
  refine S_nil (fun a w hF hM => hRn a w (post0 rfl (fun w hM => ?_) a w hF hM))
  exact ⟨(), rfl, trivial, hM.keep (ks := [(0, 999)]) (by repeat (first | exact kl_rest (by assumption) rfl | (apply kl_in; focus rfl))) _ ⟨by rw [← hp6, show x1 ++ (v ++ u) ++ y1 = x1 ++ v ++ [] ++ u ++ y1 from by simp]; rfl, trivial⟩⟩
set_option maxHeartbeats 4000000 in
theorem symV_any {R : Evt → Evt → Prop} (tr : ∀ x y z, R x y → R y z → R x z) {cf : Evt → Evt → Int} (g : FuncId) (cap : Array Value) (hcf : ∀ args w, (callFunc g args).run Tryz.prog w = .ok (.enter g args) w)
    {w0 : World} {pit : It} (hcmp : ∀ x y w L, Mem w0 L w → HL.get L 901 = some pit → Calls Tryz.prog g (#[.agg (Evt.enc x).toArray, .agg (Evt.enc y).toArray] ++ cap) w fun e w' => e = .returned (.int .i64 (cf x y)) ∧ Below w.heap.size w w')
    : ∀ (N : Nat) {K : HL} (_ : FromK K) (A : Option Addr) (q c : Nat) (X U V Yt : List Evt) (a m b : Nat) (_ : X.length = a) (_ : a + U.length = m) (_ : m + V.length = b) (_ : U.length + V.length ≤ N) (_ : 0 < U.length) (_ : 0 < V.length) (_ : (X ++ (U ++ V) ++ Yt).length = q) (_ : q ≤ 1000000000)
      (_ : U.Pairwise R) (_ : V.Pairwise R) (_ : ∀ x ∈ U, ∀ y ∈ V, Cmp R cf x y) (w : World) (_ : Mem w0 ([(0, .own 31 9 (.slice A q c) q ((X ++ (U ++ V) ++ Yt).flatMap Evt.enc)), (901, pit)] ++ K) w),
    Calls Tryz.prog 170 #[.slice A q c, .int .i64 (a : Int), .int .i64 (m : Int), .int .i64 (b : Int), .func (.func g) #[] cap] w fun e w' => ∃ W : List Evt, e = .returned (.tuple #[]) ∧ (W.Perm (U ++ V) ∧ W.Pairwise R) ∧ Mem w0 ([(0, .own 31 9 (.slice A q c) q ((X ++ W ++ Yt).flatMap Evt.enc)), (901, pit)] ++ K) w' := by
  intro N
  induction N with
  | zero => intro K hK A q c X U V Yt a m b ha hm hb hN hU0; omega
  | succ N ih =>
  intro K hK A q c X U V Yt a m b ha hm hb hN hU0 hV0 hq hqm hU hV hC w hM0
  simp only [List.length_append] at hq
  refine enterM_args (args := [.slice A q c, .int .i64 (a : Int), .int .i64 (m : Int), .int .i64 (b : Int), .func (.func g) #[] cap]) (F := _) hM0 Tryz.func170 rfl Tryz.ntmps170 rfl rfl ?_
  intro Rb hRb hRn
  refine T_some 0 rfl fun hA => ?_
  refine T_seq ?_
  refine tx ?_
  refine sr 2 ?_
  refine s1 (y_bin rfl rfl rfl (fun hg => b_subv (((U.length : Nat) : Int)) (by omega) (by omega))) ?_
  refine sr 1 ?_
  refine sgo ?_
  refine T_cond rfl ?_ ?_ <;> intro h28
  · try simp only [nrm] at h28
    have h28 : U.length = 1 := by omega
    have hm1 : m = a + 1 := by omega
    obtain ⟨u, rfl⟩ := List.length_eq_one_iff.1 h28
    have hCu := hC u List.mem_cons_self
    rw [show X ++ ([u] ++ V) ++ Yt = insL X V u 0 Yt from by simp [insL]]
    refine tx ?_
    refine s1 (y_as (v' := .int .i64 ((a + 1 + 0 : Nat) : Int)) (by congr 1; omega) (y_move rfl rfl)) ?_
    refine sr 1 ?_
    refine sgx ?_
    refine s1 (y_as (v' := .int .i64 ((a + 1 + V.length : Nat) : Int)) (by congr 1; omega) (y_move rfl rfl)) ?_
    refine sr 1 ?_
    refine sgs ?_
    refine T_block ?_
    refine lK2 (kf := [(10, 12), (31, 53)]) (kl := [(10, 12), (31, 53)]) (fun (lo hi : Nat) => [(10, true, .int .i64 ((a + 1 + lo : Nat) : Int)), (11, true, .int .i64 ((a + 1 + hi : Nat) : Int))]) (fun (lo hi : Nat) => []) (fun (lo hi : Nat) => lo ≤ hi ∧ hi ≤ V.length ∧ (∀ y, 0 < lo → V[lo - 1]? = some y → cf y u < 0) ∧ (∀ y, V[hi]? = some y → ¬ cf y u < 0)) (fun (lo hi : Nat) => hi - lo) 0 V.length ?_ ?_ ?_ ?_
    · exact ⟨by omega, by omega, fun _ h => absurd h (by omega), fun y hy => absurd (List.getElem?_eq_some_iff.1 hy).1 (by omega)⟩
    · exact ⟨rfl, rfl, trivial⟩
    · exact trivial
    rintro lo hi ⟨hr1, hr2, hr3, hr4⟩
    refine T_seq ?_
    refine tx ?_
    refine sr 3 ?_
    refine sgo ?_
    refine T_cond rfl ?_ ?_ <;> intro h33
    · try simp only [nrm] at h33
      obtain ⟨md, hmd1, hmd2, hmd3⟩ : ∃ md, (a + 1 + lo + (a + 1 + hi)) / 2 = a + 1 + md ∧ lo ≤ md ∧ md < hi := ⟨(a + 1 + lo + (a + 1 + hi)) / 2 - (a + 1), by omega, by omega, by omega⟩
      obtain ⟨y, hy⟩ := some_at (l := V) (i := md) (by omega)
      refine kgo ?_
      refine T_block ?_
      refine tx ?_
      refine sr 2 ?_
      refine s1 (y_bin rfl rfl rfl (fun hg => b_addv (((a + 1 + lo + (a + 1 + hi) : Nat) : Int)) (by omega) (by omega))) ?_
      refine s1 (y_as (v' := .int .u64 ((a + 1 + lo + (a + 1 + hi) : Nat) : Int)) (by congr 1; exact wrap64_in (by omega)) (y_conv rfl rfl Tryz.underlying3 Tryz.underlying133)) ?_
      refine s1 (y_bin rfl rfl rfl (fun hg => b_shrv ((((a + 1 + lo + (a + 1 + hi)) / 2 : Nat) : Int)) (by decide) (by decide) (by first | (simp; done) | (simp; omega)))) ?_
      refine s1 (y_as (v' := .int .i64 ((a + 1 + md : Nat) : Int)) (by congr 1; omega) (y_conv64 rfl rfl Tryz.underlying133 Tryz.underlying3 (fun _ => by omega))) ?_
      refine sr 1 ?_
      refine sgs ?_
      refine T_draws (by kernel_rfl) (by kernel_rfl) ?_
      refine d1 (y_move rfl rfl) ?_
      refine d1 (y_move rfl rfl) ?_
      refine d1 (y_move rfl rfl) ?_
      refine d1 (y_indexAddr rfl rfl rfl Tryz.underlying25 sz31 (fun hg => hA (by omega)) (fun _ => by omega)) ?_
      refine d1 (y_loadO 0 rfl rfl rfl (by first | (rw [insL_len]; simp only [List.length_cons, List.length_nil] at *; omega) | (simp only [List.length_append]; omega)) (fun _ => rfl) (fun _ => insL_hi (Nat.zero_le _) hy (by omega)) Tryz.underlying31 rfl sz31) ?_
      refine d1 (y_move rfl rfl) ?_
      refine d1 (y_move rfl rfl) ?_
      refine d1 (y_indexAddr rfl rfl rfl Tryz.underlying25 sz31 (fun hg => hA (by omega)) (fun _ => by omega)) ?_
      refine d1 (y_loadO 0 rfl rfl rfl (by first | (rw [insL_len]; simp only [List.length_cons, List.length_nil] at *; omega) | (simp only [List.length_append]; omega)) (fun _ => rfl) (fun _ => insL_at (Nat.zero_le _) (by omega)) Tryz.underlying31 rfl sz31) ?_
      refine d1 (y_call rfl rfl rfl hcf (fun _ w hM => hcmp y u w _ hM rfl)) ?_
      refine d1 (y_bin rfl rfl rfl (fun _ => b_lss)) ?_
      refine dgo ?_
      refine T_cond rfl ?_ ?_ <;> intro h50
      · skip
        have h50 : cf y u < 0 := by simpa using h50
        refine T_region ?_
        refine sr 1 ?_
        refine s1 (y_bin rfl rfl rfl (fun hg => b_addv (((a + 1 + (md + 1) : Nat) : Int)) (by omega) (by omega))) ?_
        refine sr 1 ?_
        refine S_nil (nK2 (kf := [(10, 12), (31, 53)]) (kl := [(10, 12), (31, 53)]) (md + 1) hi ?_ ?_ ?_ ?_)
        · omega
        · exact ⟨by omega, by omega, fun z _ hz => by rw [Nat.add_sub_cancel, hy] at hz; obtain rfl := Option.some.inj hz; exact h50, hr4⟩
        · exact ⟨rfl, rfl, trivial⟩
        · exact trivial
      have h50 : ¬ cf y u < 0 := by simpa using h50
      refine T_region ?_
      refine sr 2 ?_
      refine S_nil (nK2 (kf := [(10, 12), (31, 53)]) (kl := [(10, 12), (31, 53)]) lo md ?_ ?_ ?_ ?_)
      · omega
      · exact ⟨by omega, by omega, hr3, fun z hz => by rw [hy] at hz; obtain rfl := Option.some.inj hz; exact h50⟩
      · exact ⟨rfl, rfl, trivial⟩
      · exact trivial
    try simp only [nrm] at h33
    have hlh : hi = lo := by omega
    refine egs ?_
    refine tx ?_
    refine s1 (y_as (v' := .int .i64 ((a + 0 : Nat) : Int)) (by exact rfl) (y_move rfl rfl)) ?_
    refine sr 1 ?_
    refine sgo ?_
    refine T_block ?_
    refine lK1 (kf := [(13, 13), (55, 76)]) (kl := [(0, 0), (13, 13), (55, 76)]) (fun (t : Nat) => [(13, true, .int .i64 ((a + t : Nat) : Int))]) (fun (t : Nat) => [(0, .own 31 9 (.slice A q c) q ((insL X V u t Yt).flatMap Evt.enc))]) (fun (t : Nat) => t ≤ lo) (fun (t : Nat) => lo - t) 0 ?_ ?_ ?_ ?_
    · omega
    · exact ⟨rfl, trivial⟩
    · exact ⟨rfl, trivial⟩
    rintro t ht1
    refine T_seq ?_
    refine tx ?_
    refine sr 2 ?_
    refine s1 (y_bin rfl rfl rfl (fun hg => b_subv (((a + lo : Nat) : Int)) (by omega) (by omega))) ?_
    refine sr 1 ?_
    refine sgo ?_
    refine T_cond rfl ?_ ?_ <;> intro h58
    · try simp only [nrm] at h58
      obtain ⟨y, hy⟩ := some_at (l := V) (i := t) (by omega)
      refine kgs ?_
      refine T_block ?_
      refine T_perm [0, 1, 2, 3, 4, 5, 6, 7, 8, 9, 10, 11, 12, 13, 14, 15, 16, 17] [true, true, true, true, true, true, true, true, true, true, true, true, true, true, true, false, true, false] [0, 0, 0, 0, 8, 0, 0, 64, 224, 480, 0, 0, 3072, 7168, 16355, 32739, 65535, 131071] [(9, [0]), (13, [0])] (by kernel_rfl) (by kernel_rfl) (by kernel_rfl) rfl (by kernel_rfl) ?_
      refine Rf_ 0 61 rfl rfl rfl rfl rfl _ trivial (Y.z (y_move rfl rfl) rfl) ?_
      refine Rf_ 1 62 rfl rfl rfl rfl rfl _ trivial (Y.z (y_move rfl rfl) rfl) ?_
      refine Rf_ 2 63 rfl rfl rfl rfl rfl _ trivial (Y.z (y_move rfl rfl) rfl) ?_
      refine Rf_ 3 64 rfl rfl rfl rfl rfl _ trivial (Y.z (y_move rfl rfl) rfl) ?_
      refine Rf_ 4 65 rfl rfl rfl rfl rfl _ trivial (Y.z (y_bin rfl rfl rfl (fun hg => b_addv (((a + t + 1 : Nat) : Int)) (by omega) (by omega))) rfl) ?_
      refine Rf_ 5 66 rfl rfl rfl rfl rfl _ trivial (Y.z (y_move rfl rfl) rfl) ?_
      refine Rf_ 6 67 rfl rfl rfl rfl rfl _ trivial (Y.z (y_move rfl rfl) rfl) ?_
      refine Rf_ 7 68 rfl rfl rfl rfl rfl _ trivial (Y.z (y_bin rfl rfl rfl (fun hg => b_addv (((a + t + 1 : Nat) : Int)) (by omega) (by omega))) rfl) ?_
      refine Rf_ 8 69 rfl rfl rfl rfl rfl _ trivial (Y.z (y_indexAddr rfl rfl rfl Tryz.underlying25 sz31 (fun hg => hA (by omega)) (fun _ => by omega)) rfl) ?_
      refine Rf_ 9 70 rfl rfl rfl rfl rfl _ ⟨rfl, trivial⟩ (Y.z (y_loadO 0 rfl rfl rfl (by first | (rw [insL_len]; simp only [List.length_cons, List.length_nil] at *; omega) | (simp only [List.length_append]; omega)) (fun _ => rfl) (fun _ => insL_next hy (by omega)) Tryz.underlying31 rfl sz31) rfl) ?_
      refine Rf_ 10 71 rfl rfl rfl rfl rfl _ trivial (Y.z (y_move rfl rfl) rfl) ?_
      refine Rf_ 11 72 rfl rfl rfl rfl rfl _ trivial (Y.z (y_move rfl rfl) rfl) ?_
      refine Rf_ 12 73 rfl rfl rfl rfl rfl _ trivial (Y.z (y_indexAddr rfl rfl rfl Tryz.underlying25 sz31 (fun hg => hA (by omega)) (fun _ => by omega)) rfl) ?_
      refine Rf_ 13 74 rfl rfl rfl rfl rfl _ ⟨rfl, trivial⟩ (Y.z (y_loadO 0 rfl rfl rfl (by first | (rw [insL_len]; simp only [List.length_cons, List.length_nil] at *; omega) | (simp only [List.length_append]; omega)) (fun _ => rfl) (fun _ => insL_at (by omega) (by omega)) Tryz.underlying31 rfl sz31) rfl) ?_
      refine Rf_ 14 75 rfl rfl rfl rfl rfl _ trivial (Y.z (y_indexAddr rfl rfl rfl Tryz.underlying25 sz31 (fun hg => hA (by omega)) (fun _ => by omega)) rfl) ?_
      refine R_chain 15 rfl rfl ?_
      refine S_storeEl 0 rfl rfl rfl rfl rfl rfl sz31 rfl rfl rfl ?_ (xs' := ((insL X V u t Yt).set (a + t) y).flatMap Evt.enc) ?_ ?_
      · omega
      · exact flat_setE (enc := Evt.enc) (size := 9) (fun _ => rfl) (by rw [insL_len]; omega)
      refine R_next ⟨.inl rfl, .inl rfl, trivial⟩ ?_
      refine Rf_ 16 76 rfl rfl rfl rfl rfl _ trivial (Y.z (y_indexAddr rfl rfl rfl Tryz.underlying25 sz31 (fun hg => hA (by omega)) (fun _ => by omega)) rfl) ?_
      refine R_chain 17 rfl rfl ?_
      refine S_storeEl 0 rfl rfl rfl rfl rfl rfl sz31 rfl rfl rfl ?_ (xs' := (insL X V u (t + 1) Yt).flatMap Evt.enc) ?_ ?_
      · omega
      · rw [flat_setE (enc := Evt.enc) (size := 9) (fun _ => rfl) (by rw [List.length_set, insL_len]; omega), insL_up hy (by omega) (by omega)]
      refine R_next ⟨.inl rfl, .inl rfl, trivial⟩ ?_
      refine R_go (fun _ _ h => h) ?_
      refine T_region ?_
      refine sr 1 ?_
      refine s1 (y_bin rfl rfl rfl (fun hg => b_addv (((a + (t + 1) : Nat) : Int)) (by omega) (by omega))) ?_
      refine sr 1 ?_
      refine S_nil (nK1 (kf := [(13, 13), (55, 76)]) (kl := [(0, 0), (13, 13), (55, 76)]) (t + 1) ?_ ?_ ?_ ?_)
      · omega
      · omega
      · exact ⟨rfl, trivial⟩
      · exact ⟨rfl, trivial⟩
    try simp only [nrm] at h58
    have htl : t = lo := by omega
    refine ego ?_
    refine tr0 hRb fun w hM => ?_
    exact ⟨V.take t ++ u :: V.drop t, rfl, ⟨ins_perm, ins_sorted tr hV (by omega) (fun y h0 hy => (hCu y (mem_at hy)).1 (hr3 y (by omega) (by rw [← htl]; exact hy))) (fun y hy => (hCu y (mem_at hy)).2 (hr4 y (by rw [hlh, ← htl]; exact hy)))⟩, hM.keep (ks := [(0, 999)]) (by repeat (first | exact kl_rest (by assumption) rfl | (apply kl_in; focus rfl))) _ ⟨rfl, rfl, trivial⟩⟩
  try simp only [nrm] at h28
  have h28 : 2 ≤ U.length := by omega
  refine kgs ?_
  refine tx ?_
  refine sr 2 ?_
  refine s1 (y_bin rfl rfl rfl (fun hg => b_subv (((V.length : Nat) : Int)) (by omega) (by omega))) ?_
  refine sr 1 ?_
  refine sgo ?_
  refine T_cond rfl ?_ ?_ <;> intro h80
  · try simp only [nrm] at h80
    have h80 : V.length = 1 := by omega
    obtain ⟨v, rfl⟩ := List.length_eq_one_iff.1 h80
    have hCv := fun x hx => hC x hx v List.mem_cons_self
    rw [show X ++ (U ++ [v]) ++ Yt = insL X U v U.length Yt from by simp [insL]]
    refine tx ?_
    refine s1 (y_as (v' := .int .i64 ((a + 0 : Nat) : Int)) (by exact rfl) (y_move rfl rfl)) ?_
    refine sr 1 ?_
    refine sgx ?_
    refine s1 (y_as (v' := .int .i64 ((a + U.length : Nat) : Int)) (by congr 1; omega) (y_move rfl rfl)) ?_
    refine sr 1 ?_
    refine sgs ?_
    refine T_block ?_
    refine lK2 (kf := [(14, 16), (83, 106)]) (kl := [(14, 16), (83, 106)]) (fun (lo hi : Nat) => [(14, true, .int .i64 ((a + lo : Nat) : Int)), (15, true, .int .i64 ((a + hi : Nat) : Int))]) (fun (lo hi : Nat) => []) (fun (lo hi : Nat) => lo ≤ hi ∧ hi ≤ U.length ∧ (∀ y, 0 < lo → U[lo - 1]? = some y → ¬ cf v y < 0) ∧ (∀ y, U[hi]? = some y → cf v y < 0)) (fun (lo hi : Nat) => hi - lo) 0 U.length ?_ ?_ ?_ ?_
    · exact ⟨by omega, by omega, fun _ h => absurd h (by omega), fun y hy => absurd (List.getElem?_eq_some_iff.1 hy).1 (by omega)⟩
    · exact ⟨rfl, rfl, trivial⟩
    · exact trivial
    rintro lo hi ⟨hr1, hr2, hr3, hr4⟩
    refine T_seq ?_
    refine tx ?_
    refine sr 3 ?_
    refine sgo ?_
    refine T_cond rfl ?_ ?_ <;> intro h85
    · try simp only [nrm] at h85
      obtain ⟨md, hmd1, hmd2, hmd3⟩ : ∃ md, (a + lo + (a + hi)) / 2 = a + md ∧ lo ≤ md ∧ md < hi := ⟨(a + lo + (a + hi)) / 2 - a, by omega, by omega, by omega⟩
      obtain ⟨y, hy⟩ := some_at (l := U) (i := md) (by omega)
      refine kgo ?_
      refine T_block ?_
      refine tx ?_
      refine sr 2 ?_
      refine s1 (y_bin rfl rfl rfl (fun hg => b_addv (((a + lo + (a + hi) : Nat) : Int)) (by omega) (by omega))) ?_
      refine s1 (y_as (v' := .int .u64 ((a + lo + (a + hi) : Nat) : Int)) (by congr 1; exact wrap64_in (by omega)) (y_conv rfl rfl Tryz.underlying3 Tryz.underlying133)) ?_
      refine s1 (y_bin rfl rfl rfl (fun hg => b_shrv ((((a + lo + (a + hi)) / 2 : Nat) : Int)) (by decide) (by decide) (by first | (simp; done) | (simp; omega)))) ?_
      refine s1 (y_as (v' := .int .i64 ((a + md : Nat) : Int)) (by congr 1; omega) (y_conv64 rfl rfl Tryz.underlying133 Tryz.underlying3 (fun _ => by omega))) ?_
      refine sr 1 ?_
      refine sgs ?_
      refine T_draws (by kernel_rfl) (by kernel_rfl) ?_
      refine d1 (y_move rfl rfl) ?_
      refine d1 (y_move rfl rfl) ?_
      refine d1 (y_move rfl rfl) ?_
      refine d1 (y_indexAddr rfl rfl rfl Tryz.underlying25 sz31 (fun hg => hA (by omega)) (fun _ => by omega)) ?_
      refine d1 (y_loadO 0 rfl rfl rfl (by first | (rw [insL_len]; simp only [List.length_cons, List.length_nil] at *; omega) | (simp only [List.length_append]; omega)) (fun _ => rfl) (fun _ => insL_at (Nat.le_refl _) (by omega)) Tryz.underlying31 rfl sz31) ?_
      refine d1 (y_move rfl rfl) ?_
      refine d1 (y_move rfl rfl) ?_
      refine d1 (y_indexAddr rfl rfl rfl Tryz.underlying25 sz31 (fun hg => hA (by omega)) (fun _ => by omega)) ?_
      refine d1 (y_loadO 0 rfl rfl rfl (by first | (rw [insL_len]; simp only [List.length_cons, List.length_nil] at *; omega) | (simp only [List.length_append]; omega)) (fun _ => rfl) (fun _ => insL_lo (by omega) hy (by omega)) Tryz.underlying31 rfl sz31) ?_
      refine d1 (y_call rfl rfl rfl hcf (fun _ w hM => hcmp v y w _ hM rfl)) ?_
      refine d1 (y_bin rfl rfl rfl (fun _ => b_lss)) ?_
      refine d1 (y_not rfl rfl) ?_
      refine dgo ?_
      refine T_cond rfl ?_ ?_ <;> intro h103
      · skip
        have h103 : ¬ cf v y < 0 := by simpa using h103
        refine T_region ?_
        refine sr 1 ?_
        refine s1 (y_bin rfl rfl rfl (fun hg => b_addv (((a + (md + 1) : Nat) : Int)) (by omega) (by omega))) ?_
        refine sr 1 ?_
        refine S_nil (nK2 (kf := [(14, 16), (83, 106)]) (kl := [(14, 16), (83, 106)]) (md + 1) hi ?_ ?_ ?_ ?_)
        · omega
        · exact ⟨by omega, by omega, fun z _ hz => by rw [Nat.add_sub_cancel, hy] at hz; obtain rfl := Option.some.inj hz; exact h103, hr4⟩
        · exact ⟨rfl, rfl, trivial⟩
        · exact trivial
      have h103 : cf v y < 0 := by simpa using h103
      refine T_region ?_
      refine sr 2 ?_
      refine S_nil (nK2 (kf := [(14, 16), (83, 106)]) (kl := [(14, 16), (83, 106)]) lo md ?_ ?_ ?_ ?_)
      · omega
      · exact ⟨by omega, by omega, hr3, fun z hz => by rw [hy] at hz; obtain rfl := Option.some.inj hz; exact h103⟩
      · exact ⟨rfl, rfl, trivial⟩
      · exact trivial
    try simp only [nrm] at h85
    have hlh : hi = lo := by omega
    refine egs ?_
    refine tx ?_
    refine s1 (y_as (v' := .int .i64 ((a + U.length : Nat) : Int)) (by congr 1; omega) (y_move rfl rfl)) ?_
    refine sr 1 ?_
    refine sgo ?_
    refine T_block ?_
    refine lK1 (kf := [(17, 17), (108, 128)]) (kl := [(0, 0), (17, 17), (108, 128)]) (fun (t : Nat) => [(17, true, .int .i64 ((a + t : Nat) : Int))]) (fun (t : Nat) => [(0, .own 31 9 (.slice A q c) q ((insL X U v t Yt).flatMap Evt.enc))]) (fun (t : Nat) => lo ≤ t ∧ t ≤ U.length) (fun (t : Nat) => t) U.length ?_ ?_ ?_ ?_
    · exact ⟨by omega, by omega⟩
    · exact ⟨rfl, trivial⟩
    · exact ⟨rfl, trivial⟩
    rintro t ⟨ht1, ht2⟩
    refine T_seq ?_
    refine tx ?_
    refine sr 3 ?_
    refine sgo ?_
    refine T_cond rfl ?_ ?_ <;> intro h110
    · try simp only [nrm] at h110
      obtain ⟨s, rfl⟩ : ∃ s, t = s + 1 := ⟨t - 1, by omega⟩
      obtain ⟨y, hy⟩ := some_at (l := U) (i := s) (by omega)
      refine kgs ?_
      refine T_block ?_
      refine T_perm [0, 1, 2, 3, 4, 5, 6, 7, 8, 9, 10, 11, 12, 13, 14, 15, 16, 17] [true, true, true, true, true, true, true, true, true, true, true, true, true, true, true, false, true, false] [0, 0, 0, 0, 8, 0, 0, 64, 224, 480, 0, 0, 3072, 7168, 16355, 32739, 65535, 131071] [(9, [0]), (13, [0])] (by kernel_rfl) (by kernel_rfl) (by kernel_rfl) rfl (by kernel_rfl) ?_
      refine Rf_ 0 113 rfl rfl rfl rfl rfl _ trivial (Y.z (y_move rfl rfl) rfl) ?_
      refine Rf_ 1 114 rfl rfl rfl rfl rfl _ trivial (Y.z (y_move rfl rfl) rfl) ?_
      refine Rf_ 2 115 rfl rfl rfl rfl rfl _ trivial (Y.z (y_move rfl rfl) rfl) ?_
      refine Rf_ 3 116 rfl rfl rfl rfl rfl _ trivial (Y.z (y_move rfl rfl) rfl) ?_
      refine Rf_ 4 117 rfl rfl rfl rfl rfl _ trivial (Y.z (y_bin rfl rfl rfl (fun hg => b_subv (((a + s : Nat) : Int)) (by omega) (by omega))) rfl) ?_
      refine Rf_ 5 118 rfl rfl rfl rfl rfl _ trivial (Y.z (y_move rfl rfl) rfl) ?_
      refine Rf_ 6 119 rfl rfl rfl rfl rfl _ trivial (Y.z (y_move rfl rfl) rfl) ?_
      refine Rf_ 7 120 rfl rfl rfl rfl rfl _ trivial (Y.z (y_bin rfl rfl rfl (fun hg => b_subv (((a + s : Nat) : Int)) (by omega) (by omega))) rfl) ?_
      refine Rf_ 8 121 rfl rfl rfl rfl rfl _ trivial (Y.z (y_indexAddr rfl rfl rfl Tryz.underlying25 sz31 (fun hg => hA (by omega)) (fun _ => by omega)) rfl) ?_
      refine Rf_ 9 122 rfl rfl rfl rfl rfl _ ⟨rfl, trivial⟩ (Y.z (y_loadO 0 rfl rfl rfl (by first | (rw [insL_len]; simp only [List.length_cons, List.length_nil] at *; omega) | (simp only [List.length_append]; omega)) (fun _ => rfl) (fun _ => insL_prev hy (by omega)) Tryz.underlying31 rfl sz31) rfl) ?_
      refine Rf_ 10 123 rfl rfl rfl rfl rfl _ trivial (Y.z (y_move rfl rfl) rfl) ?_
      refine Rf_ 11 124 rfl rfl rfl rfl rfl _ trivial (Y.z (y_move rfl rfl) rfl) ?_
      refine Rf_ 12 125 rfl rfl rfl rfl rfl _ trivial (Y.z (y_indexAddr rfl rfl rfl Tryz.underlying25 sz31 (fun hg => hA (by omega)) (fun _ => by omega)) rfl) ?_
      refine Rf_ 13 126 rfl rfl rfl rfl rfl _ ⟨rfl, trivial⟩ (Y.z (y_loadO 0 rfl rfl rfl (by first | (rw [insL_len]; simp only [List.length_cons, List.length_nil] at *; omega) | (simp only [List.length_append]; omega)) (fun _ => rfl) (fun _ => insL_at (by omega) (by omega)) Tryz.underlying31 rfl sz31) rfl) ?_
      refine Rf_ 14 127 rfl rfl rfl rfl rfl _ trivial (Y.z (y_indexAddr rfl rfl rfl Tryz.underlying25 sz31 (fun hg => hA (by omega)) (fun _ => by omega)) rfl) ?_
      refine R_chain 15 rfl rfl ?_
      refine S_storeEl 0 rfl rfl rfl rfl rfl rfl sz31 rfl rfl rfl ?_ (xs' := ((insL X U v (s + 1) Yt).set (a + (s + 1)) y).flatMap Evt.enc) ?_ ?_
      · omega
      · exact flat_setE (enc := Evt.enc) (size := 9) (fun _ => rfl) (by rw [insL_len]; omega)
      refine R_next ⟨.inl rfl, .inl rfl, trivial⟩ ?_
      refine Rf_ 16 128 rfl rfl rfl rfl rfl _ trivial (Y.z (y_indexAddr rfl rfl rfl Tryz.underlying25 sz31 (fun hg => hA (by omega)) (fun _ => by omega)) rfl) ?_
      refine R_chain 17 rfl rfl ?_
      refine S_storeEl 0 rfl rfl rfl rfl rfl rfl sz31 rfl rfl rfl ?_ (xs' := (insL X U v s Yt).flatMap Evt.enc) ?_ ?_
      · omega
      · rw [flat_setE (enc := Evt.enc) (size := 9) (fun _ => rfl) (by rw [List.length_set, insL_len]; omega), insL_dn hy (by omega) (by omega)]
      refine R_next ⟨.inl rfl, .inl rfl, trivial⟩ ?_
      refine R_go (fun _ _ h => h) ?_
      refine T_region ?_
      refine sr 1 ?_
      refine s1 (y_bin rfl rfl rfl (fun hg => b_subv (((a + s : Nat) : Int)) (by omega) (by omega))) ?_
      refine sr 1 ?_
      refine S_nil (nK1 (kf := [(17, 17), (108, 128)]) (kl := [(0, 0), (17, 17), (108, 128)]) s ?_ ?_ ?_ ?_)
      · omega
      · exact ⟨by omega, by omega⟩
      · exact ⟨rfl, trivial⟩
      · exact ⟨rfl, trivial⟩
    try simp only [nrm] at h110
    have htl : t = lo := by omega
    refine ego ?_
    refine tr0 hRb fun w hM => ?_
    exact ⟨U.take t ++ v :: U.drop t, rfl, ⟨ins_perm.trans (List.perm_append_comm (l₁ := [v])), ins_sorted tr hU (by omega) (fun y h0 hy => (hCv y (mem_at hy)).2 (hr3 y (by omega) (by rw [← htl]; exact hy))) (fun y hy => (hCv y (mem_at hy)).1 (hr4 y (by rw [hlh, ← htl]; exact hy)))⟩, hM.keep (ks := [(0, 999)]) (by repeat (first | exact kl_rest (by assumption) rfl | (apply kl_in; focus rfl))) _ ⟨rfl, rfl, trivial⟩⟩
  try simp only [nrm] at h80
  have h80 : 2 ≤ V.length := by omega
  obtain ⟨p, hp⟩ : ∃ p, (a + b) / 2 = a + p := ⟨(a + b) / 2 - a, by omega⟩
  have hpU : p + 1 ≤ U.length + V.length := by omega
  refine kgx ?_
  refine sr 2 ?_
  refine s1 (y_bin rfl rfl rfl (fun hg => b_addv (((a + b : Nat) : Int)) (by omega) (by omega))) ?_
  refine s1 (y_as (v' := .int .u64 ((a + b : Nat) : Int)) (by congr 1; exact wrap64_in (by omega)) (y_conv rfl rfl Tryz.underlying3 Tryz.underlying133)) ?_
  refine s1 (y_bin rfl rfl rfl (fun hg => b_shrv ((((a + b) / 2 : Nat) : Int)) (by decide) (by decide) (by first | (simp; done) | (simp; omega)))) ?_
  refine s1 (y_as (v' := .int .i64 ((a + p : Nat) : Int)) (by congr 1; omega) (y_conv64 rfl rfl Tryz.underlying133 Tryz.underlying3 (fun _ => by omega))) ?_
  refine sr 1 ?_
  refine sgx ?_
  refine sr 2 ?_
  refine s1 (y_bin rfl rfl rfl (fun hg => b_addv (((a + p + m : Nat) : Int)) (by omega) (by omega))) ?_
  refine sr 1 ?_
  refine sgx ?_
  refine sr 2 ?_
  refine sgs ?_
  refine tx ?_
  refine sr 3 ?_
  refine sgo ?_
  refine T_cond rfl ?_ ?_ <;> intro h140
  · try simp only [nrm] at h140
    refine tx ?_
    refine sr 2 ?_
    refine s1 (y_bin rfl rfl rfl (fun hg => b_subv (((a + (p - V.length) : Nat) : Int)) (by omega) (by omega))) ?_
    refine sr 1 ?_
    refine sgr ?_
    refine s1 (y_as (v' := .int .i64 ((a + min p U.length : Nat) : Int)) (by congr 1; omega) (y_move rfl rfl)) ?_
    refine sr 1 ?_
    refine sgx ?_
    refine sr 1 ?_
    refine s1 (y_bin rfl rfl rfl (fun hg => b_subv (((a + p + m - 1 : Nat) : Int)) (by omega) (by omega))) ?_
    refine sr 1 ?_
    refine sgs ?_
    refine T_block ?_
    refine lK2 (kf := [(20, 21), (23, 23), (149, 174)]) (kl := [(20, 21), (23, 23), (149, 174)]) (fun (i r : Nat) => [(20, true, .int .i64 ((a + i : Nat) : Int)), (21, true, .int .i64 ((a + r : Nat) : Int))]) (fun (i r : Nat) => []) (fun (i r : Nat) => p - V.length ≤ i ∧ i ≤ r ∧ r ≤ min p U.length ∧ (∀ x y, p - V.length < i → U[i - 1]? = some x → V[p - i]? = some y → R x y) ∧ (∀ x y, r < min p U.length → V[p - 1 - r]? = some x → U[r]? = some y → R x y)) (fun (i r : Nat) => r - i) (p - V.length) (min p U.length) ?_ ?_ ?_ ?_
    · exact ⟨by omega, by omega, by omega, fun x y h => absurd h (by omega), fun x y h => absurd h (by omega)⟩
    · exact ⟨rfl, rfl, trivial⟩
    · exact trivial
    rintro i r ⟨hq1, hq2, hq3, hq4, hq5⟩
    refine T_seq ?_
    refine tx ?_
    refine sr 3 ?_
    refine sgo ?_
    refine T_cond rfl ?_ ?_ <;> intro h151
    · try simp only [nrm] at h151
      obtain ⟨k, hk1, hk2, hk3⟩ : ∃ k, (a + i + (a + r)) / 2 = a + k ∧ i ≤ k ∧ k < r := ⟨(a + i + (a + r)) / 2 - a, by omega, by omega, by omega⟩
      obtain ⟨x, hx⟩ := some_at (l := U) (i := k) (by omega)
      obtain ⟨y, hy⟩ := some_at (l := V) (i := p - 1 - k) (by omega)
      have hCxy := hC x (mem_at hx) y (mem_at hy)
      refine kgo ?_
      refine T_block ?_
      refine tx ?_
      refine sr 2 ?_
      refine s1 (y_bin rfl rfl rfl (fun hg => b_addv (((a + i + (a + r) : Nat) : Int)) (by omega) (by omega))) ?_
      refine s1 (y_as (v' := .int .u64 ((a + i + (a + r) : Nat) : Int)) (by congr 1; exact wrap64_in (by omega)) (y_conv rfl rfl Tryz.underlying3 Tryz.underlying133)) ?_
      refine s1 (y_bin rfl rfl rfl (fun hg => b_shrv ((((a + i + (a + r)) / 2 : Nat) : Int)) (by decide) (by decide) (by first | (simp; done) | (simp; omega)))) ?_
      refine s1 (y_as (v' := .int .i64 ((a + k : Nat) : Int)) (by congr 1; omega) (y_conv64 rfl rfl Tryz.underlying133 Tryz.underlying3 (fun _ => by omega))) ?_
      refine sr 1 ?_
      refine sgs ?_
      refine T_draws (by kernel_rfl) (by kernel_rfl) ?_
      refine d1 (y_move rfl rfl) ?_
      refine d1 (y_move rfl rfl) ?_
      refine d1 (y_move rfl rfl) ?_
      refine d1 (y_move rfl rfl) ?_
      refine d1 (y_bin rfl rfl rfl (fun hg => b_subv (((m + (p - 1 - k) : Nat) : Int)) (by omega) (by omega))) ?_
      refine d1 (y_indexAddr rfl rfl rfl Tryz.underlying25 sz31 (fun hg => hA (by omega)) (fun _ => by omega)) ?_
      refine d1 (y_loadO 0 rfl rfl rfl (by first | (rw [insL_len]; simp only [List.length_cons, List.length_nil] at *; omega) | (simp only [List.length_append]; omega)) (fun _ => rfl) (fun _ => cat_v hy (by omega)) Tryz.underlying31 rfl sz31) ?_
      refine d1 (y_move rfl rfl) ?_
      refine d1 (y_move rfl rfl) ?_
      refine d1 (y_indexAddr rfl rfl rfl Tryz.underlying25 sz31 (fun hg => hA (by omega)) (fun _ => by omega)) ?_
      refine d1 (y_loadO 0 rfl rfl rfl (by first | (rw [insL_len]; simp only [List.length_cons, List.length_nil] at *; omega) | (simp only [List.length_append]; omega)) (fun _ => rfl) (fun _ => cat_u hx (by omega)) Tryz.underlying31 rfl sz31) ?_
      refine d1 (y_call rfl rfl rfl hcf (fun _ w hM => hcmp y x w _ hM rfl)) ?_
      refine d1 (y_bin rfl rfl rfl (fun _ => b_lss)) ?_
      refine d1 (y_not rfl rfl) ?_
      refine dgo ?_
      refine T_cond rfl ?_ ?_ <;> intro h171
      · skip
        have h171 : ¬ cf y x < 0 := by simpa using h171
        refine T_region ?_
        refine sr 1 ?_
        refine s1 (y_bin rfl rfl rfl (fun hg => b_addv (((a + (k + 1) : Nat) : Int)) (by omega) (by omega))) ?_
        refine sr 1 ?_
        refine S_nil (nK2 (kf := [(20, 21), (23, 23), (149, 174)]) (kl := [(20, 21), (23, 23), (149, 174)]) (k + 1) r ?_ ?_ ?_ ?_)
        · omega
        · exact ⟨by omega, by omega, by omega, fun x1 y1 _ hx1 hy1 => by
            rw [Nat.add_sub_cancel, hx] at hx1
            rw [show p - (k + 1) = p - 1 - k by omega, hy] at hy1
            obtain rfl := Option.some.inj hx1
            obtain rfl := Option.some.inj hy1
            exact hCxy.2 h171, hq5⟩
        · exact ⟨rfl, rfl, trivial⟩
        · exact trivial
      have h171 : cf y x < 0 := by simpa using h171
      refine T_region ?_
      refine sr 2 ?_
      refine S_nil (nK2 (kf := [(20, 21), (23, 23), (149, 174)]) (kl := [(20, 21), (23, 23), (149, 174)]) i k ?_ ?_ ?_ ?_)
      · omega
      · exact ⟨by omega, by omega, by omega, hq4, fun x1 y1 _ hx1 hy1 => by
          rw [hy] at hx1
          rw [hx] at hy1
          obtain rfl := Option.some.inj hx1
          obtain rfl := Option.some.inj hy1
          exact hCxy.1 h171⟩
      · exact ⟨rfl, rfl, trivial⟩
      · exact trivial
    try simp only [nrm] at h151
    have hri : r = i := by omega
    have hsp := mrg_split tr hU hV (s := i) (e := p - i) (by omega) (by omega) (fun x y h0 hx hy => by
      rcases Nat.lt_or_ge (p - V.length) i with h | h
      · exact hq4 x y h hx hy
      · have := (List.getElem?_eq_some_iff.1 hy).1; omega) (fun x y h0 hx hy => by
      have := (List.getElem?_eq_some_iff.1 hy).1
      exact hq5 x y (by omega) (by rw [hri, show p - 1 - i = p - i - 1 by omega]; exact hx) (by rw [hri]; exact hy))
    have lu1 : (U.take i).length = i := by rw [List.length_take]; omega
    have lu2 : (U.drop i).length = U.length - i := List.length_drop
    have lv1 : (V.take (p - i)).length = p - i := by rw [List.length_take]; omega
    have lv2 : (V.drop (p - i)).length = V.length - (p - i) := List.length_drop
    rw [cut4 (i := i) (e := p - i)]
    refine egx ?_
    refine sr 2 ?_
    refine s1 (y_bin rfl rfl rfl (fun hg => b_subv (((m + (p - i) : Nat) : Int)) (by omega) (by omega))) ?_
    refine sr 1 ?_
    refine sgs ?_
    refine tx ?_
    refine sr 4 ?_
    refine sg rfl (y_move rfl rfl) ?_
    refine sg rfl (y_move rfl rfl) ?_
    refine sg rfl (y_bin rfl rfl rfl (fun _ => b_lss)) ?_
    refine s1 (y_and rfl rfl rfl) ?_
    refine sgo ?_
    refine T_cond rfl ?_ ?_ <;> intro h185
    · skip
      simp only [Bool.and_eq_true, decide_eq_true_eq] at h185
      refine T_region ?_
      refine sr 5 ?_
      refine S_callM 191 [(0, 0)] (X := Unit) rfl rfl rfl rfl rfl rfl rfl cf218 rfl (fun _ => .tuple #[]) (fun _ => True) (fun _ => [(0, .own 31 9 (.slice A q c) q (((X ++ U.take i) ++ (V.take (p - i) ++ U.drop i) ++ (V.drop (p - i) ++ Yt)).flatMap Evt.enc))]) (fun _ => rfl) (fun _ => rfl) (fun K1 hK1 w hM => rotV_any hK1 _ A q c (X ++ U.take i) (U.drop i) (V.take (p - i)) (V.drop (p - i) ++ Yt) (a + i) m (m + (p - i)) (by rw [List.length_append]; omega) (by omega) (by omega) (by omega) (by omega) (by simp only [List.length_append]; omega) hqm w hM) ?_
      intro _ _
      refine sgs ?_
      refine tx ?_
      refine sr 4 ?_
      refine sg rfl (y_move rfl rfl) ?_
      refine sg rfl (y_move rfl rfl) ?_
      refine sg rfl (y_bin rfl rfl rfl (fun _ => b_lss)) ?_
      refine s1 (y_and rfl rfl rfl) ?_
      refine sgo ?_
      refine T_cond rfl ?_ ?_ <;> intro h199
      · skip
        simp only [Bool.and_eq_true, decide_eq_true_eq] at h199
        rw [show (X ++ U.take i) ++ (V.take (p - i) ++ U.drop i) ++ (V.drop (p - i) ++ Yt) = X ++ (U.take i ++ V.take (p - i)) ++ (U.drop i ++ V.drop (p - i) ++ Yt) from by simp]
        refine T_region ?_
        refine sr 5 ?_
        refine S_callM 205 [(0, 0), (901, 901)] (X := List Evt) rfl rfl rfl rfl rfl rfl rfl cf170 rfl (fun _ => .tuple #[]) (fun W => W.Perm (U.take i ++ V.take (p - i)) ∧ W.Pairwise R) (fun W => [(0, .own 31 9 (.slice A q c) q ((X ++ W ++ (U.drop i ++ V.drop (p - i) ++ Yt)).flatMap Evt.enc)), (901, pit)]) (fun _ => rfl) (fun _ => rfl) (fun K1 hK1 w hM => ih hK1 A q c X (U.take i) (V.take (p - i)) (U.drop i ++ V.drop (p - i) ++ Yt) a (a + i) (a + p) ha (by omega) (by omega) (by omega) (by omega) (by omega) (by simp only [List.length_append]; omega) hqm (hU.sublist (List.take_sublist _ _)) (hV.sublist (List.take_sublist _ _)) (fun x hx y hy => hC x (List.mem_of_mem_take hx) y (List.mem_of_mem_take hy)) w hM) ?_
        rintro W1 ⟨hW1p, hW1s⟩
        refine sgx ?_
        refine sr 4 ?_
        refine sg rfl (y_move rfl rfl) ?_
        refine sg rfl (y_move rfl rfl) ?_
        refine sg rfl (y_bin rfl rfl rfl (fun _ => b_lss)) ?_
        refine s1 (y_and rfl rfl rfl) ?_
        refine sgo ?_
        refine T_cond rfl ?_ ?_ <;> intro h213
        · skip
          simp only [Bool.and_eq_true, decide_eq_true_eq] at h213
          have lw1 := hW1p.length_eq
          rw [List.length_append] at lw1
          rw [show X ++ W1 ++ (U.drop i ++ V.drop (p - i) ++ Yt) = (X ++ W1) ++ (U.drop i ++ V.drop (p - i)) ++ Yt from by simp]
          refine T_region ?_
          refine sr 5 ?_
          refine S_callM 219 [(0, 0), (901, 901)] (X := List Evt) rfl rfl rfl rfl rfl rfl rfl cf170 rfl (fun _ => .tuple #[]) (fun W => W.Perm (U.drop i ++ V.drop (p - i)) ∧ W.Pairwise R) (fun W => [(0, .own 31 9 (.slice A q c) q (((X ++ W1) ++ W ++ Yt).flatMap Evt.enc)), (901, pit)]) (fun _ => rfl) (fun _ => rfl) (fun K1 hK1 w hM => ih hK1 A q c (X ++ W1) (U.drop i) (V.drop (p - i)) Yt (a + p) (m + (p - i)) b (by rw [List.length_append]; omega) (by omega) (by omega) (by omega) (by omega) (by omega) (by simp only [List.length_append]; omega) hqm (hU.sublist (List.drop_sublist _ _)) (hV.sublist (List.drop_sublist _ _)) (fun x hx y hy => hC x (List.mem_of_mem_drop hx) y (List.mem_of_mem_drop hy)) w hM) ?_
          rintro W2 ⟨hW2p, hW2s⟩
          refine S_nil (fun a w hF hM => hRn a w (post0 rfl (fun w hM => ?_) a w hF hM))
          exact ⟨W1 ++ W2, rfl, ⟨mrg_join hW1p hW2p, mrg_sorted hW1p hW2p hW1s hW2s hsp⟩, hM.keep (ks := [(0, 999)]) (by repeat (first | exact kl_rest (by assumption) rfl | (apply kl_in; focus rfl))) _ ⟨by rw [show X ++ (W1 ++ W2) ++ Yt = (X ++ W1) ++ W2 ++ Yt from by simp]; rfl, rfl, trivial⟩⟩
        rw [show X ++ W1 ++ (U.drop i ++ V.drop (p - i) ++ Yt) = (X ++ W1) ++ (U.drop i ++ V.drop (p - i)) ++ Yt from by simp]
        obtain ⟨W2, hW2e, hW2p, hW2s⟩ : ∃ W2, W2 = U.drop i ++ V.drop (p - i) ∧ W2.Perm (U.drop i ++ V.drop (p - i)) ∧ W2.Pairwise R := ⟨_, rfl, .refl _, by
          simp only [Bool.and_eq_false_iff, decide_eq_false_iff_not] at h213
          rcases Nat.lt_or_ge i U.length with h | h
          · rw [List.drop_eq_nil_of_le (by omega : V.length ≤ p - i), List.append_nil]; exact hU.sublist (List.drop_sublist _ _)
          · rw [List.drop_eq_nil_of_le h, List.nil_append]; exact hV.sublist (List.drop_sublist _ _)⟩
        rw [← hW2e]
        refine T_skip (fun a w hF hM => hRn a w (post0 rfl (fun w hM => ?_) a w hF hM))
        exact ⟨W1 ++ W2, rfl, ⟨mrg_join hW1p hW2p, mrg_sorted hW1p hW2p hW1s hW2s hsp⟩, hM.keep (ks := [(0, 999)]) (by repeat (first | exact kl_rest (by assumption) rfl | (apply kl_in; focus rfl))) _ ⟨by rw [show X ++ (W1 ++ W2) ++ Yt = (X ++ W1) ++ W2 ++ Yt from by simp]; rfl, rfl, trivial⟩⟩
      rw [show (X ++ U.take i) ++ (V.take (p - i) ++ U.drop i) ++ (V.drop (p - i) ++ Yt) = X ++ (U.take i ++ V.take (p - i)) ++ (U.drop i ++ V.drop (p - i) ++ Yt) from by simp]
      obtain ⟨W1, hW1e, hW1p, hW1s⟩ : ∃ W1, W1 = U.take i ++ V.take (p - i) ∧ W1.Perm (U.take i ++ V.take (p - i)) ∧ W1.Pairwise R := ⟨_, rfl, .refl _, by
        simp only [Bool.and_eq_false_iff, decide_eq_false_iff_not] at h199
        rcases Nat.eq_zero_or_pos i with h | h
        · subst h; rw [List.take_zero, List.nil_append]; exact hV.sublist (List.take_sublist _ _)
        · rw [show p - i = 0 by omega, List.take_zero, List.append_nil]; exact hU.sublist (List.take_sublist _ _)⟩
      rw [← hW1e]
      refine kgx ?_
      refine sr 4 ?_
      refine sg rfl (y_move rfl rfl) ?_
      refine sg rfl (y_move rfl rfl) ?_
      refine sg rfl (y_bin rfl rfl rfl (fun _ => b_lss)) ?_
      refine s1 (y_and rfl rfl rfl) ?_
      refine sgo ?_
      refine T_cond rfl ?_ ?_ <;> intro h213
      · skip
        simp only [Bool.and_eq_true, decide_eq_true_eq] at h213
        have lw1 := hW1p.length_eq
        rw [List.length_append] at lw1
        rw [show X ++ W1 ++ (U.drop i ++ V.drop (p - i) ++ Yt) = (X ++ W1) ++ (U.drop i ++ V.drop (p - i)) ++ Yt from by simp]
        refine T_region ?_
        refine sr 5 ?_
        refine S_callM 219 [(0, 0), (901, 901)] (X := List Evt) rfl rfl rfl rfl rfl rfl rfl cf170 rfl (fun _ => .tuple #[]) (fun W => W.Perm (U.drop i ++ V.drop (p - i)) ∧ W.Pairwise R) (fun W => [(0, .own 31 9 (.slice A q c) q (((X ++ W1) ++ W ++ Yt).flatMap Evt.enc)), (901, pit)]) (fun _ => rfl) (fun _ => rfl) (fun K1 hK1 w hM => ih hK1 A q c (X ++ W1) (U.drop i) (V.drop (p - i)) Yt (a + p) (m + (p - i)) b (by rw [List.length_append]; omega) (by omega) (by omega) (by omega) (by omega) (by omega) (by simp only [List.length_append]; omega) hqm (hU.sublist (List.drop_sublist _ _)) (hV.sublist (List.drop_sublist _ _)) (fun x hx y hy => hC x (List.mem_of_mem_drop hx) y (List.mem_of_mem_drop hy)) w hM) ?_
        rintro W2 ⟨hW2p, hW2s⟩
        refine S_nil (fun a w hF hM => hRn a w (post0 rfl (fun w hM => ?_) a w hF hM))
        exact ⟨W1 ++ W2, rfl, ⟨mrg_join hW1p hW2p, mrg_sorted hW1p hW2p hW1s hW2s hsp⟩, hM.keep (ks := [(0, 999)]) (by repeat (first | exact kl_rest (by assumption) rfl | (apply kl_in; focus rfl))) _ ⟨by rw [show X ++ (W1 ++ W2) ++ Yt = (X ++ W1) ++ W2 ++ Yt from by simp]; rfl, rfl, trivial⟩⟩
      rw [show X ++ W1 ++ (U.drop i ++ V.drop (p - i) ++ Yt) = (X ++ W1) ++ (U.drop i ++ V.drop (p - i)) ++ Yt from by simp]
      obtain ⟨W2, hW2e, hW2p, hW2s⟩ : ∃ W2, W2 = U.drop i ++ V.drop (p - i) ∧ W2.Perm (U.drop i ++ V.drop (p - i)) ∧ W2.Pairwise R := ⟨_, rfl, .refl _, by
        simp only [Bool.and_eq_false_iff, decide_eq_false_iff_not] at h213
        rcases Nat.lt_or_ge i U.length with h | h
        · rw [List.drop_eq_nil_of_le (by omega : V.length ≤ p - i), List.append_nil]; exact hU.sublist (List.drop_sublist _ _)
        · rw [List.drop_eq_nil_of_le h, List.nil_append]; exact hV.sublist (List.drop_sublist _ _)⟩
      rw [← hW2e]
      refine T_skip (fun a w hF hM => hRn a w (post0 rfl (fun w hM => ?_) a w hF hM))
      exact ⟨W1 ++ W2, rfl, ⟨mrg_join hW1p hW2p, mrg_sorted hW1p hW2p hW1s hW2s hsp⟩, hM.keep (ks := [(0, 999)]) (by repeat (first | exact kl_rest (by assumption) rfl | (apply kl_in; focus rfl))) _ ⟨by rw [show X ++ (W1 ++ W2) ++ Yt = (X ++ W1) ++ W2 ++ Yt from by simp]; rfl, rfl, trivial⟩⟩
    rw [nil_or (U := U) (V := V) (i := i) (e := p - i) (by intro h; simp only [Bool.and_eq_false_iff, decide_eq_false_iff_not] at h185; omega)]
    refine kgs ?_
    refine tx ?_
    refine sr 4 ?_
    refine sg rfl (y_move rfl rfl) ?_
    refine sg rfl (y_move rfl rfl) ?_
    refine sg rfl (y_bin rfl rfl rfl (fun _ => b_lss)) ?_
    refine s1 (y_and rfl rfl rfl) ?_
    refine sgo ?_
    refine T_cond rfl ?_ ?_ <;> intro h199
    · skip
      simp only [Bool.and_eq_true, decide_eq_true_eq] at h199
      rw [show (X ++ U.take i) ++ (V.take (p - i) ++ U.drop i) ++ (V.drop (p - i) ++ Yt) = X ++ (U.take i ++ V.take (p - i)) ++ (U.drop i ++ V.drop (p - i) ++ Yt) from by simp]
      refine T_region ?_
      refine sr 5 ?_
      refine S_callM 205 [(0, 0), (901, 901)] (X := List Evt) rfl rfl rfl rfl rfl rfl rfl cf170 rfl (fun _ => .tuple #[]) (fun W => W.Perm (U.take i ++ V.take (p - i)) ∧ W.Pairwise R) (fun W => [(0, .own 31 9 (.slice A q c) q ((X ++ W ++ (U.drop i ++ V.drop (p - i) ++ Yt)).flatMap Evt.enc)), (901, pit)]) (fun _ => rfl) (fun _ => rfl) (fun K1 hK1 w hM => ih hK1 A q c X (U.take i) (V.take (p - i)) (U.drop i ++ V.drop (p - i) ++ Yt) a (a + i) (a + p) ha (by omega) (by omega) (by omega) (by omega) (by omega) (by simp only [List.length_append]; omega) hqm (hU.sublist (List.take_sublist _ _)) (hV.sublist (List.take_sublist _ _)) (fun x hx y hy => hC x (List.mem_of_mem_take hx) y (List.mem_of_mem_take hy)) w hM) ?_
      rintro W1 ⟨hW1p, hW1s⟩
      refine sgx ?_
      refine sr 4 ?_
      refine sg rfl (y_move rfl rfl) ?_
      refine sg rfl (y_move rfl rfl) ?_
      refine sg rfl (y_bin rfl rfl rfl (fun _ => b_lss)) ?_
      refine s1 (y_and rfl rfl rfl) ?_
      refine sgo ?_
      refine T_cond rfl ?_ ?_ <;> intro h213
      · skip
        simp only [Bool.and_eq_true, decide_eq_true_eq] at h213
        have lw1 := hW1p.length_eq
        rw [List.length_append] at lw1
        rw [show X ++ W1 ++ (U.drop i ++ V.drop (p - i) ++ Yt) = (X ++ W1) ++ (U.drop i ++ V.drop (p - i)) ++ Yt from by simp]
        refine T_region ?_
        refine sr 5 ?_
        refine S_callM 219 [(0, 0), (901, 901)] (X := List Evt) rfl rfl rfl rfl rfl rfl rfl cf170 rfl (fun _ => .tuple #[]) (fun W => W.Perm (U.drop i ++ V.drop (p - i)) ∧ W.Pairwise R) (fun W => [(0, .own 31 9 (.slice A q c) q (((X ++ W1) ++ W ++ Yt).flatMap Evt.enc)), (901, pit)]) (fun _ => rfl) (fun _ => rfl) (fun K1 hK1 w hM => ih hK1 A q c (X ++ W1) (U.drop i) (V.drop (p - i)) Yt (a + p) (m + (p - i)) b (by rw [List.length_append]; omega) (by omega) (by omega) (by omega) (by omega) (by omega) (by simp only [List.length_append]; omega) hqm (hU.sublist (List.drop_sublist _ _)) (hV.sublist (List.drop_sublist _ _)) (fun x hx y hy => hC x (List.mem_of_mem_drop hx) y (List.mem_of_mem_drop hy)) w hM) ?_
        rintro W2 ⟨hW2p, hW2s⟩
        refine S_nil (fun a w hF hM => hRn a w (post0 rfl (fun w hM => ?_) a w hF hM))
        exact ⟨W1 ++ W2, rfl, ⟨mrg_join hW1p hW2p, mrg_sorted hW1p hW2p hW1s hW2s hsp⟩, hM.keep (ks := [(0, 999)]) (by repeat (first | exact kl_rest (by assumption) rfl | (apply kl_in; focus rfl))) _ ⟨by rw [show X ++ (W1 ++ W2) ++ Yt = (X ++ W1) ++ W2 ++ Yt from by simp]; rfl, rfl, trivial⟩⟩
      rw [show X ++ W1 ++ (U.drop i ++ V.drop (p - i) ++ Yt) = (X ++ W1) ++ (U.drop i ++ V.drop (p - i)) ++ Yt from by simp]
      obtain ⟨W2, hW2e, hW2p, hW2s⟩ : ∃ W2, W2 = U.drop i ++ V.drop (p - i) ∧ W2.Perm (U.drop i ++ V.drop (p - i)) ∧ W2.Pairwise R := ⟨_, rfl, .refl _, by
        simp only [Bool.and_eq_false_iff, decide_eq_false_iff_not] at h213
        rcases Nat.lt_or_ge i U.length with h | h
        · rw [List.drop_eq_nil_of_le (by omega : V.length ≤ p - i), List.append_nil]; exact hU.sublist (List.drop_sublist _ _)
        · rw [List.drop_eq_nil_of_le h, List.nil_append]; exact hV.sublist (List.drop_sublist _ _)⟩
      rw [← hW2e]
      refine T_skip (fun a w hF hM => hRn a w (post0 rfl (fun w hM => ?_) a w hF hM))
      exact ⟨W1 ++ W2, rfl, ⟨mrg_join hW1p hW2p, mrg_sorted hW1p hW2p hW1s hW2s hsp⟩, hM.keep (ks := [(0, 999)]) (by repeat (first | exact kl_rest (by assumption) rfl | (apply kl_in; focus rfl))) _ ⟨by rw [show X ++ (W1 ++ W2) ++ Yt = (X ++ W1) ++ W2 ++ Yt from by simp]; rfl, rfl, trivial⟩⟩
    rw [show (X ++ U.take i) ++ (V.take (p - i) ++ U.drop i) ++ (V.drop (p - i) ++ Yt) = X ++ (U.take i ++ V.take (p - i)) ++ (U.drop i ++ V.drop (p - i) ++ Yt) from by simp]
    obtain ⟨W1, hW1e, hW1p, hW1s⟩ : ∃ W1, W1 = U.take i ++ V.take (p - i) ∧ W1.Perm (U.take i ++ V.take (p - i)) ∧ W1.Pairwise R := ⟨_, rfl, .refl _, by
      simp only [Bool.and_eq_false_iff, decide_eq_false_iff_not] at h199
      rcases Nat.eq_zero_or_pos i with h | h
      · subst h; rw [List.take_zero, List.nil_append]; exact hV.sublist (List.take_sublist _ _)
      · rw [show p - i = 0 by omega, List.take_zero, List.append_nil]; exact hU.sublist (List.take_sublist _ _)⟩
    rw [← hW1e]
    refine kgx ?_
    refine sr 4 ?_
    refine sg rfl (y_move rfl rfl) ?_
    refine sg rfl (y_move rfl rfl) ?_
    refine sg rfl (y_bin rfl rfl rfl (fun _ => b_lss)) ?_
    refine s1 (y_and rfl rfl rfl) ?_
    refine sgo ?_
    refine T_cond rfl ?_ ?_ <;> intro h213
    · skip
      simp only [Bool.and_eq_true, decide_eq_true_eq] at h213
      have lw1 := hW1p.length_eq
      rw [List.length_append] at lw1
      rw [show X ++ W1 ++ (U.drop i ++ V.drop (p - i) ++ Yt) = (X ++ W1) ++ (U.drop i ++ V.drop (p - i)) ++ Yt from by simp]
      refine T_region ?_
      refine sr 5 ?_
      refine S_callM 219 [(0, 0), (901, 901)] (X := List Evt) rfl rfl rfl rfl rfl rfl rfl cf170 rfl (fun _ => .tuple #[]) (fun W => W.Perm (U.drop i ++ V.drop (p - i)) ∧ W.Pairwise R) (fun W => [(0, .own 31 9 (.slice A q c) q (((X ++ W1) ++ W ++ Yt).flatMap Evt.enc)), (901, pit)]) (fun _ => rfl) (fun _ => rfl) (fun K1 hK1 w hM => ih hK1 A q c (X ++ W1) (U.drop i) (V.drop (p - i)) Yt (a + p) (m + (p - i)) b (by rw [List.length_append]; omega) (by omega) (by omega) (by omega) (by omega) (by omega) (by simp only [List.length_append]; omega) hqm (hU.sublist (List.drop_sublist _ _)) (hV.sublist (List.drop_sublist _ _)) (fun x hx y hy => hC x (List.mem_of_mem_drop hx) y (List.mem_of_mem_drop hy)) w hM) ?_
      rintro W2 ⟨hW2p, hW2s⟩
      refine S_nil (fun a w hF hM => hRn a w (post0 rfl (fun w hM => ?_) a w hF hM))
      exact ⟨W1 ++ W2, rfl, ⟨mrg_join hW1p hW2p, mrg_sorted hW1p hW2p hW1s hW2s hsp⟩, hM.keep (ks := [(0, 999)]) (by repeat (first | exact kl_rest (by assumption) rfl | (apply kl_in; focus rfl))) _ ⟨by rw [show X ++ (W1 ++ W2) ++ Yt = (X ++ W1) ++ W2 ++ Yt from by simp]; rfl, rfl, trivial⟩⟩
    rw [show X ++ W1 ++ (U.drop i ++ V.drop (p - i) ++ Yt) = (X ++ W1) ++ (U.drop i ++ V.drop (p - i)) ++ Yt from by simp]
    obtain ⟨W2, hW2e, hW2p, hW2s⟩ : ∃ W2, W2 = U.drop i ++ V.drop (p - i) ∧ W2.Perm (U.drop i ++ V.drop (p - i)) ∧ W2.Pairwise R := ⟨_, rfl, .refl _, by
      simp only [Bool.and_eq_false_iff, decide_eq_false_iff_not] at h213
      rcases Nat.lt_or_ge i U.length with h | h
      · rw [List.drop_eq_nil_of_le (by omega : V.length ≤ p - i), List.append_nil]; exact hU.sublist (List.drop_sublist _ _)
      · rw [List.drop_eq_nil_of_le h, List.nil_append]; exact hV.sublist (List.drop_sublist _ _)⟩
    rw [← hW2e]
    refine T_skip (fun a w hF hM => hRn a w (post0 rfl (fun w hM => ?_) a w hF hM))
    exact ⟨W1 ++ W2, rfl, ⟨mrg_join hW1p hW2p, mrg_sorted hW1p hW2p hW1s hW2s hsp⟩, hM.keep (ks := [(0, 999)]) (by repeat (first | exact kl_rest (by assumption) rfl | (apply kl_in; focus rfl))) _ ⟨by rw [show X ++ (W1 ++ W2) ++ Yt = (X ++ W1) ++ W2 ++ Yt from by simp]; rfl, rfl, trivial⟩⟩
  try simp only [nrm] at h140
  refine tx ?_
  refine s1 (y_as (v' := .int .i64 ((a + (p - V.length) : Nat) : Int)) (by congr 1; omega) (y_move rfl rfl)) ?_
  refine sr 1 ?_
  refine sgr ?_
  refine s1 (y_as (v' := .int .i64 ((a + min p U.length : Nat) : Int)) (by congr 1; omega) (y_move rfl rfl)) ?_
  refine sr 1 ?_
  refine sgx ?_
  refine sr 1 ?_
  refine s1 (y_bin rfl rfl rfl (fun hg => b_subv (((a + p + m - 1 : Nat) : Int)) (by omega) (by omega))) ?_
  refine sr 1 ?_
  refine sgs ?_
  refine T_block ?_
  refine lK2 (kf := [(20, 21), (23, 23), (149, 174)]) (kl := [(20, 21), (23, 23), (149, 174)]) (fun (i r : Nat) => [(20, true, .int .i64 ((a + i : Nat) : Int)), (21, true, .int .i64 ((a + r : Nat) : Int))]) (fun (i r : Nat) => []) (fun (i r : Nat) => p - V.length ≤ i ∧ i ≤ r ∧ r ≤ min p U.length ∧ (∀ x y, p - V.length < i → U[i - 1]? = some x → V[p - i]? = some y → R x y) ∧ (∀ x y, r < min p U.length → V[p - 1 - r]? = some x → U[r]? = some y → R x y)) (fun (i r : Nat) => r - i) (p - V.length) (min p U.length) ?_ ?_ ?_ ?_
  · exact ⟨by omega, by omega, by omega, fun x y h => absurd h (by omega), fun x y h => absurd h (by omega)⟩
  · exact ⟨rfl, rfl, trivial⟩
  · exact trivial
  rintro i r ⟨hq1, hq2, hq3, hq4, hq5⟩
  refine T_seq ?_
  refine tx ?_
  refine sr 3 ?_
  refine sgo ?_
  refine T_cond rfl ?_ ?_ <;> intro h151
  · try simp only [nrm] at h151
    obtain ⟨k, hk1, hk2, hk3⟩ : ∃ k, (a + i + (a + r)) / 2 = a + k ∧ i ≤ k ∧ k < r := ⟨(a + i + (a + r)) / 2 - a, by omega, by omega, by omega⟩
    obtain ⟨x, hx⟩ := some_at (l := U) (i := k) (by omega)
    obtain ⟨y, hy⟩ := some_at (l := V) (i := p - 1 - k) (by omega)
    have hCxy := hC x (mem_at hx) y (mem_at hy)
    refine kgo ?_
    refine T_block ?_
    refine tx ?_
    refine sr 2 ?_
    refine s1 (y_bin rfl rfl rfl (fun hg => b_addv (((a + i + (a + r) : Nat) : Int)) (by omega) (by omega))) ?_
    refine s1 (y_as (v' := .int .u64 ((a + i + (a + r) : Nat) : Int)) (by congr 1; exact wrap64_in (by omega)) (y_conv rfl rfl Tryz.underlying3 Tryz.underlying133)) ?_
    refine s1 (y_bin rfl rfl rfl (fun hg => b_shrv ((((a + i + (a + r)) / 2 : Nat) : Int)) (by decide) (by decide) (by first | (simp; done) | (simp; omega)))) ?_
    refine s1 (y_as (v' := .int .i64 ((a + k : Nat) : Int)) (by congr 1; omega) (y_conv64 rfl rfl Tryz.underlying133 Tryz.underlying3 (fun _ => by omega))) ?_
    refine sr 1 ?_
    refine sgs ?_
    refine T_draws (by kernel_rfl) (by kernel_rfl) ?_
    refine d1 (y_move rfl rfl) ?_
    refine d1 (y_move rfl rfl) ?_
    refine d1 (y_move rfl rfl) ?_
    refine d1 (y_move rfl rfl) ?_
    refine d1 (y_bin rfl rfl rfl (fun hg => b_subv (((m + (p - 1 - k) : Nat) : Int)) (by omega) (by omega))) ?_
    refine d1 (y_indexAddr rfl rfl rfl Tryz.underlying25 sz31 (fun hg => hA (by omega)) (fun _ => by omega)) ?_
    refine d1 (y_loadO 0 rfl rfl rfl (by first | (rw [insL_len]; simp only [List.length_cons, List.length_nil] at *; omega) | (simp only [List.length_append]; omega)) (fun _ => rfl) (fun _ => cat_v hy (by omega)) Tryz.underlying31 rfl sz31) ?_
    refine d1 (y_move rfl rfl) ?_
    refine d1 (y_move rfl rfl) ?_
    refine d1 (y_indexAddr rfl rfl rfl Tryz.underlying25 sz31 (fun hg => hA (by omega)) (fun _ => by omega)) ?_
    refine d1 (y_loadO 0 rfl rfl rfl (by first | (rw [insL_len]; simp only [List.length_cons, List.length_nil] at *; omega) | (simp only [List.length_append]; omega)) (fun _ => rfl) (fun _ => cat_u hx (by omega)) Tryz.underlying31 rfl sz31) ?_
    refine d1 (y_call rfl rfl rfl hcf (fun _ w hM => hcmp y x w _ hM rfl)) ?_
    refine d1 (y_bin rfl rfl rfl (fun _ => b_lss)) ?_
    refine d1 (y_not rfl rfl) ?_
    refine dgo ?_
    refine T_cond rfl ?_ ?_ <;> intro h171
    · skip
      have h171 : ¬ cf y x < 0 := by simpa using h171
      refine T_region ?_
      refine sr 1 ?_
      refine s1 (y_bin rfl rfl rfl (fun hg => b_addv (((a + (k + 1) : Nat) : Int)) (by omega) (by omega))) ?_
      refine sr 1 ?_
      refine S_nil (nK2 (kf := [(20, 21), (23, 23), (149, 174)]) (kl := [(20, 21), (23, 23), (149, 174)]) (k + 1) r ?_ ?_ ?_ ?_)
      · omega
      · exact ⟨by omega, by omega, by omega, fun x1 y1 _ hx1 hy1 => by
          rw [Nat.add_sub_cancel, hx] at hx1
          rw [show p - (k + 1) = p - 1 - k by omega, hy] at hy1
          obtain rfl := Option.some.inj hx1
          obtain rfl := Option.some.inj hy1
          exact hCxy.2 h171, hq5⟩
      · exact ⟨rfl, rfl, trivial⟩
      · exact trivial
    have h171 : cf y x < 0 := by simpa using h171
    refine T_region ?_
    refine sr 2 ?_
    refine S_nil (nK2 (kf := [(20, 21), (23, 23), (149, 174)]) (kl := [(20, 21), (23, 23), (149, 174)]) i k ?_ ?_ ?_ ?_)
    · omega
    · exact ⟨by omega, by omega, by omega, hq4, fun x1 y1 _ hx1 hy1 => by
        rw [hy] at hx1
        rw [hx] at hy1
        obtain rfl := Option.some.inj hx1
        obtain rfl := Option.some.inj hy1
        exact hCxy.1 h171⟩
    · exact ⟨rfl, rfl, trivial⟩
    · exact trivial
  try simp only [nrm] at h151
  have hri : r = i := by omega
  have hsp := mrg_split tr hU hV (s := i) (e := p - i) (by omega) (by omega) (fun x y h0 hx hy => by
    rcases Nat.lt_or_ge (p - V.length) i with h | h
    · exact hq4 x y h hx hy
    · have := (List.getElem?_eq_some_iff.1 hy).1; omega) (fun x y h0 hx hy => by
    have := (List.getElem?_eq_some_iff.1 hy).1
    exact hq5 x y (by omega) (by rw [hri, show p - 1 - i = p - i - 1 by omega]; exact hx) (by rw [hri]; exact hy))
  have lu1 : (U.take i).length = i := by rw [List.length_take]; omega
  have lu2 : (U.drop i).length = U.length - i := List.length_drop
  have lv1 : (V.take (p - i)).length = p - i := by rw [List.length_take]; omega
  have lv2 : (V.drop (p - i)).length = V.length - (p - i) := List.length_drop
  rw [cut4 (i := i) (e := p - i)]
  refine egx ?_
  refine sr 2 ?_
  refine s1 (y_bin rfl rfl rfl (fun hg => b_subv (((m + (p - i) : Nat) : Int)) (by omega) (by omega))) ?_
  refine sr 1 ?_
  refine sgs ?_
  refine tx ?_
  refine sr 4 ?_
  refine sg rfl (y_move rfl rfl) ?_
  refine sg rfl (y_move rfl rfl) ?_
  refine sg rfl (y_bin rfl rfl rfl (fun _ => b_lss)) ?_
  refine s1 (y_and rfl rfl rfl) ?_
  refine sgo ?_
  refine T_cond rfl ?_ ?_ <;> intro h185
  · skip
    simp only [Bool.and_eq_true, decide_eq_true_eq] at h185
    refine T_region ?_
    refine sr 5 ?_
    refine S_callM 191 [(0, 0)] (X := Unit) rfl rfl rfl rfl rfl rfl rfl cf218 rfl (fun _ => .tuple #[]) (fun _ => True) (fun _ => [(0, .own 31 9 (.slice A q c) q (((X ++ U.take i) ++ (V.take (p - i) ++ U.drop i) ++ (V.drop (p - i) ++ Yt)).flatMap Evt.enc))]) (fun _ => rfl) (fun _ => rfl) (fun K1 hK1 w hM => rotV_any hK1 _ A q c (X ++ U.take i) (U.drop i) (V.take (p - i)) (V.drop (p - i) ++ Yt) (a + i) m (m + (p - i)) (by rw [List.length_append]; omega) (by omega) (by omega) (by omega) (by omega) (by simp only [List.length_append]; omega) hqm w hM) ?_
    intro _ _
    refine sgs ?_
    refine tx ?_
    refine sr 4 ?_
    refine sg rfl (y_move rfl rfl) ?_
    refine sg rfl (y_move rfl rfl) ?_
    refine sg rfl (y_bin rfl rfl rfl (fun _ => b_lss)) ?_
    refine s1 (y_and rfl rfl rfl) ?_
    refine sgo ?_
    refine T_cond rfl ?_ ?_ <;> intro h199
    · skip
      simp only [Bool.and_eq_true, decide_eq_true_eq] at h199
      rw [show (X ++ U.take i) ++ (V.take (p - i) ++ U.drop i) ++ (V.drop (p - i) ++ Yt) = X ++ (U.take i ++ V.take (p - i)) ++ (U.drop i ++ V.drop (p - i) ++ Yt) from by simp]
      refine T_region ?_
      refine sr 5 ?_
      refine S_callM 205 [(0, 0), (901, 901)] (X := List Evt) rfl rfl rfl rfl rfl rfl rfl cf170 rfl (fun _ => .tuple #[]) (fun W => W.Perm (U.take i ++ V.take (p - i)) ∧ W.Pairwise R) (fun W => [(0, .own 31 9 (.slice A q c) q ((X ++ W ++ (U.drop i ++ V.drop (p - i) ++ Yt)).flatMap Evt.enc)), (901, pit)]) (fun _ => rfl) (fun _ => rfl) (fun K1 hK1 w hM => ih hK1 A q c X (U.take i) (V.take (p - i)) (U.drop i ++ V.drop (p - i) ++ Yt) a (a + i) (a + p) ha (by omega) (by omega) (by omega) (by omega) (by omega) (by simp only [List.length_append]; omega) hqm (hU.sublist (List.take_sublist _ _)) (hV.sublist (List.take_sublist _ _)) (fun x hx y hy => hC x (List.mem_of_mem_take hx) y (List.mem_of_mem_take hy)) w hM) ?_
      rintro W1 ⟨hW1p, hW1s⟩
      refine sgx ?_
      refine sr 4 ?_
      refine sg rfl (y_move rfl rfl) ?_
      refine sg rfl (y_move rfl rfl) ?_
      refine sg rfl (y_bin rfl rfl rfl (fun _ => b_lss)) ?_
      refine s1 (y_and rfl rfl rfl) ?_
      refine sgo ?_
      refine T_cond rfl ?_ ?_ <;> intro h213
      · skip
        simp only [Bool.and_eq_true, decide_eq_true_eq] at h213
        have lw1 := hW1p.length_eq
        rw [List.length_append] at lw1
        rw [show X ++ W1 ++ (U.drop i ++ V.drop (p - i) ++ Yt) = (X ++ W1) ++ (U.drop i ++ V.drop (p - i)) ++ Yt from by simp]
        refine T_region ?_
        refine sr 5 ?_
        refine S_callM 219 [(0, 0), (901, 901)] (X := List Evt) rfl rfl rfl rfl rfl rfl rfl cf170 rfl (fun _ => .tuple #[]) (fun W => W.Perm (U.drop i ++ V.drop (p - i)) ∧ W.Pairwise R) (fun W => [(0, .own 31 9 (.slice A q c) q (((X ++ W1) ++ W ++ Yt).flatMap Evt.enc)), (901, pit)]) (fun _ => rfl) (fun _ => rfl) (fun K1 hK1 w hM => ih hK1 A q c (X ++ W1) (U.drop i) (V.drop (p - i)) Yt (a + p) (m + (p - i)) b (by rw [List.length_append]; omega) (by omega) (by omega) (by omega) (by omega) (by omega) (by simp only [List.length_append]; omega) hqm (hU.sublist (List.drop_sublist _ _)) (hV.sublist (List.drop_sublist _ _)) (fun x hx y hy => hC x (List.mem_of_mem_drop hx) y (List.mem_of_mem_drop hy)) w hM) ?_
        rintro W2 ⟨hW2p, hW2s⟩
        refine S_nil (fun a w hF hM => hRn a w (post0 rfl (fun w hM => ?_) a w hF hM))
        exact ⟨W1 ++ W2, rfl, ⟨mrg_join hW1p hW2p, mrg_sorted hW1p hW2p hW1s hW2s hsp⟩, hM.keep (ks := [(0, 999)]) (by repeat (first | exact kl_rest (by assumption) rfl | (apply kl_in; focus rfl))) _ ⟨by rw [show X ++ (W1 ++ W2) ++ Yt = (X ++ W1) ++ W2 ++ Yt from by simp]; rfl, rfl, trivial⟩⟩
      rw [show X ++ W1 ++ (U.drop i ++ V.drop (p - i) ++ Yt) = (X ++ W1) ++ (U.drop i ++ V.drop (p - i)) ++ Yt from by simp]
      obtain ⟨W2, hW2e, hW2p, hW2s⟩ : ∃ W2, W2 = U.drop i ++ V.drop (p - i) ∧ W2.Perm (U.drop i ++ V.drop (p - i)) ∧ W2.Pairwise R := ⟨_, rfl, .refl _, by
        simp only [Bool.and_eq_false_iff, decide_eq_false_iff_not] at h213
        rcases Nat.lt_or_ge i U.length with h | h
        · rw [List.drop_eq_nil_of_le (by omega : V.length ≤ p - i), List.append_nil]; exact hU.sublist (List.drop_sublist _ _)
        · rw [List.drop_eq_nil_of_le h, List.nil_append]; exact hV.sublist (List.drop_sublist _ _)⟩
      rw [← hW2e]
      refine T_skip (fun a w hF hM => hRn a w (post0 rfl (fun w hM => ?_) a w hF hM))
      exact ⟨W1 ++ W2, rfl, ⟨mrg_join hW1p hW2p, mrg_sorted hW1p hW2p hW1s hW2s hsp⟩, hM.keep (ks := [(0, 999)]) (by repeat (first | exact kl_rest (by assumption) rfl | (apply kl_in; focus rfl))) _ ⟨by rw [show X ++ (W1 ++ W2) ++ Yt = (X ++ W1) ++ W2 ++ Yt from by simp]; rfl, rfl, trivial⟩⟩
    rw [show (X ++ U.take i) ++ (V.take (p - i) ++ U.drop i) ++ (V.drop (p - i) ++ Yt) = X ++ (U.take i ++ V.take (p - i)) ++ (U.drop i ++ V.drop (p - i) ++ Yt) from by simp]
    obtain ⟨W1, hW1e, hW1p, hW1s⟩ : ∃ W1, W1 = U.take i ++ V.take (p - i) ∧ W1.Perm (U.take i ++ V.take (p - i)) ∧ W1.Pairwise R := ⟨_, rfl, .refl _, by
      simp only [Bool.and_eq_false_iff, decide_eq_false_iff_not] at h199
      rcases Nat.eq_zero_or_pos i with h | h
      · subst h; rw [List.take_zero, List.nil_append]; exact hV.sublist (List.take_sublist _ _)
      · rw [show p - i = 0 by omega, List.take_zero, List.append_nil]; exact hU.sublist (List.take_sublist _ _)⟩
    rw [← hW1e]
    refine kgx ?_
    refine sr 4 ?_
    refine sg rfl (y_move rfl rfl) ?_
    refine sg rfl (y_move rfl rfl) ?_
    refine sg rfl (y_bin rfl rfl rfl (fun _ => b_lss)) ?_
    refine s1 (y_and rfl rfl rfl) ?_
    refine sgo ?_
    refine T_cond rfl ?_ ?_ <;> intro h213
    · skip
      simp only [Bool.and_eq_true, decide_eq_true_eq] at h213
      have lw1 := hW1p.length_eq
      rw [List.length_append] at lw1
      rw [show X ++ W1 ++ (U.drop i ++ V.drop (p - i) ++ Yt) = (X ++ W1) ++ (U.drop i ++ V.drop (p - i)) ++ Yt from by simp]
      refine T_region ?_
      refine sr 5 ?_
      refine S_callM 219 [(0, 0), (901, 901)] (X := List Evt) rfl rfl rfl rfl rfl rfl rfl cf170 rfl (fun _ => .tuple #[]) (fun W => W.Perm (U.drop i ++ V.drop (p - i)) ∧ W.Pairwise R) (fun W => [(0, .own 31 9 (.slice A q c) q (((X ++ W1) ++ W ++ Yt).flatMap Evt.enc)), (901, pit)]) (fun _ => rfl) (fun _ => rfl) (fun K1 hK1 w hM => ih hK1 A q c (X ++ W1) (U.drop i) (V.drop (p - i)) Yt (a + p) (m + (p - i)) b (by rw [List.length_append]; omega) (by omega) (by omega) (by omega) (by omega) (by omega) (by simp only [List.length_append]; omega) hqm (hU.sublist (List.drop_sublist _ _)) (hV.sublist (List.drop_sublist _ _)) (fun x hx y hy => hC x (List.mem_of_mem_drop hx) y (List.mem_of_mem_drop hy)) w hM) ?_
      rintro W2 ⟨hW2p, hW2s⟩
      refine S_nil (fun a w hF hM => hRn a w (post0 rfl (fun w hM => ?_) a w hF hM))
      exact ⟨W1 ++ W2, rfl, ⟨mrg_join hW1p hW2p, mrg_sorted hW1p hW2p hW1s hW2s hsp⟩, hM.keep (ks := [(0, 999)]) (by repeat (first | exact kl_rest (by assumption) rfl | (apply kl_in; focus rfl))) _ ⟨by rw [show X ++ (W1 ++ W2) ++ Yt = (X ++ W1) ++ W2 ++ Yt from by simp]; rfl, rfl, trivial⟩⟩
    rw [show X ++ W1 ++ (U.drop i ++ V.drop (p - i) ++ Yt) = (X ++ W1) ++ (U.drop i ++ V.drop (p - i)) ++ Yt from by simp]
    obtain ⟨W2, hW2e, hW2p, hW2s⟩ : ∃ W2, W2 = U.drop i ++ V.drop (p - i) ∧ W2.Perm (U.drop i ++ V.drop (p - i)) ∧ W2.Pairwise R := ⟨_, rfl, .refl _, by
      simp only [Bool.and_eq_false_iff, decide_eq_false_iff_not] at h213
      rcases Nat.lt_or_ge i U.length with h | h
      · rw [List.drop_eq_nil_of_le (by omega : V.length ≤ p - i), List.append_nil]; exact hU.sublist (List.drop_sublist _ _)
      · rw [List.drop_eq_nil_of_le h, List.nil_append]; exact hV.sublist (List.drop_sublist _ _)⟩
    rw [← hW2e]
    refine T_skip (fun a w hF hM => hRn a w (post0 rfl (fun w hM => ?_) a w hF hM))
    exact ⟨W1 ++ W2, rfl, ⟨mrg_join hW1p hW2p, mrg_sorted hW1p hW2p hW1s hW2s hsp⟩, hM.keep (ks := [(0, 999)]) (by repeat (first | exact kl_rest (by assumption) rfl | (apply kl_in; focus rfl))) _ ⟨by rw [show X ++ (W1 ++ W2) ++ Yt = (X ++ W1) ++ W2 ++ Yt from by simp]; rfl, rfl, trivial⟩⟩
  rw [nil_or (U := U) (V := V) (i := i) (e := p - i) (by intro h; simp only [Bool.and_eq_false_iff, decide_eq_false_iff_not] at h185; omega)]
  refine kgs ?_
  refine tx ?_
  refine sr 4 ?_
  refine sg rfl (y_move rfl rfl) ?_
  refine sg rfl (y_move rfl rfl) ?_
  refine sg rfl (y_bin rfl rfl rfl (fun _ => b_lss)) ?_
  refine s1 (y_and rfl rfl rfl) ?_
  refine sgo ?_
  refine T_cond rfl ?_ ?_ <;> intro h199
  · skip
    simp only [Bool.and_eq_true, decide_eq_true_eq] at h199
    rw [show (X ++ U.take i) ++ (V.take (p - i) ++ U.drop i) ++ (V.drop (p - i) ++ Yt) = X ++ (U.take i ++ V.take (p - i)) ++ (U.drop i ++ V.drop (p - i) ++ Yt) from by simp]
    refine T_region ?_
    refine sr 5 ?_
    refine S_callM 205 [(0, 0), (901, 901)] (X := List Evt) rfl rfl rfl rfl rfl rfl rfl cf170 rfl (fun _ => .tuple #[]) (fun W => W.Perm (U.take i ++ V.take (p - i)) ∧ W.Pairwise R) (fun W => [(0, .own 31 9 (.slice A q c) q ((X ++ W ++ (U.drop i ++ V.drop (p - i) ++ Yt)).flatMap Evt.enc)), (901, pit)]) (fun _ => rfl) (fun _ => rfl) (fun K1 hK1 w hM => ih hK1 A q c X (U.take i) (V.take (p - i)) (U.drop i ++ V.drop (p - i) ++ Yt) a (a + i) (a + p) ha (by omega) (by omega) (by omega) (by omega) (by omega) (by simp only [List.length_append]; omega) hqm (hU.sublist (List.take_sublist _ _)) (hV.sublist (List.take_sublist _ _)) (fun x hx y hy => hC x (List.mem_of_mem_take hx) y (List.mem_of_mem_take hy)) w hM) ?_
    rintro W1 ⟨hW1p, hW1s⟩
    refine sgx ?_
    refine sr 4 ?_
    refine sg rfl (y_move rfl rfl) ?_
    refine sg rfl (y_move rfl rfl) ?_
    refine sg rfl (y_bin rfl rfl rfl (fun _ => b_lss)) ?_
    refine s1 (y_and rfl rfl rfl) ?_
    refine sgo ?_
    refine T_cond rfl ?_ ?_ <;> intro h213
    · skip
      simp only [Bool.and_eq_true, decide_eq_true_eq] at h213
      have lw1 := hW1p.length_eq
      rw [List.length_append] at lw1
      rw [show X ++ W1 ++ (U.drop i ++ V.drop (p - i) ++ Yt) = (X ++ W1) ++ (U.drop i ++ V.drop (p - i)) ++ Yt from by simp]
      refine T_region ?_
      refine sr 5 ?_
      refine S_callM 219 [(0, 0), (901, 901)] (X := List Evt) rfl rfl rfl rfl rfl rfl rfl cf170 rfl (fun _ => .tuple #[]) (fun W => W.Perm (U.drop i ++ V.drop (p - i)) ∧ W.Pairwise R) (fun W => [(0, .own 31 9 (.slice A q c) q (((X ++ W1) ++ W ++ Yt).flatMap Evt.enc)), (901, pit)]) (fun _ => rfl) (fun _ => rfl) (fun K1 hK1 w hM => ih hK1 A q c (X ++ W1) (U.drop i) (V.drop (p - i)) Yt (a + p) (m + (p - i)) b (by rw [List.length_append]; omega) (by omega) (by omega) (by omega) (by omega) (by omega) (by simp only [List.length_append]; omega) hqm (hU.sublist (List.drop_sublist _ _)) (hV.sublist (List.drop_sublist _ _)) (fun x hx y hy => hC x (List.mem_of_mem_drop hx) y (List.mem_of_mem_drop hy)) w hM) ?_
      rintro W2 ⟨hW2p, hW2s⟩
      refine S_nil (fun a w hF hM => hRn a w (post0 rfl (fun w hM => ?_) a w hF hM))
      exact ⟨W1 ++ W2, rfl, ⟨mrg_join hW1p hW2p, mrg_sorted hW1p hW2p hW1s hW2s hsp⟩, hM.keep (ks := [(0, 999)]) (by repeat (first | exact kl_rest (by assumption) rfl | (apply kl_in; focus rfl))) _ ⟨by rw [show X ++ (W1 ++ W2) ++ Yt = (X ++ W1) ++ W2 ++ Yt from by simp]; rfl, rfl, trivial⟩⟩
    rw [show X ++ W1 ++ (U.drop i ++ V.drop (p - i) ++ Yt) = (X ++ W1) ++ (U.drop i ++ V.drop (p - i)) ++ Yt from by simp]
    obtain ⟨W2, hW2e, hW2p, hW2s⟩ : ∃ W2, W2 = U.drop i ++ V.drop (p - i) ∧ W2.Perm (U.drop i ++ V.drop (p - i)) ∧ W2.Pairwise R := ⟨_, rfl, .refl _, by
      simp only [Bool.and_eq_false_iff, decide_eq_false_iff_not] at h213
      rcases Nat.lt_or_ge i U.length with h | h
      · rw [List.drop_eq_nil_of_le (by omega : V.length ≤ p - i), List.append_nil]; exact hU.sublist (List.drop_sublist _ _)
      · rw [List.drop_eq_nil_of_le h, List.nil_append]; exact hV.sublist (List.drop_sublist _ _)⟩
    rw [← hW2e]
    refine T_skip (fun a w hF hM => hRn a w (post0 rfl (fun w hM => ?_) a w hF hM))
    exact ⟨W1 ++ W2, rfl, ⟨mrg_join hW1p hW2p, mrg_sorted hW1p hW2p hW1s hW2s hsp⟩, hM.keep (ks := [(0, 999)]) (by repeat (first | exact kl_rest (by assumption) rfl | (apply kl_in; focus rfl))) _ ⟨by rw [show X ++ (W1 ++ W2) ++ Yt = (X ++ W1) ++ W2 ++ Yt from by simp]; rfl, rfl, trivial⟩⟩
  rw [show (X ++ U.take i) ++ (V.take (p - i) ++ U.drop i) ++ (V.drop (p - i) ++ Yt) = X ++ (U.take i ++ V.take (p - i)) ++ (U.drop i ++ V.drop (p - i) ++ Yt) from by simp]
  obtain ⟨W1, hW1e, hW1p, hW1s⟩ : ∃ W1, W1 = U.take i ++ V.take (p - i) ∧ W1.Perm (U.take i ++ V.take (p - i)) ∧ W1.Pairwise R := ⟨_, rfl, .refl _, by
    simp only [Bool.and_eq_false_iff, decide_eq_false_iff_not] at h199
    rcases Nat.eq_zero_or_pos i with h | h
    · subst h; rw [List.take_zero, List.nil_append]; exact hV.sublist (List.take_sublist _ _)
    · rw [show p - i = 0 by omega, List.take_zero, List.append_nil]; exact hU.sublist (List.take_sublist _ _)⟩
  rw [← hW1e]
  refine kgx ?_
  refine sr 4 ?_
  refine sg rfl (y_move rfl rfl) ?_
  refine sg rfl (y_move rfl rfl) ?_
  refine sg rfl (y_bin rfl rfl rfl (fun _ => b_lss)) ?_
  refine s1 (y_and rfl rfl rfl) ?_
  refine sgo ?_
  refine T_cond rfl ?_ ?_ <;> intro h213
  · skip
    simp only [Bool.and_eq_true, decide_eq_true_eq] at h213
    have lw1 := hW1p.length_eq
    rw [List.length_append] at lw1
    rw [show X ++ W1 ++ (U.drop i ++ V.drop (p - i) ++ Yt) = (X ++ W1) ++ (U.drop i ++ V.drop (p - i)) ++ Yt from by simp]
    refine T_region ?_
    refine sr 5 ?_
    refine S_callM 219 [(0, 0), (901, 901)] (X := List Evt) rfl rfl rfl rfl rfl rfl rfl cf170 rfl (fun _ => .tuple #[]) (fun W => W.Perm (U.drop i ++ V.drop (p - i)) ∧ W.Pairwise R) (fun W => [(0, .own 31 9 (.slice A q c) q (((X ++ W1) ++ W ++ Yt).flatMap Evt.enc)), (901, pit)]) (fun _ => rfl) (fun _ => rfl) (fun K1 hK1 w hM => ih hK1 A q c (X ++ W1) (U.drop i) (V.drop (p - i)) Yt (a + p) (m + (p - i)) b (by rw [List.length_append]; omega) (by omega) (by omega) (by omega) (by omega) (by omega) (by simp only [List.length_append]; omega) hqm (hU.sublist (List.drop_sublist _ _)) (hV.sublist (List.drop_sublist _ _)) (fun x hx y hy => hC x (List.mem_of_mem_drop hx) y (List.mem_of_mem_drop hy)) w hM) ?_
    rintro W2 ⟨hW2p, hW2s⟩
    refine S_nil (fun a w hF hM => hRn a w (post0 rfl (fun w hM => ?_) a w hF hM))
    exact ⟨W1 ++ W2, rfl, ⟨mrg_join hW1p hW2p, mrg_sorted hW1p hW2p hW1s hW2s hsp⟩, hM.keep (ks := [(0, 999)]) (by repeat (first | exact kl_rest (by assumption) rfl | (apply kl_in; focus rfl))) _ ⟨by rw [show X ++ (W1 ++ W2) ++ Yt = (X ++ W1) ++ W2 ++ Yt from by simp]; rfl, rfl, trivial⟩⟩
  rw [show X ++ W1 ++ (U.drop i ++ V.drop (p - i) ++ Yt) = (X ++ W1) ++ (U.drop i ++ V.drop (p - i)) ++ Yt from by simp]
  obtain ⟨W2, hW2e, hW2p, hW2s⟩ : ∃ W2, W2 = U.drop i ++ V.drop (p - i) ∧ W2.Perm (U.drop i ++ V.drop (p - i)) ∧ W2.Pairwise R := ⟨_, rfl, .refl _, by
    simp only [Bool.and_eq_false_iff, decide_eq_false_iff_not] at h213
    rcases Nat.lt_or_ge i U.length with h | h
    · rw [List.drop_eq_nil_of_le (by omega : V.length ≤ p - i), List.append_nil]; exact hU.sublist (List.drop_sublist _ _)
    · rw [List.drop_eq_nil_of_le h, List.nil_append]; exact hV.sublist (List.drop_sublist _ _)⟩
  rw [← hW2e]
  refine T_skip (fun a w hF hM => hRn a w (post0 rfl (fun w hM => ?_) a w hF hM))
  exact ⟨W1 ++ W2, rfl, ⟨mrg_join hW1p hW2p, mrg_sorted hW1p hW2p hW1s hW2s hsp⟩, hM.keep (ks := [(0, 999)]) (by repeat (first | exact kl_rest (by assumption) rfl | (apply kl_in; focus rfl))) _ ⟨by rw [show X ++ (W1 ++ W2) ++ Yt = (X ++ W1) ++ W2 ++ Yt from by simp]; rfl, rfl, trivial⟩⟩
end Go.Proofs.YtekbcbjimajnfaaGreatDoor
end
section
namespace Go.Proofs.YtekbcbjimajnfaaGreatDoor
set_option linter.unusedSimpArgs false
set_option linter.unusedVariables false
set_option maxRecDepth 20000
open Go.RowKit Go.Eng
theorem mem_drop_perm {α : Type} {A B : List α} {k : Nat} {y : α} (h : A.Perm (B.take k)) (hy : y ∈ A) : y ∈ B := List.mem_of_mem_take (h.mem_iff.1 hy)
set_option maxHeartbeats 1000000 in
theorem stabV_any {R : Evt → Evt → Prop} (tr : ∀ x y z, R x y → R y z → R x z) {cf : Evt → Evt → Int} (g : FuncId) (cap : Array Value) (hcf : ∀ args w, (callFunc g args).run Tryz.prog w = .ok (.enter g args) w)
    {w0 : World} {pit : It} (hcmp : ∀ x y w L, Mem w0 L w → HL.get L 901 = some pit → Calls Tryz.prog g (#[.agg (Evt.enc x).toArray, .agg (Evt.enc y).toArray] ++ cap) w fun e w' => e = .returned (.int .i64 (cf x y)) ∧ Below w.heap.size w w')
    {K : HL} (hK : FromK K) (A : Option Addr) (q c : Nat) (l : List Evt) (hq : l.length = q) (hqm : q ≤ 100000000) (hl : l.Pairwise (Cmp R cf)) (w : World)
    (hM0 : Mem w0 ([(0, .own 31 9 (.slice A q c) q (l.flatMap Evt.enc)), (901, pit)] ++ K) w) :
    Calls Tryz.prog 97 #[.slice A q c, .int .i64 (q : Int), .func (.func g) #[] cap] w fun e w' => ∃ W : List Evt, e = .returned (.tuple #[]) ∧ (W.Perm l ∧ W.Pairwise R) ∧ Mem w0 ([(0, .own 31 9 (.slice A q c) q (W.flatMap Evt.enc)), (901, pit)] ++ K) w' := by
  refine enterM_args (args := [.slice A q c, .int .i64 (q : Int), .func (.func g) #[] cap]) (F := _) hM0 Tryz.func97 rfl Tryz.ntmps97 rfl rfl ?_
  intro Rb hRb hRn
  refine tx ?_
  refine sr 1 ?_
  refine sgx ?_
  refine sr 3 ?_
  refine sgs ?_
  refine T_block ?_
  refine lK3 (kf := [(7, 8), (11, 22)]) (kl := [(0, 0), (7, 8), (11, 22)]) (fun (a d : Nat) (D : List Evt) => [(7, true, .int .i64 ((a : Nat) : Int)), (8, true, .int .i64 ((a + 20 : Nat) : Int))]) (fun (a d : Nat) (D : List Evt) => [(0, .own 31 9 (.slice A q c) q ((D ++ l.drop a).flatMap Evt.enc))]) (fun (a d : Nat) (D : List Evt) => a = d * 20 ∧ a ≤ q ∧ D.length = a ∧ OkBlk R 20 D (l.take a)) (fun (a d : Nat) (D : List Evt) => q - a) 0 0 [] ?_ ?_ ?_ ?_
  · exact ⟨rfl, by omega, rfl, okBlk_nil⟩
  · exact ⟨rfl, rfl, trivial⟩
  · exact ⟨rfl, trivial⟩
  rintro a d D ⟨hp1, hp2, hp3, hp4⟩
  refine T_seq ?_
  refine tx ?_
  refine sr 3 ?_
  refine sgo ?_
  refine T_cond rfl ?_ ?_ <;> intro h13
  · try simp only [nrm] at h13
    have l1 : (l.drop a).length = q - a := by rw [List.length_drop]; omega
    have l2 : ((l.drop a).take 20).length = 20 := by rw [List.length_take]; omega
    have l3 : (l.drop (a + 20)).length = q - (a + 20) := by rw [List.length_drop]; omega
    have hP : ((l.drop a).take 20).Pairwise (Cmp R cf) := (hl.sublist (List.drop_sublist _ _)).sublist (List.take_sublist _ _)
    rw [show D ++ l.drop a = D ++ (l.drop a).take 20 ++ l.drop (a + 20) from by rw [← List.drop_drop, List.append_assoc, List.take_append_drop]]
    refine kgo ?_
    refine T_block ?_
    refine tx ?_
    refine sr 4 ?_
    refine S_callM 18 [(0, 0), (901, 901)] (X := List Evt) rfl rfl rfl rfl rfl rfl rfl cf169 rfl (fun _ => .tuple #[]) (fun W => W.Perm ((l.drop a).take 20) ∧ W.Pairwise R) (fun W => [(0, .own 31 9 (.slice A q c) q ((D ++ W ++ l.drop (a + 20)).flatMap Evt.enc)), (901, pit)]) (fun _ => rfl) (fun _ => rfl) (fun K1 hK1 w hM => insV_any tr g cap hcf hcmp hK1 A q c D ((l.drop a).take 20) (l.drop (a + 20)) a (a + 20) (by omega) (by omega) (by simp only [List.length_append]; omega) (by omega) hP w hM) ?_
    rintro W ⟨hWp, hWs⟩
    have lw := hWp.length_eq
    refine sgx ?_
    refine sr 2 ?_
    refine sgr ?_
    refine sr 2 ?_
    refine s1 (y_bin rfl rfl rfl (fun hg => b_addv (((a + 20 + 20 : Nat) : Int)) (by omega) (by omega))) ?_
    refine sr 1 ?_
    refine S_nil (nS3 (kf := [(7, 8), (11, 22)]) (kl := [(0, 0), (7, 8), (11, 22)]) (a + 20) (d + 1) (D ++ W) ?_ ?_ ?_ ?_)
    · omega
    · exact ⟨by omega, by omega, by rw [List.length_append]; omega, by rw [List.take_add]; exact okBlk_app (d := d) (by omega) (by rw [List.length_take]; omega) hp4 hWp hWs (by omega)⟩
    · exact ⟨rfl, rfl, trivial⟩
    · exact ⟨rfl, trivial⟩
  try simp only [nrm] at h13
  have l1 : (l.drop a).length = q - a := by rw [List.length_drop]; omega
  have hP : (l.drop a).Pairwise (Cmp R cf) := hl.sublist (List.drop_sublist _ _)
  rw [show D ++ l.drop a = D ++ l.drop a ++ [] from (List.append_nil _).symm]
  refine egx ?_
  refine sr 4 ?_
  refine S_callM 27 [(0, 0), (901, 901)] (X := List Evt) rfl rfl rfl rfl rfl rfl rfl cf169 rfl (fun _ => .tuple #[]) (fun W => W.Perm (l.drop a) ∧ W.Pairwise R) (fun W => [(0, .own 31 9 (.slice A q c) q ((D ++ W ++ ([] : List Evt)).flatMap Evt.enc)), (901, pit)]) (fun _ => rfl) (fun _ => rfl) (fun K1 hK1 w hM => insV_any tr g cap hcf hcmp hK1 A q c D (l.drop a) [] a q (by omega) (by omega) (by simp only [List.length_append, List.length_nil]; omega) (by omega) hP w hM) ?_
  rintro W ⟨hWp, hWs⟩
  have lw := hWp.length_eq
  rw [List.append_nil]
  have hB : OkBlk R 20 (D ++ W) l := by
    have := okBlk_app (W0 := l.drop a) (d := d) (by omega) (by rw [List.length_take]; omega) hp4 hWp hWs (by omega)
    rwa [List.take_append_drop] at this
  refine sgo ?_
  refine T_block ?_
  refine lK2 (kf := [(6, 9), (28, 62)]) (kl := [(0, 0), (6, 9), (28, 62)]) (fun (bs : Nat) (l1 : List Evt) => [(6, true, .int .i64 ((bs : Nat) : Int))]) (fun (bs : Nat) (l1 : List Evt) => [(0, .own 31 9 (.slice A q c) q (l1.flatMap Evt.enc))]) (fun (bs : Nat) (l1 : List Evt) => 20 ≤ bs ∧ l1.length = q ∧ OkBlk R bs l1 l) (fun (bs : Nat) (l1 : List Evt) => q - bs) 20 (D ++ W) ?_ ?_ ?_ ?_
  · exact ⟨by omega, by rw [List.length_append]; omega, hB⟩
  · exact ⟨rfl, trivial⟩
  · exact ⟨rfl, trivial⟩
  rintro bs l1 ⟨hr1, hr2, hr3⟩
  refine T_seq ?_
  refine tx ?_
  refine sr 3 ?_
  refine sgo ?_
  refine T_cond rfl ?_ ?_ <;> intro h30
  · try simp only [nrm] at h30
    refine kgo ?_
    refine T_block ?_
    refine tx ?_
    refine sr 1 ?_
    refine s1 (y_bin rfl rfl rfl (fun hg => b_mulv (((0 + 2 * bs : Nat) : Int)) (by omega) (by omega))) ?_
    refine sr 2 ?_
    refine sgs ?_
    refine T_block ?_
    refine lK4 (kf := [(7, 8), (33, 48)]) (kl := [(0, 0), (7, 8), (33, 48)]) (fun (a d : Nat) (D E : List Evt) => [(7, true, .int .i64 ((a : Nat) : Int)), (8, true, .int .i64 ((a + 2 * bs : Nat) : Int))]) (fun (a d : Nat) (D E : List Evt) => [(0, .own 31 9 (.slice A q c) q ((D ++ E).flatMap Evt.enc))]) (fun (a d : Nat) (D E : List Evt) => a = d * (2 * bs) ∧ a ≤ q ∧ D.length = a ∧ E.length = q - a ∧ OkBlk R (2 * bs) D (l.take a) ∧ OkBlk R bs E (l.drop a)) (fun (a d : Nat) (D E : List Evt) => q - a) 0 0 [] l1 ?_ ?_ ?_ ?_
    · exact ⟨by omega, by omega, rfl, by omega, okBlk_nil, hr3⟩
    · exact ⟨rfl, rfl, trivial⟩
    · exact ⟨rfl, trivial⟩
    rintro a d D E ⟨hs1, hs2, hs3, hs4, hs5, hs6⟩
    refine T_seq ?_
    refine tx ?_
    refine sr 3 ?_
    refine sgo ?_
    refine T_cond rfl ?_ ?_ <;> intro h35
    · try simp only [nrm] at h35
      have l1 : (E.take bs).length = bs := by rw [List.length_take]; omega
      have l2 : ((E.drop bs).take bs).length = bs := by rw [List.length_take, List.length_drop]; omega
      have l3 : (E.drop (2 * bs)).length = q - (a + 2 * bs) := by rw [List.length_drop]; omega
      obtain ⟨hU, hUs⟩ := okBlk_0 hs6
      obtain ⟨hV, hVs⟩ := okBlk_1 hs6
      have hl0 : (l.drop a).Pairwise (Cmp R cf) := hl.sublist (List.drop_sublist _ _)
      have hC := cmp_parts hl0 hU fun y hy => mem_drop_perm hV hy
      rw [show D ++ E = D ++ (E.take bs ++ (E.drop bs).take bs) ++ E.drop (2 * bs) from by rw [two_blocks, List.append_assoc, List.take_append_drop]]
      refine kgo ?_
      refine T_block ?_
      refine tx ?_
      refine sr 4 ?_
      refine s1 (y_bin rfl rfl rfl (fun hg => b_addv (((a + bs : Nat) : Int)) (by omega) (by omega))) ?_
      refine sr 2 ?_
      refine S_callM 43 [(0, 0), (901, 901)] (X := List Evt) rfl rfl rfl rfl rfl rfl rfl cf170 rfl (fun _ => .tuple #[]) (fun W => W.Perm (E.take bs ++ (E.drop bs).take bs) ∧ W.Pairwise R) (fun W => [(0, .own 31 9 (.slice A q c) q ((D ++ W ++ E.drop (2 * bs)).flatMap Evt.enc)), (901, pit)]) (fun _ => rfl) (fun _ => rfl) (fun K1 hK1 w hM => symV_any tr g cap hcf hcmp (2 * bs) hK1 A q c D (E.take bs) ((E.drop bs).take bs) (E.drop (2 * bs)) a (a + bs) (a + 2 * bs) (by omega) (by omega) (by omega) (by omega) (by omega) (by omega) (by simp only [List.length_append]; omega) (by omega) hUs hVs hC w hM) ?_
      rintro W ⟨hWp, hWs⟩
      have lw := hWp.length_eq
      have hWq : W.Perm ((l.drop a).take (2 * bs)) := hWp.trans (by have h := hU.append hV; rwa [two_blocks (l.drop a)] at h)
      rw [List.length_append] at lw
      refine sgx ?_
      refine sr 2 ?_
      refine sgr ?_
      refine sr 2 ?_
      refine s1 (y_bin rfl rfl rfl (fun hg => b_mulv (((2 * bs : Nat) : Int)) (by omega) (by omega))) ?_
      refine s1 (y_bin rfl rfl rfl (fun hg => b_addv (((a + 2 * bs + 2 * bs : Nat) : Int)) (by omega) (by omega))) ?_
      refine sr 1 ?_
      refine S_nil (nS4 (kf := [(7, 8), (33, 48)]) (kl := [(0, 0), (7, 8), (33, 48)]) (a + 2 * bs) (d + 1) (D ++ W) (E.drop (2 * bs)) ?_ ?_ ?_ ?_)
      · omega
      · exact ⟨by have := Nat.add_mul d 1 (2 * bs); omega, by omega, by rw [List.length_append]; omega, by omega, by rw [List.take_add]; exact okBlk_app (d := d) (by omega) (by rw [List.length_take]; omega) hs5 hWq hWs (by omega), by rw [← List.drop_drop]; exact okBlk_drop hs6⟩
      · exact ⟨rfl, rfl, trivial⟩
      · exact ⟨rfl, trivial⟩
    try simp only [nrm] at h35
    refine egs ?_
    refine tx ?_
    refine sr 2 ?_
    refine s1 (y_bin rfl rfl rfl (fun hg => b_addv (((a + bs : Nat) : Int)) (by omega) (by omega))) ?_
    refine sr 1 ?_
    refine sgx ?_
    refine sr 3 ?_
    refine sgo ?_
    refine T_cond rfl ?_ ?_ <;> intro h54
    · try simp only [nrm] at h54
      have l1 : (E.take bs).length = bs := by rw [List.length_take]; omega
      have l2 : (E.drop bs).length = q - (a + bs) := by rw [List.length_drop]; omega
      obtain ⟨hU, hUs⟩ := okBlk_0 hs6
      obtain ⟨hV, hVs⟩ := okBlk_1 hs6
      have l4 : ((l.drop a).drop bs).length = q - (a + bs) := by rw [List.length_drop, List.length_drop]; omega
      rw [List.take_of_length_le (by omega : (E.drop bs).length ≤ bs), List.take_of_length_le (by omega : ((l.drop a).drop bs).length ≤ bs)] at hV
      rw [List.take_of_length_le (by omega : (E.drop bs).length ≤ bs)] at hVs
      have hl0 : (l.drop a).Pairwise (Cmp R cf) := hl.sublist (List.drop_sublist _ _)
      have hC := cmp_parts hl0 hU fun y hy => hV.mem_iff.1 hy
      rw [show D ++ E = D ++ (E.take bs ++ E.drop bs) ++ [] from by rw [List.take_append_drop, List.append_nil]]
      refine T_region ?_
      refine sr 5 ?_
      refine S_callM 60 [(0, 0), (901, 901)] (X := List Evt) rfl rfl rfl rfl rfl rfl rfl cf170 rfl (fun _ => .tuple #[]) (fun W => W.Perm (E.take bs ++ E.drop bs) ∧ W.Pairwise R) (fun W => [(0, .own 31 9 (.slice A q c) q ((D ++ W ++ ([] : List Evt)).flatMap Evt.enc)), (901, pit)]) (fun _ => rfl) (fun _ => rfl) (fun K1 hK1 w hM => symV_any tr g cap hcf hcmp (2 * bs) hK1 A q c D (E.take bs) (E.drop bs) [] a (a + bs) q (by omega) (by omega) (by omega) (by omega) (by omega) (by omega) (by simp only [List.length_append, List.length_nil]; omega) (by omega) hUs hVs hC w hM) ?_
      rintro W ⟨hWp, hWs⟩
      have lw := hWp.length_eq
      have hWq : W.Perm (l.drop a) := hWp.trans (by have h := hU.append hV; rwa [List.take_append_drop bs (l.drop a)] at h)
      rw [List.length_append] at lw
      rw [List.append_nil]
      refine sgr ?_
      refine sr 1 ?_
      refine s1 (y_bin rfl rfl rfl (fun hg => b_mulv (((2 * bs : Nat) : Int)) (by omega) (by omega))) ?_
      refine sr 1 ?_
      refine S_nil (nS2 (kf := [(6, 9), (28, 62)]) (kl := [(0, 0), (6, 9), (28, 62)]) (2 * bs) (D ++ W) ?_ ?_ ?_ ?_)
      · omega
      · exact ⟨by omega, by rw [List.length_append]; omega, by
          have := okBlk_app (W := W) (W0 := l.drop a) (d := d) (by omega) (by rw [List.length_take]; omega) hs5 hWq hWs (by omega)
          rwa [List.take_append_drop] at this⟩
      · exact ⟨rfl, trivial⟩
      · exact ⟨rfl, trivial⟩
    try simp only [nrm] at h54
    have hE := okBlk_all hs6 (by omega) (by rw [List.length_drop]; omega)
    refine kgr ?_
    refine sr 1 ?_
    refine s1 (y_bin rfl rfl rfl (fun hg => b_mulv (((2 * bs : Nat) : Int)) (by omega) (by omega))) ?_
    refine sr 1 ?_
    refine S_nil (nS2 (kf := [(6, 9), (28, 62)]) (kl := [(0, 0), (6, 9), (28, 62)]) (2 * bs) (D ++ E) ?_ ?_ ?_ ?_)
    · omega
    · exact ⟨by omega, by rw [List.length_append]; omega, by
        have := okBlk_app (W := E) (W0 := l.drop a) (d := d) (by omega) (by rw [List.length_take]; omega) hs5 hE.1 hE.2 (by omega)
        rwa [List.take_append_drop] at this⟩
    · exact ⟨rfl, trivial⟩
    · exact ⟨rfl, trivial⟩
  try simp only [nrm] at h30
  refine T_exit (fun a w hF hM => hRn a w (post0 rfl (fun w hM => ?_) a w hF hM))
  exact ⟨l1, rfl, okBlk_all hr3 (by omega) (by omega), hM.keep (ks := [(0, 999)]) (by repeat (first | exact kl_rest (by assumption) rfl | (apply kl_in; focus rfl))) _ ⟨rfl, rfl, trivial⟩⟩
theorem sortStableV_any {R : Evt → Evt → Prop} (tr : ∀ x y z, R x y → R y z → R x z) {cf : Evt → Evt → Int} (g : FuncId) (cap : Array Value) (hcf : ∀ args w, (callFunc g args).run Tryz.prog w = .ok (.enter g args) w)
    {w0 : World} {pit : It} (hcmp : ∀ x y w L, Mem w0 L w → HL.get L 901 = some pit → Calls Tryz.prog g (#[.agg (Evt.enc x).toArray, .agg (Evt.enc y).toArray] ++ cap) w fun e w' => e = .returned (.int .i64 (cf x y)) ∧ Below w.heap.size w w')
    {K : HL} (hK : FromK K) (A : Option Addr) (q c : Nat) (l : List Evt) (hq : l.length = q) (hqm : q ≤ 100000000) (hl : l.Pairwise (Cmp R cf)) (w : World)
    (hM0 : Mem w0 ([(0, .own 31 9 (.slice A q c) q (l.flatMap Evt.enc)), (901, pit)] ++ K) w) :
    Calls Tryz.prog 57 #[.slice A q c, .func (.func g) #[] cap] w fun e w' => ∃ W : List Evt, e = .returned (.tuple #[]) ∧ (W.Perm l ∧ W.Pairwise R) ∧ Mem w0 ([(0, .own 31 9 (.slice A q c) q (W.flatMap Evt.enc)), (901, pit)] ++ K) w' := by
  refine enterM_args (args := [.slice A q c, .func (.func g) #[] cap]) (F := _) hM0 Tryz.func57 rfl Tryz.ntmps57 rfl rfl ?_
  intro Rb hRb hRn
  refine T_region ?_
  refine sr 2 ?_
  refine s1 (y_len_slice rfl rfl Tryz.underlying25) ?_
  refine sr 1 ?_
  refine S_callM 8 [(0, 0), (901, 901)] (X := List Evt) rfl rfl rfl rfl rfl rfl rfl cf97 rfl (fun _ => .tuple #[]) (fun W => W.Perm l ∧ W.Pairwise R) (fun W => [(0, .own 31 9 (.slice A q c) q (W.flatMap Evt.enc)), (901, pit)]) (fun _ => rfl) (fun _ => rfl) (fun K1 hK1 w hM => stabV_any tr g cap hcf hcmp hK1 A q c l hq hqm hl w hM) ?_
  rintro W hW
  refine S_nil (fun a w hF hM => hRn a w (post0 rfl (fun w hM => ?_) a w hF hM))
  exact ⟨W, rfl, hW, hM.keep (ks := [(0, 999)]) (by repeat (first | exact kl_rest (by assumption) rfl | (apply kl_in; focus rfl))) _ ⟨rfl, rfl, trivial⟩⟩
end Go.Proofs.YtekbcbjimajnfaaGreatDoor
end
section
namespace Go.Proofs.YtekbcbjimajnfaaGreatDoor
set_option linter.unusedSimpArgs false
set_option linter.unusedVariables false
set_option maxRecDepth 20000
open Go.RowKit Go.Eng
def askNo (x : SC) (by_ fr mo : Int) : Int := if condNo x ≠ 0 then condNo x else if outI by_ 1 3 = true then 10 else if (outI fr 0 2000 || outI mo 1 2000) = true then 2 else 0
def askIds (x : SC) (by_ : Int) (dn : Bool) (fr mo : Int) (m : List Evt) : List (List UInt8) := if askNo x by_ fr mo = 0 then idsI (((askL x by_ dn m).drop fr.toNat).take mo.toNat) else []
def askN (x : SC) (by_ fr mo : Int) (m : List Evt) : Int := if askNo x by_ fr mo = 0 then ((filI x m).length : Nat) else 0
theorem inB_outI (n lo hi : Int) : (!inB n lo hi) = outI n lo hi := by
  unfold inB outI
  rw [Bool.not_not]
abbrev askCells (x : SC) (by_ : Int) (dn : Bool) (fr mo : Int) : List Value := [.int .i64 x.op, .slice x.ad x.q x.c, .int .i64 x.lo, .int .i64 x.hi, str x.nm, str x.tx, .int .i64 by_, .bool dn, .int .i64 fr, .int .i64 mo]
theorem find1_any (a b : Evt) (x : SC) (by_ : Int) (dn : Bool) (fr mo : Int) (b3 : Nat) (w : World) (h : CellsAt w b3 (askCells x by_ dn fr mo)) :
    Calls Tryz.prog 58 #[a.val, b.val, ptF b3] w fun e w' => e = .returned (.int .i64 (keyK by_ a b)) ∧ Below w.heap.size w w' := by
  refine enter_args (args := [.agg #[str a.id, .int .i64 a.at_, .int .i64 a.lv, .slice a.fa.A a.fa.q a.fa.c, .slice a.ta.A a.ta.q a.ta.c, .slice a.cr.A a.cr.q a.cr.c, str a.rel, str a.us, .int .i64 a.wt], .agg #[str b.id, .int .i64 b.at_, .int .i64 b.lv, .slice b.fa.A b.fa.q b.fa.c, .slice b.ta.A b.ta.q b.ta.c, .slice b.cr.A b.cr.q b.cr.c, str b.rel, str b.us, .int .i64 b.wt], ptF b3]) (F := _) Tryz.func58 rfl Tryz.ntmps58 rfl rfl ?_
  intro Rb hRb hRn
  refine tx ?_
  refine S_box 3 3 rfl rfl rfl rfl rfl ?_
  intro b3
  refine S_box 4 4 rfl rfl rfl rfl rfl ?_
  intro b4
  refine sr 1 ?_
  refine sgs ?_
  refine tx ?_
  refine s1 (yF fa38_1) ?_
  refine s1 (y_load_far rfl rfl (h.1 6 _ rfl) h.2 Tryz.underlying3 rfl) ?_
  refine sgo ?_
  refine T_block ?_
  refine tx ?_
  refine sr 2 ?_
  refine sgo ?_
  refine T_cond rfl ?_ ?_ <;> intro h8
  · skip
    have h8 : by_ = 2 := by simpa using h8
    refine tx ?_
    refine s1 (yF fa31_2) ?_
    refine s1 (yL 3 Tryz.underlying3) ?_
    refine s1 (yF fa31_2) ?_
    refine s1 (yL 4 Tryz.underlying3) ?_
    refine s1 (y_call rfl rfl rfl cf59 (fun _ w _ => cmpJ_any _ _ w)) ?_
    refine sr 1 ?_
    refine sgo ?_
    refine tr1 hRb fun w hM => ?_
    exact ⟨by rw [keyK, if_pos h8], hM.below⟩
  have h8 : ¬ by_ = 2 := by simpa using h8
  refine tx ?_
  refine sr 2 ?_
  refine sgo ?_
  refine T_cond rfl ?_ ?_ <;> intro h15
  · skip
    have h15 : by_ = 3 := by simpa using h15
    refine tx ?_
    refine s1 (yF fa31_8) ?_
    refine s1 (yL 3 Tryz.underlying3) ?_
    refine s1 (yF fa31_8) ?_
    refine s1 (yL 4 Tryz.underlying3) ?_
    refine s1 (y_call rfl rfl rfl cf59 (fun _ w _ => cmpJ_any _ _ w)) ?_
    refine sr 1 ?_
    refine sgo ?_
    refine tr1 hRb fun w hM => ?_
    exact ⟨by rw [keyK, if_neg h8, if_pos h15], hM.below⟩
  have h15 : ¬ by_ = 3 := by simpa using h15
  refine kgx ?_
  refine sr 1 ?_
  refine sgo ?_
  refine tr1 hRb fun w hM => ?_
  exact ⟨by rw [keyK, if_neg h8, if_neg h15], hM.below⟩
abbrev ownStr (A : Option Addr) (c : Nat) (l : List (List UInt8)) : It := .own 9 1 (.slice A l.length c) l.length (l.flatMap strE)
theorem take_dropI {l : List Evt} {f i : Nat} {e : Evt} (hf : f ≤ i) (he : l[i]? = some e) : (l.drop f).take (i + 1 - f) = (l.drop f).take (i - f) ++ [e] := by
  have : (l.drop f)[i - f]? = some e := by rw [List.getElem?_drop, show f + (i - f) = i by omega]; exact he
  rw [show i + 1 - f = (i - f) + 1 by omega, List.take_add_one, this]; rfl
theorem ask_perm {x : SC} {by_ : Int} {dn : Bool} {m : List Evt} {z : FndR} {W : List Evt} (hn : (idsI m).Nodup) (hz : FndP x m z) (hW : W.Perm z.l ∧ W.Pairwise fun a b => cmpK by_ a b ≤ 0) : (if dn = true then W.reverse else W) = askL x by_ dn m := by
  cases dn with
  | false => exact ask_one hn (hW.1.trans hz.1) hW.2
  | true => exact ask_one hn ((List.reverse_perm W).trans (hW.1.trans hz.1)) (ask_rev hW.2)
abbrev askBox (b3 : Nat) (x : SC) (by_ : Int) (dn : Bool) (fr mo : Int) : It := .blk b3 (IsBox (askCells x by_ dn fr mo) 38)
theorem sortF_any {w0 : World} {K : HL} (hK : FromK K) (x : SC) (by_ : Int) (dn : Bool) (fr mo : Int) (b3 : Nat) (z : FndR) (hz : z.l.Pairwise fun a b => cmpT a b ≤ 0) (hl : z.l.length ≤ 2000) (w : World) (hM : Mem w0 ([(0, ownEv z.A z.c z.l), (901, askBox b3 x by_ dn fr mo)] ++ K) w) :
    Calls Tryz.prog 57 #[.slice z.A z.l.length z.c, .func (.func 58) #[] #[ptF b3]] w fun e w' => ∃ W : List Evt, e = .returned (.tuple #[]) ∧ (W.Perm z.l ∧ W.Pairwise fun a b => cmpK by_ a b ≤ 0) ∧ Mem w0 ([(0, .own 31 9 (.slice z.A z.l.length z.c) z.l.length (W.flatMap Evt.enc)), (901, askBox b3 x by_ dn fr mo)] ++ K) w' :=
  sortStableV_any (R := fun a b => cmpK by_ a b ≤ 0) (fun u v y h1 h2 => (cmp3_KT by_).tr u v y h1 h2) (cf := keyK by_) 58 #[ptF b3] cf58 (pit := askBox b3 x by_ dn fr mo) (fun u v w2 L hM2 hL2 => find1_any u v x by_ dn fr mo b3 w2 (hM2.box_cells 901 hL2)) hK z.A z.l.length z.c z.l rfl (by omega) (cmp_key hz) w hM
set_option maxHeartbeats 2000000 in
theorem Find_any {w0 : World} {K : HL} (hK : FromK K) (b bm : Nat) (m : List Evt) (rs : List Row) (x : SC) (by_ : Int) (dn : Bool) (fr mo : Int) (w : World) (hix : IxOk w0 rs m) (hok : x.Ok w0) (hmx : MLen w0) (hM0 : Mem w0 ([(901, ixBox b bm), (902, ixMap bm m), (950, .many rs)] ++ K) w) :
    Calls Tryz.prog 16 #[.pointer (some ⟨b, 0, none⟩), .agg #[.int .i64 x.op, .slice x.ad x.q x.c, .int .i64 x.lo, .int .i64 x.hi, str x.nm, str x.tx, .int .i64 by_, .bool dn, .int .i64 fr, .int .i64 mo]] w fun en w' => ∃ z : Option Addr × Nat, en = .returned (.tuple #[.slice z.1 (askIds x by_ dn fr mo m).length z.2, .int .i64 (askN x by_ fr mo m), .int .i64 (askNo x by_ fr mo)]) ∧ True ∧ Mem w0 ([(901, ixBox b bm), (902, ixMap bm m), (950, .many rs), (909, ownStr z.1 z.2 (askIds x by_ dn fr mo m))] ++ K) w' := by
  have hle := hix.le
  refine enterM_args (args := [.pointer (some ⟨b, 0, none⟩), .agg #[.int .i64 x.op, .slice x.ad x.q x.c, .int .i64 x.lo, .int .i64 x.hi, str x.nm, str x.tx, .int .i64 by_, .bool dn, .int .i64 fr, .int .i64 mo]]) (F := _) hM0 Tryz.func16 rfl Tryz.ntmps16 rfl rfl ?_
  intro Rb hRb hRn
  refine tx ?_
  refine S_box 3 3 rfl rfl rfl rfl rfl ?_
  intro b3
  refine S_nilSlice 909 (e := 9) (size := 1) ?_
  refine S_nilSlice 4 (e := 9) (size := 1) ?_
  refine sr 3 ?_
  refine sgs ?_
  refine tx ?_
  refine s1 (yF fa38_0) ?_
  refine s1 (y_loadSub 3 0 6 (ds := [.int .i64 x.op, .slice x.ad x.q x.c, .int .i64 x.lo, .int .i64 x.hi, str x.nm, str x.tx]) rfl rfl rfl rfl Tryz.underlying36 rfl sz36) ?_
  refine s1 (y_call rfl rfl rfl cf54 (fun _ w1 hM => CheckCond_any x w1 (hok.lift hM.below))) ?_
  refine sr 1 ?_
  refine sgx ?_
  refine sr 2 ?_
  refine sgo ?_
  refine T_cond rfl ?_ ?_ <;> intro h15
  · skip
    have h15 : ¬ condNo x = 0 := by simpa using h15
    refine tx ?_
    refine sr 1 ?_
    refine S_nilSlice 4 (e := 9) (size := 1) ?_
    refine sr 3 ?_
    refine sgo ?_
    refine tr3 hRb fun w hM => ?_
    have e1 : askNo x by_ fr mo = condNo x := by rw [askNo, if_pos h15]
    have e2 : askIds x by_ dn fr mo m = [] := by rw [askIds, if_neg (by rw [e1]; exact h15)]
    have e3 : askN x by_ fr mo m = 0 := by rw [askN, if_neg (by rw [e1]; exact h15)]
    rw [e1, e2, e3]
    exact ⟨(none, 0), rfl, trivial, hM.keep (ks := [(0, 999)]) (by repeat (first | exact kl_rest (by assumption) rfl | (apply kl_in; focus rfl))) _ ⟨rfl, rfl, rfl, rfl, trivial⟩⟩
  have h15 : condNo x = 0 := by simpa using h15
  refine kgs ?_
  refine tx ?_
  refine s1 (yF fa38_1) ?_
  refine s1 (yL 3 Tryz.underlying3) ?_
  refine s1 (y_as (v' := .bool (outI by_ 1 3)) (by rw [inB_outI]) (y_call rfl rfl rfl cf55 (fun _ w _ => fout_any _ _ _ w))) ?_
  refine sgo ?_
  refine T_cond rfl ?_ ?_ <;> intro h19
  · skip
    refine tx ?_
    refine S_nilSlice 4 (e := 9) (size := 1) ?_
    refine sr 3 ?_
    refine sgo ?_
    refine tr3 hRb fun w hM => ?_
    have e1 : askNo x by_ fr mo = 10 := by rw [askNo, if_neg (by simpa using h15), if_pos h19]
    have e2 : askIds x by_ dn fr mo m = [] := by rw [askIds, if_neg (by rw [e1]; decide)]
    have e3 : askN x by_ fr mo m = 0 := by rw [askN, if_neg (by rw [e1]; decide)]
    rw [e1, e2, e3]
    exact ⟨(none, 0), rfl, trivial, hM.keep (ks := [(0, 999)]) (by repeat (first | exact kl_rest (by assumption) rfl | (apply kl_in; focus rfl))) _ ⟨rfl, rfl, rfl, rfl, trivial⟩⟩
  refine kgs ?_
  refine tx ?_
  refine s1 (yF fa38_3) ?_
  refine s1 (yL 3 Tryz.underlying3) ?_
  refine s1 (y_as (v' := .bool (outI fr 0 2000)) (by rw [inB_outI]) (y_call rfl rfl rfl cf55 (fun _ w _ => fout_any _ _ _ w))) ?_
  refine sr 1 ?_
  refine sg rfl (yF fa38_4) ?_
  refine sg rfl (yL 3 Tryz.underlying3) ?_
  refine sg rfl (y_as (v' := .bool (outI mo 1 2000)) (by rw [inB_outI]) (y_call rfl rfl rfl cf55 (fun _ w _ => fout_any _ _ _ w))) ?_
  refine s1 (y_or rfl rfl rfl) ?_
  refine sgo ?_
  refine T_cond rfl ?_ ?_ <;> intro h27
  · skip
    refine tx ?_
    refine S_nilSlice 4 (e := 9) (size := 1) ?_
    refine sr 3 ?_
    refine sgo ?_
    refine tr3 hRb fun w hM => ?_
    have e1 : askNo x by_ fr mo = 2 := by rw [askNo, if_neg (by simpa using h15), if_neg (by rw [h19]; exact Bool.false_ne_true), if_pos h27]
    have e2 : askIds x by_ dn fr mo m = [] := by rw [askIds, if_neg (by rw [e1]; decide)]
    have e3 : askN x by_ fr mo m = 0 := by rw [askN, if_neg (by rw [e1]; decide)]
    rw [e1, e2, e3]
    exact ⟨(none, 0), rfl, trivial, hM.keep (ks := [(0, 999)]) (by repeat (first | exact kl_rest (by assumption) rfl | (apply kl_in; focus rfl))) _ ⟨rfl, rfl, rfl, rfl, trivial⟩⟩
  have hno : askNo x by_ fr mo = 0 := by rw [askNo, if_neg (by simpa using h15), if_neg (by rw [h19]; exact Bool.false_ne_true), if_neg (by rw [h27]; exact Bool.false_ne_true)]
  obtain ⟨hf0, hf1, hm0, hm1⟩ : 0 ≤ fr ∧ fr ≤ 2000 ∧ 1 ≤ mo ∧ mo ≤ 2000 := by
    simp only [outI, Bool.or_eq_false_iff, decide_eq_false_iff_not] at h27
    omega
  obtain ⟨f0, rfl⟩ : ∃ k : Nat, fr = k := ⟨fr.toNat, by omega⟩
  obtain ⟨m0, rfl⟩ : ∃ k : Nat, mo = k := ⟨mo.toNat, by omega⟩
  refine kgx ?_
  refine sr 1 ?_
  refine s1 (yF fa38_0) ?_
  refine s1 (y_loadSub 3 0 6 (ds := [.int .i64 x.op, .slice x.ad x.q x.c, .int .i64 x.lo, .int .i64 x.hi, str x.nm, str x.tx]) rfl rfl rfl rfl Tryz.underlying36 rfl sz36) ?_
  refine S_callN 31 [(901, 901), (902, 902), (950, 950)] [(906, 906)] (X := FndR) rfl rfl rfl rfl rfl rfl rfl cf56 rfl (fun z => .slice z.A z.l.length z.c) (fun z => FndP x m z) (fun z => [(901, ixBox b bm), (902, ixMap bm m), (950, .many rs), (906, ownEv z.A z.c z.l)]) (fun _ => rfl) (fun _ => rfl) (fun K1 hK1 w1 hM => found_any hK1 b bm m rs x w1 hix hok (cond_ch h15) hmx hM) ?_
  rintro z hz
  have hzl := hz.len
  refine sr 1 ?_
  refine sgx ?_
  refine sr 1 ?_
  refine s1 (y_makeFunc rfl rfl rfl rfl rfl) ?_
  refine S_callM 34 [(0, 906), (901, 3)] (X := List Evt) rfl rfl rfl rfl rfl rfl rfl cf57 rfl (fun _ => .tuple #[]) (fun W => W.Perm z.l ∧ W.Pairwise fun a b => cmpK by_ a b ≤ 0) (fun W => [(0, .own 31 9 (.slice z.A z.l.length z.c) z.l.length (W.flatMap Evt.enc)), (901, askBox b3 x by_ dn (f0 : Int) (m0 : Int))]) (fun _ => rfl) (fun _ => rfl) (fun K1 hK1 w1 hM => sortF_any hK1 x by_ dn (f0 : Int) (m0 : Int) b3 z hz.2 (by omega) w1 hM) ?_
  rintro W hW
  have hWl : W.length = z.l.length := hW.1.length_eq
  have hV := ask_perm (dn := dn) hix.nd hz hW
  refine sgs ?_
  refine tx ?_
  refine s1 (yF fa38_2) ?_
  refine s1 (yL 3 Tryz.underlying4) ?_
  refine sgo ?_
  refine T_cond rfl ?_ ?_ <;> intro h36
  · skip
    rw [if_pos h36] at hV
    obtain ⟨V, hVe⟩ : ∃ V, W.reverse = V := ⟨_, rfl⟩
    have hVl : V.length = z.l.length := by rw [← hVe, List.length_reverse, hWl]
    rw [hVe] at hV
    refine T_region ?_
    refine sr 1 ?_
    refine S_callM 38 [(0, 906)] (X := Unit) rfl rfl rfl rfl rfl rfl rfl cf60 rfl (fun _ => .tuple #[]) (fun _ => True) (fun _ => [(0, .own 31 9 (.slice z.A z.l.length z.c) z.l.length (W.reverse.flatMap Evt.enc))]) (fun _ => rfl) (fun _ => rfl) (fun K1 hK1 w1 hM => Reverse_any hK1 z.A z.l.length z.c W hWl (by omega) w1 hM) ?_
    intro _ _
    rw [hVe]
    refine sgx ?_
    refine S_nilSlice 9 (e := 9) (size := 1) ?_
    refine sr 1 ?_
    refine sgs ?_
    refine tx ?_
    refine s1 (yF fa38_3) ?_
    refine s1 (yL 3 Tryz.underlying3) ?_
    refine sr 1 ?_
    refine sgo ?_
    refine T_block ?_
    refine lK5 (kf := [(9, 10), (41, 63)]) (kl := [(9, 10), (41, 63), (909, 909)]) (fun (i q : Nat) (A : Option Addr) (c : Nat) (out : List (List UInt8)) => [(10, true, .int .i64 (i : Int)), (9, true, .slice A q c)]) (fun (i q : Nat) (A : Option Addr) (c : Nat) (out : List (List UInt8)) => [(909, .own 9 1 (.slice A q c) q (out.flatMap strE))]) (fun (i q : Nat) (A : Option Addr) (c : Nat) (out : List (List UInt8)) => f0 ≤ i ∧ i ≤ f0 + m0 ∧ out.length = q ∧ q ≤ i ∧ out = idsI ((V.drop f0).take (i - f0)) ∧ (i = f0 ∨ i ≤ V.length)) (fun (i q : Nat) (A : Option Addr) (c : Nat) (out : List (List UInt8)) => f0 + m0 - i) f0 0 none 0 [] ?_ ?_ ?_ ?_
    · exact ⟨Nat.le_refl _, by omega, rfl, by omega, by simp, .inl rfl⟩
    · exact ⟨rfl, rfl, trivial⟩
    · exact ⟨rfl, trivial⟩
    rintro i q A c out ⟨hp1, hp2, hp3, hp4, hp5, hp6⟩
    refine T_seq ?_
    refine tx ?_
    refine sr 2 ?_
    refine s1 (y_len_slice rfl rfl Tryz.underlying25) ?_
    refine sr 2 ?_
    refine sg rfl (y_move rfl rfl) ?_
    refine sg rfl (yF fa38_3) ?_
    refine sg rfl (yL 3 Tryz.underlying3) ?_
    refine sg rfl (yF fa38_4) ?_
    refine sg rfl (yL 3 Tryz.underlying3) ?_
    refine sg rfl (y_bin rfl rfl rfl (fun hg => b_add (by simp only [Bool.true_and, Bool.and_eq_true, beq_iff_eq, decide_eq_true_eq, decide_eq_false_iff_not, Int.not_lt, Int.not_le] at hg; omega))) ?_
    refine sg rfl (y_bin rfl rfl rfl (fun _ => b_lss)) ?_
    refine s1 (y_and rfl rfl rfl) ?_
    refine sgo ?_
    refine T_cond rfl ?_ ?_ <;> intro h53
    · skip
      simp only [Bool.and_eq_true, decide_eq_true_eq] at h53
      obtain ⟨e, he⟩ : ∃ e, V[i]? = some e := ⟨_, List.getElem?_eq_getElem (by omega)⟩
      refine kgs ?_
      refine T_block ?_
      refine T_region ?_
      refine sr 3 ?_
      refine s1 (y_indexOwn 906 rfl rfl rfl rfl Tryz.underlying25 sz31 (fun _ => by omega)) ?_
      refine s1 (y_fieldOwn 906 rfl rfl rfl (fun _ => by omega) fa31_0) ?_
      refine s1 (y_load_cellOwn 906 rfl rfl rfl (fun _ => by omega) (fun _ => flat_at (enc := Evt.enc) (size := 9) (fun _ => rfl) he 0 (str e.id) rfl) Tryz.underlying9 rfl) ?_
      refine S_buildSlice 62 62 rfl rfl rfl rfl rfl Tryz.underlying49 inf9 rfl (by decide) (by decide) rfl rfl (by decide) rfl (_) rfl ?_
      intro b62
      obtain ⟨i63, hi63, hz63, hs63, hy63⟩ := info_parts inf9
      refine S_append 63 909 62 rfl rfl rfl rfl rfl rfl rfl rfl Tryz.underlying49 hi63 hz63 hs63 hy63 rfl (by decide) (by decide) rfl ?_ ?_ (q + 1) ((out ++ [e.id]).flatMap strE) ?_ ?_ ?_
      · (simp only [maxLen]; omega)
      · omega
      · rfl
      · simp [List.flatMap_append, strE]; rfl
      intro A63 c63
      refine sr 1 ?_
      refine sgr ?_
      refine sr 1 ?_
      refine s1 (y_bin rfl rfl rfl (fun hg => b_addv (((i + 1 : Nat) : Int)) (by omega) (by omega))) ?_
      refine sr 1 ?_
      refine S_nil (nS5 (kf := [(9, 10), (41, 63)]) (kl := [(9, 10), (41, 63), (909, 909)]) (i + 1) (q + 1) A63 c63 (out ++ [e.id]) ?_ ?_ ?_ ?_)
      · omega
      · exact ⟨by omega, by omega, by simp [hp3], by omega, by rw [take_dropI hp1 he, hp5]; simp [idsI], .inr (by omega)⟩
      · exact ⟨rfl, rfl, trivial⟩
      · exact ⟨rfl, trivial⟩
    refine egx ?_
    refine sr 2 ?_
    refine s1 (y_len_slice rfl rfl Tryz.underlying25) ?_
    refine sr 3 ?_
    refine sgo ?_
    refine tr3 hRb fun w hM => ?_
    have e4 : out = idsI ((V.drop f0).take m0) := by
      rw [hp5]
      simp only [Bool.and_eq_false_iff, decide_eq_false_iff_not] at h53
      by_cases hi : i < f0 + m0
      · rw [List.take_of_length_le (by rw [List.length_drop]; omega), List.take_of_length_le (by rw [List.length_drop]; omega)]
      · rw [show i - f0 = m0 by omega]
    have e2 : askIds x by_ dn f0 m0 m = out := by rw [askIds, if_pos hno, ← hV, e4]; rfl
    have e3 : askN x by_ f0 m0 m = (z.l.length : Nat) := by rw [askN, if_pos hno, hz.1.length_eq]
    rw [hno, e2, e3]
    have e9 : ownStr A c out = .own 9 1 (.slice A q c) q (out.flatMap strE) := by unfold ownStr; rw [hp3]
    refine ⟨(A, c), by rw [hp3], trivial, ?_⟩
    show Mem w0 ([_, _, _, (909, ownStr A c out)] ++ K) _
    rw [e9]
    exact hM.keep (ks := [(0, 999)]) (by repeat (first | exact kl_rest (by assumption) rfl | (apply kl_in; focus rfl))) _ ⟨rfl, rfl, rfl, rfl, trivial⟩
  rw [if_neg (by rw [h36]; exact Bool.false_ne_true)] at hV
  obtain ⟨V, hVe⟩ : ∃ V, W = V := ⟨_, rfl⟩
  have hVl : V.length = z.l.length := by rw [← hVe, hWl]
  rw [hVe] at hV
  rw [hVe]
  refine kgx ?_
  refine S_nilSlice 9 (e := 9) (size := 1) ?_
  refine sr 1 ?_
  refine sgs ?_
  refine tx ?_
  refine s1 (yF fa38_3) ?_
  refine s1 (yL 3 Tryz.underlying3) ?_
  refine sr 1 ?_
  refine sgo ?_
  refine T_block ?_
  refine lK5 (kf := [(9, 10), (41, 63)]) (kl := [(9, 10), (41, 63), (909, 909)]) (fun (i q : Nat) (A : Option Addr) (c : Nat) (out : List (List UInt8)) => [(10, true, .int .i64 (i : Int)), (9, true, .slice A q c)]) (fun (i q : Nat) (A : Option Addr) (c : Nat) (out : List (List UInt8)) => [(909, .own 9 1 (.slice A q c) q (out.flatMap strE))]) (fun (i q : Nat) (A : Option Addr) (c : Nat) (out : List (List UInt8)) => f0 ≤ i ∧ i ≤ f0 + m0 ∧ out.length = q ∧ q ≤ i ∧ out = idsI ((V.drop f0).take (i - f0)) ∧ (i = f0 ∨ i ≤ V.length)) (fun (i q : Nat) (A : Option Addr) (c : Nat) (out : List (List UInt8)) => f0 + m0 - i) f0 0 none 0 [] ?_ ?_ ?_ ?_
  · exact ⟨Nat.le_refl _, by omega, rfl, by omega, by simp, .inl rfl⟩
  · exact ⟨rfl, rfl, trivial⟩
  · exact ⟨rfl, trivial⟩
  rintro i q A c out ⟨hp1, hp2, hp3, hp4, hp5, hp6⟩
  refine T_seq ?_
  refine tx ?_
  refine sr 2 ?_
  refine s1 (y_len_slice rfl rfl Tryz.underlying25) ?_
  refine sr 2 ?_
  refine sg rfl (y_move rfl rfl) ?_
  refine sg rfl (yF fa38_3) ?_
  refine sg rfl (yL 3 Tryz.underlying3) ?_
  refine sg rfl (yF fa38_4) ?_
  refine sg rfl (yL 3 Tryz.underlying3) ?_
  refine sg rfl (y_bin rfl rfl rfl (fun hg => b_add (by simp only [Bool.true_and, Bool.and_eq_true, beq_iff_eq, decide_eq_true_eq, decide_eq_false_iff_not, Int.not_lt, Int.not_le] at hg; omega))) ?_
  refine sg rfl (y_bin rfl rfl rfl (fun _ => b_lss)) ?_
  refine s1 (y_and rfl rfl rfl) ?_
  refine sgo ?_
  refine T_cond rfl ?_ ?_ <;> intro h53
  · skip
    simp only [Bool.and_eq_true, decide_eq_true_eq] at h53
    obtain ⟨e, he⟩ : ∃ e, V[i]? = some e := ⟨_, List.getElem?_eq_getElem (by omega)⟩
    refine kgs ?_
    refine T_block ?_
    refine T_region ?_
    refine sr 3 ?_
    refine s1 (y_indexOwn 906 rfl rfl rfl rfl Tryz.underlying25 sz31 (fun _ => by omega)) ?_
    refine s1 (y_fieldOwn 906 rfl rfl rfl (fun _ => by omega) fa31_0) ?_
    refine s1 (y_load_cellOwn 906 rfl rfl rfl (fun _ => by omega) (fun _ => flat_at (enc := Evt.enc) (size := 9) (fun _ => rfl) he 0 (str e.id) rfl) Tryz.underlying9 rfl) ?_
    refine S_buildSlice 62 62 rfl rfl rfl rfl rfl Tryz.underlying49 inf9 rfl (by decide) (by decide) rfl rfl (by decide) rfl (_) rfl ?_
    intro b62
    obtain ⟨i63, hi63, hz63, hs63, hy63⟩ := info_parts inf9
    refine S_append 63 909 62 rfl rfl rfl rfl rfl rfl rfl rfl Tryz.underlying49 hi63 hz63 hs63 hy63 rfl (by decide) (by decide) rfl ?_ ?_ (q + 1) ((out ++ [e.id]).flatMap strE) ?_ ?_ ?_
    · (simp only [maxLen]; omega)
    · omega
    · rfl
    · simp [List.flatMap_append, strE]; rfl
    intro A63 c63
    refine sr 1 ?_
    refine sgr ?_
    refine sr 1 ?_
    refine s1 (y_bin rfl rfl rfl (fun hg => b_addv (((i + 1 : Nat) : Int)) (by omega) (by omega))) ?_
    refine sr 1 ?_
    refine S_nil (nS5 (kf := [(9, 10), (41, 63)]) (kl := [(9, 10), (41, 63), (909, 909)]) (i + 1) (q + 1) A63 c63 (out ++ [e.id]) ?_ ?_ ?_ ?_)
    · omega
    · exact ⟨by omega, by omega, by simp [hp3], by omega, by rw [take_dropI hp1 he, hp5]; simp [idsI], .inr (by omega)⟩
    · exact ⟨rfl, rfl, trivial⟩
    · exact ⟨rfl, trivial⟩
  refine egx ?_
  refine sr 2 ?_
  refine s1 (y_len_slice rfl rfl Tryz.underlying25) ?_
  refine sr 3 ?_
  refine sgo ?_
  refine tr3 hRb fun w hM => ?_
  have e4 : out = idsI ((V.drop f0).take m0) := by
    rw [hp5]
    simp only [Bool.and_eq_false_iff, decide_eq_false_iff_not] at h53
    by_cases hi : i < f0 + m0
    · rw [List.take_of_length_le (by rw [List.length_drop]; omega), List.take_of_length_le (by rw [List.length_drop]; omega)]
    · rw [show i - f0 = m0 by omega]
  have e2 : askIds x by_ dn f0 m0 m = out := by rw [askIds, if_pos hno, ← hV, e4]; rfl
  have e3 : askN x by_ f0 m0 m = (z.l.length : Nat) := by rw [askN, if_pos hno, hz.1.length_eq]
  rw [hno, e2, e3]
  have e9 : ownStr A c out = .own 9 1 (.slice A q c) q (out.flatMap strE) := by unfold ownStr; rw [hp3]
  refine ⟨(A, c), by rw [hp3], trivial, ?_⟩
  show Mem w0 ([_, _, _, (909, ownStr A c out)] ++ K) _
  rw [e9]
  exact hM.keep (ks := [(0, 999)]) (by repeat (first | exact kl_rest (by assumption) rfl | (apply kl_in; focus rfl))) _ ⟨rfl, rfl, rfl, rfl, trivial⟩
end Go.Proofs.YtekbcbjimajnfaaGreatDoor
end
section
namespace Go.Proofs.YtekbcbjimajnfaaGreatDoor
set_option linter.unusedSimpArgs false
set_option linter.unusedVariables false
set_option maxRecDepth 20000
open Go.RowKit Go.Eng
/-! ### Split -/
/-! ### Cut -/
/-! ### Words in a list -/
theorem IndexStr_any (A : Option Addr) (q c : Nat) (l : List (List UInt8)) (s : List UInt8) (w : World) (hl : SlT strE 1 w A q l) (hq : q ≤ 4611686018427387904) :
    Calls Tryz.prog 107 #[.slice A q c, str s] w fun e w' => e = .returned (.bool (decide (s ∈ l))) ∧ Below w.heap.size w w' := by
  have hI : ∀ w1, Below w.heap.size w w1 → Calls Tryz.prog 192 #[.slice A q c, str s] w1 fun e w' => ∃ n : Int, e = .returned (.int .i64 n) ∧ (decide (0 ≤ n) = decide (s ∈ l)) ∧ Below w1.heap.size w1 w' := by
    intro w1 hb1
    have hl1 := hl.below hb1
    refine enter_args (args := [.slice A q c, str s]) (F := _) Tryz.func192 rfl Tryz.ntmps192 rfl rfl ?_
    intro Rb hRb hRn
    refine tx ?_
    refine sr 1 ?_
    refine sgs ?_
    refine tx ?_
    refine sr 1 ?_
    refine s1 (y_len_slice rfl rfl Tryz.underlying49) ?_
    refine sr 1 ?_
    refine sgo ?_
    refine T_block ?_
    refine lK1 (kf := [(4, 5), (8, 18)]) (kl := [(4, 5), (8, 18)]) (fun (i : Nat) => [(8, true, .int .i64 (i : Int))]) (fun (i : Nat) => []) (fun (i : Nat) => i ≤ q ∧ (s ∈ l ↔ s ∈ l.drop i)) (fun (i : Nat) => q - i) 0 ?_ ?_ ?_ ?_
    · exact ⟨by omega, Iff.rfl⟩
    · exact ⟨rfl, trivial⟩
    · exact trivial
    rintro i ⟨hp1, hp2⟩
    refine tx ?_
    refine sr 1 ?_
    refine sgs ?_
    refine T_cond rfl ?_ ?_ <;> intro h9
    · try simp only [nrm] at h9
      obtain ⟨x, hx1, hx2⟩ := hl1.at (i := i) (by omega)
      refine kgs ?_
      refine T_block ?_
      refine tx ?_
      refine sr 2 ?_
      refine sgx ?_
      refine sr 3 ?_
      refine s1 (y_indexAddr rfl rfl rfl Tryz.underlying49 sz9 (fun hg => hl1.isSome (by omega)) (fun _ => by omega)) ?_
      refine s1 (y_loadT1 (val := (fun l : List UInt8 => str l)) rfl rfl hl1 (fun _ => hx1) Tryz.underlying9 rfl) ?_
      refine s1 (y_bin rfl rfl rfl (fun _ => b_eqls)) ?_
      refine sgo ?_
      refine T_cond rfl ?_ ?_ <;> intro h16
      · skip
        refine tx ?_
        refine sr 2 ?_
        refine sgo ?_
        refine tr1 hRb fun w hM => ?_
        exact ⟨(i : Int), rfl, by rw [decide_eq_true (hp2.2 (by rw [hx2]; exact List.mem_cons.2 (.inl (by simpa using h16))))]; simp, hM.below⟩
      refine kgr ?_
      refine s1 (y_bin rfl rfl rfl (fun hg => b_add (by omega))) ?_
      refine sr 1 ?_
      refine S_nil (nK1 (kf := [(4, 5), (8, 18)]) (kl := [(4, 5), (8, 18)]) (i + 1) ?_ ?_ ?_ ?_)
      · omega
      · exact ⟨by omega, by rw [hp2, hx2, List.mem_cons, or_iff_right (by simpa using h16)]⟩
      · exact ⟨rfl, trivial⟩
      · exact trivial
    try simp only [nrm] at h9
    refine egx ?_
    refine sr 1 ?_
    refine sgo ?_
    refine tr1 hRb fun w hM => ?_
    exact ⟨-1, rfl, by rw [decide_eq_false (show ¬ s ∈ l from fun h => by have := hp2.1 h; rw [hl1.end (by omega)] at this; cases this)]; rfl, hM.below⟩
  refine enter_args (args := [.slice A q c, str s]) (F := _) Tryz.func107 rfl Tryz.ntmps107 rfl rfl ?_
  intro Rb hRb hRn
  refine tx ?_
  refine sr 1 ?_
  refine sgx ?_
  refine sr 2 ?_
  refine S_call 7 (X := Int) rfl rfl rfl rfl rfl rfl rfl cf192 (fun n => .int .i64 n) (fun n => decide (0 ≤ n) = decide (s ∈ l)) (fun _ => _) (fun w1 hM => (hI w1 hM.below).mono fun e w2 ⟨n, h1, h2, h3⟩ => ⟨n, h1, h2, hM.call h3⟩) ?_
  rintro n hn
  refine sr 2 ?_
  refine sgo ?_
  refine tr1 hRb fun w hM => ?_
  exact ⟨by rw [← hn], hM.below⟩
end Go.Proofs.YtekbcbjimajnfaaGreatDoor
end
section
namespace Go.Proofs.YtekbcbjimajnfaaGreatDoor
set_option linter.unusedSimpArgs false
set_option linter.unusedVariables false
set_option maxRecDepth 20000
open Go.RowKit Go.Eng
def addU (l : List (List UInt8)) (s : List UInt8) : List (List UInt8) := if s ∈ l then l else l ++ [s]
def kindsU (F : List Flt) : List (List UInt8) := F.foldl (fun l f => addU l f.k) []
theorem kindsU_snoc {F : List Flt} {i : Nat} {x : Flt} (h : F[i]? = some x) : kindsU (F.take (i + 1)) = addU (kindsU (F.take i)) x.k := by
  rw [kindsU, List.take_add_one, h, List.foldl_append]; rfl
theorem addU_len (l : List (List UInt8)) (s : List UInt8) : l.length ≤ (addU l s).length ∧ (addU l s).length ≤ l.length + 1 := by
  unfold addU
  split
  · omega
  · rw [List.length_append]; simp
theorem addU_nodup {l : List (List UInt8)} {s : List UInt8} (h : l.Nodup) : (addU l s).Nodup := by
  unfold addU
  split
  · exact h
  · rename_i hs
    rw [List.nodup_append]
    exact ⟨h, by simp, fun a ha b hb => by rw [List.mem_singleton.1 hb]; rintro rfl; exact hs ha⟩
theorem foldU (F : List Flt) : ∀ l : List (List UInt8), l.Nodup → (F.foldl (fun l f => addU l f.k) l).Nodup ∧ (F.foldl (fun l f => addU l f.k) l).length ≤ l.length + F.length := by
  induction F with
  | nil => intro l h; exact ⟨h, Nat.le_refl _⟩
  | cons f r ih =>
    intro l h
    obtain ⟨h1, h2⟩ := ih (addU l f.k) (addU_nodup h)
    have := (addU_len l f.k).2
    exact ⟨h1, by simp only [List.foldl_cons, List.length_cons]; omega⟩
def lvW (e : Evt) : List UInt8 := levels[(e.lv - 1).toNat]!
def valsE (e : Evt) (by_ : Int) (nm : List UInt8) : List (List UInt8) :=
  if by_ = 2 then [lvW e] else if by_ = 4 then (if (tagV nm e.ta.l).2 = true then [(tagV nm e.ta.l).1] else []) else if by_ = 5 then (if e.rel = [] then [] else [e.rel]) else if by_ = 6 then (if e.us = [] then [] else [e.us]) else kindsU e.fa.l
theorem valsE_ok (e : Evt) (by_ : Int) (nm : List UInt8) : (valsE e by_ nm).Nodup ∧ (valsE e by_ nm).length ≤ 1 + e.fa.l.length := by
  unfold valsE
  split
  · exact ⟨by simp, by simp⟩
  split
  · split
    · exact ⟨by simp, by simp⟩
    · exact ⟨by simp, by simp⟩
  split
  · split
    · exact ⟨by simp, by simp⟩
    · exact ⟨by simp, by simp⟩
  split
  · split
    · exact ⟨by simp, by simp⟩
    · exact ⟨by simp, by simp⟩
  · obtain ⟨h1, h2⟩ := foldU e.fa.l [] List.nodup_nil
    exact ⟨h1, by rw [List.length_nil] at h2; unfold kindsU; omega⟩
theorem lv_at {e : Evt} (h : 1 ≤ e.lv ∧ e.lv ≤ 5) : levels[(e.lv - 1).toNat]? = some (lvW e) := by
  have hl : (e.lv - 1).toNat < levels.length := by show _ < 5; omega
  rw [lvW, List.getElem!_eq_getElem?_getD, List.getElem?_eq_getElem hl]; rfl
theorem evNo_lv {e : Evt} (h : evNo e = 0) : (1 ≤ e.lv ∧ e.lv ≤ 5) ∧ (1 ≤ e.wt ∧ e.wt ≤ 1000000) ∧ (0 ≤ e.at_ ∧ e.at_ ≤ 3155759999) ∧ e.fa.q ≤ 10 := by
  unfold evNo at h
  obtain ⟨h0, h⟩ := fst_0F h
  obtain ⟨h1, h⟩ := fst_0F h
  obtain ⟨_, h⟩ := fst_0F h
  obtain ⟨_, h⟩ := fst_0F h
  have hfq : e.fa.q ≤ 10 := by
    unfold faultsNo at h1
    split at h1
    · cases h1
    split at h1
    · cases h1
    · omega
  split at h
  · cases h
  obtain ⟨_, h⟩ := fst_0F h
  split at h
  · cases h
  rename_i hy
  unfold headNo at h0
  split at h0
  · cases h0
  split at h0
  · cases h0
  rename_i hx
  simp only [Bool.or_eq_true, decide_eq_true_eq, not_or] at hx hy
  exact ⟨by omega, by omega, by omega, hfq⟩
theorem values_any (e : Evt) (by_ : Int) (nm : List UInt8) (w : World) (he : e.Ok w) (hlv : 1 ≤ e.lv ∧ e.lv ≤ 5) (hfq : e.fa.q ≤ 10) :
    Calls Tryz.prog 68 #[e.val, .int .i64 by_, str nm] w fun en w' => ∃ A c, en = .returned (.slice A (valsE e by_ nm).length c) ∧ w'.ownsRow w.heap.size 9 1 (.slice A (valsE e by_ nm).length c) (valsE e by_ nm).length ((valsE e by_ nm).flatMap strE) ∧ Below w.heap.size w w' := by
  have hl := he.fa.ok.t
  refine enter_args (args := [.agg #[str e.id, .int .i64 e.at_, .int .i64 e.lv, .slice e.fa.A e.fa.q e.fa.c, .slice e.ta.A e.ta.q e.ta.c, .slice e.cr.A e.cr.q e.cr.c, str e.rel, str e.us, .int .i64 e.wt], .int .i64 by_, str nm]) (F := _) Tryz.func68 rfl Tryz.ntmps68 rfl rfl ?_
  intro Rb hRb hRn
  refine tx ?_
  refine S_box 3 3 rfl rfl rfl rfl rfl ?_
  intro b3
  refine S_nilSlice 6 (e := 9) (size := 1) ?_
  refine sr 1 ?_
  refine sgx ?_
  refine sr 1 ?_
  refine sgs ?_
  refine tx ?_
  refine sr 1 ?_
  refine sgo ?_
  refine T_block ?_
  refine tx ?_
  refine sr 2 ?_
  refine sgo ?_
  refine T_cond rfl ?_ ?_ <;> intro h33
  · skip
    have hb : by_ = 2 := by simpa using h33
    refine T_seq ?_
    refine T_perm [1, 2, 3, 0, 4, 5, 6, 7] [false, true, true, true, false, false, false, true] [0, 0, 2, 6, 15, 31, 63, 127] [(2, [3])] (by kernel_rfl) (by kernel_rfl) (by kernel_rfl) rfl (by kernel_rfl) ?_
    refine Rf_ 1 36 rfl rfl rfl rfl rfl _ trivial (Y.z (yF fa31_2) rfl) ?_
    refine Rf_ 2 37 rfl rfl rfl rfl rfl _ ⟨rfl, trivial⟩ (Y.z (yL 3 Tryz.underlying3) rfl) ?_
    refine Rf_ 3 38 rfl rfl rfl rfl rfl _ trivial (Y.z (y_bin rfl rfl rfl (fun hg => b_subv (((e.lv - 1).toNat : Int)) (by omega) (by omega))) rfl) ?_
    refine R_chain 0 rfl rfl ?_
    refine S_callOwn 35 35 rfl rfl rfl rfl rfl rfl rfl cf105 (fun A c => .slice A (5) c) 9 1 (5) (levels.flatMap strE) (fun w hM => Levels_any w) ?_
    intro A35 c35
    refine R_next ⟨.inr ⟨rfl, trivial⟩, trivial⟩ ?_
    refine R_chain 4 rfl rfl ?_
    refine s1 (y_indexOwn 35 rfl rfl rfl rfl Tryz.underlying49 sz9 (fun _ => by omega)) ?_
    refine R_next ⟨.inl rfl, trivial⟩ ?_
    refine R_chain 5 rfl rfl ?_
    refine s1 (y_loadO1 35 (val := (fun l : List UInt8 => str l)) rfl rfl rfl rfl (fun _ => lv_at hlv) Tryz.underlying9 rfl) ?_
    refine R_next ⟨.inl rfl, trivial⟩ ?_
    refine R_chain 6 rfl rfl ?_
    refine S_buildSlice 41 41 rfl rfl rfl rfl rfl Tryz.underlying49 inf9 rfl (by decide) (by decide) rfl rfl (by decide) rfl (_) rfl ?_
    intro b41
    refine R_next ⟨.inl rfl, trivial⟩ ?_
    refine Rf_ 7 6 rfl rfl rfl rfl rfl _ trivial (Y.z (y_assign rfl rfl) rfl) ?_
    refine R_go (fun _ _ h => h) ?_
    refine tr1 hRb fun w hM => ?_
    have hv : valsE e by_ nm = [lvW e] := by rw [valsE, if_pos hb]
    rw [hv]
    exact ⟨_, _, rfl, hM.sat 41 _ rfl, hM.below⟩
  have n2 : ¬ by_ = 2 := by simpa using h33
  refine tx ?_
  refine sr 2 ?_
  refine sgo ?_
  refine T_cond rfl ?_ ?_ <;> intro h42
  · skip
    have hb : by_ = 4 := by simpa using h42
    refine tx ?_
    refine s1 (yA 3 rfl Tryz.underlying31 sz31) ?_
    refine sr 1 ?_
    refine s1 (y_call rfl rfl rfl cf106 (fun _ w1 hM => Tag_any e _ w1 (he.below hM.below))) ?_
    refine sr 5 ?_
    refine sgx ?_
    refine sr 1 ?_
    refine sgo ?_
    refine T_cond rfl ?_ ?_ <;> intro h50
    · skip
      refine tx ?_
      refine sr 1 ?_
      refine S_buildSlice 52 52 rfl rfl rfl rfl rfl Tryz.underlying49 inf9 rfl (by decide) (by decide) rfl rfl (by decide) rfl (_) rfl ?_
      intro b52
      refine sr 1 ?_
      refine sgo ?_
      refine tr1 hRb fun w hM => ?_
      have hv : valsE e by_ nm = [(tagV nm e.ta.l).1] := by rw [valsE, if_neg n2, if_pos hb, if_pos h50]
      rw [hv]
      exact ⟨_, _, rfl, hM.sat 52 _ rfl, hM.below⟩
    refine kgs ?_
    refine tx ?_
    refine sr 1 ?_
    refine s1 (y_bin rfl rfl rfl (fun _ => b_eqls)) ?_
    refine sgo ?_
    refine T_cond rfl ?_ ?_ <;> intro h62
    · skip
      refine tx ?_
      refine S_nilSlice 6 (e := 9) (size := 1) ?_
      refine sr 1 ?_
      refine sgo ?_
      refine tr1 hRb fun w hM => ?_
      have hv : valsE e by_ nm = [] := by rw [valsE, if_neg n2, if_pos hb, if_neg (by rw [h50]; exact Bool.false_ne_true)]
      rw [hv]
      exact ⟨none, 0, rfl, World.ownsRow_nil _ _ _ _, hM.below⟩
    exact absurd h62 (by decide)
  have n4 : ¬ by_ = 4 := by simpa using h42
  refine tx ?_
  refine sr 2 ?_
  refine sgo ?_
  refine T_cond rfl ?_ ?_ <;> intro h53
  · skip
    have hb : by_ = 5 := by simpa using h53
    refine T_region ?_
    refine s1 (yF fa31_6) ?_
    refine s1 (yL 3 Tryz.underlying9) ?_
    refine sr 1 ?_
    refine sgs ?_
    refine tx ?_
    refine sr 1 ?_
    refine s1 (y_bin rfl rfl rfl (fun _ => b_eqls)) ?_
    refine sgo ?_
    refine T_cond rfl ?_ ?_ <;> intro h62
    · skip
      have h62 : e.rel = [] := by simpa using h62
      refine tx ?_
      refine S_nilSlice 6 (e := 9) (size := 1) ?_
      refine sr 1 ?_
      refine sgo ?_
      refine tr1 hRb fun w hM => ?_
      have hv : valsE e by_ nm = [] := by rw [valsE, if_neg n2, if_neg n4, if_pos hb, if_pos h62]
      rw [hv]
      exact ⟨none, 0, rfl, World.ownsRow_nil _ _ _ _, hM.below⟩
    have h62 : ¬ e.rel = [] := by simpa using h62
    refine kgx ?_
    refine sr 1 ?_
    refine S_buildSlice 64 64 rfl rfl rfl rfl rfl Tryz.underlying49 inf9 rfl (by decide) (by decide) rfl rfl (by decide) rfl (_) rfl ?_
    intro b64
    refine sr 1 ?_
    refine sgo ?_
    refine tr1 hRb fun w hM => ?_
    have hv : valsE e by_ nm = [e.rel] := by rw [valsE, if_neg n2, if_neg n4, if_pos hb, if_neg h62]
    rw [hv]
    exact ⟨_, _, rfl, hM.sat 64 _ rfl, hM.below⟩
  have n5 : ¬ by_ = 5 := by simpa using h53
  refine tx ?_
  refine sr 2 ?_
  refine sgo ?_
  refine T_cond rfl ?_ ?_ <;> intro h57
  · skip
    have hb : by_ = 6 := by simpa using h57
    refine T_region ?_
    refine s1 (yF fa31_7) ?_
    refine s1 (yL 3 Tryz.underlying9) ?_
    refine sr 1 ?_
    refine sgs ?_
    refine tx ?_
    refine sr 1 ?_
    refine s1 (y_bin rfl rfl rfl (fun _ => b_eqls)) ?_
    refine sgo ?_
    refine T_cond rfl ?_ ?_ <;> intro h62
    · skip
      have h62 : e.us = [] := by simpa using h62
      refine tx ?_
      refine S_nilSlice 6 (e := 9) (size := 1) ?_
      refine sr 1 ?_
      refine sgo ?_
      refine tr1 hRb fun w hM => ?_
      have hv : valsE e by_ nm = [] := by rw [valsE, if_neg n2, if_neg n4, if_neg n5, if_pos hb, if_pos h62]
      rw [hv]
      exact ⟨none, 0, rfl, World.ownsRow_nil _ _ _ _, hM.below⟩
    have h62 : ¬ e.us = [] := by simpa using h62
    refine kgx ?_
    refine sr 1 ?_
    refine S_buildSlice 64 64 rfl rfl rfl rfl rfl Tryz.underlying49 inf9 rfl (by decide) (by decide) rfl rfl (by decide) rfl (_) rfl ?_
    intro b64
    refine sr 1 ?_
    refine sgo ?_
    refine tr1 hRb fun w hM => ?_
    have hv : valsE e by_ nm = [e.us] := by rw [valsE, if_neg n2, if_neg n4, if_neg n5, if_pos hb, if_neg h62]
    rw [hv]
    exact ⟨_, _, rfl, hM.sat 64 _ rfl, hM.below⟩
  have n6 : ¬ by_ = 6 := by simpa using h57
  refine tx ?_
  refine S_nilSlice 10 (e := 9) (size := 1) ?_
  refine sr 1 ?_
  refine sgs ?_
  refine tx ?_
  refine s1 (yF fa31_3) ?_
  refine s1 (yL 3 Tryz.underlying27) ?_
  refine s1 (y_len_slice rfl rfl Tryz.underlying27) ?_
  refine sr 1 ?_
  refine sgo ?_
  refine T_block ?_
  refine lK5 (kf := [(10, 10), (12, 12), (17, 31)]) (kl := [(10, 10), (12, 12), (17, 31)]) (fun (i q : Nat) (A : Option Addr) (c : Nat) (out : List (List UInt8)) => [(17, true, .int .i64 (i : Int)), (10, true, .slice A q c)]) (fun (i q : Nat) (A : Option Addr) (c : Nat) (out : List (List UInt8)) => [(10, .own 9 1 (.slice A q c) q (out.flatMap strE))]) (fun (i q : Nat) (A : Option Addr) (c : Nat) (out : List (List UInt8)) => i ≤ e.fa.q ∧ out.length = q ∧ q ≤ i ∧ out = kindsU (e.fa.l.take i)) (fun (i q : Nat) (A : Option Addr) (c : Nat) (out : List (List UInt8)) => e.fa.q - i) 0 0 none 0 [] ?_ ?_ ?_ ?_
  · exact ⟨by omega, rfl, by omega, rfl⟩
  · exact ⟨rfl, rfl, trivial⟩
  · exact ⟨rfl, trivial⟩
  rintro i q A c out ⟨hp1, hp2, hp3, hp4⟩
  refine tx ?_
  refine sr 1 ?_
  refine sgs ?_
  refine T_cond rfl ?_ ?_ <;> intro h18
  · try simp only [nrm] at h18
    obtain ⟨x, hx1, hx2⟩ := hl.at (i := i) (by omega)
    refine kgs ?_
    refine T_block ?_
    refine tx ?_
    refine s1 (y_indexAddr rfl rfl rfl Tryz.underlying27 sz100 (fun hg => hl.isSome (by omega)) (fun _ => by omega)) ?_
    refine s1 (y_loadT rfl rfl hl (fun _ => rfl) (fun _ => hx1) Tryz.underlying100 rfl sz100) ?_
    refine S_alloc 12 12 rfl rfl rfl rfl z100 ?_
    intro b12
    refine S_store 12 rfl rfl rfl rfl rfl rfl sz100 rfl rfl ?_
    refine sgx ?_
    refine sr 1 ?_
    refine s1 (yF fa100_0) ?_
    refine s1 (yL 12 Tryz.underlying9) ?_
    refine s1 (y_call rfl rfl rfl cf107 (fun _ w1 hM => IndexStr_any _ _ _ out x.k w1 (owned_T (enc := strE) hM hp2 (i := 10) rfl) (by omega))) ?_
    refine sr 1 ?_
    refine sgo ?_
    refine T_cond rfl ?_ ?_ <;> intro h25
    · skip
      have h25 : ¬ x.k ∈ out := by simpa using h25
      refine T_region ?_
      refine sr 1 ?_
      refine s1 (yF fa100_0) ?_
      refine s1 (yL 12 Tryz.underlying9) ?_
      refine S_buildSlice 29 29 rfl rfl rfl rfl rfl Tryz.underlying49 inf9 rfl (by decide) (by decide) rfl rfl (by decide) rfl (_) rfl ?_
      intro b29
      obtain ⟨i30, hi30, hz30, hs30, hy30⟩ := info_parts inf9
      refine S_append 30 10 29 rfl rfl rfl rfl rfl rfl rfl rfl Tryz.underlying49 hi30 hz30 hs30 hy30 rfl (by decide) (by decide) rfl ?_ ?_ (q + 1) ((out ++ [x.k]).flatMap strE) ?_ ?_ ?_
      · (simp only [maxLen]; omega)
      · omega
      · rfl
      · simp [List.flatMap_append, strE]; rfl
      intro A30 c30
      refine sr 1 ?_
      refine sgr ?_
      refine s1 (y_bin rfl rfl rfl (fun hg => b_add (by omega))) ?_
      refine sr 1 ?_
      refine S_nil (nK5 (kf := [(10, 10), (12, 12), (17, 31)]) (kl := [(10, 10), (12, 12), (17, 31)]) (i + 1) (q + 1) A30 c30 (out ++ [x.k]) ?_ ?_ ?_ ?_)
      · omega
      · exact ⟨by omega, by simp [hp2], by omega, by rw [kindsU_snoc hx1, ← hp4, addU, if_neg h25]⟩
      · exact ⟨rfl, rfl, trivial⟩
      · exact ⟨rfl, trivial⟩
    have h25 : x.k ∈ out := by simpa using h25
    refine kgr ?_
    refine s1 (y_bin rfl rfl rfl (fun hg => b_add (by omega))) ?_
    refine sr 1 ?_
    refine S_nil (nK5 (kf := [(10, 10), (12, 12), (17, 31)]) (kl := [(10, 10), (12, 12), (17, 31)]) (i + 1) q A c out ?_ ?_ ?_ ?_)
    · omega
    · exact ⟨by omega, hp2, by omega, by rw [kindsU_snoc hx1, ← hp4, addU, if_pos h25]⟩
    · exact ⟨rfl, rfl, trivial⟩
    · exact ⟨rfl, trivial⟩
  try simp only [nrm] at h18
  refine egx ?_
  refine sr 2 ?_
  refine sgo ?_
  refine tr1 hRb fun w hM => ?_
  have hv : valsE e by_ nm = out := by rw [valsE, if_neg n2, if_neg n4, if_neg n5, if_neg n6, hp4, List.take_of_length_le (by have := hl.len; omega)]
  rw [hv, hp2]
  exact ⟨A, c, rfl, hM.sat 10 _ rfl, hM.below⟩
/-! ### the reference's -/
end Go.Proofs.YtekbcbjimajnfaaGreatDoor
end
section
namespace Go.Proofs.YtekbcbjimajnfaaGreatDoor
set_option linter.unusedSimpArgs false
set_option linter.unusedVariables false
set_option maxRecDepth 20000
open Go.RowKit Go.Eng
/-! ### facets -/
structure Fac where
  v : List UInt8
  n : Int
  s : Int
def Fac.enc (f : Fac) : List Value := [str f.v, .int .i64 f.n, .int .i64 f.s]
def Fac.val (f : Fac) : Value := .agg f.enc.toArray
instance : Inhabited Fac := ⟨⟨[], 0, 0⟩⟩
def addF : List Fac → List UInt8 → Int → List Fac
  | [], v, w => [⟨v, 1, w⟩]
  | a :: r, v, w => if v = a.v then ⟨v, a.n + 1, a.s + w⟩ :: r else a :: addF r v w
def getF : List Fac → List UInt8 → Option Fac
  | [], _ => none
  | a :: r, v => if v = a.v then some a else getF r v
abbrev keysF (l : List Fac) : List (List UInt8) := l.map (·.v)
abbrev FP := List UInt8 × Int
def facL (ps : List FP) : List Fac := ps.foldl (fun l p => addF l p.1 p.2) []
theorem getF_add (l : List Fac) (v u : List UInt8) (w : Int) : getF (addF l v w) u = if u = v then some ⟨v, ((getF l v).map Fac.n).getD 0 + 1, ((getF l v).map Fac.s).getD 0 + w⟩ else getF l u := by
  induction l with
  | nil =>
    show (if u = v then some _ else none) = _
    split
    · show some (Fac.mk v 1 w) = some (Fac.mk v (0 + 1) (0 + w)); rw [Int.zero_add, Int.zero_add]
    · rfl
  | cons a r ih =>
    rw [addF]
    by_cases h : v = a.v
    · rw [if_pos h, getF, getF, getF, if_pos h]
      show (if u = v then _ else _) = _
      by_cases hu : u = v
      · rw [if_pos hu, if_pos hu]; rfl
      · rw [if_neg hu, if_neg hu, if_neg (by rw [← h]; exact hu)]
    · rw [if_neg h]
      show (if u = a.v then some a else getF (addF r v w) u) = if u = v then some ⟨v, ((if v = a.v then some a else getF r v).map Fac.n).getD 0 + 1, ((if v = a.v then some a else getF r v).map Fac.s).getD 0 + w⟩ else (if u = a.v then some a else getF r u)
      rw [if_neg h, ih]
      by_cases hu : u = v
      · rw [if_neg (show ¬ u = a.v by rw [hu]; exact h), if_pos hu, if_pos hu]
      · rw [if_neg hu, if_neg hu]
theorem keysF_add (l : List Fac) (v : List UInt8) (w : Int) : keysF (addF l v w) = if v ∈ keysF l then keysF l else keysF l ++ [v] := by
  induction l with
  | nil => rfl
  | cons a r ih =>
    rw [addF]
    by_cases h : v = a.v
    · rw [if_pos h, if_pos (show v ∈ keysF (a :: r) by rw [h]; exact List.mem_cons_self ..), h]; rfl
    · rw [if_neg h]
      show a.v :: keysF (addF r v w) = _
      rw [ih]
      by_cases h2 : v ∈ keysF r
      · rw [if_pos h2, if_pos (show v ∈ keysF (a :: r) from List.mem_cons_of_mem _ h2)]; rfl
      · rw [if_neg h2, if_neg (show ¬ v ∈ keysF (a :: r) from fun h3 => (List.mem_cons.1 h3).elim h h2)]; rfl
theorem addF_nodup {l : List Fac} (v : List UInt8) (w : Int) (h : (keysF l).Nodup) : (keysF (addF l v w)).Nodup := by
  rw [keysF_add]
  split
  · exact h
  · rename_i hs
    rw [List.nodup_append]
    exact ⟨h, by simp, fun a ha b hb => by rw [List.mem_singleton.1 hb]; rintro rfl; exact hs ha⟩
theorem facL_snoc (ps : List FP) (p : FP) : facL (ps ++ [p]) = addF (facL ps) p.1 p.2 := by rw [facL, List.foldl_append]; rfl
theorem fold_nodup (ps : List FP) : ∀ l : List Fac, (keysF l).Nodup → (keysF (ps.foldl (fun l p => addF l p.1 p.2) l)).Nodup := by
  induction ps with
  | nil => exact fun _ h => h
  | cons p r ih => exact fun l h => ih _ (addF_nodup _ _ h)
theorem facL_nodup (ps : List FP) : (keysF (facL ps)).Nodup := fold_nodup ps [] List.nodup_nil
theorem getF_mem {l : List Fac} (h : (keysF l).Nodup) (f : Fac) : f ∈ l ↔ getF l f.v = some f := by
  induction l with
  | nil => exact ⟨(fun h => by cases h), (fun h => by cases h)⟩
  | cons a r ih =>
    have h : a.v ∉ keysF r ∧ (keysF r).Nodup := List.nodup_cons.1 h
    rw [getF, List.mem_cons]
    by_cases hv : f.v = a.v
    · rw [if_pos hv]
      constructor
      · rintro (rfl | hf)
        · rfl
        · exact absurd (show a.v ∈ keysF r from List.mem_map.2 ⟨f, hf, hv⟩) h.1
      · intro he; injection he with he; exact .inl he.symm
    · rw [if_neg hv, ← ih h.2]
      exact ⟨fun hh => hh.elim (fun e => absurd (by rw [e]) hv) id, .inr⟩
/-- what a list of facets says of a value -/
def stF (g : List UInt8 → Option Fac) (p : FP) : List UInt8 → Option Fac := fun u => if u = p.1 then some ⟨p.1, ((g p.1).map Fac.n).getD 0 + 1, ((g p.1).map Fac.s).getD 0 + p.2⟩ else g u
theorem getF_fold (ps : List FP) : ∀ l : List Fac, getF (ps.foldl (fun l p => addF l p.1 p.2) l) = ps.foldl stF (getF l) := by
  induction ps with
  | nil => exact fun _ => rfl
  | cons p r ih =>
    intro l
    rw [List.foldl_cons, ih, List.foldl_cons]
    congr 1
    funext u
    exact getF_add l p.1 u p.2
theorem stF_comm (g : List UInt8 → Option Fac) (p q : FP) : stF (stF g p) q = stF (stF g q) p := by
  obtain ⟨a, b⟩ := p
  obtain ⟨a', c⟩ := q
  funext u
  unfold stF
  by_cases h : a = a'
  · subst h
    by_cases hu : u = a
    · simp [hu]; omega
    · simp [hu]
  · by_cases h1 : u = a
    · subst h1; simp [h]
    · by_cases h2 : u = a'
      · subst h2; simp [h, h1, Ne.symm h]
      · simp [h1, h2]
theorem facL_perm {ps qs : List FP} (h : ps.Perm qs) : (facL ps).Perm (facL qs) := by
  have hg : getF (facL ps) = getF (facL qs) := by
    rw [facL, facL, getF_fold, getF_fold]
    exact h.foldl_eq' (fun a _ b _ g => stF_comm g a b) _
  have nd : ∀ qs, (facL qs).Nodup := fun qs => (List.pairwise_map.1 (facL_nodup qs)).imp fun h e => h (by rw [e])
  refine (List.perm_ext_iff_of_nodup (nd ps) (nd qs)).2 fun f => ?_
  rw [getF_mem (facL_nodup ps), getF_mem (facL_nodup qs), hg]
/-- of events -/
def prsE (L : List Evt) (by_ : Int) (nm : List UInt8) : List FP := L.flatMap fun e => (valsE e by_ nm).map fun v => (v, e.wt)
theorem prsE_perm {L M : List Evt} (h : L.Perm M) (by_ : Int) (nm : List UInt8) : (prsE L by_ nm).Perm (prsE M by_ nm) := h.flatMap_right _
theorem cmp3_flip {α : Type} {f : α → α → Int} (h : Cmp3 f) : Cmp3 fun a b => f b a := ⟨fun a b => h.anti b a, fun a b c h1 h2 => h.tr c b a h2 h1⟩
/-- order of facets: greater weights first, then by value -/
def cmpF (a b : Fac) : Int := if cmpJ b.s a.s ≠ 0 then cmpJ b.s a.s else cmpB a.v b.v
theorem cmp3_F : Cmp3 cmpF := cmp3_lex ((cmp3_flip cmp3_J).comap Fac.s) (cmp3_B.comap Fac.v)
def facS (ps : List FP) : List Fac := pdqL cmpF (facL ps)
theorem pdqF_perm {u v : List Fac} (h : u.Perm v) (hn : (keysF v).Nodup) : pdqL cmpF u = pdqL cmpF v := by
  have f1 := pdqL_facts (swo3 cmp3_F) u
  have f2 := pdqL_facts (swo3 cmp3_F) v
  refine sorted_uniq (f1.1.trans (h.trans f2.1.symm)) (f1.2.imp fun h => ltOf_f h cmp3_F) (f2.2.imp fun h => ltOf_f h cmp3_F) fun a ha b hb h1 h2 => ?_
  have h0 : cmpF a b = 0 := by have := cmp3_F.anti a b; omega
  have hv : a.v = b.v := by
    unfold cmpF at h0
    split at h0
    · exact absurd h0 ‹_›
    · exact cmpB_zero h0
  have ga := (getF_mem hn a).1 (h.subset (f1.1.subset ha))
  have gb := (getF_mem hn b).1 (h.subset (f1.1.subset hb))
  rw [hv, gb] at ga
  injection ga with ga
  exact ga.symm
theorem facS_perm {ps qs : List FP} (h : ps.Perm qs) : facS ps = facS qs := pdqF_perm (facL_perm h) (facL_nodup qs)
end Go.Proofs.YtekbcbjimajnfaaGreatDoor
end
section
namespace Go.Proofs.YtekbcbjimajnfaaGreatDoor
set_option linter.unusedSimpArgs false
set_option linter.unusedVariables false
set_option maxRecDepth 20000
open Go.RowKit Go.Eng
structure Bn where
  a : Int
  n : Int
  s : Int
instance : Inhabited Bn := ⟨⟨0, 0, 0⟩⟩
theorem sum_perm {l m : List Int} (h : l.Perm m) : l.sum = m.sum := by
  induction h with
  | nil => rfl
  | cons a _ ih => rw [List.sum_cons, List.sum_cons, ih]
  | swap a b l => simp only [List.sum_cons]; omega
  | trans _ _ h1 h2 => exact h1.trans h2
theorem sum_le {l : List Int} (h : ∀ x ∈ l, 0 ≤ x ∧ x ≤ 1000000) : 0 ≤ l.sum ∧ l.sum ≤ 1000000 * (l.length : Nat) := by
  induction l with
  | nil => exact ⟨Int.le_refl _, Int.le_refl _⟩
  | cons a r ih =>
    have h1 := h a (List.mem_cons_self ..)
    have h2 := ih fun x hx => h x (List.mem_cons_of_mem _ hx)
    rw [List.sum_cons, List.length_cons]; omega
end Go.Proofs.YtekbcbjimajnfaaGreatDoor
end
section
namespace Go.Proofs.YtekbcbjimajnfaaGreatDoor
set_option linter.unusedSimpArgs false
set_option linter.unusedVariables false
set_option maxRecDepth 20000
open Go.RowKit Go.Eng
theorem fnd_ok {w0 : World} {rs : List Row} {x : SC} {m : List Evt} {z : FndR} (hix : IxOk w0 rs m) (hz : FndP x m z) : ∀ e ∈ z.l, evNo e = 0 := fun e he => (hix.ok e (List.mem_filter.1 (hz.1.subset he)).1).1
theorem take_ok {l : List Evt} {p : Evt → Prop} (h : ∀ e ∈ l, p e) (i : Nat) : ∀ e ∈ l.take i, p e := fun e he => h e (List.mem_of_mem_take he)
theorem take_snocI {l : List Evt} {i : Nat} {e : Evt} (h : l[i]? = some e) : l.take (i + 1) = l.take i ++ [e] := by rw [List.take_add_one, h]; rfl
theorem set_get {α : Type} {l : List α} {n : Nat} {a b : α} (h : l[n]? = some a) : (l.set n b)[n]? = some b := by
  rw [List.getElem?_set, if_pos rfl, if_pos (List.getElem?_eq_some_iff.1 h).1]
end Go.Proofs.YtekbcbjimajnfaaGreatDoor
end
