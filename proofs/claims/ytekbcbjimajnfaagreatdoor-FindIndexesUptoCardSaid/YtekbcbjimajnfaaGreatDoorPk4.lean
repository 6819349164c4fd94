/- Part 4, merged by a program. The reference's Found, AskFault, Asked, FacetsFault, FacetsOf, BinsFault, BinsOf, TrendFault, TrendOf. Conditions: those of each theorem. The reference's FacetsOf; slices.Delete, IndexFunc of events; listed. Conditions: those of each theorem. FindIndexes answers true over any script of calls. Conditions: those of the theorem. FindIndexes answers true over any script of calls. Conditions: those of the theorem. Scripts of calls on an index among the arguments opened, with their bulk. No condition. A world in which the listed tables of Go's hold what their text says, at a seat of conditions; what a row's condition says of the greatest length that is searched. No condition. -/
import Derived.Test.YtekbcbjimajnfaaGreatDoorZip
import Derived.Test.YtekbcbjimajnfaaGreatDoorSorta
import Derived.Test.YtekbcbjimajnfaaGreatDoorDel
import Derived.Test.YtekbcbjimajnfaaGreatDoorEqS
import Derived.Test.YtekbcbjimajnfaaGreatDoorCards
import Derived.Test.YtekbcbjimajnfaaGreatDoorTie
import Derived.Deep.DeepHandedRow
import Derived.Lib.LaidTab
import Derived.Stop.LaidErr
import Derived.ProofKit
import Derived.OpenShut
import Derived.Test.YtekbcbjimajnfaaGreatDoorPk3
section
namespace Go.Proofs.YtekbcbjimajnfaaGreatDoor
set_option linter.unusedSimpArgs false
set_option linter.unusedVariables false
set_option maxRecDepth 20000
open Go.RowKit Go.Eng
theorem cmpJ_rng (x y : Int) : -1 ≤ cmpJ x y ∧ cmpJ x y ≤ 1 := by unfold cmpJ; split <;> (try split) <;> omega
theorem cmpB_rng (x y : List UInt8) : -1 ≤ cmpB x y ∧ cmpB x y ≤ 1 := by unfold cmpB; split <;> (try split) <;> omega
theorem cmpK_rng (by_ : Int) (a b : Evt) : -1 ≤ cmpK by_ a b ∧ cmpK by_ a b ≤ 1 := by
  have h1 := cmpJ_rng a.lv b.lv
  have h2 := cmpJ_rng a.wt b.wt
  have h3 := cmpJ_rng a.at_ b.at_
  have h4 := cmpB_rng a.id b.id
  unfold cmpK keyK cmpT
  split <;> (try split) <;> (try split) <;> (try split) <;> omega
theorem orL3 (m k p : Int) : orL [m, k, p] = if m ≠ 0 then m else if k ≠ 0 then k else p := by
  by_cases h : m = 0
  · rw [orL_neg h, if_neg (by simpa using h), orL2]
  · rw [orL_pos h, if_pos h]
theorem rout1_any (n lo hi : Int) (w : World) : Calls Tryz.prog 42 #[.int .i64 n, .int .i64 lo, .int .i64 hi] w fun e w' => e = .returned (.bool (outI n lo hi)) ∧ Below w.heap.size w w' := by
  refine enter_args (args := [.int .i64 n, .int .i64 lo, .int .i64 hi]) (F := _) Tryz.func42 rfl Tryz.ntmps42 rfl rfl ?_
  intro Rb hRb hRn
  refine tx ?_
  refine sr 1 ?_
  refine sgx ?_
  refine sr 4 ?_
  refine sg rfl (y_move rfl rfl) ?_
  refine sg rfl (y_move rfl rfl) ?_
  refine sg rfl (y_bin rfl rfl rfl (fun _ => b_gtr)) ?_
  refine s1 (y_or rfl rfl rfl) ?_
  refine sr 1 ?_
  refine sgo ?_
  refine tr1 hRb fun w hM => ?_
  exact ⟨rfl, hM.below⟩
theorem fil_len (x : SC) (l : List Evt) : (filI x l).length ≤ l.length := List.length_filter_le _ _
theorem Found_any (A : Option Addr) (q c : Nat) (l : List Evt) (x : SC) (w : World) (hl : SlT Evt.enc 9 w A q l) (hq : q ≤ 2000) (hev : ∀ e ∈ l, EvR w e) (hok : x.Ok w) (h0 : chX x = 0) (hm : MLen w) :
    Calls Tryz.prog 62 #[.slice A q c, x.val] w fun en w' => ∃ A' c', en = .returned (.slice A' (filI x l).length c') ∧ w'.ownsRow w.heap.size 31 9 (.slice A' (filI x l).length c') (filI x l).length ((filI x l).flatMap Evt.enc) ∧ Below w.heap.size w w' := by
  have hlen := hl.len
  refine enter_args (args := [.slice A q c, .agg #[.int .i64 x.op, .slice x.ad x.q x.c, .int .i64 x.lo, .int .i64 x.hi, str x.nm, str x.tx]]) (F := _) Tryz.func62 rfl Tryz.ntmps62 rfl rfl ?_
  intro Rb hRb hRn
  refine tx ?_
  refine S_box 3 3 rfl rfl rfl rfl rfl ?_
  intro b3
  refine S_nilSlice 4 (e := 31) (size := 9) ?_
  refine sr 1 ?_
  refine sgx ?_
  refine S_nilSlice 5 (e := 31) (size := 9) ?_
  refine sr 1 ?_
  refine sgs ?_
  refine tx ?_
  refine sr 1 ?_
  refine s1 (y_len_slice rfl rfl Tryz.underlying25) ?_
  refine sr 1 ?_
  refine sgo ?_
  refine T_block ?_
  refine lK4 (kf := [(5, 5), (7, 7), (10, 21)]) (kl := [(5, 5), (7, 7), (10, 21)]) (fun (i : Nat) (A : Option Addr) (c : Nat) (out : List Evt) => [(10, true, .int .i64 (i : Int)), (5, true, .slice A out.length c)]) (fun (i : Nat) (A : Option Addr) (c : Nat) (out : List Evt) => [(5, .own 31 9 (.slice A out.length c) out.length (out.flatMap Evt.enc))]) (fun (i : Nat) (A : Option Addr) (c : Nat) (out : List Evt) => i ≤ q ∧ out = filI x (l.take i)) (fun (i : Nat) (A : Option Addr) (c : Nat) (out : List Evt) => q - i) 0 none 0 [] ?_ ?_ ?_ ?_
  · exact ⟨by omega, rfl⟩
  · exact ⟨rfl, rfl, trivial⟩
  · exact ⟨rfl, trivial⟩
  rintro i A2 c2 out ⟨hp1, hp2⟩
  refine tx ?_
  refine sr 1 ?_
  refine sgs ?_
  refine T_cond rfl ?_ ?_ <;> intro h11
  · try simp only [nrm] at h11
    obtain ⟨e, hx1, hx2⟩ := hl.at (i := i) (by omega)
    have hol := fil_len x (l.take i)
    rw [List.length_take, ← hp2] at hol
    have hsn := fil_snoc x (l.take i) e
    rw [← take_snocI hx1, ← hp2] at hsn
    refine kgs ?_
    refine T_block ?_
    refine tx ?_
    refine s1 (y_indexAddr rfl rfl rfl Tryz.underlying25 sz31 (fun hg => hl.isSome (by omega)) (fun _ => by omega)) ?_
    refine s1 (y_loadT rfl rfl hl (fun _ => rfl) (fun _ => hx1) Tryz.underlying31 rfl sz31) ?_
    refine S_alloc 7 7 rfl rfl rfl rfl z31 ?_
    intro b7
    refine S_store 7 rfl rfl rfl rfl rfl rfl sz31 rfl rfl ?_
    refine sgx ?_
    refine s1 (yA 3 rfl Tryz.underlying36 sz36) ?_
    refine s1 (yA 7 rfl Tryz.underlying31 sz31) ?_
    refine s1 (y_call rfl rfl rfl cf102 (fun _ w1 hM => CondHolds_any x e w1 (hok.lift hM.below) h0 ((hev e (mem_at hx1)).below hM.below) (hm.below hM.below))) ?_
    refine sgo ?_
    refine T_cond rfl ?_ ?_ <;> intro h16
    · skip
      rw [if_pos (show hoX e x = true from h16)] at hsn
      refine T_region ?_
      refine sr 1 ?_
      refine s1 (yA 7 rfl Tryz.underlying31 sz31) ?_
      refine S_buildSlice 19 19 rfl rfl rfl rfl rfl Tryz.underlying25 inf31 rfl (by decide) (by decide) rfl rfl (by decide) rfl (_) rfl ?_
      intro b19
      obtain ⟨i20, hi20, hz20, hs20, hy20⟩ := info_parts inf31
      refine S_append 20 5 19 rfl rfl rfl rfl rfl rfl rfl rfl Tryz.underlying25 hi20 hz20 hs20 hy20 rfl (by decide) (by decide) rfl ?_ ?_ ((out ++ [e]).length) ((out ++ [e]).flatMap Evt.enc) ?_ ?_ ?_
      · (simp only [maxLen]; omega)
      · omega
      · rw [List.length_append]; rfl
      · rw [List.flatMap_append]; rfl
      intro A20 c20
      refine sr 1 ?_
      refine sgr ?_
      refine s1 (y_bin rfl rfl rfl (fun hg => b_add (by omega))) ?_
      refine sr 1 ?_
      refine S_nil (nK4 (kf := [(5, 5), (7, 7), (10, 21)]) (kl := [(5, 5), (7, 7), (10, 21)]) (i + 1) A20 c20 (out ++ [e]) ?_ ?_ ?_ ?_)
      · omega
      · exact ⟨by omega, hsn.symm⟩
      · exact ⟨rfl, rfl, trivial⟩
      · exact ⟨rfl, trivial⟩
    rw [if_neg (by rw [show hoX e x = false from h16]; exact Bool.false_ne_true), List.append_nil] at hsn
    refine kgr ?_
    refine s1 (y_bin rfl rfl rfl (fun hg => b_add (by omega))) ?_
    refine sr 1 ?_
    refine S_nil (nK4 (kf := [(5, 5), (7, 7), (10, 21)]) (kl := [(5, 5), (7, 7), (10, 21)]) (i + 1) A2 c2 out ?_ ?_ ?_ ?_)
    · omega
    · exact ⟨by omega, hsn.symm⟩
    · exact ⟨rfl, rfl, trivial⟩
    · exact ⟨rfl, trivial⟩
  try simp only [nrm] at h11
  refine egx ?_
  refine sr 2 ?_
  refine sgo ?_
  refine tr1 hRb fun w hM => ?_
  have hf : filI x l = out := by rw [hp2, List.take_of_length_le (by omega)]
  rw [hf]
  exact ⟨A2, c2, rfl, hM.sat 5 _ rfl, hM.below⟩
theorem AskFault_any (x : SC) (by_ : Int) (dn : Bool) (fr mo : Int) (w : World) (hok : x.Ok w) (hb : cntP x.says ≤ 1000000000000) :
    Calls Tryz.prog 17 #[.agg #[.int .i64 x.op, .slice x.ad x.q x.c, .int .i64 x.lo, .int .i64 x.hi, str x.nm, str x.tx, .int .i64 by_, .bool dn, .int .i64 fr, .int .i64 mo]] w fun e w' => e = .returned (.int .i64 (askNo x by_ fr mo)) ∧ Below w.heap.size w w' := by
  refine enter_args (args := [.agg #[.int .i64 x.op, .slice x.ad x.q x.c, .int .i64 x.lo, .int .i64 x.hi, str x.nm, str x.tx, .int .i64 by_, .bool dn, .int .i64 fr, .int .i64 mo]]) (F := _) Tryz.func17 rfl Tryz.ntmps17 rfl rfl ?_
  intro Rb hRb hRn
  refine tx ?_
  refine S_box 1 1 rfl rfl rfl rfl rfl ?_
  intro b1
  refine sr 1 ?_
  refine sgs ?_
  refine tx ?_
  refine s1 (yF fa38_0) ?_
  refine s1 (y_loadSub 1 0 6 (ds := [.int .i64 x.op, .slice x.ad x.q x.c, .int .i64 x.lo, .int .i64 x.hi, str x.nm, str x.tx]) rfl rfl rfl rfl Tryz.underlying36 rfl sz36) ?_
  refine s1 (y_call rfl rfl rfl cf61 (fun _ w1 hM => CondFault_any x w1 (hok.lift hM.below) hb)) ?_
  refine sr 1 ?_
  refine sgx ?_
  refine sr 2 ?_
  refine sgo ?_
  refine T_cond rfl ?_ ?_ <;> intro h8
  · skip
    have h8 : ¬ condNo x = 0 := by simpa using h8
    refine tx ?_
    refine sr 2 ?_
    refine sgo ?_
    refine tr1 hRb fun w hM => ?_
    exact ⟨by rw [askNo, if_pos h8], hM.below⟩
  have h8 : condNo x = 0 := by simpa using h8
  refine kgs ?_
  refine tx ?_
  refine s1 (yF fa38_1) ?_
  refine s1 (yL 1 Tryz.underlying3) ?_
  refine s1 (y_call rfl rfl rfl cf42 (fun _ w _ => rout1_any _ _ _ w)) ?_
  refine sgo ?_
  refine T_cond rfl ?_ ?_ <;> intro h12
  · skip
    refine tx ?_
    refine sr 1 ?_
    refine sgo ?_
    refine tr1 hRb fun w hM => ?_
    exact ⟨by rw [askNo, if_neg (by simpa using h8), if_pos h12], hM.below⟩
  refine kgs ?_
  refine tx ?_
  refine s1 (yF fa38_3) ?_
  refine s1 (yL 1 Tryz.underlying3) ?_
  refine s1 (y_call rfl rfl rfl cf42 (fun _ w _ => rout1_any _ _ _ w)) ?_
  refine sr 1 ?_
  refine sg rfl (yF fa38_4) ?_
  refine sg rfl (yL 1 Tryz.underlying3) ?_
  refine sg rfl (y_call rfl rfl rfl cf42 (fun _ w _ => rout1_any _ _ _ w)) ?_
  refine s1 (y_or rfl rfl rfl) ?_
  refine sgo ?_
  refine T_cond rfl ?_ ?_ <;> intro h20
  · skip
    refine tx ?_
    refine sr 1 ?_
    refine sgo ?_
    refine tr1 hRb fun w hM => ?_
    exact ⟨by rw [askNo, if_neg (by simpa using h8), if_neg (by rw [h12]; exact Bool.false_ne_true), if_pos h20], hM.below⟩
  refine kgx ?_
  refine sr 1 ?_
  refine sgo ?_
  refine tr1 hRb fun w hM => ?_
  exact ⟨by rw [askNo, if_neg (by simpa using h8), if_neg (by rw [h12]; exact Bool.false_ne_true), if_neg (by rw [h20]; exact Bool.false_ne_true)], hM.below⟩
theorem asked1_any (a b : Evt) (x : SC) (by_ : Int) (dn : Bool) (fr mo : Int) (b3 : Nat) (w : World) (h : CellsAt w b3 (askCells x by_ dn fr mo)) :
    Calls Tryz.prog 64 #[a.val, b.val, ptF b3] w fun e w' => e = .returned (.int .i64 (cmpQ by_ dn a b)) ∧ Below w.heap.size w w' := by
  obtain ⟨hr1, hr2⟩ := cmpK_rng by_ a b
  refine enter_args (args := [.agg #[str a.id, .int .i64 a.at_, .int .i64 a.lv, .slice a.fa.A a.fa.q a.fa.c, .slice a.ta.A a.ta.q a.ta.c, .slice a.cr.A a.cr.q a.cr.c, str a.rel, str a.us, .int .i64 a.wt], .agg #[str b.id, .int .i64 b.at_, .int .i64 b.lv, .slice b.fa.A b.fa.q b.fa.c, .slice b.ta.A b.ta.q b.ta.c, .slice b.cr.A b.cr.q b.cr.c, str b.rel, str b.us, .int .i64 b.wt], ptF b3]) (F := _) Tryz.func64 rfl Tryz.ntmps64 rfl rfl ?_
  intro Rb hRb hRn
  refine tx ?_
  refine S_box 3 3 rfl rfl rfl rfl rfl ?_
  intro b3
  refine S_box 4 4 rfl rfl rfl rfl rfl ?_
  intro b4
  refine sr 1 ?_
  refine sgx ?_
  refine sr 1 ?_
  refine sgs ?_
  refine tx ?_
  refine s1 (yF fa38_1) ?_
  refine s1 (y_load_far rfl rfl (h.1 6 _ rfl) h.2 Tryz.underlying3 rfl) ?_
  refine sgo ?_
  refine T_block ?_
  refine tx ?_
  refine sr 2 ?_
  refine sgo ?_
  refine T_cond rfl ?_ ?_ <;> intro h9
  · skip
    have h9 : by_ = 2 := by simpa using h9
    refine T_region ?_
    refine s1 (yF fa31_2) ?_
    refine s1 (yL 3 Tryz.underlying3) ?_
    refine s1 (yF fa31_2) ?_
    refine s1 (yL 4 Tryz.underlying3) ?_
    refine s1 (y_call rfl rfl rfl cf59 (fun _ w _ => cmpJ_any _ _ w)) ?_
    refine sr 1 ?_
    refine sgs ?_
    refine T_drawsTail 11 (by kernel_rfl) (by kernel_rfl) ?_
    refine d1 (y_move rfl rfl) ?_
    refine d1 (yF fa31_1) ?_
    refine d1 (yL 3 Tryz.underlying3) ?_
    refine d1 (yF fa31_1) ?_
    refine d1 (yL 4 Tryz.underlying3) ?_
    refine d1 (y_call rfl rfl rfl cf59 (fun _ w _ => cmpJ_any _ _ w)) ?_
    refine d1 (yF fa31_0) ?_
    refine d1 (yL 3 Tryz.underlying9) ?_
    refine d1 (yF fa31_0) ?_
    refine d1 (yL 4 Tryz.underlying9) ?_
    refine d1 (y_call rfl rfl rfl cf66 (fun _ w _ => cmpB_any _ _ w)) ?_
    refine D_tail ?_
    refine S_buildSlice 34 34 rfl rfl rfl rfl rfl Tryz.underlying147 inf3 rfl (by decide) (by decide) rfl rfl (by decide) rfl (_) rfl ?_
    intro b34
    refine s1 (y_as (v' := .int .i64 (cmpK by_ a b)) (by rw [orL3, cmpK, keyK, if_pos h9]; rfl) (y_call rfl rfl rfl cf65 (fun _ w hM => orX_any _ _ [cmpJ a.lv b.lv, cmpJ a.at_ b.at_, cmpB a.id b.id] w 3 (by decide) ⟨own_reads hM (i := 34) rfl, rfl⟩))) ?_
    refine sr 1 ?_
    refine sgs ?_
    refine tx ?_
    refine s1 (yF fa38_2) ?_
    refine s1 (y_load_far rfl rfl (h.1 7 _ rfl) h.2 Tryz.underlying4 rfl) ?_
    refine sgo ?_
    refine T_cond rfl ?_ ?_ <;> intro h37
    · skip
      have hd : dn = true := h37
      refine T_region ?_
      refine sr 1 ?_
      refine s1 (y_neg (-cmpK by_ a b) rfl rfl (fun hg => by rw [IntWalk.i64_in _ (by omega)]; omega)) ?_
      refine sr 1 ?_
      refine sgx ?_
      refine sr 2 ?_
      refine sgo ?_
      refine tr1 hRb fun w hM => ?_
      exact ⟨by rw [cmpQ, if_pos hd], hM.below⟩
    have hd : dn = false := h37
    refine kgx ?_
    refine sr 2 ?_
    refine sgo ?_
    refine tr1 hRb fun w hM => ?_
    exact ⟨by rw [cmpQ, if_neg (by rw [hd]; exact Bool.false_ne_true)], hM.below⟩
  have h9 : ¬ by_ = 2 := by simpa using h9
  refine tx ?_
  refine sr 2 ?_
  refine sgo ?_
  refine T_cond rfl ?_ ?_ <;> intro h16
  · skip
    have h16 : by_ = 3 := by simpa using h16
    refine T_region ?_
    refine s1 (yF fa31_8) ?_
    refine s1 (yL 3 Tryz.underlying3) ?_
    refine s1 (yF fa31_8) ?_
    refine s1 (yL 4 Tryz.underlying3) ?_
    refine s1 (y_call rfl rfl rfl cf59 (fun _ w _ => cmpJ_any _ _ w)) ?_
    refine sr 1 ?_
    refine sgs ?_
    refine T_drawsTail 11 (by kernel_rfl) (by kernel_rfl) ?_
    refine d1 (y_move rfl rfl) ?_
    refine d1 (yF fa31_1) ?_
    refine d1 (yL 3 Tryz.underlying3) ?_
    refine d1 (yF fa31_1) ?_
    refine d1 (yL 4 Tryz.underlying3) ?_
    refine d1 (y_call rfl rfl rfl cf59 (fun _ w _ => cmpJ_any _ _ w)) ?_
    refine d1 (yF fa31_0) ?_
    refine d1 (yL 3 Tryz.underlying9) ?_
    refine d1 (yF fa31_0) ?_
    refine d1 (yL 4 Tryz.underlying9) ?_
    refine d1 (y_call rfl rfl rfl cf66 (fun _ w _ => cmpB_any _ _ w)) ?_
    refine D_tail ?_
    refine S_buildSlice 34 34 rfl rfl rfl rfl rfl Tryz.underlying147 inf3 rfl (by decide) (by decide) rfl rfl (by decide) rfl (_) rfl ?_
    intro b34
    refine s1 (y_as (v' := .int .i64 (cmpK by_ a b)) (by rw [orL3, cmpK, keyK, if_neg h9, if_pos h16]; rfl) (y_call rfl rfl rfl cf65 (fun _ w hM => orX_any _ _ [cmpJ a.wt b.wt, cmpJ a.at_ b.at_, cmpB a.id b.id] w 3 (by decide) ⟨own_reads hM (i := 34) rfl, rfl⟩))) ?_
    refine sr 1 ?_
    refine sgs ?_
    refine tx ?_
    refine s1 (yF fa38_2) ?_
    refine s1 (y_load_far rfl rfl (h.1 7 _ rfl) h.2 Tryz.underlying4 rfl) ?_
    refine sgo ?_
    refine T_cond rfl ?_ ?_ <;> intro h37
    · skip
      have hd : dn = true := h37
      refine T_region ?_
      refine sr 1 ?_
      refine s1 (y_neg (-cmpK by_ a b) rfl rfl (fun hg => by rw [IntWalk.i64_in _ (by omega)]; omega)) ?_
      refine sr 1 ?_
      refine sgx ?_
      refine sr 2 ?_
      refine sgo ?_
      refine tr1 hRb fun w hM => ?_
      exact ⟨by rw [cmpQ, if_pos hd], hM.below⟩
    have hd : dn = false := h37
    refine kgx ?_
    refine sr 2 ?_
    refine sgo ?_
    refine tr1 hRb fun w hM => ?_
    exact ⟨by rw [cmpQ, if_neg (by rw [hd]; exact Bool.false_ne_true)], hM.below⟩
  have h16 : ¬ by_ = 3 := by simpa using h16
  refine kgs ?_
  refine T_drawsTail 11 (by kernel_rfl) (by kernel_rfl) ?_
  refine d1 (y_move rfl rfl) ?_
  refine d1 (yF fa31_1) ?_
  refine d1 (yL 3 Tryz.underlying3) ?_
  refine d1 (yF fa31_1) ?_
  refine d1 (yL 4 Tryz.underlying3) ?_
  refine d1 (y_call rfl rfl rfl cf59 (fun _ w _ => cmpJ_any _ _ w)) ?_
  refine d1 (yF fa31_0) ?_
  refine d1 (yL 3 Tryz.underlying9) ?_
  refine d1 (yF fa31_0) ?_
  refine d1 (yL 4 Tryz.underlying9) ?_
  refine d1 (y_call rfl rfl rfl cf66 (fun _ w _ => cmpB_any _ _ w)) ?_
  refine D_tail ?_
  refine S_buildSlice 34 34 rfl rfl rfl rfl rfl Tryz.underlying147 inf3 rfl (by decide) (by decide) rfl rfl (by decide) rfl (_) rfl ?_
  intro b34
  refine s1 (y_as (v' := .int .i64 (cmpK by_ a b)) (by rw [orL3, cmpK, keyK, if_neg h9, if_neg h16]; rfl) (y_call rfl rfl rfl cf65 (fun _ w hM => orX_any _ _ [0, cmpJ a.at_ b.at_, cmpB a.id b.id] w 3 (by decide) ⟨own_reads hM (i := 34) rfl, rfl⟩))) ?_
  refine sr 1 ?_
  refine sgs ?_
  refine tx ?_
  refine s1 (yF fa38_2) ?_
  refine s1 (y_load_far rfl rfl (h.1 7 _ rfl) h.2 Tryz.underlying4 rfl) ?_
  refine sgo ?_
  refine T_cond rfl ?_ ?_ <;> intro h37
  · skip
    have hd : dn = true := h37
    refine T_region ?_
    refine sr 1 ?_
    refine s1 (y_neg (-cmpK by_ a b) rfl rfl (fun hg => by rw [IntWalk.i64_in _ (by omega)]; omega)) ?_
    refine sr 1 ?_
    refine sgx ?_
    refine sr 2 ?_
    refine sgo ?_
    refine tr1 hRb fun w hM => ?_
    exact ⟨by rw [cmpQ, if_pos hd], hM.below⟩
  have hd : dn = false := h37
  refine kgx ?_
  refine sr 2 ?_
  refine sgo ?_
  refine tr1 hRb fun w hM => ?_
  exact ⟨by rw [cmpQ, if_neg (by rw [hd]; exact Bool.false_ne_true)], hM.below⟩
theorem SortQ_any {w0 : World} {K : HL} (x : SC) (by_ : Int) (dn : Bool) (fr mo : Int) (b3 : Nat) (A : Option Addr) (q c : Nat) (l : List Evt) (w : World) (hlen : l.length = q) (hq : q ≤ 1000000) (hM : Mem w0 ([(0, .own 31 9 (.slice A q c) q (l.flatMap Evt.enc)), (901, askBox b3 x by_ dn fr mo)] ++ K) w) :
    Calls Tryz.prog 63 #[.slice A q c, .func (.func 64) #[] #[ptF b3]] w fun e w' => ∃ l' : List Evt, e = .returned (.tuple #[]) ∧ l' = pdqL (cmpQ by_ dn) l ∧ Mem w0 ([(0, .own 31 9 (.slice A q c) q (l'.flatMap Evt.enc)), (901, askBox b3 x by_ dn fr mo)] ++ K) w' := by
  have h := sort_ownX Tryz.laysSort63 (k := 9) (enc := Evt.enc) Tryz.isAgg31 Tryz.sizeOf31 (fun _ => rfl) enc_one (cmpQ by_ dn) (swo3 (cmp3_Q by_ dn))
    64 #[ptF b3] cf64 (w0 := w0) (K := [(901, askBox b3 x by_ dn fr mo)] ++ K) 31 A q c l w hlen (by omega) (fun w' hw' u v => asked1_any u v x by_ dn fr mo b3 w' (by
      obtain ⟨_, _, ob, h1, h2⟩ := Mem.others hM (i := 0) (j := 901) rfl hw' (by decide) rfl
      exact ⟨fun j u hu => by rw [add_zero_off, Nat.zero_add, cell_of_box h1 h2, nth_eq]; exact hu, (Array.getElem?_eq_some_iff.1 h1).1⟩)) hM
  exact h
theorem take_dropJ {l : List Evt} {f i : Nat} {e : Evt} (hf : f ≤ i) (he : l[i]? = some e) : idsI ((l.take (i + 1)).drop f) = idsI ((l.take i).drop f) ++ [e.id] := by
  rw [take_snocI he, List.drop_append_of_le_length (by rw [List.length_take]; have := (List.getElem?_eq_some_iff.1 he).1; omega)]; simp [idsI]
/-- the ids from a place on, below another one, of the first of a list -/
def idsW (l : List Evt) (fr mo i : Nat) : List (List UInt8) := idsI ((l.take (min i (fr + mo))).drop fr)
theorem idsW_in {l : List Evt} {fr mo i : Nat} {e : Evt} (he : l[i]? = some e) (h1 : fr ≤ i) (h2 : i < fr + mo) : idsW l fr mo (i + 1) = idsW l fr mo i ++ [e.id] := by
  unfold idsW
  rw [show min (i + 1) (fr + mo) = i + 1 by omega, show min i (fr + mo) = i by omega, take_dropJ h1 he]
theorem idsW_out {l : List Evt} {fr mo i : Nat} (h : ¬ (fr ≤ i ∧ i < fr + mo)) : idsW l fr mo (i + 1) = idsW l fr mo i := by
  unfold idsW
  by_cases h1 : fr ≤ i
  · rw [show min (i + 1) (fr + mo) = min i (fr + mo) by omega]
  · rw [List.drop_eq_nil_of_le (by rw [List.length_take]; omega), List.drop_eq_nil_of_le (by rw [List.length_take]; omega)]
theorem idsW_all {l : List Evt} {fr mo i : Nat} (h : l.length ≤ i) : idsW l fr mo i = idsI ((l.drop fr).take mo) := by
  unfold idsW
  congr 1
  rw [List.take_drop]
  congr 1
  by_cases h1 : i ≤ fr + mo
  · rw [show min i (fr + mo) = i by omega, List.take_of_length_le h, List.take_of_length_le (by omega)]
  · rw [show min i (fr + mo) = fr + mo by omega]
theorem idsW_len (l : List Evt) (fr mo i : Nat) : (idsW l fr mo i).length ≤ l.length := by
  unfold idsW
  rw [List.length_map, List.length_drop, List.length_take]; omega
theorem Asked_any (A : Option Addr) (q c : Nat) (l : List Evt) (x : SC) (by_ : Int) (dn : Bool) (fr mo : Nat) (w : World) (hl : SlT Evt.enc 9 w A q l) (hq : q ≤ 2000) (hev : ∀ e ∈ l, EvR w e) (hok : x.Ok w) (h0 : chX x = 0) (hm : MLen w) (hfr : fr ≤ 2000) (hmo : mo ≤ 2000) :
    Calls Tryz.prog 18 #[.slice A q c, .agg #[.int .i64 x.op, .slice x.ad x.q x.c, .int .i64 x.lo, .int .i64 x.hi, str x.nm, str x.tx, .int .i64 by_, .bool dn, .int .i64 (fr : Int), .int .i64 (mo : Int)]] w fun en w' => ∃ A' c', en = .returned (.tuple #[.slice A' (idsI (((askL x by_ dn l).drop fr).take mo)).length c', .int .i64 ((filI x l).length : Nat)]) ∧ w'.ownsRow w.heap.size 9 1 (.slice A' (idsI (((askL x by_ dn l).drop fr).take mo)).length c') (idsI (((askL x by_ dn l).drop fr).take mo)).length ((idsI (((askL x by_ dn l).drop fr).take mo)).flatMap strE) ∧ Below w.heap.size w w' := by
  have hlen := hl.len
  have hfl := fil_len x l
  refine enter_args (args := [.slice A q c, .agg #[.int .i64 x.op, .slice x.ad x.q x.c, .int .i64 x.lo, .int .i64 x.hi, str x.nm, str x.tx, .int .i64 by_, .bool dn, .int .i64 (fr : Int), .int .i64 (mo : Int)]]) (F := _) Tryz.func18 rfl Tryz.ntmps18 rfl rfl ?_
  intro Rb hRb hRn
  refine tx ?_
  refine S_box 3 3 rfl rfl rfl rfl rfl ?_
  intro b3
  refine S_nilSlice 4 (e := 9) (size := 1) ?_
  refine sr 2 ?_
  refine sgx ?_
  refine sr 1 ?_
  refine s1 (yF fa38_0) ?_
  refine s1 (y_loadSub 3 0 6 (ds := [.int .i64 x.op, .slice x.ad x.q x.c, .int .i64 x.lo, .int .i64 x.hi, str x.nm, str x.tx]) rfl rfl rfl rfl Tryz.underlying36 rfl sz36) ?_
  refine S_callOwn 12 12 rfl rfl rfl rfl rfl rfl rfl cf62 (fun A c => .slice A ((filI x l).length) c) 31 9 ((filI x l).length) ((filI x l).flatMap Evt.enc) (fun w1 hM => Found_any A q c l x w1 (hl.below hM.below) hq (fun e he => (hev e he).below hM.below) (hok.lift hM.below) h0 (hm.below hM.below)) ?_
  intro A12 c12
  refine sr 1 ?_
  refine sgx ?_
  refine sr 1 ?_
  refine s1 (y_makeFunc rfl rfl rfl rfl rfl) ?_
  refine S_callM 15 [(0, 12), (901, 3)] (X := List Evt) rfl rfl rfl rfl rfl rfl rfl cf63 rfl (fun _ => .tuple #[]) (fun W => W = pdqL (cmpQ by_ dn) (filI x l)) (fun W => [(0, .own 31 9 (.slice A12 (filI x l).length c12) (filI x l).length (W.flatMap Evt.enc)), (901, askBox b3 x by_ dn fr mo)]) (fun _ => rfl) (fun _ => rfl) (fun K1 hK1 w1 hM => SortQ_any x by_ dn fr mo b3 A12 _ c12 (filI x l) w1 rfl (by omega) hM) ?_
  intro W hW
  have hWl : W.length = (filI x l).length := by rw [hW]; exact (ask_facts x by_ dn l).1.length_eq
  refine sgx ?_
  refine S_nilSlice 6 (e := 9) (size := 1) ?_
  refine sr 1 ?_
  refine sgs ?_
  refine tx ?_
  refine sr 1 ?_
  refine s1 (y_len_slice rfl rfl Tryz.underlying25) ?_
  refine sr 1 ?_
  refine sgo ?_
  refine T_block ?_
  refine lK4 (kf := [(6, 8), (18, 41)]) (kl := [(6, 8), (18, 41)]) (fun (i : Nat) (A : Option Addr) (c : Nat) (out : List (List UInt8)) => [(18, true, .int .i64 (i : Int)), (6, true, .slice A out.length c)]) (fun (i : Nat) (A : Option Addr) (c : Nat) (out : List (List UInt8)) => [(6, .own 9 1 (.slice A out.length c) out.length (out.flatMap strE))]) (fun (i : Nat) (A : Option Addr) (c : Nat) (out : List (List UInt8)) => i ≤ (filI x l).length ∧ out = idsW W fr mo i) (fun (i : Nat) (A : Option Addr) (c : Nat) (out : List (List UInt8)) => (filI x l).length - i) 0 none 0 [] ?_ ?_ ?_ ?_
  · exact ⟨by omega, by simp [idsW]⟩
  · exact ⟨rfl, rfl, trivial⟩
  · exact ⟨rfl, trivial⟩
  rintro i A2 c2 out ⟨hp1, hp2⟩
  refine tx ?_
  refine sr 1 ?_
  refine sgs ?_
  refine T_cond rfl ?_ ?_ <;> intro h19
  · try simp only [nrm] at h19
    obtain ⟨e, he⟩ : ∃ e, W[i]? = some e := ⟨_, List.getElem?_eq_getElem (by omega)⟩
    have hol := idsW_len W fr mo i
    rw [← hp2] at hol
    refine kgs ?_
    refine T_block ?_
    refine tx ?_
    refine sr 1 ?_
    refine s1 (y_indexOwn 12 rfl rfl rfl rfl Tryz.underlying25 sz31 (fun _ => by omega)) ?_
    refine s1 (y_loadO 12 rfl rfl rfl hWl (fun _ => rfl) (fun _ => he) Tryz.underlying31 rfl sz31) ?_
    refine S_alloc 8 8 rfl rfl rfl rfl z31 ?_
    intro b8
    refine sr 1 ?_
    refine S_store 8 rfl rfl rfl rfl rfl rfl sz31 rfl rfl ?_
    refine sgx ?_
    refine sr 1 ?_
    refine s1 (yF fa38_3) ?_
    refine s1 (yL 3 Tryz.underlying3) ?_
    refine sr 2 ?_
    refine sg rfl (y_move rfl rfl) ?_
    refine sg rfl (yF fa38_3) ?_
    refine sg rfl (yL 3 Tryz.underlying3) ?_
    refine sg rfl (yF fa38_4) ?_
    refine sg rfl (yL 3 Tryz.underlying3) ?_
    refine sg rfl (y_bin rfl rfl rfl (fun hg => b_add (by simp only [Bool.true_and, Bool.and_eq_true, beq_iff_eq, decide_eq_true_eq, decide_eq_false_iff_not, Int.not_lt, Int.not_le] at hg; omega))) ?_
    refine sg rfl (y_bin rfl rfl rfl (fun _ => b_lss)) ?_
    refine s1 (y_and rfl rfl rfl) ?_
    refine sgo ?_
    refine T_cond rfl ?_ ?_ <;> intro h35
    · skip
      have h35 : fr ≤ i ∧ i < fr + mo := by
        simp only [Bool.and_eq_true, decide_eq_true_eq] at h35
        omega
      have hn := idsW_in he h35.1 h35.2
      rw [← hp2] at hn
      refine T_region ?_
      refine sr 1 ?_
      refine s1 (yF fa31_0) ?_
      refine s1 (yL 8 Tryz.underlying9) ?_
      refine S_buildSlice 39 39 rfl rfl rfl rfl rfl Tryz.underlying49 inf9 rfl (by decide) (by decide) rfl rfl (by decide) rfl (_) rfl ?_
      intro b39
      obtain ⟨i40, hi40, hz40, hs40, hy40⟩ := info_parts inf9
      refine S_append 40 6 39 rfl rfl rfl rfl rfl rfl rfl rfl Tryz.underlying49 hi40 hz40 hs40 hy40 rfl (by decide) (by decide) rfl ?_ ?_ ((out ++ [e.id]).length) ((out ++ [e.id]).flatMap strE) ?_ ?_ ?_
      · (simp only [maxLen]; omega)
      · omega
      · rw [List.length_append]; rfl
      · simp [List.flatMap_append, strE]; rfl
      intro A40 c40
      refine sr 1 ?_
      refine sgr ?_
      refine s1 (y_bin rfl rfl rfl (fun hg => b_add (by omega))) ?_
      refine sr 1 ?_
      refine S_nil (nK4 (kf := [(6, 8), (18, 41)]) (kl := [(6, 8), (18, 41)]) (i + 1) A40 c40 (out ++ [e.id]) ?_ ?_ ?_ ?_)
      · omega
      · exact ⟨by omega, hn.symm⟩
      · exact ⟨rfl, rfl, trivial⟩
      · exact ⟨rfl, trivial⟩
    have hn := idsW_out (l := W) (fr := fr) (mo := mo) (i := i) (fun hh => by
      simp only [Bool.and_eq_false_iff, decide_eq_false_iff_not] at h35
      omega)
    rw [← hp2] at hn
    refine kgr ?_
    refine s1 (y_bin rfl rfl rfl (fun hg => b_add (by omega))) ?_
    refine sr 1 ?_
    refine S_nil (nK4 (kf := [(6, 8), (18, 41)]) (kl := [(6, 8), (18, 41)]) (i + 1) A2 c2 out ?_ ?_ ?_ ?_)
    · omega
    · exact ⟨by omega, hn.symm⟩
    · exact ⟨rfl, rfl, trivial⟩
    · exact ⟨rfl, trivial⟩
  try simp only [nrm] at h19
  refine egx ?_
  refine sr 2 ?_
  refine s1 (y_len_slice rfl rfl Tryz.underlying25) ?_
  refine sr 2 ?_
  refine sgo ?_
  refine tr2 hRb fun w hM => ?_
  have hf : idsI (((askL x by_ dn l).drop fr).take mo) = out := by rw [hp2, idsW_all (by omega), hW]; rfl
  rw [hf]
  exact ⟨A2, c2, rfl, hM.sat 6 _ rfl, hM.below⟩
theorem FacetsFault_any (x : SC) (by_ : Int) (nm : List UInt8) (mo : Int) (w : World) (hok : x.Ok w) (hb : cntP x.says ≤ 1000000000000) :
    Calls Tryz.prog 21 #[x.val, .int .i64 by_, str nm, .int .i64 mo] w fun e w' => e = .returned (.int .i64 (facNo x by_ nm mo)) ∧ Below w.heap.size w w' := by
  refine enter_args (args := [.agg #[.int .i64 x.op, .slice x.ad x.q x.c, .int .i64 x.lo, .int .i64 x.hi, str x.nm, str x.tx], .int .i64 by_, str nm, .int .i64 mo]) (F := _) Tryz.func21 rfl Tryz.ntmps21 rfl rfl ?_
  intro Rb hRb hRn
  refine tx ?_
  refine S_box 4 4 rfl rfl rfl rfl rfl ?_
  intro b4
  refine sr 1 ?_
  refine sgs ?_
  refine tx ?_
  refine s1 (yA 4 rfl Tryz.underlying36 sz36) ?_
  refine s1 (y_call rfl rfl rfl cf61 (fun _ w1 hM => CondFault_any x w1 (hok.lift hM.below) hb)) ?_
  refine sr 1 ?_
  refine sgx ?_
  refine sr 2 ?_
  refine sgo ?_
  refine T_cond rfl ?_ ?_ <;> intro h13
  · skip
    have h13 : ¬ condNo x = 0 := by simpa using h13
    refine tx ?_
    refine sr 2 ?_
    refine sgo ?_
    refine tr1 hRb fun w hM => ?_
    exact ⟨by rw [facNo, if_pos h13], hM.below⟩
  have h13 : condNo x = 0 := by simpa using h13
  refine kgs ?_
  refine T_block ?_
  refine tx ?_
  refine sr 1 ?_
  refine s1 (y_call rfl rfl rfl cf42 (fun _ w _ => rout1_any _ _ _ w)) ?_
  refine sr 1 ?_
  refine sg rfl (y_move rfl rfl) ?_
  refine sg rfl (y_bin rfl rfl rfl (fun _ => b_neq)) ?_
  refine s1 (y_as (v' := .bool (!decide (by_ = 2) && outI by_ 4 7)) (by rw [Bool.and_comm]) (y_and rfl rfl rfl)) ?_
  refine sr 1 ?_
  refine sgo ?_
  refine T_cond rfl ?_ ?_ <;> intro h15
  · skip
    refine tx ?_
    refine sr 1 ?_
    refine sgo ?_
    refine tr1 hRb fun w hM => ?_
    exact ⟨by rw [facNo, if_neg (by simpa using h13), if_pos h15], hM.below⟩
  refine tx ?_
  refine sr 3 ?_
  refine sg rfl (y_move rfl rfl) ?_
  refine sg rfl (y_call rfl rfl rfl cf40 (fun _ w _ => NameOk_any nm w)) ?_
  refine sg rfl (y_not rfl rfl) ?_
  refine s1 (y_and rfl rfl rfl) ?_
  refine sr 1 ?_
  refine sgo ?_
  refine T_cond rfl ?_ ?_ <;> intro h22
  · skip
    refine tx ?_
    refine sr 1 ?_
    refine sgo ?_
    refine tr1 hRb fun w hM => ?_
    exact ⟨by rw [facNo, if_neg (by simpa using h13), if_neg (by rw [h15]; exact Bool.false_ne_true), if_pos h22], hM.below⟩
  refine tx ?_
  refine sr 3 ?_
  refine sg rfl (y_move rfl rfl) ?_
  refine sg rfl (y_bin rfl rfl rfl (fun _ => b_neqs)) ?_
  refine s1 (y_and rfl rfl rfl) ?_
  refine sr 1 ?_
  refine sgo ?_
  refine T_cond rfl ?_ ?_ <;> intro h30
  · skip
    refine tx ?_
    refine sr 1 ?_
    refine sgo ?_
    refine tr1 hRb fun w hM => ?_
    exact ⟨by rw [facNo, if_neg (by simpa using h13), if_neg (by rw [h15]; exact Bool.false_ne_true), if_neg (by rw [h22]; exact Bool.false_ne_true), if_pos h30], hM.below⟩
  refine tx ?_
  refine sr 1 ?_
  refine s1 (y_call rfl rfl rfl cf42 (fun _ w _ => rout1_any _ _ _ w)) ?_
  refine sr 1 ?_
  refine sgo ?_
  refine T_cond rfl ?_ ?_ <;> intro h37
  · skip
    refine tx ?_
    refine sr 1 ?_
    refine sgo ?_
    refine tr1 hRb fun w hM => ?_
    exact ⟨by rw [facNo, if_neg (by simpa using h13), if_neg (by rw [h15]; exact Bool.false_ne_true), if_neg (by rw [h22]; exact Bool.false_ne_true), if_neg (by rw [h30]; exact Bool.false_ne_true), if_pos h37], hM.below⟩
  refine kgx ?_
  refine sr 1 ?_
  refine sgo ?_
  refine tr1 hRb fun w hM => ?_
  exact ⟨by rw [facNo, if_neg (by simpa using h13), if_neg (by rw [h15]; exact Bool.false_ne_true), if_neg (by rw [h22]; exact Bool.false_ne_true), if_neg (by rw [h30]; exact Bool.false_ne_true), if_neg (by rw [h37]; exact Bool.false_ne_true)], hM.below⟩
theorem BinsFault_any (x : SC) (fr st mn : Int) (w : World) (hok : x.Ok w) (hb : cntP x.says ≤ 1000000000000) :
    Calls Tryz.prog 25 #[x.val, .int .i64 fr, .int .i64 st, .int .i64 mn] w fun e w' => e = .returned (.int .i64 (binNo x fr st mn)) ∧ Below w.heap.size w w' := by
  refine enter_args (args := [.agg #[.int .i64 x.op, .slice x.ad x.q x.c, .int .i64 x.lo, .int .i64 x.hi, str x.nm, str x.tx], .int .i64 fr, .int .i64 st, .int .i64 mn]) (F := _) Tryz.func25 rfl Tryz.ntmps25 rfl rfl ?_
  intro Rb hRb hRn
  refine tx ?_
  refine S_box 4 4 rfl rfl rfl rfl rfl ?_
  intro b4
  refine sr 1 ?_
  refine sgs ?_
  refine tx ?_
  refine s1 (yA 4 rfl Tryz.underlying36 sz36) ?_
  refine s1 (y_call rfl rfl rfl cf61 (fun _ w1 hM => CondFault_any x w1 (hok.lift hM.below) hb)) ?_
  refine sr 1 ?_
  refine sgx ?_
  refine sr 2 ?_
  refine sgo ?_
  refine T_cond rfl ?_ ?_ <;> intro h13
  · skip
    have h13 : ¬ condNo x = 0 := by simpa using h13
    refine tx ?_
    refine sr 2 ?_
    refine sgo ?_
    refine tr1 hRb fun w hM => ?_
    exact ⟨by rw [binNo, if_pos h13], hM.below⟩
  have h13 : condNo x = 0 := by simpa using h13
  refine kgs ?_
  refine tx ?_
  refine sr 1 ?_
  refine s1 (y_call rfl rfl rfl cf42 (fun _ w _ => rout1_any _ _ _ w)) ?_
  refine sr 1 ?_
  refine sg rfl (y_move rfl rfl) ?_
  refine sg rfl (y_call rfl rfl rfl cf42 (fun _ w _ => rout1_any _ _ _ w)) ?_
  refine s1 (y_or rfl rfl rfl) ?_
  refine sr 1 ?_
  refine sg rfl (y_move rfl rfl) ?_
  refine sg rfl (y_call rfl rfl rfl cf42 (fun _ w _ => rout1_any _ _ _ w)) ?_
  refine s1 (y_or rfl rfl rfl) ?_
  refine sgo ?_
  refine T_cond rfl ?_ ?_ <;> intro h24
  · skip
    refine tx ?_
    refine sr 1 ?_
    refine sgo ?_
    refine tr1 hRb fun w hM => ?_
    exact ⟨by rw [binNo, if_neg (by simpa using h13), if_pos h24], hM.below⟩
  obtain ⟨hf0, hf1, hs0, hs1, hm0, hm1⟩ : 0 ≤ fr ∧ fr ≤ 3155759999 ∧ 1 ≤ st ∧ st ≤ 31622400 ∧ 1 ≤ mn ∧ mn ≤ 400 := by
    simp only [outI, Bool.or_eq_false_iff, decide_eq_false_iff_not] at h24
    omega
  have hcm : (mn - 1) * st = st * (mn - 1) := Int.mul_comm _ _
  obtain ⟨hp0, hp1⟩ := bin_mul (i := (mn - 1).toNat) hs0 hs1 (by omega)
  rw [show (((mn - 1).toNat : Nat) : Int) = mn - 1 by omega] at hp0 hp1
  refine kgs ?_
  refine tx ?_
  refine sr 2 ?_
  refine s1 (y_bin rfl rfl rfl (fun hg => b_sub (by omega))) ?_
  refine sr 1 ?_
  refine s1 (y_bin rfl rfl rfl (fun hg => b_mulv (st * (mn - 1)) (by omega) (by omega))) ?_
  refine s1 (y_bin rfl rfl rfl (fun hg => b_add (by omega))) ?_
  refine sr 1 ?_
  refine sgo ?_
  refine T_cond rfl ?_ ?_ <;> intro h31
  · skip
    have h31 : 3155759999 < fr + st * (mn - 1) := by simpa using h31
    refine tx ?_
    refine sr 1 ?_
    refine sgo ?_
    refine tr1 hRb fun w hM => ?_
    exact ⟨by rw [binNo, if_neg (by simpa using h13), if_neg (by rw [h24]; exact Bool.false_ne_true), if_pos h31], hM.below⟩
  have h31 : ¬ 3155759999 < fr + st * (mn - 1) := by simpa using h31
  refine kgx ?_
  refine sr 1 ?_
  refine sgo ?_
  refine tr1 hRb fun w hM => ?_
  exact ⟨by rw [binNo, if_neg (by simpa using h13), if_neg (by rw [h24]; exact Bool.false_ne_true), if_neg h31], hM.below⟩
theorem TrendFault_any (x : SC) (at_ lg : Int) (w : World) (hok : x.Ok w) (hb : cntP x.says ≤ 1000000000000) :
    Calls Tryz.prog 29 #[x.val, .int .i64 at_, .int .i64 lg] w fun e w' => e = .returned (.int .i64 (trnNo x at_ lg)) ∧ Below w.heap.size w w' := by
  refine enter_args (args := [.agg #[.int .i64 x.op, .slice x.ad x.q x.c, .int .i64 x.lo, .int .i64 x.hi, str x.nm, str x.tx], .int .i64 at_, .int .i64 lg]) (F := _) Tryz.func29 rfl Tryz.ntmps29 rfl rfl ?_
  intro Rb hRb hRn
  refine tx ?_
  refine S_box 3 3 rfl rfl rfl rfl rfl ?_
  intro b3
  refine sr 1 ?_
  refine sgs ?_
  refine tx ?_
  refine s1 (yA 3 rfl Tryz.underlying36 sz36) ?_
  refine s1 (y_call rfl rfl rfl cf61 (fun _ w1 hM => CondFault_any x w1 (hok.lift hM.below) hb)) ?_
  refine sr 1 ?_
  refine sgx ?_
  refine sr 2 ?_
  refine sgo ?_
  refine T_cond rfl ?_ ?_ <;> intro h11
  · skip
    have h11 : ¬ condNo x = 0 := by simpa using h11
    refine tx ?_
    refine sr 2 ?_
    refine sgo ?_
    refine tr1 hRb fun w hM => ?_
    exact ⟨by rw [trnNo, if_pos h11], hM.below⟩
  have h11 : condNo x = 0 := by simpa using h11
  refine kgs ?_
  refine tx ?_
  refine sr 1 ?_
  refine s1 (y_call rfl rfl rfl cf42 (fun _ w _ => rout1_any _ _ _ w)) ?_
  refine sr 1 ?_
  refine sg rfl (y_move rfl rfl) ?_
  refine sg rfl (y_call rfl rfl rfl cf42 (fun _ w _ => rout1_any _ _ _ w)) ?_
  refine s1 (y_or rfl rfl rfl) ?_
  refine sgo ?_
  refine T_cond rfl ?_ ?_ <;> intro h18
  · skip
    refine tx ?_
    refine sr 1 ?_
    refine sgo ?_
    refine tr1 hRb fun w hM => ?_
    exact ⟨by rw [trnNo, if_neg (by simpa using h11), if_pos h18], hM.below⟩
  refine kgx ?_
  refine sr 1 ?_
  refine sgo ?_
  refine tr1 hRb fun w hM => ?_
  exact ⟨by rw [trnNo, if_neg (by simpa using h11), if_neg (by rw [h18]; exact Bool.false_ne_true)], hM.below⟩
theorem weights_any (A : Option Addr) (q c : Nat) (l : List Evt) (lo hi : Int) (w : World) (hl : SlT Evt.enc 9 w A q l) (hq : q ≤ 2000) (hev : ∀ e ∈ l, evNo e = 0) :
    Calls Tryz.prog 75 #[.slice A q c, .int .i64 lo, .int .i64 hi] w fun e w' => e = .returned (.tuple #[.int .i64 (nW l lo hi), .int .i64 (sW l lo hi)]) ∧ Below w.heap.size w w' := by
  have hlen := hl.len
  refine enter_args (args := [.slice A q c, .int .i64 lo, .int .i64 hi]) (F := _) Tryz.func75 rfl Tryz.ntmps75 rfl rfl ?_
  intro Rb hRb hRn
  refine tx ?_
  refine sr 2 ?_
  refine sgs ?_
  refine tx ?_
  refine sr 1 ?_
  refine s1 (y_len_slice rfl rfl Tryz.underlying25) ?_
  refine sr 1 ?_
  refine sgo ?_
  refine T_block ?_
  refine lK1 (kf := [(6, 7), (9, 9), (12, 32)]) (kl := [(6, 7), (9, 9), (12, 32)]) (fun (i : Nat) => [(12, true, .int .i64 (i : Int)), (6, true, .int .i64 (nW (l.take i) lo hi)), (7, true, .int .i64 (sW (l.take i) lo hi))]) (fun (i : Nat) => []) (fun (i : Nat) => i ≤ q) (fun (i : Nat) => q - i) 0 ?_ ?_ ?_ ?_
  · omega
  · exact ⟨rfl, rfl, rfl, trivial⟩
  · exact trivial
  rintro i hi1
  refine tx ?_
  refine sr 1 ?_
  refine sgs ?_
  refine T_cond rfl ?_ ?_ <;> intro h13
  · try simp only [nrm] at h13
    obtain ⟨e, he, hx2⟩ := hl.at (i := i) (by omega)
    obtain ⟨_, hwt, hat, _⟩ := evNo_lv (hev e (mem_at he))
    have hU := nW_snoc (l.take i) e lo hi
    have hV := sW_snoc (l.take i) e lo hi
    rw [← take_snocI he] at hU hV
    obtain ⟨hU1, hU2⟩ := nW_le (l.take i) lo hi
    rw [List.length_take] at hU2
    obtain ⟨hV1, hV2⟩ := sW_2000 (L := l.take i) (by rw [List.length_take]; omega) (take_ok hev i) lo hi
    refine kgs ?_
    refine T_block ?_
    refine tx ?_
    refine s1 (y_indexAddr rfl rfl rfl Tryz.underlying25 sz31 (fun hg => hl.isSome (by omega)) (fun _ => by omega)) ?_
    refine s1 (y_loadT rfl rfl hl (fun _ => rfl) (fun _ => he) Tryz.underlying31 rfl sz31) ?_
    refine S_alloc 9 9 rfl rfl rfl rfl z31 ?_
    intro b9
    refine S_store 9 rfl rfl rfl rfl rfl rfl sz31 rfl rfl ?_
    refine sgx ?_
    refine s1 (yF fa31_1) ?_
    refine s1 (yL 9 Tryz.underlying3) ?_
    refine sr 3 ?_
    refine sg rfl (yF fa31_1) ?_
    refine sg rfl (yL 9 Tryz.underlying3) ?_
    refine sg rfl (y_move rfl rfl) ?_
    refine sg rfl (y_bin rfl rfl rfl (fun _ => b_lss)) ?_
    refine s1 (y_as (v' := .bool (inW lo hi e)) (by exact rfl) (y_and rfl rfl rfl)) ?_
    refine sgo ?_
    refine T_cond rfl ?_ ?_ <;> intro h25
    · skip
      rw [if_pos h25] at hU hV
      refine tx ?_
      refine sr 1 ?_
      refine s1 (y_bin rfl rfl rfl (fun hg => b_addv (nW (l.take (i + 1)) lo hi) (by omega) (by omega))) ?_
      refine sr 1 ?_
      refine sgr ?_
      refine sr 1 ?_
      refine s1 (yF fa31_8) ?_
      refine s1 (yL 9 Tryz.underlying3) ?_
      refine s1 (y_bin rfl rfl rfl (fun hg => b_addv (sW (l.take (i + 1)) lo hi) (by omega) (by omega))) ?_
      refine sr 1 ?_
      refine sgr ?_
      refine s1 (y_bin rfl rfl rfl (fun hg => b_add (by omega))) ?_
      refine sr 1 ?_
      refine S_nil (nK1 (kf := [(6, 7), (9, 9), (12, 32)]) (kl := [(6, 7), (9, 9), (12, 32)]) (i + 1) ?_ ?_ ?_ ?_)
      · omega
      · omega
      · exact ⟨rfl, rfl, rfl, trivial⟩
      · exact trivial
    rw [if_neg (by rw [show inW lo hi e = false from h25]; exact Bool.false_ne_true)] at hU hV
    refine kgr ?_
    refine s1 (y_bin rfl rfl rfl (fun hg => b_add (by omega))) ?_
    refine sr 1 ?_
    refine S_nil (nK1 (kf := [(6, 7), (9, 9), (12, 32)]) (kl := [(6, 7), (9, 9), (12, 32)]) (i + 1) ?_ ?_ ?_ ?_)
    · omega
    · omega
    · rw [show nW (l.take (i + 1)) lo hi = nW (l.take i) lo hi by omega, show sW (l.take (i + 1)) lo hi = sW (l.take i) lo hi by omega]; exact ⟨rfl, rfl, rfl, trivial⟩
    · exact trivial
  try simp only [nrm] at h13
  refine egx ?_
  refine sr 4 ?_
  refine sgo ?_
  refine tr2 hRb fun w hM => ?_
  exact ⟨by rw [List.take_of_length_le (by omega)], hM.below⟩
theorem fil_ok {x : SC} {l : List Evt} {p : Evt → Prop} (h : ∀ e ∈ l, p e) : ∀ e ∈ filI x l, p e := fun e he => h e (List.mem_filter.1 he).1
theorem BinsOf_any (A : Option Addr) (q c : Nat) (l : List Evt) (x : SC) (fr st : Int) (mn : Nat) (w : World) (hl : SlT Evt.enc 9 w A q l) (hq : q ≤ 2000) (hev : ∀ e ∈ l, EvR w e) (hno : ∀ e ∈ l, evNo e = 0) (hok : x.Ok w) (h0 : chX x = 0) (hm : MLen w) (hfr : 0 ≤ fr ∧ fr ≤ 3155759999) (hst : 1 ≤ st ∧ st ≤ 31622400) (hmn : mn ≤ 400) :
    Calls Tryz.prog 26 #[.slice A q c, x.val, .int .i64 fr, .int .i64 st, .int .i64 (mn : Int)] w fun en w' => ∃ A' c', en = .returned (.slice A' (binsL (filI x l) fr st mn).length c') ∧ w'.ownsRow w.heap.size 71 3 (.slice A' (binsL (filI x l) fr st mn).length c') (binsL (filI x l) fr st mn).length ((binsL (filI x l) fr st mn).flatMap Bn.enc) ∧ Below w.heap.size w w' := by
  have hlen := hl.len
  have hfl := fil_len x l
  refine enter_args (args := [.slice A q c, .agg #[.int .i64 x.op, .slice x.ad x.q x.c, .int .i64 x.lo, .int .i64 x.hi, str x.nm, str x.tx], .int .i64 fr, .int .i64 st, .int .i64 (mn : Int)]) (F := _) Tryz.func26 rfl Tryz.ntmps26 rfl rfl ?_
  intro Rb hRb hRn
  refine tx ?_
  refine S_box 6 6 rfl rfl rfl rfl rfl ?_
  intro b6
  refine S_nilSlice 10 (e := 71) (size := 3) ?_
  refine sr 1 ?_
  refine sgx ?_
  refine S_nilSlice 11 (e := 71) (size := 3) ?_
  refine sr 1 ?_
  refine sgs ?_
  refine tx ?_
  refine sr 2 ?_
  refine sgo ?_
  refine T_block ?_
  refine lK3 (kf := [(11, 13), (15, 43)]) (kl := [(11, 13), (15, 43)]) (fun (i : Nat) (A : Option Addr) (c : Nat) => [(15, true, .int .i64 (i : Int)), (11, true, .slice A i c)]) (fun (i : Nat) (A : Option Addr) (c : Nat) => [(11, .own 71 3 (.slice A i c) i ((binsL (filI x l) fr st i).flatMap Bn.enc))]) (fun (i : Nat) (A : Option Addr) (c : Nat) => i ≤ mn) (fun (i : Nat) (A : Option Addr) (c : Nat) => mn - i) 0 none 0 ?_ ?_ ?_ ?_
  · omega
  · exact ⟨rfl, rfl, trivial⟩
  · exact ⟨rfl, trivial⟩
  rintro i A2 c2 hi1
  refine tx ?_
  refine sr 1 ?_
  refine sgs ?_
  refine T_cond rfl ?_ ?_ <;> intro h16
  · try simp only [nrm] at h16
    obtain ⟨hb1, hb2⟩ := bin_mul (i := i) hst.1 hst.2 (by omega)
    have hcm : (i : Int) * st = st * i := Int.mul_comm _ _
    refine kgs ?_
    refine T_block ?_
    refine tx ?_
    refine sr 2 ?_
    refine sgx ?_
    refine sr 3 ?_
    refine s1 (y_bin rfl rfl rfl (fun hg => b_mulv (st * (i : Int)) (by omega) (by omega))) ?_
    refine s1 (y_bin rfl rfl rfl (fun hg => b_addv (fr + st * (i : Int)) (by omega) (by omega))) ?_
    refine s1 (y_build (zv := .agg #[.int .i64 0, .int .i64 0, .int .i64 0]) (pl := [(0, 1), (1, 1), (2, 1)]) (out := [_, .int .i64 0, .int .i64 0]) rfl rfl Tryz.underlying71 z71 (by kernel_rfl) rfl) ?_
    refine S_alloc 13 13 rfl rfl rfl rfl z71 ?_
    intro b13
    refine S_store 13 rfl rfl rfl rfl rfl rfl sz71 rfl rfl ?_
    refine sgs ?_
    refine T_perm [0, 1, 3, 4, 5, 6, 7, 8, 2, 9, 10, 11, 12, 13, 14, 15, 16] [true, true, false, true, true, true, true, true, true, false, true, true, true, true, false, true, false] [0, 0, 3, 0, 8, 0, 32, 0, 224, 511, 1023, 2047, 2047, 4095, 12287, 32767, 65535] [(1, [6]), (4, [13]), (6, [13])] (by kernel_rfl) (by kernel_rfl) (by kernel_rfl) rfl (by kernel_rfl) ?_
    refine Rf_ 0 25 rfl rfl rfl rfl rfl _ trivial (Y.z (y_move rfl rfl) rfl) ?_
    refine Rf_ 1 26 rfl rfl rfl rfl rfl _ ⟨rfl, trivial⟩ (Y.z (yA 6 rfl Tryz.underlying36 sz36) rfl) ?_
    refine Rf_ 3 28 rfl rfl rfl rfl rfl _ trivial (Y.z (yF fa71_0) rfl) ?_
    refine Rf_ 4 29 rfl rfl rfl rfl rfl _ ⟨rfl, trivial⟩ (Y.z (yL 13 Tryz.underlying3) rfl) ?_
    refine Rf_ 5 30 rfl rfl rfl rfl rfl _ trivial (Y.z (yF fa71_0) rfl) ?_
    refine Rf_ 6 31 rfl rfl rfl rfl rfl _ ⟨rfl, trivial⟩ (Y.z (yL 13 Tryz.underlying3) rfl) ?_
    refine Rf_ 7 32 rfl rfl rfl rfl rfl _ trivial (Y.z (y_move rfl rfl) rfl) ?_
    refine Rf_ 8 33 rfl rfl rfl rfl rfl _ trivial (Y.z (y_bin rfl rfl rfl (fun hg => b_add (by omega))) rfl) ?_
    refine R_chain 2 rfl rfl ?_
    refine S_callOwn 27 27 rfl rfl rfl rfl rfl rfl rfl cf62 (fun A c => .slice A ((filI x l).length) c) 31 9 ((filI x l).length) ((filI x l).flatMap Evt.enc) (fun w1 hM => Found_any A q c l x w1 (hl.below hM.below) hq (fun e he => (hev e he).below hM.below) (hok.lift hM.below) h0 (hm.below hM.below)) ?_
    intro A27 c27
    refine R_next ⟨.inl rfl, .inr ⟨rfl, trivial⟩, .inr ⟨rfl, trivial⟩, trivial⟩ ?_
    refine R_chain 9 rfl rfl ?_
    refine s1 (y_call rfl rfl rfl cf75 (fun _ w1 hM => weights_any _ _ _ (filI x l) _ _ w1 (owned_T (enc := Evt.enc) hM rfl (i := 27) rfl) (by omega) (fil_ok hno))) ?_
    refine R_next ⟨.inl rfl, .inl rfl, .inl rfl, trivial⟩ ?_
    refine Rf_ 10 24 rfl rfl rfl rfl rfl _ trivial (Y.z (y_move rfl rfl) rfl) ?_
    refine Rf_ 11 35 rfl rfl rfl rfl rfl _ trivial (Y.z (y_extract rfl rfl rfl) rfl) ?_
    refine Rf_ 12 36 rfl rfl rfl rfl rfl _ trivial (Y.z (y_extract rfl rfl rfl) rfl) ?_
    refine Rf_ 13 37 rfl rfl rfl rfl rfl _ trivial (Y.z (yF fa71_1) rfl) ?_
    refine R_chain 14 rfl rfl ?_
    refine S_store 13 rfl rfl rfl rfl rfl rfl sz3 rfl rfl ?_
    refine R_next ⟨.inl rfl, .inl rfl, .inl rfl, trivial⟩ ?_
    refine Rf_ 15 38 rfl rfl rfl rfl rfl _ trivial (Y.z (yF fa71_2) rfl) ?_
    refine R_chain 16 rfl rfl ?_
    refine S_store 13 rfl rfl rfl rfl rfl rfl sz3 rfl rfl ?_
    refine R_next ⟨.inl rfl, .inl rfl, .inl rfl, trivial⟩ ?_
    refine R_go (fun _ _ h => h) ?_
    refine T_region ?_
    refine sr 1 ?_
    refine s1 (yA 13 rfl Tryz.underlying71 sz71) ?_
    refine S_buildSlice 41 41 rfl rfl rfl rfl rfl Tryz.underlying64 inf71 rfl (by decide) (by decide) rfl rfl (by decide) rfl (_) rfl ?_
    intro b41
    obtain ⟨i42, hi42, hz42, hs42, hy42⟩ := info_parts inf71
    refine S_append 42 11 41 rfl rfl rfl rfl rfl rfl rfl rfl Tryz.underlying64 hi42 hz42 hs42 hy42 rfl (by decide) (by decide) rfl ?_ ?_ (i + 1) ((binsL (filI x l) fr st (i + 1)).flatMap Bn.enc) ?_ ?_ ?_
    · (simp only [maxLen]; omega)
    · omega
    · rfl
    · rw [binsL_next, List.flatMap_append]; rfl
    intro A42 c42
    refine sr 1 ?_
    refine sgr ?_
    refine s1 (y_bin rfl rfl rfl (fun hg => b_add (by omega))) ?_
    refine sr 1 ?_
    refine S_nil (nK3 (kf := [(11, 13), (15, 43)]) (kl := [(11, 13), (15, 43)]) (i + 1) A42 c42 ?_ ?_ ?_ ?_)
    · omega
    · omega
    · exact ⟨rfl, rfl, trivial⟩
    · exact ⟨rfl, trivial⟩
  try simp only [nrm] at h16
  refine egx ?_
  refine sr 2 ?_
  refine sgo ?_
  refine tr1 hRb fun w hM => ?_
  have hi : i = mn := by omega
  subst hi
  rw [binsL_len]
  exact ⟨A2, c2, rfl, hM.sat 11 _ rfl, hM.below⟩
theorem TrendOf_any (A : Option Addr) (q c : Nat) (l : List Evt) (x : SC) (at_ lg : Int) (w : World) (hl : SlT Evt.enc 9 w A q l) (hq : q ≤ 2000) (hev : ∀ e ∈ l, EvR w e) (hno : ∀ e ∈ l, evNo e = 0) (hok : x.Ok w) (h0 : chX x = 0) (hm : MLen w) (hat : 0 ≤ at_ ∧ at_ ≤ 3155759999) (hlg : 1 ≤ lg ∧ lg ≤ 31622400) :
    Calls Tryz.prog 30 #[.slice A q c, x.val, .int .i64 at_, .int .i64 lg] w fun e w' => e = .returned (.tuple #[.int .i64 (sW (filI x l) (at_ - lg) at_), .int .i64 (sW (filI x l) (at_ - 2 * lg) (at_ - lg)), .int .i64 (trendG (sW (filI x l) (at_ - lg) at_) (sW (filI x l) (at_ - 2 * lg) (at_ - lg)))]) ∧ Below w.heap.size w w' := by
  have hlen := hl.len
  have hfl := fil_len x l
  obtain ⟨hU1, hU2⟩ := sW_2000 (L := filI x l) (by omega) (fil_ok hno) (at_ - lg) at_
  obtain ⟨hV1, hV2⟩ := sW_2000 (L := filI x l) (by omega) (fil_ok hno) (at_ - 2 * lg) (at_ - lg)
  obtain ⟨U, hUe⟩ : ∃ U, sW (filI x l) (at_ - lg) at_ = U := ⟨_, rfl⟩
  obtain ⟨V, hVe⟩ : ∃ V, sW (filI x l) (at_ - 2 * lg) (at_ - lg) = V := ⟨_, rfl⟩
  rw [hUe] at hU1 hU2
  rw [hVe] at hV1 hV2
  rw [hUe, hVe]
  refine enter_args (args := [.slice A q c, .agg #[.int .i64 x.op, .slice x.ad x.q x.c, .int .i64 x.lo, .int .i64 x.hi, str x.nm, str x.tx], .int .i64 at_, .int .i64 lg]) (F := _) Tryz.func30 rfl Tryz.ntmps30 rfl rfl ?_
  intro Rb hRb hRn
  refine tx ?_
  refine S_box 5 5 rfl rfl rfl rfl rfl ?_
  intro b5
  refine sr 3 ?_
  refine sgx ?_
  refine sr 1 ?_
  refine s1 (yA 5 rfl Tryz.underlying36 sz36) ?_
  refine S_callOwn 13 13 rfl rfl rfl rfl rfl rfl rfl cf62 (fun A c => .slice A ((filI x l).length) c) 31 9 ((filI x l).length) ((filI x l).flatMap Evt.enc) (fun w1 hM => Found_any A q c l x w1 (hl.below hM.below) hq (fun e he => (hev e he).below hM.below) (hok.lift hM.below) h0 (hm.below hM.below)) ?_
  intro A13 c13
  refine sr 1 ?_
  refine sgx ?_
  refine sr 3 ?_
  refine s1 (y_bin rfl rfl rfl (fun hg => b_sub (by omega))) ?_
  refine sr 1 ?_
  refine s1 (y_call rfl rfl rfl cf75 (fun _ w1 hM => weights_any _ _ _ (filI x l) _ _ w1 (owned_T (enc := Evt.enc) hM rfl (i := 13) rfl) (by omega) (fil_ok hno))) ?_
  refine sr 2 ?_
  refine s1 (y_as (v' := .int .i64 U) (by rw [hUe]; rfl) (y_extract rfl rfl rfl)) ?_
  refine sr 1 ?_
  refine sgx ?_
  refine sr 3 ?_
  refine s1 (y_bin rfl rfl rfl (fun hg => b_mul (by omega))) ?_
  refine s1 (y_bin rfl rfl rfl (fun hg => b_sub (by omega))) ?_
  refine sr 2 ?_
  refine s1 (y_bin rfl rfl rfl (fun hg => b_sub (by omega))) ?_
  refine s1 (y_call rfl rfl rfl cf75 (fun _ w1 hM => weights_any _ _ _ (filI x l) _ _ w1 (owned_T (enc := Evt.enc) hM rfl (i := 13) rfl) (by omega) (fil_ok hno))) ?_
  refine sr 2 ?_
  refine s1 (y_as (v' := .int .i64 V) (by rw [hVe]; rfl) (y_extract rfl rfl rfl)) ?_
  refine sr 1 ?_
  refine sgs ?_
  refine T_block ?_
  refine tx ?_
  refine sr 3 ?_
  refine sg rfl (y_move rfl rfl) ?_
  refine sg rfl (y_bin rfl rfl rfl (fun _ => b_eql)) ?_
  refine s1 (y_and rfl rfl rfl) ?_
  refine sr 1 ?_
  refine sgo ?_
  refine T_cond rfl ?_ ?_ <;> intro h35
  · skip
    simp only [Bool.and_eq_true, decide_eq_true_eq] at h35
    refine tx ?_
    refine sr 5 ?_
    refine sgo ?_
    refine tr3 hRb fun w hM => ?_
    exact ⟨by rw [trendG, if_pos h35], hM.below⟩
  simp only [Bool.and_eq_false_iff, decide_eq_false_iff_not] at h35
  refine tx ?_
  refine sr 3 ?_
  refine sgo ?_
  refine T_cond rfl ?_ ?_ <;> intro h44
  · try simp only [nrm] at h44
    refine tx ?_
    refine sr 5 ?_
    refine sgo ?_
    refine tr3 hRb fun w hM => ?_
    exact ⟨by rw [trendG, if_neg (by omega), if_pos h44], hM.below⟩
  try simp only [nrm] at h44
  obtain ⟨d, hd, hd0, hd1⟩ : ∃ d, 100 * U / V = d ∧ 0 ≤ d ∧ d ≤ 200000000000 := ⟨_, rfl, Int.ediv_nonneg (by omega) (by omega), Int.le_trans (Int.ediv_le_self _ (by omega)) (by omega)⟩
  refine kgs ?_
  refine T_draws (by kernel_rfl) (by kernel_rfl) ?_
  refine d1 (y_move rfl rfl) ?_
  refine d1 (y_move rfl rfl) ?_
  refine d1 (y_move rfl rfl) ?_
  refine d1 (y_bin rfl rfl rfl (fun hg => b_mul (by omega))) ?_
  refine d1 (y_move rfl rfl) ?_
  refine d1 (y_bin rfl rfl rfl (fun hg => b_quov (d) (by omega) (by omega) (by omega) (by omega))) ?_
  refine d1 (y_bin rfl rfl rfl (fun hg => b_sub (by omega))) ?_
  refine d1 (y_as (v' := .int .i64 (min (d - 100) 10000)) (by congr 1; split <;> omega) (y_min rfl rfl rfl)) ?_
  refine d1 (y_assign rfl rfl) ?_
  refine d1 (y_assign rfl rfl) ?_
  refine d1 (y_assign rfl rfl) ?_
  refine dgo ?_
  refine tr3 hRb fun w hM => ?_
  exact ⟨by rw [trendG, if_neg (by omega), if_neg (by omega), hd], hM.below⟩
end Go.Proofs.YtekbcbjimajnfaaGreatDoor
end
section
namespace Go.Proofs.YtekbcbjimajnfaaGreatDoor
set_option linter.unusedSimpArgs false
set_option linter.unusedVariables false
set_option maxRecDepth 20000
open Go.RowKit Go.Eng
/-! ### FacetsOf -/
abbrev entF (f : Fac) : List UInt8 × Value := (f.v, f.val)
def geF (l : List Fac) (v : List UInt8) : Fac := (getF l v).getD ⟨[], 0, 0⟩
theorem mget_F (l : List Fac) (v : List UInt8) : mget (l.map entF) v = (getF l v).map Fac.val := by
  induction l with
  | nil => rfl
  | cons a r ih =>
    rw [List.map_cons, mget, getF]
    split
    · rfl
    · exact ih
theorem mget_FV (l : List Fac) (v : List UInt8) : (mget (l.map entF) v).getD (.agg #[str [], .int .i64 0, .int .i64 0]) = (geF l v).val := by
  rw [mget_F, geF]
  cases getF l v <;> rfl
theorem mput_F (l : List Fac) (v : List UInt8) (w : Int) : mput (l.map entF) v (.agg #[str v, .int .i64 ((geF l v).n + 1), .int .i64 ((geF l v).s + w)]) = (addF l v w).map entF := by
  induction l with
  | nil => show [(v, Value.agg #[str v, .int .i64 (0 + 1), .int .i64 (0 + w)])] = [(v, Fac.val ⟨v, 1, w⟩)]; rw [Int.zero_add, Int.zero_add]; rfl
  | cons a r ih =>
    rw [List.map_cons, mput, addF]
    by_cases h : v = a.v
    · rw [if_pos h, if_pos h, List.map_cons, geF, getF, if_pos h, ← h]; rfl
    · rw [if_neg h, if_neg h, List.map_cons, ← ih, geF, getF, if_neg h]; rfl
theorem geF_le {l : List Fac} {v : List UInt8} {P : Fac → Prop} (h : ∀ f ∈ l, P f) (h0 : P ⟨[], 0, 0⟩) : P (geF l v) := by
  unfold geF
  cases hg : getF l v with
  | none => exact h0
  | some f =>
    have : f ∈ l := by
      clear h h0
      induction l with
      | nil => cases hg
      | cons a r ih =>
        rw [getF] at hg
        split at hg
        · injection hg with hg; subst hg; exact List.mem_cons_self ..
        · exact List.mem_cons_of_mem _ (ih hg)
    exact h f this
theorem rfacets1_any (a b : Fac) (w : World) : Calls Tryz.prog 73 #[a.val, b.val] w fun e w' => e = .returned (.int .i64 (cmpF a b)) ∧ Below w.heap.size w w' := by
  refine enter_args (args := [.agg #[str a.v, .int .i64 a.n, .int .i64 a.s], .agg #[str b.v, .int .i64 b.n, .int .i64 b.s]]) (F := _) Tryz.func73 rfl Tryz.ntmps73 rfl rfl ?_
  intro Rb hRb hRn
  refine tx ?_
  refine S_box 2 2 rfl rfl rfl rfl rfl ?_
  intro b2
  refine S_box 3 3 rfl rfl rfl rfl rfl ?_
  intro b3
  refine sr 1 ?_
  refine sgs ?_
  refine T_drawsTail 10 (by kernel_rfl) (by kernel_rfl) ?_
  refine d1 (yF fa63_2) ?_
  refine d1 (yL 3 Tryz.underlying3) ?_
  refine d1 (yF fa63_2) ?_
  refine d1 (yL 2 Tryz.underlying3) ?_
  refine d1 (y_call rfl rfl rfl cf59 (fun _ w _ => cmpJ_any _ _ w)) ?_
  refine d1 (yF fa63_0) ?_
  refine d1 (yL 2 Tryz.underlying9) ?_
  refine d1 (yF fa63_0) ?_
  refine d1 (yL 3 Tryz.underlying9) ?_
  refine d1 (y_call rfl rfl rfl cf66 (fun _ w _ => cmpB_any _ _ w)) ?_
  refine D_tail ?_
  refine S_buildSlice 15 15 rfl rfl rfl rfl rfl Tryz.underlying147 inf3 rfl (by decide) (by decide) rfl rfl (by decide) rfl (_) rfl ?_
  intro b15
  refine s1 (y_call rfl rfl rfl cf65 (fun _ w hM => orX_any _ _ [cmpJ b.s a.s, cmpB a.v b.v] w 2 (by decide) ⟨own_reads hM (i := 15) rfl, rfl⟩)) ?_
  refine sr 1 ?_
  refine sgo ?_
  refine tr1 hRb fun w hM => ?_
  exact ⟨by rw [orL2]; rfl, hM.below⟩
theorem SortR_any {w0 : World} {K : HL} (hK : FromK K) (A : Option Addr) (q c : Nat) (l : List Fac) (w : World) (hlen : l.length = q) (hq : q ≤ 1000000) (hM : Mem w0 ([(0, .own 63 3 (.slice A q c) q (l.flatMap Fac.enc))] ++ K) w) :
    Calls Tryz.prog 69 #[.slice A q c, .func (.func 73) #[] #[]] w fun e w' => ∃ l' : List Fac, e = .returned (.tuple #[]) ∧ l' = pdqL cmpF l ∧ Mem w0 ([(0, .own 63 3 (.slice A q c) q (l'.flatMap Fac.enc))] ++ K) w' :=
  sort_own Tryz.laysSort69 (k := 3) (enc := Fac.enc) Tryz.isAgg63 Tryz.sizeOf63 (fun _ => rfl) fac_one cmpF (swo3 cmp3_F)
    73 #[] cf73 hK 63 A q c l w hlen (by omega) (fun w' _ x y => rfacets1_any x y w') hM
set_option maxHeartbeats 3200000 in
theorem FacetsOf_any (A : Option Addr) (q c : Nat) (l : List Evt) (x : SC) (by_ : Int) (nm : List UInt8) (k0 : Nat) (w : World) (hl : SlT Evt.enc 9 w A q l) (hq : q ≤ 2000) (hev : ∀ e ∈ l, EvR w e) (hno : ∀ e ∈ l, evNo e = 0) (hok : x.Ok w) (h0 : chX x = 0) (hm : MLen w) (hk0 : k0 ≤ 2000) :
    Calls Tryz.prog 22 #[.slice A q c, x.val, .int .i64 by_, str nm, .int .i64 (k0 : Int)] w fun en w' => ∃ A' c', en = .returned (.slice A' ((facS (prsE (filI x l) by_ nm)).take k0).length c') ∧ w'.ownsRow w.heap.size 63 3 (.slice A' ((facS (prsE (filI x l) by_ nm)).take k0).length c') ((facS (prsE (filI x l) by_ nm)).take k0).length (((facS (prsE (filI x l) by_ nm)).take k0).flatMap Fac.enc) ∧ Below w.heap.size w w' := by
  have hlen := hl.len
  have hfl := fil_len x l
  have hzo := fil_ok (x := x) hno
  have hev' := fil_ok (x := x) hev
  have hzv : ∀ e ∈ filI x l, (valsE e by_ nm).length ≤ 11 := fun e he => vals_11 (hzo e he) (OkE.of (hev' e he).1)
  obtain ⟨Z, hZ⟩ : ∃ Z, filI x l = Z := ⟨_, rfl⟩
  rw [hZ] at hfl hzo hev' hzv
  rw [hZ]
  refine enter_args (args := [.slice A q c, .agg #[.int .i64 x.op, .slice x.ad x.q x.c, .int .i64 x.lo, .int .i64 x.hi, str x.nm, str x.tx], .int .i64 by_, str nm, .int .i64 (k0 : Int)]) (F := _) Tryz.func22 rfl Tryz.ntmps22 rfl rfl ?_
  intro Rb hRb hRn
  refine tx ?_
  refine S_box 6 6 rfl rfl rfl rfl rfl ?_
  intro b6
  refine S_nilSlice 10 (e := 63) (size := 3) ?_
  refine sr 1 ?_
  refine sgx ?_
  refine S_makeMap 20 20 (fun l : List UInt8 => str l) rfl rfl rfl rfl ?_
  intro b20
  refine sr 1 ?_
  refine sgs ?_
  refine tx ?_
  refine sr 1 ?_
  refine s1 (yA 6 rfl Tryz.underlying36 sz36) ?_
  refine S_callOwn 23 23 rfl rfl rfl rfl rfl rfl rfl cf62 (fun A c => .slice A (Z.length) c) 31 9 (Z.length) (Z.flatMap Evt.enc) (fun w1 hM => hZ ▸ Found_any A q c l x w1 (hl.below hM.below) hq (fun e he => (hev e he).below hM.below) (hok.lift hM.below) h0 (hm.below hM.below)) ?_
  intro A23 c23
  refine s1 (y_len_slice rfl rfl Tryz.underlying25) ?_
  refine sr 1 ?_
  refine sgo ?_
  refine T_block ?_
  refine lK2 (kf := [(13, 13), (15, 16), (25, 54)]) (kl := [(13, 13), (15, 16), (20, 20), (25, 54)]) (fun (i : Nat) (out : List Fac) => [(25, true, .int .i64 (i : Int))]) (fun (i : Nat) (out : List Fac) => [(20, .blk b20 (IsMap str (out.map entF)))]) (fun (i : Nat) (out : List Fac) => i ≤ Z.length ∧ out = facL (prsE (Z.take i) by_ nm)) (fun (i : Nat) (out : List Fac) => Z.length - i) 0 [] ?_ ?_ ?_ ?_
  · exact ⟨by omega, rfl⟩
  · exact ⟨rfl, trivial⟩
  · exact ⟨rfl, trivial⟩
  rintro i out ⟨hp1, hp2⟩
  refine tx ?_
  refine sr 1 ?_
  refine sgs ?_
  refine T_cond rfl ?_ ?_ <;> intro h26
  · try simp only [nrm] at h26
    obtain ⟨e, he⟩ : ∃ e, Z[i]? = some e := ⟨_, List.getElem?_eq_getElem (by omega)⟩
    have hez := List.mem_of_getElem? he
    obtain ⟨hlv, hwt, hat, hfq⟩ := evNo_lv (hzo e hez)
    have htk := take_snocI he
    have hv11 := hzv e hez
    refine kgs ?_
    refine T_block ?_
    refine tx ?_
    refine s1 (y_indexOwn 23 rfl rfl rfl rfl Tryz.underlying25 sz31 (fun _ => by omega)) ?_
    refine s1 (y_loadO 23 rfl rfl rfl rfl (fun _ => rfl) (fun _ => he) Tryz.underlying31 rfl sz31) ?_
    refine S_alloc 13 13 rfl rfl rfl rfl z31 ?_
    intro b13
    refine S_store 13 rfl rfl rfl rfl rfl rfl sz31 rfl rfl ?_
    refine sgx ?_
    refine s1 (yA 13 rfl Tryz.underlying31 sz31) ?_
    refine sr 2 ?_
    refine S_callOwn 32 32 rfl rfl rfl rfl rfl rfl rfl cf72 (fun A c => .slice A ((valsE e by_ nm).length) c) 9 1 ((valsE e by_ nm).length) ((valsE e by_ nm).flatMap strE) (fun w1 hM => valuesOf_any e by_ nm w1 ((hev' e hez).1.below hM.below) hlv hfq) ?_
    intro A32 c32
    refine s1 (y_len_slice rfl rfl Tryz.underlying49) ?_
    refine sr 1 ?_
    refine sgo ?_
    refine T_block ?_
    refine lK2 (kf := [(15, 16), (34, 53)]) (kl := [(15, 16), (20, 20), (34, 53)]) (fun (k : Nat) (out : List Fac) => [(34, true, .int .i64 (k : Int))]) (fun (k : Nat) (out : List Fac) => [(20, .blk b20 (IsMap str (out.map entF)))]) (fun (k : Nat) (out : List Fac) => k ≤ (valsE e by_ nm).length ∧ out = facL (prsK (Z.take i) e k by_ nm)) (fun (k : Nat) (out : List Fac) => (valsE e by_ nm).length - k) 0 out ?_ ?_ ?_ ?_
    · exact ⟨by omega, by rw [prsK_0]; exact hp2⟩
    · exact ⟨rfl, trivial⟩
    · exact ⟨rfl, trivial⟩
    rintro k out ⟨hq1, hq2⟩
    refine tx ?_
    refine sr 1 ?_
    refine sgs ?_
    refine T_cond rfl ?_ ?_ <;> intro h35
    · try simp only [nrm] at h35
      obtain ⟨v, hv⟩ : ∃ v, (valsE e by_ nm)[k]? = some v := ⟨_, List.getElem?_eq_getElem (by omega)⟩
      have hpl := prsK_len (k := k) (take_ok hzv i) hv11
      rw [List.length_take] at hpl
      have hlim := facL_le (prsK_wt (k := k) (by_ := by_) (nm := nm) (take_ok (fun a ha => (evNo_lv (hzo a ha)).2.1) i) hwt)
      have hnx := prsK_next (L := Z.take i) hv
      rw [← hq2] at hlim hnx
      obtain ⟨⟨hg1, hg2⟩, hg3, hg4⟩ := geF_le (v := v) hlim ⟨⟨Int.le_refl _, Int.natCast_nonneg _⟩, Int.le_refl _, by show (0 : Int) ≤ _; omega⟩
      have hmp := mput_F out v e.wt
      obtain ⟨g, hg⟩ : ∃ g, geF out v = g := ⟨_, rfl⟩
      rw [hg] at hg1 hg2 hg3 hg4 hmp
      refine kgs ?_
      refine T_block ?_
      refine tx ?_
      refine s1 (y_indexOwn 32 rfl rfl rfl rfl Tryz.underlying49 sz9 (fun _ => by omega)) ?_
      refine s1 (y_loadO1 32 (val := (fun l : List UInt8 => str l)) rfl rfl rfl rfl (fun _ => hv) Tryz.underlying9 rfl) ?_
      refine sr 1 ?_
      refine sgx ?_
      refine sr 2 ?_
      refine s1 (y_as (v' := .agg #[str g.v, .int .i64 g.n, .int .i64 g.s]) (by rw [← hg]; exact mget_FV out v) (y_lookup 20 (enc := fun l : List UInt8 => str l) rfl rfl rfl rfl Tryz.underlying125 Tryz.underlying9 rfl same_str z63)) ?_
      refine S_alloc 16 16 rfl rfl rfl rfl z63 ?_
      intro b16
      refine S_store 16 rfl rfl rfl rfl rfl rfl sz63 rfl rfl ?_
      refine sgr ?_
      refine sr 3 ?_
      refine s1 (yF fa63_1) ?_
      refine s1 (yL 16 Tryz.underlying3) ?_
      refine s1 (y_bin rfl rfl rfl (fun hg => b_add (by omega))) ?_
      refine s1 (yF fa63_2) ?_
      refine s1 (yL 16 Tryz.underlying3) ?_
      refine s1 (yF fa31_8) ?_
      refine s1 (yL 13 Tryz.underlying3) ?_
      refine s1 (y_bin rfl rfl rfl (fun hg => b_add (by omega))) ?_
      refine s1 (y_build (zv := .agg #[.string ⟨#[]⟩, .int .i64 0, .int .i64 0]) (pl := [(0, 1), (1, 1), (2, 1)]) (out := [_, _, _]) rfl rfl Tryz.underlying63 z63 (by kernel_rfl) rfl) ?_
      refine S_mapUpdate 20 (enc := fun l : List UInt8 => str l) rfl rfl rfl rfl rfl rfl rfl Tryz.underlying125 Tryz.underlying9 rfl same_str fits_str (hmp) ?_
      refine sgr ?_
      refine s1 (y_bin rfl rfl rfl (fun hg => b_add (by omega))) ?_
      refine sr 1 ?_
      refine S_nil (nS2 (kf := [(15, 16), (34, 53)]) (kl := [(15, 16), (20, 20), (34, 53)]) (k + 1) (addF out v e.wt) ?_ ?_ ?_ ?_)
      · omega
      · exact ⟨by omega, hnx.symm⟩
      · exact ⟨rfl, trivial⟩
      · exact ⟨rfl, trivial⟩
    try simp only [nrm] at h35
    have hpa := prsK_all (L := Z.take i) (e := e) (k := k) (by_ := by_) (nm := nm) (by omega)
    rw [← htk] at hpa
    rw [hpa] at hq2
    refine egr ?_
    refine s1 (y_bin rfl rfl rfl (fun hg => b_add (by omega))) ?_
    refine sr 1 ?_
    refine S_nil (nS2 (kf := [(13, 13), (15, 16), (25, 54)]) (kl := [(13, 13), (15, 16), (20, 20), (25, 54)]) (i + 1) out ?_ ?_ ?_ ?_)
    · omega
    · exact ⟨by omega, hq2⟩
    · exact ⟨rfl, trivial⟩
    · exact ⟨rfl, trivial⟩
  try simp only [nrm] at h26
  have hol := facL_len (prsE (Z.take i) by_ nm)
  rw [← hp2] at hol
  have hpl := prsE_len (take_ok hzv i)
  rw [List.length_take] at hpl
  have hfin : out = facL (prsE Z by_ nm) := by rw [hp2, List.take_of_length_le (by omega)]
  refine egx ?_
  refine S_nilSlice 17 (e := 63) (size := 3) ?_
  refine sr 1 ?_
  refine sgs ?_
  refine tx ?_
  refine sr 1 ?_
  refine S_range 56 20 56 (fun f : Fac => str f.v) (Fac.val) (out) (by rw [List.map_map]; rfl) rfl rfl rfl rfl rfl rfl Tryz.underlying125 ?_
  intro r56 es56 ck56
  refine sgo ?_
  refine T_block ?_
  refine lK5 (kf := [(17, 17), (19, 19), (57, 64)]) (kl := [(17, 17), (19, 19), (56, 64)]) (fun (rem : List Fac) (last : Option Fac) (acc : List Fac) (A : Option Addr) (c : Nat) => [(17, true, .slice A acc.length c)]) (fun (rem : List Fac) (last : Option Fac) (acc : List Fac) (A : Option Addr) (c : Nat) => [(56, .blk r56 (IsIt (fun f : Fac => str f.v) Fac.val b20 es56 ck56 rem last)), (17, .own 63 3 (.slice A acc.length c) acc.length (acc.flatMap Fac.enc))]) (fun (rem : List Fac) (last : Option Fac) (acc : List Fac) (A : Option Addr) (c : Nat) => out.Perm (acc ++ rem) ∧ acc.length + rem.length = out.length) (fun (rem : List Fac) (last : Option Fac) (acc : List Fac) (A : Option Addr) (c : Nat) => rem.length) out none [] none 0 ?_ ?_ ?_ ?_
  · exact ⟨List.Perm.refl _, by simp⟩
  · exact ⟨rfl, trivial⟩
  · exact ⟨rfl, rfl, trivial⟩
  rintro rem last acc A3 c3 ⟨hs1, hs2⟩
  refine tx ?_
  refine S_next 57 20 56 rfl rfl rfl rfl rfl rfl rfl ?_
  intro e57 ps57 hn57 hs57
  refine s1 (y_extract (v := .bool e57.isSome) rfl rfl (by cases e57 <;> rfl)) ?_
  refine sgs ?_
  refine T_cond rfl ?_ ?_ <;> intro h58
  · skip
    obtain ⟨p, rfl⟩ := Option.isSome_iff_exists.1 h58
    have hpm := hs57 p rfl
    refine kgo ?_
    refine T_block ?_
    refine tx ?_
    refine s1 (y_entry 20 56 rfl rfl rfl rfl) ?_
    refine s1 (y_as (v' := .agg #[str p.v, .int .i64 p.n, .int .i64 p.s]) (by exact rfl) (y_extract rfl rfl rfl)) ?_
    refine S_alloc 19 19 rfl rfl rfl rfl z63 ?_
    intro b19
    refine S_store 19 rfl rfl rfl rfl rfl rfl sz63 rfl rfl ?_
    refine sgr ?_
    refine sr 1 ?_
    refine s1 (yA 19 rfl Tryz.underlying63 sz63) ?_
    refine S_buildSlice 63 63 rfl rfl rfl rfl rfl Tryz.underlying56 inf63 rfl (by decide) (by decide) rfl rfl (by decide) rfl (_) rfl ?_
    intro b63
    obtain ⟨i64, hi64, hz64, hs64, hy64⟩ := info_parts inf63
    refine S_append 64 17 63 rfl rfl rfl rfl rfl rfl rfl rfl Tryz.underlying56 hi64 hz64 hs64 hy64 rfl (by decide) (by decide) rfl ?_ ?_ ((acc ++ [p]).length) ((acc ++ [p]).flatMap Fac.enc) ?_ ?_ ?_
    · (simp only [maxLen]; omega)
    · omega
    · rw [List.length_append]; rfl
    · rw [List.flatMap_append]; rfl
    intro A64 c64
    refine sr 1 ?_
    refine S_nil (nS5 (kf := [(17, 17), (19, 19), (57, 64)]) (kl := [(17, 17), (19, 19), (56, 64)]) ps57 (some p) (acc ++ [p]) A64 c64 ?_ ?_ ?_ ?_)
    · have := hpm.length_eq; simp at this; omega
    · have := hpm.length_eq
      simp at this
      exact ⟨hs1.trans (by rw [List.append_assoc]; exact List.Perm.append_left acc hpm), by rw [List.length_append, List.length_singleton]; omega⟩
    · exact ⟨rfl, trivial⟩
    · exact ⟨rfl, rfl, trivial⟩
  refine T_cap 17 rfl fun hcap => ?_
  have hq0 : e57 = none := by simpa using h58
  have hr0 := hn57 hq0
  refine egx ?_
  refine sr 1 ?_
  refine S_callM 66 [(0, 17)] (X := List Fac) rfl rfl rfl rfl rfl rfl rfl cf69 rfl (fun _ => .tuple #[]) (fun l => l = pdqL cmpF acc) (fun l => [(0, .own 63 3 (.slice A3 acc.length c3) acc.length (l.flatMap Fac.enc))]) (fun _ => rfl) (fun _ => rfl) (fun K1 hK1 w1 hM => SortR_any hK1 A3 acc.length c3 acc w1 rfl (by omega) hM) ?_
  intro sl hsl
  have hsll : sl.length = acc.length := by rw [hsl, (pdqL_facts (swo3 cmp3_F) acc).1.length_eq]
  refine sgx ?_
  refine sr 2 ?_
  refine s1 (y_len_slice rfl rfl Tryz.underlying56) ?_
  refine sr 1 ?_
  refine s1 (y_as (v' := .int .i64 ((min k0 acc.length : Nat) : Int)) (by congr 1; split <;> omega) (y_min rfl rfl rfl)) ?_
  refine S_shrink 17 (min k0 acc.length) rfl (Nat.min_le_right _ _) ?_
  refine s1 (y_slice (lo := 0) (hi := min k0 acc.length) rfl rfl Tryz.underlying56 sz63 (.inl ⟨rfl, rfl⟩) (.inr ⟨_, _, rfl, rfl⟩) (by omega) (Nat.min_le_right _ _) hcap) ?_
  refine sr 1 ?_
  refine sgo ?_
  refine tr1 hRb fun w hM => ?_
  rw [hr0, List.append_nil, hfin] at hs1
  have hf : facS (prsE Z by_ nm) = sl := by rw [hsl, facS, pdqF_perm hs1.symm (facL_nodup _)]
  have ht : (facS (prsE Z by_ nm)).take k0 = sl.take (min k0 acc.length) := by rw [hf, List.take_eq_take_min, hsll]
  have htl : (sl.take (min k0 acc.length)).length = min k0 acc.length := by rw [List.length_take, hsll]; omega
  rw [ht, htl]
  refine ⟨A3, c3, by rw [slice0]; rfl, ?_, hM.below⟩
  have h := hM.sat 17 _ rfl
  rw [flat_take (enc := Fac.enc) (size := 3) (fun _ => rfl)] at h
  exact h
/-! ### slices.Delete, IndexFunc -/
theorem evs_one (l : List Evt) : allOne (l.flatMap Evt.enc) = true := allOne_of fun u hu => by
  obtain ⟨a, _, ha⟩ := List.mem_flatMap.1 hu
  exact enc_one a u ha
theorem del_row {l : List Evt} {q j : Nat} (hl : l.length = q) (hj : j < q) : ((l.flatMap Evt.enc).take (j * 9) ++ (l.flatMap Evt.enc).drop ((j + 1) * 9) ++ (l.flatMap Evt.enc).drop ((q - 1) * 9)).take ((q - 1) * 9) = (l.eraseIdx j).flatMap Evt.enc := by
  rw [flat_take (enc := Evt.enc) (size := 9) (fun _ => rfl), flat_drop (enc := Evt.enc) (size := 9) (fun _ => rfl), ← List.flatMap_append, ← List.eraseIdx_eq_take_drop_succ]
  have : ((l.eraseIdx j).flatMap Evt.enc).length = (q - 1) * 9 := by rw [flat_lenN (enc := Evt.enc) (size := 9) (fun _ => rfl), List.length_eraseIdx, if_pos (by omega), hl]
  rw [← this, List.take_left]
theorem Delete_any {w0 : World} {K : HL} (hK : FromK K) (A : Option Addr) (q c j : Nat) (l : List Evt) (hl : l.length = q) (hj : j < q) (hq : q ≤ 1000000) (w : World) (hM0 : Mem w0 ([(0, .own 31 9 (.slice A q c) q (l.flatMap Evt.enc))] ++ K) w) :
    Calls Tryz.prog 13 #[.slice A q c, .int .i64 (j : Int), .int .i64 ((j + 1 : Nat) : Int)] w fun e w' => ∃ _ : Unit, e = .returned (.slice A (q - 1) c) ∧ True ∧ Mem w0 ([(0, .own 31 9 (.slice A (q - 1) c) (q - 1) ((l.eraseIdx j).flatMap Evt.enc))] ++ K) w' := by
  obtain ⟨ie, hie, hze, hse, hye⟩ := info_parts inf31
  refine enterM_args (args := [.slice A q c, .int .i64 (j : Int), .int .i64 ((j + 1 : Nat) : Int)]) (F := _) hM0 Tryz.func13 rfl Tryz.ntmps13 rfl rfl ?_
  intro Rb hRb hRn
  refine T_cap 0 rfl fun hcap => ?_
  refine tx ?_
  refine S_nilSlice 6 (e := 31) (size := 9) ?_
  refine sr 1 ?_
  refine sgx ?_
  refine sr 4 ?_
  refine s1 (y_len_slice rfl rfl Tryz.underlying25) ?_
  refine s1 (y_slice3 rfl rfl Tryz.underlying25 sz31 rfl rfl rfl (by omega) (by omega) hcap) ?_
  refine sgs ?_
  refine tx ?_
  refine sr 3 ?_
  refine sgo ?_
  refine T_cond rfl ?_ ?_ <;> intro h16
  · try simp only [nrm] at h16
    omega
  try simp only [nrm] at h16
  refine kgx ?_
  refine sr 1 ?_
  refine s1 (y_len_slice rfl rfl Tryz.underlying25) ?_
  refine sr 1 ?_
  refine sgs ?_
  refine T_drawsTail 6 (by kernel_rfl) (by kernel_rfl) ?_
  refine d1 (y_move rfl rfl) ?_
  refine d1 (y_move rfl rfl) ?_
  refine d1 (y_slice rfl rfl Tryz.underlying25 sz31 (.inl ⟨rfl, rfl⟩) (.inr ⟨_, _, rfl, rfl⟩) (by omega) (by omega) hcap) ?_
  refine d1 (y_move rfl rfl) ?_
  refine d1 (y_move rfl rfl) ?_
  refine d1 (y_slice rfl rfl Tryz.underlying25 sz31 (.inr ⟨_, _, rfl, rfl⟩) (.inl ⟨rfl, rfl⟩) (by omega) (by omega) hcap) ?_
  refine D_tail ?_
  refine S_delAppend 26 0 j rfl rfl rfl rfl rfl rfl rfl hj Tryz.underlying25 hie hse (evs_one l) ?_
  refine sr 1 ?_
  refine sgx ?_
  refine sr 2 ?_
  refine s1 (y_as (v' := .int .i64 ((q - 1 : Nat) : Int)) (by exact rfl) (y_len_slice rfl rfl Tryz.underlying25)) ?_
  refine sr 1 ?_
  refine s1 (y_sliceC (lo := q - 1) (hi := q) rfl rfl Tryz.underlying25 sz31 rfl rfl (by omega) hcap) ?_
  refine S_clearTail 0 (q - 1) rfl rfl rfl rfl rfl ?_ Tryz.underlying25 z31 rfl rfl ?_
  · omega
  refine sgx ?_
  refine sr 2 ?_
  refine sgo ?_
  refine tr1 hRb fun w hM => ?_
  exact ⟨(), rfl, trivial, hM.keep (ks := [(0, 999)]) (by repeat (first | exact kl_rest (by assumption) rfl | (apply kl_in; focus rfl))) _ ⟨by rw [← del_row hl hj]; rfl, trivial⟩⟩
theorem IndexEv_any (A : Option Addr) (q c : Nat) (l : List Evt) (g : FuncId) (cap : Array Value) (p : Evt → Bool) (w : World) (hl : SlT Evt.enc 9 w A q l) (hq : q ≤ 4611686018427387904) (hcf : ∀ args w, (callFunc g args).run Tryz.prog w = .ok (.enter g args) w)
    (hA : ∀ x ∈ l, ∀ w', Below w.heap.size w w' → Calls Tryz.prog g (#[x.val] ++ cap) w' fun e w'' => e = .returned (.bool (p x)) ∧ Below w'.heap.size w' w'') :
    Calls Tryz.prog 7 #[.slice A q c, .func (.func g) #[] cap] w fun e w' => e = .returned (.int .i64 (fndP p l 0)) ∧ Below w.heap.size w w' := by
  refine enter_args (args := [.slice A q c, .func (.func g) #[] cap]) (F := _) Tryz.func7 rfl Tryz.ntmps7 rfl rfl ?_
  intro Rb hRb hRn
  refine tx ?_
  refine sr 1 ?_
  refine sgs ?_
  refine tx ?_
  refine sr 1 ?_
  refine s1 (y_len_slice rfl rfl Tryz.underlying25) ?_
  refine sr 1 ?_
  refine sgo ?_
  refine T_block ?_
  refine lK1 (kf := [(4, 5), (8, 18)]) (kl := [(4, 5), (8, 18)]) (fun (i : Nat) => [(8, true, .int .i64 (i : Int))]) (fun (i : Nat) => []) (fun (i : Nat) => i ≤ q ∧ fndP p l 0 = fndP p (l.drop i) i) (fun (i : Nat) => q - i) 0 ?_ ?_ ?_ ?_
  · exact ⟨by omega, rfl⟩
  · exact ⟨rfl, trivial⟩
  · exact trivial
  rintro i ⟨hp1, hp2⟩
  refine tx ?_
  refine sr 1 ?_
  refine sgs ?_
  refine T_cond rfl ?_ ?_ <;> intro h9
  · try simp only [nrm] at h9
    obtain ⟨x, hx1, hx2⟩ := hl.at (i := i) (by omega)
    refine kgs ?_
    refine T_block ?_
    refine tx ?_
    refine sr 2 ?_
    refine sgx ?_
    refine sr 3 ?_
    refine s1 (y_indexAddr rfl rfl rfl Tryz.underlying25 sz31 (fun hg => hl.isSome (by omega)) (fun _ => by omega)) ?_
    refine s1 (y_loadT rfl rfl hl (fun _ => rfl) (fun _ => hx1) Tryz.underlying31 rfl sz31) ?_
    refine s1 (y_call rfl rfl rfl hcf (fun _ w hM => hA x (mem_at hx1) w hM.below)) ?_
    refine sgo ?_
    refine T_cond rfl ?_ ?_ <;> intro h16
    · skip
      refine tx ?_
      refine sr 2 ?_
      refine sgo ?_
      refine tr1 hRb fun w hM => ?_
      exact ⟨by rw [hp2, hx2, fndP, if_pos h16], hM.below⟩
    refine kgr ?_
    refine s1 (y_bin rfl rfl rfl (fun hg => b_add (by omega))) ?_
    refine sr 1 ?_
    refine S_nil (nK1 (kf := [(4, 5), (8, 18)]) (kl := [(4, 5), (8, 18)]) (i + 1) ?_ ?_ ?_ ?_)
    · omega
    · exact ⟨by omega, by rw [hp2, hx2, fndP, if_neg (by simp [h16])]⟩
    · exact ⟨rfl, trivial⟩
    · exact trivial
  try simp only [nrm] at h9
  refine egx ?_
  refine sr 1 ?_
  refine sgo ?_
  refine tr1 hRb fun w hM => ?_
  exact ⟨by rw [hp2, hl.end (by omega)]; rfl, hM.below⟩
theorem ixat1_any (e : Evt) (id : List UInt8) (b2 : Nat) (w : World) (h : CellsAt w b2 [str id]) :
    Calls Tryz.prog 8 #[e.val, ptF b2] w fun en w' => en = .returned (.bool (decide (e.id = id))) ∧ Below w.heap.size w w' := by
  refine enter_args (args := [.agg #[str e.id, .int .i64 e.at_, .int .i64 e.lv, .slice e.fa.A e.fa.q e.fa.c, .slice e.ta.A e.ta.q e.ta.c, .slice e.cr.A e.cr.q e.cr.c, str e.rel, str e.us, .int .i64 e.wt], ptF b2]) (F := _) Tryz.func8 rfl Tryz.ntmps8 rfl rfl ?_
  intro Rb hRb hRn
  refine tx ?_
  refine S_box 2 2 rfl rfl rfl rfl rfl ?_
  intro b2
  refine sr 1 ?_
  refine sgx ?_
  refine s1 (yF fa31_0) ?_
  refine s1 (yL 2 Tryz.underlying9) ?_
  refine s1 (y_load_far rfl rfl (h.1 0 _ rfl) h.2 Tryz.underlying9 rfl) ?_
  refine s1 (y_bin rfl rfl rfl (fun _ => b_eqls)) ?_
  refine sr 1 ?_
  refine sgo ?_
  refine tr1 hRb fun w hM => ?_
  exact ⟨rfl, hM.below⟩
theorem ixat_any (id : List UInt8) (A : Option Addr) (q c : Nat) (l : List Evt) (b4 : Nat) (w : World) (h : CellsAt w b4 [.slice A q c]) (hl : SlT Evt.enc 9 w A q l) (hq : q ≤ 2000) :
    Calls Tryz.prog 6 #[str id, ptF b4] w fun en w' => en = .returned (.int .i64 (fndP (fun e => decide (e.id = id)) l 0)) ∧ Below w.heap.size w w' := by
  refine enter_args (args := [str id, ptF b4]) (F := _) Tryz.func6 rfl Tryz.ntmps6 rfl rfl ?_
  intro Rb hRb hRn
  refine tx ?_
  refine S_box 2 2 rfl rfl rfl rfl rfl ?_
  intro b2
  refine sr 1 ?_
  refine sgx ?_
  refine s1 (y_load_far rfl rfl (h.1 0 _ rfl) h.2 Tryz.underlying25 rfl) ?_
  refine s1 (y_makeFunc rfl rfl rfl rfl rfl) ?_
  refine s1 (y_call rfl rfl rfl cf7 (fun _ w1 hM => IndexEv_any A q c l _ _ _ w1 (hl.below hM.below) (by omega) cf8 (fun x _ w2 hb => ixat1_any x id b2 w2 (cells_below (hM.box_cells 2 rfl) hb)))) ?_
  refine sr 1 ?_
  refine sgo ?_
  refine tr1 hRb fun w hM => ?_
  exact ⟨rfl, hM.below⟩
/-! ### listed -/
def Fac.eqC (a b : Fac) : Bool := decide (a.v = b.v) && (decide (a.n = b.n) && decide (a.s = b.s))
theorem Fac.eqC_iff (a b : Fac) : Fac.eqC a b = true ↔ a = b := by cases a; cases b; simp [Fac.eqC]
def Bn.eqC (a b : Bn) : Bool := decide (a.a = b.a) && (decide (a.n = b.n) && decide (a.s = b.s))
theorem Bn.eqC_iff (a b : Bn) : Bn.eqC a b = true ↔ a = b := by cases a; cases b; simp [Bn.eqC]
def sEqX (a b : List UInt8) : Bool := decide (a = b)
theorem sEqX_iff (a b : List UInt8) : sEqX a b = true ↔ a = b := by simp [sEqX]
theorem EqlFc_any (A B : Option Addr) (q c p d : Nat) (l m : List (Fac)) (w : World) (hl : SlT Fac.enc 3 w A q l) (hm : SlT Fac.enc 3 w B p m) (hq : q ≤ 4611686018427387904) (hp : p ≤ 4611686018427387904) :
    Calls Tryz.prog 74 #[.slice A q c, .slice B p d] w fun e w' => e = .returned (.bool (eqLB Fac.eqC l m)) ∧ Below w.heap.size w w' := by
  have hlen := hl.len
  have hmen := hm.len
  refine enter_args (args := [.slice A q c, .slice B p d]) (F := _) Tryz.func74 rfl Tryz.ntmps74 rfl rfl ?_
  intro Rb hRb hRn
  refine tx ?_
  refine sr 1 ?_
  refine sgs ?_
  refine tx ?_
  refine sr 1 ?_
  refine s1 (y_len_slice rfl rfl Tryz.underlying56) ?_
  refine sr 1 ?_
  refine s1 (y_len_slice rfl rfl Tryz.underlying56) ?_
  refine sr 1 ?_
  refine sgo ?_
  refine T_cond rfl ?_ ?_ <;> intro h10
  · try simp only [nrm] at h10
    refine tx ?_
    refine sr 1 ?_
    refine sgo ?_
    refine tr1 hRb fun w hM => ?_
    exact ⟨by rw [eqLB_len l m (by omega)], hM.below⟩
  try simp only [nrm] at h10
  refine kgs ?_
  refine tx ?_
  refine sr 1 ?_
  refine s1 (y_len_slice rfl rfl Tryz.underlying56) ?_
  refine sr 1 ?_
  refine sgo ?_
  refine T_block ?_
  refine lK1 (kf := [(4, 5), (13, 25)]) (kl := [(4, 5), (13, 25)]) (fun (i : Nat) => [(13, true, .int .i64 (i : Int))]) (fun (i : Nat) => []) (fun (i : Nat) => i ≤ q ∧ eqLB Fac.eqC l m = eqLB Fac.eqC (l.drop i) (m.drop i)) (fun (i : Nat) => q - i) 0 ?_ ?_ ?_ ?_
  · exact ⟨by omega, rfl⟩
  · exact ⟨rfl, trivial⟩
  · exact trivial
  rintro i ⟨hp1, hp2⟩
  refine tx ?_
  refine sr 1 ?_
  refine sgs ?_
  refine T_cond rfl ?_ ?_ <;> intro h14
  · try simp only [nrm] at h14
    obtain ⟨a, hx1, hx2⟩ := hl.at (i := i) (by omega)
    obtain ⟨b, hy1, hy2⟩ := hm.at (i := i) (by omega)
    refine kgs ?_
    refine T_block ?_
    refine tx ?_
    refine sr 2 ?_
    refine sgs ?_
    refine T_draws (by kernel_rfl) (by kernel_rfl) ?_
    refine d1 (y_move rfl rfl) ?_
    refine d1 (y_move rfl rfl) ?_
    refine d1 (y_indexAddr rfl rfl rfl Tryz.underlying56 sz63 (fun hg => hl.isSome (by omega)) (fun _ => by omega)) ?_
    refine d1 (y_loadT rfl rfl hl (fun _ => rfl) (fun _ => hx1) Tryz.underlying63 rfl sz63) ?_
    refine d1 (y_move rfl rfl) ?_
    refine d1 (y_move rfl rfl) ?_
    refine d1 (y_indexAddr rfl rfl rfl Tryz.underlying56 sz63 (fun hg => hm.isSome (by omega)) (fun _ => by omega)) ?_
    refine d1 (y_loadT rfl rfl hm (fun _ => rfl) (fun _ => hy1) Tryz.underlying63 rfl sz63) ?_
    refine d1 (y_as (v' := .bool (!(Fac.eqC a b))) (by simp [Fac.eqC, str]) (y_bin rfl rfl rfl (fun _ => b_neqA (rs := [_, _, _]) Tryz.underlying63 (by kernel_rfl) (by kernel_rfl) ⟨by decide, ⟨_, Tryz.underlying9, rfl, _, _, rfl, rfl, rfl⟩, by decide, ⟨_, Tryz.underlying3, rfl, _, _, rfl, rfl, rfl⟩, by decide, ⟨_, Tryz.underlying3, rfl, _, _, rfl, rfl, rfl⟩, trivial⟩))) ?_
    refine dgo ?_
    refine T_cond rfl ?_ ?_ <;> intro h24
    · skip
      have h24e : Fac.eqC a b = false := by simpa using h24
      refine tx ?_
      refine sr 1 ?_
      refine sgo ?_
      refine tr1 hRb fun w hM => ?_
      exact ⟨by rw [hp2, hx2, hy2, eqLB, h24e, Bool.false_and], hM.below⟩
    have h24e : Fac.eqC a b = true := by simpa using h24
    refine kgr ?_
    refine s1 (y_bin rfl rfl rfl (fun hg => b_add (by omega))) ?_
    refine sr 1 ?_
    refine S_nil (nK1 (kf := [(4, 5), (13, 25)]) (kl := [(4, 5), (13, 25)]) (i + 1) ?_ ?_ ?_ ?_)
    · omega
    · exact ⟨by omega, by rw [hp2, hx2, hy2, eqLB, h24e, Bool.true_and]⟩
    · exact ⟨rfl, trivial⟩
    · exact trivial
  try simp only [nrm] at h14
  refine egx ?_
  refine sr 1 ?_
  refine sgo ?_
  refine tr1 hRb fun w hM => ?_
  exact ⟨by rw [hp2, hl.end (by omega), hm.end (by omega)]; rfl, hM.below⟩
theorem listedFc_any (A B : Option Addr) (q c p d : Nat) (l m : List (Fac)) (e x : Int) (w : World) (hl : SlT Fac.enc 3 w A q l) (hm : SlT Fac.enc 3 w B p m) (hq : q ≤ 4611686018427387904) (hp : p ≤ 4611686018427387904) (he : e = x) (hz : x ≠ 0 → l = []) (h0 : x = 0 → m = l) :
    Calls Tryz.prog 23 #[.slice A q c, .int .i64 e, .slice B p d, .int .i64 x] w fun e w' => e = .returned (.bool true) ∧ Below w.heap.size w w' := by
  subst he
  refine enter_args (args := [.slice A q c, .int .i64 e, .slice B p d, .int .i64 e]) (F := _) Tryz.func23 rfl Tryz.ntmps23 rfl rfl ?_
  intro Rb hRb hRn
  refine tx ?_
  refine sr 1 ?_
  refine sgs ?_
  refine tx ?_
  refine sr 2 ?_
  refine sgo ?_
  refine T_cond rfl ?_ ?_ <;> intro h10
  · try simp only [nrm] at h10
    refine T_region ?_
    refine S_nilSlice 2 (e := 63) (size := 3) ?_
    refine sr 1 ?_
    refine sgx ?_
    refine sr 2 ?_
    refine s1 (y_call rfl rfl rfl cf74 (fun _ w hM => EqlFc_any _ _ _ _ _ _ l [] w (hl.below hM.below) (owned_T (enc := Fac.enc) hM rfl (i := 2) rfl) hq (by omega))) ?_
    refine sr 1 ?_
    refine sg rfl (y_move rfl rfl) ?_
    refine sg rfl (y_move rfl rfl) ?_
    refine sg rfl (y_bin rfl rfl rfl (fun _ => b_eql)) ?_
    refine s1 (y_and rfl rfl rfl) ?_
    refine sr 1 ?_
    refine sgo ?_
    refine tr1 hRb fun w hM => ?_
    exact ⟨by rw [hz h10]; simp [eqLB], hM.below⟩
  try simp only [nrm] at h10
  refine kgx ?_
  refine sr 2 ?_
  refine s1 (y_call rfl rfl rfl cf74 (fun _ w hM => EqlFc_any _ _ _ _ _ _ l m w (hl.below hM.below) (hm.below hM.below) hq hp)) ?_
  refine sr 1 ?_
  refine sg rfl (y_move rfl rfl) ?_
  refine sg rfl (y_move rfl rfl) ?_
  refine sg rfl (y_bin rfl rfl rfl (fun _ => b_eql)) ?_
  refine s1 (y_and rfl rfl rfl) ?_
  refine sr 1 ?_
  refine sgo ?_
  refine tr1 hRb fun w hM => ?_
  exact ⟨by rw [h0 h10, (eqLB_iff Fac.eqC_iff l l).2 rfl]; simp, hM.below⟩
theorem EqlBn_any (A B : Option Addr) (q c p d : Nat) (l m : List (Bn)) (w : World) (hl : SlT Bn.enc 3 w A q l) (hm : SlT Bn.enc 3 w B p m) (hq : q ≤ 4611686018427387904) (hp : p ≤ 4611686018427387904) :
    Calls Tryz.prog 76 #[.slice A q c, .slice B p d] w fun e w' => e = .returned (.bool (eqLB Bn.eqC l m)) ∧ Below w.heap.size w w' := by
  have hlen := hl.len
  have hmen := hm.len
  refine enter_args (args := [.slice A q c, .slice B p d]) (F := _) Tryz.func76 rfl Tryz.ntmps76 rfl rfl ?_
  intro Rb hRb hRn
  refine tx ?_
  refine sr 1 ?_
  refine sgs ?_
  refine tx ?_
  refine sr 1 ?_
  refine s1 (y_len_slice rfl rfl Tryz.underlying64) ?_
  refine sr 1 ?_
  refine s1 (y_len_slice rfl rfl Tryz.underlying64) ?_
  refine sr 1 ?_
  refine sgo ?_
  refine T_cond rfl ?_ ?_ <;> intro h10
  · try simp only [nrm] at h10
    refine tx ?_
    refine sr 1 ?_
    refine sgo ?_
    refine tr1 hRb fun w hM => ?_
    exact ⟨by rw [eqLB_len l m (by omega)], hM.below⟩
  try simp only [nrm] at h10
  refine kgs ?_
  refine tx ?_
  refine sr 1 ?_
  refine s1 (y_len_slice rfl rfl Tryz.underlying64) ?_
  refine sr 1 ?_
  refine sgo ?_
  refine T_block ?_
  refine lK1 (kf := [(4, 5), (13, 25)]) (kl := [(4, 5), (13, 25)]) (fun (i : Nat) => [(13, true, .int .i64 (i : Int))]) (fun (i : Nat) => []) (fun (i : Nat) => i ≤ q ∧ eqLB Bn.eqC l m = eqLB Bn.eqC (l.drop i) (m.drop i)) (fun (i : Nat) => q - i) 0 ?_ ?_ ?_ ?_
  · exact ⟨by omega, rfl⟩
  · exact ⟨rfl, trivial⟩
  · exact trivial
  rintro i ⟨hp1, hp2⟩
  refine tx ?_
  refine sr 1 ?_
  refine sgs ?_
  refine T_cond rfl ?_ ?_ <;> intro h14
  · try simp only [nrm] at h14
    obtain ⟨a, hx1, hx2⟩ := hl.at (i := i) (by omega)
    obtain ⟨b, hy1, hy2⟩ := hm.at (i := i) (by omega)
    refine kgs ?_
    refine T_block ?_
    refine tx ?_
    refine sr 2 ?_
    refine sgs ?_
    refine T_draws (by kernel_rfl) (by kernel_rfl) ?_
    refine d1 (y_move rfl rfl) ?_
    refine d1 (y_move rfl rfl) ?_
    refine d1 (y_indexAddr rfl rfl rfl Tryz.underlying64 sz71 (fun hg => hl.isSome (by omega)) (fun _ => by omega)) ?_
    refine d1 (y_loadT rfl rfl hl (fun _ => rfl) (fun _ => hx1) Tryz.underlying71 rfl sz71) ?_
    refine d1 (y_move rfl rfl) ?_
    refine d1 (y_move rfl rfl) ?_
    refine d1 (y_indexAddr rfl rfl rfl Tryz.underlying64 sz71 (fun hg => hm.isSome (by omega)) (fun _ => by omega)) ?_
    refine d1 (y_loadT rfl rfl hm (fun _ => rfl) (fun _ => hy1) Tryz.underlying71 rfl sz71) ?_
    refine d1 (y_as (v' := .bool (!(Bn.eqC a b))) (by simp [Bn.eqC, str]) (y_bin rfl rfl rfl (fun _ => b_neqA (rs := [_, _, _]) Tryz.underlying71 (by kernel_rfl) (by kernel_rfl) ⟨by decide, ⟨_, Tryz.underlying3, rfl, _, _, rfl, rfl, rfl⟩, by decide, ⟨_, Tryz.underlying3, rfl, _, _, rfl, rfl, rfl⟩, by decide, ⟨_, Tryz.underlying3, rfl, _, _, rfl, rfl, rfl⟩, trivial⟩))) ?_
    refine dgo ?_
    refine T_cond rfl ?_ ?_ <;> intro h24
    · skip
      have h24e : Bn.eqC a b = false := by simpa using h24
      refine tx ?_
      refine sr 1 ?_
      refine sgo ?_
      refine tr1 hRb fun w hM => ?_
      exact ⟨by rw [hp2, hx2, hy2, eqLB, h24e, Bool.false_and], hM.below⟩
    have h24e : Bn.eqC a b = true := by simpa using h24
    refine kgr ?_
    refine s1 (y_bin rfl rfl rfl (fun hg => b_add (by omega))) ?_
    refine sr 1 ?_
    refine S_nil (nK1 (kf := [(4, 5), (13, 25)]) (kl := [(4, 5), (13, 25)]) (i + 1) ?_ ?_ ?_ ?_)
    · omega
    · exact ⟨by omega, by rw [hp2, hx2, hy2, eqLB, h24e, Bool.true_and]⟩
    · exact ⟨rfl, trivial⟩
    · exact trivial
  try simp only [nrm] at h14
  refine egx ?_
  refine sr 1 ?_
  refine sgo ?_
  refine tr1 hRb fun w hM => ?_
  exact ⟨by rw [hp2, hl.end (by omega), hm.end (by omega)]; rfl, hM.below⟩
theorem listedBn_any (A B : Option Addr) (q c p d : Nat) (l m : List (Bn)) (e x : Int) (w : World) (hl : SlT Bn.enc 3 w A q l) (hm : SlT Bn.enc 3 w B p m) (hq : q ≤ 4611686018427387904) (hp : p ≤ 4611686018427387904) (he : e = x) (hz : x ≠ 0 → l = []) (h0 : x = 0 → m = l) :
    Calls Tryz.prog 27 #[.slice A q c, .int .i64 e, .slice B p d, .int .i64 x] w fun e w' => e = .returned (.bool true) ∧ Below w.heap.size w w' := by
  subst he
  refine enter_args (args := [.slice A q c, .int .i64 e, .slice B p d, .int .i64 e]) (F := _) Tryz.func27 rfl Tryz.ntmps27 rfl rfl ?_
  intro Rb hRb hRn
  refine tx ?_
  refine sr 1 ?_
  refine sgs ?_
  refine tx ?_
  refine sr 2 ?_
  refine sgo ?_
  refine T_cond rfl ?_ ?_ <;> intro h10
  · try simp only [nrm] at h10
    refine T_region ?_
    refine S_nilSlice 2 (e := 71) (size := 3) ?_
    refine sr 1 ?_
    refine sgx ?_
    refine sr 2 ?_
    refine s1 (y_call rfl rfl rfl cf76 (fun _ w hM => EqlBn_any _ _ _ _ _ _ l [] w (hl.below hM.below) (owned_T (enc := Bn.enc) hM rfl (i := 2) rfl) hq (by omega))) ?_
    refine sr 1 ?_
    refine sg rfl (y_move rfl rfl) ?_
    refine sg rfl (y_move rfl rfl) ?_
    refine sg rfl (y_bin rfl rfl rfl (fun _ => b_eql)) ?_
    refine s1 (y_and rfl rfl rfl) ?_
    refine sr 1 ?_
    refine sgo ?_
    refine tr1 hRb fun w hM => ?_
    exact ⟨by rw [hz h10]; simp [eqLB], hM.below⟩
  try simp only [nrm] at h10
  refine kgx ?_
  refine sr 2 ?_
  refine s1 (y_call rfl rfl rfl cf76 (fun _ w hM => EqlBn_any _ _ _ _ _ _ l m w (hl.below hM.below) (hm.below hM.below) hq hp)) ?_
  refine sr 1 ?_
  refine sg rfl (y_move rfl rfl) ?_
  refine sg rfl (y_move rfl rfl) ?_
  refine sg rfl (y_bin rfl rfl rfl (fun _ => b_eql)) ?_
  refine s1 (y_and rfl rfl rfl) ?_
  refine sr 1 ?_
  refine sgo ?_
  refine tr1 hRb fun w hM => ?_
  exact ⟨by rw [h0 h10, (eqLB_iff Bn.eqC_iff l l).2 rfl]; simp, hM.below⟩
theorem EqlSt_any (A B : Option Addr) (q c p d : Nat) (l m : List (List UInt8)) (w : World) (hl : SlT strE 1 w A q l) (hm : SlT strE 1 w B p m) (hq : q ≤ 4611686018427387904) (hp : p ≤ 4611686018427387904) :
    Calls Tryz.prog 34 #[.slice A q c, .slice B p d] w fun e w' => e = .returned (.bool (eqLB sEqX l m)) ∧ Below w.heap.size w w' := by
  have hlen := hl.len
  have hmen := hm.len
  refine enter_args (args := [.slice A q c, .slice B p d]) (F := _) Tryz.func34 rfl Tryz.ntmps34 rfl rfl ?_
  intro Rb hRb hRn
  refine tx ?_
  refine sr 1 ?_
  refine sgs ?_
  refine tx ?_
  refine sr 1 ?_
  refine s1 (y_len_slice rfl rfl Tryz.underlying49) ?_
  refine sr 1 ?_
  refine s1 (y_len_slice rfl rfl Tryz.underlying49) ?_
  refine sr 1 ?_
  refine sgo ?_
  refine T_cond rfl ?_ ?_ <;> intro h10
  · try simp only [nrm] at h10
    refine tx ?_
    refine sr 1 ?_
    refine sgo ?_
    refine tr1 hRb fun w hM => ?_
    exact ⟨by rw [eqLB_len l m (by omega)], hM.below⟩
  try simp only [nrm] at h10
  refine kgs ?_
  refine tx ?_
  refine sr 1 ?_
  refine s1 (y_len_slice rfl rfl Tryz.underlying49) ?_
  refine sr 1 ?_
  refine sgo ?_
  refine T_block ?_
  refine lK1 (kf := [(4, 5), (13, 25)]) (kl := [(4, 5), (13, 25)]) (fun (i : Nat) => [(13, true, .int .i64 (i : Int))]) (fun (i : Nat) => []) (fun (i : Nat) => i ≤ q ∧ eqLB sEqX l m = eqLB sEqX (l.drop i) (m.drop i)) (fun (i : Nat) => q - i) 0 ?_ ?_ ?_ ?_
  · exact ⟨by omega, rfl⟩
  · exact ⟨rfl, trivial⟩
  · exact trivial
  rintro i ⟨hp1, hp2⟩
  refine tx ?_
  refine sr 1 ?_
  refine sgs ?_
  refine T_cond rfl ?_ ?_ <;> intro h14
  · try simp only [nrm] at h14
    obtain ⟨a, hx1, hx2⟩ := hl.at (i := i) (by omega)
    obtain ⟨b, hy1, hy2⟩ := hm.at (i := i) (by omega)
    refine kgs ?_
    refine T_block ?_
    refine tx ?_
    refine sr 2 ?_
    refine sgs ?_
    refine T_draws (by kernel_rfl) (by kernel_rfl) ?_
    refine d1 (y_move rfl rfl) ?_
    refine d1 (y_move rfl rfl) ?_
    refine d1 (y_indexAddr rfl rfl rfl Tryz.underlying49 sz9 (fun hg => hl.isSome (by omega)) (fun _ => by omega)) ?_
    refine d1 (y_loadT1 (val := (fun l : List UInt8 => str l)) rfl rfl hl (fun _ => hx1) Tryz.underlying9 rfl) ?_
    refine d1 (y_move rfl rfl) ?_
    refine d1 (y_move rfl rfl) ?_
    refine d1 (y_indexAddr rfl rfl rfl Tryz.underlying49 sz9 (fun hg => hm.isSome (by omega)) (fun _ => by omega)) ?_
    refine d1 (y_loadT1 (val := (fun l : List UInt8 => str l)) rfl rfl hm (fun _ => hy1) Tryz.underlying9 rfl) ?_
    refine d1 (y_as (v' := .bool (!(sEqX a b))) (by rw [show (decide (a = b)) = sEqX a b from rfl]) (y_bin rfl rfl rfl (fun _ => b_neqs))) ?_
    refine dgo ?_
    refine T_cond rfl ?_ ?_ <;> intro h24
    · skip
      have h24e : sEqX a b = false := by simpa using h24
      refine tx ?_
      refine sr 1 ?_
      refine sgo ?_
      refine tr1 hRb fun w hM => ?_
      exact ⟨by rw [hp2, hx2, hy2, eqLB, h24e, Bool.false_and], hM.below⟩
    have h24e : sEqX a b = true := by simpa using h24
    refine kgr ?_
    refine s1 (y_bin rfl rfl rfl (fun hg => b_add (by omega))) ?_
    refine sr 1 ?_
    refine S_nil (nK1 (kf := [(4, 5), (13, 25)]) (kl := [(4, 5), (13, 25)]) (i + 1) ?_ ?_ ?_ ?_)
    · omega
    · exact ⟨by omega, by rw [hp2, hx2, hy2, eqLB, h24e, Bool.true_and]⟩
    · exact ⟨rfl, trivial⟩
    · exact trivial
  try simp only [nrm] at h14
  refine egx ?_
  refine sr 1 ?_
  refine sgo ?_
  refine tr1 hRb fun w hM => ?_
  exact ⟨by rw [hp2, hl.end (by omega), hm.end (by omega)]; rfl, hM.below⟩
theorem listedSt_any (A B : Option Addr) (q c p d : Nat) (l m : List (List UInt8)) (e x : Int) (w : World) (hl : SlT strE 1 w A q l) (hm : SlT strE 1 w B p m) (hq : q ≤ 4611686018427387904) (hp : p ≤ 4611686018427387904) (he : e = x) (hz : x ≠ 0 → l = []) (h0 : x = 0 → m = l) :
    Calls Tryz.prog 19 #[.slice A q c, .int .i64 e, .slice B p d, .int .i64 x] w fun e w' => e = .returned (.bool true) ∧ Below w.heap.size w w' := by
  subst he
  refine enter_args (args := [.slice A q c, .int .i64 e, .slice B p d, .int .i64 e]) (F := _) Tryz.func19 rfl Tryz.ntmps19 rfl rfl ?_
  intro Rb hRb hRn
  refine tx ?_
  refine sr 1 ?_
  refine sgs ?_
  refine tx ?_
  refine sr 2 ?_
  refine sgo ?_
  refine T_cond rfl ?_ ?_ <;> intro h10
  · try simp only [nrm] at h10
    refine T_region ?_
    refine S_nilSlice 2 (e := 9) (size := 1) ?_
    refine sr 1 ?_
    refine sgx ?_
    refine sr 2 ?_
    refine s1 (y_call rfl rfl rfl cf34 (fun _ w hM => EqlSt_any _ _ _ _ _ _ l [] w (hl.below hM.below) (owned_T (enc := strE) hM rfl (i := 2) rfl) hq (by omega))) ?_
    refine sr 1 ?_
    refine sg rfl (y_move rfl rfl) ?_
    refine sg rfl (y_move rfl rfl) ?_
    refine sg rfl (y_bin rfl rfl rfl (fun _ => b_eql)) ?_
    refine s1 (y_and rfl rfl rfl) ?_
    refine sr 1 ?_
    refine sgo ?_
    refine tr1 hRb fun w hM => ?_
    exact ⟨by rw [hz h10]; simp [eqLB], hM.below⟩
  try simp only [nrm] at h10
  refine kgx ?_
  refine sr 2 ?_
  refine s1 (y_call rfl rfl rfl cf34 (fun _ w hM => EqlSt_any _ _ _ _ _ _ l m w (hl.below hM.below) (hm.below hM.below) hq hp)) ?_
  refine sr 1 ?_
  refine sg rfl (y_move rfl rfl) ?_
  refine sg rfl (y_move rfl rfl) ?_
  refine sg rfl (y_bin rfl rfl rfl (fun _ => b_eql)) ?_
  refine s1 (y_and rfl rfl rfl) ?_
  refine sr 1 ?_
  refine sgo ?_
  refine tr1 hRb fun w hM => ?_
  exact ⟨by rw [h0 h10, (eqLB_iff sEqX_iff l l).2 rfl]; simp, hM.below⟩
end Go.Proofs.YtekbcbjimajnfaaGreatDoor
end
section
namespace Go.Proofs.YtekbcbjimajnfaaGreatDoor
set_option linter.unusedSimpArgs false
set_option linter.unusedVariables false
set_option maxRecDepth 20000
open Go.RowKit Go.Eng
/-- a call of a script -/
structure Cal where
  k : Int
  e : Evt
  id : List UInt8
  nm : List UInt8
  x : SC
  ab : Int
  dn : Bool
  af : Int
  am : Int
  by_ : Int
  mo : Int
  fr : Int
  st : Int
  mn : Int
def Cal.enc (y : Cal) : List Value := [.int .i64 y.k, str y.e.id, .int .i64 y.e.at_, .int .i64 y.e.lv, .slice y.e.fa.A y.e.fa.q y.e.fa.c, .slice y.e.ta.A y.e.ta.q y.e.ta.c, .slice y.e.cr.A y.e.cr.q y.e.cr.c, str y.e.rel, str y.e.us, .int .i64 y.e.wt, str y.id, str y.nm, .int .i64 y.x.op, .slice y.x.ad y.x.q y.x.c, .int .i64 y.x.lo, .int .i64 y.x.hi, str y.x.nm, str y.x.tx, .int .i64 y.ab, .bool y.dn, .int .i64 y.af, .int .i64 y.am, .int .i64 y.by_, .int .i64 y.mo, .int .i64 y.fr, .int .i64 y.st, .int .i64 y.mn]
def CalOk (w : World) (y : Cal) : Prop := y.e.Ok w ∧ y.x.Ok w ∧ cntP y.x.says ≤ 1000000000000
/-- where an id stands -/
def FndD (l : List Evt) (k : List UInt8) (fi : Int) : Prop := (hasI l k = false ∧ fi = -1) ∨ ∃ j : Nat, hasI l k = true ∧ fi = (j : Int) ∧ j < l.length ∧ (∃ e, l[j]? = some e ∧ getI l k = some e ∧ e.id = k) ∧ delI l k = l.eraseIdx j ∧ ∀ e : Evt, e.id = k → putI l e = l.set j e
theorem fnd_D (k : List UInt8) (l : List Evt) : FndD l k (fndP (fun e => decide (e.id = k)) l 0) := by
  rcases fnd_ix (k := k) l 0 with h | ⟨j, h1, h2, h3⟩
  · exact .inl h
  · rw [Nat.zero_add] at h2
    exact .inr ⟨j, h1, h2, h3⟩
theorem FndD.neg {l : List Evt} {k : List UInt8} {fi : Int} (h : FndD l k fi) (hf : fi < 0) : hasI l k = false := by
  rcases h with h | ⟨j, _, h2, _⟩
  · exact h.1
  · omega
theorem FndD.pos {l : List Evt} {k : List UInt8} {fi : Int} (h : FndD l k fi) (hf : ¬ fi < 0) : ∃ j : Nat, hasI l k = true ∧ fi = (j : Int) ∧ j < l.length ∧ (∃ e, l[j]? = some e ∧ getI l k = some e ∧ e.id = k) ∧ delI l k = l.eraseIdx j ∧ ∀ e : Evt, e.id = k → putI l e = l.set j e := by
  rcases h with h | h
  · omega
  · exact h
theorem put_full {m l : List Evt} {e : Evt} {fi : Int} (hE : EqC m l) (hD : FndD l e.id fi) (h : ((decide (evNo e = 0) && decide (fi < 0)) && decide ((2000 : Int) ≤ (l.length : Nat))) = true) : putNo m e = 12 := by
  simp only [Bool.and_eq_true, decide_eq_true_eq] at h
  rw [putNo, if_neg (by simpa using h.1.1), if_pos ⟨by rw [hE.has]; exact hD.neg h.1.2, by rw [hE.len]; omega⟩]
theorem put_free {m l : List Evt} {e : Evt} {fi : Int} (hE : EqC m l) (hD : FndD l e.id fi) (h : ((decide (evNo e = 0) && decide (fi < 0)) && decide ((2000 : Int) ≤ (l.length : Nat))) = false) : putNo m e = evNo e ∧ (evNo e = 0 → fi < 0 → l.length < 2000) := by
  simp only [Bool.and_eq_false_iff, decide_eq_false_iff_not] at h
  have h3 : evNo e = 0 → fi < 0 → l.length < 2000 := fun h1 h2 => by omega
  refine ⟨?_, h3⟩
  by_cases h0 : evNo e = 0
  · rw [putNo, if_neg (by simpa using h0), if_neg, h0]
    rintro ⟨h1, h2⟩
    rw [hE.has] at h1
    rw [hE.len] at h2
    rcases hD with hD | ⟨j, hj, _⟩
    · have := h3 h0 (by omega); omega
    · rw [h1] at hj; cases hj
  · rw [putNo, if_pos h0]
theorem getI_can (k : List UInt8) : ∀ m : List Evt, (getI m k).map can = getI (m.map can) k
  | [] => rfl
  | a :: r => by
    rw [getI, List.map_cons, getI]
    show _ = if k = a.id then _ else _
    split
    · rfl
    · exact getI_can k r
theorem get_same {m l : List Evt} {k : List UInt8} {e z : Evt} (hE : EqC m l) (h : getI l k = some e) (hz : ContE z (geI m k)) : ContE z e := by
  have h1 : (getI m k).map can = some (can e) := by rw [getI_can, hE, ← getI_can, h]; rfl
  obtain ⟨a, ha, h2⟩ := Option.map_eq_some_iff.1 h1
  rw [geI, ha] at hz
  exact cont_can ((can_of hz).trans h2)
theorem get_none {m l : List Evt} {k : List UInt8} (hE : EqC m l) (h : hasI l k = false) : geI m k = evZM := by
  rw [← hE.has, ← getI_has] at h
  rw [geI]
  cases hg : getI m k with
  | none => rfl
  | some a => rw [hg] at h; cases h
theorem ask_rng {x : SC} {ab af am : Int} (h : askNo x ab af am = 0) : condNo x = 0 ∧ (0 ≤ af ∧ af ≤ 2000) ∧ 1 ≤ am ∧ am ≤ 2000 := by
  unfold askNo at h
  split at h
  · exact absurd h ‹_›
  split at h
  · cases h
  split at h
  · cases h
  rename_i h1 _ h2
  simp only [outI, Bool.or_eq_true, decide_eq_true_eq, not_or] at h2
  exact ⟨by simpa using h1, by omega, by omega⟩
theorem fac_rng {x : SC} {by_ mo : Int} {nm : List UInt8} (h : facNo x by_ nm mo = 0) : condNo x = 0 ∧ 1 ≤ mo ∧ mo ≤ 2000 := by
  unfold facNo at h
  split at h
  · exact absurd h ‹_›
  split at h
  · cases h
  split at h
  · cases h
  split at h
  · cases h
  split at h
  · cases h
  rename_i h1 _ _ _ h2
  simp only [outI, Bool.or_eq_true, decide_eq_true_eq, not_or] at h2
  exact ⟨by simpa using h1, by omega⟩
theorem bin_rng {x : SC} {fr st mn : Int} (h : binNo x fr st mn = 0) : condNo x = 0 ∧ (0 ≤ fr ∧ fr ≤ 3155759999) ∧ (1 ≤ st ∧ st ≤ 31622400) ∧ 1 ≤ mn ∧ mn ≤ 400 := by
  unfold binNo at h
  split at h
  · exact absurd h ‹_›
  split at h
  · cases h
  rename_i h1 h2
  simp only [outI, Bool.or_eq_true, decide_eq_true_eq, not_or] at h2
  exact ⟨by simpa using h1, by omega, by omega, by omega⟩
theorem trn_rng {x : SC} {fr st : Int} (h : trnNo x fr st = 0) : condNo x = 0 ∧ (0 ≤ fr ∧ fr ≤ 3155759999) ∧ 1 ≤ st ∧ st ≤ 31622400 := by
  unfold trnNo at h
  split at h
  · exact absurd h ‹_›
  split at h
  · cases h
  rename_i h1 h2
  simp only [outI, Bool.or_eq_true, decide_eq_true_eq, not_or] at h2
  exact ⟨by simpa using h1, by omega, by omega⟩
theorem fil_same {m l : List Evt} (hE : EqC m l) (x : SC) : EqC (filI x m) (filI x l) := hE.filt _ fun e => hoX_can e x
theorem ask_ids {x : SC} {ab : Int} {dn : Bool} {f0 m0 : Nat} {m l : List Evt} (hE : EqC m l) (hn : (idsI m).Nodup) (h : askNo x ab f0 m0 = 0) : idsI (((askL x ab dn l).drop f0).take m0) = askIds x ab dn f0 m0 m := by
  have h1 := (ask_same (x := x) (by_ := ab) (dn := dn) hE hn).ids
  rw [askIds, if_pos h]
  show ((((askL x ab dn l).drop f0).take m0).map _) = ((((askL x ab dn m).drop f0).take m0).map _)
  rw [List.map_take, List.map_drop, List.map_take, List.map_drop]
  exact congrArg (fun r => (r.drop f0).take m0) h1.symm
theorem askIds_len (x : SC) (ab : Int) (dn : Bool) (af am : Int) (m : List Evt) : (askIds x ab dn af am m).length ≤ m.length := by
  unfold askIds
  split
  · have h1 := (ask_facts x ab dn m).1.length_eq
    have h2 := fil_len x m
    rw [List.length_map, List.length_take, List.length_drop]; omega
  · exact Nat.zero_le _
theorem facR_len (x : SC) (by_ : Int) (nm : List UInt8) (mo : Int) (m : List Evt) : (facR x by_ nm mo m).length ≤ mo.toNat := by
  unfold facR
  split
  · rw [List.length_take]; omega
  · exact Nat.zero_le _
theorem binR_len (x : SC) (fr st mn : Int) (m : List Evt) : (binR x fr st mn m).length ≤ mn.toNat := by
  unfold binR
  split
  · rw [binsL_len]; omega
  · exact Nat.zero_le _
theorem fac_same {x : SC} {by_ : Int} {nm : List UInt8} {k0 : Nat} {m l : List Evt} (hE : EqC m l) (h : facNo x by_ nm k0 = 0) : (facS (prsE (filI x l) by_ nm)).take k0 = facR x by_ nm k0 m := by
  rw [facR, if_pos h, prsE_can (fil_same hE x)]; rfl
theorem bin_same {x : SC} {fr st : Int} {n0 : Nat} {m l : List Evt} (hE : EqC m l) (h : binNo x fr st n0 = 0) : binsL (filI x l) fr st n0 = binR x fr st n0 m := by
  rw [binR, if_pos h, binsL_can (fil_same hE x)]; rfl
theorem NewIndex_any {w0 : World} {K : HL} (hK : FromK K) (w : World) (hM0 : Mem w0 ([] ++ K) w) :
    Calls Tryz.prog 5 #[] w fun en w' => ∃ z : Nat × Nat, en = .returned (.pointer (some ⟨z.1, 0, none⟩)) ∧ True ∧ Mem w0 ([(3, ixBox z.1 z.2), (1, ixMap z.2 [])] ++ K) w' := by
  refine enterM_args (args := []) (F := _) hM0 Tryz.func5 rfl Tryz.ntmps5 rfl rfl ?_
  intro Rb hRb hRn
  refine tx ?_
  refine sr 1 ?_
  refine sgx ?_
  refine S_makeMap 1 1 (fun l : List UInt8 => str l) rfl rfl rfl rfl ?_
  intro b1
  refine s1 (y_build (zv := .agg #[.map none]) (pl := [(0, 1)]) (out := [_]) rfl rfl Tryz.underlying89 z89 (by kernel_rfl) rfl) ?_
  refine S_box 3 3 rfl rfl rfl rfl rfl ?_
  intro b3
  refine sr 1 ?_
  refine sgo ?_
  refine tr1 hRb fun w hM => ?_
  exact ⟨(b3, b1), rfl, trivial, hM.keep (ks := [(0, 999)]) (by repeat (first | exact kl_rest (by assumption) rfl | (apply kl_in; focus rfl))) _ ⟨rfl, rfl, trivial⟩⟩
end Go.Proofs.YtekbcbjimajnfaaGreatDoor
end
section
namespace Go.Proofs.YtekbcbjimajnfaaGreatDoor
set_option linter.unusedSimpArgs false
set_option linter.unusedVariables false
set_option maxRecDepth 20000
open Go.RowKit Go.Eng
set_option maxHeartbeats 8000000 in
theorem FindIndexes_any (A : Option Addr) (q c : Nat) (cs : List Cal) (w : World) (hcl : SlT Cal.enc 27 w A q cs) (hq : q ≤ 4611686018427387904) (hok : ∀ y ∈ cs, CalOk w y) (hm : MLen w) :
    Calls Tryz.prog 3 #[.slice A q c] w fun en w' => en = .returned (.bool true) ∧ Below w.heap.size w w' := by
  have hclen := hcl.len
  refine enter_args (args := [.slice A q c]) (F := _) Tryz.func3 rfl Tryz.ntmps3 rfl rfl ?_
  intro Rb hRb hRn
  refine tx ?_
  refine sr 1 ?_
  refine sgx ?_
  refine S_callN 39 [] [(3, 901), (1, 902)] (X := Nat × Nat) rfl rfl rfl rfl rfl rfl rfl cf5 rfl (fun z => .pointer (some ⟨z.1, 0, none⟩)) (fun _ => True) (fun z => [(3, ixBox z.1 z.2), (1, ixMap z.2 [])]) (fun _ => rfl) (fun _ => rfl) (fun K1 hK1 w1 hM => NewIndex_any hK1 w1 hM) ?_
  rintro ⟨b, bm⟩ _
  refine sr 1 ?_
  refine sgx ?_
  refine S_nilSlice 920 (e := 31) (size := 9) ?_
  refine S_many0 950 ?_
  refine S_many0 951 ?_
  refine S_alloc 4 4 rfl rfl rfl rfl z25 ?_
  intro b4
  refine sgx ?_
  refine s1 (y_makeFunc rfl rfl rfl rfl rfl) ?_
  refine sr 1 ?_
  refine sgs ?_
  refine tx ?_
  refine sr 1 ?_
  refine s1 (y_len_slice rfl rfl Tryz.underlying22) ?_
  refine sr 1 ?_
  refine sgo ?_
  refine T_block ?_
  refine lK7 (kf := [(2, 2), (7, 38), (43, 314)]) (kl := [(2, 2), (4, 4), (7, 38), (43, 314), (901, 902), (920, 920), (950, 951)]) (fun (i : Nat) (m : List Evt) (rs : List Row) (l : List Evt) (r2 : List Row) (A2 : Option Addr) (c2 : Nat) => [(43, true, .int .i64 (i : Int))]) (fun (i : Nat) (m : List Evt) (rs : List Row) (l : List Evt) (r2 : List Row) (A2 : Option Addr) (c2 : Nat) => [(901, ixBox b bm), (902, ixMap bm m), (950, .many rs), (4, .blk b4 (IsBox [.slice A2 l.length c2] 25)), (920, .own 31 9 (.slice A2 l.length c2) l.length (l.flatMap Evt.enc)), (951, .many r2)]) (fun (i : Nat) (m : List Evt) (rs : List Row) (l : List Evt) (r2 : List Row) (A2 : Option Addr) (c2 : Nat) => i ≤ q ∧ IxOk w rs m ∧ IxOk w r2 l ∧ EqC m l) (fun (i : Nat) (m : List Evt) (rs : List Row) (l : List Evt) (r2 : List Row) (A2 : Option Addr) (c2 : Nat) => q - i) 0 [] [] [] [] none 0 ?_ ?_ ?_ ?_
  · exact ⟨by omega, ⟨(fun _ h => by cases h), List.nodup_nil, Nat.zero_le _⟩, ⟨(fun _ h => by cases h), List.nodup_nil, Nat.zero_le _⟩, rfl⟩
  · exact ⟨rfl, trivial⟩
  · exact ⟨rfl, rfl, rfl, rfl, rfl, rfl, trivial⟩
  rintro i m rs l r2 A2 c2 ⟨hi1, hix, hil, hE⟩
  refine tx ?_
  refine sr 1 ?_
  refine sgs ?_
  refine T_cond rfl ?_ ?_ <;> intro h44
  · try simp only [nrm] at h44
    obtain ⟨y, hx1, hx2⟩ := hcl.at (i := i) (by omega)
    obtain ⟨hxe, hxc, hxb⟩ := hok y (mem_at hx1)
    obtain ⟨k, e, id, nm, x, ab, dn, af, am, by_, mo, fr, st, mn⟩ := y
    have hxe : e.Ok w := hxe
    have hxc : x.Ok w := hxc
    have hxb : cntP x.says ≤ 1000000000000 := hxb
    have hoe := OkE.of hxe
    have hll := hil.le
    have hlm := hix.le
    refine kgs ?_
    refine T_block ?_
    refine tx ?_
    refine s1 (y_indexAddr rfl rfl rfl Tryz.underlying22 sz40 (fun hg => hcl.isSome (by omega)) (fun _ => by omega)) ?_
    refine s1 (y_as (v' := .agg #[.int .i64 k, str e.id, .int .i64 e.at_, .int .i64 e.lv, .slice e.fa.A e.fa.q e.fa.c, .slice e.ta.A e.ta.q e.ta.c, .slice e.cr.A e.cr.q e.cr.c, str e.rel, str e.us, .int .i64 e.wt, str id, str nm, .int .i64 x.op, .slice x.ad x.q x.c, .int .i64 x.lo, .int .i64 x.hi, str x.nm, str x.tx, .int .i64 ab, .bool dn, .int .i64 af, .int .i64 am, .int .i64 by_, .int .i64 mo, .int .i64 fr, .int .i64 st, .int .i64 mn]) (by exact rfl) (y_loadT rfl rfl hcl (fun _ => rfl) (fun _ => hx1) Tryz.underlying40 rfl sz40)) ?_
    refine S_alloc 7 7 rfl rfl rfl rfl z40 ?_
    intro b7
    refine S_store 7 rfl rfl rfl rfl rfl rfl sz40 rfl rfl ?_
    refine sgx ?_
    refine s1 (yF fa40_4) ?_
    refine s1 (yF fa38_0) ?_
    refine s1 (y_loadSub 7 12 6 (ds := [.int .i64 x.op, .slice x.ad x.q x.c, .int .i64 x.lo, .int .i64 x.hi, str x.nm, str x.tx]) rfl rfl rfl rfl Tryz.underlying36 rfl sz36) ?_
    refine S_alloc 8 8 rfl rfl rfl rfl z36 ?_
    intro b8
    refine S_store 8 rfl rfl rfl rfl rfl rfl sz36 rfl rfl ?_
    refine sgs ?_
    refine tx ?_
    refine s1 (yF fa40_0) ?_
    refine s1 (yL 7 Tryz.underlying3) ?_
    refine sgo ?_
    refine T_block ?_
    refine tx ?_
    refine sr 2 ?_
    refine sgo ?_
    refine T_cond rfl ?_ ?_ <;> intro h101
    · skip
      have hfi := fnd_D e.id l
      obtain ⟨fi, hfe⟩ : ∃ fi, fndP (fun a => decide (a.id = e.id)) l 0 = fi := ⟨_, rfl⟩
      rw [hfe] at hfi
      refine tx ?_
      refine sr 1 ?_
      refine s1 (yF fa40_1) ?_
      refine s1 (yF fa31_0) ?_
      refine s1 (yL 7 Tryz.underlying9) ?_
      refine s1 (y_as (v' := .int .i64 fi) (by rw [hfe]) (y_call rfl rfl rfl cf6 (fun _ w1 hM => ixat_any e.id A2 l.length c2 l b4 w1 (hM.box_cells 4 rfl) (owned_T (enc := Evt.enc) hM rfl (i := 920) rfl) (by omega)))) ?_
      refine sr 1 ?_
      refine sgx ?_
      refine s1 (yF fa40_1) ?_
      refine s1 (y_loadSub 7 1 9 (ds := [str e.id, .int .i64 e.at_, .int .i64 e.lv, .slice e.fa.A e.fa.q e.fa.c, .slice e.ta.A e.ta.q e.ta.c, .slice e.cr.A e.cr.q e.cr.c, str e.rel, str e.us, .int .i64 e.wt]) rfl rfl rfl rfl Tryz.underlying31 rfl sz31) ?_
      refine s1 (y_call rfl rfl rfl cf9 (fun _ w1 hM => EventFault_any e w1 (hxe.below hM.below))) ?_
      refine sr 1 ?_
      refine sgs ?_
      refine tx ?_
      refine sr 3 ?_
      refine sg rfl (y_move rfl rfl) ?_
      refine sg rfl (y_bin rfl rfl rfl (fun _ => b_lss)) ?_
      refine s1 (y_and rfl rfl rfl) ?_
      refine sr 1 ?_
      refine sg rfl (yL 4 Tryz.underlying25) ?_
      refine sg rfl (y_len_slice rfl rfl Tryz.underlying25) ?_
      refine sg rfl (y_bin rfl rfl rfl (fun _ => b_geq)) ?_
      refine s1 (y_and rfl rfl rfl) ?_
      refine sgo ?_
      refine T_cond rfl ?_ ?_ <;> intro h121
      · skip
        have hno := put_full hE hfi h121
        refine T_region ?_
        refine sr 1 ?_
        refine sgs ?_
        refine tx ?_
        refine sr 1 ?_
        refine s1 (yF fa40_1) ?_
        refine s1 (y_loadSub 7 1 9 (ds := [str e.id, .int .i64 e.at_, .int .i64 e.lv, .slice e.fa.A e.fa.q e.fa.c, .slice e.ta.A e.ta.q e.ta.c, .slice e.cr.A e.cr.q e.cr.c, str e.rel, str e.us, .int .i64 e.wt]) rfl rfl rfl rfl Tryz.underlying31 rfl sz31) ?_
        refine S_callM 125 [(901, 901), (902, 902), (950, 950)] (X := IxR) rfl rfl rfl rfl rfl rfl rfl cf10 rfl (fun z => .int .i64 z.no) (fun z => PutP w m e z) (fun z => [(901, ixBox b bm), (902, ixMap bm z.m), (950, .many z.rs)]) (fun _ => rfl) (fun _ => rfl) (fun K1 hK1 w1 hM => Put_any hK1 b bm m rs e w1 hix hxe hM) ?_
        rintro z ⟨hz1, hz2, hz3, hz4⟩
        refine sr 1 ?_
        refine s1 (y_as (v' := .bool false) (by rw [hz1, hno]; simp) (y_bin rfl rfl rfl (fun _ => b_neq))) ?_
        refine sgo ?_
        refine T_cond rfl ?_ ?_ <;> intro h127
        · skip
          cases h127
        refine kgx ?_
        refine sr 3 ?_
        refine sg rfl (y_move rfl rfl) ?_
        refine sg rfl (y_bin rfl rfl rfl (fun _ => b_geq)) ?_
        refine s1 (y_and rfl rfl rfl) ?_
        refine sgo ?_
        refine T_cond rfl ?_ ?_ <;> intro h133
        · skip
          simp at h133
        refine tx ?_
        refine sr 2 ?_
        refine sgo ?_
        refine T_cond rfl ?_ ?_ <;> intro h141
        · skip
          simp at h141
        have hz3 := hz3 (by rw [hz1, hno]; decide)
        have hEn : EqC z.m l := by rw [hz3]; exact hE
        refine kgs ?_
        refine T_perm [0, 2, 3, 1, 4] [true, false, true, true, true] [0, 1, 0, 4, 15] [(2, [4])] (by kernel_rfl) (by kernel_rfl) (by kernel_rfl) rfl (by kernel_rfl) ?_
        refine Rf_ 0 309 rfl rfl rfl rfl rfl _ trivial (Y.z (y_move rfl rfl) rfl) ?_
        refine Rf_ 2 311 rfl rfl rfl rfl rfl _ ⟨rfl, trivial⟩ (Y.z (yL 4 Tryz.underlying25) rfl) ?_
        refine Rf_ 3 312 rfl rfl rfl rfl rfl _ trivial (Z.of (z_len rfl rfl Tryz.underlying25)) ?_
        refine R_chain 1 rfl rfl ?_
        refine S_callM 310 [(901, 901), (902, 902)] (X := Unit) rfl rfl rfl rfl rfl rfl rfl cf31 rfl (fun _ => .int .i64 ((z.m).length : Nat)) (fun _ => True) (fun _ => [(901, ixBox b bm), (902, ixMap bm (z.m))]) (fun _ => rfl) (fun _ => rfl) (fun K1 hK1 w1 hM => Size_any hK1 b bm (z.m) w1 hM) ?_
        intro _ _
        refine R_next ⟨.inr ⟨rfl, trivial⟩, trivial⟩ ?_
        refine Rf_ 4 313 rfl rfl rfl rfl rfl _ trivial (Y.z (y_as (v' := .bool false) (by rw [hEn.len]; simp) (y_bin rfl rfl rfl (fun _ => b_neq))) rfl) ?_
        refine R_go (fun _ _ h => h) ?_
        refine T_cond rfl ?_ ?_ <;> intro h313
        · skip
          cases h313
        refine kgr ?_
        refine s1 (y_bin rfl rfl rfl (fun hg => b_add (by omega))) ?_
        refine sr 1 ?_
        refine S_nil (nS7 (kf := [(2, 2), (7, 38), (43, 314)]) (kl := [(2, 2), (4, 4), (7, 38), (43, 314), (901, 902), (920, 920), (950, 951)]) (i + 1) (z.m) (z.rs) (l) (r2) A2 c2 ?_ ?_ ?_ ?_)
        · omega
        · exact ⟨by omega, hz2, hil, hEn⟩
        · exact ⟨rfl, trivial⟩
        · exact ⟨rfl, rfl, rfl, rfl, rfl, rfl, trivial⟩
      obtain ⟨hno, hfree⟩ := put_free hE hfi h121
      refine kgs ?_
      refine tx ?_
      refine sr 1 ?_
      refine s1 (yF fa40_1) ?_
      refine s1 (y_loadSub 7 1 9 (ds := [str e.id, .int .i64 e.at_, .int .i64 e.lv, .slice e.fa.A e.fa.q e.fa.c, .slice e.ta.A e.ta.q e.ta.c, .slice e.cr.A e.cr.q e.cr.c, str e.rel, str e.us, .int .i64 e.wt]) rfl rfl rfl rfl Tryz.underlying31 rfl sz31) ?_
      refine S_callM 125 [(901, 901), (902, 902), (950, 950)] (X := IxR) rfl rfl rfl rfl rfl rfl rfl cf10 rfl (fun z => .int .i64 z.no) (fun z => PutP w m e z) (fun z => [(901, ixBox b bm), (902, ixMap bm z.m), (950, .many z.rs)]) (fun _ => rfl) (fun _ => rfl) (fun K1 hK1 w1 hM => Put_any hK1 b bm m rs e w1 hix hxe hM) ?_
      rintro z ⟨hz1, hz2, hz3, hz4⟩
      refine sr 1 ?_
      refine s1 (y_as (v' := .bool false) (by rw [hz1, hno]; simp) (y_bin rfl rfl rfl (fun _ => b_neq))) ?_
      refine sgo ?_
      refine T_cond rfl ?_ ?_ <;> intro h127
      · skip
        cases h127
      refine kgx ?_
      refine sr 3 ?_
      refine sg rfl (y_move rfl rfl) ?_
      refine sg rfl (y_bin rfl rfl rfl (fun _ => b_geq)) ?_
      refine s1 (y_and rfl rfl rfl) ?_
      refine sgo ?_
      refine T_cond rfl ?_ ?_ <;> intro h133
      · skip
        simp only [Bool.and_eq_true, decide_eq_true_eq] at h133
        obtain ⟨hv0, hf0⟩ := h133
        have hle0 : LenE e := LenE.of hv0 hoe
        obtain ⟨j, hj1, hj2, hj3, hj4, hj5, hj6⟩ := hfi.pos (by omega)
        obtain ⟨e1, he1, hzm⟩ := hz4 (by rw [hz1, hno, hv0])
        refine T_perm [0, 1, 2, 3, 4, 5, 6] [true, true, true, true, false, true, false] [0, 0, 0, 4, 12, 31, 63] [(0, [4]), (3, [7]), (5, [920])] (by kernel_rfl) (by kernel_rfl) (by kernel_rfl) rfl (by kernel_rfl) ?_
        refine Rf_ 0 134 rfl rfl rfl rfl rfl _ ⟨rfl, trivial⟩ (Y.z (yL 4 Tryz.underlying25) rfl) ?_
        refine Rf_ 1 135 rfl rfl rfl rfl rfl _ trivial (Y.z (y_as (v' := .int .i64 ((j : Nat) : Int)) (by rw [hj2]) (y_move rfl rfl)) rfl) ?_
        refine Rf_ 2 136 rfl rfl rfl rfl rfl _ trivial (Y.z (yF fa40_1) rfl) ?_
        refine Rf_ 3 137 rfl rfl rfl rfl rfl _ ⟨rfl, trivial⟩ (Y.z (y_loadSub 7 1 9 (ds := [str e.id, .int .i64 e.at_, .int .i64 e.lv, .slice e.fa.A e.fa.q e.fa.c, .slice e.ta.A e.ta.q e.ta.c, .slice e.cr.A e.cr.q e.cr.c, str e.rel, str e.us, .int .i64 e.wt]) rfl rfl rfl rfl Tryz.underlying31 rfl sz31) rfl) ?_
        refine R_chain 4 rfl rfl ?_
        refine S_callN 138 [] [(6, 906), (900, 960), (9, 909), (12, 912)] (X := CopyR) rfl rfl rfl rfl rfl rfl rfl cf11 rfl (fun z => .agg #[str e.id, .int .i64 e.at_, .int .i64 e.lv, .slice z.A e.fa.q z.c, .slice z.B e.ta.q z.b, .slice z.D e.cr.q z.d, str e.rel, str e.us, .int .i64 e.wt]) (fun z => z.gs.map Flt.cont = e.fa.l.map Flt.cont ∧ (∀ f ∈ z.gs, f.fr.q = f.fr.l.length) ∧ z.rs = z.gs.map frRow) (fun z => z.LR e) (fun _ => rfl) (fun _ => rfl) (fun K1 hK1 w1 hM => RCopied_any hK1 e w1 hxe ⟨hle0.fq.1, hle0.tq.1, hle0.cq.1, fun f hf => (hle0.fa f hf).2.1⟩ hM) ?_
        rintro zc ⟨hc1, hc2, hc3⟩
        have hce2 : ContE (zc.evt e) e := ⟨rfl, rfl, rfl, rfl, rfl, rfl, hc1, rfl, rfl, rfl, rfl, rfl⟩
        have ho2 : OkE (zc.evt e) := hoe.cont hce2 hc2
        have he2 : evNo (zc.evt e) = 0 := (evNo_same hce2 hc2 hoe.fit).trans hv0
        have hcc : can e1 = can (zc.evt e) := (can_of he1).trans (can_of hce2).symm
        have hEn : EqC z.m (l.set j (zc.evt e)) := by rw [hzm, ← hj6 (zc.evt e) rfl]; exact hE.put hcc
        refine R_next ⟨.inr ⟨rfl, trivial⟩, .inl rfl, .inl rfl, trivial⟩ ?_
        refine Rf_ 5 139 rfl rfl rfl rfl rfl _ ⟨rfl, trivial⟩ (Y.z (y_indexOwn 920 rfl rfl rfl rfl Tryz.underlying25 sz31 (fun _ => by omega)) rfl) ?_
        refine R_chain 6 rfl rfl ?_
        refine S_storeEl 920 rfl rfl rfl rfl rfl rfl sz31 rfl rfl rfl ?_ (xs' := (l.set j (zc.evt e)).flatMap Evt.enc) ?_ ?_
        · omega
        · exact flat_setE (enc := Evt.enc) (size := 9) (x' := zc.evt e) (fun _ => rfl) hj3
        refine S_join [(951, 951), (960, 960)] 951 960 rfl rfl rfl rfl (by repeat (first | exact kl_nil | exact kl_rest (by assumption) rfl | (apply kl_in; focus rfl) | (apply kl_out; focus rfl))) ?_
        refine S_bank [(951, 951), (906, 906)] 951 906 rfl rfl rfl rfl (by repeat (first | exact kl_nil | exact kl_rest (by assumption) rfl | (apply kl_in; focus rfl) | (apply kl_out; focus rfl))) ?_
        refine S_bank [(951, 951), (909, 909)] 951 909 rfl rfl rfl rfl (by repeat (first | exact kl_nil | exact kl_rest (by assumption) rfl | (apply kl_in; focus rfl) | (apply kl_out; focus rfl))) ?_
        refine S_bank [(951, 951), (912, 912)] 951 912 rfl rfl rfl rfl (by repeat (first | exact kl_nil | exact kl_rest (by assumption) rfl | (apply kl_in; focus rfl) | (apply kl_out; focus rfl))) ?_
        refine R_next ⟨.inl rfl, .inl rfl, .inl rfl, trivial⟩ ?_
        refine R_go (fun _ _ h => h) ?_
        refine T_seq ?_
        refine T_perm [0, 2, 3, 1, 4] [true, false, true, true, true] [0, 1, 0, 4, 15] [(2, [4])] (by kernel_rfl) (by kernel_rfl) (by kernel_rfl) rfl (by kernel_rfl) ?_
        refine Rf_ 0 309 rfl rfl rfl rfl rfl _ trivial (Y.z (y_move rfl rfl) rfl) ?_
        refine Rf_ 2 311 rfl rfl rfl rfl rfl _ ⟨rfl, trivial⟩ (Y.z (yL 4 Tryz.underlying25) rfl) ?_
        refine Rf_ 3 312 rfl rfl rfl rfl rfl _ trivial (Z.of (z_len rfl rfl Tryz.underlying25)) ?_
        refine R_chain 1 rfl rfl ?_
        refine S_callM 310 [(901, 901), (902, 902)] (X := Unit) rfl rfl rfl rfl rfl rfl rfl cf31 rfl (fun _ => .int .i64 ((z.m).length : Nat)) (fun _ => True) (fun _ => [(901, ixBox b bm), (902, ixMap bm (z.m))]) (fun _ => rfl) (fun _ => rfl) (fun K1 hK1 w1 hM => Size_any hK1 b bm (z.m) w1 hM) ?_
        intro _ _
        refine R_next ⟨.inr ⟨rfl, trivial⟩, trivial⟩ ?_
        refine Rf_ 4 313 rfl rfl rfl rfl rfl _ trivial (Y.z (y_as (v' := .bool false) (by rw [hEn.len, List.length_set]; simp) (y_bin rfl rfl rfl (fun _ => b_neq))) rfl) ?_
        refine R_go (fun _ _ h => h) ?_
        refine T_cond rfl ?_ ?_ <;> intro h313
        · skip
          cases h313
        refine kgr ?_
        refine s1 (y_bin rfl rfl rfl (fun hg => b_add (by omega))) ?_
        refine sr 1 ?_
        refine S_nil (nS7 (kf := [(2, 2), (7, 38), (43, 314)]) (kl := [(2, 2), (4, 4), (7, 38), (43, 314), (901, 902), (920, 920), (950, 951)]) (i + 1) (z.m) (z.rs) (l.set j (zc.evt e)) (ixRows r2 (zc.evt e)) A2 c2 ?_ ?_ ?_ ?_)
        · omega
        · exact ⟨by omega, hz2, by rw [← hj6 (zc.evt e) rfl]; exact hil.new ho2 he2 (.inl hj1), hEn⟩
        · exact ⟨rfl, trivial⟩
        · rw [List.length_set]; exact ⟨rfl, rfl, rfl, rfl, rfl, by rw [hc3]; rfl, trivial⟩
      simp only [Bool.and_eq_false_iff, decide_eq_false_iff_not] at h133
      refine tx ?_
      refine sr 2 ?_
      refine sgo ?_
      refine T_cond rfl ?_ ?_ <;> intro h141
      · skip
        have hv0 : evNo e = 0 := by simpa using h141
        have hle0 : LenE e := LenE.of hv0 hoe
        have hf0 : fi < 0 := by omega
        have hna := hfi.neg hf0
        have hl2 := hfree hv0 hf0
        obtain ⟨e1, he1, hzm⟩ := hz4 (by rw [hz1, hno, hv0])
        refine T_perm [0, 1, 2, 3, 4, 5, 6] [true, true, true, false, false, false, false] [0, 0, 2, 6, 14, 31, 63] [(0, [4]), (2, [7])] (by kernel_rfl) (by kernel_rfl) (by kernel_rfl) rfl (by kernel_rfl) ?_
        refine Rf_ 0 142 rfl rfl rfl rfl rfl _ ⟨rfl, trivial⟩ (Y.z (yL 4 Tryz.underlying25) rfl) ?_
        refine Rf_ 1 143 rfl rfl rfl rfl rfl _ trivial (Y.z (yF fa40_1) rfl) ?_
        refine Rf_ 2 144 rfl rfl rfl rfl rfl _ ⟨rfl, trivial⟩ (Y.z (y_loadSub 7 1 9 (ds := [str e.id, .int .i64 e.at_, .int .i64 e.lv, .slice e.fa.A e.fa.q e.fa.c, .slice e.ta.A e.ta.q e.ta.c, .slice e.cr.A e.cr.q e.cr.c, str e.rel, str e.us, .int .i64 e.wt]) rfl rfl rfl rfl Tryz.underlying31 rfl sz31) rfl) ?_
        refine R_chain 3 rfl rfl ?_
        refine S_callN 145 [] [(6, 906), (900, 960), (9, 909), (12, 912)] (X := CopyR) rfl rfl rfl rfl rfl rfl rfl cf11 rfl (fun z => .agg #[str e.id, .int .i64 e.at_, .int .i64 e.lv, .slice z.A e.fa.q z.c, .slice z.B e.ta.q z.b, .slice z.D e.cr.q z.d, str e.rel, str e.us, .int .i64 e.wt]) (fun z => z.gs.map Flt.cont = e.fa.l.map Flt.cont ∧ (∀ f ∈ z.gs, f.fr.q = f.fr.l.length) ∧ z.rs = z.gs.map frRow) (fun z => z.LR e) (fun _ => rfl) (fun _ => rfl) (fun K1 hK1 w1 hM => RCopied_any hK1 e w1 hxe ⟨hle0.fq.1, hle0.tq.1, hle0.cq.1, fun f hf => (hle0.fa f hf).2.1⟩ hM) ?_
        rintro zc ⟨hc1, hc2, hc3⟩
        have hce2 : ContE (zc.evt e) e := ⟨rfl, rfl, rfl, rfl, rfl, rfl, hc1, rfl, rfl, rfl, rfl, rfl⟩
        have ho2 : OkE (zc.evt e) := hoe.cont hce2 hc2
        have he2 : evNo (zc.evt e) = 0 := (evNo_same hce2 hc2 hoe.fit).trans hv0
        have hcc : can e1 = can (zc.evt e) := (can_of he1).trans (can_of hce2).symm
        have hEn : EqC z.m (l ++ [zc.evt e]) := by rw [hzm, ← put_new (e := zc.evt e) hna]; exact hE.put hcc
        refine R_next ⟨.inr ⟨rfl, trivial⟩, .inl rfl, trivial⟩ ?_
        refine R_chain 4 rfl rfl ?_
        refine S_buildSlice 146 146 rfl rfl rfl rfl rfl Tryz.underlying25 inf31 rfl (by decide) (by decide) rfl rfl (by decide) rfl (_) rfl ?_
        intro b146
        refine R_next ⟨.inr ⟨rfl, trivial⟩, .inl rfl, trivial⟩ ?_
        refine R_chain 5 rfl rfl ?_
        obtain ⟨i147, hi147, hz147, hs147, hy147⟩ := info_parts inf31
        refine S_append 147 920 146 rfl rfl rfl rfl rfl rfl rfl rfl Tryz.underlying25 hi147 hz147 hs147 hy147 rfl (by decide) (by decide) rfl ?_ ?_ ((l ++ [zc.evt e]).length) ((l ++ [zc.evt e]).flatMap Evt.enc) ?_ ?_ ?_
        · (simp only [maxLen]; omega)
        · omega
        · rw [List.length_append]; rfl
        · rw [List.flatMap_append]; rfl
        intro A147 c147
        refine R_next ⟨.inl rfl, .inl rfl, trivial⟩ ?_
        refine R_chain 6 rfl rfl ?_
        refine S_store 4 rfl rfl rfl rfl rfl rfl sz25 rfl rfl ?_
        refine S_join [(951, 951), (960, 960)] 951 960 rfl rfl rfl rfl (by repeat (first | exact kl_nil | exact kl_rest (by assumption) rfl | (apply kl_in; focus rfl) | (apply kl_out; focus rfl))) ?_
        refine S_bank [(951, 951), (906, 906)] 951 906 rfl rfl rfl rfl (by repeat (first | exact kl_nil | exact kl_rest (by assumption) rfl | (apply kl_in; focus rfl) | (apply kl_out; focus rfl))) ?_
        refine S_bank [(951, 951), (909, 909)] 951 909 rfl rfl rfl rfl (by repeat (first | exact kl_nil | exact kl_rest (by assumption) rfl | (apply kl_in; focus rfl) | (apply kl_out; focus rfl))) ?_
        refine S_bank [(951, 951), (912, 912)] 951 912 rfl rfl rfl rfl (by repeat (first | exact kl_nil | exact kl_rest (by assumption) rfl | (apply kl_in; focus rfl) | (apply kl_out; focus rfl))) ?_
        refine R_next ⟨.inl rfl, .inl rfl, trivial⟩ ?_
        refine R_go (fun _ _ h => h) ?_
        refine T_seq ?_
        refine T_perm [0, 2, 3, 1, 4] [true, false, true, true, true] [0, 1, 0, 4, 15] [(2, [4])] (by kernel_rfl) (by kernel_rfl) (by kernel_rfl) rfl (by kernel_rfl) ?_
        refine Rf_ 0 309 rfl rfl rfl rfl rfl _ trivial (Y.z (y_move rfl rfl) rfl) ?_
        refine Rf_ 2 311 rfl rfl rfl rfl rfl _ ⟨rfl, trivial⟩ (Y.z (yL 4 Tryz.underlying25) rfl) ?_
        refine Rf_ 3 312 rfl rfl rfl rfl rfl _ trivial (Z.of (z_len rfl rfl Tryz.underlying25)) ?_
        refine R_chain 1 rfl rfl ?_
        refine S_callM 310 [(901, 901), (902, 902)] (X := Unit) rfl rfl rfl rfl rfl rfl rfl cf31 rfl (fun _ => .int .i64 ((z.m).length : Nat)) (fun _ => True) (fun _ => [(901, ixBox b bm), (902, ixMap bm (z.m))]) (fun _ => rfl) (fun _ => rfl) (fun K1 hK1 w1 hM => Size_any hK1 b bm (z.m) w1 hM) ?_
        intro _ _
        refine R_next ⟨.inr ⟨rfl, trivial⟩, trivial⟩ ?_
        refine Rf_ 4 313 rfl rfl rfl rfl rfl _ trivial (Y.z (y_as (v' := .bool false) (by rw [hEn.len]; simp) (y_bin rfl rfl rfl (fun _ => b_neq))) rfl) ?_
        refine R_go (fun _ _ h => h) ?_
        refine T_cond rfl ?_ ?_ <;> intro h313
        · skip
          cases h313
        refine kgr ?_
        refine s1 (y_bin rfl rfl rfl (fun hg => b_add (by omega))) ?_
        refine sr 1 ?_
        refine S_nil (nS7 (kf := [(2, 2), (7, 38), (43, 314)]) (kl := [(2, 2), (4, 4), (7, 38), (43, 314), (901, 902), (920, 920), (950, 951)]) (i + 1) (z.m) (z.rs) (l ++ [zc.evt e]) (ixRows r2 (zc.evt e)) A147 c147 ?_ ?_ ?_ ?_)
        · omega
        · exact ⟨by omega, hz2, by rw [← put_new (e := zc.evt e) hna]; exact hil.new ho2 he2 (.inr hl2), hEn⟩
        · exact ⟨rfl, trivial⟩
        · exact ⟨rfl, rfl, rfl, rfl, rfl, by rw [hc3]; rfl, trivial⟩
      have h141 : ¬ evNo e = 0 := by simpa using h141
      have hz3 := hz3 (by rw [hz1, hno]; exact h141)
      have hEn : EqC z.m l := by rw [hz3]; exact hE
      refine kgs ?_
      refine T_perm [0, 2, 3, 1, 4] [true, false, true, true, true] [0, 1, 0, 4, 15] [(2, [4])] (by kernel_rfl) (by kernel_rfl) (by kernel_rfl) rfl (by kernel_rfl) ?_
      refine Rf_ 0 309 rfl rfl rfl rfl rfl _ trivial (Y.z (y_move rfl rfl) rfl) ?_
      refine Rf_ 2 311 rfl rfl rfl rfl rfl _ ⟨rfl, trivial⟩ (Y.z (yL 4 Tryz.underlying25) rfl) ?_
      refine Rf_ 3 312 rfl rfl rfl rfl rfl _ trivial (Z.of (z_len rfl rfl Tryz.underlying25)) ?_
      refine R_chain 1 rfl rfl ?_
      refine S_callM 310 [(901, 901), (902, 902)] (X := Unit) rfl rfl rfl rfl rfl rfl rfl cf31 rfl (fun _ => .int .i64 ((z.m).length : Nat)) (fun _ => True) (fun _ => [(901, ixBox b bm), (902, ixMap bm (z.m))]) (fun _ => rfl) (fun _ => rfl) (fun K1 hK1 w1 hM => Size_any hK1 b bm (z.m) w1 hM) ?_
      intro _ _
      refine R_next ⟨.inr ⟨rfl, trivial⟩, trivial⟩ ?_
      refine Rf_ 4 313 rfl rfl rfl rfl rfl _ trivial (Y.z (y_as (v' := .bool false) (by rw [hEn.len]; simp) (y_bin rfl rfl rfl (fun _ => b_neq))) rfl) ?_
      refine R_go (fun _ _ h => h) ?_
      refine T_cond rfl ?_ ?_ <;> intro h313
      · skip
        cases h313
      refine kgr ?_
      refine s1 (y_bin rfl rfl rfl (fun hg => b_add (by omega))) ?_
      refine sr 1 ?_
      refine S_nil (nS7 (kf := [(2, 2), (7, 38), (43, 314)]) (kl := [(2, 2), (4, 4), (7, 38), (43, 314), (901, 902), (920, 920), (950, 951)]) (i + 1) (z.m) (z.rs) (l) (r2) A2 c2 ?_ ?_ ?_ ?_)
      · omega
      · exact ⟨by omega, hz2, hil, hEn⟩
      · exact ⟨rfl, trivial⟩
      · exact ⟨rfl, rfl, rfl, rfl, rfl, rfl, trivial⟩
    refine tx ?_
    refine sr 2 ?_
    refine sgo ?_
    refine T_cond rfl ?_ ?_ <;> intro h148
    · skip
      have hfi := fnd_D id l
      obtain ⟨fi, hfe⟩ : ∃ fi, fndP (fun a => decide (a.id = id)) l 0 = fi := ⟨_, rfl⟩
      rw [hfe] at hfi
      refine tx ?_
      refine sr 1 ?_
      refine s1 (yF fa40_2) ?_
      refine s1 (yL 7 Tryz.underlying9) ?_
      refine s1 (y_as (v' := .int .i64 fi) (by rw [hfe]) (y_call rfl rfl rfl cf6 (fun _ w1 hM => ixat_any id A2 l.length c2 l b4 w1 (hM.box_cells 4 rfl) (owned_T (enc := Evt.enc) hM rfl (i := 920) rfl) (by omega)))) ?_
      refine sr 2 ?_
      refine sgs ?_
      refine tx ?_
      refine sr 2 ?_
      refine sgo ?_
      refine T_cond rfl ?_ ?_ <;> intro h155
      · skip
        have h155 : fi < 0 := by simpa using h155
        have hna := hfi.neg h155
        refine T_region ?_
        refine sr 1 ?_
        refine sgs ?_
        refine tx ?_
        refine sr 1 ?_
        refine s1 (yF fa40_2) ?_
        refine s1 (yL 7 Tryz.underlying9) ?_
        refine S_callM 159 [(901, 901), (902, 902)] (X := Unit) rfl rfl rfl rfl rfl rfl rfl cf12 rfl (fun _ => .int .i64 (dropNo m id)) (fun _ => True) (fun _ => [(901, ixBox b bm), (902, ixMap bm (delI m id))]) (fun _ => rfl) (fun _ => rfl) (fun K1 hK1 w1 hM => Drop_any hK1 b bm m id w1 hM) ?_
        intro _ _
        refine sr 1 ?_
        refine s1 (y_as (v' := .bool false) (by rw [dropNo, if_neg (by rw [hE.has, hna]; exact Bool.false_ne_true)]; simp) (y_bin rfl rfl rfl (fun _ => b_neq))) ?_
        refine sgo ?_
        refine T_cond rfl ?_ ?_ <;> intro h161
        · skip
          cases h161
        refine kgx ?_
        refine sr 2 ?_
        refine sgo ?_
        refine T_cond rfl ?_ ?_ <;> intro h163
        · skip
          have h163 : 0 ≤ fi := by simpa using h163
          omega
        have hEn : EqC (delI m id) l := by rw [del_no (by rw [hE.has]; exact hna)]; exact hE
        refine kgs ?_
        refine T_perm [0, 2, 3, 1, 4] [true, false, true, true, true] [0, 1, 0, 4, 15] [(2, [4])] (by kernel_rfl) (by kernel_rfl) (by kernel_rfl) rfl (by kernel_rfl) ?_
        refine Rf_ 0 309 rfl rfl rfl rfl rfl _ trivial (Y.z (y_move rfl rfl) rfl) ?_
        refine Rf_ 2 311 rfl rfl rfl rfl rfl _ ⟨rfl, trivial⟩ (Y.z (yL 4 Tryz.underlying25) rfl) ?_
        refine Rf_ 3 312 rfl rfl rfl rfl rfl _ trivial (Z.of (z_len rfl rfl Tryz.underlying25)) ?_
        refine R_chain 1 rfl rfl ?_
        refine S_callM 310 [(901, 901), (902, 902)] (X := Unit) rfl rfl rfl rfl rfl rfl rfl cf31 rfl (fun _ => .int .i64 ((delI m id).length : Nat)) (fun _ => True) (fun _ => [(901, ixBox b bm), (902, ixMap bm (delI m id))]) (fun _ => rfl) (fun _ => rfl) (fun K1 hK1 w1 hM => Size_any hK1 b bm (delI m id) w1 hM) ?_
        intro _ _
        refine R_next ⟨.inr ⟨rfl, trivial⟩, trivial⟩ ?_
        refine Rf_ 4 313 rfl rfl rfl rfl rfl _ trivial (Y.z (y_as (v' := .bool false) (by rw [hEn.len]; simp) (y_bin rfl rfl rfl (fun _ => b_neq))) rfl) ?_
        refine R_go (fun _ _ h => h) ?_
        refine T_cond rfl ?_ ?_ <;> intro h313
        · skip
          cases h313
        refine kgr ?_
        refine s1 (y_bin rfl rfl rfl (fun hg => b_add (by omega))) ?_
        refine sr 1 ?_
        refine S_nil (nS7 (kf := [(2, 2), (7, 38), (43, 314)]) (kl := [(2, 2), (4, 4), (7, 38), (43, 314), (901, 902), (920, 920), (950, 951)]) (i + 1) (delI m id) (rs) (l) (r2) A2 c2 ?_ ?_ ?_ ?_)
        · omega
        · exact ⟨by omega, hix.del id, hil, hEn⟩
        · exact ⟨rfl, trivial⟩
        · exact ⟨rfl, rfl, rfl, rfl, rfl, rfl, trivial⟩
      have h155 : ¬ fi < 0 := by simpa using h155
      obtain ⟨j, hj1, hj2, hj3, hj4, hj5, hj6⟩ := hfi.pos h155
      refine kgs ?_
      refine tx ?_
      refine sr 1 ?_
      refine s1 (yF fa40_2) ?_
      refine s1 (yL 7 Tryz.underlying9) ?_
      refine S_callM 159 [(901, 901), (902, 902)] (X := Unit) rfl rfl rfl rfl rfl rfl rfl cf12 rfl (fun _ => .int .i64 (dropNo m id)) (fun _ => True) (fun _ => [(901, ixBox b bm), (902, ixMap bm (delI m id))]) (fun _ => rfl) (fun _ => rfl) (fun K1 hK1 w1 hM => Drop_any hK1 b bm m id w1 hM) ?_
      intro _ _
      refine sr 1 ?_
      refine s1 (y_as (v' := .bool false) (by rw [dropNo, if_pos (by rw [hE.has]; exact hj1)]; simp) (y_bin rfl rfl rfl (fun _ => b_neq))) ?_
      refine sgo ?_
      refine T_cond rfl ?_ ?_ <;> intro h161
      · skip
        cases h161
      refine kgx ?_
      refine sr 2 ?_
      refine sgo ?_
      refine T_cond rfl ?_ ?_ <;> intro h163
      · skip
        have hEn : EqC (delI m id) (l.eraseIdx j) := by rw [← hj5]; exact hE.del id
        refine T_region ?_
        refine s1 (yL 4 Tryz.underlying25) ?_
        refine s1 (y_as (v' := .int .i64 ((j : Nat) : Int)) (by rw [hj2]) (y_move rfl rfl)) ?_
        refine s1 (y_as (v' := .int .i64 ((j : Nat) : Int)) (by rw [hj2]) (y_move rfl rfl)) ?_
        refine s1 (y_bin rfl rfl rfl (fun hg => b_addv (((j + 1 : Nat) : Int)) (by omega) (by omega))) ?_
        refine S_callM 168 [(0, 920)] (X := Unit) rfl rfl rfl rfl rfl rfl rfl cf13 rfl (fun _ => .slice A2 (l.length - 1) c2) (fun _ => True) (fun _ => [(0, .own 31 9 (.slice A2 (l.length - 1) c2) (l.length - 1) ((l.eraseIdx j).flatMap Evt.enc))]) (fun _ => rfl) (fun _ => rfl) (fun K1 hK1 w1 hM => Delete_any hK1 A2 l.length c2 j l rfl hj3 (by omega) w1 hM) ?_
        intro _ _
        refine S_store 4 rfl rfl rfl rfl rfl rfl sz25 rfl rfl ?_
        refine sgs ?_
        refine T_perm [0, 2, 3, 1, 4] [true, false, true, true, true] [0, 1, 0, 4, 15] [(2, [4])] (by kernel_rfl) (by kernel_rfl) (by kernel_rfl) rfl (by kernel_rfl) ?_
        refine Rf_ 0 309 rfl rfl rfl rfl rfl _ trivial (Y.z (y_move rfl rfl) rfl) ?_
        refine Rf_ 2 311 rfl rfl rfl rfl rfl _ ⟨rfl, trivial⟩ (Y.z (yL 4 Tryz.underlying25) rfl) ?_
        refine Rf_ 3 312 rfl rfl rfl rfl rfl _ trivial (Z.of (z_len rfl rfl Tryz.underlying25)) ?_
        refine R_chain 1 rfl rfl ?_
        refine S_callM 310 [(901, 901), (902, 902)] (X := Unit) rfl rfl rfl rfl rfl rfl rfl cf31 rfl (fun _ => .int .i64 ((delI m id).length : Nat)) (fun _ => True) (fun _ => [(901, ixBox b bm), (902, ixMap bm (delI m id))]) (fun _ => rfl) (fun _ => rfl) (fun K1 hK1 w1 hM => Size_any hK1 b bm (delI m id) w1 hM) ?_
        intro _ _
        refine R_next ⟨.inr ⟨rfl, trivial⟩, trivial⟩ ?_
        refine Rf_ 4 313 rfl rfl rfl rfl rfl _ trivial (Y.z (y_as (v' := .bool false) (by rw [hEn.len, List.length_eraseIdx, if_pos hj3]; simp) (y_bin rfl rfl rfl (fun _ => b_neq))) rfl) ?_
        refine R_go (fun _ _ h => h) ?_
        refine T_cond rfl ?_ ?_ <;> intro h313
        · skip
          cases h313
        refine kgr ?_
        refine s1 (y_bin rfl rfl rfl (fun hg => b_add (by omega))) ?_
        refine sr 1 ?_
        refine S_nil (nS7 (kf := [(2, 2), (7, 38), (43, 314)]) (kl := [(2, 2), (4, 4), (7, 38), (43, 314), (901, 902), (920, 920), (950, 951)]) (i + 1) (delI m id) (rs) (l.eraseIdx j) (r2) A2 c2 ?_ ?_ ?_ ?_)
        · omega
        · exact ⟨by omega, hix.del id, by rw [← hj5]; exact hil.del id, hEn⟩
        · exact ⟨rfl, trivial⟩
        · rw [List.length_eraseIdx, if_pos hj3]; exact ⟨rfl, rfl, rfl, rfl, rfl, rfl, trivial⟩
      have h163 : ¬ 0 ≤ fi := by simpa using h163
      omega
    refine tx ?_
    refine sr 2 ?_
    refine sgo ?_
    refine T_cond rfl ?_ ?_ <;> intro h169
    · skip
      have hfi := fnd_D id l
      obtain ⟨fi, hfe⟩ : ∃ fi, fndP (fun a => decide (a.id = id)) l 0 = fi := ⟨_, rfl⟩
      rw [hfe] at hfi
      refine tx ?_
      refine sr 1 ?_
      refine s1 (yF fa40_2) ?_
      refine s1 (yL 7 Tryz.underlying9) ?_
      refine s1 (y_as (v' := .int .i64 fi) (by rw [hfe]) (y_call rfl rfl rfl cf6 (fun _ w1 hM => ixat_any id A2 l.length c2 l b4 w1 (hM.box_cells 4 rfl) (owned_T (enc := Evt.enc) hM rfl (i := 920) rfl) (by omega)))) ?_
      refine sr 1 ?_
      refine sgx ?_
      refine sr 1 ?_
      refine s1 (yF fa40_2) ?_
      refine s1 (yL 7 Tryz.underlying9) ?_
      refine S_callN 179 [(901, 901), (902, 902), (950, 950)] [(960, 961)] (X := GetR) rfl rfl rfl rfl rfl rfl rfl cf14 rfl (fun z => .tuple #[z.ev.val, .bool (hasI m id)]) (fun z => GetP w m id z) (fun z => [(901, ixBox b bm), (902, ixMap bm m), (950, .many rs), (960, .many z.rs)]) (fun _ => rfl) (fun _ => rfl) (fun K1 hK1 w1 hM => Get_any hK1 b bm m rs id w1 hix hM) ?_
      rintro z ⟨hz1, hz2⟩
      refine sr 1 ?_
      refine s1 (y_as (v' := .agg #[str z.ev.id, .int .i64 z.ev.at_, .int .i64 z.ev.lv, .slice z.ev.fa.A z.ev.fa.q z.ev.fa.c, .slice z.ev.ta.A z.ev.ta.q z.ev.ta.c, .slice z.ev.cr.A z.ev.cr.q z.ev.cr.c, str z.ev.rel, str z.ev.us, .int .i64 z.ev.wt]) (by exact rfl) (y_extract rfl rfl rfl)) ?_
      refine sr 1 ?_
      refine S_alloc 14 14 rfl rfl rfl rfl z31 ?_
      intro b14
      refine S_store 14 rfl rfl rfl rfl rfl rfl sz31 rfl rfl ?_
      refine sr 1 ?_
      refine sgx ?_
      refine S_alloc 16 16 rfl rfl rfl rfl z31 ?_
      intro b16
      refine sgs ?_
      refine tx ?_
      refine sr 2 ?_
      refine sgo ?_
      refine T_cond rfl ?_ ?_ <;> intro h183
      · skip
        have h183 : 0 ≤ fi := by simpa using h183
        obtain ⟨j, hj1, hj2, hj3, ⟨ej, hj, hjg, _⟩, hj5, hj6⟩ := hfi.pos (by omega)
        refine T_region ?_
        refine s1 (yL 4 Tryz.underlying25) ?_
        refine s1 (y_as (v' := .int .i64 ((j : Nat) : Int)) (by rw [hj2]) (y_move rfl rfl)) ?_
        refine s1 (y_indexOwn 920 rfl rfl rfl rfl Tryz.underlying25 sz31 (fun _ => by omega)) ?_
        refine s1 (y_loadO 920 rfl rfl rfl rfl (fun _ => rfl) (fun _ => hj) Tryz.underlying31 rfl sz31) ?_
        refine S_store 16 rfl rfl rfl rfl rfl rfl sz31 rfl rfl ?_
        refine sgx ?_
        refine sr 3 ?_
        refine s1 (y_as (v' := .bool false) (by rw [hE.has, hj1, decide_eq_true h183]; rfl) (y_bin rfl rfl rfl (fun _ => b_neqb Tryz.underlying4))) ?_
        refine sr 1 ?_
        refine sg rfl (yA 14 rfl Tryz.underlying31 sz31) ?_
        refine sg rfl (yA 16 rfl Tryz.underlying31 sz31) ?_
        refine sg rfl (y_as (v' := .bool true) (by rw [cont_sameM (get_same hE hjg hz1)]) (y_call rfl rfl rfl cf15 (fun _ w1 hM => SameEvent_any z.ev ej w1 (hz2.at hM 961 rfl) ((hil.ok ej (List.mem_of_getElem? hj)).2.at hM 951 rfl)))) ?_
        refine sg rfl (y_not rfl rfl) ?_
        refine s1 (y_or rfl rfl rfl) ?_
        refine sgo ?_
        refine T_cond rfl ?_ ?_ <;> intro h197
        · skip
          exact absurd h197 (by decide)
        refine kgs ?_
        refine T_perm [0, 2, 3, 1, 4] [true, false, true, true, true] [0, 1, 0, 4, 15] [(2, [4])] (by kernel_rfl) (by kernel_rfl) (by kernel_rfl) rfl (by kernel_rfl) ?_
        refine Rf_ 0 309 rfl rfl rfl rfl rfl _ trivial (Y.z (y_move rfl rfl) rfl) ?_
        refine Rf_ 2 311 rfl rfl rfl rfl rfl _ ⟨rfl, trivial⟩ (Y.z (yL 4 Tryz.underlying25) rfl) ?_
        refine Rf_ 3 312 rfl rfl rfl rfl rfl _ trivial (Z.of (z_len rfl rfl Tryz.underlying25)) ?_
        refine R_chain 1 rfl rfl ?_
        refine S_callM 310 [(901, 901), (902, 902)] (X := Unit) rfl rfl rfl rfl rfl rfl rfl cf31 rfl (fun _ => .int .i64 ((m).length : Nat)) (fun _ => True) (fun _ => [(901, ixBox b bm), (902, ixMap bm (m))]) (fun _ => rfl) (fun _ => rfl) (fun K1 hK1 w1 hM => Size_any hK1 b bm (m) w1 hM) ?_
        intro _ _
        refine R_next ⟨.inr ⟨rfl, trivial⟩, trivial⟩ ?_
        refine Rf_ 4 313 rfl rfl rfl rfl rfl _ trivial (Y.z (y_as (v' := .bool false) (by rw [hE.len]; simp) (y_bin rfl rfl rfl (fun _ => b_neq))) rfl) ?_
        refine R_go (fun _ _ h => h) ?_
        refine T_cond rfl ?_ ?_ <;> intro h313
        · skip
          cases h313
        refine kgr ?_
        refine s1 (y_bin rfl rfl rfl (fun hg => b_add (by omega))) ?_
        refine sr 1 ?_
        refine S_nil (nS7 (kf := [(2, 2), (7, 38), (43, 314)]) (kl := [(2, 2), (4, 4), (7, 38), (43, 314), (901, 902), (920, 920), (950, 951)]) (i + 1) (m) (rs) (l) (r2) A2 c2 ?_ ?_ ?_ ?_)
        · omega
        · exact ⟨by omega, hix, hil, hE⟩
        · exact ⟨rfl, trivial⟩
        · exact ⟨rfl, rfl, rfl, rfl, rfl, rfl, trivial⟩
      have h183 : ¬ 0 ≤ fi := by simpa using h183
      have hna := hfi.neg (by omega)
      refine kgx ?_
      refine sr 3 ?_
      refine s1 (y_as (v' := .bool false) (by rw [hE.has, hna, decide_eq_false h183]; rfl) (y_bin rfl rfl rfl (fun _ => b_neqb Tryz.underlying4))) ?_
      refine sr 1 ?_
      refine sg rfl (yA 14 rfl Tryz.underlying31 sz31) ?_
      refine sg rfl (yA 16 rfl Tryz.underlying31 sz31) ?_
      refine sg rfl (y_as (v' := .bool true) (by rw [cont_sameM (by rw [get_none hE hna] at hz1; exact hz1)]) (y_call rfl rfl rfl cf15 (fun _ w1 hM => SameEvent_any z.ev evZM w1 (hz2.at hM 961 rfl) (evZM_ok w1)))) ?_
      refine sg rfl (y_not rfl rfl) ?_
      refine s1 (y_or rfl rfl rfl) ?_
      refine sgo ?_
      refine T_cond rfl ?_ ?_ <;> intro h197
      · skip
        exact absurd h197 (by decide)
      refine kgs ?_
      refine T_perm [0, 2, 3, 1, 4] [true, false, true, true, true] [0, 1, 0, 4, 15] [(2, [4])] (by kernel_rfl) (by kernel_rfl) (by kernel_rfl) rfl (by kernel_rfl) ?_
      refine Rf_ 0 309 rfl rfl rfl rfl rfl _ trivial (Y.z (y_move rfl rfl) rfl) ?_
      refine Rf_ 2 311 rfl rfl rfl rfl rfl _ ⟨rfl, trivial⟩ (Y.z (yL 4 Tryz.underlying25) rfl) ?_
      refine Rf_ 3 312 rfl rfl rfl rfl rfl _ trivial (Z.of (z_len rfl rfl Tryz.underlying25)) ?_
      refine R_chain 1 rfl rfl ?_
      refine S_callM 310 [(901, 901), (902, 902)] (X := Unit) rfl rfl rfl rfl rfl rfl rfl cf31 rfl (fun _ => .int .i64 ((m).length : Nat)) (fun _ => True) (fun _ => [(901, ixBox b bm), (902, ixMap bm (m))]) (fun _ => rfl) (fun _ => rfl) (fun K1 hK1 w1 hM => Size_any hK1 b bm (m) w1 hM) ?_
      intro _ _
      refine R_next ⟨.inr ⟨rfl, trivial⟩, trivial⟩ ?_
      refine Rf_ 4 313 rfl rfl rfl rfl rfl _ trivial (Y.z (y_as (v' := .bool false) (by rw [hE.len]; simp) (y_bin rfl rfl rfl (fun _ => b_neq))) rfl) ?_
      refine R_go (fun _ _ h => h) ?_
      refine T_cond rfl ?_ ?_ <;> intro h313
      · skip
        cases h313
      refine kgr ?_
      refine s1 (y_bin rfl rfl rfl (fun hg => b_add (by omega))) ?_
      refine sr 1 ?_
      refine S_nil (nS7 (kf := [(2, 2), (7, 38), (43, 314)]) (kl := [(2, 2), (4, 4), (7, 38), (43, 314), (901, 902), (920, 920), (950, 951)]) (i + 1) (m) (rs) (l) (r2) A2 c2 ?_ ?_ ?_ ?_)
      · omega
      · exact ⟨by omega, hix, hil, hE⟩
      · exact ⟨rfl, trivial⟩
      · exact ⟨rfl, rfl, rfl, rfl, rfl, rfl, trivial⟩
    refine tx ?_
    refine sr 2 ?_
    refine sgo ?_
    refine T_cond rfl ?_ ?_ <;> intro h198
    · skip
      refine tx ?_
      refine sr 1 ?_
      refine s1 (yF fa40_4) ?_
      refine s1 (y_loadSub 7 12 10 (ds := [.int .i64 x.op, .slice x.ad x.q x.c, .int .i64 x.lo, .int .i64 x.hi, str x.nm, str x.tx, .int .i64 ab, .bool dn, .int .i64 af, .int .i64 am]) rfl rfl rfl rfl Tryz.underlying38 rfl sz38) ?_
      refine S_callN 204 [(901, 901), (902, 902), (950, 950)] [(909, 909)] (X := Option Addr × Nat) rfl rfl rfl rfl rfl rfl rfl cf16 rfl (fun z => .tuple #[.slice z.1 (askIds x ab dn af am m).length z.2, .int .i64 (askN x ab af am m), .int .i64 (askNo x ab af am)]) (fun _ => True) (fun z => [(901, ixBox b bm), (902, ixMap bm m), (950, .many rs), (909, ownStr z.1 z.2 (askIds x ab dn af am m))]) (fun _ => rfl) (fun _ => rfl) (fun K1 hK1 w1 hM => Find_any hK1 b bm m rs x ab dn af am w1 hix hxc hm hM) ?_
      rintro ⟨zA, zc⟩ _
      have hal := askIds_len x ab dn af am m
      refine sr 7 ?_
      refine sgx ?_
      refine s1 (yF fa40_4) ?_
      refine s1 (y_loadSub 7 12 10 (ds := [.int .i64 x.op, .slice x.ad x.q x.c, .int .i64 x.lo, .int .i64 x.hi, str x.nm, str x.tx, .int .i64 ab, .bool dn, .int .i64 af, .int .i64 am]) rfl rfl rfl rfl Tryz.underlying38 rfl sz38) ?_
      refine s1 (y_call rfl rfl rfl cf17 (fun _ w1 hM => AskFault_any x ab dn af am w1 (hxc.lift hM.below) hxb)) ?_
      refine sr 1 ?_
      refine sgx ?_
      refine S_nilSlice 21 (e := 9) (size := 1) ?_
      refine sr 1 ?_
      refine sgx ?_
      refine sr 1 ?_
      refine sgs ?_
      refine tx ?_
      refine sr 2 ?_
      refine sgo ?_
      refine T_cond rfl ?_ ?_ <;> intro h212
      · skip
        have h212 : askNo x ab af am = 0 := by simpa using h212
        obtain ⟨hr0, ⟨hr1, hr2⟩, hr3, hr4⟩ := ask_rng h212
        obtain ⟨f0, rfl⟩ : ∃ n : Nat, af = n := ⟨af.toNat, by omega⟩
        obtain ⟨m0, rfl⟩ : ∃ n : Nat, am = n := ⟨am.toNat, by omega⟩
        have hai := ask_ids (dn := dn) hE hix.nd h212
        refine T_region ?_
        refine s1 (yL 4 Tryz.underlying25) ?_
        refine s1 (yF fa40_4) ?_
        refine s1 (y_loadSub 7 12 10 (ds := [.int .i64 x.op, .slice x.ad x.q x.c, .int .i64 x.lo, .int .i64 x.hi, str x.nm, str x.tx, .int .i64 ab, .bool dn, .int .i64 (f0 : Int), .int .i64 (m0 : Int)]) rfl rfl rfl rfl Tryz.underlying38 rfl sz38) ?_
        refine S_callOwn 217 217 rfl rfl rfl rfl rfl rfl rfl cf18 (fun A c => .tuple #[.slice A (idsI (((askL x ab dn l).drop f0).take m0)).length c, .int .i64 ((filI x l).length : Nat)]) 9 1 ((idsI (((askL x ab dn l).drop f0).take m0)).length) ((idsI (((askL x ab dn l).drop f0).take m0)).flatMap strE) (fun w1 hM => Asked_any A2 l.length c2 l x ab dn f0 m0 w1 (owned_T (enc := Evt.enc) hM rfl (i := 920) rfl) (by omega) (fun a ha => ⟨(hil.ok a ha).2.at hM 951 rfl, ev_small (hil.ok a ha).1⟩) (hxc.lift hM.below) (cond_ch hr0) (hm.below hM.below) (by omega) (by omega)) ?_
        intro A217 c217
        refine sr 5 ?_
        refine sgx ?_
        refine sr 4 ?_
        refine s1 (y_call rfl rfl rfl cf19 (fun _ w1 hM => listedSt_any _ _ _ _ _ _ (askIds x ab dn f0 m0 m) (idsI (((askL x ab dn l).drop f0).take m0)) _ _ w1 (owned_T (enc := strE) hM rfl (i := 909) rfl) (owned_T (enc := strE) hM rfl (i := 217) rfl) (by omega) (by rw [hai]; omega) rfl (fun h => absurd h212 h) (fun _ => hai))) ?_
        refine sr 2 ?_
        refine sg rfl (y_move rfl rfl) ?_
        refine sg rfl (y_move rfl rfl) ?_
        refine sg rfl (y_as (v' := .bool false) (by rw [askN, if_pos h212, (fil_same hE x).len]; simp) (y_bin rfl rfl rfl (fun _ => b_neq))) ?_
        refine s1 (y_or rfl rfl rfl) ?_
        refine sgo ?_
        refine T_cond rfl ?_ ?_ <;> intro h230
        · skip
          exact absurd h230 (by decide)
        refine kgs ?_
        refine T_perm [0, 2, 3, 1, 4] [true, false, true, true, true] [0, 1, 0, 4, 15] [(2, [4])] (by kernel_rfl) (by kernel_rfl) (by kernel_rfl) rfl (by kernel_rfl) ?_
        refine Rf_ 0 309 rfl rfl rfl rfl rfl _ trivial (Y.z (y_move rfl rfl) rfl) ?_
        refine Rf_ 2 311 rfl rfl rfl rfl rfl _ ⟨rfl, trivial⟩ (Y.z (yL 4 Tryz.underlying25) rfl) ?_
        refine Rf_ 3 312 rfl rfl rfl rfl rfl _ trivial (Z.of (z_len rfl rfl Tryz.underlying25)) ?_
        refine R_chain 1 rfl rfl ?_
        refine S_callM 310 [(901, 901), (902, 902)] (X := Unit) rfl rfl rfl rfl rfl rfl rfl cf31 rfl (fun _ => .int .i64 ((m).length : Nat)) (fun _ => True) (fun _ => [(901, ixBox b bm), (902, ixMap bm (m))]) (fun _ => rfl) (fun _ => rfl) (fun K1 hK1 w1 hM => Size_any hK1 b bm (m) w1 hM) ?_
        intro _ _
        refine R_next ⟨.inr ⟨rfl, trivial⟩, trivial⟩ ?_
        refine Rf_ 4 313 rfl rfl rfl rfl rfl _ trivial (Y.z (y_as (v' := .bool false) (by rw [hE.len]; simp) (y_bin rfl rfl rfl (fun _ => b_neq))) rfl) ?_
        refine R_go (fun _ _ h => h) ?_
        refine T_cond rfl ?_ ?_ <;> intro h313
        · skip
          cases h313
        refine kgr ?_
        refine s1 (y_bin rfl rfl rfl (fun hg => b_add (by omega))) ?_
        refine sr 1 ?_
        refine S_nil (nS7 (kf := [(2, 2), (7, 38), (43, 314)]) (kl := [(2, 2), (4, 4), (7, 38), (43, 314), (901, 902), (920, 920), (950, 951)]) (i + 1) (m) (rs) (l) (r2) A2 c2 ?_ ?_ ?_ ?_)
        · omega
        · exact ⟨by omega, hix, hil, hE⟩
        · exact ⟨rfl, trivial⟩
        · exact ⟨rfl, rfl, rfl, rfl, rfl, rfl, trivial⟩
      have h212 : ¬ askNo x ab af am = 0 := by simpa using h212
      refine kgx ?_
      refine sr 4 ?_
      refine s1 (y_call rfl rfl rfl cf19 (fun _ w1 hM => listedSt_any _ _ _ _ _ _ (askIds x ab dn af am m) [] _ _ w1 (owned_T (enc := strE) hM rfl (i := 909) rfl) (owned_T (enc := strE) hM rfl (i := 21) rfl) (by omega) (by omega) rfl (fun h => if_neg h) (fun h => absurd h h212))) ?_
      refine sr 2 ?_
      refine sg rfl (y_move rfl rfl) ?_
      refine sg rfl (y_move rfl rfl) ?_
      refine sg rfl (y_as (v' := .bool false) (by rw [askN, if_neg h212]; simp) (y_bin rfl rfl rfl (fun _ => b_neq))) ?_
      refine s1 (y_or rfl rfl rfl) ?_
      refine sgo ?_
      refine T_cond rfl ?_ ?_ <;> intro h230
      · skip
        exact absurd h230 (by decide)
      refine kgs ?_
      refine T_perm [0, 2, 3, 1, 4] [true, false, true, true, true] [0, 1, 0, 4, 15] [(2, [4])] (by kernel_rfl) (by kernel_rfl) (by kernel_rfl) rfl (by kernel_rfl) ?_
      refine Rf_ 0 309 rfl rfl rfl rfl rfl _ trivial (Y.z (y_move rfl rfl) rfl) ?_
      refine Rf_ 2 311 rfl rfl rfl rfl rfl _ ⟨rfl, trivial⟩ (Y.z (yL 4 Tryz.underlying25) rfl) ?_
      refine Rf_ 3 312 rfl rfl rfl rfl rfl _ trivial (Z.of (z_len rfl rfl Tryz.underlying25)) ?_
      refine R_chain 1 rfl rfl ?_
      refine S_callM 310 [(901, 901), (902, 902)] (X := Unit) rfl rfl rfl rfl rfl rfl rfl cf31 rfl (fun _ => .int .i64 ((m).length : Nat)) (fun _ => True) (fun _ => [(901, ixBox b bm), (902, ixMap bm (m))]) (fun _ => rfl) (fun _ => rfl) (fun K1 hK1 w1 hM => Size_any hK1 b bm (m) w1 hM) ?_
      intro _ _
      refine R_next ⟨.inr ⟨rfl, trivial⟩, trivial⟩ ?_
      refine Rf_ 4 313 rfl rfl rfl rfl rfl _ trivial (Y.z (y_as (v' := .bool false) (by rw [hE.len]; simp) (y_bin rfl rfl rfl (fun _ => b_neq))) rfl) ?_
      refine R_go (fun _ _ h => h) ?_
      refine T_cond rfl ?_ ?_ <;> intro h313
      · skip
        cases h313
      refine kgr ?_
      refine s1 (y_bin rfl rfl rfl (fun hg => b_add (by omega))) ?_
      refine sr 1 ?_
      refine S_nil (nS7 (kf := [(2, 2), (7, 38), (43, 314)]) (kl := [(2, 2), (4, 4), (7, 38), (43, 314), (901, 902), (920, 920), (950, 951)]) (i + 1) (m) (rs) (l) (r2) A2 c2 ?_ ?_ ?_ ?_)
      · omega
      · exact ⟨by omega, hix, hil, hE⟩
      · exact ⟨rfl, trivial⟩
      · exact ⟨rfl, rfl, rfl, rfl, rfl, rfl, trivial⟩
    refine tx ?_
    refine sr 2 ?_
    refine sgo ?_
    refine T_cond rfl ?_ ?_ <;> intro h231
    · skip
      refine tx ?_
      refine sr 1 ?_
      refine s1 (yA 8 rfl Tryz.underlying36 sz36) ?_
      refine s1 (yF fa40_5) ?_
      refine s1 (yL 7 Tryz.underlying3) ?_
      refine s1 (yF fa40_3) ?_
      refine s1 (yL 7 Tryz.underlying9) ?_
      refine s1 (yF fa40_6) ?_
      refine s1 (yL 7 Tryz.underlying3) ?_
      refine S_callN 242 [(901, 901), (902, 902), (950, 950)] [(915, 915)] (X := Option Addr × Nat) rfl rfl rfl rfl rfl rfl rfl cf20 rfl (fun z => .tuple #[.slice z.1 (facR x by_ nm mo m).length z.2, .int .i64 (facNo x by_ nm mo)]) (fun _ => True) (fun z => [(901, ixBox b bm), (902, ixMap bm m), (950, .many rs), (915, ownFc z.1 z.2 (facR x by_ nm mo m))]) (fun _ => rfl) (fun _ => rfl) (fun K1 hK1 w1 hM => Facets_any hK1 b bm m rs x by_ nm mo w1 hix hxc hm hM) ?_
      rintro ⟨zA, zc⟩ _
      refine sr 5 ?_
      refine sgx ?_
      refine s1 (yA 8 rfl Tryz.underlying36 sz36) ?_
      refine s1 (yF fa40_5) ?_
      refine s1 (yL 7 Tryz.underlying3) ?_
      refine s1 (yF fa40_3) ?_
      refine s1 (yL 7 Tryz.underlying9) ?_
      refine s1 (yF fa40_6) ?_
      refine s1 (yL 7 Tryz.underlying3) ?_
      refine s1 (y_call rfl rfl rfl cf21 (fun _ w1 hM => FacetsFault_any x by_ nm mo w1 (hxc.lift hM.below) hxb)) ?_
      refine sr 1 ?_
      refine sgx ?_
      refine S_nilSlice 26 (e := 63) (size := 3) ?_
      refine sr 1 ?_
      refine sgs ?_
      refine tx ?_
      refine sr 2 ?_
      refine sgo ?_
      refine T_cond rfl ?_ ?_ <;> intro h254
      · skip
        have h254 : facNo x by_ nm mo = 0 := by simpa using h254
        obtain ⟨hr0, hr1, hr2⟩ := fac_rng h254
        obtain ⟨k0, rfl⟩ : ∃ n : Nat, mo = n := ⟨mo.toNat, by omega⟩
        have hfs := fac_same hE h254
        have hfn := facR_len x by_ nm k0 m
        refine T_region ?_
        refine s1 (yL 4 Tryz.underlying25) ?_
        refine s1 (yA 8 rfl Tryz.underlying36 sz36) ?_
        refine s1 (yF fa40_5) ?_
        refine s1 (yL 7 Tryz.underlying3) ?_
        refine s1 (yF fa40_3) ?_
        refine s1 (yL 7 Tryz.underlying9) ?_
        refine s1 (yF fa40_6) ?_
        refine s1 (yL 7 Tryz.underlying3) ?_
        refine S_callOwn 263 263 rfl rfl rfl rfl rfl rfl rfl cf22 (fun A c => .slice A (((facS (prsE (filI x l) by_ nm)).take k0).length) c) 63 3 (((facS (prsE (filI x l) by_ nm)).take k0).length) (((facS (prsE (filI x l) by_ nm)).take k0).flatMap Fac.enc) (fun w1 hM => FacetsOf_any A2 l.length c2 l x by_ nm k0 w1 (owned_T (enc := Evt.enc) hM rfl (i := 920) rfl) (by omega) (fun a ha => ⟨(hil.ok a ha).2.at hM 951 rfl, ev_small (hil.ok a ha).1⟩) (fun a ha => (hil.ok a ha).1) (hxc.lift hM.below) (cond_ch hr0) (hm.below hM.below) (by omega)) ?_
        intro A263 c263
        refine sr 1 ?_
        refine sgx ?_
        refine sr 4 ?_
        refine s1 (y_call rfl rfl rfl cf23 (fun _ w1 hM => listedFc_any _ _ _ _ _ _ (facR x by_ nm k0 m) ((facS (prsE (filI x l) by_ nm)).take k0) _ _ w1 (owned_T (enc := Fac.enc) hM rfl (i := 915) rfl) (owned_T (enc := Fac.enc) hM rfl (i := 263) rfl) (by omega) (by rw [hfs]; omega) rfl (fun h => absurd h254 h) (fun _ => hfs))) ?_
        refine sr 1 ?_
        refine sgo ?_
        refine T_cond rfl ?_ ?_ <;> intro h269
        · skip
          exact absurd h269 (by decide)
        refine kgs ?_
        refine T_perm [0, 2, 3, 1, 4] [true, false, true, true, true] [0, 1, 0, 4, 15] [(2, [4])] (by kernel_rfl) (by kernel_rfl) (by kernel_rfl) rfl (by kernel_rfl) ?_
        refine Rf_ 0 309 rfl rfl rfl rfl rfl _ trivial (Y.z (y_move rfl rfl) rfl) ?_
        refine Rf_ 2 311 rfl rfl rfl rfl rfl _ ⟨rfl, trivial⟩ (Y.z (yL 4 Tryz.underlying25) rfl) ?_
        refine Rf_ 3 312 rfl rfl rfl rfl rfl _ trivial (Z.of (z_len rfl rfl Tryz.underlying25)) ?_
        refine R_chain 1 rfl rfl ?_
        refine S_callM 310 [(901, 901), (902, 902)] (X := Unit) rfl rfl rfl rfl rfl rfl rfl cf31 rfl (fun _ => .int .i64 ((m).length : Nat)) (fun _ => True) (fun _ => [(901, ixBox b bm), (902, ixMap bm (m))]) (fun _ => rfl) (fun _ => rfl) (fun K1 hK1 w1 hM => Size_any hK1 b bm (m) w1 hM) ?_
        intro _ _
        refine R_next ⟨.inr ⟨rfl, trivial⟩, trivial⟩ ?_
        refine Rf_ 4 313 rfl rfl rfl rfl rfl _ trivial (Y.z (y_as (v' := .bool false) (by rw [hE.len]; simp) (y_bin rfl rfl rfl (fun _ => b_neq))) rfl) ?_
        refine R_go (fun _ _ h => h) ?_
        refine T_cond rfl ?_ ?_ <;> intro h313
        · skip
          cases h313
        refine kgr ?_
        refine s1 (y_bin rfl rfl rfl (fun hg => b_add (by omega))) ?_
        refine sr 1 ?_
        refine S_nil (nS7 (kf := [(2, 2), (7, 38), (43, 314)]) (kl := [(2, 2), (4, 4), (7, 38), (43, 314), (901, 902), (920, 920), (950, 951)]) (i + 1) (m) (rs) (l) (r2) A2 c2 ?_ ?_ ?_ ?_)
        · omega
        · exact ⟨by omega, hix, hil, hE⟩
        · exact ⟨rfl, trivial⟩
        · exact ⟨rfl, rfl, rfl, rfl, rfl, rfl, trivial⟩
      have h254 : ¬ facNo x by_ nm mo = 0 := by simpa using h254
      have hfn : facR x by_ nm mo m = [] := if_neg h254
      refine kgx ?_
      refine sr 4 ?_
      refine s1 (y_call rfl rfl rfl cf23 (fun _ w1 hM => listedFc_any _ _ _ _ _ _ (facR x by_ nm mo m) [] _ _ w1 (owned_T (enc := Fac.enc) hM rfl (i := 915) rfl) (owned_T (enc := Fac.enc) hM rfl (i := 26) rfl) (by rw [hfn]; exact Nat.zero_le _) (by omega) rfl (fun h => if_neg h) (fun h => absurd h h254))) ?_
      refine sr 1 ?_
      refine sgo ?_
      refine T_cond rfl ?_ ?_ <;> intro h269
      · skip
        exact absurd h269 (by decide)
      refine kgs ?_
      refine T_perm [0, 2, 3, 1, 4] [true, false, true, true, true] [0, 1, 0, 4, 15] [(2, [4])] (by kernel_rfl) (by kernel_rfl) (by kernel_rfl) rfl (by kernel_rfl) ?_
      refine Rf_ 0 309 rfl rfl rfl rfl rfl _ trivial (Y.z (y_move rfl rfl) rfl) ?_
      refine Rf_ 2 311 rfl rfl rfl rfl rfl _ ⟨rfl, trivial⟩ (Y.z (yL 4 Tryz.underlying25) rfl) ?_
      refine Rf_ 3 312 rfl rfl rfl rfl rfl _ trivial (Z.of (z_len rfl rfl Tryz.underlying25)) ?_
      refine R_chain 1 rfl rfl ?_
      refine S_callM 310 [(901, 901), (902, 902)] (X := Unit) rfl rfl rfl rfl rfl rfl rfl cf31 rfl (fun _ => .int .i64 ((m).length : Nat)) (fun _ => True) (fun _ => [(901, ixBox b bm), (902, ixMap bm (m))]) (fun _ => rfl) (fun _ => rfl) (fun K1 hK1 w1 hM => Size_any hK1 b bm (m) w1 hM) ?_
      intro _ _
      refine R_next ⟨.inr ⟨rfl, trivial⟩, trivial⟩ ?_
      refine Rf_ 4 313 rfl rfl rfl rfl rfl _ trivial (Y.z (y_as (v' := .bool false) (by rw [hE.len]; simp) (y_bin rfl rfl rfl (fun _ => b_neq))) rfl) ?_
      refine R_go (fun _ _ h => h) ?_
      refine T_cond rfl ?_ ?_ <;> intro h313
      · skip
        cases h313
      refine kgr ?_
      refine s1 (y_bin rfl rfl rfl (fun hg => b_add (by omega))) ?_
      refine sr 1 ?_
      refine S_nil (nS7 (kf := [(2, 2), (7, 38), (43, 314)]) (kl := [(2, 2), (4, 4), (7, 38), (43, 314), (901, 902), (920, 920), (950, 951)]) (i + 1) (m) (rs) (l) (r2) A2 c2 ?_ ?_ ?_ ?_)
      · omega
      · exact ⟨by omega, hix, hil, hE⟩
      · exact ⟨rfl, trivial⟩
      · exact ⟨rfl, rfl, rfl, rfl, rfl, rfl, trivial⟩
    refine tx ?_
    refine sr 2 ?_
    refine sgo ?_
    refine T_cond rfl ?_ ?_ <;> intro h270
    · skip
      refine tx ?_
      refine sr 1 ?_
      refine s1 (yA 8 rfl Tryz.underlying36 sz36) ?_
      refine s1 (yF fa40_7) ?_
      refine s1 (yL 7 Tryz.underlying3) ?_
      refine s1 (yF fa40_8) ?_
      refine s1 (yL 7 Tryz.underlying3) ?_
      refine s1 (yF fa40_9) ?_
      refine s1 (yL 7 Tryz.underlying3) ?_
      refine S_callN 281 [(901, 901), (902, 902), (950, 950)] [(913, 913)] (X := Option Addr × Nat) rfl rfl rfl rfl rfl rfl rfl cf24 rfl (fun z => .tuple #[.slice z.1 (binR x fr st mn m).length z.2, .int .i64 (binNo x fr st mn)]) (fun _ => True) (fun z => [(901, ixBox b bm), (902, ixMap bm m), (950, .many rs), (913, ownBn z.1 z.2 (binR x fr st mn m))]) (fun _ => rfl) (fun _ => rfl) (fun K1 hK1 w1 hM => Bins_any hK1 b bm m rs x fr st mn w1 hix hxc hm hM) ?_
      rintro ⟨zA, zc⟩ _
      refine sr 5 ?_
      refine sgx ?_
      refine s1 (yA 8 rfl Tryz.underlying36 sz36) ?_
      refine s1 (yF fa40_7) ?_
      refine s1 (yL 7 Tryz.underlying3) ?_
      refine s1 (yF fa40_8) ?_
      refine s1 (yL 7 Tryz.underlying3) ?_
      refine s1 (yF fa40_9) ?_
      refine s1 (yL 7 Tryz.underlying3) ?_
      refine s1 (y_call rfl rfl rfl cf25 (fun _ w1 hM => BinsFault_any x fr st mn w1 (hxc.lift hM.below) hxb)) ?_
      refine sr 1 ?_
      refine sgx ?_
      refine S_nilSlice 30 (e := 71) (size := 3) ?_
      refine sr 1 ?_
      refine sgs ?_
      refine tx ?_
      refine sr 2 ?_
      refine sgo ?_
      refine T_cond rfl ?_ ?_ <;> intro h293
      · skip
        have h293 : binNo x fr st mn = 0 := by simpa using h293
        obtain ⟨hr0, hr1, hr2, hr3, hr4⟩ := bin_rng h293
        obtain ⟨n0, rfl⟩ : ∃ n : Nat, mn = n := ⟨mn.toNat, by omega⟩
        have hbs := bin_same hE h293
        have hbn := binR_len x fr st n0 m
        refine T_region ?_
        refine s1 (yL 4 Tryz.underlying25) ?_
        refine s1 (yA 8 rfl Tryz.underlying36 sz36) ?_
        refine s1 (yF fa40_7) ?_
        refine s1 (yL 7 Tryz.underlying3) ?_
        refine s1 (yF fa40_8) ?_
        refine s1 (yL 7 Tryz.underlying3) ?_
        refine s1 (yF fa40_9) ?_
        refine s1 (yL 7 Tryz.underlying3) ?_
        refine S_callOwn 302 302 rfl rfl rfl rfl rfl rfl rfl cf26 (fun A c => .slice A ((binsL (filI x l) fr st n0).length) c) 71 3 ((binsL (filI x l) fr st n0).length) ((binsL (filI x l) fr st n0).flatMap Bn.enc) (fun w1 hM => BinsOf_any A2 l.length c2 l x fr st n0 w1 (owned_T (enc := Evt.enc) hM rfl (i := 920) rfl) (by omega) (fun a ha => ⟨(hil.ok a ha).2.at hM 951 rfl, ev_small (hil.ok a ha).1⟩) (fun a ha => (hil.ok a ha).1) (hxc.lift hM.below) (cond_ch hr0) (hm.below hM.below) hr1 hr2 (by omega)) ?_
        intro A302 c302
        refine sr 1 ?_
        refine sgx ?_
        refine sr 4 ?_
        refine s1 (y_call rfl rfl rfl cf27 (fun _ w1 hM => listedBn_any _ _ _ _ _ _ (binR x fr st n0 m) (binsL (filI x l) fr st n0) _ _ w1 (owned_T (enc := Bn.enc) hM rfl (i := 913) rfl) (owned_T (enc := Bn.enc) hM rfl (i := 302) rfl) (by omega) (by rw [hbs]; omega) rfl (fun h => absurd h293 h) (fun _ => hbs))) ?_
        refine sr 1 ?_
        refine sgo ?_
        refine T_cond rfl ?_ ?_ <;> intro h308
        · skip
          exact absurd h308 (by decide)
        refine kgs ?_
        refine T_perm [0, 2, 3, 1, 4] [true, false, true, true, true] [0, 1, 0, 4, 15] [(2, [4])] (by kernel_rfl) (by kernel_rfl) (by kernel_rfl) rfl (by kernel_rfl) ?_
        refine Rf_ 0 309 rfl rfl rfl rfl rfl _ trivial (Y.z (y_move rfl rfl) rfl) ?_
        refine Rf_ 2 311 rfl rfl rfl rfl rfl _ ⟨rfl, trivial⟩ (Y.z (yL 4 Tryz.underlying25) rfl) ?_
        refine Rf_ 3 312 rfl rfl rfl rfl rfl _ trivial (Z.of (z_len rfl rfl Tryz.underlying25)) ?_
        refine R_chain 1 rfl rfl ?_
        refine S_callM 310 [(901, 901), (902, 902)] (X := Unit) rfl rfl rfl rfl rfl rfl rfl cf31 rfl (fun _ => .int .i64 ((m).length : Nat)) (fun _ => True) (fun _ => [(901, ixBox b bm), (902, ixMap bm (m))]) (fun _ => rfl) (fun _ => rfl) (fun K1 hK1 w1 hM => Size_any hK1 b bm (m) w1 hM) ?_
        intro _ _
        refine R_next ⟨.inr ⟨rfl, trivial⟩, trivial⟩ ?_
        refine Rf_ 4 313 rfl rfl rfl rfl rfl _ trivial (Y.z (y_as (v' := .bool false) (by rw [hE.len]; simp) (y_bin rfl rfl rfl (fun _ => b_neq))) rfl) ?_
        refine R_go (fun _ _ h => h) ?_
        refine T_cond rfl ?_ ?_ <;> intro h313
        · skip
          cases h313
        refine kgr ?_
        refine s1 (y_bin rfl rfl rfl (fun hg => b_add (by omega))) ?_
        refine sr 1 ?_
        refine S_nil (nS7 (kf := [(2, 2), (7, 38), (43, 314)]) (kl := [(2, 2), (4, 4), (7, 38), (43, 314), (901, 902), (920, 920), (950, 951)]) (i + 1) (m) (rs) (l) (r2) A2 c2 ?_ ?_ ?_ ?_)
        · omega
        · exact ⟨by omega, hix, hil, hE⟩
        · exact ⟨rfl, trivial⟩
        · exact ⟨rfl, rfl, rfl, rfl, rfl, rfl, trivial⟩
      have h293 : ¬ binNo x fr st mn = 0 := by simpa using h293
      have hbn : binR x fr st mn m = [] := if_neg h293
      refine kgx ?_
      refine sr 4 ?_
      refine s1 (y_call rfl rfl rfl cf27 (fun _ w1 hM => listedBn_any _ _ _ _ _ _ (binR x fr st mn m) [] _ _ w1 (owned_T (enc := Bn.enc) hM rfl (i := 913) rfl) (owned_T (enc := Bn.enc) hM rfl (i := 30) rfl) (by rw [hbn]; exact Nat.zero_le _) (by omega) rfl (fun h => if_neg h) (fun h => absurd h h293))) ?_
      refine sr 1 ?_
      refine sgo ?_
      refine T_cond rfl ?_ ?_ <;> intro h308
      · skip
        exact absurd h308 (by decide)
      refine kgs ?_
      refine T_perm [0, 2, 3, 1, 4] [true, false, true, true, true] [0, 1, 0, 4, 15] [(2, [4])] (by kernel_rfl) (by kernel_rfl) (by kernel_rfl) rfl (by kernel_rfl) ?_
      refine Rf_ 0 309 rfl rfl rfl rfl rfl _ trivial (Y.z (y_move rfl rfl) rfl) ?_
      refine Rf_ 2 311 rfl rfl rfl rfl rfl _ ⟨rfl, trivial⟩ (Y.z (yL 4 Tryz.underlying25) rfl) ?_
      refine Rf_ 3 312 rfl rfl rfl rfl rfl _ trivial (Z.of (z_len rfl rfl Tryz.underlying25)) ?_
      refine R_chain 1 rfl rfl ?_
      refine S_callM 310 [(901, 901), (902, 902)] (X := Unit) rfl rfl rfl rfl rfl rfl rfl cf31 rfl (fun _ => .int .i64 ((m).length : Nat)) (fun _ => True) (fun _ => [(901, ixBox b bm), (902, ixMap bm (m))]) (fun _ => rfl) (fun _ => rfl) (fun K1 hK1 w1 hM => Size_any hK1 b bm (m) w1 hM) ?_
      intro _ _
      refine R_next ⟨.inr ⟨rfl, trivial⟩, trivial⟩ ?_
      refine Rf_ 4 313 rfl rfl rfl rfl rfl _ trivial (Y.z (y_as (v' := .bool false) (by rw [hE.len]; simp) (y_bin rfl rfl rfl (fun _ => b_neq))) rfl) ?_
      refine R_go (fun _ _ h => h) ?_
      refine T_cond rfl ?_ ?_ <;> intro h313
      · skip
        cases h313
      refine kgr ?_
      refine s1 (y_bin rfl rfl rfl (fun hg => b_add (by omega))) ?_
      refine sr 1 ?_
      refine S_nil (nS7 (kf := [(2, 2), (7, 38), (43, 314)]) (kl := [(2, 2), (4, 4), (7, 38), (43, 314), (901, 902), (920, 920), (950, 951)]) (i + 1) (m) (rs) (l) (r2) A2 c2 ?_ ?_ ?_ ?_)
      · omega
      · exact ⟨by omega, hix, hil, hE⟩
      · exact ⟨rfl, trivial⟩
      · exact ⟨rfl, rfl, rfl, rfl, rfl, rfl, trivial⟩
    refine tx ?_
    refine sr 1 ?_
    refine s1 (yA 8 rfl Tryz.underlying36 sz36) ?_
    refine s1 (yF fa40_7) ?_
    refine s1 (yL 7 Tryz.underlying3) ?_
    refine s1 (yF fa40_8) ?_
    refine s1 (yL 7 Tryz.underlying3) ?_
    refine S_callM 59 [(901, 901), (902, 902), (950, 950)] (X := Unit) rfl rfl rfl rfl rfl rfl rfl cf28 rfl (fun _ => .tuple #[.int .i64 (trnU x fr st m), .int .i64 (trnV x fr st m), .int .i64 (trnG x fr st m), .int .i64 (trnNo x fr st)]) (fun _ => True) (fun _ => [(901, ixBox b bm), (902, ixMap bm m), (950, .many rs)]) (fun _ => rfl) (fun _ => rfl) (fun K1 hK1 w1 hM => Trend_any hK1 b bm m rs x fr st w1 hix hxc hm hM) ?_
    intro _ _
    refine sr 9 ?_
    refine sgx ?_
    refine s1 (yA 8 rfl Tryz.underlying36 sz36) ?_
    refine s1 (yF fa40_7) ?_
    refine s1 (yL 7 Tryz.underlying3) ?_
    refine s1 (yF fa40_8) ?_
    refine s1 (yL 7 Tryz.underlying3) ?_
    refine s1 (y_call rfl rfl rfl cf29 (fun _ w1 hM => TrendFault_any x fr st w1 (hxc.lift hM.below) hxb)) ?_
    refine sr 1 ?_
    refine sgx ?_
    refine sr 3 ?_
    refine sgs ?_
    refine tx ?_
    refine sr 2 ?_
    refine sgo ?_
    refine T_cond rfl ?_ ?_ <;> intro h71
    · skip
      have h71 : trnNo x fr st = 0 := by simpa using h71
      obtain ⟨hr0, hr1, hr2⟩ := trn_rng h71
      refine T_region ?_
      refine s1 (yL 4 Tryz.underlying25) ?_
      refine s1 (yA 8 rfl Tryz.underlying36 sz36) ?_
      refine s1 (yF fa40_7) ?_
      refine s1 (yL 7 Tryz.underlying3) ?_
      refine s1 (yF fa40_8) ?_
      refine s1 (yL 7 Tryz.underlying3) ?_
      refine s1 (y_call rfl rfl rfl cf30 (fun _ w1 hM => TrendOf_any A2 l.length c2 l x fr st w1 (owned_T (enc := Evt.enc) hM rfl (i := 920) rfl) (by omega) (fun a ha => ⟨(hil.ok a ha).2.at hM 951 rfl, ev_small (hil.ok a ha).1⟩) (fun a ha => (hil.ok a ha).1) (hxc.lift hM.below) (cond_ch hr0) (hm.below hM.below) hr1 hr2)) ?_
      refine sr 7 ?_
      refine sgx ?_
      refine sr 2 ?_
      refine s1 (y_as (v' := .bool false) (by rw [trnU, if_pos h71, sW_can (fil_same hE x)]; simp) (y_bin rfl rfl rfl (fun _ => b_neq))) ?_
      refine sr 1 ?_
      refine sg rfl (y_move rfl rfl) ?_
      refine sg rfl (y_move rfl rfl) ?_
      refine sg rfl (y_as (v' := .bool false) (by rw [trnV, if_pos h71, sW_can (fil_same hE x)]; simp) (y_bin rfl rfl rfl (fun _ => b_neq))) ?_
      refine s1 (y_or rfl rfl rfl) ?_
      refine sr 1 ?_
      refine sg rfl (y_move rfl rfl) ?_
      refine sg rfl (y_move rfl rfl) ?_
      refine sg rfl (y_as (v' := .bool false) (by rw [trnG, if_pos h71, sW_can (fil_same hE x), sW_can (fil_same hE x)]; simp) (y_bin rfl rfl rfl (fun _ => b_neq))) ?_
      refine s1 (y_or rfl rfl rfl) ?_
      refine sr 1 ?_
      refine sg rfl (y_move rfl rfl) ?_
      refine sg rfl (y_move rfl rfl) ?_
      refine sg rfl (y_as (v' := .bool false) (by simp) (y_bin rfl rfl rfl (fun _ => b_neq))) ?_
      refine s1 (y_or rfl rfl rfl) ?_
      refine sgo ?_
      refine T_cond rfl ?_ ?_ <;> intro h100
      · skip
        exact absurd h100 (by decide)
      refine kgs ?_
      refine T_perm [0, 2, 3, 1, 4] [true, false, true, true, true] [0, 1, 0, 4, 15] [(2, [4])] (by kernel_rfl) (by kernel_rfl) (by kernel_rfl) rfl (by kernel_rfl) ?_
      refine Rf_ 0 309 rfl rfl rfl rfl rfl _ trivial (Y.z (y_move rfl rfl) rfl) ?_
      refine Rf_ 2 311 rfl rfl rfl rfl rfl _ ⟨rfl, trivial⟩ (Y.z (yL 4 Tryz.underlying25) rfl) ?_
      refine Rf_ 3 312 rfl rfl rfl rfl rfl _ trivial (Z.of (z_len rfl rfl Tryz.underlying25)) ?_
      refine R_chain 1 rfl rfl ?_
      refine S_callM 310 [(901, 901), (902, 902)] (X := Unit) rfl rfl rfl rfl rfl rfl rfl cf31 rfl (fun _ => .int .i64 ((m).length : Nat)) (fun _ => True) (fun _ => [(901, ixBox b bm), (902, ixMap bm (m))]) (fun _ => rfl) (fun _ => rfl) (fun K1 hK1 w1 hM => Size_any hK1 b bm (m) w1 hM) ?_
      intro _ _
      refine R_next ⟨.inr ⟨rfl, trivial⟩, trivial⟩ ?_
      refine Rf_ 4 313 rfl rfl rfl rfl rfl _ trivial (Y.z (y_as (v' := .bool false) (by rw [hE.len]; simp) (y_bin rfl rfl rfl (fun _ => b_neq))) rfl) ?_
      refine R_go (fun _ _ h => h) ?_
      refine T_cond rfl ?_ ?_ <;> intro h313
      · skip
        cases h313
      refine kgr ?_
      refine s1 (y_bin rfl rfl rfl (fun hg => b_add (by omega))) ?_
      refine sr 1 ?_
      refine S_nil (nS7 (kf := [(2, 2), (7, 38), (43, 314)]) (kl := [(2, 2), (4, 4), (7, 38), (43, 314), (901, 902), (920, 920), (950, 951)]) (i + 1) (m) (rs) (l) (r2) A2 c2 ?_ ?_ ?_ ?_)
      · omega
      · exact ⟨by omega, hix, hil, hE⟩
      · exact ⟨rfl, trivial⟩
      · exact ⟨rfl, rfl, rfl, rfl, rfl, rfl, trivial⟩
    have h71 : ¬ trnNo x fr st = 0 := by simpa using h71
    refine kgx ?_
    refine sr 2 ?_
    refine s1 (y_as (v' := .bool false) (by rw [trnU, if_neg h71]; simp) (y_bin rfl rfl rfl (fun _ => b_neq))) ?_
    refine sr 1 ?_
    refine sg rfl (y_move rfl rfl) ?_
    refine sg rfl (y_move rfl rfl) ?_
    refine sg rfl (y_as (v' := .bool false) (by rw [trnV, if_neg h71]; simp) (y_bin rfl rfl rfl (fun _ => b_neq))) ?_
    refine s1 (y_or rfl rfl rfl) ?_
    refine sr 1 ?_
    refine sg rfl (y_move rfl rfl) ?_
    refine sg rfl (y_move rfl rfl) ?_
    refine sg rfl (y_as (v' := .bool false) (by rw [trnG, if_neg h71]; simp) (y_bin rfl rfl rfl (fun _ => b_neq))) ?_
    refine s1 (y_or rfl rfl rfl) ?_
    refine sr 1 ?_
    refine sg rfl (y_move rfl rfl) ?_
    refine sg rfl (y_move rfl rfl) ?_
    refine sg rfl (y_as (v' := .bool false) (by simp) (y_bin rfl rfl rfl (fun _ => b_neq))) ?_
    refine s1 (y_or rfl rfl rfl) ?_
    refine sgo ?_
    refine T_cond rfl ?_ ?_ <;> intro h100
    · skip
      exact absurd h100 (by decide)
    refine kgs ?_
    refine T_perm [0, 2, 3, 1, 4] [true, false, true, true, true] [0, 1, 0, 4, 15] [(2, [4])] (by kernel_rfl) (by kernel_rfl) (by kernel_rfl) rfl (by kernel_rfl) ?_
    refine Rf_ 0 309 rfl rfl rfl rfl rfl _ trivial (Y.z (y_move rfl rfl) rfl) ?_
    refine Rf_ 2 311 rfl rfl rfl rfl rfl _ ⟨rfl, trivial⟩ (Y.z (yL 4 Tryz.underlying25) rfl) ?_
    refine Rf_ 3 312 rfl rfl rfl rfl rfl _ trivial (Z.of (z_len rfl rfl Tryz.underlying25)) ?_
    refine R_chain 1 rfl rfl ?_
    refine S_callM 310 [(901, 901), (902, 902)] (X := Unit) rfl rfl rfl rfl rfl rfl rfl cf31 rfl (fun _ => .int .i64 ((m).length : Nat)) (fun _ => True) (fun _ => [(901, ixBox b bm), (902, ixMap bm (m))]) (fun _ => rfl) (fun _ => rfl) (fun K1 hK1 w1 hM => Size_any hK1 b bm (m) w1 hM) ?_
    intro _ _
    refine R_next ⟨.inr ⟨rfl, trivial⟩, trivial⟩ ?_
    refine Rf_ 4 313 rfl rfl rfl rfl rfl _ trivial (Y.z (y_as (v' := .bool false) (by rw [hE.len]; simp) (y_bin rfl rfl rfl (fun _ => b_neq))) rfl) ?_
    refine R_go (fun _ _ h => h) ?_
    refine T_cond rfl ?_ ?_ <;> intro h313
    · skip
      cases h313
    refine kgr ?_
    refine s1 (y_bin rfl rfl rfl (fun hg => b_add (by omega))) ?_
    refine sr 1 ?_
    refine S_nil (nS7 (kf := [(2, 2), (7, 38), (43, 314)]) (kl := [(2, 2), (4, 4), (7, 38), (43, 314), (901, 902), (920, 920), (950, 951)]) (i + 1) (m) (rs) (l) (r2) A2 c2 ?_ ?_ ?_ ?_)
    · omega
    · exact ⟨by omega, hix, hil, hE⟩
    · exact ⟨rfl, trivial⟩
    · exact ⟨rfl, rfl, rfl, rfl, rfl, rfl, trivial⟩
  try simp only [nrm] at h44
  refine egx ?_
  refine sr 1 ?_
  refine sgo ?_
  refine tr1 hRb fun w hM => ?_
  exact ⟨rfl, hM.below⟩
end Go.Proofs.YtekbcbjimajnfaaGreatDoor
end
section
namespace Go.Proofs.YtekbcbjimajnfaaGreatDoor
set_option linter.unusedSimpArgs false
set_option linter.unusedVariables false
set_option maxRecDepth 20000
open Go.RowKit Go.Eng
structure SAk where
  x : SC
  ab : Int
  dn : Bool
  af : Int
  am : Int
def SAk.enc (a : SAk) : List Value := [.int .i64 a.x.op, .slice a.x.ad a.x.q a.x.c, .int .i64 a.x.lo, .int .i64 a.x.hi, str a.x.nm, str a.x.tx, .int .i64 a.ab, .bool a.dn, .int .i64 a.af, .int .i64 a.am]
section
variable {H : Type} {enc : TypeId × Value → H} {w : World}
theorem op_ask : Opn enc Tryz.prog w 38 SAk.enc (fun a => a.x.Ok w) (fun a d => cntP a.x.says ≤ Rows.uptoBulk d) :=
  (opn_struct Tryz.underlying38 co38 (opf_cons op_cond rfl co36 (opf_cons op_i rfl co3 (opf_cons op_b rfl co4 (opf_cons op_i rfl co3 (opf_cons op_i rfl co3 opf_nil)))))).map
    (fun p => (⟨p.1, p.2.1, p.2.2.1, p.2.2.2.1, p.2.2.2.2.1⟩ : SAk)) (fun _ => rfl) (fun _ h => h.1) (fun p d ⟨ds, hd, d0, r, hds, h0, _⟩ => by
      subst hd; subst hds
      have h0 : cntP p.1.says ≤ Rows.uptoBulk d0 := h0
      show cntP p.1.says ≤ _
      rw [Rows.uptoBulk, Rows.uptoBulkAll]
      omega)
theorem op_cal : Opn enc Tryz.prog w 40 Cal.enc (fun y => y.e.Ok w ∧ y.x.Ok w) (fun y d => cntP y.x.says ≤ Rows.uptoBulk d) :=
  (opn_struct Tryz.underlying40 co40 (opf_cons op_i rfl co3 (opf_cons op_evt rfl co31 (opf_cons op_s rfl co9 (opf_cons op_s rfl co9 (opf_cons op_ask rfl co38 (opf_cons op_i rfl co3 (opf_cons op_i rfl co3 (opf_cons op_i rfl co3 (opf_cons op_i rfl co3 (opf_cons op_i rfl co3 opf_nil))))))))))).map
    (fun p => (⟨p.1, p.2.1, p.2.2.1, p.2.2.2.1, p.2.2.2.2.1.x, p.2.2.2.2.1.ab, p.2.2.2.2.1.dn, p.2.2.2.2.1.af, p.2.2.2.2.1.am, p.2.2.2.2.2.1, p.2.2.2.2.2.2.1, p.2.2.2.2.2.2.2.1, p.2.2.2.2.2.2.2.2.1, p.2.2.2.2.2.2.2.2.2.1⟩ : Cal)) (fun _ => rfl) (fun _ h => ⟨h.2.1, h.2.2.2.2.1⟩) (fun p d ⟨ds, hd, d0, r0, hds, _, d1, r1, hr0, _, d2, r2, hr1, _, d3, r3, hr2, _, d4, r4, hr3, h4, _⟩ => by
      subst hd; subst hds; subst hr0; subst hr1; subst hr2; subst hr3
      show cntP p.2.2.2.2.1.x.says ≤ _
      rw [Rows.uptoBulk, Rows.uptoBulkAll, Rows.uptoBulkAll, Rows.uptoBulkAll, Rows.uptoBulkAll, Rows.uptoBulkAll]
      omega)
theorem bulk_at : ∀ {es : List (DataW H)} {i : Nat} {x : DataW H}, es[i]? = some x → Rows.uptoBulk x ≤ Rows.uptoBulkAll es
  | [], i, x, h => by simp at h
  | a :: r, 0, x, h => by
    simp at h; subst h
    rw [Rows.uptoBulkAll]; omega
  | a :: r, i + 1, x, h => by
    have := bulk_at (es := r) (i := i) (by simpa using h)
    rw [Rows.uptoBulkAll]; omega
theorem op_cals : Opn enc Tryz.prog w 22 (fun s : Sl Cal => [.slice s.A s.q s.c]) (fun s => s.Ok Cal.enc 27 w ∧ s.q ≤ 4611686018427387904 ∧ ∀ y ∈ s.l, y.e.Ok w ∧ y.x.Ok w) (fun s d => ∀ y ∈ s.l, cntP y.x.says ≤ Rows.uptoBulk d) :=
  (opn_slice Tryz.underlying22 co40 (by decide) (by rw [bo40]; decide) (fun _ => rfl) op_cal).map (fun s => s) (fun _ => rfl) (fun s h => ⟨h.1, Nat.le_trans h.2.1 reach_len, h.2.2⟩) (fun s d ⟨es, hd, hl, he⟩ y hy => by
    obtain ⟨i, hi, rfl⟩ := List.mem_iff_getElem.1 hy
    obtain ⟨x, hx⟩ : ∃ x, es[i]? = some x := ⟨_, List.getElem?_eq_getElem (by omega)⟩
    have h1 := he i s.l[i] x (List.getElem?_eq_getElem hi) hx
    have h2 := bulk_at hx
    rcases hd with ⟨rfl, rfl⟩ | ⟨sp, rfl⟩
    · simp at hx
    · rw [Rows.uptoBulk]; exact Nat.le_trans h1 (by omega))
end
end Go.Proofs.YtekbcbjimajnfaaGreatDoor
end
section
namespace Go.Proofs.YtekbcbjimajnfaaGreatDoor
set_option linter.unusedSimpArgs false
set_option linter.unusedVariables false
set_option maxRecDepth 20000
open Go.ChangeShapes Go.WideShapes Go.RowKit
theorem ownNone : ownKnob Tryz.prog.godebug = none := by kernel_rfl
theorem laidOut : laidOutB Tryz.prog = true := by kernel_rfl
def firstCells : Array Value := (Go.Pinned.utf8FirstZ.map fun n : Nat => Value.int .u8 (n : Int)).toArray
def tabCells (k : IntKind) (zs : List Int) : Array Value := (zs.map fun n => Value.int k n).toArray
def rangeZ : List Int := [128, 191, 160, 191, 128, 159, 144, 191, 128, 143, 0, 0, 0, 0, 0, 0, 0, 0, 0, 0, 0, 0, 0, 0, 0, 0, 0, 0, 0, 0, 0, 0]
def layCells (cs : Array Value) : Obj → Obj
  | .cells _ t frozen => .cells cs t frozen
  | o => o
noncomputable def laidWorld (os : Os) (args : Array Value) : World :=
  { World.holding Tryz.prog os ⟨#[], args, []⟩ with heap := ((World.holding Tryz.prog os ⟨#[], args, []⟩).heap.modify 0 (layCells firstCells)).modify 1 (layCells (tabCells .u8 rangeZ)) }
theorem mlen_of {W : World} (h : W.ShapedOpen Tryz.prog) : MLen W := by
  obtain ⟨m, hm⟩ := Tryz.laysM144.s1_3 W h
  refine ⟨m, hm, ?_⟩
  unfold World.cell? at hm
  cases hg : W.heap[2]? with
  | none =>
    have hg' : W.heap[Tryz.laysM144_ren.g 1]? = none := hg
    rw [hg'] at hm; cases hm
  | some o => exact (Array.getElem?_eq_some_iff.1 hg).1
end Go.Proofs.YtekbcbjimajnfaaGreatDoor
end
