/- Part 3, merged by a program. find.(*Index).Facets. Conditions: those of the theorem. What FindSums adds up, in plain lists. No program in sight. find.(*Index).Get. Conditions: those of the theorem. The reference's Copied, the rows of the frames said one by one. Conditions: those of the theorem. The reference's Found, AskFault, Asked, FacetsFault, FacetsOf, BinsFault, BinsOf, TrendFault, TrendOf. Conditions: those of each theorem. The reference's FacetsOf; slices.Delete, IndexFunc of events; listed. Conditions: those of each theorem. slices.Values at strings, and what collects it: the library's range over a function. Conditions: those of each theorem. slices.Sort at strings over a row of ours, slices.Reverse at strings, Collect and Sorted of slices.Values. Conditions: those of each theorem. FindIndexes answers true over any script of calls. Conditions: those of the theorem. find.plain and find.Plain: the plain form, in new memory. Conditions: the condition is right. find.Same. Conditions: those of the theorem. FindPlain answers true, for all conditions and events. Conditions: the arguments lie in memory. FindSums answers true, for all lists of events and all conditions. Conditions: those of the theorem. A world in which the listed tables of Go's hold what their text says, at a seat of conditions; what a row's condition says of the greatest length that is searched. No condition. -/
import Derived.Test.YtekbcbjimajnfaaGreatDoorZip
import Derived.Test.YtekbcbjimajnfaaGreatDoorSorta
import Derived.Test.YtekbcbjimajnfaaGreatDoorDel
import Derived.Test.YtekbcbjimajnfaaGreatDoorEqS
import Derived.RangeFuncNested
import Derived.RangeFuncBox
import Derived.RangeFuncLeaves
import Derived.Shelf.Abstract
import Derived.WalkKit
import Derived.OwnWalkIn
import Derived.TacticsInMore
import Derived.LoopNIn
import Derived.LoopIn
import Derived.Maps.AppendAt
import Derived.Test.YtekbcbjimajnfaaGreatDoorShelf
import Derived.Test.YtekbcbjimajnfaaGreatDoorSrtl
import Derived.Shelf.Sort.Plain
import Derived.Shelf.Slices.In.SortNone
import Derived.Test.YtekbcbjimajnfaaGreatDoorLend
import Derived.Test.YtekbcbjimajnfaaGreatDoorBxr
import Derived.Test.YtekbcbjimajnfaaGreatDoorCopy
import Derived.Test.YtekbcbjimajnfaaGreatDoorUnb
import Derived.Test.YtekbcbjimajnfaaGreatDoorHere
import Derived.Test.YtekbcbjimajnfaaGreatDoorGrd
import Derived.Test.YtekbcbjimajnfaaGreatDoorCards
import Derived.Test.YtekbcbjimajnfaaGreatDoorTie
import Derived.Deep.DeepHandedRow
import Derived.Lib.LaidTab
import Derived.Stop.LaidErr
import Derived.ProofKit
import Derived.OpenShut
import Derived.Test.YtekbcbjimajnfaaGreatDoorPk2
section
namespace Go.Proofs.YtekbcbjimajnfaaGreatDoor
set_option linter.unusedSimpArgs false
set_option linter.unusedVariables false
set_option maxRecDepth 20000
open Go.RowKit Go.Eng
/-! ### numbers of values -/
def posF : List Fac → List UInt8 → Nat → Option Nat
  | [], _, _ => none
  | a :: r, v, i => if v = a.v then some i else posF r v (i + 1)
def numK : List Fac → Nat → List (List UInt8 × Value)
  | [], _ => []
  | a :: r, i => (a.v, .int .i64 (i : Int)) :: numK r (i + 1)
theorem mget_num (v : List UInt8) : ∀ (l : List Fac) (i : Nat), mget (numK l i) v = (posF l v i).map fun j => Value.int .i64 ((j : Nat) : Int)
  | [], i => rfl
  | a :: r, i => by
    rw [numK, mget, posF]
    split
    · rfl
    · exact mget_num v r (i + 1)
theorem num_val (v : List UInt8) (l : List Fac) : Value.tuple #[(mget (numK l 0) v).getD (.int .i64 0), .bool (mget (numK l 0) v).isSome] = .tuple #[.int .i64 ((((posF l v 0).getD 0 : Nat)) : Int), .bool (posF l v 0).isSome] := by
  rw [mget_num]
  cases posF l v 0 <;> rfl
theorem mput_num {v : List UInt8} {a b : Int} : ∀ {l : List Fac} {i : Nat}, posF l v i = none → mput (numK l i) v (.int .i64 ((l.length + i : Nat) : Int)) = numK (l ++ [⟨v, a, b⟩]) i
  | [], i, _ => by rw [List.length_nil, Nat.zero_add]; rfl
  | c :: r, i, h => by
    rw [posF] at h
    split at h
    · cases h
    · rename_i hc
      rw [numK, mput, if_neg hc, List.length_cons, show r.length + 1 + i = r.length + (i + 1) by omega, mput_num h]; rfl
theorem pos_none {v : List UInt8} {w : Int} : ∀ {l : List Fac} {i : Nat}, posF l v i = none → addF l v w = l ++ [⟨v, 1, w⟩]
  | [], i, _ => rfl
  | c :: r, i, h => by
    rw [posF] at h
    split at h
    · cases h
    · rename_i hc
      rw [addF, if_neg hc, pos_none h]; rfl
theorem pos_some {v : List UInt8} : ∀ {l : List Fac} {i n : Nat}, posF l v i = some n → ∃ j f, n = i + j ∧ l[j]? = some f ∧ f.v = v ∧ ∀ w, addF l v w = l.set j ⟨v, f.n + 1, f.s + w⟩
  | [], i, n, h => by cases h
  | c :: r, i, n, h => by
    rw [posF] at h
    split at h
    · rename_i hc
      injection h with h
      exact ⟨0, c, h.symm, rfl, hc.symm, fun w => by rw [addF, if_pos hc]; rfl⟩
    · rename_i hc
      obtain ⟨j, f, h1, h2, h3, h4⟩ := pos_some h
      exact ⟨j + 1, f, by omega, h2, h3, fun w => by rw [addF, if_neg hc, h4]; rfl⟩
theorem numK_set {v : List UInt8} {f g : Fac} (hg : g.v = f.v) : ∀ {l : List Fac} {i j : Nat}, l[j]? = some f → numK (l.set j g) i = numK l i
  | [], i, j, h => by simp at h
  | c :: r, i, 0, h => by
    simp at h; subst h
    show (g.v, _) :: _ = (c.v, _) :: _
    rw [hg]
  | c :: r, i, j + 1, h => by
    have h' : r[j]? = some f := by simpa using h
    show (c.v, _) :: numK (r.set j g) (i + 1) = _
    rw [numK_set (v := v) hg h']; rfl
/-! ### bounds -/
theorem addF_le {N : Nat} {l : List Fac} {v : List UInt8} {w : Int} (hw : 0 ≤ w ∧ w ≤ 1000000) (h : ∀ f ∈ l, (0 ≤ f.n ∧ f.n ≤ (N : Int)) ∧ 0 ≤ f.s ∧ f.s ≤ 1000000 * (N : Int)) : ∀ f ∈ addF l v w, (0 ≤ f.n ∧ f.n ≤ ((N + 1 : Nat) : Int)) ∧ 0 ≤ f.s ∧ f.s ≤ 1000000 * ((N + 1 : Nat) : Int) := by
  induction l with
  | nil =>
    intro f hf
    have hf : f = ⟨v, 1, w⟩ := List.mem_singleton.1 hf
    subst hf
    show ((0 : Int) ≤ 1 ∧ (1 : Int) ≤ _) ∧ 0 ≤ w ∧ w ≤ _
    omega
  | cons a r ih =>
    intro f hf
    rw [addF] at hf
    split at hf
    · rcases List.mem_cons.1 hf with rfl | hf
      · have := h a (List.mem_cons_self ..)
        show (0 ≤ a.n + 1 ∧ a.n + 1 ≤ _) ∧ 0 ≤ a.s + w ∧ a.s + w ≤ _
        omega
      · have := h f (List.mem_cons_of_mem _ hf); omega
    · rcases List.mem_cons.1 hf with rfl | hf
      · have := h f (List.mem_cons_self ..); omega
      · exact ih (fun g hg => h g (List.mem_cons_of_mem _ hg)) f hf
theorem fold_le : ∀ (ps : List FP) (N : Nat) (l : List Fac), (∀ p ∈ ps, 0 ≤ p.2 ∧ p.2 ≤ 1000000) → (∀ f ∈ l, (0 ≤ f.n ∧ f.n ≤ (N : Int)) ∧ 0 ≤ f.s ∧ f.s ≤ 1000000 * (N : Int)) → ∀ f ∈ ps.foldl (fun l p => addF l p.1 p.2) l, (0 ≤ f.n ∧ f.n ≤ ((N + ps.length : Nat) : Int)) ∧ 0 ≤ f.s ∧ f.s ≤ 1000000 * ((N + ps.length : Nat) : Int)
  | [], N, l, _, h => h
  | p :: r, N, l, hp, h => by
    have := fold_le r (N + 1) (addF l p.1 p.2) (fun q hq => hp q (List.mem_cons_of_mem _ hq)) (addF_le (hp p (List.mem_cons_self ..)) h)
    rw [List.length_cons, show N + (r.length + 1) = N + 1 + r.length by omega]
    exact this
theorem facL_le {ps : List FP} (hp : ∀ p ∈ ps, 0 ≤ p.2 ∧ p.2 ≤ 1000000) : ∀ f ∈ facL ps, (0 ≤ f.n ∧ f.n ≤ (ps.length : Int)) ∧ 0 ≤ f.s ∧ f.s ≤ 1000000 * (ps.length : Int) := by
  have := fold_le ps 0 [] hp (fun f hf => by cases hf)
  rw [Nat.zero_add] at this
  exact this
theorem addF_len (l : List Fac) (v : List UInt8) (w : Int) : (addF l v w).length ≤ l.length + 1 := by
  have := congrArg List.length (keysF_add l v w)
  rw [List.length_map] at this
  rw [this]
  split
  · rw [List.length_map]; omega
  · rw [List.length_append, List.length_map]; exact Nat.le_refl _
theorem facL_len (ps : List FP) : (facL ps).length ≤ ps.length := by
  have : ∀ (ps : List FP) (l : List Fac), (ps.foldl (fun l p => addF l p.1 p.2) l).length ≤ l.length + ps.length := by
    intro ps
    induction ps with
    | nil => exact fun _ => Nat.le_refl _
    | cons p r ih => intro l; have h1 := ih (addF l p.1 p.2); have h2 := addF_len l p.1 p.2; simp only [List.foldl_cons, List.length_cons]; omega
  have h := this ps []
  rw [List.length_nil, Nat.zero_add] at h
  exact h
theorem prsE_len {L : List Evt} {by_ : Int} {nm : List UInt8} (h : ∀ e ∈ L, (valsE e by_ nm).length ≤ 11) : (prsE L by_ nm).length ≤ 11 * L.length := by
  induction L with
  | nil => exact Nat.le_refl _
  | cons a r ih =>
    have h1 := h a (List.mem_cons_self ..)
    have h2 := ih fun e he => h e (List.mem_cons_of_mem _ he)
    show (((valsE a by_ nm).map _) ++ prsE r by_ nm).length ≤ _
    rw [List.length_append, List.length_map, List.length_cons]; omega
theorem prsE_wt {L : List Evt} {by_ : Int} {nm : List UInt8} (h : ∀ e ∈ L, 1 ≤ e.wt ∧ e.wt ≤ 1000000) : ∀ p ∈ prsE L by_ nm, 0 ≤ p.2 ∧ p.2 ≤ 1000000 := by
  intro p hp
  obtain ⟨e, he, h1⟩ := List.mem_flatMap.1 hp
  obtain ⟨v, _, rfl⟩ := List.mem_map.1 h1
  have := h e he
  show 0 ≤ e.wt ∧ e.wt ≤ _
  omega
/-- the pairs of some events and of a part of one more -/
def prsK (L : List Evt) (e : Evt) (k : Nat) (by_ : Int) (nm : List UInt8) : List FP := prsE L by_ nm ++ ((valsE e by_ nm).take k).map fun v => (v, e.wt)
theorem prsK_0 (L : List Evt) (e : Evt) (by_ : Int) (nm : List UInt8) : prsK L e 0 by_ nm = prsE L by_ nm := List.append_nil _
theorem prsK_next {L : List Evt} {e : Evt} {k : Nat} {by_ : Int} {nm v : List UInt8} (h : (valsE e by_ nm)[k]? = some v) : facL (prsK L e (k + 1) by_ nm) = addF (facL (prsK L e k by_ nm)) v e.wt := by
  rw [prsK, List.take_add_one, h, Option.toList, List.map_append, ← List.append_assoc]
  exact facL_snoc _ (v, e.wt)
theorem prsK_all {L : List Evt} {e : Evt} {k : Nat} {by_ : Int} {nm : List UInt8} (h : (valsE e by_ nm).length ≤ k) : prsK L e k by_ nm = prsE (L ++ [e]) by_ nm := by
  rw [prsK, List.take_of_length_le h, prsE, prsE, List.flatMap_append]; simp
theorem prsK_len {L : List Evt} {e : Evt} {k : Nat} {by_ : Int} {nm : List UInt8} (h : ∀ e ∈ L, (valsE e by_ nm).length ≤ 11) (h2 : (valsE e by_ nm).length ≤ 11) : (prsK L e k by_ nm).length ≤ 11 * L.length + 11 := by
  have := prsE_len h
  rw [prsK, List.length_append, List.length_map, List.length_take]; omega
theorem prsK_wt {L : List Evt} {e : Evt} {k : Nat} {by_ : Int} {nm : List UInt8} (h : ∀ e ∈ L, 1 ≤ e.wt ∧ e.wt ≤ 1000000) (h2 : 1 ≤ e.wt ∧ e.wt ≤ 1000000) : ∀ p ∈ prsK L e k by_ nm, 0 ≤ p.2 ∧ p.2 ≤ 1000000 := by
  intro p hp
  rcases List.mem_append.1 hp with hp | hp
  · exact prsE_wt h p hp
  · obtain ⟨v, _, rfl⟩ := List.mem_map.1 hp
    show 0 ≤ e.wt ∧ e.wt ≤ _
    omega
theorem vals_11 {e : Evt} {by_ : Int} {nm : List UInt8} (h : evNo e = 0) (ho : OkE e) : (valsE e by_ nm).length ≤ 11 := by
  have h1 := (evNo_lv h).2.2.2
  have h2 := ho.fq.1
  have h3 := (valsE_ok e by_ nm).2
  omega
/-! ### the walk -/
theorem facets1_any (a b : Fac) (w : World) : Calls Tryz.prog 70 #[a.val, b.val] w fun e w' => e = .returned (.int .i64 (cmpF a b)) ∧ Below w.heap.size w w' := by
  refine enter_args (args := [.agg #[str a.v, .int .i64 a.n, .int .i64 a.s], .agg #[str b.v, .int .i64 b.n, .int .i64 b.s]]) (F := _) Tryz.func70 rfl Tryz.ntmps70 rfl rfl ?_
  intro Rb hRb hRn
  refine tx ?_
  refine S_box 2 2 rfl rfl rfl rfl rfl ?_
  intro b2
  refine S_box 3 3 rfl rfl rfl rfl rfl ?_
  intro b3
  refine sr 1 ?_
  refine sgs ?_
  refine T_drawsTail 10 (by kernel_rfl) (by kernel_rfl) ?_
  refine d1 (yF fa63_2) ?_
  refine d1 (yL 3 Tryz.underlying3) ?_
  refine d1 (yF fa63_2) ?_
  refine d1 (yL 2 Tryz.underlying3) ?_
  refine d1 (y_call rfl rfl rfl cf59 (fun _ w _ => cmpJ_any _ _ w)) ?_
  refine d1 (yF fa63_0) ?_
  refine d1 (yL 2 Tryz.underlying9) ?_
  refine d1 (yF fa63_0) ?_
  refine d1 (yL 3 Tryz.underlying9) ?_
  refine d1 (y_call rfl rfl rfl cf66 (fun _ w _ => cmpB_any _ _ w)) ?_
  refine D_tail ?_
  refine S_buildSlice 15 15 rfl rfl rfl rfl rfl Tryz.underlying147 inf3 rfl (by decide) (by decide) rfl rfl (by decide) rfl (_) rfl ?_
  intro b15
  refine s1 (y_call rfl rfl rfl cf65 (fun _ w hM => orX_any _ _ [cmpJ b.s a.s, cmpB a.v b.v] w 2 (by decide) ⟨own_reads hM (i := 15) rfl, rfl⟩)) ?_
  refine sr 1 ?_
  refine sgo ?_
  refine tr1 hRb fun w hM => ?_
  exact ⟨by rw [orL2]; rfl, hM.below⟩
theorem fac_one (x : Fac) : ∀ v ∈ x.enc, v.oneCell' = true := fun v hv => by
  simp only [Fac.enc, List.mem_cons, List.not_mem_nil, or_false] at hv
  rcases hv with rfl | rfl | rfl <;> rfl
theorem SortF_any {w0 : World} {K : HL} (hK : FromK K) (A : Option Addr) (q c : Nat) (l : List Fac) (w : World) (hlen : l.length = q) (hq : q ≤ 1000000) (hM : Mem w0 ([(0, .own 63 3 (.slice A q c) q (l.flatMap Fac.enc))] ++ K) w) :
    Calls Tryz.prog 69 #[.slice A q c, .func (.func 70) #[] #[]] w fun e w' => ∃ l' : List Fac, e = .returned (.tuple #[]) ∧ l' = pdqL cmpF l ∧ Mem w0 ([(0, .own 63 3 (.slice A q c) q (l'.flatMap Fac.enc))] ++ K) w' :=
  sort_own Tryz.laysSort69 (k := 3) (enc := Fac.enc) Tryz.isAgg63 Tryz.sizeOf63 (fun _ => rfl) fac_one cmpF (swo3 cmp3_F)
    70 #[] cf70 hK 63 A q c l w hlen (by omega) (fun w' _ x y => facets1_any x y w') hM
theorem CloneFc_any (A : Option Addr) (q c : Nat) (l : List Fac) (w : World) (hl : SlT Fac.enc 3 w A q l) (hq : q ≤ 1000000) :
    Calls Tryz.prog 71 #[.slice A q c] w fun e w' => ∃ A' c', e = .returned (.slice A' q c') ∧ w'.ownsRow w.heap.size 63 3 (.slice A' q c') q (l.flatMap Fac.enc) ∧ Below w.heap.size w w' := by
  have hlen := hl.len
  refine enter_args (args := [.slice A q c]) (F := _) Tryz.func71 rfl Tryz.ntmps71 rfl rfl ?_
  intro Rb hRb hRn
  refine tx ?_
  refine S_nilSlice 2 (e := 63) (size := 3) ?_
  refine sr 1 ?_
  refine sgs ?_
  refine tx ?_
  refine sr 1 ?_
  refine s1 (y_bin rfl rfl rfl (fun _ => b_eqln Tryz.underlying56)) ?_
  refine sgo ?_
  refine T_cond rfl ?_ ?_ <;> intro h4
  · skip
    refine tx ?_
    refine S_nilSlice 2 (e := 63) (size := 3) ?_
    refine sr 1 ?_
    refine sgo ?_
    refine tr1 hRb fun w hM => ?_
    have hA : A = none := by cases h : A with
      | none => rfl
      | some a => rw [h] at h4; cases h4
    have h0 : q = 0 := by
      rcases Nat.eq_zero_or_pos q with h | h
      · exact h
      · have := hl.isSome h; rw [hA] at this; cases this
    have hn : l = [] := List.eq_nil_of_length_eq_zero (by omega)
    rw [h0, hn]
    exact ⟨none, 0, rfl, World.ownsRow_nil _ _ _ _, hM.below⟩
  refine kgx ?_
  refine S_buildSlice0 5 5 rfl rfl rfl rfl Tryz.underlying56 sz63 ?_
  intro b5
  refine sr 1 ?_
  obtain ⟨i7, hi7, hz7, hs7, hy7⟩ := info_parts inf63
  refine S_appendG 7 5 (news := l.flatMap Fac.enc) rfl rfl rfl rfl rfl rfl rfl (fun w hM => hl.rd.below hM.below) Tryz.underlying56 hi7 hz7 hs7 hy7 rfl (by decide) (allOne_of (fun u hu => by obtain ⟨a, _, ha⟩ := List.mem_flatMap.1 hu; exact fac_one a u ha)) ?_ ?_ (q) (l.flatMap Fac.enc) ?_ ?_ ?_
  · (simp only [maxLen]; omega)
  · omega
  · omega
  · rfl
  intro A7 c7
  refine sr 1 ?_
  refine sgo ?_
  refine tr1 hRb fun w hM => ?_
  exact ⟨A7, c7, rfl, hM.sat 5 _ rfl, hM.below⟩
def facNo (x : SC) (by_ : Int) (nm : List UInt8) (mo : Int) : Int := if condNo x ≠ 0 then condNo x else if (!decide (by_ = 2) && outI by_ 4 7) = true then 10 else if (decide (by_ = 4) && !nameOk nm) = true then 3 else if (!decide (by_ = 4) && !decide (nm = [])) = true then 1 else if outI mo 1 2000 = true then 2 else 0
def facR (x : SC) (by_ : Int) (nm : List UInt8) (mo : Int) (m : List Evt) : List Fac := if facNo x by_ nm mo = 0 then (facS (prsE (filI x m) by_ nm)).take mo.toNat else []
abbrev ownFc (A : Option Addr) (c : Nat) (l : List Fac) : It := .own 63 3 (.slice A l.length c) l.length (l.flatMap Fac.enc)
set_option maxHeartbeats 3200000 in
theorem Facets_any {w0 : World} {K : HL} (hK : FromK K) (b bm : Nat) (m : List Evt) (rs : List Row) (x : SC) (by_ : Int) (nm : List UInt8) (mo : Int) (w : World) (hix : IxOk w0 rs m) (hok : x.Ok w0) (hmx : MLen w0) (hM0 : Mem w0 ([(901, ixBox b bm), (902, ixMap bm m), (950, .many rs)] ++ K) w) :
    Calls Tryz.prog 20 #[.pointer (some ⟨b, 0, none⟩), .agg #[.int .i64 x.op, .slice x.ad x.q x.c, .int .i64 x.lo, .int .i64 x.hi, str x.nm, str x.tx], .int .i64 by_, str nm, .int .i64 mo] w fun en w' => ∃ z : Option Addr × Nat, en = .returned (.tuple #[.slice z.1 (facR x by_ nm mo m).length z.2, .int .i64 (facNo x by_ nm mo)]) ∧ True ∧ Mem w0 ([(901, ixBox b bm), (902, ixMap bm m), (950, .many rs), (915, ownFc z.1 z.2 (facR x by_ nm mo m))] ++ K) w' := by
  have hle := hix.le
  have hpe : ∀ e ∈ m, OkE e := fun e he => OkE.of ((hix.ok e he).2.at hM0 950 rfl)
  refine enterM_args (args := [.pointer (some ⟨b, 0, none⟩), .agg #[.int .i64 x.op, .slice x.ad x.q x.c, .int .i64 x.lo, .int .i64 x.hi, str x.nm, str x.tx], .int .i64 by_, str nm, .int .i64 mo]) (F := _) hM0 Tryz.func20 rfl Tryz.ntmps20 rfl rfl ?_
  intro Rb hRb hRn
  refine tx ?_
  refine S_box 6 6 rfl rfl rfl rfl rfl ?_
  intro b6
  refine S_nilSlice 915 (e := 63) (size := 3) ?_
  refine S_nilSlice 10 (e := 63) (size := 3) ?_
  refine sr 2 ?_
  refine sgs ?_
  refine tx ?_
  refine s1 (yA 6 rfl Tryz.underlying36 sz36) ?_
  refine s1 (y_call rfl rfl rfl cf54 (fun _ w1 hM => CheckCond_any x w1 (hok.lift hM.below))) ?_
  refine sr 1 ?_
  refine sgx ?_
  refine sr 2 ?_
  refine sgo ?_
  refine T_cond rfl ?_ ?_ <;> intro h24
  · skip
    have h24 : ¬ condNo x = 0 := by simpa using h24
    refine tx ?_
    refine sr 1 ?_
    refine S_nilSlice 10 (e := 63) (size := 3) ?_
    refine sr 2 ?_
    refine sgo ?_
    refine tr2 hRb fun w hM => ?_
    have e1 : facNo x by_ nm mo = condNo x := by rw [facNo, if_pos h24]
    have e2 : facR x by_ nm mo m = [] := by rw [facR, if_neg (by rw [e1]; exact h24)]
    rw [e1, e2]
    exact ⟨(none, 0), rfl, trivial, hM.keep (ks := [(0, 999)]) (by repeat (first | exact kl_rest (by assumption) rfl | (apply kl_in; focus rfl))) _ ⟨rfl, rfl, rfl, rfl, trivial⟩⟩
  have h24 : condNo x = 0 := by simpa using h24
  refine kgs ?_
  refine T_block ?_
  refine tx ?_
  refine sr 3 ?_
  refine sg rfl (y_move rfl rfl) ?_
  refine sg rfl (y_as (v' := .bool (outI by_ 4 7)) (by rw [inB_outI]) (y_call rfl rfl rfl cf55 (fun _ w _ => fout_any _ _ _ w))) ?_
  refine s1 (y_and rfl rfl rfl) ?_
  refine sr 1 ?_
  refine sgo ?_
  refine T_cond rfl ?_ ?_ <;> intro h26
  · skip
    refine tx ?_
    refine S_nilSlice 10 (e := 63) (size := 3) ?_
    refine sr 2 ?_
    refine sgo ?_
    refine tr2 hRb fun w hM => ?_
    have e1 : facNo x by_ nm mo = 10 := by rw [facNo, if_neg (by simpa using h24), if_pos h26]
    have e2 : facR x by_ nm mo m = [] := by rw [facR, if_neg (by rw [e1]; decide)]
    rw [e1, e2]
    exact ⟨(none, 0), rfl, trivial, hM.keep (ks := [(0, 999)]) (by repeat (first | exact kl_rest (by assumption) rfl | (apply kl_in; focus rfl))) _ ⟨rfl, rfl, rfl, rfl, trivial⟩⟩
  refine tx ?_
  refine sr 3 ?_
  refine sg rfl (y_move rfl rfl) ?_
  refine sg rfl (y_call rfl rfl rfl cf67 (fun _ w _ => IsName_any _ w)) ?_
  refine sg rfl (y_not rfl rfl) ?_
  refine s1 (y_and rfl rfl rfl) ?_
  refine sr 1 ?_
  refine sgo ?_
  refine T_cond rfl ?_ ?_ <;> intro h33
  · skip
    refine tx ?_
    refine S_nilSlice 10 (e := 63) (size := 3) ?_
    refine sr 2 ?_
    refine sgo ?_
    refine tr2 hRb fun w hM => ?_
    have e1 : facNo x by_ nm mo = 3 := by rw [facNo, if_neg (by simpa using h24), if_neg (by rw [h26]; exact Bool.false_ne_true), if_pos h33]
    have e2 : facR x by_ nm mo m = [] := by rw [facR, if_neg (by rw [e1]; decide)]
    rw [e1, e2]
    exact ⟨(none, 0), rfl, trivial, hM.keep (ks := [(0, 999)]) (by repeat (first | exact kl_rest (by assumption) rfl | (apply kl_in; focus rfl))) _ ⟨rfl, rfl, rfl, rfl, trivial⟩⟩
  refine tx ?_
  refine sr 3 ?_
  refine sg rfl (y_move rfl rfl) ?_
  refine sg rfl (y_bin rfl rfl rfl (fun _ => b_neqs)) ?_
  refine s1 (y_and rfl rfl rfl) ?_
  refine sr 1 ?_
  refine sgo ?_
  refine T_cond rfl ?_ ?_ <;> intro h41
  · skip
    refine tx ?_
    refine S_nilSlice 10 (e := 63) (size := 3) ?_
    refine sr 2 ?_
    refine sgo ?_
    refine tr2 hRb fun w hM => ?_
    have e1 : facNo x by_ nm mo = 1 := by rw [facNo, if_neg (by simpa using h24), if_neg (by rw [h26]; exact Bool.false_ne_true), if_neg (by rw [h33]; exact Bool.false_ne_true), if_pos h41]
    have e2 : facR x by_ nm mo m = [] := by rw [facR, if_neg (by rw [e1]; decide)]
    rw [e1, e2]
    exact ⟨(none, 0), rfl, trivial, hM.keep (ks := [(0, 999)]) (by repeat (first | exact kl_rest (by assumption) rfl | (apply kl_in; focus rfl))) _ ⟨rfl, rfl, rfl, rfl, trivial⟩⟩
  refine tx ?_
  refine sr 1 ?_
  refine s1 (y_as (v' := .bool (outI mo 1 2000)) (by rw [inB_outI]) (y_call rfl rfl rfl cf55 (fun _ w _ => fout_any _ _ _ w))) ?_
  refine sr 1 ?_
  refine sgo ?_
  refine T_cond rfl ?_ ?_ <;> intro h48
  · skip
    refine tx ?_
    refine S_nilSlice 10 (e := 63) (size := 3) ?_
    refine sr 2 ?_
    refine sgo ?_
    refine tr2 hRb fun w hM => ?_
    have e1 : facNo x by_ nm mo = 2 := by rw [facNo, if_neg (by simpa using h24), if_neg (by rw [h26]; exact Bool.false_ne_true), if_neg (by rw [h33]; exact Bool.false_ne_true), if_neg (by rw [h41]; exact Bool.false_ne_true), if_pos h48]
    have e2 : facR x by_ nm mo m = [] := by rw [facR, if_neg (by rw [e1]; decide)]
    rw [e1, e2]
    exact ⟨(none, 0), rfl, trivial, hM.keep (ks := [(0, 999)]) (by repeat (first | exact kl_rest (by assumption) rfl | (apply kl_in; focus rfl))) _ ⟨rfl, rfl, rfl, rfl, trivial⟩⟩
  obtain ⟨hm0, hm1⟩ : 1 ≤ mo ∧ mo ≤ 2000 := by
    simp only [outI, Bool.or_eq_false_iff, decide_eq_false_iff_not] at h48
    omega
  obtain ⟨k0, rfl⟩ : ∃ k : Nat, mo = k := ⟨mo.toNat, by omega⟩
  have hno : facNo x by_ nm k0 = 0 := by rw [facNo, if_neg (by simpa using h24), if_neg (by rw [h26]; exact Bool.false_ne_true), if_neg (by rw [h33]; exact Bool.false_ne_true), if_neg (by rw [h41]; exact Bool.false_ne_true), if_neg (by rw [h48]; exact Bool.false_ne_true)]
  refine kgx ?_
  refine S_makeMap 51 51 (fun l : List UInt8 => str l) rfl rfl rfl rfl ?_
  intro b51
  refine sr 1 ?_
  refine sgx ?_
  refine S_nilSlice 914 (e := 63) (size := 3) ?_
  refine sr 1 ?_
  refine sgs ?_
  refine tx ?_
  refine sr 1 ?_
  refine s1 (yA 6 rfl Tryz.underlying36 sz36) ?_
  refine S_callN 54 [(901, 901), (902, 902), (950, 950)] [(906, 906)] (X := FndR) rfl rfl rfl rfl rfl rfl rfl cf56 rfl (fun z => .slice z.A z.l.length z.c) (fun z => FndP x m z) (fun z => [(901, ixBox b bm), (902, ixMap bm m), (950, .many rs), (906, ownEv z.A z.c z.l)]) (fun _ => rfl) (fun _ => rfl) (fun K1 hK1 w1 hM => found_any hK1 b bm m rs x w1 hix hok (cond_ch h24) hmx hM) ?_
  rintro z hz
  have hzl := hz.len
  have hzo := fnd_ok hix hz
  have hzv : ∀ e ∈ z.l, (valsE e by_ nm).length ≤ 11 := fun e he => vals_11 (hzo e he) (hpe e (List.mem_filter.1 (hz.1.subset he)).1)
  refine s1 (y_len_slice rfl rfl Tryz.underlying25) ?_
  refine sr 1 ?_
  refine sgo ?_
  refine T_block ?_
  refine lK4 (kf := [(14, 14), (16, 16), (18, 20), (56, 106)]) (kl := [(14, 14), (16, 16), (18, 20), (51, 51), (56, 106), (914, 914)]) (fun (i : Nat) (A : Option Addr) (c : Nat) (out : List Fac) => [(56, true, .int .i64 (i : Int)), (14, true, .slice A out.length c)]) (fun (i : Nat) (A : Option Addr) (c : Nat) (out : List Fac) => [(51, .blk b51 (IsMap str (numK out 0))), (914, .own 63 3 (.slice A out.length c) out.length (out.flatMap Fac.enc))]) (fun (i : Nat) (A : Option Addr) (c : Nat) (out : List Fac) => i ≤ z.l.length ∧ out = facL (prsE (z.l.take i) by_ nm)) (fun (i : Nat) (A : Option Addr) (c : Nat) (out : List Fac) => z.l.length - i) 0 none 0 [] ?_ ?_ ?_ ?_
  · exact ⟨by omega, rfl⟩
  · exact ⟨rfl, rfl, trivial⟩
  · exact ⟨rfl, rfl, trivial⟩
  rintro i A c out ⟨hp1, hp2⟩
  refine tx ?_
  refine sr 1 ?_
  refine sgs ?_
  refine T_cond rfl ?_ ?_ <;> intro h57
  · try simp only [nrm] at h57
    obtain ⟨e, he⟩ : ∃ e, z.l[i]? = some e := ⟨_, List.getElem?_eq_getElem (by omega)⟩
    have hez := List.mem_of_getElem? he
    have hem : e ∈ m := (List.mem_filter.1 (hz.1.subset hez)).1
    obtain ⟨hlv, hwt, hat, hfq⟩ := evNo_lv (hzo e hez)
    have htk := take_snocI he
    have hv11 := hzv e hez
    refine kgs ?_
    refine T_block ?_
    refine tx ?_
    refine s1 (y_indexOwn 906 rfl rfl rfl rfl Tryz.underlying25 sz31 (fun _ => by omega)) ?_
    refine s1 (y_loadO 906 rfl rfl rfl rfl (fun _ => rfl) (fun _ => he) Tryz.underlying31 rfl sz31) ?_
    refine S_alloc 16 16 rfl rfl rfl rfl z31 ?_
    intro b16
    refine S_store 16 rfl rfl rfl rfl rfl rfl sz31 rfl rfl ?_
    refine sgx ?_
    refine s1 (yA 16 rfl Tryz.underlying31 sz31) ?_
    refine sr 2 ?_
    refine S_callOwn 63 63 rfl rfl rfl rfl rfl rfl rfl cf68 (fun A c => .slice A ((valsE e by_ nm).length) c) 9 1 ((valsE e by_ nm).length) ((valsE e by_ nm).flatMap strE) (fun w1 hM => values_any e by_ nm w1 ((hix.ok e hem).2.at hM 950 rfl) hlv hfq) ?_
    intro A63 c63
    refine s1 (y_len_slice rfl rfl Tryz.underlying49) ?_
    refine sr 1 ?_
    refine sgo ?_
    refine T_block ?_
    refine lK4 (kf := [(14, 14), (18, 20), (65, 105)]) (kl := [(14, 14), (18, 20), (51, 51), (65, 105), (914, 914)]) (fun (k : Nat) (A : Option Addr) (c : Nat) (out : List Fac) => [(65, true, .int .i64 (k : Int)), (14, true, .slice A out.length c)]) (fun (k : Nat) (A : Option Addr) (c : Nat) (out : List Fac) => [(51, .blk b51 (IsMap str (numK out 0))), (914, .own 63 3 (.slice A out.length c) out.length (out.flatMap Fac.enc))]) (fun (k : Nat) (A : Option Addr) (c : Nat) (out : List Fac) => k ≤ (valsE e by_ nm).length ∧ out = facL (prsK (z.l.take i) e k by_ nm)) (fun (k : Nat) (A : Option Addr) (c : Nat) (out : List Fac) => (valsE e by_ nm).length - k) 0 A c out ?_ ?_ ?_ ?_
    · exact ⟨by omega, by rw [prsK_0]; exact hp2⟩
    · exact ⟨rfl, rfl, trivial⟩
    · exact ⟨rfl, rfl, trivial⟩
    rintro k A2 c2 out ⟨hq1, hq2⟩
    refine tx ?_
    refine sr 1 ?_
    refine sgs ?_
    refine T_cond rfl ?_ ?_ <;> intro h66
    · try simp only [nrm] at h66
      obtain ⟨v, hv⟩ : ∃ v, (valsE e by_ nm)[k]? = some v := ⟨_, List.getElem?_eq_getElem (by omega)⟩
      have hol := facL_len (prsK (z.l.take i) e k by_ nm)
      have hpl := prsK_len (k := k) (take_ok hzv i) hv11
      rw [List.length_take] at hpl
      have hlim := facL_le (prsK_wt (k := k) (by_ := by_) (nm := nm) (take_ok (fun a ha => (evNo_lv (hzo a ha)).2.1) i) hwt)
      have hnx := prsK_next (L := z.l.take i) hv
      rw [← hq2] at hol hlim hnx
      refine kgs ?_
      refine T_block ?_
      refine tx ?_
      refine s1 (y_indexOwn 63 rfl rfl rfl rfl Tryz.underlying49 sz9 (fun _ => by omega)) ?_
      refine s1 (y_loadO1 63 (val := (fun l : List UInt8 => str l)) rfl rfl rfl rfl (fun _ => hv) Tryz.underlying9 rfl) ?_
      refine sr 1 ?_
      refine sgx ?_
      refine sr 2 ?_
      refine s1 (y_as (v' := .tuple #[.int .i64 ((((posF out v 0).getD 0 : Nat)) : Int), .bool (posF out v 0).isSome]) (by exact num_val v out) (y_lookup2 51 (enc := fun l : List UInt8 => str l) rfl rfl rfl rfl Tryz.underlying119 Tryz.underlying9 rfl same_str z3)) ?_
      refine sr 5 ?_
      refine sgs ?_
      refine tx ?_
      refine sr 2 ?_
      refine sgo ?_
      refine T_cond rfl ?_ ?_ <;> intro h76
      · skip
        have hp0 : posF out v 0 = none := by simpa using h76
        obtain ⟨O, hO⟩ : ∃ O, out ++ [(⟨v, 0, 0⟩ : Fac)] = O := ⟨_, rfl⟩
        have hOl : O.length = out.length + 1 := by rw [← hO, List.length_append]; rfl
        have hOj : O[out.length]? = some ⟨v, 0, 0⟩ := by rw [← hO]; simp
        have hOn : addF out v e.wt = O.set out.length ⟨v, 0 + 1, 0 + e.wt⟩ := by rw [← hO, pos_none hp0, Int.zero_add, Int.zero_add]; simp
        have hOj2 := set_get (b := (⟨v, 0 + 1, 0⟩ : Fac)) hOj
        have hnum : numK (addF out v e.wt) 0 = numK O 0 := by rw [hOn, numK_set (v := v) (f := ⟨v, 0, 0⟩) (g := ⟨v, 0 + 1, 0 + e.wt⟩) rfl hOj]
        have hmp : mput (numK out 0) v (.int .i64 ((out.length : Nat) : Int)) = numK O 0 := by rw [← hO, ← mput_num (a := 0) (b := 0) hp0]; rfl
        have hall : (addF out v e.wt).length = O.length := by rw [hOn, List.length_set]
        refine tx ?_
        refine sr 1 ?_
        refine s1 (y_len_slice rfl rfl Tryz.underlying56) ?_
        refine sr 1 ?_
        refine sgx ?_
        refine sr 3 ?_
        refine S_mapUpdate 51 (enc := fun l : List UInt8 => str l) rfl rfl rfl rfl rfl rfl rfl Tryz.underlying119 Tryz.underlying9 rfl same_str fits_str (hmp) ?_
        refine sgr ?_
        refine sr 2 ?_
        refine s1 (y_build (zv := .agg #[.string ⟨#[]⟩, .int .i64 0, .int .i64 0]) (pl := [(0, 1), (1, 1), (2, 1)]) (out := [_, .int .i64 0, .int .i64 0]) rfl rfl Tryz.underlying63 z63 (by kernel_rfl) rfl) ?_
        refine S_buildSlice 85 85 rfl rfl rfl rfl rfl Tryz.underlying56 inf63 rfl (by decide) (by decide) rfl rfl (by decide) rfl (_) rfl ?_
        intro b85
        obtain ⟨i86, hi86, hz86, hs86, hy86⟩ := info_parts inf63
        refine S_append 86 914 85 rfl rfl rfl rfl rfl rfl rfl rfl Tryz.underlying56 hi86 hz86 hs86 hy86 rfl (by decide) (by decide) rfl ?_ ?_ (O.length) (O.flatMap Fac.enc) ?_ ?_ ?_
        · (simp only [maxLen]; omega)
        · omega
        · omega
        · rw [← hO, List.flatMap_append]; rfl
        intro A86 c86
        refine sr 1 ?_
        refine sgx ?_
        refine sr 1 ?_
        refine s1 (y_as (v' := .int .i64 ((out.length : Nat) : Int)) (by exact rfl) (y_move rfl rfl)) ?_
        refine s1 (y_indexOwn 914 rfl rfl rfl rfl Tryz.underlying56 sz63 (fun _ => by omega)) ?_
        refine s1 (y_fieldOwn 914 rfl rfl rfl (fun _ => by omega) fa63_1) ?_
        refine s1 (y_load_cellOwn 914 rfl rfl rfl (fun _ => by omega) (fun _ => flat_at (enc := Fac.enc) (size := 3) (fun _ => rfl) hOj 1 (.int .i64 0) rfl) Tryz.underlying3 rfl) ?_
        refine s1 (y_bin rfl rfl rfl (fun hg => b_add (by omega))) ?_
        refine s1 (y_indexOwn 914 rfl rfl rfl rfl Tryz.underlying56 sz63 (fun _ => by omega)) ?_
        refine s1 (y_fieldOwn 914 rfl rfl rfl (fun _ => by omega) fa63_1) ?_
        refine S_storeOwn 914 rfl rfl rfl rfl rfl rfl sz3 rfl rfl ?_ (xs' := (O.set out.length ⟨v, 0 + 1, 0⟩).flatMap Fac.enc) ?_ ?_
        · (rw [flat_lenN (enc := Fac.enc) (size := 3) (fun _ => rfl)]; omega)
        · exact flat_set (enc := Fac.enc) (size := 3) (off := 1) (fun _ => rfl) hOj (by decide) rfl
        refine sgo ?_
        refine T_drawsTail 10 (by kernel_rfl) (by kernel_rfl) ?_
        refine d1 (y_move rfl rfl) ?_
        refine d1 (y_as (v' := .int .i64 ((out.length : Nat) : Int)) (by exact rfl) (y_move rfl rfl)) ?_
        refine d1 (y_indexOwn 914 rfl rfl rfl rfl Tryz.underlying56 sz63 (fun _ => by omega)) ?_
        refine d1 (y_fieldOwn 914 rfl rfl rfl (fun _ => by omega) fa63_2) ?_
        refine d1 (y_load_cellOwn 914 rfl rfl rfl (fun _ => by omega) (fun _ => flat_at (enc := Fac.enc) (size := 3) (fun _ => rfl) hOj2 2 (.int .i64 0) rfl) Tryz.underlying3 rfl) ?_
        refine d1 (yF fa31_8) ?_
        refine d1 (yL 16 Tryz.underlying3) ?_
        refine d1 (y_bin rfl rfl rfl (fun hg => b_add (by omega))) ?_
        refine d1 (y_indexOwn 914 rfl rfl rfl rfl Tryz.underlying56 sz63 (fun _ => by omega)) ?_
        refine d1 (y_fieldOwn 914 rfl rfl rfl (fun _ => by omega) fa63_2) ?_
        refine D_tail ?_
        refine S_storeOwn 914 rfl rfl rfl rfl rfl rfl sz3 rfl rfl ?_ (xs' := (addF out v e.wt).flatMap Fac.enc) ?_ ?_
        · (rw [flat_lenN (enc := Fac.enc) (size := 3) (fun _ => rfl), List.length_set]; omega)
        · rw [hOn, ← List.set_set (b := (⟨v, 0 + 1, 0 + e.wt⟩ : Fac)) (a := (⟨v, 0 + 1, 0⟩ : Fac))]; exact flat_set (enc := Fac.enc) (size := 3) (off := 2) (fun _ => rfl) hOj2 (by decide) rfl
        refine sgr ?_
        refine s1 (y_bin rfl rfl rfl (fun hg => b_add (by omega))) ?_
        refine sr 1 ?_
        refine S_nil (nS4 (kf := [(14, 14), (18, 20), (65, 105)]) (kl := [(14, 14), (18, 20), (51, 51), (65, 105), (914, 914)]) (k + 1) A86 c86 (addF out v e.wt) ?_ ?_ ?_ ?_)
        · omega
        · exact ⟨by omega, hnx.symm⟩
        · rw [hall]; exact ⟨rfl, rfl, trivial⟩
        · rw [hall, hnum]; exact ⟨rfl, rfl, trivial⟩
      have h76 : (posF out v 0).isSome = true := by simpa using h76
      obtain ⟨n, hp0⟩ := Option.isSome_iff_exists.1 h76
      obtain ⟨j, f, hnj, hj, hfv, hset⟩ := pos_some hp0
      have hjn : j = n := by omega
      subst hjn
      obtain ⟨⟨hf1, hf2⟩, hf3, hf4⟩ := hlim f (List.mem_of_getElem? hj)
      have hjl := (List.getElem?_eq_some_iff.1 hj).1
      have hj2 := set_get (b := (⟨f.v, f.n + 1, f.s⟩ : Fac)) hj
      have hset := hset e.wt
      have hnum : numK (addF out v e.wt) 0 = numK out 0 := by rw [hset, numK_set (v := v) (f := f) hfv.symm hj]
      have hall : (addF out v e.wt).length = out.length := by rw [hset, List.length_set]
      refine kgx ?_
      refine sr 1 ?_
      refine s1 (y_as (v' := .int .i64 ((j : Nat) : Int)) (by rw [hp0]; rfl) (y_move rfl rfl)) ?_
      refine s1 (y_indexOwn 914 rfl rfl rfl rfl Tryz.underlying56 sz63 (fun _ => by omega)) ?_
      refine s1 (y_fieldOwn 914 rfl rfl rfl (fun _ => by omega) fa63_1) ?_
      refine s1 (y_load_cellOwn 914 rfl rfl rfl (fun _ => by omega) (fun _ => flat_at (enc := Fac.enc) (size := 3) (fun _ => rfl) hj 1 (.int .i64 f.n) rfl) Tryz.underlying3 rfl) ?_
      refine s1 (y_bin rfl rfl rfl (fun hg => b_add (by omega))) ?_
      refine s1 (y_indexOwn 914 rfl rfl rfl rfl Tryz.underlying56 sz63 (fun _ => by omega)) ?_
      refine s1 (y_fieldOwn 914 rfl rfl rfl (fun _ => by omega) fa63_1) ?_
      refine S_storeOwn 914 rfl rfl rfl rfl rfl rfl sz3 rfl rfl ?_ (xs' := (out.set j ⟨f.v, f.n + 1, f.s⟩).flatMap Fac.enc) ?_ ?_
      · (rw [flat_lenN (enc := Fac.enc) (size := 3) (fun _ => rfl)]; omega)
      · exact flat_set (enc := Fac.enc) (size := 3) (off := 1) (fun _ => rfl) hj (by decide) rfl
      refine sgo ?_
      refine T_drawsTail 10 (by kernel_rfl) (by kernel_rfl) ?_
      refine d1 (y_move rfl rfl) ?_
      refine d1 (y_as (v' := .int .i64 ((j : Nat) : Int)) (by rw [hp0]; rfl) (y_move rfl rfl)) ?_
      refine d1 (y_indexOwn 914 rfl rfl rfl rfl Tryz.underlying56 sz63 (fun _ => by omega)) ?_
      refine d1 (y_fieldOwn 914 rfl rfl rfl (fun _ => by omega) fa63_2) ?_
      refine d1 (y_load_cellOwn 914 rfl rfl rfl (fun _ => by omega) (fun _ => flat_at (enc := Fac.enc) (size := 3) (fun _ => rfl) hj2 2 (.int .i64 f.s) rfl) Tryz.underlying3 rfl) ?_
      refine d1 (yF fa31_8) ?_
      refine d1 (yL 16 Tryz.underlying3) ?_
      refine d1 (y_bin rfl rfl rfl (fun hg => b_add (by omega))) ?_
      refine d1 (y_indexOwn 914 rfl rfl rfl rfl Tryz.underlying56 sz63 (fun _ => by omega)) ?_
      refine d1 (y_fieldOwn 914 rfl rfl rfl (fun _ => by omega) fa63_2) ?_
      refine D_tail ?_
      refine S_storeOwn 914 rfl rfl rfl rfl rfl rfl sz3 rfl rfl ?_ (xs' := (addF out v e.wt).flatMap Fac.enc) ?_ ?_
      · (rw [flat_lenN (enc := Fac.enc) (size := 3) (fun _ => rfl), List.length_set]; omega)
      · rw [hset, ← List.set_set (b := (⟨v, f.n + 1, f.s + e.wt⟩ : Fac)) (a := (⟨f.v, f.n + 1, f.s⟩ : Fac)), ← hfv]; exact flat_set (enc := Fac.enc) (size := 3) (off := 2) (fun _ => rfl) hj2 (by decide) rfl
      refine sgr ?_
      refine s1 (y_bin rfl rfl rfl (fun hg => b_add (by omega))) ?_
      refine sr 1 ?_
      refine S_nil (nS4 (kf := [(14, 14), (18, 20), (65, 105)]) (kl := [(14, 14), (18, 20), (51, 51), (65, 105), (914, 914)]) (k + 1) A2 c2 (addF out v e.wt) ?_ ?_ ?_ ?_)
      · omega
      · exact ⟨by omega, hnx.symm⟩
      · rw [hall]; exact ⟨rfl, rfl, trivial⟩
      · rw [hall, hnum]; exact ⟨rfl, rfl, trivial⟩
    try simp only [nrm] at h66
    have hpa := prsK_all (L := z.l.take i) (e := e) (k := k) (by_ := by_) (nm := nm) (by omega)
    rw [← htk] at hpa
    rw [hpa] at hq2
    refine egr ?_
    refine s1 (y_bin rfl rfl rfl (fun hg => b_add (by omega))) ?_
    refine sr 1 ?_
    refine S_nil (nS4 (kf := [(14, 14), (16, 16), (18, 20), (56, 106)]) (kl := [(14, 14), (16, 16), (18, 20), (51, 51), (56, 106), (914, 914)]) (i + 1) A2 c2 out ?_ ?_ ?_ ?_)
    · omega
    · exact ⟨by omega, hq2⟩
    · exact ⟨rfl, rfl, trivial⟩
    · exact ⟨rfl, rfl, trivial⟩
  try simp only [nrm] at h57
  refine T_cap 914 rfl fun hcap => ?_
  have hol := facL_len (prsE (z.l.take i) by_ nm)
  rw [← hp2] at hol
  have hpl := prsE_len (take_ok hzv i)
  rw [List.length_take] at hpl
  refine egx ?_
  refine sr 1 ?_
  refine S_callM 108 [(0, 914)] (X := List Fac) rfl rfl rfl rfl rfl rfl rfl cf69 rfl (fun _ => .tuple #[]) (fun l => l = pdqL cmpF out) (fun l => [(0, .own 63 3 (.slice A out.length c) out.length (l.flatMap Fac.enc))]) (fun _ => rfl) (fun _ => rfl) (fun K1 hK1 w1 hM => SortF_any hK1 A out.length c out w1 rfl (by omega) hM) ?_
  intro sl hsl
  have hsll : sl.length = out.length := by rw [hsl, (pdqL_facts (swo3 cmp3_F) out).1.length_eq]
  refine sgx ?_
  refine sr 2 ?_
  refine s1 (y_len_slice rfl rfl Tryz.underlying56) ?_
  refine sr 1 ?_
  refine s1 (y_as (v' := .int .i64 ((min k0 out.length : Nat) : Int)) (by congr 1; split <;> omega) (y_min rfl rfl rfl)) ?_
  refine s1 (y_slice rfl rfl Tryz.underlying56 sz63 (.inl ⟨rfl, rfl⟩) (.inr ⟨_, _, rfl, rfl⟩) (by omega) (by omega) (by omega)) ?_
  refine S_callOwn 115 915 rfl rfl rfl rfl rfl rfl rfl cf71 (fun A c => .slice A (min k0 out.length) c) 63 3 (min k0 out.length) ((sl.take (min k0 out.length)).flatMap Fac.enc) (fun w1 hM => CloneFc_any _ _ _ _ w1 ((owned_T (enc := Fac.enc) hM hsll (i := 914) rfl).cut (fun _ => rfl) (Nat.zero_le _) (Nat.min_le_right _ _) hcap) (by omega)) ?_
  intro A115 c115
  refine sr 2 ?_
  refine sgo ?_
  refine tr2 hRb fun w hM => ?_
  have e5 : sl = facS (prsE (filI x m) by_ nm) := by rw [hsl, hp2, List.take_of_length_le (by omega), ← facS_perm (prsE_perm hz.1 by_ nm)]; rfl
  have e2 : facR x by_ nm k0 m = sl.take (min k0 out.length) := by
    rw [facR, if_pos hno, ← e5, ← hsll, List.take_eq_take_min]
    congr 1
  have e3 : (sl.take (min k0 out.length)).length = min k0 out.length := by rw [List.length_take, hsll]; omega
  rw [hno, e2]
  refine ⟨(A115, c115), by rw [e3], trivial, ?_⟩
  have e9 : ownFc A115 c115 (sl.take (min k0 out.length)) = .own 63 3 (.slice A115 (min k0 out.length) c115) (min k0 out.length) ((sl.take (min k0 out.length)).flatMap Fac.enc) := by unfold ownFc; rw [e3]
  show Mem w0 ([_, _, _, (915, ownFc A115 c115 (sl.take (min k0 out.length)))] ++ K) _
  rw [e9]
  exact hM.keep (ks := [(0, 999)]) (by repeat (first | exact kl_rest (by assumption) rfl | (apply kl_in; focus rfl))) _ ⟨rfl, rfl, rfl, rfl, trivial⟩
end Go.Proofs.YtekbcbjimajnfaaGreatDoor
end
section
namespace Go.Proofs.YtekbcbjimajnfaaGreatDoor
set_option linter.unusedSimpArgs false
set_option linter.unusedVariables false
set_option maxRecDepth 20000
open Go.RowKit Go.Eng
/-- all facets' counts and weights, added up -/
def totN (l : List Fac) : Int := (l.map (·.n)).sum
def totS (l : List Fac) : Int := (l.map (·.s)).sum
theorem addF_sum (l : List Fac) (v : List UInt8) (w : Int) : totN (addF l v w) = totN l + 1 ∧ totS (addF l v w) = totS l + w := by
  induction l with
  | nil => exact ⟨rfl, by show w + 0 = 0 + w; omega⟩
  | cons a r ih =>
    rw [addF]
    split
    · show (a.n + 1) + totN r = (a.n + totN r) + 1 ∧ (a.s + w) + totS r = (a.s + totS r) + w
      omega
    · show a.n + totN (addF r v w) = (a.n + totN r) + 1 ∧ a.s + totS (addF r v w) = (a.s + totS r) + w
      omega
theorem fold_sum : ∀ (ps : List FP) (l : List Fac), totN (ps.foldl (fun l p => addF l p.1 p.2) l) = totN l + (ps.length : Nat) ∧ totS (ps.foldl (fun l p => addF l p.1 p.2) l) = totS l + (ps.map (·.2)).sum
  | [], l => ⟨by simp, by simp⟩
  | p :: r, l => by
    obtain ⟨h1, h2⟩ := fold_sum r (addF l p.1 p.2)
    obtain ⟨h3, h4⟩ := addF_sum l p.1 p.2
    simp only [List.foldl_cons, List.length_cons, List.map_cons, List.sum_cons]
    rw [h1, h2, h3, h4]
    omega
theorem facL_sum (ps : List FP) : totN (facL ps) = (ps.length : Nat) ∧ totS (facL ps) = (ps.map (·.2)).sum := by
  obtain ⟨h1, h2⟩ := fold_sum ps []
  have e1 : totN [] = 0 := rfl
  have e2 : totS [] = 0 := rfl
  rw [e1, Int.zero_add] at h1
  rw [e2, Int.zero_add] at h2
  exact ⟨h1, h2⟩
theorem facS_sum (ps : List FP) : totN (facS ps) = (ps.length : Nat) ∧ totS (facS ps) = (ps.map (·.2)).sum := by
  have hp := (pdqL_facts (swo3 cmp3_F) (facL ps)).1
  obtain ⟨h1, h2⟩ := facL_sum ps
  exact ⟨by rw [← h1]; exact sum_perm (hp.map _), by rw [← h2]; exact sum_perm (hp.map _)⟩
theorem prs_lv (L : List Evt) : prsE L 2 [] = L.map fun e => (lvW e, e.wt) := by
  induction L with
  | nil => rfl
  | cons a r ih =>
    show ((valsE a 2 []).map _) ++ prsE r 2 [] = _
    rw [ih, valsE, if_pos rfl]; rfl
theorem lvW_mem {e : Evt} (h : 1 ≤ e.lv ∧ e.lv ≤ 5) : lvW e ∈ levels := List.mem_of_getElem? (lv_at h)
theorem nodup_le {α : Type} [DecidableEq α] : ∀ {l m : List α}, l.Nodup → (∀ x ∈ l, x ∈ m) → l.length ≤ m.length
  | [], m, _, _ => Nat.zero_le _
  | a :: r, m, hn, hs => by
    have ha := hs a (List.mem_cons_self ..)
    have hn : a ∉ r ∧ r.Nodup := List.nodup_cons.1 hn
    have h1 := nodup_le (l := r) (m := m.erase a) hn.2 fun x hx => (List.mem_erase_of_ne (fun e => hn.1 (by rw [← e]; exact hx))).2 (hs x (List.mem_cons_of_mem _ hx))
    rw [List.length_erase_of_mem ha] at h1
    have : 0 < m.length := List.length_pos_of_mem ha
    rw [List.length_cons]; omega
theorem keys_sub : ∀ (ps : List FP) (l : List Fac) (m : List (List UInt8)), (∀ p ∈ ps, p.1 ∈ m) → (∀ x ∈ keysF l, x ∈ m) → ∀ x ∈ keysF (ps.foldl (fun l p => addF l p.1 p.2) l), x ∈ m
  | [], l, m, _, h => h
  | p :: r, l, m, hp, h => keys_sub r (addF l p.1 p.2) m (fun q hq => hp q (List.mem_cons_of_mem _ hq)) fun x hx => by
    rw [keysF_add] at hx
    split at hx
    · exact h x hx
    · rcases List.mem_append.1 hx with hx | hx
      · exact h x hx
      · rw [List.mem_singleton.1 hx]; exact hp p (List.mem_cons_self ..)
/-- by level there are five facets at most: those that are asked for are all -/
theorem facS_five {L : List Evt} (h : ∀ e ∈ L, 1 ≤ e.lv ∧ e.lv ≤ 5) : (facS (prsE L 2 [])).take 5 = facS (prsE L 2 []) := by
  refine List.take_of_length_le ?_
  rw [facS, (pdqL_facts (swo3 cmp3_F) _).1.length_eq]
  have h1 := nodup_le (m := levels) (facL_nodup (prsE L 2 [])) fun x hx => keys_sub (prsE L 2 []) [] levels (fun p hp => by
    rw [prs_lv] at hp
    obtain ⟨e, he, rfl⟩ := List.mem_map.1 hp
    exact lvW_mem (h e he)) (fun x hx => by cases hx) x hx
  rw [List.length_map] at h1
  exact h1
/-- the weights of events -/
def wtE (L : List Evt) : Int := (L.map (·.wt)).sum
theorem facS_all {L : List Evt} (h : ∀ e ∈ L, 1 ≤ e.lv ∧ e.lv ≤ 5) : totN ((facS (prsE L 2 [])).take 5) = (L.length : Nat) ∧ totS ((facS (prsE L 2 [])).take 5) = wtE L := by
  rw [facS_five h]
  obtain ⟨h1, h2⟩ := facS_sum (prsE L 2 [])
  rw [h1, h2, prs_lv, List.length_map, List.map_map]
  exact ⟨rfl, rfl⟩
/-- down is up turned round -/
theorem ask_down {x : SC} {by_ : Int} {m : List Evt} (hn : (idsI m).Nodup) : askL x by_ true m = (askL x by_ false m).reverse := by
  have h := ask_facts x by_ false m
  refine (ask_one hn ((List.reverse_perm _).trans h.1) (ask_rev ?_)).symm
  exact h.2
theorem ask_len (x : SC) (by_ : Int) (dn : Bool) (m : List Evt) : (askL x by_ dn m).length = (filI x m).length := (ask_facts x by_ dn m).1.length_eq
theorem askIds_all {x : SC} {by_ : Int} {dn : Bool} {m : List Evt} (hm : m.length ≤ 2000) (h : askNo x by_ 0 2000 = 0) : askIds x by_ dn 0 2000 m = idsI (askL x by_ dn m) := by
  have h1 := ask_len x by_ dn m
  have h2 := List.length_filter_le (fun e => hoX e x) m
  rw [askIds, if_pos h]
  show idsI (((askL x by_ dn m).drop 0).take 2000) = _
  rw [List.drop_zero, List.take_of_length_le (by rw [h1]; exact Nat.le_trans h2 hm)]
theorem ask_ok {x : SC} {by_ : Int} (h : condNo x = 0) (h1 : 1 ≤ by_) (h2 : by_ ≤ 3) : askNo x by_ 0 2000 = 0 := by
  have e1 : outI by_ 1 3 = false := by simp only [outI, Bool.or_eq_false_iff, decide_eq_false_iff_not]; omega
  rw [askNo, if_neg (by simpa using h), if_neg (by rw [e1]; exact Bool.false_ne_true), if_neg (by decide)]
theorem fac_ok {x : SC} (h : condNo x = 0) : facNo x 2 [] 5 = 0 := by
  rw [facNo, if_neg (by simpa using h), if_neg (by decide), if_neg (by decide), if_neg (by decide), if_neg (by decide)]
/-- the ids in two orders are the same, sorted -/
theorem ids_perm (x : SC) (a b : Int) (c d : Bool) (m : List Evt) : (idsI (askL x a c m)).Perm (idsI (askL x b d m)) :=
  ((ask_facts x a c m).1.trans (ask_facts x b d m).1.symm).map _
theorem getI_of {m : List Evt} (hn : (idsI m).Nodup) {e : Evt} (he : e ∈ m) : getI m e.id = some e := by
  induction m with
  | nil => cases he
  | cons a r ih =>
    have h : a.id ∉ idsI r ∧ (idsI r).Nodup := List.nodup_cons.1 hn
    rw [getI]
    rcases List.mem_cons.1 he with rfl | he
    · rw [if_pos rfl]
    · rw [if_neg (fun e' => h.1 (by rw [← e']; exact List.mem_map.2 ⟨e, he, rfl⟩)), ih h.2 he]
end Go.Proofs.YtekbcbjimajnfaaGreatDoor
end
section
namespace Go.Proofs.YtekbcbjimajnfaaGreatDoor
set_option linter.unusedSimpArgs false
set_option linter.unusedVariables false
set_option maxRecDepth 20000
open Go.RowKit Go.Eng
theorem fromK_nil : FromK [] := fun i p h => by cases h
theorem copyB (e : Evt) (w : World) (he : e.Ok w) (hn : LenE e) :
    Calls Tryz.prog 45 #[e.val] w fun en w' => ∃ z : CopyR, en = .returned (z.evt e).val ∧ (ContE (z.evt e) e ∧ OkE (z.evt e) ∧ z.rs = z.gs.map frRow) ∧ Mem w (backL [(8, 908), (900, 960), (35, 935), (39, 939)] (z.L e)) w' :=
  (CopyD_any fromK_nil e w he ⟨hn.fq.1, hn.tq.1, hn.cq.1, fun f hf => (hn.fa f hf).2.1⟩ (Mem.start w)).mono fun en w' ⟨z, h1, ⟨h2, h3, h4, _⟩, h5⟩ => by
    have hce : ContE (z.evt e) e := ⟨rfl, rfl, rfl, rfl, rfl, rfl, h2, rfl, rfl, rfl, rfl, rfl⟩
    have hb := Mem.back (L := []) [(8, 908), (900, 960), (35, 935), (39, 939)] rfl rfl rfl h5
    rw [List.append_nil] at hb
    exact ⟨z, h1, ⟨hce, (OkE.of he).cont hce h3, h4⟩, hb⟩
theorem lenE_zero : LenE evZM := ⟨Nat.zero_le _, (fun _ h => by cases h), (fun _ h => by cases h), (fun _ h => by cases h), ⟨Nat.zero_le _, rfl⟩, ⟨Nat.zero_le _, rfl⟩, ⟨Nat.zero_le _, rfl⟩⟩
theorem ge_ok {w0 w : World} {L : HL} {rs : List Row} {m : List Evt} (h : IxOk w0 rs m) (hM : Mem w0 L w) (hL : L.get 950 = some (.many rs)) (k : List UInt8) : (geI m k).Ok w ∧ LenE (geI m k) := by
  unfold geI
  cases hg : getI m k with
  | none => exact ⟨evZM_ok w, lenE_zero⟩
  | some e =>
    obtain ⟨h1, h2⟩ := h.ok e (getI_mem hg).1
    have h3 := h2.at hM 950 hL
    exact ⟨h3, LenE.of h1 (OkE.of h3)⟩
structure GetR where
  ev : Evt
  rs : List Row
def GetP (w0 : World) (m : List Evt) (k : List UInt8) (z : GetR) : Prop := ContE z.ev (geI m k) ∧ Sees w0 z.rs fun w => z.ev.Ok w
set_option maxHeartbeats 1600000 in
theorem Get_any {w0 : World} {K : HL} (hK : FromK K) (b bm : Nat) (m : List Evt) (rs : List Row) (k : List UInt8) (w : World) (hix : IxOk w0 rs m) (hM0 : Mem w0 ([(901, ixBox b bm), (902, ixMap bm m), (950, .many rs)] ++ K) w) :
    Calls Tryz.prog 14 #[.pointer (some ⟨b, 0, none⟩), str k] w fun en w' => ∃ z : GetR, en = .returned (.tuple #[z.ev.val, .bool (hasI m k)]) ∧ GetP w0 m k z ∧ Mem w0 ([(901, ixBox b bm), (902, ixMap bm m), (950, .many rs), (960, .many z.rs)] ++ K) w' := by
  obtain ⟨g, hg⟩ : ∃ g, geI m k = g := ⟨_, rfl⟩
  refine enterM_args (args := [.pointer (some ⟨b, 0, none⟩), str k]) (F := _) hM0 Tryz.func14 rfl Tryz.ntmps14 rfl rfl ?_
  intro Rb hRb hRn
  refine tx ?_
  refine S_alloc 4 4 rfl rfl rfl rfl z31 ?_
  intro b4
  refine sr 1 ?_
  refine sgx ?_
  refine sr 1 ?_
  refine s1 (y_nilCheck rfl rfl) ?_
  refine s1 (yF fa89_0) ?_
  refine s1 (yL 901 Tryz.underlying87) ?_
  refine sr 1 ?_
  refine s1 (y_as (v' := .tuple #[g.val, .bool (hasI m k)]) (by rw [mgetB, ← hg]; exact congrArg (fun v => Value.tuple #[v, .bool (hasI m k)]) (mgetV m k)) (y_lookup2 902 (enc := fun l : List UInt8 => str l) rfl rfl rfl rfl Tryz.underlying87 Tryz.underlying9 rfl same_str z31)) ?_
  refine sr 1 ?_
  refine s1 (y_as (v' := .agg #[str g.id, .int .i64 g.at_, .int .i64 g.lv, .slice g.fa.A g.fa.q g.fa.c, .slice g.ta.A g.ta.q g.ta.c, .slice g.cr.A g.cr.q g.cr.c, str g.rel, str g.us, .int .i64 g.wt]) (by exact rfl) (y_extract rfl rfl rfl)) ?_
  refine sr 1 ?_
  refine S_alloc 6 6 rfl rfl rfl rfl z31 ?_
  intro b6
  refine S_store 6 rfl rfl rfl rfl rfl rfl sz31 rfl rfl ?_
  refine sr 1 ?_
  refine sgx ?_
  refine s1 (yA 6 rfl Tryz.underlying31 sz31) ?_
  refine S_callB 18 rfl rfl rfl rfl rfl rfl rfl cf45 (fun z : CopyR => (z.evt g).val) (fun z : CopyR => ContE (z.evt g) g ∧ OkE (z.evt g) ∧ z.rs = z.gs.map frRow) (fun z : CopyR => backL [(8, 908), (900, 960), (35, 935), (39, 939)] (z.L g)) (fun w1 hM => copyB g w1 (hg ▸ ge_ok hix hM rfl k).1 (hg ▸ ge_ok hix hM rfl k).2) ?_
  rintro z ⟨hz1, hz2, hz3⟩
  refine sr 1 ?_
  refine S_store 4 rfl rfl rfl rfl rfl rfl sz31 rfl rfl ?_
  refine sr 1 ?_
  refine sgo ?_
  refine T_ret (fun a w hF hM => hRb a w (post_cell 4 rfl rfl rfl rfl Tryz.underlying31 rfl (by exact sz31) (fun w hM => ?_) a w hF hM))
  have hM := hM.bankK (ks := [(960, 960), (908, 908)]) (m := 960) (i := 908) rfl rfl rfl (by repeat (first | exact kl_nil | exact kl_rest (by assumption) rfl | (apply kl_in; focus rfl) | (apply kl_out; focus rfl))) rfl
  have hM := hM.bankK (ks := [(960, 960), (935, 935)]) (m := 960) (i := 935) rfl rfl rfl (by repeat (first | exact kl_nil | exact kl_rest (by assumption) rfl | (apply kl_in; focus rfl) | (apply kl_out; focus rfl))) rfl
  have hM := hM.bankK (ks := [(960, 960), (939, 939)]) (m := 960) (i := 939) rfl rfl rfl (by repeat (first | exact kl_nil | exact kl_rest (by assumption) rfl | (apply kl_in; focus rfl) | (apply kl_out; focus rfl))) rfl
  exact ⟨⟨z.evt g, rsEv (z.evt g)⟩, rfl, ⟨by rw [hg]; exact hz1, sees_ev hz2⟩, hM.keep (ks := [(0, 999)]) (by repeat (first | exact kl_rest (by assumption) rfl | (apply kl_in; focus rfl))) _ ⟨rfl, rfl, rfl, by rw [hz3]; rfl, trivial⟩⟩
end Go.Proofs.YtekbcbjimajnfaaGreatDoor
end
section
namespace Go.Proofs.YtekbcbjimajnfaaGreatDoor
set_option linter.unusedSimpArgs false
set_option linter.unusedVariables false
set_option maxRecDepth 20000
open Go.RowKit Go.Eng
end Go.Proofs.YtekbcbjimajnfaaGreatDoor
end
section
namespace Go.Proofs.YtekbcbjimajnfaaGreatDoor
set_option linter.unusedSimpArgs false
set_option linter.unusedVariables false
set_option maxRecDepth 20000
open Go.RowKit Go.Eng
theorem fil_len (x : SC) (l : List Evt) : (filI x l).length ≤ l.length := List.length_filter_le _ _
end Go.Proofs.YtekbcbjimajnfaaGreatDoor
end
section
namespace Go.Proofs.YtekbcbjimajnfaaGreatDoor
set_option linter.unusedSimpArgs false
set_option linter.unusedVariables false
set_option maxRecDepth 20000
open Go.RowKit Go.Eng
/-! ### FacetsOf -/
/-! ### slices.Delete, IndexFunc -/
/-! ### listed -/
def sEqX (a b : List UInt8) : Bool := decide (a = b)
theorem sEqX_iff (a b : List UInt8) : sEqX a b = true ↔ a = b := by simp [sEqX]
theorem EqlSt_any (A B : Option Addr) (q c p d : Nat) (l m : List (List UInt8)) (w : World) (hl : SlT strE 1 w A q l) (hm : SlT strE 1 w B p m) (hq : q ≤ 4611686018427387904) (hp : p ≤ 4611686018427387904) :
    Calls Tryz.prog 34 #[.slice A q c, .slice B p d] w fun e w' => e = .returned (.bool (eqLB sEqX l m)) ∧ Below w.heap.size w w' := by
  have hlen := hl.len
  have hmen := hm.len
  refine enter_args (args := [.slice A q c, .slice B p d]) (F := _) Tryz.func34 rfl Tryz.ntmps34 rfl rfl ?_
  intro Rb hRb hRn
  refine tx ?_
  refine sr 1 ?_
  refine sgs ?_
  refine tx ?_
  refine sr 1 ?_
  refine s1 (y_len_slice rfl rfl Tryz.underlying49) ?_
  refine sr 1 ?_
  refine s1 (y_len_slice rfl rfl Tryz.underlying49) ?_
  refine sr 1 ?_
  refine sgo ?_
  refine T_cond rfl ?_ ?_ <;> intro h10
  · try simp only [nrm] at h10
    refine tx ?_
    refine sr 1 ?_
    refine sgo ?_
    refine tr1 hRb fun w hM => ?_
    exact ⟨by rw [eqLB_len l m (by omega)], hM.below⟩
  try simp only [nrm] at h10
  refine kgs ?_
  refine tx ?_
  refine sr 1 ?_
  refine s1 (y_len_slice rfl rfl Tryz.underlying49) ?_
  refine sr 1 ?_
  refine sgo ?_
  refine T_block ?_
  refine lK1 (kf := [(4, 5), (13, 25)]) (kl := [(4, 5), (13, 25)]) (fun (i : Nat) => [(13, true, .int .i64 (i : Int))]) (fun (i : Nat) => []) (fun (i : Nat) => i ≤ q ∧ eqLB sEqX l m = eqLB sEqX (l.drop i) (m.drop i)) (fun (i : Nat) => q - i) 0 ?_ ?_ ?_ ?_
  · exact ⟨by omega, rfl⟩
  · exact ⟨rfl, trivial⟩
  · exact trivial
  rintro i ⟨hp1, hp2⟩
  refine tx ?_
  refine sr 1 ?_
  refine sgs ?_
  refine T_cond rfl ?_ ?_ <;> intro h14
  · try simp only [nrm] at h14
    obtain ⟨a, hx1, hx2⟩ := hl.at (i := i) (by omega)
    obtain ⟨b, hy1, hy2⟩ := hm.at (i := i) (by omega)
    refine kgs ?_
    refine T_block ?_
    refine tx ?_
    refine sr 2 ?_
    refine sgs ?_
    refine T_draws (by kernel_rfl) (by kernel_rfl) ?_
    refine d1 (y_move rfl rfl) ?_
    refine d1 (y_move rfl rfl) ?_
    refine d1 (y_indexAddr rfl rfl rfl Tryz.underlying49 sz9 (fun hg => hl.isSome (by omega)) (fun _ => by omega)) ?_
    refine d1 (y_loadT1 (val := (fun l : List UInt8 => str l)) rfl rfl hl (fun _ => hx1) Tryz.underlying9 rfl) ?_
    refine d1 (y_move rfl rfl) ?_
    refine d1 (y_move rfl rfl) ?_
    refine d1 (y_indexAddr rfl rfl rfl Tryz.underlying49 sz9 (fun hg => hm.isSome (by omega)) (fun _ => by omega)) ?_
    refine d1 (y_loadT1 (val := (fun l : List UInt8 => str l)) rfl rfl hm (fun _ => hy1) Tryz.underlying9 rfl) ?_
    refine d1 (y_as (v' := .bool (!(sEqX a b))) (by rw [show (decide (a = b)) = sEqX a b from rfl]) (y_bin rfl rfl rfl (fun _ => b_neqs))) ?_
    refine dgo ?_
    refine T_cond rfl ?_ ?_ <;> intro h24
    · skip
      have h24e : sEqX a b = false := by simpa using h24
      refine tx ?_
      refine sr 1 ?_
      refine sgo ?_
      refine tr1 hRb fun w hM => ?_
      exact ⟨by rw [hp2, hx2, hy2, eqLB, h24e, Bool.false_and], hM.below⟩
    have h24e : sEqX a b = true := by simpa using h24
    refine kgr ?_
    refine s1 (y_bin rfl rfl rfl (fun hg => b_add (by omega))) ?_
    refine sr 1 ?_
    refine S_nil (nK1 (kf := [(4, 5), (13, 25)]) (kl := [(4, 5), (13, 25)]) (i + 1) ?_ ?_ ?_ ?_)
    · omega
    · exact ⟨by omega, by rw [hp2, hx2, hy2, eqLB, h24e, Bool.true_and]⟩
    · exact ⟨rfl, trivial⟩
    · exact trivial
  try simp only [nrm] at h14
  refine egx ?_
  refine sr 1 ?_
  refine sgo ?_
  refine tr1 hRb fun w hM => ?_
  exact ⟨by rw [hp2, hl.end (by omega), hm.end (by omega)]; rfl, hM.below⟩
end Go.Proofs.YtekbcbjimajnfaaGreatDoor
end
section
namespace Go.Proofs.YtekbcbjimajnfaaGreatDoor
set_option linter.unusedSimpArgs false
set_option linter.unusedVariables false
set_option maxRecDepth 20000
open Go.RowKit Go.Shelf Go.Eng
attribute [local go_sem] Oper.semAt_some
def uptoS (l : List (List UInt8)) (k : Nat) : List (List UInt8) := (List.range k).map fun j => l[j]?.getD []
theorem uptoS_succ (l : List (List UInt8)) (k : Nat) : uptoS l (k + 1) = uptoS l k ++ [l[k]?.getD []] := by simp [uptoS, List.range_succ]
theorem uptoS_len (l : List (List UInt8)) (k : Nat) : (uptoS l k).length = k := by simp [uptoS]
theorem uptoS_all (l : List (List UInt8)) : uptoS l l.length = l := by
  apply List.ext_getElem
  · simp [uptoS]
  · intro i h1 h2
    simp [uptoS, h2]
/-- a slice of strings that lies in one block below n₀ -/
def RowAt (n₀ : Nat) (W : World) (A : Option Addr) (q : Nat) (l : List (List UInt8)) : Prop := l.length = q ∧ (0 < q → ∃ b, A = some ⟨b, 0, none⟩ ∧ b < n₀ ∧ ∀ j, j < q → W.cell? ⟨b, j, none⟩ = some (str (l[j]?.getD [])))
theorem RowAt.below {n₀ : Nat} {W W' : World} {A : Option Addr} {q : Nat} {l : List (List UInt8)} (h : RowAt n₀ W A q l) (hb : Below n₀ W W') : RowAt n₀ W' A q l :=
  ⟨h.1, fun h0 => let ⟨b, h1, h2, h3⟩ := h.2 h0; ⟨b, h1, h2, fun j hj => (hb.cell (p := ⟨b, j, none⟩) h2).trans (h3 j hj)⟩⟩
theorem RowAt.up {n₀ n₁ : Nat} {W : World} {A : Option Addr} {q : Nat} {l : List (List UInt8)} (h : RowAt n₀ W A q l) (hn : n₀ ≤ n₁) : RowAt n₁ W A q l :=
  ⟨h.1, fun h0 => let ⟨b, h1, h2, h3⟩ := h.2 h0; ⟨b, h1, Nat.lt_of_lt_of_le h2 hn, h3⟩⟩
set_option maxRecDepth 100000 in
set_option maxHeartbeats 2000000 in
theorem valuesS1_in (F : Fence) (n : Nat) (h7 : F.fn 81) (hro : F.round = none) (hn : 1 ≤ n) (l Bs n₀ q cap : Nat) (A : Option Addr) (zs : List (List UInt8)) (hq : q ≤ 1000000) (J Jx : List (List UInt8) → World → Prop)
    (hY : ∀ pre x W, J pre W → pre.length < q → YieldAt F (n - 1) Tryz.prog l #[str x] W fun e W' =>
      (e = .returned (.bool true) ∧ J (pre ++ [x]) W' ∧ Below n₀ W W') ∨ (e = .returned (.bool false) ∧ Jx (pre ++ [x]) W'))
    (W : World) (hBs : W.cell? ⟨Bs, 0, none⟩ = some (.slice A q cap)) (hc : RowAt n₀ W A q zs) (h0 : J [] W) :
    CallsIn F n Tryz.prog 81 #[.func (.yield l) #[] #[], .pointer (some ⟨Bs, 0, none⟩)] W fun e W' => (∃ v, e = .returned v) ∧
      ((∃ ys, ys = uptoS zs q ∧ J ys W') ∨ (∃ pre, (∃ k, k ≤ q ∧ pre = uptoS zs k) ∧ Jx pre W')) := by
  refine callsIn_of_wp Tryz.func81 rfl h7 ?_ hro
  simp only [Tryz.ntmps81, List.size_toArray, List.length_cons, List.length_nil, Nat.reduceAdd, Nat.reduceSub, Array.replicate_succ, Array.replicate_zero, List.push_toArray, List.append_toArray, List.nil_append, List.cons_append]
  gi_wp2
  gi_loopw [7] (fun i wr => ∃ k : Nat, k ≤ q ∧ i = .int .i64 k ∧ J (uptoS zs k) wr ∧ Below n₀ W wr)
    (fun i _ => q - (intOf i).toNat)
  case atStart => exact ⟨0, Nat.zero_le _, rfl, h0, Below.refl _ _⟩
  case round =>
    obtain ⟨k, hk, rfl, hJs, hnx⟩ := hrel
    by_cases hlt : k < q
    · obtain ⟨fn, tmps, assign, body, hy, hR⟩ := hY _ (zs[k]?.getD []) wr hJs (by rw [uptoS_len]; exact hlt)
      obtain ⟨b, rfl, hb, hcs⟩ := hc.2 (by omega)
      have hcx : wr.cell? ⟨b, k, none⟩ = some (str (zs[k]?.getD [])) := (hnx.cell (p := ⟨b, k, none⟩) hb).trans (hcs k hlt)
      gi_wp2
      refine hR.mono ?_
      rintro e W3 (⟨rfl, hJ3, hk3⟩ | ⟨rfl, hJx3⟩)
      · gi_wp2
        go_roundw
        case rel => exact ⟨k + 1, by omega, by simp, by rw [uptoS_succ]; exact hJ3, hnx.trans hk3⟩
        case measure => simp [intOf]; omega
      · gi_wp2
        refine bodyPost_ret (results_none rfl _ _ _) rfl ?_
        exact ⟨⟨_, rfl⟩, .inr ⟨_, ⟨k + 1, by omega, (uptoS_succ _ _).symm⟩, hJx3⟩⟩
    · obtain rfl : k = q := by omega
      gi_wp2
      go_end0
      exact ⟨⟨_, rfl⟩, .inl ⟨_, rfl, hJs⟩⟩
theorem valuesS_stops (F : Fence) (n : Nat) (h7 : F.fn 81) (hro : F.round = none) (hn : 1 ≤ n) (Bs n₀ q cap : Nat) (A : Option Addr) (zs : List (List UInt8)) (hq : q ≤ 1000000) (w : World) (hBs : Bs < w.heap.size) (hn₀ : n₀ ≤ w.heap.size)
    (hc : w.cell? ⟨Bs, 0, none⟩ = some (.slice A q cap)) (hL : RowAt n₀ w A q zs) :
    SeqStopsK F n Tryz.prog 81 #[.pointer (some ⟨Bs, 0, none⟩)] (fun x : List UInt8 => #[str x]) (Below n₀) (fun ys => ys = uptoS zs q) (fun pre => ∃ k, k ≤ q ∧ pre = uptoS zs k) q w := fun l J Jx W hW _ _ hY h0 =>
  valuesS1_in F n h7 hro hn l Bs n₀ q cap A zs hq J Jx hY W ((hW.cell (p := ⟨Bs, 0, none⟩) hBs).trans hc) (hL.below (hW.mono hn₀)) h0
set_option maxRecDepth 100000 in
set_option maxHeartbeats 2000000 in
theorem AppendSeqS_in (F : Fence) (n : Nat) (h3 : F.fn 124) (h5 : F.fn 81) (hro : F.round = none) (hn : 3 ≤ n) (Bs q cap : Nat) (A : Option Addr) (zs : List (List UInt8)) (hq : q ≤ 1000000) (w : World) (hBs : Bs < w.heap.size)
    (hc : w.cell? ⟨Bs, 0, none⟩ = some (.slice A q cap)) (hL : RowAt w.heap.size w A q zs) :
    CallsIn F n Tryz.prog 124 #[.slice none 0 0, .func (.func 81) #[] #[.pointer (some ⟨Bs, 0, none⟩)]] w fun e W' => ∃ v, e = .returned v ∧ W'.ownsRow w.heap.size 9 1 v zs.length (zs.map str) ∧ Below w.heap.size w W' := by
  have h1 : 1 ≤ n := by omega
  obtain ⟨i0, hi, hz0, hz1, hz2⟩ := info_parts inf9
  refine callsIn_of_wp_marks Tryz.func124 rfl h3 ?_ hro
  simp only [Tryz.ntmps124, List.size_toArray, List.length_cons, List.length_nil, Nat.reduceAdd, Nat.reduceSub, Array.replicate_succ, Array.replicate_zero, List.push_toArray, List.append_toArray, List.nil_append, List.cons_append]
  gi_wp2
  have bO := Boxed.new w 49 (.slice none 0 0)
  have hB0 : Below w.heap.size w (w.alloc (.cells #[.slice none 0 0] 49)) := (Below.refl _ w).alloc (Nat.le_refl _) _
  refine wpIn_rangeFunc_ownG hro h1 (gf := 81) (lb := #[.pointer (some ⟨Bs, 0, none⟩)]) rfl h5 (enters_of Tryz.func81 (by kernel_rfl) rfl)
    (valuesS_stops F (n - 1) h5 hro (by omega) Bs w.heap.size q cap A zs hq _ (by simp; omega) (by simp) ((hB0.cell (p := ⟨Bs, 0, none⟩) hBs).trans hc) (hL.below hB0)) belowK_t (belowK_b (by simp)) (Below.refl _ _) (fun _ => rfl)
    (fun pre W => (∃ v, Boxed W w.heap.size 49 v ∧ W.ownsRow w.heap.size 9 1 v pre.length (pre.map str) ∧ (v = .slice none 0 0 ↔ pre = [])) ∧ Below w.heap.size w W)
    (fun _ _ _ => False)
    (OwnFrom.and (Own.from (holdsRow_own w.heap.size w.heap.size 49 9 1 (fun pre => pre.length) (fun pre => pre.map str) (fun pre v => v = .slice none 0 0 ↔ pre = [])) _) (ownFrom_below (Nat.le_refl _) (by simp)))
    (fun _ _ _ _ _ hs _ _ => hs)
    ⟨⟨_, bO, World.ownsRow_nil _ _ _ _, by simp⟩, hB0⟩
    (fun x => { tmps := #[.slice none 0 0, .func (.func 81) #[] #[.pointer (some ⟨Bs, 0, none⟩)], .pointer (some ⟨w.heap.size, 0, none⟩), undef, .slice none 0 0, str x, .func (.func 81) #[] #[.pointer (some ⟨Bs, 0, none⟩)], str x, undef, undef, undef, undef, undef], defers := [] }) ?assign ?body ?done ?stop
  case assign =>
    intro l x W K hK
    gi_wp2
    exact hK
  case body =>
    rintro l pre x W ⟨⟨v, hv, hrow, hnil⟩, hB⟩ hlt
    have hcv := hv.cell
    gi_wp2_with (gi_at_builtin; refine wpListIn_append_own _ rfl _ _ 49 rfl w.heap.size 9 i0 (str []) 1 16 Tryz.underlying49 hi hz0 hz1 hz2 rfl (by decide) _ _ _ rfl (hrow.alloc _) ⟨W.heap.size, 0, none⟩ 1 1 [str x] rfl rfl (cell_one_new _ _ _) (by simp [Value.oneCell']) (by simp only [maxLen]; omega) (by omega) (by have := hB.size; simp; omega) ?_; intro v' w1 hown' hgrow _; obtain ⟨g', cap', rfl⟩ := ownsRow_succ hown'; obtain ⟨hv1, hv2, hr2, hk2, hb2⟩ := hv.appended (by decide) hrow hB.size (Nat.le_refl _) hown' hgrow; have hc1 := hv1.cell; have hf1 := hv1.frozen)
    exact ⟨hk2.from _, hb2, ⟨_, hv2, by simpa using hr2, by simp⟩, hB.trans hb2⟩
  case done =>
    rintro D ys W hD rfl ⟨⟨v, hv, hrow, hnil⟩, hB⟩ hK
    have hcv := hv.cell
    gi_wp2
    refine ⟨by simp, .inl ⟨_, _, rfl, run_takeDeferred hK, ?_⟩⟩
    have hz : uptoS zs q = zs := by rw [← hL.1]; exact uptoS_all zs
    rw [hz] at hrow
    exact ⟨_, results_tmp rfl _ _ _, v, rfl, ownsRow_putObj hrow _ hK rfl, hB.trans (belowK_b (w := w) (Nat.le_refl _) W D _ _ (by simp at hD; omega) hK rfl rfl)⟩
  case stop =>
    rintro D c pre W _ _ h _
    exact h.elim
end Go.Proofs.YtekbcbjimajnfaaGreatDoor
end
section
namespace Go.Proofs.YtekbcbjimajnfaaGreatDoor
set_option linter.unusedSimpArgs false
set_option linter.unusedVariables false
set_option maxRecDepth 20000
open Go.RowKit Go.Eng
section
variable {P : Program} {α : Type} [Inhabited α] {enc : α → Value} {f : FuncId} {srt : List α → List α} {w0 : World} {K : HL}
theorem conv0 {p p' : It} {i : Nat} {q : It} (hp : HL.get ([(0, p')] ++ K) i = some q) : HL.get ((0, p') :: ([(0, p)] ++ K)) i = some q := by
  simp only [HL.get, List.cons_append, List.nil_append] at hp ⊢
  cases hb : Nat.beq 0 i
  · rw [hb] at hp; exact hp
  · rw [hb] at hp; exact hp
theorem sort_row1 (hlenS : ∀ l, (srt l).length = l.length) (hnone : ∀ (A : Option Addr) (c : Nat) (w : World), Calls P f #[.slice A 0 c] w fun e w' => e = .returned (.tuple #[]) ∧ w' = w)
    (hsort : ∀ (b off cap : Nat) (l : List α) (w : World), Go.Sort.Holds enc w b off l.toArray → b < w.heap.size → l.length < 4611686018427387904 → Calls P f #[.slice (some ⟨b, off, none⟩) l.length cap] w fun e w' => e = .returned (.tuple #[]) ∧ ∃ n os, w' = Go.Sort.grow (Go.Sort.putRow enc (Go.Sort.ahead w n) b off (srt l).toArray) os)
    {T : TypeId} (A : Option Addr) (q c : Nat) (l : List α) (w : World) (hlen : l.length = q) (hq : q ≤ 1000000000) (hM : Mem w0 ([(0, .own T 1 (.slice A q c) q (l.map enc))] ++ K) w) :
    Calls P f #[.slice A q c] w fun e w' => ∃ u : Unit, e = .returned (.tuple #[]) ∧ True ∧ Mem w0 ([(0, .own T 1 (.slice A q c) q ((srt l).map enc))] ++ K) w' := by
  have h0 := hM.sat 0 _ rfl
  obtain ⟨hx, hv⟩ := h0
  rcases hv with ⟨hv, hn⟩ | ⟨b, cap, cur, hv, hb, hg, hc1, hc2, hc3, hc4⟩
  · simp only [Value.slice.injEq] at hv
    obtain ⟨rfl, rfl, rfl⟩ := hv
    have hl0 : l = [] := List.eq_nil_of_length_eq_zero hlen
    subst hl0
    have hs0 : srt [] = [] := List.eq_nil_of_length_eq_zero (hlenS [])
    refine (hnone none 0 w).mono ?_
    rintro e w' ⟨rfl, rfl⟩
    rw [hs0]
    exact ⟨(), rfl, trivial, hM⟩
  · simp only [Value.slice.injEq] at hv
    obtain ⟨rfl, _, rfl⟩ := hv
    subst hlen
    have hlt : b < w.heap.size := (Array.getElem?_eq_some_iff.1 hg).1
    have hH : Go.Sort.Holds enc w b 0 l.toArray := holds_own1 hg (by simpa using hc4)
    refine (hsort b 0 c l w hH hlt (by omega)).mono ?_
    rintro e w' ⟨rfl, m, os, hw⟩
    have hw2 : w' = Go.Proofs.sortWorld enc w b 0 m (srt l).toArray os := hw
    have hsz : (srt l).toArray.size = l.length := by simp [hlenS]
    obtain ⟨cur', g1, g2, g3⟩ := heap_sorted1 (enc := enc) (m := m) (os := os) (d' := (srt l).toArray) hg (by rw [hsz]; omega)
    rw [← hw2] at g1
    have hT := hM.turn (i := 0) rfl (p' := .own T 1 (.slice (some ⟨b, 0, none⟩) l.length c) l.length ((srt l).map enc)) (w' := w') (by rw [hw2]; exact sorted_grown1 hlt) ⟨by
      rw [List.length_map, hlenS, Nat.mul_one], .inr ⟨b, c, cur', rfl, hb, g1, by omega, by omega, by omega, by
        rw [hsz] at g3
        rw [Nat.mul_one]
        simpa using g3⟩⟩ (.inl rfl)
    exact ⟨(), rfl, trivial, hT.below, fun i p hp => hT.sat i p (conv0 hp), fun i j p q hij hp hq => hT.apart i j p q hij (conv0 hp) (conv0 hq)⟩
end
theorem strs_map (l : List (List UInt8)) : l.flatMap strE = l.map str := flat_one (fun _ => rfl) l
def srtS (l : List (List UInt8)) : List (List UInt8) := l.mergeSort fun x y => decide (x ≤ y)
theorem srtS_perm (l : List (List UInt8)) : (srtS l).Perm l := List.mergeSort_perm _ _
theorem srtS_sorted (l : List (List UInt8)) : (srtS l).Pairwise fun x y => ¬ y < x := by
  have h := List.pairwise_mergeSort (le := fun x y : List UInt8 => decide (x ≤ y)) (fun a b c h1 h2 => by
    rw [decide_eq_true_eq] at *; exact List.le_trans h1 h2) (fun a b => by
    rw [Bool.or_eq_true, decide_eq_true_eq, decide_eq_true_eq]; exact List.le_total a b) l
  exact h.imp fun h => by rw [decide_eq_true_eq] at h; exact List.not_lt.2 h
theorem srtS_one {l m : List (List UInt8)} (h : l.Perm m) : srtS l = srtS m :=
  sorted_uniq ((srtS_perm l).trans (h.trans (srtS_perm m).symm)) (srtS_sorted l) (srtS_sorted m) fun x _ y _ h1 h2 => by
    have a1 := cmpB_le.2 h1
    have a2 := cmpB_le.2 h2
    have := cmp3_B.anti x y
    exact cmpB_zero (by omega)
theorem SortStr_any {w0 : World} {K : HL} (A : Option Addr) (q c : Nat) (l : List (List UInt8)) (w : World) (hlen : l.length = q) (hq : q ≤ 1000000000) (hM : Mem w0 ([(0, .own 9 1 (.slice A q c) q (l.flatMap strE))] ++ K) w) :
    Calls Tryz.prog 35 #[.slice A q c] w fun e w' => ∃ u : Unit, e = .returned (.tuple #[]) ∧ True ∧ Mem w0 ([(0, .own 9 1 (.slice A q c) q ((srtS l).flatMap strE))] ++ K) w' := by
  simp only [strs_map] at hM ⊢
  exact sort_row1 (fun l => (srtS_perm l).length_eq) (fun A c w => Any.slices_Sort_string_none Tryz.lays190 A c w) (fun b off cap l w h1 h2 h3 => Any.slices_Sort_string Tryz.lays190 b off cap l w h1 h2 h3) A q c l w hlen hq hM
/-! ### Reverse -/
def revT (l : List (List UInt8)) (i : Nat) : List (List UInt8) := (List.range l.length).map fun k => if k < i ∨ l.length - i ≤ k then l[l.length - 1 - k]! else l[k]!
theorem revT_len (l : List (List UInt8)) (i : Nat) : (revT l i).length = l.length := by simp [revT]
theorem revT_at {l : List (List UInt8)} {i k : Nat} (h : k < l.length) : (revT l i)[k]? = some (if k < i ∨ l.length - i ≤ k then l[l.length - 1 - k]! else l[k]!) := by
  unfold revT
  rw [List.getElem?_map, List.getElem?_range h]; rfl
theorem revT_zero (l : List (List UInt8)) : revT l 0 = l := by
  refine List.ext_getElem? fun k => ?_
  by_cases h : k < l.length
  · rw [revT_at h, if_neg (by omega), List.getElem!_eq_getElem?_getD, List.getElem?_eq_getElem h]; rfl
  · rw [List.getElem?_eq_none (by rw [revT_len]; omega), List.getElem?_eq_none (by omega)]
theorem revT_end {l : List (List UInt8)} {i : Nat} (h : l.length ≤ 2 * i + 1) : revT l i = l.reverse := by
  refine List.ext_getElem? fun k => ?_
  by_cases hk : k < l.length
  · rw [revT_at hk, List.getElem?_reverse hk, List.getElem?_eq_getElem (by omega)]
    congr 1
    split
    · rw [List.getElem!_eq_getElem?_getD, List.getElem?_eq_getElem (by omega)]; rfl
    · have e : l.length - 1 - k = k := by omega
      rw [List.getElem!_eq_getElem?_getD, List.getElem?_eq_getElem hk]
      simp only [e]; rfl
  · rw [List.getElem?_eq_none (by rw [revT_len]; omega), List.getElem?_eq_none (by rw [List.length_reverse]; omega)]
theorem revT_step {l : List (List UInt8)} {i : Nat} (h : 2 * i + 2 ≤ l.length) : ((revT l i).set i l[l.length - 1 - i]!).set (l.length - 1 - i) l[i]! = revT l (i + 1) := by
  refine List.ext_getElem? fun k => ?_
  by_cases hk : k < l.length
  · rw [List.getElem?_set, List.getElem?_set, List.length_set, revT_len, revT_at hk, revT_at hk]
    by_cases h1 : l.length - 1 - i = k
    · rw [if_pos h1, if_pos (by omega), if_pos (by omega)]
      have e : l.length - 1 - k = i := by omega
      rw [e]
    · rw [if_neg h1]
      by_cases h2 : i = k
      · subst h2; rw [if_pos rfl, if_pos hk, if_pos (by omega)]
      · rw [if_neg h2]
        congr 1
        by_cases h3 : k < i ∨ l.length - i ≤ k
        · rw [if_pos h3, if_pos (by omega)]
        · rw [if_neg h3, if_neg (by omega)]
  · rw [List.getElem?_eq_none (by rw [List.length_set, List.length_set, revT_len]; omega), List.getElem?_eq_none (by rw [revT_len]; omega)]
theorem set_strs (l : List (List UInt8)) (i : Nat) (x : List UInt8) : (l.flatMap strE).set i (str x) = (l.set i x).flatMap strE := by
  rw [strs_map, strs_map, List.map_set]
theorem ReverseS_any {w0 : World} {K : HL} (hK : FromK K) (A : Option Addr) (q c : Nat) (l : List (List UInt8)) (hq : l.length = q) (hqm : q ≤ 1000000000) (w : World)
    (hM0 : Mem w0 ([(0, .own 9 1 (.slice A q c) q (l.flatMap strE))] ++ K) w) :
    Calls Tryz.prog 33 #[.slice A q c] w fun e w' => ∃ _ : Unit, e = .returned (.tuple #[]) ∧ True ∧ Mem w0 ([(0, .own 9 1 (.slice A q c) q (l.reverse.flatMap strE))] ++ K) w' := by
  rw [← revT_zero l] at hM0
  refine enterM_args (args := [.slice A q c]) (F := _) hM0 Tryz.func33 rfl Tryz.ntmps33 rfl rfl ?_
  intro Rb hRb hRn
  refine T_some 0 rfl fun hA => ?_
  refine tx ?_
  refine sr 1 ?_
  refine s1 (y_len_slice rfl rfl Tryz.underlying49) ?_
  refine s1 (y_as (v' := .int .i64 ((q : Int) - 1 - ((0 : Nat) : Int))) (by congr 1; omega) (y_bin rfl rfl rfl (fun hg => b_sub (by omega)))) ?_
  refine sr 2 ?_
  refine sgo ?_
  refine T_block ?_
  refine lK1 (kf := [(2, 3), (7, 27)]) (kl := [(0, 0), (2, 3), (7, 27)]) (fun (i : Nat) => [(2, true, .int .i64 (i : Int)), (3, true, .int .i64 ((q : Int) - 1 - (i : Int)))]) (fun (i : Nat) => [(0, .own 9 1 (.slice A q c) q ((revT l i).flatMap strE))]) (fun (i : Nat) => 2 * i ≤ q) (fun (i : Nat) => q - i) 0 ?_ ?_ ?_ ?_
  · omega
  · exact ⟨rfl, rfl, trivial⟩
  · exact ⟨rfl, trivial⟩
  rintro i hp1
  refine T_seq ?_
  refine tx ?_
  refine sr 3 ?_
  refine sgo ?_
  refine T_cond rfl ?_ ?_ <;> intro h9
  · try simp only [nrm] at h9
    have hu : (revT l i)[i]? = some l[i]! := by rw [revT_at (by omega), if_neg (by omega)]
    have hv : (revT l i)[q - 1 - i]? = some l[l.length - 1 - i]! := by rw [revT_at (by omega), if_neg (by omega), hq]
    refine kgs ?_
    refine T_block ?_
    refine T_perm [0, 1, 2, 3, 4, 5, 6, 7, 8, 9, 10, 11, 12, 13, 14, 15] [true, true, true, true, true, true, true, true, true, true, true, true, true, false, true, false] [0, 0, 0, 0, 0, 0, 48, 112, 0, 0, 768, 1792, 4083, 8179, 16383, 32767] [(7, [0]), (11, [0])] (by kernel_rfl) (by kernel_rfl) (by kernel_rfl) rfl (by kernel_rfl) ?_
    refine Rf_ 0 14 rfl rfl rfl rfl rfl _ trivial (Y.z (y_move rfl rfl) rfl) ?_
    refine Rf_ 1 15 rfl rfl rfl rfl rfl _ trivial (Y.z (y_move rfl rfl) rfl) ?_
    refine Rf_ 2 16 rfl rfl rfl rfl rfl _ trivial (Y.z (y_move rfl rfl) rfl) ?_
    refine Rf_ 3 17 rfl rfl rfl rfl rfl _ trivial (Y.z (y_as (v' := .int .i64 ((q - 1 - i : Nat) : Int)) (by congr 1; omega) (y_move rfl rfl)) rfl) ?_
    refine Rf_ 4 18 rfl rfl rfl rfl rfl _ trivial (Y.z (y_move rfl rfl) rfl) ?_
    refine Rf_ 5 19 rfl rfl rfl rfl rfl _ trivial (Y.z (y_as (v' := .int .i64 ((q - 1 - i : Nat) : Int)) (by congr 1; omega) (y_move rfl rfl)) rfl) ?_
    refine Rf_ 6 20 rfl rfl rfl rfl rfl _ trivial (Y.z (y_indexAddr rfl rfl rfl Tryz.underlying49 sz9 (fun hg => hA (by omega)) (fun _ => by omega)) rfl) ?_
    refine Rf_ 7 21 rfl rfl rfl rfl rfl _ ⟨rfl, trivial⟩ (Y.z (y_loadO1 0 (val := (fun l : List UInt8 => str l)) rfl rfl rfl (by rw [revT_len]; omega) (fun _ => hv) Tryz.underlying9 rfl) rfl) ?_
    refine Rf_ 8 22 rfl rfl rfl rfl rfl _ trivial (Y.z (y_move rfl rfl) rfl) ?_
    refine Rf_ 9 23 rfl rfl rfl rfl rfl _ trivial (Y.z (y_move rfl rfl) rfl) ?_
    refine Rf_ 10 24 rfl rfl rfl rfl rfl _ trivial (Y.z (y_indexAddr rfl rfl rfl Tryz.underlying49 sz9 (fun hg => hA (by omega)) (fun _ => by omega)) rfl) ?_
    refine Rf_ 11 25 rfl rfl rfl rfl rfl _ ⟨rfl, trivial⟩ (Y.z (y_loadO1 0 (val := (fun l : List UInt8 => str l)) rfl rfl rfl (by rw [revT_len]; omega) (fun _ => hu) Tryz.underlying9 rfl) rfl) ?_
    refine Rf_ 12 26 rfl rfl rfl rfl rfl _ trivial (Y.z (y_indexAddr rfl rfl rfl Tryz.underlying49 sz9 (fun hg => hA (by omega)) (fun _ => by omega)) rfl) ?_
    refine R_chain 13 rfl rfl ?_
    refine S_storeOwn 0 rfl rfl rfl rfl rfl rfl sz9 rfl rfl ?_ (xs' := ((revT l i).set i l[l.length - 1 - i]!).flatMap strE) ?_ ?_
    · (rw [strs_map, List.length_map, revT_len]; omega)
    · first | exact set_strs _ _ _ | (simp only [Nat.mul_one]; exact set_strs _ _ _)
    refine R_next ⟨.inl rfl, .inl rfl, trivial⟩ ?_
    refine Rf_ 14 27 rfl rfl rfl rfl rfl _ trivial (Y.z (y_indexAddr rfl rfl rfl Tryz.underlying49 sz9 (fun hg => hA (by omega)) (fun _ => by omega)) rfl) ?_
    refine R_chain 15 rfl rfl ?_
    refine S_storeOwn 0 rfl rfl rfl rfl rfl rfl sz9 rfl rfl ?_ (xs' := (revT l (i + 1)).flatMap strE) ?_ ?_
    · (rw [strs_map, List.length_map, List.length_set, revT_len]; omega)
    · rw [← revT_step (by omega), hq]; first | exact set_strs _ _ _ | (simp only [Nat.mul_one]; exact set_strs _ _ _)
    refine R_next ⟨.inl rfl, .inl rfl, trivial⟩ ?_
    refine R_go (fun _ _ h => h) ?_
    refine T_region ?_
    refine sr 1 ?_
    refine s1 (y_bin rfl rfl rfl (fun hg => b_addv (((i + 1 : Nat) : Int)) (by omega) (by omega))) ?_
    refine sr 1 ?_
    refine s1 (y_as (v' := .int .i64 ((q : Int) - 1 - ((i + 1 : Nat) : Int))) (by congr 1; omega) (y_bin rfl rfl rfl (fun hg => b_sub (by omega)))) ?_
    refine sr 2 ?_
    refine S_nil (nK1 (kf := [(2, 3), (7, 27)]) (kl := [(0, 0), (2, 3), (7, 27)]) (i + 1) ?_ ?_ ?_ ?_)
    · omega
    · omega
    · exact ⟨rfl, rfl, trivial⟩
    · exact ⟨rfl, trivial⟩
  try simp only [nrm] at h9
  refine T_exit (fun a w hF hM => hRn a w (post0 rfl (fun w hM => ?_) a w hF hM))
  exact ⟨(), rfl, trivial, hM.keep (ks := [(0, 999)]) (by repeat (first | exact kl_rest (by assumption) rfl | (apply kl_in; focus rfl))) _ ⟨by rw [← revT_end (l := l) (i := i) (by omega)]; rfl, trivial⟩⟩
/-! ### Sorted(Values(..)) -/
theorem rowAt_own {w0 w : World} {L : HL} {i q c : Nat} {A : Option Addr} {l : List (List UInt8)} (hM : Mem w0 L w) (hq : l.length = q) (hL : L.get i = some (.own 9 1 (.slice A q c) q (l.flatMap strE))) : RowAt w.heap.size w A q l := by
  refine ⟨hq, fun h0 => ?_⟩
  have hown : w.ownsRow w0.heap.size 9 1 (.slice A q c) q (l.flatMap strE) := hM.sat i _ hL
  obtain ⟨_, hr⟩ := own_reads hM hL
  obtain ⟨ad, hA0, _, hcells⟩ := hr h0
  rcases hown.2 with ⟨_, hn⟩ | ⟨gb, cap, cur, hvv, hb, hgb, _⟩
  · omega
  · have hA : A = some ⟨gb, 0, none⟩ := by injection hvv
    refine ⟨gb, hA, (Array.getElem?_eq_some_iff.1 hgb).1, fun j hj => ?_⟩
    rw [hA] at hA0
    obtain rfl : (⟨gb, 0, none⟩ : Addr) = ad := by injection hA0
    have h1 : (l.flatMap strE)[j]? = some (str (l[j]?.getD [])) := by
      rw [strs_map, List.getElem?_map, List.getElem?_eq_getElem (by omega)]; rfl
    have h2 := hcells j _ h1
    rw [Addr.add_lit, Nat.zero_add] at h2
    exact h2
theorem Values_any {w0 : World} {K : HL} (hK : FromK K) (A : Option Addr) (q c : Nat) (w : World) (hM0 : Mem w0 ([] ++ K) w) :
    Calls Tryz.prog 37 #[.slice A q c] w fun e w' => ∃ b : Nat, e = .returned (.func (.func 81) #[] #[.pointer (some ⟨b, 0, none⟩)]) ∧ True ∧ Mem w0 ([(1, .blk b (IsBox [.slice A q c] 49))] ++ K) w' := by
  refine enterM_args (args := [.slice A q c]) (F := _) hM0 Tryz.func37 rfl Tryz.ntmps37 rfl rfl ?_
  intro Rb hRb hRn
  refine tx ?_
  refine S_box 1 1 rfl rfl rfl rfl rfl ?_
  intro b1
  refine sr 1 ?_
  refine sgx ?_
  refine s1 (y_makeFunc rfl rfl rfl rfl rfl) ?_
  refine sr 1 ?_
  refine sgo ?_
  refine tr1 hRb fun w hM => ?_
  exact ⟨b1, rfl, trivial, hM.keep (ks := [(0, 999)]) (by repeat (first | exact kl_rest (by assumption) rfl | (apply kl_in; focus rfl))) _ ⟨rfl, trivial⟩⟩
theorem AppendSeqS_any (Bs q cap : Nat) (A : Option Addr) (zs : List (List UInt8)) (hq : q ≤ 1000000) (w : World) (hc : CellsAt w Bs [.slice A q cap]) (hL : RowAt w.heap.size w A q zs) :
    Calls Tryz.prog 124 #[.slice none 0 0, .func (.func 81) #[] #[.pointer (some ⟨Bs, 0, none⟩)]] w fun e w' => ∃ A' c', e = .returned (.slice A' q c') ∧ w'.ownsRow w.heap.size 9 1 (.slice A' q c') q (zs.flatMap strE) ∧ Below w.heap.size w w' := by
  have h := callsIn_wide.1 (AppendSeqS_in Fence.wide 3 trivial trivial rfl (by decide) Bs q cap A zs hq w hc.2 (by have := hc.1 0 _ rfl; rw [Addr.add_lit] at this; exact this) hL)
  refine h.mono ?_
  rintro e w' ⟨v, rfl, h2, h3⟩
  obtain ⟨A', c', rfl⟩ := own_form h2
  rw [← strs_map, hL.1] at h2
  exact ⟨A', c', by rw [hL.1], h2, h3⟩
theorem CollectS_any (Bs q cap : Nat) (A : Option Addr) (zs : List (List UInt8)) (hq : q ≤ 1000000) (w : World) (hc : CellsAt w Bs [.slice A q cap]) (hL : RowAt w.heap.size w A q zs) :
    Calls Tryz.prog 80 #[.func (.func 81) #[] #[.pointer (some ⟨Bs, 0, none⟩)]] w fun e w' => ∃ A' c', e = .returned (.slice A' q c') ∧ w'.ownsRow w.heap.size 9 1 (.slice A' q c') q (zs.flatMap strE) ∧ Below w.heap.size w w' := by
  refine enter_args (args := [.func (.func 81) #[] #[.pointer (some ⟨Bs, 0, none⟩)]]) (F := _) Tryz.func80 rfl Tryz.ntmps80 rfl rfl ?_
  intro Rb hRb hRn
  refine tx ?_
  refine S_nilSlice 2 (e := 9) (size := 1) ?_
  refine sr 1 ?_
  refine sgx ?_
  refine sr 1 ?_
  refine S_callOwn 4 4 rfl rfl rfl rfl rfl rfl rfl cf124 (fun A c => .slice A (q) c) 9 1 (q) (zs.flatMap strE) (fun w1 hM => AppendSeqS_any Bs q cap A zs hq w1 (cells_below hc hM.below) ((hL.below hM.below).up hM.below.size)) ?_
  intro A4 c4
  refine sr 1 ?_
  refine sgo ?_
  refine tr1 hRb fun w hM => ?_
  exact ⟨A4, c4, rfl, hM.sat 4 _ rfl, hM.below⟩
theorem SortedS_any (Bs q cap : Nat) (A : Option Addr) (zs : List (List UInt8)) (hq : q ≤ 1000000) (w : World) (hc : CellsAt w Bs [.slice A q cap]) (hL : RowAt w.heap.size w A q zs) :
    Calls Tryz.prog 36 #[.func (.func 81) #[] #[.pointer (some ⟨Bs, 0, none⟩)]] w fun e w' => ∃ A' c', e = .returned (.slice A' q c') ∧ w'.ownsRow w.heap.size 9 1 (.slice A' q c') q ((srtS zs).flatMap strE) ∧ Below w.heap.size w w' := by
  have hzl := hL.1
  refine enter_args (args := [.func (.func 81) #[] #[.pointer (some ⟨Bs, 0, none⟩)]]) (F := _) Tryz.func36 rfl Tryz.ntmps36 rfl rfl ?_
  intro Rb hRb hRn
  refine tx ?_
  refine S_nilSlice 2 (e := 9) (size := 1) ?_
  refine sr 1 ?_
  refine sgx ?_
  refine sr 1 ?_
  refine S_callOwn 5 5 rfl rfl rfl rfl rfl rfl rfl cf80 (fun A c => .slice A (q) c) 9 1 (q) (zs.flatMap strE) (fun w1 hM => CollectS_any Bs q cap A zs hq w1 (cells_below hc hM.below) ((hL.below hM.below).up hM.below.size)) ?_
  intro A5 c5
  refine sr 1 ?_
  refine sgx ?_
  refine sr 1 ?_
  refine S_callM 7 [(0, 5)] (X := Unit) rfl rfl rfl rfl rfl rfl rfl cf35 rfl (fun _ => .tuple #[]) (fun _ => True) (fun _ => [(0, .own 9 1 (.slice A5 q c5) q ((srtS zs).flatMap strE))]) (fun _ => rfl) (fun _ => rfl) (fun K1 hK1 w1 hM => SortStr_any A5 q c5 zs w1 hzl (by omega) hM) ?_
  intro _ _
  refine sgx ?_
  refine sr 2 ?_
  refine sgo ?_
  refine tr1 hRb fun w hM => ?_
  exact ⟨A5, c5, rfl, hM.sat 5 _ rfl, hM.below⟩
end Go.Proofs.YtekbcbjimajnfaaGreatDoor
end
section
namespace Go.Proofs.YtekbcbjimajnfaaGreatDoor
set_option linter.unusedSimpArgs false
set_option linter.unusedVariables false
set_option maxRecDepth 20000
open Go.RowKit Go.Eng
theorem ask_rng {x : SC} {ab af am : Int} (h : askNo x ab af am = 0) : condNo x = 0 ∧ (0 ≤ af ∧ af ≤ 2000) ∧ 1 ≤ am ∧ am ≤ 2000 := by
  unfold askNo at h
  split at h
  · exact absurd h ‹_›
  split at h
  · cases h
  split at h
  · cases h
  rename_i h1 _ h2
  simp only [outI, Bool.or_eq_true, decide_eq_true_eq, not_or] at h2
  exact ⟨by simpa using h1, by omega, by omega⟩
theorem askIds_len (x : SC) (ab : Int) (dn : Bool) (af am : Int) (m : List Evt) : (askIds x ab dn af am m).length ≤ m.length := by
  unfold askIds
  split
  · have h1 := (ask_facts x ab dn m).1.length_eq
    have h2 := fil_len x m
    rw [List.length_map, List.length_take, List.length_drop]; omega
  · exact Nat.zero_le _
theorem facR_len (x : SC) (by_ : Int) (nm : List UInt8) (mo : Int) (m : List Evt) : (facR x by_ nm mo m).length ≤ mo.toNat := by
  unfold facR
  split
  · rw [List.length_take]; omega
  · exact Nat.zero_le _
theorem NewIndex_any {w0 : World} {K : HL} (hK : FromK K) (w : World) (hM0 : Mem w0 ([] ++ K) w) :
    Calls Tryz.prog 5 #[] w fun en w' => ∃ z : Nat × Nat, en = .returned (.pointer (some ⟨z.1, 0, none⟩)) ∧ True ∧ Mem w0 ([(3, ixBox z.1 z.2), (1, ixMap z.2 [])] ++ K) w' := by
  refine enterM_args (args := []) (F := _) hM0 Tryz.func5 rfl Tryz.ntmps5 rfl rfl ?_
  intro Rb hRb hRn
  refine tx ?_
  refine sr 1 ?_
  refine sgx ?_
  refine S_makeMap 1 1 (fun l : List UInt8 => str l) rfl rfl rfl rfl ?_
  intro b1
  refine s1 (y_build (zv := .agg #[.map none]) (pl := [(0, 1)]) (out := [_]) rfl rfl Tryz.underlying89 z89 (by kernel_rfl) rfl) ?_
  refine S_box 3 3 rfl rfl rfl rfl rfl ?_
  intro b3
  refine sr 1 ?_
  refine sgo ?_
  refine tr1 hRb fun w hM => ?_
  exact ⟨(b3, b1), rfl, trivial, hM.keep (ks := [(0, 999)]) (by repeat (first | exact kl_rest (by assumption) rfl | (apply kl_in; focus rfl))) _ ⟨rfl, rfl, trivial⟩⟩
end Go.Proofs.YtekbcbjimajnfaaGreatDoor
end
section
namespace Go.Proofs.YtekbcbjimajnfaaGreatDoor
set_option linter.unusedSimpArgs false
set_option linter.unusedVariables false
set_option maxRecDepth 20000
open Go.RowKit Go.Eng
end Go.Proofs.YtekbcbjimajnfaaGreatDoor
end
section
namespace Go.Proofs.YtekbcbjimajnfaaGreatDoor
set_option linter.unusedSimpArgs false
set_option linter.unusedVariables false
set_option maxRecDepth 20000
open Go.RowKit Go.Eng
end Go.Proofs.YtekbcbjimajnfaaGreatDoor
end
section
namespace Go.Proofs.YtekbcbjimajnfaaGreatDoor
set_option linter.unusedSimpArgs false
set_option linter.unusedVariables false
set_option maxRecDepth 20000
open Go.RowKit Go.Eng
structure EvsF (w : World) (l : Sl Evt) : Prop where
  ok : l.Ok Evt.enc 9 w
  q : l.q ≤ 4611686018427387904
  n : ∀ e ∈ l.l, e.Ok w
theorem awakeFind_any (w : World) : Calls Tryz.prog 32 #[] w fun e w' => e = .returned (.bool true) ∧ Below w.heap.size w w' := by
  refine enter_args (args := []) (F := _) Tryz.func32 rfl Tryz.ntmps32 rfl rfl ?_
  intro Rb hRb hRn
  refine tx ?_
  refine sr 1 ?_
  refine sgx ?_
  refine s1 (y_call rfl rfl rfl cf77 (fun _ w _ => Fits_any [97, 42] [97, 98] w (by decide) (by decide))) ?_
  refine sr 1 ?_
  refine sgo ?_
  refine tr1 hRb fun w hM => ?_
  exact ⟨by rw [show gm eqL [97, 42] [97, 98] = true from by first | decide | kernel_rfl], hM.below⟩
end Go.Proofs.YtekbcbjimajnfaaGreatDoor
end
section
namespace Go.Proofs.YtekbcbjimajnfaaGreatDoor
set_option linter.unusedSimpArgs false
set_option linter.unusedVariables false
set_option maxRecDepth 20000
open Go.RowKit Go.Eng
theorem eqL_sEq (l : List (List UInt8)) : eqLB sEqX l l = true := (eqLB_iff sEqX_iff l l).2 rfl
theorem askN_all {x : SC} {by_ : Int} {m : List Evt} (h : askNo x by_ 0 2000 = 0) : askN x by_ 0 2000 m = ((filI x m).length : Nat) := if_pos h
theorem wt_take {L : List Evt} {i : Nat} {e : Evt} (h : L[i]? = some e) : wtE (L.take (i + 1)) = wtE (L.take i) + e.wt := by
  rw [wtE, wtE, take_snocI h, List.map_append, List.sum_append]; simp
theorem wt_2000 {L : List Evt} (hl : L.length ≤ 2000) (h : ∀ e ∈ L, evNo e = 0) : 0 ≤ wtE L ∧ wtE L ≤ 2000000000 := by
  have h2 := sum_le (l := L.map (·.wt)) (fun x hx => by
    obtain ⟨e, he, rfl⟩ := List.mem_map.1 hx
    have := (evNo_lv (h e he)).2.1
    omega)
  rw [List.length_map] at h2
  unfold wtE; omega
theorem totN_take {l : List Fac} {i : Nat} {f : Fac} (h : l[i]? = some f) : totN (l.take (i + 1)) = totN (l.take i) + f.n ∧ totS (l.take (i + 1)) = totS (l.take i) + f.s := by
  rw [totN, totN, totS, totS, List.take_add_one, h, Option.toList, List.map_append, List.map_append, List.sum_append, List.sum_append]; simp
/-- what has been added up lies between nought and all -/
theorem sum_part {l : List Int} (h : ∀ x ∈ l, 0 ≤ x) (i : Nat) : 0 ≤ (l.take i).sum ∧ (l.take i).sum ≤ l.sum := by
  induction l generalizing i with
  | nil => simp
  | cons a r ih =>
    have ha := h a (List.mem_cons_self ..)
    have ih := fun i => ih (fun x hx => h x (List.mem_cons_of_mem _ hx)) i
    cases i with
    | zero =>
      have := ih r.length
      rw [List.take_length] at this
      simp only [List.take_zero, List.sum_nil, List.sum_cons]; omega
    | succ i =>
      have := ih i
      simp only [List.take_succ_cons, List.sum_cons]; omega
set_option maxHeartbeats 8000000 in
theorem FindSums_any (L : Sl Evt) (x : SC) (w : World) (hL : SlT Evt.enc 9 w L.A L.q L.l) (hLq : L.q ≤ 4611686018427387904) (hLo : ∀ e ∈ L.l, e.Ok w) (hxc : x.Ok w) (hm : MLen w) :
    Calls Tryz.prog 4 #[.slice L.A L.q L.c, x.val] w fun en w' => en = .returned (.bool true) ∧ Below w.heap.size w w' := by
  have hLl := hL.len
  refine enter_args (args := [.slice L.A L.q L.c, .agg #[.int .i64 x.op, .slice x.ad x.q x.c, .int .i64 x.lo, .int .i64 x.hi, str x.nm, str x.tx]]) (F := _) Tryz.func4 rfl Tryz.ntmps4 rfl rfl ?_
  intro Rb hRb hRn
  refine tx ?_
  refine S_box 3 3 rfl rfl rfl rfl rfl ?_
  intro b3
  refine sr 1 ?_
  refine sgs ?_
  refine tx ?_
  refine s1 (y_call rfl rfl rfl cf32 (fun _ w1 _ => awakeFind_any w1)) ?_
  refine sr 1 ?_
  refine sgo ?_
  refine T_cond rfl ?_ ?_ <;> intro h29
  · skip
    exact absurd h29 (by decide)
  refine kgx ?_
  refine S_many0 950 ?_
  refine S_callN 30 [] [(3, 901), (1, 902)] (X := Nat × Nat) rfl rfl rfl rfl rfl rfl rfl cf5 rfl (fun z => .pointer (some ⟨z.1, 0, none⟩)) (fun _ => True) (fun z => [(3, ixBox z.1 z.2), (1, ixMap z.2 [])]) (fun _ => rfl) (fun _ => rfl) (fun K1 hK1 w1 hM => NewIndex_any hK1 w1 hM) ?_
  rintro ⟨b, bm⟩ _
  refine sr 1 ?_
  refine sgs ?_
  refine tx ?_
  refine sr 1 ?_
  refine s1 (y_len_slice rfl rfl Tryz.underlying25) ?_
  refine sr 1 ?_
  refine sgo ?_
  refine T_block ?_
  refine lK3 (kf := [(7, 7), (33, 40)]) (kl := [(7, 7), (33, 40), (901, 902), (950, 950)]) (fun (i : Nat) (m : List Evt) (rs : List Row) => [(33, true, .int .i64 (i : Int))]) (fun (i : Nat) (m : List Evt) (rs : List Row) => [(901, ixBox b bm), (902, ixMap bm m), (950, .many rs)]) (fun (i : Nat) (m : List Evt) (rs : List Row) => i ≤ L.q ∧ IxOk w rs m) (fun (i : Nat) (m : List Evt) (rs : List Row) => L.q - i) 0 [] [] ?_ ?_ ?_ ?_
  · exact ⟨by omega, ⟨(fun _ h => by cases h), List.nodup_nil, Nat.zero_le _⟩⟩
  · exact ⟨rfl, trivial⟩
  · exact ⟨rfl, rfl, rfl, trivial⟩
  rintro i m rs ⟨hi1, hix⟩
  refine tx ?_
  refine sr 1 ?_
  refine sgs ?_
  refine T_cond rfl ?_ ?_ <;> intro h34
  · try simp only [nrm] at h34
    obtain ⟨e, hx1, hx2⟩ := hL.at (i := i) (by omega)
    have hxe := hLo e (mem_at hx1)
    refine kgs ?_
    refine T_block ?_
    refine tx ?_
    refine s1 (y_indexAddr rfl rfl rfl Tryz.underlying25 sz31 (fun hg => hL.isSome (by omega)) (fun _ => by omega)) ?_
    refine s1 (y_as (v' := .agg #[str e.id, .int .i64 e.at_, .int .i64 e.lv, .slice e.fa.A e.fa.q e.fa.c, .slice e.ta.A e.ta.q e.ta.c, .slice e.cr.A e.cr.q e.cr.c, str e.rel, str e.us, .int .i64 e.wt]) (by exact rfl) (y_loadT rfl rfl hL (fun _ => rfl) (fun _ => hx1) Tryz.underlying31 rfl sz31)) ?_
    refine S_alloc 7 7 rfl rfl rfl rfl z31 ?_
    intro b7
    refine S_store 7 rfl rfl rfl rfl rfl rfl sz31 rfl rfl ?_
    refine sgr ?_
    refine sr 1 ?_
    refine s1 (yA 7 rfl Tryz.underlying31 sz31) ?_
    refine S_callM 39 [(901, 901), (902, 902), (950, 950)] (X := IxR) rfl rfl rfl rfl rfl rfl rfl cf10 rfl (fun z => .int .i64 z.no) (fun z => PutP w m e z) (fun z => [(901, ixBox b bm), (902, ixMap bm z.m), (950, .many z.rs)]) (fun _ => rfl) (fun _ => rfl) (fun K1 hK1 w1 hM => Put_any hK1 b bm m rs e w1 hix hxe hM) ?_
    rintro z ⟨hz1, hz2, hz3, hz4⟩
    refine sgr ?_
    refine s1 (y_bin rfl rfl rfl (fun hg => b_add (by omega))) ?_
    refine sr 1 ?_
    refine S_nil (nS3 (kf := [(7, 7), (33, 40)]) (kl := [(7, 7), (33, 40), (901, 902), (950, 950)]) (i + 1) z.m z.rs ?_ ?_ ?_ ?_)
    · omega
    · exact ⟨by omega, hz2⟩
    · exact ⟨rfl, trivial⟩
    · exact ⟨rfl, rfl, rfl, trivial⟩
  try simp only [nrm] at h34
  have hle := hix.le
  refine egx ?_
  refine sr 1 ?_
  refine s1 (yA 3 rfl Tryz.underlying36 sz36) ?_
  refine s1 (y_as (v' := .agg #[.int .i64 x.op, .slice x.ad x.q x.c, .int .i64 x.lo, .int .i64 x.hi, str x.nm, str x.tx, .int .i64 1, .bool false, .int .i64 0, .int .i64 2000]) (by exact rfl) (y_build (zv := .agg #[.int .i64 0, .slice none 0 0, .int .i64 0, .int .i64 0, .string ⟨#[]⟩, .string ⟨#[]⟩, .int .i64 0, .bool false, .int .i64 0, .int .i64 0]) (pl := [(0, 6), (6, 1), (7, 1), (8, 1), (9, 1)]) (out := [_, _, _, _, _, _, _, .bool false, .int .i64 0, _]) rfl rfl Tryz.underlying38 z38 (by kernel_rfl) rfl)) ?_
  refine S_callN 45 [(901, 901), (902, 902), (950, 950)] [(909, 909)] (X := Option Addr × Nat) rfl rfl rfl rfl rfl rfl rfl cf16 rfl (fun z => .tuple #[.slice z.1 (askIds x 1 false 0 2000 m).length z.2, .int .i64 (askN x 1 0 2000 m), .int .i64 (askNo x 1 0 2000)]) (fun _ => True) (fun z => [(901, ixBox b bm), (902, ixMap bm m), (950, .many rs), (909, ownStr z.1 z.2 (askIds x 1 false 0 2000 m))]) (fun _ => rfl) (fun _ => rfl) (fun K1 hK1 w1 hM => Find_any hK1 b bm m rs x 1 false 0 2000 w1 hix hxc hm hM) ?_
  rintro ⟨uA, uc⟩ _
  refine sr 7 ?_
  refine sgs ?_
  refine tx ?_
  refine sr 2 ?_
  refine sgo ?_
  refine T_cond rfl ?_ ?_ <;> intro h50
  · skip
    refine tx ?_
    refine sr 1 ?_
    refine sgo ?_
    refine tr1 hRb fun w hM => ?_
    exact ⟨rfl, hM.below⟩
  have h50 : askNo x 1 0 2000 = 0 := by simpa using h50
  have hc0 := (ask_rng h50).1
  have hul := askIds_all (dn := false) hle h50
  have hun := askN_all (m := m) h50
  have hlu := askIds_len x 1 false 0 2000 m
  have hal : (askL x 1 false m).length = (filI x m).length := ask_len x 1 false m
  have hfl := fil_len x m
  have hulen : (askIds x 1 false 0 2000 m).length = (filI x m).length := by rw [hul, List.length_map, hal]
  refine kgs ?_
  refine tx ?_
  refine sr 2 ?_
  refine s1 (y_len_slice rfl rfl Tryz.underlying49) ?_
  refine s1 (y_as (v' := .bool false) (by rw [hun, hulen]; simp) (y_bin rfl rfl rfl (fun _ => b_neq))) ?_
  refine sgo ?_
  refine T_cond rfl ?_ ?_ <;> intro h54
  · skip
    cases h54
  refine kgs ?_
  refine tx ?_
  refine sr 1 ?_
  refine sgo ?_
  refine T_block ?_
  refine lK1 (kf := [(4, 4), (11, 18), (55, 109)]) (kl := [(4, 4), (11, 18), (55, 109), (901, 902), (909, 909), (950, 950)]) (fun (by_ : Int) => [(11, true, .int .i64 by_)]) (fun (by_ : Int) => [(901, ixBox b bm), (902, ixMap bm m), (950, .many rs), (909, ownStr uA uc (askIds x 1 false 0 2000 m))]) (fun (by_ : Int) => 1 ≤ by_ ∧ by_ ≤ 4) (fun (by_ : Int) => (4 - by_).toNat) 1 ?_ ?_ ?_ ?_
  · omega
  · exact ⟨rfl, trivial⟩
  · exact ⟨rfl, rfl, rfl, rfl, trivial⟩
  rintro by_ ⟨hb1, hb2⟩
  refine T_seq ?_
  refine tx ?_
  refine sr 2 ?_
  refine sgo ?_
  refine T_cond rfl ?_ ?_ <;> intro h56
  · try simp only [nrm] at h56
    have hba := ask_ok (by_ := by_) hc0 (by omega) (by omega)
    have hla := askIds_len x by_ false 0 2000 m
    have hld := askIds_len x by_ true 0 2000 m
    have hrev : (askIds x by_ true 0 2000 m).reverse = askIds x by_ false 0 2000 m := by
      rw [askIds_all hle hba, askIds_all hle hba, ask_down hix.nd]
      show ((askL x by_ false m).reverse.map _).reverse = _
      rw [List.map_reverse, List.reverse_reverse]
    have hsrt : srtS (askIds x by_ false 0 2000 m) = srtS (askIds x 1 false 0 2000 m) := by rw [askIds_all hle hba, hul]; exact srtS_one (ids_perm x by_ 1 false false m)
    refine kgs ?_
    refine T_block ?_
    refine tx ?_
    refine sr 1 ?_
    refine s1 (yA 3 rfl Tryz.underlying36 sz36) ?_
    refine sr 1 ?_
    refine s1 (y_as (v' := .agg #[.int .i64 x.op, .slice x.ad x.q x.c, .int .i64 x.lo, .int .i64 x.hi, str x.nm, str x.tx, .int .i64 by_, .bool false, .int .i64 0, .int .i64 2000]) (by exact rfl) (y_build (zv := .agg #[.int .i64 0, .slice none 0 0, .int .i64 0, .int .i64 0, .string ⟨#[]⟩, .string ⟨#[]⟩, .int .i64 0, .bool false, .int .i64 0, .int .i64 0]) (pl := [(0, 6), (6, 1), (7, 1), (8, 1), (9, 1)]) (out := [_, _, _, _, _, _, _, .bool false, .int .i64 0, _]) rfl rfl Tryz.underlying38 z38 (by kernel_rfl) rfl)) ?_
    refine S_callN 64 [(901, 901), (902, 902), (950, 950)] [(909, 912)] (X := Option Addr × Nat) rfl rfl rfl rfl rfl rfl rfl cf16 rfl (fun z => .tuple #[.slice z.1 (askIds x by_ false 0 2000 m).length z.2, .int .i64 (askN x by_ 0 2000 m), .int .i64 (askNo x by_ 0 2000)]) (fun _ => True) (fun z => [(901, ixBox b bm), (902, ixMap bm m), (950, .many rs), (909, ownStr z.1 z.2 (askIds x by_ false 0 2000 m))]) (fun _ => rfl) (fun _ => rfl) (fun K1 hK1 w1 hM => Find_any hK1 b bm m rs x by_ false 0 2000 w1 hix hxc hm hM) ?_
    rintro ⟨aA, ac⟩ _
    refine sr 7 ?_
    refine sgx ?_
    refine sr 1 ?_
    refine s1 (yA 3 rfl Tryz.underlying36 sz36) ?_
    refine sr 1 ?_
    refine s1 (y_as (v' := .agg #[.int .i64 x.op, .slice x.ad x.q x.c, .int .i64 x.lo, .int .i64 x.hi, str x.nm, str x.tx, .int .i64 by_, .bool true, .int .i64 0, .int .i64 2000]) (by exact rfl) (y_build (zv := .agg #[.int .i64 0, .slice none 0 0, .int .i64 0, .int .i64 0, .string ⟨#[]⟩, .string ⟨#[]⟩, .int .i64 0, .bool false, .int .i64 0, .int .i64 0]) (pl := [(0, 6), (6, 1), (7, 1), (8, 1), (9, 1)]) (out := [_, _, _, _, _, _, _, _, .int .i64 0, _]) rfl rfl Tryz.underlying38 z38 (by kernel_rfl) rfl)) ?_
    refine S_callN 73 [(901, 901), (902, 902), (950, 950)] [(909, 915)] (X := Option Addr × Nat) rfl rfl rfl rfl rfl rfl rfl cf16 rfl (fun z => .tuple #[.slice z.1 (askIds x by_ true 0 2000 m).length z.2, .int .i64 (askN x by_ 0 2000 m), .int .i64 (askNo x by_ 0 2000)]) (fun _ => True) (fun z => [(901, ixBox b bm), (902, ixMap bm m), (950, .many rs), (909, ownStr z.1 z.2 (askIds x by_ true 0 2000 m))]) (fun _ => rfl) (fun _ => rfl) (fun K1 hK1 w1 hM => Find_any hK1 b bm m rs x by_ true 0 2000 w1 hix hxc hm hM) ?_
    rintro ⟨dA, dc⟩ _
    refine sr 7 ?_
    refine sgx ?_
    refine sr 1 ?_
    refine S_callM 78 [(0, 915)] (X := Unit) rfl rfl rfl rfl rfl rfl rfl cf33 rfl (fun _ => .tuple #[]) (fun _ => True) (fun _ => [(0, .own 9 1 (.slice dA (askIds x by_ true 0 2000 m).length dc) (askIds x by_ true 0 2000 m).length ((askIds x by_ true 0 2000 m).reverse.flatMap strE))]) (fun _ => rfl) (fun _ => rfl) (fun K1 hK1 w1 hM => ReverseS_any hK1 dA _ dc (askIds x by_ true 0 2000 m) rfl (by omega) w1 hM) ?_
    intro _ _
    refine sgs ?_
    refine tx ?_
    refine sr 1 ?_
    refine s1 (y_as (v' := .bool false) (by rw [hba]; simp) (y_bin rfl rfl rfl (fun _ => b_neq))) ?_
    refine sr 1 ?_
    refine sg rfl (y_move rfl rfl) ?_
    refine sg rfl (y_as (v' := .bool false) (by rw [hba]; simp) (y_bin rfl rfl rfl (fun _ => b_neq))) ?_
    refine s1 (y_or rfl rfl rfl) ?_
    refine sr 1 ?_
    refine sg rfl (y_move rfl rfl) ?_
    refine sg rfl (y_move rfl rfl) ?_
    refine sg rfl (y_as (v' := .bool false) (by rw [askN_all hba, hun]; simp) (y_bin rfl rfl rfl (fun _ => b_neq))) ?_
    refine s1 (y_or rfl rfl rfl) ?_
    refine sr 1 ?_
    refine sg rfl (y_move rfl rfl) ?_
    refine sg rfl (y_move rfl rfl) ?_
    refine sg rfl (y_as (v' := .bool false) (by rw [askN_all hba, hun]; simp) (y_bin rfl rfl rfl (fun _ => b_neq))) ?_
    refine s1 (y_or rfl rfl rfl) ?_
    refine sr 1 ?_
    refine sg rfl (y_move rfl rfl) ?_
    refine sg rfl (y_move rfl rfl) ?_
    refine sg rfl (y_as (v' := .bool true) (by rw [hrev, eqL_sEq]) (y_call rfl rfl rfl cf34 (fun _ w1 hM => EqlSt_any _ _ _ _ _ _ (askIds x by_ false 0 2000 m) (askIds x by_ true 0 2000 m).reverse w1 (owned_T (enc := strE) hM rfl (i := 912) rfl) (owned_T (enc := strE) hM (by rw [List.length_reverse]) (i := 915) rfl) (by omega) (by omega)))) ?_
    refine sg rfl (y_not rfl rfl) ?_
    refine s1 (y_or rfl rfl rfl) ?_
    refine sgo ?_
    refine T_cond rfl ?_ ?_ <;> intro h100
    · skip
      exact absurd h100 (by decide)
    refine kgx ?_
    refine sr 1 ?_
    refine S_callM 102 [(0, 912)] (X := Unit) rfl rfl rfl rfl rfl rfl rfl cf35 rfl (fun _ => .tuple #[]) (fun _ => True) (fun _ => [(0, .own 9 1 (.slice aA (askIds x by_ false 0 2000 m).length ac) (askIds x by_ false 0 2000 m).length ((srtS (askIds x by_ false 0 2000 m)).flatMap strE))]) (fun _ => rfl) (fun _ => rfl) (fun K1 hK1 w1 hM => SortStr_any aA _ ac (askIds x by_ false 0 2000 m) w1 rfl (by omega) hM) ?_
    intro _ _
    refine sgx ?_
    refine sr 1 ?_
    refine S_callN 104 [] [(1, 917)] (X := Nat) rfl rfl rfl rfl rfl rfl rfl cf37 rfl (fun b => .func (.func 81) #[] #[.pointer (some ⟨b, 0, none⟩)]) (fun _ => True) (fun b => [(1, .blk b (IsBox [.slice uA (askIds x 1 false 0 2000 m).length uc] 49))]) (fun _ => rfl) (fun _ => rfl) (fun K1 hK1 w1 hM => Values_any hK1 uA _ uc w1 hM) ?_
    rintro bv _
    refine S_callOwn 105 105 rfl rfl rfl rfl rfl rfl rfl cf36 (fun A c => .slice A ((askIds x 1 false 0 2000 m).length) c) 9 1 ((askIds x 1 false 0 2000 m).length) ((srtS (askIds x 1 false 0 2000 m)).flatMap strE) (fun w1 hM => SortedS_any bv _ uc uA (askIds x 1 false 0 2000 m) (by omega) w1 (hM.box_cells 917 rfl) (rowAt_own hM rfl (i := 909) rfl)) ?_
    intro A105 c105
    refine sr 1 ?_
    refine sgx ?_
    refine sr 2 ?_
    refine s1 (y_as (v' := .bool true) (by rw [hsrt, eqL_sEq]) (y_call rfl rfl rfl cf34 (fun _ w1 hM => EqlSt_any _ _ _ _ _ _ (srtS (askIds x by_ false 0 2000 m)) (srtS (askIds x 1 false 0 2000 m)) w1 (owned_T (enc := strE) hM (srtS_perm _).length_eq (i := 912) rfl) (owned_T (enc := strE) hM (srtS_perm _).length_eq (i := 105) rfl) (by omega) (by omega)))) ?_
    refine sr 1 ?_
    refine sgo ?_
    refine T_cond rfl ?_ ?_ <;> intro h109
    · skip
      exact absurd h109 (by decide)
    refine kgr ?_
    refine sr 1 ?_
    refine s1 (y_bin rfl rfl rfl (fun hg => b_addv (by_ + 1) (by omega) (by omega))) ?_
    refine sr 1 ?_
    refine S_nil (nS1 (kf := [(4, 4), (11, 18), (55, 109)]) (kl := [(4, 4), (11, 18), (55, 109), (901, 902), (909, 909), (950, 950)]) (by_ + 1) ?_ ?_ ?_ ?_)
    · omega
    · omega
    · exact ⟨rfl, trivial⟩
    · exact ⟨rfl, rfl, rfl, rfl, trivial⟩
  try simp only [nrm] at h56
  refine egx ?_
  refine sr 2 ?_
  refine sgs ?_
  refine tx ?_
  refine sr 1 ?_
  refine s1 (y_len_slice rfl rfl Tryz.underlying49) ?_
  refine sr 1 ?_
  refine sgo ?_
  refine T_block ?_
  refine lK1 (kf := [(4, 4), (19, 20), (22, 24), (112, 130)]) (kl := [(4, 4), (19, 20), (22, 24), (112, 130), (901, 902), (909, 909), (950, 950)]) (fun (i : Nat) => [(112, true, .int .i64 (i : Int)), (19, true, .int .i64 (i : Int)), (20, true, .int .i64 (wtE ((askL x 1 false m).take i)))]) (fun (i : Nat) => [(901, ixBox b bm), (902, ixMap bm m), (950, .many rs), (909, ownStr uA uc (askIds x 1 false 0 2000 m))]) (fun (i : Nat) => i ≤ (askL x 1 false m).length ∧ ∀ e ∈ askL x 1 false m, evNo e = 0) (fun (i : Nat) => (askL x 1 false m).length - i) 0 ?_ ?_ ?_ ?_
  · exact ⟨by omega, fun e he => (hix.ok e (List.mem_filter.1 ((ask_facts x 1 false m).1.subset he)).1).1⟩
  · exact ⟨rfl, rfl, rfl, trivial⟩
  · exact ⟨rfl, rfl, rfl, rfl, trivial⟩
  rintro i ⟨hi2, hao⟩
  refine tx ?_
  refine sr 1 ?_
  refine sgs ?_
  refine T_cond rfl ?_ ?_ <;> intro h113
  · try simp only [nrm] at h113
    obtain ⟨e, he⟩ : ∃ e, (askL x 1 false m)[i]? = some e := ⟨_, List.getElem?_eq_getElem (by omega)⟩
    have hid : (askIds x 1 false 0 2000 m)[i]? = some e.id := by rw [hul, List.getElem?_map, he]; rfl
    obtain ⟨id, hide⟩ : ∃ id, e.id = id := ⟨_, rfl⟩
    rw [hide] at hid
    have hem : e ∈ m := (List.mem_filter.1 ((ask_facts x 1 false m).1.subset (List.mem_of_getElem? he))).1
    have hgi := getI_of hix.nd hem
    rw [hide] at hgi
    have hge : geI m id = e := by rw [geI, hgi]; rfl
    have hhs : hasI m id = true := by rw [← getI_has, hgi]; rfl
    have hwt := wt_take he
    have hw0 := (evNo_lv (hix.ok e hem).1).2.1
    obtain ⟨hW1, hW2⟩ := wt_2000 (L := (askL x 1 false m).take i) (by rw [List.length_take]; omega) (take_ok hao i)
    refine kgs ?_
    refine T_block ?_
    refine tx ?_
    refine s1 (y_indexOwn 909 rfl rfl rfl rfl Tryz.underlying49 sz9 (fun _ => by omega)) ?_
    refine s1 (y_loadO1 909 (val := (fun l : List UInt8 => str l)) rfl rfl rfl rfl (fun _ => hid) Tryz.underlying9 rfl) ?_
    refine sr 1 ?_
    refine sgx ?_
    refine sr 2 ?_
    refine S_callN 119 [(901, 901), (902, 902), (950, 950)] [(960, 961)] (X := GetR) rfl rfl rfl rfl rfl rfl rfl cf14 rfl (fun z => .tuple #[z.ev.val, .bool (hasI m id)]) (fun z => GetP w m id z) (fun z => [(901, ixBox b bm), (902, ixMap bm m), (950, .many rs), (960, .many z.rs)]) (fun _ => rfl) (fun _ => rfl) (fun K1 hK1 w1 hM => Get_any hK1 b bm m rs id w1 hix hM) ?_
    rintro z ⟨hz1, hz2⟩
    rw [hge] at hz1
    have hzw := hz1.wt
    refine sr 1 ?_
    refine s1 (y_as (v' := .agg #[str z.ev.id, .int .i64 z.ev.at_, .int .i64 z.ev.lv, .slice z.ev.fa.A z.ev.fa.q z.ev.fa.c, .slice z.ev.ta.A z.ev.ta.q z.ev.ta.c, .slice z.ev.cr.A z.ev.cr.q z.ev.cr.c, str z.ev.rel, str z.ev.us, .int .i64 z.ev.wt]) (by exact rfl) (y_extract rfl rfl rfl)) ?_
    refine s1 (y_as (v' := .bool true) (by rw [hhs]; rfl) (y_extract rfl rfl rfl)) ?_
    refine S_alloc 23 23 rfl rfl rfl rfl z31 ?_
    intro b23
    refine S_store 23 rfl rfl rfl rfl rfl rfl sz31 rfl rfl ?_
    refine sr 1 ?_
    refine sgs ?_
    refine tx ?_
    refine sr 2 ?_
    refine sgo ?_
    refine T_cond rfl ?_ ?_ <;> intro h123
    · skip
      exact absurd h123 (by decide)
    refine kgx ?_
    refine sr 1 ?_
    refine s1 (y_bin rfl rfl rfl (fun hg => b_addv (((i + 1 : Nat) : Int)) (by omega) (by omega))) ?_
    refine sr 1 ?_
    refine sgr ?_
    refine sr 1 ?_
    refine s1 (yF fa31_8) ?_
    refine s1 (yL 23 Tryz.underlying3) ?_
    refine s1 (y_bin rfl rfl rfl (fun hg => b_addv (wtE ((askL x 1 false m).take (i + 1))) (by omega) (by omega))) ?_
    refine sr 1 ?_
    refine sgr ?_
    refine s1 (y_bin rfl rfl rfl (fun hg => b_add (by omega))) ?_
    refine sr 1 ?_
    refine S_nil (nS1 (kf := [(4, 4), (19, 20), (22, 24), (112, 130)]) (kl := [(4, 4), (19, 20), (22, 24), (112, 130), (901, 902), (909, 909), (950, 950)]) (i + 1) ?_ ?_ ?_ ?_)
    · omega
    · exact ⟨by omega, hao⟩
    · exact ⟨rfl, rfl, rfl, trivial⟩
    · exact ⟨rfl, rfl, rfl, rfl, trivial⟩
  try simp only [nrm] at h113
  have hfo := fac_ok hc0
  have hfr : facR x 2 [] 5 m = (facS (prsE (filI x m) 2 [])).take 5 := if_pos hfo
  have hfa := facS_all (L := filI x m) (fun e he => (evNo_lv (hix.ok e (List.mem_filter.1 he).1).1).1)
  rw [← hfr] at hfa
  obtain ⟨hfa1, hfa2⟩ := hfa
  have hweq : wtE (askL x 1 false m) = wtE (filI x m) := sum_perm ((ask_facts x 1 false m).1.map _)
  have hfle := facR_len x 2 [] 5 m
  have hii : i = (askL x 1 false m).length := by omega
  obtain ⟨hW1, hW2⟩ := wt_2000 (L := askL x 1 false m) (by omega) hao
  have hfpos : ∀ f ∈ facR x 2 [] 5 m, 0 ≤ f.n ∧ 0 ≤ f.s := fun f hf => by
    rw [hfr] at hf
    have h1 := (pdqL_facts (swo3 cmp3_F) (facL (prsE (filI x m) 2 []))).1.subset (List.mem_of_mem_take hf)
    have h2 := facL_le (prsE_wt (fun e he => (evNo_lv (hix.ok e (List.mem_filter.1 he).1).1).2.1)) f h1
    exact ⟨h2.1.1, h2.2.1⟩
  subst hii
  refine egx ?_
  refine sr 1 ?_
  refine s1 (yA 3 rfl Tryz.underlying36 sz36) ?_
  refine S_callN 134 [(901, 901), (902, 902), (950, 950)] [(915, 920)] (X := Option Addr × Nat) rfl rfl rfl rfl rfl rfl rfl cf20 rfl (fun z => .tuple #[.slice z.1 (facR x 2 [] 5 m).length z.2, .int .i64 (facNo x 2 [] 5)]) (fun _ => True) (fun z => [(901, ixBox b bm), (902, ixMap bm m), (950, .many rs), (915, ownFc z.1 z.2 (facR x 2 [] 5 m))]) (fun _ => rfl) (fun _ => rfl) (fun K1 hK1 w1 hM => Facets_any hK1 b bm m rs x 2 [] 5 w1 hix hxc hm hM) ?_
  rintro ⟨fA, fc⟩ _
  refine sr 5 ?_
  refine sgs ?_
  refine tx ?_
  refine sr 1 ?_
  refine s1 (y_as (v' := .bool false) (by rw [hfo]; simp) (y_bin rfl rfl rfl (fun _ => b_neq))) ?_
  refine sgo ?_
  refine T_cond rfl ?_ ?_ <;> intro h138
  · skip
    cases h138
  refine kgs ?_
  refine tx ?_
  refine sr 1 ?_
  refine s1 (y_len_slice rfl rfl Tryz.underlying56) ?_
  refine sr 1 ?_
  refine sgo ?_
  refine T_block ?_
  refine lK1 (kf := [(19, 20), (27, 27), (141, 153)]) (kl := [(19, 20), (27, 27), (141, 153), (901, 902), (920, 920), (950, 950)]) (fun (i : Nat) => [(141, true, .int .i64 (i : Int)), (19, true, .int .i64 (((filI x m).length : Nat) - totN ((facR x 2 [] 5 m).take i))), (20, true, .int .i64 (wtE (askL x 1 false m) - totS ((facR x 2 [] 5 m).take i)))]) (fun (i : Nat) => [(901, ixBox b bm), (902, ixMap bm m), (950, .many rs), (920, ownFc fA fc (facR x 2 [] 5 m))]) (fun (i : Nat) => i ≤ (facR x 2 [] 5 m).length) (fun (i : Nat) => (facR x 2 [] 5 m).length - i) 0 ?_ ?_ ?_ ?_
  · omega
  · refine ⟨rfl, ?_, ?_, trivial⟩
    · show some (true, Value.int .i64 (((askL x 1 false m).length : Nat) : Int)) = some (true, Value.int .i64 ((((filI x m).length : Nat) : Int) - totN ((facR x 2 [] 5 m).take 0)))
      rw [hal, show totN ((facR x 2 [] 5 m).take 0) = 0 from rfl, Int.sub_zero]
    · show some (true, Value.int .i64 (wtE ((askL x 1 false m).take (askL x 1 false m).length))) = some (true, Value.int .i64 (wtE (askL x 1 false m) - totS ((facR x 2 [] 5 m).take 0)))
      rw [List.take_length, show totS ((facR x 2 [] 5 m).take 0) = 0 from rfl, Int.sub_zero]
  · exact ⟨rfl, rfl, rfl, rfl, trivial⟩
  rintro i hi3
  refine tx ?_
  refine sr 1 ?_
  refine sgs ?_
  refine T_cond rfl ?_ ?_ <;> intro h142
  · try simp only [nrm] at h142
    obtain ⟨f, hf⟩ : ∃ f, (facR x 2 [] 5 m)[i]? = some f := ⟨_, List.getElem?_eq_getElem (by omega)⟩
    obtain ⟨hs1, hs2⟩ := totN_take hf
    have hp1 := sum_part (l := (facR x 2 [] 5 m).map (·.n)) (fun y hy => by obtain ⟨g, hg, rfl⟩ := List.mem_map.1 hy; exact (hfpos g hg).1)
    have hp2 := sum_part (l := (facR x 2 [] 5 m).map (·.s)) (fun y hy => by obtain ⟨g, hg, rfl⟩ := List.mem_map.1 hy; exact (hfpos g hg).2)
    have hp3 := hp1 i
    have hp4 := hp1 (i + 1)
    have hp5 := hp2 i
    have hp6 := hp2 (i + 1)
    rw [← List.map_take] at hp3 hp4 hp5 hp6
    have hp3 : 0 ≤ totN ((facR x 2 [] 5 m).take i) ∧ totN ((facR x 2 [] 5 m).take i) ≤ totN (facR x 2 [] 5 m) := hp3
    have hp4 : 0 ≤ totN ((facR x 2 [] 5 m).take (i + 1)) ∧ totN ((facR x 2 [] 5 m).take (i + 1)) ≤ totN (facR x 2 [] 5 m) := hp4
    have hp5 : 0 ≤ totS ((facR x 2 [] 5 m).take i) ∧ totS ((facR x 2 [] 5 m).take i) ≤ totS (facR x 2 [] 5 m) := hp5
    have hp6 : 0 ≤ totS ((facR x 2 [] 5 m).take (i + 1)) ∧ totS ((facR x 2 [] 5 m).take (i + 1)) ≤ totS (facR x 2 [] 5 m) := hp6
    refine kgs ?_
    refine T_block ?_
    refine tx ?_
    refine s1 (y_indexOwn 920 rfl rfl rfl rfl Tryz.underlying56 sz63 (fun _ => by omega)) ?_
    refine s1 (y_loadO 920 rfl rfl rfl rfl (fun _ => rfl) (fun _ => hf) Tryz.underlying63 rfl sz63) ?_
    refine S_alloc 27 27 rfl rfl rfl rfl z63 ?_
    intro b27
    refine S_store 27 rfl rfl rfl rfl rfl rfl sz63 rfl rfl ?_
    refine sgx ?_
    refine sr 1 ?_
    refine s1 (yF fa63_1) ?_
    refine s1 (yL 27 Tryz.underlying3) ?_
    refine s1 (y_bin rfl rfl rfl (fun hg => b_subv (((filI x m).length : Nat) - totN ((facR x 2 [] 5 m).take (i + 1))) (by omega) (by omega))) ?_
    refine sr 1 ?_
    refine sgr ?_
    refine sr 1 ?_
    refine s1 (yF fa63_2) ?_
    refine s1 (yL 27 Tryz.underlying3) ?_
    refine s1 (y_bin rfl rfl rfl (fun hg => b_subv (wtE (askL x 1 false m) - totS ((facR x 2 [] 5 m).take (i + 1))) (by omega) (by omega))) ?_
    refine sr 1 ?_
    refine sgr ?_
    refine s1 (y_bin rfl rfl rfl (fun hg => b_add (by omega))) ?_
    refine sr 1 ?_
    refine S_nil (nS1 (kf := [(19, 20), (27, 27), (141, 153)]) (kl := [(19, 20), (27, 27), (141, 153), (901, 902), (920, 920), (950, 950)]) (i + 1) ?_ ?_ ?_ ?_)
    · omega
    · omega
    · exact ⟨rfl, rfl, rfl, trivial⟩
    · exact ⟨rfl, rfl, rfl, rfl, trivial⟩
  try simp only [nrm] at h142
  refine egx ?_
  refine sr 3 ?_
  refine sg rfl (y_move rfl rfl) ?_
  refine sg rfl (y_bin rfl rfl rfl (fun _ => b_eql)) ?_
  refine s1 (y_and rfl rfl rfl) ?_
  refine sr 1 ?_
  refine sgo ?_
  refine tr1 hRb fun w hM => ?_
  rw [List.take_of_length_le (by omega), hfa1, hfa2, hweq]
  exact ⟨by simp, hM.below⟩
end Go.Proofs.YtekbcbjimajnfaaGreatDoor
end
section
namespace Go.Proofs.YtekbcbjimajnfaaGreatDoor
set_option linter.unusedSimpArgs false
set_option linter.unusedVariables false
set_option maxRecDepth 20000
open Go.ChangeShapes Go.WideShapes Go.RowKit
theorem ownNone : ownKnob Tryz.prog.godebug = none := by kernel_rfl
theorem laidOut : laidOutB Tryz.prog = true := by kernel_rfl
def firstCells : Array Value := (Go.Pinned.utf8FirstZ.map fun n : Nat => Value.int .u8 (n : Int)).toArray
def tabCells (k : IntKind) (zs : List Int) : Array Value := (zs.map fun n => Value.int k n).toArray
def rangeZ : List Int := [128, 191, 160, 191, 128, 159, 144, 191, 128, 143, 0, 0, 0, 0, 0, 0, 0, 0, 0, 0, 0, 0, 0, 0, 0, 0, 0, 0, 0, 0, 0, 0]
def layCells (cs : Array Value) : Obj → Obj
  | .cells _ t frozen => .cells cs t frozen
  | o => o
noncomputable def laidWorld (os : Os) (args : Array Value) : World :=
  { World.holding Tryz.prog os ⟨#[], args, []⟩ with heap := ((World.holding Tryz.prog os ⟨#[], args, []⟩).heap.modify 0 (layCells firstCells)).modify 1 (layCells (tabCells .u8 rangeZ)) }
theorem mlen_of {W : World} (h : W.ShapedOpen Tryz.prog) : MLen W := by
  obtain ⟨m, hm⟩ := Tryz.laysM144.s1_3 W h
  refine ⟨m, hm, ?_⟩
  unfold World.cell? at hm
  cases hg : W.heap[2]? with
  | none =>
    have hg' : W.heap[Tryz.laysM144_ren.g 1]? = none := hg
    rw [hg'] at hm; cases hm
  | some o => exact (Array.getElem?_eq_some_iff.1 hg).1
end Go.Proofs.YtekbcbjimajnfaaGreatDoor
end
