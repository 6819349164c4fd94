/- Part 5, merged by a program. symbol.Shares, but for its sort: SortFunc at a share is asked as a premise (SortsShares). Conditions: those of each theorem. symbol.Shares walked; its sort is a premise (SortsShares). SymbolCovers, the plain law: the shares are positive and sum up to the bytes of all functions; an offset lies in at most ten calls. No program in sight. SymbolPlaces, the plain laws: who owns an offset, what the edges of functions and calls tell of all offsets, sorted lists with the same members, and how tables differ. No program in sight. cmp.Compare, cmp.Or and the order of shares (symbol.Shares$2), by contracts that say Below. No condition. slices.Sort and slices.Compact at elements of one cell, over rows of ours. Conditions: those of each theorem. Frames: checkFrames, Cut at most 200, and the reference's FramesFault. Conditions: those of each theorem. Lists of tables: checkAll, and the places of a frame. Conditions: those of each theorem. The places of a frame, Resolve and Missing. Conditions: those of each theorem. -/
import Derived.Test.YtkkngcdikbhkjaaGreatDoorMapR
import Derived.Test.YtkkngcdikbhkjaaGreatDoorShelf
import Derived.Test.YtkkngcdikbhkjaaGreatDoorSrtl
import Derived.Shelf.Sort.Plain
import Derived.Shelf.Slices.In.SortNone
import Derived.Test.YtkkngcdikbhkjaaGreatDoorSorta
import Derived.Test.YtkkngcdikbhkjaaGreatDoorLend
import Derived.Lib.SlicesCompact
import Derived.Test.YtkkngcdikbhkjaaGreatDoorApp
import Derived.Test.YtkkngcdikbhkjaaGreatDoorPk4
section
namespace Go.Proofs.YtkkngcdikbhkjaaGreatDoor
set_option linter.unusedSimpArgs false
set_option linter.unusedVariables false
set_option maxRecDepth 20000
open Go.RowKit Go.Eng
structure SShare where
  name : Nm
  n : Int
def SShare.enc (s : SShare) : List Value := [str s.name, .int .i64 s.n]
def mi (p : Nm × Int) : Nm × Value := (p.1, .int .i64 p.2)
theorem mget_mi (s : Nm) : ∀ M : List (Nm × Int), (mget (M.map mi) s).getD (.int .i64 0) = .int .i64 (gi M s)
  | [] => rfl
  | p :: r => by
    show (if s = p.1 then some (Value.int .i64 p.2) else mget (r.map mi) s).getD (.int .i64 0) = .int .i64 (if p.1 = s then p.2 else gi r s)
    by_cases h : p.1 = s
    · rw [if_pos h.symm, if_pos h]; rfl
    · rw [if_neg (fun e => h e.symm), if_neg h]; exact mget_mi s r
theorem mput_mi (s : Nm) (v : Int) : ∀ M : List (Nm × Int), mput (M.map mi) s (.int .i64 v) = (pi' M s v).map mi
  | [] => rfl
  | p :: r => by
    show (if s = p.1 then (p.1, Value.int .i64 v) :: r.map mi else mi p :: mput (r.map mi) s (.int .i64 v)) = _
    unfold pi'
    by_cases h : p.1 = s
    · rw [if_pos h.symm, if_pos h]; rfl
    · rw [if_neg (fun e => h e.symm), if_neg h, mput_mi s v r]; rfl
theorem len_put (s : Nm) (v : Int) : ∀ M : List (Nm × Int), (pi' M s v).length ≤ M.length + 1
  | [] => by simp [pi']
  | p :: r => by
    unfold pi'
    split
    · simp
    · have := len_put s v r; simp; omega
def lenF : List SFunc → Int
  | [] => 0
  | g :: r => (g.tu - g.fr) + lenF r
def mkS (p : Nm × Int) : SShare := ⟨p.1, p.2⟩
def posB (p : Nm × Int) : Bool := decide (0 < p.2)
/-- what Shares hands back: the positive entries of the map, in whatever order they came, sorted -/
def ShOk (le : SShare → SShare → Bool) (t : Tab) (l : List SShare) : Prop :=
  if tabNo t ≠ 0 then l = [] else ∃ (M D : List (Nm × Int)), MapOk t.size.toNat (layC t.ca.l (layF t.fu.l fun _ => none)) M ∧ sumM M = lenF t.fu.l ∧ M.Perm D ∧ l = ((D.filter posB).map mkS).mergeSort le ∧ M.length ≤ 10000
def SortsShares (le : SShare → SShare → Bool) : Prop := ∀ {w0 : World} {K : HL}, FromK K → ∀ (A : Option Addr) (q c : Nat) (l : List SShare) (w : World), l.length = q → q ≤ 1000000 → Mem w0 ([(0, .own 140 2 (.slice A q c) q (l.flatMap SShare.enc))] ++ K) w →
  Calls Tryz.prog 170 #[.slice A q c, .func (.func 171) #[] #[]] w fun e w' => ∃ l' : List SShare, e = .returned (.tuple #[]) ∧ l' = l.mergeSort le ∧ Mem w0 ([(0, .own 140 2 (.slice A q c) q (l'.flatMap SShare.enc))] ++ K) w'
theorem shares1_any (f : SFunc) (ad : Addr) (c : SCall) (w : World) (hb : ad.block < w.heap.size) (h1 : w.cell? (ad.add 1) = some (.int .i64 c.fr)) (h2 : w.cell? (ad.add 2) = some (.int .i64 c.tu)) :
    Calls Tryz.prog 169 #[.agg f.enc.toArray, .pointer (some ad)] w fun e w' => e = .returned (.bool (f.holds c)) ∧ Below w.heap.size w w' := by
  refine enter_args (args := [.agg #[str f.name, .int .i64 f.fr, .int .i64 f.tu], .pointer (some ad)]) (F := _) Tryz.func169 rfl Tryz.ntmps169 rfl rfl ?_
  intro Rb hRb hRn
  refine T_seq ?_
  refine T_region ?_
  refine S_box 2 2 rfl rfl rfl rfl rfl ?_
  intro b2
  refine S_ 3 rfl rfl rfl _ (y_assign rfl rfl) ?_
  refine S_go (fun _ _ h => h) ?_
  refine T_seq ?_
  refine T_region ?_
  refine S_ 4 rfl rfl rfl _ (y_fieldAddr rfl rfl fa196_1) ?_
  refine S_ 5 rfl rfl rfl _ (y_load 2 rfl rfl rfl rfl Tryz.underlying3 rfl) ?_
  refine S_ 6 rfl rfl rfl _ (y_fieldAddr rfl rfl fa200_1) ?_
  refine S_ 7 rfl rfl rfl _ (y_load_far rfl rfl h1 (by rw [block_of_add]; exact hb) Tryz.underlying3 rfl) ?_
  refine S_ 8 rfl rfl rfl _ (y_bin rfl rfl rfl (fun _ => b_leq)) ?_
  refine S_ 9 rfl rfl rfl _ (y_move rfl rfl) ?_
  refine Sg_ 10 rfl rfl rfl rfl rfl rfl _ (y_fieldAddr rfl rfl fa200_2) ?_
  refine Sg_ 11 rfl rfl rfl rfl rfl rfl _ (y_load_far rfl rfl h2 (by rw [block_of_add]; exact hb) Tryz.underlying3 rfl) ?_
  refine Sg_ 12 rfl rfl rfl rfl rfl rfl _ (y_fieldAddr rfl rfl fa196_2) ?_
  refine Sg_ 13 rfl rfl rfl rfl rfl rfl _ (y_load 2 rfl rfl rfl rfl Tryz.underlying3 rfl) ?_
  refine Sg_ 14 rfl rfl rfl rfl rfl rfl _ (y_bin rfl rfl rfl (fun _ => b_leq)) ?_
  refine S_ 15 rfl rfl rfl _ (y_and rfl rfl rfl) ?_
  refine S_ 3 rfl rfl rfl _ (y_assign rfl rfl) ?_
  refine S_go (fun _ _ h => h) ?_
  refine T_ret (fun a w hF hM => hRb a w (post1 rfl rfl (fun w hM => ?_) a w hF hM))
  exact ⟨rfl, hM.below⟩
theorem asks_shares {b : Nat} {c : SCall} {w : World} (h1 : w.cell? ⟨b, 1, none⟩ = some (.int .i64 c.fr) ∧ b < w.heap.size) (h2 : w.cell? ⟨b, 2, none⟩ = some (.int .i64 c.tu) ∧ b < w.heap.size) : Asks Tryz.prog SFunc.enc w 169 #[.pointer (some ⟨b, 0, none⟩)] (SFunc.holds c) :=
  ⟨cf169, fun f w' hb => shares1_any f ⟨b, 0, none⟩ c w' (Nat.lt_of_lt_of_le h1.2 hb.size) ((hb.cell h1.2).trans h1.1) ((hb.cell h2.2).trans h2.1)⟩
end Go.Proofs.YtkkngcdikbhkjaaGreatDoor
end
section
namespace Go.Proofs.YtkkngcdikbhkjaaGreatDoor
set_option linter.unusedSimpArgs false
set_option linter.unusedVariables false
set_option maxRecDepth 20000
open Go.RowKit Go.Eng
def lenOf (t : Tab) : Nat := t.size.toNat
abbrev shIt (A : Option Addr) (c : Nat) (l : List SShare) : It := .own 140 2 (.slice A l.length c) l.length (l.flatMap SShare.enc)
theorem func_step {size : Int} {g : SFunc} {r : List SFunc} {last : Int} (h : funcsNo size (g :: r) last = 0) : (0 ≤ g.fr ∧ g.fr < g.tu ∧ g.tu ≤ size) ∧ last ≤ g.fr ∧ funcsNo size r g.tu = 0 := by
  unfold funcsNo at h
  split at h
  · rename_i h1; exact absurd h h1
  split at h
  · cases h
  rename_i h2
  split at h
  · cases h
  simp only [spanBad, outB, Bool.or_eq_true, decide_eq_true_eq, not_or] at h2
  exact ⟨by omega, by omega, h⟩
theorem funcs_of {t : Tab} (h : tabNo t = 0) : funcsNo t.size t.fu.l 0 = 0 := by
  unfold tabNo at h
  split at h
  · cases h
  split at h
  · cases h
  obtain ⟨_, h⟩ := fst_zero h
  obtain ⟨b, _⟩ := fst_zero h
  exact (le_of_ite b).2
theorem mapOk_nil (n : Nat) : MapOk n (fun _ => none) [] := ⟨fun s => by
  have : ∀ m, cnt (fun _ => none) s m = 0 := fun m => by
    induction m with
    | zero => rfl
    | succ m ih => unfold cnt; rw [ih]; simp
  rw [this]; rfl, by simp⟩
theorem call_span {size nf : Int} {c : SCall} (h : callBad size nf c = false) : 0 ≤ c.fr ∧ c.fr < c.tu ∧ c.tu ≤ size := by
  simp only [callBad, spanBad, outB, Bool.or_eq_false_iff, decide_eq_false_iff_not] at h; omega
theorem call_nest {fu : List SFunc} {before : List SCall} {c : SCall} (h : callNo fu before c = 0) : fu.any (SFunc.holds c) = true ∧ nestNo c before 0 = 0 := by
  unfold callNo at h
  split at h
  · cases h
  rename_i h1
  exact ⟨by simpa using h1, h⟩
set_option maxHeartbeats 1600000 in
theorem Shares_any {le : SShare → SShare → Bool} (hS : SortsShares le) {w0 : World} {K : HL} (hK : FromK K) (t : Tab) (w : World) (hok : t.Ok w0) (hM0 : Mem w0 ([] ++ K) w) :
    Calls Tryz.prog 64 #[.agg #[str t.id, .int .i64 t.size, .slice t.fi.A t.fi.q t.fi.c, .slice t.fu.A t.fu.q t.fu.c, .slice t.ro.A t.ro.q t.ro.c, .slice t.ca.A t.ca.q t.ca.c]] w fun e w' => ∃ z : List SShare × Option Addr × Nat, e = .returned (.tuple #[.slice z.2.1 z.1.length z.2.2, .int .i64 (tabNo t)]) ∧ ShOk le t z.1 ∧ Mem w0 ([(13, shIt z.2.1 z.2.2 z.1)] ++ K) w' := by
  have hq := hok.small
  have hft := hok.fu.t
  have hct := hok.ca.t
  have hfl := hft.len
  refine enterM_args (args := [.agg #[str t.id, .int .i64 t.size, .slice t.fi.A t.fi.q t.fi.c, .slice t.fu.A t.fu.q t.fu.c, .slice t.ro.A t.ro.q t.ro.c, .slice t.ca.A t.ca.q t.ca.c]]) (F := _) hM0 Tryz.func64 rfl Tryz.ntmps64 rfl rfl ?_
  intro Rb hRb hRn
  refine T_seq ?_
  refine T_region ?_
  refine S_box 1 1 rfl rfl rfl rfl rfl ?_
  intro b1
  refine S_nilSlice 2 (e := 140) (size := 2) ?_
  refine S_ 2 rfl rfl rfl _ (y_assign rfl rfl) ?_
  refine S_ 3 rfl rfl rfl _ (y_assign rfl rfl) ?_
  refine S_go (fun _ _ h => h) ?_
  refine T_seq ?_
  refine T_seq ?_
  refine T_region ?_
  refine S_ 16 rfl rfl rfl _ (y_loadA 1 rfl rfl rfl Tryz.underlying62 rfl sz62) ?_
  refine S_ 17 rfl rfl rfl _ (y_call rfl rfl rfl cf123 (fun _ w hM => CheckTable_any t w (hok.below hM.below))) ?_
  refine S_ 4 rfl rfl rfl _ (y_assign rfl rfl) ?_
  refine S_go (fun _ _ h => h) ?_
  refine T_seq ?_
  refine T_region ?_
  refine S_ 18 rfl rfl rfl _ (y_move rfl rfl) ?_
  refine S_ 19 rfl rfl rfl _ (y_bin rfl rfl rfl (fun _ => b_neq)) ?_
  refine S_go (fun _ _ h => h) ?_
  refine T_cond rfl (fun h19 => ?_) (fun h19 => ?_)
  · try simp only [decide_eq_true_eq, decide_eq_false_iff_not, Bool.or_eq_true, Bool.or_eq_false_iff, Bool.and_eq_true, Bool.and_eq_false_iff, Bool.not_eq_true', Bool.not_eq_false', Bool.not_eq_true, Bool.not_eq_false, Bool.not_true, Bool.not_false, Int.not_lt, Int.not_le, not_or, not_and, Classical.not_not] at h19
    refine T_seq ?_
    refine T_region ?_
    refine S_ 20 rfl rfl rfl _ (y_move rfl rfl) ?_
    refine S_nilSlice 2 (e := 140) (size := 2) ?_
    refine S_ 2 rfl rfl rfl _ (y_assign rfl rfl) ?_
    refine S_ 3 rfl rfl rfl _ (y_assign rfl rfl) ?_
    refine S_go (fun _ _ h => h) ?_
    refine T_ret (fun a w hF hM => hRb a w (post2 rfl rfl rfl (fun w hM => ?_) a w hF hM))
    have hM := hM.add 13 (shIt none 0 []) rfl (World.ownsRow_nil _ _ _ _)
    exact ⟨([], none, 0), rfl, by unfold ShOk; rw [if_pos h19], hM.keep (ks := [(0, 999)]) (by repeat (first | exact kl_rest (by assumption) rfl | (apply kl_in; focus rfl))) _ ⟨rfl, trivial⟩⟩
  · try simp only [decide_eq_true_eq, decide_eq_false_iff_not, Bool.or_eq_true, Bool.or_eq_false_iff, Bool.and_eq_true, Bool.and_eq_false_iff, Bool.not_eq_true', Bool.not_eq_false', Bool.not_eq_true, Bool.not_eq_false, Bool.not_true, Bool.not_false, Int.not_lt, Int.not_le, not_or, not_and, Classical.not_not] at h19
    obtain ⟨⟨_, hso⟩, hb1, hb2, hb3, hb4⟩ := rows_of h19
    have hsz := size_of_out hso
    have hfz := funcs_of h19
    have hall := calls_right _ _ _ (tab_calls h19)
    have hN : ((t.size.toNat : Nat) : Int) = t.size := by omega
    refine T_skip_go (fun _ _ h => h) ?_
    refine T_seq ?_
    refine T_region ?_
    refine S_makeMap 21 21 (fun l : List UInt8 => str l) rfl rfl rfl rfl ?_
    intro b21
    refine S_ 5 rfl rfl rfl _ (y_assign rfl rfl) ?_
    refine S_go (fun _ _ h => h) ?_
    refine T_seq ?_
    refine T_seq ?_
    refine T_region ?_
    refine S_ 22 rfl rfl rfl _ (y_fieldAddr rfl rfl fa62_3) ?_
    refine S_ 23 rfl rfl rfl _ (y_load 1 rfl rfl rfl rfl Tryz.underlying58 rfl) ?_
    refine S_ 24 rfl rfl rfl _ (y_len_slice rfl rfl Tryz.underlying58) ?_
    refine S_ 25 rfl rfl rfl _ (y_move rfl rfl) ?_
    refine S_go (fun _ _ h => h) ?_
    refine T_block ?_
    refine T_loopK4 (kf := [(7, 7), (25, 39)]) (kl := [(7, 7), (21, 21), (25, 39)]) (fun (i : Nat) (M : List (Nm × Int)) (f : Int → Option Nm) (b : Int) => [(25, true, .int .i64 (i : Int))]) (fun (i : Nat) (M : List (Nm × Int)) (f : Int → Option Nm) (b : Int) => [(21, .blk b21 (IsMap (fun l : List UInt8 => str l) (M.map mi)))]) (fun (i : Nat) (M : List (Nm × Int)) (f : Int → Option Nm) (b : Int) => i ≤ t.fu.q ∧ MapOk t.size.toNat f M ∧ (∀ x, b ≤ x → f x = none) ∧ funcsNo t.size (t.fu.l.drop i) b = 0 ∧ layF (t.fu.l.drop i) f = layF t.fu.l (fun _ => none) ∧ sumM M + lenF (t.fu.l.drop i) = lenF t.fu.l ∧ M.length ≤ i) (fun (i : Nat) (M : List (Nm × Int)) (f : Int → Option Nm) (b : Int) => t.fu.q - i) 0 [] (fun _ => none) 0 (by repeat (first | exact kf_nil | (apply kf_in; focus rfl) | (apply kf_out; focus rfl))) (by repeat (first | exact kl_nil | exact kl_rest (by assumption) rfl | (apply kl_in; focus rfl) | (apply kl_out; focus rfl))) ?_ ?_ ?_ ?_
    · exact ⟨by omega, mapOk_nil _, fun _ _ => rfl, hfz, rfl, by simp [sumM], by simp⟩
    · exact ⟨rfl, trivial⟩
    · exact ⟨rfl, trivial⟩
    rintro i M f b ⟨hp1, hp2, hp3, hp4, hp5, hp6, hp7⟩
    refine T_seq ?_
    refine T_region ?_
    refine S_ 26 rfl rfl rfl _ (y_bin rfl rfl rfl (fun _ => b_lss)) ?_
    refine S_go (fun _ _ h => h) ?_
    refine T_seq ?_
    refine T_cond rfl (fun h26 => ?_) (fun h26 => ?_)
    · try simp only [decide_eq_true_eq, decide_eq_false_iff_not, Bool.or_eq_true, Bool.or_eq_false_iff, Bool.and_eq_true, Bool.and_eq_false_iff, Bool.not_eq_true', Bool.not_eq_false', Bool.not_eq_true, Bool.not_eq_false, Bool.not_true, Bool.not_false, Int.not_lt, Int.not_le, not_or, not_and, Classical.not_not] at h26
      obtain ⟨g, hx1, hx2⟩ := hft.at (i := i) (by omega)
      rw [hx2] at hp4 hp5 hp6
      obtain ⟨⟨hg1, hg2, hg3⟩, hg4, hg5⟩ := func_step hp4
      have hgm := hp2.get g.name
      have hgc := cnt_le f g.name t.size.toNat
      refine T_skip_go (fun _ _ h => h) ?_
      refine T_seq ?_
      refine T_block ?_
      refine T_seq ?_
      refine T_region ?_
      refine S_ 27 rfl rfl rfl _ (y_indexAddr rfl rfl rfl Tryz.underlying58 sz196 (fun hg => hft.isSome (by omega)) (fun _ => by omega)) ?_
      refine S_ 28 rfl rfl rfl _ (y_loadT rfl rfl hft (fun _ => rfl) (fun _ => hx1) Tryz.underlying196 rfl sz196) ?_
      refine S_alloc 7 7 rfl rfl rfl rfl z196 ?_
      intro b7
      refine S_store 7 rfl rfl rfl rfl rfl rfl sz196 rfl rfl ?_
      refine S_go (fun _ _ h => h) ?_
      refine T_region ?_
      refine S_ 29 rfl rfl rfl _ (y_move rfl rfl) ?_
      refine S_ 30 rfl rfl rfl _ (y_fieldAddr rfl rfl fa196_0) ?_
      refine S_ 31 rfl rfl rfl _ (y_load 7 rfl rfl rfl rfl Tryz.underlying9 rfl) ?_
      refine S_ 32 rfl rfl rfl _ (y_as (v' := .int .i64 (gi M g.name)) (by exact mget_mi _ _) (y_lookup 21 (enc := fun l : List UInt8 => str l) rfl rfl rfl rfl Tryz.underlying204 Tryz.underlying9 rfl same_str z3)) ?_
      refine S_ 33 rfl rfl rfl _ (y_fieldAddr rfl rfl fa196_2) ?_
      refine S_ 34 rfl rfl rfl _ (y_load 7 rfl rfl rfl rfl Tryz.underlying3 rfl) ?_
      refine S_ 35 rfl rfl rfl _ (y_fieldAddr rfl rfl fa196_1) ?_
      refine S_ 36 rfl rfl rfl _ (y_load 7 rfl rfl rfl rfl Tryz.underlying3 rfl) ?_
      refine S_ 37 rfl rfl rfl _ (y_bin rfl rfl rfl (fun hg => b_sub (by omega))) ?_
      refine S_ 38 rfl rfl rfl _ (y_bin rfl rfl rfl (fun hg => b_add (by omega))) ?_
      refine S_mapUpdate 21 (enc := fun l : List UInt8 => str l) rfl rfl rfl rfl rfl rfl rfl Tryz.underlying204 Tryz.underlying9 rfl same_str fits_str (mput_mi _ _ _) ?_
      refine S_go (fun _ _ h => h) ?_
      refine T_region ?_
      refine S_ 39 rfl rfl rfl _ (y_bin rfl rfl rfl (fun hg => b_add (by omega))) ?_
      refine S_ 25 rfl rfl rfl _ (y_move rfl rfl) ?_
      refine S_nil (nextK4 (kf := [(7, 7), (25, 39)]) (kl := [(7, 7), (21, 21), (25, 39)]) (i + 1) (pi' M g.name (gi M g.name + (g.tu - g.fr))) (upd f g.fr g.tu g.name) g.tu (by repeat (first | exact kf_nil | (apply kf_in; focus rfl) | (apply kf_out; focus rfl))) (by repeat (first | exact kl_nil | exact kl_rest (by assumption) rfl | (apply kl_in; focus rfl) | (apply kl_out; focus rfl))) ?_ ?_ ?_ ?_)
      · omega
      · exact ⟨by omega, hp2.func hg1 (by omega) (by omega) (fun x h1 _ => hp3 x (by omega)), fun x hx => by rw [upd, if_neg (by omega)]; exact hp3 x (by omega), hg5, hp5, by rw [sum_put]; rw [lenF] at hp6; omega, by have := len_put g.name (gi M g.name + (g.tu - g.fr)) M; omega⟩
      · exact ⟨rfl, trivial⟩
      · exact ⟨rfl, trivial⟩
    · try simp only [decide_eq_true_eq, decide_eq_false_iff_not, Bool.or_eq_true, Bool.or_eq_false_iff, Bool.and_eq_true, Bool.and_eq_false_iff, Bool.not_eq_true', Bool.not_eq_false', Bool.not_eq_true, Bool.not_eq_false, Bool.not_true, Bool.not_false, Int.not_lt, Int.not_le, not_or, not_and, Classical.not_not] at h26
      have hz : t.fu.l.drop i = [] := hft.end (by omega)
      rw [hz] at hp5 hp6
      refine T_exit_go (fun _ _ h => h) ?_
      refine T_seq ?_
      refine T_seq ?_
      refine T_region ?_
      refine S_ 40 rfl rfl rfl _ (y_fieldAddr rfl rfl fa62_5) ?_
      refine S_ 41 rfl rfl rfl _ (y_load 1 rfl rfl rfl rfl Tryz.underlying60 rfl) ?_
      refine S_ 42 rfl rfl rfl _ (y_len_slice rfl rfl Tryz.underlying60) ?_
      refine S_ 43 rfl rfl rfl _ (y_move rfl rfl) ?_
      refine S_go (fun _ _ h => h) ?_
      refine T_block ?_
      refine T_loopK3 (kf := [(8, 12), (43, 101)]) (kl := [(8, 12), (21, 21), (43, 101)]) (fun (j : Nat) (M : List (Nm × Int)) (f : Int → Option Nm) => [(43, true, .int .i64 (j : Int))]) (fun (j : Nat) (M : List (Nm × Int)) (f : Int → Option Nm) => [(21, .blk b21 (IsMap (fun l : List UInt8 => str l) (M.map mi)))]) (fun (j : Nat) (M : List (Nm × Int)) (f : Int → Option Nm) => j ≤ t.ca.q ∧ MapOk t.size.toNat f M ∧ f = layC (t.ca.l.take j) (layF t.fu.l fun _ => none) ∧ sumM M = lenF t.fu.l ∧ M.length ≤ 1000 + 2 * j) (fun (j : Nat) (M : List (Nm × Int)) (f : Int → Option Nm) => t.ca.q - j) 0 M f (by repeat (first | exact kf_nil | (apply kf_in; focus rfl) | (apply kf_out; focus rfl))) (by repeat (first | exact kl_nil | exact kl_rest (by assumption) rfl | (apply kl_in; focus rfl) | (apply kl_out; focus rfl))) ?_ ?_ ?_ ?_
      · exact ⟨by omega, hp2, by rw [← hp5]; rfl, by rw [← hp6]; simp [lenF], by omega⟩
      · exact ⟨rfl, trivial⟩
      · exact ⟨rfl, trivial⟩
      rintro j M f ⟨hp1, hp2, hp3, hp4, hp5⟩
      refine T_seq ?_
      refine T_region ?_
      refine S_ 44 rfl rfl rfl _ (y_bin rfl rfl rfl (fun _ => b_lss)) ?_
      refine S_go (fun _ _ h => h) ?_
      refine T_seq ?_
      refine T_cond rfl (fun h44 => ?_) (fun h44 => ?_)
      · try simp only [decide_eq_true_eq, decide_eq_false_iff_not, Bool.or_eq_true, Bool.or_eq_false_iff, Bool.and_eq_true, Bool.and_eq_false_iff, Bool.not_eq_true', Bool.not_eq_false', Bool.not_eq_true, Bool.not_eq_false, Bool.not_true, Bool.not_false, Int.not_lt, Int.not_le, not_or, not_and, Classical.not_not] at h44
        obtain ⟨c0, hc1, hc2⟩ := hct.at (i := j) (by omega)
        obtain ⟨_, hcb, hcn⟩ := hall j c0 hc1
        have hcs := call_span hcb
        obtain ⟨hany, hnest⟩ := call_nest hcn
        rw [← findI_any _ _ 0 (by omega)] at hany
        obtain ⟨n, fn, hfi0, hfn, hfh⟩ := findI_at t.fu.l 0 (by omega) (of_decide_eq_true hany)
        have hnl := (List.getElem?_eq_some_iff.1 hfn).1
        have hfhold : fn.fr ≤ c0.fr ∧ c0.tu ≤ fn.tu := by simpa [SFunc.holds] using hfh
        refine T_skip_go (fun _ _ h => h) ?_
        refine T_seq ?_
        refine T_block ?_
        refine T_seq ?_
        refine T_region ?_
        refine S_ 45 rfl rfl rfl _ (y_move rfl rfl) ?_
        refine S_ 46 rfl rfl rfl _ (y_indexAddr rfl rfl rfl Tryz.underlying60 sz200 (fun hg => hct.isSome (by omega)) (fun _ => by omega)) ?_
        refine S_ 47 rfl rfl rfl _ (y_loadT rfl rfl hct (fun _ => rfl) (fun _ => hc1) Tryz.underlying200 rfl sz200) ?_
        refine S_alloc 9 9 rfl rfl rfl rfl z200 ?_
        intro b9
        refine S_ 8 rfl rfl rfl _ (y_assign rfl rfl) ?_
        refine S_store 9 rfl rfl rfl rfl rfl rfl sz200 rfl rfl ?_
        refine S_go (fun _ _ h => h) ?_
        refine T_seq ?_
        refine T_draws (by kernel_rfl) (by kernel_rfl) ?_
        refine D_ 48 rfl rfl rfl _ (y_fieldAddr rfl rfl fa62_3) ?_
        refine D_ 49 rfl rfl rfl _ (y_load 1 rfl rfl rfl rfl Tryz.underlying58 rfl) ?_
        refine D_ 50 rfl rfl rfl _ (y_fieldAddr rfl rfl fa62_3) ?_
        refine D_ 51 rfl rfl rfl _ (y_load 1 rfl rfl rfl rfl Tryz.underlying58 rfl) ?_
        refine D_ 52 rfl rfl rfl _ (y_makeFunc rfl rfl rfl rfl rfl) ?_
        refine D_ 53 rfl rfl rfl _ (y_call rfl rfl rfl cf168 (fun _ w hM => IndexFuncF_any _ _ _ _ _ _ (SFunc.holds c0) w (hft.below hM.below) (by omega) (asks_shares (hM.box_cell (i := 9) rfl rfl) (hM.box_cell (i := 9) rfl rfl)))) ?_
        refine D_ 54 rfl rfl rfl _ (y_indexAddrI (j := n) rfl rfl rfl (fun _ => by omega) Tryz.underlying58 sz196 (fun hg => hft.isSome (by omega)) (fun _ => by omega)) ?_
        refine D_ 55 rfl rfl rfl _ (y_fieldEl rfl rfl hft.rd (fun _ => by omega) fa196_0) ?_
        refine D_ 56 rfl rfl rfl _ (y_load_fT rfl rfl hft (fun _ => rfl) (fun _ => hfn) rfl Tryz.underlying9 rfl) ?_
        refine D_ 10 rfl rfl rfl _ (y_assign rfl rfl) ?_
        refine D_go (fun _ _ h => h) ?_
        refine T_seq ?_
        refine T_seq ?_
        refine T_region ?_
        refine S_ 57 rfl rfl rfl _ (y_move rfl rfl) ?_
        refine S_ 58 rfl rfl rfl _ (y_bin rfl rfl rfl (fun hg => b_subv (((j : Nat) : Int) - 1) (by omega) (by omega))) ?_
        refine S_ 11 rfl rfl rfl _ (y_assign rfl rfl) ?_
        refine S_go (fun _ _ h => h) ?_
        refine T_block ?_
        refine T_loopK1 (kf := [(10, 12), (59, 81)]) (kl := [(10, 12), (59, 81)]) (fun (k : Nat) => [(11, true, .int .i64 ((k : Int) - 1)), (10, true, str fn.name)]) (fun (k : Nat) => []) (fun (k : Nat) => k ≤ j ∧ aroundOf c0 (t.ca.l.take j).reverse fn.name = aroundOf c0 (t.ca.l.take k).reverse fn.name) (fun (k : Nat) => k) j (by repeat (first | exact kf_nil | (apply kf_in; focus rfl) | (apply kf_out; focus rfl))) (by repeat (first | exact kl_nil | exact kl_rest (by assumption) rfl | (apply kl_in; focus rfl) | (apply kl_out; focus rfl))) ?_ ?_ ?_ ?_
        · exact ⟨by omega, rfl⟩
        · exact ⟨rfl, rfl, trivial⟩
        · exact trivial
        rintro k ⟨hk1, hk2⟩
        refine T_seq ?_
        refine T_seq ?_
        refine T_region ?_
        refine S_ 59 rfl rfl rfl _ (y_move rfl rfl) ?_
        refine S_ 60 rfl rfl rfl _ (y_bin rfl rfl rfl (fun _ => b_geq)) ?_
        refine S_go (fun _ _ h => h) ?_
        refine T_cond rfl (fun h60 => ?_) (fun h60 => ?_)
        · try simp only [decide_eq_true_eq, decide_eq_false_iff_not, Bool.or_eq_true, Bool.or_eq_false_iff, Bool.and_eq_true, Bool.and_eq_false_iff, Bool.not_eq_true', Bool.not_eq_false', Bool.not_eq_true, Bool.not_eq_false, Bool.not_true, Bool.not_false, Int.not_lt, Int.not_le, not_or, not_and, Classical.not_not] at h60
          obtain ⟨bb, hb1, hb2⟩ := hct.at (i := k - 1) (by omega)
          refine T_skip_go (fun _ _ h => h) ?_
          refine T_seq ?_
          refine T_block ?_
          refine T_seq ?_
          refine T_region ?_
          refine S_ 63 rfl rfl rfl _ (y_fieldAddr rfl rfl fa62_5) ?_
          refine S_ 64 rfl rfl rfl _ (y_load 1 rfl rfl rfl rfl Tryz.underlying60 rfl) ?_
          refine S_ 65 rfl rfl rfl _ (y_move rfl rfl) ?_
          refine S_ 66 rfl rfl rfl _ (y_indexAddrI (j := k - 1) rfl rfl rfl (fun _ => by omega) Tryz.underlying60 sz200 (fun hg => hct.isSome (by omega)) (fun _ => by omega)) ?_
          refine S_ 67 rfl rfl rfl _ (y_loadT rfl rfl hct (fun _ => rfl) (fun _ => hb1) Tryz.underlying200 rfl sz200) ?_
          refine S_alloc 12 12 rfl rfl rfl rfl z200 ?_
          intro b12
          refine S_store 12 rfl rfl rfl rfl rfl rfl sz200 rfl rfl ?_
          refine S_go (fun _ _ h => h) ?_
          refine T_seq ?_
          refine T_region ?_
          refine S_ 68 rfl rfl rfl _ (y_fieldAddr rfl rfl fa200_1) ?_
          refine S_ 69 rfl rfl rfl _ (y_load 12 rfl rfl rfl rfl Tryz.underlying3 rfl) ?_
          refine S_ 70 rfl rfl rfl _ (y_fieldAddr rfl rfl fa200_1) ?_
          refine S_ 71 rfl rfl rfl _ (y_load 9 rfl rfl rfl rfl Tryz.underlying3 rfl) ?_
          refine S_ 72 rfl rfl rfl _ (y_bin rfl rfl rfl (fun _ => b_leq)) ?_
          refine S_ 73 rfl rfl rfl _ (y_move rfl rfl) ?_
          refine Sg_ 74 rfl rfl rfl rfl rfl rfl _ (y_fieldAddr rfl rfl fa200_2) ?_
          refine Sg_ 75 rfl rfl rfl rfl rfl rfl _ (y_load 9 rfl rfl rfl rfl Tryz.underlying3 rfl) ?_
          refine Sg_ 76 rfl rfl rfl rfl rfl rfl _ (y_fieldAddr rfl rfl fa200_2) ?_
          refine Sg_ 77 rfl rfl rfl rfl rfl rfl _ (y_load 12 rfl rfl rfl rfl Tryz.underlying3 rfl) ?_
          refine Sg_ 78 rfl rfl rfl rfl rfl rfl _ (y_bin rfl rfl rfl (fun _ => b_leq)) ?_
          refine S_ 79 rfl rfl rfl _ (y_as (v' := .bool (enclB bb c0)) (by exact rfl) (y_and rfl rfl rfl)) ?_
          refine S_go (fun _ _ h => h) ?_
          refine T_cond rfl (fun h79 => ?_) (fun h79 => ?_)
          · skip
            have har : aroundOf c0 (t.ca.l.take j).reverse fn.name = bb.name := by rw [hk2, take_rev (by omega) hb1, aroundOf, if_t h79]
            have hg1 := hp2.get bb.name
            have hg2 := cnt_le f bb.name t.size.toNat
            have hg3 : -t.size ≤ gi (pi' M bb.name (gi M bb.name - (c0.tu - c0.fr))) c0.name ∧ gi (pi' M bb.name (gi M bb.name - (c0.tu - c0.fr))) c0.name ≤ t.size := by
              have h4 := hp2.get c0.name
              have h5 := cnt_le f c0.name t.size.toNat
              rw [gi_put]
              split <;> omega
            refine T_seq ?_
            refine T_region ?_
            refine S_ 80 rfl rfl rfl _ (y_fieldAddr rfl rfl fa200_0) ?_
            refine S_ 81 rfl rfl rfl _ (y_load 12 rfl rfl rfl rfl Tryz.underlying9 rfl) ?_
            refine S_ 10 rfl rfl rfl _ (y_assign rfl rfl) ?_
            refine S_go (fun _ _ h => h) ?_
            refine T_exit_go (fun _ _ h => h) ?_
            refine T_seq ?_
            refine T_region ?_
            refine S_ 82 rfl rfl rfl _ (y_move rfl rfl) ?_
            refine S_ 83 rfl rfl rfl _ (y_move rfl rfl) ?_
            refine S_ 84 rfl rfl rfl _ (y_as (v' := .int .i64 (gi M bb.name)) (by exact mget_mi _ _) (y_lookup 21 (enc := fun l : List UInt8 => str l) rfl rfl rfl rfl Tryz.underlying204 Tryz.underlying9 rfl same_str z3)) ?_
            refine S_ 85 rfl rfl rfl _ (y_fieldAddr rfl rfl fa200_2) ?_
            refine S_ 86 rfl rfl rfl _ (y_load 9 rfl rfl rfl rfl Tryz.underlying3 rfl) ?_
            refine S_ 87 rfl rfl rfl _ (y_fieldAddr rfl rfl fa200_1) ?_
            refine S_ 88 rfl rfl rfl _ (y_load 9 rfl rfl rfl rfl Tryz.underlying3 rfl) ?_
            refine S_ 89 rfl rfl rfl _ (y_bin rfl rfl rfl (fun hg => b_sub (by omega))) ?_
            refine S_ 90 rfl rfl rfl _ (y_bin rfl rfl rfl (fun hg => b_sub (by omega))) ?_
            refine S_mapUpdate 21 (enc := fun l : List UInt8 => str l) rfl rfl rfl rfl rfl rfl rfl Tryz.underlying204 Tryz.underlying9 rfl same_str fits_str (mput_mi _ _ _) ?_
            refine S_go (fun _ _ h => h) ?_
            refine T_region ?_
            refine S_ 91 rfl rfl rfl _ (y_move rfl rfl) ?_
            refine S_ 92 rfl rfl rfl _ (y_fieldAddr rfl rfl fa200_0) ?_
            refine S_ 93 rfl rfl rfl _ (y_load 9 rfl rfl rfl rfl Tryz.underlying9 rfl) ?_
            refine S_ 94 rfl rfl rfl _ (y_as (v' := .int .i64 (gi (pi' M bb.name (gi M bb.name - (c0.tu - c0.fr))) c0.name)) (by exact mget_mi _ _) (y_lookup 21 (enc := fun l : List UInt8 => str l) rfl rfl rfl rfl Tryz.underlying204 Tryz.underlying9 rfl same_str z3)) ?_
            refine S_ 95 rfl rfl rfl _ (y_fieldAddr rfl rfl fa200_2) ?_
            refine S_ 96 rfl rfl rfl _ (y_load 9 rfl rfl rfl rfl Tryz.underlying3 rfl) ?_
            refine S_ 97 rfl rfl rfl _ (y_fieldAddr rfl rfl fa200_1) ?_
            refine S_ 98 rfl rfl rfl _ (y_load 9 rfl rfl rfl rfl Tryz.underlying3 rfl) ?_
            refine S_ 99 rfl rfl rfl _ (y_bin rfl rfl rfl (fun hg => b_sub (by omega))) ?_
            refine S_ 100 rfl rfl rfl _ (y_bin rfl rfl rfl (fun hg => b_add (by omega))) ?_
            refine S_mapUpdate 21 (enc := fun l : List UInt8 => str l) rfl rfl rfl rfl rfl rfl rfl Tryz.underlying204 Tryz.underlying9 rfl same_str fits_str (mput_mi _ _ _) ?_
            refine S_go (fun _ _ h => h) ?_
            refine T_region ?_
            refine S_ 101 rfl rfl rfl _ (y_bin rfl rfl rfl (fun hg => b_add (by omega))) ?_
            refine S_ 43 rfl rfl rfl _ (y_move rfl rfl) ?_
            refine S_nil (nextK3 (kf := [(8, 12), (43, 101)]) (kl := [(8, 12), (21, 21), (43, 101)]) (j + 1) (pi' (pi' M bb.name (gi M bb.name - (c0.tu - c0.fr))) c0.name (gi (pi' M bb.name (gi M bb.name - (c0.tu - c0.fr))) c0.name + (c0.tu - c0.fr))) (upd f c0.fr c0.tu c0.name) (by repeat (first | exact kf_nil | (apply kf_in; focus rfl) | (apply kf_out; focus rfl))) (by repeat (first | exact kl_nil | exact kl_rest (by assumption) rfl | (apply kl_in; focus rfl) | (apply kl_out; focus rfl))) ?_ ?_ ?_ ?_)
            · omega
            · exact ⟨by omega, hp2.call hcs.1 (by omega) (by omega) (fun x h1 h2 => by rw [hp3, ← List.reverse_reverse (t.ca.l.take j)]; rw [around_lay h1 h2 (layF_at _ 0 _ x fn hfz (mem_at hfn) (by omega) (by omega)) _ (fun b hb => nest_apart _ _ hnest b (by simpa using hb)), har]), by rw [hp3, take_succ_at hc1, layC_app], by rw [sum_put, sum_put]; omega, by have h1 := len_put bb.name (gi M bb.name - (c0.tu - c0.fr)) M; have h2 := len_put c0.name (gi (pi' M bb.name (gi M bb.name - (c0.tu - c0.fr))) c0.name + (c0.tu - c0.fr)) (pi' M bb.name (gi M bb.name - (c0.tu - c0.fr))); omega⟩
            · exact ⟨rfl, trivial⟩
            · exact ⟨rfl, trivial⟩
          · skip
            refine T_skip_go (fun _ _ h => h) ?_
            refine T_region ?_
            refine S_ 61 rfl rfl rfl _ (y_move rfl rfl) ?_
            refine S_ 62 rfl rfl rfl _ (y_bin rfl rfl rfl (fun hg => b_subv (((k - 1 : Nat) : Int) - 1) (by omega) (by omega))) ?_
            refine S_ 11 rfl rfl rfl _ (y_assign rfl rfl) ?_
            refine S_nil (nextK1 (kf := [(10, 12), (59, 81)]) (kl := [(10, 12), (59, 81)]) (k - 1) (by repeat (first | exact kf_nil | (apply kf_in; focus rfl) | (apply kf_out; focus rfl))) (by repeat (first | exact kl_nil | exact kl_rest (by assumption) rfl | (apply kl_in; focus rfl) | (apply kl_out; focus rfl))) ?_ ?_ ?_ ?_)
            · omega
            · exact ⟨by omega, by rw [hk2, take_rev (by omega) hb1, aroundOf, if_neg (by simp [h79])]⟩
            · exact ⟨rfl, rfl, trivial⟩
            · exact trivial
        · try simp only [decide_eq_true_eq, decide_eq_false_iff_not, Bool.or_eq_true, Bool.or_eq_false_iff, Bool.and_eq_true, Bool.and_eq_false_iff, Bool.not_eq_true', Bool.not_eq_false', Bool.not_eq_true, Bool.not_eq_false, Bool.not_true, Bool.not_false, Int.not_lt, Int.not_le, not_or, not_and, Classical.not_not] at h60
          have hkz : k = 0 := by omega
          have har : aroundOf c0 (t.ca.l.take j).reverse fn.name = fn.name := by rw [hk2, hkz]; rfl
          have hg1 := hp2.get fn.name
          have hg2 := cnt_le f fn.name t.size.toNat
          have hg3 : -t.size ≤ gi (pi' M fn.name (gi M fn.name - (c0.tu - c0.fr))) c0.name ∧ gi (pi' M fn.name (gi M fn.name - (c0.tu - c0.fr))) c0.name ≤ t.size := by
            have h4 := hp2.get c0.name
            have h5 := cnt_le f c0.name t.size.toNat
            rw [gi_put]
            split <;> omega
          refine T_exit_go (fun _ _ h => h) ?_
          refine T_seq ?_
          refine T_region ?_
          refine S_ 82 rfl rfl rfl _ (y_move rfl rfl) ?_
          refine S_ 83 rfl rfl rfl _ (y_move rfl rfl) ?_
          refine S_ 84 rfl rfl rfl _ (y_as (v' := .int .i64 (gi M fn.name)) (by exact mget_mi _ _) (y_lookup 21 (enc := fun l : List UInt8 => str l) rfl rfl rfl rfl Tryz.underlying204 Tryz.underlying9 rfl same_str z3)) ?_
          refine S_ 85 rfl rfl rfl _ (y_fieldAddr rfl rfl fa200_2) ?_
          refine S_ 86 rfl rfl rfl _ (y_load 9 rfl rfl rfl rfl Tryz.underlying3 rfl) ?_
          refine S_ 87 rfl rfl rfl _ (y_fieldAddr rfl rfl fa200_1) ?_
          refine S_ 88 rfl rfl rfl _ (y_load 9 rfl rfl rfl rfl Tryz.underlying3 rfl) ?_
          refine S_ 89 rfl rfl rfl _ (y_bin rfl rfl rfl (fun hg => b_sub (by omega))) ?_
          refine S_ 90 rfl rfl rfl _ (y_bin rfl rfl rfl (fun hg => b_sub (by omega))) ?_
          refine S_mapUpdate 21 (enc := fun l : List UInt8 => str l) rfl rfl rfl rfl rfl rfl rfl Tryz.underlying204 Tryz.underlying9 rfl same_str fits_str (mput_mi _ _ _) ?_
          refine S_go (fun _ _ h => h) ?_
          refine T_region ?_
          refine S_ 91 rfl rfl rfl _ (y_move rfl rfl) ?_
          refine S_ 92 rfl rfl rfl _ (y_fieldAddr rfl rfl fa200_0) ?_
          refine S_ 93 rfl rfl rfl _ (y_load 9 rfl rfl rfl rfl Tryz.underlying9 rfl) ?_
          refine S_ 94 rfl rfl rfl _ (y_as (v' := .int .i64 (gi (pi' M fn.name (gi M fn.name - (c0.tu - c0.fr))) c0.name)) (by exact mget_mi _ _) (y_lookup 21 (enc := fun l : List UInt8 => str l) rfl rfl rfl rfl Tryz.underlying204 Tryz.underlying9 rfl same_str z3)) ?_
          refine S_ 95 rfl rfl rfl _ (y_fieldAddr rfl rfl fa200_2) ?_
          refine S_ 96 rfl rfl rfl _ (y_load 9 rfl rfl rfl rfl Tryz.underlying3 rfl) ?_
          refine S_ 97 rfl rfl rfl _ (y_fieldAddr rfl rfl fa200_1) ?_
          refine S_ 98 rfl rfl rfl _ (y_load 9 rfl rfl rfl rfl Tryz.underlying3 rfl) ?_
          refine S_ 99 rfl rfl rfl _ (y_bin rfl rfl rfl (fun hg => b_sub (by omega))) ?_
          refine S_ 100 rfl rfl rfl _ (y_bin rfl rfl rfl (fun hg => b_add (by omega))) ?_
          refine S_mapUpdate 21 (enc := fun l : List UInt8 => str l) rfl rfl rfl rfl rfl rfl rfl Tryz.underlying204 Tryz.underlying9 rfl same_str fits_str (mput_mi _ _ _) ?_
          refine S_go (fun _ _ h => h) ?_
          refine T_region ?_
          refine S_ 101 rfl rfl rfl _ (y_bin rfl rfl rfl (fun hg => b_add (by omega))) ?_
          refine S_ 43 rfl rfl rfl _ (y_move rfl rfl) ?_
          refine S_nil (nextK3 (kf := [(8, 12), (43, 101)]) (kl := [(8, 12), (21, 21), (43, 101)]) (j + 1) (pi' (pi' M fn.name (gi M fn.name - (c0.tu - c0.fr))) c0.name (gi (pi' M fn.name (gi M fn.name - (c0.tu - c0.fr))) c0.name + (c0.tu - c0.fr))) (upd f c0.fr c0.tu c0.name) (by repeat (first | exact kf_nil | (apply kf_in; focus rfl) | (apply kf_out; focus rfl))) (by repeat (first | exact kl_nil | exact kl_rest (by assumption) rfl | (apply kl_in; focus rfl) | (apply kl_out; focus rfl))) ?_ ?_ ?_ ?_)
          · omega
          · exact ⟨by omega, hp2.call hcs.1 (by omega) (by omega) (fun x h1 h2 => by rw [hp3, ← List.reverse_reverse (t.ca.l.take j)]; rw [around_lay h1 h2 (layF_at _ 0 _ x fn hfz (mem_at hfn) (by omega) (by omega)) _ (fun b hb => nest_apart _ _ hnest b (by simpa using hb)), har]), by rw [hp3, take_succ_at hc1, layC_app], by rw [sum_put, sum_put]; omega, by have h1 := len_put fn.name (gi M fn.name - (c0.tu - c0.fr)) M; have h2 := len_put c0.name (gi (pi' M fn.name (gi M fn.name - (c0.tu - c0.fr))) c0.name + (c0.tu - c0.fr)) (pi' M fn.name (gi M fn.name - (c0.tu - c0.fr))); omega⟩
          · exact ⟨rfl, trivial⟩
          · exact ⟨rfl, trivial⟩
      · try simp only [decide_eq_true_eq, decide_eq_false_iff_not, Bool.or_eq_true, Bool.or_eq_false_iff, Bool.and_eq_true, Bool.and_eq_false_iff, Bool.not_eq_true', Bool.not_eq_false', Bool.not_eq_true, Bool.not_eq_false, Bool.not_true, Bool.not_false, Int.not_lt, Int.not_le, not_or, not_and, Classical.not_not] at h44
        refine T_exit_go (fun _ _ h => h) ?_
        refine T_seq ?_
        refine T_region ?_
        refine S_nilSlice 13 (e := 140) (size := 2) ?_
        refine S_ 13 rfl rfl rfl _ (y_assign rfl rfl) ?_
        refine S_go (fun _ _ h => h) ?_
        refine T_seq ?_
        refine T_seq ?_
        refine T_region ?_
        refine S_ 102 rfl rfl rfl _ (y_move rfl rfl) ?_
        refine S_range 103 21 103 (fun p : Nm × Int => str p.1) (fun p : Nm × Int => Value.int .i64 p.2) (M) (by rw [List.map_map]; rfl) rfl rfl rfl rfl rfl rfl Tryz.underlying204 ?_
        intro r103 es103 ck103
        refine S_go (fun _ _ h => h) ?_
        refine T_block ?_
        refine T_loopK6 (kf := [(13, 15), (104, 116)]) (kl := [(13, 15), (103, 116)]) (fun (rem : List (Nm × Int)) (last : Option (Nm × Int)) (out : List SShare) (q : Nat) (A : Option Addr) (c : Nat) => [(13, true, .slice A q c)]) (fun (rem : List (Nm × Int)) (last : Option (Nm × Int)) (out : List SShare) (q : Nat) (A : Option Addr) (c : Nat) => [(103, .blk r103 (IsIt (fun p : Nm × Int => str p.1) (fun p : Nm × Int => Value.int .i64 p.2) b21 es103 ck103 rem last)), (13, .own 140 2 (.slice A q c) q (out.flatMap SShare.enc))]) (fun (rem : List (Nm × Int)) (last : Option (Nm × Int)) (out : List SShare) (q : Nat) (A : Option Addr) (c : Nat) => (∃ D, M.Perm (D ++ rem) ∧ out = (D.filter posB).map mkS ∧ q ≤ D.length) ∧ out.length = q ∧ q + rem.length ≤ M.length) (fun (rem : List (Nm × Int)) (last : Option (Nm × Int)) (out : List SShare) (q : Nat) (A : Option Addr) (c : Nat) => rem.length) M none [] 0 none 0 (by repeat (first | exact kf_nil | (apply kf_in; focus rfl) | (apply kf_out; focus rfl))) (by repeat (first | exact kl_nil | exact kl_rest (by assumption) rfl | (apply kl_in; focus rfl) | (apply kl_out; focus rfl))) ?_ ?_ ?_ ?_
        · exact ⟨⟨[], List.Perm.refl _, rfl, Nat.le_refl _⟩, rfl, by simp⟩
        · exact ⟨rfl, trivial⟩
        · exact ⟨rfl, rfl, trivial⟩
        rintro rem last out q A c ⟨hr1, hr2, hr3⟩
        refine T_seq ?_
        refine T_region ?_
        refine S_next 104 21 103 rfl rfl rfl rfl rfl rfl rfl ?_
        intro e104 ps104 hn104 hs104
        refine S_ 105 rfl rfl rfl _ (y_extract (v := .bool e104.isSome) rfl rfl (by cases e104 <;> rfl)) ?_
        refine S_go (fun _ _ h => h) ?_
        refine T_seq ?_
        refine T_cond rfl (fun h105 => ?_) (fun h105 => ?_)
        · skip
          obtain ⟨p, rfl⟩ := Option.isSome_iff_exists.1 h105
          have hpm := hs104 p rfl
          refine T_skip_go (fun _ _ h => h) ?_
          refine T_block ?_
          refine T_seq ?_
          refine T_region ?_
          refine S_ 106 rfl rfl rfl _ (y_entry 21 103 rfl rfl rfl rfl) ?_
          refine S_ 107 rfl rfl rfl _ (y_as (v' := str p.1) (by exact rfl) (y_extract rfl rfl rfl)) ?_
          refine S_ 108 rfl rfl rfl _ (y_as (v' := .int .i64 p.2) (by exact rfl) (y_extract rfl rfl rfl)) ?_
          refine S_ 14 rfl rfl rfl _ (y_assign rfl rfl) ?_
          refine S_ 15 rfl rfl rfl _ (y_assign rfl rfl) ?_
          refine S_go (fun _ _ h => h) ?_
          refine T_seq ?_
          refine T_region ?_
          refine S_ 109 rfl rfl rfl _ (y_move rfl rfl) ?_
          refine S_ 110 rfl rfl rfl _ (y_bin rfl rfl rfl (fun _ => b_gtr)) ?_
          refine S_go (fun _ _ h => h) ?_
          refine T_cond rfl (fun h110 => ?_) (fun h110 => ?_)
          · try simp only [decide_eq_true_eq, decide_eq_false_iff_not, Bool.or_eq_true, Bool.or_eq_false_iff, Bool.and_eq_true, Bool.and_eq_false_iff, Bool.not_eq_true', Bool.not_eq_false', Bool.not_eq_true, Bool.not_eq_false, Bool.not_true, Bool.not_false, Int.not_lt, Int.not_le, not_or, not_and, Classical.not_not] at h110
            refine T_region ?_
            refine S_ 111 rfl rfl rfl _ (y_move rfl rfl) ?_
            refine S_ 112 rfl rfl rfl _ (y_move rfl rfl) ?_
            refine S_ 113 rfl rfl rfl _ (y_move rfl rfl) ?_
            refine S_ 114 rfl rfl rfl _ (y_build (zv := .agg #[.string ⟨#[]⟩, .int .i64 0]) (pl := [(0, 1), (1, 1)]) (out := [_, _]) rfl rfl Tryz.underlying140 z140 (by kernel_rfl) rfl) ?_
            refine S_buildSlice 115 115 rfl rfl rfl rfl rfl Tryz.underlying125 inf140 rfl (by decide) (by decide) rfl rfl (by decide) rfl (_) rfl ?_
            intro b115
            obtain ⟨i116, hi116, hz116, hs116, hy116⟩ := info_parts inf140
            refine S_append 116 13 115 rfl rfl rfl rfl rfl rfl rfl rfl Tryz.underlying125 hi116 hz116 hs116 hy116 rfl (by decide) (by decide) rfl ?_ ?_ (q + 1) ((out ++ [mkS p]).flatMap SShare.enc) ?_ ?_ ?_
            · (simp only [maxLen]; omega)
            · omega
            · rfl
            · simp [List.flatMap_append, SShare.enc, mkS]; rfl
            intro A116 c116
            refine S_ 13 rfl rfl rfl _ (y_assign rfl rfl) ?_
            refine S_nil (nextK6 (kf := [(13, 15), (104, 116)]) (kl := [(13, 15), (103, 116)]) ps104 (some p) (out ++ [mkS p]) (q + 1) A116 c116 (by repeat (first | exact kf_nil | (apply kf_in; focus rfl) | (apply kf_out; focus rfl))) (by repeat (first | exact kl_nil | exact kl_rest (by assumption) rfl | (apply kl_in; focus rfl) | (apply kl_out; focus rfl))) ?_ ?_ ?_ ?_)
            · have := hpm.length_eq; simp at this; omega
            · have := hpm.length_eq
              simp at this
              obtain ⟨D, d1, d2, d3⟩ := hr1
              exact ⟨⟨D ++ [p], d1.trans (by rw [List.append_assoc]; exact List.Perm.append_left D hpm), by rw [List.filter_append, List.map_append, d2, List.filter_cons, if_pos (show posB p = true from decide_eq_true (by omega))]; rfl, by simp; omega⟩, by simp [hr2], by omega⟩
            · exact ⟨rfl, trivial⟩
            · exact ⟨rfl, rfl, trivial⟩
          · try simp only [decide_eq_true_eq, decide_eq_false_iff_not, Bool.or_eq_true, Bool.or_eq_false_iff, Bool.and_eq_true, Bool.and_eq_false_iff, Bool.not_eq_true', Bool.not_eq_false', Bool.not_eq_true, Bool.not_eq_false, Bool.not_true, Bool.not_false, Int.not_lt, Int.not_le, not_or, not_and, Classical.not_not] at h110
            refine T_skip (nextK6 (kf := [(13, 15), (104, 116)]) (kl := [(13, 15), (103, 116)]) ps104 (some p) out q A c (by repeat (first | exact kf_nil | (apply kf_in; focus rfl) | (apply kf_out; focus rfl))) (by repeat (first | exact kl_nil | exact kl_rest (by assumption) rfl | (apply kl_in; focus rfl) | (apply kl_out; focus rfl))) ?_ ?_ ?_ ?_)
            · have := hpm.length_eq; simp at this; omega
            · have := hpm.length_eq
              simp at this
              obtain ⟨D, d1, d2, d3⟩ := hr1
              exact ⟨⟨D ++ [p], d1.trans (by rw [List.append_assoc]; exact List.Perm.append_left D hpm), by rw [List.filter_append, List.map_append, d2, List.filter_cons, if_neg (by simp [posB]; omega)]; simp, by simp; omega⟩, hr2, by omega⟩
            · exact ⟨rfl, trivial⟩
            · exact ⟨rfl, rfl, trivial⟩
        · skip
          have hq0 : e104 = none := by simpa using h105
          have hr0 := hn104 hq0
          refine T_exit_go (fun _ _ h => h) ?_
          refine T_seq ?_
          refine T_region ?_
          refine S_ 117 rfl rfl rfl _ (y_move rfl rfl) ?_
          refine S_callM 118 [(0, 13)] (X := List SShare) rfl rfl rfl rfl rfl rfl rfl cf170 rfl (fun _ => .tuple #[]) (fun l => l = out.mergeSort le) (fun l => [(0, .own 140 2 (.slice A q c) q (l.flatMap SShare.enc))]) (fun _ => rfl) (fun _ => rfl) (fun K1 hK1 w hM => hS hK1 A q c out w hr2 (by omega) hM) ?_
          intro sl hsl
          refine S_go (fun _ _ h => h) ?_
          refine T_seq ?_
          refine T_region ?_
          refine S_ 119 rfl rfl rfl _ (y_move rfl rfl) ?_
          refine S_ 2 rfl rfl rfl _ (y_assign rfl rfl) ?_
          refine S_ 3 rfl rfl rfl _ (y_assign rfl rfl) ?_
          refine S_go (fun _ _ h => h) ?_
          refine T_ret (fun a w hF hM => hRb a w (post2 rfl rfl rfl (fun w hM => ?_) a w hF hM))
          have hln : sl.length = q := by rw [hsl, List.length_mergeSort, hr2]
          have e9 : shIt A c sl = .own 140 2 (.slice A q c) q (sl.flatMap SShare.enc) := by unfold shIt; rw [hln]
          refine ⟨(sl, A, c), by rw [h19]; show _ = Ending.returned (.tuple #[.slice A sl.length c, .int .i64 0]); rw [hln], ?_, ?_⟩
          · obtain ⟨D, d1, d2, d3⟩ := hr1
            unfold ShOk
            rw [if_neg (by simp [h19])]
            rw [hr0, List.append_nil] at d1
            have hj : t.ca.l.take j = t.ca.l := List.take_of_length_le (by have := hct.len; omega)
            rw [hj] at hp3
            exact ⟨M, D, by rw [← hp3]; exact hp2, hp4, d1, by rw [hsl, d2], by omega⟩
          · show Mem w0 ([(13, shIt A c sl)] ++ K) w
            rw [e9]
            exact hM.keep (ks := [(0, 999)]) (by repeat (first | exact kl_rest (by assumption) rfl | (apply kl_in; focus rfl))) _ ⟨rfl, trivial⟩
end Go.Proofs.YtkkngcdikbhkjaaGreatDoor
end
section
namespace Go.Proofs.YtkkngcdikbhkjaaGreatDoor
set_option linter.unusedSimpArgs false
set_option linter.unusedVariables false
set_option maxRecDepth 20000
open Go.RowKit Go.Eng
def sumS : List SShare → Int
  | [] => 0
  | s :: r => s.n + sumS r
theorem sumS_perm {a b : List SShare} (h : a.Perm b) : sumS a = sumS b := by
  induction h with
  | nil => rfl
  | cons x _ ih => simp only [sumS, ih]
  | swap x y l => simp only [sumS]; omega
  | trans _ _ h1 h2 => exact h1.trans h2
theorem sumM_perm {a b : List (Nm × Int)} (h : a.Perm b) : sumM a = sumM b := by
  induction h with
  | nil => rfl
  | cons x _ ih => simp only [sumM, ih]
  | swap x y l => simp only [sumM]; omega
  | trans _ _ h1 h2 => exact h1.trans h2
theorem sum_pos : ∀ D : List (Nm × Int), (∀ p ∈ D, 0 ≤ p.2) → sumS ((D.filter posB).map mkS) = sumM D
  | [], _ => rfl
  | p :: r, h => by
    have ih := sum_pos r fun q hq => h q (List.mem_cons_of_mem _ hq)
    have hp := h p List.mem_cons_self
    rw [List.filter_cons]
    by_cases hb : posB p = true
    · rw [if_pos hb, List.map_cons, sumS, ih]; rfl
    · rw [if_neg hb, ih, sumM]
      have : ¬ 0 < p.2 := by simpa [posB] using hb
      omega
theorem ShOk.sum {le : SShare → SShare → Bool} {t : Tab} {l : List SShare} (h0 : tabNo t = 0) (h : ShOk le t l) : (∀ s ∈ l, 1 ≤ s.n) ∧ sumS l = lenF t.fu.l ∧ l.length ≤ 10000 := by
  unfold ShOk at h
  rw [if_neg (by simp [h0])] at h
  obtain ⟨M, D, h1, h2, h3, h4, h5⟩ := h
  have hp : l.Perm ((D.filter posB).map mkS) := by rw [h4]; exact List.mergeSort_perm _ _
  refine ⟨fun s hs => ?_, ?_, ?_⟩
  · obtain ⟨p, hp1, rfl⟩ := List.mem_map.1 (hp.mem_iff.1 hs)
    have := (List.mem_filter.1 hp1).2
    have : 0 < p.2 := by simpa [posB] using this
    show 1 ≤ p.2
    omega
  · rw [sumS_perm hp, sum_pos D (fun p hq => h1.pos p (h3.mem_iff.2 hq)), ← sumM_perm h3, h2]
  · rw [hp.length_eq, List.length_map]
    have := List.length_filter_le posB D
    have := h3.length_eq
    omega
/-! ### How deep an offset lies in calls -/
theorem goPlaces_cnt {x : Int} {files : List (List UInt8)} : ∀ (l : List SCall) (file : List UInt8) (line : Int) (out : List SPlace), (goPlaces x files l file line out).1.length = out.length + l.countP (SCall.has x)
  | [], _, _, out => by simp [goPlaces]
  | c :: r, file, line, out => by
    simp only [goPlaces]
    by_cases h : c.has x = true
    · rw [if_pos h, goPlaces_cnt r, List.countP_cons, if_pos h]; simp; omega
    · rw [if_neg h, goPlaces_cnt r, List.countP_cons, if_neg h]; simp
theorem nest_cnt {c : SCall} {x : Int} (h1 : c.fr ≤ x) (h2 : x < c.tu) : ∀ (l : List SCall) (deep : Int), nestNo c l deep = 0 → (l.countP (SCall.has x) : Int) + deep < 10
  | [], deep, h => by
    unfold nestNo at h
    split at h
    · cases h
    · simp; omega
  | b :: r, deep, h => by
    unfold nestNo at h
    rw [List.countP_cons]
    split at h
    · rename_i hb
      have hb' : b.tu ≤ c.fr ∨ c.tu ≤ b.fr := by simpa [apartB] using hb
      rw [if_neg (by simp [SCall.has]; omega)]
      have := nest_cnt h1 h2 r deep h
      omega
    split at h
    · cases h
    · have := nest_cnt h1 h2 r (deep + 1) h
      split <;> omega
theorem calls_deep {x : Int} : ∀ (r : List SCall), (∀ (i : Nat) (c : SCall), r.reverse[i]? = some c → nestNo c (r.reverse.take i) 0 = 0) → r.countP (SCall.has x) ≤ 10
  | [], _ => by simp
  | c :: r, h => by
    rw [List.countP_cons]
    by_cases hc : c.has x = true
    · rw [if_pos hc]
      have hn := h r.length c (by simp)
      have ht : (c :: r).reverse.take r.length = r.reverse := by simp
      rw [ht] at hn
      have hx : c.fr ≤ x ∧ x < c.tu := by simpa [SCall.has] using hc
      have := nest_cnt hx.1 hx.2 r.reverse 0 hn
      rw [List.countP_reverse] at this
      omega
    · rw [if_neg hc]
      refine calls_deep r fun i d hd => ?_
      have hi := (List.getElem?_eq_some_iff.1 hd).1
      have h1 := h i d (by rw [List.reverse_cons, List.getElem?_append_left hi]; exact hd)
      rw [List.reverse_cons, List.take_append_of_le_length (by omega)] at h1
      exact h1
theorem atOut_last {t : Tab} {x : Int} {n : Nat} {fn : SFunc} (h0 : tabNo t = 0) (hn : findI (SFunc.has x) t.fu.l 0 = n) (hfn : t.fu.l[n]? = some fn) : ∃ (q : List SPlace) (p : SPlace), atOut t x = q ++ [p] ∧ p.fn = fn.name ∧ q.length ≤ 10 := by
  have hall := calls_right _ _ _ (tab_calls h0)
  refine ⟨_, _, by unfold atOut; simp only [hn]; rw [if_neg (by omega)], ?_, ?_⟩
  · simp [List.getD, hfn]
  · rw [goPlaces_cnt, List.length_nil, Nat.zero_add]
    exact calls_deep _ fun i c hc => by
      rw [List.reverse_reverse] at hc ⊢
      exact (call_nest (hall i c hc).2.2).2
end Go.Proofs.YtkkngcdikbhkjaaGreatDoor
end
section
namespace Go.Proofs.YtkkngcdikbhkjaaGreatDoor
set_option linter.unusedSimpArgs false
set_option linter.unusedVariables false
set_option maxRecDepth 20000
open Go.RowKit Go.Eng
/-! ### Lists with the same members -/
theorem perm_mem {α : Type} : ∀ {a b : List α}, a.Nodup → b.Nodup → (∀ x, x ∈ a ↔ x ∈ b) → a.Perm b
  | [], b, _, _, h => by
    cases b with
    | nil => exact List.Perm.refl _
    | cons y r => exact absurd ((h y).2 List.mem_cons_self) (by simp)
  | x :: r, b, ha, hb, h => by
    obtain ⟨s, t, rfl⟩ := List.append_of_mem ((h x).1 List.mem_cons_self)
    rw [List.nodup_cons] at ha
    have hp : (s ++ x :: t).Perm (x :: (s ++ t)) := List.perm_middle
    have hb' : (x :: (s ++ t)).Nodup := hp.nodup_iff.1 hb
    rw [List.nodup_cons] at hb'
    refine List.Perm.trans (List.Perm.cons x (perm_mem ha.2 hb'.2 fun y => ?_)) hp.symm
    have h1 := h y
    rw [hp.mem_iff, List.mem_cons, List.mem_cons] at h1
    constructor
    · intro hy
      rcases h1.1 (.inr hy) with e | e
      · subst e; exact absurd hy ha.1
      · exact e
    · intro hy
      rcases h1.2 (.inr hy) with e | e
      · subst e; exact absurd hy hb'.1
      · exact e
theorem sorted_mem {α : Type} {lt : α → α → Prop} (irr : ∀ x, ¬ lt x x) (tr : ∀ x y z, lt x y → lt y z → lt x z) : ∀ {a b : List α}, a.Pairwise lt → b.Pairwise lt → (∀ x, x ∈ a ↔ x ∈ b) → a = b
  | [], b, _, _, h => by
    cases b with
    | nil => rfl
    | cons y r => exact absurd ((h y).2 List.mem_cons_self) (by simp)
  | x :: r, b, ha, hb, h => by
    cases b with
    | nil => exact absurd ((h x).1 List.mem_cons_self) (by simp)
    | cons y s =>
      rw [List.pairwise_cons] at ha hb
      have e : x = y := by
        rcases List.mem_cons.1 ((h x).1 List.mem_cons_self) with e | e
        · exact e
        rcases List.mem_cons.1 ((h y).2 List.mem_cons_self) with e2 | e2
        · exact e2.symm
        · exact absurd (tr _ _ _ (hb.1 x e) (ha.1 y e2)) (irr _)
      subst e
      congr 1
      refine sorted_mem irr tr ha.2 hb.2 fun z => ?_
      constructor
      · intro hz
        rcases List.mem_cons.1 ((h z).1 (List.mem_cons_of_mem _ hz)) with e | e
        · subst e; exact absurd (ha.1 _ hz) (irr _)
        · exact e
      · intro hz
        rcases List.mem_cons.1 ((h z).2 (List.mem_cons_of_mem _ hz)) with e | e
        · subst e; exact absurd (hb.1 _ hz) (irr _)
        · exact e
/-! ### Who owns an offset -/
def ownr (t : Tab) : Int → Option Nm := layC t.ca.l (layF t.fu.l fun _ => none)
theorem layC_rev (f : Int → Option Nm) (x : Int) : ∀ l : List SCall, layC l.reverse f x = match l.find? (SCall.has x) with | some c => some c.name | none => f x
  | [] => rfl
  | c :: r => by
    rw [List.reverse_cons, layC_app, upd, List.find?_cons]
    by_cases h : c.has x = true
    · have h' : c.fr ≤ x ∧ x < c.tu := by simpa [SCall.has] using h
      rw [if_pos h', h]
    · have h' : ¬ (c.fr ≤ x ∧ x < c.tu) := fun hh => h (by simpa [SCall.has] using hh)
      have h2 : c.has x = false := by simpa using h
      rw [if_neg h', h2, layC_rev f x r]
theorem goPlaces_pre {x : Int} {files : List (List UInt8)} : ∀ (l : List SCall) (file : List UInt8) (line : Int) (out : List SPlace), ∃ q, (goPlaces x files l file line out).1 = out ++ q
  | [], _, _, out => ⟨[], by simp [goPlaces]⟩
  | c :: r, file, line, out => by
    rw [goPlaces]
    split
    · obtain ⟨q, hq⟩ := goPlaces_pre r (files.getD c.fi.toNat []) c.ln (out ++ [⟨c.name, file, line⟩])
      exact ⟨⟨c.name, file, line⟩ :: q, by rw [hq]; simp⟩
    · exact goPlaces_pre r file line out
theorem goPlaces_head {x : Int} {files : List (List UInt8)} : ∀ (l : List SCall) (file : List UInt8) (line : Int), ((goPlaces x files l file line []).1.head?.map SPlace.fn) = (l.find? (SCall.has x)).map SCall.name
  | [], _, _ => rfl
  | c :: r, file, line => by
    rw [goPlaces, List.find?_cons]
    by_cases h : c.has x = true
    · rw [if_pos h, h]
      obtain ⟨q, hq⟩ := goPlaces_pre (x := x) (files := files) r (files.getD c.fi.toNat []) c.ln ([] ++ [⟨c.name, file, line⟩])
      rw [hq]; rfl
    · have h2 : c.has x = false := by simpa using h
      rw [if_neg h, h2]; exact goPlaces_head r file line
theorem layF_out {x : Int} : ∀ (l : List SFunc) (f : Int → Option Nm), (∀ g ∈ l, ¬ (g.fr ≤ x ∧ x < g.tu)) → layF l f x = f x
  | [], _, _ => rfl
  | g :: r, f, h => by
    rw [layF, layF_out r _ fun a ha => h a (List.mem_cons_of_mem _ ha), upd, if_neg (h g List.mem_cons_self)]
theorem layC_out {x : Int} : ∀ (l : List SCall) (f : Int → Option Nm), (∀ g ∈ l, ¬ (g.fr ≤ x ∧ x < g.tu)) → layC l f x = f x
  | [], _, _ => rfl
  | g :: r, f, h => by
    rw [layC, layC_out r _ fun a ha => h a (List.mem_cons_of_mem _ ha), upd, if_neg (h g List.mem_cons_self)]
theorem findI_none {α : Type} {p : α → Bool} : ∀ (l : List α) (i : Int), 0 ≤ i → findI p l i < 0 → ∀ a ∈ l, p a = false
  | [], _, _, _ => fun a h => by cases h
  | b :: r, i, hi, h => by
    intro a ha
    cases hb : p b with
    | true => rw [findI_t hb] at h; omega
    | false =>
      rw [findI_f hb] at h
      rcases List.mem_cons.1 ha with rfl | ha
      · exact hb
      · exact findI_none r (i + 1) (by omega) h a ha
theorem calls_in {t : Tab} (h0 : tabNo t = 0) : ∀ c ∈ t.ca.l, (0 ≤ c.fr ∧ c.fr < c.tu ∧ c.tu ≤ t.size) ∧ ∃ g ∈ t.fu.l, g.fr ≤ c.fr ∧ c.tu ≤ g.tu := by
  intro c hc
  obtain ⟨i, hi, he⟩ := List.mem_iff_getElem.1 hc
  obtain ⟨_, hb, hn⟩ := calls_right _ _ _ (tab_calls h0) i c (by rw [← he]; exact List.getElem?_eq_getElem hi)
  refine ⟨call_span hb, ?_⟩
  obtain ⟨hany, _⟩ := call_nest hn
  obtain ⟨g, hg, hh⟩ := List.any_eq_true.1 hany
  exact ⟨g, hg, by simpa [SFunc.holds] using hh⟩
theorem ownr_at {t : Tab} (h0 : tabNo t = 0) (x : Int) : (atOut t x).head?.map SPlace.fn = ownr t x := by
  have hrev := layC_rev (layF t.fu.l fun _ => none) x t.ca.l.reverse
  rw [List.reverse_reverse] at hrev
  unfold ownr
  rw [hrev]
  have hh := goPlaces_head (x := x) (files := t.fi.l) t.ca.l.reverse (lineFile t.fi.l (atRow x t.ro.l none)) (lineLine (atRow x t.ro.l none))
  by_cases hn : findI (SFunc.has x) t.fu.l 0 < 0
  · have hno := findI_none t.fu.l 0 (Int.le_refl _) hn
    have e1 : atOut t x = [] := by rw [atOut]; exact if_pos hn
    have e2 : t.ca.l.reverse.find? (SCall.has x) = none := by
      rw [List.find?_eq_none]
      intro c hc hcx
      obtain ⟨_, g, hg, h1, h2⟩ := calls_in h0 c (List.mem_reverse.1 hc)
      have hcx' : c.fr ≤ x ∧ x < c.tu := by simpa [SCall.has] using hcx
      have := hno g hg
      simp only [SFunc.has, Bool.and_eq_false_iff, decide_eq_false_iff_not] at this
      omega
    rw [e1, e2]
    show none = layF t.fu.l (fun _ => none) x
    rw [layF_out]
    intro g hg hgx
    have := hno g hg
    simp only [SFunc.has, Bool.and_eq_false_iff, decide_eq_false_iff_not] at this
    omega
  · obtain ⟨n, fn, hfi, hfn, hfh⟩ := findI_at (p := SFunc.has x) t.fu.l 0 (Int.le_refl _) (by omega)
    have hfh' : fn.fr ≤ x ∧ x < fn.tu := by simpa [SFunc.has] using hfh
    have hlf := layF_at t.fu.l 0 (fun _ => none) x fn (funcs_of h0) (mem_at hfn) hfh'.1 hfh'.2
    unfold atOut
    simp only [if_neg hn]
    rw [List.head?_append]
    cases hp : (goPlaces x t.fi.l t.ca.l.reverse (lineFile t.fi.l (atRow x t.ro.l none)) (lineLine (atRow x t.ro.l none)) []).1.head? with
    | some p =>
      rw [hp] at hh
      cases hq : t.ca.l.reverse.find? (SCall.has x) with
      | some c => rw [hq] at hh; simpa using hh
      | none => rw [hq] at hh; cases hh
    | none =>
      rw [hp] at hh
      cases hq : t.ca.l.reverse.find? (SCall.has x) with
      | some c => rw [hq] at hh; cases hh
      | none =>
        show some (t.fu.l.getD (findI (SFunc.has x) t.fu.l 0).toNat ⟨[], 0, 0⟩).name = layF t.fu.l (fun _ => none) x
        rw [hlf, hfi, show (0 + (n : Int)).toNat = n by omega, List.getD, hfn]; rfl
/-! ### Edges -/
def edgeF (g : SFunc) : List Int := [g.fr, g.tu]
def edgeC (g : SCall) : List Int := [g.fr, g.tu]
def edges (t : Tab) : List Int := t.fu.l.flatMap edgeF ++ t.ca.l.flatMap edgeC
theorem upd_const {f : Int → Option Nm} {a b x y : Int} {nm : Nm} (h : f x = f y) (ha : a ≤ x ↔ a ≤ y) (hb : b ≤ x ↔ b ≤ y) : upd f a b nm x = upd f a b nm y := by
  unfold upd
  by_cases h1 : a ≤ x ∧ x < b
  · rw [if_pos h1, if_pos (by omega)]
  · rw [if_neg h1, if_neg (by omega), h]
theorem layF_const {x y : Int} : ∀ (l : List SFunc) (f : Int → Option Nm), f x = f y → (∀ g ∈ l, (g.fr ≤ x ↔ g.fr ≤ y) ∧ (g.tu ≤ x ↔ g.tu ≤ y)) → layF l f x = layF l f y
  | [], _, h, _ => h
  | g :: r, f, h, hl => layF_const r _ (upd_const h (hl g List.mem_cons_self).1 (hl g List.mem_cons_self).2) fun a ha => hl a (List.mem_cons_of_mem _ ha)
theorem layC_const {x y : Int} : ∀ (l : List SCall) (f : Int → Option Nm), f x = f y → (∀ g ∈ l, (g.fr ≤ x ↔ g.fr ≤ y) ∧ (g.tu ≤ x ↔ g.tu ≤ y)) → layC l f x = layC l f y
  | [], _, h, _ => h
  | g :: r, f, h, hl => layC_const r _ (upd_const h (hl g List.mem_cons_self).1 (hl g List.mem_cons_self).2) fun a ha => hl a (List.mem_cons_of_mem _ ha)
theorem edge_F {t : Tab} {g : SFunc} (h : g ∈ t.fu.l) : g.fr ∈ edges t ∧ g.tu ∈ edges t :=
  ⟨List.mem_append_left _ (List.mem_flatMap.2 ⟨g, h, by simp [edgeF]⟩), List.mem_append_left _ (List.mem_flatMap.2 ⟨g, h, by simp [edgeF]⟩)⟩
theorem edge_C {t : Tab} {g : SCall} (h : g ∈ t.ca.l) : g.fr ∈ edges t ∧ g.tu ∈ edges t :=
  ⟨List.mem_append_right _ (List.mem_flatMap.2 ⟨g, h, by simp [edgeC]⟩), List.mem_append_right _ (List.mem_flatMap.2 ⟨g, h, by simp [edgeC]⟩)⟩
theorem ownr_const {t : Tab} {x y : Int} (h : ∀ e ∈ edges t, e ≤ x ↔ e ≤ y) : ownr t x = ownr t y :=
  layC_const _ _ (layF_const _ _ rfl fun g hg => ⟨h _ (edge_F hg).1, h _ (edge_F hg).2⟩) fun g hg => ⟨h _ (edge_C hg).1, h _ (edge_C hg).2⟩
theorem ownr_low {t : Tab} {x : Int} (h : ∀ e ∈ edges t, x < e) : ownr t x = none := by
  unfold ownr
  rw [layC_out _ _ fun g hg => by have := h _ (edge_C hg).1; omega, layF_out _ _ fun g hg => by have := h _ (edge_F hg).1; omega]
theorem ownr_high {t : Tab} {x : Int} (h : ∀ e ∈ edges t, e ≤ x) : ownr t x = none := by
  unfold ownr
  rw [layC_out _ _ fun g hg => by have := h _ (edge_C hg).2; omega, layF_out _ _ fun g hg => by have := h _ (edge_F hg).2; omega]
theorem funcs_in {size : Int} : ∀ (l : List SFunc) (last : Int), funcsNo size l last = 0 → ∀ g ∈ l, 0 ≤ g.fr ∧ g.fr < g.tu ∧ g.tu ≤ size
  | [], _, _ => fun g h => by cases h
  | a :: r, last, h => by
    obtain ⟨h1, _, h3⟩ := func_step h
    intro g hg
    rcases List.mem_cons.1 hg with rfl | hg
    · exact h1
    · exact funcs_in r _ h3 g hg
theorem edges_in {t : Tab} (h0 : tabNo t = 0) : ∀ e ∈ edges t, 0 ≤ e ∧ e ≤ t.size := by
  intro e he
  rcases List.mem_append.1 he with h | h
  · obtain ⟨g, hg, h1⟩ := List.mem_flatMap.1 h
    have := funcs_in _ _ (funcs_of h0) g hg
    simp only [edgeF, List.mem_cons, List.not_mem_nil, or_false] at h1
    rcases h1 with rfl | rfl <;> omega
  · obtain ⟨g, hg, h1⟩ := List.mem_flatMap.1 h
    have := (calls_in h0 g hg).1
    simp only [edgeC, List.mem_cons, List.not_mem_nil, or_false] at h1
    rcases h1 with rfl | rfl <;> omega
theorem edges_len (t : Tab) : (edges t).length = 2 * t.fu.l.length + 2 * t.ca.l.length := by
  have h1 : ∀ l : List SFunc, (l.flatMap edgeF).length = 2 * l.length := fun l => by
    induction l with
    | nil => rfl
    | cons a r ih => rw [List.flatMap_cons, List.length_append, ih, List.length_cons]; simp [edgeF]; omega
  have h2 : ∀ l : List SCall, (l.flatMap edgeC).length = 2 * l.length := fun l => by
    induction l with
    | nil => rfl
    | cons a r ih => rw [List.flatMap_cons, List.length_append, ih, List.length_cons]; simp [edgeC]; omega
  rw [edges, List.length_append, h1, h2]
/-! ### What the reference's map comes to -/
theorem cnt_const {f : Int → Option Nm} {o : Option Nm} (s : Nm) : ∀ (k a : Nat), (∀ x : Int, (a : Int) ≤ x → x < (a + k : Nat) → f x = o) → cnt f s (a + k) = cnt f s a + if o = some s then (k : Int) else 0
  | 0, a, _ => by simp
  | k + 1, a, h => by
    rw [show a + (k + 1) = (a + k) + 1 from rfl, cnt, cnt_const s k a fun x h1 h2 => h x h1 (by omega), h ((a + k : Nat) : Int) (by omega) (by omega)]
    split <;> omega
/-- M tells of all offsets below n, with nothing that is not positive -/
structure EdgeOk (f : Int → Option Nm) (n : Nat) (M : List (Nm × Int)) : Prop where
  map : MapOk n f M
  pos : ∀ p ∈ M, 0 < p.2
theorem put_mem (s : Nm) (v : Int) : ∀ (l : List (Nm × Int)) (p : Nm × Int), p ∈ pi' l s v → p ∈ l ∨ p = (s, v)
  | [], p, h => by simp only [pi', List.mem_singleton] at h; exact .inr h
  | q :: r, p, h => by
    unfold pi' at h
    split at h
    · rename_i hq
      rcases List.mem_cons.1 h with h | h
      · exact .inr (by rw [h, hq])
      · exact .inl (List.mem_cons_of_mem _ h)
    · rcases List.mem_cons.1 h with h | h
      · exact .inl (by rw [h]; exact List.mem_cons_self)
      · rcases put_mem s v r p h with h | h
        · exact .inl (List.mem_cons_of_mem _ h)
        · exact .inr h
theorem EdgeOk.add {f : Int → Option Nm} {M : List (Nm × Int)} {a b : Int} {nm : Nm} (h : EdgeOk f a.toNat M) (h0 : 0 ≤ a) (hab : a < b) (hf : ∀ x, a ≤ x → x < b → f x = some nm) : EdgeOk f b.toNat (pi' M nm (gi M nm + (b - a))) := by
  have hk := fun s => cnt_const (f := f) (o := some nm) s (b.toNat - a.toNat) a.toNat fun x h1 h2 => hf x (by omega) (by omega)
  rw [show a.toNat + (b.toNat - a.toNat) = b.toNat by omega] at hk
  have hg := h.map.get nm
  have hc := cnt_le f nm a.toNat
  refine ⟨⟨fun s => ?_, (keys_put _ _ _ h.map.keys).1⟩, fun p hp => ?_⟩
  · rw [gi_put, hk s]
    split
    · rename_i e; subst e; rw [if_pos rfl, h.map.get]; omega
    · rename_i e; rw [if_neg (by simpa using e), h.map.get]; omega
  · rcases put_mem _ _ _ p hp with hp | rfl
    · exact h.pos p hp
    · show 0 < gi M nm + (b - a)
      omega
theorem EdgeOk.skip {f : Int → Option Nm} {M : List (Nm × Int)} {a b : Int} (h : EdgeOk f a.toNat M) (h0 : 0 ≤ a) (hab : a ≤ b) (hf : ∀ x, a ≤ x → x < b → f x = none) : EdgeOk f b.toNat M := by
  refine ⟨⟨fun s => ?_, h.map.keys⟩, h.pos⟩
  have hk := cnt_const (f := f) (o := none) s (b.toNat - a.toNat) a.toNat fun x h1 h2 => hf x (by omega) (by omega)
  rw [show a.toNat + (b.toNat - a.toNat) = b.toNat by omega] at hk
  rw [hk, h.map.get, if_neg (by simp)]; omega
theorem EdgeOk.nil {f : Int → Option Nm} : EdgeOk f 0 [] := ⟨⟨fun s => rfl, by simp⟩, fun p h => by cases h⟩
/-- between neighbouring edges one offset tells of all -/
theorem ownr_step {t : Tab} {E : List Int} (hs : E.Pairwise (· < ·)) (hm : ∀ e, e ∈ E ↔ e ∈ edges t) {i : Nat} {a b : Int} (ha : E[i]? = some a) (hb : E[i + 1]? = some b) : a < b ∧ ∀ x, a ≤ x → x < b → ownr t x = ownr t a := by
  have hil := (List.getElem?_eq_some_iff.1 hb).1
  have ea : E[i]'(by omega) = a := (List.getElem?_eq_some_iff.1 ha).2
  have eb : E[i + 1] = b := (List.getElem?_eq_some_iff.1 hb).2
  rw [List.pairwise_iff_getElem] at hs
  refine ⟨by have := hs i (i + 1) (by omega) hil (by omega); omega, fun x h1 h2 => ownr_const fun e he => ?_⟩
  obtain ⟨j, hj, hje⟩ := List.mem_iff_getElem.1 ((hm e).2 he)
  constructor
  · intro hex
    by_cases hji : j ≤ i
    · by_cases hj2 : j = i
      · subst hj2; omega
      · have := hs j i hj (by omega) (by omega); omega
    · by_cases hj2 : j = i + 1
      · subst hj2; omega
      · have := hs (i + 1) j hil hj (by omega); omega
  · intro; omega
theorem ownr_first {t : Tab} {E : List Int} (hs : E.Pairwise (· < ·)) (hm : ∀ e, e ∈ E ↔ e ∈ edges t) {a : Int} (ha : E[0]? = some a) : ∀ x, x < a → ownr t x = none := by
  intro x hx
  refine ownr_low fun e he => ?_
  obtain ⟨j, hj, hje⟩ := List.mem_iff_getElem.1 ((hm e).2 he)
  have ea : E[0]'(by omega) = a := (List.getElem?_eq_some_iff.1 ha).2
  rw [List.pairwise_iff_getElem] at hs
  by_cases hj0 : j = 0
  · subst hj0; omega
  · have := hs 0 j (by omega) hj (by omega); omega
theorem ownr_last {t : Tab} {E : List Int} (hs : E.Pairwise (· < ·)) (hm : ∀ e, e ∈ E ↔ e ∈ edges t) {a : Int} (ha : E[E.length - 1]? = some a) : ∀ x, a ≤ x → ownr t x = none := by
  intro x hx
  refine ownr_high fun e he => ?_
  obtain ⟨j, hj, hje⟩ := List.mem_iff_getElem.1 ((hm e).2 he)
  have ea : E[E.length - 1]'(by omega) = a := (List.getElem?_eq_some_iff.1 ha).2
  rw [List.pairwise_iff_getElem] at hs
  by_cases hj0 : j = E.length - 1
  · subst hj0; omega
  · have := hs j (E.length - 1) hj (by omega) (by omega); omega
theorem gi_pos_mem : ∀ (l : List (Nm × Int)) (s : Nm), gi l s ≠ 0 → (s, gi l s) ∈ l
  | [], s, h => absurd rfl h
  | p :: r, s, h => by
    unfold gi at h ⊢
    split
    · rename_i e; subst e; exact List.mem_cons_self
    · rename_i e; rw [if_neg e] at h; exact List.mem_cons_of_mem _ (gi_pos_mem r s h)
theorem nodup_keys {l : List (Nm × Int)} (h : (l.map Prod.fst).Nodup) : l.Nodup := List.Pairwise.of_map _ (fun a b h e => h (by rw [e])) h
theorem maps_perm {f : Int → Option Nm} {n : Nat} {M1 M2 : List (Nm × Int)} (h1 : MapOk n f M1) (h2 : EdgeOk f n M2) : (M1.filter posB).Perm M2 := by
  refine perm_mem ((nodup_keys h1.keys).filter _) (nodup_keys h2.map.keys) fun p => ?_
  rw [List.mem_filter]
  constructor
  · rintro ⟨hp, hb⟩
    have hb' : 0 < p.2 := by simpa [posB] using hb
    have e := gi_mem M1 h1.keys p hp
    rw [h1.get, ← h2.map.get] at e
    have := gi_pos_mem M2 p.1 (by omega)
    rw [e] at this; exact this
  · intro hp
    have hb' := h2.pos p hp
    have e := gi_mem M2 h2.map.keys p hp
    rw [h2.map.get, ← h1.get] at e
    have := gi_pos_mem M1 p.1 (by omega)
    rw [e] at this
    exact ⟨this, by simpa [posB] using hb'⟩
/-! ### How tables differ -/
def szM : List SFunc → List (Nm × Int) → List (Nm × Int)
  | [], M => M
  | g :: r, M => szM r (pi' M g.name (gi M g.name + (g.tu - g.fr)))
theorem keys_put_mem (s : Nm) (v : Int) : ∀ (l : List (Nm × Int)) (k : Nm), k ∈ (pi' l s v).map Prod.fst ↔ k = s ∨ k ∈ l.map Prod.fst
  | [], k => by simp [pi']
  | p :: r, k => by
    unfold pi'
    split
    · rename_i h; subst h; simp
    · simp only [List.map_cons, List.mem_cons, keys_put_mem s v r k]
      constructor
      · rintro (h | h | h)
        · exact .inr (.inl h)
        · exact .inl h
        · exact .inr (.inr h)
      · rintro (h | h | h)
        · exact .inr (.inl h)
        · exact .inl h
        · exact .inr (.inr h)
theorem szM_keys : ∀ (l : List SFunc) (M : List (Nm × Int)) (k : Nm), k ∈ (szM l M).map Prod.fst ↔ k ∈ l.map SFunc.name ∨ k ∈ M.map Prod.fst
  | [], M, k => by simp [szM]
  | g :: r, M, k => by
    rw [szM, szM_keys r, keys_put_mem, List.map_cons, List.mem_cons]
    constructor
    · rintro (h | h | h)
      · exact .inl (.inr h)
      · exact .inl (.inl h)
      · exact .inr h
    · rintro ((h | h) | h)
      · exact .inr (.inl h)
      · exact .inl h
      · exact .inr (.inr h)
theorem szM_len : ∀ (l : List SFunc) (M : List (Nm × Int)), (szM l M).length ≤ M.length + l.length
  | [], M => by simp [szM]
  | g :: r, M => by
    rw [szM, List.length_cons]
    have h1 := szM_len r (pi' M g.name (gi M g.name + (g.tu - g.fr)))
    have h2 := len_put g.name (gi M g.name + (g.tu - g.fr)) M
    omega
/-- what the sums stay within -/
def InB (b : Int) (M : List (Nm × Int)) : Prop := ∀ s, 0 ≤ gi M s ∧ gi M s ≤ b
theorem InB.put {b d : Int} {M : List (Nm × Int)} {s : Nm} (h : InB b M) (h0 : 0 ≤ d) : InB (b + d) (pi' M s (gi M s + d)) := fun k => by
  have h1 := h s
  have h2 := h k
  rw [gi_put]
  split <;> omega
theorem InB.mono {b c : Int} {M : List (Nm × Int)} (h : InB b M) (hbc : b ≤ c) : InB c M := fun s => ⟨(h s).1, Int.le_trans (h s).2 hbc⟩
/-! ### Made compact -/
def cptG {α : Type} [DecidableEq α] (out : List α) : List α → List α
  | [] => out
  | s :: r => if out.getLast? = some s then cptG out r else cptG (out ++ [s]) r
theorem cptG_ok {α : Type} [DecidableEq α] {lt : α → α → Prop} (tot : ∀ x y, ¬ lt x y → ¬ lt y x → x = y) (tr : ∀ x y z, lt x y → lt y z → lt x z) : ∀ (d out : List α), out.Pairwise lt → (out ++ d).Pairwise (fun x y => ¬ lt y x) → (cptG out d).Pairwise lt ∧ ∀ x, x ∈ cptG out d ↔ x ∈ out ∨ x ∈ d
  | [], out, h1, _ => ⟨h1, fun x => by simp [cptG]⟩
  | s :: r, out, h1, h2 => by
    have h2' : (out ++ [s] ++ r).Pairwise (fun x y => ¬ lt y x) := by simpa using h2
    rw [cptG]
    split
    · rename_i hl
      have hs : s ∈ out := List.mem_of_getLast? hl
      obtain ⟨a, b⟩ := cptG_ok tot tr r out h1 (by
        rw [List.append_assoc, List.pairwise_append] at h2'
        rw [List.pairwise_append]
        exact ⟨h2'.1, (List.pairwise_cons.1 h2'.2.1).2, fun x hx y hy => h2'.2.2 x hx y (List.mem_cons_of_mem _ hy)⟩)
      refine ⟨a, fun x => ?_⟩
      rw [b, List.mem_cons]
      constructor
      · rintro (h | h)
        · exact .inl h
        · exact .inr (.inr h)
      · rintro (h | rfl | h)
        · exact .inl h
        · exact .inl hs
        · exact .inr h
    · rename_i hl
      have hlt : ∀ x ∈ out, lt x s := by
        intro x hx
        rw [List.pairwise_append] at h2
        have hxs := h2.2.2 x hx s List.mem_cons_self
        refine Classical.byContradiction fun hn => ?_
        have e := tot x s hn hxs
        subst e
        obtain ⟨i, hi, he⟩ := List.mem_iff_getElem.1 hx
        by_cases hlast : i = out.length - 1
        · apply hl
          rw [List.getLast?_eq_getElem?, ← hlast, List.getElem?_eq_getElem hi, he]
        · have h3 := List.pairwise_iff_getElem.1 h1 i (out.length - 1) hi (by omega) (by omega)
          rw [he] at h3
          exact h2.2.2 _ (List.getElem_mem (by omega)) x List.mem_cons_self h3
      obtain ⟨a, b⟩ := cptG_ok tot tr r (out ++ [s]) (by
        rw [List.pairwise_append]
        exact ⟨h1, by simp, fun x hx y hy => by rw [List.mem_singleton.1 hy]; exact hlt x hx⟩) h2'
      refine ⟨a, fun x => ?_⟩
      rw [b, List.mem_append, List.mem_singleton, List.mem_cons]
      constructor
      · rintro ((h | h) | h)
        · exact .inl h
        · exact .inr (.inl h)
        · exact .inr (.inr h)
      · rintro (h | h | h)
        · exact .inl (.inl h)
        · exact .inl (.inr h)
        · exact .inr h
/-! ### What is told of two tables -/
def dif1 (x y : Int) (n : Nm) : List Nm := if x = 0 then [[43, 32] ++ n ++ [32] ++ Lib.itoa y] else if y = 0 then [[45, 32] ++ n ++ [32] ++ Lib.itoa x] else if x ≠ y then [[126, 32] ++ n ++ [32] ++ Lib.itoa x ++ [32] ++ Lib.itoa y] else []
def difL (a b : List (Nm × Int)) (ns : List Nm) : List Nm := ns.flatMap fun n => dif1 (gi a n) (gi b n) n
theorem strict_mem {α : Type} [DecidableEq α] {lt : α → α → Prop} (irr : ∀ x, ¬ lt x x) (tot : ∀ x y, ¬ lt x y → ¬ lt y x → x = y) (tr : ∀ x y z, lt x y → lt y z → lt x z) {a b : List α} (ha : a.Pairwise fun x y => ¬ lt y x) (hb : b.Pairwise fun x y => ¬ lt y x) (h : ∀ x, x ∈ a ↔ x ∈ b) : cptG [] a = cptG [] b := by
  obtain ⟨a1, a2⟩ := cptG_ok tot tr a [] List.Pairwise.nil (by simpa using ha)
  obtain ⟨b1, b2⟩ := cptG_ok tot tr b [] List.Pairwise.nil (by simpa using hb)
  refine sorted_mem irr tr a1 b1 fun x => ?_
  rw [a2, b2]
  simp [h]
end Go.Proofs.YtkkngcdikbhkjaaGreatDoor
end
section
namespace Go.Proofs.YtkkngcdikbhkjaaGreatDoor
set_option linter.unusedSimpArgs false
set_option linter.unusedVariables false
set_option maxRecDepth 20000
open Go.RowKit Go.Eng
def cmpJ (x y : Int) : Int := if x < y then -1 else if y < x then 1 else 0
def cmpB (x y : Nm) : Int := if Op.bytesLess x y = true then -1 else if x = y then 0 else 1
def cfS (x y : SShare) : Int := if cmpJ y.n x.n ≠ 0 then cmpJ y.n x.n else cmpB x.name y.name
theorem nanI_any (x : Int) (w : World) : Calls Tryz.prog 285 #[.int .i64 x] w fun e w' => e = .returned (.bool false) ∧ Below w.heap.size w w' := by
  refine enter_args (args := [.int .i64 x]) (F := _) Tryz.func285 rfl Tryz.ntmps285 rfl rfl ?_
  intro Rb hRb hRn
  refine T_seq ?_
  refine T_region ?_
  refine S_ 2 rfl rfl rfl _ (y_assign rfl rfl) ?_
  refine S_go (fun _ _ h => h) ?_
  refine T_seq ?_
  refine T_region ?_
  refine S_ 3 rfl rfl rfl _ (y_move rfl rfl) ?_
  refine S_ 4 rfl rfl rfl _ (y_move rfl rfl) ?_
  refine S_ 5 rfl rfl rfl _ (y_bin rfl rfl rfl (fun _ => b_neq)) ?_
  refine S_ 2 rfl rfl rfl _ (y_assign rfl rfl) ?_
  refine S_go (fun _ _ h => h) ?_
  refine T_ret (fun a w hF hM => hRb a w (post1 rfl rfl (fun w hM => ?_) a w hF hM))
  exact ⟨by simp, hM.below⟩
theorem nanB_any (x : Nm) (w : World) : Calls Tryz.prog 288 #[str x] w fun e w' => e = .returned (.bool false) ∧ Below w.heap.size w w' := by
  refine enter_args (args := [str x]) (F := _) Tryz.func288 rfl Tryz.ntmps288 rfl rfl ?_
  intro Rb hRb hRn
  refine T_seq ?_
  refine T_region ?_
  refine S_ 2 rfl rfl rfl _ (y_assign rfl rfl) ?_
  refine S_go (fun _ _ h => h) ?_
  refine T_seq ?_
  refine T_region ?_
  refine S_ 3 rfl rfl rfl _ (y_move rfl rfl) ?_
  refine S_ 4 rfl rfl rfl _ (y_move rfl rfl) ?_
  refine S_ 5 rfl rfl rfl _ (y_bin rfl rfl rfl (fun _ => b_neqs)) ?_
  refine S_ 2 rfl rfl rfl _ (y_assign rfl rfl) ?_
  refine S_go (fun _ _ h => h) ?_
  refine T_ret (fun a w hF hM => hRb a w (post1 rfl rfl (fun w hM => ?_) a w hF hM))
  exact ⟨by simp, hM.below⟩
theorem cmpJ_any (x y : Int) (w : World) : Calls Tryz.prog 148 #[.int .i64 x, .int .i64 y] w fun e w' => e = .returned (.int .i64 (cmpJ x y)) ∧ Below w.heap.size w w' := by
  refine enter_args (args := [.int .i64 x, .int .i64 y]) (F := _) Tryz.func148 rfl Tryz.ntmps148 rfl rfl ?_
  intro Rb hRb hRn
  refine T_seq ?_
  refine T_region ?_
  refine S_ 4 rfl rfl rfl _ (y_assign rfl rfl) ?_
  refine S_go (fun _ _ h => h) ?_
  refine T_seq ?_
  refine T_region ?_
  refine S_ 7 rfl rfl rfl _ (y_move rfl rfl) ?_
  refine S_ 8 rfl rfl rfl _ (y_call rfl rfl rfl cf285 (fun _ w _ => nanI_any _ w)) ?_
  refine S_ 5 rfl rfl rfl _ (y_assign rfl rfl) ?_
  refine S_go (fun _ _ h => h) ?_
  refine T_seq ?_
  refine T_region ?_
  refine S_ 9 rfl rfl rfl _ (y_move rfl rfl) ?_
  refine S_ 10 rfl rfl rfl _ (y_call rfl rfl rfl cf285 (fun _ w _ => nanI_any _ w)) ?_
  refine S_ 6 rfl rfl rfl _ (y_assign rfl rfl) ?_
  refine S_go (fun _ _ h => h) ?_
  refine T_seq ?_
  refine T_seq ?_
  refine T_region ?_
  refine S_ 11 rfl rfl rfl _ (y_move rfl rfl) ?_
  refine S_go (fun _ _ h => h) ?_
  refine T_cond rfl (fun h11 => ?_) (fun h11 => ?_)
  · skip
    cases h11
  · skip
    refine T_skip_go (fun _ _ h => h) ?_
    refine T_seq ?_
    refine T_seq ?_
    refine T_region ?_
    refine S_ 13 rfl rfl rfl _ (y_move rfl rfl) ?_
    refine S_go (fun _ _ h => h) ?_
    refine T_cond rfl (fun h13 => ?_) (fun h13 => ?_)
    · skip
      cases h13
    · skip
      refine T_skip_go (fun _ _ h => h) ?_
      refine T_seq ?_
      refine T_seq ?_
      refine T_region ?_
      refine S_ 14 rfl rfl rfl _ (y_move rfl rfl) ?_
      refine S_ 15 rfl rfl rfl _ (y_move rfl rfl) ?_
      refine S_ 16 rfl rfl rfl _ (y_bin rfl rfl rfl (fun _ => b_lss)) ?_
      refine S_go (fun _ _ h => h) ?_
      refine T_cond rfl (fun h16 => ?_) (fun h16 => ?_)
      · try simp only [decide_eq_true_eq, decide_eq_false_iff_not, Bool.or_eq_true, Bool.or_eq_false_iff, Bool.and_eq_true, Bool.and_eq_false_iff, Bool.not_eq_true', Bool.not_eq_false', Bool.not_eq_true, Bool.not_eq_false, Bool.not_true, Bool.not_false, Int.not_lt, Int.not_le, not_or, not_and, Classical.not_not] at h16
        refine T_seq ?_
        refine T_region ?_
        refine S_ 4 rfl rfl rfl _ (y_assign rfl rfl) ?_
        refine S_go (fun _ _ h => h) ?_
        refine T_ret (fun a w hF hM => hRb a w (post1 rfl rfl (fun w hM => ?_) a w hF hM))
        exact ⟨by rw [cmpJ, if_pos (by omega)], hM.below⟩
      · try simp only [decide_eq_true_eq, decide_eq_false_iff_not, Bool.or_eq_true, Bool.or_eq_false_iff, Bool.and_eq_true, Bool.and_eq_false_iff, Bool.not_eq_true', Bool.not_eq_false', Bool.not_eq_true, Bool.not_eq_false, Bool.not_true, Bool.not_false, Int.not_lt, Int.not_le, not_or, not_and, Classical.not_not] at h16
        refine T_skip_go (fun _ _ h => h) ?_
        refine T_seq ?_
        refine T_seq ?_
        refine T_region ?_
        refine S_ 17 rfl rfl rfl _ (y_move rfl rfl) ?_
        refine S_ 18 rfl rfl rfl _ (y_move rfl rfl) ?_
        refine S_ 19 rfl rfl rfl _ (y_bin rfl rfl rfl (fun _ => b_gtr)) ?_
        refine S_go (fun _ _ h => h) ?_
        refine T_cond rfl (fun h19 => ?_) (fun h19 => ?_)
        · try simp only [decide_eq_true_eq, decide_eq_false_iff_not, Bool.or_eq_true, Bool.or_eq_false_iff, Bool.and_eq_true, Bool.and_eq_false_iff, Bool.not_eq_true', Bool.not_eq_false', Bool.not_eq_true, Bool.not_eq_false, Bool.not_true, Bool.not_false, Int.not_lt, Int.not_le, not_or, not_and, Classical.not_not] at h19
          refine T_seq ?_
          refine T_region ?_
          refine S_ 4 rfl rfl rfl _ (y_assign rfl rfl) ?_
          refine S_go (fun _ _ h => h) ?_
          refine T_ret (fun a w hF hM => hRb a w (post1 rfl rfl (fun w hM => ?_) a w hF hM))
          exact ⟨by rw [cmpJ, if_neg (by omega), if_pos (by omega)], hM.below⟩
        · try simp only [decide_eq_true_eq, decide_eq_false_iff_not, Bool.or_eq_true, Bool.or_eq_false_iff, Bool.and_eq_true, Bool.and_eq_false_iff, Bool.not_eq_true', Bool.not_eq_false', Bool.not_eq_true, Bool.not_eq_false, Bool.not_true, Bool.not_false, Int.not_lt, Int.not_le, not_or, not_and, Classical.not_not] at h19
          refine T_skip_go (fun _ _ h => h) ?_
          refine T_seq ?_
          refine T_region ?_
          refine S_ 4 rfl rfl rfl _ (y_assign rfl rfl) ?_
          refine S_go (fun _ _ h => h) ?_
          refine T_ret (fun a w hF hM => hRb a w (post1 rfl rfl (fun w hM => ?_) a w hF hM))
          exact ⟨by rw [cmpJ, if_neg (by omega), if_neg (by omega)], hM.below⟩
theorem cmpB_any (x y : Nm) (w : World) : Calls Tryz.prog 154 #[str x, str y] w fun e w' => e = .returned (.int .i64 (cmpB x y)) ∧ Below w.heap.size w w' := by
  refine enter_args (args := [str x, str y]) (F := _) Tryz.func154 rfl Tryz.ntmps154 rfl rfl ?_
  intro Rb hRb hRn
  refine T_seq ?_
  refine T_region ?_
  refine S_ 4 rfl rfl rfl _ (y_assign rfl rfl) ?_
  refine S_go (fun _ _ h => h) ?_
  refine T_seq ?_
  refine T_region ?_
  refine S_ 7 rfl rfl rfl _ (y_move rfl rfl) ?_
  refine S_ 8 rfl rfl rfl _ (y_call rfl rfl rfl cf288 (fun _ w _ => nanB_any _ w)) ?_
  refine S_ 5 rfl rfl rfl _ (y_assign rfl rfl) ?_
  refine S_go (fun _ _ h => h) ?_
  refine T_seq ?_
  refine T_region ?_
  refine S_ 9 rfl rfl rfl _ (y_move rfl rfl) ?_
  refine S_ 10 rfl rfl rfl _ (y_call rfl rfl rfl cf288 (fun _ w _ => nanB_any _ w)) ?_
  refine S_ 6 rfl rfl rfl _ (y_assign rfl rfl) ?_
  refine S_go (fun _ _ h => h) ?_
  refine T_seq ?_
  refine T_seq ?_
  refine T_region ?_
  refine S_ 11 rfl rfl rfl _ (y_move rfl rfl) ?_
  refine S_go (fun _ _ h => h) ?_
  refine T_cond rfl (fun h11 => ?_) (fun h11 => ?_)
  · skip
    cases h11
  · skip
    refine T_skip_go (fun _ _ h => h) ?_
    refine T_seq ?_
    refine T_seq ?_
    refine T_region ?_
    refine S_ 13 rfl rfl rfl _ (y_move rfl rfl) ?_
    refine S_go (fun _ _ h => h) ?_
    refine T_cond rfl (fun h13 => ?_) (fun h13 => ?_)
    · skip
      cases h13
    · skip
      refine T_skip_go (fun _ _ h => h) ?_
      refine T_seq ?_
      refine T_seq ?_
      refine T_region ?_
      refine S_ 14 rfl rfl rfl _ (y_move rfl rfl) ?_
      refine S_ 15 rfl rfl rfl _ (y_move rfl rfl) ?_
      refine S_ 16 rfl rfl rfl _ (y_bin rfl rfl rfl (fun _ => b_lsss)) ?_
      refine S_go (fun _ _ h => h) ?_
      refine T_cond rfl (fun h16 => ?_) (fun h16 => ?_)
      · skip
        refine T_seq ?_
        refine T_region ?_
        refine S_ 4 rfl rfl rfl _ (y_assign rfl rfl) ?_
        refine S_go (fun _ _ h => h) ?_
        refine T_ret (fun a w hF hM => hRb a w (post1 rfl rfl (fun w hM => ?_) a w hF hM))
        exact ⟨by rw [cmpB, if_t h16], hM.below⟩
      · skip
        refine T_skip_go (fun _ _ h => h) ?_
        refine T_seq ?_
        refine T_seq ?_
        refine T_region ?_
        refine S_ 17 rfl rfl rfl _ (y_move rfl rfl) ?_
        refine S_ 18 rfl rfl rfl _ (y_move rfl rfl) ?_
        refine S_ 19 rfl rfl rfl _ (y_bin rfl rfl rfl (fun _ => b_gtrs)) ?_
        refine S_go (fun _ _ h => h) ?_
        refine T_cond rfl (fun h19 => ?_) (fun h19 => ?_)
        · skip
          refine T_seq ?_
          refine T_region ?_
          refine S_ 4 rfl rfl rfl _ (y_assign rfl rfl) ?_
          refine S_go (fun _ _ h => h) ?_
          refine T_ret (fun a w hF hM => hRb a w (post1 rfl rfl (fun w hM => ?_) a w hF hM))
          exact ⟨by rw [cmpB, if_f h16, if_neg (by simpa [h16] using h19)], hM.below⟩
        · skip
          refine T_skip_go (fun _ _ h => h) ?_
          refine T_seq ?_
          refine T_region ?_
          refine S_ 4 rfl rfl rfl _ (y_assign rfl rfl) ?_
          refine S_go (fun _ _ h => h) ?_
          refine T_ret (fun a w hF hM => hRb a w (post1 rfl rfl (fun w hM => ?_) a w hF hM))
          exact ⟨by rw [cmpB, if_f h16, if_pos (by simpa [h16] using h19)], hM.below⟩
def intEnc (n : Int) : List Value := [.int .i64 n]
theorem or_any (A : Option Addr) (c : Nat) (m k : Int) (w : World) (hl : SlT intEnc 1 w A 2 [m, k]) : Calls Tryz.prog 153 #[.slice A 2 c] w fun e w' => e = .returned (.int .i64 (if m ≠ 0 then m else k)) ∧ Below w.heap.size w w' := by
  refine enter_args (args := [.slice A 2 c]) (F := _) Tryz.func153 rfl Tryz.ntmps153 rfl rfl ?_
  intro Rb hRb hRn
  refine T_seq ?_
  refine T_region ?_
  refine S_ 2 rfl rfl rfl _ (y_assign rfl rfl) ?_
  refine S_go (fun _ _ h => h) ?_
  refine T_seq ?_
  refine T_region ?_
  refine S_ 3 rfl rfl rfl _ (y_assign rfl rfl) ?_
  refine S_go (fun _ _ h => h) ?_
  refine T_seq ?_
  refine T_seq ?_
  refine T_region ?_
  refine S_ 6 rfl rfl rfl _ (y_move rfl rfl) ?_
  refine S_ 7 rfl rfl rfl _ (y_len_slice rfl rfl Tryz.underlying212) ?_
  refine S_ 8 rfl rfl rfl _ (y_move rfl rfl) ?_
  refine S_go (fun _ _ h => h) ?_
  refine T_block ?_
  refine T_loopK1 (kf := [(2, 2), (5, 5), (8, 16)]) (kl := [(2, 2), (5, 5), (8, 16)]) (fun (i : Nat) => [(8, true, .int .i64 (i : Int))]) (fun (i : Nat) => []) (fun (i : Nat) => i ≤ 2 ∧ (if m ≠ 0 then m else k) = (([m, k].drop i).find? (fun x => decide (x ≠ 0))).getD 0) (fun (i : Nat) => 2 - i) 0 (by repeat (first | exact kf_nil | (apply kf_in; focus rfl) | (apply kf_out; focus rfl))) (by repeat (first | exact kl_nil | exact kl_rest (by assumption) rfl | (apply kl_in; focus rfl) | (apply kl_out; focus rfl))) ?_ ?_ ?_ ?_
  · exact ⟨by omega, by by_cases hm : m = 0 <;> by_cases hk : k = 0 <;> simp [hm, hk]⟩
  · exact ⟨rfl, trivial⟩
  · exact trivial
  rintro i ⟨hp1, hp2⟩
  refine T_seq ?_
  refine T_region ?_
  refine S_ 9 rfl rfl rfl _ (y_bin rfl rfl rfl (fun _ => b_lss)) ?_
  refine S_go (fun _ _ h => h) ?_
  refine T_seq ?_
  refine T_cond rfl (fun h9 => ?_) (fun h9 => ?_)
  · try simp only [decide_eq_true_eq, decide_eq_false_iff_not, Bool.or_eq_true, Bool.or_eq_false_iff, Bool.and_eq_true, Bool.and_eq_false_iff, Bool.not_eq_true', Bool.not_eq_false', Bool.not_eq_true, Bool.not_eq_false, Bool.not_true, Bool.not_false, Int.not_lt, Int.not_le, not_or, not_and, Classical.not_not] at h9
    obtain ⟨x, hx1, hx2⟩ := hl.at (i := i) (by omega)
    refine T_skip_go (fun _ _ h => h) ?_
    refine T_seq ?_
    refine T_block ?_
    refine T_seq ?_
    refine T_region ?_
    refine S_ 10 rfl rfl rfl _ (y_indexAddr rfl rfl rfl Tryz.underlying212 sz3 (fun hg => hl.isSome (by omega)) (fun _ => by omega)) ?_
    refine S_ 11 rfl rfl rfl _ (y_loadT1 (val := (fun n : Int => Value.int .i64 n)) rfl rfl hl (fun _ => hx1) Tryz.underlying3 rfl) ?_
    refine S_ 5 rfl rfl rfl _ (y_assign rfl rfl) ?_
    refine S_go (fun _ _ h => h) ?_
    refine T_seq ?_
    refine T_region ?_
    refine S_ 12 rfl rfl rfl _ (y_move rfl rfl) ?_
    refine S_ 13 rfl rfl rfl _ (y_move rfl rfl) ?_
    refine S_ 14 rfl rfl rfl _ (y_bin rfl rfl rfl (fun _ => b_neq)) ?_
    refine S_go (fun _ _ h => h) ?_
    refine T_cond rfl (fun h14 => ?_) (fun h14 => ?_)
    · try simp only [decide_eq_true_eq, decide_eq_false_iff_not, Bool.or_eq_true, Bool.or_eq_false_iff, Bool.and_eq_true, Bool.and_eq_false_iff, Bool.not_eq_true', Bool.not_eq_false', Bool.not_eq_true, Bool.not_eq_false, Bool.not_true, Bool.not_false, Int.not_lt, Int.not_le, not_or, not_and, Classical.not_not] at h14
      refine T_seq ?_
      refine T_region ?_
      refine S_ 15 rfl rfl rfl _ (y_move rfl rfl) ?_
      refine S_ 2 rfl rfl rfl _ (y_assign rfl rfl) ?_
      refine S_go (fun _ _ h => h) ?_
      refine T_ret (fun a w hF hM => hRb a w (post1 rfl rfl (fun w hM => ?_) a w hF hM))
      exact ⟨by rw [hp2, hx2, List.find?_cons_of_pos (by simpa using h14)]; rfl, hM.below⟩
    · try simp only [decide_eq_true_eq, decide_eq_false_iff_not, Bool.or_eq_true, Bool.or_eq_false_iff, Bool.and_eq_true, Bool.and_eq_false_iff, Bool.not_eq_true', Bool.not_eq_false', Bool.not_eq_true, Bool.not_eq_false, Bool.not_true, Bool.not_false, Int.not_lt, Int.not_le, not_or, not_and, Classical.not_not] at h14
      refine T_skip_go (fun _ _ h => h) ?_
      refine T_region ?_
      refine S_ 16 rfl rfl rfl _ (y_bin rfl rfl rfl (fun hg => b_add (by omega))) ?_
      refine S_ 8 rfl rfl rfl _ (y_move rfl rfl) ?_
      refine S_nil (nextK1 (kf := [(2, 2), (5, 5), (8, 16)]) (kl := [(2, 2), (5, 5), (8, 16)]) (i + 1) (by repeat (first | exact kf_nil | (apply kf_in; focus rfl) | (apply kf_out; focus rfl))) (by repeat (first | exact kl_nil | exact kl_rest (by assumption) rfl | (apply kl_in; focus rfl) | (apply kl_out; focus rfl))) ?_ ?_ ?_ ?_)
      · omega
      · exact ⟨by omega, by rw [hp2, hx2, List.find?_cons_of_neg (by simpa using h14)]⟩
      · exact ⟨rfl, trivial⟩
      · exact trivial
  · try simp only [decide_eq_true_eq, decide_eq_false_iff_not, Bool.or_eq_true, Bool.or_eq_false_iff, Bool.and_eq_true, Bool.and_eq_false_iff, Bool.not_eq_true', Bool.not_eq_false', Bool.not_eq_true, Bool.not_eq_false, Bool.not_true, Bool.not_false, Int.not_lt, Int.not_le, not_or, not_and, Classical.not_not] at h9
    refine T_exit_go (fun _ _ h => h) ?_
    refine T_seq ?_
    refine T_region ?_
    refine S_ 17 rfl rfl rfl _ (y_move rfl rfl) ?_
    refine S_ 2 rfl rfl rfl _ (y_assign rfl rfl) ?_
    refine S_go (fun _ _ h => h) ?_
    refine T_ret (fun a w hF hM => hRb a w (post1 rfl rfl (fun w hM => ?_) a w hF hM))
    exact ⟨by rw [hp2, hl.end (by omega)]; rfl, hM.below⟩
theorem shares2_any (a b : SShare) (w : World) : Calls Tryz.prog 171 #[.agg a.enc.toArray, .agg b.enc.toArray] w fun e w' => e = .returned (.int .i64 (cfS a b)) ∧ Below w.heap.size w w' := by
  refine enter_args (args := [.agg #[str a.name, .int .i64 a.n], .agg #[str b.name, .int .i64 b.n]]) (F := _) Tryz.func171 rfl Tryz.ntmps171 rfl rfl ?_
  intro Rb hRb hRn
  refine T_seq ?_
  refine T_region ?_
  refine S_box 2 2 rfl rfl rfl rfl rfl ?_
  intro b2
  refine S_box 3 3 rfl rfl rfl rfl rfl ?_
  intro b3
  refine S_ 4 rfl rfl rfl _ (y_assign rfl rfl) ?_
  refine S_go (fun _ _ h => h) ?_
  refine T_seq ?_
  refine T_drawsTail 10 (by kernel_rfl) (by kernel_rfl) ?_
  refine D_ 5 rfl rfl rfl _ (y_fieldAddr rfl rfl fa140_1) ?_
  refine D_ 6 rfl rfl rfl _ (y_load 3 rfl rfl rfl rfl Tryz.underlying3 rfl) ?_
  refine D_ 7 rfl rfl rfl _ (y_fieldAddr rfl rfl fa140_1) ?_
  refine D_ 8 rfl rfl rfl _ (y_load 2 rfl rfl rfl rfl Tryz.underlying3 rfl) ?_
  refine D_ 9 rfl rfl rfl _ (y_call rfl rfl rfl cf148 (fun _ w _ => cmpJ_any _ _ w)) ?_
  refine D_ 10 rfl rfl rfl _ (y_fieldAddr rfl rfl fa140_0) ?_
  refine D_ 11 rfl rfl rfl _ (y_load 2 rfl rfl rfl rfl Tryz.underlying9 rfl) ?_
  refine D_ 12 rfl rfl rfl _ (y_fieldAddr rfl rfl fa140_0) ?_
  refine D_ 13 rfl rfl rfl _ (y_load 3 rfl rfl rfl rfl Tryz.underlying9 rfl) ?_
  refine D_ 14 rfl rfl rfl _ (y_call rfl rfl rfl cf154 (fun _ w _ => cmpB_any _ _ w)) ?_
  refine D_tail ?_
  refine S_buildSlice 15 15 rfl rfl rfl rfl rfl Tryz.underlying212 inf3 rfl (by decide) (by decide) rfl rfl (by decide) rfl (_) rfl ?_
  intro b15
  refine S_ 16 rfl rfl rfl _ (y_call rfl rfl rfl cf153 (fun _ w hM => or_any _ _ (cmpJ b.n a.n) (cmpB a.name b.name) w ⟨own_reads hM (i := 15) rfl, rfl⟩)) ?_
  refine S_ 4 rfl rfl rfl _ (y_assign rfl rfl) ?_
  refine S_go (fun _ _ h => h) ?_
  refine T_ret (fun a w hF hM => hRb a w (post1 rfl rfl (fun w hM => ?_) a w hF hM))
  exact ⟨rfl, hM.below⟩
end Go.Proofs.YtkkngcdikbhkjaaGreatDoor
end
section
namespace Go.Proofs.YtkkngcdikbhkjaaGreatDoor
set_option linter.unusedSimpArgs false
set_option linter.unusedVariables false
set_option maxRecDepth 20000
open Go.RowKit Go.Eng
theorem cptG_up {α : Type} [Inhabited α] [DecidableEq α] (d : List α) : ∀ (k m : Nat), d.length - m = k → m ≤ d.length → (∀ j : Nat, m = j + 1 → (Lib.compactUpTo d.toArray m).getLast? = d[j]?) → cptG (Lib.compactUpTo d.toArray m) (d.drop m) = Lib.compactUpTo d.toArray d.length
  | 0, m, hk, hm, _ => by
    have : m = d.length := by omega
    subst this
    rw [List.drop_eq_nil_of_le (Nat.le_refl _)]; rfl
  | k + 1, m, hk, hm, hl => by
    have hlt : m < d.length := by omega
    have ex : d.toArray[m]! = d[m] := by rw [getElem!_pos _ m (by simpa using hlt)]; simp
    rw [List.drop_eq_getElem_cons hlt, cptG]
    have hs := Lib.compactUpTo_succ d.toArray m
    rw [ex] at hs
    cases m with
    | zero =>
      have h0 : Lib.compactUpTo d.toArray 0 = [] := rfl
      have hk0 : Lib.keeps d.toArray 0 = true := Lib.keeps_lt_one _ 0 (by decide)
      rw [hk0, if_pos rfl] at hs
      rw [if_neg (by rw [h0]; simp), ← hs]
      refine cptG_up d k 1 (by omega) (by omega) fun j hj => ?_
      have : j = 0 := by omega
      subst this
      rw [hs, h0]; simp [List.getElem?_eq_getElem hlt]
    | succ j =>
      have hl1 := hl j rfl
      have ej : d.toArray[j + 1 - 1]! = d[j] := by rw [Nat.add_sub_cancel, getElem!_pos _ j (by simp; omega)]; simp
      by_cases he : d[j + 1] = d[j]
      · have hkn : Lib.keeps d.toArray (j + 1) = false := Lib.keeps_neg (by omega) (by rw [ex, ej]; exact he)
        rw [hkn] at hs
        simp only [Bool.false_eq_true, if_false, List.append_nil] at hs
        rw [if_pos (by rw [hl1, List.getElem?_eq_getElem (by omega), he]), ← hs]
        refine cptG_up d k (j + 1 + 1) (by omega) (by omega) fun i hi => ?_
        have : i = j + 1 := by omega
        subst this
        rw [hs, hl1, List.getElem?_eq_getElem (by omega), List.getElem?_eq_getElem hlt, he]
      · have hkp : Lib.keeps d.toArray (j + 1) = true := Lib.keeps_pos (by rw [ex, ej]; exact he)
        rw [hkp, if_pos rfl] at hs
        rw [if_neg (by rw [hl1, List.getElem?_eq_getElem (by omega)]; exact fun h => he (Option.some.inj h).symm), ← hs]
        refine cptG_up d k (j + 1 + 1) (by omega) (by omega) fun i hi => ?_
        have : i = j + 1 := by omega
        subst this
        rw [hs, List.getLast?_concat, List.getElem?_eq_getElem hlt]
theorem cptG_eq {α : Type} [Inhabited α] [DecidableEq α] (d : List α) : cptG [] d = Lib.compact d := cptG_up d d.length 0 (by omega) (Nat.zero_le _) fun j hj => by omega
theorem cptG_len {α : Type} [DecidableEq α] : ∀ (d out : List α), (cptG out d).length ≤ out.length + d.length
  | [], out => Nat.le_refl _
  | s :: r, out => by
    rw [cptG]
    split
    · have := cptG_len r out; rw [List.length_cons]; omega
    · have := cptG_len r (out ++ [s]); rw [List.length_append, List.length_singleton] at this; rw [List.length_cons]; omega
section
variable {P : Program} {α : Type} [Inhabited α] {enc : α → Value} {f : FuncId} {srt : List α → List α} {w0 : World} {K : HL}
theorem conv0 {p p' : It} {i : Nat} {q : It} (hp : HL.get ([(0, p')] ++ K) i = some q) : HL.get ((0, p') :: ([(0, p)] ++ K)) i = some q := by
  simp only [HL.get, List.cons_append, List.nil_append] at hp ⊢
  cases hb : Nat.beq 0 i
  · rw [hb] at hp; exact hp
  · rw [hb] at hp; exact hp
theorem sort_row1 (hlenS : ∀ l, (srt l).length = l.length) (hnone : ∀ (A : Option Addr) (c : Nat) (w : World), Calls P f #[.slice A 0 c] w fun e w' => e = .returned (.tuple #[]) ∧ w' = w)
    (hsort : ∀ (b off cap : Nat) (l : List α) (w : World), Go.Sort.Holds enc w b off l.toArray → b < w.heap.size → l.length < 4611686018427387904 → Calls P f #[.slice (some ⟨b, off, none⟩) l.length cap] w fun e w' => e = .returned (.tuple #[]) ∧ ∃ n os, w' = Go.Sort.grow (Go.Sort.putRow enc (Go.Sort.ahead w n) b off (srt l).toArray) os)
    {T : TypeId} (A : Option Addr) (q c : Nat) (l : List α) (w : World) (hlen : l.length = q) (hq : q ≤ 1000000000) (hM : Mem w0 ([(0, .own T 1 (.slice A q c) q (l.map enc))] ++ K) w) :
    Calls P f #[.slice A q c] w fun e w' => ∃ u : Unit, e = .returned (.tuple #[]) ∧ True ∧ Mem w0 ([(0, .own T 1 (.slice A q c) q ((srt l).map enc))] ++ K) w' := by
  have h0 := hM.sat 0 _ rfl
  obtain ⟨hx, hv⟩ := h0
  rcases hv with ⟨hv, hn⟩ | ⟨b, cap, cur, hv, hb, hg, hc1, hc2, hc3, hc4⟩
  · simp only [Value.slice.injEq] at hv
    obtain ⟨rfl, rfl, rfl⟩ := hv
    have hl0 : l = [] := List.eq_nil_of_length_eq_zero hlen
    subst hl0
    have hs0 : srt [] = [] := List.eq_nil_of_length_eq_zero (hlenS [])
    refine (hnone none 0 w).mono ?_
    rintro e w' ⟨rfl, rfl⟩
    rw [hs0]
    exact ⟨(), rfl, trivial, hM⟩
  · simp only [Value.slice.injEq] at hv
    obtain ⟨rfl, _, rfl⟩ := hv
    subst hlen
    have hlt : b < w.heap.size := (Array.getElem?_eq_some_iff.1 hg).1
    have hH : Go.Sort.Holds enc w b 0 l.toArray := holds_own1 hg (by simpa using hc4)
    refine (hsort b 0 c l w hH hlt (by omega)).mono ?_
    rintro e w' ⟨rfl, m, os, hw⟩
    have hw2 : w' = Go.Proofs.sortWorld enc w b 0 m (srt l).toArray os := hw
    have hsz : (srt l).toArray.size = l.length := by simp [hlenS]
    obtain ⟨cur', g1, g2, g3⟩ := heap_sorted1 (enc := enc) (m := m) (os := os) (d' := (srt l).toArray) hg (by rw [hsz]; omega)
    rw [← hw2] at g1
    have hT := hM.turn (i := 0) rfl (p' := .own T 1 (.slice (some ⟨b, 0, none⟩) l.length c) l.length ((srt l).map enc)) (w' := w') (by rw [hw2]; exact sorted_grown1 hlt) ⟨by
      rw [List.length_map, hlenS, Nat.mul_one], .inr ⟨b, c, cur', rfl, hb, g1, by omega, by omega, by omega, by
        rw [hsz] at g3
        rw [Nat.mul_one]
        simpa using g3⟩⟩ (.inl rfl)
    exact ⟨(), rfl, trivial, hT.below, fun i p hp => hT.sat i p (conv0 hp), fun i j p q hij hp hq => hT.apart i j p q hij (conv0 hp) (conv0 hq)⟩
theorem compact_row1 (z : α) (hlenS : ∀ l, (srt l).length ≤ l.length) (hnone : ∀ (A : Option Addr) (c : Nat) (w : World), Calls P f #[.slice A 0 c] w fun e w' => e = .returned (.slice A 0 c) ∧ w' = w)
    (hcpt : ∀ (b off cap : Nat) (l : List α) (w : World), Go.Sort.Holds enc w b off l.toArray → l.length ≤ 9223372036854775807 → l.length ≤ cap → Calls P f #[.slice (some ⟨b, off, none⟩) l.length cap] w fun e w' => e = .returned (.slice (some ⟨b, off, none⟩) (srt l).length cap) ∧ ∃ n, w' = Go.Sort.putRow enc (Go.Sort.ahead w n) b off (srt l ++ List.replicate (l.length - (srt l).length) z).toArray)
    {T : TypeId} (A : Option Addr) (q c : Nat) (l : List α) (w : World) (hlen : l.length = q) (hq : q ≤ 1000000000) (hM : Mem w0 ([(0, .own T 1 (.slice A q c) q (l.map enc))] ++ K) w) :
    Calls P f #[.slice A q c] w fun e w' => ∃ u : Unit, e = .returned (.slice A (srt l).length c) ∧ True ∧ Mem w0 ([(0, .own T 1 (.slice A (srt l).length c) (srt l).length ((srt l).map enc))] ++ K) w' := by
  have h0 := hM.sat 0 _ rfl
  obtain ⟨hx, hv⟩ := h0
  have hcl := hlenS l
  rcases hv with ⟨hv, hn⟩ | ⟨b, cap, cur, hv, hb, hg, hc1, hc2, hc3, hc4⟩
  · simp only [Value.slice.injEq] at hv
    obtain ⟨rfl, rfl, rfl⟩ := hv
    have hl0 : l = [] := List.eq_nil_of_length_eq_zero hlen
    subst hl0
    have hs0 : srt [] = [] := List.eq_nil_of_length_eq_zero (by simpa using hlenS [])
    refine (hnone none 0 w).mono ?_
    rintro e w' ⟨rfl, rfl⟩
    rw [hs0]
    exact ⟨(), rfl, trivial, hM⟩
  · simp only [Value.slice.injEq] at hv
    obtain ⟨rfl, _, rfl⟩ := hv
    subst hlen
    have hlt : b < w.heap.size := (Array.getElem?_eq_some_iff.1 hg).1
    have hH : Go.Sort.Holds enc w b 0 l.toArray := holds_own1 hg (by simpa using hc4)
    refine (hcpt b 0 c l w hH (by omega) hc1).mono ?_
    rintro e w' ⟨rfl, m, hw⟩
    have hw2 : w' = Go.Proofs.sortWorld enc w b 0 m (srt l ++ List.replicate (l.length - (srt l).length) z).toArray #[] := by
      rw [hw]; unfold Go.Proofs.sortWorld; rw [Go.Sort.grow_empty]
    have hsz : (srt l ++ List.replicate (l.length - (srt l).length) z).toArray.size = l.length := by simp; omega
    obtain ⟨cur', g1, g2, g3⟩ := heap_sorted1 (enc := enc) (m := m) (os := #[]) (d' := (srt l ++ List.replicate (l.length - (srt l).length) z).toArray) hg (by rw [hsz]; omega)
    rw [← hw2] at g1
    have hT := hM.turn (i := 0) rfl (p' := .own T 1 (.slice (some ⟨b, 0, none⟩) (srt l).length c) (srt l).length ((srt l).map enc)) (w' := w') (by rw [hw2]; exact sorted_grown1 hlt) ⟨by
      rw [List.length_map, Nat.mul_one], .inr ⟨b, c, cur', rfl, hb, g1, by omega, by omega, by omega, by
        have h4 := congrArg (List.take ((srt l).length * 1)) g3
        rw [hsz, List.take_take, Nat.min_eq_left (by omega)] at h4
        rw [h4]
        simp only [List.map_append]
        rw [List.take_left' (by simp)]⟩⟩ (.inl rfl)
    exact ⟨(), rfl, trivial, hT.below, fun i p hp => hT.sat i p (conv0 hp), fun i j p q hij hp hq => hT.apart i j p q hij (conv0 hp) (conv0 hq)⟩
end
/-! ### Sorted -/
theorem strs_map (l : List Nm) : l.flatMap strEnc = l.map str := flat_one (fun _ => rfl) l
theorem ints_map (l : List Int) : l.flatMap intEnc = l.map (Value.int .i64) := flat_one (fun _ => rfl) l
def srtS (l : List Nm) : List Nm := l.mergeSort fun x y => decide (x ≤ y)
def srtI (l : List Int) : List Int := l.mergeSort fun x y => decide (x ≤ y)
theorem srtS_perm (l : List Nm) : (srtS l).Perm l := List.mergeSort_perm _ _
theorem srtI_perm (l : List Int) : (srtI l).Perm l := List.mergeSort_perm _ _
theorem srtS_sorted (l : List Nm) : (srtS l).Pairwise fun x y => ¬ y < x := by
  have h := List.pairwise_mergeSort (le := fun x y : Nm => decide (x ≤ y)) (fun a b c h1 h2 => by
    rw [decide_eq_true_eq] at *; exact List.le_trans h1 h2) (fun a b => by
    rw [Bool.or_eq_true, decide_eq_true_eq, decide_eq_true_eq]; exact List.le_total a b) l
  exact h.imp fun h => by rw [decide_eq_true_eq] at h; exact List.not_lt.2 h
theorem srtI_sorted (l : List Int) : (srtI l).Pairwise fun x y => ¬ y < x := by
  have h := List.pairwise_mergeSort (le := fun x y : Int => decide (x ≤ y)) (fun a b c h1 h2 => by
    rw [decide_eq_true_eq] at *; omega) (fun a b => by
    rw [Bool.or_eq_true, decide_eq_true_eq, decide_eq_true_eq]; omega) l
  exact h.imp fun h => by rw [decide_eq_true_eq] at h; omega
theorem SortStr_any {w0 : World} {K : HL} (A : Option Addr) (q c : Nat) (l : List Nm) (w : World) (hlen : l.length = q) (hq : q ≤ 1000000000) (hM : Mem w0 ([(0, .own 9 1 (.slice A q c) q (l.flatMap strEnc))] ++ K) w) :
    Calls Tryz.prog 173 #[.slice A q c] w fun e w' => ∃ u : Unit, e = .returned (.tuple #[]) ∧ True ∧ Mem w0 ([(0, .own 9 1 (.slice A q c) q ((srtS l).flatMap strEnc))] ++ K) w' := by
  simp only [strs_map, ints_map] at hM ⊢
  exact sort_row1 (fun l => (srtS_perm l).length_eq) (fun A c w => Any.slices_Sort_string_none Tryz.lays190 A c w) (fun b off cap l w h1 h2 h3 => Any.slices_Sort_string Tryz.lays190 b off cap l w h1 h2 h3) A q c l w hlen hq hM
theorem SortInt_any {w0 : World} {K : HL} (A : Option Addr) (q c : Nat) (l : List Int) (w : World) (hlen : l.length = q) (hq : q ≤ 1000000000) (hM : Mem w0 ([(0, .own 3 1 (.slice A q c) q (l.flatMap intEnc))] ++ K) w) :
    Calls Tryz.prog 177 #[.slice A q c] w fun e w' => ∃ u : Unit, e = .returned (.tuple #[]) ∧ True ∧ Mem w0 ([(0, .own 3 1 (.slice A q c) q ((srtI l).flatMap intEnc))] ++ K) w' := by
  simp only [strs_map, ints_map] at hM ⊢
  exact sort_row1 (fun l => (srtI_perm l).length_eq) (fun A c w => Any.slices_Sort_int_none Tryz.lays189 A c w) (fun b off cap l w h1 h2 h3 => Any.slices_Sort_int Tryz.lays189 b off cap l w h1 h2 h3) A q c l w hlen hq hM
theorem cpt_le {α : Type} [Inhabited α] [DecidableEq α] (l : List α) : (Lib.compact l).length ≤ l.length := by rw [← cptG_eq]; have := cptG_len l []; simpa using this
theorem CptStr_any {w0 : World} {K : HL} (A : Option Addr) (q c : Nat) (l : List Nm) (w : World) (hlen : l.length = q) (hq : q ≤ 1000000000) (hM : Mem w0 ([(0, .own 9 1 (.slice A q c) q (l.flatMap strEnc))] ++ K) w) :
    Calls Tryz.prog 174 #[.slice A q c] w fun e w' => ∃ u : Unit, e = .returned (.slice A (cptG [] l).length c) ∧ True ∧ Mem w0 ([(0, .own 9 1 (.slice A (cptG [] l).length c) (cptG [] l).length ((cptG [] l).flatMap strEnc))] ++ K) w' := by
  simp only [strs_map, ints_map] at hM ⊢
  rw [cptG_eq]
  exact compact_row1 [] cpt_le (fun A c w => Tryz.slices_Compact_string_empty A c w) (fun b off cap l w h1 h2 h3 => Tryz.slices_Compact_string b off cap l w h1 h2 h3) A q c l w hlen hq hM
theorem CptInt_any {w0 : World} {K : HL} (A : Option Addr) (q c : Nat) (l : List Int) (w : World) (hlen : l.length = q) (hq : q ≤ 1000000000) (hM : Mem w0 ([(0, .own 3 1 (.slice A q c) q (l.flatMap intEnc))] ++ K) w) :
    Calls Tryz.prog 178 #[.slice A q c] w fun e w' => ∃ u : Unit, e = .returned (.slice A (cptG [] l).length c) ∧ True ∧ Mem w0 ([(0, .own 3 1 (.slice A (cptG [] l).length c) (cptG [] l).length ((cptG [] l).flatMap intEnc))] ++ K) w' := by
  simp only [strs_map, ints_map] at hM ⊢
  rw [cptG_eq]
  exact compact_row1 0 cpt_le (fun A c w => Tryz.slices_Compact_int_empty A c w) (fun b off cap l w h1 h2 h3 => Tryz.slices_Compact_int b off cap l w h1 h2 h3) A q c l w hlen hq hM
end Go.Proofs.YtkkngcdikbhkjaaGreatDoor
end
section
namespace Go.Proofs.YtkkngcdikbhkjaaGreatDoor
set_option linter.unusedSimpArgs false
set_option linter.unusedVariables false
set_option maxRecDepth 20000
open Go.RowKit Go.Eng
structure FrmsOk (w : World) (l : Sl Frm) : Prop where
  ok : l.Ok Frm.enc 6 w
  q : l.q ≤ 4611686018427387904
  n : ∀ f ∈ l.l, f.m.length ≤ 4611686018427387904 ∧ f.f.length ≤ 4611686018427387904 ∧ f.fi.length ≤ 4611686018427387904
theorem FrmsOk.below {w w' : World} {l : Sl Frm} (h : FrmsOk w l) (hb : Below w.heap.size w w') : FrmsOk w' l := ⟨h.ok.below hb, h.q, h.n⟩
end Go.Proofs.YtkkngcdikbhkjaaGreatDoor
end
section
namespace Go.Proofs.YtkkngcdikbhkjaaGreatDoor
set_option linter.unusedSimpArgs false
set_option linter.unusedVariables false
set_option maxRecDepth 20000
open Go.RowKit Go.Eng
structure TabsOk (w : World) (l : Sl Tab) : Prop where
  ok : l.Ok Tab.enc 6 w
  q : l.q ≤ 4611686018427387904
  n : ∀ t ∈ l.l, t.Ok w
theorem TabsOk.below {w w' : World} {l : Sl Tab} (h : TabsOk w l) (hb : Below w.heap.size w w') : TabsOk w' l := ⟨h.ok.below hb, h.q, fun t ht => (h.n t ht).below hb⟩
structure ModsOk (w : World) (l : Sl SMod) : Prop where
  ok : l.Ok SMod.enc 4 w
  q : l.q ≤ 4611686018427387904
  n : ∀ m ∈ l.l, m.name.length ≤ 4611686018427387904 ∧ m.id.length ≤ 4611686018427387904
theorem ModsOk.below {w w' : World} {l : Sl SMod} (h : ModsOk w l) (hb : Below w.heap.size w w') : ModsOk w' l := ⟨h.ok.below hb, h.q, h.n⟩
end Go.Proofs.YtkkngcdikbhkjaaGreatDoor
end
section
namespace Go.Proofs.YtkkngcdikbhkjaaGreatDoor
set_option linter.unusedSimpArgs false
set_option linter.unusedVariables false
set_option maxRecDepth 20000
open Go.RowKit Go.Eng
theorem own_ok2 {α : Type} {enc : α → List Value} {size : Nat} {e : TypeId} {w0 w : World} {L : HL} {i : Nat} {A : Option Addr} {c q : Nat} {l : List α} (hM : Mem w0 L w) (hq : l.length = q) (hL : L.get i = some (.own e size (.slice A q c) q (l.flatMap enc))) : Sl.Ok enc size w ⟨A, q, c, l⟩ := by
  refine ⟨⟨own_reads hM hL, hq⟩, ?_⟩
  have h : w.ownsRow w0.heap.size e size (.slice A q c) q (l.flatMap enc) := hM.sat i _ hL
  rcases h.2 with ⟨hv, h0⟩ | ⟨g, cap, cur, hv, _, _, hnc, _⟩
  · show q ≤ c
    omega
  · have : c = cap := by injection hv
    show q ≤ c
    omega
end Go.Proofs.YtkkngcdikbhkjaaGreatDoor
end
