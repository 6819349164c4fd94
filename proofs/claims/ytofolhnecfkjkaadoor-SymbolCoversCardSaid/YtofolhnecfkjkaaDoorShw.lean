/- symbol.Shares walked; its sort is a premise (SortsShares). -/
import Derived.Test.YtofolhnecfkjkaaDoorShr
namespace Go.Proofs.YtofolhnecfkjkaaDoor
set_option linter.unusedSimpArgs false
set_option linter.unusedVariables false
set_option maxRecDepth 20000
open Go.RowKit Go.Eng
def lenOf (t : Tab) : Nat := t.size.toNat
abbrev shIt (A : Option Addr) (c : Nat) (l : List SShare) : It := .own 78 2 (.slice A l.length c) l.length (l.flatMap SShare.enc)
theorem func_step {size : Int} {g : SFunc} {r : List SFunc} {last : Int} (h : funcsNo size (g :: r) last = 0) : (0 ≤ g.fr ∧ g.fr < g.to ∧ g.to ≤ size) ∧ last ≤ g.fr ∧ funcsNo size r g.to = 0 := by
  unfold funcsNo at h
  split at h
  · rename_i h1; exact absurd h h1
  split at h
  · cases h
  rename_i h2
  split at h
  · cases h
  simp only [spanBad, outB, Bool.or_eq_true, decide_eq_true_eq, not_or] at h2
  exact ⟨by omega, by omega, h⟩
theorem funcs_of {t : Tab} (h : tabNo t = 0) : funcsNo t.size t.fu.l 0 = 0 := by
  unfold tabNo at h
  split at h
  · cases h
  split at h
  · cases h
  obtain ⟨_, h⟩ := fst_zero h
  obtain ⟨b, _⟩ := fst_zero h
  exact (le_of_ite b).2
theorem mapOk_nil (n : Nat) : MapOk n (fun _ => none) [] := ⟨fun s => by
  have : ∀ m, cnt (fun _ => none) s m = 0 := fun m => by
    induction m with
    | zero => rfl
    | succ m ih => unfold cnt; rw [ih]; simp
  rw [this]; rfl, by simp⟩
theorem call_span {size nf : Int} {c : SCall} (h : callBad size nf c = false) : 0 ≤ c.fr ∧ c.fr < c.to ∧ c.to ≤ size := by
  simp only [callBad, spanBad, outB, Bool.or_eq_false_iff, decide_eq_false_iff_not] at h; omega
theorem call_nest {fu : List SFunc} {before : List SCall} {c : SCall} (h : callNo fu before c = 0) : fu.any (SFunc.holds c) = true ∧ nestNo c before 0 = 0 := by
  unfold callNo at h
  split at h
  · cases h
  rename_i h1
  exact ⟨by simpa using h1, h⟩
set_option maxHeartbeats 1600000 in
theorem Shares_any {le : SShare → SShare → Bool} (hS : SortsShares le) {w0 : World} {K : HL} (hK : FromK K) (t : Tab) (w : World) (hok : t.Ok w0) (hM0 : Mem w0 ([] ++ K) w) :
    Calls Tryd.prog 38 #[.agg #[str t.id, .int .i64 t.size, .slice t.fi.A t.fi.q t.fi.c, .slice t.fu.A t.fu.q t.fu.c, .slice t.ro.A t.ro.q t.ro.c, .slice t.ca.A t.ca.q t.ca.c]] w fun e w' => ∃ z : List SShare × Option Addr × Nat, e = .returned (.tuple #[.slice z.2.1 z.1.length z.2.2, .int .i64 (tabNo t)]) ∧ ShOk le t z.1 ∧ Mem w0 ([(13, shIt z.2.1 z.2.2 z.1)] ++ K) w' := by
  have hq := hok.small
  have hft := hok.fu.t
  have hct := hok.ca.t
  have hfl := hft.len
  refine enterM_args (args := [.agg #[str t.id, .int .i64 t.size, .slice t.fi.A t.fi.q t.fi.c, .slice t.fu.A t.fu.q t.fu.c, .slice t.ro.A t.ro.q t.ro.c, .slice t.ca.A t.ca.q t.ca.c]]) (F := _) hM0 Tryd.func38 rfl Tryd.ntmps38 rfl rfl ?_
  intro Rb hRb hRn
  refine T_seq ?_
  refine T_region ?_
  refine S_box 1 1 rfl rfl rfl rfl rfl ?_
  intro b1
  refine S_nilSlice 2 (e := 78) (size := 2) ?_
  refine S_ 2 rfl rfl rfl _ (y_assign rfl rfl) ?_
  refine S_ 3 rfl rfl rfl _ (y_assign rfl rfl) ?_
  refine S_go (fun _ _ h => h) ?_
  refine T_seq ?_
  refine T_seq ?_
  refine T_region ?_
  refine S_ 16 rfl rfl rfl _ (y_loadA 1 rfl rfl rfl Tryd.underlying27 rfl sz27) ?_
  refine S_ 17 rfl rfl rfl _ (y_call rfl rfl rfl cf13 (fun _ w hM => CheckTable_any t w (hok.below hM.below))) ?_
  refine S_ 4 rfl rfl rfl _ (y_assign rfl rfl) ?_
  refine S_go (fun _ _ h => h) ?_
  refine T_seq ?_
  refine T_region ?_
  refine S_ 18 rfl rfl rfl _ (y_move rfl rfl) ?_
  refine S_ 19 rfl rfl rfl _ (y_bin rfl rfl rfl (fun _ => b_neq)) ?_
  refine S_go (fun _ _ h => h) ?_
  refine T_cond rfl (fun h19 => ?_) (fun h19 => ?_)
  · try simp only [decide_eq_true_eq, decide_eq_false_iff_not, Bool.or_eq_true, Bool.or_eq_false_iff, Bool.and_eq_true, Bool.and_eq_false_iff, Bool.not_eq_true', Bool.not_eq_false', Bool.not_eq_true, Bool.not_eq_false, Bool.not_true, Bool.not_false, Int.not_lt, Int.not_le, not_or, not_and, Classical.not_not] at h19
    refine T_seq ?_
    refine T_region ?_
    refine S_ 20 rfl rfl rfl _ (y_move rfl rfl) ?_
    refine S_nilSlice 2 (e := 78) (size := 2) ?_
    refine S_ 2 rfl rfl rfl _ (y_assign rfl rfl) ?_
    refine S_ 3 rfl rfl rfl _ (y_assign rfl rfl) ?_
    refine S_go (fun _ _ h => h) ?_
    refine T_ret (fun a w hF hM => hRb a w (post2 rfl rfl rfl (fun w hM => ?_) a w hF hM))
    have hM := hM.add 13 (shIt none 0 []) rfl (World.ownsRow_nil _ _ _ _)
    exact ⟨([], none, 0), rfl, by unfold ShOk; rw [if_pos h19], hM.keep (ks := [(0, 999)]) (by repeat (first | exact kl_rest (by assumption) rfl | (apply kl_in; focus rfl))) _ ⟨rfl, trivial⟩⟩
  · try simp only [decide_eq_true_eq, decide_eq_false_iff_not, Bool.or_eq_true, Bool.or_eq_false_iff, Bool.and_eq_true, Bool.and_eq_false_iff, Bool.not_eq_true', Bool.not_eq_false', Bool.not_eq_true, Bool.not_eq_false, Bool.not_true, Bool.not_false, Int.not_lt, Int.not_le, not_or, not_and, Classical.not_not] at h19
    obtain ⟨⟨_, hso⟩, hb1, hb2, hb3, hb4⟩ := rows_of h19
    have hsz := size_of_out hso
    have hfz := funcs_of h19
    have hall := calls_right _ _ _ (tab_calls h19)
    have hN : ((t.size.toNat : Nat) : Int) = t.size := by omega
    refine T_skip_go (fun _ _ h => h) ?_
    refine T_seq ?_
    refine T_region ?_
    refine S_makeMap 21 21 (fun l : List UInt8 => str l) rfl rfl rfl rfl ?_
    intro b21
    refine S_ 5 rfl rfl rfl _ (y_assign rfl rfl) ?_
    refine S_go (fun _ _ h => h) ?_
    refine T_seq ?_
    refine T_seq ?_
    refine T_region ?_
    refine S_ 22 rfl rfl rfl _ (y_fieldAddr rfl rfl fa27_3) ?_
    refine S_ 23 rfl rfl rfl _ (y_load 1 rfl rfl rfl rfl Tryd.underlying23 rfl) ?_
    refine S_ 24 rfl rfl rfl _ (y_len_slice rfl rfl Tryd.underlying23) ?_
    refine S_ 25 rfl rfl rfl _ (y_move rfl rfl) ?_
    refine S_go (fun _ _ h => h) ?_
    refine T_block ?_
    refine T_loopK4 (kf := [(7, 7), (25, 39)]) (kl := [(7, 7), (21, 21), (25, 39)]) (fun (i : Nat) (M : List (Nm × Int)) (f : Int → Option Nm) (b : Int) => [(25, true, .int .i64 (i : Int))]) (fun (i : Nat) (M : List (Nm × Int)) (f : Int → Option Nm) (b : Int) => [(21, .blk b21 (IsMap (fun l : List UInt8 => str l) (M.map mi)))]) (fun (i : Nat) (M : List (Nm × Int)) (f : Int → Option Nm) (b : Int) => i ≤ t.fu.q ∧ MapOk t.size.toNat f M ∧ (∀ x, b ≤ x → f x = none) ∧ funcsNo t.size (t.fu.l.drop i) b = 0 ∧ layF (t.fu.l.drop i) f = layF t.fu.l (fun _ => none) ∧ sumM M + lenF (t.fu.l.drop i) = lenF t.fu.l ∧ M.length ≤ i) (fun (i : Nat) (M : List (Nm × Int)) (f : Int → Option Nm) (b : Int) => t.fu.q - i) 0 [] (fun _ => none) 0 (by repeat (first | exact kf_nil | (apply kf_in; focus rfl) | (apply kf_out; focus rfl))) (by repeat (first | exact kl_nil | exact kl_rest (by assumption) rfl | (apply kl_in; focus rfl) | (apply kl_out; focus rfl))) ?_ ?_ ?_ ?_
    · exact ⟨by omega, mapOk_nil _, fun _ _ => rfl, hfz, rfl, by simp [sumM], by simp⟩
    · exact ⟨rfl, trivial⟩
    · exact ⟨rfl, trivial⟩
    rintro i M f b ⟨hp1, hp2, hp3, hp4, hp5, hp6, hp7⟩
    refine T_seq ?_
    refine T_region ?_
    refine S_ 26 rfl rfl rfl _ (y_bin rfl rfl rfl (fun _ => b_lss)) ?_
    refine S_go (fun _ _ h => h) ?_
    refine T_seq ?_
    refine T_cond rfl (fun h26 => ?_) (fun h26 => ?_)
    · try simp only [decide_eq_true_eq, decide_eq_false_iff_not, Bool.or_eq_true, Bool.or_eq_false_iff, Bool.and_eq_true, Bool.and_eq_false_iff, Bool.not_eq_true', Bool.not_eq_false', Bool.not_eq_true, Bool.not_eq_false, Bool.not_true, Bool.not_false, Int.not_lt, Int.not_le, not_or, not_and, Classical.not_not] at h26
      obtain ⟨g, hx1, hx2⟩ := hft.at (i := i) (by omega)
      rw [hx2] at hp4 hp5 hp6
      obtain ⟨⟨hg1, hg2, hg3⟩, hg4, hg5⟩ := func_step hp4
      have hgm := hp2.get g.name
      have hgc := cnt_le f g.name t.size.toNat
      refine T_skip_go (fun _ _ h => h) ?_
      refine T_seq ?_
      refine T_block ?_
      refine T_seq ?_
      refine T_region ?_
      refine S_ 27 rfl rfl rfl _ (y_indexAddr rfl rfl rfl Tryd.underlying23 sz80 (fun hg => hft.isSome (by omega)) (fun _ => by omega)) ?_
      refine S_ 28 rfl rfl rfl _ (y_loadT rfl rfl hft (fun _ => rfl) (fun _ => hx1) Tryd.underlying80 rfl sz80) ?_
      refine S_alloc 7 7 rfl rfl rfl rfl z80 ?_
      intro b7
      refine S_store 7 rfl rfl rfl rfl rfl rfl sz80 rfl rfl ?_
      refine S_go (fun _ _ h => h) ?_
      refine T_region ?_
      refine S_ 29 rfl rfl rfl _ (y_move rfl rfl) ?_
      refine S_ 30 rfl rfl rfl _ (y_fieldAddr rfl rfl fa80_0) ?_
      refine S_ 31 rfl rfl rfl _ (y_load 7 rfl rfl rfl rfl Tryd.underlying9 rfl) ?_
      refine S_ 32 rfl rfl rfl _ (y_as (v' := .int .i64 (gi M g.name)) (by exact mget_mi _ _) (y_lookup 21 (enc := fun l : List UInt8 => str l) rfl rfl rfl rfl Tryd.underlying126 Tryd.underlying9 rfl same_str z3)) ?_
      refine S_ 33 rfl rfl rfl _ (y_fieldAddr rfl rfl fa80_2) ?_
      refine S_ 34 rfl rfl rfl _ (y_load 7 rfl rfl rfl rfl Tryd.underlying3 rfl) ?_
      refine S_ 35 rfl rfl rfl _ (y_fieldAddr rfl rfl fa80_1) ?_
      refine S_ 36 rfl rfl rfl _ (y_load 7 rfl rfl rfl rfl Tryd.underlying3 rfl) ?_
      refine S_ 37 rfl rfl rfl _ (y_bin rfl rfl rfl (fun hg => b_sub (by omega))) ?_
      refine S_ 38 rfl rfl rfl _ (y_bin rfl rfl rfl (fun hg => b_add (by omega))) ?_
      refine S_mapUpdate 21 (enc := fun l : List UInt8 => str l) rfl rfl rfl rfl rfl rfl rfl Tryd.underlying126 Tryd.underlying9 rfl same_str fits_str (mput_mi _ _ _) ?_
      refine S_go (fun _ _ h => h) ?_
      refine T_region ?_
      refine S_ 39 rfl rfl rfl _ (y_bin rfl rfl rfl (fun hg => b_add (by omega))) ?_
      refine S_ 25 rfl rfl rfl _ (y_move rfl rfl) ?_
      refine S_nil (nextK4 (kf := [(7, 7), (25, 39)]) (kl := [(7, 7), (21, 21), (25, 39)]) (i + 1) (pi' M g.name (gi M g.name + (g.to - g.fr))) (upd f g.fr g.to g.name) g.to (by repeat (first | exact kf_nil | (apply kf_in; focus rfl) | (apply kf_out; focus rfl))) (by repeat (first | exact kl_nil | exact kl_rest (by assumption) rfl | (apply kl_in; focus rfl) | (apply kl_out; focus rfl))) ?_ ?_ ?_ ?_)
      · omega
      · exact ⟨by omega, hp2.func hg1 (by omega) (by omega) (fun x h1 _ => hp3 x (by omega)), fun x hx => by rw [upd, if_neg (by omega)]; exact hp3 x (by omega), hg5, hp5, by rw [sum_put]; rw [lenF] at hp6; omega, by have := len_put g.name (gi M g.name + (g.to - g.fr)) M; omega⟩
      · exact ⟨rfl, trivial⟩
      · exact ⟨rfl, trivial⟩
    · try simp only [decide_eq_true_eq, decide_eq_false_iff_not, Bool.or_eq_true, Bool.or_eq_false_iff, Bool.and_eq_true, Bool.and_eq_false_iff, Bool.not_eq_true', Bool.not_eq_false', Bool.not_eq_true, Bool.not_eq_false, Bool.not_true, Bool.not_false, Int.not_lt, Int.not_le, not_or, not_and, Classical.not_not] at h26
      have hz : t.fu.l.drop i = [] := hft.end (by omega)
      rw [hz] at hp5 hp6
      refine T_exit_go (fun _ _ h => h) ?_
      refine T_seq ?_
      refine T_seq ?_
      refine T_region ?_
      refine S_ 40 rfl rfl rfl _ (y_fieldAddr rfl rfl fa27_5) ?_
      refine S_ 41 rfl rfl rfl _ (y_load 1 rfl rfl rfl rfl Tryd.underlying25 rfl) ?_
      refine S_ 42 rfl rfl rfl _ (y_len_slice rfl rfl Tryd.underlying25) ?_
      refine S_ 43 rfl rfl rfl _ (y_move rfl rfl) ?_
      refine S_go (fun _ _ h => h) ?_
      refine T_block ?_
      refine T_loopK3 (kf := [(8, 12), (43, 101)]) (kl := [(8, 12), (21, 21), (43, 101)]) (fun (j : Nat) (M : List (Nm × Int)) (f : Int → Option Nm) => [(43, true, .int .i64 (j : Int))]) (fun (j : Nat) (M : List (Nm × Int)) (f : Int → Option Nm) => [(21, .blk b21 (IsMap (fun l : List UInt8 => str l) (M.map mi)))]) (fun (j : Nat) (M : List (Nm × Int)) (f : Int → Option Nm) => j ≤ t.ca.q ∧ MapOk t.size.toNat f M ∧ f = layC (t.ca.l.take j) (layF t.fu.l fun _ => none) ∧ sumM M = lenF t.fu.l ∧ M.length ≤ 1000 + 2 * j) (fun (j : Nat) (M : List (Nm × Int)) (f : Int → Option Nm) => t.ca.q - j) 0 M f (by repeat (first | exact kf_nil | (apply kf_in; focus rfl) | (apply kf_out; focus rfl))) (by repeat (first | exact kl_nil | exact kl_rest (by assumption) rfl | (apply kl_in; focus rfl) | (apply kl_out; focus rfl))) ?_ ?_ ?_ ?_
      · exact ⟨by omega, hp2, by rw [← hp5]; rfl, by rw [← hp6]; simp [lenF], by omega⟩
      · exact ⟨rfl, trivial⟩
      · exact ⟨rfl, trivial⟩
      rintro j M f ⟨hp1, hp2, hp3, hp4, hp5⟩
      refine T_seq ?_
      refine T_region ?_
      refine S_ 44 rfl rfl rfl _ (y_bin rfl rfl rfl (fun _ => b_lss)) ?_
      refine S_go (fun _ _ h => h) ?_
      refine T_seq ?_
      refine T_cond rfl (fun h44 => ?_) (fun h44 => ?_)
      · try simp only [decide_eq_true_eq, decide_eq_false_iff_not, Bool.or_eq_true, Bool.or_eq_false_iff, Bool.and_eq_true, Bool.and_eq_false_iff, Bool.not_eq_true', Bool.not_eq_false', Bool.not_eq_true, Bool.not_eq_false, Bool.not_true, Bool.not_false, Int.not_lt, Int.not_le, not_or, not_and, Classical.not_not] at h44
        obtain ⟨c0, hc1, hc2⟩ := hct.at (i := j) (by omega)
        obtain ⟨_, hcb, hcn⟩ := hall j c0 hc1
        have hcs := call_span hcb
        obtain ⟨hany, hnest⟩ := call_nest hcn
        rw [← findI_any _ _ 0 (by omega)] at hany
        obtain ⟨n, fn, hfi0, hfn, hfh⟩ := findI_at t.fu.l 0 (by omega) (of_decide_eq_true hany)
        have hnl := (List.getElem?_eq_some_iff.1 hfn).1
        have hfhold : fn.fr ≤ c0.fr ∧ c0.to ≤ fn.to := by simpa [SFunc.holds] using hfh
        refine T_skip_go (fun _ _ h => h) ?_
        refine T_seq ?_
        refine T_block ?_
        refine T_seq ?_
        refine T_region ?_
        refine S_ 45 rfl rfl rfl _ (y_move rfl rfl) ?_
        refine S_ 46 rfl rfl rfl _ (y_indexAddr rfl rfl rfl Tryd.underlying25 sz110 (fun hg => hct.isSome (by omega)) (fun _ => by omega)) ?_
        refine S_ 47 rfl rfl rfl _ (y_loadT rfl rfl hct (fun _ => rfl) (fun _ => hc1) Tryd.underlying110 rfl sz110) ?_
        refine S_alloc 9 9 rfl rfl rfl rfl z110 ?_
        intro b9
        refine S_ 8 rfl rfl rfl _ (y_assign rfl rfl) ?_
        refine S_store 9 rfl rfl rfl rfl rfl rfl sz110 rfl rfl ?_
        refine S_go (fun _ _ h => h) ?_
        refine T_seq ?_
        refine T_draws (by kernel_rfl) (by kernel_rfl) ?_
        refine D_ 48 rfl rfl rfl _ (y_fieldAddr rfl rfl fa27_3) ?_
        refine D_ 49 rfl rfl rfl _ (y_load 1 rfl rfl rfl rfl Tryd.underlying23 rfl) ?_
        refine D_ 50 rfl rfl rfl _ (y_fieldAddr rfl rfl fa27_3) ?_
        refine D_ 51 rfl rfl rfl _ (y_load 1 rfl rfl rfl rfl Tryd.underlying23 rfl) ?_
        refine D_ 52 rfl rfl rfl _ (y_makeFunc rfl rfl rfl rfl rfl) ?_
        refine D_ 53 rfl rfl rfl _ (y_call rfl rfl rfl cf39 (fun _ w hM => IndexFuncF_any _ _ _ _ _ _ (SFunc.holds c0) w (hft.below hM.below) (by omega) (asks_shares (hM.box_cell (i := 9) rfl rfl) (hM.box_cell (i := 9) rfl rfl)))) ?_
        refine D_ 54 rfl rfl rfl _ (y_indexAddrI (j := n) rfl rfl rfl (fun _ => by omega) Tryd.underlying23 sz80 (fun hg => hft.isSome (by omega)) (fun _ => by omega)) ?_
        refine D_ 55 rfl rfl rfl _ (y_fieldEl rfl rfl hft.rd (fun _ => by omega) fa80_0) ?_
        refine D_ 56 rfl rfl rfl _ (y_load_fT rfl rfl hft (fun _ => rfl) (fun _ => hfn) rfl Tryd.underlying9 rfl) ?_
        refine D_ 10 rfl rfl rfl _ (y_assign rfl rfl) ?_
        refine D_go (fun _ _ h => h) ?_
        refine T_seq ?_
        refine T_seq ?_
        refine T_region ?_
        refine S_ 57 rfl rfl rfl _ (y_move rfl rfl) ?_
        refine S_ 58 rfl rfl rfl _ (y_bin rfl rfl rfl (fun hg => b_subv (((j : Nat) : Int) - 1) (by omega) (by omega))) ?_
        refine S_ 11 rfl rfl rfl _ (y_assign rfl rfl) ?_
        refine S_go (fun _ _ h => h) ?_
        refine T_block ?_
        refine T_loopK1 (kf := [(10, 12), (59, 81)]) (kl := [(10, 12), (59, 81)]) (fun (k : Nat) => [(11, true, .int .i64 ((k : Int) - 1)), (10, true, str fn.name)]) (fun (k : Nat) => []) (fun (k : Nat) => k ≤ j ∧ aroundOf c0 (t.ca.l.take j).reverse fn.name = aroundOf c0 (t.ca.l.take k).reverse fn.name) (fun (k : Nat) => k) j (by repeat (first | exact kf_nil | (apply kf_in; focus rfl) | (apply kf_out; focus rfl))) (by repeat (first | exact kl_nil | exact kl_rest (by assumption) rfl | (apply kl_in; focus rfl) | (apply kl_out; focus rfl))) ?_ ?_ ?_ ?_
        · exact ⟨by omega, rfl⟩
        · exact ⟨rfl, rfl, trivial⟩
        · exact trivial
        rintro k ⟨hk1, hk2⟩
        refine T_seq ?_
        refine T_seq ?_
        refine T_region ?_
        refine S_ 59 rfl rfl rfl _ (y_move rfl rfl) ?_
        refine S_ 60 rfl rfl rfl _ (y_bin rfl rfl rfl (fun _ => b_geq)) ?_
        refine S_go (fun _ _ h => h) ?_
        refine T_cond rfl (fun h60 => ?_) (fun h60 => ?_)
        · try simp only [decide_eq_true_eq, decide_eq_false_iff_not, Bool.or_eq_true, Bool.or_eq_false_iff, Bool.and_eq_true, Bool.and_eq_false_iff, Bool.not_eq_true', Bool.not_eq_false', Bool.not_eq_true, Bool.not_eq_false, Bool.not_true, Bool.not_false, Int.not_lt, Int.not_le, not_or, not_and, Classical.not_not] at h60
          obtain ⟨bb, hb1, hb2⟩ := hct.at (i := k - 1) (by omega)
          refine T_skip_go (fun _ _ h => h) ?_
          refine T_seq ?_
          refine T_block ?_
          refine T_seq ?_
          refine T_region ?_
          refine S_ 63 rfl rfl rfl _ (y_fieldAddr rfl rfl fa27_5) ?_
          refine S_ 64 rfl rfl rfl _ (y_load 1 rfl rfl rfl rfl Tryd.underlying25 rfl) ?_
          refine S_ 65 rfl rfl rfl _ (y_move rfl rfl) ?_
          refine S_ 66 rfl rfl rfl _ (y_indexAddrI (j := k - 1) rfl rfl rfl (fun _ => by omega) Tryd.underlying25 sz110 (fun hg => hct.isSome (by omega)) (fun _ => by omega)) ?_
          refine S_ 67 rfl rfl rfl _ (y_loadT rfl rfl hct (fun _ => rfl) (fun _ => hb1) Tryd.underlying110 rfl sz110) ?_
          refine S_alloc 12 12 rfl rfl rfl rfl z110 ?_
          intro b12
          refine S_store 12 rfl rfl rfl rfl rfl rfl sz110 rfl rfl ?_
          refine S_go (fun _ _ h => h) ?_
          refine T_seq ?_
          refine T_region ?_
          refine S_ 68 rfl rfl rfl _ (y_fieldAddr rfl rfl fa110_1) ?_
          refine S_ 69 rfl rfl rfl _ (y_load 12 rfl rfl rfl rfl Tryd.underlying3 rfl) ?_
          refine S_ 70 rfl rfl rfl _ (y_fieldAddr rfl rfl fa110_1) ?_
          refine S_ 71 rfl rfl rfl _ (y_load 9 rfl rfl rfl rfl Tryd.underlying3 rfl) ?_
          refine S_ 72 rfl rfl rfl _ (y_bin rfl rfl rfl (fun _ => b_leq)) ?_
          refine S_ 73 rfl rfl rfl _ (y_move rfl rfl) ?_
          refine Sg_ 74 rfl rfl rfl rfl rfl rfl _ (y_fieldAddr rfl rfl fa110_2) ?_
          refine Sg_ 75 rfl rfl rfl rfl rfl rfl _ (y_load 9 rfl rfl rfl rfl Tryd.underlying3 rfl) ?_
          refine Sg_ 76 rfl rfl rfl rfl rfl rfl _ (y_fieldAddr rfl rfl fa110_2) ?_
          refine Sg_ 77 rfl rfl rfl rfl rfl rfl _ (y_load 12 rfl rfl rfl rfl Tryd.underlying3 rfl) ?_
          refine Sg_ 78 rfl rfl rfl rfl rfl rfl _ (y_bin rfl rfl rfl (fun _ => b_leq)) ?_
          refine S_ 79 rfl rfl rfl _ (y_as (v' := .bool (enclB bb c0)) (by exact rfl) (y_and rfl rfl rfl)) ?_
          refine S_go (fun _ _ h => h) ?_
          refine T_cond rfl (fun h79 => ?_) (fun h79 => ?_)
          · skip
            have har : aroundOf c0 (t.ca.l.take j).reverse fn.name = bb.name := by rw [hk2, take_rev (by omega) hb1, aroundOf, if_t h79]
            have hg1 := hp2.get bb.name
            have hg2 := cnt_le f bb.name t.size.toNat
            have hg3 : -t.size ≤ gi (pi' M bb.name (gi M bb.name - (c0.to - c0.fr))) c0.name ∧ gi (pi' M bb.name (gi M bb.name - (c0.to - c0.fr))) c0.name ≤ t.size := by
              have h4 := hp2.get c0.name
              have h5 := cnt_le f c0.name t.size.toNat
              rw [gi_put]
              split <;> omega
            refine T_seq ?_
            refine T_region ?_
            refine S_ 80 rfl rfl rfl _ (y_fieldAddr rfl rfl fa110_0) ?_
            refine S_ 81 rfl rfl rfl _ (y_load 12 rfl rfl rfl rfl Tryd.underlying9 rfl) ?_
            refine S_ 10 rfl rfl rfl _ (y_assign rfl rfl) ?_
            refine S_go (fun _ _ h => h) ?_
            refine T_exit_go (fun _ _ h => h) ?_
            refine T_seq ?_
            refine T_region ?_
            refine S_ 82 rfl rfl rfl _ (y_move rfl rfl) ?_
            refine S_ 83 rfl rfl rfl _ (y_move rfl rfl) ?_
            refine S_ 84 rfl rfl rfl _ (y_as (v' := .int .i64 (gi M bb.name)) (by exact mget_mi _ _) (y_lookup 21 (enc := fun l : List UInt8 => str l) rfl rfl rfl rfl Tryd.underlying126 Tryd.underlying9 rfl same_str z3)) ?_
            refine S_ 85 rfl rfl rfl _ (y_fieldAddr rfl rfl fa110_2) ?_
            refine S_ 86 rfl rfl rfl _ (y_load 9 rfl rfl rfl rfl Tryd.underlying3 rfl) ?_
            refine S_ 87 rfl rfl rfl _ (y_fieldAddr rfl rfl fa110_1) ?_
            refine S_ 88 rfl rfl rfl _ (y_load 9 rfl rfl rfl rfl Tryd.underlying3 rfl) ?_
            refine S_ 89 rfl rfl rfl _ (y_bin rfl rfl rfl (fun hg => b_sub (by omega))) ?_
            refine S_ 90 rfl rfl rfl _ (y_bin rfl rfl rfl (fun hg => b_sub (by omega))) ?_
            refine S_mapUpdate 21 (enc := fun l : List UInt8 => str l) rfl rfl rfl rfl rfl rfl rfl Tryd.underlying126 Tryd.underlying9 rfl same_str fits_str (mput_mi _ _ _) ?_
            refine S_go (fun _ _ h => h) ?_
            refine T_region ?_
            refine S_ 91 rfl rfl rfl _ (y_move rfl rfl) ?_
            refine S_ 92 rfl rfl rfl _ (y_fieldAddr rfl rfl fa110_0) ?_
            refine S_ 93 rfl rfl rfl _ (y_load 9 rfl rfl rfl rfl Tryd.underlying9 rfl) ?_
            refine S_ 94 rfl rfl rfl _ (y_as (v' := .int .i64 (gi (pi' M bb.name (gi M bb.name - (c0.to - c0.fr))) c0.name)) (by exact mget_mi _ _) (y_lookup 21 (enc := fun l : List UInt8 => str l) rfl rfl rfl rfl Tryd.underlying126 Tryd.underlying9 rfl same_str z3)) ?_
            refine S_ 95 rfl rfl rfl _ (y_fieldAddr rfl rfl fa110_2) ?_
            refine S_ 96 rfl rfl rfl _ (y_load 9 rfl rfl rfl rfl Tryd.underlying3 rfl) ?_
            refine S_ 97 rfl rfl rfl _ (y_fieldAddr rfl rfl fa110_1) ?_
            refine S_ 98 rfl rfl rfl _ (y_load 9 rfl rfl rfl rfl Tryd.underlying3 rfl) ?_
            refine S_ 99 rfl rfl rfl _ (y_bin rfl rfl rfl (fun hg => b_sub (by omega))) ?_
            refine S_ 100 rfl rfl rfl _ (y_bin rfl rfl rfl (fun hg => b_add (by omega))) ?_
            refine S_mapUpdate 21 (enc := fun l : List UInt8 => str l) rfl rfl rfl rfl rfl rfl rfl Tryd.underlying126 Tryd.underlying9 rfl same_str fits_str (mput_mi _ _ _) ?_
            refine S_go (fun _ _ h => h) ?_
            refine T_region ?_
            refine S_ 101 rfl rfl rfl _ (y_bin rfl rfl rfl (fun hg => b_add (by omega))) ?_
            refine S_ 43 rfl rfl rfl _ (y_move rfl rfl) ?_
            refine S_nil (nextK3 (kf := [(8, 12), (43, 101)]) (kl := [(8, 12), (21, 21), (43, 101)]) (j + 1) (pi' (pi' M bb.name (gi M bb.name - (c0.to - c0.fr))) c0.name (gi (pi' M bb.name (gi M bb.name - (c0.to - c0.fr))) c0.name + (c0.to - c0.fr))) (upd f c0.fr c0.to c0.name) (by repeat (first | exact kf_nil | (apply kf_in; focus rfl) | (apply kf_out; focus rfl))) (by repeat (first | exact kl_nil | exact kl_rest (by assumption) rfl | (apply kl_in; focus rfl) | (apply kl_out; focus rfl))) ?_ ?_ ?_ ?_)
            · omega
            · exact ⟨by omega, hp2.call hcs.1 (by omega) (by omega) (fun x h1 h2 => by rw [hp3, ← List.reverse_reverse (t.ca.l.take j)]; rw [around_lay h1 h2 (layF_at _ 0 _ x fn hfz (mem_at hfn) (by omega) (by omega)) _ (fun b hb => nest_apart _ _ hnest b (by simpa using hb)), har]), by rw [hp3, take_succ_at hc1, layC_app], by rw [sum_put, sum_put]; omega, by have h1 := len_put bb.name (gi M bb.name - (c0.to - c0.fr)) M; have h2 := len_put c0.name (gi (pi' M bb.name (gi M bb.name - (c0.to - c0.fr))) c0.name + (c0.to - c0.fr)) (pi' M bb.name (gi M bb.name - (c0.to - c0.fr))); omega⟩
            · exact ⟨rfl, trivial⟩
            · exact ⟨rfl, trivial⟩
          · skip
            refine T_skip_go (fun _ _ h => h) ?_
            refine T_region ?_
            refine S_ 61 rfl rfl rfl _ (y_move rfl rfl) ?_
            refine S_ 62 rfl rfl rfl _ (y_bin rfl rfl rfl (fun hg => b_subv (((k - 1 : Nat) : Int) - 1) (by omega) (by omega))) ?_
            refine S_ 11 rfl rfl rfl _ (y_assign rfl rfl) ?_
            refine S_nil (nextK1 (kf := [(10, 12), (59, 81)]) (kl := [(10, 12), (59, 81)]) (k - 1) (by repeat (first | exact kf_nil | (apply kf_in; focus rfl) | (apply kf_out; focus rfl))) (by repeat (first | exact kl_nil | exact kl_rest (by assumption) rfl | (apply kl_in; focus rfl) | (apply kl_out; focus rfl))) ?_ ?_ ?_ ?_)
            · omega
            · exact ⟨by omega, by rw [hk2, take_rev (by omega) hb1, aroundOf, if_neg (by simp [h79])]⟩
            · exact ⟨rfl, rfl, trivial⟩
            · exact trivial
        · try simp only [decide_eq_true_eq, decide_eq_false_iff_not, Bool.or_eq_true, Bool.or_eq_false_iff, Bool.and_eq_true, Bool.and_eq_false_iff, Bool.not_eq_true', Bool.not_eq_false', Bool.not_eq_true, Bool.not_eq_false, Bool.not_true, Bool.not_false, Int.not_lt, Int.not_le, not_or, not_and, Classical.not_not] at h60
          have hkz : k = 0 := by omega
          have har : aroundOf c0 (t.ca.l.take j).reverse fn.name = fn.name := by rw [hk2, hkz]; rfl
          have hg1 := hp2.get fn.name
          have hg2 := cnt_le f fn.name t.size.toNat
          have hg3 : -t.size ≤ gi (pi' M fn.name (gi M fn.name - (c0.to - c0.fr))) c0.name ∧ gi (pi' M fn.name (gi M fn.name - (c0.to - c0.fr))) c0.name ≤ t.size := by
            have h4 := hp2.get c0.name
            have h5 := cnt_le f c0.name t.size.toNat
            rw [gi_put]
            split <;> omega
          refine T_exit_go (fun _ _ h => h) ?_
          refine T_seq ?_
          refine T_region ?_
          refine S_ 82 rfl rfl rfl _ (y_move rfl rfl) ?_
          refine S_ 83 rfl rfl rfl _ (y_move rfl rfl) ?_
          refine S_ 84 rfl rfl rfl _ (y_as (v' := .int .i64 (gi M fn.name)) (by exact mget_mi _ _) (y_lookup 21 (enc := fun l : List UInt8 => str l) rfl rfl rfl rfl Tryd.underlying126 Tryd.underlying9 rfl same_str z3)) ?_
          refine S_ 85 rfl rfl rfl _ (y_fieldAddr rfl rfl fa110_2) ?_
          refine S_ 86 rfl rfl rfl _ (y_load 9 rfl rfl rfl rfl Tryd.underlying3 rfl) ?_
          refine S_ 87 rfl rfl rfl _ (y_fieldAddr rfl rfl fa110_1) ?_
          refine S_ 88 rfl rfl rfl _ (y_load 9 rfl rfl rfl rfl Tryd.underlying3 rfl) ?_
          refine S_ 89 rfl rfl rfl _ (y_bin rfl rfl rfl (fun hg => b_sub (by omega))) ?_
          refine S_ 90 rfl rfl rfl _ (y_bin rfl rfl rfl (fun hg => b_sub (by omega))) ?_
          refine S_mapUpdate 21 (enc := fun l : List UInt8 => str l) rfl rfl rfl rfl rfl rfl rfl Tryd.underlying126 Tryd.underlying9 rfl same_str fits_str (mput_mi _ _ _) ?_
          refine S_go (fun _ _ h => h) ?_
          refine T_region ?_
          refine S_ 91 rfl rfl rfl _ (y_move rfl rfl) ?_
          refine S_ 92 rfl rfl rfl _ (y_fieldAddr rfl rfl fa110_0) ?_
          refine S_ 93 rfl rfl rfl _ (y_load 9 rfl rfl rfl rfl Tryd.underlying9 rfl) ?_
          refine S_ 94 rfl rfl rfl _ (y_as (v' := .int .i64 (gi (pi' M fn.name (gi M fn.name - (c0.to - c0.fr))) c0.name)) (by exact mget_mi _ _) (y_lookup 21 (enc := fun l : List UInt8 => str l) rfl rfl rfl rfl Tryd.underlying126 Tryd.underlying9 rfl same_str z3)) ?_
          refine S_ 95 rfl rfl rfl _ (y_fieldAddr rfl rfl fa110_2) ?_
          refine S_ 96 rfl rfl rfl _ (y_load 9 rfl rfl rfl rfl Tryd.underlying3 rfl) ?_
          refine S_ 97 rfl rfl rfl _ (y_fieldAddr rfl rfl fa110_1) ?_
          refine S_ 98 rfl rfl rfl _ (y_load 9 rfl rfl rfl rfl Tryd.underlying3 rfl) ?_
          refine S_ 99 rfl rfl rfl _ (y_bin rfl rfl rfl (fun hg => b_sub (by omega))) ?_
          refine S_ 100 rfl rfl rfl _ (y_bin rfl rfl rfl (fun hg => b_add (by omega))) ?_
          refine S_mapUpdate 21 (enc := fun l : List UInt8 => str l) rfl rfl rfl rfl rfl rfl rfl Tryd.underlying126 Tryd.underlying9 rfl same_str fits_str (mput_mi _ _ _) ?_
          refine S_go (fun _ _ h => h) ?_
          refine T_region ?_
          refine S_ 101 rfl rfl rfl _ (y_bin rfl rfl rfl (fun hg => b_add (by omega))) ?_
          refine S_ 43 rfl rfl rfl _ (y_move rfl rfl) ?_
          refine S_nil (nextK3 (kf := [(8, 12), (43, 101)]) (kl := [(8, 12), (21, 21), (43, 101)]) (j + 1) (pi' (pi' M fn.name (gi M fn.name - (c0.to - c0.fr))) c0.name (gi (pi' M fn.name (gi M fn.name - (c0.to - c0.fr))) c0.name + (c0.to - c0.fr))) (upd f c0.fr c0.to c0.name) (by repeat (first | exact kf_nil | (apply kf_in; focus rfl) | (apply kf_out; focus rfl))) (by repeat (first | exact kl_nil | exact kl_rest (by assumption) rfl | (apply kl_in; focus rfl) | (apply kl_out; focus rfl))) ?_ ?_ ?_ ?_)
          · omega
          · exact ⟨by omega, hp2.call hcs.1 (by omega) (by omega) (fun x h1 h2 => by rw [hp3, ← List.reverse_reverse (t.ca.l.take j)]; rw [around_lay h1 h2 (layF_at _ 0 _ x fn hfz (mem_at hfn) (by omega) (by omega)) _ (fun b hb => nest_apart _ _ hnest b (by simpa using hb)), har]), by rw [hp3, take_succ_at hc1, layC_app], by rw [sum_put, sum_put]; omega, by have h1 := len_put fn.name (gi M fn.name - (c0.to - c0.fr)) M; have h2 := len_put c0.name (gi (pi' M fn.name (gi M fn.name - (c0.to - c0.fr))) c0.name + (c0.to - c0.fr)) (pi' M fn.name (gi M fn.name - (c0.to - c0.fr))); omega⟩
          · exact ⟨rfl, trivial⟩
          · exact ⟨rfl, trivial⟩
      · try simp only [decide_eq_true_eq, decide_eq_false_iff_not, Bool.or_eq_true, Bool.or_eq_false_iff, Bool.and_eq_true, Bool.and_eq_false_iff, Bool.not_eq_true', Bool.not_eq_false', Bool.not_eq_true, Bool.not_eq_false, Bool.not_true, Bool.not_false, Int.not_lt, Int.not_le, not_or, not_and, Classical.not_not] at h44
        refine T_exit_go (fun _ _ h => h) ?_
        refine T_seq ?_
        refine T_region ?_
        refine S_nilSlice 13 (e := 78) (size := 2) ?_
        refine S_ 13 rfl rfl rfl _ (y_assign rfl rfl) ?_
        refine S_go (fun _ _ h => h) ?_
        refine T_seq ?_
        refine T_seq ?_
        refine T_region ?_
        refine S_ 102 rfl rfl rfl _ (y_move rfl rfl) ?_
        refine S_range 103 21 103 (fun p : Nm × Int => str p.1) (fun p : Nm × Int => Value.int .i64 p.2) (M) (by rw [List.map_map]; rfl) rfl rfl rfl rfl rfl rfl Tryd.underlying126 ?_
        intro r103 es103 ck103
        refine S_go (fun _ _ h => h) ?_
        refine T_block ?_
        refine T_loopK6 (kf := [(13, 15), (104, 116)]) (kl := [(13, 15), (103, 116)]) (fun (rem : List (Nm × Int)) (last : Option (Nm × Int)) (out : List SShare) (q : Nat) (A : Option Addr) (c : Nat) => [(13, true, .slice A q c)]) (fun (rem : List (Nm × Int)) (last : Option (Nm × Int)) (out : List SShare) (q : Nat) (A : Option Addr) (c : Nat) => [(103, .blk r103 (IsIt (fun p : Nm × Int => str p.1) (fun p : Nm × Int => Value.int .i64 p.2) b21 es103 ck103 rem last)), (13, .own 78 2 (.slice A q c) q (out.flatMap SShare.enc))]) (fun (rem : List (Nm × Int)) (last : Option (Nm × Int)) (out : List SShare) (q : Nat) (A : Option Addr) (c : Nat) => (∃ D, M.Perm (D ++ rem) ∧ out = (D.filter posB).map mkS ∧ q ≤ D.length) ∧ out.length = q ∧ q + rem.length ≤ M.length) (fun (rem : List (Nm × Int)) (last : Option (Nm × Int)) (out : List SShare) (q : Nat) (A : Option Addr) (c : Nat) => rem.length) M none [] 0 none 0 (by repeat (first | exact kf_nil | (apply kf_in; focus rfl) | (apply kf_out; focus rfl))) (by repeat (first | exact kl_nil | exact kl_rest (by assumption) rfl | (apply kl_in; focus rfl) | (apply kl_out; focus rfl))) ?_ ?_ ?_ ?_
        · exact ⟨⟨[], List.Perm.refl _, rfl, Nat.le_refl _⟩, rfl, by simp⟩
        · exact ⟨rfl, trivial⟩
        · exact ⟨rfl, rfl, trivial⟩
        rintro rem last out q A c ⟨hr1, hr2, hr3⟩
        refine T_seq ?_
        refine T_region ?_
        refine S_next 104 21 103 rfl rfl rfl rfl rfl rfl rfl ?_
        intro e104 ps104 hn104 hs104
        refine S_ 105 rfl rfl rfl _ (y_extract (v := .bool e104.isSome) rfl rfl (by cases e104 <;> rfl)) ?_
        refine S_go (fun _ _ h => h) ?_
        refine T_seq ?_
        refine T_cond rfl (fun h105 => ?_) (fun h105 => ?_)
        · skip
          obtain ⟨p, rfl⟩ := Option.isSome_iff_exists.1 h105
          have hpm := hs104 p rfl
          refine T_skip_go (fun _ _ h => h) ?_
          refine T_block ?_
          refine T_seq ?_
          refine T_region ?_
          refine S_ 106 rfl rfl rfl _ (y_entry 21 103 rfl rfl rfl rfl) ?_
          refine S_ 107 rfl rfl rfl _ (y_as (v' := str p.1) (by exact rfl) (y_extract rfl rfl rfl)) ?_
          refine S_ 108 rfl rfl rfl _ (y_as (v' := .int .i64 p.2) (by exact rfl) (y_extract rfl rfl rfl)) ?_
          refine S_ 14 rfl rfl rfl _ (y_assign rfl rfl) ?_
          refine S_ 15 rfl rfl rfl _ (y_assign rfl rfl) ?_
          refine S_go (fun _ _ h => h) ?_
          refine T_seq ?_
          refine T_region ?_
          refine S_ 109 rfl rfl rfl _ (y_move rfl rfl) ?_
          refine S_ 110 rfl rfl rfl _ (y_bin rfl rfl rfl (fun _ => b_gtr)) ?_
          refine S_go (fun _ _ h => h) ?_
          refine T_cond rfl (fun h110 => ?_) (fun h110 => ?_)
          · try simp only [decide_eq_true_eq, decide_eq_false_iff_not, Bool.or_eq_true, Bool.or_eq_false_iff, Bool.and_eq_true, Bool.and_eq_false_iff, Bool.not_eq_true', Bool.not_eq_false', Bool.not_eq_true, Bool.not_eq_false, Bool.not_true, Bool.not_false, Int.not_lt, Int.not_le, not_or, not_and, Classical.not_not] at h110
            refine T_region ?_
            refine S_ 111 rfl rfl rfl _ (y_move rfl rfl) ?_
            refine S_ 112 rfl rfl rfl _ (y_move rfl rfl) ?_
            refine S_ 113 rfl rfl rfl _ (y_move rfl rfl) ?_
            refine S_ 114 rfl rfl rfl _ (y_build (zv := .agg #[.string ⟨#[]⟩, .int .i64 0]) (pl := [(0, 1), (1, 1)]) (out := [_, _]) rfl rfl Tryd.underlying78 z78 (by kernel_rfl) rfl) ?_
            refine S_buildSlice 115 115 rfl rfl rfl rfl rfl Tryd.underlying74 inf78 rfl (by decide) (by decide) rfl rfl (by decide) rfl (_) rfl ?_
            intro b115
            obtain ⟨i116, hi116, hz116, hs116, hy116⟩ := info_parts inf78
            refine S_append 116 13 115 rfl rfl rfl rfl rfl rfl rfl rfl Tryd.underlying74 hi116 hz116 hs116 hy116 rfl (by decide) (by decide) rfl ?_ ?_ (q + 1) ((out ++ [mkS p]).flatMap SShare.enc) ?_ ?_ ?_
            · (simp only [maxLen]; omega)
            · omega
            · rfl
            · simp [List.flatMap_append, SShare.enc, mkS]; rfl
            intro A116 c116
            refine S_ 13 rfl rfl rfl _ (y_assign rfl rfl) ?_
            refine S_nil (nextK6 (kf := [(13, 15), (104, 116)]) (kl := [(13, 15), (103, 116)]) ps104 (some p) (out ++ [mkS p]) (q + 1) A116 c116 (by repeat (first | exact kf_nil | (apply kf_in; focus rfl) | (apply kf_out; focus rfl))) (by repeat (first | exact kl_nil | exact kl_rest (by assumption) rfl | (apply kl_in; focus rfl) | (apply kl_out; focus rfl))) ?_ ?_ ?_ ?_)
            · have := hpm.length_eq; simp at this; omega
            · have := hpm.length_eq
              simp at this
              obtain ⟨D, d1, d2, d3⟩ := hr1
              exact ⟨⟨D ++ [p], d1.trans (by rw [List.append_assoc]; exact List.Perm.append_left D hpm), by rw [List.filter_append, List.map_append, d2, List.filter_cons, if_pos (show posB p = true from decide_eq_true (by omega))]; rfl, by simp; omega⟩, by simp [hr2], by omega⟩
            · exact ⟨rfl, trivial⟩
            · exact ⟨rfl, rfl, trivial⟩
          · try simp only [decide_eq_true_eq, decide_eq_false_iff_not, Bool.or_eq_true, Bool.or_eq_false_iff, Bool.and_eq_true, Bool.and_eq_false_iff, Bool.not_eq_true', Bool.not_eq_false', Bool.not_eq_true, Bool.not_eq_false, Bool.not_true, Bool.not_false, Int.not_lt, Int.not_le, not_or, not_and, Classical.not_not] at h110
            refine T_skip (nextK6 (kf := [(13, 15), (104, 116)]) (kl := [(13, 15), (103, 116)]) ps104 (some p) out q A c (by repeat (first | exact kf_nil | (apply kf_in; focus rfl) | (apply kf_out; focus rfl))) (by repeat (first | exact kl_nil | exact kl_rest (by assumption) rfl | (apply kl_in; focus rfl) | (apply kl_out; focus rfl))) ?_ ?_ ?_ ?_)
            · have := hpm.length_eq; simp at this; omega
            · have := hpm.length_eq
              simp at this
              obtain ⟨D, d1, d2, d3⟩ := hr1
              exact ⟨⟨D ++ [p], d1.trans (by rw [List.append_assoc]; exact List.Perm.append_left D hpm), by rw [List.filter_append, List.map_append, d2, List.filter_cons, if_neg (by simp [posB]; omega)]; simp, by simp; omega⟩, hr2, by omega⟩
            · exact ⟨rfl, trivial⟩
            · exact ⟨rfl, rfl, trivial⟩
        · skip
          have hq0 : e104 = none := by simpa using h105
          have hr0 := hn104 hq0
          refine T_exit_go (fun _ _ h => h) ?_
          refine T_seq ?_
          refine T_region ?_
          refine S_ 117 rfl rfl rfl _ (y_move rfl rfl) ?_
          refine S_callM 118 [(0, 13)] (X := List SShare) rfl rfl rfl rfl rfl rfl rfl cf83 rfl (fun _ => .tuple #[]) (fun l => l = out.mergeSort le) (fun l => [(0, .own 78 2 (.slice A q c) q (l.flatMap SShare.enc))]) (fun _ => rfl) (fun _ => rfl) (fun K1 hK1 w hM => hS hK1 A q c out w hr2 (by omega) hM) ?_
          intro sl hsl
          refine S_go (fun _ _ h => h) ?_
          refine T_seq ?_
          refine T_region ?_
          refine S_ 119 rfl rfl rfl _ (y_move rfl rfl) ?_
          refine S_ 2 rfl rfl rfl _ (y_assign rfl rfl) ?_
          refine S_ 3 rfl rfl rfl _ (y_assign rfl rfl) ?_
          refine S_go (fun _ _ h => h) ?_
          refine T_ret (fun a w hF hM => hRb a w (post2 rfl rfl rfl (fun w hM => ?_) a w hF hM))
          have hln : sl.length = q := by rw [hsl, List.length_mergeSort, hr2]
          have e9 : shIt A c sl = .own 78 2 (.slice A q c) q (sl.flatMap SShare.enc) := by unfold shIt; rw [hln]
          refine ⟨(sl, A, c), by rw [h19]; show _ = Ending.returned (.tuple #[.slice A sl.length c, .int .i64 0]); rw [hln], ?_, ?_⟩
          · obtain ⟨D, d1, d2, d3⟩ := hr1
            unfold ShOk
            rw [if_neg (by simp [h19])]
            rw [hr0, List.append_nil] at d1
            have hj : t.ca.l.take j = t.ca.l := List.take_of_length_le (by have := hct.len; omega)
            rw [hj] at hp3
            exact ⟨M, D, by rw [← hp3]; exact hp2, hp4, d1, by rw [hsl, d2], by omega⟩
          · show Mem w0 ([(13, shIt A c sl)] ++ K) w
            rw [e9]
            exact hM.keep (ks := [(0, 999)]) (by repeat (first | exact kl_rest (by assumption) rfl | (apply kl_in; focus rfl))) _ ⟨rfl, trivial⟩
end Go.Proofs.YtofolhnecfkjkaaDoor
