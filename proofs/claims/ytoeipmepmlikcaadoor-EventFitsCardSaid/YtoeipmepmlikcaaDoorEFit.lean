/- event.Fit. Conditions: those of the theorem. -/
import Derived.Test.YtoeipmepmlikcaaDoorECutF
namespace Go.Proofs.YtoeipmepmlikcaaDoor
set_option linter.unusedSimpArgs false
set_option linter.unusedVariables false
set_option maxRecDepth 20000
open Go.RowKit Go.Eng
structure FitR where
  ev : Evt
  rs : List Row
def evZ : Evt := ⟨[], 0, 0, ⟨none, 0, 0, []⟩, ⟨none, 0, 0, []⟩, ⟨none, 0, 0, []⟩, [], [], 0⟩
def limBad (f c t x : Int) : Bool := (decide (f < 1) || decide (200 < f)) || (decide (c < 0) || decide (50 < c)) || (decide (t < 0) || decide (40 < t)) || (decide (x < 1) || decide (2000 < x))
def fitNo (e : Evt) (f c t x : Int) : Int := if evNo e ≠ 0 then evNo e else if limBad f c t x = true then 2 else 0
def fitF (f x : Int) (y : Flt) : List UInt8 × List UInt8 × List Frm := (y.k, cutS y.t x, cutF y.fr.l f.toNat)
def fitC (x : Int) (y : SCrumb) : SCrumb := { y with t := cutS y.t x }
structure FitP (e : Evt) (f c t x : Int) (v : Evt) : Prop where
  id : v.id = e.id
  at_ : v.at_ = e.at_
  lv : v.lv = e.lv
  rel : v.rel = e.rel
  us : v.us = e.us
  wt : v.wt = e.wt
  fa : v.fa.l.map Flt.cont = e.fa.l.map (fitF f x)
  ta : v.ta.l = e.ta.l.take t.toNat
  cr : v.cr.l = (e.cr.l.drop (e.cr.q - c.toNat)).map (fitC x)
theorem set1 {gs : List Flt} {l : List Flt} {x y : Flt} {i : Nat} (hg : gs.length = i) (h : l.drop i = x :: l.drop (i + 1)) : (gs ++ l.drop i).set i y = gs ++ y :: l.drop (i + 1) := by
  subst hg
  rw [h]; simp
theorem at1 {gs r : List Flt} {y : Flt} {i : Nat} (hg : gs.length = i) : (gs ++ y :: r)[i]? = some y := by
  subst hg
  simp
theorem set2 {gs r : List Flt} {x y : Flt} {i : Nat} (hg : gs.length = i) : (gs ++ x :: r).set i y = (gs ++ [y]) ++ r := by
  subst hg
  simp
theorem flts_small : ∀ l : List Flt, fltsNo l = 0 → ∀ f ∈ l, fltNo f = 0
  | [], _ => fun f h => by simp at h
  | a :: r, h => fun f hf => by
    rw [fltsNo] at h
    by_cases ha : fltNo a = 0
    · rw [if_neg (by simpa using ha)] at h
      rcases List.mem_cons.1 hf with rfl | h1
      · exact ha
      · exact flts_small r h f h1
    · rw [if_pos ha] at h; exact absurd h ha
theorem set_nextC {α : Type} {gs l : List α} {x y : α} {i : Nat} (hg : gs.length = i) (h : l.drop i = x :: l.drop (i + 1)) : (gs ++ l.drop i).set i y = (gs ++ [y]) ++ l.drop (i + 1) := by
  subst hg
  rw [h]; simp
theorem at_nextC {α : Type} {gs l : List α} {x : α} {i : Nat} (hg : gs.length = i) (h : l.drop i = x :: l.drop (i + 1)) : (gs ++ l.drop i)[i]? = some x := by
  subst hg
  rw [h]; simp
theorem T_known {P : Program} {w0 : World} {n : Nat} {c : Code} {F : FL} {L : HL} {Q : Exit → Act → World → Prop} {p : Prop} (hp : ∀ w, Mem w0 L w → p) (h : p → T P w0 n c F L Q) : T P w0 n c F L Q := fun a w hF hM => h (hp w hM) a w hF hM
theorem map_at {α β γ : Type} {f : α → γ} {f' : β → γ} {l : List α} {m : List β} {i : Nat} {y : α} (h : l.map f = m.map f') (hy : l[i]? = some y) : ∃ y0, m[i]? = some y0 ∧ f y = f' y0 := by
  have h1 : (m.map f')[i]? = some (f y) := by rw [← h]; simp [hy]
  rw [List.getElem?_map] at h1
  obtain ⟨y0, h2, h3⟩ := Option.map_eq_some_iff.1 h1
  exact ⟨y0, h2, h3.symm⟩
theorem cutS_len (s : List UInt8) (n : Int) (h0 : 1 ≤ n) (h1 : n ≤ 2000) : (cutS s n).length ≤ 2000 := by
  unfold cutS
  split
  · omega
  · split
    · rw [List.length_replicate]; omega
    · simp only [List.length_append, List.length_take, List.length_cons, List.length_nil]; omega
theorem mem_cutF {l : List Frm} {n : Nat} {g : Frm} (h : g ∈ cutF l n) : g ∈ l := by
  unfold cutF at h
  split at h
  · exact h
  · rcases List.mem_append.1 h with h | h
    · exact List.mem_of_mem_take h
    · exact List.mem_of_mem_drop h
theorem fst_0 {a b : Int} (h : fst a b = 0) : a = 0 ∧ b = 0 := by
  unfold fst at h
  split at h
  · exact absurd h ‹_›
  · exact ⟨by omega, h⟩
theorem ev_parts {e : Evt} (h : evNo e = 0) : faultsNo e.fa = 0 ∧ (e.ta.q ≤ 40 ∧ tagsNo none e.ta.l = 0) ∧ (e.cr.q ≤ 50 ∧ crumbsNo none e.cr.l = 0) := by
  unfold evNo at h
  obtain ⟨_, h⟩ := fst_0 h
  obtain ⟨h1, h⟩ := fst_0 h
  obtain ⟨h2, h⟩ := fst_0 h
  obtain ⟨h3, _⟩ := fst_0 h
  refine ⟨h1, ?_, ?_⟩
  · split at h2
    · cases h2
    · exact ⟨by omega, h2⟩
  · split at h3
    · cases h3
    · exact ⟨by omega, h3⟩
theorem flt_parts {y : Flt} (h : fltNo y = 0) : framesNo y.fr = 0 ∧ sayNo y.t = 0 ∧ y.fr.q ≤ 200 := by
  unfold fltNo at h
  split at h
  · cases h
  · split at h
    · cases h
    · split at h
      · cases h
      · split at h
        · exact absurd h ‹_›
        · refine ⟨h, Decidable.not_not.1 ‹_›, ?_⟩
          unfold framesNo at h
          split at h
          · cases h
          · omega
theorem faults_parts {l : Sl Flt} (h : faultsNo l = 0) : l.q ≤ 10 ∧ ∀ y ∈ l.l, fltNo y = 0 := by
  unfold faultsNo at h
  split at h
  · cases h
  · split at h
    · cases h
    · exact ⟨by omega, flts_small _ h⟩
theorem evZ_ok (w : World) : evZ.Ok w :=
  ⟨⟨⟨⟨⟨rfl, fun h => absurd h (by decide)⟩, rfl⟩, Nat.le_refl 0⟩, by decide, fun f hf => by simp [evZ] at hf⟩, ⟨⟨⟨⟨rfl, fun h => absurd h (by decide)⟩, rfl⟩, Nat.le_refl 0⟩, by decide, fun f hf => by simp [evZ] at hf⟩, ⟨⟨⟨⟨rfl, fun h => absurd h (by decide)⟩, rfl⟩, Nat.le_refl 0⟩, by decide, fun f hf => by simp [evZ] at hf⟩, by decide, by decide, by decide⟩
theorem fit_ok {w0 : World} {e : Evt} {rs : List Row} {A B D : Option Addr} {c b d tq cq : Nat} {gs : List Flt} {tl : List STag} {ds : List SCrumb} (he : e.Ok w0) (hgs : gs.length = e.fa.q) (h4 : ∀ g ∈ gs, Sees w0 rs fun w => FltOk w g) (hq : e.fa.q ≤ 10)
    (htl : tl.length = tq) (ht40 : tq ≤ 40) (hts : ∀ s ∈ tl, s ∈ e.ta.l) (hcl : ds.length = cq) (hc50 : cq ≤ 50) (hds : ∀ s ∈ ds, s.k.length ≤ 4611686018427387904 ∧ s.t.length ≤ 4611686018427387904) :
    Sees w0 (((rs ++ [(⟨70, 3, .slice A e.fa.q c, e.fa.q, gs.flatMap Flt.enc⟩ : Row)]) ++ [⟨78, 3, .slice D cq d, cq, ds.flatMap SCrumb.enc⟩]) ++ [⟨128, 2, .slice B tq b, tq, tl.flatMap STag.enc⟩])
      fun w => Evt.Ok w ⟨e.id, e.at_, e.lv, ⟨A, e.fa.q, c, gs⟩, ⟨B, tq, b, tl⟩, ⟨D, cq, d, ds⟩, e.rel, e.us, e.wt⟩ := fun w hb hr =>
  ⟨⟨row_ok (hr _ (List.mem_append_left _ (List.mem_append_left _ (List.mem_append_right _ (List.mem_singleton.2 rfl))))) hgs, Nat.le_trans hq (by decide), fun g hg => h4 g hg w hb fun r h => hr r (List.mem_append_left _ (List.mem_append_left _ (List.mem_append_left _ h)))⟩,
   ⟨row_ok (hr _ (List.mem_append_right _ (List.mem_singleton.2 rfl))) htl, Nat.le_trans ht40 (by decide), fun s hs => he.ta.n s (hts s hs)⟩,
   ⟨row_ok (hr _ (List.mem_append_left _ (List.mem_append_right _ (List.mem_singleton.2 rfl)))) hcl, Nat.le_trans hc50 (by decide), hds⟩, he.id, he.rel, he.us⟩
set_option maxHeartbeats 1600000 in
theorem Fit_any {w0 : World} {K : HL} (hK : FromK K) (e : Evt) (f c t x : Int) (w : World) (he : e.Ok w0) (hM0 : Mem w0 ([] ++ K) w) :
    Calls Tryd.prog 42 #[e.val, .agg #[.int .i64 f, .int .i64 c, .int .i64 t, .int .i64 x]] w fun en w' => ∃ z : FitR, en = .returned (.tuple #[z.ev.val, .int .i64 (fitNo e f c t x)]) ∧ (((fitNo e f c t x = 0 → FitP e f c t x z.ev) ∧ (fitNo e f c t x ≠ 0 → z.ev = evZ)) ∧ Sees w0 z.rs fun w => z.ev.Ok w) ∧ Mem w0 ([(900, .many z.rs)] ++ K) w' := by
  refine enterM_args (args := [.agg #[str e.id, .int .i64 e.at_, .int .i64 e.lv, .slice e.fa.A e.fa.q e.fa.c, .slice e.ta.A e.ta.q e.ta.c, .slice e.cr.A e.cr.q e.cr.c, str e.rel, str e.us, .int .i64 e.wt], .agg #[.int .i64 f, .int .i64 c, .int .i64 t, .int .i64 x]]) (F := _) hM0 Tryd.func42 rfl Tryd.ntmps42 rfl rfl ?_
  intro Rb hRb hRn
  refine T_seq ?_
  refine T_region ?_
  refine S_box 2 2 rfl rfl rfl rfl rfl ?_
  intro b2
  refine S_box 3 3 rfl rfl rfl rfl rfl ?_
  intro b3
  refine S_alloc 4 4 rfl rfl rfl rfl z52 ?_
  intro b4
  refine S_ 5 rfl rfl rfl _ (y_assign rfl rfl) ?_
  refine S_go (fun _ _ h => h) ?_
  refine T_seq ?_
  refine T_seq ?_
  refine T_region ?_
  refine S_ 10 rfl rfl rfl _ (y_loadA 2 rfl rfl rfl Tryd.underlying52 rfl sz52) ?_
  refine S_ 11 rfl rfl rfl _ (y_call rfl rfl rfl cf33 (fun _ w hM => Check_any e w (he.below hM.below))) ?_
  refine S_ 6 rfl rfl rfl _ (y_assign rfl rfl) ?_
  refine S_go (fun _ _ h => h) ?_
  refine T_seq ?_
  refine T_region ?_
  refine S_ 12 rfl rfl rfl _ (y_move rfl rfl) ?_
  refine S_ 13 rfl rfl rfl _ (y_bin rfl rfl rfl (fun _ => b_neq)) ?_
  refine S_go (fun _ _ h => h) ?_
  refine T_cond rfl (fun h13 => ?_) (fun h13 => ?_)
  · try simp only [decide_eq_true_eq, decide_eq_false_iff_not, Bool.or_eq_true, Bool.or_eq_false_iff, Bool.and_eq_true, Bool.and_eq_false_iff, Bool.not_eq_true', Bool.not_eq_false', Bool.not_eq_true, Bool.not_eq_false, Bool.not_true, Bool.not_false, Int.not_lt, Int.not_le, not_or, not_and, Classical.not_not] at h13
    refine T_many0 900 ?_
    refine T_seq ?_
    refine T_region ?_
    refine S_ 14 rfl rfl rfl _ (y_build (zv := .agg #[.string ⟨#[]⟩, .int .i64 0, .int .i64 0, .slice none 0 0, .slice none 0 0, .slice none 0 0, .string ⟨#[]⟩, .string ⟨#[]⟩, .int .i64 0]) (pl := [(0, 1), (1, 1), (2, 1), (3, 1), (4, 1), (5, 1), (6, 1), (7, 1), (8, 1)]) (out := [.string ⟨#[]⟩, .int .i64 0, .int .i64 0, .slice none 0 0, .slice none 0 0, .slice none 0 0, .string ⟨#[]⟩, .string ⟨#[]⟩, .int .i64 0]) rfl rfl Tryd.underlying52 z52 (by kernel_rfl) rfl) ?_
    refine S_ 15 rfl rfl rfl _ (y_move rfl rfl) ?_
    refine S_store 4 rfl rfl rfl rfl rfl rfl sz52 rfl rfl ?_
    refine S_ 5 rfl rfl rfl _ (y_assign rfl rfl) ?_
    refine S_go (fun _ _ h => h) ?_
    refine T_ret (fun a w hF hM => hRb a w (post_cell 4 rfl rfl rfl rfl Tryd.underlying52 rfl (by exact sz52) (fun w hM => ?_) a w hF hM))
    exact ⟨⟨evZ, []⟩, by rw [fitNo, if_pos h13]; rfl, ⟨⟨fun h => absurd (by rwa [fitNo, if_pos h13] at h) h13, fun _ => rfl⟩, fun w _ _ => evZ_ok w⟩, hM.keep (ks := [(0, 999)]) (by repeat (first | exact kl_rest (by assumption) rfl | (apply kl_in; focus rfl))) _ ⟨rfl, trivial⟩⟩
  · try simp only [decide_eq_true_eq, decide_eq_false_iff_not, Bool.or_eq_true, Bool.or_eq_false_iff, Bool.and_eq_true, Bool.and_eq_false_iff, Bool.not_eq_true', Bool.not_eq_false', Bool.not_eq_true, Bool.not_eq_false, Bool.not_true, Bool.not_false, Int.not_lt, Int.not_le, not_or, not_and, Classical.not_not] at h13
    obtain ⟨hp_f, ⟨hp_t, hp_u⟩, ⟨hp_c, hp_d⟩⟩ := ev_parts h13
    obtain ⟨hfq, hfn⟩ := faults_parts hp_f
    refine T_skip_go (fun _ _ h => h) ?_
    refine T_seq ?_
    refine T_seq ?_
    refine T_region ?_
    refine S_ 16 rfl rfl rfl _ (y_fieldAddr rfl rfl fa64_0) ?_
    refine S_ 17 rfl rfl rfl _ (y_load 3 rfl rfl rfl rfl Tryd.underlying3 rfl) ?_
    refine S_ 18 rfl rfl rfl _ (y_call rfl rfl rfl cf93 (fun _ w _ => eoutside_any _ _ _ w)) ?_
    refine S_ 19 rfl rfl rfl _ (y_move rfl rfl) ?_
    refine Sg_ 20 rfl rfl rfl rfl rfl rfl _ (y_fieldAddr rfl rfl fa64_1) ?_
    refine Sg_ 21 rfl rfl rfl rfl rfl rfl _ (y_load 3 rfl rfl rfl rfl Tryd.underlying3 rfl) ?_
    refine Sg_ 22 rfl rfl rfl rfl rfl rfl _ (y_call rfl rfl rfl cf93 (fun _ w _ => eoutside_any _ _ _ w)) ?_
    refine S_ 23 rfl rfl rfl _ (y_or rfl rfl rfl) ?_
    refine S_ 24 rfl rfl rfl _ (y_move rfl rfl) ?_
    refine Sg_ 25 rfl rfl rfl rfl rfl rfl _ (y_fieldAddr rfl rfl fa64_2) ?_
    refine Sg_ 26 rfl rfl rfl rfl rfl rfl _ (y_load 3 rfl rfl rfl rfl Tryd.underlying3 rfl) ?_
    refine Sg_ 27 rfl rfl rfl rfl rfl rfl _ (y_call rfl rfl rfl cf93 (fun _ w _ => eoutside_any _ _ _ w)) ?_
    refine S_ 28 rfl rfl rfl _ (y_or rfl rfl rfl) ?_
    refine S_ 29 rfl rfl rfl _ (y_move rfl rfl) ?_
    refine Sg_ 30 rfl rfl rfl rfl rfl rfl _ (y_fieldAddr rfl rfl fa64_3) ?_
    refine Sg_ 31 rfl rfl rfl rfl rfl rfl _ (y_load 3 rfl rfl rfl rfl Tryd.underlying3 rfl) ?_
    refine Sg_ 32 rfl rfl rfl rfl rfl rfl _ (y_call rfl rfl rfl cf93 (fun _ w _ => eoutside_any _ _ _ w)) ?_
    refine S_ 33 rfl rfl rfl _ (y_as (v' := .bool (limBad f c t x)) (by exact rfl) (y_or rfl rfl rfl)) ?_
    refine S_go (fun _ _ h => h) ?_
    refine T_cond rfl (fun h33 => ?_) (fun h33 => ?_)
    · skip
      refine T_many0 900 ?_
      refine T_seq ?_
      refine T_region ?_
      refine S_ 34 rfl rfl rfl _ (y_build (zv := .agg #[.string ⟨#[]⟩, .int .i64 0, .int .i64 0, .slice none 0 0, .slice none 0 0, .slice none 0 0, .string ⟨#[]⟩, .string ⟨#[]⟩, .int .i64 0]) (pl := [(0, 1), (1, 1), (2, 1), (3, 1), (4, 1), (5, 1), (6, 1), (7, 1), (8, 1)]) (out := [.string ⟨#[]⟩, .int .i64 0, .int .i64 0, .slice none 0 0, .slice none 0 0, .slice none 0 0, .string ⟨#[]⟩, .string ⟨#[]⟩, .int .i64 0]) rfl rfl Tryd.underlying52 z52 (by kernel_rfl) rfl) ?_
      refine S_store 4 rfl rfl rfl rfl rfl rfl sz52 rfl rfl ?_
      refine S_ 5 rfl rfl rfl _ (y_assign rfl rfl) ?_
      refine S_go (fun _ _ h => h) ?_
      refine T_ret (fun a w hF hM => hRb a w (post_cell 4 rfl rfl rfl rfl Tryd.underlying52 rfl (by exact sz52) (fun w hM => ?_) a w hF hM))
      have hf2 : fitNo e f c t x = 2 := by rw [fitNo, if_neg (by simp [h13]), if_pos h33]
      exact ⟨⟨evZ, []⟩, by rw [hf2]; rfl, ⟨⟨fun h => absurd (hf2 ▸ h : (2 : Int) = 0) (by decide), fun _ => rfl⟩, fun w _ _ => evZ_ok w⟩, hM.keep (ks := [(0, 999)]) (by repeat (first | exact kl_rest (by assumption) rfl | (apply kl_in; focus rfl))) _ ⟨rfl, trivial⟩⟩
    · skip
      have hlim : (1 ≤ f ∧ f ≤ 200) ∧ (0 ≤ c ∧ c ≤ 50) ∧ (0 ≤ t ∧ t ≤ 40) ∧ (1 ≤ x ∧ x ≤ 2000) := by
        simp [limBad] at h33
        omega
      refine T_skip_go (fun _ _ h => h) ?_
      refine T_seq ?_
      refine T_region ?_
      refine S_ 35 rfl rfl rfl _ (y_loadA 2 rfl rfl rfl Tryd.underlying52 rfl sz52) ?_
      refine S_callN 36 [] [(8, 908), (900, 900), (35, 935), (39, 939)] (X := CopyR) rfl rfl rfl rfl rfl rfl rfl cf106 rfl (fun z => .agg #[str e.id, .int .i64 e.at_, .int .i64 e.lv, .slice z.A e.fa.q z.c, .slice z.B e.ta.q z.b, .slice z.D e.cr.q z.d, str e.rel, str e.us, .int .i64 e.wt]) (fun z => z.gs.map Flt.cont = e.fa.l.map Flt.cont ∧ ∀ f ∈ z.gs, f.fr.q = f.fr.l.length ∧ Sees w0 z.rs fun w => FrmsOk w f.fr) (fun z => z.L e) (fun _ => rfl) (fun _ => rfl) (fun K1 hK1 w hM => Copy_any hK1 e w he ⟨by omega, by omega, by omega, fun g hg => by have := (flt_parts (hfn g hg)).2.2; omega⟩ hM) ?_
      rintro z ⟨hz1, hz2⟩
      have hzl : z.gs.length = e.fa.q := by have := congrArg List.length hz1; simp only [List.length_map] at this; rw [this, he.fa.ok.t.len]
      refine S_store 2 rfl rfl rfl rfl rfl rfl sz52 rfl rfl ?_
      refine S_go (fun _ _ h => h) ?_
      refine T_seq ?_
      refine T_seq ?_
      refine T_region ?_
      refine S_ 37 rfl rfl rfl _ (y_fieldAddr rfl rfl fa52_3) ?_
      refine S_ 38 rfl rfl rfl _ (y_load 2 rfl rfl rfl rfl Tryd.underlying48 rfl) ?_
      refine S_ 39 rfl rfl rfl _ (y_len_slice rfl rfl Tryd.underlying48) ?_
      refine S_ 40 rfl rfl rfl _ (y_move rfl rfl) ?_
      refine S_go (fun _ _ h => h) ?_
      refine T_block ?_
      refine T_loopK3 (kf := [(7, 8), (40, 71)]) (kl := [(7, 8), (40, 71), (900, 900), (908, 908)]) (fun (i : Nat) (gs : List Flt) (rs : List Row) => [(40, true, .int .i64 (i : Int))]) (fun (i : Nat) (gs : List Flt) (rs : List Row) => [(908, .own 70 3 (.slice z.A e.fa.q z.c) e.fa.q ((gs ++ z.gs.drop i).flatMap Flt.enc)), (900, .many rs)]) (fun (i : Nat) (gs : List Flt) (rs : List Row) => i ≤ e.fa.q ∧ gs.length = i ∧ gs.map Flt.cont = (e.fa.l.take i).map (fitF f x) ∧ (∀ g ∈ gs, Sees w0 rs fun w => FltOk w g) ∧ (∀ g ∈ z.gs, Sees w0 rs fun w => FrmsOk w g.fr)) (fun (i : Nat) (gs : List Flt) (rs : List Row) => e.fa.q - i) 0 [] z.rs (by repeat (first | exact kf_nil | (apply kf_in; focus rfl) | (apply kf_out; focus rfl))) (by repeat (first | exact kl_nil | exact kl_rest (by assumption) rfl | (apply kl_in; focus rfl) | (apply kl_out; focus rfl))) ?_ ?_ ?_ ?_
      · exact ⟨by omega, rfl, rfl, fun _ h => by simp at h, fun g hg => (hz2 g hg).2⟩
      · exact ⟨rfl, trivial⟩
      · exact ⟨rfl, rfl, trivial⟩
      rintro i gs rs ⟨hp1, hp2, hp3, hp4, hp5⟩
      refine T_seq ?_
      refine T_region ?_
      refine S_ 41 rfl rfl rfl _ (y_bin rfl rfl rfl (fun _ => b_lss)) ?_
      refine S_go (fun _ _ h => h) ?_
      refine T_seq ?_
      refine T_cond rfl (fun h41 => ?_) (fun h41 => ?_)
      · try simp only [decide_eq_true_eq, decide_eq_false_iff_not, Bool.or_eq_true, Bool.or_eq_false_iff, Bool.and_eq_true, Bool.and_eq_false_iff, Bool.not_eq_true', Bool.not_eq_false', Bool.not_eq_true, Bool.not_eq_false, Bool.not_true, Bool.not_false, Int.not_lt, Int.not_le, not_or, not_and, Classical.not_not] at h41
        obtain ⟨y, hx1, hx2⟩ := at_lt (l := z.gs) (i := i) (by omega)
        obtain ⟨y0, hy1, hy2⟩ := map_at hz1 hx1
        simp only [Flt.cont, Prod.mk.injEq] at hy2
        obtain ⟨hk, ht, hl⟩ := hy2
        obtain ⟨hyF, hyS, hyQ⟩ := flt_parts (hfn y0 (mem_at hy1))
        have hy0 := he.fa.n y0 (mem_at hy1)
        have hyt : y.t.length ≤ 4611686018427387904 := by rw [ht]; exact hy0.t
        have hyq : y.fr.q = y0.fr.q := by rw [(hz2 y (mem_at hx1)).1, hl, hy0.fr.ok.t.len]
        have hyN : framesNo y.fr = 0 := by unfold framesNo at hyF ⊢; rw [hyq, hl]; exact hyF
        have hyl : y.fr.l.length ≤ 200 := by rw [← (hz2 y (mem_at hx1)).1, hyq]; exact hyQ
        refine T_skip_go (fun _ _ h => h) ?_
        refine T_seq ?_
        refine T_block ?_
        refine T_seq ?_
        refine T_region ?_
        refine S_ 42 rfl rfl rfl _ (y_move rfl rfl) ?_
        refine S_ 7 rfl rfl rfl _ (y_assign rfl rfl) ?_
        refine S_go (fun _ _ h => h) ?_
        refine T_seq ?_
        refine T_region ?_
        refine S_ 43 rfl rfl rfl _ (y_fieldAddr rfl rfl fa52_3) ?_
        refine S_ 44 rfl rfl rfl _ (y_load 2 rfl rfl rfl rfl Tryd.underlying48 rfl) ?_
        refine S_ 45 rfl rfl rfl _ (y_move rfl rfl) ?_
        refine S_ 46 rfl rfl rfl _ (y_indexOwn 908 rfl rfl rfl rfl Tryd.underlying48 sz70 (fun _ => by omega)) ?_
        refine S_ 8 rfl rfl rfl _ (y_assign rfl rfl) ?_
        refine S_go (fun _ _ h => h) ?_
        refine T_seq ?_
        refine T_perm [0, 1, 2, 3, 4, 5, 6, 7, 8, 9, 10, 11, 12, 13, 14] [true, true, true, true, true, true, true, false, true, true, true, true, true, true, false] [0, 0, 2, 6, 14, 0, 32, 126, 254, 510, 510, 510, 1023, 5119, 13311] [(2, [908]), (3, [908]), (4, [908]), (6, [3]), (12, [908]), (13, [908])] (by kernel_rfl) (by kernel_rfl) (by kernel_rfl) rfl (by kernel_rfl) ?_
        refine Rf_ 0 48 rfl rfl rfl rfl rfl _ trivial (Y.z (y_move rfl rfl) rfl) ?_
        refine Rf_ 1 49 rfl rfl rfl rfl rfl _ trivial (Y.z (y_move rfl rfl) rfl) ?_
        refine Rf_ 2 50 rfl rfl rfl rfl rfl _ ⟨rfl, trivial⟩ (Z.of (z_nilCheckOwn 908 rfl rfl rfl (by omega))) ?_
        refine Rf_ 3 51 rfl rfl rfl rfl rfl _ ⟨rfl, trivial⟩ (Y.z (y_fieldOwn 908 rfl rfl rfl (fun _ => by omega) fa70_2) rfl) ?_
        refine Rf_ 4 52 rfl rfl rfl rfl rfl _ ⟨rfl, trivial⟩ (Y.z (y_load_cellOwn 908 rfl rfl rfl (fun _ => by omega) (fun _ => flat_at (enc := Flt.enc) (size := 3) (fun _ => rfl) (at_next hp2 hx2) 2 (.slice y.fr.A y.fr.q y.fr.c) rfl) Tryd.underlying68 rfl) rfl) ?_
        refine Rf_ 5 53 rfl rfl rfl rfl rfl _ trivial (Y.z (y_fieldAddr rfl rfl fa64_0) rfl) ?_
        refine Rf_ 6 54 rfl rfl rfl rfl rfl _ ⟨rfl, trivial⟩ (Y.z (y_load 3 rfl rfl rfl rfl Tryd.underlying3 rfl) rfl) ?_
        refine R_chain 7 rfl rfl ?_
        refine S_callOwn 55 55 rfl rfl rfl rfl rfl rfl rfl cf107 (fun A c => .tuple #[.slice A (cutF y.fr.l f.toNat).length c, .int .i64 (if (y.fr.q : Int) ≤ f then 0 else y.fr.q - f), .int .i64 0]) 148 6 ((cutF y.fr.l f.toNat).length) ((cutF y.fr.l f.toNat).flatMap Frm.enc) (fun w hM => Cut_any y.fr f w ((hp5 y (mem_at hx1)).at hM 900 rfl) hyN (by omega) (by omega)) ?_
        intro A55 c55
        refine R_next ⟨.inl rfl, .inl rfl, .inl rfl, .inl rfl, .inl rfl, .inl rfl, trivial⟩ ?_
        refine Rf_ 8 47 rfl rfl rfl rfl rfl _ trivial (Y.z (y_move rfl rfl) rfl) ?_
        refine Rf_ 9 56 rfl rfl rfl rfl rfl _ trivial (Y.z (y_extract rfl rfl rfl) rfl) ?_
        refine Rf_ 10 57 rfl rfl rfl rfl rfl _ trivial (Y.z (y_extract rfl rfl rfl) rfl) ?_
        refine Rf_ 11 58 rfl rfl rfl rfl rfl _ trivial (Y.z (y_extract rfl rfl rfl) rfl) ?_
        refine Rf_ 12 59 rfl rfl rfl rfl rfl _ ⟨rfl, trivial⟩ (Z.of (z_nilCheckOwn 908 rfl rfl rfl (by omega))) ?_
        refine Rf_ 13 60 rfl rfl rfl rfl rfl _ ⟨rfl, trivial⟩ (Y.z (y_fieldOwn 908 rfl rfl rfl (fun _ => by omega) fa70_2) rfl) ?_
        refine R_chain 14 rfl rfl ?_
        refine S_storeOwn 908 rfl rfl rfl rfl rfl rfl sz68 rfl rfl ?_ (xs' := (gs ++ (⟨y.k, y.t, ⟨A55, (cutF y.fr.l f.toNat).length, c55, cutF y.fr.l f.toNat⟩⟩ : Flt) :: z.gs.drop (i + 1)).flatMap Flt.enc) ?_ ?_
        · (rw [flat_lenN (enc := Flt.enc) (size := 3) (fun _ => rfl)]; simp; omega)
        · rw [← set1 hp2 hx2]; exact flat_set (enc := Flt.enc) (size := 3) (off := 2) (fun _ => rfl) (at_next hp2 hx2) (by decide) rfl
        refine R_next ⟨.inl rfl, .inl rfl, .inl rfl, .inl rfl, .inl rfl, .inl rfl, trivial⟩ ?_
        refine R_go (fun _ _ h => h) ?_
        refine T_drawsTail 10 (by kernel_rfl) (by kernel_rfl) ?_
        refine D_ 61 rfl rfl rfl _ (y_move rfl rfl) ?_
        refine D_ 62 rfl rfl rfl _ (y_move rfl rfl) ?_
        refine D_ 63 rfl rfl rfl _ (y_nilCheckOwn 908 rfl rfl rfl (fun _ => by omega)) ?_
        refine D_ 64 rfl rfl rfl _ (y_fieldOwn 908 rfl rfl rfl (fun _ => by omega) fa70_1) ?_
        refine D_ 65 rfl rfl rfl _ (y_load_cellOwn 908 rfl rfl rfl (fun _ => by omega) (fun _ => flat_at (enc := Flt.enc) (size := 3) (fun _ => rfl) (at1 hp2) 1 (str y.t) rfl) Tryd.underlying9 rfl) ?_
        refine D_ 66 rfl rfl rfl _ (y_fieldAddr rfl rfl fa64_3) ?_
        refine D_ 67 rfl rfl rfl _ (y_load 3 rfl rfl rfl rfl Tryd.underlying3 rfl) ?_
        refine D_ 68 rfl rfl rfl _ (y_call rfl rfl rfl cf108 (fun _ w _ => eshort_any y.t x (by omega) (by omega) (by omega) w)) ?_
        refine D_ 69 rfl rfl rfl _ (y_nilCheckOwn 908 rfl rfl rfl (fun _ => by omega)) ?_
        refine D_ 70 rfl rfl rfl _ (y_fieldOwn 908 rfl rfl rfl (fun _ => by omega) fa70_1) ?_
        refine D_tail ?_
        refine S_storeOwn 908 rfl rfl rfl rfl rfl rfl sz9 rfl rfl ?_ (xs' := ((gs ++ [(⟨y.k, cutS y.t x, ⟨A55, (cutF y.fr.l f.toNat).length, c55, cutF y.fr.l f.toNat⟩⟩ : Flt)]) ++ z.gs.drop (i + 1)).flatMap Flt.enc) ?_ ?_
        · (rw [flat_lenN (enc := Flt.enc) (size := 3) (fun _ => rfl)]; simp; omega)
        · rw [← set2 hp2]; exact flat_set (enc := Flt.enc) (size := 3) (off := 1) (fun _ => rfl) (at1 hp2) (by decide) rfl
        refine S_go (fun _ _ h => h) ?_
        refine T_region ?_
        refine S_ 71 rfl rfl rfl _ (y_bin rfl rfl rfl (fun hg => b_add (by omega))) ?_
        refine S_ 40 rfl rfl rfl _ (y_move rfl rfl) ?_
        refine S_bank [(55, 55), (900, 900)] 900 55 rfl rfl rfl rfl (by repeat (first | exact kl_nil | exact kl_rest (by assumption) rfl | (apply kl_in; focus rfl) | (apply kl_out; focus rfl))) ?_
        refine S_nil (nextK3 (kf := [(7, 8), (40, 71)]) (kl := [(7, 8), (40, 71), (900, 900), (908, 908)]) (i + 1) (gs ++ [⟨y.k, cutS y.t x, ⟨A55, (cutF y.fr.l f.toNat).length, c55, cutF y.fr.l f.toNat⟩⟩]) (rs ++ [⟨148, 6, .slice A55 (cutF y.fr.l f.toNat).length c55, (cutF y.fr.l f.toNat).length, (cutF y.fr.l f.toNat).flatMap Frm.enc⟩]) (by repeat (first | exact kf_nil | (apply kf_in; focus rfl) | (apply kf_out; focus rfl))) (by repeat (first | exact kl_nil | exact kl_rest (by assumption) rfl | (apply kl_in; focus rfl) | (apply kl_out; focus rfl))) ?_ ?_ ?_ ?_)
        · omega
        · exact ⟨by omega, by simp [hp2], by rw [List.map_append, hp3, take_at hy1, List.map_append]; simp [Flt.cont, fitF, hk, ht, hl], fun g hg => by
            rcases List.mem_append.1 hg with h | h
            · exact (hp4 g h).app
            · simp only [List.mem_singleton] at h
              subst h
              exact Sees.map (Sees.row (A := A55) (c := c55) (q := (cutF y.fr.l f.toNat).length) (l := cutF y.fr.l f.toNat) (enc := Frm.enc) (List.mem_append_right _ (List.mem_singleton.2 rfl)) rfl) fun w h => ⟨by show y.k.length ≤ _; rw [hk]; exact hy0.k, Nat.le_trans (cutS_len _ _ (by omega) (by omega)) (by decide), h, by show (cutF y.fr.l f.toNat).length ≤ _; rw [cutF_len]; omega, fun q hq => hy0.fr.n q (hl ▸ mem_cutF hq)⟩, fun g hg => (hp5 g hg).app⟩
        · exact ⟨rfl, trivial⟩
        · exact ⟨rfl, rfl, trivial⟩
      · try simp only [decide_eq_true_eq, decide_eq_false_iff_not, Bool.or_eq_true, Bool.or_eq_false_iff, Bool.and_eq_true, Bool.and_eq_false_iff, Bool.not_eq_true', Bool.not_eq_false', Bool.not_eq_true, Bool.not_eq_false, Bool.not_true, Bool.not_false, Int.not_lt, Int.not_le, not_or, not_and, Classical.not_not] at h41
        obtain ⟨l2, q2, hl2, hq2⟩ : ∃ (l : List SCrumb) (q : Nat), l = (e.cr.l.drop (e.cr.q - c.toNat)).take (e.cr.q - (e.cr.q - c.toNat)) ∧ q = e.cr.q - (e.cr.q - c.toNat) := ⟨_, _, rfl, rfl⟩
        have hl2q : q2 ≤ 50 := by omega
        have hcl := he.cr.ok.t.len
        have hl2e : l2.length = q2 := by rw [hl2, hq2, List.length_take, List.length_drop]; omega
        refine T_known (p := e.cr.q ≤ z.d ∧ e.ta.q ≤ z.b) (fun w hM => ⟨(owned_ok (enc := SCrumb.enc) hM he.cr.ok.t.len (i := 939) rfl).cap, (owned_ok (enc := STag.enc) hM he.ta.ok.t.len (i := 935) rfl).cap⟩) (fun hcap => ?_)
        refine T_exit_go (fun _ _ h => h) ?_
        refine T_seq ?_
        refine T_region ?_
        refine S_ 72 rfl rfl rfl _ (y_fieldAddr rfl rfl fa52_5) ?_
        refine S_ 73 rfl rfl rfl _ (y_load 2 rfl rfl rfl rfl Tryd.underlying50 rfl) ?_
        refine S_ 74 rfl rfl rfl _ (y_fieldAddr rfl rfl fa52_5) ?_
        refine S_ 75 rfl rfl rfl _ (y_load 2 rfl rfl rfl rfl Tryd.underlying50 rfl) ?_
        refine S_ 76 rfl rfl rfl _ (y_len_slice rfl rfl Tryd.underlying50) ?_
        refine S_ 77 rfl rfl rfl _ (y_fieldAddr rfl rfl fa64_1) ?_
        refine S_ 78 rfl rfl rfl _ (y_load 3 rfl rfl rfl rfl Tryd.underlying3 rfl) ?_
        refine S_ 79 rfl rfl rfl _ (y_bin rfl rfl rfl (fun hg => b_sub (by omega))) ?_
        refine S_ 80 rfl rfl rfl _ (y_as (v' := .int .i64 ((e.cr.q - c.toNat : Nat) : Int)) (by congr 1; split <;> omega) (y_max rfl rfl rfl)) ?_
        refine S_ 81 rfl rfl rfl _ (y_slice rfl rfl Tryd.underlying50 sz78 (.inr ⟨_, _, rfl, rfl⟩) (.inl ⟨rfl, rfl⟩) (by omega) (Nat.le_refl _) hcap.1) ?_
        refine S_callOwn 82 82 rfl rfl rfl rfl rfl rfl rfl cf109 (fun A c => .slice A (q2) c) 78 3 (q2) (l2.flatMap SCrumb.enc) (fun w hM => by rw [hl2, hq2]; exact CloneCrumb_any (subSl 3 ⟨z.D, e.cr.q, z.d, e.cr.l⟩ (e.cr.q - c.toNat) e.cr.q) w (subSl_ok (owned_ok (enc := SCrumb.enc) hM he.cr.ok.t.len (i := 939) rfl) (fun _ => rfl) (by omega) (Nat.le_refl _)) (by show e.cr.q - _ ≤ _; omega)) ?_
        intro A82 c82
        refine S_ 83 rfl rfl rfl _ (y_fieldAddr rfl rfl fa52_5) ?_
        refine S_store 2 rfl rfl rfl rfl rfl rfl sz50 rfl rfl ?_
        refine S_go (fun _ _ h => h) ?_
        refine T_seq ?_
        refine T_seq ?_
        refine T_region ?_
        refine S_ 84 rfl rfl rfl _ (y_fieldAddr rfl rfl fa52_5) ?_
        refine S_ 85 rfl rfl rfl _ (y_load 2 rfl rfl rfl rfl Tryd.underlying50 rfl) ?_
        refine S_ 86 rfl rfl rfl _ (y_len_slice rfl rfl Tryd.underlying50) ?_
        refine S_ 87 rfl rfl rfl _ (y_move rfl rfl) ?_
        refine S_go (fun _ _ h => h) ?_
        refine T_block ?_
        refine T_loopK2 (kf := [(9, 9), (87, 104)]) (kl := [(9, 9), (82, 82), (87, 104)]) (fun (j : Nat) (ds : List SCrumb) => [(87, true, .int .i64 (j : Int))]) (fun (j : Nat) (ds : List SCrumb) => [(82, .own 78 3 (.slice A82 q2 c82) q2 ((ds ++ l2.drop j).flatMap SCrumb.enc))]) (fun (j : Nat) (ds : List SCrumb) => j ≤ q2 ∧ ds.length = j ∧ ds = (l2.take j).map (fitC x)) (fun (j : Nat) (ds : List SCrumb) => q2 - j) 0 [] (by repeat (first | exact kf_nil | (apply kf_in; focus rfl) | (apply kf_out; focus rfl))) (by repeat (first | exact kl_nil | exact kl_rest (by assumption) rfl | (apply kl_in; focus rfl) | (apply kl_out; focus rfl))) ?_ ?_ ?_ ?_
        · exact ⟨by omega, rfl, rfl⟩
        · exact ⟨rfl, trivial⟩
        · exact ⟨rfl, trivial⟩
        rintro j ds ⟨hr1, hr2, hr3⟩
        refine T_seq ?_
        refine T_region ?_
        refine S_ 88 rfl rfl rfl _ (y_bin rfl rfl rfl (fun _ => b_lss)) ?_
        refine S_go (fun _ _ h => h) ?_
        refine T_seq ?_
        refine T_cond rfl (fun h88 => ?_) (fun h88 => ?_)
        · try simp only [decide_eq_true_eq, decide_eq_false_iff_not, Bool.or_eq_true, Bool.or_eq_false_iff, Bool.and_eq_true, Bool.and_eq_false_iff, Bool.not_eq_true', Bool.not_eq_false', Bool.not_eq_true, Bool.not_eq_false, Bool.not_true, Bool.not_false, Int.not_lt, Int.not_le, not_or, not_and, Classical.not_not] at h88
          obtain ⟨d, hd1, hd2⟩ := at_lt (l := l2) (i := j) (by omega)
          have hdt : d.t.length ≤ 4611686018427387904 := by
            have h1 := mem_at hd1
            rw [hl2] at h1
            exact (he.cr.n d (List.mem_of_mem_drop (List.mem_of_mem_take h1))).2
          refine T_skip_go (fun _ _ h => h) ?_
          refine T_seq ?_
          refine T_block ?_
          refine T_seq ?_
          refine T_region ?_
          refine S_ 89 rfl rfl rfl _ (y_move rfl rfl) ?_
          refine S_ 9 rfl rfl rfl _ (y_assign rfl rfl) ?_
          refine S_go (fun _ _ h => h) ?_
          refine T_drawsTail 14 (by kernel_rfl) (by kernel_rfl) ?_
          refine D_ 90 rfl rfl rfl _ (y_fieldAddr rfl rfl fa52_5) ?_
          refine D_ 91 rfl rfl rfl _ (y_load 2 rfl rfl rfl rfl Tryd.underlying50 rfl) ?_
          refine D_ 92 rfl rfl rfl _ (y_move rfl rfl) ?_
          refine D_ 93 rfl rfl rfl _ (y_fieldAddr rfl rfl fa52_5) ?_
          refine D_ 94 rfl rfl rfl _ (y_load 2 rfl rfl rfl rfl Tryd.underlying50 rfl) ?_
          refine D_ 95 rfl rfl rfl _ (y_move rfl rfl) ?_
          refine D_ 96 rfl rfl rfl _ (y_indexOwn 82 rfl rfl rfl rfl Tryd.underlying50 sz78 (fun _ => by omega)) ?_
          refine D_ 97 rfl rfl rfl _ (y_fieldOwn 82 rfl rfl rfl (fun _ => by omega) fa78_2) ?_
          refine D_ 98 rfl rfl rfl _ (y_load_cellOwn 82 rfl rfl rfl (fun _ => by omega) (fun _ => flat_at (enc := SCrumb.enc) (size := 3) (fun _ => rfl) (at_nextC hr2 hd2) 2 (str d.t) rfl) Tryd.underlying9 rfl) ?_
          refine D_ 99 rfl rfl rfl _ (y_fieldAddr rfl rfl fa64_3) ?_
          refine D_ 100 rfl rfl rfl _ (y_load 3 rfl rfl rfl rfl Tryd.underlying3 rfl) ?_
          refine D_ 101 rfl rfl rfl _ (y_call rfl rfl rfl cf108 (fun _ w _ => eshort_any _ x (by omega) (by omega) hdt w)) ?_
          refine D_ 102 rfl rfl rfl _ (y_indexOwn 82 rfl rfl rfl rfl Tryd.underlying50 sz78 (fun _ => by omega)) ?_
          refine D_ 103 rfl rfl rfl _ (y_fieldOwn 82 rfl rfl rfl (fun _ => by omega) fa78_2) ?_
          refine D_tail ?_
          refine S_storeOwn 82 rfl rfl rfl rfl rfl rfl sz9 rfl rfl ?_ (xs' := ((ds ++ [fitC x d]) ++ l2.drop (j + 1)).flatMap SCrumb.enc) ?_ ?_
          · (rw [flat_lenN (enc := SCrumb.enc) (size := 3) (fun _ => rfl)]; simp; omega)
          · rw [← set_nextC hr2 hd2]; exact flat_set (enc := SCrumb.enc) (size := 3) (off := 2) (fun _ => rfl) (at_nextC hr2 hd2) (by decide) rfl
          refine S_go (fun _ _ h => h) ?_
          refine T_region ?_
          refine S_ 104 rfl rfl rfl _ (y_bin rfl rfl rfl (fun hg => b_add (by omega))) ?_
          refine S_ 87 rfl rfl rfl _ (y_move rfl rfl) ?_
          refine S_nil (nextK2 (kf := [(9, 9), (87, 104)]) (kl := [(9, 9), (82, 82), (87, 104)]) (j + 1) (ds ++ [fitC x d]) (by repeat (first | exact kf_nil | (apply kf_in; focus rfl) | (apply kf_out; focus rfl))) (by repeat (first | exact kl_nil | exact kl_rest (by assumption) rfl | (apply kl_in; focus rfl) | (apply kl_out; focus rfl))) ?_ ?_ ?_ ?_)
          · omega
          · exact ⟨by omega, by simp [hr2], by rw [hr3, take_at hd1, List.map_append]; rfl⟩
          · exact ⟨rfl, trivial⟩
          · exact ⟨rfl, trivial⟩
        · try simp only [decide_eq_true_eq, decide_eq_false_iff_not, Bool.or_eq_true, Bool.or_eq_false_iff, Bool.and_eq_true, Bool.and_eq_false_iff, Bool.not_eq_true', Bool.not_eq_false', Bool.not_eq_true, Bool.not_eq_false, Bool.not_true, Bool.not_false, Int.not_lt, Int.not_le, not_or, not_and, Classical.not_not] at h88
          refine T_exit_go (fun _ _ h => h) ?_
          refine T_seq ?_
          refine T_region ?_
          refine S_ 105 rfl rfl rfl _ (y_fieldAddr rfl rfl fa52_4) ?_
          refine S_ 106 rfl rfl rfl _ (y_load 2 rfl rfl rfl rfl Tryd.underlying49 rfl) ?_
          refine S_ 107 rfl rfl rfl _ (y_fieldAddr rfl rfl fa52_4) ?_
          refine S_ 108 rfl rfl rfl _ (y_load 2 rfl rfl rfl rfl Tryd.underlying49 rfl) ?_
          refine S_ 109 rfl rfl rfl _ (y_len_slice rfl rfl Tryd.underlying49) ?_
          refine S_ 110 rfl rfl rfl _ (y_fieldAddr rfl rfl fa64_2) ?_
          refine S_ 111 rfl rfl rfl _ (y_load 3 rfl rfl rfl rfl Tryd.underlying3 rfl) ?_
          refine S_ 112 rfl rfl rfl _ (y_as (v' := .int .i64 ((min e.ta.q t.toNat : Nat) : Int)) (by congr 1; split <;> omega) (y_min rfl rfl rfl)) ?_
          refine S_ 113 rfl rfl rfl _ (y_slice rfl rfl Tryd.underlying49 sz128 (.inl ⟨rfl, rfl⟩) (.inr ⟨_, _, rfl, rfl⟩) (by omega) (by omega) hcap.2) ?_
          refine S_callOwn 114 114 rfl rfl rfl rfl rfl rfl rfl cf110 (fun A c => .slice A ((min e.ta.q t.toNat - 0)) c) 128 2 ((min e.ta.q t.toNat - 0)) (((e.ta.l.drop 0).take (min e.ta.q t.toNat - 0)).flatMap STag.enc) (fun w hM => CloneTag_any (subSl 2 ⟨z.B, e.ta.q, z.b, e.ta.l⟩ 0 (min e.ta.q t.toNat)) w (subSl_ok (owned_ok (enc := STag.enc) hM he.ta.ok.t.len (i := 935) rfl) (fun _ => rfl) (by omega) (by show min _ _ ≤ e.ta.q; omega)) (by show min _ _ - 0 ≤ _; omega)) ?_
          intro A114 c114
          refine S_ 115 rfl rfl rfl _ (y_fieldAddr rfl rfl fa52_4) ?_
          refine S_store 2 rfl rfl rfl rfl rfl rfl sz49 rfl rfl ?_
          refine S_go (fun _ _ h => h) ?_
          refine T_seq ?_
          refine T_region ?_
          refine S_ 116 rfl rfl rfl _ (y_loadA 2 rfl rfl rfl Tryd.underlying52 rfl sz52) ?_
          refine S_bank [(908, 908), (900, 900)] 900 908 rfl rfl rfl rfl (by repeat (first | exact kl_nil | exact kl_rest (by assumption) rfl | (apply kl_in; focus rfl) | (apply kl_out; focus rfl))) ?_
          refine S_bank [(82, 82), (900, 900)] 900 82 rfl rfl rfl rfl (by repeat (first | exact kl_nil | exact kl_rest (by assumption) rfl | (apply kl_in; focus rfl) | (apply kl_out; focus rfl))) ?_
          refine S_bank [(114, 114), (900, 900)] 900 114 rfl rfl rfl rfl (by repeat (first | exact kl_nil | exact kl_rest (by assumption) rfl | (apply kl_in; focus rfl) | (apply kl_out; focus rfl))) ?_
          refine S_store 4 rfl rfl rfl rfl rfl rfl sz52 rfl rfl ?_
          refine S_ 5 rfl rfl rfl _ (y_assign rfl rfl) ?_
          refine S_go (fun _ _ h => h) ?_
          refine T_ret (fun a w hF hM => hRb a w (post_cell 4 rfl rfl rfl rfl Tryd.underlying52 rfl (by exact sz52) (fun w hM => ?_) a w hF hM))
          have hf0 : fitNo e f c t x = 0 := by rw [fitNo, if_neg (by simp [h13]), if_neg (by simp [h33])]
          have hz : z.gs.drop i = [] := List.drop_eq_nil_of_le (by omega)
          have hzc : l2.drop j = [] := List.drop_eq_nil_of_le (by omega)
          have hj : ds = l2.map (fitC x) := by rw [hr3, List.take_of_length_le (by omega)]
          have hl2d : l2 = e.cr.l.drop (e.cr.q - c.toNat) := by rw [hl2, List.take_of_length_le (by rw [List.length_drop]; omega)]
          have htl := he.ta.ok.t.len
          have hfl := he.fa.ok.t.len
          refine ⟨⟨⟨e.id, e.at_, e.lv, ⟨z.A, e.fa.q, z.c, gs⟩, ⟨A114, min e.ta.q t.toNat - 0, c114, (e.ta.l.drop 0).take (min e.ta.q t.toNat - 0)⟩, ⟨A82, q2, c82, ds⟩, e.rel, e.us, e.wt⟩, _⟩, by rw [hf0]; rfl, ⟨⟨fun _ => ⟨rfl, rfl, rfl, rfl, rfl, rfl, by show gs.map Flt.cont = _; rw [hp3, List.take_of_length_le (by omega)], by show (e.ta.l.drop 0).take _ = _; rw [List.drop_zero]; exact List.take_eq_take_iff.2 (by omega), by show ds = _; rw [hj, hl2d]⟩, fun h => absurd hf0 h⟩, fit_ok (rs := rs) (gs := gs) (ds := ds) he (by omega) hp4 hfq (by rw [List.drop_zero, List.length_take]; omega) (by omega) (fun s hs => List.mem_of_mem_drop (List.mem_of_mem_take hs)) (by omega) hl2q (fun s hs => by
            rw [hj] at hs
            obtain ⟨d, hd, rfl⟩ := List.mem_map.1 hs
            rw [hl2d] at hd
            have hdn := he.cr.n d (List.mem_of_mem_drop hd)
            exact ⟨hdn.1, Nat.le_trans (cutS_len _ _ (by omega) (by omega)) (by decide)⟩)⟩, ?_⟩
          refine hM.keep (ks := [(0, 999)]) (by repeat (first | exact kl_rest (by assumption) rfl | (apply kl_in; focus rfl))) _ ⟨by rw [hz, hzc, List.append_nil, List.append_nil]; rfl, trivial⟩
end Go.Proofs.YtoeipmepmlikcaaDoor
