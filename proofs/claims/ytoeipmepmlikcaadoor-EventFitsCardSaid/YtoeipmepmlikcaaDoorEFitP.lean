/- What event.Fit makes is right, keeps the limits, and fits already: plain law. No condition. -/
import Derived.Test.YtoeipmepmlikcaaDoorEFit
namespace Go.Proofs.YtoeipmepmlikcaaDoor
set_option linter.unusedSimpArgs false
set_option linter.unusedVariables false
set_option maxRecDepth 20000
open Go.RowKit Go.Eng
theorem say_cut {s : List UInt8} {n : Int} (h0 : 1 ≤ n) (h1 : n ≤ 2000) (h : sayNo s = 0) : sayNo (cutS s n) = 0 := by
  have hl := cutS_len s n h0 h1
  have hb : s.any sayBad = false := by
    unfold sayNo at h
    split at h
    · cases h
    · split at h
      · cases h
      · simpa using ‹¬ s.any sayBad = true›
  have hc : (cutS s n).any sayBad = false := by
    unfold cutS
    split
    · exact hb
    · split
      · rw [List.any_eq_false]
        intro u hu
        rw [List.eq_of_mem_replicate hu]; decide
      · rw [List.any_append, Bool.or_eq_false_iff]
        refine ⟨?_, by decide⟩
        rw [List.any_eq_false] at hb ⊢
        exact fun u hu => hb u (List.mem_of_mem_take hu)
  rw [sayNo, if_neg (by omega), if_neg (by simp [hc])]
theorem frms_of : ∀ {l : List Frm}, frmsNo l = 0 → ∀ g ∈ l, frmNo g = 0
  | [], _ => fun g h => by simp at h
  | a :: r, h => fun g hg => by
    rw [frmsNo] at h
    by_cases ha : frmNo a = 0
    · rw [if_neg (by simpa using ha)] at h
      rcases List.mem_cons.1 hg with rfl | h1
      · exact ha
      · exact frms_of h g h1
    · rw [if_pos ha] at h; exact absurd h ha
theorem frms_to : ∀ {l : List Frm}, (∀ g ∈ l, frmNo g = 0) → frmsNo l = 0
  | [], _ => rfl
  | a :: r, h => by
    rw [frmsNo, if_neg (by simp [h a (List.mem_cons_self ..)])]
    exact frms_to fun g hg => h g (List.mem_cons_of_mem _ hg)
theorem flts_to : ∀ {l : List Flt}, (∀ g ∈ l, fltNo g = 0) → fltsNo l = 0
  | [], _ => rfl
  | a :: r, h => by
    rw [fltsNo, if_neg (by simp [h a (List.mem_cons_self ..)])]
    exact flts_to fun g hg => h g (List.mem_cons_of_mem _ hg)
theorem tags_take : ∀ (l : List STag) (p : Option (List UInt8)) (n : Nat), tagsNo p l = 0 → tagsNo p (l.take n) = 0
  | [], p, n, h => by simpa using h
  | a :: r, p, 0, _ => by cases p <;> rfl
  | a :: r, p, n + 1, h => by
    rw [List.take_succ_cons]
    rw [tagsNo] at h ⊢
    split at h
    · cases h
    · split at h
      · cases h
      · split at h
        · exact absurd h ‹_›
        · rename_i h1 h2 h3
          rw [if_neg h1, if_neg h2, if_neg h3]
          exact tags_take r _ n h
theorem crumbs_none : ∀ (l : List SCrumb) (p : Option Int), crumbsNo p l = 0 → crumbsNo none l = 0
  | [], _, _ => rfl
  | a :: r, p, h => by
    rw [crumbsNo] at h ⊢
    split at h
    · cases h
    · split at h
      · cases h
      · rename_i h1 h2
        rw [if_neg h1, if_neg (by simp)]
        exact h
theorem crumbs_drop : ∀ (l : List SCrumb) (p : Option Int) (k : Nat), crumbsNo p l = 0 → crumbsNo none (l.drop k) = 0
  | l, p, 0, h => crumbs_none l p h
  | [], _, _ + 1, _ => rfl
  | a :: r, p, k + 1, h => by
    rw [List.drop_succ_cons]
    rw [crumbsNo] at h
    split at h
    · cases h
    · split at h
      · cases h
      · split at h
        · cases h
        · split at h
          · exact absurd h ‹_›
          · exact crumbs_drop r _ k h
theorem crumbs_cut {x : Int} (h0 : 1 ≤ x) (h1 : x ≤ 2000) : ∀ (l : List SCrumb) (p : Option Int), crumbsNo p l = 0 → crumbsNo p (l.map (fitC x)) = 0
  | [], p, _ => by cases p <;> rfl
  | a :: r, p, h => by
    rw [List.map_cons]
    rw [crumbsNo] at h ⊢
    split at h
    · cases h
    · split at h
      · cases h
      · split at h
        · cases h
        · split at h
          · exact absurd h ‹_›
          · rename_i c1 c2 c3 c4
            rw [show (fitC x a).at_ = a.at_ from rfl, show (fitC x a).k = a.k from rfl, if_neg c1, if_neg c2, if_neg c3, if_neg (by simp [fitC, say_cut h0 h1 (Decidable.not_not.1 c4)])]
            exact crumbs_cut h0 h1 r _ h
theorem cutS_again {s : List UInt8} {n : Int} (h0 : 1 ≤ n) : cutS (cutS s n) n = cutS s n := by
  have : ((cutS s n).length : Int) ≤ n := by
    unfold cutS
    split
    · assumption
    · split
      · rw [List.length_replicate]; omega
      · simp only [List.length_append, List.length_take, List.length_cons, List.length_nil]; omega
  conv => lhs; rw [cutS]
  rw [if_pos this]
theorem cutS_le {s : List UInt8} {n : Int} (h0 : 1 ≤ n) : ((cutS s n).length : Int) ≤ n := by
  unfold cutS
  split
  · assumption
  · split
    · rw [List.length_replicate]; omega
    · simp only [List.length_append, List.length_take, List.length_cons, List.length_nil]; omega
theorem cutF_again (l : List Frm) (n : Nat) : cutF (cutF l n) n = cutF l n := by
  have := cutF_len l n
  conv => lhs; rw [cutF]
  rw [if_pos (by omega)]
theorem flt_fit {y v : Flt} {f x : Int} (hf : 1 ≤ f ∧ f ≤ 200) (hx : 1 ≤ x ∧ x ≤ 2000) (hc : v.cont = fitF f x y) (hq : v.fr.q = v.fr.l.length) (hy : y.fr.q = y.fr.l.length) (h : fltNo y = 0) : fltNo v = 0 := by
  simp only [Flt.cont, fitF, Prod.mk.injEq] at hc
  obtain ⟨hk, ht, hl⟩ := hc
  obtain ⟨h1, h2, h3⟩ := flt_parts h
  unfold fltNo at h ⊢
  rw [hk, ht]
  split at h
  · cases h
  · split at h
    · cases h
    · split at h
      · cases h
      · rename_i c1 c2 c3
        rw [if_neg c1, if_neg c2, if_neg c3, if_neg (by simp [say_cut hx.1 hx.2 h2])]
        have hcl := cutF_len y.fr.l f.toNat
        unfold framesNo at h1 ⊢
        rw [if_neg (by omega)] at h1
        rw [if_neg (by rw [hq, hl, hcl]; omega), hl]
        exact frms_to fun g hg => frms_of h1 g (mem_cutF hg)
theorem lim_parts {f c t x : Int} (h : limBad f c t x = false) : (1 ≤ f ∧ f ≤ 200) ∧ (0 ≤ c ∧ c ≤ 50) ∧ (0 ≤ t ∧ t ≤ 40) ∧ (1 ≤ x ∧ x ≤ 2000) := by
  simp [limBad] at h
  omega
theorem fit_parts {e : Evt} {f c t x : Int} (h : fitNo e f c t x = 0) : evNo e = 0 ∧ limBad f c t x = false := by
  unfold fitNo at h
  split at h
  · exact absurd h ‹_›
  · split at h
    · cases h
    · exact ⟨Decidable.not_not.1 ‹_›, by simpa using ‹¬ limBad f c t x = true›⟩
/-- what was fitted is right -/
theorem fit_right {w w' : World} {e v : Evt} {f c t x : Int} (he : e.Ok w) (hv : v.Ok w') (h : fitNo e f c t x = 0) (hp : FitP e f c t x v) : evNo v = 0 := by
  obtain ⟨h0, hl⟩ := fit_parts h
  obtain ⟨l1, l2, l3, l4⟩ := lim_parts hl
  obtain ⟨p1, ⟨p2, p3⟩, p4, p5⟩ := ev_parts h0
  obtain ⟨q1, q2⟩ := faults_parts p1
  have e1 := he.fa.ok.t.len
  have e2 := he.ta.ok.t.len
  have e3 := he.cr.ok.t.len
  have v1 := hv.fa.ok.t.len
  have v2 := hv.ta.ok.t.len
  have v3 := hv.cr.ok.t.len
  have hfl : v.fa.l.length = e.fa.l.length := by have := congrArg List.length hp.fa; simpa using this
  have htl : v.ta.l.length ≤ e.ta.l.length := by rw [hp.ta, List.length_take]; omega
  have hcl : v.cr.l.length ≤ e.cr.l.length := by rw [hp.cr, List.length_map, List.length_drop]; omega
  have hff : faultsNo v.fa = 0 := by
    unfold faultsNo at p1 ⊢
    split at p1
    · cases p1
    · rw [if_neg (by omega), if_neg (by omega)]
      refine flts_to fun g hg => ?_
      obtain ⟨i, hi⟩ := List.getElem?_of_mem hg
      obtain ⟨y, hy, hc⟩ := map_at hp.fa hi
      exact flt_fit l1 l4 hc (hv.fa.n g hg).fr.ok.t.len.symm (he.fa.n y (mem_at hy)).fr.ok.t.len.symm (q2 y (mem_at hy))
  have htt : (if (40 : Int) < v.ta.q then 4 else tagsNo none v.ta.l) = 0 := by rw [if_neg (by omega), hp.ta]; exact tags_take _ _ _ p3
  have hcc : (if (50 : Int) < v.cr.q then 4 else crumbsNo none v.cr.l) = 0 := by rw [if_neg (by omega), hp.cr]; exact crumbs_cut l4.1 l4.2 _ _ (crumbs_drop _ _ _ p5)
  unfold evNo at h0 ⊢
  obtain ⟨g1, g2⟩ := fst_0 h0
  obtain ⟨_, g2⟩ := fst_0 g2
  obtain ⟨_, g2⟩ := fst_0 g2
  obtain ⟨_, g2⟩ := fst_0 g2
  rw [hff, htt, hcc, hp.id, hp.at_, hp.lv, hp.rel, hp.us, hp.wt, g1]
  exact g2
theorem flts_same : ∀ {a b : List Flt}, a.map Flt.cont = b.map Flt.cont → eqLB Flt.eqB a b = true
  | [], [], _ => rfl
  | [], _ :: _, h => by simp at h
  | _ :: _, [], h => by simp at h
  | x :: r, y :: s, h => by
    simp only [List.map_cons, List.cons.injEq] at h
    obtain ⟨h1, h2⟩ := h
    simp only [Flt.cont, Prod.mk.injEq] at h1
    obtain ⟨hk, ht, hl⟩ := h1
    rw [eqLB, flts_same h2, Bool.and_true, Flt.eqB, hk, ht, hl]
    simp [eqL_refl (fun a => (Frm.eqB_iff a a).2 rfl)]
/-- a second time nothing is turned -/
theorem fit_again {w w' : World} {e v u : Evt} {f c t x : Int} (he : e.Ok w) (hv : v.Ok w') (h : fitNo e f c t x = 0) (hp : FitP e f c t x v) (hu : FitP v f c t x u) : sameE v u = true := by
  obtain ⟨h0, hl⟩ := fit_parts h
  obtain ⟨l1, l2, l3, l4⟩ := lim_parts hl
  have e3 := he.cr.ok.t.len
  have v3 := hv.cr.ok.t.len
  have hcl : v.cr.l.length ≤ c.toNat := by rw [hp.cr, List.length_map, List.length_drop]; omega
  have h1 : eqLB Flt.eqB v.fa.l u.fa.l = true := by
    refine flts_same ?_
    rw [hu.fa]
    refine List.map_congr_left fun g hg => ?_
    obtain ⟨i, hi⟩ := List.getElem?_of_mem hg
    obtain ⟨y, _, hc⟩ := map_at hp.fa hi
    simp only [Flt.cont, fitF, Prod.mk.injEq] at hc ⊢
    exact ⟨trivial, by rw [hc.2.1, cutS_again l4.1], by rw [hc.2.2, cutF_again]⟩
  have h2 : u.ta.l = v.ta.l := by rw [hu.ta, hp.ta, List.take_take, Nat.min_self]
  have h3 : u.cr.l = v.cr.l := by
    rw [hu.cr, show v.cr.q - c.toNat = 0 by omega, List.drop_zero, hp.cr, List.map_map]
    exact List.map_congr_left fun g _ => by simp [fitC, cutS_again l4.1]
  rw [sameE, h1, h2, h3, hu.id, hu.at_, hu.lv, hu.rel, hu.us, hu.wt]
  simp [eqL_refl (fun a => (STag.eqB_iff a a).2 rfl), eqL_refl (fun a => (SCrumb.eqB_iff a a).2 rfl)]
end Go.Proofs.YtoeipmepmlikcaaDoor
