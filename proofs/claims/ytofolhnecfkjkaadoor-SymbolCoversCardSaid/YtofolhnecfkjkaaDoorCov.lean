/- SymbolCovers, the plain law: the shares are positive and sum up to the bytes of all functions; an offset lies in at most ten calls. No program in sight. -/
import Derived.Test.YtofolhnecfkjkaaDoorShw
namespace Go.Proofs.YtofolhnecfkjkaaDoor
set_option linter.unusedSimpArgs false
set_option linter.unusedVariables false
set_option maxRecDepth 20000
open Go.RowKit Go.Eng
def sumS : List SShare → Int
  | [] => 0
  | s :: r => s.n + sumS r
theorem sumS_app : ∀ a b : List SShare, sumS (a ++ b) = sumS a + sumS b
  | [], b => by simp [sumS]
  | x :: r, b => by simp only [List.cons_append, sumS, sumS_app r b]; omega
theorem sumS_perm {a b : List SShare} (h : a.Perm b) : sumS a = sumS b := by
  induction h with
  | nil => rfl
  | cons x _ ih => simp only [sumS, ih]
  | swap x y l => simp only [sumS]; omega
  | trans _ _ h1 h2 => exact h1.trans h2
theorem sumM_perm {a b : List (Nm × Int)} (h : a.Perm b) : sumM a = sumM b := by
  induction h with
  | nil => rfl
  | cons x _ ih => simp only [sumM, ih]
  | swap x y l => simp only [sumM]; omega
  | trans _ _ h1 h2 => exact h1.trans h2
theorem sum_pos : ∀ D : List (Nm × Int), (∀ p ∈ D, 0 ≤ p.2) → sumS ((D.filter posB).map mkS) = sumM D
  | [], _ => rfl
  | p :: r, h => by
    have ih := sum_pos r fun q hq => h q (List.mem_cons_of_mem _ hq)
    have hp := h p List.mem_cons_self
    rw [List.filter_cons]
    by_cases hb : posB p = true
    · rw [if_pos hb, List.map_cons, sumS, ih]; rfl
    · rw [if_neg hb, ih, sumM]
      have : ¬ 0 < p.2 := by simpa [posB] using hb
      omega
theorem ShOk.sum {le : SShare → SShare → Bool} {t : Tab} {l : List SShare} (h0 : tabNo t = 0) (h : ShOk le t l) : (∀ s ∈ l, 1 ≤ s.n) ∧ sumS l = lenF t.fu.l ∧ l.length ≤ 10000 := by
  unfold ShOk at h
  rw [if_neg (by simp [h0])] at h
  obtain ⟨M, D, h1, h2, h3, h4, h5⟩ := h
  have hp : l.Perm ((D.filter posB).map mkS) := by rw [h4]; exact List.mergeSort_perm _ _
  refine ⟨fun s hs => ?_, ?_, ?_⟩
  · obtain ⟨p, hp1, rfl⟩ := List.mem_map.1 (hp.mem_iff.1 hs)
    have := (List.mem_filter.1 hp1).2
    have : 0 < p.2 := by simpa [posB] using this
    show 1 ≤ p.2
    omega
  · rw [sumS_perm hp, sum_pos D (fun p hq => h1.pos p (h3.mem_iff.2 hq)), ← sumM_perm h3, h2]
  · rw [hp.length_eq, List.length_map]
    have := List.length_filter_le posB D
    have := h3.length_eq
    omega
theorem sumS_le : ∀ (l : List SShare), (∀ s ∈ l, 1 ≤ s.n) → 0 ≤ sumS l
  | [], _ => Int.le_refl _
  | s :: r, h => by
    have h1 := h s List.mem_cons_self
    have h2 := sumS_le r fun q hq => h q (List.mem_cons_of_mem _ hq)
    rw [sumS]; omega
theorem lenF_le {size : Int} : ∀ (l : List SFunc) (last : Int), funcsNo size l last = 0 → last ≤ size → 0 ≤ lenF l ∧ lenF l ≤ size - last
  | [], last, _, h => by simp [lenF]; omega
  | g :: r, last, h, hl => by
    obtain ⟨⟨h1, h2, h3⟩, h4, h5⟩ := func_step h
    have := lenF_le r g.to h5 h3
    rw [lenF]; omega
theorem func_in {size x : Int} : ∀ (l : List SFunc) (last : Int) (i : Int), funcsNo size l last = 0 → 0 ≤ i → (x < 0 ∨ size ≤ x) → findI (SFunc.has x) l i < 0
  | [], _, _, _, _, _ => by simp [findI]
  | g :: r, last, i, h, hi, hx => by
    obtain ⟨⟨h1, h2, h3⟩, h4, h5⟩ := func_step h
    rw [findI_f (by simp only [SFunc.has, Bool.and_eq_false_iff, decide_eq_false_iff_not]; omega)]
    exact func_in r g.to (i + 1) h5 (by omega) hx
/-! ### How deep an offset lies in calls -/
theorem goPlaces_cnt {x : Int} {files : List (List UInt8)} : ∀ (l : List SCall) (file : List UInt8) (line : Int) (out : List SPlace), (goPlaces x files l file line out).1.length = out.length + l.countP (SCall.has x)
  | [], _, _, out => by simp [goPlaces]
  | c :: r, file, line, out => by
    simp only [goPlaces]
    by_cases h : c.has x = true
    · rw [if_pos h, goPlaces_cnt r, List.countP_cons, if_pos h]; simp; omega
    · rw [if_neg h, goPlaces_cnt r, List.countP_cons, if_neg h]; simp
theorem nest_cnt {c : SCall} {x : Int} (h1 : c.fr ≤ x) (h2 : x < c.to) : ∀ (l : List SCall) (deep : Int), nestNo c l deep = 0 → (l.countP (SCall.has x) : Int) + deep < 10
  | [], deep, h => by
    unfold nestNo at h
    split at h
    · cases h
    · simp; omega
  | b :: r, deep, h => by
    unfold nestNo at h
    rw [List.countP_cons]
    split at h
    · rename_i hb
      have hb' : b.to ≤ c.fr ∨ c.to ≤ b.fr := by simpa [apartB] using hb
      rw [if_neg (by simp [SCall.has]; omega)]
      have := nest_cnt h1 h2 r deep h
      omega
    split at h
    · cases h
    · have := nest_cnt h1 h2 r (deep + 1) h
      split <;> omega
theorem calls_deep {x : Int} : ∀ (r : List SCall), (∀ (i : Nat) (c : SCall), r.reverse[i]? = some c → nestNo c (r.reverse.take i) 0 = 0) → r.countP (SCall.has x) ≤ 10
  | [], _ => by simp
  | c :: r, h => by
    rw [List.countP_cons]
    by_cases hc : c.has x = true
    · rw [if_pos hc]
      have hn := h r.length c (by simp)
      have ht : (c :: r).reverse.take r.length = r.reverse := by simp
      rw [ht] at hn
      have hx : c.fr ≤ x ∧ x < c.to := by simpa [SCall.has] using hc
      have := nest_cnt hx.1 hx.2 r.reverse 0 hn
      rw [List.countP_reverse] at this
      omega
    · rw [if_neg hc]
      refine calls_deep r fun i d hd => ?_
      have hi := (List.getElem?_eq_some_iff.1 hd).1
      have h1 := h i d (by rw [List.reverse_cons, List.getElem?_append_left hi]; exact hd)
      rw [List.reverse_cons, List.take_append_of_le_length (by omega)] at h1
      exact h1
theorem atOut_last {t : Tab} {x : Int} {n : Nat} {fn : SFunc} (h0 : tabNo t = 0) (hn : findI (SFunc.has x) t.fu.l 0 = n) (hfn : t.fu.l[n]? = some fn) : ∃ (q : List SPlace) (p : SPlace), atOut t x = q ++ [p] ∧ p.fn = fn.name ∧ q.length ≤ 10 := by
  have hall := calls_right _ _ _ (tab_calls h0)
  refine ⟨_, _, by unfold atOut; simp only [hn]; rw [if_neg (by omega)], ?_, ?_⟩
  · simp [List.getD, hfn]
  · rw [goPlaces_cnt, List.length_nil, Nat.zero_add]
    exact calls_deep _ fun i c hc => by
      rw [List.reverse_reverse] at hc ⊢
      exact (call_nest (hall i c hc).2.2).2
end Go.Proofs.YtofolhnecfkjkaaDoor
