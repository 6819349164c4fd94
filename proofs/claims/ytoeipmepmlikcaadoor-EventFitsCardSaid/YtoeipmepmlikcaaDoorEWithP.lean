/- Tags put together: in a map or in a list, it is the same sorted list. No program in sight. -/
import Derived.Test.YtoeipmepmlikcaaDoorEFitP
import Derived.Test.YtoeipmepmlikcaaDoorECmp
import Derived.Test.YtoeipmepmlikcaaDoorSort
import Derived.Test.YtoeipmepmlikcaaDoorMapR
namespace Go.Proofs.YtoeipmepmlikcaaDoor
set_option linter.unusedSimpArgs false
set_option linter.unusedVariables false
set_option maxRecDepth 20000
open Go.RowKit Go.Eng
/-- the first fault of tags that are to be put in -/
def wiNo (seen : List (List UInt8)) : List STag → Int
  | [] => 0
  | t :: r => if nameOk t.n = false then 3 else if valNo t.v ≠ 0 then valNo t.v else if seen.contains t.n = true then 6 else wiNo (seen ++ [t.n]) r
def tkv (t : STag) : List UInt8 × Value := (t.n, str t.v)
def tput : List STag → STag → List STag
  | [], t => [t]
  | x :: r, t => if t.n = x.n then ⟨x.n, t.v⟩ :: r else x :: tput r t
theorem mput_t (t : STag) : ∀ M : List STag, mput (M.map tkv) t.n (str t.v) = (tput M t).map tkv
  | [] => rfl
  | x :: r => by
    show (if t.n = x.n then (x.n, str t.v) :: r.map tkv else tkv x :: mput (r.map tkv) t.n (str t.v)) = _
    rw [tput]
    by_cases h : t.n = x.n
    · rw [if_pos h, if_pos h]; rfl
    · rw [if_neg h, if_neg h, mput_t t r]; rfl
theorem mput_seen (s : List UInt8) : ∀ l : List (List UInt8), s ∉ l → mput (l.map fun s => (s, Value.bool true)) s (.bool true) = (l ++ [s]).map fun s => (s, Value.bool true)
  | [], _ => rfl
  | a :: r, h => by
    rw [List.mem_cons, not_or] at h
    simp only [List.map_cons, mput, List.cons_append, if_neg h.1, mput_seen s r h.2]
theorem mget_seen (s : List UInt8) : ∀ l : List (List UInt8), (mget (l.map fun s => (s, Value.bool true)) s).getD (.bool false) = .bool (l.contains s)
  | [] => rfl
  | a :: r => by
    simp only [List.map_cons, mget, List.contains_cons]
    by_cases h : s = a
    · simp [h]
    · rw [if_neg h, mget_seen s r]; simp [h]
def tputs (M ts : List STag) : List STag := ts.foldl tput M
def namesOf (l : List STag) : List (List UInt8) := l.map (·.n)
/-- those whose names are not among ns -/
def outs (E : List STag) (ns : List (List UInt8)) : List STag := E.filter fun u => !ns.contains u.n
theorem outs_nil (E : List STag) : outs E [] = E := by
  unfold outs; rw [List.filter_eq_self]; intro a _; rfl
theorem outs_snoc (E : List STag) (ns : List (List UInt8)) (n : List UInt8) : outs E (ns ++ [n]) = (outs E ns).filter fun u => !decide (u.n = n) := by
  unfold outs
  rw [List.filter_filter]
  congr 1
  funext u
  rw [Bool.eq_iff_iff]
  simp [List.contains_eq_mem, not_or, and_comm]
theorem outs_cons (E : List STag) (ns : List (List UInt8)) (n : List UInt8) : outs E (n :: ns) = outs (E.filter fun u => !decide (u.n = n)) ns := by
  unfold outs
  rw [List.filter_filter]
  congr 1
  funext u
  rw [Bool.eq_iff_iff]
  simp [List.contains_eq_mem, not_or, and_comm]
theorem filter_no {n : List UInt8} : ∀ r : List STag, n ∉ namesOf r → r.filter (fun u => !decide (u.n = n)) = r := fun r h => by
  rw [List.filter_eq_self]
  intro a ha
  have : a.n ≠ n := fun e => h (e ▸ List.mem_map_of_mem ha)
  simp [this]
theorem tput_perm (t : STag) : ∀ M : List STag, (namesOf M).Nodup → (tput M t).Perm ((M.filter fun u => !decide (u.n = t.n)) ++ [t])
  | [], _ => .refl _
  | x :: r, h => by
    rw [namesOf, List.map_cons, List.nodup_cons] at h
    rw [tput]
    by_cases hx : t.n = x.n
    · rw [if_pos hx, List.filter_cons, if_neg (by simp [hx]), filter_no r (by rw [hx]; exact h.1), ← hx]
      exact (List.perm_append_comm (l₁ := r) (l₂ := [t])).symm
    · rw [if_neg hx, List.filter_cons, if_pos (by simpa using fun e => hx e.symm)]
      exact (tput_perm t r h.2).cons _
theorem outs_perm {A B : List STag} (h : A.Perm B) (ns : List (List UInt8)) : (outs A ns).Perm (outs B ns) := h.filter _
theorem outs_append (A B : List STag) (ns : List (List UInt8)) : outs (A ++ B) ns = outs A ns ++ outs B ns := by unfold outs; rw [List.filter_append]
theorem tputs_perm : ∀ (ts M : List STag), (namesOf M).Nodup → (namesOf ts).Nodup → (tputs M ts).Perm (outs M (namesOf ts) ++ ts)
  | [], M, _, _ => by rw [show namesOf [] = [] from rfl, outs_nil, List.append_nil]; exact .refl _
  | t :: r, M, hM, ht => by
    rw [namesOf, List.map_cons, List.nodup_cons] at ht
    have h1 := tput_perm t M hM
    have hn : (namesOf (tput M t)).Nodup := by
      have h2 := (h1.map (·.n)).nodup_iff
      show ((tput M t).map (·.n)).Nodup
      rw [h2, List.map_append, List.nodup_append]
      refine ⟨hM.sublist (List.filter_sublist.map _), by simp, fun a ha b hb => ?_⟩
      simp only [List.map_cons, List.map_nil, List.mem_singleton] at hb
      subst hb
      obtain ⟨u, hu, rfl⟩ := List.mem_map.1 ha
      have := (List.mem_filter.1 hu).2
      simpa using this
    show (tputs (tput M t) r).Perm _
    refine (tputs_perm r (tput M t) hn ht.2).trans ?_
    refine ((outs_perm h1 (namesOf r)).append_right r).trans ?_
    rw [outs_append, ← outs_cons, show outs [t] (namesOf r) = [t] from by
      unfold outs
      rw [List.filter_cons, if_pos (show (!(namesOf r).contains t.n) = true from by rw [List.contains_eq_mem, decide_eq_false (show t.n ∉ namesOf r from ht.1)]; rfl), List.filter_nil], List.append_assoc]
    exact .refl _
theorem tputs_self : ∀ (ts M : List STag), (namesOf (M ++ ts)).Nodup → tputs M ts = M ++ ts
  | [], M, _ => by simp [tputs]
  | t :: r, M, h => by
    have e : ∀ M : List STag, t.n ∉ namesOf M → tput M t = M ++ [t] := by
      intro M
      induction M with
      | nil => intro _; rfl
      | cons x q ih =>
        intro hx
        rw [namesOf, List.map_cons, List.mem_cons, not_or] at hx
        rw [tput, if_neg hx.1, ih hx.2]; rfl
    have h1 : t.n ∉ namesOf M := by
      rw [namesOf, List.map_append, List.nodup_append] at h
      intro hm
      exact h.2.2 _ hm t.n (by simp) rfl
    show tputs (tput M t) r = _
    rw [e M h1, tputs_self r (M ++ [t]) (by simpa using h)]
    simp
theorem tputs_snoc {M l : List STag} {t : STag} {i : Nat} (h : l[i]? = some t) : tputs M (l.take (i + 1)) = tput (tputs M (l.take i)) t := by
  obtain ⟨h1, h2⟩ := List.getElem?_eq_some_iff.1 h
  rw [← h2, List.take_succ_eq_append_getElem h1, tputs, List.foldl_append]
  rfl
theorem names_snoc {l : List STag} {t : STag} {i : Nat} (h : l[i]? = some t) : namesOf (l.take (i + 1)) = namesOf (l.take i) ++ [t.n] := by
  obtain ⟨h1, h2⟩ := List.getElem?_eq_some_iff.1 h
  rw [← h2, List.take_succ_eq_append_getElem h1, namesOf, List.map_append]
  rfl
/-- names in order are all different -/
theorem bytesLess_trans' {a b c : List UInt8} (h1 : a < b) (h2 : b < c) : a < c := List.lt_trans h1 h2
theorem tagsNo_sorted : ∀ (l : List STag) (p : Option (List UInt8)), tagsNo p l = 0 → (∀ q, p = some q → ∀ t ∈ l, q < t.n) ∧ (namesOf l).Pairwise (· < ·)
  | [], _, _ => ⟨fun _ _ _ h => (by cases h), List.Pairwise.nil⟩
  | t :: r, p, h => by
    rw [tagsNo] at h
    split at h
    · cases h
    · split at h
      · cases h
      · rename_i hp
        split at h
        · exact absurd h ‹_›
        · obtain ⟨h1, h2⟩ := tagsNo_sorted r (some t.n) h
          have hlt : ∀ q, p = some q → q < t.n := fun q hq => by
            subst hq
            simp only [Option.any_some, Bool.or_eq_true, decide_eq_true_eq, not_or, Go.Proofs.bytesLess_eq] at hp
            rcases Decidable.em (q < t.n) with h | h
            · exact h
            · exact absurd (List.le_antisymm (List.not_lt.1 h) (List.not_lt.1 hp.1)) (fun e => hp.2 (by rw [e]))
          refine ⟨fun q hq u hu => ?_, ?_⟩
          · rcases List.mem_cons.1 hu with rfl | hu
            · exact hlt q hq
            · exact bytesLess_trans' (hlt q hq) (h1 _ rfl u hu)
          · rw [namesOf, List.map_cons, List.pairwise_cons]
            exact ⟨fun n hn => by obtain ⟨u, hu, rfl⟩ := List.mem_map.1 hn; exact h1 _ rfl u hu, h2⟩
theorem sorted_nodup {l : List (List UInt8)} (h : l.Pairwise (· < ·)) : l.Nodup := List.Pairwise.imp (fun {a b} (h : a < b) (e : a = b) => by subst e; exact List.lt_irrefl _ h) h
theorem wiNo_nodup : ∀ (ts : List STag) (seen : List (List UInt8)), seen.Nodup → wiNo seen ts = 0 → (seen ++ namesOf ts).Nodup
  | [], seen, h, _ => by simpa [namesOf] using h
  | t :: r, seen, h, h0 => by
    rw [wiNo] at h0
    split at h0
    · cases h0
    · split at h0
      · exact absurd h0 ‹_›
      · split at h0
        · cases h0
        · rename_i hc
          have := wiNo_nodup r (seen ++ [t.n]) (by
            rw [List.nodup_append]
            refine ⟨h, by simp, fun a ha b hb => ?_⟩
            simp only [List.mem_singleton] at hb
            subst hb
            rintro rfl
            exact hc (by simpa [List.contains_eq_mem] using ha)) h0
          simpa [namesOf] using this
/-! ### The order of tags -/
instance : Inhabited STag := ⟨⟨[], []⟩⟩
def cfT (x y : STag) : Int := cmpB x.n y.n
theorem cmpB_lt (a b : List UInt8) : cmpB a b < 0 ↔ a < b := by
  unfold cmpB
  simp only [Go.Proofs.bytesLess_eq, decide_eq_true_eq]
  by_cases h : a < b
  · simp [h]
  · rw [if_neg h]
    by_cases e : a = b
    · simp [e]
    · rw [if_neg e]; simp [h]
theorem ltT_iff (x y : STag) : Go.Proofs.ltOf cfT x y = true ↔ x.n < y.n := by
  show decide (cfT x y < 0) = true ↔ _
  rw [decide_eq_true_eq]
  exact cmpB_lt _ _
theorem bl_total {a b : List UInt8} (h1 : ¬ a < b) (h2 : ¬ b < a) : a = b := List.le_antisymm (List.not_lt.1 h2) (List.not_lt.1 h1)
theorem swoT : Go.Sort.SWO (Go.Proofs.ltOf cfT) := ⟨fun x => by
    rw [← Bool.not_eq_true, ltT_iff]; exact List.lt_irrefl _, fun x y z h1 h2 => by
    rw [ltT_iff] at *; exact List.lt_trans h1 h2, fun x y z h1 h2 => by
    rw [← Bool.not_eq_true, ltT_iff] at *
    intro h
    by_cases h3 : y.n < x.n
    · exact h2 (List.lt_trans h3 h)
    · rw [bl_total h1 h3] at h; exact h2 h⟩
def tsort (l : List STag) : List STag := pdqL cfT l
theorem tsort_perm (l : List STag) : (tsort l).Perm l := (pdqL_facts swoT l).1
theorem names_inj : ∀ {l : List STag}, (namesOf l).Nodup → ∀ x ∈ l, ∀ y ∈ l, x.n = y.n → x = y
  | [], _ => fun x hx => by cases hx
  | a :: r, h => fun x hx y hy e => by
    rw [namesOf, List.map_cons, List.nodup_cons] at h
    rcases List.mem_cons.1 hx with hx1 | hx1 <;> rcases List.mem_cons.1 hy with hy1 | hy1
    · rw [hx1, hy1]
    · subst hx1; exact absurd (show x.n ∈ r.map (·.n) from e ▸ List.mem_map_of_mem hy1) h.1
    · subst hy1; exact absurd (show y.n ∈ r.map (·.n) from e ▸ List.mem_map_of_mem hx1) h.1
    · exact names_inj h.2 x hx1 y hy1 e
theorem tsort_eq {l m : List STag} (h : l.Perm m) (hn : (namesOf l).Nodup) : tsort l = tsort m := by
  obtain ⟨p1, s1⟩ := pdqL_facts swoT l
  obtain ⟨p2, s2⟩ := pdqL_facts swoT m
  refine List.Perm.eq_of_pairwise (le := fun x y => Go.Proofs.ltOf cfT y x = false) (fun a b ha hb h1 h2 => ?_) s1 s2 (p1.trans (h.trans p2.symm))
  rw [← Bool.not_eq_true, ltT_iff] at h1 h2
  exact names_inj hn a (p1.mem_iff.1 ha) b (h.mem_iff.2 (p2.mem_iff.1 hb)) (bl_total h2 h1)
def wiAll (e : Evt) (ts : List STag) : List STag := outs e.ta.l (namesOf ts) ++ ts
def withNo (e : Evt) (ts : List STag) : Int := if evNo e ≠ 0 then evNo e else if wiNo [] ts ≠ 0 then wiNo [] ts else if (40 : Int) < ((wiAll e ts).length : Int) then 4 else 0
structure WiP (e : Evt) (ts : List STag) (v : Evt) : Prop where
  id : v.id = e.id
  at_ : v.at_ = e.at_
  lv : v.lv = e.lv
  rel : v.rel = e.rel
  us : v.us = e.us
  wt : v.wt = e.wt
  fa : v.fa.l.map Flt.cont = e.fa.l.map Flt.cont
  ta : v.ta.l = tsort (wiAll e ts)
  cr : v.cr.l = e.cr.l
theorem ev_names {e : Evt} (h : evNo e = 0) : (namesOf e.ta.l).Nodup := sorted_nodup (tagsNo_sorted _ _ (ev_parts h).2.1.2).2
theorem wi_names {ts : List STag} (h : wiNo [] ts = 0) : (namesOf ts).Nodup := by simpa using wiNo_nodup ts [] List.nodup_nil h
/-- what the map holds in the end -/
theorem wi_map {e : Evt} {ts : List STag} (h1 : evNo e = 0) (h2 : wiNo [] ts = 0) : (tputs (tputs [] e.ta.l) ts).Perm (wiAll e ts) := by
  rw [tputs_self e.ta.l [] (by simpa using ev_names h1), List.nil_append]
  exact tputs_perm ts e.ta.l (ev_names h1) (wi_names h2)
theorem wiAll_names {e : Evt} {ts : List STag} (h1 : evNo e = 0) (h2 : wiNo [] ts = 0) : (namesOf (wiAll e ts)).Nodup := by
  rw [wiAll, namesOf, List.map_append, List.nodup_append]
  refine ⟨(ev_names h1).sublist (List.filter_sublist.map _), wi_names h2, fun a ha b hb => ?_⟩
  rintro rfl
  obtain ⟨u, hu, rfl⟩ := List.mem_map.1 ha
  have := (List.mem_filter.1 hu).2
  simp only [Bool.not_eq_true', List.contains_eq_mem, decide_eq_false_iff_not] at this
  exact this hb
theorem wiAll_mem {e : Evt} {ts : List STag} {t : STag} (h : t ∈ wiAll e ts) : t ∈ e.ta.l ∨ t ∈ ts := by
  rcases List.mem_append.1 h with h | h
  · exact .inl (List.mem_filter.1 h).1
  · exact .inr h
end Go.Proofs.YtoeipmepmlikcaaDoor
