/- slices.SortFunc at structs, in the engine's words: an owned row is handed back sorted, under a compare function of which a contract with Below is known. Conditions: those of each theorem. -/
import Derived.Test.YtekbcbjimajnfaaGreatDoorDrnc
import Derived.Test.YtekbcbjimajnfaaGreatDoorLend
import Derived.Shelf.SlSortCmp.NoneTotal
namespace Go.Eng
open Go.RowKit Go.Shelf Go.Lib Go.Sort Go.Proofs
set_option linter.unusedSimpArgs false
set_option linter.unusedVariables false
section
variable {α : Type} [Inhabited α] {enc : α → List Value} {k : Nat}
omit [Inhabited α] in
theorem flatMap_len (hk : ∀ x, (enc x).length = k) : ∀ (l : List α), (l.flatMap enc).length = l.length * k
  | [] => by simp
  | a :: r => by rw [List.flatMap_cons, List.length_append, hk, flatMap_len hk r, List.length_cons, Nat.add_mul, Nat.one_mul, Nat.add_comm]
theorem flatMap_get (hk : ∀ x, (enc x).length = k) : ∀ (l : List α) (t : Nat), (l.flatMap enc)[t]? = if t < l.length * k then some ((enc l[t / k]!)[t % k]!) else none
  | [], t => by simp
  | a :: r, t => by
    rw [List.flatMap_cons, List.getElem?_append, hk]
    by_cases h : t < k
    · have h2 : t < (enc a).length := by rw [hk]; exact h
      rw [if_pos h, if_pos (by simp only [List.length_cons, Nat.add_mul]; omega), Nat.div_eq_of_lt h, Nat.mod_eq_of_lt h]
      simp [h2]
    · rw [if_neg h, flatMap_get hk r (t - k)]
      rcases Nat.eq_zero_or_pos k with h0 | h0
      · subst h0; simp
      · have e1 : t / k = (t - k) / k + 1 := Nat.div_eq_sub_div h0 (by omega)
        have e2 : t % k = (t - k) % k := Nat.mod_eq_sub_mod (by omega)
        rw [e1, e2]
        simp only [List.length_cons, Nat.add_mul, Nat.one_mul, List.getElem!_cons_succ]
        by_cases h3 : t - k < r.length * k
        · rw [if_pos h3, if_pos (by omega)]
        · rw [if_neg h3, if_neg (by omega)]
theorem flatK_list (hk : ∀ x, (enc x).length = k) (d : Array α) : (flatK enc k d).toList = d.toList.flatMap enc := by
  apply List.ext_getElem?
  intro t
  rw [flatMap_get hk]
  by_cases h : t < d.size * k
  · rw [if_pos (by simpa using h)]
    have h1 : t < (flatK enc k d).size := by rw [size_flatK]; exact h
    have h2 := get_flatK enc k d t h
    rw [getElem!_pos _ t h1] at h2
    rw [Array.getElem?_toList, Array.getElem?_eq_getElem h1, h2]
    simp [getElem!_def]
  · rw [if_neg (by simpa using h), List.getElem?_eq_none (by simp; omega)]
theorem holds_own (hk : ∀ x, (enc x).length = k) {w : World} {g : Nat} {cur : Array Value} {e : TypeId} {l : List α} (hg : w.heap[g]? = some (.cells cur e (0, 0))) (hcur : cur.toList.take (l.length * k) = l.flatMap enc) : HoldsK enc k w g 0 l.toArray := by
  intro j hj
  rw [size_flatK] at hj
  rw [get_flatK _ _ _ _ hj]
  have hj' : j < l.length * k := by simpa using hj
  constructor
  · have h := congrArg (·[j]?) hcur
    simp only [List.getElem?_take, hj', if_true, flatMap_get hk] at h
    simp only [World.cell?, hg, Nat.zero_add]
    rw [Array.getElem?_toList] at h
    simpa using h
  · simp [World.frozen?, hg]
theorem heap_sorted (hk : ∀ x, (enc x).length = k) {w : World} {g m : Nat} {cur : Array Value} {e : TypeId} {d' : Array α} {os : Array Obj} (hg : w.heap[g]? = some (.cells cur e (0, 0))) (hcs : d'.size * k ≤ cur.size) :
    ∃ cur' : Array Value, (sortWorldK enc k w g 0 m d' os).heap[g]? = some (.cells cur' e (0, 0)) ∧ cur'.size = cur.size ∧ cur'.toList.take (d'.size * k) = d'.toList.flatMap enc := by
  have hlt : g < w.heap.size := (Array.getElem?_eq_some_iff.1 hg).1
  refine ⟨putCells id 0 (flatK enc k d') cur, ?_, by simp [putCells], ?_⟩
  · unfold sortWorldK
    rw [heap_grow_old _ _ (by show g < (Array.modify _ _ _).size; simpa [ahead] using hlt)]
    show (Array.modify w.heap g _)[g]? = _
    rw [Array.getElem?_modify, if_pos rfl, hg]
    rfl
  · rw [← flatK_list hk]
    apply List.ext_getElem?
    intro t
    rw [List.getElem?_take]
    by_cases h : t < d'.size * k
    · rw [if_pos h, Array.getElem?_toList, Array.getElem?_toList]
      have h1 : t < (flatK enc k d').size := by rw [size_flatK]; exact h
      rw [Array.getElem?_eq_getElem h1]
      have h2 : t < cur.size := by omega
      simp only [putCells, Array.getElem?_mapIdx, Array.getElem?_eq_getElem h2, Option.map_some, Nat.zero_le, true_and, Nat.zero_add, size_flatK, h, if_true, Nat.sub_zero, id_eq]
      rw [getElem!_pos _ t h1]
    · rw [if_neg h, List.getElem?_eq_none (by simp; omega)]
theorem sorted_grown {w : World} {g m : Nat} {d' : Array α} {os : Array Obj} (hlt : g < w.heap.size) : w.grownBy (sortWorldK enc k w g 0 m d' os) (some g) := by
  refine ⟨rfl, rfl, rfl, ?_, ?_⟩
  · show w.heap.size ≤ (Array.modify w.heap g _ ++ os).size
    simp
  · intro b hb hne
    unfold sortWorldK
    rw [heap_grow_old _ _ (by show b < (Array.modify _ _ _).size; simpa [ahead] using hb)]
    show (Array.modify w.heap g _)[b]? = _
    rw [Array.getElem?_modify, if_neg (fun e => hne (by rw [e]))]
/-- what the sort makes of a list -/
def pdqL (cf : α → α → Int) (l : List α) : List α := (Sort.pdq (ltOf cf) l.toArray 0 l.toArray.size (Lib.bitLen l.toArray.size) true true).toList
theorem pdqL_facts {cf : α → α → Int} (hO : SWO (ltOf cf)) (l : List α) : (pdqL cf l).Perm l ∧ (pdqL cf l).Pairwise fun x y => ltOf cf y x = false := by
  have h := pdq_sorts (ltOf cf) hO l.toArray 0 l.toArray.size (Lib.bitLen l.toArray.size) true true (Nat.zero_le _) (Nat.le_refl _) (Or.inl rfl)
  obtain ⟨⟨h1, _, h2⟩, h3⟩ := h
  unfold pdqL
  generalize Sort.pdq (ltOf cf) l.toArray 0 l.toArray.size (Lib.bitLen l.toArray.size) true true = d at h1 h2 h3 ⊢
  constructor
  · have e1 : d.extract 0 l.toArray.size = d := by rw [← h1]; exact Array.extract_size
    rw [e1, Array.extract_size] at h2
    simpa using h2
  · rw [List.pairwise_iff_getElem]
    intro i j hi hj hij
    have := h3 i j (Nat.zero_le _) hij (by rw [← h1]; simpa using hj)
    rw [getElem!_pos _ j (by simpa using hj), getElem!_pos _ i (by simpa using hi)] at this
    simpa using this
theorem pdqL_len {cf : α → α → Int} (hO : SWO (ltOf cf)) (l : List α) : (pdqL cf l).length = l.length := (pdqL_facts hO l).1.length_eq
end
section
variable {P : Program} {ρ : Ren} {α : Type} [Inhabited α] {enc : α → List Value} {k : Nat}
/-- an owned row is sorted: the compare function may read what the sort does not turn -/
theorem sort_own (L : SlLaysF0.n6 P ρ) (aE : ∀ w, (isAgg (ρ.t 24)).run P w = .ok true w) (zE : ∀ w, (Go.sizeOf (ρ.t 24)).run P w = .ok k w) (hk : ∀ x, (enc x).length = k) (h1 : ∀ x, ∀ v ∈ enc x, v.oneCell' = true)
    (cf : α → α → Int) (hO : SWO (ltOf cf)) (g : Nat) (cb : Array Value) (eg : ∀ args w, (callFunc g args).run P w = .ok (.enter g args) w) {w0 : World} {K : HL} (hK : FromK K) (T : TypeId) (A : Option Addr) (q c : Nat) (l : List α) (w : World) (hlen : l.length = q) (hq : q < 4611686018427387904)
    (hcmp : ∀ w', w.grownBy w' (Value.slice A q c).ownBlock → ∀ x y, Calls P g (#[.agg (enc x).toArray, .agg (enc y).toArray] ++ cb) w' fun e w'' => e = .returned (.int .i64 (cf x y)) ∧ RowKit.Below w'.heap.size w' w'')
    (hM : Mem w0 ([(0, .own T k (.slice A q c) q (l.flatMap enc))] ++ K) w) :
    Calls P (ρ.f 6) #[.slice A q c, .func (.func g) #[] cb] w fun e w' => ∃ l' : List α, e = .returned (.tuple #[]) ∧ l' = pdqL cf l ∧ Mem w0 ([(0, .own T k (.slice A q c) q (l'.flatMap enc))] ++ K) w' := by
  have h0 := hM.sat 0 _ rfl
  obtain ⟨hx, hv⟩ := h0
  rcases hv with ⟨hv, hn⟩ | ⟨b, cap, cur, hv, hb, hg, hc1, hc2, hc3, hc4⟩
  · simp only [Value.slice.injEq] at hv
    obtain ⟨rfl, rfl, rfl⟩ := hv
    have hl0 : l = [] := List.eq_nil_of_length_eq_zero hlen
    subst hl0
    refine (AnyF.slices_SortFunc_none L none 0 _ w).mono ?_
    rintro e w' ⟨rfl, rfl⟩
    have hp : pdqL cf ([] : List α) = [] := List.eq_nil_of_length_eq_zero (pdqL_len hO [])
    exact ⟨[], rfl, hp.symm, hM⟩
  · simp only [Value.slice.injEq] at hv
    obtain ⟨rfl, _, rfl⟩ := hv
    subst hlen
    have hlt : b < w.heap.size := (Array.getElem?_eq_some_iff.1 hg).1
    have hH : HoldsK enc k w b 0 l.toArray := holds_own hk hg hc4
    have hC : CmpLays P g cb enc k cf b 0 l.toArray.size w := by
      intro m os dk hdk x y
      exact Go.Drn.calls_grow (hcmp _ (sorted_grown hlt) x y)
    have hle : l.length * k ≤ c * k := Nat.mul_le_mul_right k hc1
    have := AnyQ.slices_SortFunc_eq L k aE zE enc hk h1 cf hO g cb b 0 c l.toArray w eg hC hH hlt (by simpa using hq)
    simp only [List.size_toArray] at this
    refine this.mono ?_
    rintro e w' ⟨rfl, m, os, hw⟩
    have e1 : Sort.pdq (ltOf cf) l.toArray 0 l.length (Lib.bitLen l.length) true true = (pdqL cf l).toArray := by simp [pdqL]
    rw [e1] at hw
    have hl' := pdqL_len hO l
    obtain ⟨cur', g1, g2, g3⟩ := heap_sorted (m := m) (os := os) (d' := (pdqL cf l).toArray) hk hg (by simp [hl']; omega)
    rw [← hw] at g1
    refine ⟨pdqL cf l, rfl, rfl, ?_⟩
    have hT := hM.turn (i := 0) rfl (p' := .own T k (.slice (some ⟨b, 0, none⟩) l.length c) l.length ((pdqL cf l).flatMap enc)) (w' := w') (by rw [hw]; exact sorted_grown hlt) ⟨by
      rw [flatMap_len hk, hl'], .inr ⟨b, c, cur', rfl, hb, g1, hc1, hc2, by omega, by simpa [hl'] using g3⟩⟩ (.inl rfl)
    have conv : ∀ i p, HL.get ([(0, It.own T k (.slice (some ⟨b, 0, none⟩) l.length c) l.length ((pdqL cf l).flatMap enc))] ++ K) i = some p → HL.get ((0, It.own T k (.slice (some ⟨b, 0, none⟩) l.length c) l.length ((pdqL cf l).flatMap enc)) :: ([(0, It.own T k (.slice (some ⟨b, 0, none⟩) l.length c) l.length (l.flatMap enc))] ++ K)) i = some p := by
      intro i p hp
      simp only [HL.get, List.cons_append, List.nil_append] at hp ⊢
      cases hb : Nat.beq 0 i
      · rw [hb] at hp; exact hp
      · rw [hb] at hp; exact hp
    exact ⟨hT.below, fun i p hp => hT.sat i p (conv i p hp), fun i j p q hij hp hq => hT.apart i j p q hij (conv i p hp) (conv j q hq)⟩
end
end Go.Eng
