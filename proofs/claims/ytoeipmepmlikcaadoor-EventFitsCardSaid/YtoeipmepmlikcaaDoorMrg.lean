/- Merging in place, in plain lists: insertion, the split of two sorted rows, blocks that grow. No program in sight. -/
import Derived.Test.YtoeipmepmlikcaaDoorEv
namespace Go.Proofs.YtoeipmepmlikcaaDoor
set_option linter.unusedSimpArgs false
set_option linter.unusedVariables false
set_option maxRecDepth 20000
section
variable {α : Type}
theorem set_mid {A B : List α} {x y : α} {n : Nat} (h : n = A.length) : (A ++ x :: B).set n y = A ++ y :: B := by
  subst h
  simp
theorem at_mid {A B : List α} {x : α} {n : Nat} (h : n = A.length) : (A ++ x :: B)[n]? = some x := by
  subst h
  simp
/-- x stands in P at place t, between X and Y -/
def insL (X P : List α) (x : α) (t : Nat) (Y : List α) : List α := X ++ (P.take t ++ x :: P.drop t) ++ Y
theorem insL_eq {X P Y : List α} {x : α} {t : Nat} : insL X P x t Y = (X ++ P.take t) ++ x :: (P.drop t ++ Y) := by
  simp [insL]
theorem insL_len {X P Y : List α} {x : α} {t : Nat} : (insL X P x t Y).length = X.length + P.length + 1 + Y.length := by
  simp only [insL, List.length_append, List.length_cons, List.length_take, List.length_drop]
  omega
theorem insL_at {X P Y : List α} {x : α} {t n : Nat} (ht : t ≤ P.length) (hn : n = X.length + t) : (insL X P x t Y)[n]? = some x := by
  rw [insL_eq]
  exact at_mid (by rw [List.length_append, List.length_take]; omega)
theorem drop_at {P : List α} {y : α} {t : Nat} (h : P[t]? = some y) : P.drop t = y :: P.drop (t + 1) := by
  obtain ⟨h1, h2⟩ := List.getElem?_eq_some_iff.1 h
  rw [← h2]; exact List.drop_eq_getElem_cons h1
theorem take_snoc {P : List α} {y : α} {t : Nat} (h : P[t]? = some y) : P.take (t + 1) = P.take t ++ [y] := by
  obtain ⟨h1, h2⟩ := List.getElem?_eq_some_iff.1 h
  rw [← h2, List.take_succ_eq_append_getElem h1]
theorem insL_next {X P Y : List α} {x y : α} {t n : Nat} (h : P[t]? = some y) (hn : n = X.length + t + 1) : (insL X P x t Y)[n]? = some y := by
  have h1 := (List.getElem?_eq_some_iff.1 h).1
  rw [insL_eq, drop_at h, show (X ++ P.take t) ++ x :: (y :: P.drop (t + 1) ++ Y) = (X ++ P.take t ++ [x]) ++ y :: (P.drop (t + 1) ++ Y) by simp]
  exact at_mid (by simp only [List.length_append, List.length_take, List.length_cons, List.length_nil]; omega)
theorem insL_prev {X P Y : List α} {x y : α} {t n : Nat} (h : P[t]? = some y) (hn : n = X.length + t) : (insL X P x (t + 1) Y)[n]? = some y := by
  have h1 := (List.getElem?_eq_some_iff.1 h).1
  rw [insL_eq, take_snoc h, show (X ++ (P.take t ++ [y])) ++ x :: (P.drop (t + 1) ++ Y) = (X ++ P.take t) ++ y :: (x :: (P.drop (t + 1) ++ Y)) by simp]
  exact at_mid (by simp only [List.length_append, List.length_take]; omega)
theorem insL_hi {X P Y : List α} {x y : α} {t i n : Nat} (ht : t ≤ i) (h : P[i]? = some y) (hn : n = X.length + i + 1) : (insL X P x t Y)[n]? = some y := by
  have h1 := (List.getElem?_eq_some_iff.1 h).1
  have hl : (P.take t).length = t := by rw [List.length_take]; omega
  rw [insL, List.append_assoc, List.getElem?_append_right (by omega), List.getElem?_append_left (by simp only [List.length_append, List.length_cons, List.length_drop, hl]; omega), List.getElem?_append_right (by omega), hl,
    show n - X.length - t = (i - t) + 1 by omega, List.getElem?_cons_succ, List.getElem?_drop, show t + (i - t) = i by omega, h]
theorem insL_lo {X P Y : List α} {x y : α} {t i n : Nat} (ht : i < t) (h : P[i]? = some y) (hn : n = X.length + i) : (insL X P x t Y)[n]? = some y := by
  have h1 := (List.getElem?_eq_some_iff.1 h).1
  have hl : i < (P.take t).length := by rw [List.length_take]; omega
  rw [insL, List.append_assoc, List.getElem?_append_right (by omega), List.getElem?_append_left (by rw [List.length_append]; omega), List.getElem?_append_left (by omega), List.getElem?_take, if_pos (by omega), show n - X.length = i by omega, h]
theorem insL_fold {X P D Y : List α} {x : α} {t : Nat} : insL X P x t (D ++ Y) = X ++ (P.take t ++ x :: P.drop t) ++ D ++ Y := by
  simp [insL]
/-- the elements at t and t + 1 change places: x goes up -/
theorem insL_up {X P Y : List α} {x y : α} {t n k : Nat} (h : P[t]? = some y) (hn : n = X.length + t) (hk : k = X.length + t + 1) : ((insL X P x t Y).set n y).set k x = insL X P x (t + 1) Y := by
  have h1 := (List.getElem?_eq_some_iff.1 h).1
  have hl : (X ++ P.take t).length = n := by rw [List.length_append, List.length_take]; omega
  rw [insL_eq, insL_eq, drop_at h, take_snoc h, set_mid hl.symm, show (X ++ P.take t) ++ y :: (y :: P.drop (t + 1) ++ Y) = (X ++ P.take t ++ [y]) ++ y :: (P.drop (t + 1) ++ Y) by simp,
    set_mid (by rw [List.length_append, hl]; simp only [List.length_cons, List.length_nil]; omega)]
  simp
/-- the elements at t + 1 and t change places: x goes down -/
theorem insL_dn {X P Y : List α} {x y : α} {t n k : Nat} (h : P[t]? = some y) (hn : n = X.length + t) (hk : k = X.length + t + 1) : ((insL X P x (t + 1) Y).set k y).set n x = insL X P x t Y := by
  have h1 := (List.getElem?_eq_some_iff.1 h).1
  have hl : (X ++ P.take t).length = n := by rw [List.length_append, List.length_take]; omega
  rw [insL_eq, insL_eq, drop_at h, take_snoc h, set_mid (by simp only [List.length_append, List.length_take, List.length_cons, List.length_nil]; omega),
    show (X ++ (P.take t ++ [y])) ++ y :: (P.drop (t + 1) ++ Y) = (X ++ P.take t) ++ y :: (y :: (P.drop (t + 1) ++ Y)) by simp, set_mid hl.symm]
  simp
theorem ins_perm {P : List α} {x : α} {t : Nat} : (P.take t ++ x :: P.drop t).Perm (x :: P) :=
  List.perm_middle.trans (by rw [List.take_append_drop])
variable {R : α → α → Prop}
theorem last_of {U : List α} (hU : U.Pairwise R) {l x : α} {k : Nat} (hk : U[k]? = some l) {i : Nat} (hi : i ≤ k) (hx : U[i]? = some x) : x = l ∨ R x l := by
  rcases Nat.eq_or_lt_of_le hi with rfl | h
  · rw [hk] at hx; exact .inl (Option.some.inj hx).symm
  · obtain ⟨h1, rfl⟩ := List.getElem?_eq_some_iff.1 hk
    obtain ⟨h2, rfl⟩ := List.getElem?_eq_some_iff.1 hx
    exact .inr (List.pairwise_iff_getElem.1 hU i k h2 h1 h)
theorem mem_take_at {U : List α} {x : α} {k : Nat} (h : x ∈ U.take k) : ∃ i, i < k ∧ U[i]? = some x := by
  obtain ⟨i, hi⟩ := List.mem_iff_getElem?.1 h
  rw [List.getElem?_take] at hi
  split at hi
  · exact ⟨i, ‹_›, hi⟩
  · cases hi
theorem mem_drop_at {U : List α} {x : α} {k : Nat} (h : x ∈ U.drop k) : ∃ i, k ≤ i ∧ U[i]? = some x := by
  obtain ⟨i, hi⟩ := List.mem_iff_getElem?.1 h
  rw [List.getElem?_drop] at hi
  exact ⟨k + i, by omega, hi⟩
theorem ins_sorted (tr : ∀ x y z, R x y → R y z → R x z) {P : List α} (hP : P.Pairwise R) {x : α} {t : Nat} (ht : t ≤ P.length) (h1 : ∀ y, 0 < t → P[t - 1]? = some y → R y x) (h2 : ∀ y, P[t]? = some y → R x y) : (P.take t ++ x :: P.drop t).Pairwise R := by
  have hlo : ∀ y ∈ P.take t, R y x := fun y hy => by
    obtain ⟨i, hi, hy⟩ := mem_take_at hy
    obtain ⟨l, hl⟩ : ∃ l, P[t - 1]? = some l := ⟨P[t - 1]'(by omega), List.getElem?_eq_getElem (by omega)⟩
    rcases last_of hP hl (by omega : i ≤ t - 1) hy with rfl | h
    · exact h1 _ (by omega) hl
    · exact tr _ _ _ h (h1 l (by omega) hl)
  have hhi : ∀ y ∈ P.drop t, R x y := fun y hy => by
    obtain ⟨i, hi, hy⟩ := mem_drop_at hy
    obtain ⟨l, hl⟩ : ∃ l, P[t]? = some l := ⟨P[t]'(by have := (List.getElem?_eq_some_iff.1 hy).1; omega), List.getElem?_eq_getElem (by have := (List.getElem?_eq_some_iff.1 hy).1; omega)⟩
    rcases last_of hP hy hi hl with rfl | h
    · exact h2 _ hl
    · exact tr _ _ _ (h2 l hl) h
  rw [List.pairwise_append]
  refine ⟨hP.sublist (List.take_sublist _ _), List.pairwise_cons.2 ⟨hhi, hP.sublist (List.drop_sublist _ _)⟩, fun a ha b hb => ?_⟩
  rcases List.mem_cons.1 hb with rfl | hb
  · exact hlo a ha
  · exact tr _ _ _ (hlo a ha) (hhi b hb)
/-- two sorted rows U and V, each cut in two: all of the two first parts is ahead of all of the two last parts -/
theorem mrg_split (tr : ∀ x y z, R x y → R y z → R x z) {U V : List α} {s e : Nat} (hU : U.Pairwise R) (hV : V.Pairwise R) (hs : s ≤ U.length) (he : e ≤ V.length)
    (hA : ∀ x y, 0 < s → U[s - 1]? = some x → V[e]? = some y → R x y) (hB : ∀ x y, 0 < e → V[e - 1]? = some x → U[s]? = some y → R x y) : ∀ x ∈ U.take s ++ V.take e, ∀ y ∈ U.drop s ++ V.drop e, R x y := by
  have key : ∀ {U V : List α} {s e : Nat}, U.Pairwise R → V.Pairwise R → s ≤ U.length → (∀ x y, 0 < s → U[s - 1]? = some x → V[e]? = some y → R x y) → ∀ x ∈ U.take s, ∀ y ∈ V.drop e, R x y := by
    intro U V s e hU hV hs h x hx y hy
    obtain ⟨i, hi, hx⟩ := mem_take_at hx
    obtain ⟨j, hj, hy⟩ := mem_drop_at hy
    obtain ⟨l, hl⟩ : ∃ l, U[s - 1]? = some l := ⟨U[s - 1]'(by omega), List.getElem?_eq_getElem (by omega)⟩
    have hjl := (List.getElem?_eq_some_iff.1 hy).1
    obtain ⟨f, hf⟩ : ∃ f, V[e]? = some f := ⟨V[e]'(by omega), List.getElem?_eq_getElem (by omega)⟩
    have h0 := h l f (by omega) hl hf
    have h1 : R x f := by
      rcases last_of hU hl (by omega : i ≤ s - 1) hx with rfl | h
      · exact h0
      · exact tr _ _ _ h h0
    rcases last_of hV hy hj hf with rfl | h
    · exact h1
    · exact tr _ _ _ h1 h
  have own : ∀ {U : List α} {s : Nat}, U.Pairwise R → ∀ x ∈ U.take s, ∀ y ∈ U.drop s, R x y := by
    intro U s hU x hx y hy
    obtain ⟨i, hi, hx⟩ := mem_take_at hx
    obtain ⟨j, hj, hy⟩ := mem_drop_at hy
    obtain ⟨h1, rfl⟩ := List.getElem?_eq_some_iff.1 hx
    obtain ⟨h2, rfl⟩ := List.getElem?_eq_some_iff.1 hy
    exact List.pairwise_iff_getElem.1 hU i j h1 h2 (by omega)
  intro x hx y hy
  rcases List.mem_append.1 hx with hx | hx <;> rcases List.mem_append.1 hy with hy | hy
  · exact own hU x hx y hy
  · exact key hU hV hs hA x hx y hy
  · exact key hV hU he hB x hx y hy
  · exact own hV x hx y hy
theorem mrg_join {U V W1 W2 : List α} {s e : Nat} (h1 : W1.Perm (U.take s ++ V.take e)) (h2 : W2.Perm (U.drop s ++ V.drop e)) : (W1 ++ W2).Perm (U ++ V) := by
  refine (h1.append h2).trans ?_
  have : (U.take s ++ V.take e ++ (U.drop s ++ V.drop e)).Perm (U.take s ++ U.drop s ++ (V.take e ++ V.drop e)) := by
    simp only [List.append_assoc]
    refine List.Perm.append_left _ ?_
    rw [← List.append_assoc, ← List.append_assoc]
    exact List.Perm.append_right _ List.perm_append_comm
  rwa [List.take_append_drop, List.take_append_drop] at this
theorem mrg_sorted {W1 W2 T1 T2 : List α} (h1 : W1.Perm T1) (h2 : W2.Perm T2) (s1 : W1.Pairwise R) (s2 : W2.Pairwise R) (h : ∀ x ∈ T1, ∀ y ∈ T2, R x y) : (W1 ++ W2).Pairwise R :=
  List.pairwise_append.2 ⟨s1, s2, fun x hx y hy => h x (h1.mem_iff.1 hx) y (h2.mem_iff.1 hy)⟩
/-! ### Two rows change places -/
/-- the first i elements of U and V have changed places -/
def swR (X U M V Y : List α) (i : Nat) : List α := (X ++ V.take i) ++ (U.drop i ++ M ++ U.take i) ++ (V.drop i ++ Y)
theorem swR_0 {X U M V Y : List α} : swR X U M V Y 0 = X ++ U ++ M ++ V ++ Y := by simp [swR]
theorem swR_end {X U M V Y : List α} {i : Nat} (hU : U.length ≤ i) (hV : V.length ≤ i) : swR X U M V Y i = X ++ V ++ M ++ U ++ Y := by
  simp [swR, List.take_of_length_le hU, List.take_of_length_le hV, List.drop_eq_nil_of_le hU, List.drop_eq_nil_of_le hV]
theorem swR_len {X U M V Y : List α} {i : Nat} : (swR X U M V Y i).length = (X ++ U ++ M ++ V ++ Y).length := by
  simp only [swR, List.length_append, List.length_take, List.length_drop]; omega
section
variable {X U M V Y : List α} {u v : α} {i n k : Nat} (hu : U[i]? = some u) (hv : V[i]? = some v) (hn : n = X.length + i) (hk : k = X.length + U.length + M.length + i)
include hu hv
theorem swR_eq : swR X U M V Y i = (X ++ V.take i) ++ u :: ((U.drop (i + 1) ++ M ++ U.take i) ++ v :: (V.drop (i + 1) ++ Y)) := by
  rw [swR, drop_at hu, drop_at hv]; simp
include hn
theorem swR_at1 : (swR X U M V Y i)[n]? = some u := by
  have h1 := (List.getElem?_eq_some_iff.1 hv).1
  rw [swR_eq hu hv]
  exact at_mid (by rw [List.length_append, List.length_take]; omega)
omit hn
include hk
theorem swR_at2 : (swR X U M V Y i)[k]? = some v := by
  have h1 := (List.getElem?_eq_some_iff.1 hv).1
  have h2 := (List.getElem?_eq_some_iff.1 hu).1
  rw [swR_eq hu hv, show (X ++ V.take i) ++ u :: ((U.drop (i + 1) ++ M ++ U.take i) ++ v :: (V.drop (i + 1) ++ Y)) = ((X ++ V.take i) ++ u :: (U.drop (i + 1) ++ M ++ U.take i)) ++ v :: (V.drop (i + 1) ++ Y) by simp]
  exact at_mid (by simp only [List.length_append, List.length_take, List.length_cons, List.length_drop]; omega)
include hn
theorem swR_at2' : ((swR X U M V Y i).set n v)[k]? = some v := by
  have h2 := (List.getElem?_eq_some_iff.1 hu).1
  rw [List.getElem?_set_ne (by omega)]
  exact swR_at2 hu hv hk
theorem swR_step : ((swR X U M V Y i).set n v).set k u = swR X U M V Y (i + 1) := by
  have h1 := (List.getElem?_eq_some_iff.1 hv).1
  have h2 := (List.getElem?_eq_some_iff.1 hu).1
  rw [swR_eq hu hv, set_mid (by rw [List.length_append, List.length_take]; omega), show (X ++ V.take i) ++ v :: ((U.drop (i + 1) ++ M ++ U.take i) ++ v :: (V.drop (i + 1) ++ Y)) = ((X ++ V.take i) ++ v :: (U.drop (i + 1) ++ M ++ U.take i)) ++ v :: (V.drop (i + 1) ++ Y) by simp,
    set_mid (by simp only [List.length_append, List.length_take, List.length_cons, List.length_drop]; omega), swR, take_snoc hu, take_snoc hv]
  simp
end
/-- what the compare function says of x, which stood ahead, and y -/
def Cmp (R : α → α → Prop) (cf : α → α → Int) (x y : α) : Prop := (cf y x < 0 → R y x) ∧ (¬ cf y x < 0 → R x y)
theorem cat_u {X U V Y : List α} {i n : Nat} {x : α} (h : U[i]? = some x) (hn : n = X.length + i) : (X ++ (U ++ V) ++ Y)[n]? = some x := by
  have h1 := (List.getElem?_eq_some_iff.1 h).1
  rw [List.append_assoc, List.getElem?_append_right (by omega), List.append_assoc, List.getElem?_append_left (by omega), show n - X.length = i by omega, h]
theorem cat_v {X U V Y : List α} {i n : Nat} {x : α} (h : V[i]? = some x) (hn : n = X.length + U.length + i) : (X ++ (U ++ V) ++ Y)[n]? = some x := by
  have h1 := (List.getElem?_eq_some_iff.1 h).1
  rw [List.append_assoc, List.getElem?_append_right (by omega), List.append_assoc, List.getElem?_append_right (by omega), List.getElem?_append_left (by omega), show n - X.length - U.length = i by omega, h]
theorem nil_or {U V : List α} {i e : Nat} (h : ¬ (i < U.length ∧ 0 < e)) : U.drop i ++ V.take e = V.take e ++ U.drop i := by
  rcases Nat.lt_or_ge i U.length with h1 | h1
  · have : e = 0 := by omega
    subst this; simp
  · rw [List.drop_eq_nil_of_le h1]; simp
/-! ### Blocks -/
def blk (k t : Nat) (l : List α) : List α := (l.drop (t * k)).take k
/-- l's blocks of k hold what l0's hold, and are sorted -/
def OkBlk (R : α → α → Prop) (k : Nat) (l l0 : List α) : Prop := ∀ t, (blk k t l).Perm (blk k t l0) ∧ (blk k t l).Pairwise R
theorem okBlk_nil {k : Nat} : OkBlk R k [] [] := fun t => by simp [blk]
theorem okBlk_app {k d : Nat} {D D0 W W0 : List α} (hd : D.length = d * k) (hl : D.length = D0.length) (h : OkBlk R k D D0) (hW : W.Perm W0) (hs : W.Pairwise R) (hWk : W.length ≤ k) : OkBlk R k (D ++ W) (D0 ++ W0) := fun t => by
  have hWl := hW.length_eq
  rcases Nat.lt_trichotomy t d with ht | ht | ht
  · have h1 : t * k + k ≤ d * k := by rw [← Nat.succ_mul]; exact Nat.mul_le_mul_right k ht
    have e1 : blk k t (D ++ W) = blk k t D := by
      unfold blk
      rw [List.drop_append_of_le_length (by omega), List.take_append_of_le_length (by rw [List.length_drop]; omega)]
    have e2 : blk k t (D0 ++ W0) = blk k t D0 := by
      unfold blk
      rw [List.drop_append_of_le_length (by omega), List.take_append_of_le_length (by rw [List.length_drop]; omega)]
    rw [e1, e2]
    exact h t
  · subst ht
    have e1 : blk k t (D ++ W) = W := by
      unfold blk
      rw [← hd, List.drop_left, List.take_of_length_le hWk]
    have e2 : blk k t (D0 ++ W0) = W0 := by
      unfold blk
      rw [← hd, hl, List.drop_left, List.take_of_length_le (by omega)]
    rw [e1, e2]
    exact ⟨hW, hs⟩
  · have h1 : d * k + k ≤ t * k := by rw [← Nat.succ_mul]; exact Nat.mul_le_mul_right k ht
    have e1 : blk k t (D ++ W) = [] := by
      unfold blk
      rw [List.drop_eq_nil_of_le (by rw [List.length_append]; omega), List.take_nil]
    have e2 : blk k t (D0 ++ W0) = [] := by
      unfold blk
      rw [List.drop_eq_nil_of_le (by rw [List.length_append]; omega), List.take_nil]
    rw [e1, e2]
    exact ⟨.refl _, .nil⟩
theorem okBlk_drop {k s : Nat} {E E0 : List α} (h : OkBlk R k E E0) : OkBlk R k (E.drop (s * k)) (E0.drop (s * k)) := fun t => by
  have e : ∀ l : List α, blk k t (l.drop (s * k)) = blk k (s + t) l := fun l => by
    unfold blk
    rw [List.drop_drop, Nat.add_mul]
  rw [e, e]
  exact h (s + t)
theorem okBlk_0 {k : Nat} {E E0 : List α} (h : OkBlk R k E E0) : (E.take k).Perm (E0.take k) ∧ (E.take k).Pairwise R := by simpa [blk] using h 0
theorem okBlk_1 {k : Nat} {E E0 : List α} (h : OkBlk R k E E0) : ((E.drop k).take k).Perm ((E0.drop k).take k) ∧ ((E.drop k).take k).Pairwise R := by simpa [blk] using h 1
theorem okBlk_all {k : Nat} {l l0 : List α} (h : OkBlk R k l l0) (hk : l.length ≤ k) (hl : l.length = l0.length) : l.Perm l0 ∧ l.Pairwise R := by
  have := okBlk_0 h
  rwa [List.take_of_length_le hk, List.take_of_length_le (by omega)] at this
theorem cmp_parts {cf : α → α → Int} {E0 : List α} {k : Nat} (h : E0.Pairwise (Cmp R cf)) {U V : List α} (hU : U.Perm (E0.take k)) (hV : ∀ y ∈ V, y ∈ E0.drop k) : ∀ x ∈ U, ∀ y ∈ V, Cmp R cf x y := fun x hx y hy => by
  rw [← List.take_append_drop k E0, List.pairwise_append] at h
  exact h.2.2 x (hU.mem_iff.1 hx) y (hV y hy)
theorem two_blocks {k : Nat} (l : List α) : l.take k ++ (l.drop k).take k = l.take (2 * k) := by
  rw [Nat.two_mul, List.take_add]
end
end Go.Proofs.YtoeipmepmlikcaaDoor
