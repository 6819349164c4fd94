/- An owned row as a box whose cells are all known, and back: for callees that write one cell behind a pointer. No condition. -/
import Derived.Test.YtfmbgaaonfgenaaGreatDoorMany
import Derived.Test.YtfmbgaaonfgenaaGreatDoorStrs
namespace Go.Eng
open Go.RowKit
set_option linter.unusedVariables false
section
variable {P : Program} {w0 w : World} {n : Nat} {ops : Array Oper} {l : List Oper} {c : Code} {F : FL} {L : HL} {Q : Exit → Act → World → Prop} {i : Nat} {t : TypeId} {s q k g : Nat} {xs cur : List Value} {A : Option Addr}
theorem Mem.rowBox (h : Mem w0 L w) (hi : L.get i = some (.own t s (.slice A q k) q xs)) (hA : A = some ⟨g, 0, none⟩) : ∃ cur : List Value, cur.take (q * s) = xs ∧ cur.length = k * s ∧ q ≤ k ∧ k ≤ maxLen ∧ Mem w0 ((i, .blk g (IsBox cur t)) :: L) w := by
  subst hA
  have hown : w.ownsRow w0.heap.size t s (.slice (some ⟨g, 0, none⟩) q k) q xs := h.sat i _ hi
  rcases hown.2 with ⟨hv, _⟩ | ⟨g', cap, cur, hv, hb, hg, hnc, hcm, hsz, ht⟩
  · cases hv
  · have e1 : g = g' := by injection hv with h1 h2 h3; injection h1 with h1; injection h1
    have e2 : k = cap := by injection hv
    subst e1; subst e2
    exact ⟨cur.toList, ht, by simpa using hsz, hnc, hcm, h.turn (p' := .blk g (IsBox cur.toList t)) hi ⟨rfl, rfl, rfl, Nat.le_refl _, fun _ _ _ => rfl⟩ ⟨hb, _, hg, by simp [IsBox]⟩ (.inl rfl)⟩
theorem S_rowBox (i g : Nat) (hi : L.get i = some (.own t s (.slice A q k) q xs)) (hA : A = some ⟨g, 0, none⟩) (h : ∀ cur : List Value, cur.take (q * s) = xs → cur.length = k * s → q ≤ k → k ≤ maxLen → S P w0 n ops l F ((i, .blk g (IsBox cur t)) :: L) Q) : S P w0 n ops l F L Q := fun a w hF hM => by
  obtain ⟨cur, h1, h2, h3, h4, h5⟩ := hM.rowBox hi hA
  exact h cur h1 h2 h3 h4 a w hF h5
theorem Mem.backRow (h : Mem w0 L w) (hi : L.get i = some (.blk g (IsBox cur t))) (h1 : cur.take (q * s) = xs) (h2 : cur.length = k * s) (h3 : q ≤ k) (h4 : k ≤ maxLen) (hA : A = some ⟨g, 0, none⟩) : Mem w0 ((i, .own t s (.slice A q k) q xs) :: L) w := by
  subst hA
  obtain ⟨hb, ob, g1, g2⟩ := h.sat i _ hi
  unfold IsBox at g2
  subst g2
  refine h.turn (p' := .own t s (.slice (some ⟨g, 0, none⟩) q k) q xs) hi ⟨rfl, rfl, rfl, Nat.le_refl _, fun _ _ _ => rfl⟩ ?_ (.inl rfl)
  have hqk : q * s ≤ k * s := Nat.mul_le_mul_right s h3
  exact ⟨by rw [← h1, List.length_take]; omega, .inr ⟨g, k, cur.toArray, rfl, hb, g1, h3, h4, by simpa using h2, by simpa using h1⟩⟩
theorem S_backRow (i s q k : Nat) (A : Option Addr) (xs : List Value) (hi : L.get i = some (.blk g (IsBox cur t))) (hA : A = some ⟨g, 0, none⟩) (h1 : cur.take (q * s) = xs) (h2 : cur.length = k * s) (h3 : q ≤ k) (h4 : k ≤ maxLen) (h : S P w0 n ops l F ((i, .own t s (.slice A q k) q xs) :: L) Q) : S P w0 n ops l F L Q := fun a w hF hM =>
  h a w hF (hM.backRow hi h1 h2 h3 h4 hA)
theorem row_blk {B : Nat} (h : w.ownsRow B t s (.slice A q k) q xs) : ∃ g, 0 < q → A = some ⟨g, 0, none⟩ := by
  rcases h.2 with ⟨_, h0⟩ | ⟨g, cap, cur, hv, _⟩
  · exact ⟨0, fun h => by omega⟩
  · exact ⟨g, fun _ => by injection hv⟩
end
theorem spl1_set : ∀ (cs : List Value) (off : Nat) (v : Value), spl cs off [v] = cs.set off v
  | [], off, v => by simp [spl]
  | c :: cs, 0, v => by cases cs <;> simp [spl]
  | c :: cs, k + 1, v => by
    have := spl1_set cs k v
    simp [spl, this]
theorem spl1_take {cur : List Value} {off m : Nat} {v : Value} : (spl cur off [v]).take m = (cur.take m).set off v := by
  rw [spl1_set, List.take_set]
theorem spl1_len {cur : List Value} {off : Nat} {v : Value} : (spl cur off [v]).length = cur.length := by rw [spl1_set, List.length_set]
theorem take_nth {cur : List Value} {m off : Nat} {v : Value} (h : (cur.take m)[off]? = some v) : nth cur off = some v := by
  rw [nth_eq]
  rw [List.getElem?_take] at h
  split at h
  · exact h
  · cases h
theorem at_fld {g j s f : Nat} : (at_ (some (⟨g, 0, none⟩ : Addr)) j s).map (·.add f) = some ⟨g, j * s + f, none⟩ := by
  have h : ∀ (m k : Nat), (⟨g, m, none⟩ : Addr).add k = ⟨g, m + k, none⟩ := fun m k => by
    unfold Addr.add
    split <;> simp_all
  simp only [at_, Option.map_some, h, Nat.zero_add]
theorem at_one {g m : Nat} : at_ (some (⟨g, 0, none⟩ : Addr)) m 1 = some ⟨g, m, none⟩ := by simp [at_, add_zero_off]
/-! ### what a loop keeps, by lookup; what is shadowed does not count -/
def KeepS (ks : List (Nat × Nat)) (seen : List Nat) (L K : HL) : Prop := ∀ i p, K.get i = some p → seen.contains i = false → memR ks i = false ∧ L.get i = some p
theorem ks_go {ks : List (Nat × Nat)} {L K : HL} (h : KeepS ks [] L K) : KeepL ks L K := fun i p hi => h i p hi rfl
theorem ks_nil {ks : List (Nat × Nat)} {seen : List Nat} {L : HL} : KeepS ks seen L [] := fun i p h => by simp [HL.get] at h
theorem ks_cons {ks : List (Nat × Nat)} {seen : List Nat} {d : Nat} {p : It} {L K : HL} (hd : memR ks d = false) (hL : L.get d = some p) (h : KeepS ks (d :: seen) L K) : KeepS ks seen L ((d, p) :: K) := fun i q hi hs => by
  rcases HL.get_cons hi with ⟨rfl, rfl⟩ | ⟨hne, h2⟩
  · exact ⟨hd, hL⟩
  · refine h i q h2 ?_
    rw [List.contains_cons, hs, Bool.or_false]
    simpa using hne
theorem ks_dup {ks : List (Nat × Nat)} {seen : List Nat} {d : Nat} {p : It} {L K : HL} (hd : seen.contains d = true) (h : KeepS ks seen L K) : KeepS ks seen L ((d, p) :: K) := fun i q hi hs => by
  rcases HL.get_cons hi with ⟨rfl, rfl⟩ | ⟨_, h2⟩
  · rw [hd] at hs; cases hs
  · exact h i q h2 hs
theorem ks_tail {ks : List (Nat × Nat)} {seen : List Nat} {L K : HL} (hK : FromK K) (hks : rngLt ks = true) (ht : TailIs L K) : KeepS ks seen L K := fun i p h _ => kl_tail hK hks ht i p h
end Go.Eng
