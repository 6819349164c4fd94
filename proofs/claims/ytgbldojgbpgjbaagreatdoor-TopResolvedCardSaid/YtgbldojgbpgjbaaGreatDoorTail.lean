/- A region that draws its order: quiet operations (calls among them) in whatever order, and behind them a tail whose operations wait for one another and may write. No condition. -/
import Derived.Test.YtgbldojgbpgjbaaGreatDoorBld
import Derived.StillTail
namespace Go.Eng
set_option linter.unusedSimpArgs false
set_option linter.unusedVariables false
set_option linter.unusedSectionVars false
open Go.RowKit
section
variable {P : Program} {ops : Array Oper} {md : Region.Mode} {C : World → Prop}
/-- f operations of the head, whichever come; then Z -/
def headQ (P : Program) (md : Region.Mode) (ops : Array Oper) (C : World → Prop) (n : Nat) (Z : Array Bool → Act → Prop) : Nat → Array Bool → Act → Prop
  | 0, s, a => Z s a
  | f + 1, s, a => Region.ready md ops s ≠ [] ∧ ∀ i, i ∈ Region.ready md ops s → i < n ∧ qOp P ops C i (headQ P md ops C n Z f (s.setIfInBounds i true)) a
theorem headQ_any {n g : Nat} {Z : Array Bool → Act → Prop} {Q : Exit → Act → World → Prop} (hZ : ∀ s a w, C w → Z s a → wpAny P md ops Q g s a w) (f : Nat) : ∀ (s : Array Bool) (a : Act) (w : World), C w → headQ P md ops C n Z f s a → wpAny P md ops Q (f + g) s a w := by
  induction f with
  | zero => intro s a w hw h; rw [Nat.zero_add]; exact hZ s a w hw h
  | succ f ih =>
    intro s a w hw h
    rw [Nat.succ_add]
    exact ⟨fun h0 => (h.1 h0).elim, fun i hi => wpOp_of_qOp hw (fun a' w' hw' h' => ih _ a' w' hw' h') (h.2 i hi).2⟩
theorem not_on {s : Array Bool} {i : Nat} {o : Oper} (hu : s.getD i true = false) (hall : ∀ e ∈ o.after, Region.binds md e = true → s.getD e.on false = true) : ∀ e ∈ o.after, Region.binds md e = true → e.on ≠ i := fun e he hb h => by
  have := hall e he hb
  rw [h, getD_both hu] at this
  cases this
/-- an operation that may come now may come first -/
theorem headQ_first {n i : Nat} {oi : Oper} {v : Value} {Z : Array Bool → Act → Prop} (hi : ops[i]? = some oi) (hsel : ∀ (j : Nat) (o : Oper) cs b, ops[j]? = some o → o.op ≠ .select cs b) (hs : Region.sinkB md ops n = true) (hc : Region.chainB md ops n = true) (hn : n < ops.size) (hin : i < n)
    (hZ : ∀ s a, Z s a → ∀ j ∈ Region.ready md ops s, n ≤ j) (f : Nat) : ∀ (s : Array Bool) (a : Act), HeadInv md ops n s →
      (∀ j oj, ops[j]? = some oj → j ≠ i → s.getD j true = false → (∀ e ∈ oj.after, Region.binds md e = true → e.on ≠ i) → oi.apart ops oj = true) →
      i ∈ Region.ready md ops s → YieldsIn P ops C oi v a → headQ P md ops C n Z f (s.setIfInBounds i true) (a.put oi.dst v) → headQ P md ops C n Z (f + 1) s a := by
  induction f with
  | zero =>
    intro s a inv _ hr hy H
    refine ⟨fun h => absurd (h ▸ hr) (List.not_mem_nil), fun j hj => ?_⟩
    have hjn : j < n := Nat.lt_of_not_le fun h => tail_waits hs hc hn inv _ i rfl hin (mem_ready.1 hr).1 j h hj
    by_cases hji : j = i
    · subst hji; exact ⟨hjn, hy.qOp hi H⟩
    · have := hZ _ _ H j (ready_mono hj hji); omega
  | succ f ih =>
    intro s a inv hfree hr hy H
    have hun := (mem_ready.1 hr).1
    refine ⟨fun h => absurd (h ▸ hr) (List.not_mem_nil), fun j hj => ?_⟩
    have hjn : j < n := Nat.lt_of_not_le fun h => tail_waits hs hc hn inv _ i rfl hin hun j h hj
    refine ⟨hjn, ?_⟩
    by_cases hji : j = i
    · subst hji; exact hy.qOp hi H
    · obtain ⟨hju, oj, hoj, hall⟩ := mem_ready.1 hj
      have hput := qOp_put hoj (hfree j oj hoj hji hju (not_on hun hall)) (fun cs b => hsel i oi cs b hi) (fun cs b => hsel j oj cs b hoj) hy (H.2 j (ready_mono hj hji)).2
      refine qOp_mono (fun a' h3 => ih _ a' (inv.set hj hjn) (fun k ok hk hki hu hno => hfree k ok hk hki ?_ hno) (ready_mono hr (Ne.symm hji)) h3.1 ?_) hput
      · by_cases hjk : j = k
        · subst hjk; exact hju
        · rw [getD_set_ne true hjk] at hu; exact hu
      · rw [Array.setIfInBounds_comm _ _ hji]; exact h3.2
theorem headQ_lex {n g : Nat} {K : Act → Prop} (hsel : Region.noSelect ops = true) (hs : Region.sinkB md ops n = true) (hc : Region.chainB md ops n = true) (hn : n < ops.size) (l : List Oper) :
    ∀ (k : Nat) (s : Array Bool) (a : Act), (∀ j, j < l.length → l[j]? = ops[k + j]?) → k + l.length = n → HeadInv md ops n s → Region.lexHead md ops g l.length k s = true → wpQuiet P ops C K l a →
      headQ P md ops C n (fun s' a' => Region.seqB md ops g n s' = true ∧ K a') l.length s a := by
  induction l with
  | nil =>
    intro k s a _ hk _ hB h
    obtain rfl : k = n := by simpa using hk
    exact ⟨by simpa [Region.lexHead] using hB, h⟩
  | cons o l ih =>
    intro k s a hl hk inv hB h
    have h0 : ops[k]? = some o := by simpa using (hl 0 (by simp)).symm
    have hkn : k < n := by simp only [List.length_cons] at hk; omega
    simp only [List.length_cons, Region.lexHead, Bool.and_eq_true] at hB
    have hr : k ∈ Region.ready md ops s := by simpa using hB.1.1
    obtain ⟨v, hy, hK⟩ := yieldsIn_of_qOp h0 (show qOp P ops C k (wpQuiet P ops C K l) a by unfold qOp; simp only [h0]; exact h)
    refine headQ_first h0 (Region.noSelect_spec hsel) hs hc hn hkn (fun s' a' hZ => seqB_ready hZ.1) l.length s a inv (Region.free_spec h0 hB.1.2) hr hy (ih (k + 1) _ _ (fun j hj => ?_) ?_ (inv.set hr hkn) hB.2 hK)
    · have := hl (j + 1) (by simp; omega)
      simpa [Nat.add_assoc, Nat.add_comm 1 j] using this
    · simp only [List.length_cons] at hk; omega
theorem region_tail {id n : Nat} {Q : Exit → Act → World → Prop} {a : Act} {w : World} {l : List Oper} (hm : P.follows .mixedOrders = true) (hB : Region.lexTailB .any l.toArray n = true) (hC : C w.drew)
    (h : wpQuiet P l.toArray C (fun a' => ∀ w', C w' → wpList P l.toArray Q (l.drop n) a' w') (l.take n) a) : (Code.region id l.toArray true).wp P Q a w := by
  simp only [Region.lexTailB, Bool.and_eq_true, decide_eq_true_eq] at hB
  obtain ⟨⟨⟨⟨hsel, hn⟩, hs⟩, hc⟩, hlex⟩ := hB
  have hnl : n < l.length := by simpa using hn
  have htl : (l.take n).length = n := by simp; omega
  have hdl : (l.drop n).length = l.toArray.size - n := by simp
  have H := headQ_lex (C := C) (md := .any) (g := l.toArray.size - n) (K := fun a' => ∀ w', C w' → wpList P l.toArray Q (l.drop n) a' w') hsel hs hc hn (l.take n) 0 (Array.replicate l.toArray.size false) a
    (fun j hj => by have hj' : j < n := by rw [htl] at hj; exact hj
                    simp [hj']) (by simpa using htl)
    ⟨by simp, fun j oj _ hl => absurd hl (by rw [getD_replicate_false]; simp), fun t _ ht => getD_in (by simpa using ht) (getD_replicate_false _ _)⟩ (by rw [htl]; exact hlex) h
  have A := headQ_any (Q := Q) (g := l.toArray.size - n) (fun s a' w' hw' hZ => by
    have := wpAny_of_seq (md := .any) (Q' := Q) (l.drop n) n s a' w' (fun j => by simp [List.getElem?_drop]) (by rw [hdl]; exact hZ.1) (hZ.2 w' hw')
    rwa [hdl] at this) _ _ _ _ hC H
  rw [htl, show n + (l.toArray.size - n) = l.toArray.size by omega] at A
  exact wp_region_any hm A
end
section
variable {P : Program} {w0 : World} {n : Nat} {ops : Array Oper} {l : List Oper} {F : FL} {L : HL} {Q : Exit → Act → World → Prop}
theorem T_drawsTail {id : Nat} {l : List Oper} (k : Nat) (hm : P.follows .mixedOrders = true) (hB : Region.lexTailB .any l.toArray k = true) (h : D P w0 n l.toArray (l.take k) F L (fun _ a' w' => wpList P l.toArray Q (l.drop k) a' w')) :
    T P w0 n (.region id l.toArray true) F L Q := fun a w hF hM => region_tail (C := Mem w0 L) hm hB hM.drew (h a hF)
theorem D_tail {tail : List Oper} (h : S P w0 n ops tail F L Q) : D P w0 n ops [] F L (fun _ a' w' => wpList P ops Q tail a' w') := fun a hF w' hw' => h a w' hF hw'
end
end Go.Eng
