/- More operations: literals, closures, maxima, captured variables, maps. No condition beyond those stated at each rule. -/
import Derived.Test.YtgbldojgbpgjbaaGreatDoorLoud
namespace Go.Eng
set_option linter.unusedSimpArgs false
set_option linter.unusedVariables false
set_option linter.unusedSectionVars false
open Go.RowKit
section
variable {P : Program} {w0 : World} {n : Nat} {ops : Array Oper} {l : List Oper} {F : FL} {L : HL} {Q : Exit → Act → World → Prop} {o : Oper} {g : Bool} {v : Value} {x y z : Operand} {t t' : TypeId} {gx gy : Bool}
/-! ### Loops that keep what their body does not touch -/
def memR : List (Nat × Nat) → Nat → Bool
  | [], _ => false
  | (a, b) :: r, i => (Nat.ble a i && Nat.ble i b) || memR r i
def KeepF (ks : List (Nat × Nat)) (F K : FL) : Prop := ∀ i g v, K.get i = some (g, v) → memR ks i = false ∧ F.get i = some (g, v)
theorem kf_nil {ks : List (Nat × Nat)} : KeepF ks [] [] := fun i g v h => by simp [FL.get] at h
theorem kf_in {ks : List (Nat × Nat)} {d : Nat} {g : Bool} {v : Value} {F K : FL} (hd : memR ks d = true) (h : KeepF ks F K) : KeepF ks ((d, g, v) :: F) K := fun i g' v' hi => by
  obtain ⟨h1, h2⟩ := h i g' v' hi
  refine ⟨h1, ?_⟩
  simp only [FL.get]
  cases hb : Nat.beq d i
  · exact h2
  · have := Nat.eq_of_beq_eq_true hb
    subst this; rw [hd] at h1; cases h1
theorem kf_out {ks : List (Nat × Nat)} {d : Nat} {g : Bool} {v : Value} {F K : FL} (hd : memR ks d = false) (h : KeepF ks F K) : KeepF ks ((d, g, v) :: F) ((d, g, v) :: K) := fun i g' v' hi => by
  simp only [FL.get] at hi ⊢
  cases hb : Nat.beq d i
  · rw [hb] at hi; exact h i g' v' hi
  · rw [hb] at hi
    have := Nat.eq_of_beq_eq_true hb
    subst this; exact ⟨hd, hi⟩
def KeepL (ks : List (Nat × Nat)) (L K : HL) : Prop := ∀ i p, K.get i = some p → memR ks i = false ∧ L.get i = some p
theorem kl_nil {ks : List (Nat × Nat)} : KeepL ks [] [] := fun i p h => by simp [HL.get] at h
theorem kl_in {ks : List (Nat × Nat)} {d : Nat} {p : It} {L K : HL} (hd : memR ks d = true) (h : KeepL ks L K) : KeepL ks ((d, p) :: L) K := fun i p' hi => by
  obtain ⟨h1, h2⟩ := h i p' hi
  refine ⟨h1, ?_⟩
  simp only [HL.get]
  cases hb : Nat.beq d i
  · exact h2
  · have := Nat.eq_of_beq_eq_true hb
    subst this; rw [hd] at h1; cases h1
theorem kl_out {ks : List (Nat × Nat)} {d : Nat} {p : It} {L K : HL} (hd : memR ks d = false) (h : KeepL ks L K) : KeepL ks ((d, p) :: L) ((d, p) :: K) := fun i p' hi => by
  simp only [HL.get] at hi ⊢
  cases hb : Nat.beq d i
  · rw [hb] at hi; exact h i p' hi
  · rw [hb] at hi
    have := Nat.eq_of_beq_eq_true hb
    subst this; exact ⟨hd, hi⟩
theorem Fr.keep {ks : List (Nat × Nat)} {F K : FL} {a : Act} (ha : Fr n F a) (hK : KeepF ks F K) : ∀ (ch : FL), SubF F ch → Fr n (ch ++ K) a := fun ch hc =>
  ⟨ha.size, ha.defers, fun i g v hi => by
    refine ha.has i g v ?_
    clear ha
    induction ch with
    | nil => exact (hK i g v hi).2
    | cons p r ih =>
      obtain ⟨j, g', v'⟩ := p
      simp only [List.cons_append, FL.get] at hi
      cases hb : Nat.beq j i
      · rw [hb] at hi; exact ih hc.2 hi
      · rw [hb] at hi
        have := Nat.eq_of_beq_eq_true hb
        subst this
        simp only [cond_true, Option.some.injEq, Prod.mk.injEq] at hi
        obtain ⟨rfl, rfl⟩ := hi; exact hc.1⟩
theorem get_keep {ks : List (Nat × Nat)} {L K : HL} (hK : KeepL ks L K) : ∀ (ch : HL), SubL L ch → ∀ i p, HL.get (ch ++ K) i = some p → L.get i = some p := fun ch hc i p hi => by
  induction ch with
  | nil => exact (hK i p hi).2
  | cons x r ih =>
    obtain ⟨j, q⟩ := x
    simp only [List.cons_append, HL.get] at hi
    cases hb : Nat.beq j i
    · rw [hb] at hi; exact ih hc.2 hi
    · rw [hb] at hi
      have := Nat.eq_of_beq_eq_true hb
      subst this
      simp only [cond_true, Option.some.injEq] at hi
      subst hi; exact hc.1
theorem Mem.keep {ks : List (Nat × Nat)} {L K : HL} {w : World} (hM : Mem w0 L w) (hK : KeepL ks L K) (ch : HL) (hc : SubL L ch) : Mem w0 (ch ++ K) w :=
  ⟨hM.below, fun i p hp => hM.sat i p (get_keep hK ch hc i p hp), fun i j p q hij hp hq => hM.apart i j p q hij (get_keep hK ch hc i p hp) (get_keep hK ch hc j q hq)⟩
theorem T_loopK {c : Code} {σ : Type} {kf kl : List (Nat × Nat)} {K : FL} {KL : HL} (Fi : σ → FL) (Li : σ → HL) (Pi : σ → Prop) (μ : σ → Nat) (s0 : σ) (hK : KeepF kf F K) (hKL : KeepL kl L KL) (h0 : Pi s0) (hF : SubF F (Fi s0)) (hL : SubL L (Li s0))
    (round : ∀ s, Pi s → T P w0 n c (Fi s ++ K) (Li s ++ KL) (Exit.then (fun a' w' => ∃ s', μ s' < μ s ∧ Pi s' ∧ Fr n (Fi s' ++ K) a' ∧ Mem w0 (Li s' ++ KL) w') Q)) : T P w0 n (.loop c) F L Q := fun a w h1 h2 => by
  refine wp_loop_ghost (fun k a w => ∃ s, μ s = k ∧ Pi s ∧ Fr n (Fi s ++ K) a ∧ Mem w0 (Li s ++ KL) w) (μ s0) ⟨s0, rfl, h0, h1.keep hK _ hF, h2.keep hKL _ hL⟩ ?_
  rintro k a w ⟨s, rfl, hs, h3, h4⟩
  refine wp_mono (round s hs a w h3 h4) ?_
  intro e a w hq
  cases e with
  | normal =>
    obtain ⟨s', h5, h6, h7, h8⟩ := hq
    exact ⟨μ s', h5, s', rfl, h6, h7, h8⟩
  | _ => first | exact hq | cases hq

theorem T_loopK1 {c : Code} {σ1 : Type} {kf kl : List (Nat × Nat)} {K : FL} {KL : HL} (Fi : σ1 → FL) (Li : σ1 → HL) (Pi : σ1 → Prop) (μ : σ1 → Nat) (s1 : σ1) (hK : KeepF kf F K) (hKL : KeepL kl L KL) (h0 : Pi s1) (hF : SubF F (Fi s1)) (hL : SubL L (Li s1))
    (round : ∀ p1, Pi p1 → T P w0 n c (Fi p1 ++ K) (Li p1 ++ KL) (Exit.then (fun a' w' => ∃ q1, μ q1 < μ p1 ∧ Pi q1 ∧ Fr n (Fi q1 ++ K) a' ∧ Mem w0 (Li q1 ++ KL) w') Q)) : T P w0 n (.loop c) F L Q :=
  T_loopK (σ := σ1) (fun s => Fi s) (fun s => Li s) (fun s => Pi s) (fun s => μ s) s1 hK hKL h0 hF hL fun s hs a w h1 h2 => by
    refine wp_mono (round s hs a w h1 h2) ?_
    intro e a w hq
    cases e with
    | normal =>
      obtain ⟨q1, h5, h6, h7, h8⟩ := hq
      exact ⟨q1, h5, h6, h7, h8⟩
    | _ => first | exact hq | cases hq
theorem nextK1 {σ1 : Type} {Fi : σ1 → FL} {Li : σ1 → HL} {Pi : σ1 → Prop} {μ : σ1 → Nat} {m0 : Nat} {kf kl : List (Nat × Nat)} {K : FL} {KL : HL} (q1 : σ1) (hK : KeepF kf F K) (hKL : KeepL kl L KL) (hμ : μ q1 < m0) (hP : Pi q1) (hF : SubF F (Fi q1)) (hL : SubL L (Li q1)) :
    ∀ a w, Fr n F a → Mem w0 L w → ∃ q1, μ q1 < m0 ∧ Pi q1 ∧ Fr n (Fi q1 ++ K) a ∧ Mem w0 (Li q1 ++ KL) w := fun _ _ h1 h2 => ⟨q1, hμ, hP, h1.keep hK _ hF, h2.keep hKL _ hL⟩
theorem T_loopK2 {c : Code} {σ1 : Type} {σ2 : Type} {kf kl : List (Nat × Nat)} {K : FL} {KL : HL} (Fi : σ1 → σ2 → FL) (Li : σ1 → σ2 → HL) (Pi : σ1 → σ2 → Prop) (μ : σ1 → σ2 → Nat) (s1 : σ1) (s2 : σ2) (hK : KeepF kf F K) (hKL : KeepL kl L KL) (h0 : Pi s1 s2) (hF : SubF F (Fi s1 s2)) (hL : SubL L (Li s1 s2))
    (round : ∀ p1 p2, Pi p1 p2 → T P w0 n c (Fi p1 p2 ++ K) (Li p1 p2 ++ KL) (Exit.then (fun a' w' => ∃ q1 q2, μ q1 q2 < μ p1 p2 ∧ Pi q1 q2 ∧ Fr n (Fi q1 q2 ++ K) a' ∧ Mem w0 (Li q1 q2 ++ KL) w') Q)) : T P w0 n (.loop c) F L Q :=
  T_loopK (σ := σ1 × σ2) (fun s => Fi (s.1) (s.2)) (fun s => Li (s.1) (s.2)) (fun s => Pi (s.1) (s.2)) (fun s => μ (s.1) (s.2)) (s1, s2) hK hKL h0 hF hL fun s hs a w h1 h2 => by
    refine wp_mono (round (s.1) (s.2) hs a w h1 h2) ?_
    intro e a w hq
    cases e with
    | normal =>
      obtain ⟨q1, q2, h5, h6, h7, h8⟩ := hq
      exact ⟨(q1, q2), h5, h6, h7, h8⟩
    | _ => first | exact hq | cases hq
theorem nextK2 {σ1 : Type} {σ2 : Type} {Fi : σ1 → σ2 → FL} {Li : σ1 → σ2 → HL} {Pi : σ1 → σ2 → Prop} {μ : σ1 → σ2 → Nat} {m0 : Nat} {kf kl : List (Nat × Nat)} {K : FL} {KL : HL} (q1 : σ1) (q2 : σ2) (hK : KeepF kf F K) (hKL : KeepL kl L KL) (hμ : μ q1 q2 < m0) (hP : Pi q1 q2) (hF : SubF F (Fi q1 q2)) (hL : SubL L (Li q1 q2)) :
    ∀ a w, Fr n F a → Mem w0 L w → ∃ q1 q2, μ q1 q2 < m0 ∧ Pi q1 q2 ∧ Fr n (Fi q1 q2 ++ K) a ∧ Mem w0 (Li q1 q2 ++ KL) w := fun _ _ h1 h2 => ⟨q1, q2, hμ, hP, h1.keep hK _ hF, h2.keep hKL _ hL⟩
theorem T_loopK3 {c : Code} {σ1 : Type} {σ2 : Type} {σ3 : Type} {kf kl : List (Nat × Nat)} {K : FL} {KL : HL} (Fi : σ1 → σ2 → σ3 → FL) (Li : σ1 → σ2 → σ3 → HL) (Pi : σ1 → σ2 → σ3 → Prop) (μ : σ1 → σ2 → σ3 → Nat) (s1 : σ1) (s2 : σ2) (s3 : σ3) (hK : KeepF kf F K) (hKL : KeepL kl L KL) (h0 : Pi s1 s2 s3) (hF : SubF F (Fi s1 s2 s3)) (hL : SubL L (Li s1 s2 s3))
    (round : ∀ p1 p2 p3, Pi p1 p2 p3 → T P w0 n c (Fi p1 p2 p3 ++ K) (Li p1 p2 p3 ++ KL) (Exit.then (fun a' w' => ∃ q1 q2 q3, μ q1 q2 q3 < μ p1 p2 p3 ∧ Pi q1 q2 q3 ∧ Fr n (Fi q1 q2 q3 ++ K) a' ∧ Mem w0 (Li q1 q2 q3 ++ KL) w') Q)) : T P w0 n (.loop c) F L Q :=
  T_loopK (σ := σ1 × σ2 × σ3) (fun s => Fi (s.1) (s.2.1) (s.2.2)) (fun s => Li (s.1) (s.2.1) (s.2.2)) (fun s => Pi (s.1) (s.2.1) (s.2.2)) (fun s => μ (s.1) (s.2.1) (s.2.2)) (s1, s2, s3) hK hKL h0 hF hL fun s hs a w h1 h2 => by
    refine wp_mono (round (s.1) (s.2.1) (s.2.2) hs a w h1 h2) ?_
    intro e a w hq
    cases e with
    | normal =>
      obtain ⟨q1, q2, q3, h5, h6, h7, h8⟩ := hq
      exact ⟨(q1, q2, q3), h5, h6, h7, h8⟩
    | _ => first | exact hq | cases hq
theorem nextK3 {σ1 : Type} {σ2 : Type} {σ3 : Type} {Fi : σ1 → σ2 → σ3 → FL} {Li : σ1 → σ2 → σ3 → HL} {Pi : σ1 → σ2 → σ3 → Prop} {μ : σ1 → σ2 → σ3 → Nat} {m0 : Nat} {kf kl : List (Nat × Nat)} {K : FL} {KL : HL} (q1 : σ1) (q2 : σ2) (q3 : σ3) (hK : KeepF kf F K) (hKL : KeepL kl L KL) (hμ : μ q1 q2 q3 < m0) (hP : Pi q1 q2 q3) (hF : SubF F (Fi q1 q2 q3)) (hL : SubL L (Li q1 q2 q3)) :
    ∀ a w, Fr n F a → Mem w0 L w → ∃ q1 q2 q3, μ q1 q2 q3 < m0 ∧ Pi q1 q2 q3 ∧ Fr n (Fi q1 q2 q3 ++ K) a ∧ Mem w0 (Li q1 q2 q3 ++ KL) w := fun _ _ h1 h2 => ⟨q1, q2, q3, hμ, hP, h1.keep hK _ hF, h2.keep hKL _ hL⟩
theorem T_loopK4 {c : Code} {σ1 : Type} {σ2 : Type} {σ3 : Type} {σ4 : Type} {kf kl : List (Nat × Nat)} {K : FL} {KL : HL} (Fi : σ1 → σ2 → σ3 → σ4 → FL) (Li : σ1 → σ2 → σ3 → σ4 → HL) (Pi : σ1 → σ2 → σ3 → σ4 → Prop) (μ : σ1 → σ2 → σ3 → σ4 → Nat) (s1 : σ1) (s2 : σ2) (s3 : σ3) (s4 : σ4) (hK : KeepF kf F K) (hKL : KeepL kl L KL) (h0 : Pi s1 s2 s3 s4) (hF : SubF F (Fi s1 s2 s3 s4)) (hL : SubL L (Li s1 s2 s3 s4))
    (round : ∀ p1 p2 p3 p4, Pi p1 p2 p3 p4 → T P w0 n c (Fi p1 p2 p3 p4 ++ K) (Li p1 p2 p3 p4 ++ KL) (Exit.then (fun a' w' => ∃ q1 q2 q3 q4, μ q1 q2 q3 q4 < μ p1 p2 p3 p4 ∧ Pi q1 q2 q3 q4 ∧ Fr n (Fi q1 q2 q3 q4 ++ K) a' ∧ Mem w0 (Li q1 q2 q3 q4 ++ KL) w') Q)) : T P w0 n (.loop c) F L Q :=
  T_loopK (σ := σ1 × σ2 × σ3 × σ4) (fun s => Fi (s.1) (s.2.1) (s.2.2.1) (s.2.2.2)) (fun s => Li (s.1) (s.2.1) (s.2.2.1) (s.2.2.2)) (fun s => Pi (s.1) (s.2.1) (s.2.2.1) (s.2.2.2)) (fun s => μ (s.1) (s.2.1) (s.2.2.1) (s.2.2.2)) (s1, s2, s3, s4) hK hKL h0 hF hL fun s hs a w h1 h2 => by
    refine wp_mono (round (s.1) (s.2.1) (s.2.2.1) (s.2.2.2) hs a w h1 h2) ?_
    intro e a w hq
    cases e with
    | normal =>
      obtain ⟨q1, q2, q3, q4, h5, h6, h7, h8⟩ := hq
      exact ⟨(q1, q2, q3, q4), h5, h6, h7, h8⟩
    | _ => first | exact hq | cases hq
theorem nextK4 {σ1 : Type} {σ2 : Type} {σ3 : Type} {σ4 : Type} {Fi : σ1 → σ2 → σ3 → σ4 → FL} {Li : σ1 → σ2 → σ3 → σ4 → HL} {Pi : σ1 → σ2 → σ3 → σ4 → Prop} {μ : σ1 → σ2 → σ3 → σ4 → Nat} {m0 : Nat} {kf kl : List (Nat × Nat)} {K : FL} {KL : HL} (q1 : σ1) (q2 : σ2) (q3 : σ3) (q4 : σ4) (hK : KeepF kf F K) (hKL : KeepL kl L KL) (hμ : μ q1 q2 q3 q4 < m0) (hP : Pi q1 q2 q3 q4) (hF : SubF F (Fi q1 q2 q3 q4)) (hL : SubL L (Li q1 q2 q3 q4)) :
    ∀ a w, Fr n F a → Mem w0 L w → ∃ q1 q2 q3 q4, μ q1 q2 q3 q4 < m0 ∧ Pi q1 q2 q3 q4 ∧ Fr n (Fi q1 q2 q3 q4 ++ K) a ∧ Mem w0 (Li q1 q2 q3 q4 ++ KL) w := fun _ _ h1 h2 => ⟨q1, q2, q3, q4, hμ, hP, h1.keep hK _ hF, h2.keep hKL _ hL⟩
theorem T_loopK5 {c : Code} {σ1 : Type} {σ2 : Type} {σ3 : Type} {σ4 : Type} {σ5 : Type} {kf kl : List (Nat × Nat)} {K : FL} {KL : HL} (Fi : σ1 → σ2 → σ3 → σ4 → σ5 → FL) (Li : σ1 → σ2 → σ3 → σ4 → σ5 → HL) (Pi : σ1 → σ2 → σ3 → σ4 → σ5 → Prop) (μ : σ1 → σ2 → σ3 → σ4 → σ5 → Nat) (s1 : σ1) (s2 : σ2) (s3 : σ3) (s4 : σ4) (s5 : σ5) (hK : KeepF kf F K) (hKL : KeepL kl L KL) (h0 : Pi s1 s2 s3 s4 s5) (hF : SubF F (Fi s1 s2 s3 s4 s5)) (hL : SubL L (Li s1 s2 s3 s4 s5))
    (round : ∀ p1 p2 p3 p4 p5, Pi p1 p2 p3 p4 p5 → T P w0 n c (Fi p1 p2 p3 p4 p5 ++ K) (Li p1 p2 p3 p4 p5 ++ KL) (Exit.then (fun a' w' => ∃ q1 q2 q3 q4 q5, μ q1 q2 q3 q4 q5 < μ p1 p2 p3 p4 p5 ∧ Pi q1 q2 q3 q4 q5 ∧ Fr n (Fi q1 q2 q3 q4 q5 ++ K) a' ∧ Mem w0 (Li q1 q2 q3 q4 q5 ++ KL) w') Q)) : T P w0 n (.loop c) F L Q :=
  T_loopK (σ := σ1 × σ2 × σ3 × σ4 × σ5) (fun s => Fi (s.1) (s.2.1) (s.2.2.1) (s.2.2.2.1) (s.2.2.2.2)) (fun s => Li (s.1) (s.2.1) (s.2.2.1) (s.2.2.2.1) (s.2.2.2.2)) (fun s => Pi (s.1) (s.2.1) (s.2.2.1) (s.2.2.2.1) (s.2.2.2.2)) (fun s => μ (s.1) (s.2.1) (s.2.2.1) (s.2.2.2.1) (s.2.2.2.2)) (s1, s2, s3, s4, s5) hK hKL h0 hF hL fun s hs a w h1 h2 => by
    refine wp_mono (round (s.1) (s.2.1) (s.2.2.1) (s.2.2.2.1) (s.2.2.2.2) hs a w h1 h2) ?_
    intro e a w hq
    cases e with
    | normal =>
      obtain ⟨q1, q2, q3, q4, q5, h5, h6, h7, h8⟩ := hq
      exact ⟨(q1, q2, q3, q4, q5), h5, h6, h7, h8⟩
    | _ => first | exact hq | cases hq
theorem nextK5 {σ1 : Type} {σ2 : Type} {σ3 : Type} {σ4 : Type} {σ5 : Type} {Fi : σ1 → σ2 → σ3 → σ4 → σ5 → FL} {Li : σ1 → σ2 → σ3 → σ4 → σ5 → HL} {Pi : σ1 → σ2 → σ3 → σ4 → σ5 → Prop} {μ : σ1 → σ2 → σ3 → σ4 → σ5 → Nat} {m0 : Nat} {kf kl : List (Nat × Nat)} {K : FL} {KL : HL} (q1 : σ1) (q2 : σ2) (q3 : σ3) (q4 : σ4) (q5 : σ5) (hK : KeepF kf F K) (hKL : KeepL kl L KL) (hμ : μ q1 q2 q3 q4 q5 < m0) (hP : Pi q1 q2 q3 q4 q5) (hF : SubF F (Fi q1 q2 q3 q4 q5)) (hL : SubL L (Li q1 q2 q3 q4 q5)) :
    ∀ a w, Fr n F a → Mem w0 L w → ∃ q1 q2 q3 q4 q5, μ q1 q2 q3 q4 q5 < m0 ∧ Pi q1 q2 q3 q4 q5 ∧ Fr n (Fi q1 q2 q3 q4 q5 ++ K) a ∧ Mem w0 (Li q1 q2 q3 q4 q5 ++ KL) w := fun _ _ h1 h2 => ⟨q1, q2, q3, q4, q5, hμ, hP, h1.keep hK _ hF, h2.keep hKL _ hL⟩
theorem T_loopK6 {c : Code} {σ1 : Type} {σ2 : Type} {σ3 : Type} {σ4 : Type} {σ5 : Type} {σ6 : Type} {kf kl : List (Nat × Nat)} {K : FL} {KL : HL} (Fi : σ1 → σ2 → σ3 → σ4 → σ5 → σ6 → FL) (Li : σ1 → σ2 → σ3 → σ4 → σ5 → σ6 → HL) (Pi : σ1 → σ2 → σ3 → σ4 → σ5 → σ6 → Prop) (μ : σ1 → σ2 → σ3 → σ4 → σ5 → σ6 → Nat) (s1 : σ1) (s2 : σ2) (s3 : σ3) (s4 : σ4) (s5 : σ5) (s6 : σ6) (hK : KeepF kf F K) (hKL : KeepL kl L KL) (h0 : Pi s1 s2 s3 s4 s5 s6) (hF : SubF F (Fi s1 s2 s3 s4 s5 s6)) (hL : SubL L (Li s1 s2 s3 s4 s5 s6))
    (round : ∀ p1 p2 p3 p4 p5 p6, Pi p1 p2 p3 p4 p5 p6 → T P w0 n c (Fi p1 p2 p3 p4 p5 p6 ++ K) (Li p1 p2 p3 p4 p5 p6 ++ KL) (Exit.then (fun a' w' => ∃ q1 q2 q3 q4 q5 q6, μ q1 q2 q3 q4 q5 q6 < μ p1 p2 p3 p4 p5 p6 ∧ Pi q1 q2 q3 q4 q5 q6 ∧ Fr n (Fi q1 q2 q3 q4 q5 q6 ++ K) a' ∧ Mem w0 (Li q1 q2 q3 q4 q5 q6 ++ KL) w') Q)) : T P w0 n (.loop c) F L Q :=
  T_loopK (σ := σ1 × σ2 × σ3 × σ4 × σ5 × σ6) (fun s => Fi (s.1) (s.2.1) (s.2.2.1) (s.2.2.2.1) (s.2.2.2.2.1) (s.2.2.2.2.2)) (fun s => Li (s.1) (s.2.1) (s.2.2.1) (s.2.2.2.1) (s.2.2.2.2.1) (s.2.2.2.2.2)) (fun s => Pi (s.1) (s.2.1) (s.2.2.1) (s.2.2.2.1) (s.2.2.2.2.1) (s.2.2.2.2.2)) (fun s => μ (s.1) (s.2.1) (s.2.2.1) (s.2.2.2.1) (s.2.2.2.2.1) (s.2.2.2.2.2)) (s1, s2, s3, s4, s5, s6) hK hKL h0 hF hL fun s hs a w h1 h2 => by
    refine wp_mono (round (s.1) (s.2.1) (s.2.2.1) (s.2.2.2.1) (s.2.2.2.2.1) (s.2.2.2.2.2) hs a w h1 h2) ?_
    intro e a w hq
    cases e with
    | normal =>
      obtain ⟨q1, q2, q3, q4, q5, q6, h5, h6, h7, h8⟩ := hq
      exact ⟨(q1, q2, q3, q4, q5, q6), h5, h6, h7, h8⟩
    | _ => first | exact hq | cases hq
theorem nextK6 {σ1 : Type} {σ2 : Type} {σ3 : Type} {σ4 : Type} {σ5 : Type} {σ6 : Type} {Fi : σ1 → σ2 → σ3 → σ4 → σ5 → σ6 → FL} {Li : σ1 → σ2 → σ3 → σ4 → σ5 → σ6 → HL} {Pi : σ1 → σ2 → σ3 → σ4 → σ5 → σ6 → Prop} {μ : σ1 → σ2 → σ3 → σ4 → σ5 → σ6 → Nat} {m0 : Nat} {kf kl : List (Nat × Nat)} {K : FL} {KL : HL} (q1 : σ1) (q2 : σ2) (q3 : σ3) (q4 : σ4) (q5 : σ5) (q6 : σ6) (hK : KeepF kf F K) (hKL : KeepL kl L KL) (hμ : μ q1 q2 q3 q4 q5 q6 < m0) (hP : Pi q1 q2 q3 q4 q5 q6) (hF : SubF F (Fi q1 q2 q3 q4 q5 q6)) (hL : SubL L (Li q1 q2 q3 q4 q5 q6)) :
    ∀ a w, Fr n F a → Mem w0 L w → ∃ q1 q2 q3 q4 q5 q6, μ q1 q2 q3 q4 q5 q6 < m0 ∧ Pi q1 q2 q3 q4 q5 q6 ∧ Fr n (Fi q1 q2 q3 q4 q5 q6 ++ K) a ∧ Mem w0 (Li q1 q2 q3 q4 q5 q6 ++ KL) w := fun _ _ h1 h2 => ⟨q1, q2, q3, q4, q5, q6, hμ, hP, h1.keep hK _ hF, h2.keep hKL _ hL⟩

/-! ### A literal of a struct, a closure, the greater of two integers -/
/-- the parts of a literal laid over its zero value; each part at its field's place -/
def layParts : List (Nat × Nat) → List Value → List (Nat × Value) → Option (List Value)
  | _, cs, [] => some cs
  | pl, cs, (i, v) :: r =>
    match pl[i]? with
    | some (off, size) => bif Nat.beq v.cells.size size && Nat.ble (off + size) cs.length then layParts pl (spl cs off v.cells.toList) r else none
    | none => none
theorem fill_lay : ∀ (ps : List (Nat × Value)) (pl : List (Nat × Nat)) (cs out : List Value), layParts pl cs ps = some out → Instr.fill (fun i => pl[i]?) cs.toArray ps = some out.toArray
  | [], pl, cs, out, h => by simp only [layParts, Option.some.injEq] at h; subst h; rfl
  | (i, v) :: r, pl, cs, out, h => by
    simp only [layParts] at h
    cases hp : pl[i]? with
    | none => simp [hp] at h
    | some p =>
      obtain ⟨off, size⟩ := p
      simp only [hp] at h
      cases hb : (Nat.beq v.cells.size size && Nat.ble (off + size) cs.length) with
      | false => rw [hb] at h; cases h
      | true =>
        rw [hb] at h
        simp only [Bool.and_eq_true] at hb
        have e1 := Nat.eq_of_beq_eq_true hb.1
        have e2 := Nat.le_of_ble_eq_true hb.2
        simp only [cond_true] at h
        have hz := zip_set v.cells.toList cs off 0 (by simp [e1]; omega)
        have hz' : (v.cells.zipIdx.foldl (fun cs (c : Value × Nat) => cs.setIfInBounds (off + c.2) c.1) cs.toArray) = (spl cs off v.cells.toList).toArray := by
          rw [← Array.toArray_toList (xs := Array.foldl _ _ _)]
          congr 1
          rw [← Array.foldl_toList, Array.toList_zipIdx, spl_eq _ _ _ (by simp [e1]; omega)]
          simpa using hz
        unfold Instr.fill
        simp only [hp]
        rw [if_neg (by simp [e1]; omega), hz']
        exact fill_lay r pl _ out h
theorem mapM_sizes {fs : List Field} {pl : List (Nat × Nat)} (h : fs.map (fun f => (f.offset, (P.info? f.type).map (·.size))) = pl.map (fun p => (p.1, some p.2))) (w : World) :
    (fs.mapM (fun f => (do pure (f.offset, ← sizeOf f.type) : Sem (Nat × Nat)))).run P w = .ok pl w := by
  induction fs generalizing pl with
  | nil => cases pl with
    | nil => rfl
    | cons a r => simp at h
  | cons f r ih =>
    cases pl with
    | nil => simp at h
    | cons p q =>
      simp only [List.map_cons, List.cons.injEq, Prod.mk.injEq] at h
      obtain ⟨⟨h1, h2⟩, h3⟩ := h
      cases hq : P.info? f.type with
      | none => simp [hq] at h2
      | some j =>
        simp only [hq, Option.map_some, Option.some.injEq] at h2
        have hs : (sizeOf f.type).run P w = .ok j.size w := by simp [sizeOf, typeInfo, hq]
        have hh := ih h3
        rw [List.mapM_cons]
        simp only [Sem.run_bind, Sem.run_pure, Result.andThen_ok, hs, hh]
        rw [h1, h2]
theorem run_build {ty : TypeId} {fs : Array Field} {z : Value} {pl : List (Nat × Nat)} {ps : List (Nat × Value)} {out : List Value} (ht : P.underlying ty = some (.struct fs)) (hz : ∀ w, (zeroValue ty).run P w = .ok z w)
    (hp : fs.toList.map (fun f => (f.offset, (P.info? f.type).map (·.size))) = pl.map (fun p => (p.1, some p.2))) (hl : layParts pl z.cells.toList ps = some out) (w : World) : (Instr.build ty ps.toArray).run P w = .ok (.agg out.toArray) w := by
  have h1 := mapM_sizes hp w
  have h2 : (fs.mapM (fun f => (do pure (f.offset, ← sizeOf f.type) : Sem (Nat × Nat)))).run P w = .ok pl.toArray w := by
    rw [Array.mapM_eq_mapM_toList, Sem.run_map, h1]; rfl
  have h3 := fill_lay ps pl z.cells.toList out hl
  simp only [Array.toArray_toList] at h3
  simp only [Instr.build, Sem.run_bind, hz, Result.andThen_ok, run_underlying ht, h2]
  have e : (fun (i : Nat) => pl.toArray[i]?) = fun (i : Nat) => pl[i]? := by funext i; simp
  rw [e, h3]
  rfl
theorem y_build {ty : TypeId} {fs : Array Field} {zv : Value} {pl : List (Nat × Nat)} {parts : List (Nat × Operand)} {ps : List (Nat × Value)} {out : List Value} (ho : o.op = .build ty parts.toArray) (hp : F.evp parts = some ps)
    (ht : P.underlying ty = some (.struct fs)) (hz : ∀ w, (zeroValue ty).run P w = .ok zv w) (hs : fs.toList.map (fun f => (f.offset, (P.info? f.type).map (·.size))) = pl.map (fun p => (p.1, some p.2))) (hl : layParts pl zv.cells.toList ps = some out) : Y P w0 F L g o (.agg out.toArray) :=
  Y_of fun n a hF hg w _ => by
    have hp' := evp_map hF parts hp
    have hp2 : (parts.toArray.map fun (p : Nat × Operand) => (p.1, a.eval p.2)) = ps.toArray := by simp [hp']
    simp only [execOp, ho]
    rw [show (Array.map (fun x => match x with | (i, x) => (i, a.eval x)) parts.toArray) = ps.toArray from hp2]
    simp only [Sem.run_bind, run_build ht hz hs hl]; rfl
theorem y_makeFunc {fn : Fn} {first cap : List Operand} {gs gs' : List Bool} {vs vs' : List Value} (ho : o.op = .makeFunc fn first.toArray cap.toArray) (h1 : F.evs first = some (gs, vs)) (h2 : F.evs cap = some (gs', vs')) (hg1 : gs.all id = true) (hg2 : gs'.all id = true) :
    Y P w0 F L g o (.func fn vs.toArray vs'.toArray) :=
  Y_of fun n a hF hg w _ => by
    have e1 := evs_map hF first h1 hg1
    have e2 := evs_map hF cap h2 hg2
    simp only [execOp, ho, Instr.makeFunc]
    simp [e1, e2]
theorem y_max {k k' : IntKind} {m p : Int} (ho : o.op = .call { callee := .builtin .max, args := #[x, y], argTypes := #[t, t'] }) (hx : F.ev x = some (true, .int k m)) (hy : F.ev y = some (true, .int k' p)) : Y P w0 F L g o (.int k (if m < p then p else m)) :=
  Y_of fun n a hF hg w _ => by
    have hx' : a.eval x = .int k m := by have := hF.eval hx; simpa using this
    have hy' : a.eval y = .int k' p := by have := hF.eval hy; simpa using this
    simp only [execOp, ho, resolve, invoke, builtin, Sem.run_bind, Sem.run_pure, Result.andThen_ok, List.map_toArray, List.map_cons, List.map_nil, hx', hy', run_max_int2]
theorem y_min {k k' : IntKind} {m p : Int} (ho : o.op = .call { callee := .builtin .min, args := #[x, y], argTypes := #[t, t'] }) (hx : F.ev x = some (true, .int k m)) (hy : F.ev y = some (true, .int k' p)) : Y P w0 F L g o (.int k (if p < m then p else m)) :=
  Y_of fun n a hF hg w _ => by
    have hx' : a.eval x = .int k m := by have := hF.eval hx; simpa using this
    have hy' : a.eval y = .int k' p := by have := hF.eval hy; simpa using this
    simp only [execOp, ho, resolve, invoke, builtin, Sem.run_bind, Sem.run_pure, Result.andThen_ok, List.map_toArray, List.map_cons, List.map_nil, hx', hy', run_min_int2]
/-- A value is known under another spelling. -/
theorem y_as {v' : Value} (h : v = v') (hy : Y P w0 F L g o v) : Y P w0 F L g o v' := h ▸ hy
/-- A cell that lies below the call's own blocks (a captured variable, a field behind a pointer that came in). -/
theorem y_load_far {a0 : Addr} {ty : TypeId} {d : TypeDesc} (ho : o.op = .load ty x) (hx : F.ev x = some (gx, .pointer (some a0))) (hc : w0.cell? a0 = some v) (hb : a0.block < w0.heap.size) (hu : P.underlying ty = some d) (hd : isAggB d = false)
    (hi : g = true → gx = true := by first | exact (fun _ => rfl) | exact (fun h => h) | exact (fun h => (Bool.and_eq_true_iff.1 h).1) | simp_all) : Y P w0 F L g o v :=
  Y_of fun n a hF hg w hM => by
    simp only [execOp, ho, hF.eval_on hx hg hi, Sem.run_bind, run_loadVar1 hu hd w ((hM.below.cell hb).trans hc)]; rfl
/-- the cells of a box of ours, for a callee that reads them -/
theorem Mem.box_cell {w : World} {i b off : Nat} {cs : List Value} {tb : TypeId} (hM : Mem w0 L w) (hL : L.get i = some (.blk b (IsBox cs tb))) (hv : nth cs off = some v) : w.cell? ⟨b, off, none⟩ = some v ∧ b < w.heap.size := by
  obtain ⟨_, ob, h1, h2⟩ := hM.sat i _ hL
  exact ⟨(cell_of_box h1 h2).trans hv, (Array.getElem?_eq_some_iff.1 h1).1⟩

/-! ### Typed slices -/
structure SlT {α : Type} (enc : α → List Value) (size : Nat) (w : World) (A : Option Addr) (q : Nat) (l : List α) : Prop where
  rd : SlR w size A q (l.flatMap enc)
  len : l.length = q
theorem SlT.below {α : Type} {enc : α → List Value} {size q : Nat} {w w' : World} {A : Option Addr} {l : List α} (h : SlT enc size w A q l) (hb : Below w.heap.size w w') : SlT enc size w' A q l := ⟨h.rd.below hb, h.len⟩
theorem flat_at {α : Type} {enc : α → List Value} {size : Nat} (hs : ∀ x, (enc x).length = size) : ∀ {l : List α} {j : Nat} {x : α}, l[j]? = some x → ∀ (i : Nat) (u : Value), (enc x)[i]? = some u → (l.flatMap enc)[j * size + i]? = some u
  | [], j, x, h, i, u, hu => by simp at h
  | a :: r, 0, x, h, i, u, hu => by
    simp at h; subst h
    rw [Nat.zero_mul, Nat.zero_add, List.flatMap_cons, List.getElem?_append_left (List.getElem?_eq_some_iff.1 hu).1]; exact hu
  | a :: r, j + 1, x, h, i, u, hu => by
    have h' : r[j]? = some x := by simpa using h
    have e : (j + 1) * size + i = (enc a).length + (j * size + i) := by rw [hs a, Nat.succ_mul]; omega
    rw [List.flatMap_cons, e, List.getElem?_append_right (by omega), Nat.add_sub_cancel_left]
    exact flat_at hs h' i u hu
theorem y_loadT {α : Type} {enc : α → List Value} {A : Option Addr} {q j size : Nat} {ty : TypeId} {l : List α} {d : TypeDesc} {xe : α} (ho : o.op = .load ty x) (hx : F.ev x = some (gx, .pointer (at_ A j size))) (hs : SlT enc size w0 A q l) (hsz : ∀ x, (enc x).length = size) (hv : g = true → l[j]? = some xe)
    (hu : P.underlying ty = some d) (hd : isAggB d = true) (hz : (P.info? ty).map (·.size) = some (enc xe).length) (hi : g = true → gx = true := by first | exact (fun _ => rfl) | exact (fun h => h) | exact (fun h => (Bool.and_eq_true_iff.1 h).1) | simp_all) : Y P w0 F L g o (.agg (enc xe).toArray) :=
  y_load_elA ho hx hs.rd (fun hg => by have := (List.getElem?_eq_some_iff.1 (hv hg)).1; rw [← hs.len]; exact this) (fun hg => flat_at hsz (hv hg)) hu hd hz hi
theorem y_loadT1 {α : Type} {val : α → Value} {A : Option Addr} {q j : Nat} {ty : TypeId} {l : List α} {d : TypeDesc} {xe : α} (ho : o.op = .load ty x) (hx : F.ev x = some (gx, .pointer (at_ A j 1))) (hs : SlT (fun a => [val a]) 1 w0 A q l) (hv : g = true → l[j]? = some xe)
    (hu : P.underlying ty = some d) (hd : isAggB d = false) (hi : g = true → gx = true := by first | exact (fun _ => rfl) | exact (fun h => h) | exact (fun h => (Bool.and_eq_true_iff.1 h).1) | simp_all) : Y P w0 F L g o (val xe) :=
  y_load_el ho hx hs.rd (fun hg => by have := (List.getElem?_eq_some_iff.1 (hv hg)).1; rw [← hs.len]; exact this) (fun hg => by have := flat_at (enc := fun a => [val a]) (size := 1) (fun _ => rfl) (hv hg) 0 (val xe) rfl; simpa using this) hu hd hi
/-- one field of an element, read in place -/
theorem y_load_fT {α : Type} {enc : α → List Value} {A : Option Addr} {q j size off : Nat} {ty : TypeId} {l : List α} {d : TypeDesc} {xe : α} (ho : o.op = .load ty x) (hx : F.ev x = some (gx, .pointer (at_ A (j * size + off) 1))) (hs : SlT enc size w0 A q l) (hsz : ∀ x, (enc x).length = size) (hv : g = true → l[j]? = some xe)
    (hf : nth (enc xe) off = some v)
    (hu : P.underlying ty = some d) (hd : isAggB d = false) (hi : g = true → gx = true := by first | exact (fun _ => rfl) | exact (fun h => h) | exact (fun h => (Bool.and_eq_true_iff.1 h).1) | simp_all) : Y P w0 F L g o v :=
  y_load_fieldEl ho hx hs.rd (fun hg => by have := (List.getElem?_eq_some_iff.1 (hv hg)).1; rw [← hs.len]; exact this) (fun hg => flat_at hsz (hv hg) off v (by rw [← nth_eq]; exact hf)) hu hd hi

theorem SlT.isSome {α : Type} {enc : α → List Value} {size q : Nat} {w : World} {A : Option Addr} {l : List α} (h : SlT enc size w A q l) (hq : 0 < q) : A.isSome = true := h.rd.isSome hq
theorem flat_drop {α : Type} {enc : α → List Value} {size : Nat} (hs : ∀ x, (enc x).length = size) : ∀ (k : Nat) (l : List α), (l.flatMap enc).drop (k * size) = (l.drop k).flatMap enc
  | 0, l => by simp
  | k + 1, [] => by simp
  | k + 1, a :: r => by
    have e : (k + 1) * size = (enc a).length + k * size := by rw [hs a, Nat.succ_mul]; omega
    rw [List.flatMap_cons, e, ← List.drop_drop, List.drop_left, flat_drop hs k r]; rfl
theorem flat_take {α : Type} {enc : α → List Value} {size : Nat} (hs : ∀ x, (enc x).length = size) : ∀ (k : Nat) (l : List α), (l.flatMap enc).take (k * size) = (l.take k).flatMap enc
  | 0, l => by simp
  | k + 1, [] => by simp
  | k + 1, a :: r => by
    have e : (k + 1) * size = (enc a).length + k * size := by rw [hs a, Nat.succ_mul]; omega
    rw [List.flatMap_cons, e, List.take_length_add_append, flat_take hs k r]; rfl
theorem SlT.cut {α : Type} {enc : α → List Value} {size lo hi q c : Nat} {w : World} {A : Option Addr} {l : List α} (h : SlT enc size w A q l) (hs : ∀ x, (enc x).length = size) (h1 : lo ≤ hi) (h2 : hi ≤ q) (h3 : q ≤ c) :
    SlT enc size w (if c = lo then A else A.map (·.add (lo * size))) (hi - lo) ((l.drop lo).take (hi - lo)) := by
  refine ⟨?_, by rw [List.length_take, List.length_drop, h.len]; omega⟩
  have := h.rd.cut (c := c) h1 h2 h3
  rw [flat_drop hs, flat_take hs] at this
  exact this
/-- a slice that came in, with its elements -/
structure Sl (α : Type) where
  A : Option Addr
  q : Nat
  c : Nat
  l : List α
structure Sl.Ok {α : Type} (enc : α → List Value) (size : Nat) (w : World) (s : Sl α) : Prop where
  t : SlT enc size w s.A s.q s.l
  cap : s.q ≤ s.c
theorem Sl.Ok.below {α : Type} {enc : α → List Value} {size : Nat} {w w' : World} {s : Sl α} (h : s.Ok enc size w) (hb : Below w.heap.size w w') : s.Ok enc size w' := ⟨h.t.below hb, h.cap⟩
theorem at_lt {α : Type} {l : List α} {i : Nat} (h : i < l.length) : ∃ x, l[i]? = some x ∧ l.drop i = x :: l.drop (i + 1) := ⟨l[i], by simp [h], List.drop_eq_getElem_cons h⟩
theorem SlT.at {α : Type} {enc : α → List Value} {size q i : Nat} {w : World} {A : Option Addr} {l : List α} (h : SlT enc size w A q l) (hi : i < q) : ∃ x, l[i]? = some x ∧ l.drop i = x :: l.drop (i + 1) := at_lt (by rw [h.len]; exact hi)
theorem SlT.end {α : Type} {enc : α → List Value} {size q i : Nat} {w : World} {A : Option Addr} {l : List α} (h : SlT enc size w A q l) (hi : q ≤ i) : l.drop i = [] := List.drop_eq_nil_of_le (by rw [h.len]; exact hi)
theorem drop_str {s : List UInt8} {i : Nat} (h : i < s.length) : s.drop i = s.getD i 0 :: s.drop (i + 1) := by
  rw [List.drop_eq_getElem_cons h]; congr 1; simp [List.getD, h]

/-! ### Maps whose keys are compared at once (strings, integers, bools) -/
section maps
variable {α : Type} [DecidableEq α]
def mget : List (α × Value) → α → Option Value
  | [], _ => none
  | (a, u) :: r, k => if k = a then some u else mget r k
def mput : List (α × Value) → α → Value → List (α × Value)
  | [], k, v => [(k, v)]
  | (a, u) :: r, k, v => if k = a then (a, v) :: r else (a, u) :: mput r k v
def mfind : List (α × Value) → α → Nat → Option (Nat × Value)
  | [], _, _ => none
  | (a, u) :: r, k, i => if k = a then some (i, u) else mfind r k (i + 1)
theorem mfind_val (k : α) : ∀ (kv : List (α × Value)) (i : Nat), (mfind kv k i).map (·.2) = mget kv k
  | [], _ => rfl
  | (a, u) :: r, i => by
    simp only [mfind, mget]
    split
    · rfl
    · exact mfind_val k r (i + 1)
theorem mput_none {kv : List (α × Value)} {k : α} {i : Nat} (h : mfind kv k i = none) (v : Value) : mput kv k v = kv ++ [(k, v)] := by
  induction kv generalizing i with
  | nil => rfl
  | cons p r ih =>
    obtain ⟨a, u⟩ := p
    simp only [mfind] at h
    split at h
    · cases h
    · rename_i hne
      simp only [mput, if_neg hne, List.cons_append, ih h]
theorem mput_some {kv : List (α × Value)} {k : α} {i j : Nat} {u : Value} (h : mfind kv k i = some (j, u)) (v : Value) : i ≤ j ∧ j - i < kv.length ∧ mput kv k v = kv.modify (j - i) fun p => (p.1, v) := by
  induction kv generalizing i with
  | nil => simp [mfind] at h
  | cons p r ih =>
    obtain ⟨a, u'⟩ := p
    simp only [mfind] at h
    split at h
    · rename_i he
      simp only [Option.some.injEq, Prod.mk.injEq] at h
      obtain ⟨rfl, rfl⟩ := h
      simp [mput, he]
    · rename_i hne
      obtain ⟨h1, h2, h3⟩ := ih h
      refine ⟨by omega, by simp; omega, ?_⟩
      obtain ⟨d, rfl⟩ : ∃ d, j = i + 1 + d := ⟨j - (i + 1), by omega⟩
      have e : i + 1 + d - i = d + 1 := by omega
      rw [e]
      simp only [mput, if_neg hne, h3, List.modify_succ_cons]
      congr 2; omega
/-- A map as the list of its entries in the order of their coming. -/
def IsMap (enc : α → Value) (kv : List (α × Value)) (o : Obj) : Prop :=
  ∃ es clock, o = .map es clock ∧ es.toList.map (fun e => (e.key, e.val)) = kv.map (fun p => (enc p.1, p.2)) ∧ (∀ e ∈ es.toList, e.born < clock) ∧ (es.toList.map (·.born)).Nodup
theorem findNow_eq {enc : α → Value} {kd : TypeDesc} (hk : ∀ a b, Instr.sameNow kd (enc a) (enc b) = some (decide (a = b))) (k : α) : ∀ (kv : List (α × Value)) (es : List MapEntry) (i : Nat), es.map (fun e => (e.key, e.val)) = kv.map (fun p => (enc p.1, p.2)) →
    Instr.findNow kd (enc k) es i = some (mfind kv k i)
  | [], [], i, _ => rfl
  | [], e :: es, i, h => by simp at h
  | p :: kv, [], i, h => by simp at h
  | (a, u) :: kv, e :: es, i, h => by
    simp only [List.map_cons, List.cons.injEq, Prod.mk.injEq] at h
    obtain ⟨⟨h1, h2⟩, h3⟩ := h
    simp only [Instr.findNow, h1, hk, mfind]
    by_cases he : k = a
    · simp [he, h2]
    · simp [he, findNow_eq hk k kv es (i + 1) h3]
theorem run_findKey {enc : α → Value} {kt : TypeId} {kd : TypeDesc} (hu : P.underlying kt = some kd) (hk : ∀ a b, Instr.sameNow kd (enc a) (enc b) = some (decide (a = b))) (k : α) {kv : List (α × Value)} {es : List MapEntry} (h : es.map (fun e => (e.key, e.val)) = kv.map (fun p => (enc p.1, p.2))) (w : World) :
    (Instr.findKey kt (enc k) es).run P w = .ok (mfind kv k 0) w := by
  simp only [Instr.findKey, Sem.run_bind, run_underlying hu, Result.andThen_ok, findNow_eq hk k kv es 0 h, Sem.run_pure]
def simpleB (d : TypeDesc) : Bool := match d with | .struct _ | .array _ _ | .interface _ => false | _ => true
theorem run_checkKey {kt : TypeId} {kd : TypeDesc} (hu : P.underlying kt = some kd) (hs : simpleB kd = true) (e : Bool) (n : Nat) (v : Value) (w : World) : (Instr.checkKey e (n + 1) kt v).run P w = .ok () w := by
  unfold Instr.checkKey
  simp only [Sem.run_bind, run_underlying hu, Result.andThen_ok]
  cases kd <;> simp_all [simpleB]
theorem bytes_same (a b : List UInt8) : ((⟨a.toArray⟩ : ByteArray) == (⟨b.toArray⟩ : ByteArray)) = decide (a = b) := by
  show ((a.toArray : Array UInt8) == b.toArray) = _
  rw [Bool.eq_iff_iff]; simp
theorem same_str (a b : List UInt8) : Instr.sameNow .string (str a) (str b) = some (decide (a = b)) := by
  simp only [Instr.sameNow, Option.some.injEq]
  exact bytes_same a b
theorem S_makeMap (d i : Nat) (enc : α → Value) (hg : o.guard = none) (hd : o.dst = some d) (hdn : Nat.blt d n = true) (ho : o.op = .makeMap t none)
    (hK : ∀ b, S P w0 n ops l ((d, true, .map (some b)) :: F) ((i, .blk b (IsMap enc [])) :: L) Q) : S P w0 n ops (o :: l) F L Q :=
  S_loud d hg hd hdn fun a w hF hM => by
    refine ⟨_, w.alloc (.map #[] 0), _, ?_, hM.new i _ (IsMap enc []) ⟨#[], 0, rfl, rfl, by simp, by simp⟩, hK w.heap.size⟩
    simp only [execOp, ho, Option.map_none, Instr.makeMap, Sem.run_bind, Sem.run_pure, Result.andThen_ok, run_newObj]
    rfl
theorem run_getObj_map {w : World} {b : Nat} {es : Array MapEntry} {clock : Nat} (h : w.heap[b]? = some (.map es clock)) : (getObj b).run P w = .ok (.map es clock) w := by
  simp [getObj, Sem.run, h]
theorem y_lookup (i : Nat) {enc : α → Value} {b : Nat} {k : α} {kv : List (α × Value)} {kt et : TypeId} {kd : TypeDesc} {zv : Value} (ho : o.op = .lookup t x y false) (hx : F.ev x = some (gx, .map (some b))) (hy : F.ev y = some (gy, enc k)) (hL : L.get i = some (.blk b (IsMap enc kv)))
    (ht : P.underlying t = some (.map kt et)) (hu : P.underlying kt = some kd) (hs : simpleB kd = true) (hk : ∀ a b, Instr.sameNow kd (enc a) (enc b) = some (decide (a = b))) (hz : ∀ w, (zeroValue et).run P w = .ok zv w)
    (hi : g = true → gx = true := by first | exact (fun _ => rfl) | exact (fun h => h) | exact (fun h => (Bool.and_eq_true_iff.1 h).1) | simp_all) (hi' : g = true → gy = true := by first | exact (fun _ => rfl) | exact (fun h => h) | exact (fun h => (Bool.and_eq_true_iff.1 h).1) | simp_all) : Y P w0 F L g o ((mget kv k).getD zv) :=
  Y_of fun n a hF hg w hM => by
    obtain ⟨_, ob, h1, es, clock, rfl, h2, _⟩ := hM.sat i _ hL
    have hf := run_findKey (P := P) hu hk k h2 w
    have hm := mfind_val k kv 0
    simp only [execOp, ho, hF.eval_on hx hg hi, hF.eval_on hy hg hi', Instr.lookup, Sem.run_bind, run_underlying ht, Result.andThen_ok, run_getObj_map h1, Sem.run_pure, run_checkKey hu hs, hf]
    cases hq : mfind kv k 0 with
    | none => rw [hq] at hm; simp only [Option.map_none] at hm; rw [← hm]; simp [hz]
    | some p => rw [hq] at hm; simp only [Option.map_some] at hm; rw [← hm]; simp
def MapFits (enc : α → Value) : Prop := ∀ a, Instr.sameBits 10000 (enc a) (enc a) = true
theorem fits_str : MapFits (fun l : List UInt8 => str l) := fun a => by simp [Instr.sameBits, bytes_same]
theorem S_mapUpdate (i : Nat) {enc : α → Value} {b : Nat} {k : α} {kv kv' : List (α × Value)} {kt et : TypeId} {kd : TypeDesc} (hg : o.guard = none) (hd : o.dst = none) (ho : o.op = .mapUpdate t x y z)
    (hx : F.ev x = some (true, .map (some b))) (hy : F.ev y = some (true, enc k)) (hz : F.ev z = some (true, v)) (hL : L.get i = some (.blk b (IsMap enc kv)))
    (ht : P.underlying t = some (.map kt et)) (hu : P.underlying kt = some kd) (hs : simpleB kd = true) (hk : ∀ a b, Instr.sameNow kd (enc a) (enc b) = some (decide (a = b))) (hfit : MapFits enc) (hkv : mput kv k v = kv')
    (hK : S P w0 n ops l F ((i, .blk b (IsMap enc kv')) :: L) Q) : S P w0 n ops (o :: l) F L Q :=
  S_mute hg hd fun a w hF hM => by
    subst hkv
    have hx' : a.eval x = .map (some b) := by have := hF.eval hx; simpa using this
    have hy' : a.eval y = enc k := by have := hF.eval hy; simpa using this
    have hz' : a.eval z = v := by have := hF.eval hz; simpa using this
    obtain ⟨hb, ob, h1, es, clock, rfl, h2, h3, h4⟩ := hM.sat i _ hL
    have hf := run_findKey (P := P) hu hk k h2 w
    have hlt := (Array.getElem?_eq_some_iff.1 h1).1
    have setO : ∀ o', (setObj b o').run P w = .ok () { w with heap := w.heap.setIfInBounds b o' } := fun o' => by simp [setObj, Sem.run, h1]
    have grow : ∀ o', w.grownBy { w with heap := w.heap.setIfInBounds b o' } (some b) := fun o' => ⟨rfl, rfl, rfl, by simp, fun k _ hne => by
      show (w.heap.setIfInBounds b o')[k]? = _
      rw [Array.getElem?_setIfInBounds_ne (fun e => hne (by rw [e]))]⟩
    have got : ∀ o', ({ w with heap := w.heap.setIfInBounds b o' } : World).heap[b]? = some o' := fun o' => by
      show (w.heap.setIfInBounds b o')[b]? = _
      rw [Array.getElem?_setIfInBounds_self]; simp [hlt]
    cases hq : mfind kv k 0 with
    | none =>
      refine ⟨_, _, ?_, hM.turn (p' := .blk b (IsMap enc (mput kv k v))) hL (grow (.map (es.push { key := enc k, val := v, born := clock }) (clock + 1))) ⟨hb, _, got _, _, _, rfl, ?_, ?_, ?_⟩ (.inl rfl), hK⟩
      · simp only [execOp, ho, hx', hy', hz', Instr.mapUpdate, Sem.run_bind, run_underlying ht, Result.andThen_ok, run_getObj_map h1, run_checkKey hu hs, hf, hq, setO]; rfl
      · rw [mput_none hq]; simp [h2]
      · intro e he
        simp only [Array.toList_push, List.mem_append, List.mem_singleton] at he
        rcases he with he | rfl
        · have := h3 e he; omega
        · simp
      · simp only [Array.toList_push, List.map_append, List.map_cons, List.map_nil]
        rw [List.nodup_append]
        refine ⟨h4, by simp, ?_⟩
        intro x hx y hy
        simp only [List.mem_map] at hx
        obtain ⟨e, he, rfl⟩ := hx
        simp only [List.mem_singleton] at hy
        subst hy
        have := h3 e he; omega
    | some p =>
      obtain ⟨j, u⟩ := p
      obtain ⟨_, hj, hp⟩ := mput_some hq v
      simp only [Nat.sub_zero] at hj hp
      have hlen : es.toList.length = kv.length := by have := congrArg List.length h2; simpa using this
      have hjs : j < es.size := by have : es.toList.length = es.size := by simp
                                   omega
      have hkey : ∃ e, es[j]? = some e ∧ e.key = enc k := by
        refine ⟨es[j], by simp [hjs], ?_⟩
        have h5 := congrArg (fun l => (l[j]?).map (·.1)) h2
        simp only [List.getElem?_map, Option.map_map, Array.getElem?_toList] at h5
        have h6 : kv[j]?.map (·.1) = some k := by
          clear h5 hp h2 hlen hf
          have : ∀ (kv : List (α × Value)) (i j : Nat) (u : Value), mfind kv k i = some (j, u) → (kv[j - i]?).map (·.1) = some k := by
            intro kv
            induction kv with
            | nil => intro i j u h; simp [mfind] at h
            | cons p r ih =>
              intro i j u h
              obtain ⟨a, u'⟩ := p
              have hm := mput_some h v
              simp only [mfind] at h
              split at h
              · rename_i he
                simp only [Option.some.injEq, Prod.mk.injEq] at h
                obtain ⟨rfl, _⟩ := h
                simp [he]
              · have h7 := ih (i + 1) j u h
                have h8 := (mput_some h v).1
                rw [show j - i = (j - (i + 1)) + 1 from by omega]
                simpa using h7
          simpa using this kv 0 j u hq
        have h7 : kv[j]? = some kv[j] := List.getElem?_eq_getElem hj
        rw [h7] at h6
        simp only [Option.map_some, Option.some.injEq] at h6
        rw [h7] at h5
        have h8 : es[j]? = some es[j] := by simp [hjs]
        rw [h8] at h5
        simp only [Option.map_some, Function.comp_apply, Option.some.injEq] at h5
        rw [h5, h6]
      obtain ⟨e0, he0, hek⟩ := hkey
      refine ⟨_, _, ?_, hM.turn (p' := .blk b (IsMap enc (mput kv k v))) hL (grow (.map (es.modify j fun e => { e with key := enc k, val := v }) clock)) ⟨hb, _, got _, _, _, rfl, ?_, ?_, ?_⟩ (.inl rfl), hK⟩
      · simp only [execOp, ho, hx', hy', hz', Instr.mapUpdate, Sem.run_bind, run_underlying ht, Result.andThen_ok, run_getObj_map h1, run_checkKey hu hs, hf, hq, he0, Option.map_some, Option.getD_some, hek, Instr.keyThatStays, hfit k, if_true, Sem.run_pure, setO]
      · rw [hp]
        apply List.ext_getElem?
        intro q
        have h5 := congrArg (fun l => l[q]?) h2
        simp only [List.getElem?_map, Array.getElem?_toList] at h5
        simp only [List.getElem?_map, Array.toList_modify, List.getElem?_modify, Array.getElem?_toList, Option.map_map]
        by_cases hqj : j = q
        · subst hqj
          rw [he0] at h5 ⊢
          have h7 : kv[j]? = some kv[j] := List.getElem?_eq_getElem hj
          rw [h7] at h5 ⊢
          simp only [Option.map_some, Option.some.injEq, Prod.mk.injEq] at h5
          simp [← h5.1, hek]
        · simp only [hqj, if_false]
          simpa [Option.map_map] using h5
      · intro e he
        obtain ⟨q, hq1, hq2⟩ := List.getElem_of_mem he
        simp only [Array.toList_modify] at hq2
        rw [List.getElem_modify] at hq2
        split at hq2
        · rw [← hq2]; show (es.toList[q]).born < clock; exact h3 _ (List.getElem_mem _)
        · rw [← hq2]; exact h3 _ (List.getElem_mem _)
      · have : (es.modify j fun e => { e with key := enc k, val := v }).toList.map (·.born) = es.toList.map (·.born) := by
          apply List.ext_getElem?
          intro q
          simp only [List.getElem?_map, Array.toList_modify, List.getElem?_modify, Option.map_map]
          by_cases hqj : j = q
          · subst hqj; rw [Array.getElem?_toList, he0]; simp
          · simp [hqj]
        rw [this]; exact h4
end maps
end
end Go.Eng
