/- Strings cut, integers turned round and divided, a result that is a cell. No condition. -/
import Derived.Test.YtgbldojgbpgjbaaGreatDoorPerm
import Derived.Laws.ResultCell
namespace Go.Eng
set_option linter.unusedSimpArgs false
set_option linter.unusedVariables false
set_option linter.unusedSectionVars false
open Go.RowKit
section
variable {P : Program} {w0 : World} {n : Nat} {ops : Array Oper} {l : List Oper} {F : FL} {L : HL} {Q : Exit → Act → World → Prop} {o : Oper} {g : Bool} {v : Value} {x y z : Operand} {t t' : TypeId} {gx gy gz : Bool} {s : List UInt8}
theorem kl_none {ks : List (Nat × Nat)} {L : HL} : KeepL ks L [] := fun i p h => by simp [HL.get] at h
theorem kl_cons {ks : List (Nat × Nat)} {d : Nat} {p : It} {L K : HL} (hd : memR ks d = false) (hL : L.get d = some p) (h : KeepL ks L K) : KeepL ks L ((d, p) :: K) := fun i q hi => by
  rcases HL.get_cons hi with ⟨rfl, rfl⟩ | ⟨_, hq⟩
  · exact ⟨hd, hL⟩
  · exact h i q hq
def TailIs (L K : HL) : Prop := ∀ i, 1000 ≤ i → L.get i = K.get i
theorem ti_refl {K : HL} : TailIs K K := fun _ _ => rfl
theorem ti_cons {L K : HL} {d : Nat} {p : It} (hd : Nat.blt d 1000 = true) (h : TailIs L K) : TailIs ((d, p) :: L) K := fun i hi => by
  have hlt : d < 1000 := by simpa [Nat.blt_eq] using hd
  simp only [HL.get]
  have : Nat.beq d i = false := by rw [← Bool.not_eq_true]; simp; omega
  rw [this]; exact h i hi
theorem kl_tail {ks : List (Nat × Nat)} {L K : HL} (hK : FromK K) (hks : rngLt ks = true) (ht : TailIs L K) : KeepL ks L K := fun i p h => by
  have hi := hK i p h
  exact ⟨memR_lt ks i hks hi, by rw [ht i hi]; exact h⟩
theorem T_loopK7 {c : Code} {σ1 : Type} {σ2 : Type} {σ3 : Type} {σ4 : Type} {σ5 : Type} {σ6 : Type} {σ7 : Type} {kf kl : List (Nat × Nat)} {K : FL} {KL : HL} (Fi : σ1 → σ2 → σ3 → σ4 → σ5 → σ6 → σ7 → FL) (Li : σ1 → σ2 → σ3 → σ4 → σ5 → σ6 → σ7 → HL) (Pi : σ1 → σ2 → σ3 → σ4 → σ5 → σ6 → σ7 → Prop) (μ : σ1 → σ2 → σ3 → σ4 → σ5 → σ6 → σ7 → Nat) (s1 : σ1) (s2 : σ2) (s3 : σ3) (s4 : σ4) (s5 : σ5) (s6 : σ6) (s7 : σ7) (hK : KeepF kf F K) (hKL : KeepL kl L KL) (h0 : Pi s1 s2 s3 s4 s5 s6 s7) (hF : SubF F (Fi s1 s2 s3 s4 s5 s6 s7)) (hL : SubL L (Li s1 s2 s3 s4 s5 s6 s7))
    (round : ∀ p1 p2 p3 p4 p5 p6 p7, Pi p1 p2 p3 p4 p5 p6 p7 → T P w0 n c (Fi p1 p2 p3 p4 p5 p6 p7 ++ K) (Li p1 p2 p3 p4 p5 p6 p7 ++ KL) (Exit.then (fun a' w' => ∃ q1 q2 q3 q4 q5 q6 q7, μ q1 q2 q3 q4 q5 q6 q7 < μ p1 p2 p3 p4 p5 p6 p7 ∧ Pi q1 q2 q3 q4 q5 q6 q7 ∧ Fr n (Fi q1 q2 q3 q4 q5 q6 q7 ++ K) a' ∧ Mem w0 (Li q1 q2 q3 q4 q5 q6 q7 ++ KL) w') Q)) : T P w0 n (.loop c) F L Q :=
  T_loopK (σ := σ1 × σ2 × σ3 × σ4 × σ5 × σ6 × σ7) (fun s => Fi (s.1) (s.2.1) (s.2.2.1) (s.2.2.2.1) (s.2.2.2.2.1) (s.2.2.2.2.2.1) (s.2.2.2.2.2.2)) (fun s => Li (s.1) (s.2.1) (s.2.2.1) (s.2.2.2.1) (s.2.2.2.2.1) (s.2.2.2.2.2.1) (s.2.2.2.2.2.2)) (fun s => Pi (s.1) (s.2.1) (s.2.2.1) (s.2.2.2.1) (s.2.2.2.2.1) (s.2.2.2.2.2.1) (s.2.2.2.2.2.2)) (fun s => μ (s.1) (s.2.1) (s.2.2.1) (s.2.2.2.1) (s.2.2.2.2.1) (s.2.2.2.2.2.1) (s.2.2.2.2.2.2)) (s1, s2, s3, s4, s5, s6, s7) hK hKL h0 hF hL fun s hs a w h1 h2 => by
    refine wp_mono (round (s.1) (s.2.1) (s.2.2.1) (s.2.2.2.1) (s.2.2.2.2.1) (s.2.2.2.2.2.1) (s.2.2.2.2.2.2) hs a w h1 h2) ?_
    intro e a w hq
    cases e with
    | normal =>
      obtain ⟨q1, q2, q3, q4, q5, q6, q7, h5, h6, h7, h8⟩ := hq
      exact ⟨(q1, q2, q3, q4, q5, q6, q7), h5, h6, h7, h8⟩
    | _ => first | exact hq | cases hq
theorem nextK7 {σ1 : Type} {σ2 : Type} {σ3 : Type} {σ4 : Type} {σ5 : Type} {σ6 : Type} {σ7 : Type} {Fi : σ1 → σ2 → σ3 → σ4 → σ5 → σ6 → σ7 → FL} {Li : σ1 → σ2 → σ3 → σ4 → σ5 → σ6 → σ7 → HL} {Pi : σ1 → σ2 → σ3 → σ4 → σ5 → σ6 → σ7 → Prop} {μ : σ1 → σ2 → σ3 → σ4 → σ5 → σ6 → σ7 → Nat} {m0 : Nat} {kf kl : List (Nat × Nat)} {K : FL} {KL : HL} (q1 : σ1) (q2 : σ2) (q3 : σ3) (q4 : σ4) (q5 : σ5) (q6 : σ6) (q7 : σ7) (hK : KeepF kf F K) (hKL : KeepL kl L KL) (hμ : μ q1 q2 q3 q4 q5 q6 q7 < m0) (hP : Pi q1 q2 q3 q4 q5 q6 q7) (hF : SubF F (Fi q1 q2 q3 q4 q5 q6 q7)) (hL : SubL L (Li q1 q2 q3 q4 q5 q6 q7)) :
    ∀ a w, Fr n F a → Mem w0 L w → ∃ q1 q2 q3 q4 q5 q6 q7, μ q1 q2 q3 q4 q5 q6 q7 < m0 ∧ Pi q1 q2 q3 q4 q5 q6 q7 ∧ Fr n (Fi q1 q2 q3 q4 q5 q6 q7 ++ K) a ∧ Mem w0 (Li q1 q2 q3 q4 q5 q6 q7 ++ KL) w := fun _ _ h1 h2 => ⟨q1, q2, q3, q4, q5, q6, q7, hμ, hP, h1.keep hK _ hF, h2.keep hKL _ hL⟩
theorem extract_str (s : List UInt8) (i j : Nat) : (⟨s.toArray⟩ : ByteArray).extract i j = ⟨((s.take j).drop i).toArray⟩ := by
  apply ByteArray.ext
  rw [ByteArray.data_extract]
  apply Array.ext'
  simp [List.extract_eq_take_drop, List.drop_take]
theorem y_strTo {k : IntKind} {m : Int} (ho : o.op = .slice t x none (some y) none) (hx : F.ev x = some (gx, str s)) (hy : F.ev y = some (gy, .int k m)) (ht : P.underlying t = some .string) (hm : g = true → 0 ≤ m ∧ m ≤ s.length)
    (hi : g = true → gx = true := by first | exact (fun _ => rfl) | exact (fun h => h) | exact (fun h => (Bool.and_eq_true_iff.1 h).1) | simp_all) (hi' : g = true → gy = true := by first | exact (fun _ => rfl) | exact (fun h => h) | exact (fun h => (Bool.and_eq_true_iff.1 h).1) | simp_all) : Y P w0 F L g o (str (s.take m.toNat)) :=
  Y_of fun n a hF hg w _ => by
    have h := hm hg
    simp only [execOp, ho, Option.map_none, Option.map_some, hF.eval_on hx hg hi, hF.eval_on hy hg hi', Sem.run_bind, run_sliceAt_string w t _ _ _ _ ht, run_slice_string_h w t _ ht k m h.1 (by rw [str_size]; exact h.2), extract_str, List.drop_zero]; rfl
theorem y_strFrom {k : IntKind} {m : Int} (ho : o.op = .slice t x (some y) none none) (hx : F.ev x = some (gx, str s)) (hy : F.ev y = some (gy, .int k m)) (ht : P.underlying t = some .string) (hm : g = true → 0 ≤ m ∧ m ≤ s.length)
    (hi : g = true → gx = true := by first | exact (fun _ => rfl) | exact (fun h => h) | exact (fun h => (Bool.and_eq_true_iff.1 h).1) | simp_all) (hi' : g = true → gy = true := by first | exact (fun _ => rfl) | exact (fun h => h) | exact (fun h => (Bool.and_eq_true_iff.1 h).1) | simp_all) : Y P w0 F L g o (str (s.drop m.toNat)) :=
  Y_of fun n a hF hg w _ => by
    have h := hm hg
    simp only [execOp, ho, Option.map_none, Option.map_some, hF.eval_on hx hg hi, hF.eval_on hy hg hi', Sem.run_bind, run_sliceAt_string w t _ _ _ _ ht, run_slice_string_l w t _ ht k m h.1 (by rw [str_size]; exact h.2), extract_str, str_size, List.take_length]; rfl
theorem y_neg {k : IntKind} {m : Int} (V : Int) (ho : o.op = .unOp .neg t x) (hx : F.ev x = some (gx, .int k m)) (hV : g = true → k.wrap (0 - m) = V) (hi : g = true → gx = true := by first | exact (fun _ => rfl) | exact (fun h => h) | exact (fun h => (Bool.and_eq_true_iff.1 h).1) | simp_all) : Y P w0 F L g o (.int k V) :=
  Y_of fun n a hF hg w _ => by
    have := hV hg
    subst this
    simp only [execOp, ho, hF.eval_on hx hg hi, unary_neg, Op.intArith]
    simp
theorem hasI_app {ps ns : List (Nat × Nat)} {i : Nat} : hasI (ps ++ ns) i = (hasI ps i || hasI ns i) := by
  induction ps with
  | nil => rfl
  | cons p r ih => obtain ⟨c, j⟩ := p; simp only [List.cons_append, hasI, ih, Bool.or_assoc]
theorem okPairs_left {ps ns : List (Nat × Nat)} (h : okPairs (ps ++ ns) = true) : okPairs ps = true := by
  induction ps with
  | nil => rfl
  | cons p r ih =>
    obtain ⟨c, i⟩ := p
    simp only [List.cons_append, okPairs, Bool.and_eq_true, Bool.not_eq_true'] at h ⊢
    refine ⟨⟨⟨?_, ?_⟩, h.1.2⟩, ih h.2⟩
    · have h1 := h.1.1.1
      clear h ih
      induction r with
      | nil => rfl
      | cons q r ih =>
        obtain ⟨c', j⟩ := q
        simp only [List.cons_append, hasC, Bool.or_eq_false_iff] at h1 ⊢
        exact ⟨h1.1, ih h1.2⟩
    · have h1 := h.1.1.2
      rw [hasI_app, Bool.or_eq_false_iff] at h1
      exact h1.1
theorem Mem.lendN {w : World} {L : HL} (ps ns : List (Nat × Nat)) (ho : okPairs (ps ++ ns) = true) (h : Mem w0 L w) : Mem w0 (lendL ps L ++ HL.shift (HL.without (ps ++ ns) L)) w := by
  refine (h.lend ps (okPairs_left ho)).ren id (fun i p hi => ?_) (fun _ _ _ _ _ _ h => h)
  rw [get_app] at hi ⊢
  show (match (lendL ps L).get i with | some p => some p | none => (HL.shift (HL.without ps L)).get i) = some p
  cases hA : (lendL ps L).get i with
  | some q => rw [hA] at hi; exact hi
  | none =>
    rw [hA] at hi
    simp only at hi ⊢
    have h1 := fromK_shift _ i p hi
    obtain ⟨j, rfl⟩ : ∃ j, i = j + 1000 := ⟨i - 1000, by omega⟩
    rw [shift_get] at hi ⊢
    cases hj : hasI (ps ++ ns) j with
    | true => rw [without_in L j hj] at hi; cases hi
    | false =>
      rw [without_out L j hj] at hi
      rw [hasI_app, Bool.or_eq_false_iff] at hj
      rw [without_out L j hj.1]; exact hi
/-- A call that works on what is lent to it (ps), and brings new things (ns). -/
theorem S_callN (d : Nat) (ps ns : List (Nat × Nat)) {X : Type} {f : FuncId} {fx : Operand} {as : List Operand} {ts : Array TypeId} {cap : Array Value} {gs : List Bool} {vs : List Value} (hg : o.guard = none) (hd : o.dst = some d) (hdn : Nat.blt d n = true)
    (ho : o.op = .call { callee := .value fx, args := as.toArray, argTypes := ts }) (hf : F.ev fx = some (true, .func (.func f) #[] cap)) (hv : F.evs as = some (gs, vs)) (hgs : gs.all id = true) (hc : ∀ args w, (callFunc f args).run P w = .ok (.enter f args) w)
    (hps : okPairs (ps ++ ns) = true) (rv : X → Value) (Px : X → Prop) (Lx : X → HL) (hall : ∀ x, ((ps ++ ns).all fun p => ((Lx x).get p.1).isSome) = true) (hlt : ∀ x, keysLt (Lx x) = true)
    (h : ∀ K, FromK K → ∀ w, Mem w0 (lendL ps L ++ K) w → Calls P f (vs.toArray ++ cap) w fun e w' => ∃ x, e = .returned (rv x) ∧ Px x ∧ Mem w0 (Lx x ++ K) w')
    (hK : ∀ x, Px x → S P w0 n ops l ((d, true, rv x) :: F) (backL (ps ++ ns) (Lx x) ++ L) Q) : S P w0 n ops (o :: l) F L Q :=
  S_call d hg hd hdn ho hf hv hgs hc rv Px (fun x => backL (ps ++ ns) (Lx x) ++ L)
    (fun w hM => (h _ (fromK_shift _) w (hM.lendN ps ns hps)).mono fun e w' ⟨x, h1, h2, h3⟩ => ⟨x, h1, h2, Mem.back (ps ++ ns) hps (hall x) (hlt x) h3⟩) hK
/-- The end of a function whose first result is a variable of its own. -/
theorem post_cell {fn : Func} {R : Ending → World → Prop} (i : Nat) {p u b : Nat} {ty tb : TypeId} {d : TypeDesc} {cs : List Value} {v' : Value} (h : fn.results = #[.cell p ty, .tmp u]) (hp : F.get p = some (true, .pointer (some ⟨b, 0, none⟩))) (hu : F.get u = some (true, v')) (hL : L.get i = some (.blk b (IsBox cs tb)))
    (hty : P.underlying ty = some d) (hd : isAggB d = true) (hz : (P.info? ty).map (·.size) = some cs.length) (hR : ∀ w, Mem w0 L w → R (.returned (.tuple #[.agg cs.toArray, v'])) w) : ∀ a w, Fr n F a → Mem w0 L w → bodyPost P fn R .ret a w := fun a w hF hM => by
  have e1 := hF.has p true _ hp
  have e2 := hF.has u true _ hu
  simp only [cond_true] at e1 e2
  obtain ⟨_, ob, h1, h2⟩ := hM.sat i _ hL
  have hl := run_loadVarA hty hd hz w (a := ⟨b, 0, none⟩) (fun j u hu' => by rw [add_zero_off, Nat.zero_add, cell_of_box h1 h2, nth_eq]; exact hu')
  refine ⟨hF.defers, .tuple #[.agg cs.toArray, v'], ?_, hR w hM⟩
  rw [results_cell_tmp h, e1, e2]
  simp only [Instr.loadAt, Instr.sureAddr, Sem.run_bind, Sem.run_pure, Result.andThen_ok] at hl
  simp [asAddr, hl]
end
end Go.Eng
