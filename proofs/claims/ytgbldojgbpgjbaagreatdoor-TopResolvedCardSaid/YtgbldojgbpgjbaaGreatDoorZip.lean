/- The rules in short words: what the next operation is, is found by what it is. No condition. -/
import Derived.Test.YtgbldojgbpgjbaaGreatDoorCnv
namespace Go.Eng
set_option linter.unusedSimpArgs false
set_option linter.unusedVariables false
set_option linter.unusedSectionVars false
open Go.RowKit
theorem nrm : (∀ {p : Prop} [Decidable p], (decide p = true) = p) ∧ (∀ {p : Prop} [Decidable p], (decide p = false) = ¬p) ∧ (∀ a b : Bool, ((a || b) = true) = (a = true ∨ b = true)) ∧ (∀ a b : Bool, ((a || b) = false) = (a = false ∧ b = false)) ∧ (∀ a b : Bool, ((a && b) = true) = (a = true ∧ b = true)) ∧ (∀ a b : Bool, ((a && b) = false) = (a = false ∨ b = false))
    ∧ (∀ b : Bool, ((!b) = true) = (b = false)) ∧ (∀ b : Bool, ((!b) = false) = (b = true)) ∧ (∀ b : Bool, (¬b = true) = (b = false)) ∧ (∀ b : Bool, (¬b = false) = (b = true)) ∧ (!true) = false ∧ (!false) = true ∧ (∀ a b : Int, (¬a < b) = (b ≤ a)) ∧ (∀ a b : Int, (¬a ≤ b) = (b < a)) ∧ (∀ p q : Prop, (¬(p ∨ q)) = (¬p ∧ ¬q)) ∧ (∀ p q : Prop, (¬(p ∧ q)) = (p → ¬q)) ∧ ∀ p : Prop, (¬¬p) = p := by
  refine ⟨?_, ?_, ?_, ?_, ?_, fun a b => by cases a <;> cases b <;> simp, ?_, ?_, ?_, ?_, rfl, rfl, ?_, ?_, ?_, ?_, ?_⟩ <;> intros <;> simp
section
variable {P : Program} {w0 : World} {n : Nat} {ops : Array Oper} {l : List Oper} {F : FL} {L : HL} {Q : Exit → Act → World → Prop} {o : Oper} {g : Bool} {v : Value} {x y z : Operand} {t t' : TypeId} {gx gy : Bool}
/-- the value of an operation that only turns what the frame holds -/
def qv (F : FL) (p : Op) : Option Value :=
  match p with
  | .move x => match F.ev x with
    | some (true, v) => some v
    | _ => none
  | .assign x => match F.ev x with
    | some (true, v) => some v
    | _ => none
  | .unOp .not _ x => match F.ev x with
    | some (true, .bool b) => some (.bool (!b))
    | _ => none
  | .extract x i => match F.ev x with
    | some (true, .tuple vs) => vs[i]?
    | _ => none
  | .binOp op _ x y _ => match F.ev x, F.ev y with
    | some (true, .int k m), some (true, .int k' p) => if k = k' then
        match op with
        | .lss => some (.bool (decide (m < p)))
        | .leq => some (.bool (decide (m ≤ p)))
        | .gtr => some (.bool (decide (p < m)))
        | .geq => some (.bool (decide (p ≤ m)))
        | .eql => some (.bool (decide (m = p)))
        | .neq => some (.bool (!decide (m = p)))
        | _ => none
      else none
    | _, _ => none
  | _ => none
theorem qv_ok (h : qv F o.op = some v) : Y P w0 F L true o v := by
  unfold qv at h
  split at h
  · rename_i x hop
    split at h
    · rename_i hx; injection h with h; subst h; exact y_move hop hx
    · cases h
  · rename_i x hop
    split at h
    · rename_i hx; injection h with h; subst h; exact y_assign hop hx
    · cases h
  · rename_i x hop
    split at h
    · rename_i hx; injection h with h; subst h; exact y_not hop hx
    · cases h
  · rename_i x i hop
    split at h
    · rename_i hx; exact y_extract hop hx h
    · cases h
  · rename_i op t x y t' hop
    split at h
    · rename_i k m k' p hx hy
      split at h
      · rename_i hk; subst hk
        split at h
        · injection h with h; subst h; exact y_bin hop hx hy (fun _ => b_lss)
        · injection h with h; subst h; exact y_bin hop hx hy (fun _ => b_leq)
        · injection h with h; subst h; exact y_bin hop hx hy (fun _ => b_gtr)
        · injection h with h; subst h; exact y_bin hop hx hy (fun _ => b_geq)
        · injection h with h; subst h; exact y_bin hop hx hy (fun _ => b_eql)
        · injection h with h; subst h; exact y_bin hop hx hy (fun _ => b_neq)
        · cases h
      · cases h
    · cases h
  · cases h
/-- k such steps, one after another -/
def rnQ (n : Nat) : Nat → List Oper → FL → Option (List Oper × FL)
  | 0, l, F => some (l, F)
  | _ + 1, [], _ => none
  | k + 1, o :: l, F => match o.guard, o.dst, qv F o.op with
    | none, some d, some v => bif Nat.blt d n then rnQ n k l ((d, true, v) :: F) else none
    | _, _, _ => none
theorem rnQ_ok : ∀ (k : Nat) {l : List Oper} {F : FL} {l' : List Oper} {F' : FL}, rnQ n k l F = some (l', F') → S P w0 n ops l' F' L Q → S P w0 n ops l F L Q
  | 0, l, F, l', F', h, hK => by
    rw [rnQ] at h
    injection h with h
    injection h with h1 h2
    subst h1; subst h2
    exact hK
  | k + 1, [], F, l', F', h, hK => by rw [rnQ] at h; cases h
  | k + 1, o :: l, F, l', F', h, hK => by
    rw [rnQ] at h
    split at h
    · rename_i d v hg hd hv
      cases hb : Nat.blt d n with
      | false => rw [hb] at h; cases h
      | true => rw [hb] at h; exact S_ d hg hd hb v (qv_ok hv) (rnQ_ok k h hK)
    · cases h
theorem sr (k : Nat) {l' : List Oper} {F' : FL} (hK : S P w0 n ops l' F' L Q) (h : rnQ n k l F = some (l', F') := by exact rfl) : S P w0 n ops l F L Q := rnQ_ok k h hK
/-- what the guard of an operation comes to -/
def gq (F : FL) (ops : Array Oper) (o : Oper) : Option Bool := match o.guard with
  | some (j, want) => match ops[j]? with
    | some oj => match oj.dst with
      | some s => match F.get s with
        | some (gs, .bool b) => some (gs && (b == want))
        | _ => none
      | none => none
    | none => none
  | none => none
theorem gq_ok (h : gq F ops o = some g) : G F ops o g := by
  unfold gq at h
  split at h
  · rename_i j want hg
    split at h
    · rename_i oj hj
      split at h
      · rename_i s hs
        split at h
        · rename_i gs b hv
          injection h with h
          subst h
          exact G_at hg hj hs hv
        · cases h
      · cases h
    · cases h
  · cases h
theorem s1 {d : Nat} (hy : Y P w0 F L true o v) (hK : S P w0 n ops l ((d, true, v) :: F) L Q) (hg : o.guard = none := by exact rfl) (hd : o.dst = some d := by exact rfl) (hdn : Nat.blt d n = true := by exact rfl) : S P w0 n ops (o :: l) F L Q := S_ d hg hd hdn v hy hK
theorem sg {d : Nat} {g : Bool} (hg : gq F ops o = some g) (hy : Y P w0 F L g o v) (hK : S P w0 n ops l ((d, g, v) :: F) L Q) (hd : o.dst = some d := by exact rfl) (hdn : Nat.blt d n = true := by exact rfl) : S P w0 n ops (o :: l) F L Q := S_step (gq_ok hg) ⟨d, hd, hdn, hK⟩ hy
theorem d1 {d : Nat} (hy : Y P w0 F L true o v) (hK : D P w0 n ops l ((d, true, v) :: F) L Q) (hg : o.guard = none := by exact rfl) (hd : o.dst = some d := by exact rfl) (hdn : Nat.blt d n = true := by exact rfl) : D P w0 n ops (o :: l) F L Q := D_ d hg hd hdn v hy hK
theorem dg {d : Nat} {g : Bool} (hg : gq F ops o = some g) (hy : Y P w0 F L g o v) (hK : D P w0 n ops l ((d, g, v) :: F) L Q) (hd : o.dst = some d := by exact rfl) (hdn : Nat.blt d n = true := by exact rfl) : D P w0 n ops (o :: l) F L Q := D_step (gq_ok hg) ⟨d, hd, hdn, hK⟩ hy
theorem yF {i off : Nat} {a : Addr} (hf : ∀ a w, (Instr.fieldAt t (.pointer (some a)) i).run P w = .ok (.pointer (some (a.add off))) w) (ho : o.op = .fieldAddr t x i := by exact rfl) (hx : F.ev x = some (gx, .pointer (some a)) := by exact rfl) (hi : g = true → gx = true := by first | exact (fun _ => rfl) | exact (fun h => h) | exact (fun h => (Bool.and_eq_true_iff.1 h).1) | simp_all) : Y P w0 F L g o (.pointer (some (a.add off))) := y_fieldAddr ho hx hf hi
theorem yL (i : Nat) {b off : Nat} {cs : List Value} {ty tb : TypeId} {d : TypeDesc} (hu : P.underlying ty = some d) (ho : o.op = .load ty x := by exact rfl) (hx : F.ev x = some (gx, .pointer (some ⟨b, off, none⟩)) := by exact rfl) (hL : L.get i = some (.blk b (IsBox cs tb)) := by exact rfl) (hv : nth cs off = some v := by exact rfl) (hd : isAggB d = false := by exact rfl) (hi : g = true → gx = true := by first | exact (fun _ => rfl) | exact (fun h => h) | exact (fun h => (Bool.and_eq_true_iff.1 h).1) | simp_all) : Y P w0 F L g o v := y_load i ho hx hL hv hu hd hi
theorem yA (i : Nat) {b : Nat} {cs : List Value} {ty tb : TypeId} {d : TypeDesc} (hL : L.get i = some (.blk b (IsBox cs tb))) (hu : P.underlying ty = some d) (hz : (P.info? ty).map (·.size) = some cs.length) (ho : o.op = .load ty x := by exact rfl) (hx : F.ev x = some (gx, .pointer (some ⟨b, 0, none⟩)) := by exact rfl) (hd : isAggB d = true := by exact rfl) (hi : g = true → gx = true := by first | exact (fun _ => rfl) | exact (fun h => h) | exact (fun h => (Bool.and_eq_true_iff.1 h).1) | simp_all) : Y P w0 F L g o (.agg cs.toArray) := y_loadA i ho hx hL hu hd hz hi
theorem sgo {y : Code} {Q' : Exit → Act → World → Prop} (h : T P w0 n y F L Q') (hq : ∀ a w, y.wp P Q' a w → Q .normal a w := by exact fun _ _ h => h) : S P w0 n ops [] F L Q := S_go hq h
theorem sgs {x y : Code} {Q' : Exit → Act → World → Prop} (h : T P w0 n x F L (Exit.then (y.wp P Q') Q')) (hq : ∀ a w, (Code.seq x y).wp P Q' a w → Q .normal a w := by exact fun _ _ h => h) : S P w0 n ops [] F L Q := S_go hq (T_seq h)
theorem sgr {id : Nat} {l : List Oper} {Q' : Exit → Act → World → Prop} (h : S P w0 n l.toArray l F L Q') (hq : ∀ a w, (Code.region id l.toArray false).wp P Q' a w → Q .normal a w := by exact fun _ _ h => h) : S P w0 n ops [] F L Q := S_go hq (T_region h)
theorem sgx {id : Nat} {l : List Oper} {y : Code} {Q' : Exit → Act → World → Prop} (h : S P w0 n l.toArray l F L (Exit.then (y.wp P Q') Q')) (hq : ∀ a w, (Code.seq (Code.region id l.toArray false) y).wp P Q' a w → Q .normal a w := by exact fun _ _ h => h) : S P w0 n ops [] F L Q := S_go hq (T_seq (T_region h))
theorem dgo {y : Code} {Q' : Exit → Act → World → Prop} (h : T P w0 n y F L Q') (hq : ∀ a w, y.wp P Q' a w → Q .normal a w := by exact fun _ _ h => h) : D P w0 n ops [] F L Q := D_go hq h
theorem dgs {x y : Code} {Q' : Exit → Act → World → Prop} (h : T P w0 n x F L (Exit.then (y.wp P Q') Q')) (hq : ∀ a w, (Code.seq x y).wp P Q' a w → Q .normal a w := by exact fun _ _ h => h) : D P w0 n ops [] F L Q := D_go hq (T_seq h)
theorem dgr {id : Nat} {l : List Oper} {Q' : Exit → Act → World → Prop} (h : S P w0 n l.toArray l F L Q') (hq : ∀ a w, (Code.region id l.toArray false).wp P Q' a w → Q .normal a w := by exact fun _ _ h => h) : D P w0 n ops [] F L Q := D_go hq (T_region h)
theorem dgx {id : Nat} {l : List Oper} {y : Code} {Q' : Exit → Act → World → Prop} (h : S P w0 n l.toArray l F L (Exit.then (y.wp P Q') Q')) (hq : ∀ a w, (Code.seq (Code.region id l.toArray false) y).wp P Q' a w → Q .normal a w := by exact fun _ _ h => h) : D P w0 n ops [] F L Q := D_go hq (T_seq (T_region h))
theorem tx {id : Nat} {l : List Oper} {y : Code} (h : S P w0 n l.toArray l F L (Exit.then (y.wp P Q) Q)) : T P w0 n (.seq (.region id l.toArray false) y) F L Q := T_seq (T_region h)
theorem kgo {y : Code} {Q' : Exit → Act → World → Prop} (h : T P w0 n y F L Q') (hq : ∀ a w, y.wp P Q' a w → Q .normal a w := by exact fun _ _ h => h) : T P w0 n .skip F L Q := T_skip_go hq h
theorem kgs {x y : Code} {Q' : Exit → Act → World → Prop} (h : T P w0 n x F L (Exit.then (y.wp P Q') Q')) (hq : ∀ a w, (Code.seq x y).wp P Q' a w → Q .normal a w := by exact fun _ _ h => h) : T P w0 n .skip F L Q := T_skip_go hq (T_seq h)
theorem kgr {i' : Nat} {l : List Oper} {Q' : Exit → Act → World → Prop} (h : S P w0 n l.toArray l F L Q') (hq : ∀ a w, (Code.region i' l.toArray false).wp P Q' a w → Q .normal a w := by exact fun _ _ h => h) : T P w0 n .skip F L Q := T_skip_go hq (T_region h)
theorem kgx {i' : Nat} {l : List Oper} {y : Code} {Q' : Exit → Act → World → Prop} (h : S P w0 n l.toArray l F L (Exit.then (y.wp P Q') Q')) (hq : ∀ a w, (Code.seq (Code.region i' l.toArray false) y).wp P Q' a w → Q .normal a w := by exact fun _ _ h => h) : T P w0 n .skip F L Q := T_skip_go hq (T_seq (T_region h))
theorem egs {id : Nat} {x y : Code} {Q' : Exit → Act → World → Prop} (h : T P w0 n x F L (Exit.then (y.wp P Q') Q')) (hq : ∀ a w, (Code.seq x y).wp P Q' a w → Q (.exit id) a w := by exact fun _ _ h => h) : T P w0 n (.exit id) F L Q := T_exit_go hq (T_seq h)
theorem egr {id : Nat} {i' : Nat} {l : List Oper} {Q' : Exit → Act → World → Prop} (h : S P w0 n l.toArray l F L Q') (hq : ∀ a w, (Code.region i' l.toArray false).wp P Q' a w → Q (.exit id) a w := by exact fun _ _ h => h) : T P w0 n (.exit id) F L Q := T_exit_go hq (T_region h)
theorem egx {id : Nat} {i' : Nat} {l : List Oper} {y : Code} {Q' : Exit → Act → World → Prop} (h : S P w0 n l.toArray l F L (Exit.then (y.wp P Q') Q')) (hq : ∀ a w, (Code.seq (Code.region i' l.toArray false) y).wp P Q' a w → Q (.exit id) a w := by exact fun _ _ h => h) : T P w0 n (.exit id) F L Q := T_exit_go hq (T_seq (T_region h))
variable {fn : Func} {R : Ending → World → Prop}
theorem tr1 {t0 : Nat} {v0 : Value} (hq : ∀ a w, bodyPost P fn R .ret a w → Q .ret a w) (hR : ∀ w, Mem w0 L w → R (.returned (v0)) w) (h : fn.results = #[.tmp t0] := by exact rfl) (h0 : F.get t0 = some (true, v0) := by exact rfl) : T P w0 n .ret F L Q := T_ret fun a w hF hM => hq a w (post1 h h0 hR a w hF hM)
theorem tr2 {t0 t1 : Nat} {v0 v1 : Value} (hq : ∀ a w, bodyPost P fn R .ret a w → Q .ret a w) (hR : ∀ w, Mem w0 L w → R (.returned (.tuple #[v0, v1])) w) (h : fn.results = #[.tmp t0, .tmp t1] := by exact rfl) (h0 : F.get t0 = some (true, v0) := by exact rfl) (h1 : F.get t1 = some (true, v1) := by exact rfl) : T P w0 n .ret F L Q := T_ret fun a w hF hM => hq a w (post2 h h0 h1 hR a w hF hM)
theorem tr3 {t0 t1 t2 : Nat} {v0 v1 v2 : Value} (hq : ∀ a w, bodyPost P fn R .ret a w → Q .ret a w) (hR : ∀ w, Mem w0 L w → R (.returned (.tuple #[v0, v1, v2])) w) (h : fn.results = #[.tmp t0, .tmp t1, .tmp t2] := by exact rfl) (h0 : F.get t0 = some (true, v0) := by exact rfl) (h1 : F.get t1 = some (true, v1) := by exact rfl) (h2 : F.get t2 = some (true, v2) := by exact rfl) : T P w0 n .ret F L Q := T_ret fun a w hF hM => hq a w (post3 h h0 h1 h2 hR a w hF hM)
theorem lK1 {c : Code} {σ1 : Type} {kf kl : List (Nat × Nat)} {K : FL} {KL : HL} (Fi : σ1 → FL) (Li : σ1 → HL) (Pi : σ1 → Prop) (μ : σ1 → Nat) (s1 : σ1) (h0 : Pi s1) (hF : SubF F (Fi s1)) (hL : SubL L (Li s1))
    (round : ∀ p1, Pi p1 → T P w0 n c (Fi p1 ++ K) (Li p1 ++ KL) (Exit.then (fun a' w' => ∃ q1, μ q1 < μ p1 ∧ Pi q1 ∧ Fr n (Fi q1 ++ K) a' ∧ Mem w0 (Li q1 ++ KL) w') Q)) (hK : KeepF kf F K := by repeat (first | exact kf_nil | (apply kf_in; focus rfl) | (apply kf_out; focus rfl))) (hKL : KeepL kl L KL := by repeat (first | exact kl_nil | exact kl_rest (by assumption) rfl | (apply kl_in; focus rfl) | (apply kl_out; focus rfl))) : T P w0 n (.loop c) F L Q := T_loopK1 Fi Li Pi μ s1 hK hKL h0 hF hL round
theorem nK1 {σ1 : Type} {Fi : σ1 → FL} {Li : σ1 → HL} {Pi : σ1 → Prop} {μ : σ1 → Nat} {m0 : Nat} {kf kl : List (Nat × Nat)} {K : FL} {KL : HL} (q1 : σ1) (hμ : μ q1 < m0) (hP : Pi q1) (hF : SubF F (Fi q1)) (hL : SubL L (Li q1)) (hK : KeepF kf F K := by repeat (first | exact kf_nil | (apply kf_in; focus rfl) | (apply kf_out; focus rfl))) (hKL : KeepL kl L KL := by repeat (first | exact kl_nil | exact kl_rest (by assumption) rfl | (apply kl_in; focus rfl) | (apply kl_out; focus rfl))) :
    ∀ a w, Fr n F a → Mem w0 L w → ∃ q1, μ q1 < m0 ∧ Pi q1 ∧ Fr n (Fi q1 ++ K) a ∧ Mem w0 (Li q1 ++ KL) w := nextK1 q1 hK hKL hμ hP hF hL
theorem nN1 {σ1 : Type} {Fi : σ1 → FL} {Li : σ1 → HL} {Pi : σ1 → Prop} {μ : σ1 → Nat} {m0 : Nat} {kf kl : List (Nat × Nat)} {K : FL} {KL : HL} (q1 : σ1) (hμ : μ q1 < m0) (hP : Pi q1) (hF : SubF F (Fi q1)) (hL : SubL L (Li q1)) (hK : KeepF kf F K := by repeat (first | exact kf_nil | (apply kf_in; focus rfl) | (apply kf_out; focus rfl))) (hKL : KeepL kl L KL := by repeat (first | exact kl_none | exact kl_tail (by assumption) rfl (by repeat (first | exact ti_refl | (apply ti_cons; focus rfl))) | refine kl_cons rfl rfl ?_)) :
    ∀ a w, Fr n F a → Mem w0 L w → ∃ q1, μ q1 < m0 ∧ Pi q1 ∧ Fr n (Fi q1 ++ K) a ∧ Mem w0 (Li q1 ++ KL) w := nextK1 q1 hK hKL hμ hP hF hL
theorem lK2 {c : Code} {σ1 : Type} {σ2 : Type} {kf kl : List (Nat × Nat)} {K : FL} {KL : HL} (Fi : σ1 → σ2 → FL) (Li : σ1 → σ2 → HL) (Pi : σ1 → σ2 → Prop) (μ : σ1 → σ2 → Nat) (s1 : σ1) (s2 : σ2) (h0 : Pi s1 s2) (hF : SubF F (Fi s1 s2)) (hL : SubL L (Li s1 s2))
    (round : ∀ p1 p2, Pi p1 p2 → T P w0 n c (Fi p1 p2 ++ K) (Li p1 p2 ++ KL) (Exit.then (fun a' w' => ∃ q1 q2, μ q1 q2 < μ p1 p2 ∧ Pi q1 q2 ∧ Fr n (Fi q1 q2 ++ K) a' ∧ Mem w0 (Li q1 q2 ++ KL) w') Q)) (hK : KeepF kf F K := by repeat (first | exact kf_nil | (apply kf_in; focus rfl) | (apply kf_out; focus rfl))) (hKL : KeepL kl L KL := by repeat (first | exact kl_nil | exact kl_rest (by assumption) rfl | (apply kl_in; focus rfl) | (apply kl_out; focus rfl))) : T P w0 n (.loop c) F L Q := T_loopK2 Fi Li Pi μ s1 s2 hK hKL h0 hF hL round
theorem nK2 {σ1 : Type} {σ2 : Type} {Fi : σ1 → σ2 → FL} {Li : σ1 → σ2 → HL} {Pi : σ1 → σ2 → Prop} {μ : σ1 → σ2 → Nat} {m0 : Nat} {kf kl : List (Nat × Nat)} {K : FL} {KL : HL} (q1 : σ1) (q2 : σ2) (hμ : μ q1 q2 < m0) (hP : Pi q1 q2) (hF : SubF F (Fi q1 q2)) (hL : SubL L (Li q1 q2)) (hK : KeepF kf F K := by repeat (first | exact kf_nil | (apply kf_in; focus rfl) | (apply kf_out; focus rfl))) (hKL : KeepL kl L KL := by repeat (first | exact kl_nil | exact kl_rest (by assumption) rfl | (apply kl_in; focus rfl) | (apply kl_out; focus rfl))) :
    ∀ a w, Fr n F a → Mem w0 L w → ∃ q1 q2, μ q1 q2 < m0 ∧ Pi q1 q2 ∧ Fr n (Fi q1 q2 ++ K) a ∧ Mem w0 (Li q1 q2 ++ KL) w := nextK2 q1 q2 hK hKL hμ hP hF hL
theorem lK3 {c : Code} {σ1 : Type} {σ2 : Type} {σ3 : Type} {kf kl : List (Nat × Nat)} {K : FL} {KL : HL} (Fi : σ1 → σ2 → σ3 → FL) (Li : σ1 → σ2 → σ3 → HL) (Pi : σ1 → σ2 → σ3 → Prop) (μ : σ1 → σ2 → σ3 → Nat) (s1 : σ1) (s2 : σ2) (s3 : σ3) (h0 : Pi s1 s2 s3) (hF : SubF F (Fi s1 s2 s3)) (hL : SubL L (Li s1 s2 s3))
    (round : ∀ p1 p2 p3, Pi p1 p2 p3 → T P w0 n c (Fi p1 p2 p3 ++ K) (Li p1 p2 p3 ++ KL) (Exit.then (fun a' w' => ∃ q1 q2 q3, μ q1 q2 q3 < μ p1 p2 p3 ∧ Pi q1 q2 q3 ∧ Fr n (Fi q1 q2 q3 ++ K) a' ∧ Mem w0 (Li q1 q2 q3 ++ KL) w') Q)) (hK : KeepF kf F K := by repeat (first | exact kf_nil | (apply kf_in; focus rfl) | (apply kf_out; focus rfl))) (hKL : KeepL kl L KL := by repeat (first | exact kl_nil | exact kl_rest (by assumption) rfl | (apply kl_in; focus rfl) | (apply kl_out; focus rfl))) : T P w0 n (.loop c) F L Q := T_loopK3 Fi Li Pi μ s1 s2 s3 hK hKL h0 hF hL round
theorem nK3 {σ1 : Type} {σ2 : Type} {σ3 : Type} {Fi : σ1 → σ2 → σ3 → FL} {Li : σ1 → σ2 → σ3 → HL} {Pi : σ1 → σ2 → σ3 → Prop} {μ : σ1 → σ2 → σ3 → Nat} {m0 : Nat} {kf kl : List (Nat × Nat)} {K : FL} {KL : HL} (q1 : σ1) (q2 : σ2) (q3 : σ3) (hμ : μ q1 q2 q3 < m0) (hP : Pi q1 q2 q3) (hF : SubF F (Fi q1 q2 q3)) (hL : SubL L (Li q1 q2 q3)) (hK : KeepF kf F K := by repeat (first | exact kf_nil | (apply kf_in; focus rfl) | (apply kf_out; focus rfl))) (hKL : KeepL kl L KL := by repeat (first | exact kl_nil | exact kl_rest (by assumption) rfl | (apply kl_in; focus rfl) | (apply kl_out; focus rfl))) :
    ∀ a w, Fr n F a → Mem w0 L w → ∃ q1 q2 q3, μ q1 q2 q3 < m0 ∧ Pi q1 q2 q3 ∧ Fr n (Fi q1 q2 q3 ++ K) a ∧ Mem w0 (Li q1 q2 q3 ++ KL) w := nextK3 q1 q2 q3 hK hKL hμ hP hF hL
theorem lK4 {c : Code} {σ1 : Type} {σ2 : Type} {σ3 : Type} {σ4 : Type} {kf kl : List (Nat × Nat)} {K : FL} {KL : HL} (Fi : σ1 → σ2 → σ3 → σ4 → FL) (Li : σ1 → σ2 → σ3 → σ4 → HL) (Pi : σ1 → σ2 → σ3 → σ4 → Prop) (μ : σ1 → σ2 → σ3 → σ4 → Nat) (s1 : σ1) (s2 : σ2) (s3 : σ3) (s4 : σ4) (h0 : Pi s1 s2 s3 s4) (hF : SubF F (Fi s1 s2 s3 s4)) (hL : SubL L (Li s1 s2 s3 s4))
    (round : ∀ p1 p2 p3 p4, Pi p1 p2 p3 p4 → T P w0 n c (Fi p1 p2 p3 p4 ++ K) (Li p1 p2 p3 p4 ++ KL) (Exit.then (fun a' w' => ∃ q1 q2 q3 q4, μ q1 q2 q3 q4 < μ p1 p2 p3 p4 ∧ Pi q1 q2 q3 q4 ∧ Fr n (Fi q1 q2 q3 q4 ++ K) a' ∧ Mem w0 (Li q1 q2 q3 q4 ++ KL) w') Q)) (hK : KeepF kf F K := by repeat (first | exact kf_nil | (apply kf_in; focus rfl) | (apply kf_out; focus rfl))) (hKL : KeepL kl L KL := by repeat (first | exact kl_nil | exact kl_rest (by assumption) rfl | (apply kl_in; focus rfl) | (apply kl_out; focus rfl))) : T P w0 n (.loop c) F L Q := T_loopK4 Fi Li Pi μ s1 s2 s3 s4 hK hKL h0 hF hL round
theorem nK4 {σ1 : Type} {σ2 : Type} {σ3 : Type} {σ4 : Type} {Fi : σ1 → σ2 → σ3 → σ4 → FL} {Li : σ1 → σ2 → σ3 → σ4 → HL} {Pi : σ1 → σ2 → σ3 → σ4 → Prop} {μ : σ1 → σ2 → σ3 → σ4 → Nat} {m0 : Nat} {kf kl : List (Nat × Nat)} {K : FL} {KL : HL} (q1 : σ1) (q2 : σ2) (q3 : σ3) (q4 : σ4) (hμ : μ q1 q2 q3 q4 < m0) (hP : Pi q1 q2 q3 q4) (hF : SubF F (Fi q1 q2 q3 q4)) (hL : SubL L (Li q1 q2 q3 q4)) (hK : KeepF kf F K := by repeat (first | exact kf_nil | (apply kf_in; focus rfl) | (apply kf_out; focus rfl))) (hKL : KeepL kl L KL := by repeat (first | exact kl_nil | exact kl_rest (by assumption) rfl | (apply kl_in; focus rfl) | (apply kl_out; focus rfl))) :
    ∀ a w, Fr n F a → Mem w0 L w → ∃ q1 q2 q3 q4, μ q1 q2 q3 q4 < m0 ∧ Pi q1 q2 q3 q4 ∧ Fr n (Fi q1 q2 q3 q4 ++ K) a ∧ Mem w0 (Li q1 q2 q3 q4 ++ KL) w := nextK4 q1 q2 q3 q4 hK hKL hμ hP hF hL
theorem lK5 {c : Code} {σ1 : Type} {σ2 : Type} {σ3 : Type} {σ4 : Type} {σ5 : Type} {kf kl : List (Nat × Nat)} {K : FL} {KL : HL} (Fi : σ1 → σ2 → σ3 → σ4 → σ5 → FL) (Li : σ1 → σ2 → σ3 → σ4 → σ5 → HL) (Pi : σ1 → σ2 → σ3 → σ4 → σ5 → Prop) (μ : σ1 → σ2 → σ3 → σ4 → σ5 → Nat) (s1 : σ1) (s2 : σ2) (s3 : σ3) (s4 : σ4) (s5 : σ5) (h0 : Pi s1 s2 s3 s4 s5) (hF : SubF F (Fi s1 s2 s3 s4 s5)) (hL : SubL L (Li s1 s2 s3 s4 s5))
    (round : ∀ p1 p2 p3 p4 p5, Pi p1 p2 p3 p4 p5 → T P w0 n c (Fi p1 p2 p3 p4 p5 ++ K) (Li p1 p2 p3 p4 p5 ++ KL) (Exit.then (fun a' w' => ∃ q1 q2 q3 q4 q5, μ q1 q2 q3 q4 q5 < μ p1 p2 p3 p4 p5 ∧ Pi q1 q2 q3 q4 q5 ∧ Fr n (Fi q1 q2 q3 q4 q5 ++ K) a' ∧ Mem w0 (Li q1 q2 q3 q4 q5 ++ KL) w') Q)) (hK : KeepF kf F K := by repeat (first | exact kf_nil | (apply kf_in; focus rfl) | (apply kf_out; focus rfl))) (hKL : KeepL kl L KL := by repeat (first | exact kl_nil | exact kl_rest (by assumption) rfl | (apply kl_in; focus rfl) | (apply kl_out; focus rfl))) : T P w0 n (.loop c) F L Q := T_loopK5 Fi Li Pi μ s1 s2 s3 s4 s5 hK hKL h0 hF hL round
theorem nK5 {σ1 : Type} {σ2 : Type} {σ3 : Type} {σ4 : Type} {σ5 : Type} {Fi : σ1 → σ2 → σ3 → σ4 → σ5 → FL} {Li : σ1 → σ2 → σ3 → σ4 → σ5 → HL} {Pi : σ1 → σ2 → σ3 → σ4 → σ5 → Prop} {μ : σ1 → σ2 → σ3 → σ4 → σ5 → Nat} {m0 : Nat} {kf kl : List (Nat × Nat)} {K : FL} {KL : HL} (q1 : σ1) (q2 : σ2) (q3 : σ3) (q4 : σ4) (q5 : σ5) (hμ : μ q1 q2 q3 q4 q5 < m0) (hP : Pi q1 q2 q3 q4 q5) (hF : SubF F (Fi q1 q2 q3 q4 q5)) (hL : SubL L (Li q1 q2 q3 q4 q5)) (hK : KeepF kf F K := by repeat (first | exact kf_nil | (apply kf_in; focus rfl) | (apply kf_out; focus rfl))) (hKL : KeepL kl L KL := by repeat (first | exact kl_nil | exact kl_rest (by assumption) rfl | (apply kl_in; focus rfl) | (apply kl_out; focus rfl))) :
    ∀ a w, Fr n F a → Mem w0 L w → ∃ q1 q2 q3 q4 q5, μ q1 q2 q3 q4 q5 < m0 ∧ Pi q1 q2 q3 q4 q5 ∧ Fr n (Fi q1 q2 q3 q4 q5 ++ K) a ∧ Mem w0 (Li q1 q2 q3 q4 q5 ++ KL) w := nextK5 q1 q2 q3 q4 q5 hK hKL hμ hP hF hL
theorem lK6 {c : Code} {σ1 : Type} {σ2 : Type} {σ3 : Type} {σ4 : Type} {σ5 : Type} {σ6 : Type} {kf kl : List (Nat × Nat)} {K : FL} {KL : HL} (Fi : σ1 → σ2 → σ3 → σ4 → σ5 → σ6 → FL) (Li : σ1 → σ2 → σ3 → σ4 → σ5 → σ6 → HL) (Pi : σ1 → σ2 → σ3 → σ4 → σ5 → σ6 → Prop) (μ : σ1 → σ2 → σ3 → σ4 → σ5 → σ6 → Nat) (s1 : σ1) (s2 : σ2) (s3 : σ3) (s4 : σ4) (s5 : σ5) (s6 : σ6) (h0 : Pi s1 s2 s3 s4 s5 s6) (hF : SubF F (Fi s1 s2 s3 s4 s5 s6)) (hL : SubL L (Li s1 s2 s3 s4 s5 s6))
    (round : ∀ p1 p2 p3 p4 p5 p6, Pi p1 p2 p3 p4 p5 p6 → T P w0 n c (Fi p1 p2 p3 p4 p5 p6 ++ K) (Li p1 p2 p3 p4 p5 p6 ++ KL) (Exit.then (fun a' w' => ∃ q1 q2 q3 q4 q5 q6, μ q1 q2 q3 q4 q5 q6 < μ p1 p2 p3 p4 p5 p6 ∧ Pi q1 q2 q3 q4 q5 q6 ∧ Fr n (Fi q1 q2 q3 q4 q5 q6 ++ K) a' ∧ Mem w0 (Li q1 q2 q3 q4 q5 q6 ++ KL) w') Q)) (hK : KeepF kf F K := by repeat (first | exact kf_nil | (apply kf_in; focus rfl) | (apply kf_out; focus rfl))) (hKL : KeepL kl L KL := by repeat (first | exact kl_nil | exact kl_rest (by assumption) rfl | (apply kl_in; focus rfl) | (apply kl_out; focus rfl))) : T P w0 n (.loop c) F L Q := T_loopK6 Fi Li Pi μ s1 s2 s3 s4 s5 s6 hK hKL h0 hF hL round
theorem nK6 {σ1 : Type} {σ2 : Type} {σ3 : Type} {σ4 : Type} {σ5 : Type} {σ6 : Type} {Fi : σ1 → σ2 → σ3 → σ4 → σ5 → σ6 → FL} {Li : σ1 → σ2 → σ3 → σ4 → σ5 → σ6 → HL} {Pi : σ1 → σ2 → σ3 → σ4 → σ5 → σ6 → Prop} {μ : σ1 → σ2 → σ3 → σ4 → σ5 → σ6 → Nat} {m0 : Nat} {kf kl : List (Nat × Nat)} {K : FL} {KL : HL} (q1 : σ1) (q2 : σ2) (q3 : σ3) (q4 : σ4) (q5 : σ5) (q6 : σ6) (hμ : μ q1 q2 q3 q4 q5 q6 < m0) (hP : Pi q1 q2 q3 q4 q5 q6) (hF : SubF F (Fi q1 q2 q3 q4 q5 q6)) (hL : SubL L (Li q1 q2 q3 q4 q5 q6)) (hK : KeepF kf F K := by repeat (first | exact kf_nil | (apply kf_in; focus rfl) | (apply kf_out; focus rfl))) (hKL : KeepL kl L KL := by repeat (first | exact kl_nil | exact kl_rest (by assumption) rfl | (apply kl_in; focus rfl) | (apply kl_out; focus rfl))) :
    ∀ a w, Fr n F a → Mem w0 L w → ∃ q1 q2 q3 q4 q5 q6, μ q1 q2 q3 q4 q5 q6 < m0 ∧ Pi q1 q2 q3 q4 q5 q6 ∧ Fr n (Fi q1 q2 q3 q4 q5 q6 ++ K) a ∧ Mem w0 (Li q1 q2 q3 q4 q5 q6 ++ KL) w := nextK6 q1 q2 q3 q4 q5 q6 hK hKL hμ hP hF hL
theorem lK7 {c : Code} {σ1 : Type} {σ2 : Type} {σ3 : Type} {σ4 : Type} {σ5 : Type} {σ6 : Type} {σ7 : Type} {kf kl : List (Nat × Nat)} {K : FL} {KL : HL} (Fi : σ1 → σ2 → σ3 → σ4 → σ5 → σ6 → σ7 → FL) (Li : σ1 → σ2 → σ3 → σ4 → σ5 → σ6 → σ7 → HL) (Pi : σ1 → σ2 → σ3 → σ4 → σ5 → σ6 → σ7 → Prop) (μ : σ1 → σ2 → σ3 → σ4 → σ5 → σ6 → σ7 → Nat) (s1 : σ1) (s2 : σ2) (s3 : σ3) (s4 : σ4) (s5 : σ5) (s6 : σ6) (s7 : σ7) (h0 : Pi s1 s2 s3 s4 s5 s6 s7) (hF : SubF F (Fi s1 s2 s3 s4 s5 s6 s7)) (hL : SubL L (Li s1 s2 s3 s4 s5 s6 s7))
    (round : ∀ p1 p2 p3 p4 p5 p6 p7, Pi p1 p2 p3 p4 p5 p6 p7 → T P w0 n c (Fi p1 p2 p3 p4 p5 p6 p7 ++ K) (Li p1 p2 p3 p4 p5 p6 p7 ++ KL) (Exit.then (fun a' w' => ∃ q1 q2 q3 q4 q5 q6 q7, μ q1 q2 q3 q4 q5 q6 q7 < μ p1 p2 p3 p4 p5 p6 p7 ∧ Pi q1 q2 q3 q4 q5 q6 q7 ∧ Fr n (Fi q1 q2 q3 q4 q5 q6 q7 ++ K) a' ∧ Mem w0 (Li q1 q2 q3 q4 q5 q6 q7 ++ KL) w') Q)) (hK : KeepF kf F K := by repeat (first | exact kf_nil | (apply kf_in; focus rfl) | (apply kf_out; focus rfl))) (hKL : KeepL kl L KL := by repeat (first | exact kl_nil | exact kl_rest (by assumption) rfl | (apply kl_in; focus rfl) | (apply kl_out; focus rfl))) : T P w0 n (.loop c) F L Q := T_loopK7 Fi Li Pi μ s1 s2 s3 s4 s5 s6 s7 hK hKL h0 hF hL round
theorem nK7 {σ1 : Type} {σ2 : Type} {σ3 : Type} {σ4 : Type} {σ5 : Type} {σ6 : Type} {σ7 : Type} {Fi : σ1 → σ2 → σ3 → σ4 → σ5 → σ6 → σ7 → FL} {Li : σ1 → σ2 → σ3 → σ4 → σ5 → σ6 → σ7 → HL} {Pi : σ1 → σ2 → σ3 → σ4 → σ5 → σ6 → σ7 → Prop} {μ : σ1 → σ2 → σ3 → σ4 → σ5 → σ6 → σ7 → Nat} {m0 : Nat} {kf kl : List (Nat × Nat)} {K : FL} {KL : HL} (q1 : σ1) (q2 : σ2) (q3 : σ3) (q4 : σ4) (q5 : σ5) (q6 : σ6) (q7 : σ7) (hμ : μ q1 q2 q3 q4 q5 q6 q7 < m0) (hP : Pi q1 q2 q3 q4 q5 q6 q7) (hF : SubF F (Fi q1 q2 q3 q4 q5 q6 q7)) (hL : SubL L (Li q1 q2 q3 q4 q5 q6 q7)) (hK : KeepF kf F K := by repeat (first | exact kf_nil | (apply kf_in; focus rfl) | (apply kf_out; focus rfl))) (hKL : KeepL kl L KL := by repeat (first | exact kl_nil | exact kl_rest (by assumption) rfl | (apply kl_in; focus rfl) | (apply kl_out; focus rfl))) :
    ∀ a w, Fr n F a → Mem w0 L w → ∃ q1 q2 q3 q4 q5 q6 q7, μ q1 q2 q3 q4 q5 q6 q7 < m0 ∧ Pi q1 q2 q3 q4 q5 q6 q7 ∧ Fr n (Fi q1 q2 q3 q4 q5 q6 q7 ++ K) a ∧ Mem w0 (Li q1 q2 q3 q4 q5 q6 q7 ++ KL) w := nextK7 q1 q2 q3 q4 q5 q6 q7 hK hKL hμ hP hF hL
end
end Go.Eng
