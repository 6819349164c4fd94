/- Owners: CheckOwners, OwnersOf. Conditions: those of each theorem. -/
import Derived.Test.YtoeipmepmlikcaaDoorRFit
import Derived.Test.YtoeipmepmlikcaaDoorECutF
namespace Go.Proofs.YtoeipmepmlikcaaDoor
set_option linter.unusedSimpArgs false
set_option linter.unusedVariables false
set_option maxRecDepth 20000
open Go.RowKit Go.Eng
structure SOwner where
  p : List UInt8
  w : Sl (List UInt8)
def SOwner.enc (o : SOwner) : List Value := [str o.p, .slice o.w.A o.w.q o.w.c]
def SOwner.val (o : SOwner) : Value := .agg o.enc.toArray
structure OwnOk (w : World) (o : SOwner) : Prop where
  p : o.p.length ≤ 4611686018427387904
  w : o.w.Ok strE 1 w
  q : o.w.q ≤ 4611686018427387904
structure OwnsOk (w : World) (l : Sl SOwner) : Prop where
  ok : l.Ok SOwner.enc 2 w
  q : l.q ≤ 4611686018427387904
  n : ∀ o ∈ l.l, OwnOk w o
theorem OwnOk.below {w w' : World} {o : SOwner} (h : OwnOk w o) (hb : Below w.heap.size w w') : OwnOk w' o := ⟨h.p, h.w.below hb, h.q⟩
theorem OwnsOk.below {w w' : World} {l : Sl SOwner} (h : OwnsOk w l) (hb : Below w.heap.size w w') : OwnsOk w' l := ⟨h.ok.below hb, h.q, fun o ho => (h.n o ho).below hb⟩
def pathBad (c : UInt8) : Bool := decide ((c.toNat : Int) < 33) || decide ((126 : Int) < (c.toNat : Int))
def pathNo (s : List UInt8) : Int := if s = [] then 1 else if (200 : Int) < s.length then 4 else if s.any pathBad = true then 9 else 0
theorem checkPath_any (s : List UInt8) (hs : s.length ≤ 4611686018427387904) (w : World) :
    Calls Tryd.prog 142 #[str s] w fun e w' => e = .returned (.int .i64 (pathNo s)) ∧ Below w.heap.size w w' := by
  refine enter_args (args := [str s]) (F := _) Tryd.func142 rfl Tryd.ntmps142 rfl rfl ?_
  intro Rb hRb hRn
  refine T_seq ?_
  refine T_region ?_
  refine S_ 2 rfl rfl rfl _ (y_assign rfl rfl) ?_
  refine S_go (fun _ _ h => h) ?_
  refine T_seq ?_
  refine T_block ?_
  refine T_seq ?_
  refine T_region ?_
  refine S_ 5 rfl rfl rfl _ (y_move rfl rfl) ?_
  refine S_ 6 rfl rfl rfl _ (y_bin rfl rfl rfl (fun _ => b_eqls)) ?_
  refine S_ 4 rfl rfl rfl _ (y_assign rfl rfl) ?_
  refine S_go (fun _ _ h => h) ?_
  refine T_cond rfl (fun h4 => ?_) (fun h4 => ?_)
  · try simp only [decide_eq_true_eq, decide_eq_false_iff_not, Bool.or_eq_true, Bool.or_eq_false_iff, Bool.and_eq_true, Bool.and_eq_false_iff, Bool.not_eq_true', Bool.not_eq_false', Bool.not_eq_true, Bool.not_eq_false, Bool.not_true, Bool.not_false, Int.not_lt, Int.not_le, not_or, not_and, Classical.not_not] at h4
    refine T_seq ?_
    refine T_region ?_
    refine S_ 2 rfl rfl rfl _ (y_assign rfl rfl) ?_
    refine S_go (fun _ _ h => h) ?_
    refine T_ret (fun a w hF hM => hRb a w (post1 rfl rfl (fun w hM => ?_) a w hF hM))
    exact ⟨by rw [pathNo, if_pos h4], hM.below⟩
  · try simp only [decide_eq_true_eq, decide_eq_false_iff_not, Bool.or_eq_true, Bool.or_eq_false_iff, Bool.and_eq_true, Bool.and_eq_false_iff, Bool.not_eq_true', Bool.not_eq_false', Bool.not_eq_true, Bool.not_eq_false, Bool.not_true, Bool.not_false, Int.not_lt, Int.not_le, not_or, not_and, Classical.not_not] at h4
    refine T_seq ?_
    refine T_region ?_
    refine S_ 8 rfl rfl rfl _ (y_move rfl rfl) ?_
    refine S_ 9 rfl rfl rfl _ (y_len_str rfl rfl Tryd.underlying9) ?_
    refine S_ 10 rfl rfl rfl _ (y_bin rfl rfl rfl (fun _ => b_gtr)) ?_
    refine S_ 7 rfl rfl rfl _ (y_assign rfl rfl) ?_
    refine S_go (fun _ _ h => h) ?_
    refine T_cond rfl (fun h7 => ?_) (fun h7 => ?_)
    · try simp only [decide_eq_true_eq, decide_eq_false_iff_not, Bool.or_eq_true, Bool.or_eq_false_iff, Bool.and_eq_true, Bool.and_eq_false_iff, Bool.not_eq_true', Bool.not_eq_false', Bool.not_eq_true, Bool.not_eq_false, Bool.not_true, Bool.not_false, Int.not_lt, Int.not_le, not_or, not_and, Classical.not_not] at h7
      refine T_seq ?_
      refine T_region ?_
      refine S_ 2 rfl rfl rfl _ (y_assign rfl rfl) ?_
      refine S_go (fun _ _ h => h) ?_
      refine T_ret (fun a w hF hM => hRb a w (post1 rfl rfl (fun w hM => ?_) a w hF hM))
      exact ⟨by rw [pathNo, if_neg h4, if_pos (by omega)], hM.below⟩
    · try simp only [decide_eq_true_eq, decide_eq_false_iff_not, Bool.or_eq_true, Bool.or_eq_false_iff, Bool.and_eq_true, Bool.and_eq_false_iff, Bool.not_eq_true', Bool.not_eq_false', Bool.not_eq_true, Bool.not_eq_false, Bool.not_true, Bool.not_false, Int.not_lt, Int.not_le, not_or, not_and, Classical.not_not] at h7
      refine T_skip_go (fun _ _ h => h) ?_
      refine T_seq ?_
      refine T_seq ?_
      refine T_region ?_
      refine S_ 11 rfl rfl rfl _ (y_move rfl rfl) ?_
      refine S_ 12 rfl rfl rfl _ (y_len_str rfl rfl Tryd.underlying9) ?_
      refine S_ 13 rfl rfl rfl _ (y_move rfl rfl) ?_
      refine S_go (fun _ _ h => h) ?_
      refine T_block ?_
      refine T_loopK1 (kf := [(2, 3), (13, 26)]) (kl := [(2, 3), (13, 26)]) (fun (i : Nat) => [(13, true, .int .i64 (i : Int))]) (fun (i : Nat) => []) (fun (i : Nat) => i ≤ s.length ∧ s.any pathBad = (s.drop i).any pathBad) (fun (i : Nat) => s.length - i) 0 (by repeat (first | exact kf_nil | (apply kf_in; focus rfl) | (apply kf_out; focus rfl))) (by repeat (first | exact kl_nil | exact kl_rest (by assumption) rfl | (apply kl_in; focus rfl) | (apply kl_out; focus rfl))) ?_ ?_ ?_ ?_
      · exact ⟨by omega, rfl⟩
      · exact ⟨rfl, trivial⟩
      · exact trivial
      rintro i ⟨hp1, hp2⟩
      refine T_seq ?_
      refine T_region ?_
      refine S_ 14 rfl rfl rfl _ (y_bin rfl rfl rfl (fun _ => b_lss)) ?_
      refine S_go (fun _ _ h => h) ?_
      refine T_seq ?_
      refine T_cond rfl (fun h14 => ?_) (fun h14 => ?_)
      · try simp only [decide_eq_true_eq, decide_eq_false_iff_not, Bool.or_eq_true, Bool.or_eq_false_iff, Bool.and_eq_true, Bool.and_eq_false_iff, Bool.not_eq_true', Bool.not_eq_false', Bool.not_eq_true, Bool.not_eq_false, Bool.not_true, Bool.not_false, Int.not_lt, Int.not_le, not_or, not_and, Classical.not_not] at h14
        refine T_skip_go (fun _ _ h => h) ?_
        refine T_seq ?_
        refine T_block ?_
        refine T_seq ?_
        refine T_region ?_
        refine S_ 15 rfl rfl rfl _ (y_move rfl rfl) ?_
        refine S_ 3 rfl rfl rfl _ (y_assign rfl rfl) ?_
        refine S_go (fun _ _ h => h) ?_
        refine T_seq ?_
        refine T_region ?_
        refine S_ 16 rfl rfl rfl _ (y_move rfl rfl) ?_
        refine S_ 17 rfl rfl rfl _ (y_move rfl rfl) ?_
        refine S_ 18 rfl rfl rfl _ (y_index_str rfl rfl rfl Tryd.underlying9 (fun _ => by omega)) ?_
        refine S_ 19 rfl rfl rfl _ (y_bin rfl rfl rfl (fun _ => b_lss)) ?_
        refine S_ 20 rfl rfl rfl _ (y_move rfl rfl) ?_
        refine Sg_ 21 rfl rfl rfl rfl rfl rfl _ (y_move rfl rfl) ?_
        refine Sg_ 22 rfl rfl rfl rfl rfl rfl _ (y_move rfl rfl) ?_
        refine Sg_ 23 rfl rfl rfl rfl rfl rfl _ (y_index_str rfl rfl rfl Tryd.underlying9 (fun hg => by simp only [Bool.true_and, Bool.and_eq_true, beq_iff_eq, decide_eq_true_eq, decide_eq_false_iff_not, Int.not_lt, Int.not_le] at hg; omega)) ?_
        refine Sg_ 24 rfl rfl rfl rfl rfl rfl _ (y_bin rfl rfl rfl (fun _ => b_gtr)) ?_
        refine S_ 25 rfl rfl rfl _ (y_as (v' := .bool (pathBad (s.getD i 0))) (by exact rfl) (y_or rfl rfl rfl)) ?_
        refine S_go (fun _ _ h => h) ?_
        refine T_cond rfl (fun h25 => ?_) (fun h25 => ?_)
        · skip
          refine T_seq ?_
          refine T_region ?_
          refine S_ 2 rfl rfl rfl _ (y_assign rfl rfl) ?_
          refine S_go (fun _ _ h => h) ?_
          refine T_ret (fun a w hF hM => hRb a w (post1 rfl rfl (fun w hM => ?_) a w hF hM))
          exact ⟨by rw [pathNo, if_neg h4, if_neg (by omega), if_pos (by rw [hp2, drop_str (by omega), any_t h25])], hM.below⟩
        · skip
          refine T_skip_go (fun _ _ h => h) ?_
          refine T_region ?_
          refine S_ 26 rfl rfl rfl _ (y_bin rfl rfl rfl (fun hg => b_add (by omega))) ?_
          refine S_ 13 rfl rfl rfl _ (y_move rfl rfl) ?_
          refine S_nil (nextK1 (kf := [(2, 3), (13, 26)]) (kl := [(2, 3), (13, 26)]) (i + 1) (by repeat (first | exact kf_nil | (apply kf_in; focus rfl) | (apply kf_out; focus rfl))) (by repeat (first | exact kl_nil | exact kl_rest (by assumption) rfl | (apply kl_in; focus rfl) | (apply kl_out; focus rfl))) ?_ ?_ ?_ ?_)
          · omega
          · exact ⟨by omega, by rw [hp2, drop_str (by omega), any_f h25]⟩
          · exact ⟨rfl, trivial⟩
          · exact trivial
      · try simp only [decide_eq_true_eq, decide_eq_false_iff_not, Bool.or_eq_true, Bool.or_eq_false_iff, Bool.and_eq_true, Bool.and_eq_false_iff, Bool.not_eq_true', Bool.not_eq_false', Bool.not_eq_true, Bool.not_eq_false, Bool.not_true, Bool.not_false, Int.not_lt, Int.not_le, not_or, not_and, Classical.not_not] at h14
        refine T_exit_go (fun _ _ h => h) ?_
        refine T_seq ?_
        refine T_region ?_
        refine S_ 2 rfl rfl rfl _ (y_assign rfl rfl) ?_
        refine S_go (fun _ _ h => h) ?_
        refine T_ret (fun a w hF hM => hRb a w (post1 rfl rfl (fun w hM => ?_) a w hF hM))
        exact ⟨by rw [pathNo, if_neg h4, if_neg (by omega), if_neg (by rw [hp2, List.drop_eq_nil_of_le (by omega)]; simp)], hM.below⟩
def whoNo (seen : List (List UInt8)) : List (List UInt8) → Int
  | [] => 0
  | n :: r => if nameOk n = false then 3 else if n ∈ seen then 6 else whoNo (seen ++ [n]) r
def ownNo (o : SOwner) : Int := if pathNo o.p ≠ 0 then pathNo o.p else if o.w.q = 0 then 1 else if (20 : Int) < o.w.q then 4 else whoNo [] o.w.l
def ownsNo : List SOwner → Int
  | [] => 0
  | o :: r => if ownNo o ≠ 0 then ownNo o else ownsNo r
def ownersNo (l : Sl SOwner) : Int := if (200 : Int) < l.q then 4 else ownsNo l.l
theorem checkOwner_any (o : SOwner) (w : World) (ho : OwnOk w o) :
    Calls Tryd.prog 71 #[o.val] w fun e w' => e = .returned (.int .i64 (ownNo o)) ∧ Below w.heap.size w w' := by
  have ht := ho.w.t
  have hq := ho.q
  refine enter_args (args := [.agg #[str o.p, .slice o.w.A o.w.q o.w.c]]) (F := _) Tryd.func71 rfl Tryd.ntmps71 rfl rfl ?_
  intro Rb hRb hRn
  refine T_seq ?_
  refine T_region ?_
  refine S_box 1 1 rfl rfl rfl rfl rfl ?_
  intro b1
  refine S_ 2 rfl rfl rfl _ (y_assign rfl rfl) ?_
  refine S_go (fun _ _ h => h) ?_
  refine T_seq ?_
  refine T_seq ?_
  refine T_region ?_
  refine S_ 6 rfl rfl rfl _ (y_fieldAddr rfl rfl fa89_0) ?_
  refine S_ 7 rfl rfl rfl _ (y_load 1 rfl rfl rfl rfl Tryd.underlying9 rfl) ?_
  refine S_ 8 rfl rfl rfl _ (y_call rfl rfl rfl cf142 (fun _ w _ => checkPath_any o.p ho.p w)) ?_
  refine S_ 3 rfl rfl rfl _ (y_assign rfl rfl) ?_
  refine S_go (fun _ _ h => h) ?_
  refine T_seq ?_
  refine T_region ?_
  refine S_ 9 rfl rfl rfl _ (y_move rfl rfl) ?_
  refine S_ 10 rfl rfl rfl _ (y_bin rfl rfl rfl (fun _ => b_neq)) ?_
  refine S_go (fun _ _ h => h) ?_
  refine T_cond rfl (fun h10 => ?_) (fun h10 => ?_)
  · try simp only [decide_eq_true_eq, decide_eq_false_iff_not, Bool.or_eq_true, Bool.or_eq_false_iff, Bool.and_eq_true, Bool.and_eq_false_iff, Bool.not_eq_true', Bool.not_eq_false', Bool.not_eq_true, Bool.not_eq_false, Bool.not_true, Bool.not_false, Int.not_lt, Int.not_le, not_or, not_and, Classical.not_not] at h10
    refine T_seq ?_
    refine T_region ?_
    refine S_ 11 rfl rfl rfl _ (y_move rfl rfl) ?_
    refine S_ 2 rfl rfl rfl _ (y_assign rfl rfl) ?_
    refine S_go (fun _ _ h => h) ?_
    refine T_ret (fun a w hF hM => hRb a w (post1 rfl rfl (fun w hM => ?_) a w hF hM))
    exact ⟨by rw [ownNo, if_pos h10], hM.below⟩
  · try simp only [decide_eq_true_eq, decide_eq_false_iff_not, Bool.or_eq_true, Bool.or_eq_false_iff, Bool.and_eq_true, Bool.and_eq_false_iff, Bool.not_eq_true', Bool.not_eq_false', Bool.not_eq_true, Bool.not_eq_false, Bool.not_true, Bool.not_false, Int.not_lt, Int.not_le, not_or, not_and, Classical.not_not] at h10
    refine T_skip_go (fun _ _ h => h) ?_
    refine T_seq ?_
    refine T_block ?_
    refine T_seq ?_
    refine T_region ?_
    refine S_ 13 rfl rfl rfl _ (y_fieldAddr rfl rfl fa89_1) ?_
    refine S_ 14 rfl rfl rfl _ (y_load 1 rfl rfl rfl rfl Tryd.underlying25 rfl) ?_
    refine S_ 15 rfl rfl rfl _ (y_len_slice rfl rfl Tryd.underlying25) ?_
    refine S_ 16 rfl rfl rfl _ (y_bin rfl rfl rfl (fun _ => b_eql)) ?_
    refine S_ 12 rfl rfl rfl _ (y_assign rfl rfl) ?_
    refine S_go (fun _ _ h => h) ?_
    refine T_cond rfl (fun h12 => ?_) (fun h12 => ?_)
    · try simp only [decide_eq_true_eq, decide_eq_false_iff_not, Bool.or_eq_true, Bool.or_eq_false_iff, Bool.and_eq_true, Bool.and_eq_false_iff, Bool.not_eq_true', Bool.not_eq_false', Bool.not_eq_true, Bool.not_eq_false, Bool.not_true, Bool.not_false, Int.not_lt, Int.not_le, not_or, not_and, Classical.not_not] at h12
      refine T_seq ?_
      refine T_region ?_
      refine S_ 2 rfl rfl rfl _ (y_assign rfl rfl) ?_
      refine S_go (fun _ _ h => h) ?_
      refine T_ret (fun a w hF hM => hRb a w (post1 rfl rfl (fun w hM => ?_) a w hF hM))
      exact ⟨by rw [ownNo, if_neg (by simpa using h10), if_pos (by omega)], hM.below⟩
    · try simp only [decide_eq_true_eq, decide_eq_false_iff_not, Bool.or_eq_true, Bool.or_eq_false_iff, Bool.and_eq_true, Bool.and_eq_false_iff, Bool.not_eq_true', Bool.not_eq_false', Bool.not_eq_true, Bool.not_eq_false, Bool.not_true, Bool.not_false, Int.not_lt, Int.not_le, not_or, not_and, Classical.not_not] at h12
      refine T_seq ?_
      refine T_region ?_
      refine S_ 18 rfl rfl rfl _ (y_fieldAddr rfl rfl fa89_1) ?_
      refine S_ 19 rfl rfl rfl _ (y_load 1 rfl rfl rfl rfl Tryd.underlying25 rfl) ?_
      refine S_ 20 rfl rfl rfl _ (y_len_slice rfl rfl Tryd.underlying25) ?_
      refine S_ 21 rfl rfl rfl _ (y_bin rfl rfl rfl (fun _ => b_gtr)) ?_
      refine S_ 17 rfl rfl rfl _ (y_assign rfl rfl) ?_
      refine S_go (fun _ _ h => h) ?_
      refine T_cond rfl (fun h17 => ?_) (fun h17 => ?_)
      · try simp only [decide_eq_true_eq, decide_eq_false_iff_not, Bool.or_eq_true, Bool.or_eq_false_iff, Bool.and_eq_true, Bool.and_eq_false_iff, Bool.not_eq_true', Bool.not_eq_false', Bool.not_eq_true, Bool.not_eq_false, Bool.not_true, Bool.not_false, Int.not_lt, Int.not_le, not_or, not_and, Classical.not_not] at h17
        refine T_seq ?_
        refine T_region ?_
        refine S_ 2 rfl rfl rfl _ (y_assign rfl rfl) ?_
        refine S_go (fun _ _ h => h) ?_
        refine T_ret (fun a w hF hM => hRb a w (post1 rfl rfl (fun w hM => ?_) a w hF hM))
        exact ⟨by rw [ownNo, if_neg (by simpa using h10), if_neg (by omega), if_pos (by omega)], hM.below⟩
      · try simp only [decide_eq_true_eq, decide_eq_false_iff_not, Bool.or_eq_true, Bool.or_eq_false_iff, Bool.and_eq_true, Bool.and_eq_false_iff, Bool.not_eq_true', Bool.not_eq_false', Bool.not_eq_true, Bool.not_eq_false, Bool.not_true, Bool.not_false, Int.not_lt, Int.not_le, not_or, not_and, Classical.not_not] at h17
        refine T_skip_go (fun _ _ h => h) ?_
        refine T_seq ?_
        refine T_seq ?_
        refine T_region ?_
        refine S_ 22 rfl rfl rfl _ (y_fieldAddr rfl rfl fa89_1) ?_
        refine S_ 23 rfl rfl rfl _ (y_load 1 rfl rfl rfl rfl Tryd.underlying25 rfl) ?_
        refine S_ 24 rfl rfl rfl _ (y_len_slice rfl rfl Tryd.underlying25) ?_
        refine S_ 25 rfl rfl rfl _ (y_move rfl rfl) ?_
        refine S_go (fun _ _ h => h) ?_
        refine T_block ?_
        refine T_loopK1 (kf := [(2, 2), (4, 5), (25, 39)]) (kl := [(2, 2), (4, 5), (25, 39)]) (fun (j : Nat) => [(25, true, .int .i64 (j : Int))]) (fun (j : Nat) => []) (fun (j : Nat) => j ≤ o.w.q ∧ whoNo [] o.w.l = whoNo (o.w.l.take j) (o.w.l.drop j)) (fun (j : Nat) => o.w.q - j) 0 (by repeat (first | exact kf_nil | (apply kf_in; focus rfl) | (apply kf_out; focus rfl))) (by repeat (first | exact kl_nil | exact kl_rest (by assumption) rfl | (apply kl_in; focus rfl) | (apply kl_out; focus rfl))) ?_ ?_ ?_ ?_
        · exact ⟨by omega, rfl⟩
        · exact ⟨rfl, trivial⟩
        · exact trivial
        rintro j ⟨hp1, hp2⟩
        refine T_seq ?_
        refine T_region ?_
        refine S_ 26 rfl rfl rfl _ (y_bin rfl rfl rfl (fun _ => b_lss)) ?_
        refine S_go (fun _ _ h => h) ?_
        refine T_seq ?_
        refine T_cond rfl (fun h26 => ?_) (fun h26 => ?_)
        · try simp only [decide_eq_true_eq, decide_eq_false_iff_not, Bool.or_eq_true, Bool.or_eq_false_iff, Bool.and_eq_true, Bool.and_eq_false_iff, Bool.not_eq_true', Bool.not_eq_false', Bool.not_eq_true, Bool.not_eq_false, Bool.not_true, Bool.not_false, Int.not_lt, Int.not_le, not_or, not_and, Classical.not_not] at h26
          obtain ⟨x, hx1, hx2⟩ := ht.at (i := j) (by omega)
          rw [hx2, whoNo] at hp2
          refine T_skip_go (fun _ _ h => h) ?_
          refine T_seq ?_
          refine T_block ?_
          refine T_seq ?_
          refine T_region ?_
          refine S_ 27 rfl rfl rfl _ (y_move rfl rfl) ?_
          refine S_ 28 rfl rfl rfl _ (y_indexAddr rfl rfl rfl Tryd.underlying25 sz9 (fun hg => ht.isSome (by omega)) (fun _ => by omega)) ?_
          refine S_ 29 rfl rfl rfl _ (y_loadT1 (val := (fun l : List UInt8 => str l)) rfl rfl ht (fun _ => hx1) Tryd.underlying9 rfl) ?_
          refine S_ 4 rfl rfl rfl _ (y_assign rfl rfl) ?_
          refine S_ 5 rfl rfl rfl _ (y_assign rfl rfl) ?_
          refine S_go (fun _ _ h => h) ?_
          refine T_seq ?_
          refine T_seq ?_
          refine T_region ?_
          refine S_ 30 rfl rfl rfl _ (y_move rfl rfl) ?_
          refine S_ 31 rfl rfl rfl _ (y_call rfl rfl rfl cf91 (fun _ w _ => IsName_any x w)) ?_
          refine S_ 32 rfl rfl rfl _ (y_not rfl rfl) ?_
          refine S_go (fun _ _ h => h) ?_
          refine T_cond rfl (fun h32 => ?_) (fun h32 => ?_)
          · skip
            rw [if_pos (by simpa using h32)] at hp2
            refine T_seq ?_
            refine T_region ?_
            refine S_ 2 rfl rfl rfl _ (y_assign rfl rfl) ?_
            refine S_go (fun _ _ h => h) ?_
            refine T_ret (fun a w hF hM => hRb a w (post1 rfl rfl (fun w hM => ?_) a w hF hM))
            exact ⟨by rw [ownNo, if_neg (by simpa using h10), if_neg (by omega), if_neg (by omega), hp2], hM.below⟩
          · skip
            have h32 : nameOk x = true := by simpa using h32
            rw [if_neg (by rw [h32]; exact fun h => Bool.noConfusion h)] at hp2
            refine T_skip_go (fun _ _ h => h) ?_
            refine T_seq ?_
            refine T_region ?_
            refine S_ 33 rfl rfl rfl _ (y_fieldAddr rfl rfl fa89_1) ?_
            refine S_ 34 rfl rfl rfl _ (y_load 1 rfl rfl rfl rfl Tryd.underlying25 rfl) ?_
            refine S_ 35 rfl rfl rfl _ (y_move rfl rfl) ?_
            refine S_ 36 rfl rfl rfl _ (y_slice rfl rfl Tryd.underlying25 sz9 (.inl ⟨rfl, rfl⟩) (.inr ⟨_, _, rfl, rfl⟩) (by omega) (by omega) ho.w.cap) ?_
            refine S_ 37 rfl rfl rfl _ (y_move rfl rfl) ?_
            refine S_ 38 rfl rfl rfl _ (y_as (v' := .bool (decide (x ∈ o.w.l.take j))) (by rw [List.drop_zero, Nat.sub_zero]) (y_call rfl rfl rfl cf65 (fun _ w hM => IndexStr_any _ _ _ ((o.w.l.drop 0).take (j - 0)) x w (subSl_ok (ho.w.below hM.below) (fun _ => rfl) (Nat.zero_le _) (by omega)).t (by omega)))) ?_
            refine S_go (fun _ _ h => h) ?_
            refine T_cond rfl (fun h38 => ?_) (fun h38 => ?_)
            · try simp only [decide_eq_true_eq, decide_eq_false_iff_not, Bool.or_eq_true, Bool.or_eq_false_iff, Bool.and_eq_true, Bool.and_eq_false_iff, Bool.not_eq_true', Bool.not_eq_false', Bool.not_eq_true, Bool.not_eq_false, Bool.not_true, Bool.not_false, Int.not_lt, Int.not_le, not_or, not_and, Classical.not_not] at h38
              rw [if_pos h38] at hp2
              refine T_seq ?_
              refine T_region ?_
              refine S_ 2 rfl rfl rfl _ (y_assign rfl rfl) ?_
              refine S_go (fun _ _ h => h) ?_
              refine T_ret (fun a w hF hM => hRb a w (post1 rfl rfl (fun w hM => ?_) a w hF hM))
              exact ⟨by rw [ownNo, if_neg (by simpa using h10), if_neg (by omega), if_neg (by omega), hp2], hM.below⟩
            · try simp only [decide_eq_true_eq, decide_eq_false_iff_not, Bool.or_eq_true, Bool.or_eq_false_iff, Bool.and_eq_true, Bool.and_eq_false_iff, Bool.not_eq_true', Bool.not_eq_false', Bool.not_eq_true, Bool.not_eq_false, Bool.not_true, Bool.not_false, Int.not_lt, Int.not_le, not_or, not_and, Classical.not_not] at h38
              rw [if_neg h38] at hp2
              refine T_skip_go (fun _ _ h => h) ?_
              refine T_region ?_
              refine S_ 39 rfl rfl rfl _ (y_bin rfl rfl rfl (fun hg => b_add (by omega))) ?_
              refine S_ 25 rfl rfl rfl _ (y_move rfl rfl) ?_
              refine S_nil (nextK1 (kf := [(2, 2), (4, 5), (25, 39)]) (kl := [(2, 2), (4, 5), (25, 39)]) (j + 1) (by repeat (first | exact kf_nil | (apply kf_in; focus rfl) | (apply kf_out; focus rfl))) (by repeat (first | exact kl_nil | exact kl_rest (by assumption) rfl | (apply kl_in; focus rfl) | (apply kl_out; focus rfl))) ?_ ?_ ?_ ?_)
              · omega
              · exact ⟨by omega, by rw [hp2, take_at hx1]⟩
              · exact ⟨rfl, trivial⟩
              · exact trivial
        · try simp only [decide_eq_true_eq, decide_eq_false_iff_not, Bool.or_eq_true, Bool.or_eq_false_iff, Bool.and_eq_true, Bool.and_eq_false_iff, Bool.not_eq_true', Bool.not_eq_false', Bool.not_eq_true, Bool.not_eq_false, Bool.not_true, Bool.not_false, Int.not_lt, Int.not_le, not_or, not_and, Classical.not_not] at h26
          refine T_exit_go (fun _ _ h => h) ?_
          refine T_seq ?_
          refine T_region ?_
          refine S_ 2 rfl rfl rfl _ (y_assign rfl rfl) ?_
          refine S_go (fun _ _ h => h) ?_
          refine T_ret (fun a w hF hM => hRb a w (post1 rfl rfl (fun w hM => ?_) a w hF hM))
          exact ⟨by rw [ownNo, if_neg (by simpa using h10), if_neg (by omega), if_neg (by omega), hp2, ht.end (by omega)]; rfl, hM.below⟩
theorem CheckOwners_any (l : Sl SOwner) (w : World) (hl : OwnsOk w l) :
    Calls Tryd.prog 18 #[.slice l.A l.q l.c] w fun e w' => e = .returned (.int .i64 (ownersNo l)) ∧ Below w.heap.size w w' := by
  have ht := hl.ok.t
  have hq := hl.q
  refine enter_args (args := [.slice l.A l.q l.c]) (F := _) Tryd.func18 rfl Tryd.ntmps18 rfl rfl ?_
  intro Rb hRb hRn
  refine T_seq ?_
  refine T_region ?_
  refine S_ 2 rfl rfl rfl _ (y_assign rfl rfl) ?_
  refine S_go (fun _ _ h => h) ?_
  refine T_seq ?_
  refine T_seq ?_
  refine T_region ?_
  refine S_ 6 rfl rfl rfl _ (y_move rfl rfl) ?_
  refine S_ 7 rfl rfl rfl _ (y_len_slice rfl rfl Tryd.underlying22) ?_
  refine S_ 8 rfl rfl rfl _ (y_bin rfl rfl rfl (fun _ => b_gtr)) ?_
  refine S_go (fun _ _ h => h) ?_
  refine T_cond rfl (fun h8 => ?_) (fun h8 => ?_)
  · try simp only [decide_eq_true_eq, decide_eq_false_iff_not, Bool.or_eq_true, Bool.or_eq_false_iff, Bool.and_eq_true, Bool.and_eq_false_iff, Bool.not_eq_true', Bool.not_eq_false', Bool.not_eq_true, Bool.not_eq_false, Bool.not_true, Bool.not_false, Int.not_lt, Int.not_le, not_or, not_and, Classical.not_not] at h8
    refine T_seq ?_
    refine T_region ?_
    refine S_ 2 rfl rfl rfl _ (y_assign rfl rfl) ?_
    refine S_go (fun _ _ h => h) ?_
    refine T_ret (fun a w hF hM => hRb a w (post1 rfl rfl (fun w hM => ?_) a w hF hM))
    exact ⟨by rw [ownersNo, if_pos (by omega)], hM.below⟩
  · try simp only [decide_eq_true_eq, decide_eq_false_iff_not, Bool.or_eq_true, Bool.or_eq_false_iff, Bool.and_eq_true, Bool.and_eq_false_iff, Bool.not_eq_true', Bool.not_eq_false', Bool.not_eq_true, Bool.not_eq_false, Bool.not_true, Bool.not_false, Int.not_lt, Int.not_le, not_or, not_and, Classical.not_not] at h8
    refine T_skip_go (fun _ _ h => h) ?_
    refine T_seq ?_
    refine T_seq ?_
    refine T_region ?_
    refine S_ 9 rfl rfl rfl _ (y_move rfl rfl) ?_
    refine S_ 10 rfl rfl rfl _ (y_len_slice rfl rfl Tryd.underlying22) ?_
    refine S_ 11 rfl rfl rfl _ (y_move rfl rfl) ?_
    refine S_go (fun _ _ h => h) ?_
    refine T_block ?_
    refine T_loopK1 (kf := [(2, 2), (4, 5), (11, 20)]) (kl := [(2, 2), (4, 5), (11, 20)]) (fun (i : Nat) => [(11, true, .int .i64 (i : Int))]) (fun (i : Nat) => []) (fun (i : Nat) => i ≤ l.q ∧ ownsNo l.l = ownsNo (l.l.drop i)) (fun (i : Nat) => l.q - i) 0 (by repeat (first | exact kf_nil | (apply kf_in; focus rfl) | (apply kf_out; focus rfl))) (by repeat (first | exact kl_nil | exact kl_rest (by assumption) rfl | (apply kl_in; focus rfl) | (apply kl_out; focus rfl))) ?_ ?_ ?_ ?_
    · exact ⟨by omega, rfl⟩
    · exact ⟨rfl, trivial⟩
    · exact trivial
    rintro i ⟨hp1, hp2⟩
    refine T_seq ?_
    refine T_region ?_
    refine S_ 12 rfl rfl rfl _ (y_bin rfl rfl rfl (fun _ => b_lss)) ?_
    refine S_go (fun _ _ h => h) ?_
    refine T_seq ?_
    refine T_cond rfl (fun h12 => ?_) (fun h12 => ?_)
    · try simp only [decide_eq_true_eq, decide_eq_false_iff_not, Bool.or_eq_true, Bool.or_eq_false_iff, Bool.and_eq_true, Bool.and_eq_false_iff, Bool.not_eq_true', Bool.not_eq_false', Bool.not_eq_true, Bool.not_eq_false, Bool.not_true, Bool.not_false, Int.not_lt, Int.not_le, not_or, not_and, Classical.not_not] at h12
      obtain ⟨x, hx1, hx2⟩ := ht.at (i := i) (by omega)
      refine T_skip_go (fun _ _ h => h) ?_
      refine T_seq ?_
      refine T_block ?_
      refine T_seq ?_
      refine T_region ?_
      refine S_ 13 rfl rfl rfl _ (y_indexAddr rfl rfl rfl Tryd.underlying22 sz89 (fun hg => ht.isSome (by omega)) (fun _ => by omega)) ?_
      refine S_ 14 rfl rfl rfl _ (y_loadT rfl rfl ht (fun _ => rfl) (fun _ => hx1) Tryd.underlying89 rfl sz89) ?_
      refine S_alloc 4 4 rfl rfl rfl rfl z89 ?_
      intro b4
      refine S_store 4 rfl rfl rfl rfl rfl rfl sz89 rfl rfl ?_
      refine S_go (fun _ _ h => h) ?_
      refine T_seq ?_
      refine T_region ?_
      refine S_ 15 rfl rfl rfl _ (y_loadA 4 rfl rfl rfl Tryd.underlying89 rfl sz89) ?_
      refine S_ 16 rfl rfl rfl _ (y_call rfl rfl rfl cf71 (fun _ w hM => checkOwner_any x w ((hl.n x (mem_at hx1)).below hM.below))) ?_
      refine S_ 5 rfl rfl rfl _ (y_assign rfl rfl) ?_
      refine S_go (fun _ _ h => h) ?_
      refine T_seq ?_
      refine T_region ?_
      refine S_ 17 rfl rfl rfl _ (y_move rfl rfl) ?_
      refine S_ 18 rfl rfl rfl _ (y_bin rfl rfl rfl (fun _ => b_neq)) ?_
      refine S_go (fun _ _ h => h) ?_
      refine T_cond rfl (fun h18 => ?_) (fun h18 => ?_)
      · try simp only [decide_eq_true_eq, decide_eq_false_iff_not, Bool.or_eq_true, Bool.or_eq_false_iff, Bool.and_eq_true, Bool.and_eq_false_iff, Bool.not_eq_true', Bool.not_eq_false', Bool.not_eq_true, Bool.not_eq_false, Bool.not_true, Bool.not_false, Int.not_lt, Int.not_le, not_or, not_and, Classical.not_not] at h18
        refine T_seq ?_
        refine T_region ?_
        refine S_ 19 rfl rfl rfl _ (y_move rfl rfl) ?_
        refine S_ 2 rfl rfl rfl _ (y_assign rfl rfl) ?_
        refine S_go (fun _ _ h => h) ?_
        refine T_ret (fun a w hF hM => hRb a w (post1 rfl rfl (fun w hM => ?_) a w hF hM))
        exact ⟨by rw [ownersNo, if_neg (by omega), hp2, hx2, ownsNo, if_pos h18], hM.below⟩
      · try simp only [decide_eq_true_eq, decide_eq_false_iff_not, Bool.or_eq_true, Bool.or_eq_false_iff, Bool.and_eq_true, Bool.and_eq_false_iff, Bool.not_eq_true', Bool.not_eq_false', Bool.not_eq_true, Bool.not_eq_false, Bool.not_true, Bool.not_false, Int.not_lt, Int.not_le, not_or, not_and, Classical.not_not] at h18
        refine T_skip_go (fun _ _ h => h) ?_
        refine T_region ?_
        refine S_ 20 rfl rfl rfl _ (y_bin rfl rfl rfl (fun hg => b_add (by omega))) ?_
        refine S_ 11 rfl rfl rfl _ (y_move rfl rfl) ?_
        refine S_nil (nextK1 (kf := [(2, 2), (4, 5), (11, 20)]) (kl := [(2, 2), (4, 5), (11, 20)]) (i + 1) (by repeat (first | exact kf_nil | (apply kf_in; focus rfl) | (apply kf_out; focus rfl))) (by repeat (first | exact kl_nil | exact kl_rest (by assumption) rfl | (apply kl_in; focus rfl) | (apply kl_out; focus rfl))) ?_ ?_ ?_ ?_)
        · omega
        · exact ⟨by omega, by rw [hp2, hx2, ownsNo, if_neg (by simpa using h18)]⟩
        · exact ⟨rfl, trivial⟩
        · exact trivial
    · try simp only [decide_eq_true_eq, decide_eq_false_iff_not, Bool.or_eq_true, Bool.or_eq_false_iff, Bool.and_eq_true, Bool.and_eq_false_iff, Bool.not_eq_true', Bool.not_eq_false', Bool.not_eq_true, Bool.not_eq_false, Bool.not_true, Bool.not_false, Int.not_lt, Int.not_le, not_or, not_and, Classical.not_not] at h12
      refine T_exit_go (fun _ _ h => h) ?_
      refine T_seq ?_
      refine T_region ?_
      refine S_ 2 rfl rfl rfl _ (y_assign rfl rfl) ?_
      refine S_go (fun _ _ h => h) ?_
      refine T_ret (fun a w hF hM => hRb a w (post1 rfl rfl (fun w hM => ?_) a w hF hM))
      exact ⟨by rw [ownersNo, if_neg (by omega), hp2, ht.end (by omega)]; rfl, hM.below⟩
theorem owns_parts : ∀ l : List SOwner, ownsNo l = 0 → ∀ o ∈ l, ownNo o = 0
  | [], _ => fun o h => by cases h
  | a :: r, h => fun o ho => by
    rw [ownsNo] at h
    by_cases ha : ownNo a = 0
    · rw [if_neg (by simpa using ha)] at h
      rcases List.mem_cons.1 ho with rfl | h1
      · exact ha
      · exact owns_parts r h o h1
    · rw [if_pos ha] at h; exact absurd h ha
theorem own_parts {o : SOwner} (h : ownNo o = 0) : o.p.length ≤ 200 ∧ o.w.q ≤ 20 := by
  unfold ownNo at h
  split at h
  · exact absurd h ‹_›
  · rename_i h1
    have h1 : pathNo o.p = 0 := Decidable.not_not.1 h1
    split at h
    · cases h
    · split at h
      · cases h
      · refine ⟨?_, by omega⟩
        unfold pathNo at h1
        split at h1
        · cases h1
        · split at h1
          · cases h1
          · omega
/-- the last of the first t owners whose pattern fits -/
def lastFit (path : List UInt8) (l : List SOwner) : Nat → Option SOwner
  | 0 => none
  | t + 1 => match l[t]? with
    | some o => if fitsB o.p path = true then some o else lastFit path l t
    | none => lastFit path l t
def owRes (l : Sl SOwner) (path : List UInt8) : Int × List (List UInt8) :=
  if ownersNo l ≠ 0 then (ownersNo l, []) else if path = [] then (1, []) else if (200 : Int) < path.length then (4, []) else match lastFit path l.l l.q with
    | some o => (0, o.w.l)
    | none => (7, [])
set_option maxHeartbeats 1000000 in
theorem OwnersOf_any (l : Sl SOwner) (path : List UInt8) (w : World) (hl : OwnsOk w l) (hpl : path.length ≤ 4611686018427387904) :
    Calls Tryd.prog 13 #[.slice l.A l.q l.c, str path] w fun e w' => ∃ A c, e = .returned (.tuple #[.slice A (owRes l path).2.length c, .int .i64 (owRes l path).1]) ∧ w'.ownsRow w.heap.size 9 1 (.slice A (owRes l path).2.length c) (owRes l path).2.length ((owRes l path).2.flatMap strE) ∧ Below w.heap.size w w' := by
  have ht := hl.ok.t
  have hq := hl.q
  have nilR : ∀ {w' : World}, w'.ownsRow w.heap.size 9 1 (.slice none 0 0) 0 (([] : List (List UInt8)).flatMap strE) := fun {w'} => World.ownsRow_nil _ _ _ _
  refine enter_args (args := [.slice l.A l.q l.c, str path]) (F := _) Tryd.func13 rfl Tryd.ntmps13 rfl rfl ?_
  intro Rb hRb hRn
  refine T_seq ?_
  refine T_region ?_
  refine S_nilSlice 4 (e := 9) (size := 1) ?_
  refine S_ 4 rfl rfl rfl _ (y_assign rfl rfl) ?_
  refine S_ 5 rfl rfl rfl _ (y_assign rfl rfl) ?_
  refine S_go (fun _ _ h => h) ?_
  refine T_seq ?_
  refine T_seq ?_
  refine T_region ?_
  refine S_ 8 rfl rfl rfl _ (y_move rfl rfl) ?_
  refine S_ 9 rfl rfl rfl _ (y_call rfl rfl rfl cf18 (fun _ w hM => CheckOwners_any l w (hl.below hM.below))) ?_
  refine S_ 6 rfl rfl rfl _ (y_assign rfl rfl) ?_
  refine S_go (fun _ _ h => h) ?_
  refine T_seq ?_
  refine T_region ?_
  refine S_ 10 rfl rfl rfl _ (y_move rfl rfl) ?_
  refine S_ 11 rfl rfl rfl _ (y_bin rfl rfl rfl (fun _ => b_neq)) ?_
  refine S_go (fun _ _ h => h) ?_
  refine T_cond rfl (fun h11 => ?_) (fun h11 => ?_)
  · try simp only [decide_eq_true_eq, decide_eq_false_iff_not, Bool.or_eq_true, Bool.or_eq_false_iff, Bool.and_eq_true, Bool.and_eq_false_iff, Bool.not_eq_true', Bool.not_eq_false', Bool.not_eq_true, Bool.not_eq_false, Bool.not_true, Bool.not_false, Int.not_lt, Int.not_le, not_or, not_and, Classical.not_not] at h11
    refine T_seq ?_
    refine T_region ?_
    refine S_ 12 rfl rfl rfl _ (y_move rfl rfl) ?_
    refine S_nilSlice 4 (e := 9) (size := 1) ?_
    refine S_ 4 rfl rfl rfl _ (y_assign rfl rfl) ?_
    refine S_ 5 rfl rfl rfl _ (y_assign rfl rfl) ?_
    refine S_go (fun _ _ h => h) ?_
    refine T_ret (fun a w hF hM => hRb a w (post2 rfl rfl rfl (fun w hM => ?_) a w hF hM))
    have hr : owRes l path = (ownersNo l, []) := by rw [owRes, if_pos h11]
    rw [hr]
    exact ⟨none, 0, rfl, nilR, hM.below⟩
  · try simp only [decide_eq_true_eq, decide_eq_false_iff_not, Bool.or_eq_true, Bool.or_eq_false_iff, Bool.and_eq_true, Bool.and_eq_false_iff, Bool.not_eq_true', Bool.not_eq_false', Bool.not_eq_true, Bool.not_eq_false, Bool.not_true, Bool.not_false, Int.not_lt, Int.not_le, not_or, not_and, Classical.not_not] at h11
    have h11 : ownersNo l = 0 := h11
    have hall : ∀ o ∈ l.l, ownNo o = 0 := owns_parts _ (by
      unfold ownersNo at h11
      split at h11
      · cases h11
      · exact h11)
    refine T_skip_go (fun _ _ h => h) ?_
    refine T_seq ?_
    refine T_block ?_
    refine T_seq ?_
    refine T_region ?_
    refine S_ 14 rfl rfl rfl _ (y_move rfl rfl) ?_
    refine S_ 15 rfl rfl rfl _ (y_bin rfl rfl rfl (fun _ => b_eqls)) ?_
    refine S_ 13 rfl rfl rfl _ (y_assign rfl rfl) ?_
    refine S_go (fun _ _ h => h) ?_
    refine T_cond rfl (fun h13 => ?_) (fun h13 => ?_)
    · try simp only [decide_eq_true_eq, decide_eq_false_iff_not, Bool.or_eq_true, Bool.or_eq_false_iff, Bool.and_eq_true, Bool.and_eq_false_iff, Bool.not_eq_true', Bool.not_eq_false', Bool.not_eq_true, Bool.not_eq_false, Bool.not_true, Bool.not_false, Int.not_lt, Int.not_le, not_or, not_and, Classical.not_not] at h13
      refine T_seq ?_
      refine T_region ?_
      refine S_nilSlice 4 (e := 9) (size := 1) ?_
      refine S_ 4 rfl rfl rfl _ (y_assign rfl rfl) ?_
      refine S_ 5 rfl rfl rfl _ (y_assign rfl rfl) ?_
      refine S_go (fun _ _ h => h) ?_
      refine T_ret (fun a w hF hM => hRb a w (post2 rfl rfl rfl (fun w hM => ?_) a w hF hM))
      have hr : owRes l path = (1, []) := by rw [owRes, if_neg (by simp [h11]), if_pos h13]
      rw [hr]
      exact ⟨none, 0, rfl, nilR, hM.below⟩
    · try simp only [decide_eq_true_eq, decide_eq_false_iff_not, Bool.or_eq_true, Bool.or_eq_false_iff, Bool.and_eq_true, Bool.and_eq_false_iff, Bool.not_eq_true', Bool.not_eq_false', Bool.not_eq_true, Bool.not_eq_false, Bool.not_true, Bool.not_false, Int.not_lt, Int.not_le, not_or, not_and, Classical.not_not] at h13
      refine T_seq ?_
      refine T_region ?_
      refine S_ 17 rfl rfl rfl _ (y_move rfl rfl) ?_
      refine S_ 18 rfl rfl rfl _ (y_len_str rfl rfl Tryd.underlying9) ?_
      refine S_ 19 rfl rfl rfl _ (y_bin rfl rfl rfl (fun _ => b_gtr)) ?_
      refine S_ 16 rfl rfl rfl _ (y_assign rfl rfl) ?_
      refine S_go (fun _ _ h => h) ?_
      refine T_cond rfl (fun h16 => ?_) (fun h16 => ?_)
      · try simp only [decide_eq_true_eq, decide_eq_false_iff_not, Bool.or_eq_true, Bool.or_eq_false_iff, Bool.and_eq_true, Bool.and_eq_false_iff, Bool.not_eq_true', Bool.not_eq_false', Bool.not_eq_true, Bool.not_eq_false, Bool.not_true, Bool.not_false, Int.not_lt, Int.not_le, not_or, not_and, Classical.not_not] at h16
        refine T_seq ?_
        refine T_region ?_
        refine S_nilSlice 4 (e := 9) (size := 1) ?_
        refine S_ 4 rfl rfl rfl _ (y_assign rfl rfl) ?_
        refine S_ 5 rfl rfl rfl _ (y_assign rfl rfl) ?_
        refine S_go (fun _ _ h => h) ?_
        refine T_ret (fun a w hF hM => hRb a w (post2 rfl rfl rfl (fun w hM => ?_) a w hF hM))
        have hr : owRes l path = (4, []) := by rw [owRes, if_neg (by simp [h11]), if_neg h13, if_pos (by omega)]
        rw [hr]
        exact ⟨none, 0, rfl, nilR, hM.below⟩
      · try simp only [decide_eq_true_eq, decide_eq_false_iff_not, Bool.or_eq_true, Bool.or_eq_false_iff, Bool.and_eq_true, Bool.and_eq_false_iff, Bool.not_eq_true', Bool.not_eq_false', Bool.not_eq_true, Bool.not_eq_false, Bool.not_true, Bool.not_false, Int.not_lt, Int.not_le, not_or, not_and, Classical.not_not] at h16
        refine T_skip_go (fun _ _ h => h) ?_
        refine T_seq ?_
        refine T_seq ?_
        refine T_region ?_
        refine S_ 20 rfl rfl rfl _ (y_move rfl rfl) ?_
        refine S_ 21 rfl rfl rfl _ (y_len_slice rfl rfl Tryd.underlying22) ?_
        refine S_ 22 rfl rfl rfl _ (y_bin rfl rfl rfl (fun hg => b_sub (by omega))) ?_
        refine S_ 7 rfl rfl rfl _ (y_assign rfl rfl) ?_
        refine S_go (fun _ _ h => h) ?_
        refine T_block ?_
        refine T_loopK1 (kf := [(4, 5), (7, 7), (23, 39)]) (kl := [(4, 5), (7, 7), (23, 39)]) (fun (t : Nat) => [(7, true, .int .i64 (((t : Nat) : Int) - 1))]) (fun (t : Nat) => []) (fun (t : Nat) => t ≤ l.q ∧ lastFit path l.l l.q = lastFit path l.l t) (fun (t : Nat) => t) l.q (by repeat (first | exact kf_nil | (apply kf_in; focus rfl) | (apply kf_out; focus rfl))) (by repeat (first | exact kl_nil | exact kl_rest (by assumption) rfl | (apply kl_in; focus rfl) | (apply kl_out; focus rfl))) ?_ ?_ ?_ ?_
        · exact ⟨Nat.le_refl _, rfl⟩
        · exact ⟨rfl, trivial⟩
        · exact trivial
        rintro t ⟨hp1, hp2⟩
        refine T_seq ?_
        refine T_seq ?_
        refine T_region ?_
        refine S_ 23 rfl rfl rfl _ (y_move rfl rfl) ?_
        refine S_ 24 rfl rfl rfl _ (y_bin rfl rfl rfl (fun _ => b_geq)) ?_
        refine S_go (fun _ _ h => h) ?_
        refine T_cond rfl (fun h24 => ?_) (fun h24 => ?_)
        · try simp only [decide_eq_true_eq, decide_eq_false_iff_not, Bool.or_eq_true, Bool.or_eq_false_iff, Bool.and_eq_true, Bool.and_eq_false_iff, Bool.not_eq_true', Bool.not_eq_false', Bool.not_eq_true, Bool.not_eq_false, Bool.not_true, Bool.not_false, Int.not_lt, Int.not_le, not_or, not_and, Classical.not_not] at h24
          obtain ⟨k, rfl⟩ : ∃ k, t = k + 1 := ⟨t - 1, by omega⟩
          obtain ⟨x, hx1, _⟩ := ht.at (i := k) (by omega)
          obtain ⟨hxp, hxw⟩ := own_parts (hall x (mem_at hx1))
          have hxo := hl.n x (mem_at hx1)
          rw [lastFit, hx1] at hp2
          simp only at hp2
          rw [show Value.int IntKind.i64 (((k + 1 : Nat) : Int) - 1) = .int .i64 ((k : Nat) : Int) from by congr 1; omega]
          refine T_skip_go (fun _ _ h => h) ?_
          refine T_seq ?_
          refine T_block ?_
          refine T_seq ?_
          refine T_region ?_
          refine S_ 27 rfl rfl rfl _ (y_move rfl rfl) ?_
          refine S_ 28 rfl rfl rfl _ (y_move rfl rfl) ?_
          refine S_ 29 rfl rfl rfl _ (y_indexAddr rfl rfl rfl Tryd.underlying22 sz89 (fun hg => ht.isSome (by omega)) (fun _ => by omega)) ?_
          refine S_ 30 rfl rfl rfl _ (y_fieldEl rfl rfl ht.rd (fun _ => by omega) fa89_0) ?_
          refine S_ 31 rfl rfl rfl _ (y_load_fT rfl rfl ht (fun _ => rfl) (fun _ => hx1) rfl Tryd.underlying9 rfl) ?_
          refine S_ 32 rfl rfl rfl _ (y_move rfl rfl) ?_
          refine S_ 33 rfl rfl rfl _ (y_call rfl rfl rfl cf19 (fun _ w _ => Fits_any x.p path (by omega) (by omega) w)) ?_
          refine S_go (fun _ _ h => h) ?_
          refine T_cond rfl (fun h33 => ?_) (fun h33 => ?_)
          · skip
            rw [if_pos h33] at hp2
            refine T_seq ?_
            refine T_region ?_
            refine S_ 34 rfl rfl rfl _ (y_move rfl rfl) ?_
            refine S_ 35 rfl rfl rfl _ (y_move rfl rfl) ?_
            refine S_ 36 rfl rfl rfl _ (y_indexAddr rfl rfl rfl Tryd.underlying22 sz89 (fun hg => ht.isSome (by omega)) (fun _ => by omega)) ?_
            refine S_ 37 rfl rfl rfl _ (y_fieldEl rfl rfl ht.rd (fun _ => by omega) fa89_1) ?_
            refine S_ 38 rfl rfl rfl _ (y_load_fT rfl rfl ht (fun _ => rfl) (fun _ => hx1) rfl Tryd.underlying25 rfl) ?_
            refine S_callOwn 39 39 rfl rfl rfl rfl rfl rfl rfl cf66 (fun A c => .slice A (x.w.q) c) 9 1 (x.w.q) (x.w.l.flatMap strE) (fun w hM => CloneStr_any x.w.A x.w.q x.w.c x.w.l w (hxo.w.t.below hM.below) (by omega)) ?_
            intro A39 c39
            refine S_ 4 rfl rfl rfl _ (y_assign rfl rfl) ?_
            refine S_ 5 rfl rfl rfl _ (y_assign rfl rfl) ?_
            refine S_go (fun _ _ h => h) ?_
            refine T_ret (fun a w hF hM => hRb a w (post2 rfl rfl rfl (fun w hM => ?_) a w hF hM))
            have hr : owRes l path = (0, x.w.l) := by rw [owRes, if_neg (by simp [h11]), if_neg h13, if_neg (by omega), hp2]
            have hxl := hxo.w.t.len
            rw [hr]
            show ∃ A c, Ending.returned (.tuple #[.slice A39 x.w.q c39, .int .i64 0]) = .returned (.tuple #[.slice A x.w.l.length c, .int .i64 0]) ∧ _
            rw [hxl]
            exact ⟨A39, c39, rfl, hM.sat 39 _ rfl, hM.below⟩
          · skip
            rw [if_neg (by rw [h33]; exact Bool.false_ne_true)] at hp2
            refine T_skip_go (fun _ _ h => h) ?_
            refine T_region ?_
            refine S_ 25 rfl rfl rfl _ (y_move rfl rfl) ?_
            refine S_ 26 rfl rfl rfl _ (y_bin rfl rfl rfl (fun hg => b_sub (by omega))) ?_
            refine S_ 7 rfl rfl rfl _ (y_assign rfl rfl) ?_
            refine S_nil (nextK1 (kf := [(4, 5), (7, 7), (23, 39)]) (kl := [(4, 5), (7, 7), (23, 39)]) k (by repeat (first | exact kf_nil | (apply kf_in; focus rfl) | (apply kf_out; focus rfl))) (by repeat (first | exact kl_nil | exact kl_rest (by assumption) rfl | (apply kl_in; focus rfl) | (apply kl_out; focus rfl))) ?_ ?_ ?_ ?_)
            · omega
            · exact ⟨by omega, hp2⟩
            · exact ⟨rfl, trivial⟩
            · exact trivial
        · try simp only [decide_eq_true_eq, decide_eq_false_iff_not, Bool.or_eq_true, Bool.or_eq_false_iff, Bool.and_eq_true, Bool.and_eq_false_iff, Bool.not_eq_true', Bool.not_eq_false', Bool.not_eq_true, Bool.not_eq_false, Bool.not_true, Bool.not_false, Int.not_lt, Int.not_le, not_or, not_and, Classical.not_not] at h24
          have ht0 : t = 0 := by omega
          subst ht0
          refine T_exit_go (fun _ _ h => h) ?_
          refine T_seq ?_
          refine T_region ?_
          refine S_nilSlice 4 (e := 9) (size := 1) ?_
          refine S_ 4 rfl rfl rfl _ (y_assign rfl rfl) ?_
          refine S_ 5 rfl rfl rfl _ (y_assign rfl rfl) ?_
          refine S_go (fun _ _ h => h) ?_
          refine T_ret (fun a w hF hM => hRb a w (post2 rfl rfl rfl (fun w hM => ?_) a w hF hM))
          have hr : owRes l path = (7, []) := by rw [owRes, if_neg (by simp [h11]), if_neg h13, if_neg (by omega), hp2]; rfl
          rw [hr]
          exact ⟨none, 0, rfl, nilR, hM.below⟩
end Go.Proofs.YtoeipmepmlikcaaDoor
