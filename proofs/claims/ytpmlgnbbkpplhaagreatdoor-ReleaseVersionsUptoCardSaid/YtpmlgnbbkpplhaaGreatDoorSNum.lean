/- Numbers as texts: Itoa, plainNumber, whole; the table of powers of ten. Conditions: those of each theorem. -/
import Derived.Test.YtpmlgnbbkpplhaaGreatDoorRVer
import Derived.Test.YtpmlgnbbkpplhaaGreatDoorESum
import Derived.Test.YtpmlgnbbkpplhaaGreatDoorSit
import Derived.Lib.ItoaLen
namespace Go.Proofs.YtpmlgnbbkpplhaaGreatDoor
set_option linter.unusedSimpArgs false
set_option linter.unusedVariables false
set_option maxRecDepth 20000
open Go.RowKit Go.Eng
/-- the table of powers of ten lies there -/
def P10 (w : World) : Prop := Lib.TabIs Tryz.prog w "internal/strconv.uint64pow10" .u64 Lib.pow10Tab ∧ 3 < w.heap.size
theorem P10.below {w w' : World} (h : P10 w) (hb : Below w.heap.size w w') : P10 w' := by
  refine ⟨?_, Nat.lt_of_lt_of_le h.2 hb.size⟩
  have e : Tryz.prog.globalNamed "internal/strconv.uint64pow10" = some 3 := by kernel_rfl
  have h1 := h.1
  unfold Lib.TabIs World.var? at h1 ⊢
  rw [e] at h1 ⊢
  simp only [Option.bind_some] at h1 ⊢
  rw [hb.block _ h.2]; exact h1
theorem below_grow0 (w : World) (k : Nat) (os : Array Obj) : Below w.heap.size w (Sort.grow (w.drewN k) os) :=
  ⟨rfl, rfl, rfl, by show w.heap.size ≤ (w.heap ++ os).size; simp, fun j hj => by show (w.heap ++ os)[j]? = w.heap[j]?; rw [Array.getElem?_append, if_pos hj]⟩
theorem Itoa_any (n : Int) (h0 : -9223372036854775808 ≤ n) (h1 : n ≤ 9223372036854775807) (w : World) (hP : P10 w) :
    Calls Tryz.prog 90 #[.int .i64 n] w fun e w' => e = .returned (str (Lib.itoa n)) ∧ Below w.heap.size w w' :=
  (Any.strconv_Itoa Tryz.laysM171 n h0 h1 w hP.1).mono fun e w' ⟨h, k, os, hw⟩ => ⟨h, hw ▸ below_grow0 w k os⟩
theorem TrimDig_any (s : List UInt8) (hs : s.length ≤ 1000000000) (w : World) : Calls Tryz.prog 84 #[str s, str digB] w fun e w' => e = .returned (str (Lib.trimS s digB)) ∧ Below w.heap.size w w' :=
  Any.strings_Trim_laid Tryz.lays160 (by kernel_rfl) ⟨s.toArray⟩ ⟨digB.toArray⟩ w (by rw [Lib.size_eq]; simp; omega) (by decide) (ascii_of_all (by decide))
def plainOk (s : List UInt8) (k : Nat) : Bool := !(decide (s = []) || decide ((k : Int) < s.length) || (decide ((1 : Int) < s.length) && decide (((s.getD 0 0).toNat : Int) = 48)) || !decide (Lib.trimS s digB = []))
def plainJ (s : List UInt8) (k : Nat) : Nat := if plainOk s k = true then valD s else 0
theorem plain_parts {s : List UInt8} {k : Nat} (h : plainOk s k = true) : s ≠ [] ∧ s.length ≤ k ∧ ∀ c ∈ s, 48 ≤ c.toNat ∧ c.toNat ≤ 57 := by
  simp only [plainOk, Bool.not_eq_true', Bool.or_eq_false_iff, decide_eq_false_iff_not, Bool.not_eq_false', decide_eq_true_eq] at h
  obtain ⟨⟨⟨h1, h2⟩, _⟩, h3⟩ := h
  exact ⟨h1, by omega, fun c hc => digB_iff (trimS_nil h3 c hc)⟩
theorem zero_one {s : List UInt8} (h : s ≠ []) : (decide (((s.getD 0 0).toNat : Int) = 48) && !decide (s = [48])) = (decide ((1 : Int) < s.length) && decide (((s.getD 0 0).toNat : Int) = 48)) := by
  cases s with
  | nil => exact absurd rfl h
  | cons a r =>
    cases r with
    | nil =>
      simp only [List.getD_cons_zero, List.length_cons, List.length_nil, List.cons.injEq, and_true]
      by_cases ha : a = 48
      · subst ha; simp
      · have : ¬ ((a.toNat : Nat) : Int) = 48 := fun e => ha (UInt8.toNat_inj.1 (show a.toNat = 48 by omega))
        simp [ha, this]
    | cons b t =>
      have : (1 : Int) < ((a :: b :: t).length : Nat) := by simp only [List.length_cons]; omega
      rw [decide_eq_true this, decide_eq_false (show ¬ a :: b :: t = [48] by simp)]
      cases decide ((((a :: b :: t).getD 0 0).toNat : Int) = 48) <;> rfl
theorem whole_any (s : List UInt8) (k : Nat) (hk : k ≤ 18) (hs : s.length ≤ 1000000000) (w : World) :
    Calls Tryz.prog 195 #[str s, .int .i64 (k : Int)] w fun e w' => e = .returned (.tuple #[.int .i64 ((plainJ s k : Nat) : Int), .bool (plainOk s k)]) ∧ Below w.heap.size w w' := by
  refine enter_args (args := [str s, .int .i64 (k : Int)]) (F := _) Tryz.func195 rfl Tryz.ntmps195 rfl rfl ?_
  intro Rb hRb hRn
  refine T_seq ?_
  refine T_region ?_
  refine S_ 4 rfl rfl rfl _ (y_assign rfl rfl) ?_
  refine S_ 5 rfl rfl rfl _ (y_assign rfl rfl) ?_
  refine S_go (fun _ _ h => h) ?_
  refine T_seq ?_
  refine T_seq ?_
  refine T_region ?_
  refine S_ 8 rfl rfl rfl _ (y_move rfl rfl) ?_
  refine S_ 9 rfl rfl rfl _ (y_bin rfl rfl rfl (fun _ => b_eqls)) ?_
  refine S_ 10 rfl rfl rfl _ (y_move rfl rfl) ?_
  refine Sg_ 11 rfl rfl rfl rfl rfl rfl _ (y_move rfl rfl) ?_
  refine Sg_ 12 rfl rfl rfl rfl rfl rfl _ (y_len_str rfl rfl Tryz.underlying9) ?_
  refine Sg_ 13 rfl rfl rfl rfl rfl rfl _ (y_move rfl rfl) ?_
  refine Sg_ 14 rfl rfl rfl rfl rfl rfl _ (y_bin rfl rfl rfl (fun _ => b_gtr)) ?_
  refine S_ 15 rfl rfl rfl _ (y_or rfl rfl rfl) ?_
  refine S_ 16 rfl rfl rfl _ (y_move rfl rfl) ?_
  refine Sg_ 17 rfl rfl rfl rfl rfl rfl _ (y_move rfl rfl) ?_
  refine Sg_ 18 rfl rfl rfl rfl rfl rfl _ (y_call rfl rfl rfl cf84 (fun _ w _ => TrimDig_any s hs w)) ?_
  refine Sg_ 19 rfl rfl rfl rfl rfl rfl _ (y_bin rfl rfl rfl (fun _ => b_neqs)) ?_
  refine S_ 20 rfl rfl rfl _ (y_or rfl rfl rfl) ?_
  refine S_ 21 rfl rfl rfl _ (y_move rfl rfl) ?_
  refine Sg_ 22 rfl rfl rfl rfl rfl rfl _ (y_move rfl rfl) ?_
  refine Sg_ 23 rfl rfl rfl rfl rfl rfl _ (y_index_str (j := 0) rfl rfl rfl Tryz.underlying9 (fun hg => List.length_pos_iff.2 (by simp at hg; exact hg.1.1))) ?_
  refine Sg_ 24 rfl rfl rfl rfl rfl rfl _ (y_bin rfl rfl rfl (fun _ => b_eql)) ?_
  refine Sg_ 25 rfl rfl rfl rfl rfl rfl _ (y_move rfl rfl) ?_
  refine Sg_ 26 rfl rfl rfl rfl rfl rfl _ (y_move rfl rfl) ?_
  refine Sg_ 27 rfl rfl rfl rfl rfl rfl _ (y_bin rfl rfl rfl (fun _ => b_neqs)) ?_
  refine Sg_ 28 rfl rfl rfl rfl rfl rfl _ (y_and rfl rfl rfl) ?_
  refine S_ 29 rfl rfl rfl _ (y_as (v' := .bool (!plainOk s k)) (by exact congrArg Value.bool (by
    rw [plainOk, Bool.not_not]
    by_cases h : s = []
    · subst h; simp
    · rw [← zero_one h]
      cases decide (s = []) <;> cases decide ((k : Int) < s.length) <;> cases (decide (((s.getD 0 0).toNat : Int) = 48) && !decide (s = [48])) <;> cases decide (Lib.trimS s digB = []) <;> rfl)) (y_or rfl rfl rfl)) ?_
  refine S_go (fun _ _ h => h) ?_
  refine T_cond rfl (fun h29 => ?_) (fun h29 => ?_)
  · skip
    have hn : plainOk s k = false := by simpa using h29
    refine T_seq ?_
    refine T_region ?_
    refine S_ 4 rfl rfl rfl _ (y_assign rfl rfl) ?_
    refine S_ 5 rfl rfl rfl _ (y_assign rfl rfl) ?_
    refine S_go (fun _ _ h => h) ?_
    refine T_ret (fun a w hF hM => hRb a w (post2 rfl rfl rfl (fun w hM => ?_) a w hF hM))
    exact ⟨by rw [plainJ, hn]; rfl, hM.below⟩
  · skip
    have hn : plainOk s k = true := by simpa using h29
    have hd := plain_parts hn
    refine T_skip_go (fun _ _ h => h) ?_
    refine T_seq ?_
    refine T_region ?_
    refine S_ 31 rfl rfl rfl _ (y_move rfl rfl) ?_
    refine S_ 32 rfl rfl rfl _ (y_call rfl rfl rfl cf199 (fun _ w _ => Atoi_any s hd.1 (by omega) hd.2.2 w)) ?_
    refine S_ 30 rfl rfl rfl _ (y_move rfl rfl) ?_
    refine S_ 33 rfl rfl rfl _ (y_extract rfl rfl rfl) ?_
    refine S_ 34 rfl rfl rfl _ (y_extract rfl rfl rfl) ?_
    refine S_ 6 rfl rfl rfl _ (y_assign rfl rfl) ?_
    refine S_ 7 rfl rfl rfl _ (y_assign rfl rfl) ?_
    refine S_go (fun _ _ h => h) ?_
    refine T_seq ?_
    refine T_draws (by kernel_rfl) (by kernel_rfl) ?_
    refine D_ 35 rfl rfl rfl _ (y_move rfl rfl) ?_
    refine D_ 36 rfl rfl rfl _ (y_move rfl rfl) ?_
    refine D_ 37 rfl rfl rfl _ (y_bin rfl rfl rfl (fun _ => b_eqlII Tryz.underlying202)) ?_
    refine D_ 4 rfl rfl rfl _ (y_assign rfl rfl) ?_
    refine D_ 5 rfl rfl rfl _ (y_assign rfl rfl) ?_
    refine D_go (fun _ _ h => h) ?_
    refine T_ret (fun a w hF hM => hRb a w (post2 rfl rfl rfl (fun w hM => ?_) a w hF hM))
    exact ⟨by rw [plainJ, hn]; rfl, hM.below⟩
end Go.Proofs.YtpmlgnbbkpplhaaGreatDoor
