/- Part 4, merged by a program. The reference's lower, and FitsText. Condition: the lengths are bounded. Events are compared, and what is asked of one: Same, Tag, Levels, and the reference's. Conditions: those of each theorem. What is made plain is right where the condition was, is plain, is no greater, and holds for the same. Plain trees; no program in sight. Events that are right are small, and what a leaf of a condition asks of an event. No program in sight. find.plain and find.Plain: the plain form, in new memory. Conditions: the condition is right. find.Same. Conditions: those of the theorem. A function value that asks something of what it is given, kept for all later worlds; whether one of a list is such. Conditions: those of each theorem. -/
import Derived.Test.YtfmbgaaonfgenaaDoorByw
import Derived.Test.YtfmbgaaonfgenaaDoorBxr
import Derived.Test.YtfmbgaaonfgenaaDoorCopy
import Derived.Test.YtfmbgaaonfgenaaDoorUnb
import Derived.Test.YtfmbgaaonfgenaaDoorHere
import Derived.Test.YtfmbgaaonfgenaaDoorPk3
section
namespace Go.Proofs.YtfmbgaaonfgenaaDoor
set_option linter.unusedSimpArgs false
set_option linter.unusedVariables false
set_option maxRecDepth 20000
open Go.RowKit Go.Eng
theorem bytesV_len (l : List UInt8) : (bytesV l).length = l.length := by simp [bytesV]
theorem low_set {s : List UInt8} {i : Nat} (h : i < s.length) : (bytesV ((s.take i).map lowB ++ s.drop i)).set i (.int .u8 ((lowN (s.getD i 0).toNat : Nat) : Int)) = bytesV ((s.take (i + 1)).map lowB ++ s.drop (i + 1)) := by
  have h1 : s.drop i = s.getD i 0 :: s.drop (i + 1) := by
    rw [List.drop_eq_getElem_cons h, List.getD_eq_getElem?_getD, List.getElem?_eq_getElem h]; rfl
  have h2 : s.take (i + 1) = s.take i ++ [s.getD i 0] := by
    rw [List.getD_eq_getElem?_getD, List.getElem?_eq_getElem h, List.take_succ_eq_append_getElem h]; rfl
  rw [h1, h2, bytesV, bytesV, List.map_append, List.map_cons, List.map_append, List.map_append, List.map_append]
  rw [List.set_append_right _ _ (by simp; omega)]
  simp [Nat.min_eq_left (Nat.le_of_lt h), lowB_nat]
theorem low_at {s : List UInt8} {i : Nat} (h : i < s.length) : (bytesV ((s.take i).map lowB ++ s.drop i))[i]? = some (.int .u8 (((s.getD i 0).toNat : Nat) : Int)) := by
  have h1 : s.drop i = s.getD i 0 :: s.drop (i + 1) := by
    rw [List.drop_eq_getElem_cons h, List.getD_eq_getElem?_getD, List.getElem?_eq_getElem h]; rfl
  rw [h1, bytesV, List.getElem?_map, List.getElem?_append_right (by simp; omega)]
  simp [Nat.min_eq_left (Nat.le_of_lt h)]
theorem low_len (s : List UInt8) (i : Nat) : ((s.take i).map lowB ++ s.drop i).length = s.length := by simp; omega
theorem low_end {s : List UInt8} {i : Nat} (h : s.length ≤ i) : (s.take i).map lowB ++ s.drop i = s.map lowB := by
  rw [List.take_of_length_le h, List.drop_eq_nil_of_le h, List.append_nil]
end Go.Proofs.YtfmbgaaonfgenaaDoor
end
section
namespace Go.Proofs.YtfmbgaaonfgenaaDoor
set_option linter.unusedSimpArgs false
set_option linter.unusedVariables false
set_option maxRecDepth 20000
open Go.RowKit Go.Eng
/-- the value of a tag -/
def tagV (n : List UInt8) : List STag → List UInt8 × Bool
  | [] => ([], false)
  | t :: r => if t.n = n then (t.v, true) else tagV n r
theorem Tag_any (e : Evt) (n : List UInt8) (w : World) (he : e.Ok w) :
    Calls Tryd.prog 45 #[e.val, str n] w fun en w' => en = .returned (.tuple #[str (tagV n e.ta.l).1, .bool (tagV n e.ta.l).2]) ∧ Below w.heap.size w w' := by
  have ht := he.ta.ok.t
  have hq := he.ta.q
  refine enter_args (args := [.agg #[str e.id, .int .i64 e.at_, .int .i64 e.lv, .slice e.fa.A e.fa.q e.fa.c, .slice e.ta.A e.ta.q e.ta.c, .slice e.cr.A e.cr.q e.cr.c, str e.rel, str e.us, .int .i64 e.wt], str n]) (F := _) Tryd.func45 rfl Tryd.ntmps45 rfl rfl ?_
  intro Rb hRb hRn
  refine T_seq ?_
  refine T_region ?_
  refine S_box 2 2 rfl rfl rfl rfl rfl ?_
  intro b2
  refine S_ 4 rfl rfl rfl _ (y_assign rfl rfl) ?_
  refine S_ 5 rfl rfl rfl _ (y_assign rfl rfl) ?_
  refine S_go (fun _ _ h => h) ?_
  refine T_seq ?_
  refine T_seq ?_
  refine T_region ?_
  refine S_ 8 rfl rfl rfl _ (y_fieldAddr rfl rfl fa35_4) ?_
  refine S_ 9 rfl rfl rfl _ (y_load 2 rfl rfl rfl rfl Tryd.underlying32 rfl) ?_
  refine S_ 10 rfl rfl rfl _ (y_len_slice rfl rfl Tryd.underlying32) ?_
  refine S_ 11 rfl rfl rfl _ (y_move rfl rfl) ?_
  refine S_go (fun _ _ h => h) ?_
  refine T_block ?_
  refine T_loopK1 (kf := [(4, 5), (7, 7), (11, 21)]) (kl := [(4, 5), (7, 7), (11, 21)]) (fun (i : Nat) => [(11, true, .int .i64 (i : Int))]) (fun (i : Nat) => []) (fun (i : Nat) => i ≤ e.ta.q ∧ tagV n e.ta.l = tagV n (e.ta.l.drop i)) (fun (i : Nat) => e.ta.q - i) 0 (by repeat (first | exact kf_nil | (apply kf_in; focus rfl) | (apply kf_out; focus rfl))) (by repeat (first | exact kl_nil | exact kl_rest (by assumption) rfl | (apply kl_in; focus rfl) | (apply kl_out; focus rfl))) ?_ ?_ ?_ ?_
  · exact ⟨by omega, rfl⟩
  · exact ⟨rfl, trivial⟩
  · exact trivial
  rintro i ⟨hp1, hp2⟩
  refine T_seq ?_
  refine T_region ?_
  refine S_ 12 rfl rfl rfl _ (y_bin rfl rfl rfl (fun _ => b_lss)) ?_
  refine S_go (fun _ _ h => h) ?_
  refine T_seq ?_
  refine T_cond rfl (fun h12 => ?_) (fun h12 => ?_)
  · try simp only [decide_eq_true_eq, decide_eq_false_iff_not, Bool.or_eq_true, Bool.or_eq_false_iff, Bool.and_eq_true, Bool.and_eq_false_iff, Bool.not_eq_true', Bool.not_eq_false', Bool.not_eq_true, Bool.not_eq_false, Bool.not_true, Bool.not_false, Int.not_lt, Int.not_le, not_or, not_and, Classical.not_not] at h12
    obtain ⟨x, hx1, hx2⟩ := ht.at (i := i) (by omega)
    refine T_skip_go (fun _ _ h => h) ?_
    refine T_seq ?_
    refine T_block ?_
    refine T_seq ?_
    refine T_region ?_
    refine S_ 13 rfl rfl rfl _ (y_indexAddr rfl rfl rfl Tryd.underlying32 sz87 (fun hg => ht.isSome (by omega)) (fun _ => by omega)) ?_
    refine S_ 14 rfl rfl rfl _ (y_loadT rfl rfl ht (fun _ => rfl) (fun _ => hx1) Tryd.underlying87 rfl sz87) ?_
    refine S_alloc 7 7 rfl rfl rfl rfl z87 ?_
    intro b7
    refine S_store 7 rfl rfl rfl rfl rfl rfl sz87 rfl rfl ?_
    refine S_go (fun _ _ h => h) ?_
    refine T_seq ?_
    refine T_region ?_
    refine S_ 15 rfl rfl rfl _ (y_fieldAddr rfl rfl fa87_0) ?_
    refine S_ 16 rfl rfl rfl _ (y_load 7 rfl rfl rfl rfl Tryd.underlying9 rfl) ?_
    refine S_ 17 rfl rfl rfl _ (y_move rfl rfl) ?_
    refine S_ 18 rfl rfl rfl _ (y_bin rfl rfl rfl (fun _ => b_eqls)) ?_
    refine S_go (fun _ _ h => h) ?_
    refine T_cond rfl (fun h18 => ?_) (fun h18 => ?_)
    · try simp only [decide_eq_true_eq, decide_eq_false_iff_not, Bool.or_eq_true, Bool.or_eq_false_iff, Bool.and_eq_true, Bool.and_eq_false_iff, Bool.not_eq_true', Bool.not_eq_false', Bool.not_eq_true, Bool.not_eq_false, Bool.not_true, Bool.not_false, Int.not_lt, Int.not_le, not_or, not_and, Classical.not_not] at h18
      refine T_seq ?_
      refine T_region ?_
      refine S_ 19 rfl rfl rfl _ (y_fieldAddr rfl rfl fa87_1) ?_
      refine S_ 20 rfl rfl rfl _ (y_load 7 rfl rfl rfl rfl Tryd.underlying9 rfl) ?_
      refine S_ 4 rfl rfl rfl _ (y_assign rfl rfl) ?_
      refine S_ 5 rfl rfl rfl _ (y_assign rfl rfl) ?_
      refine S_go (fun _ _ h => h) ?_
      refine T_ret (fun a w hF hM => hRb a w (post2 rfl rfl rfl (fun w hM => ?_) a w hF hM))
      exact ⟨by rw [hp2, hx2, tagV, if_pos h18], hM.below⟩
    · try simp only [decide_eq_true_eq, decide_eq_false_iff_not, Bool.or_eq_true, Bool.or_eq_false_iff, Bool.and_eq_true, Bool.and_eq_false_iff, Bool.not_eq_true', Bool.not_eq_false', Bool.not_eq_true, Bool.not_eq_false, Bool.not_true, Bool.not_false, Int.not_lt, Int.not_le, not_or, not_and, Classical.not_not] at h18
      refine T_skip_go (fun _ _ h => h) ?_
      refine T_region ?_
      refine S_ 21 rfl rfl rfl _ (y_bin rfl rfl rfl (fun hg => b_add (by omega))) ?_
      refine S_ 11 rfl rfl rfl _ (y_move rfl rfl) ?_
      refine S_nil (nextK1 (kf := [(4, 5), (7, 7), (11, 21)]) (kl := [(4, 5), (7, 7), (11, 21)]) (i + 1) (by repeat (first | exact kf_nil | (apply kf_in; focus rfl) | (apply kf_out; focus rfl))) (by repeat (first | exact kl_nil | exact kl_rest (by assumption) rfl | (apply kl_in; focus rfl) | (apply kl_out; focus rfl))) ?_ ?_ ?_ ?_)
      · omega
      · exact ⟨by omega, by rw [hp2, hx2, tagV, if_neg h18]⟩
      · exact ⟨rfl, trivial⟩
      · exact trivial
  · try simp only [decide_eq_true_eq, decide_eq_false_iff_not, Bool.or_eq_true, Bool.or_eq_false_iff, Bool.and_eq_true, Bool.and_eq_false_iff, Bool.not_eq_true', Bool.not_eq_false', Bool.not_eq_true, Bool.not_eq_false, Bool.not_true, Bool.not_false, Int.not_lt, Int.not_le, not_or, not_and, Classical.not_not] at h12
    refine T_exit_go (fun _ _ h => h) ?_
    refine T_seq ?_
    refine T_region ?_
    refine S_ 4 rfl rfl rfl _ (y_assign rfl rfl) ?_
    refine S_ 5 rfl rfl rfl _ (y_assign rfl rfl) ?_
    refine S_go (fun _ _ h => h) ?_
    refine T_ret (fun a w hF hM => hRb a w (post2 rfl rfl rfl (fun w hM => ?_) a w hF hM))
    exact ⟨by rw [hp2, ht.end (by omega)]; rfl, hM.below⟩
end Go.Proofs.YtfmbgaaonfgenaaDoor
end
section
namespace Go.Proofs.YtfmbgaaonfgenaaDoor
set_option linter.unusedSimpArgs false
set_option linter.unusedVariables false
set_option maxRecDepth 20000
open Go.RowKit Go.Eng
/-! ### Right -/
def condN (txt : List UInt8 → Int) (nm : List UInt8 → Bool) (c : PC) : Int := if deepP 20 c = true then 13 else if (100 : Int) < sizeP c 100 then 4 else chkP (chdNo txt nm) c
theorem chkL_zero {hd : Int → Nat → Int → Int → List UInt8 → List UInt8 → Int} : ∀ {l : List PC}, chkL hd l = 0 ↔ ∀ k ∈ l, chkP hd k = 0
  | [] => by simp [chkL]
  | a :: r => by
    rw [chkL]
    by_cases h : chkP hd a = 0
    · rw [if_neg (by simp [h]), chkL_zero]
      exact ⟨fun h2 k hk => by
        rcases List.mem_cons.1 hk with rfl | hk
        · exact h
        · exact h2 k hk, fun h2 k hk => h2 k (List.mem_cons_of_mem _ hk)⟩
    · rw [if_pos h]
      exact ⟨fun h2 => absurd h2 h, fun h2 => h2 a List.mem_cons_self⟩
theorem chkP_zero {hd : Int → Nat → Int → Int → List UInt8 → List UInt8 → Int} {op lo hi : Int} {kids : List PC} {n t : List UInt8} : chkP hd (.mk op kids lo hi n t) = 0 ↔ hd op kids.length lo hi n t = 0 ∧ ∀ k ∈ kids, chkP hd k = 0 := by
  rw [chkP]
  by_cases h : hd op kids.length lo hi n t = 0
  · rw [if_neg (by simp [h]), chkL_zero]; simp [h]
  · rw [if_pos h]; simp [h]
section
variable {txt : List UInt8 → Int} {nm : List UInt8 → Bool} {op lo hi : Int} {nk nk' : Nat} {n t : List UInt8}
theorem head_ar (h : chdNo txt nm op nk lo hi n t = 0) : (1 ≤ op ∧ op ≤ 14) ∧ (0 < nk → op ≤ 3) ∧ (op = 1 ∨ op = 2 → 2 ≤ nk) ∧ (op = 3 → nk = 1) := by
  unfold chdNo at h
  split at h
  · cases h
  rename_i h1
  split at h
  · cases h
  rename_i h2
  split at h
  · cases h
  rename_i h3
  simp only [inB, Bool.not_eq_false', Bool.or_eq_true, Bool.and_eq_true, decide_eq_true_eq, not_or, Bool.not_eq_true', Bool.or_eq_false_iff, decide_eq_false_iff_not, grpB, not_and, Bool.not_eq_false, Bool.not_eq_true, Classical.not_not] at h1 h2 h3
  refine ⟨by omega, fun hk => ?_, fun ho => ?_, fun ho => ?_⟩
  · have := h2.1.1.1 hk; omega
  · have := h3.1 ho; omega
  · exact h3.2 ho
theorem head_kids (ho : op = 1 ∨ op = 2) (h1 : 2 ≤ nk) (h2 : 2 ≤ nk') : chdNo txt nm op nk lo hi n t = chdNo txt nm op nk' lo hi n t := by
  unfold chdNo
  rw [decide_eq_true (show 0 < nk by omega), decide_eq_true (show 0 < nk' by omega), decide_eq_false (show ¬ nk < 2 by omega), decide_eq_false (show ¬ nk' < 2 by omega), decide_eq_false (show ¬ op = 3 by omega)]
  simp only [Bool.false_and]
end
/-! ### Plain -/
def flatK (op : Int) (k : PC) : List PC := if joinB op k = true then k.kids else [k]
theorem plainL_eq (op : Int) : ∀ (l out : List PC), plainL op l out = out ++ l.flatMap fun k => flatK op (plainP k)
  | [], out => by simp [plainL]
  | k :: r, out => by
    rw [plainL, plainL_eq op r, List.flatMap_cons, addK, flatK]
    split <;> simp
inductive NF : PC → Prop where
  | mk {op lo hi : Int} {kids : List PC} {n t : List UInt8} (h1 : ∀ k ∈ kids, NF k) (h2 : ∀ k ∈ kids, joinB op k = false) (h3 : ¬ (op = 3 ∧ (kids.getD 0 pc0).op = 3)) : NF (.mk op kids lo hi n t)
theorem NF.kid {c k : PC} (h : NF c) (hk : k ∈ c.kids) : NF k := by
  cases h with
  | mk h1 _ _ => exact h1 k hk
theorem NF.join {c k : PC} (h : NF c) (hk : k ∈ c.kids) : joinB c.op k = false := by
  cases h with
  | mk _ h2 _ => exact h2 k hk
theorem NF.not {c : PC} (h : NF c) : ¬ (c.op = 3 ∧ (c.kids.getD 0 pc0).op = 3) := by
  cases h with
  | mk _ _ h3 => exact h3
theorem flat_same {op : Int} {l : List PC} (h1 : ∀ k ∈ l, plainP k = k) (h2 : ∀ k ∈ l, joinB op k = false) : (l.flatMap fun k => flatK op (plainP k)) = l := by
  induction l with
  | nil => rfl
  | cons a r ih =>
    rw [List.flatMap_cons, ih (fun k hk => h1 k (List.mem_cons_of_mem _ hk)) fun k hk => h2 k (List.mem_cons_of_mem _ hk), h1 a List.mem_cons_self, flatK, if_neg (by rw [h2 a List.mem_cons_self]; exact Bool.false_ne_true)]
    rfl
/-- what is plain stays -/
theorem plain_nf (c : PC) : NF c → plainP c = c := by
  refine PC.ind (Q := fun c => NF c → plainP c = c) (fun c ih h => ?_) c
  cases h with
  | mk h1 h2 h3 =>
    simp only [PC.kids] at ih
    rw [plainP, plainL_eq, List.nil_append, flat_same (fun k hk => ih k hk (h1 k hk)) h2, finP, if_neg h3]
/-- what the plain form of a right condition is -/
structure PlainOk (hd : Int → Nat → Int → Int → List UInt8 → List UInt8 → Int) (c p : PC) : Prop where
  ok : chkP hd p = 0
  nf : NF p
  cnt : cntP p ≤ cntP c
  dep : depP p ≤ depP c
  holds : ∀ lf, holdsP lf p = holdsP lf c
theorem cntL_flat {op : Int} : ∀ {l : List PC}, (∀ k ∈ l, cntP (plainP k) ≤ cntP k) → cntL (l.flatMap fun k => flatK op (plainP k)) ≤ cntL l
  | [], _ => Nat.le_refl _
  | a :: r, h => by
    have app : ∀ x y : List PC, cntL (x ++ y) = cntL x + cntL y := fun x y => by
      induction x with
      | nil => simp [cntL]
      | cons b s ih => rw [List.cons_append, cntL, ih, cntL]; omega
    rw [List.flatMap_cons, app, cntL]
    have h1 := h a List.mem_cons_self
    have h2 := cntL_flat (op := op) fun k hk => h k (List.mem_cons_of_mem _ hk)
    have h3 : cntL (flatK op (plainP a)) ≤ cntP (plainP a) := by
      unfold flatK
      split
      · cases plainP a; simp only [PC.kids, cntP]; omega
      · simp only [cntL]; omega
    omega
theorem flat_mem {op : Int} {l : List PC} {x : PC} (h : x ∈ l.flatMap fun k => flatK op (plainP k)) : ∃ k ∈ l, x ∈ flatK op (plainP k) := List.mem_flatMap.1 h
theorem flatK_dep {op : Int} {k x : PC} (h : x ∈ flatK op k) : depP x ≤ depP k := by
  unfold flatK at h
  split at h
  · exact Nat.le_of_lt (depP_kid h)
  · rw [List.mem_singleton.1 h]; exact Nat.le_refl _
theorem chk_kid {hd : Int → Nat → Int → Int → List UInt8 → List UInt8 → Int} {c k : PC} (h : chkP hd c = 0) (hk : k ∈ c.kids) : chkP hd k = 0 := by
  cases c
  exact (chkP_zero.1 h).2 k hk
theorem getD0 {l : List PC} (h : l.length = 1) : ∃ k, l = [k] := by
  match l, h with
  | [k], _ => exact ⟨k, rfl⟩
theorem holds_op1 (lf : PC → Bool) {c : PC} (h : c.op = 1) : holdsP lf c = c.kids.all (holdsP lf) := by
  cases c
  have h : _ = (1 : Int) := h
  subst h
  rw [holdsP, if_pos rfl, holdsA_all]; rfl
theorem holds_op2 (lf : PC → Bool) {c : PC} (h : c.op = 2) : holdsP lf c = c.kids.any (holdsP lf) := by
  cases c
  have h : _ = (2 : Int) := h
  subst h
  rw [holdsP, if_neg (by decide), if_pos rfl, holdsO_any]; rfl
theorem plain_ok (txt : List UInt8 → Int) (nm : List UInt8 → Bool) (c : PC) : chkP (chdNo txt nm) c = 0 → PlainOk (chdNo txt nm) c (plainP c) := by
  refine PC.ind (Q := fun c => chkP (chdNo txt nm) c = 0 → PlainOk (chdNo txt nm) c (plainP c)) (fun c ih h => ?_) c
  obtain ⟨op, kids, lo, hi, n, t⟩ := c
  obtain ⟨h0, hk⟩ := chkP_zero.1 h
  have hK : ∀ k ∈ kids, PlainOk (chdNo txt nm) k (plainP k) := fun k hx => ih k hx (hk k hx)
  obtain ⟨a1, a2, a3, a4⟩ := head_ar h0
  rw [plainP, plainL_eq, List.nil_append]
  have hcnt := cntL_flat (op := op) (l := kids) fun k hx => (hK k hx).cnt
  have hokF : ∀ x ∈ (kids.flatMap fun k => flatK op (plainP k)), chkP (chdNo txt nm) x = 0 ∧ NF x ∧ joinB op x = false ∧ depP x ≤ depL kids := fun x hx => by
    obtain ⟨k, hx1, hx2⟩ := flat_mem hx
    have hp := hK k hx1
    have hd1 := flatK_dep hx2
    have hd2 := hp.dep
    have hd3 := depL_mem hx1
    unfold flatK at hx2
    split at hx2
    · rename_i hj
      refine ⟨chk_kid hp.ok hx2, hp.nf.kid hx2, ?_, by omega⟩
      have hj2 := hp.nf.join hx2
      have : (plainP k).op = op := by simp only [joinB, Bool.and_eq_true, decide_eq_true_eq] at hj; exact hj.2
      rwa [this] at hj2
    · rename_i hj
      rw [List.mem_singleton.1 hx2]
      exact ⟨hp.ok, hp.nf, by simpa using hj, by omega⟩
  by_cases h3 : op = 3
  · subst h3
    obtain ⟨k, rfl⟩ := getD0 (a4 rfl)
    have hp := hK k List.mem_cons_self
    have e : ([k].flatMap fun k => flatK 3 (plainP k)) = [plainP k] := by simp [flatK, joinB]
    rw [e, finP]
    by_cases hn : (plainP k).op = 3
    · rw [if_pos ⟨rfl, hn⟩]
      show PlainOk _ _ ((plainP k).kids.getD 0 pc0)
      have ho : (plainP k).kids.length = 1 := by
        have h1 := hp.ok
        revert h1 hn
        cases plainP k with
        | mk op' kids' lo' hi' n' t' =>
          intro hn h1
          exact (head_ar (chkP_zero.1 h1).1).2.2.2 hn
      obtain ⟨z, hz⟩ := getD0 ho
      rw [hz]
      have hzm : z ∈ (plainP k).kids := by rw [hz]; exact List.mem_cons_self
      refine ⟨chk_kid hp.ok hzm, hp.nf.kid hzm, ?_, ?_, fun lf => ?_⟩
      · show cntP z ≤ _
        have h1 := hp.cnt
        have h2 : cntP z ≤ cntP (plainP k) := by
          revert hzm
          cases plainP k with
          | mk op' kids' lo' hi' n' t' =>
            intro hzm
            rw [cntP]
            have : ∀ l : List PC, z ∈ l → cntP z ≤ cntL l := fun l => by
              induction l with
              | nil => intro h; cases h
              | cons b s ih => intro h; rw [cntL]; rcases List.mem_cons.1 h with rfl | h
                               · omega
                               · have := ih h; omega
            have := this kids' hzm
            omega
        rw [cntP, cntL, cntL]; omega
      · show depP z ≤ _
        have h1 := depP_kid hzm
        have h2 := hp.dep
        rw [depP, depL, depL]; omega
      · show holdsP lf z = _
        rw [holdsP, if_neg (by decide), if_neg (by decide), if_pos rfl, holdsF, ← hp.holds lf]
        revert hn hz
        cases plainP k with
        | mk op' kids' lo' hi' n' t' =>
          intro hn hz
          have hn : op' = 3 := hn
          have hz : kids' = [z] := hz
          subst hn; subst hz
          rw [holdsP, if_neg (by decide), if_neg (by decide), if_pos rfl, holdsF, Bool.not_not]
    · rw [if_neg (fun h => hn h.2)]
      refine ⟨chkP_zero.2 ⟨h0, fun x hx => by rw [List.mem_singleton.1 hx]; exact hp.ok⟩, .mk (fun x hx => by rw [List.mem_singleton.1 hx]; exact hp.nf) (fun x hx => by simp [joinB]) (fun h => hn h.2), ?_, ?_, fun lf => ?_⟩
      · have := hp.cnt; rw [cntP, cntL, cntL, cntP, cntL, cntL]; omega
      · have := hp.dep; rw [depP, depL, depL, depP, depL, depL]; omega
      · rw [holdsP, holdsP, if_neg (by decide), if_neg (by decide), if_pos rfl, if_neg (by decide), if_neg (by decide), if_pos rfl, holdsF, holdsF, hp.holds]
  · rw [finP, if_neg (fun h => h3 h.1)]
    have hdep : depL (kids.flatMap fun k => flatK op (plainP k)) ≤ depL kids := depL_le fun x hx => (hokF x hx).2.2.2
    by_cases h12 : op = 1 ∨ op = 2
    · have hlen : 2 ≤ (kids.flatMap fun k => flatK op (plainP k)).length := by
        have : ∀ l : List PC, (∀ k ∈ l, PlainOk (chdNo txt nm) k (plainP k)) → l.length ≤ (l.flatMap fun k => flatK op (plainP k)).length := fun l => by
          induction l with
          | nil => intro _; exact Nat.le_refl _
          | cons b s ihl =>
            intro hl
            rw [List.flatMap_cons, List.length_append, List.length_cons]
            have h1 := ihl fun k hk => hl k (List.mem_cons_of_mem _ hk)
            have h2 : 1 ≤ (flatK op (plainP b)).length := by
              unfold flatK
              split
              · rename_i hj
                have hb := (hl b List.mem_cons_self).ok
                have : (plainP b).op = op := by simp only [joinB, Bool.and_eq_true, decide_eq_true_eq] at hj; exact hj.2
                revert hb this
                cases plainP b with
                | mk op' kids' lo' hi' n' t' =>
                  intro hb he
                  have he : op' = op := he
                  have := (head_ar (chkP_zero.1 hb).1).2.2.1 (by omega)
                  show 1 ≤ kids'.length
                  omega
              · exact Nat.le_refl _
            omega
        have h1 := this kids hK
        have h2 := a3 h12
        omega
      refine ⟨chkP_zero.2 ⟨by rw [← head_kids h12 (a3 h12) hlen]; exact h0, fun x hx => (hokF x hx).1⟩, .mk (fun x hx => (hokF x hx).2.1) (fun x hx => (hokF x hx).2.2.1) (fun h => h3 h.1), by rw [cntP, cntP]; omega, by rw [depP, depP]; omega, fun lf => ?_⟩
      rcases h12 with rfl | rfl
      · have e : ∀ l : List PC, (∀ k ∈ l, PlainOk (chdNo txt nm) k (plainP k)) → (l.flatMap fun k => flatK 1 (plainP k)).all (holdsP lf) = l.all (holdsP lf) := fun l => by
          induction l with
          | nil => intro _; rfl
          | cons b s ihl =>
            intro hl
            rw [List.flatMap_cons, List.all_append, List.all_cons, ihl fun k hk => hl k (List.mem_cons_of_mem _ hk), ← (hl b List.mem_cons_self).holds lf]
            congr 1
            unfold flatK
            split
            · rename_i hj
              rw [holds_op1 lf (by simp only [joinB, Bool.and_eq_true, decide_eq_true_eq] at hj; exact hj.2)]
            · simp
        rw [holds_op1 lf rfl, holds_op1 lf rfl]; exact e kids hK
      · have e : ∀ l : List PC, (∀ k ∈ l, PlainOk (chdNo txt nm) k (plainP k)) → (l.flatMap fun k => flatK 2 (plainP k)).any (holdsP lf) = l.any (holdsP lf) := fun l => by
          induction l with
          | nil => intro _; rfl
          | cons b s ihl =>
            intro hl
            rw [List.flatMap_cons, List.any_append, List.any_cons, ihl fun k hk => hl k (List.mem_cons_of_mem _ hk), ← (hl b List.mem_cons_self).holds lf]
            congr 1
            unfold flatK
            split
            · rename_i hj
              rw [holds_op2 lf (by simp only [joinB, Bool.and_eq_true, decide_eq_true_eq] at hj; exact hj.2)]
            · simp
        rw [holds_op2 lf rfl, holds_op2 lf rfl]; exact e kids hK
    · have hkn : kids = [] := by
        cases kids with
        | nil => rfl
        | cons a r => have := a2 (by simp); omega
      subst hkn
      exact ⟨h, .mk (fun x hx => by cases hx) (fun x hx => by cases hx) (fun h => h3 h.1), Nat.le_refl _, Nat.le_refl _, fun lf => rfl⟩
theorem condN_zero {txt : List UInt8 → Int} {nm : List UInt8 → Bool} {c : PC} : condN txt nm c = 0 ↔ depP c ≤ 20 ∧ cntP c ≤ 100 ∧ chkP (chdNo txt nm) c = 0 := by
  unfold condN
  have h1 := deepP_iff 20 c
  have h2 := sizeP_eq c 100 (by decide)
  by_cases hd : deepP 20 c = true
  · rw [if_pos hd]
    have := h1.1 hd
    exact ⟨fun h => absurd h (by decide), fun h => by omega⟩
  · rw [if_neg hd]
    have h3 : depP c ≤ 20 := by
      refine Classical.byContradiction fun h => hd (h1.2 (by omega))
    by_cases hs : (100 : Int) < sizeP c 100
    · rw [if_pos hs]
      exact ⟨fun h => absurd h (by decide), fun h => by omega⟩
    · rw [if_neg hs]
      exact ⟨fun h => ⟨h3, by omega, h⟩, fun h => h.2.2⟩
/-- the plain form of a right condition is right, and plain -/
theorem plain_right {txt : List UInt8 → Int} {nm : List UInt8 → Bool} {c : PC} (h : condN txt nm c = 0) : condN txt nm (plainP c) = 0 ∧ plainP (plainP c) = plainP c ∧ ∀ lf, holdsP lf (plainP c) = holdsP lf c := by
  obtain ⟨h1, h2, h3⟩ := condN_zero.1 h
  have hp := plain_ok txt nm c h3
  exact ⟨condN_zero.2 ⟨Nat.le_trans hp.dep h1, Nat.le_trans hp.cnt h2, hp.ok⟩, plain_nf _ hp.nf, hp.holds⟩
end Go.Proofs.YtfmbgaaonfgenaaDoor
end
section
namespace Go.Proofs.YtfmbgaaonfgenaaDoor
set_option linter.unusedSimpArgs false
set_option linter.unusedVariables false
set_option maxRecDepth 20000
open Go.RowKit Go.Eng
theorem fst_0F {a b : Int} (h : fst a b = 0) : a = 0 ∧ b = 0 := by
  unfold fst at h
  split at h
  · exact absurd h ‹_›
  · exact ⟨by omega, h⟩
theorem flts_smallF : ∀ l : List Flt, fltsNo l = 0 → ∀ f ∈ l, fltNo f = 0
  | [], _ => fun f h => by simp at h
  | a :: r, h => fun f hf => by
    rw [fltsNo] at h
    by_cases ha : fltNo a = 0
    · rw [if_neg (by simpa using ha)] at h
      rcases List.mem_cons.1 hf with rfl | h1
      · exact ha
      · exact flts_smallF r h f h1
    · rw [if_pos ha] at h; exact absurd h ha
theorem frms_smallF : ∀ l : List Frm, frmsNo l = 0 → ∀ f ∈ l, frmNo f = 0
  | [], _ => fun f h => by simp at h
  | a :: r, h => fun f hf => by
    rw [frmsNo] at h
    by_cases ha : frmNo a = 0
    · rw [if_neg (by simpa using ha)] at h
      rcases List.mem_cons.1 hf with rfl | h1
      · exact ha
      · exact frms_smallF r h f h1
    · rw [if_pos ha] at h; exact absurd h ha
structure FltS (f : Flt) : Prop where
  k : f.k.length ≤ 2000
  t : f.t.length ≤ 2000
  fr : ∀ x ∈ f.fr.l, x.f.length ≤ 2000 ∧ x.fi.length ≤ 2000
structure EvS (e : Evt) : Prop where
  rel : e.rel.length ≤ 2000
  us : e.us.length ≤ 2000
  ta : ∀ t ∈ e.ta.l, t.v.length ≤ 2000
  fa : ∀ f ∈ e.fa.l, FltS f
theorem frm_small {x : Frm} (h : frmNo x = 0) : x.f.length ≤ 2000 ∧ x.fi.length ≤ 2000 := by
  have hw : wordsNo x.m x.f x.fi = 0 := by
    unfold frmNo at h
    by_cases hw : wordsNo x.m x.f x.fi = 0
    · exact hw
    · rw [if_pos hw] at h; exact absurd h hw
  unfold wordsNo at hw
  split at hw
  · cases hw
  · rename_i hb
    simp only [Bool.or_eq_true, decide_eq_true_eq, not_or] at hb
    omega
theorem flt_small {f : Flt} (h : fltNo f = 0) : FltS f := by
  unfold fltNo at h
  split at h
  · cases h
  rename_i h1
  split at h
  · cases h
  split at h
  · cases h
  by_cases h2 : sayNo f.t = 0
  · rw [if_neg (by simpa using h2)] at h
    refine ⟨by omega, ?_, fun x hx => ?_⟩
    · unfold sayNo at h2
      split at h2
      · cases h2
      · omega
    · unfold framesNo at h
      split at h
      · cases h
      · exact frm_small (frms_smallF _ h x hx)
  · rw [if_pos h2] at h; exact absurd h h2
theorem tags_small : ∀ (l : List STag) (p : Option (List UInt8)), tagsNo p l = 0 → ∀ t ∈ l, t.v.length ≤ 2000
  | [], _, _ => fun t h => by simp at h
  | a :: r, p, h => fun t ht => by
    rw [tagsNo] at h
    split at h
    · cases h
    split at h
    · cases h
    by_cases hv : valNo a.v = 0
    · rw [if_neg (by simpa using hv)] at h
      rcases List.mem_cons.1 ht with rfl | h1
      · unfold valNo at hv
        split at hv
        · cases hv
        · omega
      · exact tags_small r _ h t h1
    · rw [if_pos hv] at h; exact absurd h hv
theorem ev_small {e : Evt} (h : evNo e = 0) : EvS e := by
  unfold evNo at h
  obtain ⟨_, h⟩ := fst_0F h
  obtain ⟨h1, h⟩ := fst_0F h
  obtain ⟨h2, h⟩ := fst_0F h
  obtain ⟨_, h⟩ := fst_0F h
  split at h
  · cases h
  rename_i hr
  obtain ⟨h3, _⟩ := fst_0F h
  refine ⟨?_, ?_, ?_, ?_⟩
  · simp only [Bool.and_eq_true, Bool.not_eq_true', decide_eq_false_iff_not, not_and, Bool.not_eq_false] at hr
    by_cases he : e.rel = []
    · rw [he]; simp
    · have := hr he
      unfold nameOk at this
      simp only [Bool.and_eq_true, decide_eq_true_eq] at this
      omega
  · unfold valNo at h3
    split at h3
    · cases h3
    · omega
  · split at h2
    · cases h2
    · exact tags_small _ _ h2
  · unfold faultsNo at h1
    split at h1
    · cases h1
    split at h1
    · cases h1
    · exact fun f hf => flt_small (flts_smallF _ h1 f hf)
theorem tagV_small {n : List UInt8} : ∀ {l : List STag}, (∀ t ∈ l, t.v.length ≤ 2000) → (tagV n l).1.length ≤ 2000
  | [], _ => by simp [tagV]
  | a :: r, h => by
    rw [tagV]
    split
    · exact h a List.mem_cons_self
    · exact tagV_small fun t ht => h t (List.mem_cons_of_mem _ ht)
/-- what a leaf asks of an event -/
def lfB (e : Evt) (c : PC) : Bool :=
  if c.op = 4 then inB e.lv c.lo c.hi
  else if c.op = 5 then inB e.at_ c.lo c.hi
  else if c.op = 6 then inB e.wt c.lo c.hi
  else if c.op = 7 ∨ c.op = 8 then (tagV c.name e.ta.l).2 && (decide (c.op = 8) || gm eqL c.text (tagV c.name e.ta.l).1)
  else if c.op = 9 then !decide (e.rel = []) && gm eqL c.text e.rel
  else if c.op = 10 then !decide (e.us = []) && gm eqL c.text e.us
  else if c.op = 11 then e.fa.l.any fun f => gm eqL c.text f.k
  else if c.op = 12 then e.fa.l.any fun f => Lib.contains (f.t.map lowB) (c.text.map lowB)
  else if c.op = 13 then e.fa.l.any fun f => f.fr.l.any fun x => gm eqL c.text x.f
  else e.fa.l.any fun f => f.fr.l.any fun x => gm eqL c.text x.fi
abbrev hoX (e : Evt) (x : SC) : Bool := holdsP (lfB e) x.says
theorem ho1 {e : Evt} {x : SC} (h : x.op = 1) : hoX e x = x.kids.all (hoX e) := by
  show holdsP _ x.says = _
  rw [SC.says_form, holdsP, if_pos h, holdsA_all, List.all_map]; rfl
theorem ho2 {e : Evt} {x : SC} (h : x.op = 2) : hoX e x = x.kids.any (hoX e) := by
  show holdsP _ x.says = _
  rw [SC.says_form, holdsP, if_neg (by omega), if_pos h, holdsO_any, List.any_map]; rfl
theorem ho3 {e : Evt} {x k : SC} (h : x.op = 3) (hk : x.kids = [k]) : hoX e x = !hoX e k := by
  show holdsP _ x.says = _
  rw [SC.says_form, holdsP, if_neg (by omega), if_neg (by omega), if_pos h, hk, List.map_cons, holdsF]
theorem hoL {e : Evt} {x : SC} (h : 4 ≤ x.op) : hoX e x = lfB e (.mk x.op [] x.lo x.hi x.nm x.tx) := by
  show holdsP _ x.says = _
  rw [SC.says_form, holdsP, if_neg (by omega), if_neg (by omega), if_neg (by omega)]
section
variable {e : Evt} {x : SC}
theorem ho4 (h : x.op = 4) : hoX e x = inB e.lv x.lo x.hi := by rw [hoL (by omega), h]; rfl
theorem ho5 (h : x.op = 5) : hoX e x = inB e.at_ x.lo x.hi := by rw [hoL (by omega), h]; rfl
theorem ho6 (h : x.op = 6) : hoX e x = inB e.wt x.lo x.hi := by rw [hoL (by omega), h]; rfl
theorem ho7 (h : x.op = 7 ∨ x.op = 8) : hoX e x = ((tagV x.nm e.ta.l).2 && (decide (x.op = 8) || gm eqL x.tx (tagV x.nm e.ta.l).1)) := by
  rw [hoL (by omega)]
  rcases h with h | h <;> rw [h] <;> rfl
theorem ho9 (h : x.op = 9) : hoX e x = (!decide (e.rel = []) && gm eqL x.tx e.rel) := by rw [hoL (by omega), h]; rfl
theorem ho10 (h : x.op = 10) : hoX e x = (!decide (e.us = []) && gm eqL x.tx e.us) := by rw [hoL (by omega), h]; rfl
theorem ho11 (h : x.op = 11) : hoX e x = e.fa.l.any fun f => gm eqL x.tx f.k := by rw [hoL (by omega), h]; rfl
theorem ho12 (h : x.op = 12) : hoX e x = e.fa.l.any fun f => Lib.contains (f.t.map lowB) (x.tx.map lowB) := by rw [hoL (by omega), h]; rfl
theorem ho13 (h : x.op = 13) : hoX e x = e.fa.l.any fun f => f.fr.l.any fun y => gm eqL x.tx y.f := by rw [hoL (by omega), h]; rfl
theorem ho14 (h : x.op = 14) : hoX e x = e.fa.l.any fun f => f.fr.l.any fun y => gm eqL x.tx y.fi := by rw [hoL (by omega), h]; rfl
end
/-- a right condition is small -/
theorem ch_kids {x k : SC} (h : chX x = 0) (hk : k ∈ x.kids) : chX k = 0 :=
  chk_kid (c := x.says) h (by rw [SC.says_kids]; exact List.mem_map_of_mem hk)
theorem ch_head {x : SC} (h : chX x = 0) : hdX x = 0 := by
  refine Classical.byContradiction fun hn => ?_
  rw [chX_def, if_pos hn] at h
  exact hn h
theorem ch_ar {x : SC} (h : chX x = 0) : (1 ≤ x.op ∧ x.op ≤ 14) ∧ (0 < x.kids.length → x.op ≤ 3) ∧ (x.op = 1 ∨ x.op = 2 → 2 ≤ x.kids.length) ∧ (x.op = 3 → x.kids.length = 1) := head_ar (ch_head h)
theorem ch_text {x : SC} (h : chX x = 0) : x.tx.length ≤ 200 := by
  have h := ch_head h
  rw [hd_def] at h
  split at h
  · cases h
  split at h
  · cases h
  rename_i h1
  split at h
  · cases h
  split at h
  · cases h
  split at h
  · cases h
  split at h
  · cases h
  split at h
  · unfold txtNo at h
    split at h
    · cases h
    split at h
    · cases h
    omega
  · rename_i hw
    simp only [f1B, Bool.or_eq_true, Bool.and_eq_true, not_or, not_and, Bool.not_eq_true', decide_eq_false_iff_not] at h1
    have := h1.2
    by_cases ht : x.tx = []
    · rw [ht]; simp
    · have h2 := this ht
      exact absurd (by simpa using h2) hw
end Go.Proofs.YtfmbgaaonfgenaaDoor
end
section
namespace Go.Proofs.YtfmbgaaonfgenaaDoor
set_option linter.unusedSimpArgs false
set_option linter.unusedVariables false
set_option maxRecDepth 20000
open Go.RowKit Go.Eng
structure PlR where
  sc : SC
  rs : List Row
structure PlOk (w0 : World) (rs : List Row) (c : PC) (z : PlR) : Prop where
  says : z.sc.says = c
  more : ∀ r ∈ rs, r ∈ z.rs
  ok : Sees w0 z.rs fun w => z.sc.Ok w
def sc0 : SC := .mk 0 none 0 0 [] 0 0 [] []
def PlainAt (x : SC) : Prop := ∀ {w0 : World} {K : HL} (_ : FromK K) (rs : List Row) (w : World), (Sees w0 rs fun w => x.Ok w) → chX x = 0 → cntP x.says ≤ 100 → Mem w0 ([(900, .many rs)] ++ K) w →
    Calls Tryd.prog 10 #[x.val] w fun e w' => ∃ z : PlR, e = .returned z.sc.val ∧ PlOk w0 rs (plainP x.says) z ∧ Mem w0 ([(900, .many z.rs)] ++ K) w'
theorem cntP_formP (x : SC) : cntP x.says = cntL (x.kids.map SC.says) + 1 := by rw [SC.says_form, cntP]
theorem len_cnt : ∀ l : List PC, l.length ≤ cntL l
  | [] => Nat.le_refl _
  | a :: r => by have h1 := cntP_pos a; have h2 := len_cnt r; rw [cntL, List.length_cons]; omega
theorem cntL_app : ∀ l m : List PC, cntL (l ++ m) = cntL l + cntL m
  | [], m => by simp [cntL]
  | a :: r, m => by rw [List.cons_append, cntL, cntL_app r m, cntL]; omega
theorem cntL_memP : ∀ {l : List SC} {k : SC}, k ∈ l → cntP k.says ≤ cntL (l.map SC.says)
  | a :: r, k, h => by
    rw [List.map_cons, cntL]
    rcases List.mem_cons.1 h with rfl | h
    · omega
    · have := cntL_memP h; omega
theorem says_op (x : SC) : x.says.op = x.op := by rw [SC.says_form]; rfl
theorem hd_at {ks : List SC} (h : ∃ k, ks = [k]) : ks[0]? = some (ks.headD sc0) := by
  obtain ⟨k, rfl⟩ := h; rfl
theorem T_knownP {P : Program} {w0 : World} {n : Nat} {c : Code} {F : FL} {L : HL} {Q : Exit → Act → World → Prop} {p : Prop} (hp : ∀ w, Mem w0 L w → p) (h : p → T P w0 n c F L Q) : T P w0 n c F L Q := fun a w hF hM => h (hp w hM) a w hF hM
theorem kids_one {x : SC} (h : x.kids.length = 1) : ∃ k, x.kids = [k] := by
  match hx : x.kids, h with
  | [k], _ => exact ⟨k, rfl⟩
theorem ok_of {k : SC} {c : PC} (h : chkP (chdNo txtNo nameOk) c = 0) (hs : k.says = c) : chX k = 0 := by
  show chkP _ k.says = 0
  rw [hs]; exact h
set_option maxHeartbeats 3200000 in
theorem plain_step (x : SC) (ih : ∀ k ∈ x.kids, PlainAt k) : PlainAt x := by
  intro w0 K hK rs w hok h0 hcnt hM0
  obtain ⟨hs, hq, hb80, hn, htl, -⟩ := (hok.at hM0 900 rfl).parts
  have hst : SlT SC.enc 6 w x.ad x.q x.kids := hs.t
  have hlen := hst.len
  have hcf := cntP_formP x
  obtain ⟨ar1, ar2, ar3, ar4⟩ := ch_ar h0
  have hsome : 0 < x.q → x.ad.isSome = true := fun h => hst.isSome h
  have hpl := plain_ok txtNo nameOk
  refine enterM_args (args := [.agg #[.int .i64 x.op, .slice x.ad x.q x.c, .int .i64 x.lo, .int .i64 x.hi, str x.nm, str x.tx]]) (F := _) hM0 Tryd.func10 rfl Tryd.ntmps10 rfl rfl ?_
  intro Rb hRb hRn
  refine T_seq ?_
  refine T_region ?_
  refine S_box 1 1 rfl rfl rfl rfl rfl ?_
  intro b1
  refine S_alloc 2 2 rfl rfl rfl rfl z24 ?_
  intro b2
  refine S_go (fun _ _ h => h) ?_
  refine T_seq ?_
  refine T_region ?_
  refine S_ 6 rfl rfl rfl _ (y_fieldAddr rfl rfl fa24_1) ?_
  refine S_ 7 rfl rfl rfl _ (y_load 1 rfl rfl rfl rfl Tryd.underlying22 rfl) ?_
  refine S_ 3 rfl rfl rfl _ (y_assign rfl rfl) ?_
  refine S_go (fun _ _ h => h) ?_
  refine T_seq ?_
  refine T_region ?_
  refine S_nilSlice 906 (e := 24) (size := 6) ?_
  refine S_ 8 rfl rfl rfl _ (y_fieldAddr rfl rfl fa24_1) ?_
  refine S_store 1 rfl rfl rfl rfl rfl rfl sz22 rfl rfl ?_
  refine S_go (fun _ _ h => h) ?_
  refine T_seq ?_
  refine T_seq ?_
  refine T_region ?_
  refine S_ 9 rfl rfl rfl _ (y_move rfl rfl) ?_
  refine S_ 10 rfl rfl rfl _ (y_len_slice rfl rfl Tryd.underlying22) ?_
  refine S_ 11 rfl rfl rfl _ (y_move rfl rfl) ?_
  refine S_go (fun _ _ h => h) ?_
  refine T_block ?_
  refine T_loopK5 (kf := [(5, 5), (11, 44)]) (kl := [(1, 1), (5, 5), (11, 44), (900, 900), (906, 906)]) (fun (i : Nat) (A : Option Addr) (c : Nat) (ks : List SC) (ws : List Row) => [(11, true, .int .i64 (i : Int))]) (fun (i : Nat) (A : Option Addr) (c : Nat) (ks : List SC) (ws : List Row) => [(1, .blk b1 (IsBox [.int .i64 x.op, .slice A ks.length c, .int .i64 x.lo, .int .i64 x.hi, str x.nm, str x.tx] 24)), (906, .own 24 6 (.slice A ks.length c) ks.length (ks.flatMap SC.enc)), (900, .many ws)]) (fun (i : Nat) (A : Option Addr) (c : Nat) (ks : List SC) (ws : List Row) => i ≤ x.q ∧ plainL x.op (x.kids.map SC.says) [] = plainL x.op ((x.kids.drop i).map SC.says) (ks.map SC.says) ∧ cntL (ks.map SC.says) + cntL ((x.kids.drop i).map SC.says) ≤ cntL (x.kids.map SC.says) ∧ (∀ r ∈ rs, r ∈ ws) ∧ (∀ k ∈ ks, Sees w0 ws fun w => k.Ok w) ∧ ∀ k ∈ ks, chX k = 0) (fun (i : Nat) (A : Option Addr) (c : Nat) (ks : List SC) (ws : List Row) => x.q - i) 0 none 0 [] rs (by repeat (first | exact kf_nil | (apply kf_in; focus rfl) | (apply kf_out; focus rfl))) (by repeat (first | exact kl_nil | exact kl_rest (by assumption) rfl | (apply kl_in; focus rfl) | (apply kl_out; focus rfl))) ?_ ?_ ?_ ?_
  · exact ⟨by omega, rfl, by rw [List.drop_zero, List.map_nil, cntL]; omega, fun _ h => h, fun _ h => by simp at h, fun _ h => by simp at h⟩
  · exact ⟨rfl, trivial⟩
  · exact ⟨rfl, rfl, rfl, trivial⟩
  rintro i A c ks ws ⟨hp1, hp2, hp3, hp4, hp5, hp6⟩
  refine T_seq ?_
  refine T_region ?_
  refine S_ 12 rfl rfl rfl _ (y_bin rfl rfl rfl (fun _ => b_lss)) ?_
  refine S_go (fun _ _ h => h) ?_
  refine T_seq ?_
  refine T_cond rfl (fun h12 => ?_) (fun h12 => ?_)
  · try simp only [decide_eq_true_eq, decide_eq_false_iff_not, Bool.or_eq_true, Bool.or_eq_false_iff, Bool.and_eq_true, Bool.and_eq_false_iff, Bool.not_eq_true', Bool.not_eq_false', Bool.not_eq_true, Bool.not_eq_false, Bool.not_true, Bool.not_false, Int.not_lt, Int.not_le, not_or, not_and, Classical.not_not] at h12
    obtain ⟨k, hx1, hx2⟩ := hst.at (i := i) (by omega)
    rw [hx2, List.map_cons, plainL, addK] at hp2
    rw [hx2, List.map_cons, cntL] at hp3
    have hlc := len_cnt (ks.map SC.says)
    rw [List.length_map] at hlc
    refine T_skip_go (fun _ _ h => h) ?_
    refine T_seq ?_
    refine T_block ?_
    refine T_seq ?_
    refine T_region ?_
    refine S_ 13 rfl rfl rfl _ (y_indexAddr rfl rfl rfl Tryd.underlying22 sz24 (fun hg => hsome (by omega)) (fun _ => by omega)) ?_
    refine S_ 14 rfl rfl rfl _ (y_here rfl (fun w1 hM => y_loadT (xe := k) rfl rfl ((hok.more hp4).at hM 900 rfl).parts.1.t (fun _ => rfl) (fun _ => hx1) Tryd.underlying24 rfl sz24)) ?_
    refine S_alloc 5 5 rfl rfl rfl rfl z24 ?_
    intro b5
    refine S_store 5 rfl rfl rfl rfl rfl rfl sz24 rfl rfl ?_
    refine S_go (fun _ _ h => h) ?_
    refine T_seq ?_
    refine T_region ?_
    refine S_ 15 rfl rfl rfl _ (y_loadA 5 rfl rfl rfl Tryd.underlying24 rfl sz24) ?_
    refine S_callM 16 [(900, 900)] (X := PlR) rfl rfl rfl rfl rfl rfl rfl cf10 rfl (fun z => .agg #[.int .i64 z.sc.op, .slice z.sc.ad z.sc.q z.sc.c, .int .i64 z.sc.lo, .int .i64 z.sc.hi, str z.sc.nm, str z.sc.tx]) (PlOk w0 ws (plainP k.says)) (fun z => [(900, .many z.rs)]) (fun _ => rfl) (fun _ => rfl) (fun K hK w hM => ih k (mem_at hx1) hK ws w (fun w hb hr => ((hok.more hp4) w hb hr).kid (mem_at hx1)) (ch_kids h0 (mem_at hx1)) (by have := cntL_memP (mem_at hx1); omega) hM) ?_
    intro z hz
    have hzo := hpl k.says (ch_kids h0 (mem_at hx1))
    refine S_store 5 rfl rfl rfl rfl rfl rfl sz24 rfl rfl ?_
    refine S_go (fun _ _ h => h) ?_
    refine T_seq ?_
    refine T_region ?_
    refine S_ 17 rfl rfl rfl _ (y_fieldAddr rfl rfl fa24_0) ?_
    refine S_ 18 rfl rfl rfl _ (y_load 1 rfl rfl rfl rfl Tryd.underlying3 rfl) ?_
    refine S_ 19 rfl rfl rfl _ (y_bin rfl rfl rfl (fun _ => b_eql)) ?_
    refine S_ 20 rfl rfl rfl _ (y_move rfl rfl) ?_
    refine Sg_ 21 rfl rfl rfl rfl rfl rfl _ (y_fieldAddr rfl rfl fa24_0) ?_
    refine Sg_ 22 rfl rfl rfl rfl rfl rfl _ (y_load 1 rfl rfl rfl rfl Tryd.underlying3 rfl) ?_
    refine Sg_ 23 rfl rfl rfl rfl rfl rfl _ (y_bin rfl rfl rfl (fun _ => b_eql)) ?_
    refine S_ 24 rfl rfl rfl _ (y_or rfl rfl rfl) ?_
    refine S_ 25 rfl rfl rfl _ (y_move rfl rfl) ?_
    refine Sg_ 26 rfl rfl rfl rfl rfl rfl _ (y_fieldAddr rfl rfl fa24_0) ?_
    refine Sg_ 27 rfl rfl rfl rfl rfl rfl _ (y_load 5 rfl rfl rfl rfl Tryd.underlying3 rfl) ?_
    refine Sg_ 28 rfl rfl rfl rfl rfl rfl _ (y_fieldAddr rfl rfl fa24_0) ?_
    refine Sg_ 29 rfl rfl rfl rfl rfl rfl _ (y_load 1 rfl rfl rfl rfl Tryd.underlying3 rfl) ?_
    refine Sg_ 30 rfl rfl rfl rfl rfl rfl _ (y_bin rfl rfl rfl (fun _ => b_eql)) ?_
    refine S_ 31 rfl rfl rfl _ (y_as (v' := .bool (joinB x.op (plainP k.says))) (by exact congrArg Value.bool (by rw [joinB, ← hz.says, says_op])) (y_and rfl rfl rfl)) ?_
    refine S_go (fun _ _ h => h) ?_
    refine T_cond rfl (fun h31 => ?_) (fun h31 => ?_)
    · skip
      rw [if_pos h31] at hp2
      have hzc := hzo.cnt
      rw [← hz.says, cntP_formP] at hzc
      have hzl := len_cnt (z.sc.kids.map SC.says)
      rw [List.length_map] at hzl
      refine T_knownP (p := z.sc.kids.length = z.sc.q) (fun w hM => (hz.ok.at hM 900 rfl).parts.1.t.len) fun hzq => ?_
      refine T_region ?_
      refine S_ 32 rfl rfl rfl _ (y_fieldAddr rfl rfl fa24_1) ?_
      refine S_ 33 rfl rfl rfl _ (y_load 1 rfl rfl rfl rfl Tryd.underlying22 rfl) ?_
      refine S_ 34 rfl rfl rfl _ (y_fieldAddr rfl rfl fa24_1) ?_
      refine S_ 35 rfl rfl rfl _ (y_load 5 rfl rfl rfl rfl Tryd.underlying22 rfl) ?_
      obtain ⟨i36, hi36, hz36, hs36, hy36⟩ := info_parts inf24
      refine S_appendG 36 906 (news := z.sc.kids.flatMap SC.enc) rfl rfl rfl rfl rfl rfl rfl (fun w hM => (hz.ok.at hM 900 rfl).parts.1.t.rd) Tryd.underlying22 hi36 hz36 hs36 hy36 rfl (by decide) (allOne_of (fun u hu => by obtain ⟨a, _, ha⟩ := List.mem_flatMap.1 hu; simp [SC.enc] at ha; rcases ha with rfl | rfl | rfl | rfl | rfl | rfl <;> rfl)) ?_ ?_ (ks.length + z.sc.q) ((ks ++ z.sc.kids).flatMap SC.enc) ?_ ?_ ?_
      · (simp only [maxLen]; omega)
      · omega
      · rfl
      · simp [List.flatMap_append]
      intro A36 c36
      refine S_ 37 rfl rfl rfl _ (y_fieldAddr rfl rfl fa24_1) ?_
      refine S_store 1 rfl rfl rfl rfl rfl rfl sz22 rfl rfl ?_
      refine S_go (fun _ _ h => h) ?_
      refine T_region ?_
      refine S_ 44 rfl rfl rfl _ (y_bin rfl rfl rfl (fun hg => b_add (by omega))) ?_
      refine S_ 11 rfl rfl rfl _ (y_move rfl rfl) ?_
      refine S_nil (nextK5 (kf := [(5, 5), (11, 44)]) (kl := [(1, 1), (5, 5), (11, 44), (900, 900), (906, 906)]) (i + 1) A36 c36 (ks ++ z.sc.kids) z.rs (by repeat (first | exact kf_nil | (apply kf_in; focus rfl) | (apply kf_out; focus rfl))) (by repeat (first | exact kl_nil | exact kl_rest (by assumption) rfl | (apply kl_in; focus rfl) | (apply kl_out; focus rfl))) ?_ ?_ ?_ ?_)
      · omega
      · exact ⟨by omega, by rw [hp2, List.map_append, ← hz.says, SC.says_kids], by rw [List.map_append, cntL_app]; omega, fun r h => hz.more r (hp4 r h), fun k2 hk2 => by
          rcases List.mem_append.1 hk2 with h | h
          · exact (hp5 k2 h).more hz.more
          · exact hz.ok.map fun w h2 => h2.kid h, fun k2 hk2 => by
          rcases List.mem_append.1 hk2 with h | h
          · exact hp6 k2 h
          · exact ch_kids (ok_of hzo.ok hz.says) h⟩
      · exact ⟨rfl, trivial⟩
      · exact ⟨by rw [List.length_append, hzq]; rfl, by rw [List.length_append, hzq]; rfl, rfl, trivial⟩
    · skip
      rw [if_neg (by rw [h31]; simp)] at hp2
      have hzc := hzo.cnt
      rw [← hz.says] at hzc
      refine T_region ?_
      refine S_ 38 rfl rfl rfl _ (y_fieldAddr rfl rfl fa24_1) ?_
      refine S_ 39 rfl rfl rfl _ (y_load 1 rfl rfl rfl rfl Tryd.underlying22 rfl) ?_
      refine S_ 40 rfl rfl rfl _ (y_loadA 5 rfl rfl rfl Tryd.underlying24 rfl sz24) ?_
      refine S_buildSlice 41 41 rfl rfl rfl rfl rfl Tryd.underlying22 inf24 rfl (by decide) (by decide) rfl rfl (by decide) rfl (_) rfl ?_
      intro b41
      obtain ⟨i42, hi42, hz42, hs42, hy42⟩ := info_parts inf24
      refine S_append 42 906 41 rfl rfl rfl rfl rfl rfl rfl rfl Tryd.underlying22 hi42 hz42 hs42 hy42 rfl (by decide) (by decide) rfl ?_ ?_ (_) ((ks ++ [z.sc]).flatMap SC.enc) rfl ?_ ?_
      · (simp only [maxLen]; omega)
      · omega
      · rw [List.flatMap_append]; rfl
      intro A42 c42
      refine S_ 43 rfl rfl rfl _ (y_fieldAddr rfl rfl fa24_1) ?_
      refine S_store 1 rfl rfl rfl rfl rfl rfl sz22 rfl rfl ?_
      refine S_go (fun _ _ h => h) ?_
      refine T_region ?_
      refine S_ 44 rfl rfl rfl _ (y_bin rfl rfl rfl (fun hg => b_add (by omega))) ?_
      refine S_ 11 rfl rfl rfl _ (y_move rfl rfl) ?_
      refine S_nil (nextK5 (kf := [(5, 5), (11, 44)]) (kl := [(1, 1), (5, 5), (11, 44), (900, 900), (906, 906)]) (i + 1) A42 c42 (ks ++ [z.sc]) z.rs (by repeat (first | exact kf_nil | (apply kf_in; focus rfl) | (apply kf_out; focus rfl))) (by repeat (first | exact kl_nil | exact kl_rest (by assumption) rfl | (apply kl_in; focus rfl) | (apply kl_out; focus rfl))) ?_ ?_ ?_ ?_)
      · omega
      · exact ⟨by omega, by rw [hp2, List.map_append, ← hz.says]; rfl, by rw [List.map_append, cntL_app, List.map_cons, List.map_nil, cntL, cntL]; omega, fun r h => hz.more r (hp4 r h), fun k2 hk2 => by
          rcases List.mem_append.1 hk2 with h | h
          · exact (hp5 k2 h).more hz.more
          · rw [List.mem_singleton.1 h]; exact hz.ok, fun k2 hk2 => by
          rcases List.mem_append.1 hk2 with h | h
          · exact hp6 k2 h
          · rw [List.mem_singleton.1 h]; exact ok_of hzo.ok hz.says⟩
      · exact ⟨rfl, trivial⟩
      · exact ⟨by rw [List.length_append]; rfl, by rw [List.length_append]; rfl, rfl, trivial⟩
  · try simp only [decide_eq_true_eq, decide_eq_false_iff_not, Bool.or_eq_true, Bool.or_eq_false_iff, Bool.and_eq_true, Bool.and_eq_false_iff, Bool.not_eq_true', Bool.not_eq_false', Bool.not_eq_true, Bool.not_eq_false, Bool.not_true, Bool.not_false, Int.not_lt, Int.not_le, not_or, not_and, Classical.not_not] at h12
    have hiq : i = x.q := by omega
    rw [hst.end (by omega)] at hp2 hp3
    have hfin : plainL x.op (x.kids.map SC.says) [] = ks.map SC.says := hp2
    have hlc := len_cnt (ks.map SC.says)
    rw [List.length_map] at hlc
    have hks : x.op = 3 → ∃ k, ks = [k] := fun ho => by
      obtain ⟨k0, hk0⟩ := kids_one (ar4 ho)
      rw [hk0, List.map_cons, List.map_nil, plainL, plainL, addK, if_neg (by rw [joinB, ho]; simp)] at hfin
      have hl1 : ks.length = 1 := by have := congrArg List.length hfin; simpa using this.symm
      match ks, hl1 with
      | [k], _ => exact ⟨k, rfl⟩
    have hks0 : x.op = 3 → 0 < ks.length := fun ho => by
      obtain ⟨k, hk⟩ := hks ho
      rw [hk]; simp
    have hsays : plainP x.says = finP x.op (ks.map SC.says) x.lo x.hi x.nm x.tx := by rw [SC.says_form x, plainP, hfin]
    refine T_exit_go (fun _ _ h => h) ?_
    refine T_seq ?_
    refine T_seq ?_
    refine T_region ?_
    refine S_ 45 rfl rfl rfl _ (y_fieldAddr rfl rfl fa24_0) ?_
    refine S_ 46 rfl rfl rfl _ (y_load 1 rfl rfl rfl rfl Tryd.underlying3 rfl) ?_
    refine S_ 47 rfl rfl rfl _ (y_bin rfl rfl rfl (fun _ => b_eql)) ?_
    refine S_ 48 rfl rfl rfl _ (y_move rfl rfl) ?_
    refine Sg_ 49 rfl rfl rfl rfl rfl rfl _ (y_fieldAddr rfl rfl fa24_1) ?_
    refine Sg_ 50 rfl rfl rfl rfl rfl rfl _ (y_load 1 rfl rfl rfl rfl Tryd.underlying22 rfl) ?_
    refine Sg_ 51 rfl rfl rfl rfl rfl rfl _ (y_indexOwnI (j := 0) 906 rfl rfl rfl (fun _ => rfl) rfl Tryd.underlying22 sz24 (fun hg => hks0 (by simpa using hg))) ?_
    refine Sg_ 52 rfl rfl rfl rfl rfl rfl _ (y_fieldOwn 906 rfl rfl rfl (fun hg => hks0 (by simpa using hg)) fa24_0) ?_
    refine Sg_ 53 rfl rfl rfl rfl rfl rfl _ (y_load_cellOwn 906 rfl rfl rfl (fun hg => hks0 (by simpa using hg)) (fun hg => flat_at (enc := SC.enc) (size := 6) SC.enc_len (hd_at (hks (by simpa using hg))) 0 (.int .i64 (ks.headD sc0).op) rfl) Tryd.underlying3 rfl) ?_
    refine Sg_ 54 rfl rfl rfl rfl rfl rfl _ (y_bin rfl rfl rfl (fun _ => b_eql)) ?_
    refine S_ 55 rfl rfl rfl _ (y_and rfl rfl rfl) ?_
    refine S_go (fun _ _ h => h) ?_
    refine T_cond rfl (fun h55 => ?_) (fun h55 => ?_)
    · skip
      simp only [Bool.and_eq_true, decide_eq_true_eq] at h55
      obtain ⟨ho3, hk3⟩ := h55
      obtain ⟨k', rfl⟩ := hks ho3
      have hk3 : k'.op = 3 := hk3
      obtain ⟨kk, hkk1⟩ := kids_one ((ch_ar (hp6 k' (List.mem_singleton.2 rfl))).2.2.2 hk3)
      have hkk : k'.kids[0]? = some kk := by rw [hkk1]; rfl
      refine T_knownP (p := k'.ad.isSome = true ∧ k'.q = 1) (fun w hM => by
        have ht := ((hp5 k' (List.mem_singleton.2 rfl)).at hM 900 rfl).parts.1.t
        have hq1 : k'.q = 1 := by have := ht.len; rw [hkk1] at this; exact this.symm
        exact ⟨ht.isSome (by show 0 < k'.q; omega), hq1⟩) fun hkq => ?_
      refine T_seq ?_
      refine T_region ?_
      refine S_ 56 rfl rfl rfl _ (y_fieldAddr rfl rfl fa24_1) ?_
      refine S_ 57 rfl rfl rfl _ (y_load 1 rfl rfl rfl rfl Tryd.underlying22 rfl) ?_
      refine S_ 58 rfl rfl rfl _ (y_indexOwnI (j := 0) 906 rfl rfl rfl (fun _ => rfl) rfl Tryd.underlying22 sz24 (fun _ => by simp)) ?_
      refine S_ 59 rfl rfl rfl _ (y_fieldOwn 906 rfl rfl rfl (fun _ => by simp) fa24_1) ?_
      refine S_ 60 rfl rfl rfl _ (y_load_cellOwn 906 rfl rfl rfl (fun _ => by simp) (fun _ => flat_at (enc := SC.enc) (size := 6) (l := [k']) (j := 0) SC.enc_len rfl 1 (.slice k'.ad k'.q k'.c) rfl) Tryd.underlying22 rfl) ?_
      refine S_ 61 rfl rfl rfl _ (y_indexAddrI (j := 0) rfl rfl rfl (fun _ => rfl) Tryd.underlying22 sz24 (fun _ => hkq.1) (fun _ => by omega)) ?_
      refine S_ 62 rfl rfl rfl _ (y_here rfl (fun w1 hM => y_loadT (xe := kk) rfl rfl ((hp5 k' (List.mem_singleton.2 rfl)).at hM 900 rfl).parts.1.t (fun _ => rfl) (fun _ => hkk) Tryd.underlying24 rfl sz24)) ?_
      refine S_store 2 rfl rfl rfl rfl rfl rfl sz24 rfl rfl ?_
      refine S_go (fun _ _ h => h) ?_
      refine T_ret (fun a w hF hM => hRb a w (post_cell1 2 rfl rfl rfl Tryd.underlying24 rfl (by exact sz24) (fun w hM => ?_) a w hF hM))
      exact ⟨⟨kk, ws⟩, rfl, ⟨by rw [hsays, finP, if_pos ⟨ho3, (says_op k').trans hk3⟩]; show kk.says = k'.says.kids.getD 0 pc0; rw [SC.says_kids, hkk1]; rfl, hp4, (hp5 k' (List.mem_singleton.2 rfl)).map fun w h => h.kid (by rw [hkk1]; exact List.mem_singleton.2 rfl)⟩, hM.keep (ks := [(0, 999)]) (by repeat (first | exact kl_rest (by assumption) rfl | (apply kl_in; focus rfl))) _ ⟨rfl, trivial⟩⟩
    · skip
      refine T_skip_go (fun _ _ h => h) ?_
      refine T_seq ?_
      refine T_region ?_
      refine S_ 63 rfl rfl rfl _ (y_loadA 1 rfl rfl rfl Tryd.underlying24 rfl sz24) ?_
      refine S_store 2 rfl rfl rfl rfl rfl rfl sz24 rfl rfl ?_
      refine S_go (fun _ _ h => h) ?_
      refine T_ret (fun a w hF hM => hRb a w (post_cell1 2 rfl rfl rfl Tryd.underlying24 rfl (by exact sz24) (fun w hM => ?_) a w hF hM))
      have hM := hM.bankK (ks := [(906, 906), (900, 900)]) (m := 900) (i := 906) rfl rfl rfl (by repeat (first | exact kl_nil | exact kl_rest (by assumption) rfl | (apply kl_in; focus rfl) | (apply kl_out; focus rfl))) rfl
      exact ⟨⟨.mk x.op A ks.length c ks x.lo x.hi x.nm x.tx, ws ++ [⟨24, 6, .slice A ks.length c, ks.length, ks.flatMap SC.enc⟩]⟩, rfl, ⟨by
        rw [SC.says_mk, hsays, finP, if_neg fun h => ?_]
        have h3 := hks h.1
        obtain ⟨k, rfl⟩ := h3
        have h4 : k.op = 3 := (says_op k).symm.trans h.2
        simp [h.1, h4] at h55, fun r h => List.mem_append_left _ (hp4 r h), fun w hb hr => .mk (row_ok (hr _ (List.mem_append_right _ (List.mem_singleton.2 rfl))) rfl) (by omega) (by omega) hn htl (fun k hk => hp5 k hk w hb (fun r h => hr r (List.mem_append_left _ h)))⟩, hM.keep (ks := [(0, 999)]) (by repeat (first | exact kl_rest (by assumption) rfl | (apply kl_in; focus rfl))) _ ⟨rfl, trivial⟩⟩
theorem fplain_any (x : SC) : PlainAt x := SC.ind (Q := PlainAt) plain_step x
end Go.Proofs.YtfmbgaaonfgenaaDoor
end
section
namespace Go.Proofs.YtfmbgaaonfgenaaDoor
set_option linter.unusedSimpArgs false
set_option linter.unusedVariables false
set_option maxRecDepth 20000
open Go.RowKit Go.Eng
def SameAt (x : SC) : Prop := ∀ (y : SC) (w : World), x.Ok w → y.Ok w → Calls Tryd.prog 6 #[x.val, y.val] w fun e w' => e = .returned (.bool (sameP x.says y.says)) ∧ Below w.heap.size w w'
theorem sameL_len : ∀ {l m : List PC}, l.length ≠ m.length → sameL l m = false
  | [], [], h => absurd rfl h
  | [], _ :: _, _ => rfl
  | _ :: _, [], _ => rfl
  | a :: r, b :: s, h => by rw [sameL, sameL_len (l := r) (m := s) (by simpa using h), Bool.and_false]
theorem EqualFC_any (A B : Option Addr) (q c p d : Nat) (l m : List SC) (w : World) (hl : SlT SC.enc 6 w A q l) (hm : SlT SC.enc 6 w B p m) (hq : q ≤ 4611686018427387904) (hp : p ≤ 4611686018427387904) (ih : ∀ x ∈ l, SameAt x) (hxl : ∀ x ∈ l, x.Ok w) (hxm : ∀ x ∈ m, x.Ok w) :
    Calls Tryd.prog 11 #[.slice A q c, .slice B p d, .func (.func 6) #[] #[]] w fun e w' => e = .returned (.bool (sameL (l.map SC.says) (m.map SC.says))) ∧ Below w.heap.size w w' := by
  have hlen := hl.len
  have hmen := hm.len
  refine enter_args (args := [.slice A q c, .slice B p d, .func (.func 6) #[] #[]]) (F := _) Tryd.func11 rfl Tryd.ntmps11 rfl rfl ?_
  intro Rb hRb hRn
  refine T_seq ?_
  refine T_region ?_
  refine S_ 6 rfl rfl rfl _ (y_assign rfl rfl) ?_
  refine S_go (fun _ _ h => h) ?_
  refine T_seq ?_
  refine T_seq ?_
  refine T_region ?_
  refine S_ 10 rfl rfl rfl _ (y_move rfl rfl) ?_
  refine S_ 11 rfl rfl rfl _ (y_len_slice rfl rfl Tryd.underlying22) ?_
  refine S_ 12 rfl rfl rfl _ (y_move rfl rfl) ?_
  refine S_ 13 rfl rfl rfl _ (y_len_slice rfl rfl Tryd.underlying22) ?_
  refine S_ 14 rfl rfl rfl _ (y_bin rfl rfl rfl (fun _ => b_neq)) ?_
  refine S_go (fun _ _ h => h) ?_
  refine T_cond rfl (fun h14 => ?_) (fun h14 => ?_)
  · try simp only [decide_eq_true_eq, decide_eq_false_iff_not, Bool.or_eq_true, Bool.or_eq_false_iff, Bool.and_eq_true, Bool.and_eq_false_iff, Bool.not_eq_true', Bool.not_eq_false', Bool.not_eq_true, Bool.not_eq_false, Bool.not_true, Bool.not_false, Int.not_lt, Int.not_le, not_or, not_and, Classical.not_not] at h14
    refine T_seq ?_
    refine T_region ?_
    refine S_ 6 rfl rfl rfl _ (y_assign rfl rfl) ?_
    refine S_go (fun _ _ h => h) ?_
    refine T_ret (fun a w hF hM => hRb a w (post1 rfl rfl (fun w hM => ?_) a w hF hM))
    exact ⟨by rw [sameL_len (by rw [List.length_map, List.length_map]; omega)], hM.below⟩
  · try simp only [decide_eq_true_eq, decide_eq_false_iff_not, Bool.or_eq_true, Bool.or_eq_false_iff, Bool.and_eq_true, Bool.and_eq_false_iff, Bool.not_eq_true', Bool.not_eq_false', Bool.not_eq_true, Bool.not_eq_false, Bool.not_true, Bool.not_false, Int.not_lt, Int.not_le, not_or, not_and, Classical.not_not] at h14
    refine T_skip_go (fun _ _ h => h) ?_
    refine T_seq ?_
    refine T_seq ?_
    refine T_region ?_
    refine S_ 15 rfl rfl rfl _ (y_move rfl rfl) ?_
    refine S_ 16 rfl rfl rfl _ (y_len_slice rfl rfl Tryd.underlying22) ?_
    refine S_ 17 rfl rfl rfl _ (y_move rfl rfl) ?_
    refine S_go (fun _ _ h => h) ?_
    refine T_block ?_
    refine T_loopK1 (kf := [(6, 9), (17, 31)]) (kl := [(6, 9), (17, 31)]) (fun (i : Nat) => [(17, true, .int .i64 (i : Int))]) (fun (i : Nat) => []) (fun (i : Nat) => i ≤ q ∧ sameL (l.map SC.says) (m.map SC.says) = sameL ((l.drop i).map SC.says) ((m.drop i).map SC.says)) (fun (i : Nat) => q - i) 0 (by repeat (first | exact kf_nil | (apply kf_in; focus rfl) | (apply kf_out; focus rfl))) (by repeat (first | exact kl_nil | exact kl_rest (by assumption) rfl | (apply kl_in; focus rfl) | (apply kl_out; focus rfl))) ?_ ?_ ?_ ?_
    · exact ⟨by omega, rfl⟩
    · exact ⟨rfl, trivial⟩
    · exact trivial
    rintro i ⟨hp1, hp2⟩
    refine T_seq ?_
    refine T_region ?_
    refine S_ 18 rfl rfl rfl _ (y_bin rfl rfl rfl (fun _ => b_lss)) ?_
    refine S_go (fun _ _ h => h) ?_
    refine T_seq ?_
    refine T_cond rfl (fun h18 => ?_) (fun h18 => ?_)
    · try simp only [decide_eq_true_eq, decide_eq_false_iff_not, Bool.or_eq_true, Bool.or_eq_false_iff, Bool.and_eq_true, Bool.and_eq_false_iff, Bool.not_eq_true', Bool.not_eq_false', Bool.not_eq_true, Bool.not_eq_false, Bool.not_true, Bool.not_false, Int.not_lt, Int.not_le, not_or, not_and, Classical.not_not] at h18
      obtain ⟨a, hx1, hx2⟩ := hl.at (i := i) (by omega)
      obtain ⟨b, hy1, hy2⟩ := hm.at (i := i) (by omega)
      rw [hx2, hy2, List.map_cons, List.map_cons, sameL] at hp2
      refine T_skip_go (fun _ _ h => h) ?_
      refine T_seq ?_
      refine T_block ?_
      refine T_seq ?_
      refine T_region ?_
      refine S_ 19 rfl rfl rfl _ (y_move rfl rfl) ?_
      refine S_ 20 rfl rfl rfl _ (y_indexAddr rfl rfl rfl Tryd.underlying22 sz24 (fun hg => hl.isSome (by omega)) (fun _ => by omega)) ?_
      refine S_ 21 rfl rfl rfl _ (y_loadT rfl rfl hl (fun _ => rfl) (fun _ => hx1) Tryd.underlying24 rfl sz24) ?_
      refine S_alloc 8 8 rfl rfl rfl rfl z24 ?_
      intro b8
      refine S_ 7 rfl rfl rfl _ (y_assign rfl rfl) ?_
      refine S_store 8 rfl rfl rfl rfl rfl rfl sz24 rfl rfl ?_
      refine S_go (fun _ _ h => h) ?_
      refine T_seq ?_
      refine T_region ?_
      refine S_ 22 rfl rfl rfl _ (y_move rfl rfl) ?_
      refine S_ 23 rfl rfl rfl _ (y_move rfl rfl) ?_
      refine S_ 24 rfl rfl rfl _ (y_indexAddr rfl rfl rfl Tryd.underlying22 sz24 (fun hg => hm.isSome (by omega)) (fun _ => by omega)) ?_
      refine S_ 25 rfl rfl rfl _ (y_loadT rfl rfl hm (fun _ => rfl) (fun _ => hy1) Tryd.underlying24 rfl sz24) ?_
      refine S_alloc 9 9 rfl rfl rfl rfl z24 ?_
      intro b9
      refine S_store 9 rfl rfl rfl rfl rfl rfl sz24 rfl rfl ?_
      refine S_go (fun _ _ h => h) ?_
      refine T_seq ?_
      refine T_region ?_
      refine S_ 26 rfl rfl rfl _ (y_move rfl rfl) ?_
      refine S_ 27 rfl rfl rfl _ (y_loadA 8 rfl rfl rfl Tryd.underlying24 rfl sz24) ?_
      refine S_ 28 rfl rfl rfl _ (y_loadA 9 rfl rfl rfl Tryd.underlying24 rfl sz24) ?_
      refine S_ 29 rfl rfl rfl _ (y_call rfl rfl rfl cf6 (fun _ w1 hM => ih a (mem_at hx1) b w1 ((hxl a (mem_at hx1)).lift hM.below) ((hxm b (mem_at hy1)).lift hM.below))) ?_
      refine S_ 30 rfl rfl rfl _ (y_not rfl rfl) ?_
      refine S_go (fun _ _ h => h) ?_
      refine T_cond rfl (fun h30 => ?_) (fun h30 => ?_)
      · skip
        have h30e : sameP a.says b.says = false := by simpa using h30
        rw [h30e, Bool.false_and] at hp2
        refine T_seq ?_
        refine T_region ?_
        refine S_ 6 rfl rfl rfl _ (y_assign rfl rfl) ?_
        refine S_go (fun _ _ h => h) ?_
        refine T_ret (fun a w hF hM => hRb a w (post1 rfl rfl (fun w hM => ?_) a w hF hM))
        exact ⟨by rw [hp2], hM.below⟩
      · skip
        have h30e : sameP a.says b.says = true := by simpa using h30
        rw [h30e, Bool.true_and] at hp2
        refine T_skip_go (fun _ _ h => h) ?_
        refine T_region ?_
        refine S_ 31 rfl rfl rfl _ (y_bin rfl rfl rfl (fun hg => b_add (by omega))) ?_
        refine S_ 17 rfl rfl rfl _ (y_move rfl rfl) ?_
        refine S_nil (nextK1 (kf := [(6, 9), (17, 31)]) (kl := [(6, 9), (17, 31)]) (i + 1) (by repeat (first | exact kf_nil | (apply kf_in; focus rfl) | (apply kf_out; focus rfl))) (by repeat (first | exact kl_nil | exact kl_rest (by assumption) rfl | (apply kl_in; focus rfl) | (apply kl_out; focus rfl))) ?_ ?_ ?_ ?_)
        · omega
        · exact ⟨by omega, hp2⟩
        · exact ⟨rfl, trivial⟩
        · exact trivial
    · try simp only [decide_eq_true_eq, decide_eq_false_iff_not, Bool.or_eq_true, Bool.or_eq_false_iff, Bool.and_eq_true, Bool.and_eq_false_iff, Bool.not_eq_true', Bool.not_eq_false', Bool.not_eq_true, Bool.not_eq_false, Bool.not_true, Bool.not_false, Int.not_lt, Int.not_le, not_or, not_and, Classical.not_not] at h18
      refine T_exit_go (fun _ _ h => h) ?_
      refine T_seq ?_
      refine T_region ?_
      refine S_ 6 rfl rfl rfl _ (y_assign rfl rfl) ?_
      refine S_go (fun _ _ h => h) ?_
      refine T_ret (fun a w hF hM => hRb a w (post1 rfl rfl (fun w hM => ?_) a w hF hM))
      exact ⟨by rw [hp2, hl.end (by omega), hm.end (by omega)]; rfl, hM.below⟩
theorem same_form (x y : SC) : sameP x.says y.says = (decide (x.op = y.op) && decide (x.lo = y.lo) && decide (x.hi = y.hi) && decide (x.nm = y.nm) && decide (x.tx = y.tx) && sameL (x.kids.map SC.says) (y.kids.map SC.says)) := by
  rw [SC.says_form x, SC.says_form y, sameP]; simp only [Bool.and_assoc]
theorem same_step (x : SC) (ih : ∀ k ∈ x.kids, SameAt k) : SameAt x := fun y w hx hy => by
  obtain ⟨hs, hq, hb, hn, ht, hk⟩ := hx.parts
  obtain ⟨gs, gq, gb, gn, gt, gk⟩ := hy.parts
  rw [same_form]
  refine enter_args (args := [.agg #[.int .i64 x.op, .slice x.ad x.q x.c, .int .i64 x.lo, .int .i64 x.hi, str x.nm, str x.tx], .agg #[.int .i64 y.op, .slice y.ad y.q y.c, .int .i64 y.lo, .int .i64 y.hi, str y.nm, str y.tx]]) (F := _) Tryd.func6 rfl Tryd.ntmps6 rfl rfl ?_
  intro Rb hRb hRn
  refine T_seq ?_
  refine T_region ?_
  refine S_box 2 2 rfl rfl rfl rfl rfl ?_
  intro b2
  refine S_box 3 3 rfl rfl rfl rfl rfl ?_
  intro b3
  refine S_ 4 rfl rfl rfl _ (y_assign rfl rfl) ?_
  refine S_go (fun _ _ h => h) ?_
  refine T_seq ?_
  refine T_region ?_
  refine S_ 5 rfl rfl rfl _ (y_fieldAddr rfl rfl fa24_0) ?_
  refine S_ 6 rfl rfl rfl _ (y_load 2 rfl rfl rfl rfl Tryd.underlying3 rfl) ?_
  refine S_ 7 rfl rfl rfl _ (y_fieldAddr rfl rfl fa24_0) ?_
  refine S_ 8 rfl rfl rfl _ (y_load 3 rfl rfl rfl rfl Tryd.underlying3 rfl) ?_
  refine S_ 9 rfl rfl rfl _ (y_bin rfl rfl rfl (fun _ => b_eql)) ?_
  refine S_ 10 rfl rfl rfl _ (y_move rfl rfl) ?_
  refine Sg_ 11 rfl rfl rfl rfl rfl rfl _ (y_fieldAddr rfl rfl fa24_2) ?_
  refine Sg_ 12 rfl rfl rfl rfl rfl rfl _ (y_load 2 rfl rfl rfl rfl Tryd.underlying3 rfl) ?_
  refine Sg_ 13 rfl rfl rfl rfl rfl rfl _ (y_fieldAddr rfl rfl fa24_2) ?_
  refine Sg_ 14 rfl rfl rfl rfl rfl rfl _ (y_load 3 rfl rfl rfl rfl Tryd.underlying3 rfl) ?_
  refine Sg_ 15 rfl rfl rfl rfl rfl rfl _ (y_bin rfl rfl rfl (fun _ => b_eql)) ?_
  refine S_ 16 rfl rfl rfl _ (y_and rfl rfl rfl) ?_
  refine S_ 17 rfl rfl rfl _ (y_move rfl rfl) ?_
  refine Sg_ 18 rfl rfl rfl rfl rfl rfl _ (y_fieldAddr rfl rfl fa24_3) ?_
  refine Sg_ 19 rfl rfl rfl rfl rfl rfl _ (y_load 2 rfl rfl rfl rfl Tryd.underlying3 rfl) ?_
  refine Sg_ 20 rfl rfl rfl rfl rfl rfl _ (y_fieldAddr rfl rfl fa24_3) ?_
  refine Sg_ 21 rfl rfl rfl rfl rfl rfl _ (y_load 3 rfl rfl rfl rfl Tryd.underlying3 rfl) ?_
  refine Sg_ 22 rfl rfl rfl rfl rfl rfl _ (y_bin rfl rfl rfl (fun _ => b_eql)) ?_
  refine S_ 23 rfl rfl rfl _ (y_and rfl rfl rfl) ?_
  refine S_ 24 rfl rfl rfl _ (y_move rfl rfl) ?_
  refine Sg_ 25 rfl rfl rfl rfl rfl rfl _ (y_fieldAddr rfl rfl fa24_4) ?_
  refine Sg_ 26 rfl rfl rfl rfl rfl rfl _ (y_load 2 rfl rfl rfl rfl Tryd.underlying9 rfl) ?_
  refine Sg_ 27 rfl rfl rfl rfl rfl rfl _ (y_fieldAddr rfl rfl fa24_4) ?_
  refine Sg_ 28 rfl rfl rfl rfl rfl rfl _ (y_load 3 rfl rfl rfl rfl Tryd.underlying9 rfl) ?_
  refine Sg_ 29 rfl rfl rfl rfl rfl rfl _ (y_bin rfl rfl rfl (fun _ => b_eqls)) ?_
  refine S_ 30 rfl rfl rfl _ (y_and rfl rfl rfl) ?_
  refine S_ 31 rfl rfl rfl _ (y_move rfl rfl) ?_
  refine Sg_ 32 rfl rfl rfl rfl rfl rfl _ (y_fieldAddr rfl rfl fa24_5) ?_
  refine Sg_ 33 rfl rfl rfl rfl rfl rfl _ (y_load 2 rfl rfl rfl rfl Tryd.underlying9 rfl) ?_
  refine Sg_ 34 rfl rfl rfl rfl rfl rfl _ (y_fieldAddr rfl rfl fa24_5) ?_
  refine Sg_ 35 rfl rfl rfl rfl rfl rfl _ (y_load 3 rfl rfl rfl rfl Tryd.underlying9 rfl) ?_
  refine Sg_ 36 rfl rfl rfl rfl rfl rfl _ (y_bin rfl rfl rfl (fun _ => b_eqls)) ?_
  refine S_ 37 rfl rfl rfl _ (y_and rfl rfl rfl) ?_
  refine S_ 38 rfl rfl rfl _ (y_move rfl rfl) ?_
  refine Sg_ 39 rfl rfl rfl rfl rfl rfl _ (y_fieldAddr rfl rfl fa24_1) ?_
  refine Sg_ 40 rfl rfl rfl rfl rfl rfl _ (y_load 2 rfl rfl rfl rfl Tryd.underlying22 rfl) ?_
  refine Sg_ 41 rfl rfl rfl rfl rfl rfl _ (y_fieldAddr rfl rfl fa24_1) ?_
  refine Sg_ 42 rfl rfl rfl rfl rfl rfl _ (y_load 3 rfl rfl rfl rfl Tryd.underlying22 rfl) ?_
  refine Sg_ 43 rfl rfl rfl rfl rfl rfl _ (y_call rfl rfl rfl cf11 (fun _ w1 hM => EqualFC_any x.ad y.ad x.q x.c y.q y.c x.kids y.kids w1 (hs.t.below hM.below) (gs.t.below hM.below) hq gq ih (fun k hkm => (hk k hkm).lift hM.below) (fun k hkm => (gk k hkm).lift hM.below))) ?_
  refine S_ 44 rfl rfl rfl _ (y_and rfl rfl rfl) ?_
  refine S_ 4 rfl rfl rfl _ (y_assign rfl rfl) ?_
  refine S_go (fun _ _ h => h) ?_
  refine T_ret (fun a w hF hM => hRb a w (post1 rfl rfl (fun w hM => ?_) a w hF hM))
  exact ⟨rfl, hM.below⟩
theorem FSame_any (x : SC) : SameAt x := SC.ind (Q := SameAt) same_step x
end Go.Proofs.YtfmbgaaonfgenaaDoor
end
section
namespace Go.Proofs.YtfmbgaaonfgenaaDoor
set_option linter.unusedSimpArgs false
set_option linter.unusedVariables false
set_option maxRecDepth 20000
open Go.RowKit Go.Eng
/-- a block's cells, as they stand for good -/
abbrev CellsAt (w : World) (b : Nat) (cs : List Value) : Prop := (∀ j u, cs[j]? = some u → w.cell? ((⟨b, 0, none⟩ : Addr).add j) = some u) ∧ b < w.heap.size
theorem CellsAt.one {w : World} {b j : Nat} {cs : List Value} {u : Value} (h : CellsAt w b cs) (hj : cs[j]? = some u) : w.cell? ((⟨b, 0, none⟩ : Addr).add j) = some u ∧ ((⟨b, 0, none⟩ : Addr).add j).block < w.heap.size := ⟨h.1 j u hj, by rw [block_of_add]; exact h.2⟩
theorem add_plain (b j : Nat) : (⟨b, 0, none⟩ : Addr).add j = ⟨b, j, none⟩ := by unfold Addr.add; split <;> simp_all
theorem cells_of {w : World} {b : Nat} {cs : List Value} (h : CellsIn b cs w) : CellsAt w b cs := ⟨fun j u hu => by rw [add_plain]; exact h.1 j u hu, h.2⟩
theorem cells_to {w w' : World} {b : Nat} {cs : List Value} (h : CellsAt w b cs) (hb : Below w.heap.size w w') : CellsAt w' b cs := cells_below h hb
/-- a function value with what it has captured -/
structure Fn where
  g : FuncId
  cap : Array Value
abbrev Fn.v (f : Fn) : Value := .func (.func f.g) #[] f.cap
abbrev CfOf (g : FuncId) : Prop := ∀ args w, (callFunc g args).run Tryd.prog w = .ok (.enter g args) w
/-- a function value that asks -/
def AskF {α : Type} (val : α → Value) (ok : World → α → Prop) (f : Fn) (p : α → Bool) (w : World) : Prop :=
  CfOf f.g ∧ ∀ w', Below w.heap.size w w' → ∀ x, ok w' x → Calls Tryd.prog f.g (#[val x] ++ f.cap) w' fun e w'' => e = .returned (.bool (p x)) ∧ Below w'.heap.size w' w''
theorem AskF.below {α : Type} {val : α → Value} {ok : World → α → Prop} {f : Fn} {p : α → Bool} {w w' : World} (h : AskF val ok f p w) (hb : Below w.heap.size w w') : AskF val ok f p w' :=
  ⟨h.1, fun w'' hb2 => h.2 w'' (hb.trans (hb2.mono hb.size))⟩
theorem AskF.ext {α : Type} {val : α → Value} {ok : World → α → Prop} {f : Fn} {p q : α → Bool} {w : World} (h : AskF val ok f p w) (hpq : ∀ x, q x = p x) : AskF val ok f q w := by
  rw [show q = p from funext hpq]; exact h
def FltR (w : World) (f : Flt) : Prop := FltOk w f ∧ FltS f
def FrmR (_ : World) (x : Frm) : Prop := x.f.length ≤ 2000 ∧ x.fi.length ≤ 2000
def EvR (w : World) (e : Evt) : Prop := e.Ok w ∧ EvS e
theorem FltR.below {w w' : World} {f : Flt} (h : FltR w f) (hb : Below w.heap.size w w') : FltR w' f := ⟨h.1.below hb, h.2⟩
theorem EvR.below {w w' : World} {e : Evt} (h : EvR w e) (hb : Below w.heap.size w w') : EvR w' e := ⟨h.1.below hb, h.2⟩
abbrev fnE (z : Fn × SC) : List Value := [.func (.func z.1.g) #[] z.1.cap]
theorem IndexFF_any (A : Option Addr) (q c : Nat) (l : List Flt) (g : FuncId) (cap : Array Value) (p : Flt → Bool) (w : World) (hl : SlT Flt.enc 3 w A q l) (hq : q ≤ 4611686018427387904) (hcf : ∀ args w, (callFunc g args).run Tryd.prog w = .ok (.enter g args) w)
    (hA : ∀ x ∈ l, ∀ w', Below w.heap.size w w' → Calls Tryd.prog g (#[x.val] ++ cap) w' fun e w'' => e = .returned (.bool (p x)) ∧ Below w'.heap.size w' w'') :
    Calls Tryd.prog 71 #[.slice A q c, .func (.func g) #[] cap] w fun e w' => e = .returned (.int .i64 (fndP p l 0)) ∧ Below w.heap.size w w' := by
  refine enter_args (args := [.slice A q c, .func (.func g) #[] cap]) (F := _) Tryd.func71 rfl Tryd.ntmps71 rfl rfl ?_
  intro Rb hRb hRn
  refine T_seq ?_
  refine T_region ?_
  refine S_ 4 rfl rfl rfl _ (y_assign rfl rfl) ?_
  refine S_go (fun _ _ h => h) ?_
  refine T_seq ?_
  refine T_seq ?_
  refine T_region ?_
  refine S_ 6 rfl rfl rfl _ (y_move rfl rfl) ?_
  refine S_ 7 rfl rfl rfl _ (y_len_slice rfl rfl Tryd.underlying31) ?_
  refine S_ 8 rfl rfl rfl _ (y_move rfl rfl) ?_
  refine S_go (fun _ _ h => h) ?_
  refine T_block ?_
  refine T_loopK1 (kf := [(4, 5), (8, 18)]) (kl := [(4, 5), (8, 18)]) (fun (i : Nat) => [(8, true, .int .i64 (i : Int))]) (fun (i : Nat) => []) (fun (i : Nat) => i ≤ q ∧ fndP p l 0 = fndP p (l.drop i) i) (fun (i : Nat) => q - i) 0 (by repeat (first | exact kf_nil | (apply kf_in; focus rfl) | (apply kf_out; focus rfl))) (by repeat (first | exact kl_nil | exact kl_rest (by assumption) rfl | (apply kl_in; focus rfl) | (apply kl_out; focus rfl))) ?_ ?_ ?_ ?_
  · exact ⟨by omega, rfl⟩
  · exact ⟨rfl, trivial⟩
  · exact trivial
  rintro i ⟨hp1, hp2⟩
  refine T_seq ?_
  refine T_region ?_
  refine S_ 9 rfl rfl rfl _ (y_bin rfl rfl rfl (fun _ => b_lss)) ?_
  refine S_go (fun _ _ h => h) ?_
  refine T_seq ?_
  refine T_cond rfl (fun h9 => ?_) (fun h9 => ?_)
  · try simp only [decide_eq_true_eq, decide_eq_false_iff_not, Bool.or_eq_true, Bool.or_eq_false_iff, Bool.and_eq_true, Bool.and_eq_false_iff, Bool.not_eq_true', Bool.not_eq_false', Bool.not_eq_true, Bool.not_eq_false, Bool.not_true, Bool.not_false, Int.not_lt, Int.not_le, not_or, not_and, Classical.not_not] at h9
    obtain ⟨x, hx1, hx2⟩ := hl.at (i := i) (by omega)
    refine T_skip_go (fun _ _ h => h) ?_
    refine T_seq ?_
    refine T_block ?_
    refine T_seq ?_
    refine T_region ?_
    refine S_ 10 rfl rfl rfl _ (y_move rfl rfl) ?_
    refine S_ 5 rfl rfl rfl _ (y_assign rfl rfl) ?_
    refine S_go (fun _ _ h => h) ?_
    refine T_seq ?_
    refine T_region ?_
    refine S_ 11 rfl rfl rfl _ (y_move rfl rfl) ?_
    refine S_ 12 rfl rfl rfl _ (y_move rfl rfl) ?_
    refine S_ 13 rfl rfl rfl _ (y_move rfl rfl) ?_
    refine S_ 14 rfl rfl rfl _ (y_indexAddr rfl rfl rfl Tryd.underlying31 sz60 (fun hg => hl.isSome (by omega)) (fun _ => by omega)) ?_
    refine S_ 15 rfl rfl rfl _ (y_loadT rfl rfl hl (fun _ => rfl) (fun _ => hx1) Tryd.underlying60 rfl sz60) ?_
    refine S_ 16 rfl rfl rfl _ (y_call rfl rfl rfl hcf (fun _ w hM => hA x (mem_at hx1) w hM.below)) ?_
    refine S_go (fun _ _ h => h) ?_
    refine T_cond rfl (fun h16 => ?_) (fun h16 => ?_)
    · skip
      refine T_seq ?_
      refine T_region ?_
      refine S_ 17 rfl rfl rfl _ (y_move rfl rfl) ?_
      refine S_ 4 rfl rfl rfl _ (y_assign rfl rfl) ?_
      refine S_go (fun _ _ h => h) ?_
      refine T_ret (fun a w hF hM => hRb a w (post1 rfl rfl (fun w hM => ?_) a w hF hM))
      exact ⟨by rw [hp2, hx2, fndP, if_pos h16], hM.below⟩
    · skip
      refine T_skip_go (fun _ _ h => h) ?_
      refine T_region ?_
      refine S_ 18 rfl rfl rfl _ (y_bin rfl rfl rfl (fun hg => b_add (by omega))) ?_
      refine S_ 8 rfl rfl rfl _ (y_move rfl rfl) ?_
      refine S_nil (nextK1 (kf := [(4, 5), (8, 18)]) (kl := [(4, 5), (8, 18)]) (i + 1) (by repeat (first | exact kf_nil | (apply kf_in; focus rfl) | (apply kf_out; focus rfl))) (by repeat (first | exact kl_nil | exact kl_rest (by assumption) rfl | (apply kl_in; focus rfl) | (apply kl_out; focus rfl))) ?_ ?_ ?_ ?_)
      · omega
      · exact ⟨by omega, by rw [hp2, hx2, fndP, if_neg (by simp [h16])]⟩
      · exact ⟨rfl, trivial⟩
      · exact trivial
  · try simp only [decide_eq_true_eq, decide_eq_false_iff_not, Bool.or_eq_true, Bool.or_eq_false_iff, Bool.and_eq_true, Bool.and_eq_false_iff, Bool.not_eq_true', Bool.not_eq_false', Bool.not_eq_true, Bool.not_eq_false, Bool.not_true, Bool.not_false, Int.not_lt, Int.not_le, not_or, not_and, Classical.not_not] at h9
    refine T_exit_go (fun _ _ h => h) ?_
    refine T_seq ?_
    refine T_region ?_
    refine S_ 4 rfl rfl rfl _ (y_assign rfl rfl) ?_
    refine S_go (fun _ _ h => h) ?_
    refine T_ret (fun a w hF hM => hRb a w (post1 rfl rfl (fun w hM => ?_) a w hF hM))
    exact ⟨by rw [hp2, hl.end (by omega)]; rfl, hM.below⟩
theorem ContFF_any (A : Option Addr) (q c : Nat) (l : List Flt) (g : FuncId) (cap : Array Value) (p : Flt → Bool) (w : World) (hl : SlT Flt.enc 3 w A q l) (hq : q ≤ 4611686018427387904) (hcf : ∀ args w, (callFunc g args).run Tryd.prog w = .ok (.enter g args) w)
    (hA : ∀ x ∈ l, ∀ w', Below w.heap.size w w' → Calls Tryd.prog g (#[x.val] ++ cap) w' fun e w'' => e = .returned (.bool (p x)) ∧ Below w'.heap.size w' w'') :
    Calls Tryd.prog 28 #[.slice A q c, .func (.func g) #[] cap] w fun e w' => e = .returned (.bool (l.any p)) ∧ Below w.heap.size w w' := by
  rw [← fndP_any p l 0]
  refine enter_args (args := [.slice A q c, .func (.func g) #[] cap]) (F := _) Tryd.func28 rfl Tryd.ntmps28 rfl rfl ?_
  intro Rb hRb hRn
  refine T_seq ?_
  refine T_region ?_
  refine S_ 4 rfl rfl rfl _ (y_assign rfl rfl) ?_
  refine S_go (fun _ _ h => h) ?_
  refine T_seq ?_
  refine T_region ?_
  refine S_ 5 rfl rfl rfl _ (y_move rfl rfl) ?_
  refine S_ 6 rfl rfl rfl _ (y_move rfl rfl) ?_
  refine S_ 7 rfl rfl rfl _ (y_call rfl rfl rfl cf71 (fun _ w hM => IndexFF_any A q c l g cap p w (hl.below hM.below) hq hcf fun x hx w1 hb => hA x hx w1 (hM.below.trans (hb.mono hM.below.size)))) ?_
  refine S_ 8 rfl rfl rfl _ (y_bin rfl rfl rfl (fun _ => b_geq)) ?_
  refine S_ 4 rfl rfl rfl _ (y_assign rfl rfl) ?_
  refine S_go (fun _ _ h => h) ?_
  refine T_ret (fun a w hF hM => hRb a w (post1 rfl rfl (fun w hM => ?_) a w hF hM))
  exact ⟨rfl, hM.below⟩
theorem IndexFR_any (A : Option Addr) (q c : Nat) (l : List Frm) (g : FuncId) (cap : Array Value) (p : Frm → Bool) (w : World) (hl : SlT Frm.enc 6 w A q l) (hq : q ≤ 4611686018427387904) (hcf : ∀ args w, (callFunc g args).run Tryd.prog w = .ok (.enter g args) w)
    (hA : ∀ x ∈ l, ∀ w', Below w.heap.size w w' → Calls Tryd.prog g (#[x.val] ++ cap) w' fun e w'' => e = .returned (.bool (p x)) ∧ Below w'.heap.size w' w'') :
    Calls Tryd.prog 72 #[.slice A q c, .func (.func g) #[] cap] w fun e w' => e = .returned (.int .i64 (fndP p l 0)) ∧ Below w.heap.size w w' := by
  refine enter_args (args := [.slice A q c, .func (.func g) #[] cap]) (F := _) Tryd.func72 rfl Tryd.ntmps72 rfl rfl ?_
  intro Rb hRb hRn
  refine T_seq ?_
  refine T_region ?_
  refine S_ 4 rfl rfl rfl _ (y_assign rfl rfl) ?_
  refine S_go (fun _ _ h => h) ?_
  refine T_seq ?_
  refine T_seq ?_
  refine T_region ?_
  refine S_ 6 rfl rfl rfl _ (y_move rfl rfl) ?_
  refine S_ 7 rfl rfl rfl _ (y_len_slice rfl rfl Tryd.underlying58) ?_
  refine S_ 8 rfl rfl rfl _ (y_move rfl rfl) ?_
  refine S_go (fun _ _ h => h) ?_
  refine T_block ?_
  refine T_loopK1 (kf := [(4, 5), (8, 18)]) (kl := [(4, 5), (8, 18)]) (fun (i : Nat) => [(8, true, .int .i64 (i : Int))]) (fun (i : Nat) => []) (fun (i : Nat) => i ≤ q ∧ fndP p l 0 = fndP p (l.drop i) i) (fun (i : Nat) => q - i) 0 (by repeat (first | exact kf_nil | (apply kf_in; focus rfl) | (apply kf_out; focus rfl))) (by repeat (first | exact kl_nil | exact kl_rest (by assumption) rfl | (apply kl_in; focus rfl) | (apply kl_out; focus rfl))) ?_ ?_ ?_ ?_
  · exact ⟨by omega, rfl⟩
  · exact ⟨rfl, trivial⟩
  · exact trivial
  rintro i ⟨hp1, hp2⟩
  refine T_seq ?_
  refine T_region ?_
  refine S_ 9 rfl rfl rfl _ (y_bin rfl rfl rfl (fun _ => b_lss)) ?_
  refine S_go (fun _ _ h => h) ?_
  refine T_seq ?_
  refine T_cond rfl (fun h9 => ?_) (fun h9 => ?_)
  · try simp only [decide_eq_true_eq, decide_eq_false_iff_not, Bool.or_eq_true, Bool.or_eq_false_iff, Bool.and_eq_true, Bool.and_eq_false_iff, Bool.not_eq_true', Bool.not_eq_false', Bool.not_eq_true, Bool.not_eq_false, Bool.not_true, Bool.not_false, Int.not_lt, Int.not_le, not_or, not_and, Classical.not_not] at h9
    obtain ⟨x, hx1, hx2⟩ := hl.at (i := i) (by omega)
    refine T_skip_go (fun _ _ h => h) ?_
    refine T_seq ?_
    refine T_block ?_
    refine T_seq ?_
    refine T_region ?_
    refine S_ 10 rfl rfl rfl _ (y_move rfl rfl) ?_
    refine S_ 5 rfl rfl rfl _ (y_assign rfl rfl) ?_
    refine S_go (fun _ _ h => h) ?_
    refine T_seq ?_
    refine T_region ?_
    refine S_ 11 rfl rfl rfl _ (y_move rfl rfl) ?_
    refine S_ 12 rfl rfl rfl _ (y_move rfl rfl) ?_
    refine S_ 13 rfl rfl rfl _ (y_move rfl rfl) ?_
    refine S_ 14 rfl rfl rfl _ (y_indexAddr rfl rfl rfl Tryd.underlying58 sz65 (fun hg => hl.isSome (by omega)) (fun _ => by omega)) ?_
    refine S_ 15 rfl rfl rfl _ (y_loadT rfl rfl hl (fun _ => rfl) (fun _ => hx1) Tryd.underlying65 rfl sz65) ?_
    refine S_ 16 rfl rfl rfl _ (y_call rfl rfl rfl hcf (fun _ w hM => hA x (mem_at hx1) w hM.below)) ?_
    refine S_go (fun _ _ h => h) ?_
    refine T_cond rfl (fun h16 => ?_) (fun h16 => ?_)
    · skip
      refine T_seq ?_
      refine T_region ?_
      refine S_ 17 rfl rfl rfl _ (y_move rfl rfl) ?_
      refine S_ 4 rfl rfl rfl _ (y_assign rfl rfl) ?_
      refine S_go (fun _ _ h => h) ?_
      refine T_ret (fun a w hF hM => hRb a w (post1 rfl rfl (fun w hM => ?_) a w hF hM))
      exact ⟨by rw [hp2, hx2, fndP, if_pos h16], hM.below⟩
    · skip
      refine T_skip_go (fun _ _ h => h) ?_
      refine T_region ?_
      refine S_ 18 rfl rfl rfl _ (y_bin rfl rfl rfl (fun hg => b_add (by omega))) ?_
      refine S_ 8 rfl rfl rfl _ (y_move rfl rfl) ?_
      refine S_nil (nextK1 (kf := [(4, 5), (8, 18)]) (kl := [(4, 5), (8, 18)]) (i + 1) (by repeat (first | exact kf_nil | (apply kf_in; focus rfl) | (apply kf_out; focus rfl))) (by repeat (first | exact kl_nil | exact kl_rest (by assumption) rfl | (apply kl_in; focus rfl) | (apply kl_out; focus rfl))) ?_ ?_ ?_ ?_)
      · omega
      · exact ⟨by omega, by rw [hp2, hx2, fndP, if_neg (by simp [h16])]⟩
      · exact ⟨rfl, trivial⟩
      · exact trivial
  · try simp only [decide_eq_true_eq, decide_eq_false_iff_not, Bool.or_eq_true, Bool.or_eq_false_iff, Bool.and_eq_true, Bool.and_eq_false_iff, Bool.not_eq_true', Bool.not_eq_false', Bool.not_eq_true, Bool.not_eq_false, Bool.not_true, Bool.not_false, Int.not_lt, Int.not_le, not_or, not_and, Classical.not_not] at h9
    refine T_exit_go (fun _ _ h => h) ?_
    refine T_seq ?_
    refine T_region ?_
    refine S_ 4 rfl rfl rfl _ (y_assign rfl rfl) ?_
    refine S_go (fun _ _ h => h) ?_
    refine T_ret (fun a w hF hM => hRb a w (post1 rfl rfl (fun w hM => ?_) a w hF hM))
    exact ⟨by rw [hp2, hl.end (by omega)]; rfl, hM.below⟩
theorem ContFR_any (A : Option Addr) (q c : Nat) (l : List Frm) (g : FuncId) (cap : Array Value) (p : Frm → Bool) (w : World) (hl : SlT Frm.enc 6 w A q l) (hq : q ≤ 4611686018427387904) (hcf : ∀ args w, (callFunc g args).run Tryd.prog w = .ok (.enter g args) w)
    (hA : ∀ x ∈ l, ∀ w', Below w.heap.size w w' → Calls Tryd.prog g (#[x.val] ++ cap) w' fun e w'' => e = .returned (.bool (p x)) ∧ Below w'.heap.size w' w'') :
    Calls Tryd.prog 31 #[.slice A q c, .func (.func g) #[] cap] w fun e w' => e = .returned (.bool (l.any p)) ∧ Below w.heap.size w w' := by
  rw [← fndP_any p l 0]
  refine enter_args (args := [.slice A q c, .func (.func g) #[] cap]) (F := _) Tryd.func31 rfl Tryd.ntmps31 rfl rfl ?_
  intro Rb hRb hRn
  refine T_seq ?_
  refine T_region ?_
  refine S_ 4 rfl rfl rfl _ (y_assign rfl rfl) ?_
  refine S_go (fun _ _ h => h) ?_
  refine T_seq ?_
  refine T_region ?_
  refine S_ 5 rfl rfl rfl _ (y_move rfl rfl) ?_
  refine S_ 6 rfl rfl rfl _ (y_move rfl rfl) ?_
  refine S_ 7 rfl rfl rfl _ (y_call rfl rfl rfl cf72 (fun _ w hM => IndexFR_any A q c l g cap p w (hl.below hM.below) hq hcf fun x hx w1 hb => hA x hx w1 (hM.below.trans (hb.mono hM.below.size)))) ?_
  refine S_ 8 rfl rfl rfl _ (y_bin rfl rfl rfl (fun _ => b_geq)) ?_
  refine S_ 4 rfl rfl rfl _ (y_assign rfl rfl) ?_
  refine S_go (fun _ _ h => h) ?_
  refine T_ret (fun a w hF hM => hRb a w (post1 rfl rfl (fun w hM => ?_) a w hF hM))
  exact ⟨rfl, hM.below⟩
theorem IndexFK_any (A : Option Addr) (q c : Nat) (l : List (Fn × SC)) (g : FuncId) (cap : Array Value) (p : (Fn × SC) → Bool) (w : World) (hl : SlT fnE 1 w A q l) (hq : q ≤ 4611686018427387904) (hcf : ∀ args w, (callFunc g args).run Tryd.prog w = .ok (.enter g args) w)
    (hA : ∀ x ∈ l, ∀ w', Below w.heap.size w w' → Calls Tryd.prog g (#[.func (.func x.1.g) #[] x.1.cap] ++ cap) w' fun e w'' => e = .returned (.bool (p x)) ∧ Below w'.heap.size w' w'') :
    Calls Tryd.prog 73 #[.slice A q c, .func (.func g) #[] cap] w fun e w' => e = .returned (.int .i64 (fndP p l 0)) ∧ Below w.heap.size w w' := by
  refine enter_args (args := [.slice A q c, .func (.func g) #[] cap]) (F := _) Tryd.func73 rfl Tryd.ntmps73 rfl rfl ?_
  intro Rb hRb hRn
  refine T_seq ?_
  refine T_region ?_
  refine S_ 4 rfl rfl rfl _ (y_assign rfl rfl) ?_
  refine S_go (fun _ _ h => h) ?_
  refine T_seq ?_
  refine T_seq ?_
  refine T_region ?_
  refine S_ 6 rfl rfl rfl _ (y_move rfl rfl) ?_
  refine S_ 7 rfl rfl rfl _ (y_len_slice rfl rfl Tryd.underlying69) ?_
  refine S_ 8 rfl rfl rfl _ (y_move rfl rfl) ?_
  refine S_go (fun _ _ h => h) ?_
  refine T_block ?_
  refine T_loopK1 (kf := [(4, 5), (8, 18)]) (kl := [(4, 5), (8, 18)]) (fun (i : Nat) => [(8, true, .int .i64 (i : Int))]) (fun (i : Nat) => []) (fun (i : Nat) => i ≤ q ∧ fndP p l 0 = fndP p (l.drop i) i) (fun (i : Nat) => q - i) 0 (by repeat (first | exact kf_nil | (apply kf_in; focus rfl) | (apply kf_out; focus rfl))) (by repeat (first | exact kl_nil | exact kl_rest (by assumption) rfl | (apply kl_in; focus rfl) | (apply kl_out; focus rfl))) ?_ ?_ ?_ ?_
  · exact ⟨by omega, rfl⟩
  · exact ⟨rfl, trivial⟩
  · exact trivial
  rintro i ⟨hp1, hp2⟩
  refine T_seq ?_
  refine T_region ?_
  refine S_ 9 rfl rfl rfl _ (y_bin rfl rfl rfl (fun _ => b_lss)) ?_
  refine S_go (fun _ _ h => h) ?_
  refine T_seq ?_
  refine T_cond rfl (fun h9 => ?_) (fun h9 => ?_)
  · try simp only [decide_eq_true_eq, decide_eq_false_iff_not, Bool.or_eq_true, Bool.or_eq_false_iff, Bool.and_eq_true, Bool.and_eq_false_iff, Bool.not_eq_true', Bool.not_eq_false', Bool.not_eq_true, Bool.not_eq_false, Bool.not_true, Bool.not_false, Int.not_lt, Int.not_le, not_or, not_and, Classical.not_not] at h9
    obtain ⟨x, hx1, hx2⟩ := hl.at (i := i) (by omega)
    refine T_skip_go (fun _ _ h => h) ?_
    refine T_seq ?_
    refine T_block ?_
    refine T_seq ?_
    refine T_region ?_
    refine S_ 10 rfl rfl rfl _ (y_move rfl rfl) ?_
    refine S_ 5 rfl rfl rfl _ (y_assign rfl rfl) ?_
    refine S_go (fun _ _ h => h) ?_
    refine T_seq ?_
    refine T_region ?_
    refine S_ 11 rfl rfl rfl _ (y_move rfl rfl) ?_
    refine S_ 12 rfl rfl rfl _ (y_move rfl rfl) ?_
    refine S_ 13 rfl rfl rfl _ (y_move rfl rfl) ?_
    refine S_ 14 rfl rfl rfl _ (y_indexAddr rfl rfl rfl Tryd.underlying69 sz44 (fun hg => hl.isSome (by omega)) (fun _ => by omega)) ?_
    refine S_ 15 rfl rfl rfl _ (y_loadT1 (val := (fun z : Fn × SC => Value.func (.func z.1.g) #[] z.1.cap)) rfl rfl hl (fun _ => hx1) Tryd.underlying44 rfl) ?_
    refine S_ 16 rfl rfl rfl _ (y_call rfl rfl rfl hcf (fun _ w hM => hA x (mem_at hx1) w hM.below)) ?_
    refine S_go (fun _ _ h => h) ?_
    refine T_cond rfl (fun h16 => ?_) (fun h16 => ?_)
    · skip
      refine T_seq ?_
      refine T_region ?_
      refine S_ 17 rfl rfl rfl _ (y_move rfl rfl) ?_
      refine S_ 4 rfl rfl rfl _ (y_assign rfl rfl) ?_
      refine S_go (fun _ _ h => h) ?_
      refine T_ret (fun a w hF hM => hRb a w (post1 rfl rfl (fun w hM => ?_) a w hF hM))
      exact ⟨by rw [hp2, hx2, fndP, if_pos h16], hM.below⟩
    · skip
      refine T_skip_go (fun _ _ h => h) ?_
      refine T_region ?_
      refine S_ 18 rfl rfl rfl _ (y_bin rfl rfl rfl (fun hg => b_add (by omega))) ?_
      refine S_ 8 rfl rfl rfl _ (y_move rfl rfl) ?_
      refine S_nil (nextK1 (kf := [(4, 5), (8, 18)]) (kl := [(4, 5), (8, 18)]) (i + 1) (by repeat (first | exact kf_nil | (apply kf_in; focus rfl) | (apply kf_out; focus rfl))) (by repeat (first | exact kl_nil | exact kl_rest (by assumption) rfl | (apply kl_in; focus rfl) | (apply kl_out; focus rfl))) ?_ ?_ ?_ ?_)
      · omega
      · exact ⟨by omega, by rw [hp2, hx2, fndP, if_neg (by simp [h16])]⟩
      · exact ⟨rfl, trivial⟩
      · exact trivial
  · try simp only [decide_eq_true_eq, decide_eq_false_iff_not, Bool.or_eq_true, Bool.or_eq_false_iff, Bool.and_eq_true, Bool.and_eq_false_iff, Bool.not_eq_true', Bool.not_eq_false', Bool.not_eq_true, Bool.not_eq_false, Bool.not_true, Bool.not_false, Int.not_lt, Int.not_le, not_or, not_and, Classical.not_not] at h9
    refine T_exit_go (fun _ _ h => h) ?_
    refine T_seq ?_
    refine T_region ?_
    refine S_ 4 rfl rfl rfl _ (y_assign rfl rfl) ?_
    refine S_go (fun _ _ h => h) ?_
    refine T_ret (fun a w hF hM => hRb a w (post1 rfl rfl (fun w hM => ?_) a w hF hM))
    exact ⟨by rw [hp2, hl.end (by omega)]; rfl, hM.below⟩
theorem ContFK_any (A : Option Addr) (q c : Nat) (l : List (Fn × SC)) (g : FuncId) (cap : Array Value) (p : (Fn × SC) → Bool) (w : World) (hl : SlT fnE 1 w A q l) (hq : q ≤ 4611686018427387904) (hcf : ∀ args w, (callFunc g args).run Tryd.prog w = .ok (.enter g args) w)
    (hA : ∀ x ∈ l, ∀ w', Below w.heap.size w w' → Calls Tryd.prog g (#[.func (.func x.1.g) #[] x.1.cap] ++ cap) w' fun e w'' => e = .returned (.bool (p x)) ∧ Below w'.heap.size w' w'') :
    Calls Tryd.prog 36 #[.slice A q c, .func (.func g) #[] cap] w fun e w' => e = .returned (.bool (l.any p)) ∧ Below w.heap.size w w' := by
  rw [← fndP_any p l 0]
  refine enter_args (args := [.slice A q c, .func (.func g) #[] cap]) (F := _) Tryd.func36 rfl Tryd.ntmps36 rfl rfl ?_
  intro Rb hRb hRn
  refine T_seq ?_
  refine T_region ?_
  refine S_ 4 rfl rfl rfl _ (y_assign rfl rfl) ?_
  refine S_go (fun _ _ h => h) ?_
  refine T_seq ?_
  refine T_region ?_
  refine S_ 5 rfl rfl rfl _ (y_move rfl rfl) ?_
  refine S_ 6 rfl rfl rfl _ (y_move rfl rfl) ?_
  refine S_ 7 rfl rfl rfl _ (y_call rfl rfl rfl cf73 (fun _ w hM => IndexFK_any A q c l g cap p w (hl.below hM.below) hq hcf fun x hx w1 hb => hA x hx w1 (hM.below.trans (hb.mono hM.below.size)))) ?_
  refine S_ 8 rfl rfl rfl _ (y_bin rfl rfl rfl (fun _ => b_geq)) ?_
  refine S_ 4 rfl rfl rfl _ (y_assign rfl rfl) ?_
  refine S_go (fun _ _ h => h) ?_
  refine T_ret (fun a w hF hM => hRb a w (post1 rfl rfl (fun w hM => ?_) a w hF hM))
  exact ⟨rfl, hM.below⟩
theorem ContFF_ask {l : Sl Flt} {f : Fn} {p : Flt → Bool} {w : World} (hl : FltsOk w l) (hs : ∀ f ∈ l.l, FltS f) (hv : AskF Flt.val FltR f p w) :
    Calls Tryd.prog 28 #[.slice l.A l.q l.c, .func (.func f.g) #[] f.cap] w fun e w' => e = .returned (.bool (l.l.any p)) ∧ Below w.heap.size w w' :=
  ContFF_any l.A l.q l.c l.l f.g f.cap p w hl.ok.t hl.q hv.1 fun x hx w' hb => hv.2 w' hb x ⟨(hl.n x hx).below hb, hs x hx⟩
theorem ContFR_ask {l : Sl Frm} {f : Fn} {p : Frm → Bool} {w : World} (hl : FrmsOk w l) (hs : ∀ x ∈ l.l, x.f.length ≤ 2000 ∧ x.fi.length ≤ 2000) (hv : AskF Frm.val FrmR f p w) :
    Calls Tryd.prog 31 #[.slice l.A l.q l.c, .func (.func f.g) #[] f.cap] w fun e w' => e = .returned (.bool (l.l.any p)) ∧ Below w.heap.size w w' :=
  ContFR_any l.A l.q l.c l.l f.g f.cap p w hl.ok.t hl.q hv.1 fun x hx w' hb => hv.2 w' hb x (hs x hx)
end Go.Proofs.YtfmbgaaonfgenaaDoor
end
