/- The law ReleaseOwners walked. Conditions: those of the theorem. -/
import Derived.Test.YtoeipmepmlikcaaDoorRRd
import Derived.Test.YtoeipmepmlikcaaDoorRGlo
namespace Go.Proofs.YtoeipmepmlikcaaDoor
set_option linter.unusedSimpArgs false
set_option linter.unusedVariables false
set_option maxRecDepth 20000
open Go.RowKit Go.Eng
theorem told_any (v want : List UInt8) (e f : Int) (w : World) :
    Calls Tryd.prog 22 #[str v, .int .i64 e, str want, .int .i64 f] w fun en w' => en = .returned (.bool (decide (v = if f = 0 then want else []) && decide (e = f))) ∧ Below w.heap.size w w' := by
  refine enter_args (args := [str v, .int .i64 e, str want, .int .i64 f]) (F := _) Tryd.func22 rfl Tryd.ntmps22 rfl rfl ?_
  intro Rb hRb hRn
  refine T_seq ?_
  refine T_region ?_
  refine S_ 8 rfl rfl rfl _ (y_assign rfl rfl) ?_
  refine S_go (fun _ _ h => h) ?_
  refine T_seq ?_
  refine T_region ?_
  refine S_ 9 rfl rfl rfl _ (y_assign rfl rfl) ?_
  refine S_go (fun _ _ h => h) ?_
  refine T_seq ?_
  refine T_seq ?_
  refine T_region ?_
  refine S_ 10 rfl rfl rfl _ (y_move rfl rfl) ?_
  refine S_ 11 rfl rfl rfl _ (y_bin rfl rfl rfl (fun _ => b_neq)) ?_
  refine S_go (fun _ _ h => h) ?_
  refine T_cond rfl (fun h11 => ?_) (fun h11 => ?_)
  · try simp only [decide_eq_true_eq, decide_eq_false_iff_not, Bool.or_eq_true, Bool.or_eq_false_iff, Bool.and_eq_true, Bool.and_eq_false_iff, Bool.not_eq_true', Bool.not_eq_false', Bool.not_eq_true, Bool.not_eq_false, Bool.not_true, Bool.not_false, Int.not_lt, Int.not_le, not_or, not_and, Classical.not_not] at h11
    refine T_region ?_
    refine S_ 12 rfl rfl rfl _ (y_move rfl rfl) ?_
    refine S_ 2 rfl rfl rfl _ (y_assign rfl rfl) ?_
    refine S_go (fun _ _ h => h) ?_
    refine T_seq ?_
    refine T_region ?_
    refine S_ 13 rfl rfl rfl _ (y_move rfl rfl) ?_
    refine S_ 14 rfl rfl rfl _ (y_move rfl rfl) ?_
    refine S_ 15 rfl rfl rfl _ (y_bin rfl rfl rfl (fun _ => b_eqls)) ?_
    refine S_ 16 rfl rfl rfl _ (y_move rfl rfl) ?_
    refine Sg_ 17 rfl rfl rfl rfl rfl rfl _ (y_move rfl rfl) ?_
    refine Sg_ 18 rfl rfl rfl rfl rfl rfl _ (y_move rfl rfl) ?_
    refine Sg_ 19 rfl rfl rfl rfl rfl rfl _ (y_bin rfl rfl rfl (fun _ => b_eql)) ?_
    refine S_ 20 rfl rfl rfl _ (y_and rfl rfl rfl) ?_
    refine S_ 8 rfl rfl rfl _ (y_assign rfl rfl) ?_
    refine S_go (fun _ _ h => h) ?_
    refine T_ret (fun a w hF hM => hRb a w (post1 rfl rfl (fun w hM => ?_) a w hF hM))
    exact ⟨by rw [if_neg h11], hM.below⟩
  · try simp only [decide_eq_true_eq, decide_eq_false_iff_not, Bool.or_eq_true, Bool.or_eq_false_iff, Bool.and_eq_true, Bool.and_eq_false_iff, Bool.not_eq_true', Bool.not_eq_false', Bool.not_eq_true, Bool.not_eq_false, Bool.not_true, Bool.not_false, Int.not_lt, Int.not_le, not_or, not_and, Classical.not_not] at h11
    refine T_skip_go (fun _ _ h => h) ?_
    refine T_seq ?_
    refine T_region ?_
    refine S_ 13 rfl rfl rfl _ (y_move rfl rfl) ?_
    refine S_ 14 rfl rfl rfl _ (y_move rfl rfl) ?_
    refine S_ 15 rfl rfl rfl _ (y_bin rfl rfl rfl (fun _ => b_eqls)) ?_
    refine S_ 16 rfl rfl rfl _ (y_move rfl rfl) ?_
    refine Sg_ 17 rfl rfl rfl rfl rfl rfl _ (y_move rfl rfl) ?_
    refine Sg_ 18 rfl rfl rfl rfl rfl rfl _ (y_move rfl rfl) ?_
    refine Sg_ 19 rfl rfl rfl rfl rfl rfl _ (y_bin rfl rfl rfl (fun _ => b_eql)) ?_
    refine S_ 20 rfl rfl rfl _ (y_and rfl rfl rfl) ?_
    refine S_ 8 rfl rfl rfl _ (y_assign rfl rfl) ?_
    refine S_go (fun _ _ h => h) ?_
    refine T_ret (fun a w hF hM => hRb a w (post1 rfl rfl (fun w hM => ?_) a w hF hM))
    exact ⟨by rw [if_pos h11], hM.below⟩
theorem long_any (x : List UInt8) (w : World) :
    Calls Tryd.prog 16 #[str x] w fun e w' => e = .returned (.int .i64 (if (1000000 : Int) < x.length then 4 else 0)) ∧ Below w.heap.size w w' := by
  refine enter_args (args := [str x]) (F := _) Tryd.func16 rfl Tryd.ntmps16 rfl rfl ?_
  intro Rb hRb hRn
  refine T_seq ?_
  refine T_region ?_
  refine S_ 2 rfl rfl rfl _ (y_assign rfl rfl) ?_
  refine S_go (fun _ _ h => h) ?_
  refine T_seq ?_
  refine T_seq ?_
  refine T_region ?_
  refine S_ 3 rfl rfl rfl _ (y_move rfl rfl) ?_
  refine S_ 4 rfl rfl rfl _ (y_len_str rfl rfl Tryd.underlying9) ?_
  refine S_ 5 rfl rfl rfl _ (y_bin rfl rfl rfl (fun _ => b_gtr)) ?_
  refine S_go (fun _ _ h => h) ?_
  refine T_cond rfl (fun h5 => ?_) (fun h5 => ?_)
  · try simp only [decide_eq_true_eq, decide_eq_false_iff_not, Bool.or_eq_true, Bool.or_eq_false_iff, Bool.and_eq_true, Bool.and_eq_false_iff, Bool.not_eq_true', Bool.not_eq_false', Bool.not_eq_true, Bool.not_eq_false, Bool.not_true, Bool.not_false, Int.not_lt, Int.not_le, not_or, not_and, Classical.not_not] at h5
    refine T_seq ?_
    refine T_region ?_
    refine S_ 2 rfl rfl rfl _ (y_assign rfl rfl) ?_
    refine S_go (fun _ _ h => h) ?_
    refine T_ret (fun a w hF hM => hRb a w (post1 rfl rfl (fun w hM => ?_) a w hF hM))
    exact ⟨by rw [if_pos h5], hM.below⟩
  · try simp only [decide_eq_true_eq, decide_eq_false_iff_not, Bool.or_eq_true, Bool.or_eq_false_iff, Bool.and_eq_true, Bool.and_eq_false_iff, Bool.not_eq_true', Bool.not_eq_false', Bool.not_eq_true, Bool.not_eq_false, Bool.not_true, Bool.not_false, Int.not_lt, Int.not_le, not_or, not_and, Classical.not_not] at h5
    refine T_skip_go (fun _ _ h => h) ?_
    refine T_seq ?_
    refine T_region ?_
    refine S_ 2 rfl rfl rfl _ (y_assign rfl rfl) ?_
    refine S_go (fun _ _ h => h) ?_
    refine T_ret (fun a w hF hM => hRb a w (post1 rfl rfl (fun w hM => ?_) a w hF hM))
    exact ⟨by rw [if_neg (by omega)], hM.below⟩
theorem nilT {w : World} : SlT strE 1 w none 0 [] := ⟨⟨by simp, fun h => by simp at h⟩, rfl⟩
theorem listedS_any (A B : Option Addr) (q c p d : Nat) (l m : List (List UInt8)) (e x : Int) (w : World) (hl : SlT strE 1 w A q l) (hm : SlT strE 1 w B p m) (hq : q ≤ 4611686018427387904) (hp : p ≤ 4611686018427387904) (he : e = x) (hz : x ≠ 0 → l = []) (h0 : x = 0 → m = l) :
    Calls Tryd.prog 21 #[.slice A q c, .int .i64 e, .slice B p d, .int .i64 x] w fun e w' => e = .returned (.bool true) ∧ Below w.heap.size w w' := by
  subst he
  refine enter_args (args := [.slice A q c, .int .i64 e, .slice B p d, .int .i64 e]) (F := _) Tryd.func21 rfl Tryd.ntmps21 rfl rfl ?_
  intro Rb hRb hRn
  refine T_seq ?_
  refine T_region ?_
  refine S_ 8 rfl rfl rfl _ (y_assign rfl rfl) ?_
  refine S_go (fun _ _ h => h) ?_
  refine T_seq ?_
  refine T_seq ?_
  refine T_region ?_
  refine S_ 9 rfl rfl rfl _ (y_move rfl rfl) ?_
  refine S_ 10 rfl rfl rfl _ (y_bin rfl rfl rfl (fun _ => b_neq)) ?_
  refine S_go (fun _ _ h => h) ?_
  refine T_cond rfl (fun h10 => ?_) (fun h10 => ?_)
  · try simp only [decide_eq_true_eq, decide_eq_false_iff_not, Bool.or_eq_true, Bool.or_eq_false_iff, Bool.and_eq_true, Bool.and_eq_false_iff, Bool.not_eq_true', Bool.not_eq_false', Bool.not_eq_true, Bool.not_eq_false, Bool.not_true, Bool.not_false, Int.not_lt, Int.not_le, not_or, not_and, Classical.not_not] at h10
    refine T_region ?_
    refine S_nilSlice 2 (e := 9) (size := 1) ?_
    refine S_ 2 rfl rfl rfl _ (y_assign rfl rfl) ?_
    refine S_go (fun _ _ h => h) ?_
    refine T_seq ?_
    refine T_region ?_
    refine S_ 11 rfl rfl rfl _ (y_move rfl rfl) ?_
    refine S_ 12 rfl rfl rfl _ (y_move rfl rfl) ?_
    refine S_ 13 rfl rfl rfl _ (y_call rfl rfl rfl cf26 (fun _ w hM => EqualS_any _ _ _ _ _ _ l [] w (hl.below hM.below) nilT hq (by omega))) ?_
    refine S_ 14 rfl rfl rfl _ (y_move rfl rfl) ?_
    refine Sg_ 15 rfl rfl rfl rfl rfl rfl _ (y_move rfl rfl) ?_
    refine Sg_ 16 rfl rfl rfl rfl rfl rfl _ (y_move rfl rfl) ?_
    refine Sg_ 17 rfl rfl rfl rfl rfl rfl _ (y_bin rfl rfl rfl (fun _ => b_eql)) ?_
    refine S_ 18 rfl rfl rfl _ (y_and rfl rfl rfl) ?_
    refine S_ 8 rfl rfl rfl _ (y_assign rfl rfl) ?_
    refine S_go (fun _ _ h => h) ?_
    refine T_ret (fun a w hF hM => hRb a w (post1 rfl rfl (fun w hM => ?_) a w hF hM))
    exact ⟨by rw [hz h10]; simp [eqLB], hM.below⟩
  · try simp only [decide_eq_true_eq, decide_eq_false_iff_not, Bool.or_eq_true, Bool.or_eq_false_iff, Bool.and_eq_true, Bool.and_eq_false_iff, Bool.not_eq_true', Bool.not_eq_false', Bool.not_eq_true, Bool.not_eq_false, Bool.not_true, Bool.not_false, Int.not_lt, Int.not_le, not_or, not_and, Classical.not_not] at h10
    refine T_skip_go (fun _ _ h => h) ?_
    refine T_seq ?_
    refine T_region ?_
    refine S_ 11 rfl rfl rfl _ (y_move rfl rfl) ?_
    refine S_ 12 rfl rfl rfl _ (y_move rfl rfl) ?_
    refine S_ 13 rfl rfl rfl _ (y_call rfl rfl rfl cf26 (fun _ w hM => EqualS_any _ _ _ _ _ _ l m w (hl.below hM.below) (hm.below hM.below) hq hp)) ?_
    refine S_ 14 rfl rfl rfl _ (y_move rfl rfl) ?_
    refine Sg_ 15 rfl rfl rfl rfl rfl rfl _ (y_move rfl rfl) ?_
    refine Sg_ 16 rfl rfl rfl rfl rfl rfl _ (y_move rfl rfl) ?_
    refine Sg_ 17 rfl rfl rfl rfl rfl rfl _ (y_bin rfl rfl rfl (fun _ => b_eql)) ?_
    refine S_ 18 rfl rfl rfl _ (y_and rfl rfl rfl) ?_
    refine S_ 8 rfl rfl rfl _ (y_assign rfl rfl) ?_
    refine S_go (fun _ _ h => h) ?_
    refine T_ret (fun a w hF hM => hRb a w (post1 rfl rfl (fun w hM => ?_) a w hF hM))
    exact ⟨by rw [h0 h10, eqL_refl fun x => by simp [sEq]]; simp, hM.below⟩
def forS (l : Sl SOwner) (path : List UInt8) : Sl (List UInt8) := match (forRes l path).1 with
  | some x => x.w
  | none => ⟨none, 0, 0, []⟩
theorem forV_eq (l : Sl SOwner) (path : List UInt8) : forV (forRes l path).1 = .slice (forS l path).A (forS l path).q (forS l path).c := by
  unfold forS
  cases (forRes l path).1 <;> rfl
theorem lastFit_mem {path : List UInt8} {l : List SOwner} {o : SOwner} : ∀ {t : Nat}, lastFit path l t = some o → o ∈ l
  | 0, h => by cases h
  | t + 1, h => by
    rw [lastFit] at h
    split at h
    · rename_i o' ho
      split at h
      · cases h; exact mem_at ho
      · exact lastFit_mem h
    · exact lastFit_mem h
theorem for_mem {l : Sl SOwner} {path : List UInt8} {o : SOwner} (h : (forRes l path).1 = some o) : o ∈ l.l := by
  unfold forRes at h
  split at h
  · cases h
  · split at h
    · cases h
    · split at h
      · rename_i x hx
        cases h
        exact lastFit_mem hx
      · cases h
theorem forS_ok {w : World} {l : Sl SOwner} (hl : OwnsOk w l) (path : List UInt8) : SlT strE 1 w (forS l path).A (forS l path).q (forS l path).l ∧ (forS l path).q ≤ 4611686018427387904 := by
  unfold forS
  cases h : (forRes l path).1 with
  | none => exact ⟨nilT, by decide⟩
  | some o => exact ⟨(hl.n o (for_mem h)).w.t, (hl.n o (for_mem h)).q⟩
theorem ow_for {l : Sl SOwner} (h0 : ownersNo l = 0) (path : List UInt8) : (owRes l path).1 = (forRes l path).2 ∧ (owRes l path).2 = (forS l path).l := by
  unfold forS owRes forRes
  rw [if_neg (by simpa using h0)]
  split
  · exact ⟨rfl, rfl⟩
  · split
    · exact ⟨rfl, rfl⟩
    · cases lastFit path l.l l.q <;> exact ⟨rfl, rfl⟩
theorem for_no {l : Sl SOwner} (path : List UInt8) (h : (forRes l path).2 ≠ 0) : (forS l path).l = [] := by
  unfold forS
  cases h1 : (forRes l path).1 with
  | none => rfl
  | some o =>
    exfalso; apply h
    unfold forRes at h1 ⊢
    split at h1
    · cases h1
    · rename_i a
      rw [if_neg a]
      split at h1
      · cases h1
      · rename_i b
        rw [if_neg b]
        split at h1
        · rfl
        · cases h1
theorem OwnersFor2_any (l : Sl SOwner) (path : List UInt8) (w : World) (hl : OwnsOk w l) (h0 : ownersNo l = 0) :
    Calls Tryd.prog 14 #[.slice l.A l.q l.c, str path] w fun e w' => e = .returned (.tuple #[.slice (forS l path).A (forS l path).q (forS l path).c, .int .i64 (forRes l path).2]) ∧ Below w.heap.size w w' :=
  (OwnersFor_any l path w hl h0).mono fun e w' h => ⟨by rw [h.1, forV_eq], h.2⟩
theorem ownsB_le : ∀ l : List SOwner, (∀ o ∈ l, ownNo o = 0 ∧ o.w.l.length = o.w.q) → (ownsB l).length ≤ l.length * 1022
  | [], _ => by simp [ownsB]
  | a :: r, h => by
    have h1 := ownsB_le r fun o ho => h o (List.mem_cons_of_mem _ ho)
    obtain ⟨h2, h3⟩ := h a (List.mem_cons_self ..)
    have h4 := ownB_le h2 h3
    have e : ownsB (a :: r) = ownB a ++ ownsB r := rfl
    rw [e, List.length_append, List.length_cons, Nat.succ_mul]; omega
theorem ow_bad {l : Sl SOwner} (h : ownersNo l ≠ 0) (path : List UInt8) : owRes l path = (ownersNo l, []) := if_pos h
theorem owRes_le {l : Sl SOwner} (w : World) (hl : OwnsOk w l) (path : List UInt8) : (owRes l path).2.length ≤ 4611686018427387904 := by
  by_cases h : ownersNo l = 0
  · rw [(ow_for h path).2, (forS_ok hl path).1.len]; exact (forS_ok hl path).2
  · rw [ow_bad h]; exact Nat.zero_le _
set_option maxHeartbeats 3200000 in
theorem ReleaseOwners_any (l : Sl SOwner) (pat path s : List UInt8) (w : World) (hl : OwnsOk w l) (hpt : pat.length ≤ 140737488351232) (hpl : path.length ≤ 140737488351232) :
    Calls Tryd.prog 3 #[.slice l.A l.q l.c, str pat, str path, str s] w fun e w' => e = .returned (.bool true) ∧ Below w.heap.size w w' := by
  have hwho := owRes_le w hl path
  obtain ⟨hfs, hfq⟩ := forS_ok hl path
  refine enter_args (args := [.slice l.A l.q l.c, str pat, str path, str s]) (F := _) Tryd.func3 rfl Tryd.ntmps3 rfl rfl ?_
  intro Rb hRb hRn
  refine T_seq ?_
  refine T_region ?_
  refine S_ 8 rfl rfl rfl _ (y_assign rfl rfl) ?_
  refine S_go (fun _ _ h => h) ?_
  refine T_seq ?_
  refine T_region ?_
  refine S_ 26 rfl rfl rfl _ (y_move rfl rfl) ?_
  refine S_ 27 rfl rfl rfl _ (y_call rfl rfl rfl cf12 (fun _ w hM => OwnersFault_any l w (hl.below hM.below))) ?_
  refine S_ 9 rfl rfl rfl _ (y_assign rfl rfl) ?_
  refine S_go (fun _ _ h => h) ?_
  refine T_seq ?_
  refine T_region ?_
  refine S_ 29 rfl rfl rfl _ (y_move rfl rfl) ?_
  refine S_ 30 rfl rfl rfl _ (y_move rfl rfl) ?_
  refine S_callOwn 31 31 rfl rfl rfl rfl rfl rfl rfl cf13 (fun A c => .tuple #[.slice A (owRes l path).2.length c, .int .i64 (owRes l path).1]) 9 1 ((owRes l path).2.length) ((owRes l path).2.flatMap strE) (fun w hM => OwnersOf_any l path w (hl.below hM.below) (by omega)) ?_
  intro A31 c31
  refine S_ 28 rfl rfl rfl _ (y_move rfl rfl) ?_
  refine S_ 32 rfl rfl rfl _ (y_extract rfl rfl rfl) ?_
  refine S_ 33 rfl rfl rfl _ (y_extract rfl rfl rfl) ?_
  refine S_ 10 rfl rfl rfl _ (y_assign rfl rfl) ?_
  refine S_ 11 rfl rfl rfl _ (y_assign rfl rfl) ?_
  refine S_go (fun _ _ h => h) ?_
  refine T_seq ?_
  refine T_region ?_
  refine S_ 34 rfl rfl rfl _ (y_move rfl rfl) ?_
  refine S_ 35 rfl rfl rfl _ (y_move rfl rfl) ?_
  refine S_ 12 rfl rfl rfl _ (y_assign rfl rfl) ?_
  refine S_ 13 rfl rfl rfl _ (y_assign rfl rfl) ?_
  refine S_go (fun _ _ h => h) ?_
  refine T_seq ?_
  refine T_region ?_
  refine S_nilSlice 14 (e := 9) (size := 1) ?_
  refine S_ 14 rfl rfl rfl _ (y_assign rfl rfl) ?_
  refine S_go (fun _ _ h => h) ?_
  refine T_seq ?_
  refine T_region ?_
  refine S_ 15 rfl rfl rfl _ (y_assign rfl rfl) ?_
  refine S_go (fun _ _ h => h) ?_
  refine T_seq ?_
  refine T_seq ?_
  refine T_region ?_
  refine S_ 36 rfl rfl rfl _ (y_move rfl rfl) ?_
  refine S_ 37 rfl rfl rfl _ (y_bin rfl rfl rfl (fun _ => b_eql)) ?_
  refine S_go (fun _ _ h => h) ?_
  refine T_cond rfl (fun h37 => ?_) (fun h37 => ?_)
  · try simp only [decide_eq_true_eq, decide_eq_false_iff_not, Bool.or_eq_true, Bool.or_eq_false_iff, Bool.and_eq_true, Bool.and_eq_false_iff, Bool.not_eq_true', Bool.not_eq_false', Bool.not_eq_true, Bool.not_eq_false, Bool.not_true, Bool.not_false, Int.not_lt, Int.not_le, not_or, not_and, Classical.not_not] at h37
    have h37 : ownersNo l = 0 := h37
    have hot : otRes l = (0, ownsB l.l) := if_neg (by simpa using h37)
    obtain ⟨ho1, ho2⟩ := owns0 h37
    have hol : (ownsB l.l).length ≤ 1000000 := by have := ownsB_le l.l fun o ho => ⟨ho2 o ho, (hl.n o ho).w.t.len⟩; rw [hl.ok.t.len] at this; omega
    refine T_seq ?_
    refine T_region ?_
    refine S_ 39 rfl rfl rfl _ (y_move rfl rfl) ?_
    refine S_ 40 rfl rfl rfl _ (y_move rfl rfl) ?_
    refine S_ 41 rfl rfl rfl _ (y_call rfl rfl rfl cf14 (fun _ w hM => OwnersFor2_any l path w (hl.below hM.below) h37)) ?_
    refine S_ 38 rfl rfl rfl _ (y_move rfl rfl) ?_
    refine S_ 42 rfl rfl rfl _ (y_extract rfl rfl rfl) ?_
    refine S_ 43 rfl rfl rfl _ (y_extract rfl rfl rfl) ?_
    refine S_ 14 rfl rfl rfl _ (y_assign rfl rfl) ?_
    refine S_ 12 rfl rfl rfl _ (y_assign rfl rfl) ?_
    refine S_go (fun _ _ h => h) ?_
    refine T_seq ?_
    refine T_region ?_
    refine S_ 44 rfl rfl rfl _ (y_move rfl rfl) ?_
    refine S_ 45 rfl rfl rfl _ (y_call rfl rfl rfl cf15 (fun _ w hM => OwnersWords_any l w (hl.below hM.below) h37)) ?_
    refine S_ 15 rfl rfl rfl _ (y_assign rfl rfl) ?_
    refine S_go (fun _ _ h => h) ?_
    refine T_region ?_
    refine S_ 46 rfl rfl rfl _ (y_move rfl rfl) ?_
    refine S_ 47 rfl rfl rfl _ (y_call rfl rfl rfl cf16 (fun _ w _ => long_any _ w)) ?_
    refine S_ 13 rfl rfl rfl _ (y_assign rfl rfl) ?_
    refine S_go (fun _ _ h => h) ?_
    refine T_seq ?_
    refine T_region ?_
    refine S_ 49 rfl rfl rfl _ (y_move rfl rfl) ?_
    refine S_ 50 rfl rfl rfl _ (y_call rfl rfl rfl cf17 (fun _ w hM => OwnersText_any l w (hl.below hM.below))) ?_
    refine S_ 48 rfl rfl rfl _ (y_move rfl rfl) ?_
    refine S_ 51 rfl rfl rfl _ (y_extract rfl rfl rfl) ?_
    refine S_ 52 rfl rfl rfl _ (y_extract rfl rfl rfl) ?_
    refine S_ 16 rfl rfl rfl _ (y_assign rfl rfl) ?_
    refine S_ 17 rfl rfl rfl _ (y_assign rfl rfl) ?_
    refine S_go (fun _ _ h => h) ?_
    refine T_seq ?_
    refine T_seq ?_
    refine T_region ?_
    refine S_ 53 rfl rfl rfl _ (y_move rfl rfl) ?_
    refine S_ 54 rfl rfl rfl _ (y_call rfl rfl rfl cf18 (fun _ w hM => CheckOwners_any l w (hl.below hM.below))) ?_
    refine S_ 55 rfl rfl rfl _ (y_move rfl rfl) ?_
    refine S_ 56 rfl rfl rfl _ (y_bin rfl rfl rfl (fun _ => b_neq)) ?_
    refine S_ 57 rfl rfl rfl _ (y_move rfl rfl) ?_
    refine Sg_ 58 rfl rfl rfl rfl rfl rfl _ (y_move rfl rfl) ?_
    refine Sg_ 59 rfl rfl rfl rfl rfl rfl _ (y_move rfl rfl) ?_
    refine Sg_ 60 rfl rfl rfl rfl rfl rfl _ (y_call rfl rfl rfl cf19 (fun _ w _ => Fits_any pat path (by omega) (by omega) w)) ?_
    refine Sg_ 61 rfl rfl rfl rfl rfl rfl _ (y_move rfl rfl) ?_
    refine Sg_ 62 rfl rfl rfl rfl rfl rfl _ (y_move rfl rfl) ?_
    refine Sg_ 63 rfl rfl rfl rfl rfl rfl _ (y_call rfl rfl rfl cf20 (fun _ w _ => PathFits_any pat path (by omega) (by omega) w)) ?_
    refine Sg_ 64 rfl rfl rfl rfl rfl rfl _ (y_bin rfl rfl rfl (fun _ => b_neqb Tryd.underlying4)) ?_
    refine S_ 65 rfl rfl rfl _ (y_or rfl rfl rfl) ?_
    refine S_ 66 rfl rfl rfl _ (y_move rfl rfl) ?_
    refine Sg_ 67 rfl rfl rfl rfl rfl rfl _ (y_move rfl rfl) ?_
    refine Sg_ 68 rfl rfl rfl rfl rfl rfl _ (y_move rfl rfl) ?_
    refine Sg_ 69 rfl rfl rfl rfl rfl rfl _ (y_move rfl rfl) ?_
    refine Sg_ 70 rfl rfl rfl rfl rfl rfl _ (y_move rfl rfl) ?_
    refine Sg_ 71 rfl rfl rfl rfl rfl rfl _ (y_call rfl rfl rfl cf21 (fun _ w hM => listedS_any _ _ _ _ _ _ (owRes l path).2 (forS l path).l _ _ w (owned_T (enc := strE) hM rfl (i := 31) rfl) (hfs.below hM.below) hwho hfq (ow_for h37 path).1 (fun h => by rw [(ow_for h37 path).2, for_no path h]) (fun _ => (ow_for h37 path).2.symm))) ?_
    refine Sg_ 72 rfl rfl rfl rfl rfl rfl _ (y_not rfl rfl) ?_
    refine S_ 73 rfl rfl rfl _ (y_or rfl rfl rfl) ?_
    refine S_ 74 rfl rfl rfl _ (y_move rfl rfl) ?_
    refine Sg_ 75 rfl rfl rfl rfl rfl rfl _ (y_move rfl rfl) ?_
    refine Sg_ 76 rfl rfl rfl rfl rfl rfl _ (y_move rfl rfl) ?_
    refine Sg_ 77 rfl rfl rfl rfl rfl rfl _ (y_move rfl rfl) ?_
    refine Sg_ 78 rfl rfl rfl rfl rfl rfl _ (y_move rfl rfl) ?_
    refine Sg_ 79 rfl rfl rfl rfl rfl rfl _ (y_call rfl rfl rfl cf22 (fun _ w _ => told_any _ _ _ _ w)) ?_
    refine Sg_ 80 rfl rfl rfl rfl rfl rfl _ (y_not rfl rfl) ?_
    refine S_ 81 rfl rfl rfl _ (y_or rfl rfl rfl) ?_
    refine S_go (fun _ _ h => h) ?_
    refine T_cond rfl (fun h81 => ?_) (fun h81 => ?_)
    · skip
      simp [hot, show ¬ ((1000000 : Int) < (ownsB l.l).length) by omega] at h81
    · skip
      refine T_skip_go (fun _ _ h => h) ?_
      refine T_seq ?_
      refine T_seq ?_
      refine T_region ?_
      refine S_ 82 rfl rfl rfl _ (y_move rfl rfl) ?_
      refine S_ 83 rfl rfl rfl _ (y_move rfl rfl) ?_
      refine S_buildSlice 84 84 rfl rfl rfl rfl rfl Tryd.underlying25 inf9 rfl (by decide) (by decide) rfl rfl (by decide) rfl (_) rfl ?_
      intro b84
      refine S_ 85 rfl rfl rfl _ (y_len_slice rfl rfl Tryd.underlying25) ?_
      refine S_ 86 rfl rfl rfl _ (y_move rfl rfl) ?_
      refine S_go (fun _ _ h => h) ?_
      refine T_block ?_
      refine T_loopK1 (kf := [(8, 8), (19, 25), (86, 116)]) (kl := [(8, 8), (19, 25), (84, 84), (86, 116)]) (fun (i : Nat) => [(86, true, .int .i64 (i : Int))]) (fun (i : Nat) => [(84, .own 9 1 (.slice (some ⟨b84, 0, none⟩) 2 2) 2 (([s, ownsB l.l] : List (List UInt8)).flatMap strE))]) (fun (i : Nat) => i ≤ 2) (fun (i : Nat) => 2 - i) 0 (by repeat (first | exact kf_nil | (apply kf_in; focus rfl) | (apply kf_out; focus rfl))) (by repeat (first | exact kl_nil | exact kl_rest (by assumption) rfl | (apply kl_in; focus rfl) | (apply kl_out; focus rfl))) ?_ ?_ ?_ ?_
      · omega
      · exact ⟨rfl, trivial⟩
      · exact ⟨rfl, trivial⟩
      rintro i hp1
      refine T_seq ?_
      refine T_region ?_
      refine S_ 87 rfl rfl rfl _ (y_bin rfl rfl rfl (fun _ => b_lss)) ?_
      refine S_go (fun _ _ h => h) ?_
      refine T_seq ?_
      refine T_cond rfl (fun h87 => ?_) (fun h87 => ?_)
      · try simp only [decide_eq_true_eq, decide_eq_false_iff_not, Bool.or_eq_true, Bool.or_eq_false_iff, Bool.and_eq_true, Bool.and_eq_false_iff, Bool.not_eq_true', Bool.not_eq_false', Bool.not_eq_true, Bool.not_eq_false, Bool.not_true, Bool.not_false, Int.not_lt, Int.not_le, not_or, not_and, Classical.not_not] at h87
        obtain ⟨u, hx1⟩ : ∃ u, ([s, ownsB l.l] : List (List UInt8))[i]? = some u := ⟨_, List.getElem?_eq_getElem (by show i < 2; omega)⟩
        refine T_skip_go (fun _ _ h => h) ?_
        refine T_seq ?_
        refine T_block ?_
        refine T_seq ?_
        refine T_region ?_
        refine S_ 88 rfl rfl rfl _ (y_indexOwn 84 rfl rfl rfl rfl Tryd.underlying25 sz9 (fun _ => by omega)) ?_
        refine S_ 89 rfl rfl rfl _ (y_loadO1 84 (val := (fun l : List UInt8 => str l)) rfl rfl rfl rfl (fun _ => hx1) Tryd.underlying9 rfl) ?_
        refine S_ 19 rfl rfl rfl _ (y_assign rfl rfl) ?_
        refine S_go (fun _ _ h => h) ?_
        refine T_seq ?_
        refine T_region ?_
        refine S_ 91 rfl rfl rfl _ (y_move rfl rfl) ?_
        refine S_callN 92 [] [(900, 920)] (X := ReadR) rfl rfl rfl rfl rfl rfl rfl cf23 rfl (fun x => .tuple #[.slice x.A x.l.length x.c, .int .i64 (rdRes u).2.1, .int .i64 (rdRes u).2.2]) (fun x => x.Ok w u) (fun x => [(900, .many x.rs)]) (fun _ => rfl) (fun _ => rfl) (fun K1 hK1 w1 hM => ReadOwners_any hK1 u w1 hM) ?_
        intro x92 hx92
        refine S_ 90 rfl rfl rfl _ (y_move rfl rfl) ?_
        refine S_ 93 rfl rfl rfl _ (y_extract rfl rfl rfl) ?_
        refine S_ 94 rfl rfl rfl _ (y_extract rfl rfl rfl) ?_
        refine S_ 95 rfl rfl rfl _ (y_extract rfl rfl rfl) ?_
        refine S_ 20 rfl rfl rfl _ (y_assign rfl rfl) ?_
        refine S_ 21 rfl rfl rfl _ (y_assign rfl rfl) ?_
        refine S_ 22 rfl rfl rfl _ (y_assign rfl rfl) ?_
        refine S_go (fun _ _ h => h) ?_
        refine T_seq ?_
        refine T_region ?_
        refine S_ 97 rfl rfl rfl _ (y_move rfl rfl) ?_
        refine S_callN 98 [] [(900, 921)] (X := ReadR) rfl rfl rfl rfl rfl rfl rfl cf24 rfl (fun x => .tuple #[.slice x.A x.l.length x.c, .int .i64 (rdRes u).2.1, .int .i64 (rdRes u).2.2]) (fun x => x.Ok w u) (fun x => [(900, .many x.rs)]) (fun _ => rfl) (fun _ => rfl) (fun K1 hK1 w1 hM => OwnersRead_any hK1 u w1 hM) ?_
        intro x98 hx98
        refine S_ 96 rfl rfl rfl _ (y_move rfl rfl) ?_
        refine S_ 99 rfl rfl rfl _ (y_extract rfl rfl rfl) ?_
        refine S_ 100 rfl rfl rfl _ (y_extract rfl rfl rfl) ?_
        refine S_ 101 rfl rfl rfl _ (y_extract rfl rfl rfl) ?_
        refine S_ 23 rfl rfl rfl _ (y_assign rfl rfl) ?_
        refine S_ 24 rfl rfl rfl _ (y_assign rfl rfl) ?_
        refine S_ 25 rfl rfl rfl _ (y_assign rfl rfl) ?_
        refine S_go (fun _ _ h => h) ?_
        refine T_seq ?_
        refine T_region ?_
        refine S_ 102 rfl rfl rfl _ (y_move rfl rfl) ?_
        refine S_ 103 rfl rfl rfl _ (y_move rfl rfl) ?_
        refine S_ 104 rfl rfl rfl _ (y_bin rfl rfl rfl (fun _ => b_neq)) ?_
        refine S_ 105 rfl rfl rfl _ (y_move rfl rfl) ?_
        refine Sg_ 106 rfl rfl rfl rfl rfl rfl _ (y_move rfl rfl) ?_
        refine Sg_ 107 rfl rfl rfl rfl rfl rfl _ (y_move rfl rfl) ?_
        refine Sg_ 108 rfl rfl rfl rfl rfl rfl _ (y_bin rfl rfl rfl (fun _ => b_neq)) ?_
        refine S_ 109 rfl rfl rfl _ (y_or rfl rfl rfl) ?_
        refine S_ 110 rfl rfl rfl _ (y_move rfl rfl) ?_
        refine Sg_ 111 rfl rfl rfl rfl rfl rfl _ (y_move rfl rfl) ?_
        refine Sg_ 112 rfl rfl rfl rfl rfl rfl _ (y_move rfl rfl) ?_
        refine Sg_ 113 rfl rfl rfl rfl rfl rfl _ (y_call rfl rfl rfl cf25 (fun _ w hM => SameOwners_any x92.sl x98.sl w (hx92.2.1.at hM 920 rfl) (hx98.2.1.at hM 921 rfl))) ?_
        refine Sg_ 114 rfl rfl rfl rfl rfl rfl _ (y_not rfl rfl) ?_
        refine S_ 115 rfl rfl rfl _ (y_or rfl rfl rfl) ?_
        refine S_go (fun _ _ h => h) ?_
        refine T_cond rfl (fun h115 => ?_) (fun h115 => ?_)
        · skip
          simp [same_says x92.l x98.l (hx92.1.trans hx98.1.symm), ReadR.sl] at h115
        · skip
          refine T_skip_go (fun _ _ h => h) ?_
          refine T_region ?_
          refine S_ 116 rfl rfl rfl _ (y_bin rfl rfl rfl (fun hg => b_add (by omega))) ?_
          refine S_ 86 rfl rfl rfl _ (y_move rfl rfl) ?_
          refine S_nil (nextK1 (kf := [(8, 8), (19, 25), (86, 116)]) (kl := [(8, 8), (19, 25), (84, 84), (86, 116)]) (i + 1) (by repeat (first | exact kf_nil | (apply kf_in; focus rfl) | (apply kf_out; focus rfl))) (by repeat (first | exact kl_none | exact kl_tail (by assumption) rfl (by repeat (first | exact ti_refl | (apply ti_cons; focus rfl))) | refine kl_cons rfl rfl ?_)) ?_ ?_ ?_ ?_)
          · omega
          · omega
          · exact ⟨rfl, trivial⟩
          · exact ⟨rfl, trivial⟩
      · try simp only [decide_eq_true_eq, decide_eq_false_iff_not, Bool.or_eq_true, Bool.or_eq_false_iff, Bool.and_eq_true, Bool.and_eq_false_iff, Bool.not_eq_true', Bool.not_eq_false', Bool.not_eq_true, Bool.not_eq_false, Bool.not_true, Bool.not_false, Int.not_lt, Int.not_le, not_or, not_and, Classical.not_not] at h87
        refine T_exit_go (fun _ _ h => h) ?_
        refine T_seq ?_
        refine T_region ?_
        refine S_ 117 rfl rfl rfl _ (y_move rfl rfl) ?_
        refine S_ 118 rfl rfl rfl _ (y_move rfl rfl) ?_
        refine S_ 119 rfl rfl rfl _ (y_call rfl rfl rfl cf26 (fun _ w hM => EqualS_any _ _ _ _ _ _ (owRes l path).2 (forS l path).l w (owned_T (enc := strE) hM rfl (i := 31) rfl) (hfs.below hM.below) hwho hfq)) ?_
        refine S_ 120 rfl rfl rfl _ (y_move rfl rfl) ?_
        refine Sg_ 121 rfl rfl rfl rfl rfl rfl _ (y_move rfl rfl) ?_
        refine Sg_ 122 rfl rfl rfl rfl rfl rfl _ (y_bin rfl rfl rfl (fun _ => b_neq)) ?_
        refine S_ 123 rfl rfl rfl _ (y_or rfl rfl rfl) ?_
        refine S_ 8 rfl rfl rfl _ (y_assign rfl rfl) ?_
        refine S_go (fun _ _ h => h) ?_
        refine T_ret (fun a w hF hM => hRb a w (post1 rfl rfl (fun w hM => ?_) a w hF hM))
        exact ⟨by rw [(ow_for h37 path).2, eqL_refl fun x => by simp [sEq]]; rfl, hM.below⟩
  · try simp only [decide_eq_true_eq, decide_eq_false_iff_not, Bool.or_eq_true, Bool.or_eq_false_iff, Bool.and_eq_true, Bool.and_eq_false_iff, Bool.not_eq_true', Bool.not_eq_false', Bool.not_eq_true, Bool.not_eq_false, Bool.not_true, Bool.not_false, Int.not_lt, Int.not_le, not_or, not_and, Classical.not_not] at h37
    have h37 : ownersNo l ≠ 0 := h37
    have hot : otRes l = (ownersNo l, []) := if_pos h37
    refine T_skip_go (fun _ _ h => h) ?_
    refine T_seq ?_
    refine T_region ?_
    refine S_ 49 rfl rfl rfl _ (y_move rfl rfl) ?_
    refine S_ 50 rfl rfl rfl _ (y_call rfl rfl rfl cf17 (fun _ w hM => OwnersText_any l w (hl.below hM.below))) ?_
    refine S_ 48 rfl rfl rfl _ (y_move rfl rfl) ?_
    refine S_ 51 rfl rfl rfl _ (y_extract rfl rfl rfl) ?_
    refine S_ 52 rfl rfl rfl _ (y_extract rfl rfl rfl) ?_
    refine S_ 16 rfl rfl rfl _ (y_assign rfl rfl) ?_
    refine S_ 17 rfl rfl rfl _ (y_assign rfl rfl) ?_
    refine S_go (fun _ _ h => h) ?_
    refine T_seq ?_
    refine T_seq ?_
    refine T_region ?_
    refine S_ 53 rfl rfl rfl _ (y_move rfl rfl) ?_
    refine S_ 54 rfl rfl rfl _ (y_call rfl rfl rfl cf18 (fun _ w hM => CheckOwners_any l w (hl.below hM.below))) ?_
    refine S_ 55 rfl rfl rfl _ (y_move rfl rfl) ?_
    refine S_ 56 rfl rfl rfl _ (y_bin rfl rfl rfl (fun _ => b_neq)) ?_
    refine S_ 57 rfl rfl rfl _ (y_move rfl rfl) ?_
    refine Sg_ 58 rfl rfl rfl rfl rfl rfl _ (y_move rfl rfl) ?_
    refine Sg_ 59 rfl rfl rfl rfl rfl rfl _ (y_move rfl rfl) ?_
    refine Sg_ 60 rfl rfl rfl rfl rfl rfl _ (y_call rfl rfl rfl cf19 (fun _ w _ => Fits_any pat path (by omega) (by omega) w)) ?_
    refine Sg_ 61 rfl rfl rfl rfl rfl rfl _ (y_move rfl rfl) ?_
    refine Sg_ 62 rfl rfl rfl rfl rfl rfl _ (y_move rfl rfl) ?_
    refine Sg_ 63 rfl rfl rfl rfl rfl rfl _ (y_call rfl rfl rfl cf20 (fun _ w _ => PathFits_any pat path (by omega) (by omega) w)) ?_
    refine Sg_ 64 rfl rfl rfl rfl rfl rfl _ (y_bin rfl rfl rfl (fun _ => b_neqb Tryd.underlying4)) ?_
    refine S_ 65 rfl rfl rfl _ (y_or rfl rfl rfl) ?_
    refine S_ 66 rfl rfl rfl _ (y_move rfl rfl) ?_
    refine Sg_ 67 rfl rfl rfl rfl rfl rfl _ (y_move rfl rfl) ?_
    refine Sg_ 68 rfl rfl rfl rfl rfl rfl _ (y_move rfl rfl) ?_
    refine Sg_ 69 rfl rfl rfl rfl rfl rfl _ (y_move rfl rfl) ?_
    refine Sg_ 70 rfl rfl rfl rfl rfl rfl _ (y_move rfl rfl) ?_
    refine Sg_ 71 rfl rfl rfl rfl rfl rfl _ (y_call rfl rfl rfl cf21 (fun _ w hM => listedS_any _ _ _ _ _ _ (owRes l path).2 [] _ _ w (owned_T (enc := strE) hM rfl (i := 31) rfl) nilT hwho (by decide) (by rw [ow_bad h37]) (fun _ => by rw [ow_bad h37]) (fun h => absurd h h37))) ?_
    refine Sg_ 72 rfl rfl rfl rfl rfl rfl _ (y_not rfl rfl) ?_
    refine S_ 73 rfl rfl rfl _ (y_or rfl rfl rfl) ?_
    refine S_ 74 rfl rfl rfl _ (y_move rfl rfl) ?_
    refine Sg_ 75 rfl rfl rfl rfl rfl rfl _ (y_move rfl rfl) ?_
    refine Sg_ 76 rfl rfl rfl rfl rfl rfl _ (y_move rfl rfl) ?_
    refine Sg_ 77 rfl rfl rfl rfl rfl rfl _ (y_move rfl rfl) ?_
    refine Sg_ 78 rfl rfl rfl rfl rfl rfl _ (y_move rfl rfl) ?_
    refine Sg_ 79 rfl rfl rfl rfl rfl rfl _ (y_call rfl rfl rfl cf22 (fun _ w _ => told_any _ _ _ _ w)) ?_
    refine Sg_ 80 rfl rfl rfl rfl rfl rfl _ (y_not rfl rfl) ?_
    refine S_ 81 rfl rfl rfl _ (y_or rfl rfl rfl) ?_
    refine S_go (fun _ _ h => h) ?_
    refine T_cond rfl (fun h81 => ?_) (fun h81 => ?_)
    · skip
      simp [hot] at h81
    · skip
      refine T_skip_go (fun _ _ h => h) ?_
      refine T_seq ?_
      refine T_seq ?_
      refine T_region ?_
      refine S_ 82 rfl rfl rfl _ (y_move rfl rfl) ?_
      refine S_ 83 rfl rfl rfl _ (y_move rfl rfl) ?_
      refine S_buildSlice 84 84 rfl rfl rfl rfl rfl Tryd.underlying25 inf9 rfl (by decide) (by decide) rfl rfl (by decide) rfl (_) rfl ?_
      intro b84
      refine S_ 85 rfl rfl rfl _ (y_len_slice rfl rfl Tryd.underlying25) ?_
      refine S_ 86 rfl rfl rfl _ (y_move rfl rfl) ?_
      refine S_go (fun _ _ h => h) ?_
      refine T_block ?_
      refine T_loopK1 (kf := [(8, 8), (19, 25), (86, 116)]) (kl := [(8, 8), (19, 25), (84, 84), (86, 116)]) (fun (i : Nat) => [(86, true, .int .i64 (i : Int))]) (fun (i : Nat) => [(84, .own 9 1 (.slice (some ⟨b84, 0, none⟩) 2 2) 2 (([s, []] : List (List UInt8)).flatMap strE))]) (fun (i : Nat) => i ≤ 2) (fun (i : Nat) => 2 - i) 0 (by repeat (first | exact kf_nil | (apply kf_in; focus rfl) | (apply kf_out; focus rfl))) (by repeat (first | exact kl_nil | exact kl_rest (by assumption) rfl | (apply kl_in; focus rfl) | (apply kl_out; focus rfl))) ?_ ?_ ?_ ?_
      · omega
      · exact ⟨rfl, trivial⟩
      · exact ⟨rfl, trivial⟩
      rintro i hp1
      refine T_seq ?_
      refine T_region ?_
      refine S_ 87 rfl rfl rfl _ (y_bin rfl rfl rfl (fun _ => b_lss)) ?_
      refine S_go (fun _ _ h => h) ?_
      refine T_seq ?_
      refine T_cond rfl (fun h87 => ?_) (fun h87 => ?_)
      · try simp only [decide_eq_true_eq, decide_eq_false_iff_not, Bool.or_eq_true, Bool.or_eq_false_iff, Bool.and_eq_true, Bool.and_eq_false_iff, Bool.not_eq_true', Bool.not_eq_false', Bool.not_eq_true, Bool.not_eq_false, Bool.not_true, Bool.not_false, Int.not_lt, Int.not_le, not_or, not_and, Classical.not_not] at h87
        obtain ⟨u, hx1⟩ : ∃ u, ([s, []] : List (List UInt8))[i]? = some u := ⟨_, List.getElem?_eq_getElem (by show i < 2; omega)⟩
        refine T_skip_go (fun _ _ h => h) ?_
        refine T_seq ?_
        refine T_block ?_
        refine T_seq ?_
        refine T_region ?_
        refine S_ 88 rfl rfl rfl _ (y_indexOwn 84 rfl rfl rfl rfl Tryd.underlying25 sz9 (fun _ => by omega)) ?_
        refine S_ 89 rfl rfl rfl _ (y_loadO1 84 (val := (fun l : List UInt8 => str l)) rfl rfl rfl rfl (fun _ => hx1) Tryd.underlying9 rfl) ?_
        refine S_ 19 rfl rfl rfl _ (y_assign rfl rfl) ?_
        refine S_go (fun _ _ h => h) ?_
        refine T_seq ?_
        refine T_region ?_
        refine S_ 91 rfl rfl rfl _ (y_move rfl rfl) ?_
        refine S_callN 92 [] [(900, 920)] (X := ReadR) rfl rfl rfl rfl rfl rfl rfl cf23 rfl (fun x => .tuple #[.slice x.A x.l.length x.c, .int .i64 (rdRes u).2.1, .int .i64 (rdRes u).2.2]) (fun x => x.Ok w u) (fun x => [(900, .many x.rs)]) (fun _ => rfl) (fun _ => rfl) (fun K1 hK1 w1 hM => ReadOwners_any hK1 u w1 hM) ?_
        intro x92 hx92
        refine S_ 90 rfl rfl rfl _ (y_move rfl rfl) ?_
        refine S_ 93 rfl rfl rfl _ (y_extract rfl rfl rfl) ?_
        refine S_ 94 rfl rfl rfl _ (y_extract rfl rfl rfl) ?_
        refine S_ 95 rfl rfl rfl _ (y_extract rfl rfl rfl) ?_
        refine S_ 20 rfl rfl rfl _ (y_assign rfl rfl) ?_
        refine S_ 21 rfl rfl rfl _ (y_assign rfl rfl) ?_
        refine S_ 22 rfl rfl rfl _ (y_assign rfl rfl) ?_
        refine S_go (fun _ _ h => h) ?_
        refine T_seq ?_
        refine T_region ?_
        refine S_ 97 rfl rfl rfl _ (y_move rfl rfl) ?_
        refine S_callN 98 [] [(900, 921)] (X := ReadR) rfl rfl rfl rfl rfl rfl rfl cf24 rfl (fun x => .tuple #[.slice x.A x.l.length x.c, .int .i64 (rdRes u).2.1, .int .i64 (rdRes u).2.2]) (fun x => x.Ok w u) (fun x => [(900, .many x.rs)]) (fun _ => rfl) (fun _ => rfl) (fun K1 hK1 w1 hM => OwnersRead_any hK1 u w1 hM) ?_
        intro x98 hx98
        refine S_ 96 rfl rfl rfl _ (y_move rfl rfl) ?_
        refine S_ 99 rfl rfl rfl _ (y_extract rfl rfl rfl) ?_
        refine S_ 100 rfl rfl rfl _ (y_extract rfl rfl rfl) ?_
        refine S_ 101 rfl rfl rfl _ (y_extract rfl rfl rfl) ?_
        refine S_ 23 rfl rfl rfl _ (y_assign rfl rfl) ?_
        refine S_ 24 rfl rfl rfl _ (y_assign rfl rfl) ?_
        refine S_ 25 rfl rfl rfl _ (y_assign rfl rfl) ?_
        refine S_go (fun _ _ h => h) ?_
        refine T_seq ?_
        refine T_region ?_
        refine S_ 102 rfl rfl rfl _ (y_move rfl rfl) ?_
        refine S_ 103 rfl rfl rfl _ (y_move rfl rfl) ?_
        refine S_ 104 rfl rfl rfl _ (y_bin rfl rfl rfl (fun _ => b_neq)) ?_
        refine S_ 105 rfl rfl rfl _ (y_move rfl rfl) ?_
        refine Sg_ 106 rfl rfl rfl rfl rfl rfl _ (y_move rfl rfl) ?_
        refine Sg_ 107 rfl rfl rfl rfl rfl rfl _ (y_move rfl rfl) ?_
        refine Sg_ 108 rfl rfl rfl rfl rfl rfl _ (y_bin rfl rfl rfl (fun _ => b_neq)) ?_
        refine S_ 109 rfl rfl rfl _ (y_or rfl rfl rfl) ?_
        refine S_ 110 rfl rfl rfl _ (y_move rfl rfl) ?_
        refine Sg_ 111 rfl rfl rfl rfl rfl rfl _ (y_move rfl rfl) ?_
        refine Sg_ 112 rfl rfl rfl rfl rfl rfl _ (y_move rfl rfl) ?_
        refine Sg_ 113 rfl rfl rfl rfl rfl rfl _ (y_call rfl rfl rfl cf25 (fun _ w hM => SameOwners_any x92.sl x98.sl w (hx92.2.1.at hM 920 rfl) (hx98.2.1.at hM 921 rfl))) ?_
        refine Sg_ 114 rfl rfl rfl rfl rfl rfl _ (y_not rfl rfl) ?_
        refine S_ 115 rfl rfl rfl _ (y_or rfl rfl rfl) ?_
        refine S_go (fun _ _ h => h) ?_
        refine T_cond rfl (fun h115 => ?_) (fun h115 => ?_)
        · skip
          simp [same_says x92.l x98.l (hx92.1.trans hx98.1.symm), ReadR.sl] at h115
        · skip
          refine T_skip_go (fun _ _ h => h) ?_
          refine T_region ?_
          refine S_ 116 rfl rfl rfl _ (y_bin rfl rfl rfl (fun hg => b_add (by omega))) ?_
          refine S_ 86 rfl rfl rfl _ (y_move rfl rfl) ?_
          refine S_nil (nextK1 (kf := [(8, 8), (19, 25), (86, 116)]) (kl := [(8, 8), (19, 25), (84, 84), (86, 116)]) (i + 1) (by repeat (first | exact kf_nil | (apply kf_in; focus rfl) | (apply kf_out; focus rfl))) (by repeat (first | exact kl_none | exact kl_tail (by assumption) rfl (by repeat (first | exact ti_refl | (apply ti_cons; focus rfl))) | refine kl_cons rfl rfl ?_)) ?_ ?_ ?_ ?_)
          · omega
          · omega
          · exact ⟨rfl, trivial⟩
          · exact ⟨rfl, trivial⟩
      · try simp only [decide_eq_true_eq, decide_eq_false_iff_not, Bool.or_eq_true, Bool.or_eq_false_iff, Bool.and_eq_true, Bool.and_eq_false_iff, Bool.not_eq_true', Bool.not_eq_false', Bool.not_eq_true, Bool.not_eq_false, Bool.not_true, Bool.not_false, Int.not_lt, Int.not_le, not_or, not_and, Classical.not_not] at h87
        refine T_exit_go (fun _ _ h => h) ?_
        refine T_seq ?_
        refine T_region ?_
        refine S_ 117 rfl rfl rfl _ (y_move rfl rfl) ?_
        refine S_ 118 rfl rfl rfl _ (y_move rfl rfl) ?_
        refine S_ 119 rfl rfl rfl _ (y_call rfl rfl rfl cf26 (fun _ w hM => EqualS_any _ _ _ _ _ _ (owRes l path).2 [] w (owned_T (enc := strE) hM rfl (i := 31) rfl) nilT hwho (by decide))) ?_
        refine S_ 120 rfl rfl rfl _ (y_move rfl rfl) ?_
        refine Sg_ 121 rfl rfl rfl rfl rfl rfl _ (y_move rfl rfl) ?_
        refine Sg_ 122 rfl rfl rfl rfl rfl rfl _ (y_bin rfl rfl rfl (fun _ => b_neq)) ?_
        refine S_ 123 rfl rfl rfl _ (y_or rfl rfl rfl) ?_
        refine S_ 8 rfl rfl rfl _ (y_assign rfl rfl) ?_
        refine S_go (fun _ _ h => h) ?_
        refine T_ret (fun a w hF hM => hRb a w (post1 rfl rfl (fun w hM => ?_) a w hF hM))
        exact ⟨by rw [ow_bad h37]; rfl, hM.below⟩
end Go.Proofs.YtoeipmepmlikcaaDoor
