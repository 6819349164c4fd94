/- stack.Cut of right frames. Conditions: those of each theorem. -/
import Derived.Test.YtoeipmepmlikcaaDoorECopy
namespace Go.Proofs.YtoeipmepmlikcaaDoor
set_option linter.unusedSimpArgs false
set_option linter.unusedVariables false
set_option maxRecDepth 20000
open Go.RowKit Go.Eng
/-- a part of a slice -/
def subSl {α : Type} (size : Nat) (s : Sl α) (lo hi : Nat) : Sl α := ⟨if s.c = lo then s.A else s.A.map (·.add (lo * size)), hi - lo, s.c - lo, (s.l.drop lo).take (hi - lo)⟩
theorem subSl_ok {α : Type} {enc : α → List Value} {size lo hi : Nat} {w : World} {s : Sl α} (h : s.Ok enc size w) (hs : ∀ x, (enc x).length = size) (h1 : lo ≤ hi) (h2 : hi ≤ s.q) : (subSl size s lo hi).Ok enc size w :=
  ⟨h.t.cut hs h1 h2 h.cap, by show hi - lo ≤ s.c - lo; have := h.cap; omega⟩
def cutF (l : List Frm) (n : Nat) : List Frm := if l.length ≤ n then l else l.take ((n + 1) / 2) ++ l.drop (l.length - n / 2)
theorem cutF_len (l : List Frm) (n : Nat) : (cutF l n).length = min l.length n := by
  unfold cutF
  split
  · omega
  · rw [List.length_append, List.length_take, List.length_drop]; omega
theorem Cut_any (l : Sl Frm) (n : Int) (w : World) (hl : FrmsOk w l) (h0 : framesNo l = 0) (hn : 1 ≤ n) (hn2 : n ≤ 200) :
    Calls Tryd.prog 107 #[.slice l.A l.q l.c, .int .i64 n] w fun e w' => ∃ A c, e = .returned (.tuple #[.slice A (cutF l.l n.toNat).length c, .int .i64 (if (l.q : Int) ≤ n then 0 else l.q - n), .int .i64 0]) ∧ w'.ownsRow w.heap.size 148 6 (.slice A (cutF l.l n.toNat).length c) (cutF l.l n.toNat).length ((cutF l.l n.toNat).flatMap Frm.enc) ∧ Below w.heap.size w w' := by
  obtain ⟨n, rfl⟩ : ∃ k : Nat, n = k := ⟨n.toNat, by omega⟩
  have hq : l.q ≤ 200 := by
    unfold framesNo at h0
    split at h0
    · cases h0
    · omega
  have hlen := hl.ok.t.len
  have hcap := hl.ok.cap
  rw [Int.toNat_natCast]
  refine enter_args (args := [.slice l.A l.q l.c, .int .i64 (n : Int)]) (F := _) Tryd.func107 rfl Tryd.ntmps107 rfl rfl ?_
  intro Rb hRb hRn
  refine T_seq ?_
  refine T_region ?_
  refine S_nilSlice 4 (e := 148) (size := 6) ?_
  refine S_ 4 rfl rfl rfl _ (y_assign rfl rfl) ?_
  refine S_ 5 rfl rfl rfl _ (y_assign rfl rfl) ?_
  refine S_ 6 rfl rfl rfl _ (y_assign rfl rfl) ?_
  refine S_go (fun _ _ h => h) ?_
  refine T_seq ?_
  refine T_seq ?_
  refine T_region ?_
  refine S_ 8 rfl rfl rfl _ (y_move rfl rfl) ?_
  refine S_ 9 rfl rfl rfl _ (y_call rfl rfl rfl cf187 (fun _ w hM => checkFrames_any l w (hl.below hM.below))) ?_
  refine S_ 7 rfl rfl rfl _ (y_assign rfl rfl) ?_
  refine S_go (fun _ _ h => h) ?_
  refine T_seq ?_
  refine T_region ?_
  refine S_ 10 rfl rfl rfl _ (y_move rfl rfl) ?_
  refine S_ 11 rfl rfl rfl _ (y_bin rfl rfl rfl (fun _ => b_neq)) ?_
  refine S_go (fun _ _ h => h) ?_
  refine T_cond rfl (fun h11 => ?_) (fun h11 => ?_)
  · try simp only [decide_eq_true_eq, decide_eq_false_iff_not, Bool.or_eq_true, Bool.or_eq_false_iff, Bool.and_eq_true, Bool.and_eq_false_iff, Bool.not_eq_true', Bool.not_eq_false', Bool.not_eq_true, Bool.not_eq_false, Bool.not_true, Bool.not_false, Int.not_lt, Int.not_le, not_or, not_and, Classical.not_not] at h11
    omega
  · try simp only [decide_eq_true_eq, decide_eq_false_iff_not, Bool.or_eq_true, Bool.or_eq_false_iff, Bool.and_eq_true, Bool.and_eq_false_iff, Bool.not_eq_true', Bool.not_eq_false', Bool.not_eq_true, Bool.not_eq_false, Bool.not_true, Bool.not_false, Int.not_lt, Int.not_le, not_or, not_and, Classical.not_not] at h11
    refine T_skip_go (fun _ _ h => h) ?_
    refine T_seq ?_
    refine T_seq ?_
    refine T_region ?_
    refine S_ 13 rfl rfl rfl _ (y_move rfl rfl) ?_
    refine S_ 14 rfl rfl rfl _ (y_call rfl rfl rfl cf188 (fun _ w _ => soutside_any _ _ _ w)) ?_
    refine S_go (fun _ _ h => h) ?_
    refine T_cond rfl (fun h14 => ?_) (fun h14 => ?_)
    · skip
      simp at h14; omega
    · skip
      refine T_skip_go (fun _ _ h => h) ?_
      refine T_seq ?_
      refine T_seq ?_
      refine T_region ?_
      refine S_ 15 rfl rfl rfl _ (y_move rfl rfl) ?_
      refine S_ 16 rfl rfl rfl _ (y_len_slice rfl rfl Tryd.underlying68) ?_
      refine S_ 17 rfl rfl rfl _ (y_move rfl rfl) ?_
      refine S_ 18 rfl rfl rfl _ (y_bin rfl rfl rfl (fun _ => b_leq)) ?_
      refine S_go (fun _ _ h => h) ?_
      refine T_cond rfl (fun h18 => ?_) (fun h18 => ?_)
      · try simp only [decide_eq_true_eq, decide_eq_false_iff_not, Bool.or_eq_true, Bool.or_eq_false_iff, Bool.and_eq_true, Bool.and_eq_false_iff, Bool.not_eq_true', Bool.not_eq_false', Bool.not_eq_true, Bool.not_eq_false, Bool.not_true, Bool.not_false, Int.not_lt, Int.not_le, not_or, not_and, Classical.not_not] at h18
        refine T_seq ?_
        refine T_region ?_
        refine S_ 19 rfl rfl rfl _ (y_move rfl rfl) ?_
        refine S_callOwn 20 20 rfl rfl rfl rfl rfl rfl rfl cf189 (fun A c => .slice A (l.q) c) 148 6 (l.q) (l.l.flatMap Frm.enc) (fun w hM => CloneF_any l w (hl.ok.below hM.below) (by omega)) ?_
        intro A20 c20
        refine S_ 4 rfl rfl rfl _ (y_assign rfl rfl) ?_
        refine S_ 5 rfl rfl rfl _ (y_assign rfl rfl) ?_
        refine S_ 6 rfl rfl rfl _ (y_assign rfl rfl) ?_
        refine S_go (fun _ _ h => h) ?_
        refine T_ret (fun a w hF hM => hRb a w (post3 rfl rfl rfl rfl (fun w hM => ?_) a w hF hM))
        have e : cutF l.l n = l.l := if_pos (by omega)
        rw [e, hlen, if_pos (by omega)]
        exact ⟨A20, c20, rfl, hM.sat 20 _ rfl, hM.below⟩
      · try simp only [decide_eq_true_eq, decide_eq_false_iff_not, Bool.or_eq_true, Bool.or_eq_false_iff, Bool.and_eq_true, Bool.and_eq_false_iff, Bool.not_eq_true', Bool.not_eq_false', Bool.not_eq_true, Bool.not_eq_false, Bool.not_true, Bool.not_false, Int.not_lt, Int.not_le, not_or, not_and, Classical.not_not] at h18
        refine T_skip_go (fun _ _ h => h) ?_
        refine T_seq ?_
        refine T_perm [0, 1, 2, 3, 4, 5, 6, 7, 8, 9, 10, 11, 14, 15, 16, 17, 12, 13, 18, 19, 20] [true, true, true, true, true, true, true, true, true, true, true, true, false, false, true, true, true, true, true, true, true] [0, 0, 2, 6, 15, 0, 0, 64, 0, 256, 960, 2016, 4095, 8191, 0, 16384, 0, 114688, 16383, 524287, 1048575] [] (by kernel_rfl) (by kernel_rfl) (by kernel_rfl) rfl (by kernel_rfl) ?_
        refine Rf_ 0 21 rfl rfl rfl rfl rfl _ trivial (Y.z (y_move rfl rfl) rfl) ?_
        refine Rf_ 1 22 rfl rfl rfl rfl rfl _ trivial (Y.z (y_move rfl rfl) rfl) ?_
        refine Rf_ 2 23 rfl rfl rfl rfl rfl _ trivial (Y.z (y_bin rfl rfl rfl (fun hg => b_addv (((n + 1 : Nat) : Int)) (by omega) (by omega))) rfl) ?_
        refine Rf_ 3 24 rfl rfl rfl rfl rfl _ trivial (Y.z (y_bin rfl rfl rfl (fun hg => b_quov ((((n + 1) / 2 : Nat) : Int)) (by omega) (by omega) (by omega) (by omega))) rfl) ?_
        refine Rf_ 4 25 rfl rfl rfl rfl rfl _ trivial (Y.z (y_slice rfl rfl Tryd.underlying68 sz148 (.inl ⟨rfl, rfl⟩) (.inr ⟨_, _, rfl, rfl⟩) (by omega) (by omega) (by omega)) rfl) ?_
        refine Rf_ 5 26 rfl rfl rfl rfl rfl _ trivial (Y.z (y_move rfl rfl) rfl) ?_
        refine Rf_ 6 27 rfl rfl rfl rfl rfl _ trivial (Y.z (y_move rfl rfl) rfl) ?_
        refine Rf_ 7 28 rfl rfl rfl rfl rfl _ trivial (Z.of (z_len rfl rfl Tryd.underlying68)) ?_
        refine Rf_ 8 29 rfl rfl rfl rfl rfl _ trivial (Y.z (y_move rfl rfl) rfl) ?_
        refine Rf_ 9 30 rfl rfl rfl rfl rfl _ trivial (Y.z (y_bin rfl rfl rfl (fun hg => b_quov (((n / 2 : Nat) : Int)) (by omega) (by omega) (by omega) (by omega))) rfl) ?_
        refine Rf_ 10 31 rfl rfl rfl rfl rfl _ trivial (Y.z (y_bin rfl rfl rfl (fun hg => b_subv (((l.q - n / 2 : Nat) : Int)) (by omega) (by omega))) rfl) ?_
        refine Rf_ 11 32 rfl rfl rfl rfl rfl _ trivial (Y.z (y_slice rfl rfl Tryd.underlying68 sz148 (.inr ⟨_, _, rfl, rfl⟩) (.inl ⟨rfl, rfl⟩) (by omega) (by omega) (by omega)) rfl) ?_
        refine Rf_ 14 35 rfl rfl rfl rfl rfl _ trivial (Y.z (y_move rfl rfl) rfl) ?_
        refine Rf_ 15 36 rfl rfl rfl rfl rfl _ trivial (Z.of (z_len rfl rfl Tryd.underlying68)) ?_
        refine Rf_ 16 37 rfl rfl rfl rfl rfl _ trivial (Y.z (y_move rfl rfl) rfl) ?_
        refine Rf_ 17 38 rfl rfl rfl rfl rfl _ trivial (Y.z (y_bin rfl rfl rfl (fun hg => b_sub (by omega))) rfl) ?_
        refine R_chain 12 rfl rfl ?_
        refine S_buildSlice 33 33 rfl rfl rfl rfl rfl Tryd.underlying205 inf68 rfl (by decide) (by decide) rfl rfl (by decide) rfl (_) rfl ?_
        intro b33
        refine R_next trivial ?_
        refine R_chain 13 rfl rfl ?_
        refine S_callOwn 34 34 rfl rfl rfl rfl rfl rfl rfl cf126 (fun A c => .slice A ((catF [subSl 6 l 0 ((n + 1) / 2), subSl 6 l (l.q - n / 2) l.q]).length) c) 148 6 ((catF [subSl 6 l 0 ((n + 1) / 2), subSl 6 l (l.q - n / 2) l.q]).length) ((catF [subSl 6 l 0 ((n + 1) / 2), subSl 6 l (l.q - n / 2) l.q]).flatMap Frm.enc) (fun w hM => ConcatF_any _ 2 _ [subSl 6 l 0 ((n + 1) / 2), subSl 6 l (l.q - n / 2) l.q] w ⟨own_reads hM (i := 33) rfl, rfl⟩ (by decide) (fun s hs => by simp only [List.mem_cons, List.not_mem_nil, or_false] at hs; rcases hs with rfl | rfl; exact subSl_ok (hl.ok.below hM.below) (fun _ => rfl) (by omega) (by omega); exact subSl_ok (hl.ok.below hM.below) (fun _ => rfl) (by omega) (by omega)) (by simp only [sumFq, subSl]; omega) (by simp only [sumFq, subSl]; omega)) ?_
        intro A34 c34
        refine R_next trivial ?_
        refine Rf_ 18 4 rfl rfl rfl rfl rfl _ trivial (Y.z (y_assign rfl rfl) rfl) ?_
        refine Rf_ 19 5 rfl rfl rfl rfl rfl _ trivial (Y.z (y_assign rfl rfl) rfl) ?_
        refine Rf_ 20 6 rfl rfl rfl rfl rfl _ trivial (Y.z (y_assign rfl rfl) rfl) ?_
        refine R_go (fun _ _ h => h) ?_
        refine T_ret (fun a w hF hM => hRb a w (post3 rfl rfl rfl rfl (fun w hM => ?_) a w hF hM))
        have e : cutF l.l n = catF [subSl 6 l 0 ((n + 1) / 2), subSl 6 l (l.q - n / 2) l.q] := by
          rw [cutF, if_neg (by omega), hlen]
          simp only [catF, subSl, List.drop_zero, Nat.sub_zero, List.append_nil]
          rw [List.take_of_length_le (l := l.l.drop (l.q - n / 2)) (by rw [List.length_drop]; omega)]
        rw [e, if_neg (by omega)]
        exact ⟨A34, c34, rfl, hM.sat 34 _ rfl, hM.below⟩
end Go.Proofs.YtoeipmepmlikcaaDoor
