/- The law ReleaseLast walked. Conditions: those of the theorem. -/
import Derived.Test.YtoeipmepmlikcaaDoorROwn
import Derived.Test.YtoeipmepmlikcaaDoorRPar
namespace Go.Proofs.YtoeipmepmlikcaaDoor
set_option linter.unusedSimpArgs false
set_option linter.unusedVariables false
set_option maxRecDepth 20000
open Go.RowKit Go.Eng
theorem stars_all (path : List UInt8) (at_ : List Bool) (h : at_.getD 0 false = true) : ∀ i, stepF path [42, 42] at_ i = true
  | 0 => by rw [stepF, if_pos (show ([42, 42] : List UInt8).getD 0 0 = 42 from rfl), h]
  | i + 1 => by rw [stepF, if_neg (by decide), if_pos (show ([42, 42] : List UInt8).getD 0 0 = 42 from rfl), stars_all path at_ h i, Bool.or_true]
theorem fits_stars (path : List UInt8) : fitsB [42, 42] path = true := by
  have h1 : pat1 [42, 42] = [42, 42] := by decide
  have h2 : runN [42, 42] = 2 := by decide
  unfold fitsB
  rw [h1]
  show (fitsGo path 2 [42, 42] _).getD path.length false = true
  rw [fitsGo, if_neg (by decide), h2]
  show (fitsGo path 1 [] _).getD path.length false = true
  rw [fitsGo_nil]
  show (stepL path [42, 42] _).getD path.length false = true
  rw [stepL, List.getD_eq_getElem?_getD, List.getElem?_map, List.length_map, List.length_range, List.getElem?_range (by omega)]
  exact stars_all path _ (by rw [List.getD_eq_getElem?_getD, List.getElem?_map, List.getElem?_range (by omega)]; simp [at0F]) _
theorem CloneOwn_any (l : Sl SOwner) (w : World) (hl : l.Ok SOwner.enc 2 w) (hq : l.q * 40 ≤ 140737488351232) :
    Calls Tryd.prog 57 #[.slice l.A l.q l.c] w fun e w' => ∃ A c, e = .returned (.slice A l.q c) ∧ w'.ownsRow w.heap.size 89 2 (.slice A l.q c) l.q (l.l.flatMap SOwner.enc) ∧ Below w.heap.size w w' := by
  have hlen := hl.t.len
  refine enter_args (args := [.slice l.A l.q l.c]) (F := _) Tryd.func57 rfl Tryd.ntmps57 rfl rfl ?_
  intro Rb hRb hRn
  refine T_seq ?_
  refine T_region ?_
  refine S_nilSlice 2 (e := 89) (size := 2) ?_
  refine S_ 2 rfl rfl rfl _ (y_assign rfl rfl) ?_
  refine S_go (fun _ _ h => h) ?_
  refine T_seq ?_
  refine T_seq ?_
  refine T_region ?_
  refine S_ 3 rfl rfl rfl _ (y_move rfl rfl) ?_
  refine S_ 4 rfl rfl rfl _ (y_bin rfl rfl rfl (fun _ => b_eqln Tryd.underlying22)) ?_
  refine S_go (fun _ _ h => h) ?_
  refine T_cond rfl (fun h4 => ?_) (fun h4 => ?_)
  · skip
    refine T_seq ?_
    refine T_region ?_
    refine S_nilSlice 2 (e := 89) (size := 2) ?_
    refine S_ 2 rfl rfl rfl _ (y_assign rfl rfl) ?_
    refine S_go (fun _ _ h => h) ?_
    refine T_ret (fun a w hF hM => hRb a w (post1 rfl rfl (fun w hM => ?_) a w hF hM))
    have hA : l.A = none := by cases h : l.A with
      | none => rfl
      | some a => rw [h] at h4; cases h4
    have h0 : l.q = 0 := by
      rcases Nat.eq_zero_or_pos l.q with h | h
      · exact h
      · have := hl.t.isSome h; rw [hA] at this; cases this
    have hn : l.l = [] := List.eq_nil_of_length_eq_zero (by omega)
    rw [h0, hn]
    exact ⟨none, 0, rfl, World.ownsRow_nil _ _ _ _, hM.below⟩
  · skip
    refine T_skip_go (fun _ _ h => h) ?_
    refine T_seq ?_
    refine T_region ?_
    refine S_buildSlice0 5 5 rfl rfl rfl rfl Tryd.underlying22 sz89 ?_
    intro b5
    refine S_ 6 rfl rfl rfl _ (y_move rfl rfl) ?_
    obtain ⟨i7, hi7, hz7, hs7, hy7⟩ := info_parts inf89
    refine S_appendG 7 5 (news := l.l.flatMap SOwner.enc) rfl rfl rfl rfl rfl rfl rfl (fun w hM => hl.t.rd.below hM.below) Tryd.underlying22 hi7 hz7 hs7 hy7 rfl (by decide) (allOne_of (fun u hu => by obtain ⟨a, _, ha⟩ := List.mem_flatMap.1 hu; simp [SOwner.enc] at ha; rcases ha with rfl | rfl <;> rfl)) ?_ ?_ (l.q) (l.l.flatMap SOwner.enc) ?_ ?_ ?_
    · (simp only [maxLen]; omega)
    · omega
    · omega
    · rfl
    intro A7 c7
    refine S_ 2 rfl rfl rfl _ (y_assign rfl rfl) ?_
    refine S_go (fun _ _ h => h) ?_
    refine T_ret (fun a w hF hM => hRb a w (post1 rfl rfl (fun w hM => ?_) a w hF hM))
    exact ⟨A7, c7, rfl, hM.sat 5 _ rfl, hM.below⟩
abbrev allB : List UInt8 := [97, 108, 108]
def lastOwn (b : Nat) : SOwner := ⟨[42, 42], ⟨some ⟨b, 0, none⟩, 1, 1, [allB]⟩⟩
theorem last_res (l : Sl SOwner) (L : List SOwner) (b : Nat) (path : List UInt8) (hl : l.l = L ++ [lastOwn b]) (hq : l.q = L.length + 1) (h : (owRes l path).1 = 0) : (owRes l path).2 = [allB] := by
  unfold owRes at h ⊢
  split
  · rename_i h1; rw [if_pos h1] at h; exact absurd h h1
  · rename_i h1; rw [if_neg h1] at h
    split
    · rename_i h2; rw [if_pos h2] at h; cases h
    · rename_i h2; rw [if_neg h2] at h
      split
      · rename_i h3; rw [if_pos h3] at h; cases h
      · have e : lastFit path l.l l.q = some (lastOwn b) := by
          rw [hq, lastFit, hl, List.getElem?_append_right (Nat.le_refl _), Nat.sub_self]
          simp only [List.getElem?_cons_zero]
          rw [if_pos (show fitsB (lastOwn b).p path = true from fits_stars path)]
        rw [e]; rfl
theorem last_len (l : Sl SOwner) (L : List SOwner) (b : Nat) (path : List UInt8) (hl : l.l = L ++ [lastOwn b]) (hq : l.q = L.length + 1) : (owRes l path).2.length ≤ 1 := by
  by_cases h : (owRes l path).1 = 0
  · rw [last_res l L b path hl hq h]; exact Nat.le_refl _
  · unfold owRes at h ⊢
    split
    · exact Nat.zero_le _
    · rename_i h1; rw [if_neg h1] at h
      split
      · exact Nat.zero_le _
      · rename_i h2; rw [if_neg h2] at h
        split
        · exact Nat.zero_le _
        · rename_i h3; rw [if_neg h3] at h
          cases hf : lastFit path l.l l.q with
          | none => exact Nat.zero_le _
          | some o => rw [hf] at h; exact absurd rfl h
set_option maxHeartbeats 1000000 in
theorem ReleaseLast_any (l : Sl SOwner) (path : List UInt8) (w : World) (hl : OwnsOk w l) (hq40 : l.q * 40 ≤ 140737488351232) (hpl : path.length ≤ 4611686018427387904) :
    Calls Tryd.prog 10 #[.slice l.A l.q l.c, str path] w fun e w' => e = .returned (.bool true) ∧ Below w.heap.size w w' := by
  have hlen := hl.ok.t.len
  refine enter_args (args := [.slice l.A l.q l.c, str path]) (F := _) Tryd.func10 rfl Tryd.ntmps10 rfl rfl ?_
  intro Rb hRb hRn
  refine T_seq ?_
  refine T_region ?_
  refine S_ 4 rfl rfl rfl _ (y_assign rfl rfl) ?_
  refine S_go (fun _ _ h => h) ?_
  refine T_seq ?_
  refine T_seq ?_
  refine T_region ?_
  refine S_ 7 rfl rfl rfl _ (y_call rfl rfl rfl cf56 (fun _ w _ => awakeRelease_any w)) ?_
  refine S_ 8 rfl rfl rfl _ (y_not rfl rfl) ?_
  refine S_go (fun _ _ h => h) ?_
  refine T_cond rfl (fun h8 => ?_) (fun h8 => ?_)
  · skip
    cases h8
  · skip
    refine T_skip_go (fun _ _ h => h) ?_
    refine T_seq ?_
    refine T_region ?_
    refine S_ 9 rfl rfl rfl _ (y_move rfl rfl) ?_
    refine S_callOwn 10 10 rfl rfl rfl rfl rfl rfl rfl cf57 (fun A c => .slice A (l.q) c) 89 2 (l.q) (l.l.flatMap SOwner.enc) (fun w hM => CloneOwn_any l w (hl.ok.below hM.below) hq40) ?_
    intro A10 c10
    refine S_buildSlice 11 11 rfl rfl rfl rfl rfl Tryd.underlying25 inf9 rfl (by decide) (by decide) rfl rfl (by decide) rfl (_) rfl ?_
    intro b11
    refine S_ 12 rfl rfl rfl _ (y_build (zv := .agg #[.string ⟨#[]⟩, .slice none 0 0]) (pl := [(0, 1), (1, 1)]) (out := [_, _]) rfl rfl Tryd.underlying89 z89 (by kernel_rfl) rfl) ?_
    refine S_buildSlice 13 13 rfl rfl rfl rfl rfl Tryd.underlying22 inf89 rfl (by decide) (by decide) rfl rfl (by decide) rfl (_) rfl ?_
    intro b13
    obtain ⟨i14, hi14, hz14, hs14, hy14⟩ := info_parts inf89
    refine S_append 14 10 13 rfl rfl rfl rfl rfl rfl rfl rfl Tryd.underlying22 hi14 hz14 hs14 hy14 rfl (by decide) (by decide) rfl ?_ ?_ (l.q + 1) ((l.l ++ [lastOwn b11]).flatMap SOwner.enc) ?_ ?_ ?_
    · (simp only [maxLen]; omega)
    · omega
    · rfl
    · simp [List.flatMap_append]; rfl
    intro A14 c14
    refine S_ 0 rfl rfl rfl _ (y_assign rfl rfl) ?_
    refine S_go (fun _ _ h => h) ?_
    refine T_seq ?_
    refine T_region ?_
    refine S_ 16 rfl rfl rfl _ (y_move rfl rfl) ?_
    refine S_ 17 rfl rfl rfl _ (y_move rfl rfl) ?_
    refine S_callOwn 18 18 rfl rfl rfl rfl rfl rfl rfl cf13 (fun A c => .tuple #[.slice A (owRes ⟨A14, l.q + 1, c14, l.l ++ [lastOwn b11]⟩ path).2.length c, .int .i64 (owRes ⟨A14, l.q + 1, c14, l.l ++ [lastOwn b11]⟩ path).1]) 9 1 ((owRes ⟨A14, l.q + 1, c14, l.l ++ [lastOwn b11]⟩ path).2.length) ((owRes ⟨A14, l.q + 1, c14, l.l ++ [lastOwn b11]⟩ path).2.flatMap strE) (fun w hM => OwnersOf_any ⟨A14, l.q + 1, c14, l.l ++ [lastOwn b11]⟩ path w ⟨owned_ok (enc := SOwner.enc) hM (by rw [List.length_append, hlen]; rfl) (i := 10) rfl, by show l.q + 1 ≤ _; omega, fun o ho => by
      rcases List.mem_append.1 ho with h | h
      · exact (hl.n o h).below hM.below
      · obtain rfl := List.mem_singleton.1 h
        exact ⟨(by show (2 : Nat) ≤ _; decide), owned_ok (enc := strE) hM rfl (i := 11) rfl, (by show (1 : Nat) ≤ _; decide)⟩⟩ hpl) ?_
    intro A18 c18
    have hrl : (owRes ⟨A14, l.q + 1, c14, l.l ++ [lastOwn b11]⟩ path).2.length ≤ 4611686018427387904 := Nat.le_trans (last_len _ l.l b11 path rfl (by show l.q + 1 = _; rw [hlen])) (by decide)
    refine S_ 15 rfl rfl rfl _ (y_move rfl rfl) ?_
    refine S_ 19 rfl rfl rfl _ (y_extract rfl rfl rfl) ?_
    refine S_ 20 rfl rfl rfl _ (y_extract rfl rfl rfl) ?_
    refine S_ 5 rfl rfl rfl _ (y_assign rfl rfl) ?_
    refine S_ 6 rfl rfl rfl _ (y_assign rfl rfl) ?_
    refine S_go (fun _ _ h => h) ?_
    refine T_seq ?_
    refine T_region ?_
    by_cases hz : (owRes ⟨A14, l.q + 1, c14, l.l ++ [lastOwn b11]⟩ path).1 = 0
    rotate_left
    · refine S_ 21 rfl rfl rfl _ (y_move rfl rfl) ?_
      refine S_ 22 rfl rfl rfl _ (y_as (v' := .bool true) (by simp [hz]) (y_bin rfl rfl rfl (fun _ => b_neq))) ?_
      refine S_ 23 rfl rfl rfl _ (y_move rfl rfl) ?_
      refine S_skip 24 rfl rfl rfl rfl rfl rfl rfl ?_
      refine S_skip 25 rfl rfl rfl rfl rfl rfl rfl ?_
      refine S_skip 26 rfl rfl rfl rfl rfl rfl rfl ?_
      refine S_ 27 rfl rfl rfl _ (y_pickT rfl rfl rfl) ?_
      refine S_ 4 rfl rfl rfl _ (y_assign rfl rfl) ?_
      refine S_go (fun _ _ h => h) ?_
      refine T_ret (fun a w hF hM => hRb a w (post1 rfl rfl (fun w hM => ?_) a w hF hM))
      exact ⟨rfl, hM.below⟩
    refine S_ 21 rfl rfl rfl _ (y_move rfl rfl) ?_
    refine S_ 22 rfl rfl rfl _ (y_as (v' := .bool false) (by simp [hz]) (y_bin rfl rfl rfl (fun _ => b_neq))) ?_
    refine S_ 23 rfl rfl rfl _ (y_move rfl rfl) ?_
    refine Sg_ 24 rfl rfl rfl rfl rfl rfl _ (y_move rfl rfl) ?_
    refine S_unguard rfl rfl rfl rfl rfl ?_
    refine S_buildSlice 25 25 rfl rfl rfl rfl rfl Tryd.underlying25 inf9 rfl (by decide) (by decide) rfl rfl (by decide) rfl (_) rfl ?_
    intro b25
    refine Sg_ 26 rfl rfl rfl rfl rfl rfl _ (y_call rfl rfl rfl cf26 (fun _ w hM => EqualS_any _ _ _ _ _ _ (owRes ⟨A14, l.q + 1, c14, l.l ++ [lastOwn b11]⟩ path).2 [allB] w (owned_T (enc := strE) hM rfl (i := 18) rfl) (owned_T (enc := strE) hM rfl (i := 25) rfl) hrl (by decide))) ?_
    refine S_ 27 rfl rfl rfl _ (y_or rfl rfl rfl) ?_
    refine S_ 4 rfl rfl rfl _ (y_assign rfl rfl) ?_
    refine S_go (fun _ _ h => h) ?_
    refine T_ret (fun a w hF hM => hRb a w (post1 rfl rfl (fun w hM => ?_) a w hF hM))
    have he : (owRes ⟨A14, l.q + 1, c14, l.l ++ [lastOwn b11]⟩ path).2 = [allB] := last_res _ l.l b11 path rfl (by show l.q + 1 = _; rw [hlen]) hz
    exact ⟨by rw [he]; rfl, hM.below⟩
end Go.Proofs.YtoeipmepmlikcaaDoor
