/- ReadOwners and the reference's OwnersRead: what they read of any text; SameOwners. Conditions: those of each theorem. -/
import Derived.Test.YtoeipmepmlikcaaDoorRTxt
import Derived.Test.YtoeipmepmlikcaaDoorROwr
import Derived.Test.YtoeipmepmlikcaaDoorMany
import Derived.Test.YtoeipmepmlikcaaDoorPerm
import Derived.Test.YtoeipmepmlikcaaDoorECopy
namespace Go.Proofs.YtoeipmepmlikcaaDoor
set_option linter.unusedSimpArgs false
set_option linter.unusedVariables false
set_option maxRecDepth 20000
open Go.RowKit Go.Eng
abbrev POwn := List UInt8 × List (List UInt8)
def SOwner.says (o : SOwner) : POwn := (o.p, o.w.l)
def pOwnNo (o : POwn) : Int := if pathNo o.1 ≠ 0 then pathNo o.1 else if o.2.length = 0 then 1 else if (20 : Int) < o.2.length then 4 else whoNo [] o.2
def pOwnsNo : List POwn → Int
  | [] => 0
  | o :: r => if pOwnNo o ≠ 0 then pOwnNo o else pOwnsNo r
def pOwnersNo (l : List POwn) : Int := if (200 : Int) < l.length then 4 else pOwnsNo l
theorem own_says {o : SOwner} (h : o.w.q = o.w.l.length) : ownNo o = pOwnNo o.says := by
  unfold ownNo pOwnNo SOwner.says; rw [h]
theorem owns_says : ∀ l : List SOwner, (∀ o ∈ l, o.w.q = o.w.l.length) → ownsNo l = pOwnsNo (l.map SOwner.says)
  | [], _ => rfl
  | a :: r, h => by
    rw [ownsNo, List.map_cons, pOwnsNo, own_says (h a (List.mem_cons_self ..)), owns_says r fun o ho => h o (List.mem_cons_of_mem _ ho)]
theorem owners_says {A : Option Addr} {q c : Nat} {l : List SOwner} (hq : q = l.length) (h : ∀ o ∈ l, o.w.q = o.w.l.length) : ownersNo ⟨A, q, c, l⟩ = pOwnersNo (l.map SOwner.says) := by
  subst hq
  unfold ownersNo pOwnersNo
  rw [owns_says l h, List.length_map]
def lineBad (s : List UInt8) : Bool := !(cutC 10 s).2.2 || decide ((((splitC 32 (cutC 10 s).1).length : Nat) : Int) < 2) || decide ([] ∈ splitC 32 (cutC 10 s).1)
def lineOwn (s : List UInt8) : POwn := ((splitC 32 (cutC 10 s).1).headD [], (splitC 32 (cutC 10 s).1).tail)
def rdGo : Nat → List UInt8 → List POwn → List POwn × Int × Int
  | 0, _, l => (l, 0, 0)
  | k + 1, s, l => if s = [] then (l, 0, 0) else if lineBad s = true then ([], ((l.length + 1 : Nat) : Int), 8) else rdGo k (cutC 10 s).2.1 (l ++ [lineOwn s])
def rdRes (s : List UInt8) : List POwn × Int × Int := if (1000000 : Int) < s.length then ([], 0, 4) else
  if (rdGo (s.length + 1) s []).2.2 ≠ 0 then rdGo (s.length + 1) s [] else if pOwnersNo (rdGo (s.length + 1) s []).1 ≠ 0 then ([], 0, pOwnersNo (rdGo (s.length + 1) s []).1) else ((rdGo (s.length + 1) s []).1, 0, 0)
theorem cut_lens (c : UInt8) (s : List UInt8) (h : s ≠ []) : (cutC c s).1.length ≤ s.length ∧ (cutC c s).2.1.length < s.length := by
  have hp := List.length_pos_iff.2 h
  unfold cutC
  split
  · exact ⟨Nat.le_refl _, hp⟩
  · simp only [List.length_take, List.length_drop]; omega
structure ReadR where
  A : Option Addr
  c : Nat
  l : List SOwner
  rs : List Row
def ReadR.sl (x : ReadR) : Sl SOwner := ⟨x.A, x.l.length, x.c, x.l⟩
/-- what is known of a list that was read -/
def ReadR.Ok (w0 : World) (x : ReadR) (s : List UInt8) : Prop := x.l.map SOwner.says = (rdRes s).1 ∧ Sees w0 x.rs (fun w => OwnsOk w x.sl) ∧ (∀ o ∈ x.l, o.w.q = o.w.l.length) ∧ x.l.length ≤ 1000000
theorem sub_own {w : World} {A : Option Addr} {q c : Nat} {W : List (List UInt8)} {a : List UInt8} {r : List (List UInt8)} (h : Sl.Ok strE 1 w ⟨A, q, c, W⟩) (hW : W = a :: r) (hl : ∀ s ∈ W, s.length ≤ 1000000) (hq : q ≤ 2000000) :
    OwnOk w ⟨a, ⟨if c = 1 then A else A.map (·.add (1 * 1)), q - 1, c - 1, r⟩⟩ := by
  subst hW
  have hlen : (a :: r).length = q := h.t.len
  have hqc : q ≤ c := h.cap
  rw [List.length_cons] at hlen
  have h1 := h.t.cut (lo := 1) (hi := q) (c := c) (fun _ => rfl) (by omega) (Nat.le_refl _) hqc
  have h2 : (((a :: r).drop 1).take (q - 1)) = r := by rw [List.drop_one, List.tail_cons]; exact List.take_of_length_le (by omega)
  rw [h2] at h1
  exact ⟨by have := hl a (List.mem_cons_self ..); show a.length ≤ _; omega, ⟨h1, Nat.sub_le_sub_right hqc 1⟩, show q - 1 ≤ _ by omega⟩
theorem split_le (c : UInt8) : ∀ (s x : List UInt8), x ∈ splitC c s → x.length ≤ s.length
  | [], x, h => by rw [splitC] at h; simp at h; subst h; exact Nat.le_refl _
  | y :: r, x, h => by
    rw [splitC] at h
    split at h
    · rcases List.mem_cons.1 h with rfl | h
      · exact Nat.zero_le _
      · exact Nat.le_succ_of_le (split_le c r x h)
    · cases hs : splitC c r with
      | nil => rw [hs] at h; simp at h; subst h; simp
      | cons a t =>
        rw [hs] at h
        rcases List.mem_cons.1 h with rfl | h
        · have := split_le c r a (by rw [hs]; exact List.mem_cons_self ..)
          simpa using this
        · exact Nat.le_succ_of_le (split_le c r x (by rw [hs]; exact List.mem_cons_of_mem _ h))
set_option maxHeartbeats 1600000 in
theorem ReadOwners_any {w0 : World} {K : HL} (hK : FromK K) (u : List UInt8) (w : World) (hM0 : Mem w0 ([] ++ K) w) :
    Calls Tryd.prog 23 #[str u] w fun e w' => ∃ x : ReadR, e = .returned (.tuple #[.slice x.A x.l.length x.c, .int .i64 (rdRes u).2.1, .int .i64 (rdRes u).2.2]) ∧ x.Ok w0 u ∧ Mem w0 ([(900, .many x.rs)] ++ K) w' := by
  have nilO : ∀ w, OwnsOk w ⟨none, 0, 0, []⟩ := fun w => ⟨⟨⟨⟨by simp, fun h => by simp at h⟩, rfl⟩, Nat.le_refl _⟩, by simp, fun o ho => by simp at ho⟩
  refine enterM_args (args := [str u]) (F := _) hM0 Tryd.func23 rfl Tryd.ntmps23 rfl rfl ?_
  intro Rb hRb hRn
  refine T_many0 900 ?_
  refine T_seq ?_
  refine T_region ?_
  refine S_nilSlice 2 (e := 89) (size := 2) ?_
  refine S_ 2 rfl rfl rfl _ (y_assign rfl rfl) ?_
  refine S_ 3 rfl rfl rfl _ (y_assign rfl rfl) ?_
  refine S_ 4 rfl rfl rfl _ (y_assign rfl rfl) ?_
  refine S_go (fun _ _ h => h) ?_
  refine T_seq ?_
  refine T_seq ?_
  refine T_region ?_
  refine S_ 12 rfl rfl rfl _ (y_move rfl rfl) ?_
  refine S_ 13 rfl rfl rfl _ (y_len_str rfl rfl Tryd.underlying9) ?_
  refine S_ 14 rfl rfl rfl _ (y_bin rfl rfl rfl (fun _ => b_gtr)) ?_
  refine S_go (fun _ _ h => h) ?_
  refine T_cond rfl (fun h14 => ?_) (fun h14 => ?_)
  · try simp only [decide_eq_true_eq, decide_eq_false_iff_not, Bool.or_eq_true, Bool.or_eq_false_iff, Bool.and_eq_true, Bool.and_eq_false_iff, Bool.not_eq_true', Bool.not_eq_false', Bool.not_eq_true, Bool.not_eq_false, Bool.not_true, Bool.not_false, Int.not_lt, Int.not_le, not_or, not_and, Classical.not_not] at h14
    refine T_seq ?_
    refine T_region ?_
    refine S_nilSlice 2 (e := 89) (size := 2) ?_
    refine S_ 2 rfl rfl rfl _ (y_assign rfl rfl) ?_
    refine S_ 3 rfl rfl rfl _ (y_assign rfl rfl) ?_
    refine S_ 4 rfl rfl rfl _ (y_assign rfl rfl) ?_
    refine S_go (fun _ _ h => h) ?_
    refine T_ret (fun a w hF hM => hRb a w (post3 rfl rfl rfl rfl (fun w hM => ?_) a w hF hM))
    have hr : rdRes u = ([], 0, 4) := if_pos (by omega)
    rw [hr]
    exact ⟨⟨none, 0, [], []⟩, rfl, ⟨by rw [hr]; rfl, fun w _ _ => nilO w, fun o ho => by simp at ho, by simp⟩, (hM.keep (ks := [(0, 999)]) (by repeat (first | exact kl_rest (by assumption) rfl | (apply kl_in; focus rfl))) _ ⟨rfl, trivial⟩)⟩
  · try simp only [decide_eq_true_eq, decide_eq_false_iff_not, Bool.or_eq_true, Bool.or_eq_false_iff, Bool.and_eq_true, Bool.and_eq_false_iff, Bool.not_eq_true', Bool.not_eq_false', Bool.not_eq_true, Bool.not_eq_false, Bool.not_true, Bool.not_false, Int.not_lt, Int.not_le, not_or, not_and, Classical.not_not] at h14
    have hu : u.length ≤ 1000000 := by omega
    refine T_skip_go (fun _ _ h => h) ?_
    refine T_seq ?_
    refine T_region ?_
    refine S_nilSlice 5 (e := 89) (size := 2) ?_
    refine S_ 5 rfl rfl rfl _ (y_assign rfl rfl) ?_
    refine S_go (fun _ _ h => h) ?_
    refine T_seq ?_
    refine T_seq ?_
    refine T_region ?_
    refine S_ 6 rfl rfl rfl _ (y_assign rfl rfl) ?_
    refine S_go (fun _ _ h => h) ?_
    refine T_block ?_
    refine T_loopK7 (kf := [(0, 0), (2, 10), (15, 48)]) (kl := [(0, 0), (2, 10), (15, 48), (900, 900)]) (fun (s : List UInt8) (L : List SOwner) (A : Option Addr) (c : Nat) (rs : List Row) (k : Nat) (n : Nat) => [(0, true, str s), (6, true, .int .i64 ((n + 1 : Nat) : Int)), (5, true, .slice A n c)]) (fun (s : List UInt8) (L : List SOwner) (A : Option Addr) (c : Nat) (rs : List Row) (k : Nat) (n : Nat) => [(5, .own 89 2 (.slice A n c) n (L.flatMap SOwner.enc)), (900, .many rs)]) (fun (s : List UInt8) (L : List SOwner) (A : Option Addr) (c : Nat) (rs : List Row) (k : Nat) (n : Nat) => s.length < k ∧ rdGo k s (L.map SOwner.says) = rdGo (u.length + 1) u [] ∧ n + s.length ≤ u.length ∧ (∀ o ∈ L, o.w.q = o.w.l.length ∧ Sees w0 rs fun w => OwnOk w o) ∧ L.length = n) (fun (s : List UInt8) (L : List SOwner) (A : Option Addr) (c : Nat) (rs : List Row) (k : Nat) (n : Nat) => s.length) u [] none 0 [] (u.length + 1) 0 (by repeat (first | exact kf_nil | (apply kf_in; focus rfl) | (apply kf_out; focus rfl))) (by repeat (first | exact kl_nil | exact kl_rest (by assumption) rfl | (apply kl_in; focus rfl) | (apply kl_out; focus rfl))) ?_ ?_ ?_ ?_
    · exact ⟨by omega, rfl, by simp, fun _ h => by simp at h, rfl⟩
    · exact ⟨rfl, rfl, rfl, trivial⟩
    · exact ⟨rfl, rfl, trivial⟩
    rintro s L A c rs k n ⟨hp1, hp2, hp3, hp4, hp5⟩
    refine T_seq ?_
    refine T_seq ?_
    refine T_region ?_
    refine S_ 15 rfl rfl rfl _ (y_move rfl rfl) ?_
    refine S_ 16 rfl rfl rfl _ (y_bin rfl rfl rfl (fun _ => b_neqs)) ?_
    refine S_go (fun _ _ h => h) ?_
    refine T_cond rfl (fun h16 => ?_) (fun h16 => ?_)
    · try simp only [decide_eq_true_eq, decide_eq_false_iff_not, Bool.or_eq_true, Bool.or_eq_false_iff, Bool.and_eq_true, Bool.and_eq_false_iff, Bool.not_eq_true', Bool.not_eq_false', Bool.not_eq_true, Bool.not_eq_false, Bool.not_true, Bool.not_false, Int.not_lt, Int.not_le, not_or, not_and, Classical.not_not] at h16
      have hs0 : s ≠ [] := h16
      obtain ⟨hc1, hc2⟩ := cut_lens 10 s hs0
      have hsl := splitC_len 32 (cutC 10 s).1
      have hsc : (cutC 10 s).1.count 32 ≤ (cutC 10 s).1.length := List.count_le_length
      obtain ⟨k, rfl⟩ : ∃ k1, k = k1 + 1 := ⟨k - 1, by omega⟩
      rw [rdGo, if_neg hs0] at hp2
      refine T_skip_go (fun _ _ h => h) ?_
      refine T_seq ?_
      refine T_block ?_
      refine T_seq ?_
      refine T_region ?_
      refine S_ 20 rfl rfl rfl _ (y_move rfl rfl) ?_
      refine S_ 21 rfl rfl rfl _ (y_call rfl rfl rfl cf78 (fun _ w _ => Cut1_any s 10 w (by omega))) ?_
      refine S_ 19 rfl rfl rfl _ (y_move rfl rfl) ?_
      refine S_ 22 rfl rfl rfl _ (y_extract rfl rfl rfl) ?_
      refine S_ 23 rfl rfl rfl _ (y_extract rfl rfl rfl) ?_
      refine S_ 24 rfl rfl rfl _ (y_extract rfl rfl rfl) ?_
      refine S_ 7 rfl rfl rfl _ (y_assign rfl rfl) ?_
      refine S_ 8 rfl rfl rfl _ (y_assign rfl rfl) ?_
      refine S_ 9 rfl rfl rfl _ (y_assign rfl rfl) ?_
      refine S_go (fun _ _ h => h) ?_
      refine T_seq ?_
      refine T_region ?_
      refine S_ 25 rfl rfl rfl _ (y_move rfl rfl) ?_
      refine S_callOwn 26 26 rfl rfl rfl rfl rfl rfl rfl cf79 (fun A c => .slice A ((splitC 32 (cutC 10 s).1).length) c) 9 1 ((splitC 32 (cutC 10 s).1).length) ((splitC 32 (cutC 10 s).1).flatMap strE) (fun w hM => Split1_any (cutC 10 s).1 32 (by omega) w) ?_
      intro A26 c26
      refine S_ 10 rfl rfl rfl _ (y_assign rfl rfl) ?_
      refine S_go (fun _ _ h => h) ?_
      refine T_seq ?_
      refine T_seq ?_
      refine T_region ?_
      refine S_ 27 rfl rfl rfl _ (y_move rfl rfl) ?_
      refine S_ 28 rfl rfl rfl _ (y_not rfl rfl) ?_
      refine S_ 29 rfl rfl rfl _ (y_move rfl rfl) ?_
      refine Sg_ 30 rfl rfl rfl rfl rfl rfl _ (y_move rfl rfl) ?_
      refine Sg_ 31 rfl rfl rfl rfl rfl rfl _ (y_len_slice rfl rfl Tryd.underlying25) ?_
      refine Sg_ 32 rfl rfl rfl rfl rfl rfl _ (y_bin rfl rfl rfl (fun _ => b_lss)) ?_
      refine S_ 33 rfl rfl rfl _ (y_or rfl rfl rfl) ?_
      refine S_ 34 rfl rfl rfl _ (y_move rfl rfl) ?_
      refine Sg_ 35 rfl rfl rfl rfl rfl rfl _ (y_move rfl rfl) ?_
      refine Sg_ 36 rfl rfl rfl rfl rfl rfl _ (y_call rfl rfl rfl cf65 (fun _ w hM => IndexStr_any _ _ _ (splitC 32 (cutC 10 s).1) [] w (owned_T (enc := strE) hM rfl (i := 26) rfl) (by omega))) ?_
      refine S_ 37 rfl rfl rfl _ (y_or rfl rfl rfl) ?_
      refine S_go (fun _ _ h => h) ?_
      refine T_cond rfl (fun h37 => ?_) (fun h37 => ?_)
      · skip
        rw [if_pos (show lineBad s = true from h37)] at hp2
        refine T_seq ?_
        refine T_region ?_
        refine S_ 38 rfl rfl rfl _ (y_move rfl rfl) ?_
        refine S_nilSlice 2 (e := 89) (size := 2) ?_
        refine S_ 2 rfl rfl rfl _ (y_assign rfl rfl) ?_
        refine S_ 3 rfl rfl rfl _ (y_assign rfl rfl) ?_
        refine S_ 4 rfl rfl rfl _ (y_assign rfl rfl) ?_
        refine S_go (fun _ _ h => h) ?_
        refine T_ret (fun a w hF hM => hRb a w (post3 rfl rfl rfl rfl (fun w hM => ?_) a w hF hM))
        have hr : rdRes u = ([], ((n + 1 : Nat) : Int), 8) := by rw [rdRes, if_neg (by omega), ← hp2, List.length_map, hp5, if_pos (show (8 : Int) ≠ 0 by decide)]
        rw [hr]
        exact ⟨⟨none, 0, [], rs⟩, rfl, ⟨by rw [hr]; rfl, fun w _ _ => nilO w, fun o ho => by simp at ho, by simp⟩, (hM.keep (ks := [(0, 999)]) (by repeat (first | exact kl_rest (by assumption) rfl | (apply kl_in; focus rfl))) _ ⟨rfl, trivial⟩)⟩
      · skip
        rw [if_neg (show ¬ lineBad s = true from by rw [show lineBad s = false from h37]; exact Bool.false_ne_true)] at hp2
        have h2w : 2 ≤ (splitC 32 (cutC 10 s).1).length := by simp only [Bool.or_eq_false_iff, decide_eq_false_iff_not] at h37; omega
        obtain ⟨a, r, hW⟩ : ∃ a r, splitC 32 (cutC 10 s).1 = a :: r := by
          cases hq : splitC 32 (cutC 10 s).1 with
          | nil => rw [hq] at h2w; simp at h2w
          | cons a r => exact ⟨a, r, rfl⟩
        refine T_cap 26 rfl fun hcap => ?_
        refine T_skip_go (fun _ _ h => h) ?_
        refine T_seq ?_
        refine T_perm [0, 1, 2, 3, 4, 5, 6, 7, 8, 9] [true, true, true, true, true, true, true, false, false, true] [0, 0, 2, 6, 0, 16, 62, 126, 255, 511] [(2, [26]), (3, [26])] (by kernel_rfl) (by kernel_rfl) (by kernel_rfl) rfl (by kernel_rfl) ?_
        refine Rf_ 0 39 rfl rfl rfl rfl rfl _ trivial (Y.z (y_move rfl rfl) rfl) ?_
        refine Rf_ 1 40 rfl rfl rfl rfl rfl _ trivial (Y.z (y_move rfl rfl) rfl) ?_
        refine Rf_ 2 41 rfl rfl rfl rfl rfl _ ⟨rfl, trivial⟩ (Y.z (y_indexOwnI (j := 0) 26 rfl rfl rfl (fun _ => rfl) rfl Tryd.underlying25 sz9 (fun _ => by omega)) rfl) ?_
        refine Rf_ 3 42 rfl rfl rfl rfl rfl _ ⟨rfl, trivial⟩ (Y.z (y_loadO1 26 (val := (fun l : List UInt8 => str l)) rfl rfl rfl rfl (fun _ => by rw [hW]; rfl) Tryd.underlying9 rfl) rfl) ?_
        refine Rf_ 4 43 rfl rfl rfl rfl rfl _ trivial (Y.z (y_move rfl rfl) rfl) ?_
        refine Rf_ 5 44 rfl rfl rfl rfl rfl _ trivial (Y.z (y_slice (lo := 1) (hi := (splitC 32 (cutC 10 s).1).length) rfl rfl Tryd.underlying25 sz9 (.inr ⟨_, _, rfl, rfl⟩) (.inl ⟨rfl, rfl⟩) (by omega) (Nat.le_refl _) hcap) rfl) ?_
        refine Rf_ 6 45 rfl rfl rfl rfl rfl _ trivial (Y.z (y_build (zv := .agg #[.string ⟨#[]⟩, .slice none 0 0]) (pl := [(0, 1), (1, 1)]) (out := [_, _]) rfl rfl Tryd.underlying89 z89 (by kernel_rfl) rfl) rfl) ?_
        refine R_chain 7 rfl rfl ?_
        refine S_buildSlice 46 46 rfl rfl rfl rfl rfl Tryd.underlying22 inf89 rfl (by decide) (by decide) rfl rfl (by decide) rfl (_) rfl ?_
        intro b46
        refine R_next ⟨.inl rfl, .inl rfl, trivial⟩ ?_
        refine R_chain 8 rfl rfl ?_
        obtain ⟨i47, hi47, hz47, hs47, hy47⟩ := info_parts inf89
        refine S_append 47 5 46 rfl rfl rfl rfl rfl rfl rfl rfl Tryd.underlying22 hi47 hz47 hs47 hy47 rfl (by decide) (by decide) rfl ?_ ?_ (n + 1) ((L ++ [(⟨a, ⟨if c26 = 1 then A26 else A26.map (·.add (1 * 1)), (splitC 32 (cutC 10 s).1).length - 1, c26 - 1, r⟩⟩ : SOwner)]).flatMap SOwner.enc) ?_ ?_ ?_
        · (simp only [maxLen]; omega)
        · omega
        · rfl
        · simp [List.flatMap_append]; rfl
        intro A47 c47
        refine R_next ⟨.inl rfl, .inl rfl, trivial⟩ ?_
        refine Rf_ 9 5 rfl rfl rfl rfl rfl _ trivial (Y.z (y_assign rfl rfl) rfl) ?_
        refine R_go (fun _ _ h => h) ?_
        refine T_region ?_
        refine S_ 48 rfl rfl rfl _ (y_move rfl rfl) ?_
        refine S_ 0 rfl rfl rfl _ (y_assign rfl rfl) ?_
        refine S_go (fun _ _ h => h) ?_
        refine T_region ?_
        refine S_ 17 rfl rfl rfl _ (y_move rfl rfl) ?_
        refine S_ 18 rfl rfl rfl _ (y_bin rfl rfl rfl (fun hg => b_add (by omega))) ?_
        refine S_ 6 rfl rfl rfl _ (y_assign rfl rfl) ?_
        refine S_bank [(26, 26), (900, 900)] 900 26 rfl rfl rfl rfl (by repeat (first | exact kl_nil | exact kl_rest (by assumption) rfl | (apply kl_in; focus rfl) | (apply kl_out; focus rfl))) ?_
        refine S_nil (nextK7 (kf := [(0, 0), (2, 10), (15, 48)]) (kl := [(0, 0), (2, 10), (15, 48), (900, 900)]) (cutC 10 s).2.1 (L ++ [(⟨a, ⟨if c26 = 1 then A26 else A26.map (·.add (1 * 1)), (splitC 32 (cutC 10 s).1).length - 1, c26 - 1, r⟩⟩ : SOwner)]) A47 c47 (rs ++ [⟨9, 1, .slice A26 (splitC 32 (cutC 10 s).1).length c26, (splitC 32 (cutC 10 s).1).length, (splitC 32 (cutC 10 s).1).flatMap strE⟩]) k (n + 1) (by repeat (first | exact kf_nil | (apply kf_in; focus rfl) | (apply kf_out; focus rfl))) (by repeat (first | exact kl_nil | exact kl_rest (by assumption) rfl | (apply kl_in; focus rfl) | (apply kl_out; focus rfl))) ?_ ?_ ?_ ?_)
        · omega
        · exact ⟨by omega, by rw [← hp2, List.map_append, List.map_cons, List.map_nil, lineOwn, hW]; rfl, by omega, fun o ho => by
            rcases List.mem_append.1 ho with h | h
            · exact ⟨(hp4 o h).1, (hp4 o h).2.app⟩
            · simp only [List.mem_singleton] at h
              subst h
              exact ⟨by show (splitC 32 (cutC 10 s).1).length - 1 = r.length; rw [hW]; rfl, Sees.map (Sees.row (A := A26) (c := c26) (q := (splitC 32 (cutC 10 s).1).length) (l := splitC 32 (cutC 10 s).1) (enc := strE) (List.mem_append_right _ (List.mem_singleton.2 rfl)) rfl) fun w hw => sub_own hw hW (fun x hx => by have := split_le 32 _ x hx; omega) (by omega)⟩, by rw [List.length_append, hp5]; rfl⟩
        · exact ⟨rfl, rfl, rfl, trivial⟩
        · exact ⟨rfl, rfl, trivial⟩
    · try simp only [decide_eq_true_eq, decide_eq_false_iff_not, Bool.or_eq_true, Bool.or_eq_false_iff, Bool.and_eq_true, Bool.and_eq_false_iff, Bool.not_eq_true', Bool.not_eq_false', Bool.not_eq_true, Bool.not_eq_false, Bool.not_true, Bool.not_false, Int.not_lt, Int.not_le, not_or, not_and, Classical.not_not] at h16
      have hs0 : s = [] := by simpa using h16
      obtain ⟨k, rfl⟩ : ∃ k1, k = k1 + 1 := ⟨k - 1, by omega⟩
      rw [rdGo, if_pos hs0] at hp2
      refine T_exit_go (fun _ _ h => h) ?_
      refine T_seq ?_
      refine T_seq ?_
      refine T_region ?_
      refine S_ 49 rfl rfl rfl _ (y_move rfl rfl) ?_
      refine S_ 50 rfl rfl rfl _ (y_call rfl rfl rfl cf18 (fun _ w hM => CheckOwners_any ⟨A, n, c, L⟩ w ⟨owned_ok (enc := SOwner.enc) hM hp5 (i := 5) rfl, by show n ≤ _; omega, fun o ho => (hp4 o ho).2.at hM 900 rfl⟩)) ?_
      refine S_ 11 rfl rfl rfl _ (y_assign rfl rfl) ?_
      refine S_go (fun _ _ h => h) ?_
      refine T_seq ?_
      refine T_region ?_
      refine S_ 51 rfl rfl rfl _ (y_move rfl rfl) ?_
      refine S_ 52 rfl rfl rfl _ (y_bin rfl rfl rfl (fun _ => b_neq)) ?_
      refine S_go (fun _ _ h => h) ?_
      refine T_cond rfl (fun h52 => ?_) (fun h52 => ?_)
      · try simp only [decide_eq_true_eq, decide_eq_false_iff_not, Bool.or_eq_true, Bool.or_eq_false_iff, Bool.and_eq_true, Bool.and_eq_false_iff, Bool.not_eq_true', Bool.not_eq_false', Bool.not_eq_true, Bool.not_eq_false, Bool.not_true, Bool.not_false, Int.not_lt, Int.not_le, not_or, not_and, Classical.not_not] at h52
        refine T_seq ?_
        refine T_region ?_
        refine S_ 53 rfl rfl rfl _ (y_move rfl rfl) ?_
        refine S_nilSlice 2 (e := 89) (size := 2) ?_
        refine S_ 2 rfl rfl rfl _ (y_assign rfl rfl) ?_
        refine S_ 3 rfl rfl rfl _ (y_assign rfl rfl) ?_
        refine S_ 4 rfl rfl rfl _ (y_assign rfl rfl) ?_
        refine S_go (fun _ _ h => h) ?_
        refine T_ret (fun a w hF hM => hRb a w (post3 rfl rfl rfl rfl (fun w hM => ?_) a w hF hM))
        have ho : ownersNo ⟨A, n, c, L⟩ = pOwnersNo (L.map SOwner.says) := owners_says hp5.symm fun o ho => (hp4 o ho).1
        have hr : rdRes u = ([], 0, ownersNo ⟨A, n, c, L⟩) := by rw [rdRes, if_neg (by omega), ← hp2, if_neg (by simp), if_pos (by rw [← ho]; exact h52), ho]
        rw [hr]
        exact ⟨⟨none, 0, [], rs⟩, rfl, ⟨by rw [hr]; rfl, fun w _ _ => nilO w, fun o ho => by simp at ho, by simp⟩, (hM.keep (ks := [(0, 999)]) (by repeat (first | exact kl_rest (by assumption) rfl | (apply kl_in; focus rfl))) _ ⟨rfl, trivial⟩)⟩
      · try simp only [decide_eq_true_eq, decide_eq_false_iff_not, Bool.or_eq_true, Bool.or_eq_false_iff, Bool.and_eq_true, Bool.and_eq_false_iff, Bool.not_eq_true', Bool.not_eq_false', Bool.not_eq_true, Bool.not_eq_false, Bool.not_true, Bool.not_false, Int.not_lt, Int.not_le, not_or, not_and, Classical.not_not] at h52
        refine T_bank [(5, 5), (900, 900)] 900 5 rfl rfl rfl rfl (by repeat (first | exact kl_nil | exact kl_rest (by assumption) rfl | (apply kl_in; focus rfl) | (apply kl_out; focus rfl))) ?_
        refine T_skip_go (fun _ _ h => h) ?_
        refine T_seq ?_
        refine T_region ?_
        refine S_ 54 rfl rfl rfl _ (y_move rfl rfl) ?_
        refine S_ 2 rfl rfl rfl _ (y_assign rfl rfl) ?_
        refine S_ 3 rfl rfl rfl _ (y_assign rfl rfl) ?_
        refine S_ 4 rfl rfl rfl _ (y_assign rfl rfl) ?_
        refine S_go (fun _ _ h => h) ?_
        refine T_ret (fun a w hF hM => hRb a w (post3 rfl rfl rfl rfl (fun w hM => ?_) a w hF hM))
        have ho : ownersNo ⟨A, n, c, L⟩ = pOwnersNo (L.map SOwner.says) := owners_says hp5.symm fun o ho => (hp4 o ho).1
        have h52 : ownersNo ⟨A, n, c, L⟩ = 0 := h52
        have hr : rdRes u = (L.map SOwner.says, 0, 0) := by rw [rdRes, if_neg (by omega), ← hp2, if_neg (by simp), if_neg (by rw [← ho, h52]; exact fun h => h rfl)]
        rw [hr]
        subst hp5
        exact ⟨⟨A, c, L, _⟩, rfl, ⟨by rw [hr], fun w hb hw => ⟨Sees.row (List.mem_append_right _ (List.mem_singleton.2 rfl)) rfl w hb hw, by show L.length ≤ _; omega, fun o ho => (hp4 o ho).2.app w hb hw⟩, fun o ho => (hp4 o ho).1, by show L.length ≤ _; omega⟩, (hM.keep (ks := [(0, 999)]) (by repeat (first | exact kl_rest (by assumption) rfl | (apply kl_in; focus rfl))) _ ⟨rfl, trivial⟩)⟩
set_option maxHeartbeats 1600000 in
theorem OwnersRead_any {w0 : World} {K : HL} (hK : FromK K) (u : List UInt8) (w : World) (hM0 : Mem w0 ([] ++ K) w) :
    Calls Tryd.prog 24 #[str u] w fun e w' => ∃ x : ReadR, e = .returned (.tuple #[.slice x.A x.l.length x.c, .int .i64 (rdRes u).2.1, .int .i64 (rdRes u).2.2]) ∧ x.Ok w0 u ∧ Mem w0 ([(900, .many x.rs)] ++ K) w' := by
  have nilO : ∀ w, OwnsOk w ⟨none, 0, 0, []⟩ := fun w => ⟨⟨⟨⟨by simp, fun h => by simp at h⟩, rfl⟩, Nat.le_refl _⟩, by simp, fun o ho => by simp at ho⟩
  refine enterM_args (args := [str u]) (F := _) hM0 Tryd.func24 rfl Tryd.ntmps24 rfl rfl ?_
  intro Rb hRb hRn
  refine T_many0 900 ?_
  refine T_seq ?_
  refine T_region ?_
  refine S_nilSlice 2 (e := 89) (size := 2) ?_
  refine S_ 2 rfl rfl rfl _ (y_assign rfl rfl) ?_
  refine S_ 3 rfl rfl rfl _ (y_assign rfl rfl) ?_
  refine S_ 4 rfl rfl rfl _ (y_assign rfl rfl) ?_
  refine S_go (fun _ _ h => h) ?_
  refine T_seq ?_
  refine T_seq ?_
  refine T_region ?_
  refine S_ 10 rfl rfl rfl _ (y_move rfl rfl) ?_
  refine S_ 11 rfl rfl rfl _ (y_len_str rfl rfl Tryd.underlying9) ?_
  refine S_ 12 rfl rfl rfl _ (y_bin rfl rfl rfl (fun _ => b_gtr)) ?_
  refine S_go (fun _ _ h => h) ?_
  refine T_cond rfl (fun h12 => ?_) (fun h12 => ?_)
  · try simp only [decide_eq_true_eq, decide_eq_false_iff_not, Bool.or_eq_true, Bool.or_eq_false_iff, Bool.and_eq_true, Bool.and_eq_false_iff, Bool.not_eq_true', Bool.not_eq_false', Bool.not_eq_true, Bool.not_eq_false, Bool.not_true, Bool.not_false, Int.not_lt, Int.not_le, not_or, not_and, Classical.not_not] at h12
    refine T_seq ?_
    refine T_region ?_
    refine S_nilSlice 2 (e := 89) (size := 2) ?_
    refine S_ 2 rfl rfl rfl _ (y_assign rfl rfl) ?_
    refine S_ 3 rfl rfl rfl _ (y_assign rfl rfl) ?_
    refine S_ 4 rfl rfl rfl _ (y_assign rfl rfl) ?_
    refine S_go (fun _ _ h => h) ?_
    refine T_ret (fun a w hF hM => hRb a w (post3 rfl rfl rfl rfl (fun w hM => ?_) a w hF hM))
    have hr : rdRes u = ([], 0, 4) := if_pos (by omega)
    rw [hr]
    exact ⟨⟨none, 0, [], []⟩, rfl, ⟨by rw [hr]; rfl, fun w _ _ => nilO w, fun o ho => by simp at ho, by simp⟩, (hM.keep (ks := [(0, 999)]) (by repeat (first | exact kl_rest (by assumption) rfl | (apply kl_in; focus rfl))) _ ⟨rfl, trivial⟩)⟩
  · try simp only [decide_eq_true_eq, decide_eq_false_iff_not, Bool.or_eq_true, Bool.or_eq_false_iff, Bool.and_eq_true, Bool.and_eq_false_iff, Bool.not_eq_true', Bool.not_eq_false', Bool.not_eq_true, Bool.not_eq_false, Bool.not_true, Bool.not_false, Int.not_lt, Int.not_le, not_or, not_and, Classical.not_not] at h12
    have hu : u.length ≤ 1000000 := by omega
    refine T_skip_go (fun _ _ h => h) ?_
    refine T_seq ?_
    refine T_seq ?_
    refine T_region ?_
    refine S_ 3 rfl rfl rfl _ (y_assign rfl rfl) ?_
    refine S_go (fun _ _ h => h) ?_
    refine T_block ?_
    refine T_loopK7 (kf := [(0, 0), (2, 8), (13, 46)]) (kl := [(0, 0), (2, 8), (13, 46), (900, 900)]) (fun (s : List UInt8) (L : List SOwner) (A : Option Addr) (c : Nat) (rs : List Row) (k : Nat) (n : Nat) => [(0, true, str s), (3, true, .int .i64 ((n + 1 : Nat) : Int)), (2, true, .slice A n c)]) (fun (s : List UInt8) (L : List SOwner) (A : Option Addr) (c : Nat) (rs : List Row) (k : Nat) (n : Nat) => [(2, .own 89 2 (.slice A n c) n (L.flatMap SOwner.enc)), (900, .many rs)]) (fun (s : List UInt8) (L : List SOwner) (A : Option Addr) (c : Nat) (rs : List Row) (k : Nat) (n : Nat) => s.length < k ∧ rdGo k s (L.map SOwner.says) = rdGo (u.length + 1) u [] ∧ n + s.length ≤ u.length ∧ (∀ o ∈ L, o.w.q = o.w.l.length ∧ Sees w0 rs fun w => OwnOk w o) ∧ L.length = n) (fun (s : List UInt8) (L : List SOwner) (A : Option Addr) (c : Nat) (rs : List Row) (k : Nat) (n : Nat) => s.length) u [] none 0 [] (u.length + 1) 0 (by repeat (first | exact kf_nil | (apply kf_in; focus rfl) | (apply kf_out; focus rfl))) (by repeat (first | exact kl_nil | exact kl_rest (by assumption) rfl | (apply kl_in; focus rfl) | (apply kl_out; focus rfl))) ?_ ?_ ?_ ?_
    · exact ⟨by omega, rfl, by simp, fun _ h => by simp at h, rfl⟩
    · exact ⟨rfl, rfl, rfl, trivial⟩
    · exact ⟨rfl, rfl, trivial⟩
    rintro s L A c rs k n ⟨hp1, hp2, hp3, hp4, hp5⟩
    refine T_seq ?_
    refine T_seq ?_
    refine T_region ?_
    refine S_ 13 rfl rfl rfl _ (y_move rfl rfl) ?_
    refine S_ 14 rfl rfl rfl _ (y_bin rfl rfl rfl (fun _ => b_neqs)) ?_
    refine S_go (fun _ _ h => h) ?_
    refine T_cond rfl (fun h14 => ?_) (fun h14 => ?_)
    · try simp only [decide_eq_true_eq, decide_eq_false_iff_not, Bool.or_eq_true, Bool.or_eq_false_iff, Bool.and_eq_true, Bool.and_eq_false_iff, Bool.not_eq_true', Bool.not_eq_false', Bool.not_eq_true, Bool.not_eq_false, Bool.not_true, Bool.not_false, Int.not_lt, Int.not_le, not_or, not_and, Classical.not_not] at h14
      have hs0 : s ≠ [] := h14
      obtain ⟨hc1, hc2⟩ := cut_lens 10 s hs0
      have hsl := splitC_len 32 (cutC 10 s).1
      have hsc : (cutC 10 s).1.count 32 ≤ (cutC 10 s).1.length := List.count_le_length
      obtain ⟨k, rfl⟩ : ∃ k1, k = k1 + 1 := ⟨k - 1, by omega⟩
      rw [rdGo, if_neg hs0] at hp2
      refine T_skip_go (fun _ _ h => h) ?_
      refine T_seq ?_
      refine T_block ?_
      refine T_seq ?_
      refine T_region ?_
      refine S_ 18 rfl rfl rfl _ (y_move rfl rfl) ?_
      refine S_ 19 rfl rfl rfl _ (y_call rfl rfl rfl cf78 (fun _ w _ => Cut1_any s 10 w (by omega))) ?_
      refine S_ 17 rfl rfl rfl _ (y_move rfl rfl) ?_
      refine S_ 20 rfl rfl rfl _ (y_extract rfl rfl rfl) ?_
      refine S_ 21 rfl rfl rfl _ (y_extract rfl rfl rfl) ?_
      refine S_ 22 rfl rfl rfl _ (y_extract rfl rfl rfl) ?_
      refine S_ 5 rfl rfl rfl _ (y_assign rfl rfl) ?_
      refine S_ 6 rfl rfl rfl _ (y_assign rfl rfl) ?_
      refine S_ 7 rfl rfl rfl _ (y_assign rfl rfl) ?_
      refine S_go (fun _ _ h => h) ?_
      refine T_seq ?_
      refine T_region ?_
      refine S_ 23 rfl rfl rfl _ (y_move rfl rfl) ?_
      refine S_ 0 rfl rfl rfl _ (y_assign rfl rfl) ?_
      refine S_go (fun _ _ h => h) ?_
      refine T_seq ?_
      refine T_region ?_
      refine S_ 24 rfl rfl rfl _ (y_move rfl rfl) ?_
      refine S_callOwn 25 25 rfl rfl rfl rfl rfl rfl rfl cf79 (fun A c => .slice A ((splitC 32 (cutC 10 s).1).length) c) 9 1 ((splitC 32 (cutC 10 s).1).length) ((splitC 32 (cutC 10 s).1).flatMap strE) (fun w hM => Split1_any (cutC 10 s).1 32 (by omega) w) ?_
      intro A25 c25
      refine S_ 8 rfl rfl rfl _ (y_assign rfl rfl) ?_
      refine S_go (fun _ _ h => h) ?_
      refine T_seq ?_
      refine T_seq ?_
      refine T_region ?_
      refine S_ 26 rfl rfl rfl _ (y_move rfl rfl) ?_
      refine S_ 27 rfl rfl rfl _ (y_not rfl rfl) ?_
      refine S_ 28 rfl rfl rfl _ (y_move rfl rfl) ?_
      refine Sg_ 29 rfl rfl rfl rfl rfl rfl _ (y_move rfl rfl) ?_
      refine Sg_ 30 rfl rfl rfl rfl rfl rfl _ (y_len_slice rfl rfl Tryd.underlying25) ?_
      refine Sg_ 31 rfl rfl rfl rfl rfl rfl _ (y_bin rfl rfl rfl (fun _ => b_lss)) ?_
      refine S_ 32 rfl rfl rfl _ (y_or rfl rfl rfl) ?_
      refine S_ 33 rfl rfl rfl _ (y_move rfl rfl) ?_
      refine Sg_ 34 rfl rfl rfl rfl rfl rfl _ (y_move rfl rfl) ?_
      refine Sg_ 35 rfl rfl rfl rfl rfl rfl _ (y_call rfl rfl rfl cf65 (fun _ w hM => IndexStr_any _ _ _ (splitC 32 (cutC 10 s).1) [] w (owned_T (enc := strE) hM rfl (i := 25) rfl) (by omega))) ?_
      refine S_ 36 rfl rfl rfl _ (y_or rfl rfl rfl) ?_
      refine S_go (fun _ _ h => h) ?_
      refine T_cond rfl (fun h36 => ?_) (fun h36 => ?_)
      · skip
        rw [if_pos (show lineBad s = true from h36)] at hp2
        refine T_seq ?_
        refine T_region ?_
        refine S_ 37 rfl rfl rfl _ (y_move rfl rfl) ?_
        refine S_nilSlice 2 (e := 89) (size := 2) ?_
        refine S_ 2 rfl rfl rfl _ (y_assign rfl rfl) ?_
        refine S_ 3 rfl rfl rfl _ (y_assign rfl rfl) ?_
        refine S_ 4 rfl rfl rfl _ (y_assign rfl rfl) ?_
        refine S_go (fun _ _ h => h) ?_
        refine T_ret (fun a w hF hM => hRb a w (post3 rfl rfl rfl rfl (fun w hM => ?_) a w hF hM))
        have hr : rdRes u = ([], ((n + 1 : Nat) : Int), 8) := by rw [rdRes, if_neg (by omega), ← hp2, List.length_map, hp5, if_pos (show (8 : Int) ≠ 0 by decide)]
        rw [hr]
        exact ⟨⟨none, 0, [], rs⟩, rfl, ⟨by rw [hr]; rfl, fun w _ _ => nilO w, fun o ho => by simp at ho, by simp⟩, (hM.keep (ks := [(0, 999)]) (by repeat (first | exact kl_rest (by assumption) rfl | (apply kl_in; focus rfl))) _ ⟨rfl, trivial⟩)⟩
      · skip
        rw [if_neg (show ¬ lineBad s = true from by rw [show lineBad s = false from h36]; exact Bool.false_ne_true)] at hp2
        have h2w : 2 ≤ (splitC 32 (cutC 10 s).1).length := by simp only [Bool.or_eq_false_iff, decide_eq_false_iff_not] at h36; omega
        obtain ⟨a, r, hW⟩ : ∃ a r, splitC 32 (cutC 10 s).1 = a :: r := by
          cases hq : splitC 32 (cutC 10 s).1 with
          | nil => rw [hq] at h2w; simp at h2w
          | cons a r => exact ⟨a, r, rfl⟩
        refine T_cap 25 rfl fun hcap => ?_
        refine T_skip_go (fun _ _ h => h) ?_
        refine T_perm [0, 1, 2, 3, 4, 5, 6, 7, 8, 9] [true, true, true, true, true, true, true, false, false, true] [0, 0, 2, 6, 0, 16, 62, 126, 255, 511] [(2, [25]), (3, [25])] (by kernel_rfl) (by kernel_rfl) (by kernel_rfl) rfl (by kernel_rfl) ?_
        refine Rf_ 0 38 rfl rfl rfl rfl rfl _ trivial (Y.z (y_move rfl rfl) rfl) ?_
        refine Rf_ 1 39 rfl rfl rfl rfl rfl _ trivial (Y.z (y_move rfl rfl) rfl) ?_
        refine Rf_ 2 40 rfl rfl rfl rfl rfl _ ⟨rfl, trivial⟩ (Y.z (y_indexOwnI (j := 0) 25 rfl rfl rfl (fun _ => rfl) rfl Tryd.underlying25 sz9 (fun _ => by omega)) rfl) ?_
        refine Rf_ 3 41 rfl rfl rfl rfl rfl _ ⟨rfl, trivial⟩ (Y.z (y_loadO1 25 (val := (fun l : List UInt8 => str l)) rfl rfl rfl rfl (fun _ => by rw [hW]; rfl) Tryd.underlying9 rfl) rfl) ?_
        refine Rf_ 4 42 rfl rfl rfl rfl rfl _ trivial (Y.z (y_move rfl rfl) rfl) ?_
        refine Rf_ 5 43 rfl rfl rfl rfl rfl _ trivial (Y.z (y_slice (lo := 1) (hi := (splitC 32 (cutC 10 s).1).length) rfl rfl Tryd.underlying25 sz9 (.inr ⟨_, _, rfl, rfl⟩) (.inl ⟨rfl, rfl⟩) (by omega) (Nat.le_refl _) hcap) rfl) ?_
        refine Rf_ 6 44 rfl rfl rfl rfl rfl _ trivial (Y.z (y_build (zv := .agg #[.string ⟨#[]⟩, .slice none 0 0]) (pl := [(0, 1), (1, 1)]) (out := [_, _]) rfl rfl Tryd.underlying89 z89 (by kernel_rfl) rfl) rfl) ?_
        refine R_chain 7 rfl rfl ?_
        refine S_buildSlice 45 45 rfl rfl rfl rfl rfl Tryd.underlying22 inf89 rfl (by decide) (by decide) rfl rfl (by decide) rfl (_) rfl ?_
        intro b45
        refine R_next ⟨.inl rfl, .inl rfl, trivial⟩ ?_
        refine R_chain 8 rfl rfl ?_
        obtain ⟨i46, hi46, hz46, hs46, hy46⟩ := info_parts inf89
        refine S_append 46 2 45 rfl rfl rfl rfl rfl rfl rfl rfl Tryd.underlying22 hi46 hz46 hs46 hy46 rfl (by decide) (by decide) rfl ?_ ?_ (n + 1) ((L ++ [(⟨a, ⟨if c25 = 1 then A25 else A25.map (·.add (1 * 1)), (splitC 32 (cutC 10 s).1).length - 1, c25 - 1, r⟩⟩ : SOwner)]).flatMap SOwner.enc) ?_ ?_ ?_
        · (simp only [maxLen]; omega)
        · omega
        · rfl
        · simp [List.flatMap_append]; rfl
        intro A46 c46
        refine R_next ⟨.inl rfl, .inl rfl, trivial⟩ ?_
        refine Rf_ 9 2 rfl rfl rfl rfl rfl _ trivial (Y.z (y_assign rfl rfl) rfl) ?_
        refine R_go (fun _ _ h => h) ?_
        refine T_region ?_
        refine S_ 15 rfl rfl rfl _ (y_move rfl rfl) ?_
        refine S_ 16 rfl rfl rfl _ (y_bin rfl rfl rfl (fun hg => b_add (by omega))) ?_
        refine S_ 3 rfl rfl rfl _ (y_assign rfl rfl) ?_
        refine S_bank [(25, 25), (900, 900)] 900 25 rfl rfl rfl rfl (by repeat (first | exact kl_nil | exact kl_rest (by assumption) rfl | (apply kl_in; focus rfl) | (apply kl_out; focus rfl))) ?_
        refine S_nil (nextK7 (kf := [(0, 0), (2, 8), (13, 46)]) (kl := [(0, 0), (2, 8), (13, 46), (900, 900)]) (cutC 10 s).2.1 (L ++ [(⟨a, ⟨if c25 = 1 then A25 else A25.map (·.add (1 * 1)), (splitC 32 (cutC 10 s).1).length - 1, c25 - 1, r⟩⟩ : SOwner)]) A46 c46 (rs ++ [⟨9, 1, .slice A25 (splitC 32 (cutC 10 s).1).length c25, (splitC 32 (cutC 10 s).1).length, (splitC 32 (cutC 10 s).1).flatMap strE⟩]) k (n + 1) (by repeat (first | exact kf_nil | (apply kf_in; focus rfl) | (apply kf_out; focus rfl))) (by repeat (first | exact kl_nil | exact kl_rest (by assumption) rfl | (apply kl_in; focus rfl) | (apply kl_out; focus rfl))) ?_ ?_ ?_ ?_)
        · omega
        · exact ⟨by omega, by rw [← hp2, List.map_append, List.map_cons, List.map_nil, lineOwn, hW]; rfl, by omega, fun o ho => by
            rcases List.mem_append.1 ho with h | h
            · exact ⟨(hp4 o h).1, (hp4 o h).2.app⟩
            · simp only [List.mem_singleton] at h
              subst h
              exact ⟨by show (splitC 32 (cutC 10 s).1).length - 1 = r.length; rw [hW]; rfl, Sees.map (Sees.row (A := A25) (c := c25) (q := (splitC 32 (cutC 10 s).1).length) (l := splitC 32 (cutC 10 s).1) (enc := strE) (List.mem_append_right _ (List.mem_singleton.2 rfl)) rfl) fun w hw => sub_own hw hW (fun x hx => by have := split_le 32 _ x hx; omega) (by omega)⟩, by rw [List.length_append, hp5]; rfl⟩
        · exact ⟨rfl, rfl, rfl, trivial⟩
        · exact ⟨rfl, rfl, trivial⟩
    · try simp only [decide_eq_true_eq, decide_eq_false_iff_not, Bool.or_eq_true, Bool.or_eq_false_iff, Bool.and_eq_true, Bool.and_eq_false_iff, Bool.not_eq_true', Bool.not_eq_false', Bool.not_eq_true, Bool.not_eq_false, Bool.not_true, Bool.not_false, Int.not_lt, Int.not_le, not_or, not_and, Classical.not_not] at h14
      have hs0 : s = [] := by simpa using h14
      obtain ⟨k, rfl⟩ : ∃ k1, k = k1 + 1 := ⟨k - 1, by omega⟩
      rw [rdGo, if_pos hs0] at hp2
      refine T_exit_go (fun _ _ h => h) ?_
      refine T_seq ?_
      refine T_seq ?_
      refine T_region ?_
      refine S_ 47 rfl rfl rfl _ (y_move rfl rfl) ?_
      refine S_ 48 rfl rfl rfl _ (y_call rfl rfl rfl cf12 (fun _ w hM => OwnersFault_any ⟨A, n, c, L⟩ w ⟨owned_ok (enc := SOwner.enc) hM hp5 (i := 2) rfl, by show n ≤ _; omega, fun o ho => (hp4 o ho).2.at hM 900 rfl⟩)) ?_
      refine S_ 9 rfl rfl rfl _ (y_assign rfl rfl) ?_
      refine S_go (fun _ _ h => h) ?_
      refine T_seq ?_
      refine T_region ?_
      refine S_ 49 rfl rfl rfl _ (y_move rfl rfl) ?_
      refine S_ 50 rfl rfl rfl _ (y_bin rfl rfl rfl (fun _ => b_neq)) ?_
      refine S_go (fun _ _ h => h) ?_
      refine T_cond rfl (fun h50 => ?_) (fun h50 => ?_)
      · try simp only [decide_eq_true_eq, decide_eq_false_iff_not, Bool.or_eq_true, Bool.or_eq_false_iff, Bool.and_eq_true, Bool.and_eq_false_iff, Bool.not_eq_true', Bool.not_eq_false', Bool.not_eq_true, Bool.not_eq_false, Bool.not_true, Bool.not_false, Int.not_lt, Int.not_le, not_or, not_and, Classical.not_not] at h50
        refine T_seq ?_
        refine T_region ?_
        refine S_ 51 rfl rfl rfl _ (y_move rfl rfl) ?_
        refine S_nilSlice 2 (e := 89) (size := 2) ?_
        refine S_ 2 rfl rfl rfl _ (y_assign rfl rfl) ?_
        refine S_ 3 rfl rfl rfl _ (y_assign rfl rfl) ?_
        refine S_ 4 rfl rfl rfl _ (y_assign rfl rfl) ?_
        refine S_go (fun _ _ h => h) ?_
        refine T_ret (fun a w hF hM => hRb a w (post3 rfl rfl rfl rfl (fun w hM => ?_) a w hF hM))
        have ho : ownersNo ⟨A, n, c, L⟩ = pOwnersNo (L.map SOwner.says) := owners_says hp5.symm fun o ho => (hp4 o ho).1
        have hr : rdRes u = ([], 0, ownersNo ⟨A, n, c, L⟩) := by rw [rdRes, if_neg (by omega), ← hp2, if_neg (by simp), if_pos (by rw [← ho]; exact h50), ho]
        rw [hr]
        exact ⟨⟨none, 0, [], rs⟩, rfl, ⟨by rw [hr]; rfl, fun w _ _ => nilO w, fun o ho => by simp at ho, by simp⟩, (hM.keep (ks := [(0, 999)]) (by repeat (first | exact kl_rest (by assumption) rfl | (apply kl_in; focus rfl))) _ ⟨rfl, trivial⟩)⟩
      · try simp only [decide_eq_true_eq, decide_eq_false_iff_not, Bool.or_eq_true, Bool.or_eq_false_iff, Bool.and_eq_true, Bool.and_eq_false_iff, Bool.not_eq_true', Bool.not_eq_false', Bool.not_eq_true, Bool.not_eq_false, Bool.not_true, Bool.not_false, Int.not_lt, Int.not_le, not_or, not_and, Classical.not_not] at h50
        refine T_bank [(2, 2), (900, 900)] 900 2 rfl rfl rfl rfl (by repeat (first | exact kl_nil | exact kl_rest (by assumption) rfl | (apply kl_in; focus rfl) | (apply kl_out; focus rfl))) ?_
        refine T_skip_go (fun _ _ h => h) ?_
        refine T_seq ?_
        refine T_region ?_
        refine S_ 52 rfl rfl rfl _ (y_move rfl rfl) ?_
        refine S_ 2 rfl rfl rfl _ (y_assign rfl rfl) ?_
        refine S_ 3 rfl rfl rfl _ (y_assign rfl rfl) ?_
        refine S_ 4 rfl rfl rfl _ (y_assign rfl rfl) ?_
        refine S_go (fun _ _ h => h) ?_
        refine T_ret (fun a w hF hM => hRb a w (post3 rfl rfl rfl rfl (fun w hM => ?_) a w hF hM))
        have ho : ownersNo ⟨A, n, c, L⟩ = pOwnersNo (L.map SOwner.says) := owners_says hp5.symm fun o ho => (hp4 o ho).1
        have h50 : ownersNo ⟨A, n, c, L⟩ = 0 := h50
        have hr : rdRes u = (L.map SOwner.says, 0, 0) := by rw [rdRes, if_neg (by omega), ← hp2, if_neg (by simp), if_neg (by rw [← ho, h50]; exact fun h => h rfl)]
        rw [hr]
        subst hp5
        exact ⟨⟨A, c, L, _⟩, rfl, ⟨by rw [hr], fun w hb hw => ⟨Sees.row (List.mem_append_right _ (List.mem_singleton.2 rfl)) rfl w hb hw, by show L.length ≤ _; omega, fun o ho => (hp4 o ho).2.app w hb hw⟩, fun o ho => (hp4 o ho).1, by show L.length ≤ _; omega⟩, (hM.keep (ks := [(0, 999)]) (by repeat (first | exact kl_rest (by assumption) rfl | (apply kl_in; focus rfl))) _ ⟨rfl, trivial⟩)⟩
/-! ### SameOwners -/
def samO (a b : SOwner) : Bool := decide (a.p = b.p) && eqLB sEq a.w.l b.w.l
theorem SameOwn1_any (x y : SOwner) (w : World) (hx : OwnOk w x) (hy : OwnOk w y) :
    Calls Tryd.prog 81 #[x.val, y.val] w fun e w' => e = .returned (.bool (samO x y)) ∧ Below w.heap.size w w' := by
  refine enter_args (args := [.agg #[str x.p, .slice x.w.A x.w.q x.w.c], .agg #[str y.p, .slice y.w.A y.w.q y.w.c]]) (F := _) Tryd.func81 rfl Tryd.ntmps81 rfl rfl ?_
  intro Rb hRb hRn
  refine T_seq ?_
  refine T_region ?_
  refine S_box 2 2 rfl rfl rfl rfl rfl ?_
  intro b2
  refine S_box 3 3 rfl rfl rfl rfl rfl ?_
  intro b3
  refine S_ 4 rfl rfl rfl _ (y_assign rfl rfl) ?_
  refine S_go (fun _ _ h => h) ?_
  refine T_seq ?_
  refine T_region ?_
  refine S_ 5 rfl rfl rfl _ (y_fieldAddr rfl rfl fa89_0) ?_
  refine S_ 6 rfl rfl rfl _ (y_load 2 rfl rfl rfl rfl Tryd.underlying9 rfl) ?_
  refine S_ 7 rfl rfl rfl _ (y_fieldAddr rfl rfl fa89_0) ?_
  refine S_ 8 rfl rfl rfl _ (y_load 3 rfl rfl rfl rfl Tryd.underlying9 rfl) ?_
  refine S_ 9 rfl rfl rfl _ (y_bin rfl rfl rfl (fun _ => b_eqls)) ?_
  refine S_ 10 rfl rfl rfl _ (y_move rfl rfl) ?_
  refine Sg_ 11 rfl rfl rfl rfl rfl rfl _ (y_fieldAddr rfl rfl fa89_1) ?_
  refine Sg_ 12 rfl rfl rfl rfl rfl rfl _ (y_load 2 rfl rfl rfl rfl Tryd.underlying25 rfl) ?_
  refine Sg_ 13 rfl rfl rfl rfl rfl rfl _ (y_fieldAddr rfl rfl fa89_1) ?_
  refine Sg_ 14 rfl rfl rfl rfl rfl rfl _ (y_load 3 rfl rfl rfl rfl Tryd.underlying25 rfl) ?_
  refine Sg_ 15 rfl rfl rfl rfl rfl rfl _ (y_call rfl rfl rfl cf26 (fun _ w hM => EqualS_any _ _ _ _ _ _ x.w.l y.w.l w (hx.w.t.below hM.below) (hy.w.t.below hM.below) hx.q hy.q)) ?_
  refine S_ 16 rfl rfl rfl _ (y_and rfl rfl rfl) ?_
  refine S_ 4 rfl rfl rfl _ (y_assign rfl rfl) ?_
  refine S_go (fun _ _ h => h) ?_
  refine T_ret (fun a w hF hM => hRb a w (post1 rfl rfl (fun w hM => ?_) a w hF hM))
  exact ⟨rfl, hM.below⟩
theorem EqualOwn_any (l m : Sl SOwner) (g : FuncId) (cap : Array Value) (w : World) (hl : OwnsOk w l) (hm : OwnsOk w m) (hcf : ∀ args w, (callFunc g args).run Tryd.prog w = .ok (.enter g args) w)
    (hA : ∀ x y w', Below w.heap.size w w' → OwnOk w' x → OwnOk w' y → Calls Tryd.prog g (#[x.val, y.val] ++ cap) w' fun e w'' => e = .returned (.bool (samO x y)) ∧ Below w'.heap.size w' w'') :
    Calls Tryd.prog 80 #[.slice l.A l.q l.c, .slice m.A m.q m.c, .func (.func g) #[] cap] w fun e w' => e = .returned (.bool (eqLB samO l.l m.l)) ∧ Below w.heap.size w w' := by
  have ht := hl.ok.t
  have hu := hm.ok.t
  have hq := hl.q
  have hp := hm.q
  have hlen := ht.len
  have hmen := hu.len
  refine enter_args (args := [.slice l.A l.q l.c, .slice m.A m.q m.c, .func (.func g) #[] cap]) (F := _) Tryd.func80 rfl Tryd.ntmps80 rfl rfl ?_
  intro Rb hRb hRn
  refine T_seq ?_
  refine T_region ?_
  refine S_ 6 rfl rfl rfl _ (y_assign rfl rfl) ?_
  refine S_go (fun _ _ h => h) ?_
  refine T_seq ?_
  refine T_seq ?_
  refine T_region ?_
  refine S_ 10 rfl rfl rfl _ (y_move rfl rfl) ?_
  refine S_ 11 rfl rfl rfl _ (y_len_slice rfl rfl Tryd.underlying22) ?_
  refine S_ 12 rfl rfl rfl _ (y_move rfl rfl) ?_
  refine S_ 13 rfl rfl rfl _ (y_len_slice rfl rfl Tryd.underlying22) ?_
  refine S_ 14 rfl rfl rfl _ (y_bin rfl rfl rfl (fun _ => b_neq)) ?_
  refine S_go (fun _ _ h => h) ?_
  refine T_cond rfl (fun h14 => ?_) (fun h14 => ?_)
  · try simp only [decide_eq_true_eq, decide_eq_false_iff_not, Bool.or_eq_true, Bool.or_eq_false_iff, Bool.and_eq_true, Bool.and_eq_false_iff, Bool.not_eq_true', Bool.not_eq_false', Bool.not_eq_true, Bool.not_eq_false, Bool.not_true, Bool.not_false, Int.not_lt, Int.not_le, not_or, not_and, Classical.not_not] at h14
    refine T_seq ?_
    refine T_region ?_
    refine S_ 6 rfl rfl rfl _ (y_assign rfl rfl) ?_
    refine S_go (fun _ _ h => h) ?_
    refine T_ret (fun a w hF hM => hRb a w (post1 rfl rfl (fun w hM => ?_) a w hF hM))
    exact ⟨by rw [eqLB_len l.l m.l (by omega)], hM.below⟩
  · try simp only [decide_eq_true_eq, decide_eq_false_iff_not, Bool.or_eq_true, Bool.or_eq_false_iff, Bool.and_eq_true, Bool.and_eq_false_iff, Bool.not_eq_true', Bool.not_eq_false', Bool.not_eq_true, Bool.not_eq_false, Bool.not_true, Bool.not_false, Int.not_lt, Int.not_le, not_or, not_and, Classical.not_not] at h14
    refine T_skip_go (fun _ _ h => h) ?_
    refine T_seq ?_
    refine T_seq ?_
    refine T_region ?_
    refine S_ 15 rfl rfl rfl _ (y_move rfl rfl) ?_
    refine S_ 16 rfl rfl rfl _ (y_len_slice rfl rfl Tryd.underlying22) ?_
    refine S_ 17 rfl rfl rfl _ (y_move rfl rfl) ?_
    refine S_go (fun _ _ h => h) ?_
    refine T_block ?_
    refine T_loopK1 (kf := [(6, 9), (17, 31)]) (kl := [(6, 9), (17, 31)]) (fun (i : Nat) => [(17, true, .int .i64 (i : Int))]) (fun (i : Nat) => []) (fun (i : Nat) => i ≤ l.q ∧ eqLB samO l.l m.l = eqLB samO (l.l.drop i) (m.l.drop i)) (fun (i : Nat) => l.q - i) 0 (by repeat (first | exact kf_nil | (apply kf_in; focus rfl) | (apply kf_out; focus rfl))) (by repeat (first | exact kl_nil | exact kl_rest (by assumption) rfl | (apply kl_in; focus rfl) | (apply kl_out; focus rfl))) ?_ ?_ ?_ ?_
    · exact ⟨by omega, rfl⟩
    · exact ⟨rfl, trivial⟩
    · exact trivial
    rintro i ⟨hp1, hp2⟩
    refine T_seq ?_
    refine T_region ?_
    refine S_ 18 rfl rfl rfl _ (y_bin rfl rfl rfl (fun _ => b_lss)) ?_
    refine S_go (fun _ _ h => h) ?_
    refine T_seq ?_
    refine T_cond rfl (fun h18 => ?_) (fun h18 => ?_)
    · try simp only [decide_eq_true_eq, decide_eq_false_iff_not, Bool.or_eq_true, Bool.or_eq_false_iff, Bool.and_eq_true, Bool.and_eq_false_iff, Bool.not_eq_true', Bool.not_eq_false', Bool.not_eq_true, Bool.not_eq_false, Bool.not_true, Bool.not_false, Int.not_lt, Int.not_le, not_or, not_and, Classical.not_not] at h18
      obtain ⟨x, hx1, hx2⟩ := ht.at (i := i) (by omega)
      obtain ⟨y, hy1, hy2⟩ := hu.at (i := i) (by omega)
      refine T_skip_go (fun _ _ h => h) ?_
      refine T_seq ?_
      refine T_block ?_
      refine T_seq ?_
      refine T_region ?_
      refine S_ 19 rfl rfl rfl _ (y_move rfl rfl) ?_
      refine S_ 20 rfl rfl rfl _ (y_indexAddr rfl rfl rfl Tryd.underlying22 sz89 (fun hg => ht.isSome (by omega)) (fun _ => by omega)) ?_
      refine S_ 21 rfl rfl rfl _ (y_loadT rfl rfl ht (fun _ => rfl) (fun _ => hx1) Tryd.underlying89 rfl sz89) ?_
      refine S_alloc 8 8 rfl rfl rfl rfl z89 ?_
      intro b8
      refine S_ 7 rfl rfl rfl _ (y_assign rfl rfl) ?_
      refine S_store 8 rfl rfl rfl rfl rfl rfl sz89 rfl rfl ?_
      refine S_go (fun _ _ h => h) ?_
      refine T_seq ?_
      refine T_region ?_
      refine S_ 22 rfl rfl rfl _ (y_move rfl rfl) ?_
      refine S_ 23 rfl rfl rfl _ (y_move rfl rfl) ?_
      refine S_ 24 rfl rfl rfl _ (y_indexAddr rfl rfl rfl Tryd.underlying22 sz89 (fun hg => hu.isSome (by omega)) (fun _ => by omega)) ?_
      refine S_ 25 rfl rfl rfl _ (y_loadT rfl rfl hu (fun _ => rfl) (fun _ => hy1) Tryd.underlying89 rfl sz89) ?_
      refine S_alloc 9 9 rfl rfl rfl rfl z89 ?_
      intro b9
      refine S_store 9 rfl rfl rfl rfl rfl rfl sz89 rfl rfl ?_
      refine S_go (fun _ _ h => h) ?_
      refine T_seq ?_
      refine T_region ?_
      refine S_ 26 rfl rfl rfl _ (y_move rfl rfl) ?_
      refine S_ 27 rfl rfl rfl _ (y_loadA 8 rfl rfl rfl Tryd.underlying89 rfl sz89) ?_
      refine S_ 28 rfl rfl rfl _ (y_loadA 9 rfl rfl rfl Tryd.underlying89 rfl sz89) ?_
      refine S_ 29 rfl rfl rfl _ (y_call rfl rfl rfl hcf (fun _ w hM => hA x y w hM.below ((hl.n x (mem_at hx1)).below hM.below) ((hm.n y (mem_at hy1)).below hM.below))) ?_
      refine S_ 30 rfl rfl rfl _ (y_not rfl rfl) ?_
      refine S_go (fun _ _ h => h) ?_
      refine T_cond rfl (fun h30 => ?_) (fun h30 => ?_)
      · try simp only [decide_eq_true_eq, decide_eq_false_iff_not, Bool.or_eq_true, Bool.or_eq_false_iff, Bool.and_eq_true, Bool.and_eq_false_iff, Bool.not_eq_true', Bool.not_eq_false', Bool.not_eq_true, Bool.not_eq_false, Bool.not_true, Bool.not_false, Int.not_lt, Int.not_le, not_or, not_and, Classical.not_not] at h30
        refine T_seq ?_
        refine T_region ?_
        refine S_ 6 rfl rfl rfl _ (y_assign rfl rfl) ?_
        refine S_go (fun _ _ h => h) ?_
        refine T_ret (fun a w hF hM => hRb a w (post1 rfl rfl (fun w hM => ?_) a w hF hM))
        exact ⟨by rw [hp2, hx2, hy2, eqLB, h30, Bool.false_and], hM.below⟩
      · try simp only [decide_eq_true_eq, decide_eq_false_iff_not, Bool.or_eq_true, Bool.or_eq_false_iff, Bool.and_eq_true, Bool.and_eq_false_iff, Bool.not_eq_true', Bool.not_eq_false', Bool.not_eq_true, Bool.not_eq_false, Bool.not_true, Bool.not_false, Int.not_lt, Int.not_le, not_or, not_and, Classical.not_not] at h30
        refine T_skip_go (fun _ _ h => h) ?_
        refine T_region ?_
        refine S_ 31 rfl rfl rfl _ (y_bin rfl rfl rfl (fun hg => b_add (by omega))) ?_
        refine S_ 17 rfl rfl rfl _ (y_move rfl rfl) ?_
        refine S_nil (nextK1 (kf := [(6, 9), (17, 31)]) (kl := [(6, 9), (17, 31)]) (i + 1) (by repeat (first | exact kf_nil | (apply kf_in; focus rfl) | (apply kf_out; focus rfl))) (by repeat (first | exact kl_nil | exact kl_rest (by assumption) rfl | (apply kl_in; focus rfl) | (apply kl_out; focus rfl))) ?_ ?_ ?_ ?_)
        · omega
        · exact ⟨by omega, by rw [hp2, hx2, hy2, eqLB, h30, Bool.true_and]⟩
        · exact ⟨rfl, trivial⟩
        · exact trivial
    · try simp only [decide_eq_true_eq, decide_eq_false_iff_not, Bool.or_eq_true, Bool.or_eq_false_iff, Bool.and_eq_true, Bool.and_eq_false_iff, Bool.not_eq_true', Bool.not_eq_false', Bool.not_eq_true, Bool.not_eq_false, Bool.not_true, Bool.not_false, Int.not_lt, Int.not_le, not_or, not_and, Classical.not_not] at h18
      refine T_exit_go (fun _ _ h => h) ?_
      refine T_seq ?_
      refine T_region ?_
      refine S_ 6 rfl rfl rfl _ (y_assign rfl rfl) ?_
      refine S_go (fun _ _ h => h) ?_
      refine T_ret (fun a w hF hM => hRb a w (post1 rfl rfl (fun w hM => ?_) a w hF hM))
      exact ⟨by rw [hp2, ht.end (by omega), hu.end (by omega)]; rfl, hM.below⟩
theorem SameOwners_any (l m : Sl SOwner) (w : World) (hl : OwnsOk w l) (hm : OwnsOk w m) :
    Calls Tryd.prog 25 #[.slice l.A l.q l.c, .slice m.A m.q m.c] w fun e w' => e = .returned (.bool (eqLB samO l.l m.l)) ∧ Below w.heap.size w w' := by
  refine enter_args (args := [.slice l.A l.q l.c, .slice m.A m.q m.c]) (F := _) Tryd.func25 rfl Tryd.ntmps25 rfl rfl ?_
  intro Rb hRb hRn
  refine T_seq ?_
  refine T_region ?_
  refine S_ 4 rfl rfl rfl _ (y_assign rfl rfl) ?_
  refine S_go (fun _ _ h => h) ?_
  refine T_seq ?_
  refine T_region ?_
  refine S_ 5 rfl rfl rfl _ (y_move rfl rfl) ?_
  refine S_ 6 rfl rfl rfl _ (y_move rfl rfl) ?_
  refine S_ 7 rfl rfl rfl _ (y_call rfl rfl rfl cf80 (fun _ w hM => EqualOwn_any l m _ #[] w (hl.below hM.below) (hm.below hM.below) cf81 (fun x y w _ hx hy => SameOwn1_any x y w hx hy))) ?_
  refine S_ 4 rfl rfl rfl _ (y_assign rfl rfl) ?_
  refine S_go (fun _ _ h => h) ?_
  refine T_ret (fun a w hF hM => hRb a w (post1 rfl rfl (fun w hM => ?_) a w hF hM))
  exact ⟨rfl, hM.below⟩
theorem same_says : ∀ l m : List SOwner, l.map SOwner.says = m.map SOwner.says → eqLB samO l m = true
  | [], [], _ => rfl
  | [], b :: s, h => by simp at h
  | a :: r, [], h => by simp at h
  | a :: r, b :: s, h => by
    simp only [List.map_cons, List.cons.injEq] at h
    rw [eqLB, same_says r s h.2, Bool.and_true]
    obtain ⟨h1, h2⟩ := Prod.mk.inj h.1
    have h1 : a.p = b.p := h1
    have h2 : a.w.l = b.w.l := h2
    rw [samO, decide_eq_true h1, h2, eqL_refl fun x => by simp [sEq]]; rfl
end Go.Proofs.YtoeipmepmlikcaaDoor
