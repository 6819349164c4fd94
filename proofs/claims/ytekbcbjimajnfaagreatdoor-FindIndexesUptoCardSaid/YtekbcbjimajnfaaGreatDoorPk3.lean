/- Part 3, merged by a program. slices.SortStableFunc walked, second part: rotation and symMerge. Conditions: those of each theorem. slices.SortStableFunc walked, last part: blocks, and the whole. Conditions: those of each theorem. find.(*Index).Find. Conditions: those of the theorem. Strings: one byte looked for, cut and split at it, suffixes; words in a list. Conditions: those of each theorem. find.values and the reference's valuesOf. Conditions: those of each theorem. Facets and bins of events in plain lists. No program in sight. Bins and trends of events in plain lists. No program in sight. find.(*Index).Bins and Trend. Conditions: those of the theorems. find.(*Index).Facets. Conditions: those of the theorem. find.(*Index).Get. Conditions: those of the theorem. The reference's Copied, the rows of the frames said one by one. Conditions: those of the theorem. -/
import Derived.Test.YtekbcbjimajnfaaGreatDoorZip
import Derived.Test.YtekbcbjimajnfaaGreatDoorCnv
import Derived.Test.YtekbcbjimajnfaaGreatDoorSub
import Derived.Test.YtekbcbjimajnfaaGreatDoorByt
import Derived.Test.YtekbcbjimajnfaaGreatDoorClr
import Derived.Test.YtekbcbjimajnfaaGreatDoorPost
import Derived.Test.YtekbcbjimajnfaaGreatDoorPk2
section
namespace Go.Proofs.YtekbcbjimajnfaaGreatDoor
set_option linter.unusedSimpArgs false
set_option linter.unusedVariables false
set_option maxRecDepth 20000
open Go.RowKit Go.Eng
theorem cut4 {α : Type} {X U V Y : List α} {i e : Nat} : X ++ (U ++ V) ++ Y = (X ++ U.take i) ++ (U.drop i ++ V.take e) ++ (V.drop e ++ Y) := by
  have h : (X ++ U.take i) ++ (U.drop i ++ V.take e) ++ (V.drop e ++ Y) = X ++ ((U.take i ++ U.drop i) ++ (V.take e ++ V.drop e)) ++ Y := by simp only [List.append_assoc]
  rw [h, List.take_append_drop, List.take_append_drop]
theorem rotV_any {w0 : World} {K : HL} (hK : FromK K) (cf : Value) (A : Option Addr) (q c : Nat) (X U V Yt : List Evt) (a m b : Nat) (ha : X.length = a) (hm : a + U.length = m) (hb : m + V.length = b) (hU : 0 < U.length) (hV : 0 < V.length) (hq : (X ++ (U ++ V) ++ Yt).length = q) (hqm : q ≤ 1000000000) (w : World)
    (hM0 : Mem w0 ([(0, .own 31 9 (.slice A q c) q ((X ++ (U ++ V) ++ Yt).flatMap Evt.enc))] ++ K) w) :
    Calls Tryz.prog 218 #[.slice A q c, .int .i64 (a : Int), .int .i64 (m : Int), .int .i64 (b : Int), cf] w fun e w' => ∃ _ : Unit, e = .returned (.tuple #[]) ∧ True ∧ Mem w0 ([(0, .own 31 9 (.slice A q c) q ((X ++ (V ++ U) ++ Yt).flatMap Evt.enc))] ++ K) w' := by
  simp only [List.length_append] at hq
  refine enterM_args (args := [.slice A q c, .int .i64 (a : Int), .int .i64 (m : Int), .int .i64 (b : Int), cf]) (F := _) hM0 Tryz.func218 rfl Tryz.ntmps218 rfl rfl ?_
  intro Rb hRb hRn
  refine T_some 0 rfl fun hA => ?_
  refine tx ?_
  refine sr 2 ?_
  refine s1 (y_bin rfl rfl rfl (fun hg => b_subv (((U.length : Nat) : Int)) (by omega) (by omega))) ?_
  refine sr 1 ?_
  refine sgx ?_
  refine sr 2 ?_
  refine s1 (y_bin rfl rfl rfl (fun hg => b_subv (((V.length : Nat) : Int)) (by omega) (by omega))) ?_
  refine sr 1 ?_
  refine sgs ?_
  refine T_block ?_
  refine lK4 (kf := [(10, 11), (18, 49)]) (kl := [(0, 0), (10, 11), (18, 49)]) (fun (x1 u v y1 : List Evt) => [(10, true, .int .i64 ((u.length : Nat) : Int)), (11, true, .int .i64 ((v.length : Nat) : Int))]) (fun (x1 u v y1 : List Evt) => [(0, .own 31 9 (.slice A q c) q ((x1 ++ (u ++ v) ++ y1).flatMap Evt.enc))]) (fun (x1 u v y1 : List Evt) => 0 < u.length ∧ 0 < v.length ∧ x1.length + u.length = m ∧ m + v.length ≤ b ∧ x1.length + u.length + v.length + y1.length = q ∧ x1 ++ (v ++ u) ++ y1 = X ++ (V ++ U) ++ Yt) (fun (x1 u v y1 : List Evt) => u.length + v.length) X U V Yt ?_ ?_ ?_ ?_
  · exact ⟨hU, hV, by omega, by omega, by omega, rfl⟩
  · exact ⟨rfl, rfl, trivial⟩
  · exact ⟨rfl, trivial⟩
  rintro x1 u v y1 ⟨hp1, hp2, hp3, hp4, hp5, hp6⟩
  refine T_seq ?_
  refine tx ?_
  refine sr 3 ?_
  refine sgo ?_
  refine T_cond rfl ?_ ?_ <;> intro h20
  · try simp only [nrm] at h20
    have h20 : ¬ u.length = v.length := by omega
    refine kgo ?_
    refine T_block ?_
    refine tx ?_
    refine sr 3 ?_
    refine sgo ?_
    refine T_cond rfl ?_ ?_ <;> intro h23
    · try simp only [nrm] at h23
      have hl1 : (u.drop v.length).length = u.length - v.length := List.length_drop
      have hl2 : (u.take v.length).length = v.length := by rw [List.length_take]; omega
      have hlu : u.length = v.length + (u.drop v.length).length := by omega
      rw [show x1 ++ (u ++ v) ++ y1 = x1 ++ u.take v.length ++ u.drop v.length ++ v ++ y1 from by rw [List.append_assoc x1 (u.take v.length), List.take_append_drop]; simp]
      refine tx ?_
      refine sr 3 ?_
      refine s1 (y_bin rfl rfl rfl (fun hg => b_subv (((x1.length : Nat) : Int)) (by omega) (by omega))) ?_
      refine sr 3 ?_
      refine S_callM 31 [(0, 0)] (X := Unit) rfl rfl rfl rfl rfl rfl rfl cf233 rfl (fun _ => .tuple #[]) (fun _ => True) (fun _ => [(0, .own 31 9 (.slice A q c) q ((x1 ++ v ++ u.drop v.length ++ u.take v.length ++ y1).flatMap Evt.enc))]) (fun _ => rfl) (fun _ => rfl) (fun K1 hK1 w hM => swapV_any hK1 cf A q c x1 (u.take v.length) (u.drop v.length) v y1 v.length x1.length m hl2 rfl rfl (by omega) (by simp only [List.length_append]; omega) hqm w hM) ?_
      intro _ _
      refine sgr ?_
      refine sr 2 ?_
      refine s1 (y_bin rfl rfl rfl (fun hg => b_subv ((((u.drop v.length).length : Nat) : Int)) (by omega) (by omega))) ?_
      refine sr 1 ?_
      rw [show x1 ++ v ++ u.drop v.length ++ u.take v.length ++ y1 = (x1 ++ v) ++ (u.drop v.length ++ u.take v.length) ++ y1 from by simp]
      rw [show Value.int IntKind.i64 ((v.length : Nat) : Int) = .int .i64 (((u.take v.length).length : Nat) : Int) from by rw [hl2]]
      refine S_nil (nK4 (kf := [(10, 11), (18, 49)]) (kl := [(0, 0), (10, 11), (18, 49)]) (x1 ++ v) (u.drop v.length) (u.take v.length) y1 ?_ ?_ ?_ ?_)
      · omega
      · exact ⟨by omega, by omega, by rw [List.length_append]; omega, by omega, by rw [List.length_append]; omega, by rw [← hp6, List.take_append_drop]; simp⟩
      · exact ⟨rfl, rfl, trivial⟩
      · exact ⟨rfl, trivial⟩
    try simp only [nrm] at h23
    have hl1 : (v.take (v.length - u.length)).length = v.length - u.length := by rw [List.length_take]; omega
    have hl2 : (v.drop (v.length - u.length)).length = u.length := by rw [List.length_drop]; omega
    rw [show x1 ++ (u ++ v) ++ y1 = x1 ++ u ++ v.take (v.length - u.length) ++ v.drop (v.length - u.length) ++ y1 from by rw [List.append_assoc (x1 ++ u), List.take_append_drop]; simp]
    refine tx ?_
    refine sr 3 ?_
    refine s1 (y_bin rfl rfl rfl (fun hg => b_subv (((x1.length : Nat) : Int)) (by omega) (by omega))) ?_
    refine sr 2 ?_
    refine s1 (y_bin rfl rfl rfl (fun hg => b_addv (((m + v.length : Nat) : Int)) (by omega) (by omega))) ?_
    refine sr 1 ?_
    refine s1 (y_bin rfl rfl rfl (fun hg => b_subv (((m + v.length - u.length : Nat) : Int)) (by omega) (by omega))) ?_
    refine sr 2 ?_
    refine S_callM 46 [(0, 0)] (X := Unit) rfl rfl rfl rfl rfl rfl rfl cf233 rfl (fun _ => .tuple #[]) (fun _ => True) (fun _ => [(0, .own 31 9 (.slice A q c) q ((x1 ++ v.drop (v.length - u.length) ++ v.take (v.length - u.length) ++ u ++ y1).flatMap Evt.enc))]) (fun _ => rfl) (fun _ => rfl) (fun K1 hK1 w hM => swapV_any hK1 cf A q c x1 u (v.take (v.length - u.length)) (v.drop (v.length - u.length)) y1 u.length x1.length (m + v.length - u.length) rfl hl2 rfl (by omega) (by simp only [List.length_append]; omega) hqm w hM) ?_
    intro _ _
    refine sgr ?_
    refine sr 2 ?_
    refine s1 (y_bin rfl rfl rfl (fun hg => b_subv ((((v.take (v.length - u.length)).length : Nat) : Int)) (by omega) (by omega))) ?_
    refine sr 1 ?_
    rw [show x1 ++ v.drop (v.length - u.length) ++ v.take (v.length - u.length) ++ u ++ y1 = x1 ++ (v.drop (v.length - u.length) ++ v.take (v.length - u.length)) ++ (u ++ y1) from by simp]
    rw [show Value.int IntKind.i64 ((u.length : Nat) : Int) = .int .i64 (((v.drop (v.length - u.length)).length : Nat) : Int) from by rw [hl2]]
    refine S_nil (nK4 (kf := [(10, 11), (18, 49)]) (kl := [(0, 0), (10, 11), (18, 49)]) x1 (v.drop (v.length - u.length)) (v.take (v.length - u.length)) (u ++ y1) ?_ ?_ ?_ ?_)
    · omega
    · exact ⟨by omega, by omega, by omega, by omega, by rw [List.length_append]; omega, by rw [← hp6, List.take_append_drop]; simp⟩
    · exact ⟨rfl, rfl, trivial⟩
    · exact ⟨rfl, trivial⟩
  try simp only [nrm] at h20
  have h20 : u.length = v.length := by omega
  rw [show x1 ++ (u ++ v) ++ y1 = x1 ++ u ++ [] ++ v ++ y1 from by simp]
  refine egr ?_
  refine sr 3 ?_
  refine s1 (y_bin rfl rfl rfl (fun hg => b_subv (((x1.length : Nat) : Int)) (by omega) (by omega))) ?_
  refine sr 3 ?_
  refine S_callM 57 [(0, 0)] (X := Unit) rfl rfl rfl rfl rfl rfl rfl cf233 rfl (fun _ => .tuple #[]) (fun _ => True) (fun _ => [(0, .own 31 9 (.slice A q c) q ((x1 ++ v ++ ([] : List Evt) ++ u ++ y1).flatMap Evt.enc))]) (fun _ => rfl) (fun _ => rfl) (fun K1 hK1 w hM => swapV_any hK1 cf A q c x1 u [] v y1 u.length x1.length m rfl h20.symm rfl (by simp only [List.length_nil]; omega) (by simp only [List.length_append, List.length_nil]; omega) hqm w hM) ?_
  intro _ _
  refine S_nil (fun a w hF hM => hRn a w (post0 rfl (fun w hM => ?_) a w hF hM))
  exact ⟨(), rfl, trivial, hM.keep (ks := [(0, 999)]) (by repeat (first | exact kl_rest (by assumption) rfl | (apply kl_in; focus rfl))) _ ⟨by rw [← hp6, show x1 ++ (v ++ u) ++ y1 = x1 ++ v ++ [] ++ u ++ y1 from by simp]; rfl, trivial⟩⟩
set_option maxHeartbeats 4000000 in
theorem symV_any {R : Evt → Evt → Prop} (tr : ∀ x y z, R x y → R y z → R x z) {cf : Evt → Evt → Int} (g : FuncId) (cap : Array Value) (hcf : ∀ args w, (callFunc g args).run Tryz.prog w = .ok (.enter g args) w)
    {w0 : World} {pit : It} (hcmp : ∀ x y w L, Mem w0 L w → HL.get L 901 = some pit → Calls Tryz.prog g (#[.agg (Evt.enc x).toArray, .agg (Evt.enc y).toArray] ++ cap) w fun e w' => e = .returned (.int .i64 (cf x y)) ∧ Below w.heap.size w w')
    : ∀ (N : Nat) {K : HL} (_ : FromK K) (A : Option Addr) (q c : Nat) (X U V Yt : List Evt) (a m b : Nat) (_ : X.length = a) (_ : a + U.length = m) (_ : m + V.length = b) (_ : U.length + V.length ≤ N) (_ : 0 < U.length) (_ : 0 < V.length) (_ : (X ++ (U ++ V) ++ Yt).length = q) (_ : q ≤ 1000000000)
      (_ : U.Pairwise R) (_ : V.Pairwise R) (_ : ∀ x ∈ U, ∀ y ∈ V, Cmp R cf x y) (w : World) (_ : Mem w0 ([(0, .own 31 9 (.slice A q c) q ((X ++ (U ++ V) ++ Yt).flatMap Evt.enc)), (901, pit)] ++ K) w),
    Calls Tryz.prog 170 #[.slice A q c, .int .i64 (a : Int), .int .i64 (m : Int), .int .i64 (b : Int), .func (.func g) #[] cap] w fun e w' => ∃ W : List Evt, e = .returned (.tuple #[]) ∧ (W.Perm (U ++ V) ∧ W.Pairwise R) ∧ Mem w0 ([(0, .own 31 9 (.slice A q c) q ((X ++ W ++ Yt).flatMap Evt.enc)), (901, pit)] ++ K) w' := by
  intro N
  induction N with
  | zero => intro K hK A q c X U V Yt a m b ha hm hb hN hU0; omega
  | succ N ih =>
  intro K hK A q c X U V Yt a m b ha hm hb hN hU0 hV0 hq hqm hU hV hC w hM0
  simp only [List.length_append] at hq
  refine enterM_args (args := [.slice A q c, .int .i64 (a : Int), .int .i64 (m : Int), .int .i64 (b : Int), .func (.func g) #[] cap]) (F := _) hM0 Tryz.func170 rfl Tryz.ntmps170 rfl rfl ?_
  intro Rb hRb hRn
  refine T_some 0 rfl fun hA => ?_
  refine T_seq ?_
  refine tx ?_
  refine sr 2 ?_
  refine s1 (y_bin rfl rfl rfl (fun hg => b_subv (((U.length : Nat) : Int)) (by omega) (by omega))) ?_
  refine sr 1 ?_
  refine sgo ?_
  refine T_cond rfl ?_ ?_ <;> intro h28
  · try simp only [nrm] at h28
    have h28 : U.length = 1 := by omega
    have hm1 : m = a + 1 := by omega
    obtain ⟨u, rfl⟩ := List.length_eq_one_iff.1 h28
    have hCu := hC u List.mem_cons_self
    rw [show X ++ ([u] ++ V) ++ Yt = insL X V u 0 Yt from by simp [insL]]
    refine tx ?_
    refine s1 (y_as (v' := .int .i64 ((a + 1 + 0 : Nat) : Int)) (by congr 1; omega) (y_move rfl rfl)) ?_
    refine sr 1 ?_
    refine sgx ?_
    refine s1 (y_as (v' := .int .i64 ((a + 1 + V.length : Nat) : Int)) (by congr 1; omega) (y_move rfl rfl)) ?_
    refine sr 1 ?_
    refine sgs ?_
    refine T_block ?_
    refine lK2 (kf := [(10, 12), (31, 53)]) (kl := [(10, 12), (31, 53)]) (fun (lo hi : Nat) => [(10, true, .int .i64 ((a + 1 + lo : Nat) : Int)), (11, true, .int .i64 ((a + 1 + hi : Nat) : Int))]) (fun (lo hi : Nat) => []) (fun (lo hi : Nat) => lo ≤ hi ∧ hi ≤ V.length ∧ (∀ y, 0 < lo → V[lo - 1]? = some y → cf y u < 0) ∧ (∀ y, V[hi]? = some y → ¬ cf y u < 0)) (fun (lo hi : Nat) => hi - lo) 0 V.length ?_ ?_ ?_ ?_
    · exact ⟨by omega, by omega, fun _ h => absurd h (by omega), fun y hy => absurd (List.getElem?_eq_some_iff.1 hy).1 (by omega)⟩
    · exact ⟨rfl, rfl, trivial⟩
    · exact trivial
    rintro lo hi ⟨hr1, hr2, hr3, hr4⟩
    refine T_seq ?_
    refine tx ?_
    refine sr 3 ?_
    refine sgo ?_
    refine T_cond rfl ?_ ?_ <;> intro h33
    · try simp only [nrm] at h33
      obtain ⟨md, hmd1, hmd2, hmd3⟩ : ∃ md, (a + 1 + lo + (a + 1 + hi)) / 2 = a + 1 + md ∧ lo ≤ md ∧ md < hi := ⟨(a + 1 + lo + (a + 1 + hi)) / 2 - (a + 1), by omega, by omega, by omega⟩
      obtain ⟨y, hy⟩ := some_at (l := V) (i := md) (by omega)
      refine kgo ?_
      refine T_block ?_
      refine tx ?_
      refine sr 2 ?_
      refine s1 (y_bin rfl rfl rfl (fun hg => b_addv (((a + 1 + lo + (a + 1 + hi) : Nat) : Int)) (by omega) (by omega))) ?_
      refine s1 (y_as (v' := .int .u64 ((a + 1 + lo + (a + 1 + hi) : Nat) : Int)) (by congr 1; exact wrap64_in (by omega)) (y_conv rfl rfl Tryz.underlying3 Tryz.underlying133)) ?_
      refine s1 (y_bin rfl rfl rfl (fun hg => b_shrv ((((a + 1 + lo + (a + 1 + hi)) / 2 : Nat) : Int)) (by decide) (by decide) (by first | (simp; done) | (simp; omega)))) ?_
      refine s1 (y_as (v' := .int .i64 ((a + 1 + md : Nat) : Int)) (by congr 1; omega) (y_conv64 rfl rfl Tryz.underlying133 Tryz.underlying3 (fun _ => by omega))) ?_
      refine sr 1 ?_
      refine sgs ?_
      refine T_draws (by kernel_rfl) (by kernel_rfl) ?_
      refine d1 (y_move rfl rfl) ?_
      refine d1 (y_move rfl rfl) ?_
      refine d1 (y_move rfl rfl) ?_
      refine d1 (y_indexAddr rfl rfl rfl Tryz.underlying25 sz31 (fun hg => hA (by omega)) (fun _ => by omega)) ?_
      refine d1 (y_loadO 0 rfl rfl rfl (by first | (rw [insL_len]; simp only [List.length_cons, List.length_nil] at *; omega) | (simp only [List.length_append]; omega)) (fun _ => rfl) (fun _ => insL_hi (Nat.zero_le _) hy (by omega)) Tryz.underlying31 rfl sz31) ?_
      refine d1 (y_move rfl rfl) ?_
      refine d1 (y_move rfl rfl) ?_
      refine d1 (y_indexAddr rfl rfl rfl Tryz.underlying25 sz31 (fun hg => hA (by omega)) (fun _ => by omega)) ?_
      refine d1 (y_loadO 0 rfl rfl rfl (by first | (rw [insL_len]; simp only [List.length_cons, List.length_nil] at *; omega) | (simp only [List.length_append]; omega)) (fun _ => rfl) (fun _ => insL_at (Nat.zero_le _) (by omega)) Tryz.underlying31 rfl sz31) ?_
      refine d1 (y_call rfl rfl rfl hcf (fun _ w hM => hcmp y u w _ hM rfl)) ?_
      refine d1 (y_bin rfl rfl rfl (fun _ => b_lss)) ?_
      refine dgo ?_
      refine T_cond rfl ?_ ?_ <;> intro h50
      · skip
        have h50 : cf y u < 0 := by simpa using h50
        refine T_region ?_
        refine sr 1 ?_
        refine s1 (y_bin rfl rfl rfl (fun hg => b_addv (((a + 1 + (md + 1) : Nat) : Int)) (by omega) (by omega))) ?_
        refine sr 1 ?_
        refine S_nil (nK2 (kf := [(10, 12), (31, 53)]) (kl := [(10, 12), (31, 53)]) (md + 1) hi ?_ ?_ ?_ ?_)
        · omega
        · exact ⟨by omega, by omega, fun z _ hz => by rw [Nat.add_sub_cancel, hy] at hz; obtain rfl := Option.some.inj hz; exact h50, hr4⟩
        · exact ⟨rfl, rfl, trivial⟩
        · exact trivial
      have h50 : ¬ cf y u < 0 := by simpa using h50
      refine T_region ?_
      refine sr 2 ?_
      refine S_nil (nK2 (kf := [(10, 12), (31, 53)]) (kl := [(10, 12), (31, 53)]) lo md ?_ ?_ ?_ ?_)
      · omega
      · exact ⟨by omega, by omega, hr3, fun z hz => by rw [hy] at hz; obtain rfl := Option.some.inj hz; exact h50⟩
      · exact ⟨rfl, rfl, trivial⟩
      · exact trivial
    try simp only [nrm] at h33
    have hlh : hi = lo := by omega
    refine egs ?_
    refine tx ?_
    refine s1 (y_as (v' := .int .i64 ((a + 0 : Nat) : Int)) (by exact rfl) (y_move rfl rfl)) ?_
    refine sr 1 ?_
    refine sgo ?_
    refine T_block ?_
    refine lK1 (kf := [(13, 13), (55, 76)]) (kl := [(0, 0), (13, 13), (55, 76)]) (fun (t : Nat) => [(13, true, .int .i64 ((a + t : Nat) : Int))]) (fun (t : Nat) => [(0, .own 31 9 (.slice A q c) q ((insL X V u t Yt).flatMap Evt.enc))]) (fun (t : Nat) => t ≤ lo) (fun (t : Nat) => lo - t) 0 ?_ ?_ ?_ ?_
    · omega
    · exact ⟨rfl, trivial⟩
    · exact ⟨rfl, trivial⟩
    rintro t ht1
    refine T_seq ?_
    refine tx ?_
    refine sr 2 ?_
    refine s1 (y_bin rfl rfl rfl (fun hg => b_subv (((a + lo : Nat) : Int)) (by omega) (by omega))) ?_
    refine sr 1 ?_
    refine sgo ?_
    refine T_cond rfl ?_ ?_ <;> intro h58
    · try simp only [nrm] at h58
      obtain ⟨y, hy⟩ := some_at (l := V) (i := t) (by omega)
      refine kgs ?_
      refine T_block ?_
      refine T_perm [0, 1, 2, 3, 4, 5, 6, 7, 8, 9, 10, 11, 12, 13, 14, 15, 16, 17] [true, true, true, true, true, true, true, true, true, true, true, true, true, true, true, false, true, false] [0, 0, 0, 0, 8, 0, 0, 64, 224, 480, 0, 0, 3072, 7168, 16355, 32739, 65535, 131071] [(9, [0]), (13, [0])] (by kernel_rfl) (by kernel_rfl) (by kernel_rfl) rfl (by kernel_rfl) ?_
      refine Rf_ 0 61 rfl rfl rfl rfl rfl _ trivial (Y.z (y_move rfl rfl) rfl) ?_
      refine Rf_ 1 62 rfl rfl rfl rfl rfl _ trivial (Y.z (y_move rfl rfl) rfl) ?_
      refine Rf_ 2 63 rfl rfl rfl rfl rfl _ trivial (Y.z (y_move rfl rfl) rfl) ?_
      refine Rf_ 3 64 rfl rfl rfl rfl rfl _ trivial (Y.z (y_move rfl rfl) rfl) ?_
      refine Rf_ 4 65 rfl rfl rfl rfl rfl _ trivial (Y.z (y_bin rfl rfl rfl (fun hg => b_addv (((a + t + 1 : Nat) : Int)) (by omega) (by omega))) rfl) ?_
      refine Rf_ 5 66 rfl rfl rfl rfl rfl _ trivial (Y.z (y_move rfl rfl) rfl) ?_
      refine Rf_ 6 67 rfl rfl rfl rfl rfl _ trivial (Y.z (y_move rfl rfl) rfl) ?_
      refine Rf_ 7 68 rfl rfl rfl rfl rfl _ trivial (Y.z (y_bin rfl rfl rfl (fun hg => b_addv (((a + t + 1 : Nat) : Int)) (by omega) (by omega))) rfl) ?_
      refine Rf_ 8 69 rfl rfl rfl rfl rfl _ trivial (Y.z (y_indexAddr rfl rfl rfl Tryz.underlying25 sz31 (fun hg => hA (by omega)) (fun _ => by omega)) rfl) ?_
      refine Rf_ 9 70 rfl rfl rfl rfl rfl _ ⟨rfl, trivial⟩ (Y.z (y_loadO 0 rfl rfl rfl (by first | (rw [insL_len]; simp only [List.length_cons, List.length_nil] at *; omega) | (simp only [List.length_append]; omega)) (fun _ => rfl) (fun _ => insL_next hy (by omega)) Tryz.underlying31 rfl sz31) rfl) ?_
      refine Rf_ 10 71 rfl rfl rfl rfl rfl _ trivial (Y.z (y_move rfl rfl) rfl) ?_
      refine Rf_ 11 72 rfl rfl rfl rfl rfl _ trivial (Y.z (y_move rfl rfl) rfl) ?_
      refine Rf_ 12 73 rfl rfl rfl rfl rfl _ trivial (Y.z (y_indexAddr rfl rfl rfl Tryz.underlying25 sz31 (fun hg => hA (by omega)) (fun _ => by omega)) rfl) ?_
      refine Rf_ 13 74 rfl rfl rfl rfl rfl _ ⟨rfl, trivial⟩ (Y.z (y_loadO 0 rfl rfl rfl (by first | (rw [insL_len]; simp only [List.length_cons, List.length_nil] at *; omega) | (simp only [List.length_append]; omega)) (fun _ => rfl) (fun _ => insL_at (by omega) (by omega)) Tryz.underlying31 rfl sz31) rfl) ?_
      refine Rf_ 14 75 rfl rfl rfl rfl rfl _ trivial (Y.z (y_indexAddr rfl rfl rfl Tryz.underlying25 sz31 (fun hg => hA (by omega)) (fun _ => by omega)) rfl) ?_
      refine R_chain 15 rfl rfl ?_
      refine S_storeEl 0 rfl rfl rfl rfl rfl rfl sz31 rfl rfl rfl ?_ (xs' := ((insL X V u t Yt).set (a + t) y).flatMap Evt.enc) ?_ ?_
      · omega
      · exact flat_setE (enc := Evt.enc) (size := 9) (fun _ => rfl) (by rw [insL_len]; omega)
      refine R_next ⟨.inl rfl, .inl rfl, trivial⟩ ?_
      refine Rf_ 16 76 rfl rfl rfl rfl rfl _ trivial (Y.z (y_indexAddr rfl rfl rfl Tryz.underlying25 sz31 (fun hg => hA (by omega)) (fun _ => by omega)) rfl) ?_
      refine R_chain 17 rfl rfl ?_
      refine S_storeEl 0 rfl rfl rfl rfl rfl rfl sz31 rfl rfl rfl ?_ (xs' := (insL X V u (t + 1) Yt).flatMap Evt.enc) ?_ ?_
      · omega
      · rw [flat_setE (enc := Evt.enc) (size := 9) (fun _ => rfl) (by rw [List.length_set, insL_len]; omega), insL_up hy (by omega) (by omega)]
      refine R_next ⟨.inl rfl, .inl rfl, trivial⟩ ?_
      refine R_go (fun _ _ h => h) ?_
      refine T_region ?_
      refine sr 1 ?_
      refine s1 (y_bin rfl rfl rfl (fun hg => b_addv (((a + (t + 1) : Nat) : Int)) (by omega) (by omega))) ?_
      refine sr 1 ?_
      refine S_nil (nK1 (kf := [(13, 13), (55, 76)]) (kl := [(0, 0), (13, 13), (55, 76)]) (t + 1) ?_ ?_ ?_ ?_)
      · omega
      · omega
      · exact ⟨rfl, trivial⟩
      · exact ⟨rfl, trivial⟩
    try simp only [nrm] at h58
    have htl : t = lo := by omega
    refine ego ?_
    refine tr0 hRb fun w hM => ?_
    exact ⟨V.take t ++ u :: V.drop t, rfl, ⟨ins_perm, ins_sorted tr hV (by omega) (fun y h0 hy => (hCu y (mem_at hy)).1 (hr3 y (by omega) (by rw [← htl]; exact hy))) (fun y hy => (hCu y (mem_at hy)).2 (hr4 y (by rw [hlh, ← htl]; exact hy)))⟩, hM.keep (ks := [(0, 999)]) (by repeat (first | exact kl_rest (by assumption) rfl | (apply kl_in; focus rfl))) _ ⟨rfl, rfl, trivial⟩⟩
  try simp only [nrm] at h28
  have h28 : 2 ≤ U.length := by omega
  refine kgs ?_
  refine tx ?_
  refine sr 2 ?_
  refine s1 (y_bin rfl rfl rfl (fun hg => b_subv (((V.length : Nat) : Int)) (by omega) (by omega))) ?_
  refine sr 1 ?_
  refine sgo ?_
  refine T_cond rfl ?_ ?_ <;> intro h80
  · try simp only [nrm] at h80
    have h80 : V.length = 1 := by omega
    obtain ⟨v, rfl⟩ := List.length_eq_one_iff.1 h80
    have hCv := fun x hx => hC x hx v List.mem_cons_self
    rw [show X ++ (U ++ [v]) ++ Yt = insL X U v U.length Yt from by simp [insL]]
    refine tx ?_
    refine s1 (y_as (v' := .int .i64 ((a + 0 : Nat) : Int)) (by exact rfl) (y_move rfl rfl)) ?_
    refine sr 1 ?_
    refine sgx ?_
    refine s1 (y_as (v' := .int .i64 ((a + U.length : Nat) : Int)) (by congr 1; omega) (y_move rfl rfl)) ?_
    refine sr 1 ?_
    refine sgs ?_
    refine T_block ?_
    refine lK2 (kf := [(14, 16), (83, 106)]) (kl := [(14, 16), (83, 106)]) (fun (lo hi : Nat) => [(14, true, .int .i64 ((a + lo : Nat) : Int)), (15, true, .int .i64 ((a + hi : Nat) : Int))]) (fun (lo hi : Nat) => []) (fun (lo hi : Nat) => lo ≤ hi ∧ hi ≤ U.length ∧ (∀ y, 0 < lo → U[lo - 1]? = some y → ¬ cf v y < 0) ∧ (∀ y, U[hi]? = some y → cf v y < 0)) (fun (lo hi : Nat) => hi - lo) 0 U.length ?_ ?_ ?_ ?_
    · exact ⟨by omega, by omega, fun _ h => absurd h (by omega), fun y hy => absurd (List.getElem?_eq_some_iff.1 hy).1 (by omega)⟩
    · exact ⟨rfl, rfl, trivial⟩
    · exact trivial
    rintro lo hi ⟨hr1, hr2, hr3, hr4⟩
    refine T_seq ?_
    refine tx ?_
    refine sr 3 ?_
    refine sgo ?_
    refine T_cond rfl ?_ ?_ <;> intro h85
    · try simp only [nrm] at h85
      obtain ⟨md, hmd1, hmd2, hmd3⟩ : ∃ md, (a + lo + (a + hi)) / 2 = a + md ∧ lo ≤ md ∧ md < hi := ⟨(a + lo + (a + hi)) / 2 - a, by omega, by omega, by omega⟩
      obtain ⟨y, hy⟩ := some_at (l := U) (i := md) (by omega)
      refine kgo ?_
      refine T_block ?_
      refine tx ?_
      refine sr 2 ?_
      refine s1 (y_bin rfl rfl rfl (fun hg => b_addv (((a + lo + (a + hi) : Nat) : Int)) (by omega) (by omega))) ?_
      refine s1 (y_as (v' := .int .u64 ((a + lo + (a + hi) : Nat) : Int)) (by congr 1; exact wrap64_in (by omega)) (y_conv rfl rfl Tryz.underlying3 Tryz.underlying133)) ?_
      refine s1 (y_bin rfl rfl rfl (fun hg => b_shrv ((((a + lo + (a + hi)) / 2 : Nat) : Int)) (by decide) (by decide) (by first | (simp; done) | (simp; omega)))) ?_
      refine s1 (y_as (v' := .int .i64 ((a + md : Nat) : Int)) (by congr 1; omega) (y_conv64 rfl rfl Tryz.underlying133 Tryz.underlying3 (fun _ => by omega))) ?_
      refine sr 1 ?_
      refine sgs ?_
      refine T_draws (by kernel_rfl) (by kernel_rfl) ?_
      refine d1 (y_move rfl rfl) ?_
      refine d1 (y_move rfl rfl) ?_
      refine d1 (y_move rfl rfl) ?_
      refine d1 (y_indexAddr rfl rfl rfl Tryz.underlying25 sz31 (fun hg => hA (by omega)) (fun _ => by omega)) ?_
      refine d1 (y_loadO 0 rfl rfl rfl (by first | (rw [insL_len]; simp only [List.length_cons, List.length_nil] at *; omega) | (simp only [List.length_append]; omega)) (fun _ => rfl) (fun _ => insL_at (Nat.le_refl _) (by omega)) Tryz.underlying31 rfl sz31) ?_
      refine d1 (y_move rfl rfl) ?_
      refine d1 (y_move rfl rfl) ?_
      refine d1 (y_indexAddr rfl rfl rfl Tryz.underlying25 sz31 (fun hg => hA (by omega)) (fun _ => by omega)) ?_
      refine d1 (y_loadO 0 rfl rfl rfl (by first | (rw [insL_len]; simp only [List.length_cons, List.length_nil] at *; omega) | (simp only [List.length_append]; omega)) (fun _ => rfl) (fun _ => insL_lo (by omega) hy (by omega)) Tryz.underlying31 rfl sz31) ?_
      refine d1 (y_call rfl rfl rfl hcf (fun _ w hM => hcmp v y w _ hM rfl)) ?_
      refine d1 (y_bin rfl rfl rfl (fun _ => b_lss)) ?_
      refine d1 (y_not rfl rfl) ?_
      refine dgo ?_
      refine T_cond rfl ?_ ?_ <;> intro h103
      · skip
        have h103 : ¬ cf v y < 0 := by simpa using h103
        refine T_region ?_
        refine sr 1 ?_
        refine s1 (y_bin rfl rfl rfl (fun hg => b_addv (((a + (md + 1) : Nat) : Int)) (by omega) (by omega))) ?_
        refine sr 1 ?_
        refine S_nil (nK2 (kf := [(14, 16), (83, 106)]) (kl := [(14, 16), (83, 106)]) (md + 1) hi ?_ ?_ ?_ ?_)
        · omega
        · exact ⟨by omega, by omega, fun z _ hz => by rw [Nat.add_sub_cancel, hy] at hz; obtain rfl := Option.some.inj hz; exact h103, hr4⟩
        · exact ⟨rfl, rfl, trivial⟩
        · exact trivial
      have h103 : cf v y < 0 := by simpa using h103
      refine T_region ?_
      refine sr 2 ?_
      refine S_nil (nK2 (kf := [(14, 16), (83, 106)]) (kl := [(14, 16), (83, 106)]) lo md ?_ ?_ ?_ ?_)
      · omega
      · exact ⟨by omega, by omega, hr3, fun z hz => by rw [hy] at hz; obtain rfl := Option.some.inj hz; exact h103⟩
      · exact ⟨rfl, rfl, trivial⟩
      · exact trivial
    try simp only [nrm] at h85
    have hlh : hi = lo := by omega
    refine egs ?_
    refine tx ?_
    refine s1 (y_as (v' := .int .i64 ((a + U.length : Nat) : Int)) (by congr 1; omega) (y_move rfl rfl)) ?_
    refine sr 1 ?_
    refine sgo ?_
    refine T_block ?_
    refine lK1 (kf := [(17, 17), (108, 128)]) (kl := [(0, 0), (17, 17), (108, 128)]) (fun (t : Nat) => [(17, true, .int .i64 ((a + t : Nat) : Int))]) (fun (t : Nat) => [(0, .own 31 9 (.slice A q c) q ((insL X U v t Yt).flatMap Evt.enc))]) (fun (t : Nat) => lo ≤ t ∧ t ≤ U.length) (fun (t : Nat) => t) U.length ?_ ?_ ?_ ?_
    · exact ⟨by omega, by omega⟩
    · exact ⟨rfl, trivial⟩
    · exact ⟨rfl, trivial⟩
    rintro t ⟨ht1, ht2⟩
    refine T_seq ?_
    refine tx ?_
    refine sr 3 ?_
    refine sgo ?_
    refine T_cond rfl ?_ ?_ <;> intro h110
    · try simp only [nrm] at h110
      obtain ⟨s, rfl⟩ : ∃ s, t = s + 1 := ⟨t - 1, by omega⟩
      obtain ⟨y, hy⟩ := some_at (l := U) (i := s) (by omega)
      refine kgs ?_
      refine T_block ?_
      refine T_perm [0, 1, 2, 3, 4, 5, 6, 7, 8, 9, 10, 11, 12, 13, 14, 15, 16, 17] [true, true, true, true, true, true, true, true, true, true, true, true, true, true, true, false, true, false] [0, 0, 0, 0, 8, 0, 0, 64, 224, 480, 0, 0, 3072, 7168, 16355, 32739, 65535, 131071] [(9, [0]), (13, [0])] (by kernel_rfl) (by kernel_rfl) (by kernel_rfl) rfl (by kernel_rfl) ?_
      refine Rf_ 0 113 rfl rfl rfl rfl rfl _ trivial (Y.z (y_move rfl rfl) rfl) ?_
      refine Rf_ 1 114 rfl rfl rfl rfl rfl _ trivial (Y.z (y_move rfl rfl) rfl) ?_
      refine Rf_ 2 115 rfl rfl rfl rfl rfl _ trivial (Y.z (y_move rfl rfl) rfl) ?_
      refine Rf_ 3 116 rfl rfl rfl rfl rfl _ trivial (Y.z (y_move rfl rfl) rfl) ?_
      refine Rf_ 4 117 rfl rfl rfl rfl rfl _ trivial (Y.z (y_bin rfl rfl rfl (fun hg => b_subv (((a + s : Nat) : Int)) (by omega) (by omega))) rfl) ?_
      refine Rf_ 5 118 rfl rfl rfl rfl rfl _ trivial (Y.z (y_move rfl rfl) rfl) ?_
      refine Rf_ 6 119 rfl rfl rfl rfl rfl _ trivial (Y.z (y_move rfl rfl) rfl) ?_
      refine Rf_ 7 120 rfl rfl rfl rfl rfl _ trivial (Y.z (y_bin rfl rfl rfl (fun hg => b_subv (((a + s : Nat) : Int)) (by omega) (by omega))) rfl) ?_
      refine Rf_ 8 121 rfl rfl rfl rfl rfl _ trivial (Y.z (y_indexAddr rfl rfl rfl Tryz.underlying25 sz31 (fun hg => hA (by omega)) (fun _ => by omega)) rfl) ?_
      refine Rf_ 9 122 rfl rfl rfl rfl rfl _ ⟨rfl, trivial⟩ (Y.z (y_loadO 0 rfl rfl rfl (by first | (rw [insL_len]; simp only [List.length_cons, List.length_nil] at *; omega) | (simp only [List.length_append]; omega)) (fun _ => rfl) (fun _ => insL_prev hy (by omega)) Tryz.underlying31 rfl sz31) rfl) ?_
      refine Rf_ 10 123 rfl rfl rfl rfl rfl _ trivial (Y.z (y_move rfl rfl) rfl) ?_
      refine Rf_ 11 124 rfl rfl rfl rfl rfl _ trivial (Y.z (y_move rfl rfl) rfl) ?_
      refine Rf_ 12 125 rfl rfl rfl rfl rfl _ trivial (Y.z (y_indexAddr rfl rfl rfl Tryz.underlying25 sz31 (fun hg => hA (by omega)) (fun _ => by omega)) rfl) ?_
      refine Rf_ 13 126 rfl rfl rfl rfl rfl _ ⟨rfl, trivial⟩ (Y.z (y_loadO 0 rfl rfl rfl (by first | (rw [insL_len]; simp only [List.length_cons, List.length_nil] at *; omega) | (simp only [List.length_append]; omega)) (fun _ => rfl) (fun _ => insL_at (by omega) (by omega)) Tryz.underlying31 rfl sz31) rfl) ?_
      refine Rf_ 14 127 rfl rfl rfl rfl rfl _ trivial (Y.z (y_indexAddr rfl rfl rfl Tryz.underlying25 sz31 (fun hg => hA (by omega)) (fun _ => by omega)) rfl) ?_
      refine R_chain 15 rfl rfl ?_
      refine S_storeEl 0 rfl rfl rfl rfl rfl rfl sz31 rfl rfl rfl ?_ (xs' := ((insL X U v (s + 1) Yt).set (a + (s + 1)) y).flatMap Evt.enc) ?_ ?_
      · omega
      · exact flat_setE (enc := Evt.enc) (size := 9) (fun _ => rfl) (by rw [insL_len]; omega)
      refine R_next ⟨.inl rfl, .inl rfl, trivial⟩ ?_
      refine Rf_ 16 128 rfl rfl rfl rfl rfl _ trivial (Y.z (y_indexAddr rfl rfl rfl Tryz.underlying25 sz31 (fun hg => hA (by omega)) (fun _ => by omega)) rfl) ?_
      refine R_chain 17 rfl rfl ?_
      refine S_storeEl 0 rfl rfl rfl rfl rfl rfl sz31 rfl rfl rfl ?_ (xs' := (insL X U v s Yt).flatMap Evt.enc) ?_ ?_
      · omega
      · rw [flat_setE (enc := Evt.enc) (size := 9) (fun _ => rfl) (by rw [List.length_set, insL_len]; omega), insL_dn hy (by omega) (by omega)]
      refine R_next ⟨.inl rfl, .inl rfl, trivial⟩ ?_
      refine R_go (fun _ _ h => h) ?_
      refine T_region ?_
      refine sr 1 ?_
      refine s1 (y_bin rfl rfl rfl (fun hg => b_subv (((a + s : Nat) : Int)) (by omega) (by omega))) ?_
      refine sr 1 ?_
      refine S_nil (nK1 (kf := [(17, 17), (108, 128)]) (kl := [(0, 0), (17, 17), (108, 128)]) s ?_ ?_ ?_ ?_)
      · omega
      · exact ⟨by omega, by omega⟩
      · exact ⟨rfl, trivial⟩
      · exact ⟨rfl, trivial⟩
    try simp only [nrm] at h110
    have htl : t = lo := by omega
    refine ego ?_
    refine tr0 hRb fun w hM => ?_
    exact ⟨U.take t ++ v :: U.drop t, rfl, ⟨ins_perm.trans (List.perm_append_comm (l₁ := [v])), ins_sorted tr hU (by omega) (fun y h0 hy => (hCv y (mem_at hy)).2 (hr3 y (by omega) (by rw [← htl]; exact hy))) (fun y hy => (hCv y (mem_at hy)).1 (hr4 y (by rw [hlh, ← htl]; exact hy)))⟩, hM.keep (ks := [(0, 999)]) (by repeat (first | exact kl_rest (by assumption) rfl | (apply kl_in; focus rfl))) _ ⟨rfl, rfl, trivial⟩⟩
  try simp only [nrm] at h80
  have h80 : 2 ≤ V.length := by omega
  obtain ⟨p, hp⟩ : ∃ p, (a + b) / 2 = a + p := ⟨(a + b) / 2 - a, by omega⟩
  have hpU : p + 1 ≤ U.length + V.length := by omega
  refine kgx ?_
  refine sr 2 ?_
  refine s1 (y_bin rfl rfl rfl (fun hg => b_addv (((a + b : Nat) : Int)) (by omega) (by omega))) ?_
  refine s1 (y_as (v' := .int .u64 ((a + b : Nat) : Int)) (by congr 1; exact wrap64_in (by omega)) (y_conv rfl rfl Tryz.underlying3 Tryz.underlying133)) ?_
  refine s1 (y_bin rfl rfl rfl (fun hg => b_shrv ((((a + b) / 2 : Nat) : Int)) (by decide) (by decide) (by first | (simp; done) | (simp; omega)))) ?_
  refine s1 (y_as (v' := .int .i64 ((a + p : Nat) : Int)) (by congr 1; omega) (y_conv64 rfl rfl Tryz.underlying133 Tryz.underlying3 (fun _ => by omega))) ?_
  refine sr 1 ?_
  refine sgx ?_
  refine sr 2 ?_
  refine s1 (y_bin rfl rfl rfl (fun hg => b_addv (((a + p + m : Nat) : Int)) (by omega) (by omega))) ?_
  refine sr 1 ?_
  refine sgx ?_
  refine sr 2 ?_
  refine sgs ?_
  refine tx ?_
  refine sr 3 ?_
  refine sgo ?_
  refine T_cond rfl ?_ ?_ <;> intro h140
  · try simp only [nrm] at h140
    refine tx ?_
    refine sr 2 ?_
    refine s1 (y_bin rfl rfl rfl (fun hg => b_subv (((a + (p - V.length) : Nat) : Int)) (by omega) (by omega))) ?_
    refine sr 1 ?_
    refine sgr ?_
    refine s1 (y_as (v' := .int .i64 ((a + min p U.length : Nat) : Int)) (by congr 1; omega) (y_move rfl rfl)) ?_
    refine sr 1 ?_
    refine sgx ?_
    refine sr 1 ?_
    refine s1 (y_bin rfl rfl rfl (fun hg => b_subv (((a + p + m - 1 : Nat) : Int)) (by omega) (by omega))) ?_
    refine sr 1 ?_
    refine sgs ?_
    refine T_block ?_
    refine lK2 (kf := [(20, 21), (23, 23), (149, 174)]) (kl := [(20, 21), (23, 23), (149, 174)]) (fun (i r : Nat) => [(20, true, .int .i64 ((a + i : Nat) : Int)), (21, true, .int .i64 ((a + r : Nat) : Int))]) (fun (i r : Nat) => []) (fun (i r : Nat) => p - V.length ≤ i ∧ i ≤ r ∧ r ≤ min p U.length ∧ (∀ x y, p - V.length < i → U[i - 1]? = some x → V[p - i]? = some y → R x y) ∧ (∀ x y, r < min p U.length → V[p - 1 - r]? = some x → U[r]? = some y → R x y)) (fun (i r : Nat) => r - i) (p - V.length) (min p U.length) ?_ ?_ ?_ ?_
    · exact ⟨by omega, by omega, by omega, fun x y h => absurd h (by omega), fun x y h => absurd h (by omega)⟩
    · exact ⟨rfl, rfl, trivial⟩
    · exact trivial
    rintro i r ⟨hq1, hq2, hq3, hq4, hq5⟩
    refine T_seq ?_
    refine tx ?_
    refine sr 3 ?_
    refine sgo ?_
    refine T_cond rfl ?_ ?_ <;> intro h151
    · try simp only [nrm] at h151
      obtain ⟨k, hk1, hk2, hk3⟩ : ∃ k, (a + i + (a + r)) / 2 = a + k ∧ i ≤ k ∧ k < r := ⟨(a + i + (a + r)) / 2 - a, by omega, by omega, by omega⟩
      obtain ⟨x, hx⟩ := some_at (l := U) (i := k) (by omega)
      obtain ⟨y, hy⟩ := some_at (l := V) (i := p - 1 - k) (by omega)
      have hCxy := hC x (mem_at hx) y (mem_at hy)
      refine kgo ?_
      refine T_block ?_
      refine tx ?_
      refine sr 2 ?_
      refine s1 (y_bin rfl rfl rfl (fun hg => b_addv (((a + i + (a + r) : Nat) : Int)) (by omega) (by omega))) ?_
      refine s1 (y_as (v' := .int .u64 ((a + i + (a + r) : Nat) : Int)) (by congr 1; exact wrap64_in (by omega)) (y_conv rfl rfl Tryz.underlying3 Tryz.underlying133)) ?_
      refine s1 (y_bin rfl rfl rfl (fun hg => b_shrv ((((a + i + (a + r)) / 2 : Nat) : Int)) (by decide) (by decide) (by first | (simp; done) | (simp; omega)))) ?_
      refine s1 (y_as (v' := .int .i64 ((a + k : Nat) : Int)) (by congr 1; omega) (y_conv64 rfl rfl Tryz.underlying133 Tryz.underlying3 (fun _ => by omega))) ?_
      refine sr 1 ?_
      refine sgs ?_
      refine T_draws (by kernel_rfl) (by kernel_rfl) ?_
      refine d1 (y_move rfl rfl) ?_
      refine d1 (y_move rfl rfl) ?_
      refine d1 (y_move rfl rfl) ?_
      refine d1 (y_move rfl rfl) ?_
      refine d1 (y_bin rfl rfl rfl (fun hg => b_subv (((m + (p - 1 - k) : Nat) : Int)) (by omega) (by omega))) ?_
      refine d1 (y_indexAddr rfl rfl rfl Tryz.underlying25 sz31 (fun hg => hA (by omega)) (fun _ => by omega)) ?_
      refine d1 (y_loadO 0 rfl rfl rfl (by first | (rw [insL_len]; simp only [List.length_cons, List.length_nil] at *; omega) | (simp only [List.length_append]; omega)) (fun _ => rfl) (fun _ => cat_v hy (by omega)) Tryz.underlying31 rfl sz31) ?_
      refine d1 (y_move rfl rfl) ?_
      refine d1 (y_move rfl rfl) ?_
      refine d1 (y_indexAddr rfl rfl rfl Tryz.underlying25 sz31 (fun hg => hA (by omega)) (fun _ => by omega)) ?_
      refine d1 (y_loadO 0 rfl rfl rfl (by first | (rw [insL_len]; simp only [List.length_cons, List.length_nil] at *; omega) | (simp only [List.length_append]; omega)) (fun _ => rfl) (fun _ => cat_u hx (by omega)) Tryz.underlying31 rfl sz31) ?_
      refine d1 (y_call rfl rfl rfl hcf (fun _ w hM => hcmp y x w _ hM rfl)) ?_
      refine d1 (y_bin rfl rfl rfl (fun _ => b_lss)) ?_
      refine d1 (y_not rfl rfl) ?_
      refine dgo ?_
      refine T_cond rfl ?_ ?_ <;> intro h171
      · skip
        have h171 : ¬ cf y x < 0 := by simpa using h171
        refine T_region ?_
        refine sr 1 ?_
        refine s1 (y_bin rfl rfl rfl (fun hg => b_addv (((a + (k + 1) : Nat) : Int)) (by omega) (by omega))) ?_
        refine sr 1 ?_
        refine S_nil (nK2 (kf := [(20, 21), (23, 23), (149, 174)]) (kl := [(20, 21), (23, 23), (149, 174)]) (k + 1) r ?_ ?_ ?_ ?_)
        · omega
        · exact ⟨by omega, by omega, by omega, fun x1 y1 _ hx1 hy1 => by
            rw [Nat.add_sub_cancel, hx] at hx1
            rw [show p - (k + 1) = p - 1 - k by omega, hy] at hy1
            obtain rfl := Option.some.inj hx1
            obtain rfl := Option.some.inj hy1
            exact hCxy.2 h171, hq5⟩
        · exact ⟨rfl, rfl, trivial⟩
        · exact trivial
      have h171 : cf y x < 0 := by simpa using h171
      refine T_region ?_
      refine sr 2 ?_
      refine S_nil (nK2 (kf := [(20, 21), (23, 23), (149, 174)]) (kl := [(20, 21), (23, 23), (149, 174)]) i k ?_ ?_ ?_ ?_)
      · omega
      · exact ⟨by omega, by omega, by omega, hq4, fun x1 y1 _ hx1 hy1 => by
          rw [hy] at hx1
          rw [hx] at hy1
          obtain rfl := Option.some.inj hx1
          obtain rfl := Option.some.inj hy1
          exact hCxy.1 h171⟩
      · exact ⟨rfl, rfl, trivial⟩
      · exact trivial
    try simp only [nrm] at h151
    have hri : r = i := by omega
    have hsp := mrg_split tr hU hV (s := i) (e := p - i) (by omega) (by omega) (fun x y h0 hx hy => by
      rcases Nat.lt_or_ge (p - V.length) i with h | h
      · exact hq4 x y h hx hy
      · have := (List.getElem?_eq_some_iff.1 hy).1; omega) (fun x y h0 hx hy => by
      have := (List.getElem?_eq_some_iff.1 hy).1
      exact hq5 x y (by omega) (by rw [hri, show p - 1 - i = p - i - 1 by omega]; exact hx) (by rw [hri]; exact hy))
    have lu1 : (U.take i).length = i := by rw [List.length_take]; omega
    have lu2 : (U.drop i).length = U.length - i := List.length_drop
    have lv1 : (V.take (p - i)).length = p - i := by rw [List.length_take]; omega
    have lv2 : (V.drop (p - i)).length = V.length - (p - i) := List.length_drop
    rw [cut4 (i := i) (e := p - i)]
    refine egx ?_
    refine sr 2 ?_
    refine s1 (y_bin rfl rfl rfl (fun hg => b_subv (((m + (p - i) : Nat) : Int)) (by omega) (by omega))) ?_
    refine sr 1 ?_
    refine sgs ?_
    refine tx ?_
    refine sr 4 ?_
    refine sg rfl (y_move rfl rfl) ?_
    refine sg rfl (y_move rfl rfl) ?_
    refine sg rfl (y_bin rfl rfl rfl (fun _ => b_lss)) ?_
    refine s1 (y_and rfl rfl rfl) ?_
    refine sgo ?_
    refine T_cond rfl ?_ ?_ <;> intro h185
    · skip
      simp only [Bool.and_eq_true, decide_eq_true_eq] at h185
      refine T_region ?_
      refine sr 5 ?_
      refine S_callM 191 [(0, 0)] (X := Unit) rfl rfl rfl rfl rfl rfl rfl cf218 rfl (fun _ => .tuple #[]) (fun _ => True) (fun _ => [(0, .own 31 9 (.slice A q c) q (((X ++ U.take i) ++ (V.take (p - i) ++ U.drop i) ++ (V.drop (p - i) ++ Yt)).flatMap Evt.enc))]) (fun _ => rfl) (fun _ => rfl) (fun K1 hK1 w hM => rotV_any hK1 _ A q c (X ++ U.take i) (U.drop i) (V.take (p - i)) (V.drop (p - i) ++ Yt) (a + i) m (m + (p - i)) (by rw [List.length_append]; omega) (by omega) (by omega) (by omega) (by omega) (by simp only [List.length_append]; omega) hqm w hM) ?_
      intro _ _
      refine sgs ?_
      refine tx ?_
      refine sr 4 ?_
      refine sg rfl (y_move rfl rfl) ?_
      refine sg rfl (y_move rfl rfl) ?_
      refine sg rfl (y_bin rfl rfl rfl (fun _ => b_lss)) ?_
      refine s1 (y_and rfl rfl rfl) ?_
      refine sgo ?_
      refine T_cond rfl ?_ ?_ <;> intro h199
      · skip
        simp only [Bool.and_eq_true, decide_eq_true_eq] at h199
        rw [show (X ++ U.take i) ++ (V.take (p - i) ++ U.drop i) ++ (V.drop (p - i) ++ Yt) = X ++ (U.take i ++ V.take (p - i)) ++ (U.drop i ++ V.drop (p - i) ++ Yt) from by simp]
        refine T_region ?_
        refine sr 5 ?_
        refine S_callM 205 [(0, 0), (901, 901)] (X := List Evt) rfl rfl rfl rfl rfl rfl rfl cf170 rfl (fun _ => .tuple #[]) (fun W => W.Perm (U.take i ++ V.take (p - i)) ∧ W.Pairwise R) (fun W => [(0, .own 31 9 (.slice A q c) q ((X ++ W ++ (U.drop i ++ V.drop (p - i) ++ Yt)).flatMap Evt.enc)), (901, pit)]) (fun _ => rfl) (fun _ => rfl) (fun K1 hK1 w hM => ih hK1 A q c X (U.take i) (V.take (p - i)) (U.drop i ++ V.drop (p - i) ++ Yt) a (a + i) (a + p) ha (by omega) (by omega) (by omega) (by omega) (by omega) (by simp only [List.length_append]; omega) hqm (hU.sublist (List.take_sublist _ _)) (hV.sublist (List.take_sublist _ _)) (fun x hx y hy => hC x (List.mem_of_mem_take hx) y (List.mem_of_mem_take hy)) w hM) ?_
        rintro W1 ⟨hW1p, hW1s⟩
        refine sgx ?_
        refine sr 4 ?_
        refine sg rfl (y_move rfl rfl) ?_
        refine sg rfl (y_move rfl rfl) ?_
        refine sg rfl (y_bin rfl rfl rfl (fun _ => b_lss)) ?_
        refine s1 (y_and rfl rfl rfl) ?_
        refine sgo ?_
        refine T_cond rfl ?_ ?_ <;> intro h213
        · skip
          simp only [Bool.and_eq_true, decide_eq_true_eq] at h213
          have lw1 := hW1p.length_eq
          rw [List.length_append] at lw1
          rw [show X ++ W1 ++ (U.drop i ++ V.drop (p - i) ++ Yt) = (X ++ W1) ++ (U.drop i ++ V.drop (p - i)) ++ Yt from by simp]
          refine T_region ?_
          refine sr 5 ?_
          refine S_callM 219 [(0, 0), (901, 901)] (X := List Evt) rfl rfl rfl rfl rfl rfl rfl cf170 rfl (fun _ => .tuple #[]) (fun W => W.Perm (U.drop i ++ V.drop (p - i)) ∧ W.Pairwise R) (fun W => [(0, .own 31 9 (.slice A q c) q (((X ++ W1) ++ W ++ Yt).flatMap Evt.enc)), (901, pit)]) (fun _ => rfl) (fun _ => rfl) (fun K1 hK1 w hM => ih hK1 A q c (X ++ W1) (U.drop i) (V.drop (p - i)) Yt (a + p) (m + (p - i)) b (by rw [List.length_append]; omega) (by omega) (by omega) (by omega) (by omega) (by omega) (by simp only [List.length_append]; omega) hqm (hU.sublist (List.drop_sublist _ _)) (hV.sublist (List.drop_sublist _ _)) (fun x hx y hy => hC x (List.mem_of_mem_drop hx) y (List.mem_of_mem_drop hy)) w hM) ?_
          rintro W2 ⟨hW2p, hW2s⟩
          refine S_nil (fun a w hF hM => hRn a w (post0 rfl (fun w hM => ?_) a w hF hM))
          exact ⟨W1 ++ W2, rfl, ⟨mrg_join hW1p hW2p, mrg_sorted hW1p hW2p hW1s hW2s hsp⟩, hM.keep (ks := [(0, 999)]) (by repeat (first | exact kl_rest (by assumption) rfl | (apply kl_in; focus rfl))) _ ⟨by rw [show X ++ (W1 ++ W2) ++ Yt = (X ++ W1) ++ W2 ++ Yt from by simp]; rfl, rfl, trivial⟩⟩
        rw [show X ++ W1 ++ (U.drop i ++ V.drop (p - i) ++ Yt) = (X ++ W1) ++ (U.drop i ++ V.drop (p - i)) ++ Yt from by simp]
        obtain ⟨W2, hW2e, hW2p, hW2s⟩ : ∃ W2, W2 = U.drop i ++ V.drop (p - i) ∧ W2.Perm (U.drop i ++ V.drop (p - i)) ∧ W2.Pairwise R := ⟨_, rfl, .refl _, by
          simp only [Bool.and_eq_false_iff, decide_eq_false_iff_not] at h213
          rcases Nat.lt_or_ge i U.length with h | h
          · rw [List.drop_eq_nil_of_le (by omega : V.length ≤ p - i), List.append_nil]; exact hU.sublist (List.drop_sublist _ _)
          · rw [List.drop_eq_nil_of_le h, List.nil_append]; exact hV.sublist (List.drop_sublist _ _)⟩
        rw [← hW2e]
        refine T_skip (fun a w hF hM => hRn a w (post0 rfl (fun w hM => ?_) a w hF hM))
        exact ⟨W1 ++ W2, rfl, ⟨mrg_join hW1p hW2p, mrg_sorted hW1p hW2p hW1s hW2s hsp⟩, hM.keep (ks := [(0, 999)]) (by repeat (first | exact kl_rest (by assumption) rfl | (apply kl_in; focus rfl))) _ ⟨by rw [show X ++ (W1 ++ W2) ++ Yt = (X ++ W1) ++ W2 ++ Yt from by simp]; rfl, rfl, trivial⟩⟩
      rw [show (X ++ U.take i) ++ (V.take (p - i) ++ U.drop i) ++ (V.drop (p - i) ++ Yt) = X ++ (U.take i ++ V.take (p - i)) ++ (U.drop i ++ V.drop (p - i) ++ Yt) from by simp]
      obtain ⟨W1, hW1e, hW1p, hW1s⟩ : ∃ W1, W1 = U.take i ++ V.take (p - i) ∧ W1.Perm (U.take i ++ V.take (p - i)) ∧ W1.Pairwise R := ⟨_, rfl, .refl _, by
        simp only [Bool.and_eq_false_iff, decide_eq_false_iff_not] at h199
        rcases Nat.eq_zero_or_pos i with h | h
        · subst h; rw [List.take_zero, List.nil_append]; exact hV.sublist (List.take_sublist _ _)
        · rw [show p - i = 0 by omega, List.take_zero, List.append_nil]; exact hU.sublist (List.take_sublist _ _)⟩
      rw [← hW1e]
      refine kgx ?_
      refine sr 4 ?_
      refine sg rfl (y_move rfl rfl) ?_
      refine sg rfl (y_move rfl rfl) ?_
      refine sg rfl (y_bin rfl rfl rfl (fun _ => b_lss)) ?_
      refine s1 (y_and rfl rfl rfl) ?_
      refine sgo ?_
      refine T_cond rfl ?_ ?_ <;> intro h213
      · skip
        simp only [Bool.and_eq_true, decide_eq_true_eq] at h213
        have lw1 := hW1p.length_eq
        rw [List.length_append] at lw1
        rw [show X ++ W1 ++ (U.drop i ++ V.drop (p - i) ++ Yt) = (X ++ W1) ++ (U.drop i ++ V.drop (p - i)) ++ Yt from by simp]
        refine T_region ?_
        refine sr 5 ?_
        refine S_callM 219 [(0, 0), (901, 901)] (X := List Evt) rfl rfl rfl rfl rfl rfl rfl cf170 rfl (fun _ => .tuple #[]) (fun W => W.Perm (U.drop i ++ V.drop (p - i)) ∧ W.Pairwise R) (fun W => [(0, .own 31 9 (.slice A q c) q (((X ++ W1) ++ W ++ Yt).flatMap Evt.enc)), (901, pit)]) (fun _ => rfl) (fun _ => rfl) (fun K1 hK1 w hM => ih hK1 A q c (X ++ W1) (U.drop i) (V.drop (p - i)) Yt (a + p) (m + (p - i)) b (by rw [List.length_append]; omega) (by omega) (by omega) (by omega) (by omega) (by omega) (by simp only [List.length_append]; omega) hqm (hU.sublist (List.drop_sublist _ _)) (hV.sublist (List.drop_sublist _ _)) (fun x hx y hy => hC x (List.mem_of_mem_drop hx) y (List.mem_of_mem_drop hy)) w hM) ?_
        rintro W2 ⟨hW2p, hW2s⟩
        refine S_nil (fun a w hF hM => hRn a w (post0 rfl (fun w hM => ?_) a w hF hM))
        exact ⟨W1 ++ W2, rfl, ⟨mrg_join hW1p hW2p, mrg_sorted hW1p hW2p hW1s hW2s hsp⟩, hM.keep (ks := [(0, 999)]) (by repeat (first | exact kl_rest (by assumption) rfl | (apply kl_in; focus rfl))) _ ⟨by rw [show X ++ (W1 ++ W2) ++ Yt = (X ++ W1) ++ W2 ++ Yt from by simp]; rfl, rfl, trivial⟩⟩
      rw [show X ++ W1 ++ (U.drop i ++ V.drop (p - i) ++ Yt) = (X ++ W1) ++ (U.drop i ++ V.drop (p - i)) ++ Yt from by simp]
      obtain ⟨W2, hW2e, hW2p, hW2s⟩ : ∃ W2, W2 = U.drop i ++ V.drop (p - i) ∧ W2.Perm (U.drop i ++ V.drop (p - i)) ∧ W2.Pairwise R := ⟨_, rfl, .refl _, by
        simp only [Bool.and_eq_false_iff, decide_eq_false_iff_not] at h213
        rcases Nat.lt_or_ge i U.length with h | h
        · rw [List.drop_eq_nil_of_le (by omega : V.length ≤ p - i), List.append_nil]; exact hU.sublist (List.drop_sublist _ _)
        · rw [List.drop_eq_nil_of_le h, List.nil_append]; exact hV.sublist (List.drop_sublist _ _)⟩
      rw [← hW2e]
      refine T_skip (fun a w hF hM => hRn a w (post0 rfl (fun w hM => ?_) a w hF hM))
      exact ⟨W1 ++ W2, rfl, ⟨mrg_join hW1p hW2p, mrg_sorted hW1p hW2p hW1s hW2s hsp⟩, hM.keep (ks := [(0, 999)]) (by repeat (first | exact kl_rest (by assumption) rfl | (apply kl_in; focus rfl))) _ ⟨by rw [show X ++ (W1 ++ W2) ++ Yt = (X ++ W1) ++ W2 ++ Yt from by simp]; rfl, rfl, trivial⟩⟩
    rw [nil_or (U := U) (V := V) (i := i) (e := p - i) (by intro h; simp only [Bool.and_eq_false_iff, decide_eq_false_iff_not] at h185; omega)]
    refine kgs ?_
    refine tx ?_
    refine sr 4 ?_
    refine sg rfl (y_move rfl rfl) ?_
    refine sg rfl (y_move rfl rfl) ?_
    refine sg rfl (y_bin rfl rfl rfl (fun _ => b_lss)) ?_
    refine s1 (y_and rfl rfl rfl) ?_
    refine sgo ?_
    refine T_cond rfl ?_ ?_ <;> intro h199
    · skip
      simp only [Bool.and_eq_true, decide_eq_true_eq] at h199
      rw [show (X ++ U.take i) ++ (V.take (p - i) ++ U.drop i) ++ (V.drop (p - i) ++ Yt) = X ++ (U.take i ++ V.take (p - i)) ++ (U.drop i ++ V.drop (p - i) ++ Yt) from by simp]
      refine T_region ?_
      refine sr 5 ?_
      refine S_callM 205 [(0, 0), (901, 901)] (X := List Evt) rfl rfl rfl rfl rfl rfl rfl cf170 rfl (fun _ => .tuple #[]) (fun W => W.Perm (U.take i ++ V.take (p - i)) ∧ W.Pairwise R) (fun W => [(0, .own 31 9 (.slice A q c) q ((X ++ W ++ (U.drop i ++ V.drop (p - i) ++ Yt)).flatMap Evt.enc)), (901, pit)]) (fun _ => rfl) (fun _ => rfl) (fun K1 hK1 w hM => ih hK1 A q c X (U.take i) (V.take (p - i)) (U.drop i ++ V.drop (p - i) ++ Yt) a (a + i) (a + p) ha (by omega) (by omega) (by omega) (by omega) (by omega) (by simp only [List.length_append]; omega) hqm (hU.sublist (List.take_sublist _ _)) (hV.sublist (List.take_sublist _ _)) (fun x hx y hy => hC x (List.mem_of_mem_take hx) y (List.mem_of_mem_take hy)) w hM) ?_
      rintro W1 ⟨hW1p, hW1s⟩
      refine sgx ?_
      refine sr 4 ?_
      refine sg rfl (y_move rfl rfl) ?_
      refine sg rfl (y_move rfl rfl) ?_
      refine sg rfl (y_bin rfl rfl rfl (fun _ => b_lss)) ?_
      refine s1 (y_and rfl rfl rfl) ?_
      refine sgo ?_
      refine T_cond rfl ?_ ?_ <;> intro h213
      · skip
        simp only [Bool.and_eq_true, decide_eq_true_eq] at h213
        have lw1 := hW1p.length_eq
        rw [List.length_append] at lw1
        rw [show X ++ W1 ++ (U.drop i ++ V.drop (p - i) ++ Yt) = (X ++ W1) ++ (U.drop i ++ V.drop (p - i)) ++ Yt from by simp]
        refine T_region ?_
        refine sr 5 ?_
        refine S_callM 219 [(0, 0), (901, 901)] (X := List Evt) rfl rfl rfl rfl rfl rfl rfl cf170 rfl (fun _ => .tuple #[]) (fun W => W.Perm (U.drop i ++ V.drop (p - i)) ∧ W.Pairwise R) (fun W => [(0, .own 31 9 (.slice A q c) q (((X ++ W1) ++ W ++ Yt).flatMap Evt.enc)), (901, pit)]) (fun _ => rfl) (fun _ => rfl) (fun K1 hK1 w hM => ih hK1 A q c (X ++ W1) (U.drop i) (V.drop (p - i)) Yt (a + p) (m + (p - i)) b (by rw [List.length_append]; omega) (by omega) (by omega) (by omega) (by omega) (by omega) (by simp only [List.length_append]; omega) hqm (hU.sublist (List.drop_sublist _ _)) (hV.sublist (List.drop_sublist _ _)) (fun x hx y hy => hC x (List.mem_of_mem_drop hx) y (List.mem_of_mem_drop hy)) w hM) ?_
        rintro W2 ⟨hW2p, hW2s⟩
        refine S_nil (fun a w hF hM => hRn a w (post0 rfl (fun w hM => ?_) a w hF hM))
        exact ⟨W1 ++ W2, rfl, ⟨mrg_join hW1p hW2p, mrg_sorted hW1p hW2p hW1s hW2s hsp⟩, hM.keep (ks := [(0, 999)]) (by repeat (first | exact kl_rest (by assumption) rfl | (apply kl_in; focus rfl))) _ ⟨by rw [show X ++ (W1 ++ W2) ++ Yt = (X ++ W1) ++ W2 ++ Yt from by simp]; rfl, rfl, trivial⟩⟩
      rw [show X ++ W1 ++ (U.drop i ++ V.drop (p - i) ++ Yt) = (X ++ W1) ++ (U.drop i ++ V.drop (p - i)) ++ Yt from by simp]
      obtain ⟨W2, hW2e, hW2p, hW2s⟩ : ∃ W2, W2 = U.drop i ++ V.drop (p - i) ∧ W2.Perm (U.drop i ++ V.drop (p - i)) ∧ W2.Pairwise R := ⟨_, rfl, .refl _, by
        simp only [Bool.and_eq_false_iff, decide_eq_false_iff_not] at h213
        rcases Nat.lt_or_ge i U.length with h | h
        · rw [List.drop_eq_nil_of_le (by omega : V.length ≤ p - i), List.append_nil]; exact hU.sublist (List.drop_sublist _ _)
        · rw [List.drop_eq_nil_of_le h, List.nil_append]; exact hV.sublist (List.drop_sublist _ _)⟩
      rw [← hW2e]
      refine T_skip (fun a w hF hM => hRn a w (post0 rfl (fun w hM => ?_) a w hF hM))
      exact ⟨W1 ++ W2, rfl, ⟨mrg_join hW1p hW2p, mrg_sorted hW1p hW2p hW1s hW2s hsp⟩, hM.keep (ks := [(0, 999)]) (by repeat (first | exact kl_rest (by assumption) rfl | (apply kl_in; focus rfl))) _ ⟨by rw [show X ++ (W1 ++ W2) ++ Yt = (X ++ W1) ++ W2 ++ Yt from by simp]; rfl, rfl, trivial⟩⟩
    rw [show (X ++ U.take i) ++ (V.take (p - i) ++ U.drop i) ++ (V.drop (p - i) ++ Yt) = X ++ (U.take i ++ V.take (p - i)) ++ (U.drop i ++ V.drop (p - i) ++ Yt) from by simp]
    obtain ⟨W1, hW1e, hW1p, hW1s⟩ : ∃ W1, W1 = U.take i ++ V.take (p - i) ∧ W1.Perm (U.take i ++ V.take (p - i)) ∧ W1.Pairwise R := ⟨_, rfl, .refl _, by
      simp only [Bool.and_eq_false_iff, decide_eq_false_iff_not] at h199
      rcases Nat.eq_zero_or_pos i with h | h
      · subst h; rw [List.take_zero, List.nil_append]; exact hV.sublist (List.take_sublist _ _)
      · rw [show p - i = 0 by omega, List.take_zero, List.append_nil]; exact hU.sublist (List.take_sublist _ _)⟩
    rw [← hW1e]
    refine kgx ?_
    refine sr 4 ?_
    refine sg rfl (y_move rfl rfl) ?_
    refine sg rfl (y_move rfl rfl) ?_
    refine sg rfl (y_bin rfl rfl rfl (fun _ => b_lss)) ?_
    refine s1 (y_and rfl rfl rfl) ?_
    refine sgo ?_
    refine T_cond rfl ?_ ?_ <;> intro h213
    · skip
      simp only [Bool.and_eq_true, decide_eq_true_eq] at h213
      have lw1 := hW1p.length_eq
      rw [List.length_append] at lw1
      rw [show X ++ W1 ++ (U.drop i ++ V.drop (p - i) ++ Yt) = (X ++ W1) ++ (U.drop i ++ V.drop (p - i)) ++ Yt from by simp]
      refine T_region ?_
      refine sr 5 ?_
      refine S_callM 219 [(0, 0), (901, 901)] (X := List Evt) rfl rfl rfl rfl rfl rfl rfl cf170 rfl (fun _ => .tuple #[]) (fun W => W.Perm (U.drop i ++ V.drop (p - i)) ∧ W.Pairwise R) (fun W => [(0, .own 31 9 (.slice A q c) q (((X ++ W1) ++ W ++ Yt).flatMap Evt.enc)), (901, pit)]) (fun _ => rfl) (fun _ => rfl) (fun K1 hK1 w hM => ih hK1 A q c (X ++ W1) (U.drop i) (V.drop (p - i)) Yt (a + p) (m + (p - i)) b (by rw [List.length_append]; omega) (by omega) (by omega) (by omega) (by omega) (by omega) (by simp only [List.length_append]; omega) hqm (hU.sublist (List.drop_sublist _ _)) (hV.sublist (List.drop_sublist _ _)) (fun x hx y hy => hC x (List.mem_of_mem_drop hx) y (List.mem_of_mem_drop hy)) w hM) ?_
      rintro W2 ⟨hW2p, hW2s⟩
      refine S_nil (fun a w hF hM => hRn a w (post0 rfl (fun w hM => ?_) a w hF hM))
      exact ⟨W1 ++ W2, rfl, ⟨mrg_join hW1p hW2p, mrg_sorted hW1p hW2p hW1s hW2s hsp⟩, hM.keep (ks := [(0, 999)]) (by repeat (first | exact kl_rest (by assumption) rfl | (apply kl_in; focus rfl))) _ ⟨by rw [show X ++ (W1 ++ W2) ++ Yt = (X ++ W1) ++ W2 ++ Yt from by simp]; rfl, rfl, trivial⟩⟩
    rw [show X ++ W1 ++ (U.drop i ++ V.drop (p - i) ++ Yt) = (X ++ W1) ++ (U.drop i ++ V.drop (p - i)) ++ Yt from by simp]
    obtain ⟨W2, hW2e, hW2p, hW2s⟩ : ∃ W2, W2 = U.drop i ++ V.drop (p - i) ∧ W2.Perm (U.drop i ++ V.drop (p - i)) ∧ W2.Pairwise R := ⟨_, rfl, .refl _, by
      simp only [Bool.and_eq_false_iff, decide_eq_false_iff_not] at h213
      rcases Nat.lt_or_ge i U.length with h | h
      · rw [List.drop_eq_nil_of_le (by omega : V.length ≤ p - i), List.append_nil]; exact hU.sublist (List.drop_sublist _ _)
      · rw [List.drop_eq_nil_of_le h, List.nil_append]; exact hV.sublist (List.drop_sublist _ _)⟩
    rw [← hW2e]
    refine T_skip (fun a w hF hM => hRn a w (post0 rfl (fun w hM => ?_) a w hF hM))
    exact ⟨W1 ++ W2, rfl, ⟨mrg_join hW1p hW2p, mrg_sorted hW1p hW2p hW1s hW2s hsp⟩, hM.keep (ks := [(0, 999)]) (by repeat (first | exact kl_rest (by assumption) rfl | (apply kl_in; focus rfl))) _ ⟨by rw [show X ++ (W1 ++ W2) ++ Yt = (X ++ W1) ++ W2 ++ Yt from by simp]; rfl, rfl, trivial⟩⟩
  try simp only [nrm] at h140
  refine tx ?_
  refine s1 (y_as (v' := .int .i64 ((a + (p - V.length) : Nat) : Int)) (by congr 1; omega) (y_move rfl rfl)) ?_
  refine sr 1 ?_
  refine sgr ?_
  refine s1 (y_as (v' := .int .i64 ((a + min p U.length : Nat) : Int)) (by congr 1; omega) (y_move rfl rfl)) ?_
  refine sr 1 ?_
  refine sgx ?_
  refine sr 1 ?_
  refine s1 (y_bin rfl rfl rfl (fun hg => b_subv (((a + p + m - 1 : Nat) : Int)) (by omega) (by omega))) ?_
  refine sr 1 ?_
  refine sgs ?_
  refine T_block ?_
  refine lK2 (kf := [(20, 21), (23, 23), (149, 174)]) (kl := [(20, 21), (23, 23), (149, 174)]) (fun (i r : Nat) => [(20, true, .int .i64 ((a + i : Nat) : Int)), (21, true, .int .i64 ((a + r : Nat) : Int))]) (fun (i r : Nat) => []) (fun (i r : Nat) => p - V.length ≤ i ∧ i ≤ r ∧ r ≤ min p U.length ∧ (∀ x y, p - V.length < i → U[i - 1]? = some x → V[p - i]? = some y → R x y) ∧ (∀ x y, r < min p U.length → V[p - 1 - r]? = some x → U[r]? = some y → R x y)) (fun (i r : Nat) => r - i) (p - V.length) (min p U.length) ?_ ?_ ?_ ?_
  · exact ⟨by omega, by omega, by omega, fun x y h => absurd h (by omega), fun x y h => absurd h (by omega)⟩
  · exact ⟨rfl, rfl, trivial⟩
  · exact trivial
  rintro i r ⟨hq1, hq2, hq3, hq4, hq5⟩
  refine T_seq ?_
  refine tx ?_
  refine sr 3 ?_
  refine sgo ?_
  refine T_cond rfl ?_ ?_ <;> intro h151
  · try simp only [nrm] at h151
    obtain ⟨k, hk1, hk2, hk3⟩ : ∃ k, (a + i + (a + r)) / 2 = a + k ∧ i ≤ k ∧ k < r := ⟨(a + i + (a + r)) / 2 - a, by omega, by omega, by omega⟩
    obtain ⟨x, hx⟩ := some_at (l := U) (i := k) (by omega)
    obtain ⟨y, hy⟩ := some_at (l := V) (i := p - 1 - k) (by omega)
    have hCxy := hC x (mem_at hx) y (mem_at hy)
    refine kgo ?_
    refine T_block ?_
    refine tx ?_
    refine sr 2 ?_
    refine s1 (y_bin rfl rfl rfl (fun hg => b_addv (((a + i + (a + r) : Nat) : Int)) (by omega) (by omega))) ?_
    refine s1 (y_as (v' := .int .u64 ((a + i + (a + r) : Nat) : Int)) (by congr 1; exact wrap64_in (by omega)) (y_conv rfl rfl Tryz.underlying3 Tryz.underlying133)) ?_
    refine s1 (y_bin rfl rfl rfl (fun hg => b_shrv ((((a + i + (a + r)) / 2 : Nat) : Int)) (by decide) (by decide) (by first | (simp; done) | (simp; omega)))) ?_
    refine s1 (y_as (v' := .int .i64 ((a + k : Nat) : Int)) (by congr 1; omega) (y_conv64 rfl rfl Tryz.underlying133 Tryz.underlying3 (fun _ => by omega))) ?_
    refine sr 1 ?_
    refine sgs ?_
    refine T_draws (by kernel_rfl) (by kernel_rfl) ?_
    refine d1 (y_move rfl rfl) ?_
    refine d1 (y_move rfl rfl) ?_
    refine d1 (y_move rfl rfl) ?_
    refine d1 (y_move rfl rfl) ?_
    refine d1 (y_bin rfl rfl rfl (fun hg => b_subv (((m + (p - 1 - k) : Nat) : Int)) (by omega) (by omega))) ?_
    refine d1 (y_indexAddr rfl rfl rfl Tryz.underlying25 sz31 (fun hg => hA (by omega)) (fun _ => by omega)) ?_
    refine d1 (y_loadO 0 rfl rfl rfl (by first | (rw [insL_len]; simp only [List.length_cons, List.length_nil] at *; omega) | (simp only [List.length_append]; omega)) (fun _ => rfl) (fun _ => cat_v hy (by omega)) Tryz.underlying31 rfl sz31) ?_
    refine d1 (y_move rfl rfl) ?_
    refine d1 (y_move rfl rfl) ?_
    refine d1 (y_indexAddr rfl rfl rfl Tryz.underlying25 sz31 (fun hg => hA (by omega)) (fun _ => by omega)) ?_
    refine d1 (y_loadO 0 rfl rfl rfl (by first | (rw [insL_len]; simp only [List.length_cons, List.length_nil] at *; omega) | (simp only [List.length_append]; omega)) (fun _ => rfl) (fun _ => cat_u hx (by omega)) Tryz.underlying31 rfl sz31) ?_
    refine d1 (y_call rfl rfl rfl hcf (fun _ w hM => hcmp y x w _ hM rfl)) ?_
    refine d1 (y_bin rfl rfl rfl (fun _ => b_lss)) ?_
    refine d1 (y_not rfl rfl) ?_
    refine dgo ?_
    refine T_cond rfl ?_ ?_ <;> intro h171
    · skip
      have h171 : ¬ cf y x < 0 := by simpa using h171
      refine T_region ?_
      refine sr 1 ?_
      refine s1 (y_bin rfl rfl rfl (fun hg => b_addv (((a + (k + 1) : Nat) : Int)) (by omega) (by omega))) ?_
      refine sr 1 ?_
      refine S_nil (nK2 (kf := [(20, 21), (23, 23), (149, 174)]) (kl := [(20, 21), (23, 23), (149, 174)]) (k + 1) r ?_ ?_ ?_ ?_)
      · omega
      · exact ⟨by omega, by omega, by omega, fun x1 y1 _ hx1 hy1 => by
          rw [Nat.add_sub_cancel, hx] at hx1
          rw [show p - (k + 1) = p - 1 - k by omega, hy] at hy1
          obtain rfl := Option.some.inj hx1
          obtain rfl := Option.some.inj hy1
          exact hCxy.2 h171, hq5⟩
      · exact ⟨rfl, rfl, trivial⟩
      · exact trivial
    have h171 : cf y x < 0 := by simpa using h171
    refine T_region ?_
    refine sr 2 ?_
    refine S_nil (nK2 (kf := [(20, 21), (23, 23), (149, 174)]) (kl := [(20, 21), (23, 23), (149, 174)]) i k ?_ ?_ ?_ ?_)
    · omega
    · exact ⟨by omega, by omega, by omega, hq4, fun x1 y1 _ hx1 hy1 => by
        rw [hy] at hx1
        rw [hx] at hy1
        obtain rfl := Option.some.inj hx1
        obtain rfl := Option.some.inj hy1
        exact hCxy.1 h171⟩
    · exact ⟨rfl, rfl, trivial⟩
    · exact trivial
  try simp only [nrm] at h151
  have hri : r = i := by omega
  have hsp := mrg_split tr hU hV (s := i) (e := p - i) (by omega) (by omega) (fun x y h0 hx hy => by
    rcases Nat.lt_or_ge (p - V.length) i with h | h
    · exact hq4 x y h hx hy
    · have := (List.getElem?_eq_some_iff.1 hy).1; omega) (fun x y h0 hx hy => by
    have := (List.getElem?_eq_some_iff.1 hy).1
    exact hq5 x y (by omega) (by rw [hri, show p - 1 - i = p - i - 1 by omega]; exact hx) (by rw [hri]; exact hy))
  have lu1 : (U.take i).length = i := by rw [List.length_take]; omega
  have lu2 : (U.drop i).length = U.length - i := List.length_drop
  have lv1 : (V.take (p - i)).length = p - i := by rw [List.length_take]; omega
  have lv2 : (V.drop (p - i)).length = V.length - (p - i) := List.length_drop
  rw [cut4 (i := i) (e := p - i)]
  refine egx ?_
  refine sr 2 ?_
  refine s1 (y_bin rfl rfl rfl (fun hg => b_subv (((m + (p - i) : Nat) : Int)) (by omega) (by omega))) ?_
  refine sr 1 ?_
  refine sgs ?_
  refine tx ?_
  refine sr 4 ?_
  refine sg rfl (y_move rfl rfl) ?_
  refine sg rfl (y_move rfl rfl) ?_
  refine sg rfl (y_bin rfl rfl rfl (fun _ => b_lss)) ?_
  refine s1 (y_and rfl rfl rfl) ?_
  refine sgo ?_
  refine T_cond rfl ?_ ?_ <;> intro h185
  · skip
    simp only [Bool.and_eq_true, decide_eq_true_eq] at h185
    refine T_region ?_
    refine sr 5 ?_
    refine S_callM 191 [(0, 0)] (X := Unit) rfl rfl rfl rfl rfl rfl rfl cf218 rfl (fun _ => .tuple #[]) (fun _ => True) (fun _ => [(0, .own 31 9 (.slice A q c) q (((X ++ U.take i) ++ (V.take (p - i) ++ U.drop i) ++ (V.drop (p - i) ++ Yt)).flatMap Evt.enc))]) (fun _ => rfl) (fun _ => rfl) (fun K1 hK1 w hM => rotV_any hK1 _ A q c (X ++ U.take i) (U.drop i) (V.take (p - i)) (V.drop (p - i) ++ Yt) (a + i) m (m + (p - i)) (by rw [List.length_append]; omega) (by omega) (by omega) (by omega) (by omega) (by simp only [List.length_append]; omega) hqm w hM) ?_
    intro _ _
    refine sgs ?_
    refine tx ?_
    refine sr 4 ?_
    refine sg rfl (y_move rfl rfl) ?_
    refine sg rfl (y_move rfl rfl) ?_
    refine sg rfl (y_bin rfl rfl rfl (fun _ => b_lss)) ?_
    refine s1 (y_and rfl rfl rfl) ?_
    refine sgo ?_
    refine T_cond rfl ?_ ?_ <;> intro h199
    · skip
      simp only [Bool.and_eq_true, decide_eq_true_eq] at h199
      rw [show (X ++ U.take i) ++ (V.take (p - i) ++ U.drop i) ++ (V.drop (p - i) ++ Yt) = X ++ (U.take i ++ V.take (p - i)) ++ (U.drop i ++ V.drop (p - i) ++ Yt) from by simp]
      refine T_region ?_
      refine sr 5 ?_
      refine S_callM 205 [(0, 0), (901, 901)] (X := List Evt) rfl rfl rfl rfl rfl rfl rfl cf170 rfl (fun _ => .tuple #[]) (fun W => W.Perm (U.take i ++ V.take (p - i)) ∧ W.Pairwise R) (fun W => [(0, .own 31 9 (.slice A q c) q ((X ++ W ++ (U.drop i ++ V.drop (p - i) ++ Yt)).flatMap Evt.enc)), (901, pit)]) (fun _ => rfl) (fun _ => rfl) (fun K1 hK1 w hM => ih hK1 A q c X (U.take i) (V.take (p - i)) (U.drop i ++ V.drop (p - i) ++ Yt) a (a + i) (a + p) ha (by omega) (by omega) (by omega) (by omega) (by omega) (by simp only [List.length_append]; omega) hqm (hU.sublist (List.take_sublist _ _)) (hV.sublist (List.take_sublist _ _)) (fun x hx y hy => hC x (List.mem_of_mem_take hx) y (List.mem_of_mem_take hy)) w hM) ?_
      rintro W1 ⟨hW1p, hW1s⟩
      refine sgx ?_
      refine sr 4 ?_
      refine sg rfl (y_move rfl rfl) ?_
      refine sg rfl (y_move rfl rfl) ?_
      refine sg rfl (y_bin rfl rfl rfl (fun _ => b_lss)) ?_
      refine s1 (y_and rfl rfl rfl) ?_
      refine sgo ?_
      refine T_cond rfl ?_ ?_ <;> intro h213
      · skip
        simp only [Bool.and_eq_true, decide_eq_true_eq] at h213
        have lw1 := hW1p.length_eq
        rw [List.length_append] at lw1
        rw [show X ++ W1 ++ (U.drop i ++ V.drop (p - i) ++ Yt) = (X ++ W1) ++ (U.drop i ++ V.drop (p - i)) ++ Yt from by simp]
        refine T_region ?_
        refine sr 5 ?_
        refine S_callM 219 [(0, 0), (901, 901)] (X := List Evt) rfl rfl rfl rfl rfl rfl rfl cf170 rfl (fun _ => .tuple #[]) (fun W => W.Perm (U.drop i ++ V.drop (p - i)) ∧ W.Pairwise R) (fun W => [(0, .own 31 9 (.slice A q c) q (((X ++ W1) ++ W ++ Yt).flatMap Evt.enc)), (901, pit)]) (fun _ => rfl) (fun _ => rfl) (fun K1 hK1 w hM => ih hK1 A q c (X ++ W1) (U.drop i) (V.drop (p - i)) Yt (a + p) (m + (p - i)) b (by rw [List.length_append]; omega) (by omega) (by omega) (by omega) (by omega) (by omega) (by simp only [List.length_append]; omega) hqm (hU.sublist (List.drop_sublist _ _)) (hV.sublist (List.drop_sublist _ _)) (fun x hx y hy => hC x (List.mem_of_mem_drop hx) y (List.mem_of_mem_drop hy)) w hM) ?_
        rintro W2 ⟨hW2p, hW2s⟩
        refine S_nil (fun a w hF hM => hRn a w (post0 rfl (fun w hM => ?_) a w hF hM))
        exact ⟨W1 ++ W2, rfl, ⟨mrg_join hW1p hW2p, mrg_sorted hW1p hW2p hW1s hW2s hsp⟩, hM.keep (ks := [(0, 999)]) (by repeat (first | exact kl_rest (by assumption) rfl | (apply kl_in; focus rfl))) _ ⟨by rw [show X ++ (W1 ++ W2) ++ Yt = (X ++ W1) ++ W2 ++ Yt from by simp]; rfl, rfl, trivial⟩⟩
      rw [show X ++ W1 ++ (U.drop i ++ V.drop (p - i) ++ Yt) = (X ++ W1) ++ (U.drop i ++ V.drop (p - i)) ++ Yt from by simp]
      obtain ⟨W2, hW2e, hW2p, hW2s⟩ : ∃ W2, W2 = U.drop i ++ V.drop (p - i) ∧ W2.Perm (U.drop i ++ V.drop (p - i)) ∧ W2.Pairwise R := ⟨_, rfl, .refl _, by
        simp only [Bool.and_eq_false_iff, decide_eq_false_iff_not] at h213
        rcases Nat.lt_or_ge i U.length with h | h
        · rw [List.drop_eq_nil_of_le (by omega : V.length ≤ p - i), List.append_nil]; exact hU.sublist (List.drop_sublist _ _)
        · rw [List.drop_eq_nil_of_le h, List.nil_append]; exact hV.sublist (List.drop_sublist _ _)⟩
      rw [← hW2e]
      refine T_skip (fun a w hF hM => hRn a w (post0 rfl (fun w hM => ?_) a w hF hM))
      exact ⟨W1 ++ W2, rfl, ⟨mrg_join hW1p hW2p, mrg_sorted hW1p hW2p hW1s hW2s hsp⟩, hM.keep (ks := [(0, 999)]) (by repeat (first | exact kl_rest (by assumption) rfl | (apply kl_in; focus rfl))) _ ⟨by rw [show X ++ (W1 ++ W2) ++ Yt = (X ++ W1) ++ W2 ++ Yt from by simp]; rfl, rfl, trivial⟩⟩
    rw [show (X ++ U.take i) ++ (V.take (p - i) ++ U.drop i) ++ (V.drop (p - i) ++ Yt) = X ++ (U.take i ++ V.take (p - i)) ++ (U.drop i ++ V.drop (p - i) ++ Yt) from by simp]
    obtain ⟨W1, hW1e, hW1p, hW1s⟩ : ∃ W1, W1 = U.take i ++ V.take (p - i) ∧ W1.Perm (U.take i ++ V.take (p - i)) ∧ W1.Pairwise R := ⟨_, rfl, .refl _, by
      simp only [Bool.and_eq_false_iff, decide_eq_false_iff_not] at h199
      rcases Nat.eq_zero_or_pos i with h | h
      · subst h; rw [List.take_zero, List.nil_append]; exact hV.sublist (List.take_sublist _ _)
      · rw [show p - i = 0 by omega, List.take_zero, List.append_nil]; exact hU.sublist (List.take_sublist _ _)⟩
    rw [← hW1e]
    refine kgx ?_
    refine sr 4 ?_
    refine sg rfl (y_move rfl rfl) ?_
    refine sg rfl (y_move rfl rfl) ?_
    refine sg rfl (y_bin rfl rfl rfl (fun _ => b_lss)) ?_
    refine s1 (y_and rfl rfl rfl) ?_
    refine sgo ?_
    refine T_cond rfl ?_ ?_ <;> intro h213
    · skip
      simp only [Bool.and_eq_true, decide_eq_true_eq] at h213
      have lw1 := hW1p.length_eq
      rw [List.length_append] at lw1
      rw [show X ++ W1 ++ (U.drop i ++ V.drop (p - i) ++ Yt) = (X ++ W1) ++ (U.drop i ++ V.drop (p - i)) ++ Yt from by simp]
      refine T_region ?_
      refine sr 5 ?_
      refine S_callM 219 [(0, 0), (901, 901)] (X := List Evt) rfl rfl rfl rfl rfl rfl rfl cf170 rfl (fun _ => .tuple #[]) (fun W => W.Perm (U.drop i ++ V.drop (p - i)) ∧ W.Pairwise R) (fun W => [(0, .own 31 9 (.slice A q c) q (((X ++ W1) ++ W ++ Yt).flatMap Evt.enc)), (901, pit)]) (fun _ => rfl) (fun _ => rfl) (fun K1 hK1 w hM => ih hK1 A q c (X ++ W1) (U.drop i) (V.drop (p - i)) Yt (a + p) (m + (p - i)) b (by rw [List.length_append]; omega) (by omega) (by omega) (by omega) (by omega) (by omega) (by simp only [List.length_append]; omega) hqm (hU.sublist (List.drop_sublist _ _)) (hV.sublist (List.drop_sublist _ _)) (fun x hx y hy => hC x (List.mem_of_mem_drop hx) y (List.mem_of_mem_drop hy)) w hM) ?_
      rintro W2 ⟨hW2p, hW2s⟩
      refine S_nil (fun a w hF hM => hRn a w (post0 rfl (fun w hM => ?_) a w hF hM))
      exact ⟨W1 ++ W2, rfl, ⟨mrg_join hW1p hW2p, mrg_sorted hW1p hW2p hW1s hW2s hsp⟩, hM.keep (ks := [(0, 999)]) (by repeat (first | exact kl_rest (by assumption) rfl | (apply kl_in; focus rfl))) _ ⟨by rw [show X ++ (W1 ++ W2) ++ Yt = (X ++ W1) ++ W2 ++ Yt from by simp]; rfl, rfl, trivial⟩⟩
    rw [show X ++ W1 ++ (U.drop i ++ V.drop (p - i) ++ Yt) = (X ++ W1) ++ (U.drop i ++ V.drop (p - i)) ++ Yt from by simp]
    obtain ⟨W2, hW2e, hW2p, hW2s⟩ : ∃ W2, W2 = U.drop i ++ V.drop (p - i) ∧ W2.Perm (U.drop i ++ V.drop (p - i)) ∧ W2.Pairwise R := ⟨_, rfl, .refl _, by
      simp only [Bool.and_eq_false_iff, decide_eq_false_iff_not] at h213
      rcases Nat.lt_or_ge i U.length with h | h
      · rw [List.drop_eq_nil_of_le (by omega : V.length ≤ p - i), List.append_nil]; exact hU.sublist (List.drop_sublist _ _)
      · rw [List.drop_eq_nil_of_le h, List.nil_append]; exact hV.sublist (List.drop_sublist _ _)⟩
    rw [← hW2e]
    refine T_skip (fun a w hF hM => hRn a w (post0 rfl (fun w hM => ?_) a w hF hM))
    exact ⟨W1 ++ W2, rfl, ⟨mrg_join hW1p hW2p, mrg_sorted hW1p hW2p hW1s hW2s hsp⟩, hM.keep (ks := [(0, 999)]) (by repeat (first | exact kl_rest (by assumption) rfl | (apply kl_in; focus rfl))) _ ⟨by rw [show X ++ (W1 ++ W2) ++ Yt = (X ++ W1) ++ W2 ++ Yt from by simp]; rfl, rfl, trivial⟩⟩
  rw [nil_or (U := U) (V := V) (i := i) (e := p - i) (by intro h; simp only [Bool.and_eq_false_iff, decide_eq_false_iff_not] at h185; omega)]
  refine kgs ?_
  refine tx ?_
  refine sr 4 ?_
  refine sg rfl (y_move rfl rfl) ?_
  refine sg rfl (y_move rfl rfl) ?_
  refine sg rfl (y_bin rfl rfl rfl (fun _ => b_lss)) ?_
  refine s1 (y_and rfl rfl rfl) ?_
  refine sgo ?_
  refine T_cond rfl ?_ ?_ <;> intro h199
  · skip
    simp only [Bool.and_eq_true, decide_eq_true_eq] at h199
    rw [show (X ++ U.take i) ++ (V.take (p - i) ++ U.drop i) ++ (V.drop (p - i) ++ Yt) = X ++ (U.take i ++ V.take (p - i)) ++ (U.drop i ++ V.drop (p - i) ++ Yt) from by simp]
    refine T_region ?_
    refine sr 5 ?_
    refine S_callM 205 [(0, 0), (901, 901)] (X := List Evt) rfl rfl rfl rfl rfl rfl rfl cf170 rfl (fun _ => .tuple #[]) (fun W => W.Perm (U.take i ++ V.take (p - i)) ∧ W.Pairwise R) (fun W => [(0, .own 31 9 (.slice A q c) q ((X ++ W ++ (U.drop i ++ V.drop (p - i) ++ Yt)).flatMap Evt.enc)), (901, pit)]) (fun _ => rfl) (fun _ => rfl) (fun K1 hK1 w hM => ih hK1 A q c X (U.take i) (V.take (p - i)) (U.drop i ++ V.drop (p - i) ++ Yt) a (a + i) (a + p) ha (by omega) (by omega) (by omega) (by omega) (by omega) (by simp only [List.length_append]; omega) hqm (hU.sublist (List.take_sublist _ _)) (hV.sublist (List.take_sublist _ _)) (fun x hx y hy => hC x (List.mem_of_mem_take hx) y (List.mem_of_mem_take hy)) w hM) ?_
    rintro W1 ⟨hW1p, hW1s⟩
    refine sgx ?_
    refine sr 4 ?_
    refine sg rfl (y_move rfl rfl) ?_
    refine sg rfl (y_move rfl rfl) ?_
    refine sg rfl (y_bin rfl rfl rfl (fun _ => b_lss)) ?_
    refine s1 (y_and rfl rfl rfl) ?_
    refine sgo ?_
    refine T_cond rfl ?_ ?_ <;> intro h213
    · skip
      simp only [Bool.and_eq_true, decide_eq_true_eq] at h213
      have lw1 := hW1p.length_eq
      rw [List.length_append] at lw1
      rw [show X ++ W1 ++ (U.drop i ++ V.drop (p - i) ++ Yt) = (X ++ W1) ++ (U.drop i ++ V.drop (p - i)) ++ Yt from by simp]
      refine T_region ?_
      refine sr 5 ?_
      refine S_callM 219 [(0, 0), (901, 901)] (X := List Evt) rfl rfl rfl rfl rfl rfl rfl cf170 rfl (fun _ => .tuple #[]) (fun W => W.Perm (U.drop i ++ V.drop (p - i)) ∧ W.Pairwise R) (fun W => [(0, .own 31 9 (.slice A q c) q (((X ++ W1) ++ W ++ Yt).flatMap Evt.enc)), (901, pit)]) (fun _ => rfl) (fun _ => rfl) (fun K1 hK1 w hM => ih hK1 A q c (X ++ W1) (U.drop i) (V.drop (p - i)) Yt (a + p) (m + (p - i)) b (by rw [List.length_append]; omega) (by omega) (by omega) (by omega) (by omega) (by omega) (by simp only [List.length_append]; omega) hqm (hU.sublist (List.drop_sublist _ _)) (hV.sublist (List.drop_sublist _ _)) (fun x hx y hy => hC x (List.mem_of_mem_drop hx) y (List.mem_of_mem_drop hy)) w hM) ?_
      rintro W2 ⟨hW2p, hW2s⟩
      refine S_nil (fun a w hF hM => hRn a w (post0 rfl (fun w hM => ?_) a w hF hM))
      exact ⟨W1 ++ W2, rfl, ⟨mrg_join hW1p hW2p, mrg_sorted hW1p hW2p hW1s hW2s hsp⟩, hM.keep (ks := [(0, 999)]) (by repeat (first | exact kl_rest (by assumption) rfl | (apply kl_in; focus rfl))) _ ⟨by rw [show X ++ (W1 ++ W2) ++ Yt = (X ++ W1) ++ W2 ++ Yt from by simp]; rfl, rfl, trivial⟩⟩
    rw [show X ++ W1 ++ (U.drop i ++ V.drop (p - i) ++ Yt) = (X ++ W1) ++ (U.drop i ++ V.drop (p - i)) ++ Yt from by simp]
    obtain ⟨W2, hW2e, hW2p, hW2s⟩ : ∃ W2, W2 = U.drop i ++ V.drop (p - i) ∧ W2.Perm (U.drop i ++ V.drop (p - i)) ∧ W2.Pairwise R := ⟨_, rfl, .refl _, by
      simp only [Bool.and_eq_false_iff, decide_eq_false_iff_not] at h213
      rcases Nat.lt_or_ge i U.length with h | h
      · rw [List.drop_eq_nil_of_le (by omega : V.length ≤ p - i), List.append_nil]; exact hU.sublist (List.drop_sublist _ _)
      · rw [List.drop_eq_nil_of_le h, List.nil_append]; exact hV.sublist (List.drop_sublist _ _)⟩
    rw [← hW2e]
    refine T_skip (fun a w hF hM => hRn a w (post0 rfl (fun w hM => ?_) a w hF hM))
    exact ⟨W1 ++ W2, rfl, ⟨mrg_join hW1p hW2p, mrg_sorted hW1p hW2p hW1s hW2s hsp⟩, hM.keep (ks := [(0, 999)]) (by repeat (first | exact kl_rest (by assumption) rfl | (apply kl_in; focus rfl))) _ ⟨by rw [show X ++ (W1 ++ W2) ++ Yt = (X ++ W1) ++ W2 ++ Yt from by simp]; rfl, rfl, trivial⟩⟩
  rw [show (X ++ U.take i) ++ (V.take (p - i) ++ U.drop i) ++ (V.drop (p - i) ++ Yt) = X ++ (U.take i ++ V.take (p - i)) ++ (U.drop i ++ V.drop (p - i) ++ Yt) from by simp]
  obtain ⟨W1, hW1e, hW1p, hW1s⟩ : ∃ W1, W1 = U.take i ++ V.take (p - i) ∧ W1.Perm (U.take i ++ V.take (p - i)) ∧ W1.Pairwise R := ⟨_, rfl, .refl _, by
    simp only [Bool.and_eq_false_iff, decide_eq_false_iff_not] at h199
    rcases Nat.eq_zero_or_pos i with h | h
    · subst h; rw [List.take_zero, List.nil_append]; exact hV.sublist (List.take_sublist _ _)
    · rw [show p - i = 0 by omega, List.take_zero, List.append_nil]; exact hU.sublist (List.take_sublist _ _)⟩
  rw [← hW1e]
  refine kgx ?_
  refine sr 4 ?_
  refine sg rfl (y_move rfl rfl) ?_
  refine sg rfl (y_move rfl rfl) ?_
  refine sg rfl (y_bin rfl rfl rfl (fun _ => b_lss)) ?_
  refine s1 (y_and rfl rfl rfl) ?_
  refine sgo ?_
  refine T_cond rfl ?_ ?_ <;> intro h213
  · skip
    simp only [Bool.and_eq_true, decide_eq_true_eq] at h213
    have lw1 := hW1p.length_eq
    rw [List.length_append] at lw1
    rw [show X ++ W1 ++ (U.drop i ++ V.drop (p - i) ++ Yt) = (X ++ W1) ++ (U.drop i ++ V.drop (p - i)) ++ Yt from by simp]
    refine T_region ?_
    refine sr 5 ?_
    refine S_callM 219 [(0, 0), (901, 901)] (X := List Evt) rfl rfl rfl rfl rfl rfl rfl cf170 rfl (fun _ => .tuple #[]) (fun W => W.Perm (U.drop i ++ V.drop (p - i)) ∧ W.Pairwise R) (fun W => [(0, .own 31 9 (.slice A q c) q (((X ++ W1) ++ W ++ Yt).flatMap Evt.enc)), (901, pit)]) (fun _ => rfl) (fun _ => rfl) (fun K1 hK1 w hM => ih hK1 A q c (X ++ W1) (U.drop i) (V.drop (p - i)) Yt (a + p) (m + (p - i)) b (by rw [List.length_append]; omega) (by omega) (by omega) (by omega) (by omega) (by omega) (by simp only [List.length_append]; omega) hqm (hU.sublist (List.drop_sublist _ _)) (hV.sublist (List.drop_sublist _ _)) (fun x hx y hy => hC x (List.mem_of_mem_drop hx) y (List.mem_of_mem_drop hy)) w hM) ?_
    rintro W2 ⟨hW2p, hW2s⟩
    refine S_nil (fun a w hF hM => hRn a w (post0 rfl (fun w hM => ?_) a w hF hM))
    exact ⟨W1 ++ W2, rfl, ⟨mrg_join hW1p hW2p, mrg_sorted hW1p hW2p hW1s hW2s hsp⟩, hM.keep (ks := [(0, 999)]) (by repeat (first | exact kl_rest (by assumption) rfl | (apply kl_in; focus rfl))) _ ⟨by rw [show X ++ (W1 ++ W2) ++ Yt = (X ++ W1) ++ W2 ++ Yt from by simp]; rfl, rfl, trivial⟩⟩
  rw [show X ++ W1 ++ (U.drop i ++ V.drop (p - i) ++ Yt) = (X ++ W1) ++ (U.drop i ++ V.drop (p - i)) ++ Yt from by simp]
  obtain ⟨W2, hW2e, hW2p, hW2s⟩ : ∃ W2, W2 = U.drop i ++ V.drop (p - i) ∧ W2.Perm (U.drop i ++ V.drop (p - i)) ∧ W2.Pairwise R := ⟨_, rfl, .refl _, by
    simp only [Bool.and_eq_false_iff, decide_eq_false_iff_not] at h213
    rcases Nat.lt_or_ge i U.length with h | h
    · rw [List.drop_eq_nil_of_le (by omega : V.length ≤ p - i), List.append_nil]; exact hU.sublist (List.drop_sublist _ _)
    · rw [List.drop_eq_nil_of_le h, List.nil_append]; exact hV.sublist (List.drop_sublist _ _)⟩
  rw [← hW2e]
  refine T_skip (fun a w hF hM => hRn a w (post0 rfl (fun w hM => ?_) a w hF hM))
  exact ⟨W1 ++ W2, rfl, ⟨mrg_join hW1p hW2p, mrg_sorted hW1p hW2p hW1s hW2s hsp⟩, hM.keep (ks := [(0, 999)]) (by repeat (first | exact kl_rest (by assumption) rfl | (apply kl_in; focus rfl))) _ ⟨by rw [show X ++ (W1 ++ W2) ++ Yt = (X ++ W1) ++ W2 ++ Yt from by simp]; rfl, rfl, trivial⟩⟩
end Go.Proofs.YtekbcbjimajnfaaGreatDoor
end
section
namespace Go.Proofs.YtekbcbjimajnfaaGreatDoor
set_option linter.unusedSimpArgs false
set_option linter.unusedVariables false
set_option maxRecDepth 20000
open Go.RowKit Go.Eng
theorem mem_drop_perm {α : Type} {A B : List α} {k : Nat} {y : α} (h : A.Perm (B.take k)) (hy : y ∈ A) : y ∈ B := List.mem_of_mem_take (h.mem_iff.1 hy)
set_option maxHeartbeats 1000000 in
theorem stabV_any {R : Evt → Evt → Prop} (tr : ∀ x y z, R x y → R y z → R x z) {cf : Evt → Evt → Int} (g : FuncId) (cap : Array Value) (hcf : ∀ args w, (callFunc g args).run Tryz.prog w = .ok (.enter g args) w)
    {w0 : World} {pit : It} (hcmp : ∀ x y w L, Mem w0 L w → HL.get L 901 = some pit → Calls Tryz.prog g (#[.agg (Evt.enc x).toArray, .agg (Evt.enc y).toArray] ++ cap) w fun e w' => e = .returned (.int .i64 (cf x y)) ∧ Below w.heap.size w w')
    {K : HL} (hK : FromK K) (A : Option Addr) (q c : Nat) (l : List Evt) (hq : l.length = q) (hqm : q ≤ 100000000) (hl : l.Pairwise (Cmp R cf)) (w : World)
    (hM0 : Mem w0 ([(0, .own 31 9 (.slice A q c) q (l.flatMap Evt.enc)), (901, pit)] ++ K) w) :
    Calls Tryz.prog 97 #[.slice A q c, .int .i64 (q : Int), .func (.func g) #[] cap] w fun e w' => ∃ W : List Evt, e = .returned (.tuple #[]) ∧ (W.Perm l ∧ W.Pairwise R) ∧ Mem w0 ([(0, .own 31 9 (.slice A q c) q (W.flatMap Evt.enc)), (901, pit)] ++ K) w' := by
  refine enterM_args (args := [.slice A q c, .int .i64 (q : Int), .func (.func g) #[] cap]) (F := _) hM0 Tryz.func97 rfl Tryz.ntmps97 rfl rfl ?_
  intro Rb hRb hRn
  refine tx ?_
  refine sr 1 ?_
  refine sgx ?_
  refine sr 3 ?_
  refine sgs ?_
  refine T_block ?_
  refine lK3 (kf := [(7, 8), (11, 22)]) (kl := [(0, 0), (7, 8), (11, 22)]) (fun (a d : Nat) (D : List Evt) => [(7, true, .int .i64 ((a : Nat) : Int)), (8, true, .int .i64 ((a + 20 : Nat) : Int))]) (fun (a d : Nat) (D : List Evt) => [(0, .own 31 9 (.slice A q c) q ((D ++ l.drop a).flatMap Evt.enc))]) (fun (a d : Nat) (D : List Evt) => a = d * 20 ∧ a ≤ q ∧ D.length = a ∧ OkBlk R 20 D (l.take a)) (fun (a d : Nat) (D : List Evt) => q - a) 0 0 [] ?_ ?_ ?_ ?_
  · exact ⟨rfl, by omega, rfl, okBlk_nil⟩
  · exact ⟨rfl, rfl, trivial⟩
  · exact ⟨rfl, trivial⟩
  rintro a d D ⟨hp1, hp2, hp3, hp4⟩
  refine T_seq ?_
  refine tx ?_
  refine sr 3 ?_
  refine sgo ?_
  refine T_cond rfl ?_ ?_ <;> intro h13
  · try simp only [nrm] at h13
    have l1 : (l.drop a).length = q - a := by rw [List.length_drop]; omega
    have l2 : ((l.drop a).take 20).length = 20 := by rw [List.length_take]; omega
    have l3 : (l.drop (a + 20)).length = q - (a + 20) := by rw [List.length_drop]; omega
    have hP : ((l.drop a).take 20).Pairwise (Cmp R cf) := (hl.sublist (List.drop_sublist _ _)).sublist (List.take_sublist _ _)
    rw [show D ++ l.drop a = D ++ (l.drop a).take 20 ++ l.drop (a + 20) from by rw [← List.drop_drop, List.append_assoc, List.take_append_drop]]
    refine kgo ?_
    refine T_block ?_
    refine tx ?_
    refine sr 4 ?_
    refine S_callM 18 [(0, 0), (901, 901)] (X := List Evt) rfl rfl rfl rfl rfl rfl rfl cf169 rfl (fun _ => .tuple #[]) (fun W => W.Perm ((l.drop a).take 20) ∧ W.Pairwise R) (fun W => [(0, .own 31 9 (.slice A q c) q ((D ++ W ++ l.drop (a + 20)).flatMap Evt.enc)), (901, pit)]) (fun _ => rfl) (fun _ => rfl) (fun K1 hK1 w hM => insV_any tr g cap hcf hcmp hK1 A q c D ((l.drop a).take 20) (l.drop (a + 20)) a (a + 20) (by omega) (by omega) (by simp only [List.length_append]; omega) (by omega) hP w hM) ?_
    rintro W ⟨hWp, hWs⟩
    have lw := hWp.length_eq
    refine sgx ?_
    refine sr 2 ?_
    refine sgr ?_
    refine sr 2 ?_
    refine s1 (y_bin rfl rfl rfl (fun hg => b_addv (((a + 20 + 20 : Nat) : Int)) (by omega) (by omega))) ?_
    refine sr 1 ?_
    refine S_nil (nS3 (kf := [(7, 8), (11, 22)]) (kl := [(0, 0), (7, 8), (11, 22)]) (a + 20) (d + 1) (D ++ W) ?_ ?_ ?_ ?_)
    · omega
    · exact ⟨by omega, by omega, by rw [List.length_append]; omega, by rw [List.take_add]; exact okBlk_app (d := d) (by omega) (by rw [List.length_take]; omega) hp4 hWp hWs (by omega)⟩
    · exact ⟨rfl, rfl, trivial⟩
    · exact ⟨rfl, trivial⟩
  try simp only [nrm] at h13
  have l1 : (l.drop a).length = q - a := by rw [List.length_drop]; omega
  have hP : (l.drop a).Pairwise (Cmp R cf) := hl.sublist (List.drop_sublist _ _)
  rw [show D ++ l.drop a = D ++ l.drop a ++ [] from (List.append_nil _).symm]
  refine egx ?_
  refine sr 4 ?_
  refine S_callM 27 [(0, 0), (901, 901)] (X := List Evt) rfl rfl rfl rfl rfl rfl rfl cf169 rfl (fun _ => .tuple #[]) (fun W => W.Perm (l.drop a) ∧ W.Pairwise R) (fun W => [(0, .own 31 9 (.slice A q c) q ((D ++ W ++ ([] : List Evt)).flatMap Evt.enc)), (901, pit)]) (fun _ => rfl) (fun _ => rfl) (fun K1 hK1 w hM => insV_any tr g cap hcf hcmp hK1 A q c D (l.drop a) [] a q (by omega) (by omega) (by simp only [List.length_append, List.length_nil]; omega) (by omega) hP w hM) ?_
  rintro W ⟨hWp, hWs⟩
  have lw := hWp.length_eq
  rw [List.append_nil]
  have hB : OkBlk R 20 (D ++ W) l := by
    have := okBlk_app (W0 := l.drop a) (d := d) (by omega) (by rw [List.length_take]; omega) hp4 hWp hWs (by omega)
    rwa [List.take_append_drop] at this
  refine sgo ?_
  refine T_block ?_
  refine lK2 (kf := [(6, 9), (28, 62)]) (kl := [(0, 0), (6, 9), (28, 62)]) (fun (bs : Nat) (l1 : List Evt) => [(6, true, .int .i64 ((bs : Nat) : Int))]) (fun (bs : Nat) (l1 : List Evt) => [(0, .own 31 9 (.slice A q c) q (l1.flatMap Evt.enc))]) (fun (bs : Nat) (l1 : List Evt) => 20 ≤ bs ∧ l1.length = q ∧ OkBlk R bs l1 l) (fun (bs : Nat) (l1 : List Evt) => q - bs) 20 (D ++ W) ?_ ?_ ?_ ?_
  · exact ⟨by omega, by rw [List.length_append]; omega, hB⟩
  · exact ⟨rfl, trivial⟩
  · exact ⟨rfl, trivial⟩
  rintro bs l1 ⟨hr1, hr2, hr3⟩
  refine T_seq ?_
  refine tx ?_
  refine sr 3 ?_
  refine sgo ?_
  refine T_cond rfl ?_ ?_ <;> intro h30
  · try simp only [nrm] at h30
    refine kgo ?_
    refine T_block ?_
    refine tx ?_
    refine sr 1 ?_
    refine s1 (y_bin rfl rfl rfl (fun hg => b_mulv (((0 + 2 * bs : Nat) : Int)) (by omega) (by omega))) ?_
    refine sr 2 ?_
    refine sgs ?_
    refine T_block ?_
    refine lK4 (kf := [(7, 8), (33, 48)]) (kl := [(0, 0), (7, 8), (33, 48)]) (fun (a d : Nat) (D E : List Evt) => [(7, true, .int .i64 ((a : Nat) : Int)), (8, true, .int .i64 ((a + 2 * bs : Nat) : Int))]) (fun (a d : Nat) (D E : List Evt) => [(0, .own 31 9 (.slice A q c) q ((D ++ E).flatMap Evt.enc))]) (fun (a d : Nat) (D E : List Evt) => a = d * (2 * bs) ∧ a ≤ q ∧ D.length = a ∧ E.length = q - a ∧ OkBlk R (2 * bs) D (l.take a) ∧ OkBlk R bs E (l.drop a)) (fun (a d : Nat) (D E : List Evt) => q - a) 0 0 [] l1 ?_ ?_ ?_ ?_
    · exact ⟨by omega, by omega, rfl, by omega, okBlk_nil, hr3⟩
    · exact ⟨rfl, rfl, trivial⟩
    · exact ⟨rfl, trivial⟩
    rintro a d D E ⟨hs1, hs2, hs3, hs4, hs5, hs6⟩
    refine T_seq ?_
    refine tx ?_
    refine sr 3 ?_
    refine sgo ?_
    refine T_cond rfl ?_ ?_ <;> intro h35
    · try simp only [nrm] at h35
      have l1 : (E.take bs).length = bs := by rw [List.length_take]; omega
      have l2 : ((E.drop bs).take bs).length = bs := by rw [List.length_take, List.length_drop]; omega
      have l3 : (E.drop (2 * bs)).length = q - (a + 2 * bs) := by rw [List.length_drop]; omega
      obtain ⟨hU, hUs⟩ := okBlk_0 hs6
      obtain ⟨hV, hVs⟩ := okBlk_1 hs6
      have hl0 : (l.drop a).Pairwise (Cmp R cf) := hl.sublist (List.drop_sublist _ _)
      have hC := cmp_parts hl0 hU fun y hy => mem_drop_perm hV hy
      rw [show D ++ E = D ++ (E.take bs ++ (E.drop bs).take bs) ++ E.drop (2 * bs) from by rw [two_blocks, List.append_assoc, List.take_append_drop]]
      refine kgo ?_
      refine T_block ?_
      refine tx ?_
      refine sr 4 ?_
      refine s1 (y_bin rfl rfl rfl (fun hg => b_addv (((a + bs : Nat) : Int)) (by omega) (by omega))) ?_
      refine sr 2 ?_
      refine S_callM 43 [(0, 0), (901, 901)] (X := List Evt) rfl rfl rfl rfl rfl rfl rfl cf170 rfl (fun _ => .tuple #[]) (fun W => W.Perm (E.take bs ++ (E.drop bs).take bs) ∧ W.Pairwise R) (fun W => [(0, .own 31 9 (.slice A q c) q ((D ++ W ++ E.drop (2 * bs)).flatMap Evt.enc)), (901, pit)]) (fun _ => rfl) (fun _ => rfl) (fun K1 hK1 w hM => symV_any tr g cap hcf hcmp (2 * bs) hK1 A q c D (E.take bs) ((E.drop bs).take bs) (E.drop (2 * bs)) a (a + bs) (a + 2 * bs) (by omega) (by omega) (by omega) (by omega) (by omega) (by omega) (by simp only [List.length_append]; omega) (by omega) hUs hVs hC w hM) ?_
      rintro W ⟨hWp, hWs⟩
      have lw := hWp.length_eq
      have hWq : W.Perm ((l.drop a).take (2 * bs)) := hWp.trans (by have h := hU.append hV; rwa [two_blocks (l.drop a)] at h)
      rw [List.length_append] at lw
      refine sgx ?_
      refine sr 2 ?_
      refine sgr ?_
      refine sr 2 ?_
      refine s1 (y_bin rfl rfl rfl (fun hg => b_mulv (((2 * bs : Nat) : Int)) (by omega) (by omega))) ?_
      refine s1 (y_bin rfl rfl rfl (fun hg => b_addv (((a + 2 * bs + 2 * bs : Nat) : Int)) (by omega) (by omega))) ?_
      refine sr 1 ?_
      refine S_nil (nS4 (kf := [(7, 8), (33, 48)]) (kl := [(0, 0), (7, 8), (33, 48)]) (a + 2 * bs) (d + 1) (D ++ W) (E.drop (2 * bs)) ?_ ?_ ?_ ?_)
      · omega
      · exact ⟨by have := Nat.add_mul d 1 (2 * bs); omega, by omega, by rw [List.length_append]; omega, by omega, by rw [List.take_add]; exact okBlk_app (d := d) (by omega) (by rw [List.length_take]; omega) hs5 hWq hWs (by omega), by rw [← List.drop_drop]; exact okBlk_drop hs6⟩
      · exact ⟨rfl, rfl, trivial⟩
      · exact ⟨rfl, trivial⟩
    try simp only [nrm] at h35
    refine egs ?_
    refine tx ?_
    refine sr 2 ?_
    refine s1 (y_bin rfl rfl rfl (fun hg => b_addv (((a + bs : Nat) : Int)) (by omega) (by omega))) ?_
    refine sr 1 ?_
    refine sgx ?_
    refine sr 3 ?_
    refine sgo ?_
    refine T_cond rfl ?_ ?_ <;> intro h54
    · try simp only [nrm] at h54
      have l1 : (E.take bs).length = bs := by rw [List.length_take]; omega
      have l2 : (E.drop bs).length = q - (a + bs) := by rw [List.length_drop]; omega
      obtain ⟨hU, hUs⟩ := okBlk_0 hs6
      obtain ⟨hV, hVs⟩ := okBlk_1 hs6
      have l4 : ((l.drop a).drop bs).length = q - (a + bs) := by rw [List.length_drop, List.length_drop]; omega
      rw [List.take_of_length_le (by omega : (E.drop bs).length ≤ bs), List.take_of_length_le (by omega : ((l.drop a).drop bs).length ≤ bs)] at hV
      rw [List.take_of_length_le (by omega : (E.drop bs).length ≤ bs)] at hVs
      have hl0 : (l.drop a).Pairwise (Cmp R cf) := hl.sublist (List.drop_sublist _ _)
      have hC := cmp_parts hl0 hU fun y hy => hV.mem_iff.1 hy
      rw [show D ++ E = D ++ (E.take bs ++ E.drop bs) ++ [] from by rw [List.take_append_drop, List.append_nil]]
      refine T_region ?_
      refine sr 5 ?_
      refine S_callM 60 [(0, 0), (901, 901)] (X := List Evt) rfl rfl rfl rfl rfl rfl rfl cf170 rfl (fun _ => .tuple #[]) (fun W => W.Perm (E.take bs ++ E.drop bs) ∧ W.Pairwise R) (fun W => [(0, .own 31 9 (.slice A q c) q ((D ++ W ++ ([] : List Evt)).flatMap Evt.enc)), (901, pit)]) (fun _ => rfl) (fun _ => rfl) (fun K1 hK1 w hM => symV_any tr g cap hcf hcmp (2 * bs) hK1 A q c D (E.take bs) (E.drop bs) [] a (a + bs) q (by omega) (by omega) (by omega) (by omega) (by omega) (by omega) (by simp only [List.length_append, List.length_nil]; omega) (by omega) hUs hVs hC w hM) ?_
      rintro W ⟨hWp, hWs⟩
      have lw := hWp.length_eq
      have hWq : W.Perm (l.drop a) := hWp.trans (by have h := hU.append hV; rwa [List.take_append_drop bs (l.drop a)] at h)
      rw [List.length_append] at lw
      rw [List.append_nil]
      refine sgr ?_
      refine sr 1 ?_
      refine s1 (y_bin rfl rfl rfl (fun hg => b_mulv (((2 * bs : Nat) : Int)) (by omega) (by omega))) ?_
      refine sr 1 ?_
      refine S_nil (nS2 (kf := [(6, 9), (28, 62)]) (kl := [(0, 0), (6, 9), (28, 62)]) (2 * bs) (D ++ W) ?_ ?_ ?_ ?_)
      · omega
      · exact ⟨by omega, by rw [List.length_append]; omega, by
          have := okBlk_app (W := W) (W0 := l.drop a) (d := d) (by omega) (by rw [List.length_take]; omega) hs5 hWq hWs (by omega)
          rwa [List.take_append_drop] at this⟩
      · exact ⟨rfl, trivial⟩
      · exact ⟨rfl, trivial⟩
    try simp only [nrm] at h54
    have hE := okBlk_all hs6 (by omega) (by rw [List.length_drop]; omega)
    refine kgr ?_
    refine sr 1 ?_
    refine s1 (y_bin rfl rfl rfl (fun hg => b_mulv (((2 * bs : Nat) : Int)) (by omega) (by omega))) ?_
    refine sr 1 ?_
    refine S_nil (nS2 (kf := [(6, 9), (28, 62)]) (kl := [(0, 0), (6, 9), (28, 62)]) (2 * bs) (D ++ E) ?_ ?_ ?_ ?_)
    · omega
    · exact ⟨by omega, by rw [List.length_append]; omega, by
        have := okBlk_app (W := E) (W0 := l.drop a) (d := d) (by omega) (by rw [List.length_take]; omega) hs5 hE.1 hE.2 (by omega)
        rwa [List.take_append_drop] at this⟩
    · exact ⟨rfl, trivial⟩
    · exact ⟨rfl, trivial⟩
  try simp only [nrm] at h30
  refine T_exit (fun a w hF hM => hRn a w (post0 rfl (fun w hM => ?_) a w hF hM))
  exact ⟨l1, rfl, okBlk_all hr3 (by omega) (by omega), hM.keep (ks := [(0, 999)]) (by repeat (first | exact kl_rest (by assumption) rfl | (apply kl_in; focus rfl))) _ ⟨rfl, rfl, trivial⟩⟩
theorem sortStableV_any {R : Evt → Evt → Prop} (tr : ∀ x y z, R x y → R y z → R x z) {cf : Evt → Evt → Int} (g : FuncId) (cap : Array Value) (hcf : ∀ args w, (callFunc g args).run Tryz.prog w = .ok (.enter g args) w)
    {w0 : World} {pit : It} (hcmp : ∀ x y w L, Mem w0 L w → HL.get L 901 = some pit → Calls Tryz.prog g (#[.agg (Evt.enc x).toArray, .agg (Evt.enc y).toArray] ++ cap) w fun e w' => e = .returned (.int .i64 (cf x y)) ∧ Below w.heap.size w w')
    {K : HL} (hK : FromK K) (A : Option Addr) (q c : Nat) (l : List Evt) (hq : l.length = q) (hqm : q ≤ 100000000) (hl : l.Pairwise (Cmp R cf)) (w : World)
    (hM0 : Mem w0 ([(0, .own 31 9 (.slice A q c) q (l.flatMap Evt.enc)), (901, pit)] ++ K) w) :
    Calls Tryz.prog 57 #[.slice A q c, .func (.func g) #[] cap] w fun e w' => ∃ W : List Evt, e = .returned (.tuple #[]) ∧ (W.Perm l ∧ W.Pairwise R) ∧ Mem w0 ([(0, .own 31 9 (.slice A q c) q (W.flatMap Evt.enc)), (901, pit)] ++ K) w' := by
  refine enterM_args (args := [.slice A q c, .func (.func g) #[] cap]) (F := _) hM0 Tryz.func57 rfl Tryz.ntmps57 rfl rfl ?_
  intro Rb hRb hRn
  refine T_region ?_
  refine sr 2 ?_
  refine s1 (y_len_slice rfl rfl Tryz.underlying25) ?_
  refine sr 1 ?_
  refine S_callM 8 [(0, 0), (901, 901)] (X := List Evt) rfl rfl rfl rfl rfl rfl rfl cf97 rfl (fun _ => .tuple #[]) (fun W => W.Perm l ∧ W.Pairwise R) (fun W => [(0, .own 31 9 (.slice A q c) q (W.flatMap Evt.enc)), (901, pit)]) (fun _ => rfl) (fun _ => rfl) (fun K1 hK1 w hM => stabV_any tr g cap hcf hcmp hK1 A q c l hq hqm hl w hM) ?_
  rintro W hW
  refine S_nil (fun a w hF hM => hRn a w (post0 rfl (fun w hM => ?_) a w hF hM))
  exact ⟨W, rfl, hW, hM.keep (ks := [(0, 999)]) (by repeat (first | exact kl_rest (by assumption) rfl | (apply kl_in; focus rfl))) _ ⟨rfl, rfl, trivial⟩⟩
end Go.Proofs.YtekbcbjimajnfaaGreatDoor
end
section
namespace Go.Proofs.YtekbcbjimajnfaaGreatDoor
set_option linter.unusedSimpArgs false
set_option linter.unusedVariables false
set_option maxRecDepth 20000
open Go.RowKit Go.Eng
def askNo (x : SC) (by_ fr mo : Int) : Int := if condNo x ≠ 0 then condNo x else if outI by_ 1 3 = true then 10 else if (outI fr 0 2000 || outI mo 1 2000) = true then 2 else 0
def askIds (x : SC) (by_ : Int) (dn : Bool) (fr mo : Int) (m : List Evt) : List (List UInt8) := if askNo x by_ fr mo = 0 then idsI (((askL x by_ dn m).drop fr.toNat).take mo.toNat) else []
def askN (x : SC) (by_ fr mo : Int) (m : List Evt) : Int := if askNo x by_ fr mo = 0 then ((filI x m).length : Nat) else 0
theorem inB_outI (n lo hi : Int) : (!inB n lo hi) = outI n lo hi := by
  unfold inB outI
  rw [Bool.not_not]
abbrev askCells (x : SC) (by_ : Int) (dn : Bool) (fr mo : Int) : List Value := [.int .i64 x.op, .slice x.ad x.q x.c, .int .i64 x.lo, .int .i64 x.hi, str x.nm, str x.tx, .int .i64 by_, .bool dn, .int .i64 fr, .int .i64 mo]
theorem find1_any (a b : Evt) (x : SC) (by_ : Int) (dn : Bool) (fr mo : Int) (b3 : Nat) (w : World) (h : CellsAt w b3 (askCells x by_ dn fr mo)) :
    Calls Tryz.prog 58 #[a.val, b.val, ptF b3] w fun e w' => e = .returned (.int .i64 (keyK by_ a b)) ∧ Below w.heap.size w w' := by
  refine enter_args (args := [.agg #[str a.id, .int .i64 a.at_, .int .i64 a.lv, .slice a.fa.A a.fa.q a.fa.c, .slice a.ta.A a.ta.q a.ta.c, .slice a.cr.A a.cr.q a.cr.c, str a.rel, str a.us, .int .i64 a.wt], .agg #[str b.id, .int .i64 b.at_, .int .i64 b.lv, .slice b.fa.A b.fa.q b.fa.c, .slice b.ta.A b.ta.q b.ta.c, .slice b.cr.A b.cr.q b.cr.c, str b.rel, str b.us, .int .i64 b.wt], ptF b3]) (F := _) Tryz.func58 rfl Tryz.ntmps58 rfl rfl ?_
  intro Rb hRb hRn
  refine tx ?_
  refine S_box 3 3 rfl rfl rfl rfl rfl ?_
  intro b3
  refine S_box 4 4 rfl rfl rfl rfl rfl ?_
  intro b4
  refine sr 1 ?_
  refine sgs ?_
  refine tx ?_
  refine s1 (yF fa38_1) ?_
  refine s1 (y_load_far rfl rfl (h.1 6 _ rfl) h.2 Tryz.underlying3 rfl) ?_
  refine sgo ?_
  refine T_block ?_
  refine tx ?_
  refine sr 2 ?_
  refine sgo ?_
  refine T_cond rfl ?_ ?_ <;> intro h8
  · skip
    have h8 : by_ = 2 := by simpa using h8
    refine tx ?_
    refine s1 (yF fa31_2) ?_
    refine s1 (yL 3 Tryz.underlying3) ?_
    refine s1 (yF fa31_2) ?_
    refine s1 (yL 4 Tryz.underlying3) ?_
    refine s1 (y_call rfl rfl rfl cf59 (fun _ w _ => cmpJ_any _ _ w)) ?_
    refine sr 1 ?_
    refine sgo ?_
    refine tr1 hRb fun w hM => ?_
    exact ⟨by rw [keyK, if_pos h8], hM.below⟩
  have h8 : ¬ by_ = 2 := by simpa using h8
  refine tx ?_
  refine sr 2 ?_
  refine sgo ?_
  refine T_cond rfl ?_ ?_ <;> intro h15
  · skip
    have h15 : by_ = 3 := by simpa using h15
    refine tx ?_
    refine s1 (yF fa31_8) ?_
    refine s1 (yL 3 Tryz.underlying3) ?_
    refine s1 (yF fa31_8) ?_
    refine s1 (yL 4 Tryz.underlying3) ?_
    refine s1 (y_call rfl rfl rfl cf59 (fun _ w _ => cmpJ_any _ _ w)) ?_
    refine sr 1 ?_
    refine sgo ?_
    refine tr1 hRb fun w hM => ?_
    exact ⟨by rw [keyK, if_neg h8, if_pos h15], hM.below⟩
  have h15 : ¬ by_ = 3 := by simpa using h15
  refine kgx ?_
  refine sr 1 ?_
  refine sgo ?_
  refine tr1 hRb fun w hM => ?_
  exact ⟨by rw [keyK, if_neg h8, if_neg h15], hM.below⟩
abbrev ownStr (A : Option Addr) (c : Nat) (l : List (List UInt8)) : It := .own 9 1 (.slice A l.length c) l.length (l.flatMap strE)
theorem take_dropI {l : List Evt} {f i : Nat} {e : Evt} (hf : f ≤ i) (he : l[i]? = some e) : (l.drop f).take (i + 1 - f) = (l.drop f).take (i - f) ++ [e] := by
  have : (l.drop f)[i - f]? = some e := by rw [List.getElem?_drop, show f + (i - f) = i by omega]; exact he
  rw [show i + 1 - f = (i - f) + 1 by omega, List.take_add_one, this]; rfl
theorem ask_perm {x : SC} {by_ : Int} {dn : Bool} {m : List Evt} {z : FndR} {W : List Evt} (hn : (idsI m).Nodup) (hz : FndP x m z) (hW : W.Perm z.l ∧ W.Pairwise fun a b => cmpK by_ a b ≤ 0) : (if dn = true then W.reverse else W) = askL x by_ dn m := by
  cases dn with
  | false => exact ask_one hn (hW.1.trans hz.1) hW.2
  | true => exact ask_one hn ((List.reverse_perm W).trans (hW.1.trans hz.1)) (ask_rev hW.2)
abbrev askBox (b3 : Nat) (x : SC) (by_ : Int) (dn : Bool) (fr mo : Int) : It := .blk b3 (IsBox (askCells x by_ dn fr mo) 38)
theorem sortF_any {w0 : World} {K : HL} (hK : FromK K) (x : SC) (by_ : Int) (dn : Bool) (fr mo : Int) (b3 : Nat) (z : FndR) (hz : z.l.Pairwise fun a b => cmpT a b ≤ 0) (hl : z.l.length ≤ 2000) (w : World) (hM : Mem w0 ([(0, ownEv z.A z.c z.l), (901, askBox b3 x by_ dn fr mo)] ++ K) w) :
    Calls Tryz.prog 57 #[.slice z.A z.l.length z.c, .func (.func 58) #[] #[ptF b3]] w fun e w' => ∃ W : List Evt, e = .returned (.tuple #[]) ∧ (W.Perm z.l ∧ W.Pairwise fun a b => cmpK by_ a b ≤ 0) ∧ Mem w0 ([(0, .own 31 9 (.slice z.A z.l.length z.c) z.l.length (W.flatMap Evt.enc)), (901, askBox b3 x by_ dn fr mo)] ++ K) w' :=
  sortStableV_any (R := fun a b => cmpK by_ a b ≤ 0) (fun u v y h1 h2 => (cmp3_KT by_).tr u v y h1 h2) (cf := keyK by_) 58 #[ptF b3] cf58 (pit := askBox b3 x by_ dn fr mo) (fun u v w2 L hM2 hL2 => find1_any u v x by_ dn fr mo b3 w2 (hM2.box_cells 901 hL2)) hK z.A z.l.length z.c z.l rfl (by omega) (cmp_key hz) w hM
set_option maxHeartbeats 2000000 in
theorem Find_any {w0 : World} {K : HL} (hK : FromK K) (b bm : Nat) (m : List Evt) (rs : List Row) (x : SC) (by_ : Int) (dn : Bool) (fr mo : Int) (w : World) (hix : IxOk w0 rs m) (hok : x.Ok w0) (hmx : MLen w0) (hM0 : Mem w0 ([(901, ixBox b bm), (902, ixMap bm m), (950, .many rs)] ++ K) w) :
    Calls Tryz.prog 16 #[.pointer (some ⟨b, 0, none⟩), .agg #[.int .i64 x.op, .slice x.ad x.q x.c, .int .i64 x.lo, .int .i64 x.hi, str x.nm, str x.tx, .int .i64 by_, .bool dn, .int .i64 fr, .int .i64 mo]] w fun en w' => ∃ z : Option Addr × Nat, en = .returned (.tuple #[.slice z.1 (askIds x by_ dn fr mo m).length z.2, .int .i64 (askN x by_ fr mo m), .int .i64 (askNo x by_ fr mo)]) ∧ True ∧ Mem w0 ([(901, ixBox b bm), (902, ixMap bm m), (950, .many rs), (909, ownStr z.1 z.2 (askIds x by_ dn fr mo m))] ++ K) w' := by
  have hle := hix.le
  refine enterM_args (args := [.pointer (some ⟨b, 0, none⟩), .agg #[.int .i64 x.op, .slice x.ad x.q x.c, .int .i64 x.lo, .int .i64 x.hi, str x.nm, str x.tx, .int .i64 by_, .bool dn, .int .i64 fr, .int .i64 mo]]) (F := _) hM0 Tryz.func16 rfl Tryz.ntmps16 rfl rfl ?_
  intro Rb hRb hRn
  refine tx ?_
  refine S_box 3 3 rfl rfl rfl rfl rfl ?_
  intro b3
  refine S_nilSlice 909 (e := 9) (size := 1) ?_
  refine S_nilSlice 4 (e := 9) (size := 1) ?_
  refine sr 3 ?_
  refine sgs ?_
  refine tx ?_
  refine s1 (yF fa38_0) ?_
  refine s1 (y_loadSub 3 0 6 (ds := [.int .i64 x.op, .slice x.ad x.q x.c, .int .i64 x.lo, .int .i64 x.hi, str x.nm, str x.tx]) rfl rfl rfl rfl Tryz.underlying36 rfl sz36) ?_
  refine s1 (y_call rfl rfl rfl cf54 (fun _ w1 hM => CheckCond_any x w1 (hok.lift hM.below))) ?_
  refine sr 1 ?_
  refine sgx ?_
  refine sr 2 ?_
  refine sgo ?_
  refine T_cond rfl ?_ ?_ <;> intro h15
  · skip
    have h15 : ¬ condNo x = 0 := by simpa using h15
    refine tx ?_
    refine sr 1 ?_
    refine S_nilSlice 4 (e := 9) (size := 1) ?_
    refine sr 3 ?_
    refine sgo ?_
    refine tr3 hRb fun w hM => ?_
    have e1 : askNo x by_ fr mo = condNo x := by rw [askNo, if_pos h15]
    have e2 : askIds x by_ dn fr mo m = [] := by rw [askIds, if_neg (by rw [e1]; exact h15)]
    have e3 : askN x by_ fr mo m = 0 := by rw [askN, if_neg (by rw [e1]; exact h15)]
    rw [e1, e2, e3]
    exact ⟨(none, 0), rfl, trivial, hM.keep (ks := [(0, 999)]) (by repeat (first | exact kl_rest (by assumption) rfl | (apply kl_in; focus rfl))) _ ⟨rfl, rfl, rfl, rfl, trivial⟩⟩
  have h15 : condNo x = 0 := by simpa using h15
  refine kgs ?_
  refine tx ?_
  refine s1 (yF fa38_1) ?_
  refine s1 (yL 3 Tryz.underlying3) ?_
  refine s1 (y_as (v' := .bool (outI by_ 1 3)) (by rw [inB_outI]) (y_call rfl rfl rfl cf55 (fun _ w _ => fout_any _ _ _ w))) ?_
  refine sgo ?_
  refine T_cond rfl ?_ ?_ <;> intro h19
  · skip
    refine tx ?_
    refine S_nilSlice 4 (e := 9) (size := 1) ?_
    refine sr 3 ?_
    refine sgo ?_
    refine tr3 hRb fun w hM => ?_
    have e1 : askNo x by_ fr mo = 10 := by rw [askNo, if_neg (by simpa using h15), if_pos h19]
    have e2 : askIds x by_ dn fr mo m = [] := by rw [askIds, if_neg (by rw [e1]; decide)]
    have e3 : askN x by_ fr mo m = 0 := by rw [askN, if_neg (by rw [e1]; decide)]
    rw [e1, e2, e3]
    exact ⟨(none, 0), rfl, trivial, hM.keep (ks := [(0, 999)]) (by repeat (first | exact kl_rest (by assumption) rfl | (apply kl_in; focus rfl))) _ ⟨rfl, rfl, rfl, rfl, trivial⟩⟩
  refine kgs ?_
  refine tx ?_
  refine s1 (yF fa38_3) ?_
  refine s1 (yL 3 Tryz.underlying3) ?_
  refine s1 (y_as (v' := .bool (outI fr 0 2000)) (by rw [inB_outI]) (y_call rfl rfl rfl cf55 (fun _ w _ => fout_any _ _ _ w))) ?_
  refine sr 1 ?_
  refine sg rfl (yF fa38_4) ?_
  refine sg rfl (yL 3 Tryz.underlying3) ?_
  refine sg rfl (y_as (v' := .bool (outI mo 1 2000)) (by rw [inB_outI]) (y_call rfl rfl rfl cf55 (fun _ w _ => fout_any _ _ _ w))) ?_
  refine s1 (y_or rfl rfl rfl) ?_
  refine sgo ?_
  refine T_cond rfl ?_ ?_ <;> intro h27
  · skip
    refine tx ?_
    refine S_nilSlice 4 (e := 9) (size := 1) ?_
    refine sr 3 ?_
    refine sgo ?_
    refine tr3 hRb fun w hM => ?_
    have e1 : askNo x by_ fr mo = 2 := by rw [askNo, if_neg (by simpa using h15), if_neg (by rw [h19]; exact Bool.false_ne_true), if_pos h27]
    have e2 : askIds x by_ dn fr mo m = [] := by rw [askIds, if_neg (by rw [e1]; decide)]
    have e3 : askN x by_ fr mo m = 0 := by rw [askN, if_neg (by rw [e1]; decide)]
    rw [e1, e2, e3]
    exact ⟨(none, 0), rfl, trivial, hM.keep (ks := [(0, 999)]) (by repeat (first | exact kl_rest (by assumption) rfl | (apply kl_in; focus rfl))) _ ⟨rfl, rfl, rfl, rfl, trivial⟩⟩
  have hno : askNo x by_ fr mo = 0 := by rw [askNo, if_neg (by simpa using h15), if_neg (by rw [h19]; exact Bool.false_ne_true), if_neg (by rw [h27]; exact Bool.false_ne_true)]
  obtain ⟨hf0, hf1, hm0, hm1⟩ : 0 ≤ fr ∧ fr ≤ 2000 ∧ 1 ≤ mo ∧ mo ≤ 2000 := by
    simp only [outI, Bool.or_eq_false_iff, decide_eq_false_iff_not] at h27
    omega
  obtain ⟨f0, rfl⟩ : ∃ k : Nat, fr = k := ⟨fr.toNat, by omega⟩
  obtain ⟨m0, rfl⟩ : ∃ k : Nat, mo = k := ⟨mo.toNat, by omega⟩
  refine kgx ?_
  refine sr 1 ?_
  refine s1 (yF fa38_0) ?_
  refine s1 (y_loadSub 3 0 6 (ds := [.int .i64 x.op, .slice x.ad x.q x.c, .int .i64 x.lo, .int .i64 x.hi, str x.nm, str x.tx]) rfl rfl rfl rfl Tryz.underlying36 rfl sz36) ?_
  refine S_callN 31 [(901, 901), (902, 902), (950, 950)] [(906, 906)] (X := FndR) rfl rfl rfl rfl rfl rfl rfl cf56 rfl (fun z => .slice z.A z.l.length z.c) (fun z => FndP x m z) (fun z => [(901, ixBox b bm), (902, ixMap bm m), (950, .many rs), (906, ownEv z.A z.c z.l)]) (fun _ => rfl) (fun _ => rfl) (fun K1 hK1 w1 hM => found_any hK1 b bm m rs x w1 hix hok (cond_ch h15) hmx hM) ?_
  rintro z hz
  have hzl := hz.len
  refine sr 1 ?_
  refine sgx ?_
  refine sr 1 ?_
  refine s1 (y_makeFunc rfl rfl rfl rfl rfl) ?_
  refine S_callM 34 [(0, 906), (901, 3)] (X := List Evt) rfl rfl rfl rfl rfl rfl rfl cf57 rfl (fun _ => .tuple #[]) (fun W => W.Perm z.l ∧ W.Pairwise fun a b => cmpK by_ a b ≤ 0) (fun W => [(0, .own 31 9 (.slice z.A z.l.length z.c) z.l.length (W.flatMap Evt.enc)), (901, askBox b3 x by_ dn (f0 : Int) (m0 : Int))]) (fun _ => rfl) (fun _ => rfl) (fun K1 hK1 w1 hM => sortF_any hK1 x by_ dn (f0 : Int) (m0 : Int) b3 z hz.2 (by omega) w1 hM) ?_
  rintro W hW
  have hWl : W.length = z.l.length := hW.1.length_eq
  have hV := ask_perm (dn := dn) hix.nd hz hW
  refine sgs ?_
  refine tx ?_
  refine s1 (yF fa38_2) ?_
  refine s1 (yL 3 Tryz.underlying4) ?_
  refine sgo ?_
  refine T_cond rfl ?_ ?_ <;> intro h36
  · skip
    rw [if_pos h36] at hV
    obtain ⟨V, hVe⟩ : ∃ V, W.reverse = V := ⟨_, rfl⟩
    have hVl : V.length = z.l.length := by rw [← hVe, List.length_reverse, hWl]
    rw [hVe] at hV
    refine T_region ?_
    refine sr 1 ?_
    refine S_callM 38 [(0, 906)] (X := Unit) rfl rfl rfl rfl rfl rfl rfl cf60 rfl (fun _ => .tuple #[]) (fun _ => True) (fun _ => [(0, .own 31 9 (.slice z.A z.l.length z.c) z.l.length (W.reverse.flatMap Evt.enc))]) (fun _ => rfl) (fun _ => rfl) (fun K1 hK1 w1 hM => Reverse_any hK1 z.A z.l.length z.c W hWl (by omega) w1 hM) ?_
    intro _ _
    rw [hVe]
    refine sgx ?_
    refine S_nilSlice 9 (e := 9) (size := 1) ?_
    refine sr 1 ?_
    refine sgs ?_
    refine tx ?_
    refine s1 (yF fa38_3) ?_
    refine s1 (yL 3 Tryz.underlying3) ?_
    refine sr 1 ?_
    refine sgo ?_
    refine T_block ?_
    refine lK5 (kf := [(9, 10), (41, 63)]) (kl := [(9, 10), (41, 63), (909, 909)]) (fun (i q : Nat) (A : Option Addr) (c : Nat) (out : List (List UInt8)) => [(10, true, .int .i64 (i : Int)), (9, true, .slice A q c)]) (fun (i q : Nat) (A : Option Addr) (c : Nat) (out : List (List UInt8)) => [(909, .own 9 1 (.slice A q c) q (out.flatMap strE))]) (fun (i q : Nat) (A : Option Addr) (c : Nat) (out : List (List UInt8)) => f0 ≤ i ∧ i ≤ f0 + m0 ∧ out.length = q ∧ q ≤ i ∧ out = idsI ((V.drop f0).take (i - f0)) ∧ (i = f0 ∨ i ≤ V.length)) (fun (i q : Nat) (A : Option Addr) (c : Nat) (out : List (List UInt8)) => f0 + m0 - i) f0 0 none 0 [] ?_ ?_ ?_ ?_
    · exact ⟨Nat.le_refl _, by omega, rfl, by omega, by simp, .inl rfl⟩
    · exact ⟨rfl, rfl, trivial⟩
    · exact ⟨rfl, trivial⟩
    rintro i q A c out ⟨hp1, hp2, hp3, hp4, hp5, hp6⟩
    refine T_seq ?_
    refine tx ?_
    refine sr 2 ?_
    refine s1 (y_len_slice rfl rfl Tryz.underlying25) ?_
    refine sr 2 ?_
    refine sg rfl (y_move rfl rfl) ?_
    refine sg rfl (yF fa38_3) ?_
    refine sg rfl (yL 3 Tryz.underlying3) ?_
    refine sg rfl (yF fa38_4) ?_
    refine sg rfl (yL 3 Tryz.underlying3) ?_
    refine sg rfl (y_bin rfl rfl rfl (fun hg => b_add (by simp only [Bool.true_and, Bool.and_eq_true, beq_iff_eq, decide_eq_true_eq, decide_eq_false_iff_not, Int.not_lt, Int.not_le] at hg; omega))) ?_
    refine sg rfl (y_bin rfl rfl rfl (fun _ => b_lss)) ?_
    refine s1 (y_and rfl rfl rfl) ?_
    refine sgo ?_
    refine T_cond rfl ?_ ?_ <;> intro h53
    · skip
      simp only [Bool.and_eq_true, decide_eq_true_eq] at h53
      obtain ⟨e, he⟩ : ∃ e, V[i]? = some e := ⟨_, List.getElem?_eq_getElem (by omega)⟩
      refine kgs ?_
      refine T_block ?_
      refine T_region ?_
      refine sr 3 ?_
      refine s1 (y_indexOwn 906 rfl rfl rfl rfl Tryz.underlying25 sz31 (fun _ => by omega)) ?_
      refine s1 (y_fieldOwn 906 rfl rfl rfl (fun _ => by omega) fa31_0) ?_
      refine s1 (y_load_cellOwn 906 rfl rfl rfl (fun _ => by omega) (fun _ => flat_at (enc := Evt.enc) (size := 9) (fun _ => rfl) he 0 (str e.id) rfl) Tryz.underlying9 rfl) ?_
      refine S_buildSlice 62 62 rfl rfl rfl rfl rfl Tryz.underlying49 inf9 rfl (by decide) (by decide) rfl rfl (by decide) rfl (_) rfl ?_
      intro b62
      obtain ⟨i63, hi63, hz63, hs63, hy63⟩ := info_parts inf9
      refine S_append 63 909 62 rfl rfl rfl rfl rfl rfl rfl rfl Tryz.underlying49 hi63 hz63 hs63 hy63 rfl (by decide) (by decide) rfl ?_ ?_ (q + 1) ((out ++ [e.id]).flatMap strE) ?_ ?_ ?_
      · (simp only [maxLen]; omega)
      · omega
      · rfl
      · simp [List.flatMap_append, strE]; rfl
      intro A63 c63
      refine sr 1 ?_
      refine sgr ?_
      refine sr 1 ?_
      refine s1 (y_bin rfl rfl rfl (fun hg => b_addv (((i + 1 : Nat) : Int)) (by omega) (by omega))) ?_
      refine sr 1 ?_
      refine S_nil (nS5 (kf := [(9, 10), (41, 63)]) (kl := [(9, 10), (41, 63), (909, 909)]) (i + 1) (q + 1) A63 c63 (out ++ [e.id]) ?_ ?_ ?_ ?_)
      · omega
      · exact ⟨by omega, by omega, by simp [hp3], by omega, by rw [take_dropI hp1 he, hp5]; simp [idsI], .inr (by omega)⟩
      · exact ⟨rfl, rfl, trivial⟩
      · exact ⟨rfl, trivial⟩
    refine egx ?_
    refine sr 2 ?_
    refine s1 (y_len_slice rfl rfl Tryz.underlying25) ?_
    refine sr 3 ?_
    refine sgo ?_
    refine tr3 hRb fun w hM => ?_
    have e4 : out = idsI ((V.drop f0).take m0) := by
      rw [hp5]
      simp only [Bool.and_eq_false_iff, decide_eq_false_iff_not] at h53
      by_cases hi : i < f0 + m0
      · rw [List.take_of_length_le (by rw [List.length_drop]; omega), List.take_of_length_le (by rw [List.length_drop]; omega)]
      · rw [show i - f0 = m0 by omega]
    have e2 : askIds x by_ dn f0 m0 m = out := by rw [askIds, if_pos hno, ← hV, e4]; rfl
    have e3 : askN x by_ f0 m0 m = (z.l.length : Nat) := by rw [askN, if_pos hno, hz.1.length_eq]
    rw [hno, e2, e3]
    have e9 : ownStr A c out = .own 9 1 (.slice A q c) q (out.flatMap strE) := by unfold ownStr; rw [hp3]
    refine ⟨(A, c), by rw [hp3], trivial, ?_⟩
    show Mem w0 ([_, _, _, (909, ownStr A c out)] ++ K) _
    rw [e9]
    exact hM.keep (ks := [(0, 999)]) (by repeat (first | exact kl_rest (by assumption) rfl | (apply kl_in; focus rfl))) _ ⟨rfl, rfl, rfl, rfl, trivial⟩
  rw [if_neg (by rw [h36]; exact Bool.false_ne_true)] at hV
  obtain ⟨V, hVe⟩ : ∃ V, W = V := ⟨_, rfl⟩
  have hVl : V.length = z.l.length := by rw [← hVe, hWl]
  rw [hVe] at hV
  rw [hVe]
  refine kgx ?_
  refine S_nilSlice 9 (e := 9) (size := 1) ?_
  refine sr 1 ?_
  refine sgs ?_
  refine tx ?_
  refine s1 (yF fa38_3) ?_
  refine s1 (yL 3 Tryz.underlying3) ?_
  refine sr 1 ?_
  refine sgo ?_
  refine T_block ?_
  refine lK5 (kf := [(9, 10), (41, 63)]) (kl := [(9, 10), (41, 63), (909, 909)]) (fun (i q : Nat) (A : Option Addr) (c : Nat) (out : List (List UInt8)) => [(10, true, .int .i64 (i : Int)), (9, true, .slice A q c)]) (fun (i q : Nat) (A : Option Addr) (c : Nat) (out : List (List UInt8)) => [(909, .own 9 1 (.slice A q c) q (out.flatMap strE))]) (fun (i q : Nat) (A : Option Addr) (c : Nat) (out : List (List UInt8)) => f0 ≤ i ∧ i ≤ f0 + m0 ∧ out.length = q ∧ q ≤ i ∧ out = idsI ((V.drop f0).take (i - f0)) ∧ (i = f0 ∨ i ≤ V.length)) (fun (i q : Nat) (A : Option Addr) (c : Nat) (out : List (List UInt8)) => f0 + m0 - i) f0 0 none 0 [] ?_ ?_ ?_ ?_
  · exact ⟨Nat.le_refl _, by omega, rfl, by omega, by simp, .inl rfl⟩
  · exact ⟨rfl, rfl, trivial⟩
  · exact ⟨rfl, trivial⟩
  rintro i q A c out ⟨hp1, hp2, hp3, hp4, hp5, hp6⟩
  refine T_seq ?_
  refine tx ?_
  refine sr 2 ?_
  refine s1 (y_len_slice rfl rfl Tryz.underlying25) ?_
  refine sr 2 ?_
  refine sg rfl (y_move rfl rfl) ?_
  refine sg rfl (yF fa38_3) ?_
  refine sg rfl (yL 3 Tryz.underlying3) ?_
  refine sg rfl (yF fa38_4) ?_
  refine sg rfl (yL 3 Tryz.underlying3) ?_
  refine sg rfl (y_bin rfl rfl rfl (fun hg => b_add (by simp only [Bool.true_and, Bool.and_eq_true, beq_iff_eq, decide_eq_true_eq, decide_eq_false_iff_not, Int.not_lt, Int.not_le] at hg; omega))) ?_
  refine sg rfl (y_bin rfl rfl rfl (fun _ => b_lss)) ?_
  refine s1 (y_and rfl rfl rfl) ?_
  refine sgo ?_
  refine T_cond rfl ?_ ?_ <;> intro h53
  · skip
    simp only [Bool.and_eq_true, decide_eq_true_eq] at h53
    obtain ⟨e, he⟩ : ∃ e, V[i]? = some e := ⟨_, List.getElem?_eq_getElem (by omega)⟩
    refine kgs ?_
    refine T_block ?_
    refine T_region ?_
    refine sr 3 ?_
    refine s1 (y_indexOwn 906 rfl rfl rfl rfl Tryz.underlying25 sz31 (fun _ => by omega)) ?_
    refine s1 (y_fieldOwn 906 rfl rfl rfl (fun _ => by omega) fa31_0) ?_
    refine s1 (y_load_cellOwn 906 rfl rfl rfl (fun _ => by omega) (fun _ => flat_at (enc := Evt.enc) (size := 9) (fun _ => rfl) he 0 (str e.id) rfl) Tryz.underlying9 rfl) ?_
    refine S_buildSlice 62 62 rfl rfl rfl rfl rfl Tryz.underlying49 inf9 rfl (by decide) (by decide) rfl rfl (by decide) rfl (_) rfl ?_
    intro b62
    obtain ⟨i63, hi63, hz63, hs63, hy63⟩ := info_parts inf9
    refine S_append 63 909 62 rfl rfl rfl rfl rfl rfl rfl rfl Tryz.underlying49 hi63 hz63 hs63 hy63 rfl (by decide) (by decide) rfl ?_ ?_ (q + 1) ((out ++ [e.id]).flatMap strE) ?_ ?_ ?_
    · (simp only [maxLen]; omega)
    · omega
    · rfl
    · simp [List.flatMap_append, strE]; rfl
    intro A63 c63
    refine sr 1 ?_
    refine sgr ?_
    refine sr 1 ?_
    refine s1 (y_bin rfl rfl rfl (fun hg => b_addv (((i + 1 : Nat) : Int)) (by omega) (by omega))) ?_
    refine sr 1 ?_
    refine S_nil (nS5 (kf := [(9, 10), (41, 63)]) (kl := [(9, 10), (41, 63), (909, 909)]) (i + 1) (q + 1) A63 c63 (out ++ [e.id]) ?_ ?_ ?_ ?_)
    · omega
    · exact ⟨by omega, by omega, by simp [hp3], by omega, by rw [take_dropI hp1 he, hp5]; simp [idsI], .inr (by omega)⟩
    · exact ⟨rfl, rfl, trivial⟩
    · exact ⟨rfl, trivial⟩
  refine egx ?_
  refine sr 2 ?_
  refine s1 (y_len_slice rfl rfl Tryz.underlying25) ?_
  refine sr 3 ?_
  refine sgo ?_
  refine tr3 hRb fun w hM => ?_
  have e4 : out = idsI ((V.drop f0).take m0) := by
    rw [hp5]
    simp only [Bool.and_eq_false_iff, decide_eq_false_iff_not] at h53
    by_cases hi : i < f0 + m0
    · rw [List.take_of_length_le (by rw [List.length_drop]; omega), List.take_of_length_le (by rw [List.length_drop]; omega)]
    · rw [show i - f0 = m0 by omega]
  have e2 : askIds x by_ dn f0 m0 m = out := by rw [askIds, if_pos hno, ← hV, e4]; rfl
  have e3 : askN x by_ f0 m0 m = (z.l.length : Nat) := by rw [askN, if_pos hno, hz.1.length_eq]
  rw [hno, e2, e3]
  have e9 : ownStr A c out = .own 9 1 (.slice A q c) q (out.flatMap strE) := by unfold ownStr; rw [hp3]
  refine ⟨(A, c), by rw [hp3], trivial, ?_⟩
  show Mem w0 ([_, _, _, (909, ownStr A c out)] ++ K) _
  rw [e9]
  exact hM.keep (ks := [(0, 999)]) (by repeat (first | exact kl_rest (by assumption) rfl | (apply kl_in; focus rfl))) _ ⟨rfl, rfl, rfl, rfl, trivial⟩
end Go.Proofs.YtekbcbjimajnfaaGreatDoor
end
section
namespace Go.Proofs.YtekbcbjimajnfaaGreatDoor
set_option linter.unusedSimpArgs false
set_option linter.unusedVariables false
set_option maxRecDepth 20000
open Go.RowKit Go.Eng
/-! ### Split -/
/-! ### Cut -/
/-! ### Words in a list -/
theorem IndexStr_any (A : Option Addr) (q c : Nat) (l : List (List UInt8)) (s : List UInt8) (w : World) (hl : SlT strE 1 w A q l) (hq : q ≤ 4611686018427387904) :
    Calls Tryz.prog 107 #[.slice A q c, str s] w fun e w' => e = .returned (.bool (decide (s ∈ l))) ∧ Below w.heap.size w w' := by
  have hI : ∀ w1, Below w.heap.size w w1 → Calls Tryz.prog 192 #[.slice A q c, str s] w1 fun e w' => ∃ n : Int, e = .returned (.int .i64 n) ∧ (decide (0 ≤ n) = decide (s ∈ l)) ∧ Below w1.heap.size w1 w' := by
    intro w1 hb1
    have hl1 := hl.below hb1
    refine enter_args (args := [.slice A q c, str s]) (F := _) Tryz.func192 rfl Tryz.ntmps192 rfl rfl ?_
    intro Rb hRb hRn
    refine tx ?_
    refine sr 1 ?_
    refine sgs ?_
    refine tx ?_
    refine sr 1 ?_
    refine s1 (y_len_slice rfl rfl Tryz.underlying49) ?_
    refine sr 1 ?_
    refine sgo ?_
    refine T_block ?_
    refine lK1 (kf := [(4, 5), (8, 18)]) (kl := [(4, 5), (8, 18)]) (fun (i : Nat) => [(8, true, .int .i64 (i : Int))]) (fun (i : Nat) => []) (fun (i : Nat) => i ≤ q ∧ (s ∈ l ↔ s ∈ l.drop i)) (fun (i : Nat) => q - i) 0 ?_ ?_ ?_ ?_
    · exact ⟨by omega, Iff.rfl⟩
    · exact ⟨rfl, trivial⟩
    · exact trivial
    rintro i ⟨hp1, hp2⟩
    refine tx ?_
    refine sr 1 ?_
    refine sgs ?_
    refine T_cond rfl ?_ ?_ <;> intro h9
    · try simp only [nrm] at h9
      obtain ⟨x, hx1, hx2⟩ := hl1.at (i := i) (by omega)
      refine kgs ?_
      refine T_block ?_
      refine tx ?_
      refine sr 2 ?_
      refine sgx ?_
      refine sr 3 ?_
      refine s1 (y_indexAddr rfl rfl rfl Tryz.underlying49 sz9 (fun hg => hl1.isSome (by omega)) (fun _ => by omega)) ?_
      refine s1 (y_loadT1 (val := (fun l : List UInt8 => str l)) rfl rfl hl1 (fun _ => hx1) Tryz.underlying9 rfl) ?_
      refine s1 (y_bin rfl rfl rfl (fun _ => b_eqls)) ?_
      refine sgo ?_
      refine T_cond rfl ?_ ?_ <;> intro h16
      · skip
        refine tx ?_
        refine sr 2 ?_
        refine sgo ?_
        refine tr1 hRb fun w hM => ?_
        exact ⟨(i : Int), rfl, by rw [decide_eq_true (hp2.2 (by rw [hx2]; exact List.mem_cons.2 (.inl (by simpa using h16))))]; simp, hM.below⟩
      refine kgr ?_
      refine s1 (y_bin rfl rfl rfl (fun hg => b_add (by omega))) ?_
      refine sr 1 ?_
      refine S_nil (nK1 (kf := [(4, 5), (8, 18)]) (kl := [(4, 5), (8, 18)]) (i + 1) ?_ ?_ ?_ ?_)
      · omega
      · exact ⟨by omega, by rw [hp2, hx2, List.mem_cons, or_iff_right (by simpa using h16)]⟩
      · exact ⟨rfl, trivial⟩
      · exact trivial
    try simp only [nrm] at h9
    refine egx ?_
    refine sr 1 ?_
    refine sgo ?_
    refine tr1 hRb fun w hM => ?_
    exact ⟨-1, rfl, by rw [decide_eq_false (show ¬ s ∈ l from fun h => by have := hp2.1 h; rw [hl1.end (by omega)] at this; cases this)]; rfl, hM.below⟩
  refine enter_args (args := [.slice A q c, str s]) (F := _) Tryz.func107 rfl Tryz.ntmps107 rfl rfl ?_
  intro Rb hRb hRn
  refine tx ?_
  refine sr 1 ?_
  refine sgx ?_
  refine sr 2 ?_
  refine S_call 7 (X := Int) rfl rfl rfl rfl rfl rfl rfl cf192 (fun n => .int .i64 n) (fun n => decide (0 ≤ n) = decide (s ∈ l)) (fun _ => _) (fun w1 hM => (hI w1 hM.below).mono fun e w2 ⟨n, h1, h2, h3⟩ => ⟨n, h1, h2, hM.call h3⟩) ?_
  rintro n hn
  refine sr 2 ?_
  refine sgo ?_
  refine tr1 hRb fun w hM => ?_
  exact ⟨by rw [← hn], hM.below⟩
end Go.Proofs.YtekbcbjimajnfaaGreatDoor
end
section
namespace Go.Proofs.YtekbcbjimajnfaaGreatDoor
set_option linter.unusedSimpArgs false
set_option linter.unusedVariables false
set_option maxRecDepth 20000
open Go.RowKit Go.Eng
def addU (l : List (List UInt8)) (s : List UInt8) : List (List UInt8) := if s ∈ l then l else l ++ [s]
def kindsU (F : List Flt) : List (List UInt8) := F.foldl (fun l f => addU l f.k) []
theorem kindsU_snoc {F : List Flt} {i : Nat} {x : Flt} (h : F[i]? = some x) : kindsU (F.take (i + 1)) = addU (kindsU (F.take i)) x.k := by
  rw [kindsU, List.take_add_one, h, List.foldl_append]; rfl
theorem addU_len (l : List (List UInt8)) (s : List UInt8) : l.length ≤ (addU l s).length ∧ (addU l s).length ≤ l.length + 1 := by
  unfold addU
  split
  · omega
  · rw [List.length_append]; simp
theorem addU_nodup {l : List (List UInt8)} {s : List UInt8} (h : l.Nodup) : (addU l s).Nodup := by
  unfold addU
  split
  · exact h
  · rename_i hs
    rw [List.nodup_append]
    exact ⟨h, by simp, fun a ha b hb => by rw [List.mem_singleton.1 hb]; rintro rfl; exact hs ha⟩
theorem foldU (F : List Flt) : ∀ l : List (List UInt8), l.Nodup → (F.foldl (fun l f => addU l f.k) l).Nodup ∧ (F.foldl (fun l f => addU l f.k) l).length ≤ l.length + F.length := by
  induction F with
  | nil => intro l h; exact ⟨h, Nat.le_refl _⟩
  | cons f r ih =>
    intro l h
    obtain ⟨h1, h2⟩ := ih (addU l f.k) (addU_nodup h)
    have := (addU_len l f.k).2
    exact ⟨h1, by simp only [List.foldl_cons, List.length_cons]; omega⟩
def lvW (e : Evt) : List UInt8 := levels[(e.lv - 1).toNat]!
def valsE (e : Evt) (by_ : Int) (nm : List UInt8) : List (List UInt8) :=
  if by_ = 2 then [lvW e] else if by_ = 4 then (if (tagV nm e.ta.l).2 = true then [(tagV nm e.ta.l).1] else []) else if by_ = 5 then (if e.rel = [] then [] else [e.rel]) else if by_ = 6 then (if e.us = [] then [] else [e.us]) else kindsU e.fa.l
theorem valsE_can (e : Evt) (by_ : Int) (nm : List UInt8) : valsE (can e) by_ nm = valsE e by_ nm := by
  have : kindsU (e.fa.l.map canF) = kindsU e.fa.l := by rw [kindsU, List.foldl_map]; rfl
  unfold valsE
  show (if by_ = 2 then [lvW e] else if by_ = 4 then (if (tagV nm e.ta.l).2 = true then [(tagV nm e.ta.l).1] else []) else if by_ = 5 then (if e.rel = [] then [] else [e.rel]) else if by_ = 6 then (if e.us = [] then [] else [e.us]) else kindsU (e.fa.l.map canF)) = _
  rw [this]
theorem valsE_ok (e : Evt) (by_ : Int) (nm : List UInt8) : (valsE e by_ nm).Nodup ∧ (valsE e by_ nm).length ≤ 1 + e.fa.l.length := by
  unfold valsE
  split
  · exact ⟨by simp, by simp⟩
  split
  · split
    · exact ⟨by simp, by simp⟩
    · exact ⟨by simp, by simp⟩
  split
  · split
    · exact ⟨by simp, by simp⟩
    · exact ⟨by simp, by simp⟩
  split
  · split
    · exact ⟨by simp, by simp⟩
    · exact ⟨by simp, by simp⟩
  · obtain ⟨h1, h2⟩ := foldU e.fa.l [] List.nodup_nil
    exact ⟨h1, by rw [List.length_nil] at h2; unfold kindsU; omega⟩
theorem lv_at {e : Evt} (h : 1 ≤ e.lv ∧ e.lv ≤ 5) : levels[(e.lv - 1).toNat]? = some (lvW e) := by
  have hl : (e.lv - 1).toNat < levels.length := by show _ < 5; omega
  rw [lvW, List.getElem!_eq_getElem?_getD, List.getElem?_eq_getElem hl]; rfl
theorem evNo_lv {e : Evt} (h : evNo e = 0) : (1 ≤ e.lv ∧ e.lv ≤ 5) ∧ (1 ≤ e.wt ∧ e.wt ≤ 1000000) ∧ (0 ≤ e.at_ ∧ e.at_ ≤ 3155759999) ∧ e.fa.q ≤ 10 := by
  unfold evNo at h
  obtain ⟨h0, h⟩ := fst_0F h
  obtain ⟨h1, h⟩ := fst_0F h
  obtain ⟨_, h⟩ := fst_0F h
  obtain ⟨_, h⟩ := fst_0F h
  have hfq : e.fa.q ≤ 10 := by
    unfold faultsNo at h1
    split at h1
    · cases h1
    split at h1
    · cases h1
    · omega
  split at h
  · cases h
  obtain ⟨_, h⟩ := fst_0F h
  split at h
  · cases h
  rename_i hy
  unfold headNo at h0
  split at h0
  · cases h0
  split at h0
  · cases h0
  rename_i hx
  simp only [Bool.or_eq_true, decide_eq_true_eq, not_or] at hx hy
  exact ⟨by omega, by omega, by omega, hfq⟩
theorem values_any (e : Evt) (by_ : Int) (nm : List UInt8) (w : World) (he : e.Ok w) (hlv : 1 ≤ e.lv ∧ e.lv ≤ 5) (hfq : e.fa.q ≤ 10) :
    Calls Tryz.prog 68 #[e.val, .int .i64 by_, str nm] w fun en w' => ∃ A c, en = .returned (.slice A (valsE e by_ nm).length c) ∧ w'.ownsRow w.heap.size 9 1 (.slice A (valsE e by_ nm).length c) (valsE e by_ nm).length ((valsE e by_ nm).flatMap strE) ∧ Below w.heap.size w w' := by
  have hl := he.fa.ok.t
  refine enter_args (args := [.agg #[str e.id, .int .i64 e.at_, .int .i64 e.lv, .slice e.fa.A e.fa.q e.fa.c, .slice e.ta.A e.ta.q e.ta.c, .slice e.cr.A e.cr.q e.cr.c, str e.rel, str e.us, .int .i64 e.wt], .int .i64 by_, str nm]) (F := _) Tryz.func68 rfl Tryz.ntmps68 rfl rfl ?_
  intro Rb hRb hRn
  refine tx ?_
  refine S_box 3 3 rfl rfl rfl rfl rfl ?_
  intro b3
  refine S_nilSlice 6 (e := 9) (size := 1) ?_
  refine sr 1 ?_
  refine sgx ?_
  refine sr 1 ?_
  refine sgs ?_
  refine tx ?_
  refine sr 1 ?_
  refine sgo ?_
  refine T_block ?_
  refine tx ?_
  refine sr 2 ?_
  refine sgo ?_
  refine T_cond rfl ?_ ?_ <;> intro h33
  · skip
    have hb : by_ = 2 := by simpa using h33
    refine T_seq ?_
    refine T_perm [1, 2, 3, 0, 4, 5, 6, 7] [false, true, true, true, false, false, false, true] [0, 0, 2, 6, 15, 31, 63, 127] [(2, [3])] (by kernel_rfl) (by kernel_rfl) (by kernel_rfl) rfl (by kernel_rfl) ?_
    refine Rf_ 1 36 rfl rfl rfl rfl rfl _ trivial (Y.z (yF fa31_2) rfl) ?_
    refine Rf_ 2 37 rfl rfl rfl rfl rfl _ ⟨rfl, trivial⟩ (Y.z (yL 3 Tryz.underlying3) rfl) ?_
    refine Rf_ 3 38 rfl rfl rfl rfl rfl _ trivial (Y.z (y_bin rfl rfl rfl (fun hg => b_subv (((e.lv - 1).toNat : Int)) (by omega) (by omega))) rfl) ?_
    refine R_chain 0 rfl rfl ?_
    refine S_callOwn 35 35 rfl rfl rfl rfl rfl rfl rfl cf105 (fun A c => .slice A (5) c) 9 1 (5) (levels.flatMap strE) (fun w hM => Levels_any w) ?_
    intro A35 c35
    refine R_next ⟨.inr ⟨rfl, trivial⟩, trivial⟩ ?_
    refine R_chain 4 rfl rfl ?_
    refine s1 (y_indexOwn 35 rfl rfl rfl rfl Tryz.underlying49 sz9 (fun _ => by omega)) ?_
    refine R_next ⟨.inl rfl, trivial⟩ ?_
    refine R_chain 5 rfl rfl ?_
    refine s1 (y_loadO1 35 (val := (fun l : List UInt8 => str l)) rfl rfl rfl rfl (fun _ => lv_at hlv) Tryz.underlying9 rfl) ?_
    refine R_next ⟨.inl rfl, trivial⟩ ?_
    refine R_chain 6 rfl rfl ?_
    refine S_buildSlice 41 41 rfl rfl rfl rfl rfl Tryz.underlying49 inf9 rfl (by decide) (by decide) rfl rfl (by decide) rfl (_) rfl ?_
    intro b41
    refine R_next ⟨.inl rfl, trivial⟩ ?_
    refine Rf_ 7 6 rfl rfl rfl rfl rfl _ trivial (Y.z (y_assign rfl rfl) rfl) ?_
    refine R_go (fun _ _ h => h) ?_
    refine tr1 hRb fun w hM => ?_
    have hv : valsE e by_ nm = [lvW e] := by rw [valsE, if_pos hb]
    rw [hv]
    exact ⟨_, _, rfl, hM.sat 41 _ rfl, hM.below⟩
  have n2 : ¬ by_ = 2 := by simpa using h33
  refine tx ?_
  refine sr 2 ?_
  refine sgo ?_
  refine T_cond rfl ?_ ?_ <;> intro h42
  · skip
    have hb : by_ = 4 := by simpa using h42
    refine tx ?_
    refine s1 (yA 3 rfl Tryz.underlying31 sz31) ?_
    refine sr 1 ?_
    refine s1 (y_call rfl rfl rfl cf106 (fun _ w1 hM => Tag_any e _ w1 (he.below hM.below))) ?_
    refine sr 5 ?_
    refine sgx ?_
    refine sr 1 ?_
    refine sgo ?_
    refine T_cond rfl ?_ ?_ <;> intro h50
    · skip
      refine tx ?_
      refine sr 1 ?_
      refine S_buildSlice 52 52 rfl rfl rfl rfl rfl Tryz.underlying49 inf9 rfl (by decide) (by decide) rfl rfl (by decide) rfl (_) rfl ?_
      intro b52
      refine sr 1 ?_
      refine sgo ?_
      refine tr1 hRb fun w hM => ?_
      have hv : valsE e by_ nm = [(tagV nm e.ta.l).1] := by rw [valsE, if_neg n2, if_pos hb, if_pos h50]
      rw [hv]
      exact ⟨_, _, rfl, hM.sat 52 _ rfl, hM.below⟩
    refine kgs ?_
    refine tx ?_
    refine sr 1 ?_
    refine s1 (y_bin rfl rfl rfl (fun _ => b_eqls)) ?_
    refine sgo ?_
    refine T_cond rfl ?_ ?_ <;> intro h62
    · skip
      refine tx ?_
      refine S_nilSlice 6 (e := 9) (size := 1) ?_
      refine sr 1 ?_
      refine sgo ?_
      refine tr1 hRb fun w hM => ?_
      have hv : valsE e by_ nm = [] := by rw [valsE, if_neg n2, if_pos hb, if_neg (by rw [h50]; exact Bool.false_ne_true)]
      rw [hv]
      exact ⟨none, 0, rfl, World.ownsRow_nil _ _ _ _, hM.below⟩
    exact absurd h62 (by decide)
  have n4 : ¬ by_ = 4 := by simpa using h42
  refine tx ?_
  refine sr 2 ?_
  refine sgo ?_
  refine T_cond rfl ?_ ?_ <;> intro h53
  · skip
    have hb : by_ = 5 := by simpa using h53
    refine T_region ?_
    refine s1 (yF fa31_6) ?_
    refine s1 (yL 3 Tryz.underlying9) ?_
    refine sr 1 ?_
    refine sgs ?_
    refine tx ?_
    refine sr 1 ?_
    refine s1 (y_bin rfl rfl rfl (fun _ => b_eqls)) ?_
    refine sgo ?_
    refine T_cond rfl ?_ ?_ <;> intro h62
    · skip
      have h62 : e.rel = [] := by simpa using h62
      refine tx ?_
      refine S_nilSlice 6 (e := 9) (size := 1) ?_
      refine sr 1 ?_
      refine sgo ?_
      refine tr1 hRb fun w hM => ?_
      have hv : valsE e by_ nm = [] := by rw [valsE, if_neg n2, if_neg n4, if_pos hb, if_pos h62]
      rw [hv]
      exact ⟨none, 0, rfl, World.ownsRow_nil _ _ _ _, hM.below⟩
    have h62 : ¬ e.rel = [] := by simpa using h62
    refine kgx ?_
    refine sr 1 ?_
    refine S_buildSlice 64 64 rfl rfl rfl rfl rfl Tryz.underlying49 inf9 rfl (by decide) (by decide) rfl rfl (by decide) rfl (_) rfl ?_
    intro b64
    refine sr 1 ?_
    refine sgo ?_
    refine tr1 hRb fun w hM => ?_
    have hv : valsE e by_ nm = [e.rel] := by rw [valsE, if_neg n2, if_neg n4, if_pos hb, if_neg h62]
    rw [hv]
    exact ⟨_, _, rfl, hM.sat 64 _ rfl, hM.below⟩
  have n5 : ¬ by_ = 5 := by simpa using h53
  refine tx ?_
  refine sr 2 ?_
  refine sgo ?_
  refine T_cond rfl ?_ ?_ <;> intro h57
  · skip
    have hb : by_ = 6 := by simpa using h57
    refine T_region ?_
    refine s1 (yF fa31_7) ?_
    refine s1 (yL 3 Tryz.underlying9) ?_
    refine sr 1 ?_
    refine sgs ?_
    refine tx ?_
    refine sr 1 ?_
    refine s1 (y_bin rfl rfl rfl (fun _ => b_eqls)) ?_
    refine sgo ?_
    refine T_cond rfl ?_ ?_ <;> intro h62
    · skip
      have h62 : e.us = [] := by simpa using h62
      refine tx ?_
      refine S_nilSlice 6 (e := 9) (size := 1) ?_
      refine sr 1 ?_
      refine sgo ?_
      refine tr1 hRb fun w hM => ?_
      have hv : valsE e by_ nm = [] := by rw [valsE, if_neg n2, if_neg n4, if_neg n5, if_pos hb, if_pos h62]
      rw [hv]
      exact ⟨none, 0, rfl, World.ownsRow_nil _ _ _ _, hM.below⟩
    have h62 : ¬ e.us = [] := by simpa using h62
    refine kgx ?_
    refine sr 1 ?_
    refine S_buildSlice 64 64 rfl rfl rfl rfl rfl Tryz.underlying49 inf9 rfl (by decide) (by decide) rfl rfl (by decide) rfl (_) rfl ?_
    intro b64
    refine sr 1 ?_
    refine sgo ?_
    refine tr1 hRb fun w hM => ?_
    have hv : valsE e by_ nm = [e.us] := by rw [valsE, if_neg n2, if_neg n4, if_neg n5, if_pos hb, if_neg h62]
    rw [hv]
    exact ⟨_, _, rfl, hM.sat 64 _ rfl, hM.below⟩
  have n6 : ¬ by_ = 6 := by simpa using h57
  refine tx ?_
  refine S_nilSlice 10 (e := 9) (size := 1) ?_
  refine sr 1 ?_
  refine sgs ?_
  refine tx ?_
  refine s1 (yF fa31_3) ?_
  refine s1 (yL 3 Tryz.underlying27) ?_
  refine s1 (y_len_slice rfl rfl Tryz.underlying27) ?_
  refine sr 1 ?_
  refine sgo ?_
  refine T_block ?_
  refine lK5 (kf := [(10, 10), (12, 12), (17, 31)]) (kl := [(10, 10), (12, 12), (17, 31)]) (fun (i q : Nat) (A : Option Addr) (c : Nat) (out : List (List UInt8)) => [(17, true, .int .i64 (i : Int)), (10, true, .slice A q c)]) (fun (i q : Nat) (A : Option Addr) (c : Nat) (out : List (List UInt8)) => [(10, .own 9 1 (.slice A q c) q (out.flatMap strE))]) (fun (i q : Nat) (A : Option Addr) (c : Nat) (out : List (List UInt8)) => i ≤ e.fa.q ∧ out.length = q ∧ q ≤ i ∧ out = kindsU (e.fa.l.take i)) (fun (i q : Nat) (A : Option Addr) (c : Nat) (out : List (List UInt8)) => e.fa.q - i) 0 0 none 0 [] ?_ ?_ ?_ ?_
  · exact ⟨by omega, rfl, by omega, rfl⟩
  · exact ⟨rfl, rfl, trivial⟩
  · exact ⟨rfl, trivial⟩
  rintro i q A c out ⟨hp1, hp2, hp3, hp4⟩
  refine tx ?_
  refine sr 1 ?_
  refine sgs ?_
  refine T_cond rfl ?_ ?_ <;> intro h18
  · try simp only [nrm] at h18
    obtain ⟨x, hx1, hx2⟩ := hl.at (i := i) (by omega)
    refine kgs ?_
    refine T_block ?_
    refine tx ?_
    refine s1 (y_indexAddr rfl rfl rfl Tryz.underlying27 sz100 (fun hg => hl.isSome (by omega)) (fun _ => by omega)) ?_
    refine s1 (y_loadT rfl rfl hl (fun _ => rfl) (fun _ => hx1) Tryz.underlying100 rfl sz100) ?_
    refine S_alloc 12 12 rfl rfl rfl rfl z100 ?_
    intro b12
    refine S_store 12 rfl rfl rfl rfl rfl rfl sz100 rfl rfl ?_
    refine sgx ?_
    refine sr 1 ?_
    refine s1 (yF fa100_0) ?_
    refine s1 (yL 12 Tryz.underlying9) ?_
    refine s1 (y_call rfl rfl rfl cf107 (fun _ w1 hM => IndexStr_any _ _ _ out x.k w1 (owned_T (enc := strE) hM hp2 (i := 10) rfl) (by omega))) ?_
    refine sr 1 ?_
    refine sgo ?_
    refine T_cond rfl ?_ ?_ <;> intro h25
    · skip
      have h25 : ¬ x.k ∈ out := by simpa using h25
      refine T_region ?_
      refine sr 1 ?_
      refine s1 (yF fa100_0) ?_
      refine s1 (yL 12 Tryz.underlying9) ?_
      refine S_buildSlice 29 29 rfl rfl rfl rfl rfl Tryz.underlying49 inf9 rfl (by decide) (by decide) rfl rfl (by decide) rfl (_) rfl ?_
      intro b29
      obtain ⟨i30, hi30, hz30, hs30, hy30⟩ := info_parts inf9
      refine S_append 30 10 29 rfl rfl rfl rfl rfl rfl rfl rfl Tryz.underlying49 hi30 hz30 hs30 hy30 rfl (by decide) (by decide) rfl ?_ ?_ (q + 1) ((out ++ [x.k]).flatMap strE) ?_ ?_ ?_
      · (simp only [maxLen]; omega)
      · omega
      · rfl
      · simp [List.flatMap_append, strE]; rfl
      intro A30 c30
      refine sr 1 ?_
      refine sgr ?_
      refine s1 (y_bin rfl rfl rfl (fun hg => b_add (by omega))) ?_
      refine sr 1 ?_
      refine S_nil (nK5 (kf := [(10, 10), (12, 12), (17, 31)]) (kl := [(10, 10), (12, 12), (17, 31)]) (i + 1) (q + 1) A30 c30 (out ++ [x.k]) ?_ ?_ ?_ ?_)
      · omega
      · exact ⟨by omega, by simp [hp2], by omega, by rw [kindsU_snoc hx1, ← hp4, addU, if_neg h25]⟩
      · exact ⟨rfl, rfl, trivial⟩
      · exact ⟨rfl, trivial⟩
    have h25 : x.k ∈ out := by simpa using h25
    refine kgr ?_
    refine s1 (y_bin rfl rfl rfl (fun hg => b_add (by omega))) ?_
    refine sr 1 ?_
    refine S_nil (nK5 (kf := [(10, 10), (12, 12), (17, 31)]) (kl := [(10, 10), (12, 12), (17, 31)]) (i + 1) q A c out ?_ ?_ ?_ ?_)
    · omega
    · exact ⟨by omega, hp2, by omega, by rw [kindsU_snoc hx1, ← hp4, addU, if_pos h25]⟩
    · exact ⟨rfl, rfl, trivial⟩
    · exact ⟨rfl, trivial⟩
  try simp only [nrm] at h18
  refine egx ?_
  refine sr 2 ?_
  refine sgo ?_
  refine tr1 hRb fun w hM => ?_
  have hv : valsE e by_ nm = out := by rw [valsE, if_neg n2, if_neg n4, if_neg n5, if_neg n6, hp4, List.take_of_length_le (by have := hl.len; omega)]
  rw [hv, hp2]
  exact ⟨A, c, rfl, hM.sat 10 _ rfl, hM.below⟩
/-! ### the reference's -/
def addB (b : Bool) (s : List UInt8) (l : List (List UInt8)) : List (List UInt8) := if b = true then addU l s else l
abbrev boxS (b : Nat) (A : Option Addr) (c : Nat) (l : List (List UInt8)) : It := .blk b (IsBox [.slice A l.length c] 49)
abbrev rowS (A : Option Addr) (c : Nat) (l : List (List UInt8)) : It := .own 9 1 (.slice A l.length c) l.length (l.flatMap strE)
theorem vadd_any {w0 : World} {K : HL} (hK : FromK K) (b : Nat) (A : Option Addr) (c : Nat) (l : List (List UInt8)) (s : List UInt8) (is : Bool) (w : World) (hq : l.length ≤ 1000) (hM0 : Mem w0 ([(0, boxS b A c l), (1, rowS A c l)] ++ K) w) :
    Calls Tryz.prog 109 #[str s, .bool is, ptF b] w fun e w' => ∃ z : Option Addr × Nat, e = .returned (.tuple #[]) ∧ True ∧ Mem w0 ([(0, boxS b z.1 z.2 (addB is s l)), (1, rowS z.1 z.2 (addB is s l))] ++ K) w' := by
  refine enterM_args (args := [str s, .bool is, ptF b]) (F := _) hM0 Tryz.func109 rfl Tryz.ntmps109 rfl rfl ?_
  intro Rb hRb hRn
  refine tx ?_
  refine sr 2 ?_
  refine sg rfl (yL 0 Tryz.underlying49) ?_
  refine sg rfl (y_move rfl rfl) ?_
  refine sg rfl (y_call rfl rfl rfl cf107 (fun _ w1 hM => IndexStr_any _ _ _ l s w1 (owned_T (enc := strE) hM rfl (i := 1) rfl) (by omega))) ?_
  refine sg rfl (y_not rfl rfl) ?_
  refine s1 (y_and rfl rfl rfl) ?_
  refine sgo ?_
  refine T_cond rfl ?_ ?_ <;> intro h11
  · skip
    have h11 : is = true ∧ ¬ s ∈ l := by simpa using h11
    have hb : addB is s l = l ++ [s] := by rw [addB, if_pos h11.1, addU, if_neg h11.2]
    refine T_region ?_
    refine s1 (yL 0 Tryz.underlying49) ?_
    refine sr 1 ?_
    refine S_buildSlice 14 14 rfl rfl rfl rfl rfl Tryz.underlying49 inf9 rfl (by decide) (by decide) rfl rfl (by decide) rfl (_) rfl ?_
    intro b14
    obtain ⟨i15, hi15, hz15, hs15, hy15⟩ := info_parts inf9
    refine S_append 15 1 14 rfl rfl rfl rfl rfl rfl rfl rfl Tryz.underlying49 hi15 hz15 hs15 hy15 rfl (by decide) (by decide) rfl ?_ ?_ ((l ++ [s]).length) ((l ++ [s]).flatMap strE) ?_ ?_ ?_
    · (simp only [maxLen]; omega)
    · omega
    · rw [List.length_append]; rfl
    · simp [List.flatMap_append, strE]; rfl
    intro A15 c15
    refine S_store 0 rfl rfl rfl rfl rfl rfl sz49 rfl rfl ?_
    refine S_nil (fun a w hF hM => hRn a w (post0 rfl (fun w hM => ?_) a w hF hM))
    rw [hb]
    exact ⟨(A15, c15), rfl, trivial, hM.keep (ks := [(0, 999)]) (by repeat (first | exact kl_rest (by assumption) rfl | (apply kl_in; focus rfl))) _ ⟨rfl, rfl, trivial⟩⟩
  have hb : addB is s l = l := by
    unfold addB addU
    cases is
    · rfl
    · rw [if_pos rfl, if_pos (by simpa using h11)]
  refine T_skip (fun a w hF hM => hRn a w (post0 rfl (fun w hM => ?_) a w hF hM))
  rw [hb]
  exact ⟨(A, c), rfl, trivial, hM.keep (ks := [(0, 999)]) (by repeat (first | exact kl_rest (by assumption) rfl | (apply kl_in; focus rfl))) _ ⟨rfl, rfl, trivial⟩⟩
theorem valuesOf_any (e : Evt) (by_ : Int) (nm : List UInt8) (w : World) (he : e.Ok w) (hlv : 1 ≤ e.lv ∧ e.lv ≤ 5) (hfq : e.fa.q ≤ 10) :
    Calls Tryz.prog 72 #[e.val, .int .i64 by_, str nm] w fun en w' => ∃ A c, en = .returned (.slice A (valsE e by_ nm).length c) ∧ w'.ownsRow w.heap.size 9 1 (.slice A (valsE e by_ nm).length c) (valsE e by_ nm).length ((valsE e by_ nm).flatMap strE) ∧ Below w.heap.size w w' := by
  have hl := he.fa.ok.t
  refine enter_args (args := [.agg #[str e.id, .int .i64 e.at_, .int .i64 e.lv, .slice e.fa.A e.fa.q e.fa.c, .slice e.ta.A e.ta.q e.ta.c, .slice e.cr.A e.cr.q e.cr.c, str e.rel, str e.us, .int .i64 e.wt], .int .i64 by_, str nm]) (F := _) Tryz.func72 rfl Tryz.ntmps72 rfl rfl ?_
  intro Rb hRb hRn
  refine tx ?_
  refine S_box 3 3 rfl rfl rfl rfl rfl ?_
  intro b3
  refine S_nilSlice 6 (e := 9) (size := 1) ?_
  refine sr 1 ?_
  refine sgx ?_
  refine S_nilSlice 907 (e := 9) (size := 1) ?_
  refine S_alloc 7 7 rfl rfl rfl rfl z49 ?_
  intro b7
  refine sgx ?_
  refine s1 (y_makeFunc rfl rfl rfl rfl rfl) ?_
  refine sr 1 ?_
  refine sgs ?_
  refine tx ?_
  refine sr 1 ?_
  refine sgo ?_
  refine T_block ?_
  refine tx ?_
  refine sr 2 ?_
  refine sgo ?_
  refine T_cond rfl ?_ ?_ <;> intro h25
  · skip
    have hb : by_ = 2 := by simpa using h25
    refine T_perm [0, 2, 3, 4, 1, 5, 6, 7] [true, false, true, true, true, false, false, false] [0, 0, 0, 4, 12, 30, 62, 127] [(3, [3])] (by kernel_rfl) (by kernel_rfl) (by kernel_rfl) rfl (by kernel_rfl) ?_
    refine Rf_ 0 27 rfl rfl rfl rfl rfl _ trivial (Y.z (y_move rfl rfl) rfl) ?_
    refine Rf_ 2 29 rfl rfl rfl rfl rfl _ trivial (Y.z (yF fa31_2) rfl) ?_
    refine Rf_ 3 30 rfl rfl rfl rfl rfl _ ⟨rfl, trivial⟩ (Y.z (yL 3 Tryz.underlying3) rfl) ?_
    refine Rf_ 4 31 rfl rfl rfl rfl rfl _ trivial (Y.z (y_bin rfl rfl rfl (fun hg => b_subv (((e.lv - 1).toNat : Int)) (by omega) (by omega))) rfl) ?_
    refine R_chain 1 rfl rfl ?_
    refine S_callOwn 28 28 rfl rfl rfl rfl rfl rfl rfl cf110 (fun A c => .slice A (5) c) 9 1 (5) (levels.flatMap strE) (fun w hM => LevelWords_any w) ?_
    intro A28 c28
    refine R_next ⟨.inr ⟨rfl, trivial⟩, trivial⟩ ?_
    refine R_chain 5 rfl rfl ?_
    refine s1 (y_indexOwn 28 rfl rfl rfl rfl Tryz.underlying49 sz9 (fun _ => by omega)) ?_
    refine R_next ⟨.inl rfl, trivial⟩ ?_
    refine R_chain 6 rfl rfl ?_
    refine s1 (y_loadO1 28 (val := (fun l : List UInt8 => str l)) rfl rfl rfl rfl (fun _ => lv_at hlv) Tryz.underlying9 rfl) ?_
    refine R_next ⟨.inl rfl, trivial⟩ ?_
    refine R_chain 7 rfl rfl ?_
    refine S_callM 34 [(0, 7), (1, 907)] (X := Option Addr × Nat) rfl rfl rfl rfl rfl rfl rfl cf109 rfl (fun _ => .tuple #[]) (fun _ => True) (fun z => [(0, boxS b7 z.1 z.2 (addB (true) (lvW e) ([]))), (1, rowS z.1 z.2 (addB (true) (lvW e) ([])))]) (fun _ => rfl) (fun _ => rfl) (fun K1 hK1 w1 hM => vadd_any hK1 b7 _ _ ([]) (lvW e) (true) w1 (by first | exact hk | exact Nat.zero_le _) hM) ?_
    rintro ⟨zA, zc⟩ _
    refine R_next ⟨.inl rfl, trivial⟩ ?_
    refine R_go (fun _ _ h => h) ?_
    refine tx ?_
    refine s1 (yL 7 Tryz.underlying49) ?_
    refine sr 1 ?_
    refine sgo ?_
    refine tr1 hRb fun w hM => ?_
    have hv : valsE e by_ nm = addB true (lvW e) [] := by rw [valsE, if_pos hb]; rfl
    rw [hv]
    exact ⟨zA, zc, rfl, hM.sat 907 _ rfl, hM.below⟩
  have n2 : ¬ by_ = 2 := by simpa using h25
  refine tx ?_
  refine sr 2 ?_
  refine sgo ?_
  refine T_cond rfl ?_ ?_ <;> intro h35
  · skip
    have hb : by_ = 4 := by simpa using h35
    refine T_region ?_
    refine sr 1 ?_
    refine s1 (yA 3 rfl Tryz.underlying31 sz31) ?_
    refine sr 1 ?_
    refine s1 (y_call rfl rfl rfl cf111 (fun _ w1 hM => Tagged_any e _ w1 (he.below hM.below))) ?_
    refine sr 2 ?_
    refine S_callM 43 [(0, 7), (1, 907)] (X := Option Addr × Nat) rfl rfl rfl rfl rfl rfl rfl cf109 rfl (fun _ => .tuple #[]) (fun _ => True) (fun z => [(0, boxS b7 z.1 z.2 (addB ((tagV nm e.ta.l).2) ((tagV nm e.ta.l).1) ([]))), (1, rowS z.1 z.2 (addB ((tagV nm e.ta.l).2) ((tagV nm e.ta.l).1) ([])))]) (fun _ => rfl) (fun _ => rfl) (fun K1 hK1 w1 hM => vadd_any hK1 b7 _ _ ([]) ((tagV nm e.ta.l).1) ((tagV nm e.ta.l).2) w1 (by first | exact hk | exact Nat.zero_le _) hM) ?_
    rintro ⟨zA, zc⟩ _
    refine sgx ?_
    refine s1 (yL 7 Tryz.underlying49) ?_
    refine sr 1 ?_
    refine sgo ?_
    refine tr1 hRb fun w hM => ?_
    have hv : valsE e by_ nm = addB (tagV nm e.ta.l).2 (tagV nm e.ta.l).1 [] := by rw [valsE, if_neg n2, if_pos hb]; rfl
    rw [hv]
    exact ⟨zA, zc, rfl, hM.sat 907 _ rfl, hM.below⟩
  have n4 : ¬ by_ = 4 := by simpa using h35
  refine tx ?_
  refine sr 2 ?_
  refine sgo ?_
  refine T_cond rfl ?_ ?_ <;> intro h44
  · skip
    have hb : by_ = 5 := by simpa using h44
    refine T_region ?_
    refine sr 1 ?_
    refine s1 (yF fa31_6) ?_
    refine s1 (yL 3 Tryz.underlying9) ?_
    refine s1 (yF fa31_6) ?_
    refine s1 (yL 3 Tryz.underlying9) ?_
    refine s1 (y_bin rfl rfl rfl (fun _ => b_neqs)) ?_
    refine S_callM 52 [(0, 7), (1, 907)] (X := Option Addr × Nat) rfl rfl rfl rfl rfl rfl rfl cf109 rfl (fun _ => .tuple #[]) (fun _ => True) (fun z => [(0, boxS b7 z.1 z.2 (addB (!decide (e.rel = [])) (e.rel) ([]))), (1, rowS z.1 z.2 (addB (!decide (e.rel = [])) (e.rel) ([])))]) (fun _ => rfl) (fun _ => rfl) (fun K1 hK1 w1 hM => vadd_any hK1 b7 _ _ ([]) (e.rel) (!decide (e.rel = [])) w1 (by first | exact hk | exact Nat.zero_le _) hM) ?_
    rintro ⟨zA, zc⟩ _
    refine sgx ?_
    refine s1 (yL 7 Tryz.underlying49) ?_
    refine sr 1 ?_
    refine sgo ?_
    refine tr1 hRb fun w hM => ?_
    have hv : valsE e by_ nm = addB (!decide (e.rel = [])) e.rel [] := by
      rw [valsE, if_neg n2, if_neg n4, if_pos hb, addB]
      by_cases h : e.rel = []
      · rw [if_pos h, if_neg (by simp [h])]
      · rw [if_neg h, if_pos (by simp [h])]; rfl
    rw [hv]
    exact ⟨zA, zc, rfl, hM.sat 907 _ rfl, hM.below⟩
  have n5 : ¬ by_ = 5 := by simpa using h44
  refine tx ?_
  refine sr 2 ?_
  refine sgo ?_
  refine T_cond rfl ?_ ?_ <;> intro h53
  · skip
    have hb : by_ = 6 := by simpa using h53
    refine T_region ?_
    refine sr 1 ?_
    refine s1 (yF fa31_7) ?_
    refine s1 (yL 3 Tryz.underlying9) ?_
    refine s1 (yF fa31_7) ?_
    refine s1 (yL 3 Tryz.underlying9) ?_
    refine s1 (y_bin rfl rfl rfl (fun _ => b_neqs)) ?_
    refine S_callM 61 [(0, 7), (1, 907)] (X := Option Addr × Nat) rfl rfl rfl rfl rfl rfl rfl cf109 rfl (fun _ => .tuple #[]) (fun _ => True) (fun z => [(0, boxS b7 z.1 z.2 (addB (!decide (e.us = [])) (e.us) ([]))), (1, rowS z.1 z.2 (addB (!decide (e.us = [])) (e.us) ([])))]) (fun _ => rfl) (fun _ => rfl) (fun K1 hK1 w1 hM => vadd_any hK1 b7 _ _ ([]) (e.us) (!decide (e.us = [])) w1 (by first | exact hk | exact Nat.zero_le _) hM) ?_
    rintro ⟨zA, zc⟩ _
    refine sgx ?_
    refine s1 (yL 7 Tryz.underlying49) ?_
    refine sr 1 ?_
    refine sgo ?_
    refine tr1 hRb fun w hM => ?_
    have hv : valsE e by_ nm = addB (!decide (e.us = [])) e.us [] := by
      rw [valsE, if_neg n2, if_neg n4, if_neg n5, if_pos hb, addB]
      by_cases h : e.us = []
      · rw [if_pos h, if_neg (by simp [h])]
      · rw [if_neg h, if_pos (by simp [h])]; rfl
    rw [hv]
    exact ⟨zA, zc, rfl, hM.sat 907 _ rfl, hM.below⟩
  have n6 : ¬ by_ = 6 := by simpa using h53
  refine tx ?_
  refine s1 (yF fa31_3) ?_
  refine s1 (yL 3 Tryz.underlying27) ?_
  refine s1 (y_len_slice rfl rfl Tryz.underlying27) ?_
  refine sr 1 ?_
  refine sgo ?_
  refine T_block ?_
  refine lK3 (kf := [(10, 10), (16, 24)]) (kl := [(7, 7), (10, 10), (16, 24), (907, 907)]) (fun (i : Nat) (A : Option Addr) (c : Nat) => [(16, true, .int .i64 (i : Int))]) (fun (i : Nat) (A : Option Addr) (c : Nat) => [(7, boxS b7 A c (kindsU (e.fa.l.take i))), (907, rowS A c (kindsU (e.fa.l.take i)))]) (fun (i : Nat) (A : Option Addr) (c : Nat) => i ≤ e.fa.q) (fun (i : Nat) (A : Option Addr) (c : Nat) => e.fa.q - i) 0 none 0 ?_ ?_ ?_ ?_
  · omega
  · exact ⟨rfl, trivial⟩
  · exact ⟨rfl, rfl, trivial⟩
  rintro i A c hp1
  refine tx ?_
  refine sr 1 ?_
  refine sgs ?_
  refine T_cond rfl ?_ ?_ <;> intro h17
  · try simp only [nrm] at h17
    obtain ⟨x, hx1, hx2⟩ := hl.at (i := i) (by omega)
    have hk : (kindsU (e.fa.l.take i)).length ≤ 1000 := by
      have := (foldU (e.fa.l.take i) [] List.nodup_nil).2
      rw [List.length_take] at this
      unfold kindsU
      simp at this
      omega
    refine kgs ?_
    refine T_block ?_
    refine tx ?_
    refine s1 (y_indexAddr rfl rfl rfl Tryz.underlying27 sz100 (fun hg => hl.isSome (by omega)) (fun _ => by omega)) ?_
    refine s1 (y_loadT rfl rfl hl (fun _ => rfl) (fun _ => hx1) Tryz.underlying100 rfl sz100) ?_
    refine S_alloc 10 10 rfl rfl rfl rfl z100 ?_
    intro b10
    refine S_store 10 rfl rfl rfl rfl rfl rfl sz100 rfl rfl ?_
    refine sgr ?_
    refine sr 1 ?_
    refine s1 (yF fa100_0) ?_
    refine s1 (yL 10 Tryz.underlying9) ?_
    refine S_callM 23 [(0, 7), (1, 907)] (X := Option Addr × Nat) rfl rfl rfl rfl rfl rfl rfl cf109 rfl (fun _ => .tuple #[]) (fun _ => True) (fun z => [(0, boxS b7 z.1 z.2 (addB (true) (x.k) (kindsU (e.fa.l.take i)))), (1, rowS z.1 z.2 (addB (true) (x.k) (kindsU (e.fa.l.take i))))]) (fun _ => rfl) (fun _ => rfl) (fun K1 hK1 w1 hM => vadd_any hK1 b7 _ _ (kindsU (e.fa.l.take i)) (x.k) (true) w1 (by first | exact hk | exact Nat.zero_le _) hM) ?_
    rintro ⟨zA, zc⟩ _
    refine sgr ?_
    refine s1 (y_bin rfl rfl rfl (fun hg => b_add (by omega))) ?_
    refine sr 1 ?_
    refine S_nil (nK3 (kf := [(10, 10), (16, 24)]) (kl := [(7, 7), (10, 10), (16, 24), (907, 907)]) (i + 1) zA zc ?_ ?_ ?_ ?_)
    · omega
    · omega
    · exact ⟨rfl, trivial⟩
    · rw [kindsU_snoc hx1]; exact ⟨rfl, rfl, trivial⟩
  try simp only [nrm] at h17
  refine egx ?_
  refine s1 (yL 7 Tryz.underlying49) ?_
  refine sr 1 ?_
  refine sgo ?_
  refine tr1 hRb fun w hM => ?_
  have hv : valsE e by_ nm = kindsU (e.fa.l.take i) := by rw [valsE, if_neg n2, if_neg n4, if_neg n5, if_neg n6, List.take_of_length_le (by have := hl.len; omega)]
  rw [hv]
  exact ⟨A, c, rfl, hM.sat 907 _ rfl, hM.below⟩
end Go.Proofs.YtekbcbjimajnfaaGreatDoor
end
section
namespace Go.Proofs.YtekbcbjimajnfaaGreatDoor
set_option linter.unusedSimpArgs false
set_option linter.unusedVariables false
set_option maxRecDepth 20000
open Go.RowKit Go.Eng
/-! ### facets -/
structure Fac where
  v : List UInt8
  n : Int
  s : Int
def Fac.enc (f : Fac) : List Value := [str f.v, .int .i64 f.n, .int .i64 f.s]
def Fac.val (f : Fac) : Value := .agg f.enc.toArray
instance : Inhabited Fac := ⟨⟨[], 0, 0⟩⟩
def addF : List Fac → List UInt8 → Int → List Fac
  | [], v, w => [⟨v, 1, w⟩]
  | a :: r, v, w => if v = a.v then ⟨v, a.n + 1, a.s + w⟩ :: r else a :: addF r v w
def getF : List Fac → List UInt8 → Option Fac
  | [], _ => none
  | a :: r, v => if v = a.v then some a else getF r v
abbrev keysF (l : List Fac) : List (List UInt8) := l.map (·.v)
abbrev FP := List UInt8 × Int
def facL (ps : List FP) : List Fac := ps.foldl (fun l p => addF l p.1 p.2) []
theorem getF_add (l : List Fac) (v u : List UInt8) (w : Int) : getF (addF l v w) u = if u = v then some ⟨v, ((getF l v).map Fac.n).getD 0 + 1, ((getF l v).map Fac.s).getD 0 + w⟩ else getF l u := by
  induction l with
  | nil =>
    show (if u = v then some _ else none) = _
    split
    · show some (Fac.mk v 1 w) = some (Fac.mk v (0 + 1) (0 + w)); rw [Int.zero_add, Int.zero_add]
    · rfl
  | cons a r ih =>
    rw [addF]
    by_cases h : v = a.v
    · rw [if_pos h, getF, getF, getF, if_pos h]
      show (if u = v then _ else _) = _
      by_cases hu : u = v
      · rw [if_pos hu, if_pos hu]; rfl
      · rw [if_neg hu, if_neg hu, if_neg (by rw [← h]; exact hu)]
    · rw [if_neg h]
      show (if u = a.v then some a else getF (addF r v w) u) = if u = v then some ⟨v, ((if v = a.v then some a else getF r v).map Fac.n).getD 0 + 1, ((if v = a.v then some a else getF r v).map Fac.s).getD 0 + w⟩ else (if u = a.v then some a else getF r u)
      rw [if_neg h, ih]
      by_cases hu : u = v
      · rw [if_neg (show ¬ u = a.v by rw [hu]; exact h), if_pos hu, if_pos hu]
      · rw [if_neg hu, if_neg hu]
theorem keysF_add (l : List Fac) (v : List UInt8) (w : Int) : keysF (addF l v w) = if v ∈ keysF l then keysF l else keysF l ++ [v] := by
  induction l with
  | nil => rfl
  | cons a r ih =>
    rw [addF]
    by_cases h : v = a.v
    · rw [if_pos h, if_pos (show v ∈ keysF (a :: r) by rw [h]; exact List.mem_cons_self ..), h]; rfl
    · rw [if_neg h]
      show a.v :: keysF (addF r v w) = _
      rw [ih]
      by_cases h2 : v ∈ keysF r
      · rw [if_pos h2, if_pos (show v ∈ keysF (a :: r) from List.mem_cons_of_mem _ h2)]; rfl
      · rw [if_neg h2, if_neg (show ¬ v ∈ keysF (a :: r) from fun h3 => (List.mem_cons.1 h3).elim h h2)]; rfl
theorem addF_nodup {l : List Fac} (v : List UInt8) (w : Int) (h : (keysF l).Nodup) : (keysF (addF l v w)).Nodup := by
  rw [keysF_add]
  split
  · exact h
  · rename_i hs
    rw [List.nodup_append]
    exact ⟨h, by simp, fun a ha b hb => by rw [List.mem_singleton.1 hb]; rintro rfl; exact hs ha⟩
theorem facL_snoc (ps : List FP) (p : FP) : facL (ps ++ [p]) = addF (facL ps) p.1 p.2 := by rw [facL, List.foldl_append]; rfl
theorem fold_nodup (ps : List FP) : ∀ l : List Fac, (keysF l).Nodup → (keysF (ps.foldl (fun l p => addF l p.1 p.2) l)).Nodup := by
  induction ps with
  | nil => exact fun _ h => h
  | cons p r ih => exact fun l h => ih _ (addF_nodup _ _ h)
theorem facL_nodup (ps : List FP) : (keysF (facL ps)).Nodup := fold_nodup ps [] List.nodup_nil
theorem getF_mem {l : List Fac} (h : (keysF l).Nodup) (f : Fac) : f ∈ l ↔ getF l f.v = some f := by
  induction l with
  | nil => exact ⟨(fun h => by cases h), (fun h => by cases h)⟩
  | cons a r ih =>
    have h : a.v ∉ keysF r ∧ (keysF r).Nodup := List.nodup_cons.1 h
    rw [getF, List.mem_cons]
    by_cases hv : f.v = a.v
    · rw [if_pos hv]
      constructor
      · rintro (rfl | hf)
        · rfl
        · exact absurd (show a.v ∈ keysF r from List.mem_map.2 ⟨f, hf, hv⟩) h.1
      · intro he; injection he with he; exact .inl he.symm
    · rw [if_neg hv, ← ih h.2]
      exact ⟨fun hh => hh.elim (fun e => absurd (by rw [e]) hv) id, .inr⟩
/-- what a list of facets says of a value -/
def stF (g : List UInt8 → Option Fac) (p : FP) : List UInt8 → Option Fac := fun u => if u = p.1 then some ⟨p.1, ((g p.1).map Fac.n).getD 0 + 1, ((g p.1).map Fac.s).getD 0 + p.2⟩ else g u
theorem getF_fold (ps : List FP) : ∀ l : List Fac, getF (ps.foldl (fun l p => addF l p.1 p.2) l) = ps.foldl stF (getF l) := by
  induction ps with
  | nil => exact fun _ => rfl
  | cons p r ih =>
    intro l
    rw [List.foldl_cons, ih, List.foldl_cons]
    congr 1
    funext u
    exact getF_add l p.1 u p.2
theorem stF_comm (g : List UInt8 → Option Fac) (p q : FP) : stF (stF g p) q = stF (stF g q) p := by
  obtain ⟨a, b⟩ := p
  obtain ⟨a', c⟩ := q
  funext u
  unfold stF
  by_cases h : a = a'
  · subst h
    by_cases hu : u = a
    · simp [hu]; omega
    · simp [hu]
  · by_cases h1 : u = a
    · subst h1; simp [h]
    · by_cases h2 : u = a'
      · subst h2; simp [h, h1, Ne.symm h]
      · simp [h1, h2]
theorem facL_perm {ps qs : List FP} (h : ps.Perm qs) : (facL ps).Perm (facL qs) := by
  have hg : getF (facL ps) = getF (facL qs) := by
    rw [facL, facL, getF_fold, getF_fold]
    exact h.foldl_eq' (fun a _ b _ g => stF_comm g a b) _
  have nd : ∀ qs, (facL qs).Nodup := fun qs => (List.pairwise_map.1 (facL_nodup qs)).imp fun h e => h (by rw [e])
  refine (List.perm_ext_iff_of_nodup (nd ps) (nd qs)).2 fun f => ?_
  rw [getF_mem (facL_nodup ps), getF_mem (facL_nodup qs), hg]
/-- of events -/
def prsE (L : List Evt) (by_ : Int) (nm : List UInt8) : List FP := L.flatMap fun e => (valsE e by_ nm).map fun v => (v, e.wt)
theorem prsE_perm {L M : List Evt} (h : L.Perm M) (by_ : Int) (nm : List UInt8) : (prsE L by_ nm).Perm (prsE M by_ nm) := h.flatMap_right _
theorem prsE_can {L M : List Evt} (h : EqC L M) (by_ : Int) (nm : List UInt8) : prsE L by_ nm = prsE M by_ nm := by
  have e : ∀ L : List Evt, prsE L by_ nm = (L.map can).flatMap fun e => (valsE e by_ nm).map fun v => (v, e.wt) := fun L => by
    rw [prsE, List.flatMap_map]
    congr 1
    funext x
    rw [valsE_can]; rfl
  rw [e, e, h]
theorem cmp3_flip {α : Type} {f : α → α → Int} (h : Cmp3 f) : Cmp3 fun a b => f b a := ⟨fun a b => h.anti b a, fun a b c h1 h2 => h.tr c b a h2 h1⟩
/-- order of facets: greater weights first, then by value -/
def cmpF (a b : Fac) : Int := if cmpJ b.s a.s ≠ 0 then cmpJ b.s a.s else cmpB a.v b.v
theorem cmp3_F : Cmp3 cmpF := cmp3_lex ((cmp3_flip cmp3_J).comap Fac.s) (cmp3_B.comap Fac.v)
def facS (ps : List FP) : List Fac := pdqL cmpF (facL ps)
theorem pdqF_perm {u v : List Fac} (h : u.Perm v) (hn : (keysF v).Nodup) : pdqL cmpF u = pdqL cmpF v := by
  have f1 := pdqL_facts (swo3 cmp3_F) u
  have f2 := pdqL_facts (swo3 cmp3_F) v
  refine sorted_uniq (f1.1.trans (h.trans f2.1.symm)) (f1.2.imp fun h => ltOf_f h cmp3_F) (f2.2.imp fun h => ltOf_f h cmp3_F) fun a ha b hb h1 h2 => ?_
  have h0 : cmpF a b = 0 := by have := cmp3_F.anti a b; omega
  have hv : a.v = b.v := by
    unfold cmpF at h0
    split at h0
    · exact absurd h0 ‹_›
    · exact cmpB_zero h0
  have ga := (getF_mem hn a).1 (h.subset (f1.1.subset ha))
  have gb := (getF_mem hn b).1 (h.subset (f1.1.subset hb))
  rw [hv, gb] at ga
  injection ga with ga
  exact ga.symm
theorem facS_perm {ps qs : List FP} (h : ps.Perm qs) : facS ps = facS qs := pdqF_perm (facL_perm h) (facL_nodup qs)
end Go.Proofs.YtekbcbjimajnfaaGreatDoor
end
section
namespace Go.Proofs.YtekbcbjimajnfaaGreatDoor
set_option linter.unusedSimpArgs false
set_option linter.unusedVariables false
set_option maxRecDepth 20000
open Go.RowKit Go.Eng
structure Bn where
  a : Int
  n : Int
  s : Int
def Bn.enc (b : Bn) : List Value := [.int .i64 b.a, .int .i64 b.n, .int .i64 b.s]
instance : Inhabited Bn := ⟨⟨0, 0, 0⟩⟩
/-- events from a moment on, below another one -/
def inW (lo hi : Int) (e : Evt) : Bool := decide (lo ≤ e.at_) && decide (e.at_ < hi)
def nW (L : List Evt) (lo hi : Int) : Int := ((L.filter (inW lo hi)).length : Nat)
def sW (L : List Evt) (lo hi : Int) : Int := ((L.filter (inW lo hi)).map (·.wt)).sum
theorem nW_perm {L M : List Evt} (h : L.Perm M) (lo hi : Int) : nW L lo hi = nW M lo hi := by rw [nW, nW, (h.filter _).length_eq]
theorem sum_perm {l m : List Int} (h : l.Perm m) : l.sum = m.sum := by
  induction h with
  | nil => rfl
  | cons a _ ih => rw [List.sum_cons, List.sum_cons, ih]
  | swap a b l => simp only [List.sum_cons]; omega
  | trans _ _ h1 h2 => exact h1.trans h2
theorem sW_perm {L M : List Evt} (h : L.Perm M) (lo hi : Int) : sW L lo hi = sW M lo hi := by rw [sW, sW, sum_perm ((h.filter _).map _)]
theorem nW_can {L M : List Evt} (h : EqC L M) (lo hi : Int) : nW L lo hi = nW M lo hi := by
  rw [nW, nW, (h.filt (inW lo hi) fun _ => rfl).len]
theorem sW_can {L M : List Evt} (h : EqC L M) (lo hi : Int) : sW L lo hi = sW M lo hi := by
  have h1 := congrArg (List.map (·.wt)) (h.filt (inW lo hi) fun _ => rfl)
  rw [List.map_map, List.map_map] at h1
  rw [sW, sW]
  exact congrArg List.sum h1
theorem nW_snoc (L : List Evt) (e : Evt) (lo hi : Int) : nW (L ++ [e]) lo hi = nW L lo hi + if inW lo hi e = true then 1 else 0 := by
  rw [nW, nW, List.filter_append, List.length_append, List.filter_cons]
  split <;> simp
theorem sW_snoc (L : List Evt) (e : Evt) (lo hi : Int) : sW (L ++ [e]) lo hi = sW L lo hi + if inW lo hi e = true then e.wt else 0 := by
  rw [sW, sW, List.filter_append, List.map_append, List.sum_append, List.filter_cons]
  split <;> simp
theorem nW_le (L : List Evt) (lo hi : Int) : 0 ≤ nW L lo hi ∧ nW L lo hi ≤ (L.length : Nat) := by
  have := List.length_filter_le (inW lo hi) L
  unfold nW; omega
theorem sum_le {l : List Int} (h : ∀ x ∈ l, 0 ≤ x ∧ x ≤ 1000000) : 0 ≤ l.sum ∧ l.sum ≤ 1000000 * (l.length : Nat) := by
  induction l with
  | nil => exact ⟨Int.le_refl _, Int.le_refl _⟩
  | cons a r ih =>
    have h1 := h a (List.mem_cons_self ..)
    have h2 := ih fun x hx => h x (List.mem_cons_of_mem _ hx)
    rw [List.sum_cons, List.length_cons]; omega
theorem sW_le {L : List Evt} (h : ∀ e ∈ L, 1 ≤ e.wt ∧ e.wt ≤ 1000000) (lo hi : Int) : 0 ≤ sW L lo hi ∧ sW L lo hi ≤ 1000000 * (L.length : Nat) := by
  have h1 : ∀ x ∈ ((L.filter (inW lo hi)).map (·.wt)), 0 ≤ x ∧ x ≤ 1000000 := fun x hx => by
    obtain ⟨e, he, rfl⟩ := List.mem_map.1 hx
    have := h e (List.mem_filter.1 he).1
    omega
  have h2 := sum_le h1
  have := List.length_filter_le (inW lo hi) L
  rw [List.length_map] at h2
  unfold sW; omega
/-- the bins -/
def binA (L : List Evt) (from_ step : Int) (i : Nat) : Bn := ⟨from_ + step * i, nW L (from_ + step * i) (from_ + step * i + step), sW L (from_ + step * i) (from_ + step * i + step)⟩
def binsL (L : List Evt) (from_ step : Int) (many : Nat) : List Bn := (List.range many).map (binA L from_ step)
theorem binsL_len (L : List Evt) (from_ step : Int) (many : Nat) : (binsL L from_ step many).length = many := by simp [binsL]
theorem binsL_at {L : List Evt} {from_ step : Int} {many i : Nat} (h : i < many) : (binsL L from_ step many)[i]? = some (binA L from_ step i) := by
  rw [binsL, List.getElem?_map, List.getElem?_range h]; rfl
theorem binsL_next (L : List Evt) (from_ step : Int) (i : Nat) : binsL L from_ step (i + 1) = binsL L from_ step i ++ [binA L from_ step i] := by
  rw [binsL, List.range_succ, List.map_append]; rfl
theorem binsL_perm {L M : List Evt} (h : L.Perm M) (from_ step : Int) (many : Nat) : binsL L from_ step many = binsL M from_ step many := by
  unfold binsL binA; congr 1; funext i; rw [nW_perm h, sW_perm h]
theorem binsL_can {L M : List Evt} (h : EqC L M) (from_ step : Int) (many : Nat) : binsL L from_ step many = binsL M from_ step many := by
  unfold binsL binA; congr 1; funext i; rw [nW_can h, sW_can h]
/-- the bin of a moment -/
theorem bin_of {from_ step t : Int} {k : Nat} (hs : 1 ≤ step) (h : from_ ≤ t) : inW (from_ + step * k) (from_ + step * k + step) ⟨[], t, 0, ⟨none, 0, 0, []⟩, ⟨none, 0, 0, []⟩, ⟨none, 0, 0, []⟩, [], [], 0⟩ = decide ((t - from_) / step = k) := by
  rw [inW, Bool.eq_iff_iff]
  simp only [Bool.and_eq_true, decide_eq_true_eq]
  constructor
  · rintro ⟨h1, h2⟩
    have : (t - from_) / step = k := by
      rw [Int.ediv_eq_iff_of_pos (by omega)]
      constructor
      · rw [Int.mul_comm]; omega
      · rw [Int.mul_comm (k : Int)]; omega
    exact this
  · intro h1
    rw [Int.ediv_eq_iff_of_pos (by omega)] at h1
    rw [Int.mul_comm (k : Int)] at h1
    omega
theorem bins_out {L : List Evt} {e : Evt} {from_ step : Int} {many : Nat} (hs : 1 ≤ step) (h : ¬ (from_ ≤ e.at_ ∧ (e.at_ - from_) / step < many)) : binsL (L ++ [e]) from_ step many = binsL L from_ step many := by
  refine List.map_congr_left fun i hi => ?_
  have hi := List.mem_range.1 hi
  have h0 : inW (from_ + step * i) (from_ + step * i + step) e = false := by
    have hm : 0 ≤ step * (i : Int) := Int.mul_nonneg (by omega) (by omega)
    by_cases hf : from_ ≤ e.at_
    · have := bin_of (k := i) hs hf
      rw [show inW (from_ + step * i) (from_ + step * i + step) e = _ from this, decide_eq_false_iff_not]
      omega
    · rw [inW, decide_eq_false (by omega)]; rfl
  unfold binA
  rw [nW_snoc, sW_snoc, if_neg (by rw [h0]; exact Bool.false_ne_true), if_neg (by rw [h0]; exact Bool.false_ne_true), Int.add_zero, Int.add_zero]
theorem bins_in {L : List Evt} {e : Evt} {from_ step : Int} {many n : Nat} (hs : 1 ≤ step) (h : from_ ≤ e.at_) (hn : (e.at_ - from_) / step = n) (hm : n < many) : binsL (L ++ [e]) from_ step many = (binsL L from_ step many).set n ⟨(binA L from_ step n).a, (binA L from_ step n).n + 1, (binA L from_ step n).s + e.wt⟩ := by
  refine List.ext_getElem? fun i => ?_
  by_cases hi : i < many
  · rw [binsL_at hi, List.getElem?_set, binsL_len, binsL_at hi]
    have hb := bin_of (k := i) hs h
    have hb : inW (from_ + step * i) (from_ + step * i + step) e = _ := hb
    rw [hn] at hb
    unfold binA
    rw [nW_snoc, sW_snoc, hb]
    by_cases h1 : n = i
    · subst h1
      rw [if_pos rfl, if_pos hm, decide_eq_true rfl, if_pos rfl, if_pos rfl]
    · rw [if_neg h1, decide_eq_false (by omega), if_neg Bool.false_ne_true, if_neg Bool.false_ne_true, Int.add_zero, Int.add_zero]
  · rw [List.getElem?_eq_none (by rw [binsL_len]; omega), List.getElem?_eq_none (by rw [List.length_set, binsL_len]; omega)]
/-- what two weights say of a trend -/
def trendG (now before : Int) : Int := if now = 0 ∧ before = 0 then 0 else if before = 0 then 10000 else min (100 * now / before - 100) 10000
theorem tdiv_in (a b : Int) (h : -4000000000 ≤ a ∧ a ≤ 4000000000) : IntKind.i64.wrap (a.tdiv b) = a.tdiv b := by
  have := Int.natAbs_tdiv_le_natAbs a b
  exact IntWalk.i64_in _ (by omega)
end Go.Proofs.YtekbcbjimajnfaaGreatDoor
end
section
namespace Go.Proofs.YtekbcbjimajnfaaGreatDoor
set_option linter.unusedSimpArgs false
set_option linter.unusedVariables false
set_option maxRecDepth 20000
open Go.RowKit Go.Eng
def binNo (x : SC) (fr st mn : Int) : Int := if condNo x ≠ 0 then condNo x else if ((outI fr 0 3155759999 || outI st 1 31622400) || outI mn 1 400) = true then 2 else if 3155759999 < fr + st * (mn - 1) then 4 else 0
def binR (x : SC) (fr st mn : Int) (m : List Evt) : List Bn := if binNo x fr st mn = 0 then binsL (filI x m) fr st mn.toNat else []
abbrev ownBn (A : Option Addr) (c : Nat) (l : List Bn) : It := .own 71 3 (.slice A l.length c) l.length (l.flatMap Bn.enc)
theorem fnd_ok {w0 : World} {rs : List Row} {x : SC} {m : List Evt} {z : FndR} (hix : IxOk w0 rs m) (hz : FndP x m z) : ∀ e ∈ z.l, evNo e = 0 := fun e he => (hix.ok e (List.mem_filter.1 (hz.1.subset he)).1).1
theorem bin_mul {st : Int} {i : Nat} (h1 : 1 ≤ st) (h2 : st ≤ 31622400) (h3 : i ≤ 400) : 0 ≤ st * (i : Int) ∧ st * (i : Int) ≤ 12648960000 := by
  have a := Int.mul_nonneg (show 0 ≤ st by omega) (show (0 : Int) ≤ i by omega)
  have b := Int.mul_le_mul h2 (show (i : Int) ≤ 400 by omega) (by omega) (by decide)
  omega
theorem binA_le {L : List Evt} (hl : L.length ≤ 2000) (h : ∀ e ∈ L, evNo e = 0) (fr st : Int) (n : Nat) : (0 ≤ (binA L fr st n).n ∧ (binA L fr st n).n ≤ 2000) ∧ (0 ≤ (binA L fr st n).s ∧ (binA L fr st n).s ≤ 2000000000) := by
  have h1 := nW_le L (fr + st * n) (fr + st * n + st)
  have h2 := sW_le (L := L) (fun e he => (evNo_lv (h e he)).2.1) (fr + st * n) (fr + st * n + st)
  exact ⟨⟨h1.1, Int.le_trans h1.2 (by omega)⟩, h2.1, Int.le_trans h2.2 (by omega)⟩
theorem take_ok {l : List Evt} {p : Evt → Prop} (h : ∀ e ∈ l, p e) (i : Nat) : ∀ e ∈ l.take i, p e := fun e he => h e (List.mem_of_mem_take he)
theorem take_snocI {l : List Evt} {i : Nat} {e : Evt} (h : l[i]? = some e) : l.take (i + 1) = l.take i ++ [e] := by rw [List.take_add_one, h]; rfl
theorem set_get {α : Type} {l : List α} {n : Nat} {a b : α} (h : l[n]? = some a) : (l.set n b)[n]? = some b := by
  rw [List.getElem?_set, if_pos rfl, if_pos (List.getElem?_eq_some_iff.1 h).1]
set_option maxHeartbeats 2000000 in
theorem Bins_any {w0 : World} {K : HL} (hK : FromK K) (b bm : Nat) (m : List Evt) (rs : List Row) (x : SC) (fr st mn : Int) (w : World) (hix : IxOk w0 rs m) (hok : x.Ok w0) (hmx : MLen w0) (hM0 : Mem w0 ([(901, ixBox b bm), (902, ixMap bm m), (950, .many rs)] ++ K) w) :
    Calls Tryz.prog 24 #[.pointer (some ⟨b, 0, none⟩), .agg #[.int .i64 x.op, .slice x.ad x.q x.c, .int .i64 x.lo, .int .i64 x.hi, str x.nm, str x.tx], .int .i64 fr, .int .i64 st, .int .i64 mn] w fun en w' => ∃ z : Option Addr × Nat, en = .returned (.tuple #[.slice z.1 (binR x fr st mn m).length z.2, .int .i64 (binNo x fr st mn)]) ∧ True ∧ Mem w0 ([(901, ixBox b bm), (902, ixMap bm m), (950, .many rs), (913, ownBn z.1 z.2 (binR x fr st mn m))] ++ K) w' := by
  have hle := hix.le
  refine enterM_args (args := [.pointer (some ⟨b, 0, none⟩), .agg #[.int .i64 x.op, .slice x.ad x.q x.c, .int .i64 x.lo, .int .i64 x.hi, str x.nm, str x.tx], .int .i64 fr, .int .i64 st, .int .i64 mn]) (F := _) hM0 Tryz.func24 rfl Tryz.ntmps24 rfl rfl ?_
  intro Rb hRb hRn
  refine tx ?_
  refine S_box 6 6 rfl rfl rfl rfl rfl ?_
  intro b6
  refine S_nilSlice 913 (e := 71) (size := 3) ?_
  refine S_nilSlice 10 (e := 71) (size := 3) ?_
  refine sr 2 ?_
  refine sgs ?_
  refine tx ?_
  refine s1 (yA 6 rfl Tryz.underlying36 sz36) ?_
  refine s1 (y_call rfl rfl rfl cf54 (fun _ w1 hM => CheckCond_any x w1 (hok.lift hM.below))) ?_
  refine sr 1 ?_
  refine sgx ?_
  refine sr 2 ?_
  refine sgo ?_
  refine T_cond rfl ?_ ?_ <;> intro h21
  · skip
    have h21 : ¬ condNo x = 0 := by simpa using h21
    refine tx ?_
    refine sr 1 ?_
    refine S_nilSlice 10 (e := 71) (size := 3) ?_
    refine sr 2 ?_
    refine sgo ?_
    refine tr2 hRb fun w hM => ?_
    have e1 : binNo x fr st mn = condNo x := by rw [binNo, if_pos h21]
    have e2 : binR x fr st mn m = [] := by rw [binR, if_neg (by rw [e1]; exact h21)]
    rw [e1, e2]
    exact ⟨(none, 0), rfl, trivial, hM.keep (ks := [(0, 999)]) (by repeat (first | exact kl_rest (by assumption) rfl | (apply kl_in; focus rfl))) _ ⟨rfl, rfl, rfl, rfl, trivial⟩⟩
  have h21 : condNo x = 0 := by simpa using h21
  refine kgs ?_
  refine tx ?_
  refine sr 1 ?_
  refine s1 (y_as (v' := .bool (outI fr 0 3155759999)) (by rw [inB_outI]) (y_call rfl rfl rfl cf55 (fun _ w _ => fout_any _ _ _ w))) ?_
  refine sr 1 ?_
  refine sg rfl (y_move rfl rfl) ?_
  refine sg rfl (y_as (v' := .bool (outI st 1 31622400)) (by rw [inB_outI]) (y_call rfl rfl rfl cf55 (fun _ w _ => fout_any _ _ _ w))) ?_
  refine s1 (y_or rfl rfl rfl) ?_
  refine sr 1 ?_
  refine sg rfl (y_move rfl rfl) ?_
  refine sg rfl (y_as (v' := .bool (outI mn 1 400)) (by rw [inB_outI]) (y_call rfl rfl rfl cf55 (fun _ w _ => fout_any _ _ _ w))) ?_
  refine s1 (y_or rfl rfl rfl) ?_
  refine sgo ?_
  refine T_cond rfl ?_ ?_ <;> intro h32
  · skip
    refine tx ?_
    refine S_nilSlice 10 (e := 71) (size := 3) ?_
    refine sr 2 ?_
    refine sgo ?_
    refine tr2 hRb fun w hM => ?_
    have e1 : binNo x fr st mn = 2 := by rw [binNo, if_neg (by simpa using h21), if_pos h32]
    have e2 : binR x fr st mn m = [] := by rw [binR, if_neg (by rw [e1]; decide)]
    rw [e1, e2]
    exact ⟨(none, 0), rfl, trivial, hM.keep (ks := [(0, 999)]) (by repeat (first | exact kl_rest (by assumption) rfl | (apply kl_in; focus rfl))) _ ⟨rfl, rfl, rfl, rfl, trivial⟩⟩
  obtain ⟨hf0, hf1, hs0, hs1, hm0, hm1⟩ : 0 ≤ fr ∧ fr ≤ 3155759999 ∧ 1 ≤ st ∧ st ≤ 31622400 ∧ 1 ≤ mn ∧ mn ≤ 400 := by
    simp only [outI, Bool.or_eq_false_iff, decide_eq_false_iff_not] at h32
    omega
  obtain ⟨k0, rfl⟩ : ∃ k : Nat, mn = k := ⟨mn.toNat, by omega⟩
  obtain ⟨pp, hpp, hp0, hp1⟩ : ∃ pp, st * ((k0 : Int) - 1) = pp ∧ 0 ≤ pp ∧ pp ≤ 12648960000 := by
    have := bin_mul (i := k0 - 1) hs0 hs1 (by omega)
    rw [show ((k0 - 1 : Nat) : Int) = (k0 : Int) - 1 by omega] at this
    exact ⟨_, rfl, this⟩
  refine kgs ?_
  refine tx ?_
  refine sr 3 ?_
  refine s1 (y_bin rfl rfl rfl (fun hg => b_sub (by omega))) ?_
  refine s1 (y_bin rfl rfl rfl (fun hg => b_mulv (pp) (by omega) (by omega))) ?_
  refine s1 (y_bin rfl rfl rfl (fun hg => b_add (by omega))) ?_
  refine sr 1 ?_
  refine sgo ?_
  refine T_cond rfl ?_ ?_ <;> intro h39
  · skip
    have h39 : 3155759999 < fr + pp := by simpa using h39
    refine tx ?_
    refine S_nilSlice 10 (e := 71) (size := 3) ?_
    refine sr 2 ?_
    refine sgo ?_
    refine tr2 hRb fun w hM => ?_
    have e1 : binNo x fr st k0 = 4 := by rw [binNo, if_neg (by simpa using h21), if_neg (by rw [h32]; exact Bool.false_ne_true), hpp, if_pos h39]
    have e2 : binR x fr st k0 m = [] := by rw [binR, if_neg (by rw [e1]; decide)]
    rw [e1, e2]
    exact ⟨(none, 0), rfl, trivial, hM.keep (ks := [(0, 999)]) (by repeat (first | exact kl_rest (by assumption) rfl | (apply kl_in; focus rfl))) _ ⟨rfl, rfl, rfl, rfl, trivial⟩⟩
  have h39 : ¬ 3155759999 < fr + pp := by simpa using h39
  have hno : binNo x fr st k0 = 0 := by rw [binNo, if_neg (by simpa using h21), if_neg (by rw [h32]; exact Bool.false_ne_true), hpp, if_neg h39]
  refine kgx ?_
  refine S_nilSlice 13 (e := 71) (size := 3) ?_
  refine sr 1 ?_
  refine sgs ?_
  refine tx ?_
  refine sr 2 ?_
  refine sgo ?_
  refine T_block ?_
  refine lK3 (kf := [(13, 14), (41, 53)]) (kl := [(13, 14), (41, 53), (913, 913)]) (fun (i : Nat) (A : Option Addr) (c : Nat) => [(41, true, .int .i64 (i : Int)), (13, true, .slice A i c)]) (fun (i : Nat) (A : Option Addr) (c : Nat) => [(913, .own 71 3 (.slice A i c) i ((binsL [] fr st i).flatMap Bn.enc))]) (fun (i : Nat) (A : Option Addr) (c : Nat) => i ≤ k0) (fun (i : Nat) (A : Option Addr) (c : Nat) => k0 - i) 0 none 0 ?_ ?_ ?_ ?_
  · omega
  · exact ⟨rfl, rfl, trivial⟩
  · exact ⟨rfl, trivial⟩
  rintro i A c hi1
  refine tx ?_
  refine sr 1 ?_
  refine sgs ?_
  refine T_cond rfl ?_ ?_ <;> intro h42
  · try simp only [nrm] at h42
    obtain ⟨hb1, hb2⟩ := bin_mul (i := i) hs0 hs1 (by omega)
    refine kgs ?_
    refine T_block ?_
    refine tx ?_
    refine sr 2 ?_
    refine sgr ?_
    refine sr 4 ?_
    refine s1 (y_bin rfl rfl rfl (fun hg => b_mulv (st * (i : Int)) (by omega) (by omega))) ?_
    refine s1 (y_bin rfl rfl rfl (fun hg => b_addv (fr + st * (i : Int)) (by omega) (by omega))) ?_
    refine s1 (y_build (zv := .agg #[.int .i64 0, .int .i64 0, .int .i64 0]) (pl := [(0, 1), (1, 1), (2, 1)]) (out := [_, .int .i64 0, .int .i64 0]) rfl rfl Tryz.underlying71 z71 (by kernel_rfl) rfl) ?_
    refine S_buildSlice 51 51 rfl rfl rfl rfl rfl Tryz.underlying64 inf71 rfl (by decide) (by decide) rfl rfl (by decide) rfl (_) rfl ?_
    intro b51
    obtain ⟨i52, hi52, hz52, hs52, hy52⟩ := info_parts inf71
    refine S_append 52 913 51 rfl rfl rfl rfl rfl rfl rfl rfl Tryz.underlying64 hi52 hz52 hs52 hy52 rfl (by decide) (by decide) rfl ?_ ?_ (i + 1) ((binsL [] fr st (i + 1)).flatMap Bn.enc) ?_ ?_ ?_
    · (simp only [maxLen]; omega)
    · omega
    · rfl
    · rw [binsL_next, List.flatMap_append]; rfl
    intro A52 c52
    refine sr 1 ?_
    refine sgr ?_
    refine s1 (y_bin rfl rfl rfl (fun hg => b_add (by omega))) ?_
    refine sr 1 ?_
    refine S_nil (nS3 (kf := [(13, 14), (41, 53)]) (kl := [(13, 14), (41, 53), (913, 913)]) (i + 1) A52 c52 ?_ ?_ ?_ ?_)
    · omega
    · omega
    · exact ⟨rfl, rfl, trivial⟩
    · exact ⟨rfl, trivial⟩
  try simp only [nrm] at h42
  have hik : k0 = i := by omega
  subst hik
  refine egs ?_
  refine tx ?_
  refine sr 1 ?_
  refine s1 (yA 6 rfl Tryz.underlying36 sz36) ?_
  refine S_callN 56 [(901, 901), (902, 902), (950, 950)] [(906, 906)] (X := FndR) rfl rfl rfl rfl rfl rfl rfl cf56 rfl (fun z => .slice z.A z.l.length z.c) (fun z => FndP x m z) (fun z => [(901, ixBox b bm), (902, ixMap bm m), (950, .many rs), (906, ownEv z.A z.c z.l)]) (fun _ => rfl) (fun _ => rfl) (fun K1 hK1 w1 hM => found_any hK1 b bm m rs x w1 hix hok (cond_ch h21) hmx hM) ?_
  rintro z hz
  have hzl := hz.len
  have hzo := fnd_ok hix hz
  refine s1 (y_len_slice rfl rfl Tryz.underlying25) ?_
  refine sr 1 ?_
  refine sgo ?_
  refine T_block ?_
  refine lK1 (kf := [(16, 17), (58, 95)]) (kl := [(16, 17), (58, 95), (913, 913)]) (fun (j : Nat) => [(58, true, .int .i64 (j : Int))]) (fun (j : Nat) => [(913, .own 71 3 (.slice A k0 c) k0 ((binsL (z.l.take j) fr st k0).flatMap Bn.enc))]) (fun (j : Nat) => j ≤ z.l.length) (fun (j : Nat) => z.l.length - j) 0 ?_ ?_ ?_ ?_
  · omega
  · exact ⟨rfl, trivial⟩
  · exact ⟨rfl, trivial⟩
  rintro j hj1
  refine tx ?_
  refine sr 1 ?_
  refine sgs ?_
  refine T_cond rfl ?_ ?_ <;> intro h59
  · try simp only [nrm] at h59
    obtain ⟨e, he⟩ : ∃ e, z.l[j]? = some e := ⟨_, List.getElem?_eq_getElem (by omega)⟩
    obtain ⟨_, hwt, hat, _⟩ := evNo_lv (hzo e (List.mem_of_getElem? he))
    have htk := take_snocI he
    refine kgs ?_
    refine T_block ?_
    refine tx ?_
    refine s1 (y_indexOwn 906 rfl rfl rfl rfl Tryz.underlying25 sz31 (fun _ => by omega)) ?_
    refine s1 (y_loadO 906 rfl rfl rfl rfl (fun _ => rfl) (fun _ => he) Tryz.underlying31 rfl sz31) ?_
    refine S_alloc 16 16 rfl rfl rfl rfl z31 ?_
    intro b16
    refine S_store 16 rfl rfl rfl rfl rfl rfl sz31 rfl rfl ?_
    refine sgx ?_
    refine s1 (yF fa31_1) ?_
    refine s1 (yL 16 Tryz.underlying3) ?_
    refine sr 1 ?_
    refine s1 (y_bin rfl rfl rfl (fun hg => b_sub (by omega))) ?_
    refine sr 1 ?_
    refine s1 (y_as (v' := .int .i64 ((e.at_ - fr).tdiv st)) (by rw [tdiv_in _ _ (by omega)]) (y_bin rfl rfl rfl (fun hg => b_quot (by omega)))) ?_
    refine sr 1 ?_
    refine sgx ?_
    refine s1 (yF fa31_1) ?_
    refine s1 (yL 16 Tryz.underlying3) ?_
    refine sr 3 ?_
    refine sg rfl (y_move rfl rfl) ?_
    refine sg rfl (y_move rfl rfl) ?_
    refine sg rfl (y_bin rfl rfl rfl (fun _ => b_lss)) ?_
    refine s1 (y_and rfl rfl rfl) ?_
    refine sgo ?_
    refine T_cond rfl ?_ ?_ <;> intro h76
    · skip
      simp only [Bool.and_eq_true, decide_eq_true_eq] at h76
      obtain ⟨hn0, hn1⟩ := h76
      obtain ⟨n, hn2⟩ : ∃ n : Nat, (e.at_ - fr).tdiv st = n := ⟨((e.at_ - fr).tdiv st).toNat, by have := Int.tdiv_nonneg (show 0 ≤ e.at_ - fr by omega) (show 0 ≤ st by omega); omega⟩
      have hn3 : (e.at_ - fr) / st = n := by rw [← hn2, Int.tdiv_eq_ediv_of_nonneg (by omega)]
      rw [hn2] at hn1
      have hn4 : n < k0 := by omega
      have hbt := binsL_at (L := z.l.take j) (from_ := fr) (step := st) hn4
      have hbn := bins_in (L := z.l.take j) hs0 hn0 hn3 hn4
      obtain ⟨⟨hB1, hB2⟩, hB3, hB4⟩ := binA_le (L := z.l.take j) (by rw [List.length_take]; omega) (take_ok hzo j) fr st n
      obtain ⟨B, hB⟩ : ∃ B, binA (z.l.take j) fr st n = B := ⟨_, rfl⟩
      rw [hB] at hbt hbn hB1 hB2 hB3 hB4
      rw [← htk] at hbn
      have hbt2 := set_get (b := (⟨B.a, B.n + 1, B.s⟩ : Bn)) hbt
      have hbl := binsL_len (z.l.take j) fr st k0
      refine tx ?_
      refine sr 1 ?_
      refine s1 (y_as (v' := .int .i64 (n : Int)) (by rw [hn2]) (y_move rfl rfl)) ?_
      refine s1 (y_indexOwn 913 rfl rfl rfl rfl Tryz.underlying64 sz71 (fun _ => by omega)) ?_
      refine s1 (y_fieldOwn 913 rfl rfl rfl (fun _ => by omega) fa71_1) ?_
      refine s1 (y_load_cellOwn 913 rfl rfl rfl (fun _ => by omega) (fun _ => flat_at (enc := Bn.enc) (size := 3) (fun _ => rfl) hbt 1 (.int .i64 B.n) rfl) Tryz.underlying3 rfl) ?_
      refine s1 (y_bin rfl rfl rfl (fun hg => b_add (by omega))) ?_
      refine s1 (y_indexOwn 913 rfl rfl rfl rfl Tryz.underlying64 sz71 (fun _ => by omega)) ?_
      refine s1 (y_fieldOwn 913 rfl rfl rfl (fun _ => by omega) fa71_1) ?_
      refine S_storeOwn 913 rfl rfl rfl rfl rfl rfl sz3 rfl rfl ?_ (xs' := ((binsL (z.l.take j) fr st k0).set n ⟨B.a, B.n + 1, B.s⟩).flatMap Bn.enc) ?_ ?_
      · (rw [flat_lenN (enc := Bn.enc) (size := 3) (fun _ => rfl), hbl]; omega)
      · exact flat_set (enc := Bn.enc) (size := 3) (off := 1) (fun _ => rfl) hbt (by decide) rfl
      refine sgo ?_
      refine T_drawsTail 10 (by kernel_rfl) (by kernel_rfl) ?_
      refine d1 (y_move rfl rfl) ?_
      refine d1 (y_as (v' := .int .i64 (n : Int)) (by rw [hn2]) (y_move rfl rfl)) ?_
      refine d1 (y_indexOwn 913 rfl rfl rfl rfl Tryz.underlying64 sz71 (fun _ => by omega)) ?_
      refine d1 (y_fieldOwn 913 rfl rfl rfl (fun _ => by omega) fa71_2) ?_
      refine d1 (y_load_cellOwn 913 rfl rfl rfl (fun _ => by omega) (fun _ => flat_at (enc := Bn.enc) (size := 3) (fun _ => rfl) hbt2 2 (.int .i64 B.s) rfl) Tryz.underlying3 rfl) ?_
      refine d1 (yF fa31_8) ?_
      refine d1 (yL 16 Tryz.underlying3) ?_
      refine d1 (y_bin rfl rfl rfl (fun hg => b_add (by omega))) ?_
      refine d1 (y_indexOwn 913 rfl rfl rfl rfl Tryz.underlying64 sz71 (fun _ => by omega)) ?_
      refine d1 (y_fieldOwn 913 rfl rfl rfl (fun _ => by omega) fa71_2) ?_
      refine D_tail ?_
      refine S_storeOwn 913 rfl rfl rfl rfl rfl rfl sz3 rfl rfl ?_ (xs' := (binsL (z.l.take (j + 1)) fr st k0).flatMap Bn.enc) ?_ ?_
      · (rw [flat_lenN (enc := Bn.enc) (size := 3) (fun _ => rfl), List.length_set, hbl]; omega)
      · rw [hbn, ← List.set_set (b := (⟨B.a, B.n + 1, B.s + e.wt⟩ : Bn)) (a := (⟨B.a, B.n + 1, B.s⟩ : Bn))]; exact flat_set (enc := Bn.enc) (size := 3) (off := 2) (fun _ => rfl) hbt2 (by decide) rfl
      refine sgr ?_
      refine s1 (y_bin rfl rfl rfl (fun hg => b_add (by omega))) ?_
      refine sr 1 ?_
      refine S_nil (nS1 (kf := [(16, 17), (58, 95)]) (kl := [(16, 17), (58, 95), (913, 913)]) (j + 1) ?_ ?_ ?_ ?_)
      · omega
      · omega
      · exact ⟨rfl, trivial⟩
      · exact ⟨rfl, trivial⟩
    have hbo := bins_out (L := z.l.take j) (e := e) (from_ := fr) (step := st) (many := k0) hs0 (fun hh => by
      obtain ⟨hh1, hh2⟩ := hh
      rw [← Int.tdiv_eq_ediv_of_nonneg (by omega)] at hh2
      simp only [Bool.and_eq_false_iff, decide_eq_false_iff_not] at h76
      omega)
    rw [← htk] at hbo
    refine kgr ?_
    refine s1 (y_bin rfl rfl rfl (fun hg => b_add (by omega))) ?_
    refine sr 1 ?_
    refine S_nil (nS1 (kf := [(16, 17), (58, 95)]) (kl := [(16, 17), (58, 95), (913, 913)]) (j + 1) ?_ ?_ ?_ ?_)
    · omega
    · omega
    · exact ⟨rfl, trivial⟩
    · exact ⟨by rw [hbo]; rfl, trivial⟩
  try simp only [nrm] at h59
  refine egx ?_
  refine sr 3 ?_
  refine sgo ?_
  refine tr2 hRb fun w hM => ?_
  have e2 : binR x fr st k0 m = binsL (z.l.take j) fr st k0 := by rw [binR, if_pos hno, List.take_of_length_le (by omega), ← binsL_perm hz.1]; rfl
  rw [hno, e2]
  refine ⟨(A, c), by rw [binsL_len], trivial, ?_⟩
  have e9 : ownBn A c (binsL (z.l.take j) fr st k0) = .own 71 3 (.slice A k0 c) k0 ((binsL (z.l.take j) fr st k0).flatMap Bn.enc) := by unfold ownBn; rw [binsL_len]
  show Mem w0 ([_, _, _, (913, ownBn A c (binsL (z.l.take j) fr st k0))] ++ K) _
  rw [e9]
  exact hM.keep (ks := [(0, 999)]) (by repeat (first | exact kl_rest (by assumption) rfl | (apply kl_in; focus rfl))) _ ⟨rfl, rfl, rfl, rfl, trivial⟩
theorem inB_inW (e : Evt) (lo hi : Int) : inB e.at_ lo (hi - 1) = inW lo hi e := by
  unfold inB inW
  rw [Bool.eq_iff_iff]
  simp only [Bool.not_eq_true', Bool.or_eq_false_iff, decide_eq_false_iff_not, Bool.and_eq_true, decide_eq_true_eq]
  omega
theorem sW_2000 {L : List Evt} (hl : L.length ≤ 2000) (h : ∀ e ∈ L, evNo e = 0) (lo hi : Int) : 0 ≤ sW L lo hi ∧ sW L lo hi ≤ 2000000000 := by
  have h2 := sW_le (L := L) (fun e he => (evNo_lv (h e he)).2.1) lo hi
  omega
def trnNo (x : SC) (at_ lg : Int) : Int := if condNo x ≠ 0 then condNo x else if (outI at_ 0 3155759999 || outI lg 1 31622400) = true then 2 else 0
def trnU (x : SC) (at_ lg : Int) (m : List Evt) : Int := if trnNo x at_ lg = 0 then sW (filI x m) (at_ - lg) at_ else 0
def trnV (x : SC) (at_ lg : Int) (m : List Evt) : Int := if trnNo x at_ lg = 0 then sW (filI x m) (at_ - 2 * lg) (at_ - lg) else 0
def trnG (x : SC) (at_ lg : Int) (m : List Evt) : Int := if trnNo x at_ lg = 0 then trendG (sW (filI x m) (at_ - lg) at_) (sW (filI x m) (at_ - 2 * lg) (at_ - lg)) else 0
theorem Trend_any {w0 : World} {K : HL} (hK : FromK K) (b bm : Nat) (m : List Evt) (rs : List Row) (x : SC) (at_ lg : Int) (w : World) (hix : IxOk w0 rs m) (hok : x.Ok w0) (hmx : MLen w0) (hM0 : Mem w0 ([(901, ixBox b bm), (902, ixMap bm m), (950, .many rs)] ++ K) w) :
    Calls Tryz.prog 28 #[.pointer (some ⟨b, 0, none⟩), .agg #[.int .i64 x.op, .slice x.ad x.q x.c, .int .i64 x.lo, .int .i64 x.hi, str x.nm, str x.tx], .int .i64 at_, .int .i64 lg] w fun en w' => ∃ _ : Unit, en = .returned (.tuple #[.int .i64 (trnU x at_ lg m), .int .i64 (trnV x at_ lg m), .int .i64 (trnG x at_ lg m), .int .i64 (trnNo x at_ lg)]) ∧ True ∧ Mem w0 ([(901, ixBox b bm), (902, ixMap bm m), (950, .many rs)] ++ K) w' := by
  have hle := hix.le
  refine enterM_args (args := [.pointer (some ⟨b, 0, none⟩), .agg #[.int .i64 x.op, .slice x.ad x.q x.c, .int .i64 x.lo, .int .i64 x.hi, str x.nm, str x.tx], .int .i64 at_, .int .i64 lg]) (F := _) hM0 Tryz.func28 rfl Tryz.ntmps28 rfl rfl ?_
  intro Rb hRb hRn
  refine tx ?_
  refine S_box 5 5 rfl rfl rfl rfl rfl ?_
  intro b5
  refine sr 4 ?_
  refine sgs ?_
  refine tx ?_
  refine s1 (yA 5 rfl Tryz.underlying36 sz36) ?_
  refine s1 (y_call rfl rfl rfl cf54 (fun _ w1 hM => CheckCond_any x w1 (hok.lift hM.below))) ?_
  refine sr 1 ?_
  refine sgx ?_
  refine sr 2 ?_
  refine sgo ?_
  refine T_cond rfl ?_ ?_ <;> intro h20
  · skip
    have h20 : ¬ condNo x = 0 := by simpa using h20
    refine tx ?_
    refine sr 5 ?_
    refine sgo ?_
    refine T_ret (fun a w hF hM => hRb a w (post4 rfl rfl rfl rfl rfl (fun w hM => ?_) a w hF hM))
    have e1 : trnNo x at_ lg = condNo x := by rw [trnNo, if_pos h20]
    have e0 : ¬ trnNo x at_ lg = 0 := by rw [e1]; exact h20
    rw [trnU, trnV, trnG, if_neg e0, if_neg e0, if_neg e0, e1]
    exact ⟨(), rfl, trivial, hM.keep (ks := [(0, 999)]) (by repeat (first | exact kl_rest (by assumption) rfl | (apply kl_in; focus rfl))) _ ⟨rfl, rfl, rfl, trivial⟩⟩
  have h20 : condNo x = 0 := by simpa using h20
  refine kgs ?_
  refine tx ?_
  refine sr 1 ?_
  refine s1 (y_as (v' := .bool (outI at_ 0 3155759999)) (by rw [inB_outI]) (y_call rfl rfl rfl cf55 (fun _ w _ => fout_any _ _ _ w))) ?_
  refine sr 1 ?_
  refine sg rfl (y_move rfl rfl) ?_
  refine sg rfl (y_as (v' := .bool (outI lg 1 31622400)) (by rw [inB_outI]) (y_call rfl rfl rfl cf55 (fun _ w _ => fout_any _ _ _ w))) ?_
  refine s1 (y_or rfl rfl rfl) ?_
  refine sgo ?_
  refine T_cond rfl ?_ ?_ <;> intro h27
  · skip
    refine tx ?_
    refine sr 4 ?_
    refine sgo ?_
    refine T_ret (fun a w hF hM => hRb a w (post4 rfl rfl rfl rfl rfl (fun w hM => ?_) a w hF hM))
    have e1 : trnNo x at_ lg = 2 := by rw [trnNo, if_neg (by simpa using h20), if_pos h27]
    have e0 : ¬ trnNo x at_ lg = 0 := by rw [e1]; decide
    rw [trnU, trnV, trnG, if_neg e0, if_neg e0, if_neg e0, e1]
    exact ⟨(), rfl, trivial, hM.keep (ks := [(0, 999)]) (by repeat (first | exact kl_rest (by assumption) rfl | (apply kl_in; focus rfl))) _ ⟨rfl, rfl, rfl, trivial⟩⟩
  obtain ⟨hf0, hf1, hs0, hs1⟩ : 0 ≤ at_ ∧ at_ ≤ 3155759999 ∧ 1 ≤ lg ∧ lg ≤ 31622400 := by
    simp only [outI, Bool.or_eq_false_iff, decide_eq_false_iff_not] at h27
    omega
  have hno : trnNo x at_ lg = 0 := by rw [trnNo, if_neg (by simpa using h20), if_neg (by rw [h27]; exact Bool.false_ne_true)]
  refine kgx ?_
  refine sr 2 ?_
  refine sgs ?_
  refine tx ?_
  refine sr 1 ?_
  refine s1 (yA 5 rfl Tryz.underlying36 sz36) ?_
  refine S_callN 30 [(901, 901), (902, 902), (950, 950)] [(906, 906)] (X := FndR) rfl rfl rfl rfl rfl rfl rfl cf56 rfl (fun z => .slice z.A z.l.length z.c) (fun z => FndP x m z) (fun z => [(901, ixBox b bm), (902, ixMap bm m), (950, .many rs), (906, ownEv z.A z.c z.l)]) (fun _ => rfl) (fun _ => rfl) (fun K1 hK1 w1 hM => found_any hK1 b bm m rs x w1 hix hok (cond_ch h20) hmx hM) ?_
  rintro z hz
  have hzl := hz.len
  have hzo := fnd_ok hix hz
  refine s1 (y_len_slice rfl rfl Tryz.underlying25) ?_
  refine sr 1 ?_
  refine sgo ?_
  refine T_block ?_
  refine lK1 (kf := [(13, 14), (16, 16), (32, 67)]) (kl := [(13, 14), (16, 16), (32, 67)]) (fun (i : Nat) => [(32, true, .int .i64 (i : Int)), (13, true, .int .i64 (sW (z.l.take i) (at_ - lg) at_)), (14, true, .int .i64 (sW (z.l.take i) (at_ - 2 * lg) (at_ - lg)))]) (fun (i : Nat) => []) (fun (i : Nat) => i ≤ z.l.length) (fun (i : Nat) => z.l.length - i) 0 ?_ ?_ ?_ ?_
  · omega
  · exact ⟨rfl, rfl, rfl, trivial⟩
  · exact trivial
  rintro i hi1
  refine tx ?_
  refine sr 1 ?_
  refine sgs ?_
  refine T_cond rfl ?_ ?_ <;> intro h33
  · try simp only [nrm] at h33
    obtain ⟨e, he⟩ : ∃ e, z.l[i]? = some e := ⟨_, List.getElem?_eq_getElem (by omega)⟩
    obtain ⟨_, hwt, hat, _⟩ := evNo_lv (hzo e (List.mem_of_getElem? he))
    have htk := take_snocI he
    have hU := sW_snoc (z.l.take i) e (at_ - lg) at_
    have hV := sW_snoc (z.l.take i) e (at_ - 2 * lg) (at_ - lg)
    rw [← htk] at hU hV
    obtain ⟨hU1, hU2⟩ := sW_2000 (L := z.l.take i) (by rw [List.length_take]; omega) (take_ok hzo i) (at_ - lg) at_
    obtain ⟨hV1, hV2⟩ := sW_2000 (L := z.l.take i) (by rw [List.length_take]; omega) (take_ok hzo i) (at_ - 2 * lg) (at_ - lg)
    refine kgs ?_
    refine T_block ?_
    refine tx ?_
    refine s1 (y_indexOwn 906 rfl rfl rfl rfl Tryz.underlying25 sz31 (fun _ => by omega)) ?_
    refine s1 (y_loadO 906 rfl rfl rfl rfl (fun _ => rfl) (fun _ => he) Tryz.underlying31 rfl sz31) ?_
    refine S_alloc 16 16 rfl rfl rfl rfl z31 ?_
    intro b16
    refine S_store 16 rfl rfl rfl rfl rfl rfl sz31 rfl rfl ?_
    refine sgo ?_
    refine T_block ?_
    refine tx ?_
    refine s1 (yF fa31_1) ?_
    refine s1 (yL 16 Tryz.underlying3) ?_
    refine sr 2 ?_
    refine s1 (y_bin rfl rfl rfl (fun hg => b_sub (by omega))) ?_
    refine sr 1 ?_
    refine s1 (y_bin rfl rfl rfl (fun hg => b_sub (by omega))) ?_
    refine s1 (y_call rfl rfl rfl cf55 (fun _ w _ => fout_any _ _ _ w)) ?_
    refine s1 (y_as (v' := .bool (inW (at_ - lg) at_ e)) (by rw [Bool.not_not, inB_inW]) (y_not rfl rfl)) ?_
    refine sr 1 ?_
    refine sgo ?_
    refine T_cond rfl ?_ ?_ <;> intro h36
    · skip
      rw [if_pos h36] at hU
      rw [if_neg (by unfold inW at h36 ⊢; simp at h36 ⊢; omega)] at hV
      refine T_region ?_
      refine sr 1 ?_
      refine s1 (yF fa31_8) ?_
      refine s1 (yL 16 Tryz.underlying3) ?_
      refine s1 (y_bin rfl rfl rfl (fun hg => b_addv (sW (z.l.take (i + 1)) (at_ - lg) at_) (by omega) (by omega))) ?_
      refine sr 1 ?_
      refine sgr ?_
      refine s1 (y_bin rfl rfl rfl (fun hg => b_add (by omega))) ?_
      refine sr 1 ?_
      refine S_nil (nS1 (kf := [(13, 14), (16, 16), (32, 67)]) (kl := [(13, 14), (16, 16), (32, 67)]) (i + 1) ?_ ?_ ?_ ?_)
      · omega
      · omega
      · rw [show sW (z.l.take (i + 1)) (at_ - 2 * lg) (at_ - lg) = sW (z.l.take i) (at_ - 2 * lg) (at_ - lg) by omega]; exact ⟨rfl, rfl, rfl, trivial⟩
      · exact trivial
    rw [if_neg (by rw [show inW (at_ - lg) at_ e = false from h36]; exact Bool.false_ne_true)] at hU
    refine tx ?_
    refine s1 (yF fa31_1) ?_
    refine s1 (yL 16 Tryz.underlying3) ?_
    refine sr 2 ?_
    refine s1 (y_bin rfl rfl rfl (fun hg => b_mul (by omega))) ?_
    refine s1 (y_bin rfl rfl rfl (fun hg => b_sub (by omega))) ?_
    refine sr 2 ?_
    refine s1 (y_bin rfl rfl rfl (fun hg => b_sub (by omega))) ?_
    refine s1 (y_bin rfl rfl rfl (fun hg => b_sub (by omega))) ?_
    refine s1 (y_call rfl rfl rfl cf55 (fun _ w _ => fout_any _ _ _ w)) ?_
    refine s1 (y_as (v' := .bool (inW (at_ - 2 * lg) (at_ - lg) e)) (by rw [Bool.not_not, inB_inW]) (y_not rfl rfl)) ?_
    refine sr 1 ?_
    refine sgo ?_
    refine T_cond rfl ?_ ?_ <;> intro h50
    · skip
      rw [if_pos h50] at hV
      refine T_region ?_
      refine sr 1 ?_
      refine s1 (yF fa31_8) ?_
      refine s1 (yL 16 Tryz.underlying3) ?_
      refine s1 (y_bin rfl rfl rfl (fun hg => b_addv (sW (z.l.take (i + 1)) (at_ - 2 * lg) (at_ - lg)) (by omega) (by omega))) ?_
      refine sr 1 ?_
      refine sgr ?_
      refine s1 (y_bin rfl rfl rfl (fun hg => b_add (by omega))) ?_
      refine sr 1 ?_
      refine S_nil (nS1 (kf := [(13, 14), (16, 16), (32, 67)]) (kl := [(13, 14), (16, 16), (32, 67)]) (i + 1) ?_ ?_ ?_ ?_)
      · omega
      · omega
      · rw [show sW (z.l.take (i + 1)) (at_ - lg) at_ = sW (z.l.take i) (at_ - lg) at_ by omega]; exact ⟨rfl, rfl, rfl, trivial⟩
      · exact trivial
    rw [if_neg (by rw [show inW (at_ - 2 * lg) (at_ - lg) e = false from h50]; exact Bool.false_ne_true)] at hV
    refine kgr ?_
    refine s1 (y_bin rfl rfl rfl (fun hg => b_add (by omega))) ?_
    refine sr 1 ?_
    refine S_nil (nS1 (kf := [(13, 14), (16, 16), (32, 67)]) (kl := [(13, 14), (16, 16), (32, 67)]) (i + 1) ?_ ?_ ?_ ?_)
    · omega
    · omega
    · rw [show sW (z.l.take (i + 1)) (at_ - lg) at_ = sW (z.l.take i) (at_ - lg) at_ by omega, show sW (z.l.take (i + 1)) (at_ - 2 * lg) (at_ - lg) = sW (z.l.take i) (at_ - 2 * lg) (at_ - lg) by omega]; exact ⟨rfl, rfl, rfl, trivial⟩
    · exact trivial
  try simp only [nrm] at h33
  obtain ⟨hU1, hU2⟩ := sW_2000 (L := z.l.take i) (by rw [List.length_take]; omega) (take_ok hzo i) (at_ - lg) at_
  obtain ⟨hV1, hV2⟩ := sW_2000 (L := z.l.take i) (by rw [List.length_take]; omega) (take_ok hzo i) (at_ - 2 * lg) (at_ - lg)
  have eU : sW (z.l.take i) (at_ - lg) at_ = sW (filI x m) (at_ - lg) at_ := by rw [List.take_of_length_le (by omega), sW_perm hz.1]
  have eV : sW (z.l.take i) (at_ - 2 * lg) (at_ - lg) = sW (filI x m) (at_ - 2 * lg) (at_ - lg) := by rw [List.take_of_length_le (by omega), sW_perm hz.1]
  have tU : trnU x at_ lg m = sW (filI x m) (at_ - lg) at_ := if_pos hno
  have tV : trnV x at_ lg m = sW (filI x m) (at_ - 2 * lg) (at_ - lg) := if_pos hno
  have tG : trnG x at_ lg m = trendG (sW (filI x m) (at_ - lg) at_) (sW (filI x m) (at_ - 2 * lg) (at_ - lg)) := if_pos hno
  rw [eU] at hU1 hU2
  rw [eV] at hV1 hV2
  obtain ⟨U, hUe⟩ : ∃ U, sW (filI x m) (at_ - lg) at_ = U := ⟨_, rfl⟩
  obtain ⟨V, hVe⟩ : ∃ V, sW (filI x m) (at_ - 2 * lg) (at_ - lg) = V := ⟨_, rfl⟩
  rw [hUe] at hU1 hU2 eU tU tG
  rw [hVe] at hV1 hV2 eV tV tG
  rw [eU, eV]
  refine egs ?_
  refine T_block ?_
  refine tx ?_
  refine sr 3 ?_
  refine sg rfl (y_move rfl rfl) ?_
  refine sg rfl (y_bin rfl rfl rfl (fun _ => b_eql)) ?_
  refine s1 (y_and rfl rfl rfl) ?_
  refine sr 1 ?_
  refine sgo ?_
  refine T_cond rfl ?_ ?_ <;> intro h68
  · skip
    simp only [Bool.and_eq_true, decide_eq_true_eq] at h68
    refine tx ?_
    refine sr 4 ?_
    refine sgo ?_
    refine T_ret (fun a w hF hM => hRb a w (post4 rfl rfl rfl rfl rfl (fun w hM => ?_) a w hF hM))
    obtain ⟨rfl, rfl⟩ := h68
    rw [tU, tV, tG, hno, trendG, if_pos ⟨rfl, rfl⟩]
    exact ⟨(), rfl, trivial, hM.keep (ks := [(0, 999)]) (by repeat (first | exact kl_rest (by assumption) rfl | (apply kl_in; focus rfl))) _ ⟨rfl, rfl, rfl, trivial⟩⟩
  simp only [Bool.and_eq_false_iff, decide_eq_false_iff_not] at h68
  refine tx ?_
  refine sr 3 ?_
  refine sgo ?_
  refine T_cond rfl ?_ ?_ <;> intro h75
  · try simp only [nrm] at h75
    refine tx ?_
    refine sr 5 ?_
    refine sgo ?_
    refine T_ret (fun a w hF hM => hRb a w (post4 rfl rfl rfl rfl rfl (fun w hM => ?_) a w hF hM))
    subst h75
    rw [tU, tV, tG, hno, trendG, if_neg (by omega), if_pos rfl]
    exact ⟨(), rfl, trivial, hM.keep (ks := [(0, 999)]) (by repeat (first | exact kl_rest (by assumption) rfl | (apply kl_in; focus rfl))) _ ⟨rfl, rfl, rfl, trivial⟩⟩
  try simp only [nrm] at h75
  obtain ⟨d, hd, hd0, hd1⟩ : ∃ d, 100 * U / V = d ∧ 0 ≤ d ∧ d ≤ 200000000000 := ⟨_, rfl, Int.ediv_nonneg (by omega) (by omega), Int.le_trans (Int.ediv_le_self _ (by omega)) (by omega)⟩
  refine kgs ?_
  refine T_draws (by kernel_rfl) (by kernel_rfl) ?_
  refine d1 (y_move rfl rfl) ?_
  refine d1 (y_move rfl rfl) ?_
  refine d1 (y_move rfl rfl) ?_
  refine d1 (y_bin rfl rfl rfl (fun hg => b_mul (by omega))) ?_
  refine d1 (y_move rfl rfl) ?_
  refine d1 (y_bin rfl rfl rfl (fun hg => b_quov (d) (by omega) (by omega) (by omega) (by omega))) ?_
  refine d1 (y_bin rfl rfl rfl (fun hg => b_sub (by omega))) ?_
  refine d1 (y_as (v' := .int .i64 (min (d - 100) 10000)) (by congr 1; split <;> omega) (y_min rfl rfl rfl)) ?_
  refine d1 (y_assign rfl rfl) ?_
  refine d1 (y_assign rfl rfl) ?_
  refine d1 (y_assign rfl rfl) ?_
  refine d1 (y_assign rfl rfl) ?_
  refine dgo ?_
  refine T_ret (fun a w hF hM => hRb a w (post4 rfl rfl rfl rfl rfl (fun w hM => ?_) a w hF hM))
  rw [tU, tV, tG, hno, trendG, if_neg (by omega), if_neg (by omega), hd]
  exact ⟨(), rfl, trivial, hM.keep (ks := [(0, 999)]) (by repeat (first | exact kl_rest (by assumption) rfl | (apply kl_in; focus rfl))) _ ⟨rfl, rfl, rfl, trivial⟩⟩
end Go.Proofs.YtekbcbjimajnfaaGreatDoor
end
section
namespace Go.Proofs.YtekbcbjimajnfaaGreatDoor
set_option linter.unusedSimpArgs false
set_option linter.unusedVariables false
set_option maxRecDepth 20000
open Go.RowKit Go.Eng
/-! ### numbers of values -/
def posF : List Fac → List UInt8 → Nat → Option Nat
  | [], _, _ => none
  | a :: r, v, i => if v = a.v then some i else posF r v (i + 1)
def numK : List Fac → Nat → List (List UInt8 × Value)
  | [], _ => []
  | a :: r, i => (a.v, .int .i64 (i : Int)) :: numK r (i + 1)
theorem mget_num (v : List UInt8) : ∀ (l : List Fac) (i : Nat), mget (numK l i) v = (posF l v i).map fun j => Value.int .i64 ((j : Nat) : Int)
  | [], i => rfl
  | a :: r, i => by
    rw [numK, mget, posF]
    split
    · rfl
    · exact mget_num v r (i + 1)
theorem num_val (v : List UInt8) (l : List Fac) : Value.tuple #[(mget (numK l 0) v).getD (.int .i64 0), .bool (mget (numK l 0) v).isSome] = .tuple #[.int .i64 ((((posF l v 0).getD 0 : Nat)) : Int), .bool (posF l v 0).isSome] := by
  rw [mget_num]
  cases posF l v 0 <;> rfl
theorem mput_num {v : List UInt8} {a b : Int} : ∀ {l : List Fac} {i : Nat}, posF l v i = none → mput (numK l i) v (.int .i64 ((l.length + i : Nat) : Int)) = numK (l ++ [⟨v, a, b⟩]) i
  | [], i, _ => by rw [List.length_nil, Nat.zero_add]; rfl
  | c :: r, i, h => by
    rw [posF] at h
    split at h
    · cases h
    · rename_i hc
      rw [numK, mput, if_neg hc, List.length_cons, show r.length + 1 + i = r.length + (i + 1) by omega, mput_num h]; rfl
theorem pos_none {v : List UInt8} {w : Int} : ∀ {l : List Fac} {i : Nat}, posF l v i = none → addF l v w = l ++ [⟨v, 1, w⟩]
  | [], i, _ => rfl
  | c :: r, i, h => by
    rw [posF] at h
    split at h
    · cases h
    · rename_i hc
      rw [addF, if_neg hc, pos_none h]; rfl
theorem pos_some {v : List UInt8} : ∀ {l : List Fac} {i n : Nat}, posF l v i = some n → ∃ j f, n = i + j ∧ l[j]? = some f ∧ f.v = v ∧ ∀ w, addF l v w = l.set j ⟨v, f.n + 1, f.s + w⟩
  | [], i, n, h => by cases h
  | c :: r, i, n, h => by
    rw [posF] at h
    split at h
    · rename_i hc
      injection h with h
      exact ⟨0, c, h.symm, rfl, hc.symm, fun w => by rw [addF, if_pos hc]; rfl⟩
    · rename_i hc
      obtain ⟨j, f, h1, h2, h3, h4⟩ := pos_some h
      exact ⟨j + 1, f, by omega, h2, h3, fun w => by rw [addF, if_neg hc, h4]; rfl⟩
theorem numK_set {v : List UInt8} {f g : Fac} (hg : g.v = f.v) : ∀ {l : List Fac} {i j : Nat}, l[j]? = some f → numK (l.set j g) i = numK l i
  | [], i, j, h => by simp at h
  | c :: r, i, 0, h => by
    simp at h; subst h
    show (g.v, _) :: _ = (c.v, _) :: _
    rw [hg]
  | c :: r, i, j + 1, h => by
    have h' : r[j]? = some f := by simpa using h
    show (c.v, _) :: numK (r.set j g) (i + 1) = _
    rw [numK_set (v := v) hg h']; rfl
/-! ### bounds -/
theorem addF_le {N : Nat} {l : List Fac} {v : List UInt8} {w : Int} (hw : 0 ≤ w ∧ w ≤ 1000000) (h : ∀ f ∈ l, (0 ≤ f.n ∧ f.n ≤ (N : Int)) ∧ 0 ≤ f.s ∧ f.s ≤ 1000000 * (N : Int)) : ∀ f ∈ addF l v w, (0 ≤ f.n ∧ f.n ≤ ((N + 1 : Nat) : Int)) ∧ 0 ≤ f.s ∧ f.s ≤ 1000000 * ((N + 1 : Nat) : Int) := by
  induction l with
  | nil =>
    intro f hf
    have hf : f = ⟨v, 1, w⟩ := List.mem_singleton.1 hf
    subst hf
    show ((0 : Int) ≤ 1 ∧ (1 : Int) ≤ _) ∧ 0 ≤ w ∧ w ≤ _
    omega
  | cons a r ih =>
    intro f hf
    rw [addF] at hf
    split at hf
    · rcases List.mem_cons.1 hf with rfl | hf
      · have := h a (List.mem_cons_self ..)
        show (0 ≤ a.n + 1 ∧ a.n + 1 ≤ _) ∧ 0 ≤ a.s + w ∧ a.s + w ≤ _
        omega
      · have := h f (List.mem_cons_of_mem _ hf); omega
    · rcases List.mem_cons.1 hf with rfl | hf
      · have := h f (List.mem_cons_self ..); omega
      · exact ih (fun g hg => h g (List.mem_cons_of_mem _ hg)) f hf
theorem fold_le : ∀ (ps : List FP) (N : Nat) (l : List Fac), (∀ p ∈ ps, 0 ≤ p.2 ∧ p.2 ≤ 1000000) → (∀ f ∈ l, (0 ≤ f.n ∧ f.n ≤ (N : Int)) ∧ 0 ≤ f.s ∧ f.s ≤ 1000000 * (N : Int)) → ∀ f ∈ ps.foldl (fun l p => addF l p.1 p.2) l, (0 ≤ f.n ∧ f.n ≤ ((N + ps.length : Nat) : Int)) ∧ 0 ≤ f.s ∧ f.s ≤ 1000000 * ((N + ps.length : Nat) : Int)
  | [], N, l, _, h => h
  | p :: r, N, l, hp, h => by
    have := fold_le r (N + 1) (addF l p.1 p.2) (fun q hq => hp q (List.mem_cons_of_mem _ hq)) (addF_le (hp p (List.mem_cons_self ..)) h)
    rw [List.length_cons, show N + (r.length + 1) = N + 1 + r.length by omega]
    exact this
theorem facL_le {ps : List FP} (hp : ∀ p ∈ ps, 0 ≤ p.2 ∧ p.2 ≤ 1000000) : ∀ f ∈ facL ps, (0 ≤ f.n ∧ f.n ≤ (ps.length : Int)) ∧ 0 ≤ f.s ∧ f.s ≤ 1000000 * (ps.length : Int) := by
  have := fold_le ps 0 [] hp (fun f hf => by cases hf)
  rw [Nat.zero_add] at this
  exact this
theorem addF_len (l : List Fac) (v : List UInt8) (w : Int) : (addF l v w).length ≤ l.length + 1 := by
  have := congrArg List.length (keysF_add l v w)
  rw [List.length_map] at this
  rw [this]
  split
  · rw [List.length_map]; omega
  · rw [List.length_append, List.length_map]; exact Nat.le_refl _
theorem facL_len (ps : List FP) : (facL ps).length ≤ ps.length := by
  have : ∀ (ps : List FP) (l : List Fac), (ps.foldl (fun l p => addF l p.1 p.2) l).length ≤ l.length + ps.length := by
    intro ps
    induction ps with
    | nil => exact fun _ => Nat.le_refl _
    | cons p r ih => intro l; have h1 := ih (addF l p.1 p.2); have h2 := addF_len l p.1 p.2; simp only [List.foldl_cons, List.length_cons]; omega
  have h := this ps []
  rw [List.length_nil, Nat.zero_add] at h
  exact h
theorem prsE_len {L : List Evt} {by_ : Int} {nm : List UInt8} (h : ∀ e ∈ L, (valsE e by_ nm).length ≤ 11) : (prsE L by_ nm).length ≤ 11 * L.length := by
  induction L with
  | nil => exact Nat.le_refl _
  | cons a r ih =>
    have h1 := h a (List.mem_cons_self ..)
    have h2 := ih fun e he => h e (List.mem_cons_of_mem _ he)
    show (((valsE a by_ nm).map _) ++ prsE r by_ nm).length ≤ _
    rw [List.length_append, List.length_map, List.length_cons]; omega
theorem prsE_wt {L : List Evt} {by_ : Int} {nm : List UInt8} (h : ∀ e ∈ L, 1 ≤ e.wt ∧ e.wt ≤ 1000000) : ∀ p ∈ prsE L by_ nm, 0 ≤ p.2 ∧ p.2 ≤ 1000000 := by
  intro p hp
  obtain ⟨e, he, h1⟩ := List.mem_flatMap.1 hp
  obtain ⟨v, _, rfl⟩ := List.mem_map.1 h1
  have := h e he
  show 0 ≤ e.wt ∧ e.wt ≤ _
  omega
/-- the pairs of some events and of a part of one more -/
def prsK (L : List Evt) (e : Evt) (k : Nat) (by_ : Int) (nm : List UInt8) : List FP := prsE L by_ nm ++ ((valsE e by_ nm).take k).map fun v => (v, e.wt)
theorem prsK_0 (L : List Evt) (e : Evt) (by_ : Int) (nm : List UInt8) : prsK L e 0 by_ nm = prsE L by_ nm := List.append_nil _
theorem prsK_next {L : List Evt} {e : Evt} {k : Nat} {by_ : Int} {nm v : List UInt8} (h : (valsE e by_ nm)[k]? = some v) : facL (prsK L e (k + 1) by_ nm) = addF (facL (prsK L e k by_ nm)) v e.wt := by
  rw [prsK, List.take_add_one, h, Option.toList, List.map_append, ← List.append_assoc]
  exact facL_snoc _ (v, e.wt)
theorem prsK_all {L : List Evt} {e : Evt} {k : Nat} {by_ : Int} {nm : List UInt8} (h : (valsE e by_ nm).length ≤ k) : prsK L e k by_ nm = prsE (L ++ [e]) by_ nm := by
  rw [prsK, List.take_of_length_le h, prsE, prsE, List.flatMap_append]; simp
theorem prsK_len {L : List Evt} {e : Evt} {k : Nat} {by_ : Int} {nm : List UInt8} (h : ∀ e ∈ L, (valsE e by_ nm).length ≤ 11) (h2 : (valsE e by_ nm).length ≤ 11) : (prsK L e k by_ nm).length ≤ 11 * L.length + 11 := by
  have := prsE_len h
  rw [prsK, List.length_append, List.length_map, List.length_take]; omega
theorem prsK_wt {L : List Evt} {e : Evt} {k : Nat} {by_ : Int} {nm : List UInt8} (h : ∀ e ∈ L, 1 ≤ e.wt ∧ e.wt ≤ 1000000) (h2 : 1 ≤ e.wt ∧ e.wt ≤ 1000000) : ∀ p ∈ prsK L e k by_ nm, 0 ≤ p.2 ∧ p.2 ≤ 1000000 := by
  intro p hp
  rcases List.mem_append.1 hp with hp | hp
  · exact prsE_wt h p hp
  · obtain ⟨v, _, rfl⟩ := List.mem_map.1 hp
    show 0 ≤ e.wt ∧ e.wt ≤ _
    omega
theorem vals_11 {e : Evt} {by_ : Int} {nm : List UInt8} (h : evNo e = 0) (ho : OkE e) : (valsE e by_ nm).length ≤ 11 := by
  have h1 := (evNo_lv h).2.2.2
  have h2 := ho.fq.1
  have h3 := (valsE_ok e by_ nm).2
  omega
/-! ### the walk -/
theorem facets1_any (a b : Fac) (w : World) : Calls Tryz.prog 70 #[a.val, b.val] w fun e w' => e = .returned (.int .i64 (cmpF a b)) ∧ Below w.heap.size w w' := by
  refine enter_args (args := [.agg #[str a.v, .int .i64 a.n, .int .i64 a.s], .agg #[str b.v, .int .i64 b.n, .int .i64 b.s]]) (F := _) Tryz.func70 rfl Tryz.ntmps70 rfl rfl ?_
  intro Rb hRb hRn
  refine tx ?_
  refine S_box 2 2 rfl rfl rfl rfl rfl ?_
  intro b2
  refine S_box 3 3 rfl rfl rfl rfl rfl ?_
  intro b3
  refine sr 1 ?_
  refine sgs ?_
  refine T_drawsTail 10 (by kernel_rfl) (by kernel_rfl) ?_
  refine d1 (yF fa63_2) ?_
  refine d1 (yL 3 Tryz.underlying3) ?_
  refine d1 (yF fa63_2) ?_
  refine d1 (yL 2 Tryz.underlying3) ?_
  refine d1 (y_call rfl rfl rfl cf59 (fun _ w _ => cmpJ_any _ _ w)) ?_
  refine d1 (yF fa63_0) ?_
  refine d1 (yL 2 Tryz.underlying9) ?_
  refine d1 (yF fa63_0) ?_
  refine d1 (yL 3 Tryz.underlying9) ?_
  refine d1 (y_call rfl rfl rfl cf66 (fun _ w _ => cmpB_any _ _ w)) ?_
  refine D_tail ?_
  refine S_buildSlice 15 15 rfl rfl rfl rfl rfl Tryz.underlying147 inf3 rfl (by decide) (by decide) rfl rfl (by decide) rfl (_) rfl ?_
  intro b15
  refine s1 (y_call rfl rfl rfl cf65 (fun _ w hM => orX_any _ _ [cmpJ b.s a.s, cmpB a.v b.v] w 2 (by decide) ⟨own_reads hM (i := 15) rfl, rfl⟩)) ?_
  refine sr 1 ?_
  refine sgo ?_
  refine tr1 hRb fun w hM => ?_
  exact ⟨by rw [orL2]; rfl, hM.below⟩
theorem fac_one (x : Fac) : ∀ v ∈ x.enc, v.oneCell' = true := fun v hv => by
  simp only [Fac.enc, List.mem_cons, List.not_mem_nil, or_false] at hv
  rcases hv with rfl | rfl | rfl <;> rfl
theorem SortF_any {w0 : World} {K : HL} (hK : FromK K) (A : Option Addr) (q c : Nat) (l : List Fac) (w : World) (hlen : l.length = q) (hq : q ≤ 1000000) (hM : Mem w0 ([(0, .own 63 3 (.slice A q c) q (l.flatMap Fac.enc))] ++ K) w) :
    Calls Tryz.prog 69 #[.slice A q c, .func (.func 70) #[] #[]] w fun e w' => ∃ l' : List Fac, e = .returned (.tuple #[]) ∧ l' = pdqL cmpF l ∧ Mem w0 ([(0, .own 63 3 (.slice A q c) q (l'.flatMap Fac.enc))] ++ K) w' :=
  sort_own Tryz.laysSort69 (k := 3) (enc := Fac.enc) Tryz.isAgg63 Tryz.sizeOf63 (fun _ => rfl) fac_one cmpF (swo3 cmp3_F)
    70 #[] cf70 hK 63 A q c l w hlen (by omega) (fun w' _ x y => facets1_any x y w') hM
theorem CloneFc_any (A : Option Addr) (q c : Nat) (l : List Fac) (w : World) (hl : SlT Fac.enc 3 w A q l) (hq : q ≤ 1000000) :
    Calls Tryz.prog 71 #[.slice A q c] w fun e w' => ∃ A' c', e = .returned (.slice A' q c') ∧ w'.ownsRow w.heap.size 63 3 (.slice A' q c') q (l.flatMap Fac.enc) ∧ Below w.heap.size w w' := by
  have hlen := hl.len
  refine enter_args (args := [.slice A q c]) (F := _) Tryz.func71 rfl Tryz.ntmps71 rfl rfl ?_
  intro Rb hRb hRn
  refine tx ?_
  refine S_nilSlice 2 (e := 63) (size := 3) ?_
  refine sr 1 ?_
  refine sgs ?_
  refine tx ?_
  refine sr 1 ?_
  refine s1 (y_bin rfl rfl rfl (fun _ => b_eqln Tryz.underlying56)) ?_
  refine sgo ?_
  refine T_cond rfl ?_ ?_ <;> intro h4
  · skip
    refine tx ?_
    refine S_nilSlice 2 (e := 63) (size := 3) ?_
    refine sr 1 ?_
    refine sgo ?_
    refine tr1 hRb fun w hM => ?_
    have hA : A = none := by cases h : A with
      | none => rfl
      | some a => rw [h] at h4; cases h4
    have h0 : q = 0 := by
      rcases Nat.eq_zero_or_pos q with h | h
      · exact h
      · have := hl.isSome h; rw [hA] at this; cases this
    have hn : l = [] := List.eq_nil_of_length_eq_zero (by omega)
    rw [h0, hn]
    exact ⟨none, 0, rfl, World.ownsRow_nil _ _ _ _, hM.below⟩
  refine kgx ?_
  refine S_buildSlice0 5 5 rfl rfl rfl rfl Tryz.underlying56 sz63 ?_
  intro b5
  refine sr 1 ?_
  obtain ⟨i7, hi7, hz7, hs7, hy7⟩ := info_parts inf63
  refine S_appendG 7 5 (news := l.flatMap Fac.enc) rfl rfl rfl rfl rfl rfl rfl (fun w hM => hl.rd.below hM.below) Tryz.underlying56 hi7 hz7 hs7 hy7 rfl (by decide) (allOne_of (fun u hu => by obtain ⟨a, _, ha⟩ := List.mem_flatMap.1 hu; exact fac_one a u ha)) ?_ ?_ (q) (l.flatMap Fac.enc) ?_ ?_ ?_
  · (simp only [maxLen]; omega)
  · omega
  · omega
  · rfl
  intro A7 c7
  refine sr 1 ?_
  refine sgo ?_
  refine tr1 hRb fun w hM => ?_
  exact ⟨A7, c7, rfl, hM.sat 5 _ rfl, hM.below⟩
def facNo (x : SC) (by_ : Int) (nm : List UInt8) (mo : Int) : Int := if condNo x ≠ 0 then condNo x else if (!decide (by_ = 2) && outI by_ 4 7) = true then 10 else if (decide (by_ = 4) && !nameOk nm) = true then 3 else if (!decide (by_ = 4) && !decide (nm = [])) = true then 1 else if outI mo 1 2000 = true then 2 else 0
def facR (x : SC) (by_ : Int) (nm : List UInt8) (mo : Int) (m : List Evt) : List Fac := if facNo x by_ nm mo = 0 then (facS (prsE (filI x m) by_ nm)).take mo.toNat else []
abbrev ownFc (A : Option Addr) (c : Nat) (l : List Fac) : It := .own 63 3 (.slice A l.length c) l.length (l.flatMap Fac.enc)
set_option maxHeartbeats 3200000 in
theorem Facets_any {w0 : World} {K : HL} (hK : FromK K) (b bm : Nat) (m : List Evt) (rs : List Row) (x : SC) (by_ : Int) (nm : List UInt8) (mo : Int) (w : World) (hix : IxOk w0 rs m) (hok : x.Ok w0) (hmx : MLen w0) (hM0 : Mem w0 ([(901, ixBox b bm), (902, ixMap bm m), (950, .many rs)] ++ K) w) :
    Calls Tryz.prog 20 #[.pointer (some ⟨b, 0, none⟩), .agg #[.int .i64 x.op, .slice x.ad x.q x.c, .int .i64 x.lo, .int .i64 x.hi, str x.nm, str x.tx], .int .i64 by_, str nm, .int .i64 mo] w fun en w' => ∃ z : Option Addr × Nat, en = .returned (.tuple #[.slice z.1 (facR x by_ nm mo m).length z.2, .int .i64 (facNo x by_ nm mo)]) ∧ True ∧ Mem w0 ([(901, ixBox b bm), (902, ixMap bm m), (950, .many rs), (915, ownFc z.1 z.2 (facR x by_ nm mo m))] ++ K) w' := by
  have hle := hix.le
  have hpe : ∀ e ∈ m, OkE e := fun e he => OkE.of ((hix.ok e he).2.at hM0 950 rfl)
  refine enterM_args (args := [.pointer (some ⟨b, 0, none⟩), .agg #[.int .i64 x.op, .slice x.ad x.q x.c, .int .i64 x.lo, .int .i64 x.hi, str x.nm, str x.tx], .int .i64 by_, str nm, .int .i64 mo]) (F := _) hM0 Tryz.func20 rfl Tryz.ntmps20 rfl rfl ?_
  intro Rb hRb hRn
  refine tx ?_
  refine S_box 6 6 rfl rfl rfl rfl rfl ?_
  intro b6
  refine S_nilSlice 915 (e := 63) (size := 3) ?_
  refine S_nilSlice 10 (e := 63) (size := 3) ?_
  refine sr 2 ?_
  refine sgs ?_
  refine tx ?_
  refine s1 (yA 6 rfl Tryz.underlying36 sz36) ?_
  refine s1 (y_call rfl rfl rfl cf54 (fun _ w1 hM => CheckCond_any x w1 (hok.lift hM.below))) ?_
  refine sr 1 ?_
  refine sgx ?_
  refine sr 2 ?_
  refine sgo ?_
  refine T_cond rfl ?_ ?_ <;> intro h24
  · skip
    have h24 : ¬ condNo x = 0 := by simpa using h24
    refine tx ?_
    refine sr 1 ?_
    refine S_nilSlice 10 (e := 63) (size := 3) ?_
    refine sr 2 ?_
    refine sgo ?_
    refine tr2 hRb fun w hM => ?_
    have e1 : facNo x by_ nm mo = condNo x := by rw [facNo, if_pos h24]
    have e2 : facR x by_ nm mo m = [] := by rw [facR, if_neg (by rw [e1]; exact h24)]
    rw [e1, e2]
    exact ⟨(none, 0), rfl, trivial, hM.keep (ks := [(0, 999)]) (by repeat (first | exact kl_rest (by assumption) rfl | (apply kl_in; focus rfl))) _ ⟨rfl, rfl, rfl, rfl, trivial⟩⟩
  have h24 : condNo x = 0 := by simpa using h24
  refine kgs ?_
  refine T_block ?_
  refine tx ?_
  refine sr 3 ?_
  refine sg rfl (y_move rfl rfl) ?_
  refine sg rfl (y_as (v' := .bool (outI by_ 4 7)) (by rw [inB_outI]) (y_call rfl rfl rfl cf55 (fun _ w _ => fout_any _ _ _ w))) ?_
  refine s1 (y_and rfl rfl rfl) ?_
  refine sr 1 ?_
  refine sgo ?_
  refine T_cond rfl ?_ ?_ <;> intro h26
  · skip
    refine tx ?_
    refine S_nilSlice 10 (e := 63) (size := 3) ?_
    refine sr 2 ?_
    refine sgo ?_
    refine tr2 hRb fun w hM => ?_
    have e1 : facNo x by_ nm mo = 10 := by rw [facNo, if_neg (by simpa using h24), if_pos h26]
    have e2 : facR x by_ nm mo m = [] := by rw [facR, if_neg (by rw [e1]; decide)]
    rw [e1, e2]
    exact ⟨(none, 0), rfl, trivial, hM.keep (ks := [(0, 999)]) (by repeat (first | exact kl_rest (by assumption) rfl | (apply kl_in; focus rfl))) _ ⟨rfl, rfl, rfl, rfl, trivial⟩⟩
  refine tx ?_
  refine sr 3 ?_
  refine sg rfl (y_move rfl rfl) ?_
  refine sg rfl (y_call rfl rfl rfl cf67 (fun _ w _ => IsName_any _ w)) ?_
  refine sg rfl (y_not rfl rfl) ?_
  refine s1 (y_and rfl rfl rfl) ?_
  refine sr 1 ?_
  refine sgo ?_
  refine T_cond rfl ?_ ?_ <;> intro h33
  · skip
    refine tx ?_
    refine S_nilSlice 10 (e := 63) (size := 3) ?_
    refine sr 2 ?_
    refine sgo ?_
    refine tr2 hRb fun w hM => ?_
    have e1 : facNo x by_ nm mo = 3 := by rw [facNo, if_neg (by simpa using h24), if_neg (by rw [h26]; exact Bool.false_ne_true), if_pos h33]
    have e2 : facR x by_ nm mo m = [] := by rw [facR, if_neg (by rw [e1]; decide)]
    rw [e1, e2]
    exact ⟨(none, 0), rfl, trivial, hM.keep (ks := [(0, 999)]) (by repeat (first | exact kl_rest (by assumption) rfl | (apply kl_in; focus rfl))) _ ⟨rfl, rfl, rfl, rfl, trivial⟩⟩
  refine tx ?_
  refine sr 3 ?_
  refine sg rfl (y_move rfl rfl) ?_
  refine sg rfl (y_bin rfl rfl rfl (fun _ => b_neqs)) ?_
  refine s1 (y_and rfl rfl rfl) ?_
  refine sr 1 ?_
  refine sgo ?_
  refine T_cond rfl ?_ ?_ <;> intro h41
  · skip
    refine tx ?_
    refine S_nilSlice 10 (e := 63) (size := 3) ?_
    refine sr 2 ?_
    refine sgo ?_
    refine tr2 hRb fun w hM => ?_
    have e1 : facNo x by_ nm mo = 1 := by rw [facNo, if_neg (by simpa using h24), if_neg (by rw [h26]; exact Bool.false_ne_true), if_neg (by rw [h33]; exact Bool.false_ne_true), if_pos h41]
    have e2 : facR x by_ nm mo m = [] := by rw [facR, if_neg (by rw [e1]; decide)]
    rw [e1, e2]
    exact ⟨(none, 0), rfl, trivial, hM.keep (ks := [(0, 999)]) (by repeat (first | exact kl_rest (by assumption) rfl | (apply kl_in; focus rfl))) _ ⟨rfl, rfl, rfl, rfl, trivial⟩⟩
  refine tx ?_
  refine sr 1 ?_
  refine s1 (y_as (v' := .bool (outI mo 1 2000)) (by rw [inB_outI]) (y_call rfl rfl rfl cf55 (fun _ w _ => fout_any _ _ _ w))) ?_
  refine sr 1 ?_
  refine sgo ?_
  refine T_cond rfl ?_ ?_ <;> intro h48
  · skip
    refine tx ?_
    refine S_nilSlice 10 (e := 63) (size := 3) ?_
    refine sr 2 ?_
    refine sgo ?_
    refine tr2 hRb fun w hM => ?_
    have e1 : facNo x by_ nm mo = 2 := by rw [facNo, if_neg (by simpa using h24), if_neg (by rw [h26]; exact Bool.false_ne_true), if_neg (by rw [h33]; exact Bool.false_ne_true), if_neg (by rw [h41]; exact Bool.false_ne_true), if_pos h48]
    have e2 : facR x by_ nm mo m = [] := by rw [facR, if_neg (by rw [e1]; decide)]
    rw [e1, e2]
    exact ⟨(none, 0), rfl, trivial, hM.keep (ks := [(0, 999)]) (by repeat (first | exact kl_rest (by assumption) rfl | (apply kl_in; focus rfl))) _ ⟨rfl, rfl, rfl, rfl, trivial⟩⟩
  obtain ⟨hm0, hm1⟩ : 1 ≤ mo ∧ mo ≤ 2000 := by
    simp only [outI, Bool.or_eq_false_iff, decide_eq_false_iff_not] at h48
    omega
  obtain ⟨k0, rfl⟩ : ∃ k : Nat, mo = k := ⟨mo.toNat, by omega⟩
  have hno : facNo x by_ nm k0 = 0 := by rw [facNo, if_neg (by simpa using h24), if_neg (by rw [h26]; exact Bool.false_ne_true), if_neg (by rw [h33]; exact Bool.false_ne_true), if_neg (by rw [h41]; exact Bool.false_ne_true), if_neg (by rw [h48]; exact Bool.false_ne_true)]
  refine kgx ?_
  refine S_makeMap 51 51 (fun l : List UInt8 => str l) rfl rfl rfl rfl ?_
  intro b51
  refine sr 1 ?_
  refine sgx ?_
  refine S_nilSlice 914 (e := 63) (size := 3) ?_
  refine sr 1 ?_
  refine sgs ?_
  refine tx ?_
  refine sr 1 ?_
  refine s1 (yA 6 rfl Tryz.underlying36 sz36) ?_
  refine S_callN 54 [(901, 901), (902, 902), (950, 950)] [(906, 906)] (X := FndR) rfl rfl rfl rfl rfl rfl rfl cf56 rfl (fun z => .slice z.A z.l.length z.c) (fun z => FndP x m z) (fun z => [(901, ixBox b bm), (902, ixMap bm m), (950, .many rs), (906, ownEv z.A z.c z.l)]) (fun _ => rfl) (fun _ => rfl) (fun K1 hK1 w1 hM => found_any hK1 b bm m rs x w1 hix hok (cond_ch h24) hmx hM) ?_
  rintro z hz
  have hzl := hz.len
  have hzo := fnd_ok hix hz
  have hzv : ∀ e ∈ z.l, (valsE e by_ nm).length ≤ 11 := fun e he => vals_11 (hzo e he) (hpe e (List.mem_filter.1 (hz.1.subset he)).1)
  refine s1 (y_len_slice rfl rfl Tryz.underlying25) ?_
  refine sr 1 ?_
  refine sgo ?_
  refine T_block ?_
  refine lK4 (kf := [(14, 14), (16, 16), (18, 20), (56, 106)]) (kl := [(14, 14), (16, 16), (18, 20), (51, 51), (56, 106), (914, 914)]) (fun (i : Nat) (A : Option Addr) (c : Nat) (out : List Fac) => [(56, true, .int .i64 (i : Int)), (14, true, .slice A out.length c)]) (fun (i : Nat) (A : Option Addr) (c : Nat) (out : List Fac) => [(51, .blk b51 (IsMap str (numK out 0))), (914, .own 63 3 (.slice A out.length c) out.length (out.flatMap Fac.enc))]) (fun (i : Nat) (A : Option Addr) (c : Nat) (out : List Fac) => i ≤ z.l.length ∧ out = facL (prsE (z.l.take i) by_ nm)) (fun (i : Nat) (A : Option Addr) (c : Nat) (out : List Fac) => z.l.length - i) 0 none 0 [] ?_ ?_ ?_ ?_
  · exact ⟨by omega, rfl⟩
  · exact ⟨rfl, rfl, trivial⟩
  · exact ⟨rfl, rfl, trivial⟩
  rintro i A c out ⟨hp1, hp2⟩
  refine tx ?_
  refine sr 1 ?_
  refine sgs ?_
  refine T_cond rfl ?_ ?_ <;> intro h57
  · try simp only [nrm] at h57
    obtain ⟨e, he⟩ : ∃ e, z.l[i]? = some e := ⟨_, List.getElem?_eq_getElem (by omega)⟩
    have hez := List.mem_of_getElem? he
    have hem : e ∈ m := (List.mem_filter.1 (hz.1.subset hez)).1
    obtain ⟨hlv, hwt, hat, hfq⟩ := evNo_lv (hzo e hez)
    have htk := take_snocI he
    have hv11 := hzv e hez
    refine kgs ?_
    refine T_block ?_
    refine tx ?_
    refine s1 (y_indexOwn 906 rfl rfl rfl rfl Tryz.underlying25 sz31 (fun _ => by omega)) ?_
    refine s1 (y_loadO 906 rfl rfl rfl rfl (fun _ => rfl) (fun _ => he) Tryz.underlying31 rfl sz31) ?_
    refine S_alloc 16 16 rfl rfl rfl rfl z31 ?_
    intro b16
    refine S_store 16 rfl rfl rfl rfl rfl rfl sz31 rfl rfl ?_
    refine sgx ?_
    refine s1 (yA 16 rfl Tryz.underlying31 sz31) ?_
    refine sr 2 ?_
    refine S_callOwn 63 63 rfl rfl rfl rfl rfl rfl rfl cf68 (fun A c => .slice A ((valsE e by_ nm).length) c) 9 1 ((valsE e by_ nm).length) ((valsE e by_ nm).flatMap strE) (fun w1 hM => values_any e by_ nm w1 ((hix.ok e hem).2.at hM 950 rfl) hlv hfq) ?_
    intro A63 c63
    refine s1 (y_len_slice rfl rfl Tryz.underlying49) ?_
    refine sr 1 ?_
    refine sgo ?_
    refine T_block ?_
    refine lK4 (kf := [(14, 14), (18, 20), (65, 105)]) (kl := [(14, 14), (18, 20), (51, 51), (65, 105), (914, 914)]) (fun (k : Nat) (A : Option Addr) (c : Nat) (out : List Fac) => [(65, true, .int .i64 (k : Int)), (14, true, .slice A out.length c)]) (fun (k : Nat) (A : Option Addr) (c : Nat) (out : List Fac) => [(51, .blk b51 (IsMap str (numK out 0))), (914, .own 63 3 (.slice A out.length c) out.length (out.flatMap Fac.enc))]) (fun (k : Nat) (A : Option Addr) (c : Nat) (out : List Fac) => k ≤ (valsE e by_ nm).length ∧ out = facL (prsK (z.l.take i) e k by_ nm)) (fun (k : Nat) (A : Option Addr) (c : Nat) (out : List Fac) => (valsE e by_ nm).length - k) 0 A c out ?_ ?_ ?_ ?_
    · exact ⟨by omega, by rw [prsK_0]; exact hp2⟩
    · exact ⟨rfl, rfl, trivial⟩
    · exact ⟨rfl, rfl, trivial⟩
    rintro k A2 c2 out ⟨hq1, hq2⟩
    refine tx ?_
    refine sr 1 ?_
    refine sgs ?_
    refine T_cond rfl ?_ ?_ <;> intro h66
    · try simp only [nrm] at h66
      obtain ⟨v, hv⟩ : ∃ v, (valsE e by_ nm)[k]? = some v := ⟨_, List.getElem?_eq_getElem (by omega)⟩
      have hol := facL_len (prsK (z.l.take i) e k by_ nm)
      have hpl := prsK_len (k := k) (take_ok hzv i) hv11
      rw [List.length_take] at hpl
      have hlim := facL_le (prsK_wt (k := k) (by_ := by_) (nm := nm) (take_ok (fun a ha => (evNo_lv (hzo a ha)).2.1) i) hwt)
      have hnx := prsK_next (L := z.l.take i) hv
      rw [← hq2] at hol hlim hnx
      refine kgs ?_
      refine T_block ?_
      refine tx ?_
      refine s1 (y_indexOwn 63 rfl rfl rfl rfl Tryz.underlying49 sz9 (fun _ => by omega)) ?_
      refine s1 (y_loadO1 63 (val := (fun l : List UInt8 => str l)) rfl rfl rfl rfl (fun _ => hv) Tryz.underlying9 rfl) ?_
      refine sr 1 ?_
      refine sgx ?_
      refine sr 2 ?_
      refine s1 (y_as (v' := .tuple #[.int .i64 ((((posF out v 0).getD 0 : Nat)) : Int), .bool (posF out v 0).isSome]) (by exact num_val v out) (y_lookup2 51 (enc := fun l : List UInt8 => str l) rfl rfl rfl rfl Tryz.underlying119 Tryz.underlying9 rfl same_str z3)) ?_
      refine sr 5 ?_
      refine sgs ?_
      refine tx ?_
      refine sr 2 ?_
      refine sgo ?_
      refine T_cond rfl ?_ ?_ <;> intro h76
      · skip
        have hp0 : posF out v 0 = none := by simpa using h76
        obtain ⟨O, hO⟩ : ∃ O, out ++ [(⟨v, 0, 0⟩ : Fac)] = O := ⟨_, rfl⟩
        have hOl : O.length = out.length + 1 := by rw [← hO, List.length_append]; rfl
        have hOj : O[out.length]? = some ⟨v, 0, 0⟩ := by rw [← hO]; simp
        have hOn : addF out v e.wt = O.set out.length ⟨v, 0 + 1, 0 + e.wt⟩ := by rw [← hO, pos_none hp0, Int.zero_add, Int.zero_add]; simp
        have hOj2 := set_get (b := (⟨v, 0 + 1, 0⟩ : Fac)) hOj
        have hnum : numK (addF out v e.wt) 0 = numK O 0 := by rw [hOn, numK_set (v := v) (f := ⟨v, 0, 0⟩) (g := ⟨v, 0 + 1, 0 + e.wt⟩) rfl hOj]
        have hmp : mput (numK out 0) v (.int .i64 ((out.length : Nat) : Int)) = numK O 0 := by rw [← hO, ← mput_num (a := 0) (b := 0) hp0]; rfl
        have hall : (addF out v e.wt).length = O.length := by rw [hOn, List.length_set]
        refine tx ?_
        refine sr 1 ?_
        refine s1 (y_len_slice rfl rfl Tryz.underlying56) ?_
        refine sr 1 ?_
        refine sgx ?_
        refine sr 3 ?_
        refine S_mapUpdate 51 (enc := fun l : List UInt8 => str l) rfl rfl rfl rfl rfl rfl rfl Tryz.underlying119 Tryz.underlying9 rfl same_str fits_str (hmp) ?_
        refine sgr ?_
        refine sr 2 ?_
        refine s1 (y_build (zv := .agg #[.string ⟨#[]⟩, .int .i64 0, .int .i64 0]) (pl := [(0, 1), (1, 1), (2, 1)]) (out := [_, .int .i64 0, .int .i64 0]) rfl rfl Tryz.underlying63 z63 (by kernel_rfl) rfl) ?_
        refine S_buildSlice 85 85 rfl rfl rfl rfl rfl Tryz.underlying56 inf63 rfl (by decide) (by decide) rfl rfl (by decide) rfl (_) rfl ?_
        intro b85
        obtain ⟨i86, hi86, hz86, hs86, hy86⟩ := info_parts inf63
        refine S_append 86 914 85 rfl rfl rfl rfl rfl rfl rfl rfl Tryz.underlying56 hi86 hz86 hs86 hy86 rfl (by decide) (by decide) rfl ?_ ?_ (O.length) (O.flatMap Fac.enc) ?_ ?_ ?_
        · (simp only [maxLen]; omega)
        · omega
        · omega
        · rw [← hO, List.flatMap_append]; rfl
        intro A86 c86
        refine sr 1 ?_
        refine sgx ?_
        refine sr 1 ?_
        refine s1 (y_as (v' := .int .i64 ((out.length : Nat) : Int)) (by exact rfl) (y_move rfl rfl)) ?_
        refine s1 (y_indexOwn 914 rfl rfl rfl rfl Tryz.underlying56 sz63 (fun _ => by omega)) ?_
        refine s1 (y_fieldOwn 914 rfl rfl rfl (fun _ => by omega) fa63_1) ?_
        refine s1 (y_load_cellOwn 914 rfl rfl rfl (fun _ => by omega) (fun _ => flat_at (enc := Fac.enc) (size := 3) (fun _ => rfl) hOj 1 (.int .i64 0) rfl) Tryz.underlying3 rfl) ?_
        refine s1 (y_bin rfl rfl rfl (fun hg => b_add (by omega))) ?_
        refine s1 (y_indexOwn 914 rfl rfl rfl rfl Tryz.underlying56 sz63 (fun _ => by omega)) ?_
        refine s1 (y_fieldOwn 914 rfl rfl rfl (fun _ => by omega) fa63_1) ?_
        refine S_storeOwn 914 rfl rfl rfl rfl rfl rfl sz3 rfl rfl ?_ (xs' := (O.set out.length ⟨v, 0 + 1, 0⟩).flatMap Fac.enc) ?_ ?_
        · (rw [flat_lenN (enc := Fac.enc) (size := 3) (fun _ => rfl)]; omega)
        · exact flat_set (enc := Fac.enc) (size := 3) (off := 1) (fun _ => rfl) hOj (by decide) rfl
        refine sgo ?_
        refine T_drawsTail 10 (by kernel_rfl) (by kernel_rfl) ?_
        refine d1 (y_move rfl rfl) ?_
        refine d1 (y_as (v' := .int .i64 ((out.length : Nat) : Int)) (by exact rfl) (y_move rfl rfl)) ?_
        refine d1 (y_indexOwn 914 rfl rfl rfl rfl Tryz.underlying56 sz63 (fun _ => by omega)) ?_
        refine d1 (y_fieldOwn 914 rfl rfl rfl (fun _ => by omega) fa63_2) ?_
        refine d1 (y_load_cellOwn 914 rfl rfl rfl (fun _ => by omega) (fun _ => flat_at (enc := Fac.enc) (size := 3) (fun _ => rfl) hOj2 2 (.int .i64 0) rfl) Tryz.underlying3 rfl) ?_
        refine d1 (yF fa31_8) ?_
        refine d1 (yL 16 Tryz.underlying3) ?_
        refine d1 (y_bin rfl rfl rfl (fun hg => b_add (by omega))) ?_
        refine d1 (y_indexOwn 914 rfl rfl rfl rfl Tryz.underlying56 sz63 (fun _ => by omega)) ?_
        refine d1 (y_fieldOwn 914 rfl rfl rfl (fun _ => by omega) fa63_2) ?_
        refine D_tail ?_
        refine S_storeOwn 914 rfl rfl rfl rfl rfl rfl sz3 rfl rfl ?_ (xs' := (addF out v e.wt).flatMap Fac.enc) ?_ ?_
        · (rw [flat_lenN (enc := Fac.enc) (size := 3) (fun _ => rfl), List.length_set]; omega)
        · rw [hOn, ← List.set_set (b := (⟨v, 0 + 1, 0 + e.wt⟩ : Fac)) (a := (⟨v, 0 + 1, 0⟩ : Fac))]; exact flat_set (enc := Fac.enc) (size := 3) (off := 2) (fun _ => rfl) hOj2 (by decide) rfl
        refine sgr ?_
        refine s1 (y_bin rfl rfl rfl (fun hg => b_add (by omega))) ?_
        refine sr 1 ?_
        refine S_nil (nS4 (kf := [(14, 14), (18, 20), (65, 105)]) (kl := [(14, 14), (18, 20), (51, 51), (65, 105), (914, 914)]) (k + 1) A86 c86 (addF out v e.wt) ?_ ?_ ?_ ?_)
        · omega
        · exact ⟨by omega, hnx.symm⟩
        · rw [hall]; exact ⟨rfl, rfl, trivial⟩
        · rw [hall, hnum]; exact ⟨rfl, rfl, trivial⟩
      have h76 : (posF out v 0).isSome = true := by simpa using h76
      obtain ⟨n, hp0⟩ := Option.isSome_iff_exists.1 h76
      obtain ⟨j, f, hnj, hj, hfv, hset⟩ := pos_some hp0
      have hjn : j = n := by omega
      subst hjn
      obtain ⟨⟨hf1, hf2⟩, hf3, hf4⟩ := hlim f (List.mem_of_getElem? hj)
      have hjl := (List.getElem?_eq_some_iff.1 hj).1
      have hj2 := set_get (b := (⟨f.v, f.n + 1, f.s⟩ : Fac)) hj
      have hset := hset e.wt
      have hnum : numK (addF out v e.wt) 0 = numK out 0 := by rw [hset, numK_set (v := v) (f := f) hfv.symm hj]
      have hall : (addF out v e.wt).length = out.length := by rw [hset, List.length_set]
      refine kgx ?_
      refine sr 1 ?_
      refine s1 (y_as (v' := .int .i64 ((j : Nat) : Int)) (by rw [hp0]; rfl) (y_move rfl rfl)) ?_
      refine s1 (y_indexOwn 914 rfl rfl rfl rfl Tryz.underlying56 sz63 (fun _ => by omega)) ?_
      refine s1 (y_fieldOwn 914 rfl rfl rfl (fun _ => by omega) fa63_1) ?_
      refine s1 (y_load_cellOwn 914 rfl rfl rfl (fun _ => by omega) (fun _ => flat_at (enc := Fac.enc) (size := 3) (fun _ => rfl) hj 1 (.int .i64 f.n) rfl) Tryz.underlying3 rfl) ?_
      refine s1 (y_bin rfl rfl rfl (fun hg => b_add (by omega))) ?_
      refine s1 (y_indexOwn 914 rfl rfl rfl rfl Tryz.underlying56 sz63 (fun _ => by omega)) ?_
      refine s1 (y_fieldOwn 914 rfl rfl rfl (fun _ => by omega) fa63_1) ?_
      refine S_storeOwn 914 rfl rfl rfl rfl rfl rfl sz3 rfl rfl ?_ (xs' := (out.set j ⟨f.v, f.n + 1, f.s⟩).flatMap Fac.enc) ?_ ?_
      · (rw [flat_lenN (enc := Fac.enc) (size := 3) (fun _ => rfl)]; omega)
      · exact flat_set (enc := Fac.enc) (size := 3) (off := 1) (fun _ => rfl) hj (by decide) rfl
      refine sgo ?_
      refine T_drawsTail 10 (by kernel_rfl) (by kernel_rfl) ?_
      refine d1 (y_move rfl rfl) ?_
      refine d1 (y_as (v' := .int .i64 ((j : Nat) : Int)) (by rw [hp0]; rfl) (y_move rfl rfl)) ?_
      refine d1 (y_indexOwn 914 rfl rfl rfl rfl Tryz.underlying56 sz63 (fun _ => by omega)) ?_
      refine d1 (y_fieldOwn 914 rfl rfl rfl (fun _ => by omega) fa63_2) ?_
      refine d1 (y_load_cellOwn 914 rfl rfl rfl (fun _ => by omega) (fun _ => flat_at (enc := Fac.enc) (size := 3) (fun _ => rfl) hj2 2 (.int .i64 f.s) rfl) Tryz.underlying3 rfl) ?_
      refine d1 (yF fa31_8) ?_
      refine d1 (yL 16 Tryz.underlying3) ?_
      refine d1 (y_bin rfl rfl rfl (fun hg => b_add (by omega))) ?_
      refine d1 (y_indexOwn 914 rfl rfl rfl rfl Tryz.underlying56 sz63 (fun _ => by omega)) ?_
      refine d1 (y_fieldOwn 914 rfl rfl rfl (fun _ => by omega) fa63_2) ?_
      refine D_tail ?_
      refine S_storeOwn 914 rfl rfl rfl rfl rfl rfl sz3 rfl rfl ?_ (xs' := (addF out v e.wt).flatMap Fac.enc) ?_ ?_
      · (rw [flat_lenN (enc := Fac.enc) (size := 3) (fun _ => rfl), List.length_set]; omega)
      · rw [hset, ← List.set_set (b := (⟨v, f.n + 1, f.s + e.wt⟩ : Fac)) (a := (⟨f.v, f.n + 1, f.s⟩ : Fac)), ← hfv]; exact flat_set (enc := Fac.enc) (size := 3) (off := 2) (fun _ => rfl) hj2 (by decide) rfl
      refine sgr ?_
      refine s1 (y_bin rfl rfl rfl (fun hg => b_add (by omega))) ?_
      refine sr 1 ?_
      refine S_nil (nS4 (kf := [(14, 14), (18, 20), (65, 105)]) (kl := [(14, 14), (18, 20), (51, 51), (65, 105), (914, 914)]) (k + 1) A2 c2 (addF out v e.wt) ?_ ?_ ?_ ?_)
      · omega
      · exact ⟨by omega, hnx.symm⟩
      · rw [hall]; exact ⟨rfl, rfl, trivial⟩
      · rw [hall, hnum]; exact ⟨rfl, rfl, trivial⟩
    try simp only [nrm] at h66
    have hpa := prsK_all (L := z.l.take i) (e := e) (k := k) (by_ := by_) (nm := nm) (by omega)
    rw [← htk] at hpa
    rw [hpa] at hq2
    refine egr ?_
    refine s1 (y_bin rfl rfl rfl (fun hg => b_add (by omega))) ?_
    refine sr 1 ?_
    refine S_nil (nS4 (kf := [(14, 14), (16, 16), (18, 20), (56, 106)]) (kl := [(14, 14), (16, 16), (18, 20), (51, 51), (56, 106), (914, 914)]) (i + 1) A2 c2 out ?_ ?_ ?_ ?_)
    · omega
    · exact ⟨by omega, hq2⟩
    · exact ⟨rfl, rfl, trivial⟩
    · exact ⟨rfl, rfl, trivial⟩
  try simp only [nrm] at h57
  refine T_cap 914 rfl fun hcap => ?_
  have hol := facL_len (prsE (z.l.take i) by_ nm)
  rw [← hp2] at hol
  have hpl := prsE_len (take_ok hzv i)
  rw [List.length_take] at hpl
  refine egx ?_
  refine sr 1 ?_
  refine S_callM 108 [(0, 914)] (X := List Fac) rfl rfl rfl rfl rfl rfl rfl cf69 rfl (fun _ => .tuple #[]) (fun l => l = pdqL cmpF out) (fun l => [(0, .own 63 3 (.slice A out.length c) out.length (l.flatMap Fac.enc))]) (fun _ => rfl) (fun _ => rfl) (fun K1 hK1 w1 hM => SortF_any hK1 A out.length c out w1 rfl (by omega) hM) ?_
  intro sl hsl
  have hsll : sl.length = out.length := by rw [hsl, (pdqL_facts (swo3 cmp3_F) out).1.length_eq]
  refine sgx ?_
  refine sr 2 ?_
  refine s1 (y_len_slice rfl rfl Tryz.underlying56) ?_
  refine sr 1 ?_
  refine s1 (y_as (v' := .int .i64 ((min k0 out.length : Nat) : Int)) (by congr 1; split <;> omega) (y_min rfl rfl rfl)) ?_
  refine s1 (y_slice rfl rfl Tryz.underlying56 sz63 (.inl ⟨rfl, rfl⟩) (.inr ⟨_, _, rfl, rfl⟩) (by omega) (by omega) (by omega)) ?_
  refine S_callOwn 115 915 rfl rfl rfl rfl rfl rfl rfl cf71 (fun A c => .slice A (min k0 out.length) c) 63 3 (min k0 out.length) ((sl.take (min k0 out.length)).flatMap Fac.enc) (fun w1 hM => CloneFc_any _ _ _ _ w1 ((owned_T (enc := Fac.enc) hM hsll (i := 914) rfl).cut (fun _ => rfl) (Nat.zero_le _) (Nat.min_le_right _ _) hcap) (by omega)) ?_
  intro A115 c115
  refine sr 2 ?_
  refine sgo ?_
  refine tr2 hRb fun w hM => ?_
  have e5 : sl = facS (prsE (filI x m) by_ nm) := by rw [hsl, hp2, List.take_of_length_le (by omega), ← facS_perm (prsE_perm hz.1 by_ nm)]; rfl
  have e2 : facR x by_ nm k0 m = sl.take (min k0 out.length) := by
    rw [facR, if_pos hno, ← e5, ← hsll, List.take_eq_take_min]
    congr 1
  have e3 : (sl.take (min k0 out.length)).length = min k0 out.length := by rw [List.length_take, hsll]; omega
  rw [hno, e2]
  refine ⟨(A115, c115), by rw [e3], trivial, ?_⟩
  have e9 : ownFc A115 c115 (sl.take (min k0 out.length)) = .own 63 3 (.slice A115 (min k0 out.length) c115) (min k0 out.length) ((sl.take (min k0 out.length)).flatMap Fac.enc) := by unfold ownFc; rw [e3]
  show Mem w0 ([_, _, _, (915, ownFc A115 c115 (sl.take (min k0 out.length)))] ++ K) _
  rw [e9]
  exact hM.keep (ks := [(0, 999)]) (by repeat (first | exact kl_rest (by assumption) rfl | (apply kl_in; focus rfl))) _ ⟨rfl, rfl, rfl, rfl, trivial⟩
end Go.Proofs.YtekbcbjimajnfaaGreatDoor
end
section
namespace Go.Proofs.YtekbcbjimajnfaaGreatDoor
set_option linter.unusedSimpArgs false
set_option linter.unusedVariables false
set_option maxRecDepth 20000
open Go.RowKit Go.Eng
theorem fromK_nil : FromK [] := fun i p h => by cases h
theorem copyB (e : Evt) (w : World) (he : e.Ok w) (hn : LenE e) :
    Calls Tryz.prog 45 #[e.val] w fun en w' => ∃ z : CopyR, en = .returned (z.evt e).val ∧ (ContE (z.evt e) e ∧ OkE (z.evt e) ∧ z.rs = z.gs.map frRow) ∧ Mem w (backL [(8, 908), (900, 960), (35, 935), (39, 939)] (z.L e)) w' :=
  (CopyD_any fromK_nil e w he ⟨hn.fq.1, hn.tq.1, hn.cq.1, fun f hf => (hn.fa f hf).2.1⟩ (Mem.start w)).mono fun en w' ⟨z, h1, ⟨h2, h3, h4, _⟩, h5⟩ => by
    have hce : ContE (z.evt e) e := ⟨rfl, rfl, rfl, rfl, rfl, rfl, h2, rfl, rfl, rfl, rfl, rfl⟩
    have hb := Mem.back (L := []) [(8, 908), (900, 960), (35, 935), (39, 939)] rfl rfl rfl h5
    rw [List.append_nil] at hb
    exact ⟨z, h1, ⟨hce, (OkE.of he).cont hce h3, h4⟩, hb⟩
theorem lenE_zero : LenE evZM := ⟨Nat.zero_le _, (fun _ h => by cases h), (fun _ h => by cases h), (fun _ h => by cases h), ⟨Nat.zero_le _, rfl⟩, ⟨Nat.zero_le _, rfl⟩, ⟨Nat.zero_le _, rfl⟩⟩
theorem ge_ok {w0 w : World} {L : HL} {rs : List Row} {m : List Evt} (h : IxOk w0 rs m) (hM : Mem w0 L w) (hL : L.get 950 = some (.many rs)) (k : List UInt8) : (geI m k).Ok w ∧ LenE (geI m k) := by
  unfold geI
  cases hg : getI m k with
  | none => exact ⟨evZM_ok w, lenE_zero⟩
  | some e =>
    obtain ⟨h1, h2⟩ := h.ok e (getI_mem hg).1
    have h3 := h2.at hM 950 hL
    exact ⟨h3, LenE.of h1 (OkE.of h3)⟩
structure GetR where
  ev : Evt
  rs : List Row
def GetP (w0 : World) (m : List Evt) (k : List UInt8) (z : GetR) : Prop := ContE z.ev (geI m k) ∧ Sees w0 z.rs fun w => z.ev.Ok w
set_option maxHeartbeats 1600000 in
theorem Get_any {w0 : World} {K : HL} (hK : FromK K) (b bm : Nat) (m : List Evt) (rs : List Row) (k : List UInt8) (w : World) (hix : IxOk w0 rs m) (hM0 : Mem w0 ([(901, ixBox b bm), (902, ixMap bm m), (950, .many rs)] ++ K) w) :
    Calls Tryz.prog 14 #[.pointer (some ⟨b, 0, none⟩), str k] w fun en w' => ∃ z : GetR, en = .returned (.tuple #[z.ev.val, .bool (hasI m k)]) ∧ GetP w0 m k z ∧ Mem w0 ([(901, ixBox b bm), (902, ixMap bm m), (950, .many rs), (960, .many z.rs)] ++ K) w' := by
  obtain ⟨g, hg⟩ : ∃ g, geI m k = g := ⟨_, rfl⟩
  refine enterM_args (args := [.pointer (some ⟨b, 0, none⟩), str k]) (F := _) hM0 Tryz.func14 rfl Tryz.ntmps14 rfl rfl ?_
  intro Rb hRb hRn
  refine tx ?_
  refine S_alloc 4 4 rfl rfl rfl rfl z31 ?_
  intro b4
  refine sr 1 ?_
  refine sgx ?_
  refine sr 1 ?_
  refine s1 (y_nilCheck rfl rfl) ?_
  refine s1 (yF fa89_0) ?_
  refine s1 (yL 901 Tryz.underlying87) ?_
  refine sr 1 ?_
  refine s1 (y_as (v' := .tuple #[g.val, .bool (hasI m k)]) (by rw [mgetB, ← hg]; exact congrArg (fun v => Value.tuple #[v, .bool (hasI m k)]) (mgetV m k)) (y_lookup2 902 (enc := fun l : List UInt8 => str l) rfl rfl rfl rfl Tryz.underlying87 Tryz.underlying9 rfl same_str z31)) ?_
  refine sr 1 ?_
  refine s1 (y_as (v' := .agg #[str g.id, .int .i64 g.at_, .int .i64 g.lv, .slice g.fa.A g.fa.q g.fa.c, .slice g.ta.A g.ta.q g.ta.c, .slice g.cr.A g.cr.q g.cr.c, str g.rel, str g.us, .int .i64 g.wt]) (by exact rfl) (y_extract rfl rfl rfl)) ?_
  refine sr 1 ?_
  refine S_alloc 6 6 rfl rfl rfl rfl z31 ?_
  intro b6
  refine S_store 6 rfl rfl rfl rfl rfl rfl sz31 rfl rfl ?_
  refine sr 1 ?_
  refine sgx ?_
  refine s1 (yA 6 rfl Tryz.underlying31 sz31) ?_
  refine S_callB 18 rfl rfl rfl rfl rfl rfl rfl cf45 (fun z : CopyR => (z.evt g).val) (fun z : CopyR => ContE (z.evt g) g ∧ OkE (z.evt g) ∧ z.rs = z.gs.map frRow) (fun z : CopyR => backL [(8, 908), (900, 960), (35, 935), (39, 939)] (z.L g)) (fun w1 hM => copyB g w1 (hg ▸ ge_ok hix hM rfl k).1 (hg ▸ ge_ok hix hM rfl k).2) ?_
  rintro z ⟨hz1, hz2, hz3⟩
  refine sr 1 ?_
  refine S_store 4 rfl rfl rfl rfl rfl rfl sz31 rfl rfl ?_
  refine sr 1 ?_
  refine sgo ?_
  refine T_ret (fun a w hF hM => hRb a w (post_cell 4 rfl rfl rfl rfl Tryz.underlying31 rfl (by exact sz31) (fun w hM => ?_) a w hF hM))
  have hM := hM.bankK (ks := [(960, 960), (908, 908)]) (m := 960) (i := 908) rfl rfl rfl (by repeat (first | exact kl_nil | exact kl_rest (by assumption) rfl | (apply kl_in; focus rfl) | (apply kl_out; focus rfl))) rfl
  have hM := hM.bankK (ks := [(960, 960), (935, 935)]) (m := 960) (i := 935) rfl rfl rfl (by repeat (first | exact kl_nil | exact kl_rest (by assumption) rfl | (apply kl_in; focus rfl) | (apply kl_out; focus rfl))) rfl
  have hM := hM.bankK (ks := [(960, 960), (939, 939)]) (m := 960) (i := 939) rfl rfl rfl (by repeat (first | exact kl_nil | exact kl_rest (by assumption) rfl | (apply kl_in; focus rfl) | (apply kl_out; focus rfl))) rfl
  exact ⟨⟨z.evt g, rsEv (z.evt g)⟩, rfl, ⟨by rw [hg]; exact hz1, sees_ev hz2⟩, hM.keep (ks := [(0, 999)]) (by repeat (first | exact kl_rest (by assumption) rfl | (apply kl_in; focus rfl))) _ ⟨rfl, rfl, rfl, by rw [hz3]; rfl, trivial⟩⟩
end Go.Proofs.YtekbcbjimajnfaaGreatDoor
end
section
namespace Go.Proofs.YtekbcbjimajnfaaGreatDoor
set_option linter.unusedSimpArgs false
set_option linter.unusedVariables false
set_option maxRecDepth 20000
open Go.RowKit Go.Eng
def CopyR.LR (z : CopyR) (e : Evt) : HL := [(6, .own 100 3 (.slice z.A e.fa.q z.c) e.fa.q (z.gs.flatMap Flt.enc)), (900, .many z.rs), (9, .own 92 2 (.slice z.B e.ta.q z.b) e.ta.q (e.ta.l.flatMap STag.enc)), (12, .own 95 3 (.slice z.D e.cr.q z.d) e.cr.q (e.cr.l.flatMap SCrumb.enc))]
set_option maxHeartbeats 1600000 in
theorem RCopied_any {w0 : World} {K : HL} (hK : FromK K) (e : Evt) (w : World) (he : e.Ok w0) (hn : e.fa.q ≤ 1000 ∧ e.ta.q ≤ 1000 ∧ e.cr.q ≤ 1000 ∧ ∀ f ∈ e.fa.l, f.fr.q ≤ 1000) (hM0 : Mem w0 ([] ++ K) w) :
    Calls Tryz.prog 11 #[e.val] w fun en w' => ∃ z : CopyR, en = .returned (z.evt e).val ∧ (z.gs.map Flt.cont = e.fa.l.map Flt.cont ∧ (∀ f ∈ z.gs, f.fr.q = f.fr.l.length) ∧ z.rs = z.gs.map frRow) ∧ Mem w0 (z.LR e ++ K) w' := by
  have hfa := he.fa
  have hft := hfa.ok.t
  have hfl := hft.len
  obtain ⟨hn1, hn2, hn3, hn4⟩ := hn
  refine enterM_args (args := [.agg #[str e.id, .int .i64 e.at_, .int .i64 e.lv, .slice e.fa.A e.fa.q e.fa.c, .slice e.ta.A e.ta.q e.ta.c, .slice e.cr.A e.cr.q e.cr.c, str e.rel, str e.us, .int .i64 e.wt]]) (F := _) hM0 Tryz.func11 rfl Tryz.ntmps11 rfl rfl ?_
  intro Rb hRb hRn
  refine tx ?_
  refine S_box 1 1 rfl rfl rfl rfl rfl ?_
  intro b1
  refine S_alloc 2 2 rfl rfl rfl rfl z31 ?_
  intro b2
  refine sgs ?_
  refine T_perm [0, 1, 3, 4, 6, 7, 2, 9, 5, 8, 10, 11, 12, 13, 14] [true, true, false, true, true, false, true, true, false, true, false, true, false, true, false] [0, 1, 3, 0, 8, 31, 0, 64, 255, 223, 1023, 2047, 4095, 8191, 16383] [(1, [1]), (4, [1]), (7, [1])] (by kernel_rfl) (by kernel_rfl) (by kernel_rfl) rfl (by kernel_rfl) ?_
  refine Rf_ 0 4 rfl rfl rfl rfl rfl _ trivial (Y.z (yF fa31_3) rfl) ?_
  refine Rf_ 1 5 rfl rfl rfl rfl rfl _ ⟨rfl, trivial⟩ (Y.z (yL 1 Tryz.underlying27) rfl) ?_
  refine Rf_ 3 7 rfl rfl rfl rfl rfl _ trivial (Y.z (yF fa31_4) rfl) ?_
  refine Rf_ 4 8 rfl rfl rfl rfl rfl _ ⟨rfl, trivial⟩ (Y.z (yL 1 Tryz.underlying28) rfl) ?_
  refine Rf_ 6 10 rfl rfl rfl rfl rfl _ trivial (Y.z (yF fa31_5) rfl) ?_
  refine Rf_ 7 11 rfl rfl rfl rfl rfl _ ⟨rfl, trivial⟩ (Y.z (yL 1 Tryz.underlying29) rfl) ?_
  refine R_chain 2 rfl rfl ?_
  refine S_callOwn 6 6 rfl rfl rfl rfl rfl rfl rfl cf46 (fun A c => .slice A (e.fa.q) c) 100 3 (e.fa.q) (e.fa.l.flatMap Flt.enc) (fun w hM => CloneFlt_any e.fa w (hfa.ok.below hM.below) (by omega)) ?_
  intro A6 c6
  refine R_next ⟨.inl rfl, .inr ⟨rfl, trivial⟩, .inr ⟨rfl, trivial⟩, trivial⟩ ?_
  refine Rf_ 9 13 rfl rfl rfl rfl rfl _ trivial (Y.z (yF fa31_3) rfl) ?_
  refine R_chain 5 rfl rfl ?_
  refine S_callOwn 9 9 rfl rfl rfl rfl rfl rfl rfl cf47 (fun A c => .slice A (e.ta.q) c) 92 2 (e.ta.q) (e.ta.l.flatMap STag.enc) (fun w hM => CloneTag_any e.ta w (he.ta.ok.below hM.below) (by omega)) ?_
  intro A9 c9
  refine R_next ⟨.inl rfl, .inl rfl, .inr ⟨rfl, trivial⟩, trivial⟩ ?_
  refine R_chain 8 rfl rfl ?_
  refine S_callOwn 12 12 rfl rfl rfl rfl rfl rfl rfl cf48 (fun A c => .slice A (e.cr.q) c) 95 3 (e.cr.q) (e.cr.l.flatMap SCrumb.enc) (fun w hM => CloneCrumb_any e.cr w (he.cr.ok.below hM.below) (by omega)) ?_
  intro A12 c12
  refine R_next ⟨.inl rfl, .inl rfl, .inl rfl, trivial⟩ ?_
  refine R_chain 10 rfl rfl ?_
  refine S_store 1 rfl rfl rfl rfl rfl rfl sz27 rfl rfl ?_
  refine R_next ⟨.inl rfl, .inl rfl, .inl rfl, trivial⟩ ?_
  refine Rf_ 11 14 rfl rfl rfl rfl rfl _ trivial (Y.z (yF fa31_4) rfl) ?_
  refine R_chain 12 rfl rfl ?_
  refine S_store 1 rfl rfl rfl rfl rfl rfl sz28 rfl rfl ?_
  refine R_next ⟨.inl rfl, .inl rfl, .inl rfl, trivial⟩ ?_
  refine Rf_ 13 15 rfl rfl rfl rfl rfl _ trivial (Y.z (yF fa31_5) rfl) ?_
  refine R_chain 14 rfl rfl ?_
  refine S_store 1 rfl rfl rfl rfl rfl rfl sz29 rfl rfl ?_
  refine R_next ⟨.inl rfl, .inl rfl, .inl rfl, trivial⟩ ?_
  refine R_go (fun _ _ h => h) ?_
  refine T_seq ?_
  refine tx ?_
  refine S_many0 900 ?_
  refine s1 (yF fa31_3) ?_
  refine s1 (yL 1 Tryz.underlying27) ?_
  refine s1 (y_len_slice rfl rfl Tryz.underlying27) ?_
  refine sr 1 ?_
  refine sgo ?_
  refine T_block ?_
  refine lK3 (kf := [(3, 3), (19, 34)]) (kl := [(3, 3), (6, 6), (19, 34), (900, 900)]) (fun (i : Nat) (gs : List Flt) (rs : List Row) => [(19, true, .int .i64 (i : Int))]) (fun (i : Nat) (gs : List Flt) (rs : List Row) => [(6, .own 100 3 (.slice A6 e.fa.q c6) e.fa.q ((gs ++ e.fa.l.drop i).flatMap Flt.enc)), (900, .many rs)]) (fun (i : Nat) (gs : List Flt) (rs : List Row) => i ≤ e.fa.q ∧ gs.length = i ∧ gs.map Flt.cont = (e.fa.l.take i).map Flt.cont ∧ (∀ f ∈ gs, f.fr.q = f.fr.l.length) ∧ rs = gs.map frRow) (fun (i : Nat) (gs : List Flt) (rs : List Row) => e.fa.q - i) 0 [] [] ?_ ?_ ?_ ?_
  · exact ⟨by omega, rfl, rfl, fun _ h => by simp at h, rfl⟩
  · exact ⟨rfl, trivial⟩
  · exact ⟨rfl, rfl, trivial⟩
  rintro i gs rs ⟨hp1, hp2, hp3, hp4, hp5⟩
  refine tx ?_
  refine sr 1 ?_
  refine sgs ?_
  refine T_cond rfl ?_ ?_ <;> intro h20
  · try simp only [nrm] at h20
    refine T_some 6 rfl fun hA6 => ?_
    obtain ⟨x, hx1, hx2⟩ := hft.at (i := i) (by omega)
    have hxf := (hfa.n x (mem_at hx1)).fr
    have hxq := hn4 x (mem_at hx1)
    refine kgs ?_
    refine T_block ?_
    refine tx ?_
    refine sr 2 ?_
    refine sgo ?_
    refine T_perm [0, 1, 2, 3, 4, 5, 6, 7, 8, 9, 10, 11, 12] [true, true, true, true, true, true, true, true, true, false, true, true, false] [0, 1, 0, 0, 8, 0, 56, 120, 248, 504, 1023, 2047, 4095] [(1, [1]), (4, [1]), (7, [6]), (8, [6]), (11, [6])] (by kernel_rfl) (by kernel_rfl) (by kernel_rfl) rfl (by kernel_rfl) ?_
    refine Rf_ 0 22 rfl rfl rfl rfl rfl _ trivial (Y.z (yF fa31_3) rfl) ?_
    refine Rf_ 1 23 rfl rfl rfl rfl rfl _ ⟨rfl, trivial⟩ (Y.z (yL 1 Tryz.underlying27) rfl) ?_
    refine Rf_ 2 24 rfl rfl rfl rfl rfl _ trivial (Y.z (y_move rfl rfl) rfl) ?_
    refine Rf_ 3 25 rfl rfl rfl rfl rfl _ trivial (Y.z (yF fa31_3) rfl) ?_
    refine Rf_ 4 26 rfl rfl rfl rfl rfl _ ⟨rfl, trivial⟩ (Y.z (yL 1 Tryz.underlying27) rfl) ?_
    refine Rf_ 5 27 rfl rfl rfl rfl rfl _ trivial (Y.z (y_move rfl rfl) rfl) ?_
    refine Rf_ 6 28 rfl rfl rfl rfl rfl _ trivial (Y.z (y_indexAddr rfl rfl rfl Tryz.underlying27 sz100 (fun hg => hA6 (by omega)) (fun _ => by omega)) rfl) ?_
    refine Rf_ 7 29 rfl rfl rfl rfl rfl _ ⟨rfl, trivial⟩ (Y.z (y_fieldOwn 6 rfl rfl rfl (fun _ => by omega) fa100_2) rfl) ?_
    refine Rf_ 8 30 rfl rfl rfl rfl rfl _ ⟨rfl, trivial⟩ (Y.z (y_load_cellOwn 6 rfl rfl rfl (fun _ => by omega) (fun _ => flat_at (enc := Flt.enc) (size := 3) (fun _ => rfl) (at_next hp2 hx2) 2 (.slice x.fr.A x.fr.q x.fr.c) rfl) Tryz.underlying98 rfl) rfl) ?_
    refine R_chain 9 rfl rfl ?_
    refine S_callOwn 31 31 rfl rfl rfl rfl rfl rfl rfl cf49 (fun A c => .slice A (x.fr.q) c) 105 6 (x.fr.q) (x.fr.l.flatMap Frm.enc) (fun w hM => CloneF_any x.fr w (hxf.ok.below hM.below) (by omega)) ?_
    intro A31 c31
    refine R_next ⟨.inr ⟨rfl, trivial⟩, .inl rfl, .inl rfl, .inl rfl, .inl rfl, trivial⟩ ?_
    refine Rf_ 10 32 rfl rfl rfl rfl rfl _ trivial (Y.z (y_indexAddr rfl rfl rfl Tryz.underlying27 sz100 (fun hg => hA6 (by omega)) (fun _ => by omega)) rfl) ?_
    refine Rf_ 11 33 rfl rfl rfl rfl rfl _ ⟨rfl, trivial⟩ (Y.z (y_fieldOwn 6 rfl rfl rfl (fun _ => by omega) fa100_2) rfl) ?_
    refine R_chain 12 rfl rfl ?_
    refine S_storeOwn 6 rfl rfl rfl rfl rfl rfl sz98 rfl rfl ?_ (xs' := ((gs ++ [(⟨x.k, x.t, (⟨A31, x.fr.q, c31, x.fr.l⟩ : Sl Frm)⟩ : Flt)]) ++ e.fa.l.drop (i + 1)).flatMap Flt.enc) ?_ ?_
    · (rw [flat_lenN (enc := Flt.enc) (size := 3) (fun _ => rfl)]; simp; omega)
    · rw [← set_next hp2 hx2]; exact flat_set (enc := Flt.enc) (size := 3) (off := 2) (fun _ => rfl) (at_next hp2 hx2) (by decide) rfl
    refine R_next ⟨.inl rfl, .inl rfl, .inl rfl, .inl rfl, .inl rfl, trivial⟩ ?_
    refine R_go (fun _ _ h => h) ?_
    refine T_region ?_
    refine s1 (y_bin rfl rfl rfl (fun hg => b_add (by omega))) ?_
    refine sr 1 ?_
    refine S_bank [(31, 31), (900, 900)] 900 31 rfl rfl rfl rfl (by repeat (first | exact kl_nil | exact kl_rest (by assumption) rfl | (apply kl_in; focus rfl) | (apply kl_out; focus rfl))) ?_
    refine S_nil (nK3 (kf := [(3, 3), (19, 34)]) (kl := [(3, 3), (6, 6), (19, 34), (900, 900)]) (i + 1) (gs ++ [(⟨x.k, x.t, (⟨A31, x.fr.q, c31, x.fr.l⟩ : Sl Frm)⟩ : Flt)]) (rs ++ [⟨105, 6, .slice A31 x.fr.q c31, x.fr.q, x.fr.l.flatMap Frm.enc⟩]) ?_ ?_ ?_ ?_)
    · omega
    · exact ⟨by omega, by simp [hp2], by rw [List.map_append, hp3, take_at hx1, List.map_append]; rfl, fun f hf => by
        rcases List.mem_append.1 hf with h | h
        · exact hp4 f h
        · simp only [List.mem_singleton] at h
          subst h
          exact hxf.ok.t.len.symm, by rw [List.map_append, hp5]; rfl⟩
    · exact ⟨rfl, trivial⟩
    · exact ⟨rfl, rfl, trivial⟩
  try simp only [nrm] at h20
  refine egx ?_
  refine s1 (yA 1 rfl Tryz.underlying31 sz31) ?_
  refine S_store 2 rfl rfl rfl rfl rfl rfl sz31 rfl rfl ?_
  refine sgo ?_
  refine T_ret (fun a w hF hM => hRb a w (post_cell1 2 rfl rfl rfl Tryz.underlying31 rfl (by exact sz31) (fun w hM => ?_) a w hF hM))
  exact ⟨⟨A6, c6, gs, rs, A9, c9, A12, c12⟩, rfl, ⟨by rw [hp3, List.take_of_length_le (by omega)], hp4, hp5⟩, hM.keep (ks := [(0, 999)]) (by repeat (first | exact kl_rest (by assumption) rfl | (apply kl_in; focus rfl))) _ ⟨by rw [hft.end (by omega : e.fa.q ≤ i), List.append_nil]; rfl, rfl, rfl, rfl, trivial⟩⟩
end Go.Proofs.YtekbcbjimajnfaaGreatDoor
end
