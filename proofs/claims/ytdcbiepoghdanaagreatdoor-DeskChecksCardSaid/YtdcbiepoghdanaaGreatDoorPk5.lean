/- Part 5, merged by a program. A house's setup: Check and SetupFault; a gate, a watch, a box are made. Conditions: those of each theorem. A new house: what it is made of; its moment, its groups, its releases. Conditions: those of each theorem. -/
import Derived.Test.YtdcbiepoghdanaaGreatDoorPk4
section
namespace Go.Proofs.YtdcbiepoghdanaaGreatDoor
set_option linter.unusedSimpArgs false
set_option linter.unusedVariables false
set_option maxRecDepth 20000
open Go.RowKit Go.Eng
structure SSt where
  cl : Sl SRl
  gr : Sl SGr
  qt : Sl SQt
  rt : Sl SRt
  al : Sl SAl
  m : Int
  wt : Int
  ag : Int
  tr : Int
  ow : Sl SOwner
  ds : Int
def SSt.enc (s : SSt) : List Value := [.slice s.cl.A s.cl.q s.cl.c, .slice s.gr.A s.gr.q s.gr.c, .slice s.qt.A s.qt.q s.qt.c, .slice s.rt.A s.rt.q s.rt.c, .slice s.al.A s.al.q s.al.c, .int .i64 s.m, .int .i64 s.wt, .int .i64 s.ag, .int .i64 s.tr, .slice s.ow.A s.ow.q s.ow.c, .int .i64 s.ds]
def SSt.val (s : SSt) : Value := .agg s.enc.toArray
structure StOk (w : World) (s : SSt) : Prop where
  cl : RlsOk w s.cl
  gr : GrsOk w s.gr
  qt : QtsOk w s.qt
  rt : RtsOk w s.rt
  al : AlsOk w s.al
  ow : OwnsOk w s.ow
theorem StOk.below {w w' : World} {s : SSt} (h : StOk w s) (hb : Below w.heap.size w w') : StOk w' s := ⟨h.cl.below hb, h.gr.below hb, h.qt.below hb, h.rt.below hb, h.al.below hb, h.ow.below hb⟩
def dysNo (d : Int) : Int := if outI d 1 3660 = true then 2 else 0
def setupNo (s : SSt) : Int := fst (clearNo s.cl) (fst (groupsNo s.gr) (fst (fst (quotasNo s.qt) (ratesNo s.rt)) (fst (alertsNo s.al) (fst (planNo s.m s.wt s.ag s.tr) (fst (ownersNo s.ow) (dysNo s.ds))))))
theorem CloneQt_any (l : Sl SQt) (w : World) (hl : l.Ok SQt.enc 5 w) (hq : l.q ≤ 1000000) :
    Calls Tryz.prog 126 #[.slice l.A l.q l.c] w fun e w' => ∃ A c, e = .returned (.slice A l.q c) ∧ w'.ownsRow w.heap.size 162 5 (.slice A l.q c) l.q (l.l.flatMap SQt.enc) ∧ Below w.heap.size w w' := by
  have hlen := hl.t.len
  refine enter_args (args := [.slice l.A l.q l.c]) (F := _) Tryz.func126 rfl Tryz.ntmps126 rfl rfl ?_
  intro Rb hRb hRn
  refine T_seq ?_
  refine T_region ?_
  refine S_nilSlice 2 (e := 162) (size := 5) ?_
  refine S_ 2 rfl rfl rfl _ (y_assign rfl rfl) ?_
  refine S_go (fun _ _ h => h) ?_
  refine T_seq ?_
  refine T_seq ?_
  refine T_region ?_
  refine S_ 3 rfl rfl rfl _ (y_move rfl rfl) ?_
  refine S_ 4 rfl rfl rfl _ (y_bin rfl rfl rfl (fun _ => b_eqln Tryz.underlying45)) ?_
  refine S_go (fun _ _ h => h) ?_
  refine T_cond rfl (fun h4 => ?_) (fun h4 => ?_)
  · skip
    refine T_seq ?_
    refine T_region ?_
    refine S_nilSlice 2 (e := 162) (size := 5) ?_
    refine S_ 2 rfl rfl rfl _ (y_assign rfl rfl) ?_
    refine S_go (fun _ _ h => h) ?_
    refine T_ret (fun a w hF hM => hRb a w (post1 rfl rfl (fun w hM => ?_) a w hF hM))
    have hA : l.A = none := by cases h : l.A with
      | none => rfl
      | some a => rw [h] at h4; cases h4
    have h0 : l.q = 0 := by
      rcases Nat.eq_zero_or_pos l.q with h | h
      · exact h
      · have := hl.t.isSome h; rw [hA] at this; cases this
    have hn : l.l = [] := List.eq_nil_of_length_eq_zero (by omega)
    rw [h0, hn]
    exact ⟨none, 0, rfl, World.ownsRow_nil _ _ _ _, hM.below⟩
  · skip
    refine T_skip_go (fun _ _ h => h) ?_
    refine T_seq ?_
    refine T_region ?_
    refine S_buildSlice0 5 5 rfl rfl rfl rfl Tryz.underlying45 sz162 ?_
    intro b5
    refine S_ 6 rfl rfl rfl _ (y_move rfl rfl) ?_
    obtain ⟨i7, hi7, hz7, hs7, hy7⟩ := info_parts inf162
    refine S_appendG 7 5 (news := l.l.flatMap SQt.enc) rfl rfl rfl rfl rfl rfl rfl (fun w hM => hl.t.rd.below hM.below) Tryz.underlying45 hi7 hz7 hs7 hy7 rfl (by decide) (allOne_of (fun u hu => by obtain ⟨a, _, ha⟩ := List.mem_flatMap.1 hu; simp [SQt.enc] at ha; rcases ha with rfl | rfl | rfl | rfl | rfl <;> rfl)) ?_ ?_ (l.q) (l.l.flatMap SQt.enc) ?_ ?_ ?_
    · (simp only [maxLen]; omega)
    · omega
    · omega
    · rfl
    intro A7 c7
    refine S_ 2 rfl rfl rfl _ (y_assign rfl rfl) ?_
    refine S_go (fun _ _ h => h) ?_
    refine T_ret (fun a w hF hM => hRb a w (post1 rfl rfl (fun w hM => ?_) a w hF hM))
    exact ⟨A7, c7, rfl, hM.sat 5 _ rfl, hM.below⟩
/-! ### A gate -/
theorem Rates_any {w0 : World} {K : HL} (hK : FromK K) (b : Nat) (v0 v1 v2 v4 : Value) (at_ : Int) (l : Sl SRt) (w : World) (hl : RtsOk w0 l) (hM0 : Mem w0 ([(901, .blk b (IsBox [v0, v1, v2, .int .i64 at_, v4] 183))] ++ K) w) :
    Calls Tryz.prog 127 #[.pointer (some ⟨b, 0, none⟩), .slice l.A l.q l.c] w fun e w' => ∃ z : Value, e = .returned (.int .i64 (ratesNo l)) ∧ True ∧ Mem w0 ([(901, .blk b (IsBox [v0, v1, z, .int .i64 at_, v4] 183))] ++ K) w' := by
  have ht := hl.ok.t
  have hq := hl.q
  refine enterM_args (args := [.pointer (some ⟨b, 0, none⟩), .slice l.A l.q l.c]) (F := _) hM0 Tryz.func127 rfl Tryz.ntmps127 rfl rfl ?_
  intro Rb hRb hRn
  refine T_seq ?_
  refine T_region ?_
  refine S_ 4 rfl rfl rfl _ (y_assign rfl rfl) ?_
  refine S_go (fun _ _ h => h) ?_
  refine T_seq ?_
  refine T_seq ?_
  refine T_region ?_
  refine S_ 8 rfl rfl rfl _ (y_move rfl rfl) ?_
  refine S_ 9 rfl rfl rfl _ (y_call rfl rfl rfl cf190 (fun _ w1 hM => checkRates_any l w1 (hl.below hM.below))) ?_
  refine S_ 5 rfl rfl rfl _ (y_assign rfl rfl) ?_
  refine S_go (fun _ _ h => h) ?_
  refine T_seq ?_
  refine T_region ?_
  refine S_ 10 rfl rfl rfl _ (y_move rfl rfl) ?_
  refine S_ 11 rfl rfl rfl _ (y_bin rfl rfl rfl (fun _ => b_neq)) ?_
  refine S_go (fun _ _ h => h) ?_
  refine T_cond rfl (fun h11 => ?_) (fun h11 => ?_)
  · skip
    have h11 : ¬ ratesNo l = 0 := by simpa using h11
    refine T_seq ?_
    refine T_region ?_
    refine S_ 12 rfl rfl rfl _ (y_move rfl rfl) ?_
    refine S_ 4 rfl rfl rfl _ (y_assign rfl rfl) ?_
    refine S_go (fun _ _ h => h) ?_
    refine T_ret (fun a w hF hM => hRb a w (post1 rfl rfl (fun w hM => ?_) a w hF hM))
    exact ⟨v2, rfl, trivial, hM.keep (ks := [(0, 999)]) (by repeat (first | exact kl_rest (by assumption) rfl | (apply kl_in; focus rfl))) _ ⟨rfl, trivial⟩⟩
  · skip
    have h11 : ratesNo l = 0 := by simpa using h11
    refine T_skip_go (fun _ _ h => h) ?_
    refine T_seq ?_
    refine T_region ?_
    refine S_ 13 rfl rfl rfl _ (y_move rfl rfl) ?_
    refine S_makeMap 14 14 (fun l : List UInt8 => str l) rfl rfl rfl rfl ?_
    intro b14
    refine S_ 15 rfl rfl rfl _ (y_nilCheck rfl rfl) ?_
    refine S_ 16 rfl rfl rfl _ (y_fieldAddr rfl rfl fa183_2) ?_
    refine S_store 901 rfl rfl rfl rfl rfl rfl sz145 rfl rfl ?_
    refine S_go (fun _ _ h => h) ?_
    refine T_seq ?_
    refine T_seq ?_
    refine T_region ?_
    refine S_ 17 rfl rfl rfl _ (y_move rfl rfl) ?_
    refine S_ 18 rfl rfl rfl _ (y_len_slice rfl rfl Tryz.underlying46) ?_
    refine S_ 19 rfl rfl rfl _ (y_move rfl rfl) ?_
    refine S_go (fun _ _ h => h) ?_
    refine T_block ?_
    refine T_loopK2 (kf := [(7, 7), (19, 31)]) (kl := [(7, 7), (14, 14), (19, 31)]) (fun (i : Nat) (E : List (List UInt8 × Value)) => [(19, true, .int .i64 (i : Int))]) (fun (i : Nat) (E : List (List UInt8 × Value)) => [(14, .blk b14 (IsMap (fun l : List UInt8 => str l) E))]) (fun (i : Nat) (E : List (List UInt8 × Value)) => i ≤ l.q) (fun (i : Nat) (E : List (List UInt8 × Value)) => l.q - i) 0 [] (by repeat (first | exact kf_nil | (apply kf_in; focus rfl) | (apply kf_out; focus rfl))) (by repeat (first | exact kl_nil | exact kl_rest (by assumption) rfl | (apply kl_in; focus rfl) | (apply kl_out; focus rfl))) ?_ ?_ ?_ ?_
    · omega
    · exact ⟨rfl, trivial⟩
    · exact ⟨rfl, trivial⟩
    rintro i E hp1
    refine T_seq ?_
    refine T_region ?_
    refine S_ 20 rfl rfl rfl _ (y_bin rfl rfl rfl (fun _ => b_lss)) ?_
    refine S_go (fun _ _ h => h) ?_
    refine T_seq ?_
    refine T_cond rfl (fun h20 => ?_) (fun h20 => ?_)
    · try simp only [decide_eq_true_eq, decide_eq_false_iff_not, Bool.or_eq_true, Bool.or_eq_false_iff, Bool.and_eq_true, Bool.and_eq_false_iff, Bool.not_eq_true', Bool.not_eq_false', Bool.not_eq_true, Bool.not_eq_false, Bool.not_true, Bool.not_false, Int.not_lt, Int.not_le, not_or, not_and, Classical.not_not] at h20
      obtain ⟨x, hx1, hx2⟩ := ht.at (i := i) (by omega)
      refine T_skip_go (fun _ _ h => h) ?_
      refine T_seq ?_
      refine T_block ?_
      refine T_seq ?_
      refine T_region ?_
      refine S_ 21 rfl rfl rfl _ (y_indexAddr rfl rfl rfl Tryz.underlying46 sz167 (fun hg => ht.isSome (by omega)) (fun _ => by omega)) ?_
      refine S_ 22 rfl rfl rfl _ (y_loadT rfl rfl ht (fun _ => rfl) (fun _ => hx1) Tryz.underlying167 rfl sz167) ?_
      refine S_alloc 7 7 rfl rfl rfl rfl z167 ?_
      intro b7
      refine S_store 7 rfl rfl rfl rfl rfl rfl sz167 rfl rfl ?_
      refine S_go (fun _ _ h => h) ?_
      refine T_drawsTail 8 (by kernel_rfl) (by kernel_rfl) ?_
      refine D_ 23 rfl rfl rfl _ (y_move rfl rfl) ?_
      refine D_ 24 rfl rfl rfl _ (y_nilCheck rfl rfl) ?_
      refine D_ 25 rfl rfl rfl _ (y_fieldAddr rfl rfl fa183_2) ?_
      refine D_ 26 rfl rfl rfl _ (y_load 901 rfl rfl rfl rfl Tryz.underlying145 rfl) ?_
      refine D_ 27 rfl rfl rfl _ (y_fieldAddr rfl rfl fa167_0) ?_
      refine D_ 28 rfl rfl rfl _ (y_load 7 rfl rfl rfl rfl Tryz.underlying9 rfl) ?_
      refine D_ 29 rfl rfl rfl _ (y_fieldAddr rfl rfl fa167_1) ?_
      refine D_ 30 rfl rfl rfl _ (y_load 7 rfl rfl rfl rfl Tryz.underlying3 rfl) ?_
      refine D_tail ?_
      refine S_mapUpdate 14 (enc := fun l : List UInt8 => str l) rfl rfl rfl rfl rfl rfl rfl Tryz.underlying145 Tryz.underlying9 rfl same_str fits_str (rfl) ?_
      refine S_go (fun _ _ h => h) ?_
      refine T_region ?_
      refine S_ 31 rfl rfl rfl _ (y_bin rfl rfl rfl (fun hg => b_add (by omega))) ?_
      refine S_ 19 rfl rfl rfl _ (y_move rfl rfl) ?_
      refine S_nil (nextK2 (kf := [(7, 7), (19, 31)]) (kl := [(7, 7), (14, 14), (19, 31)]) (i + 1) (mput E x.ky (.int .i64 x.kp)) (by repeat (first | exact kf_nil | (apply kf_in; focus rfl) | (apply kf_out; focus rfl))) (by repeat (first | exact kl_nil | exact kl_rest (by assumption) rfl | (apply kl_in; focus rfl) | (apply kl_out; focus rfl))) ?_ ?_ ?_ ?_)
      · omega
      · omega
      · exact ⟨rfl, trivial⟩
      · exact ⟨rfl, trivial⟩
    · try simp only [decide_eq_true_eq, decide_eq_false_iff_not, Bool.or_eq_true, Bool.or_eq_false_iff, Bool.and_eq_true, Bool.and_eq_false_iff, Bool.not_eq_true', Bool.not_eq_false', Bool.not_eq_true, Bool.not_eq_false, Bool.not_true, Bool.not_false, Int.not_lt, Int.not_le, not_or, not_and, Classical.not_not] at h20
      refine T_exit_go (fun _ _ h => h) ?_
      refine T_seq ?_
      refine T_region ?_
      refine S_ 4 rfl rfl rfl _ (y_assign rfl rfl) ?_
      refine S_go (fun _ _ h => h) ?_
      refine T_ret (fun a w hF hM => hRb a w (post1 rfl rfl (fun w hM => ?_) a w hF hM))
      exact ⟨_, by rw [h11], trivial, hM.keep (ks := [(0, 999)]) (by repeat (first | exact kl_rest (by assumption) rfl | (apply kl_in; focus rfl))) _ ⟨rfl, trivial⟩⟩
theorem bfull_any (sz ad ev at_ : Int) (w : World) : Calls Tryz.prog 129 #[.agg #[.int .i64 sz, .int .i64 ad, .int .i64 ev], .int .i64 at_] w fun e w' => e = .returned (.agg #[.int .i64 sz, .int .i64 at_, .int .i64 0]) ∧ Below w.heap.size w w' := by
  refine enter_args (args := [.agg #[.int .i64 sz, .int .i64 ad, .int .i64 ev], .int .i64 at_]) (F := _) Tryz.func129 rfl Tryz.ntmps129 rfl rfl ?_
  intro Rb hRb hRn
  refine T_seq ?_
  refine T_region ?_
  refine S_box 2 2 rfl rfl rfl rfl rfl ?_
  intro b2
  refine S_alloc 4 4 rfl rfl rfl rfl z185 ?_
  intro b4
  refine S_go (fun _ _ h => h) ?_
  refine T_seq ?_
  refine T_region ?_
  refine S_ 5 rfl rfl rfl _ (y_fieldAddr rfl rfl fa160_0) ?_
  refine S_ 6 rfl rfl rfl _ (y_load 2 rfl rfl rfl rfl Tryz.underlying3 rfl) ?_
  refine S_ 7 rfl rfl rfl _ (y_move rfl rfl) ?_
  refine S_ 8 rfl rfl rfl _ (y_build (zv := .agg #[.int .i64 0, .int .i64 0, .int .i64 0]) (pl := [(0, 1), (1, 1), (2, 1)]) (out := [_, _, .int .i64 0]) rfl rfl Tryz.underlying185 z185 (by kernel_rfl) rfl) ?_
  refine S_store 4 rfl rfl rfl rfl rfl rfl sz185 rfl rfl ?_
  refine S_go (fun _ _ h => h) ?_
  refine T_ret (fun a w hF hM => hRb a w (post_cell1 4 rfl rfl rfl Tryz.underlying185 rfl (by exact sz185) (fun w hM => ?_) a w hF hM))
  exact ⟨rfl, hM.below⟩
theorem rtmom_any (n : Int) (w : World) : Calls Tryz.prog 128 #[.int .i64 n] w fun e w' => e = .returned (.bool (!outI n 0 3155759999)) ∧ Below w.heap.size w w' := by
  refine enter_args (args := [.int .i64 n]) (F := _) Tryz.func128 rfl Tryz.ntmps128 rfl rfl ?_
  intro Rb hRb hRn
  refine T_seq ?_
  refine T_region ?_
  refine S_ 2 rfl rfl rfl _ (y_assign rfl rfl) ?_
  refine S_go (fun _ _ h => h) ?_
  refine T_seq ?_
  refine T_region ?_
  refine S_ 3 rfl rfl rfl _ (y_move rfl rfl) ?_
  refine S_ 4 rfl rfl rfl _ (y_call rfl rfl rfl cf191 (fun _ w _ => rtout_any _ _ _ w)) ?_
  refine S_ 5 rfl rfl rfl _ (y_not rfl rfl) ?_
  refine S_ 2 rfl rfl rfl _ (y_assign rfl rfl) ?_
  refine S_go (fun _ _ h => h) ?_
  refine T_ret (fun a w hF hM => hRb a w (post1 rfl rfl (fun w hM => ?_) a w hF hM))
  exact ⟨rfl, hM.below⟩
theorem almom_any (n : Int) (w : World) : Calls Tryz.prog 139 #[.int .i64 n] w fun e w' => e = .returned (.bool (!outI n 0 3155759999)) ∧ Below w.heap.size w w' := by
  refine enter_args (args := [.int .i64 n]) (F := _) Tryz.func139 rfl Tryz.ntmps139 rfl rfl ?_
  intro Rb hRb hRn
  refine T_seq ?_
  refine T_region ?_
  refine S_ 2 rfl rfl rfl _ (y_assign rfl rfl) ?_
  refine S_go (fun _ _ h => h) ?_
  refine T_seq ?_
  refine T_region ?_
  refine S_ 3 rfl rfl rfl _ (y_move rfl rfl) ?_
  refine S_ 4 rfl rfl rfl _ (y_call rfl rfl rfl cf131 (fun _ w _ => alout_any _ _ _ w)) ?_
  refine S_ 5 rfl rfl rfl _ (y_not rfl rfl) ?_
  refine S_ 2 rfl rfl rfl _ (y_assign rfl rfl) ?_
  refine S_go (fun _ _ h => h) ?_
  refine T_ret (fun a w hF hM => hRb a w (post1 rfl rfl (fun w hM => ?_) a w hF hM))
  exact ⟨rfl, hM.below⟩
theorem dkmom_any (n : Int) (w : World) : Calls Tryz.prog 66 #[.int .i64 n] w fun e w' => e = .returned (.bool (!outI n 0 3155759999)) ∧ Below w.heap.size w w' := by
  refine enter_args (args := [.int .i64 n]) (F := _) Tryz.func66 rfl Tryz.ntmps66 rfl rfl ?_
  intro Rb hRb hRn
  refine T_seq ?_
  refine T_region ?_
  refine S_ 2 rfl rfl rfl _ (y_assign rfl rfl) ?_
  refine S_go (fun _ _ h => h) ?_
  refine T_seq ?_
  refine T_region ?_
  refine S_ 3 rfl rfl rfl _ (y_move rfl rfl) ?_
  refine S_ 4 rfl rfl rfl _ (y_call rfl rfl rfl cf65 (fun _ w _ => dkout_any _ _ _ w)) ?_
  refine S_ 5 rfl rfl rfl _ (y_not rfl rfl) ?_
  refine S_ 2 rfl rfl rfl _ (y_assign rfl rfl) ?_
  refine S_go (fun _ _ h => h) ?_
  refine T_ret (fun a w hF hM => hRb a w (post1 rfl rfl (fun w hM => ?_) a w hF hM))
  exact ⟨rfl, hM.below⟩
abbrev lvE (at_ : Int) (n : Int) : List Value := [.int .i64 n, .int .i64 at_, .int .i64 0]
theorem quotas_q {l : Sl SQt} (h : quotasNo l = 0) : l.q ≤ 50 := by
  unfold quotasNo at h
  split at h
  · cases h
  · omega
set_option maxHeartbeats 1600000 in
theorem NewGate_any (l : Sl SQt) (rs : Sl SRt) (at_ : Int) (w : World) (hl : QtsOk w l) (hr : RtsOk w rs) (hm : outI at_ 0 3155759999 = false) :
    Calls Tryz.prog 61 #[.slice l.A l.q l.c, .slice rs.A rs.q rs.c, .int .i64 at_] w fun e w' => ∃ b : Option Addr, e = .returned (.tuple #[.pointer b, .int .i64 (fst (quotasNo l) (ratesNo rs))]) ∧ Below w.heap.size w w' := by
  have ht := hl.ok.t
  have hq := hl.q
  refine enter_args (args := [.slice l.A l.q l.c, .slice rs.A rs.q rs.c, .int .i64 at_]) (F := _) Tryz.func61 rfl Tryz.ntmps61 rfl rfl ?_
  intro Rb hRb hRn
  refine T_seq ?_
  refine T_region ?_
  refine S_ 6 rfl rfl rfl _ (y_assign rfl rfl) ?_
  refine S_ 7 rfl rfl rfl _ (y_assign rfl rfl) ?_
  refine S_go (fun _ _ h => h) ?_
  refine T_seq ?_
  refine T_seq ?_
  refine T_region ?_
  refine S_ 13 rfl rfl rfl _ (y_move rfl rfl) ?_
  refine S_ 14 rfl rfl rfl _ (y_call rfl rfl rfl cf125 (fun _ w1 hM => CheckQuotas_any l w1 (hl.below hM.below))) ?_
  refine S_ 8 rfl rfl rfl _ (y_assign rfl rfl) ?_
  refine S_go (fun _ _ h => h) ?_
  refine T_seq ?_
  refine T_region ?_
  refine S_ 15 rfl rfl rfl _ (y_move rfl rfl) ?_
  refine S_ 16 rfl rfl rfl _ (y_bin rfl rfl rfl (fun _ => b_neq)) ?_
  refine S_go (fun _ _ h => h) ?_
  refine T_cond rfl (fun h16 => ?_) (fun h16 => ?_)
  · skip
    have h16 : ¬ quotasNo l = 0 := by simpa using h16
    refine T_seq ?_
    refine T_region ?_
    refine S_ 17 rfl rfl rfl _ (y_move rfl rfl) ?_
    refine S_ 6 rfl rfl rfl _ (y_assign rfl rfl) ?_
    refine S_ 7 rfl rfl rfl _ (y_assign rfl rfl) ?_
    refine S_go (fun _ _ h => h) ?_
    refine T_ret (fun a w hF hM => hRb a w (post2 rfl rfl rfl (fun w hM => ?_) a w hF hM))
    exact ⟨none, by rw [fst_t h16], hM.below⟩
  · skip
    have h16 : quotasNo l = 0 := by simpa using h16
    refine T_skip_go (fun _ _ h => h) ?_
    refine T_seq ?_
    refine T_region ?_
    refine S_ 18 rfl rfl rfl _ (y_move rfl rfl) ?_
    refine S_callOwn 19 19 rfl rfl rfl rfl rfl rfl rfl cf126 (fun A c => .slice A (l.q) c) 162 5 (l.q) (l.l.flatMap SQt.enc) (fun w1 hM => CloneQt_any l w1 (hl.ok.below hM.below) (by have := quotas_q h16; omega)) ?_
    intro A19 c19
    refine S_ 20 rfl rfl rfl _ (y_move rfl rfl) ?_
    refine S_makeMap 21 21 (fun n : Int => Value.int .i64 n) rfl rfl rfl rfl ?_
    intro b21
    refine S_ 22 rfl rfl rfl _ (y_build (zv := .agg #[.slice none 0 0, .slice none 0 0, .map none, .int .i64 0, .map none]) (pl := [(0, 1), (1, 1), (2, 1), (3, 1), (4, 1)]) (out := [_, .slice none 0 0, .map none, _, _]) rfl rfl Tryz.underlying183 z183 (by kernel_rfl) rfl) ?_
    refine S_box 23 23 rfl rfl rfl rfl rfl ?_
    intro b23
    refine S_ 9 rfl rfl rfl _ (y_assign rfl rfl) ?_
    refine S_go (fun _ _ h => h) ?_
    refine T_seq ?_
    refine T_seq ?_
    refine T_region ?_
    refine S_ 24 rfl rfl rfl _ (y_move rfl rfl) ?_
    refine S_ 25 rfl rfl rfl _ (y_move rfl rfl) ?_
    refine S_callM 26 [(901, 23)] (X := Value) rfl rfl rfl rfl rfl rfl rfl cf127 rfl (fun _ => .int .i64 (ratesNo rs)) (fun _ => True) (fun z => [(901, .blk b23 (IsBox [.slice A19 l.q c19, .slice none 0 0, z, .int .i64 at_, .map (some b21)] 183))]) (fun _ => rfl) (fun _ => rfl) (fun K hK w1 hM => Rates_any hK b23 _ _ _ _ at_ rs w1 hr hM) ?_
    intro x26 hx26
    refine S_ 10 rfl rfl rfl _ (y_assign rfl rfl) ?_
    refine S_go (fun _ _ h => h) ?_
    refine T_seq ?_
    refine T_region ?_
    refine S_ 27 rfl rfl rfl _ (y_move rfl rfl) ?_
    refine S_ 28 rfl rfl rfl _ (y_bin rfl rfl rfl (fun _ => b_neq)) ?_
    refine S_go (fun _ _ h => h) ?_
    refine T_cond rfl (fun h28 => ?_) (fun h28 => ?_)
    · skip
      have h28 : ¬ ratesNo rs = 0 := by simpa using h28
      refine T_seq ?_
      refine T_region ?_
      refine S_ 29 rfl rfl rfl _ (y_move rfl rfl) ?_
      refine S_ 6 rfl rfl rfl _ (y_assign rfl rfl) ?_
      refine S_ 7 rfl rfl rfl _ (y_assign rfl rfl) ?_
      refine S_go (fun _ _ h => h) ?_
      refine T_ret (fun a w hF hM => hRb a w (post2 rfl rfl rfl (fun w hM => ?_) a w hF hM))
      exact ⟨none, by rw [fst_f h16], hM.below⟩
    · skip
      have h28 : ratesNo rs = 0 := by simpa using h28
      refine T_skip_go (fun _ _ h => h) ?_
      refine T_seq ?_
      refine T_seq ?_
      refine T_region ?_
      refine S_ 30 rfl rfl rfl _ (y_move rfl rfl) ?_
      refine S_ 31 rfl rfl rfl _ (y_call rfl rfl rfl cf128 (fun _ w1 _ => rtmom_any _ w1)) ?_
      refine S_ 32 rfl rfl rfl _ (y_not rfl rfl) ?_
      refine S_go (fun _ _ h => h) ?_
      refine T_cond rfl (fun h32 => ?_) (fun h32 => ?_)
      · skip
        rw [hm] at h32; cases h32
      · skip
        refine T_skip_go (fun _ _ h => h) ?_
        refine T_seq ?_
        refine T_seq ?_
        refine T_region ?_
        refine S_ 33 rfl rfl rfl _ (y_move rfl rfl) ?_
        refine S_nilSlice 919 (e := 185) (size := 3) ?_
        refine S_ 34 rfl rfl rfl _ (y_len_slice rfl rfl Tryz.underlying45) ?_
        refine S_ 35 rfl rfl rfl _ (y_move rfl rfl) ?_
        refine S_go (fun _ _ h => h) ?_
        refine T_block ?_
        refine T_loopK4 (kf := [(12, 12), (35, 52)]) (kl := [(12, 12), (23, 23), (35, 52), (919, 919)]) (fun (i : Nat) (A : Option Addr) (c : Nat) (V : List Int) => [(35, true, .int .i64 (i : Int))]) (fun (i : Nat) (A : Option Addr) (c : Nat) (V : List Int) => [(23, .blk b23 (IsBox [.slice A19 l.q c19, .slice A i c, x26, .int .i64 at_, .map (some b21)] 183)), (919, .own 185 3 (.slice A i c) i (V.flatMap (lvE at_)))]) (fun (i : Nat) (A : Option Addr) (c : Nat) (V : List Int) => i ≤ l.q ∧ V.length = i) (fun (i : Nat) (A : Option Addr) (c : Nat) (V : List Int) => l.q - i) 0 none 0 [] (by repeat (first | exact kf_nil | (apply kf_in; focus rfl) | (apply kf_out; focus rfl))) (by repeat (first | exact kl_nil | exact kl_rest (by assumption) rfl | (apply kl_in; focus rfl) | (apply kl_out; focus rfl))) ?_ ?_ ?_ ?_
        · exact ⟨by omega, rfl⟩
        · exact ⟨rfl, trivial⟩
        · exact ⟨rfl, rfl, trivial⟩
        rintro i A c V ⟨hp1, hp2⟩
        refine T_seq ?_
        refine T_region ?_
        refine S_ 36 rfl rfl rfl _ (y_bin rfl rfl rfl (fun _ => b_lss)) ?_
        refine S_go (fun _ _ h => h) ?_
        refine T_seq ?_
        refine T_cond rfl (fun h36 => ?_) (fun h36 => ?_)
        · try simp only [decide_eq_true_eq, decide_eq_false_iff_not, Bool.or_eq_true, Bool.or_eq_false_iff, Bool.and_eq_true, Bool.and_eq_false_iff, Bool.not_eq_true', Bool.not_eq_false', Bool.not_eq_true, Bool.not_eq_false, Bool.not_true, Bool.not_false, Int.not_lt, Int.not_le, not_or, not_and, Classical.not_not] at h36
          obtain ⟨x, hx1, hx2⟩ := ht.at (i := i) (by omega)
          have hq50 := quotas_q h16
          refine T_skip_go (fun _ _ h => h) ?_
          refine T_seq ?_
          refine T_block ?_
          refine T_seq ?_
          refine T_region ?_
          refine S_ 37 rfl rfl rfl _ (y_indexAddr rfl rfl rfl Tryz.underlying45 sz162 (fun hg => ht.isSome (by omega)) (fun _ => by omega)) ?_
          refine S_ 38 rfl rfl rfl _ (y_loadT rfl rfl ht (fun _ => rfl) (fun _ => hx1) Tryz.underlying162 rfl sz162) ?_
          refine S_alloc 12 12 rfl rfl rfl rfl z162 ?_
          intro b12
          refine S_store 12 rfl rfl rfl rfl rfl rfl sz162 rfl rfl ?_
          refine S_go (fun _ _ h => h) ?_
          refine T_perm [0, 1, 2, 3, 4, 5, 6, 7, 8, 9, 10, 11, 12, 13] [true, true, true, true, true, true, true, true, false, false, false, true, true, false] [0, 0, 2, 6, 14, 0, 32, 0, 224, 480, 1022, 2047, 4095, 8191] [(4, [23]), (6, [12])] (by kernel_rfl) (by kernel_rfl) (by kernel_rfl) rfl (by kernel_rfl) ?_
          refine Rf_ 0 39 rfl rfl rfl rfl rfl _ trivial (Y.z (y_move rfl rfl) rfl) ?_
          refine Rf_ 1 40 rfl rfl rfl rfl rfl _ trivial (Y.z (y_move rfl rfl) rfl) ?_
          refine Rf_ 2 41 rfl rfl rfl rfl rfl _ trivial (Z.of (z_nilCheck rfl rfl)) ?_
          refine Rf_ 3 42 rfl rfl rfl rfl rfl _ trivial (Y.z (y_fieldAddr rfl rfl fa183_1) rfl) ?_
          refine Rf_ 4 43 rfl rfl rfl rfl rfl _ ⟨rfl, trivial⟩ (Y.z (y_load 23 rfl rfl rfl rfl Tryz.underlying181 rfl) rfl) ?_
          refine Rf_ 5 44 rfl rfl rfl rfl rfl _ trivial (Y.z (y_fieldAddr rfl rfl fa162_2) rfl) ?_
          refine Rf_ 6 45 rfl rfl rfl rfl rfl _ ⟨rfl, trivial⟩ (Y.z (y_loadSub 12 2 3 (ds := [.int .i64 x.sz, .int .i64 x.ad, .int .i64 x.ev]) rfl rfl rfl rfl Tryz.underlying160 rfl sz160) rfl) ?_
          refine Rf_ 7 46 rfl rfl rfl rfl rfl _ trivial (Y.z (y_move rfl rfl) rfl) ?_
          refine R_chain 8 rfl rfl ?_
          refine S_ 47 rfl rfl rfl _ (y_call rfl rfl rfl cf129 (fun _ w1 _ => bfull_any x.sz x.ad x.ev at_ w1)) ?_
          refine R_next ⟨.inr ⟨rfl, trivial⟩, .inl rfl, trivial⟩ ?_
          refine R_chain 9 rfl rfl ?_
          refine S_buildSlice 48 48 rfl rfl rfl rfl rfl Tryz.underlying181 inf185 rfl (by decide) (by decide) rfl rfl (by decide) rfl (_) rfl ?_
          intro b48
          refine R_next ⟨.inr ⟨rfl, trivial⟩, .inl rfl, trivial⟩ ?_
          refine R_chain 10 rfl rfl ?_
          obtain ⟨i49, hi49, hz49, hs49, hy49⟩ := info_parts inf185
          refine S_append 49 919 48 rfl rfl rfl rfl rfl rfl rfl rfl Tryz.underlying181 hi49 hz49 hs49 hy49 rfl (by decide) (by decide) rfl ?_ ?_ (_) ((V ++ [x.sz]).flatMap (lvE at_)) rfl ?_ ?_
          · (simp only [maxLen]; omega)
          · omega
          · rw [List.flatMap_append]; rfl
          intro A49 c49
          refine R_next ⟨.inl rfl, .inl rfl, trivial⟩ ?_
          refine Rf_ 11 50 rfl rfl rfl rfl rfl _ trivial (Z.of (z_nilCheck rfl rfl)) ?_
          refine Rf_ 12 51 rfl rfl rfl rfl rfl _ trivial (Y.z (y_fieldAddr rfl rfl fa183_1) rfl) ?_
          refine R_chain 13 rfl rfl ?_
          refine S_store 23 rfl rfl rfl rfl rfl rfl sz181 rfl rfl ?_
          refine R_next ⟨.inl rfl, .inl rfl, trivial⟩ ?_
          refine R_go (fun _ _ h => h) ?_
          refine T_region ?_
          refine S_ 52 rfl rfl rfl _ (y_bin rfl rfl rfl (fun hg => b_add (by omega))) ?_
          refine S_ 35 rfl rfl rfl _ (y_move rfl rfl) ?_
          refine S_nil (nextK4 (kf := [(12, 12), (35, 52)]) (kl := [(12, 12), (23, 23), (35, 52), (919, 919)]) (i + 1) A49 c49 (V ++ [x.sz]) (by repeat (first | exact kf_nil | (apply kf_in; focus rfl) | (apply kf_out; focus rfl))) (by repeat (first | exact kl_nil | exact kl_rest (by assumption) rfl | (apply kl_in; focus rfl) | (apply kl_out; focus rfl))) ?_ ?_ ?_ ?_)
          · omega
          · exact ⟨by omega, by rw [List.length_append, hp2]; rfl⟩
          · exact ⟨rfl, trivial⟩
          · exact ⟨rfl, rfl, trivial⟩
        · try simp only [decide_eq_true_eq, decide_eq_false_iff_not, Bool.or_eq_true, Bool.or_eq_false_iff, Bool.and_eq_true, Bool.and_eq_false_iff, Bool.not_eq_true', Bool.not_eq_false', Bool.not_eq_true, Bool.not_eq_false, Bool.not_true, Bool.not_false, Int.not_lt, Int.not_le, not_or, not_and, Classical.not_not] at h36
          refine T_exit_go (fun _ _ h => h) ?_
          refine T_seq ?_
          refine T_region ?_
          refine S_ 53 rfl rfl rfl _ (y_move rfl rfl) ?_
          refine S_ 6 rfl rfl rfl _ (y_assign rfl rfl) ?_
          refine S_ 7 rfl rfl rfl _ (y_assign rfl rfl) ?_
          refine S_go (fun _ _ h => h) ?_
          refine T_ret (fun a w hF hM => hRb a w (post2 rfl rfl rfl (fun w hM => ?_) a w hF hM))
          exact ⟨some ⟨b23, 0, none⟩, by rw [fst_f h16, h28], hM.below⟩
/-! ### Check, SetupFault -/
set_option maxHeartbeats 1600000 in
theorem dkCheck_any (s : SSt) (w : World) (hs : StOk w s) : Calls Tryz.prog 21 #[s.val] w fun e w' => e = .returned (.int .i64 (setupNo s)) ∧ Below w.heap.size w w' := by
  refine enter_args (args := [.agg #[.slice s.cl.A s.cl.q s.cl.c, .slice s.gr.A s.gr.q s.gr.c, .slice s.qt.A s.qt.q s.qt.c, .slice s.rt.A s.rt.q s.rt.c, .slice s.al.A s.al.q s.al.c, .int .i64 s.m, .int .i64 s.wt, .int .i64 s.ag, .int .i64 s.tr, .slice s.ow.A s.ow.q s.ow.c, .int .i64 s.ds]]) (F := _) Tryz.func21 rfl Tryz.ntmps21 rfl rfl ?_
  intro Rb hRb hRn
  refine T_seq ?_
  refine T_region ?_
  refine S_box 1 1 rfl rfl rfl rfl rfl ?_
  intro b1
  refine S_ 2 rfl rfl rfl _ (y_assign rfl rfl) ?_
  refine S_go (fun _ _ h => h) ?_
  refine T_seq ?_
  refine T_seq ?_
  refine T_region ?_
  refine S_ 10 rfl rfl rfl _ (y_fieldAddr rfl rfl fa52_0) ?_
  refine S_ 11 rfl rfl rfl _ (y_load 1 rfl rfl rfl rfl Tryz.underlying43 rfl) ?_
  refine S_ 12 rfl rfl rfl _ (y_call rfl rfl rfl cf59 (fun _ w1 hM => ECheckRules_any s.cl w1 (hs.cl.below hM.below))) ?_
  refine S_ 3 rfl rfl rfl _ (y_assign rfl rfl) ?_
  refine S_go (fun _ _ h => h) ?_
  refine T_seq ?_
  refine T_region ?_
  refine S_ 13 rfl rfl rfl _ (y_move rfl rfl) ?_
  refine S_ 14 rfl rfl rfl _ (y_bin rfl rfl rfl (fun _ => b_neq)) ?_
  refine S_go (fun _ _ h => h) ?_
  refine T_cond rfl (fun h14 => ?_) (fun h14 => ?_)
  · skip
    have h14 : ¬ clearNo s.cl = 0 := by simpa using h14
    refine T_seq ?_
    refine T_region ?_
    refine S_ 15 rfl rfl rfl _ (y_move rfl rfl) ?_
    refine S_ 2 rfl rfl rfl _ (y_assign rfl rfl) ?_
    refine S_go (fun _ _ h => h) ?_
    refine T_ret (fun a w hF hM => hRb a w (post1 rfl rfl (fun w hM => ?_) a w hF hM))
    exact ⟨by rw [setupNo, fst_t h14], hM.below⟩
  · skip
    have h14 : clearNo s.cl = 0 := by simpa using h14
    refine T_skip_go (fun _ _ h => h) ?_
    refine T_seq ?_
    refine T_seq ?_
    refine T_region ?_
    refine S_ 16 rfl rfl rfl _ (y_fieldAddr rfl rfl fa52_1) ?_
    refine S_ 17 rfl rfl rfl _ (y_load 1 rfl rfl rfl rfl Tryz.underlying44 rfl) ?_
    refine S_ 18 rfl rfl rfl _ (y_call rfl rfl rfl cf60 (fun _ w1 hM => GCheckRules_any s.gr w1 (hs.gr.below hM.below))) ?_
    refine S_ 4 rfl rfl rfl _ (y_assign rfl rfl) ?_
    refine S_go (fun _ _ h => h) ?_
    refine T_seq ?_
    refine T_region ?_
    refine S_ 19 rfl rfl rfl _ (y_move rfl rfl) ?_
    refine S_ 20 rfl rfl rfl _ (y_bin rfl rfl rfl (fun _ => b_neq)) ?_
    refine S_go (fun _ _ h => h) ?_
    refine T_cond rfl (fun h20 => ?_) (fun h20 => ?_)
    · skip
      have h20 : ¬ groupsNo s.gr = 0 := by simpa using h20
      refine T_seq ?_
      refine T_region ?_
      refine S_ 21 rfl rfl rfl _ (y_move rfl rfl) ?_
      refine S_ 2 rfl rfl rfl _ (y_assign rfl rfl) ?_
      refine S_go (fun _ _ h => h) ?_
      refine T_ret (fun a w hF hM => hRb a w (post1 rfl rfl (fun w hM => ?_) a w hF hM))
      exact ⟨by rw [setupNo, fst_f h14, fst_t h20], hM.below⟩
    · skip
      have h20 : groupsNo s.gr = 0 := by simpa using h20
      refine T_skip_go (fun _ _ h => h) ?_
      refine T_seq ?_
      refine T_seq ?_
      refine T_region ?_
      refine S_ 23 rfl rfl rfl _ (y_fieldAddr rfl rfl fa52_2) ?_
      refine S_ 24 rfl rfl rfl _ (y_load 1 rfl rfl rfl rfl Tryz.underlying45 rfl) ?_
      refine S_ 25 rfl rfl rfl _ (y_fieldAddr rfl rfl fa52_3) ?_
      refine S_ 26 rfl rfl rfl _ (y_load 1 rfl rfl rfl rfl Tryz.underlying46 rfl) ?_
      refine S_call 27 (X := (Option Addr)) rfl rfl rfl rfl rfl rfl rfl cf61 (fun b => .tuple #[.pointer b, .int .i64 (fst (quotasNo s.qt) (ratesNo s.rt))]) (fun _ => True) (fun _ => _) (fun w1 hM => (NewGate_any s.qt s.rt 0 w1 (hs.qt.below hM.below) (hs.rt.below hM.below) rfl).mono fun e w2 ⟨n, h1, h3⟩ => ⟨n, h1, trivial, hM.call h3⟩) ?_
      intro x27 hx27
      refine S_ 22 rfl rfl rfl _ (y_move rfl rfl) ?_
      refine S_ 28 rfl rfl rfl _ (y_extract rfl rfl rfl) ?_
      refine S_ 29 rfl rfl rfl _ (y_as (v' := .int .i64 (fst (quotasNo s.qt) (ratesNo s.rt))) (by exact rfl) (y_extract rfl rfl rfl)) ?_
      refine S_ 5 rfl rfl rfl _ (y_assign rfl rfl) ?_
      refine S_ 6 rfl rfl rfl _ (y_assign rfl rfl) ?_
      refine S_go (fun _ _ h => h) ?_
      refine T_seq ?_
      refine T_region ?_
      refine S_ 30 rfl rfl rfl _ (y_move rfl rfl) ?_
      refine S_ 31 rfl rfl rfl _ (y_bin rfl rfl rfl (fun _ => b_neq)) ?_
      refine S_go (fun _ _ h => h) ?_
      refine T_cond rfl (fun h31 => ?_) (fun h31 => ?_)
      · skip
        have h31 : ¬ fst (quotasNo s.qt) (ratesNo s.rt) = 0 := by simpa using h31
        refine T_seq ?_
        refine T_region ?_
        refine S_ 32 rfl rfl rfl _ (y_move rfl rfl) ?_
        refine S_ 2 rfl rfl rfl _ (y_assign rfl rfl) ?_
        refine S_go (fun _ _ h => h) ?_
        refine T_ret (fun a w hF hM => hRb a w (post1 rfl rfl (fun w hM => ?_) a w hF hM))
        exact ⟨by rw [setupNo, fst_f h14, fst_f h20, fst_t h31], hM.below⟩
      · skip
        have h31 : fst (quotasNo s.qt) (ratesNo s.rt) = 0 := by simpa using h31
        refine T_skip_go (fun _ _ h => h) ?_
        refine T_seq ?_
        refine T_seq ?_
        refine T_region ?_
        refine S_ 33 rfl rfl rfl _ (y_fieldAddr rfl rfl fa52_4) ?_
        refine S_ 34 rfl rfl rfl _ (y_load 1 rfl rfl rfl rfl Tryz.underlying47 rfl) ?_
        refine S_ 35 rfl rfl rfl _ (y_call rfl rfl rfl cf62 (fun _ w1 hM => ACheckRules_any s.al w1 (hs.al.below hM.below))) ?_
        refine S_ 7 rfl rfl rfl _ (y_assign rfl rfl) ?_
        refine S_go (fun _ _ h => h) ?_
        refine T_seq ?_
        refine T_region ?_
        refine S_ 36 rfl rfl rfl _ (y_move rfl rfl) ?_
        refine S_ 37 rfl rfl rfl _ (y_bin rfl rfl rfl (fun _ => b_neq)) ?_
        refine S_go (fun _ _ h => h) ?_
        refine T_cond rfl (fun h37 => ?_) (fun h37 => ?_)
        · skip
          have h37 : ¬ alertsNo s.al = 0 := by simpa using h37
          refine T_seq ?_
          refine T_region ?_
          refine S_ 38 rfl rfl rfl _ (y_move rfl rfl) ?_
          refine S_ 2 rfl rfl rfl _ (y_assign rfl rfl) ?_
          refine S_go (fun _ _ h => h) ?_
          refine T_ret (fun a w hF hM => hRb a w (post1 rfl rfl (fun w hM => ?_) a w hF hM))
          exact ⟨by rw [setupNo, fst_f h14, fst_f h20, fst_f h31, fst_t h37], hM.below⟩
        · skip
          have h37 : alertsNo s.al = 0 := by simpa using h37
          refine T_skip_go (fun _ _ h => h) ?_
          refine T_seq ?_
          refine T_seq ?_
          refine T_region ?_
          refine S_ 39 rfl rfl rfl _ (y_fieldAddr rfl rfl fa52_5) ?_
          refine S_ 40 rfl rfl rfl _ (y_loadSub 1 5 4 (ds := [.int .i64 s.m, .int .i64 s.wt, .int .i64 s.ag, .int .i64 s.tr]) rfl rfl rfl rfl Tryz.underlying49 rfl sz49) ?_
          refine S_ 41 rfl rfl rfl _ (y_call rfl rfl rfl cf63 (fun _ w1 _ => CkPlan_any s.m s.wt s.ag s.tr w1)) ?_
          refine S_ 8 rfl rfl rfl _ (y_assign rfl rfl) ?_
          refine S_go (fun _ _ h => h) ?_
          refine T_seq ?_
          refine T_region ?_
          refine S_ 42 rfl rfl rfl _ (y_move rfl rfl) ?_
          refine S_ 43 rfl rfl rfl _ (y_bin rfl rfl rfl (fun _ => b_neq)) ?_
          refine S_go (fun _ _ h => h) ?_
          refine T_cond rfl (fun h43 => ?_) (fun h43 => ?_)
          · skip
            have h43 : ¬ planNo s.m s.wt s.ag s.tr = 0 := by simpa using h43
            refine T_seq ?_
            refine T_region ?_
            refine S_ 44 rfl rfl rfl _ (y_move rfl rfl) ?_
            refine S_ 2 rfl rfl rfl _ (y_assign rfl rfl) ?_
            refine S_go (fun _ _ h => h) ?_
            refine T_ret (fun a w hF hM => hRb a w (post1 rfl rfl (fun w hM => ?_) a w hF hM))
            exact ⟨by rw [setupNo, fst_f h14, fst_f h20, fst_f h31, fst_f h37, fst_t h43], hM.below⟩
          · skip
            have h43 : planNo s.m s.wt s.ag s.tr = 0 := by simpa using h43
            refine T_skip_go (fun _ _ h => h) ?_
            refine T_seq ?_
            refine T_seq ?_
            refine T_region ?_
            refine S_ 45 rfl rfl rfl _ (y_fieldAddr rfl rfl fa52_6) ?_
            refine S_ 46 rfl rfl rfl _ (y_load 1 rfl rfl rfl rfl Tryz.underlying50 rfl) ?_
            refine S_ 47 rfl rfl rfl _ (y_call rfl rfl rfl cf64 (fun _ w1 hM => CheckOwners_any s.ow w1 (hs.ow.below hM.below))) ?_
            refine S_ 9 rfl rfl rfl _ (y_assign rfl rfl) ?_
            refine S_go (fun _ _ h => h) ?_
            refine T_seq ?_
            refine T_region ?_
            refine S_ 48 rfl rfl rfl _ (y_move rfl rfl) ?_
            refine S_ 49 rfl rfl rfl _ (y_bin rfl rfl rfl (fun _ => b_neq)) ?_
            refine S_go (fun _ _ h => h) ?_
            refine T_cond rfl (fun h49 => ?_) (fun h49 => ?_)
            · skip
              have h49 : ¬ ownersNo s.ow = 0 := by simpa using h49
              refine T_seq ?_
              refine T_region ?_
              refine S_ 50 rfl rfl rfl _ (y_move rfl rfl) ?_
              refine S_ 2 rfl rfl rfl _ (y_assign rfl rfl) ?_
              refine S_go (fun _ _ h => h) ?_
              refine T_ret (fun a w hF hM => hRb a w (post1 rfl rfl (fun w hM => ?_) a w hF hM))
              exact ⟨by rw [setupNo, fst_f h14, fst_f h20, fst_f h31, fst_f h37, fst_f h43, fst_t h49], hM.below⟩
            · skip
              have h49 : ownersNo s.ow = 0 := by simpa using h49
              refine T_skip_go (fun _ _ h => h) ?_
              refine T_seq ?_
              refine T_seq ?_
              refine T_region ?_
              refine S_ 51 rfl rfl rfl _ (y_fieldAddr rfl rfl fa52_7) ?_
              refine S_ 52 rfl rfl rfl _ (y_load 1 rfl rfl rfl rfl Tryz.underlying3 rfl) ?_
              refine S_ 53 rfl rfl rfl _ (y_call rfl rfl rfl cf65 (fun _ w1 _ => dkout_any _ _ _ w1)) ?_
              refine S_go (fun _ _ h => h) ?_
              refine T_cond rfl (fun h53 => ?_) (fun h53 => ?_)
              · skip
                refine T_seq ?_
                refine T_region ?_
                refine S_ 2 rfl rfl rfl _ (y_assign rfl rfl) ?_
                refine S_go (fun _ _ h => h) ?_
                refine T_ret (fun a w hF hM => hRb a w (post1 rfl rfl (fun w hM => ?_) a w hF hM))
                exact ⟨by rw [setupNo, fst_f h14, fst_f h20, fst_f h31, fst_f h37, fst_f h43, fst_f h49, dysNo, if_pos h53], hM.below⟩
              · skip
                refine T_skip_go (fun _ _ h => h) ?_
                refine T_seq ?_
                refine T_region ?_
                refine S_ 2 rfl rfl rfl _ (y_assign rfl rfl) ?_
                refine S_go (fun _ _ h => h) ?_
                refine T_ret (fun a w hF hM => hRb a w (post1 rfl rfl (fun w hM => ?_) a w hF hM))
                exact ⟨by rw [setupNo, fst_f h14, fst_f h20, fst_f h31, fst_f h37, fst_f h43, fst_f h49, dysNo, if_f h53], hM.below⟩
theorem sf1_any (s : SSt) (b : Nat) (w : World) (hs : StOk w s) (h : CellsD w b s.enc) : Calls Tryz.prog 44 #[.pointer (some ⟨b, 0, none⟩)] w fun e w' => e = .returned (.int .i64 (clearNo s.cl)) ∧ Below w.heap.size w w' := by
  refine enter_args (args := [.pointer (some ⟨b, 0, none⟩)]) (F := _) Tryz.func44 rfl Tryz.ntmps44 rfl rfl ?_
  intro Rb hRb hRn
  refine T_seq ?_
  refine T_region ?_
  refine S_ 1 rfl rfl rfl _ (y_assign rfl rfl) ?_
  refine S_go (fun _ _ h => h) ?_
  refine T_seq ?_
  refine T_region ?_
  refine S_ 2 rfl rfl rfl _ (y_fieldAddr rfl rfl fa52_0) ?_
  refine S_ 3 rfl rfl rfl _ (y_load_far rfl rfl (h.one (j := 0) rfl).1 (h.one (j := 0) (cs := s.enc) rfl).2 Tryz.underlying43 rfl) ?_
  refine S_ 4 rfl rfl rfl _ (y_call rfl rfl rfl cf45 (fun _ w1 hM => RuleFaults_any s.cl w1 (hs.cl.below hM.below))) ?_
  refine S_ 1 rfl rfl rfl _ (y_assign rfl rfl) ?_
  refine S_go (fun _ _ h => h) ?_
  refine T_ret (fun a w hF hM => hRb a w (post1 rfl rfl (fun w hM => ?_) a w hF hM))
  exact ⟨rfl, hM.below⟩
theorem sf2_any (s : SSt) (b : Nat) (w : World) (hs : StOk w s) (h : CellsD w b s.enc) : Calls Tryz.prog 46 #[.pointer (some ⟨b, 0, none⟩)] w fun e w' => e = .returned (.int .i64 (groupsNo s.gr)) ∧ Below w.heap.size w w' := by
  refine enter_args (args := [.pointer (some ⟨b, 0, none⟩)]) (F := _) Tryz.func46 rfl Tryz.ntmps46 rfl rfl ?_
  intro Rb hRb hRn
  refine T_seq ?_
  refine T_region ?_
  refine S_ 1 rfl rfl rfl _ (y_assign rfl rfl) ?_
  refine S_go (fun _ _ h => h) ?_
  refine T_seq ?_
  refine T_region ?_
  refine S_ 2 rfl rfl rfl _ (y_fieldAddr rfl rfl fa52_1) ?_
  refine S_ 3 rfl rfl rfl _ (y_load_far rfl rfl (h.one (j := 1) rfl).1 (h.one (j := 1) (cs := s.enc) rfl).2 Tryz.underlying44 rfl) ?_
  refine S_ 4 rfl rfl rfl _ (y_call rfl rfl rfl cf47 (fun _ w1 hM => RulesError_any s.gr w1 (hs.gr.below hM.below))) ?_
  refine S_ 1 rfl rfl rfl _ (y_assign rfl rfl) ?_
  refine S_go (fun _ _ h => h) ?_
  refine T_ret (fun a w hF hM => hRb a w (post1 rfl rfl (fun w hM => ?_) a w hF hM))
  exact ⟨rfl, hM.below⟩
theorem sf3_any (s : SSt) (b : Nat) (w : World) (hs : StOk w s) (h : CellsD w b s.enc) : Calls Tryz.prog 48 #[.pointer (some ⟨b, 0, none⟩)] w fun e w' => e = .returned (.int .i64 (quotasNo s.qt)) ∧ Below w.heap.size w w' := by
  refine enter_args (args := [.pointer (some ⟨b, 0, none⟩)]) (F := _) Tryz.func48 rfl Tryz.ntmps48 rfl rfl ?_
  intro Rb hRb hRn
  refine T_seq ?_
  refine T_region ?_
  refine S_ 1 rfl rfl rfl _ (y_assign rfl rfl) ?_
  refine S_go (fun _ _ h => h) ?_
  refine T_seq ?_
  refine T_region ?_
  refine S_ 2 rfl rfl rfl _ (y_fieldAddr rfl rfl fa52_2) ?_
  refine S_ 3 rfl rfl rfl _ (y_load_far rfl rfl (h.one (j := 2) rfl).1 (h.one (j := 2) (cs := s.enc) rfl).2 Tryz.underlying45 rfl) ?_
  refine S_ 4 rfl rfl rfl _ (y_call rfl rfl rfl cf49 (fun _ w1 hM => QuotasErr_any s.qt w1 (hs.qt.below hM.below))) ?_
  refine S_ 1 rfl rfl rfl _ (y_assign rfl rfl) ?_
  refine S_go (fun _ _ h => h) ?_
  refine T_ret (fun a w hF hM => hRb a w (post1 rfl rfl (fun w hM => ?_) a w hF hM))
  exact ⟨rfl, hM.below⟩
theorem sf4_any (s : SSt) (b : Nat) (w : World) (hs : StOk w s) (h : CellsD w b s.enc) : Calls Tryz.prog 50 #[.pointer (some ⟨b, 0, none⟩)] w fun e w' => e = .returned (.int .i64 (ratesNo s.rt)) ∧ Below w.heap.size w w' := by
  refine enter_args (args := [.pointer (some ⟨b, 0, none⟩)]) (F := _) Tryz.func50 rfl Tryz.ntmps50 rfl rfl ?_
  intro Rb hRb hRn
  refine T_seq ?_
  refine T_region ?_
  refine S_ 1 rfl rfl rfl _ (y_assign rfl rfl) ?_
  refine S_go (fun _ _ h => h) ?_
  refine T_seq ?_
  refine T_region ?_
  refine S_ 2 rfl rfl rfl _ (y_fieldAddr rfl rfl fa52_3) ?_
  refine S_ 3 rfl rfl rfl _ (y_load_far rfl rfl (h.one (j := 3) rfl).1 (h.one (j := 3) (cs := s.enc) rfl).2 Tryz.underlying46 rfl) ?_
  refine S_ 4 rfl rfl rfl _ (y_call rfl rfl rfl cf51 (fun _ w1 hM => RatesErr_any s.rt w1 (hs.rt.below hM.below))) ?_
  refine S_ 1 rfl rfl rfl _ (y_assign rfl rfl) ?_
  refine S_go (fun _ _ h => h) ?_
  refine T_ret (fun a w hF hM => hRb a w (post1 rfl rfl (fun w hM => ?_) a w hF hM))
  exact ⟨rfl, hM.below⟩
theorem sf5_any (s : SSt) (b : Nat) (w : World) (hs : StOk w s) (h : CellsD w b s.enc) : Calls Tryz.prog 52 #[.pointer (some ⟨b, 0, none⟩)] w fun e w' => e = .returned (.int .i64 (alertsNo s.al)) ∧ Below w.heap.size w w' := by
  refine enter_args (args := [.pointer (some ⟨b, 0, none⟩)]) (F := _) Tryz.func52 rfl Tryz.ntmps52 rfl rfl ?_
  intro Rb hRb hRn
  refine T_seq ?_
  refine T_region ?_
  refine S_ 1 rfl rfl rfl _ (y_assign rfl rfl) ?_
  refine S_go (fun _ _ h => h) ?_
  refine T_seq ?_
  refine T_region ?_
  refine S_ 2 rfl rfl rfl _ (y_fieldAddr rfl rfl fa52_4) ?_
  refine S_ 3 rfl rfl rfl _ (y_load_far rfl rfl (h.one (j := 4) rfl).1 (h.one (j := 4) (cs := s.enc) rfl).2 Tryz.underlying47 rfl) ?_
  refine S_ 4 rfl rfl rfl _ (y_call rfl rfl rfl cf53 (fun _ w1 hM => AlertErr_any s.al w1 (hs.al.below hM.below))) ?_
  refine S_ 1 rfl rfl rfl _ (y_assign rfl rfl) ?_
  refine S_go (fun _ _ h => h) ?_
  refine T_ret (fun a w hF hM => hRb a w (post1 rfl rfl (fun w hM => ?_) a w hF hM))
  exact ⟨rfl, hM.below⟩
theorem sf7_any (s : SSt) (b : Nat) (w : World) (hs : StOk w s) (h : CellsD w b s.enc) : Calls Tryz.prog 56 #[.pointer (some ⟨b, 0, none⟩)] w fun e w' => e = .returned (.int .i64 (ownersNo s.ow)) ∧ Below w.heap.size w w' := by
  refine enter_args (args := [.pointer (some ⟨b, 0, none⟩)]) (F := _) Tryz.func56 rfl Tryz.ntmps56 rfl rfl ?_
  intro Rb hRb hRn
  refine T_seq ?_
  refine T_region ?_
  refine S_ 1 rfl rfl rfl _ (y_assign rfl rfl) ?_
  refine S_go (fun _ _ h => h) ?_
  refine T_seq ?_
  refine T_region ?_
  refine S_ 2 rfl rfl rfl _ (y_fieldAddr rfl rfl fa52_6) ?_
  refine S_ 3 rfl rfl rfl _ (y_load_far rfl rfl (h.one (j := 9) rfl).1 (h.one (j := 9) (cs := s.enc) rfl).2 Tryz.underlying50 rfl) ?_
  refine S_ 4 rfl rfl rfl _ (y_call rfl rfl rfl cf57 (fun _ w1 hM => OwnersFault_any s.ow w1 (hs.ow.below hM.below))) ?_
  refine S_ 1 rfl rfl rfl _ (y_assign rfl rfl) ?_
  refine S_go (fun _ _ h => h) ?_
  refine T_ret (fun a w hF hM => hRb a w (post1 rfl rfl (fun w hM => ?_) a w hF hM))
  exact ⟨rfl, hM.below⟩
theorem sf6_any (s : SSt) (b : Nat) (w : World) (h : CellsD w b s.enc) : Calls Tryz.prog 54 #[.pointer (some ⟨b, 0, none⟩)] w fun e w' => e = .returned (.int .i64 (planNo s.m s.wt s.ag s.tr)) ∧ Below w.heap.size w w' := by
  refine enter_args (args := [.pointer (some ⟨b, 0, none⟩)]) (F := _) Tryz.func54 rfl Tryz.ntmps54 rfl rfl ?_
  intro Rb hRb hRn
  refine T_seq ?_
  refine T_region ?_
  refine S_ 1 rfl rfl rfl _ (y_assign rfl rfl) ?_
  refine S_go (fun _ _ h => h) ?_
  refine T_seq ?_
  refine T_region ?_
  refine S_ 2 rfl rfl rfl _ (y_fieldAddr rfl rfl fa52_5) ?_
  refine S_ 3 rfl rfl rfl _ (y_loadA_far (cs := [.int .i64 s.m, .int .i64 s.wt, .int .i64 s.ag, .int .i64 s.tr]) rfl rfl (sub_cells 5 4 h) h.2 Tryz.underlying49 rfl sz49) ?_
  refine S_ 4 rfl rfl rfl _ (y_call rfl rfl rfl cf55 (fun _ w1 _ => PlanErr_any s.m s.wt s.ag s.tr w1)) ?_
  refine S_ 1 rfl rfl rfl _ (y_assign rfl rfl) ?_
  refine S_go (fun _ _ h => h) ?_
  refine T_ret (fun a w hF hM => hRb a w (post1 rfl rfl (fun w hM => ?_) a w hF hM))
  exact ⟨rfl, hM.below⟩
def stZ (s : SSt) : List (FuncId × Int) := [(44, clearNo s.cl), (46, groupsNo s.gr), (48, quotasNo s.qt), (50, ratesNo s.rt), (52, alertsNo s.al), (54, planNo s.m s.wt s.ag s.tr), (56, ownersNo s.ow)]
abbrev fnZ (b : Nat) (z : FuncId × Int) : List Value := [.func (.func z.1) #[] #[.pointer (some ⟨b, 0, none⟩)]]
theorem fst_ass (a b c : Int) : fst (fst a b) c = fst a (fst b c) := by
  unfold fst; by_cases h : a = 0 <;> simp [h]
theorem fstL_fst {α : Type} (f : α → Int) (a : α) (r : List α) (c : Int) : fst (fstL f (a :: r)) c = fst (f a) (fst (fstL f r) c) := by
  rw [fstL]; unfold fst; by_cases h : f a = 0 <;> simp [h]
theorem setup_Z (s : SSt) : setupNo s = fst (fstL Prod.snd (stZ s)) (dysNo s.ds) := by
  unfold stZ setupNo
  rw [fstL_fst, fstL_fst, fstL_fst, fstL_fst, fstL_fst, fstL_fst, fstL_fst, fst_ass]
  rfl
theorem stZ_ok (s : SSt) (b : Nat) : ∀ z ∈ stZ s, (∀ args w, (callFunc z.1 args).run Tryz.prog w = .ok (.enter z.1 args) w) ∧ ∀ w, StOk w s → CellsD w b s.enc → Calls Tryz.prog z.1 #[.pointer (some ⟨b, 0, none⟩)] w fun e w' => e = .returned (.int .i64 z.2) ∧ Below w.heap.size w w' := by
  intro z hz
  simp only [stZ, List.mem_cons, List.not_mem_nil, or_false] at hz
  rcases hz with rfl | rfl | rfl | rfl | rfl | rfl | rfl
  · exact ⟨cf44, fun w hs h => sf1_any s b w hs h⟩
  · exact ⟨cf46, fun w hs h => sf2_any s b w hs h⟩
  · exact ⟨cf48, fun w hs h => sf3_any s b w hs h⟩
  · exact ⟨cf50, fun w hs h => sf4_any s b w hs h⟩
  · exact ⟨cf52, fun w hs h => sf5_any s b w hs h⟩
  · exact ⟨cf54, fun w hs h => sf6_any s b w h⟩
  · exact ⟨cf56, fun w hs h => sf7_any s b w hs h⟩
theorem SetupFault_any (s : SSt) (w : World) (hs : StOk w s) : Calls Tryz.prog 20 #[s.val] w fun e w' => e = .returned (.int .i64 (setupNo s)) ∧ Below w.heap.size w w' := by
  rw [setup_Z]
  refine enter_args (args := [.agg #[.slice s.cl.A s.cl.q s.cl.c, .slice s.gr.A s.gr.q s.gr.c, .slice s.qt.A s.qt.q s.qt.c, .slice s.rt.A s.rt.q s.rt.c, .slice s.al.A s.al.q s.al.c, .int .i64 s.m, .int .i64 s.wt, .int .i64 s.ag, .int .i64 s.tr, .slice s.ow.A s.ow.q s.ow.c, .int .i64 s.ds]]) (F := _) Tryz.func20 rfl Tryz.ntmps20 rfl rfl ?_
  intro Rb hRb hRn
  refine T_seq ?_
  refine T_region ?_
  refine S_box 1 1 rfl rfl rfl rfl rfl ?_
  intro b1
  refine S_ 2 rfl rfl rfl _ (y_assign rfl rfl) ?_
  refine S_go (fun _ _ h => h) ?_
  refine T_seq ?_
  refine T_seq ?_
  refine T_region ?_
  refine S_ 6 rfl rfl rfl _ (y_makeFunc rfl rfl rfl rfl rfl) ?_
  refine S_ 7 rfl rfl rfl _ (y_makeFunc rfl rfl rfl rfl rfl) ?_
  refine S_ 8 rfl rfl rfl _ (y_makeFunc rfl rfl rfl rfl rfl) ?_
  refine S_ 9 rfl rfl rfl _ (y_makeFunc rfl rfl rfl rfl rfl) ?_
  refine S_ 10 rfl rfl rfl _ (y_makeFunc rfl rfl rfl rfl rfl) ?_
  refine S_ 11 rfl rfl rfl _ (y_makeFunc rfl rfl rfl rfl rfl) ?_
  refine S_ 12 rfl rfl rfl _ (y_makeFunc rfl rfl rfl rfl rfl) ?_
  refine S_buildSlice 13 13 rfl rfl rfl rfl rfl Tryz.underlying89 inf82 rfl (by decide) (by decide) rfl rfl (by decide) rfl ((stZ s).flatMap (fnZ b1)) ?_ ?_
  · rfl
  intro b13
  refine S_ 14 rfl rfl rfl _ (y_len_slice rfl rfl Tryz.underlying89) ?_
  refine S_ 15 rfl rfl rfl _ (y_move rfl rfl) ?_
  refine S_go (fun _ _ h => h) ?_
  refine T_block ?_
  refine T_loopK1 (kf := [(2, 2), (4, 5), (15, 24)]) (kl := [(2, 2), (4, 5), (15, 24)]) (fun (i : Nat) => [(15, true, .int .i64 (i : Int))]) (fun (i : Nat) => []) (fun (i : Nat) => i ≤ 7 ∧ fstL Prod.snd (stZ s) = fstL Prod.snd ((stZ s).drop i)) (fun (i : Nat) => 7 - i) 0 (by repeat (first | exact kf_nil | (apply kf_in; focus rfl) | (apply kf_out; focus rfl))) (by repeat (first | exact kl_nil | exact kl_rest (by assumption) rfl | (apply kl_in; focus rfl) | (apply kl_out; focus rfl))) ?_ ?_ ?_ ?_
  · exact ⟨by omega, rfl⟩
  · exact ⟨rfl, trivial⟩
  · exact trivial
  rintro i ⟨hp1, hp2⟩
  refine T_seq ?_
  refine T_region ?_
  refine S_ 16 rfl rfl rfl _ (y_bin rfl rfl rfl (fun _ => b_lss)) ?_
  refine S_go (fun _ _ h => h) ?_
  refine T_seq ?_
  refine T_cond rfl (fun h16 => ?_) (fun h16 => ?_)
  · try simp only [decide_eq_true_eq, decide_eq_false_iff_not, Bool.or_eq_true, Bool.or_eq_false_iff, Bool.and_eq_true, Bool.and_eq_false_iff, Bool.not_eq_true', Bool.not_eq_false', Bool.not_eq_true, Bool.not_eq_false, Bool.not_true, Bool.not_false, Int.not_lt, Int.not_le, not_or, not_and, Classical.not_not] at h16
    have hi7 : i < 7 := by omega
    obtain ⟨z, hx1⟩ : ∃ z, (stZ s)[i]? = some z := ⟨_, List.getElem?_eq_getElem (show i < (stZ s).length from hi7)⟩
    have hz := stZ_ok s b1 z (mem_at hx1)
    have hx2 : (stZ s).drop i = z :: (stZ s).drop (i + 1) := by
      obtain ⟨h1, h2⟩ := List.getElem?_eq_some_iff.1 hx1
      rw [List.drop_eq_getElem_cons h1, h2]
    rw [hx2, fstL] at hp2
    refine T_skip_go (fun _ _ h => h) ?_
    refine T_seq ?_
    refine T_block ?_
    refine T_seq ?_
    refine T_region ?_
    refine S_ 17 rfl rfl rfl _ (y_indexOwn 13 rfl rfl rfl rfl Tryz.underlying89 sz82 (fun _ => by omega)) ?_
    refine S_ 18 rfl rfl rfl _ (y_loadO1 13 (val := (fun z : FuncId × Int => Value.func (.func z.1) #[] #[.pointer (some ⟨b1, 0, none⟩)])) rfl rfl rfl rfl (fun _ => hx1) Tryz.underlying82 rfl) ?_
    refine S_ 4 rfl rfl rfl _ (y_assign rfl rfl) ?_
    refine S_go (fun _ _ h => h) ?_
    refine T_seq ?_
    refine T_region ?_
    refine S_ 19 rfl rfl rfl _ (y_move rfl rfl) ?_
    refine S_ 20 rfl rfl rfl _ (y_call rfl rfl rfl hz.1 (fun _ w1 hM => hz.2 w1 (hs.below hM.below) (hM.box_cells 1 rfl))) ?_
    refine S_ 5 rfl rfl rfl _ (y_assign rfl rfl) ?_
    refine S_go (fun _ _ h => h) ?_
    refine T_seq ?_
    refine T_region ?_
    refine S_ 21 rfl rfl rfl _ (y_move rfl rfl) ?_
    refine S_ 22 rfl rfl rfl _ (y_bin rfl rfl rfl (fun _ => b_neq)) ?_
    refine S_go (fun _ _ h => h) ?_
    refine T_cond rfl (fun h22 => ?_) (fun h22 => ?_)
    · skip
      have h22 : ¬ z.2 = 0 := by simpa using h22
      rw [if_pos h22] at hp2
      refine T_seq ?_
      refine T_region ?_
      refine S_ 23 rfl rfl rfl _ (y_move rfl rfl) ?_
      refine S_ 2 rfl rfl rfl _ (y_assign rfl rfl) ?_
      refine S_go (fun _ _ h => h) ?_
      refine T_ret (fun a w hF hM => hRb a w (post1 rfl rfl (fun w hM => ?_) a w hF hM))
      exact ⟨by rw [hp2, fst_t h22], hM.below⟩
    · skip
      have h22 : z.2 = 0 := by simpa using h22
      rw [if_neg (by simpa using h22)] at hp2
      refine T_skip_go (fun _ _ h => h) ?_
      refine T_region ?_
      refine S_ 24 rfl rfl rfl _ (y_bin rfl rfl rfl (fun hg => b_add (by omega))) ?_
      refine S_ 15 rfl rfl rfl _ (y_move rfl rfl) ?_
      refine S_nil (nextK1 (kf := [(2, 2), (4, 5), (15, 24)]) (kl := [(2, 2), (4, 5), (15, 24)]) (i + 1) (by repeat (first | exact kf_nil | (apply kf_in; focus rfl) | (apply kf_out; focus rfl))) (by repeat (first | exact kl_nil | exact kl_rest (by assumption) rfl | (apply kl_in; focus rfl) | (apply kl_out; focus rfl))) ?_ ?_ ?_ ?_)
      · omega
      · exact ⟨by omega, hp2⟩
      · exact ⟨rfl, trivial⟩
      · exact trivial
  · try simp only [decide_eq_true_eq, decide_eq_false_iff_not, Bool.or_eq_true, Bool.or_eq_false_iff, Bool.and_eq_true, Bool.and_eq_false_iff, Bool.not_eq_true', Bool.not_eq_false', Bool.not_eq_true, Bool.not_eq_false, Bool.not_true, Bool.not_false, Int.not_lt, Int.not_le, not_or, not_and, Classical.not_not] at h16
    rw [List.drop_eq_nil_of_le (show (stZ s).length ≤ i from by show 7 ≤ i; omega), fstL] at hp2
    refine T_exit_go (fun _ _ h => h) ?_
    refine T_seq ?_
    refine T_seq ?_
    refine T_region ?_
    refine S_ 25 rfl rfl rfl _ (y_fieldAddr rfl rfl fa52_7) ?_
    refine S_ 26 rfl rfl rfl _ (y_load 1 rfl rfl rfl rfl Tryz.underlying3 rfl) ?_
    refine S_ 27 rfl rfl rfl _ (y_as (v' := .bool (outI s.ds 1 3660)) (by exact rfl) (y_call rfl rfl rfl cf58 (fun _ w1 _ => out_any _ _ _ w1))) ?_
    refine S_go (fun _ _ h => h) ?_
    refine T_cond rfl (fun h27 => ?_) (fun h27 => ?_)
    · skip
      refine T_seq ?_
      refine T_region ?_
      refine S_ 2 rfl rfl rfl _ (y_assign rfl rfl) ?_
      refine S_go (fun _ _ h => h) ?_
      refine T_ret (fun a w hF hM => hRb a w (post1 rfl rfl (fun w hM => ?_) a w hF hM))
      exact ⟨by rw [hp2, fst_f rfl, dysNo, if_pos h27], hM.below⟩
    · skip
      refine T_skip_go (fun _ _ h => h) ?_
      refine T_seq ?_
      refine T_region ?_
      refine S_ 2 rfl rfl rfl _ (y_assign rfl rfl) ?_
      refine S_go (fun _ _ h => h) ?_
      refine T_ret (fun a w hF hM => hRb a w (post1 rfl rfl (fun w hM => ?_) a w hF hM))
      exact ⟨by rw [hp2, fst_f rfl, dysNo, if_f h27], hM.below⟩
end Go.Proofs.YtdcbiepoghdanaaGreatDoor
end
section
namespace Go.Proofs.YtdcbiepoghdanaaGreatDoor
set_option linter.unusedSimpArgs false
set_option linter.unusedVariables false
set_option maxRecDepth 20000
open Go.RowKit Go.Eng
theorem CloneRl_any (l : Sl SRl) (w : World) (hl : l.Ok SRl.enc 6 w) (hq : l.q ≤ 1000000) :
    Calls Tryz.prog 133 #[.slice l.A l.q l.c] w fun e w' => ∃ A c, e = .returned (.slice A l.q c) ∧ w'.ownsRow w.heap.size 150 6 (.slice A l.q c) l.q (l.l.flatMap SRl.enc) ∧ Below w.heap.size w w' := by
  have hlen := hl.t.len
  refine enter_args (args := [.slice l.A l.q l.c]) (F := _) Tryz.func133 rfl Tryz.ntmps133 rfl rfl ?_
  intro Rb hRb hRn
  refine T_seq ?_
  refine T_region ?_
  refine S_nilSlice 2 (e := 150) (size := 6) ?_
  refine S_ 2 rfl rfl rfl _ (y_assign rfl rfl) ?_
  refine S_go (fun _ _ h => h) ?_
  refine T_seq ?_
  refine T_seq ?_
  refine T_region ?_
  refine S_ 3 rfl rfl rfl _ (y_move rfl rfl) ?_
  refine S_ 4 rfl rfl rfl _ (y_bin rfl rfl rfl (fun _ => b_eqln Tryz.underlying43)) ?_
  refine S_go (fun _ _ h => h) ?_
  refine T_cond rfl (fun h4 => ?_) (fun h4 => ?_)
  · skip
    refine T_seq ?_
    refine T_region ?_
    refine S_nilSlice 2 (e := 150) (size := 6) ?_
    refine S_ 2 rfl rfl rfl _ (y_assign rfl rfl) ?_
    refine S_go (fun _ _ h => h) ?_
    refine T_ret (fun a w hF hM => hRb a w (post1 rfl rfl (fun w hM => ?_) a w hF hM))
    have hA : l.A = none := by cases h : l.A with
      | none => rfl
      | some a => rw [h] at h4; cases h4
    have h0 : l.q = 0 := by
      rcases Nat.eq_zero_or_pos l.q with h | h
      · exact h
      · have := hl.t.isSome h; rw [hA] at this; cases this
    have hn : l.l = [] := List.eq_nil_of_length_eq_zero (by omega)
    rw [h0, hn]
    exact ⟨none, 0, rfl, World.ownsRow_nil _ _ _ _, hM.below⟩
  · skip
    refine T_skip_go (fun _ _ h => h) ?_
    refine T_seq ?_
    refine T_region ?_
    refine S_buildSlice0 5 5 rfl rfl rfl rfl Tryz.underlying43 sz150 ?_
    intro b5
    refine S_ 6 rfl rfl rfl _ (y_move rfl rfl) ?_
    obtain ⟨i7, hi7, hz7, hs7, hy7⟩ := info_parts inf150
    refine S_appendG 7 5 (news := l.l.flatMap SRl.enc) rfl rfl rfl rfl rfl rfl rfl (fun w hM => hl.t.rd.below hM.below) Tryz.underlying43 hi7 hz7 hs7 hy7 rfl (by decide) (allOne_of (fun u hu => by obtain ⟨a, _, ha⟩ := List.mem_flatMap.1 hu; simp [SRl.enc] at ha; rcases ha with rfl | rfl | rfl | rfl | rfl | rfl <;> rfl)) ?_ ?_ (l.q) (l.l.flatMap SRl.enc) ?_ ?_ ?_
    · (simp only [maxLen]; omega)
    · omega
    · omega
    · rfl
    intro A7 c7
    refine S_ 2 rfl rfl rfl _ (y_assign rfl rfl) ?_
    refine S_go (fun _ _ h => h) ?_
    refine T_ret (fun a w hF hM => hRb a w (post1 rfl rfl (fun w hM => ?_) a w hF hM))
    exact ⟨A7, c7, rfl, hM.sat 5 _ rfl, hM.below⟩
theorem CloneGr_any (l : Sl SGr) (w : World) (hl : l.Ok SGr.enc 2 w) (hq : l.q ≤ 1000000) :
    Calls Tryz.prog 134 #[.slice l.A l.q l.c] w fun e w' => ∃ A c, e = .returned (.slice A l.q c) ∧ w'.ownsRow w.heap.size 154 2 (.slice A l.q c) l.q (l.l.flatMap SGr.enc) ∧ Below w.heap.size w w' := by
  have hlen := hl.t.len
  refine enter_args (args := [.slice l.A l.q l.c]) (F := _) Tryz.func134 rfl Tryz.ntmps134 rfl rfl ?_
  intro Rb hRb hRn
  refine T_seq ?_
  refine T_region ?_
  refine S_nilSlice 2 (e := 154) (size := 2) ?_
  refine S_ 2 rfl rfl rfl _ (y_assign rfl rfl) ?_
  refine S_go (fun _ _ h => h) ?_
  refine T_seq ?_
  refine T_seq ?_
  refine T_region ?_
  refine S_ 3 rfl rfl rfl _ (y_move rfl rfl) ?_
  refine S_ 4 rfl rfl rfl _ (y_bin rfl rfl rfl (fun _ => b_eqln Tryz.underlying44)) ?_
  refine S_go (fun _ _ h => h) ?_
  refine T_cond rfl (fun h4 => ?_) (fun h4 => ?_)
  · skip
    refine T_seq ?_
    refine T_region ?_
    refine S_nilSlice 2 (e := 154) (size := 2) ?_
    refine S_ 2 rfl rfl rfl _ (y_assign rfl rfl) ?_
    refine S_go (fun _ _ h => h) ?_
    refine T_ret (fun a w hF hM => hRb a w (post1 rfl rfl (fun w hM => ?_) a w hF hM))
    have hA : l.A = none := by cases h : l.A with
      | none => rfl
      | some a => rw [h] at h4; cases h4
    have h0 : l.q = 0 := by
      rcases Nat.eq_zero_or_pos l.q with h | h
      · exact h
      · have := hl.t.isSome h; rw [hA] at this; cases this
    have hn : l.l = [] := List.eq_nil_of_length_eq_zero (by omega)
    rw [h0, hn]
    exact ⟨none, 0, rfl, World.ownsRow_nil _ _ _ _, hM.below⟩
  · skip
    refine T_skip_go (fun _ _ h => h) ?_
    refine T_seq ?_
    refine T_region ?_
    refine S_buildSlice0 5 5 rfl rfl rfl rfl Tryz.underlying44 sz154 ?_
    intro b5
    refine S_ 6 rfl rfl rfl _ (y_move rfl rfl) ?_
    obtain ⟨i7, hi7, hz7, hs7, hy7⟩ := info_parts inf154
    refine S_appendG 7 5 (news := l.l.flatMap SGr.enc) rfl rfl rfl rfl rfl rfl rfl (fun w hM => hl.t.rd.below hM.below) Tryz.underlying44 hi7 hz7 hs7 hy7 rfl (by decide) (allOne_of (fun u hu => by obtain ⟨a, _, ha⟩ := List.mem_flatMap.1 hu; simp [SGr.enc] at ha; rcases ha with rfl | rfl <;> rfl)) ?_ ?_ (l.q) (l.l.flatMap SGr.enc) ?_ ?_ ?_
    · (simp only [maxLen]; omega)
    · omega
    · omega
    · rfl
    intro A7 c7
    refine S_ 2 rfl rfl rfl _ (y_assign rfl rfl) ?_
    refine S_go (fun _ _ h => h) ?_
    refine T_ret (fun a w hF hM => hRb a w (post1 rfl rfl (fun w hM => ?_) a w hF hM))
    exact ⟨A7, c7, rfl, hM.sat 5 _ rfl, hM.below⟩
theorem CloneOw_any (l : Sl SOwner) (w : World) (hl : l.Ok SOwner.enc 2 w) (hq : l.q ≤ 1000000) :
    Calls Tryz.prog 135 #[.slice l.A l.q l.c] w fun e w' => ∃ A c, e = .returned (.slice A l.q c) ∧ w'.ownsRow w.heap.size 175 2 (.slice A l.q c) l.q (l.l.flatMap SOwner.enc) ∧ Below w.heap.size w w' := by
  have hlen := hl.t.len
  refine enter_args (args := [.slice l.A l.q l.c]) (F := _) Tryz.func135 rfl Tryz.ntmps135 rfl rfl ?_
  intro Rb hRb hRn
  refine T_seq ?_
  refine T_region ?_
  refine S_nilSlice 2 (e := 175) (size := 2) ?_
  refine S_ 2 rfl rfl rfl _ (y_assign rfl rfl) ?_
  refine S_go (fun _ _ h => h) ?_
  refine T_seq ?_
  refine T_seq ?_
  refine T_region ?_
  refine S_ 3 rfl rfl rfl _ (y_move rfl rfl) ?_
  refine S_ 4 rfl rfl rfl _ (y_bin rfl rfl rfl (fun _ => b_eqln Tryz.underlying50)) ?_
  refine S_go (fun _ _ h => h) ?_
  refine T_cond rfl (fun h4 => ?_) (fun h4 => ?_)
  · skip
    refine T_seq ?_
    refine T_region ?_
    refine S_nilSlice 2 (e := 175) (size := 2) ?_
    refine S_ 2 rfl rfl rfl _ (y_assign rfl rfl) ?_
    refine S_go (fun _ _ h => h) ?_
    refine T_ret (fun a w hF hM => hRb a w (post1 rfl rfl (fun w hM => ?_) a w hF hM))
    have hA : l.A = none := by cases h : l.A with
      | none => rfl
      | some a => rw [h] at h4; cases h4
    have h0 : l.q = 0 := by
      rcases Nat.eq_zero_or_pos l.q with h | h
      · exact h
      · have := hl.t.isSome h; rw [hA] at this; cases this
    have hn : l.l = [] := List.eq_nil_of_length_eq_zero (by omega)
    rw [h0, hn]
    exact ⟨none, 0, rfl, World.ownsRow_nil _ _ _ _, hM.below⟩
  · skip
    refine T_skip_go (fun _ _ h => h) ?_
    refine T_seq ?_
    refine T_region ?_
    refine S_buildSlice0 5 5 rfl rfl rfl rfl Tryz.underlying50 sz175 ?_
    intro b5
    refine S_ 6 rfl rfl rfl _ (y_move rfl rfl) ?_
    obtain ⟨i7, hi7, hz7, hs7, hy7⟩ := info_parts inf175
    refine S_appendG 7 5 (news := l.l.flatMap SOwner.enc) rfl rfl rfl rfl rfl rfl rfl (fun w hM => hl.t.rd.below hM.below) Tryz.underlying50 hi7 hz7 hs7 hy7 rfl (by decide) (allOne_of (fun u hu => by obtain ⟨a, _, ha⟩ := List.mem_flatMap.1 hu; simp [SOwner.enc] at ha; rcases ha with rfl | rfl <;> rfl)) ?_ ?_ (l.q) (l.l.flatMap SOwner.enc) ?_ ?_ ?_
    · (simp only [maxLen]; omega)
    · omega
    · omega
    · rfl
    intro A7 c7
    refine S_ 2 rfl rfl rfl _ (y_assign rfl rfl) ?_
    refine S_go (fun _ _ h => h) ?_
    refine T_ret (fun a w hF hM => hRb a w (post1 rfl rfl (fun w hM => ?_) a w hF hM))
    exact ⟨A7, c7, rfl, hM.sat 5 _ rfl, hM.below⟩
theorem CloneMt_any (l : Sl SMt) (w : World) (hl : l.Ok SMt.enc 3 w) (hq : l.q ≤ 1000000) :
    Calls Tryz.prog 136 #[.slice l.A l.q l.c] w fun e w' => ∃ A c, e = .returned (.slice A l.q c) ∧ w'.ownsRow w.heap.size 156 3 (.slice A l.q c) l.q (l.l.flatMap SMt.enc) ∧ Below w.heap.size w w' := by
  have hlen := hl.t.len
  refine enter_args (args := [.slice l.A l.q l.c]) (F := _) Tryz.func136 rfl Tryz.ntmps136 rfl rfl ?_
  intro Rb hRb hRn
  refine T_seq ?_
  refine T_region ?_
  refine S_nilSlice 2 (e := 156) (size := 3) ?_
  refine S_ 2 rfl rfl rfl _ (y_assign rfl rfl) ?_
  refine S_go (fun _ _ h => h) ?_
  refine T_seq ?_
  refine T_seq ?_
  refine T_region ?_
  refine S_ 3 rfl rfl rfl _ (y_move rfl rfl) ?_
  refine S_ 4 rfl rfl rfl _ (y_bin rfl rfl rfl (fun _ => b_eqln Tryz.underlying151)) ?_
  refine S_go (fun _ _ h => h) ?_
  refine T_cond rfl (fun h4 => ?_) (fun h4 => ?_)
  · skip
    refine T_seq ?_
    refine T_region ?_
    refine S_nilSlice 2 (e := 156) (size := 3) ?_
    refine S_ 2 rfl rfl rfl _ (y_assign rfl rfl) ?_
    refine S_go (fun _ _ h => h) ?_
    refine T_ret (fun a w hF hM => hRb a w (post1 rfl rfl (fun w hM => ?_) a w hF hM))
    have hA : l.A = none := by cases h : l.A with
      | none => rfl
      | some a => rw [h] at h4; cases h4
    have h0 : l.q = 0 := by
      rcases Nat.eq_zero_or_pos l.q with h | h
      · exact h
      · have := hl.t.isSome h; rw [hA] at this; cases this
    have hn : l.l = [] := List.eq_nil_of_length_eq_zero (by omega)
    rw [h0, hn]
    exact ⟨none, 0, rfl, World.ownsRow_nil _ _ _ _, hM.below⟩
  · skip
    refine T_skip_go (fun _ _ h => h) ?_
    refine T_seq ?_
    refine T_region ?_
    refine S_buildSlice0 5 5 rfl rfl rfl rfl Tryz.underlying151 sz156 ?_
    intro b5
    refine S_ 6 rfl rfl rfl _ (y_move rfl rfl) ?_
    obtain ⟨i7, hi7, hz7, hs7, hy7⟩ := info_parts inf156
    refine S_appendG 7 5 (news := l.l.flatMap SMt.enc) rfl rfl rfl rfl rfl rfl rfl (fun w hM => hl.t.rd.below hM.below) Tryz.underlying151 hi7 hz7 hs7 hy7 rfl (by decide) (allOne_of (fun u hu => by obtain ⟨a, _, ha⟩ := List.mem_flatMap.1 hu; simp [SMt.enc] at ha; rcases ha with rfl | rfl | rfl <;> rfl)) ?_ ?_ (l.q) (l.l.flatMap SMt.enc) ?_ ?_ ?_
    · (simp only [maxLen]; omega)
    · omega
    · omega
    · rfl
    intro A7 c7
    refine S_ 2 rfl rfl rfl _ (y_assign rfl rfl) ?_
    refine S_go (fun _ _ h => h) ?_
    refine T_ret (fun a w hF hM => hRb a w (post1 rfl rfl (fun w hM => ?_) a w hF hM))
    exact ⟨A7, c7, rfl, hM.sat 5 _ rfl, hM.below⟩
theorem CloneAc_any (l : Sl SAc) (w : World) (hl : l.Ok SAc.enc 3 w) (hq : l.q ≤ 1000000) :
    Calls Tryz.prog 137 #[.slice l.A l.q l.c] w fun e w' => ∃ A c, e = .returned (.slice A l.q c) ∧ w'.ownsRow w.heap.size 158 3 (.slice A l.q c) l.q (l.l.flatMap SAc.enc) ∧ Below w.heap.size w w' := by
  have hlen := hl.t.len
  refine enter_args (args := [.slice l.A l.q l.c]) (F := _) Tryz.func137 rfl Tryz.ntmps137 rfl rfl ?_
  intro Rb hRb hRn
  refine T_seq ?_
  refine T_region ?_
  refine S_nilSlice 2 (e := 158) (size := 3) ?_
  refine S_ 2 rfl rfl rfl _ (y_assign rfl rfl) ?_
  refine S_go (fun _ _ h => h) ?_
  refine T_seq ?_
  refine T_seq ?_
  refine T_region ?_
  refine S_ 3 rfl rfl rfl _ (y_move rfl rfl) ?_
  refine S_ 4 rfl rfl rfl _ (y_bin rfl rfl rfl (fun _ => b_eqln Tryz.underlying152)) ?_
  refine S_go (fun _ _ h => h) ?_
  refine T_cond rfl (fun h4 => ?_) (fun h4 => ?_)
  · skip
    refine T_seq ?_
    refine T_region ?_
    refine S_nilSlice 2 (e := 158) (size := 3) ?_
    refine S_ 2 rfl rfl rfl _ (y_assign rfl rfl) ?_
    refine S_go (fun _ _ h => h) ?_
    refine T_ret (fun a w hF hM => hRb a w (post1 rfl rfl (fun w hM => ?_) a w hF hM))
    have hA : l.A = none := by cases h : l.A with
      | none => rfl
      | some a => rw [h] at h4; cases h4
    have h0 : l.q = 0 := by
      rcases Nat.eq_zero_or_pos l.q with h | h
      · exact h
      · have := hl.t.isSome h; rw [hA] at this; cases this
    have hn : l.l = [] := List.eq_nil_of_length_eq_zero (by omega)
    rw [h0, hn]
    exact ⟨none, 0, rfl, World.ownsRow_nil _ _ _ _, hM.below⟩
  · skip
    refine T_skip_go (fun _ _ h => h) ?_
    refine T_seq ?_
    refine T_region ?_
    refine S_buildSlice0 5 5 rfl rfl rfl rfl Tryz.underlying152 sz158 ?_
    intro b5
    refine S_ 6 rfl rfl rfl _ (y_move rfl rfl) ?_
    obtain ⟨i7, hi7, hz7, hs7, hy7⟩ := info_parts inf158
    refine S_appendG 7 5 (news := l.l.flatMap SAc.enc) rfl rfl rfl rfl rfl rfl rfl (fun w hM => hl.t.rd.below hM.below) Tryz.underlying152 hi7 hz7 hs7 hy7 rfl (by decide) (allOne_of (fun u hu => by obtain ⟨a, _, ha⟩ := List.mem_flatMap.1 hu; simp [SAc.enc] at ha; rcases ha with rfl | rfl | rfl <;> rfl)) ?_ ?_ (l.q) (l.l.flatMap SAc.enc) ?_ ?_ ?_
    · (simp only [maxLen]; omega)
    · omega
    · omega
    · rfl
    intro A7 c7
    refine S_ 2 rfl rfl rfl _ (y_assign rfl rfl) ?_
    refine S_go (fun _ _ h => h) ?_
    refine T_ret (fun a w hF hM => hRb a w (post1 rfl rfl (fun w hM => ?_) a w hF hM))
    exact ⟨A7, c7, rfl, hM.sat 5 _ rfl, hM.below⟩
theorem CloneSr_any (l : Sl (List UInt8)) (w : World) (hl : l.Ok strE 1 w) (hq : l.q ≤ 1000000) :
    Calls Tryz.prog 138 #[.slice l.A l.q l.c] w fun e w' => ∃ A c, e = .returned (.slice A l.q c) ∧ w'.ownsRow w.heap.size 9 1 (.slice A l.q c) l.q (l.l.flatMap strE) ∧ Below w.heap.size w w' := by
  have hlen := hl.t.len
  refine enter_args (args := [.slice l.A l.q l.c]) (F := _) Tryz.func138 rfl Tryz.ntmps138 rfl rfl ?_
  intro Rb hRb hRn
  refine T_seq ?_
  refine T_region ?_
  refine S_nilSlice 2 (e := 9) (size := 1) ?_
  refine S_ 2 rfl rfl rfl _ (y_assign rfl rfl) ?_
  refine S_go (fun _ _ h => h) ?_
  refine T_seq ?_
  refine T_seq ?_
  refine T_region ?_
  refine S_ 3 rfl rfl rfl _ (y_move rfl rfl) ?_
  refine S_ 4 rfl rfl rfl _ (y_bin rfl rfl rfl (fun _ => b_eqln Tryz.underlying41)) ?_
  refine S_go (fun _ _ h => h) ?_
  refine T_cond rfl (fun h4 => ?_) (fun h4 => ?_)
  · skip
    refine T_seq ?_
    refine T_region ?_
    refine S_nilSlice 2 (e := 9) (size := 1) ?_
    refine S_ 2 rfl rfl rfl _ (y_assign rfl rfl) ?_
    refine S_go (fun _ _ h => h) ?_
    refine T_ret (fun a w hF hM => hRb a w (post1 rfl rfl (fun w hM => ?_) a w hF hM))
    have hA : l.A = none := by cases h : l.A with
      | none => rfl
      | some a => rw [h] at h4; cases h4
    have h0 : l.q = 0 := by
      rcases Nat.eq_zero_or_pos l.q with h | h
      · exact h
      · have := hl.t.isSome h; rw [hA] at this; cases this
    have hn : l.l = [] := List.eq_nil_of_length_eq_zero (by omega)
    rw [h0, hn]
    exact ⟨none, 0, rfl, World.ownsRow_nil _ _ _ _, hM.below⟩
  · skip
    refine T_skip_go (fun _ _ h => h) ?_
    refine T_seq ?_
    refine T_region ?_
    refine S_buildSlice0 5 5 rfl rfl rfl rfl Tryz.underlying41 sz9 ?_
    intro b5
    refine S_ 6 rfl rfl rfl _ (y_move rfl rfl) ?_
    obtain ⟨i7, hi7, hz7, hs7, hy7⟩ := info_parts inf9
    refine S_appendG 7 5 (news := l.l.flatMap strE) rfl rfl rfl rfl rfl rfl rfl (fun w hM => hl.t.rd.below hM.below) Tryz.underlying41 hi7 hz7 hs7 hy7 rfl (by decide) (allOne_of (fun u hu => by obtain ⟨a, _, ha⟩ := List.mem_flatMap.1 hu; simp [strE] at ha; rcases ha with rfl <;> rfl)) ?_ ?_ (l.q) (l.l.flatMap strE) ?_ ?_ ?_
    · (simp only [maxLen]; omega)
    · omega
    · omega
    · rfl
    intro A7 c7
    refine S_ 2 rfl rfl rfl _ (y_assign rfl rfl) ?_
    refine S_go (fun _ _ h => h) ?_
    refine T_ret (fun a w hF hM => hRb a w (post1 rfl rfl (fun w hM => ?_) a w hF hM))
    exact ⟨A7, c7, rfl, hM.sat 5 _ rfl, hM.below⟩
theorem set_nxD {α : Type} {gs l : List α} {x y : α} {i : Nat} (hg : gs.length = i) (h : l.drop i = x :: l.drop (i + 1)) : (gs ++ l.drop i).set i y = (gs ++ [y]) ++ l.drop (i + 1) := by
  subst hg
  rw [h]; simp
theorem at_nxD {α : Type} {gs l : List α} {x : α} {i : Nat} (hg : gs.length = i) (h : l.drop i = x :: l.drop (i + 1)) : (gs ++ l.drop i)[i]? = some x := by
  subst hg
  rw [h]; simp
theorem set_mdD {α : Type} {gs r : List α} {x y : α} {i : Nat} (hg : gs.length = i) : ((gs ++ [x]) ++ r).set i y = (gs ++ [y]) ++ r := by
  subst hg; simp
theorem at_mdD {α : Type} {gs r : List α} {x : α} {i : Nat} (hg : gs.length = i) : ((gs ++ [x]) ++ r)[i]? = some x := by
  subst hg; simp
theorem clear_q {l : Sl SRl} (h : clearNo l = 0) : l.q ≤ 50 := by
  unfold clearNo at h
  split at h
  · cases h
  · omega
theorem groups_q {l : Sl SGr} (h : groupsNo l = 0) : l.q ≤ 100 := by
  unfold groupsNo at h
  split at h
  · cases h
  · omega
theorem fstL_0 {α : Type} {f : α → Int} : ∀ {l : List α}, fstL f l = 0 → ∀ a ∈ l, f a = 0
  | [], _ => fun a h => by cases h
  | b :: r, h => fun a ha => by
    rw [fstL] at h
    by_cases hb : f b = 0
    · rw [if_neg (by simpa using hb)] at h
      rcases List.mem_cons.1 ha with rfl | h1
      · exact hb
      · exact fstL_0 h a h1
    · rw [if_pos hb] at h; exact absurd h hb
theorem gr_q {l : Sl SGr} (h : groupsNo l = 0) : ∀ r ∈ l.l, r.ifs.q ≤ 8 ∧ r.ths.q ≤ 8 := fun r hr => by
  unfold groupsNo at h
  split at h
  · cases h
  have h := fstL_0 h r hr
  unfold grNo at h
  split at h
  · cases h
  rename_i hb
  simp only [grF, Bool.or_eq_true, decide_eq_true_eq, not_or] at hb
  omega
theorem owns_0 : ∀ {l : List SOwner}, ownsNo l = 0 → ∀ o ∈ l, ownNo o = 0
  | [], _ => fun a h => by cases h
  | b :: r, h => fun a ha => by
    rw [ownsNo] at h
    by_cases hb : ownNo b = 0
    · rw [if_neg (by simpa using hb)] at h
      rcases List.mem_cons.1 ha with rfl | h1
      · exact hb
      · exact owns_0 h a h1
    · rw [if_pos hb] at h; exact absurd h hb
theorem ow_q {l : Sl SOwner} (h : ownersNo l = 0) : l.q ≤ 200 ∧ ∀ o ∈ l.l, o.w.q ≤ 20 := by
  unfold ownersNo at h
  split at h
  · cases h
  refine ⟨by omega, fun o ho => ?_⟩
  have h := owns_0 h o ho
  unfold ownNo at h
  split at h
  · exact absurd h ‹_›
  split at h
  · cases h
  split at h
  · cases h
  omega
theorem alerts_q {l : Sl SAl} (h : alertsNo l = 0) : l.q ≤ 50 := by
  unfold alertsNo at h
  split at h
  · cases h
  · omega
theorem fst_0D {a b : Int} (h : fst a b = 0) : a = 0 ∧ b = 0 := by
  unfold fst at h
  split at h
  · exact absurd h ‹_›
  · exact ⟨by omega, h⟩
theorem setup_parts {s : SSt} (h : setupNo s = 0) : clearNo s.cl = 0 ∧ groupsNo s.gr = 0 ∧ fst (quotasNo s.qt) (ratesNo s.rt) = 0 ∧ alertsNo s.al = 0 ∧ planNo s.m s.wt s.ag s.tr = 0 ∧ ownersNo s.ow = 0 := by
  unfold setupNo at h
  obtain ⟨h1, h⟩ := fst_0D h
  obtain ⟨h2, h⟩ := fst_0D h
  obtain ⟨h3, h⟩ := fst_0D h
  obtain ⟨h4, h⟩ := fst_0D h
  obtain ⟨h5, h⟩ := fst_0D h
  obtain ⟨h6, h⟩ := fst_0D h
  exact ⟨h1, h2, h3, h4, h5, h6⟩
/-! ### A setup in new memory -/
set_option maxHeartbeats 3200000 in
theorem copied_any (s : SSt) (w : World) (hs : StOk w s) (h0 : setupNo s = 0) :
    Calls Tryz.prog 67 #[s.val] w fun e w' => ∃ f : Nat → Value, e = .returned (.agg #[f 0, f 1, f 2, f 3, f 4, f 5, f 6, f 7, f 8, f 9, f 10]) ∧ Below w.heap.size w w' := by
  obtain ⟨p1, p2, p3, p4, p5, p6⟩ := setup_parts h0
  have q1 := clear_q p1
  have q2 := groups_q p2
  have q3 := gr_q p2
  obtain ⟨q4, q5⟩ := ow_q p6
  have hgt := hs.gr.ok.t
  have hot := hs.ow.ok.t
  have hgl := hgt.len
  have hol := hot.len
  refine enter_args (args := [.agg #[.slice s.cl.A s.cl.q s.cl.c, .slice s.gr.A s.gr.q s.gr.c, .slice s.qt.A s.qt.q s.qt.c, .slice s.rt.A s.rt.q s.rt.c, .slice s.al.A s.al.q s.al.c, .int .i64 s.m, .int .i64 s.wt, .int .i64 s.ag, .int .i64 s.tr, .slice s.ow.A s.ow.q s.ow.c, .int .i64 s.ds]]) (F := _) Tryz.func67 rfl Tryz.ntmps67 rfl rfl ?_
  intro Rb hRb hRn
  refine T_seq ?_
  refine T_region ?_
  refine S_box 1 1 rfl rfl rfl rfl rfl ?_
  intro b1
  refine S_alloc 2 2 rfl rfl rfl rfl z52 ?_
  intro b2
  refine S_go (fun _ _ h => h) ?_
  refine T_seq ?_
  refine T_perm [0, 1, 3, 4, 6, 7, 2, 9, 5, 8, 10, 11, 12, 13, 14] [true, true, false, true, true, false, true, true, false, true, false, true, false, true, false] [0, 1, 3, 0, 8, 31, 0, 64, 255, 223, 1023, 2047, 4095, 8191, 16383] [(1, [1]), (4, [1]), (7, [1])] (by kernel_rfl) (by kernel_rfl) (by kernel_rfl) rfl (by kernel_rfl) ?_
  refine Rf_ 0 6 rfl rfl rfl rfl rfl _ trivial (Y.z (y_fieldAddr rfl rfl fa52_0) rfl) ?_
  refine Rf_ 1 7 rfl rfl rfl rfl rfl _ ⟨rfl, trivial⟩ (Y.z (y_load 1 rfl rfl rfl rfl Tryz.underlying43 rfl) rfl) ?_
  refine Rf_ 3 9 rfl rfl rfl rfl rfl _ trivial (Y.z (y_fieldAddr rfl rfl fa52_1) rfl) ?_
  refine Rf_ 4 10 rfl rfl rfl rfl rfl _ ⟨rfl, trivial⟩ (Y.z (y_load 1 rfl rfl rfl rfl Tryz.underlying44 rfl) rfl) ?_
  refine Rf_ 6 12 rfl rfl rfl rfl rfl _ trivial (Y.z (y_fieldAddr rfl rfl fa52_6) rfl) ?_
  refine Rf_ 7 13 rfl rfl rfl rfl rfl _ ⟨rfl, trivial⟩ (Y.z (y_load 1 rfl rfl rfl rfl Tryz.underlying50 rfl) rfl) ?_
  refine R_chain 2 rfl rfl ?_
  refine S_callOwn 8 8 rfl rfl rfl rfl rfl rfl rfl cf133 (fun A c => .slice A (s.cl.q) c) 150 6 (s.cl.q) (s.cl.l.flatMap SRl.enc) (fun w1 hM => CloneRl_any s.cl w1 (hs.cl.ok.below hM.below) (by omega)) ?_
  intro A8 c8
  refine R_next ⟨.inl rfl, .inr ⟨rfl, trivial⟩, .inr ⟨rfl, trivial⟩, trivial⟩ ?_
  refine Rf_ 9 15 rfl rfl rfl rfl rfl _ trivial (Y.z (y_fieldAddr rfl rfl fa52_0) rfl) ?_
  refine R_chain 5 rfl rfl ?_
  refine S_callOwn 11 11 rfl rfl rfl rfl rfl rfl rfl cf134 (fun A c => .slice A (s.gr.q) c) 154 2 (s.gr.q) (s.gr.l.flatMap SGr.enc) (fun w1 hM => CloneGr_any s.gr w1 (hs.gr.ok.below hM.below) (by omega)) ?_
  intro A11 c11
  refine R_next ⟨.inl rfl, .inl rfl, .inr ⟨rfl, trivial⟩, trivial⟩ ?_
  refine R_chain 8 rfl rfl ?_
  refine S_callOwn 14 14 rfl rfl rfl rfl rfl rfl rfl cf135 (fun A c => .slice A (s.ow.q) c) 175 2 (s.ow.q) (s.ow.l.flatMap SOwner.enc) (fun w1 hM => CloneOw_any s.ow w1 (hs.ow.ok.below hM.below) (by omega)) ?_
  intro A14 c14
  refine R_next ⟨.inl rfl, .inl rfl, .inl rfl, trivial⟩ ?_
  refine R_chain 10 rfl rfl ?_
  refine S_store 1 rfl rfl rfl rfl rfl rfl sz43 rfl rfl ?_
  refine R_next ⟨.inl rfl, .inl rfl, .inl rfl, trivial⟩ ?_
  refine Rf_ 11 16 rfl rfl rfl rfl rfl _ trivial (Y.z (y_fieldAddr rfl rfl fa52_1) rfl) ?_
  refine R_chain 12 rfl rfl ?_
  refine S_store 1 rfl rfl rfl rfl rfl rfl sz44 rfl rfl ?_
  refine R_next ⟨.inl rfl, .inl rfl, .inl rfl, trivial⟩ ?_
  refine Rf_ 13 17 rfl rfl rfl rfl rfl _ trivial (Y.z (y_fieldAddr rfl rfl fa52_6) rfl) ?_
  refine R_chain 14 rfl rfl ?_
  refine S_store 1 rfl rfl rfl rfl rfl rfl sz50 rfl rfl ?_
  refine R_next ⟨.inl rfl, .inl rfl, .inl rfl, trivial⟩ ?_
  refine R_go (fun _ _ h => h) ?_
  refine T_seq ?_
  refine T_seq ?_
  refine T_region ?_
  refine S_ 18 rfl rfl rfl _ (y_fieldAddr rfl rfl fa52_1) ?_
  refine S_ 19 rfl rfl rfl _ (y_load 1 rfl rfl rfl rfl Tryz.underlying44 rfl) ?_
  refine S_ 20 rfl rfl rfl _ (y_len_slice rfl rfl Tryz.underlying44) ?_
  refine S_ 21 rfl rfl rfl _ (y_move rfl rfl) ?_
  refine S_go (fun _ _ h => h) ?_
  refine T_block ?_
  refine T_loopK2 (kf := [(3, 4), (21, 44)]) (kl := [(3, 4), (11, 11), (21, 44)]) (fun (i : Nat) (gs : List SGr) => [(21, true, .int .i64 (i : Int))]) (fun (i : Nat) (gs : List SGr) => [(11, .own 154 2 (.slice A11 s.gr.q c11) s.gr.q ((gs ++ s.gr.l.drop i).flatMap SGr.enc))]) (fun (i : Nat) (gs : List SGr) => i ≤ s.gr.q ∧ gs.length = i) (fun (i : Nat) (gs : List SGr) => s.gr.q - i) 0 [] (by repeat (first | exact kf_nil | (apply kf_in; focus rfl) | (apply kf_out; focus rfl))) (by repeat (first | exact kl_nil | exact kl_rest (by assumption) rfl | (apply kl_in; focus rfl) | (apply kl_out; focus rfl))) ?_ ?_ ?_ ?_
  · exact ⟨by omega, rfl⟩
  · exact ⟨rfl, trivial⟩
  · exact ⟨rfl, trivial⟩
  rintro i gs ⟨hp1, hp2⟩
  refine T_seq ?_
  refine T_region ?_
  refine S_ 22 rfl rfl rfl _ (y_bin rfl rfl rfl (fun _ => b_lss)) ?_
  refine S_go (fun _ _ h => h) ?_
  refine T_seq ?_
  refine T_cond rfl (fun h22 => ?_) (fun h22 => ?_)
  · try simp only [decide_eq_true_eq, decide_eq_false_iff_not, Bool.or_eq_true, Bool.or_eq_false_iff, Bool.and_eq_true, Bool.and_eq_false_iff, Bool.not_eq_true', Bool.not_eq_false', Bool.not_eq_true, Bool.not_eq_false, Bool.not_true, Bool.not_false, Int.not_lt, Int.not_le, not_or, not_and, Classical.not_not] at h22
    obtain ⟨x, hx1, hx2⟩ := hgt.at (i := i) (by omega)
    have hxq := q3 x (mem_at hx1)
    refine T_knownS (p := A11.isSome = true) (fun w hM => own_some hM (i := 11) rfl (by omega)) fun hA1 => ?_
    refine T_skip_go (fun _ _ h => h) ?_
    refine T_seq ?_
    refine T_block ?_
    refine T_seq ?_
    refine T_region ?_
    refine S_ 23 rfl rfl rfl _ (y_move rfl rfl) ?_
    refine S_ 3 rfl rfl rfl _ (y_assign rfl rfl) ?_
    refine S_go (fun _ _ h => h) ?_
    refine T_seq ?_
    refine T_region ?_
    refine S_ 24 rfl rfl rfl _ (y_fieldAddr rfl rfl fa52_1) ?_
    refine S_ 25 rfl rfl rfl _ (y_load 1 rfl rfl rfl rfl Tryz.underlying44 rfl) ?_
    refine S_ 26 rfl rfl rfl _ (y_move rfl rfl) ?_
    refine S_ 27 rfl rfl rfl _ (y_indexOwn 11 rfl rfl rfl rfl Tryz.underlying44 sz154 (fun _ => by omega)) ?_
    refine S_ 4 rfl rfl rfl _ (y_assign rfl rfl) ?_
    refine S_go (fun _ _ h => h) ?_
    refine T_perm [0, 1, 2, 3, 4, 5, 7, 8, 9, 10, 6, 11, 12, 13, 14, 15, 16, 17] [true, true, true, true, true, true, false, true, true, true, true, false, true, true, false, true, true, false] [0, 0, 0, 4, 12, 28, 60, 0, 128, 384, 896, 2044, 4093, 8189, 16381, 32767, 65535, 131071] [(5, [11]), (10, [11])] (by kernel_rfl) (by kernel_rfl) (by kernel_rfl) rfl (by kernel_rfl) ?_
    refine Rf_ 0 28 rfl rfl rfl rfl rfl _ trivial (Y.z (y_move rfl rfl) rfl) ?_
    refine Rf_ 1 29 rfl rfl rfl rfl rfl _ trivial (Y.z (y_move rfl rfl) rfl) ?_
    refine Rf_ 2 30 rfl rfl rfl rfl rfl _ trivial (Y.z (y_move rfl rfl) rfl) ?_
    refine Rf_ 3 31 rfl rfl rfl rfl rfl _ trivial (Z.of (z_nilCheckSome rfl rfl hA1)) ?_
    refine Rf_ 4 32 rfl rfl rfl rfl rfl _ trivial (Y.z (y_fieldSome rfl rfl hA1 fa154_0) rfl) ?_
    refine Rf_ 5 33 rfl rfl rfl rfl rfl _ ⟨rfl, trivial⟩ (Y.z (y_load_cellOwn 11 rfl rfl rfl (fun _ => by omega) (fun _ => flat_at (enc := SGr.enc) (size := 2) (fun _ => rfl) (at_nxD hp2 hx2) 0 (.slice x.ifs.A x.ifs.q x.ifs.c) rfl) Tryz.underlying151 rfl) rfl) ?_
    refine Rf_ 7 35 rfl rfl rfl rfl rfl _ trivial (Y.z (y_move rfl rfl) rfl) ?_
    refine Rf_ 8 36 rfl rfl rfl rfl rfl _ trivial (Z.of (z_nilCheckSome rfl rfl hA1)) ?_
    refine Rf_ 9 37 rfl rfl rfl rfl rfl _ trivial (Y.z (y_fieldSome rfl rfl hA1 fa154_1) rfl) ?_
    refine Rf_ 10 38 rfl rfl rfl rfl rfl _ ⟨rfl, trivial⟩ (Y.z (y_load_cellOwn 11 rfl rfl rfl (fun _ => by omega) (fun _ => flat_at (enc := SGr.enc) (size := 2) (fun _ => rfl) (at_nxD hp2 hx2) 1 (.slice x.ths.A x.ths.q x.ths.c) rfl) Tryz.underlying152 rfl) rfl) ?_
    refine R_chain 6 rfl rfl ?_
    refine S_callOwn 34 34 rfl rfl rfl rfl rfl rfl rfl cf136 (fun A c => .slice A (x.ifs.q) c) 156 3 (x.ifs.q) (x.ifs.l.flatMap SMt.enc) (fun w1 hM => CloneMt_any x.ifs w1 ((hs.gr.n x (mem_at hx1)).iok.below hM.below) (by omega)) ?_
    intro A34 c34
    refine R_next ⟨.inl rfl, .inr ⟨rfl, trivial⟩, trivial⟩ ?_
    refine R_chain 11 rfl rfl ?_
    refine S_callOwn 39 39 rfl rfl rfl rfl rfl rfl rfl cf137 (fun A c => .slice A (x.ths.q) c) 158 3 (x.ths.q) (x.ths.l.flatMap SAc.enc) (fun w1 hM => CloneAc_any x.ths w1 ((hs.gr.n x (mem_at hx1)).tok.below hM.below) (by omega)) ?_
    intro A39 c39
    refine R_next ⟨.inl rfl, .inl rfl, trivial⟩ ?_
    refine Rf_ 12 40 rfl rfl rfl rfl rfl _ trivial (Z.of (z_nilCheckSome rfl rfl hA1)) ?_
    refine Rf_ 13 41 rfl rfl rfl rfl rfl _ trivial (Y.z (y_fieldSome rfl rfl hA1 fa154_0) rfl) ?_
    refine R_chain 14 rfl rfl ?_
    refine S_storeOwn 11 rfl rfl rfl rfl rfl rfl sz151 rfl rfl ?_ (xs' := ((gs ++ [(⟨⟨A34, x.ifs.q, c34, x.ifs.l⟩, x.ths⟩ : SGr)]) ++ s.gr.l.drop (i + 1)).flatMap SGr.enc) ?_ ?_
    · (rw [flat_lenN (enc := SGr.enc) (size := 2) (fun _ => rfl)]; simp; omega)
    · rw [← set_nxD hp2 hx2]; exact flat_set (enc := SGr.enc) (size := 2) (off := 0) (fun _ => rfl) (at_nxD hp2 hx2) (by decide) rfl
    refine R_next ⟨.inl rfl, .inl rfl, trivial⟩ ?_
    refine Rf_ 15 42 rfl rfl rfl rfl rfl _ trivial (Z.of (z_nilCheckSome rfl rfl hA1)) ?_
    refine Rf_ 16 43 rfl rfl rfl rfl rfl _ trivial (Y.z (y_fieldSome rfl rfl hA1 fa154_1) rfl) ?_
    refine R_chain 17 rfl rfl ?_
    refine S_storeOwn 11 rfl rfl rfl rfl rfl rfl sz152 rfl rfl ?_ (xs' := ((gs ++ [(⟨⟨A34, x.ifs.q, c34, x.ifs.l⟩, ⟨A39, x.ths.q, c39, x.ths.l⟩⟩ : SGr)]) ++ s.gr.l.drop (i + 1)).flatMap SGr.enc) ?_ ?_
    · (rw [flat_lenN (enc := SGr.enc) (size := 2) (fun _ => rfl)]; simp; omega)
    · rw [← set_mdD (x := (⟨⟨A34, x.ifs.q, c34, x.ifs.l⟩, x.ths⟩ : SGr)) (y := (⟨⟨A34, x.ifs.q, c34, x.ifs.l⟩, ⟨A39, x.ths.q, c39, x.ths.l⟩⟩ : SGr)) hp2]; exact flat_set (enc := SGr.enc) (size := 2) (off := 1) (fun _ => rfl) (at_mdD hp2) (by decide) rfl
    refine R_next ⟨.inl rfl, .inl rfl, trivial⟩ ?_
    refine R_go (fun _ _ h => h) ?_
    refine T_region ?_
    refine S_ 44 rfl rfl rfl _ (y_bin rfl rfl rfl (fun hg => b_add (by omega))) ?_
    refine S_ 21 rfl rfl rfl _ (y_move rfl rfl) ?_
    refine S_nil (nextK2 (kf := [(3, 4), (21, 44)]) (kl := [(3, 4), (11, 11), (21, 44)]) (i + 1) (gs ++ [(⟨⟨A34, x.ifs.q, c34, x.ifs.l⟩, ⟨A39, x.ths.q, c39, x.ths.l⟩⟩ : SGr)]) (by repeat (first | exact kf_nil | (apply kf_in; focus rfl) | (apply kf_out; focus rfl))) (by repeat (first | exact kl_nil | exact kl_rest (by assumption) rfl | (apply kl_in; focus rfl) | (apply kl_out; focus rfl))) ?_ ?_ ?_ ?_)
    · omega
    · exact ⟨by omega, by simp [hp2]⟩
    · exact ⟨rfl, trivial⟩
    · exact ⟨rfl, trivial⟩
  · try simp only [decide_eq_true_eq, decide_eq_false_iff_not, Bool.or_eq_true, Bool.or_eq_false_iff, Bool.and_eq_true, Bool.and_eq_false_iff, Bool.not_eq_true', Bool.not_eq_false', Bool.not_eq_true, Bool.not_eq_false, Bool.not_true, Bool.not_false, Int.not_lt, Int.not_le, not_or, not_and, Classical.not_not] at h22
    refine T_exit_go (fun _ _ h => h) ?_
    refine T_seq ?_
    refine T_seq ?_
    refine T_region ?_
    refine S_ 45 rfl rfl rfl _ (y_fieldAddr rfl rfl fa52_6) ?_
    refine S_ 46 rfl rfl rfl _ (y_load 1 rfl rfl rfl rfl Tryz.underlying50 rfl) ?_
    refine S_ 47 rfl rfl rfl _ (y_len_slice rfl rfl Tryz.underlying50) ?_
    refine S_ 48 rfl rfl rfl _ (y_move rfl rfl) ?_
    refine S_go (fun _ _ h => h) ?_
    refine T_block ?_
    refine T_loopK2 (kf := [(5, 5), (48, 63)]) (kl := [(5, 5), (14, 14), (48, 63)]) (fun (i : Nat) (gs : List SOwner) => [(48, true, .int .i64 (i : Int))]) (fun (i : Nat) (gs : List SOwner) => [(14, .own 175 2 (.slice A14 s.ow.q c14) s.ow.q ((gs ++ s.ow.l.drop i).flatMap SOwner.enc))]) (fun (i : Nat) (gs : List SOwner) => i ≤ s.ow.q ∧ gs.length = i) (fun (i : Nat) (gs : List SOwner) => s.ow.q - i) 0 [] (by repeat (first | exact kf_nil | (apply kf_in; focus rfl) | (apply kf_out; focus rfl))) (by repeat (first | exact kl_nil | exact kl_rest (by assumption) rfl | (apply kl_in; focus rfl) | (apply kl_out; focus rfl))) ?_ ?_ ?_ ?_
    · exact ⟨by omega, rfl⟩
    · exact ⟨rfl, trivial⟩
    · exact ⟨rfl, trivial⟩
    rintro i gs ⟨hr1, hr2⟩
    refine T_seq ?_
    refine T_region ?_
    refine S_ 49 rfl rfl rfl _ (y_bin rfl rfl rfl (fun _ => b_lss)) ?_
    refine S_go (fun _ _ h => h) ?_
    refine T_seq ?_
    refine T_cond rfl (fun h49 => ?_) (fun h49 => ?_)
    · try simp only [decide_eq_true_eq, decide_eq_false_iff_not, Bool.or_eq_true, Bool.or_eq_false_iff, Bool.and_eq_true, Bool.and_eq_false_iff, Bool.not_eq_true', Bool.not_eq_false', Bool.not_eq_true, Bool.not_eq_false, Bool.not_true, Bool.not_false, Int.not_lt, Int.not_le, not_or, not_and, Classical.not_not] at h49
      obtain ⟨o, ho1, ho2⟩ := hot.at (i := i) (by omega)
      have hoq := q5 o (mem_at ho1)
      refine T_knownS (p := A14.isSome = true) (fun w hM => own_some hM (i := 14) rfl (by omega)) fun hA2 => ?_
      refine T_skip_go (fun _ _ h => h) ?_
      refine T_seq ?_
      refine T_block ?_
      refine T_seq ?_
      refine T_region ?_
      refine S_ 50 rfl rfl rfl _ (y_move rfl rfl) ?_
      refine S_ 5 rfl rfl rfl _ (y_assign rfl rfl) ?_
      refine S_go (fun _ _ h => h) ?_
      refine T_perm [0, 1, 2, 3, 4, 5, 6, 7, 8, 9, 10, 11, 12] [true, true, true, true, true, true, true, true, true, false, true, true, false] [0, 1, 0, 0, 8, 0, 56, 120, 248, 504, 1023, 2047, 4095] [(1, [1]), (4, [1]), (8, [14])] (by kernel_rfl) (by kernel_rfl) (by kernel_rfl) rfl (by kernel_rfl) ?_
      refine Rf_ 0 51 rfl rfl rfl rfl rfl _ trivial (Y.z (y_fieldAddr rfl rfl fa52_6) rfl) ?_
      refine Rf_ 1 52 rfl rfl rfl rfl rfl _ ⟨rfl, trivial⟩ (Y.z (y_load 1 rfl rfl rfl rfl Tryz.underlying50 rfl) rfl) ?_
      refine Rf_ 2 53 rfl rfl rfl rfl rfl _ trivial (Y.z (y_move rfl rfl) rfl) ?_
      refine Rf_ 3 54 rfl rfl rfl rfl rfl _ trivial (Y.z (y_fieldAddr rfl rfl fa52_6) rfl) ?_
      refine Rf_ 4 55 rfl rfl rfl rfl rfl _ ⟨rfl, trivial⟩ (Y.z (y_load 1 rfl rfl rfl rfl Tryz.underlying50 rfl) rfl) ?_
      refine Rf_ 5 56 rfl rfl rfl rfl rfl _ trivial (Y.z (y_move rfl rfl) rfl) ?_
      refine Rf_ 6 57 rfl rfl rfl rfl rfl _ trivial (Y.z (y_indexAddr rfl rfl rfl Tryz.underlying50 sz175 (fun hg => (fun (_ : i < s.ow.q) => hA2) (by omega)) (fun _ => by omega)) rfl) ?_
      refine Rf_ 7 58 rfl rfl rfl rfl rfl _ trivial (Y.z (y_fieldSome rfl rfl hA2 fa175_1) rfl) ?_
      refine Rf_ 8 59 rfl rfl rfl rfl rfl _ ⟨rfl, trivial⟩ (Y.z (y_load_cellOwn 14 rfl rfl rfl (fun _ => by omega) (fun _ => flat_at (enc := SOwner.enc) (size := 2) (fun _ => rfl) (at_nxD hr2 ho2) 1 (.slice o.w.A o.w.q o.w.c) rfl) Tryz.underlying41 rfl) rfl) ?_
      refine R_chain 9 rfl rfl ?_
      refine S_callOwn 60 60 rfl rfl rfl rfl rfl rfl rfl cf138 (fun A c => .slice A (o.w.q) c) 9 1 (o.w.q) (o.w.l.flatMap strE) (fun w1 hM => CloneSr_any o.w w1 ((hs.ow.n o (mem_at ho1)).w.below hM.below) (by omega)) ?_
      intro A60 c60
      refine R_next ⟨.inr ⟨rfl, trivial⟩, .inl rfl, .inl rfl, trivial⟩ ?_
      refine Rf_ 10 61 rfl rfl rfl rfl rfl _ trivial (Y.z (y_indexAddr rfl rfl rfl Tryz.underlying50 sz175 (fun hg => (fun (_ : i < s.ow.q) => hA2) (by omega)) (fun _ => by omega)) rfl) ?_
      refine Rf_ 11 62 rfl rfl rfl rfl rfl _ trivial (Y.z (y_fieldSome rfl rfl hA2 fa175_1) rfl) ?_
      refine R_chain 12 rfl rfl ?_
      refine S_storeOwn 14 rfl rfl rfl rfl rfl rfl sz41 rfl rfl ?_ (xs' := ((gs ++ [(⟨o.p, ⟨A60, o.w.q, c60, o.w.l⟩⟩ : SOwner)]) ++ s.ow.l.drop (i + 1)).flatMap SOwner.enc) ?_ ?_
      · (rw [flat_lenN (enc := SOwner.enc) (size := 2) (fun _ => rfl)]; simp; omega)
      · rw [← set_nxD hr2 ho2]; exact flat_set (enc := SOwner.enc) (size := 2) (off := 1) (fun _ => rfl) (at_nxD hr2 ho2) (by decide) rfl
      refine R_next ⟨.inl rfl, .inl rfl, .inl rfl, trivial⟩ ?_
      refine R_go (fun _ _ h => h) ?_
      refine T_region ?_
      refine S_ 63 rfl rfl rfl _ (y_bin rfl rfl rfl (fun hg => b_add (by omega))) ?_
      refine S_ 48 rfl rfl rfl _ (y_move rfl rfl) ?_
      refine S_nil (nextK2 (kf := [(5, 5), (48, 63)]) (kl := [(5, 5), (14, 14), (48, 63)]) (i + 1) (gs ++ [(⟨o.p, ⟨A60, o.w.q, c60, o.w.l⟩⟩ : SOwner)]) (by repeat (first | exact kf_nil | (apply kf_in; focus rfl) | (apply kf_out; focus rfl))) (by repeat (first | exact kl_nil | exact kl_rest (by assumption) rfl | (apply kl_in; focus rfl) | (apply kl_out; focus rfl))) ?_ ?_ ?_ ?_)
      · omega
      · exact ⟨by omega, by simp [hr2]⟩
      · exact ⟨rfl, trivial⟩
      · exact ⟨rfl, trivial⟩
    · try simp only [decide_eq_true_eq, decide_eq_false_iff_not, Bool.or_eq_true, Bool.or_eq_false_iff, Bool.and_eq_true, Bool.and_eq_false_iff, Bool.not_eq_true', Bool.not_eq_false', Bool.not_eq_true, Bool.not_eq_false, Bool.not_true, Bool.not_false, Int.not_lt, Int.not_le, not_or, not_and, Classical.not_not] at h49
      refine T_exit_go (fun _ _ h => h) ?_
      refine T_seq ?_
      refine T_region ?_
      refine S_ 64 rfl rfl rfl _ (y_fieldAddr rfl rfl fa52_2) ?_
      refine S_store 1 rfl rfl rfl rfl rfl rfl sz45 rfl rfl ?_
      refine S_ 65 rfl rfl rfl _ (y_fieldAddr rfl rfl fa52_3) ?_
      refine S_store 1 rfl rfl rfl rfl rfl rfl sz46 rfl rfl ?_
      refine S_ 66 rfl rfl rfl _ (y_fieldAddr rfl rfl fa52_4) ?_
      refine S_store 1 rfl rfl rfl rfl rfl rfl sz47 rfl rfl ?_
      refine S_go (fun _ _ h => h) ?_
      refine T_seq ?_
      refine T_region ?_
      refine S_ 67 rfl rfl rfl _ (y_loadA 1 rfl rfl rfl Tryz.underlying52 rfl sz52) ?_
      refine S_store 2 rfl rfl rfl rfl rfl rfl sz52 rfl rfl ?_
      refine S_go (fun _ _ h => h) ?_
      refine T_ret (fun a w hF hM => hRb a w (post_cell1 2 rfl rfl rfl Tryz.underlying52 rfl (by exact sz52) (fun w hM => ?_) a w hF hM))
      exact ⟨fun k => ([.slice A8 s.cl.q c8, .slice A11 s.gr.q c11, .slice none 0 0, .slice none 0 0, .slice none 0 0, .int .i64 s.m, .int .i64 s.wt, .int .i64 s.ag, .int .i64 s.tr, .slice A14 s.ow.q c14, .int .i64 s.ds] : List Value).getD k .nilFunc, rfl, hM.below⟩
end Go.Proofs.YtdcbiepoghdanaaGreatDoor
end
