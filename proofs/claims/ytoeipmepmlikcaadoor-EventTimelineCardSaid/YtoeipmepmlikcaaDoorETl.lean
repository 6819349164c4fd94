/- event.Timeline, and the law EventTimeline walked. Conditions: those of each theorem. -/
import Derived.Test.YtoeipmepmlikcaaDoorEStab
import Derived.Test.YtoeipmepmlikcaaDoorECmp
import Derived.Test.YtoeipmepmlikcaaDoorETop
namespace Go.Proofs.YtoeipmepmlikcaaDoor
set_option linter.unusedSimpArgs false
set_option linter.unusedVariables false
set_option maxRecDepth 20000
open Go.RowKit Go.Eng
structure EvsOk (w : World) (l : Sl Evt) : Prop where
  ok : l.Ok Evt.enc 9 w
  q : l.q ≤ 4611686018427387904
  n : ∀ e ∈ l.l, e.Ok w
theorem EvsOk.below {w w' : World} {l : Sl Evt} (h : EvsOk w l) (hb : Below w.heap.size w w') : EvsOk w' l := ⟨h.ok.below hb, h.q, fun e he => (h.n e he).below hb⟩
def evsNo : List Evt → Int
  | [] => 0
  | e :: r => if evNo e ≠ 0 then evNo e else evsNo r
def tlNo (l : Sl Evt) : Int := if (2000 : Int) < l.q then 4 else evsNo l.l
abbrev eventB : List UInt8 := [101, 118, 101, 110, 116]
def kind0 (e : Evt) : List UInt8 := match e.fa.l.head? with
  | some f => f.k
  | none => []
def tl1 (e : Evt) : List SCrumb := e.cr.l ++ [⟨e.at_, eventB, kind0 e⟩]
def tlOut (l : List Evt) : List SCrumb := l.flatMap tl1
theorem tlOut_snoc {l : List Evt} {e : Evt} {i : Nat} (h : l[i]? = some e) : tlOut (l.take (i + 1)) = tlOut (l.take i) ++ e.cr.l ++ [⟨e.at_, eventB, kind0 e⟩] := by
  rw [take_at h, tlOut, List.flatMap_append, List.flatMap_singleton, tl1, List.append_assoc]; rfl
def atOk (c : SCrumb) : Prop := 0 ≤ c.at_ ∧ c.at_ ≤ 3155759999
theorem crumbs_at : ∀ (l : List SCrumb) (p : Option Int), crumbsNo p l = 0 → ∀ c ∈ l, atOk c
  | [], _, _ => fun c h => by cases h
  | a :: r, p, h => fun c hc => by
    rw [crumbsNo] at h
    split at h
    · cases h
    · rename_i h1
      split at h
      · cases h
      · split at h
        · cases h
        · split at h
          · exact absurd h ‹_›
          · rcases List.mem_cons.1 hc with rfl | hc
            · simp only [Bool.or_eq_true, decide_eq_true_eq, not_or] at h1
              exact ⟨by omega, by omega⟩
            · exact crumbs_at r _ h c hc
theorem head_at {e : Evt} (h : evNo e = 0) : 0 ≤ e.at_ ∧ e.at_ ≤ 3155759999 := by
  unfold evNo at h
  obtain ⟨h, _⟩ := fst_0 h
  unfold headNo at h
  split at h
  · cases h
  · split at h
    · cases h
    · rename_i h1
      simp only [Bool.or_eq_true, decide_eq_true_eq, not_or] at h1
      omega
theorem tl1_at {e : Evt} (h : evNo e = 0) : ∀ c ∈ tl1 e, atOk c := fun c hc => by
  rcases List.mem_append.1 hc with hc | hc
  · exact crumbs_at _ _ (ev_parts h).2.2.2 c hc
  · simp only [List.mem_singleton] at hc
    subst hc
    exact head_at h
theorem evs_parts : ∀ l : List Evt, evsNo l = 0 → ∀ e ∈ l, evNo e = 0
  | [], _ => fun e h => by cases h
  | a :: r, h => fun e he => by
    rw [evsNo] at h
    by_cases ha : evNo a = 0
    · rw [if_neg (by simpa using ha)] at h
      rcases List.mem_cons.1 he with rfl | h1
      · exact ha
      · exact evs_parts r h e h1
    · rw [if_pos ha] at h; exact absurd h ha
theorem tlOut_at {l : List Evt} (h : ∀ e ∈ l, evNo e = 0) : ∀ c ∈ tlOut l, atOk c := fun c hc => by
  obtain ⟨e, he, hc⟩ := List.mem_flatMap.1 hc
  exact tl1_at (h e he) c hc
theorem kind0_at {e : Evt} {f : Flt} (h : e.fa.l[0]? = some f) : kind0 e = f.k := by
  unfold kind0
  rw [← List.head?_eq_getElem?] at h
  rw [h]
theorem cmpJ_lt {x y : Int} (h : cmpJ x y < 0) : x ≤ y := by
  unfold cmpJ at h
  split at h
  · omega
  · split at h <;> omega
theorem cmpJ_ge {x y : Int} (h : ¬ cmpJ x y < 0) : y ≤ x := by
  unfold cmpJ at h
  split at h
  · omega
  · omega
theorem tlcmp_any (x y : SCrumb) (w : World) : Calls Tryd.prog 114 (#[.agg x.enc.toArray, .agg y.enc.toArray] ++ #[]) w fun e w' => e = .returned (.int .i64 (cmpJ x.at_ y.at_)) ∧ Below w.heap.size w w' := by
  refine enter_args (args := [.agg #[.int .i64 x.at_, str x.k, str x.t], .agg #[.int .i64 y.at_, str y.k, str y.t]]) (F := _) Tryd.func114 rfl Tryd.ntmps114 rfl rfl ?_
  intro Rb hRb hRn
  refine T_seq ?_
  refine T_region ?_
  refine S_box 2 2 rfl rfl rfl rfl rfl ?_
  intro b2
  refine S_box 3 3 rfl rfl rfl rfl rfl ?_
  intro b3
  refine S_ 4 rfl rfl rfl _ (y_assign rfl rfl) ?_
  refine S_go (fun _ _ h => h) ?_
  refine T_seq ?_
  refine T_region ?_
  refine S_ 5 rfl rfl rfl _ (y_fieldAddr rfl rfl fa78_0) ?_
  refine S_ 6 rfl rfl rfl _ (y_load 2 rfl rfl rfl rfl Tryd.underlying3 rfl) ?_
  refine S_ 7 rfl rfl rfl _ (y_fieldAddr rfl rfl fa78_0) ?_
  refine S_ 8 rfl rfl rfl _ (y_load 3 rfl rfl rfl rfl Tryd.underlying3 rfl) ?_
  refine S_ 9 rfl rfl rfl _ (y_call rfl rfl rfl cf115 (fun _ w _ => cmpJ_any _ _ w)) ?_
  refine S_ 4 rfl rfl rfl _ (y_assign rfl rfl) ?_
  refine S_go (fun _ _ h => h) ?_
  refine T_ret (fun a w hF hM => hRb a w (post1 rfl rfl (fun w hM => ?_) a w hF hM))
  exact ⟨rfl, hM.below⟩
theorem tlsub_any (x y : SCrumb) (hx : atOk x) (hy : atOk y) (w : World) : Calls Tryd.prog 49 (#[.agg x.enc.toArray, .agg y.enc.toArray] ++ #[]) w fun e w' => e = .returned (.int .i64 (x.at_ - y.at_)) ∧ Below w.heap.size w w' := by
  obtain ⟨hx1, hx2⟩ := hx
  obtain ⟨hy1, hy2⟩ := hy
  refine enter_args (args := [.agg #[.int .i64 x.at_, str x.k, str x.t], .agg #[.int .i64 y.at_, str y.k, str y.t]]) (F := _) Tryd.func49 rfl Tryd.ntmps49 rfl rfl ?_
  intro Rb hRb hRn
  refine T_seq ?_
  refine T_region ?_
  refine S_box 2 2 rfl rfl rfl rfl rfl ?_
  intro b2
  refine S_box 3 3 rfl rfl rfl rfl rfl ?_
  intro b3
  refine S_ 4 rfl rfl rfl _ (y_assign rfl rfl) ?_
  refine S_go (fun _ _ h => h) ?_
  refine T_seq ?_
  refine T_region ?_
  refine S_ 5 rfl rfl rfl _ (y_fieldAddr rfl rfl fa78_0) ?_
  refine S_ 6 rfl rfl rfl _ (y_load 2 rfl rfl rfl rfl Tryd.underlying3 rfl) ?_
  refine S_ 7 rfl rfl rfl _ (y_fieldAddr rfl rfl fa78_0) ?_
  refine S_ 8 rfl rfl rfl _ (y_load 3 rfl rfl rfl rfl Tryd.underlying3 rfl) ?_
  refine S_ 9 rfl rfl rfl _ (y_bin rfl rfl rfl (fun hg => b_sub (by omega))) ?_
  refine S_ 4 rfl rfl rfl _ (y_assign rfl rfl) ?_
  refine S_go (fun _ _ h => h) ?_
  refine T_ret (fun a w hF hM => hRb a w (post1 rfl rfl (fun w hM => ?_) a w hF hM))
  exact ⟨rfl, hM.below⟩
structure TlR where
  A : Option Addr
  c : Nat
  W : List SCrumb
  rs : List Row
def TlP (l : Sl Evt) (z : TlR) : Prop := z.W.Perm (tlOut l.l) ∧ z.W.Pairwise fun x y => x.at_ ≤ y.at_
set_option maxHeartbeats 1000000 in
theorem Timeline_any {w0 : World} {K : HL} (hK : FromK K) (l : Sl Evt) (w : World) (hl : EvsOk w0 l) (hM0 : Mem w0 ([] ++ K) w) :
    Calls Tryd.prog 47 #[.slice l.A l.q l.c] w fun e w' => ∃ z : TlR, e = .returned (.tuple #[.slice z.A z.W.length z.c, .int .i64 (tlNo l)]) ∧ ((tlNo l = 0 → TlP l z) ∧ Sees w0 z.rs fun w => (⟨z.A, z.W.length, z.c, z.W⟩ : Sl SCrumb).Ok SCrumb.enc 3 w) ∧ Mem w0 ([(900, .many z.rs)] ++ K) w' := by
  have ht := hl.ok.t
  have hlen := ht.len
  refine enterM_args (args := [.slice l.A l.q l.c]) (F := _) hM0 Tryd.func47 rfl Tryd.ntmps47 rfl rfl ?_
  intro Rb hRb hRn
  refine T_seq ?_
  refine T_region ?_
  refine S_nilSlice 2 (e := 78) (size := 3) ?_
  refine S_ 2 rfl rfl rfl _ (y_assign rfl rfl) ?_
  refine S_ 3 rfl rfl rfl _ (y_assign rfl rfl) ?_
  refine S_go (fun _ _ h => h) ?_
  refine T_seq ?_
  refine T_seq ?_
  refine T_region ?_
  refine S_ 8 rfl rfl rfl _ (y_move rfl rfl) ?_
  refine S_ 9 rfl rfl rfl _ (y_len_slice rfl rfl Tryd.underlying43) ?_
  refine S_ 10 rfl rfl rfl _ (y_bin rfl rfl rfl (fun _ => b_gtr)) ?_
  refine S_go (fun _ _ h => h) ?_
  refine T_cond rfl (fun h10 => ?_) (fun h10 => ?_)
  · try simp only [decide_eq_true_eq, decide_eq_false_iff_not, Bool.or_eq_true, Bool.or_eq_false_iff, Bool.and_eq_true, Bool.and_eq_false_iff, Bool.not_eq_true', Bool.not_eq_false', Bool.not_eq_true, Bool.not_eq_false, Bool.not_true, Bool.not_false, Int.not_lt, Int.not_le, not_or, not_and, Classical.not_not] at h10
    refine T_many0 900 ?_
    refine T_seq ?_
    refine T_region ?_
    refine S_nilSlice 2 (e := 78) (size := 3) ?_
    refine S_ 2 rfl rfl rfl _ (y_assign rfl rfl) ?_
    refine S_ 3 rfl rfl rfl _ (y_assign rfl rfl) ?_
    refine S_go (fun _ _ h => h) ?_
    refine T_ret (fun a w hF hM => hRb a w (post2 rfl rfl rfl (fun w hM => ?_) a w hF hM))
    exact ⟨⟨none, 0, [], []⟩, by rw [tlNo, if_pos (by omega)]; rfl, ⟨fun h => (by rw [tlNo, if_pos (by omega)] at h; cases h), fun w _ _ => ⟨⟨⟨rfl, fun h => absurd h (by decide)⟩, rfl⟩, Nat.le_refl 0⟩⟩, hM.keep (ks := [(0, 999)]) (by repeat (first | exact kl_rest (by assumption) rfl | (apply kl_in; focus rfl))) _ ⟨rfl, trivial⟩⟩
  · try simp only [decide_eq_true_eq, decide_eq_false_iff_not, Bool.or_eq_true, Bool.or_eq_false_iff, Bool.and_eq_true, Bool.and_eq_false_iff, Bool.not_eq_true', Bool.not_eq_false', Bool.not_eq_true, Bool.not_eq_false, Bool.not_true, Bool.not_false, Int.not_lt, Int.not_le, not_or, not_and, Classical.not_not] at h10
    refine T_skip_go (fun _ _ h => h) ?_
    refine T_seq ?_
    refine T_region ?_
    refine S_nilSlice 4 (e := 78) (size := 3) ?_
    refine S_ 4 rfl rfl rfl _ (y_assign rfl rfl) ?_
    refine S_go (fun _ _ h => h) ?_
    refine T_seq ?_
    refine T_seq ?_
    refine T_region ?_
    refine S_ 11 rfl rfl rfl _ (y_move rfl rfl) ?_
    refine S_ 12 rfl rfl rfl _ (y_len_slice rfl rfl Tryd.underlying43) ?_
    refine S_ 13 rfl rfl rfl _ (y_move rfl rfl) ?_
    refine S_go (fun _ _ h => h) ?_
    refine T_block ?_
    refine T_loopK5 (kf := [(2, 4), (6, 7), (13, 37)]) (kl := [(2, 4), (6, 7), (13, 37)]) (fun (i : Nat) (out : List SCrumb) (n : Nat) (A : Option Addr) (c : Nat) => [(13, true, .int .i64 (i : Int)), (4, true, .slice A n c)]) (fun (i : Nat) (out : List SCrumb) (n : Nat) (A : Option Addr) (c : Nat) => [(4, .own 78 3 (.slice A n c) n (out.flatMap SCrumb.enc))]) (fun (i : Nat) (out : List SCrumb) (n : Nat) (A : Option Addr) (c : Nat) => i ≤ l.q ∧ out = tlOut (l.l.take i) ∧ out.length = n ∧ n ≤ i * 51 ∧ evsNo l.l = evsNo (l.l.drop i)) (fun (i : Nat) (out : List SCrumb) (n : Nat) (A : Option Addr) (c : Nat) => l.q - i) 0 [] 0 none 0 (by repeat (first | exact kf_nil | (apply kf_in; focus rfl) | (apply kf_out; focus rfl))) (by repeat (first | exact kl_nil | exact kl_rest (by assumption) rfl | (apply kl_in; focus rfl) | (apply kl_out; focus rfl))) ?_ ?_ ?_ ?_
    · exact ⟨by omega, rfl, rfl, by omega, rfl⟩
    · exact ⟨rfl, rfl, trivial⟩
    · exact ⟨rfl, trivial⟩
    rintro i out n A c ⟨hp1, hp2, hp3, hp4, hp5⟩
    refine T_seq ?_
    refine T_region ?_
    refine S_ 14 rfl rfl rfl _ (y_bin rfl rfl rfl (fun _ => b_lss)) ?_
    refine S_go (fun _ _ h => h) ?_
    refine T_seq ?_
    refine T_cond rfl (fun h14 => ?_) (fun h14 => ?_)
    · try simp only [decide_eq_true_eq, decide_eq_false_iff_not, Bool.or_eq_true, Bool.or_eq_false_iff, Bool.and_eq_true, Bool.and_eq_false_iff, Bool.not_eq_true', Bool.not_eq_false', Bool.not_eq_true, Bool.not_eq_false, Bool.not_true, Bool.not_false, Int.not_lt, Int.not_le, not_or, not_and, Classical.not_not] at h14
      obtain ⟨x, hx1, hx2⟩ := ht.at (i := i) (by omega)
      have hxo := hl.n x (mem_at hx1)
      have hcl := hxo.cr.ok.t.len
      refine T_skip_go (fun _ _ h => h) ?_
      refine T_seq ?_
      refine T_block ?_
      refine T_seq ?_
      refine T_region ?_
      refine S_ 15 rfl rfl rfl _ (y_indexAddr rfl rfl rfl Tryd.underlying43 sz52 (fun hg => ht.isSome (by omega)) (fun _ => by omega)) ?_
      refine S_ 16 rfl rfl rfl _ (y_loadT rfl rfl ht (fun _ => rfl) (fun _ => hx1) Tryd.underlying52 rfl sz52) ?_
      refine S_alloc 6 6 rfl rfl rfl rfl z52 ?_
      intro b6
      refine S_store 6 rfl rfl rfl rfl rfl rfl sz52 rfl rfl ?_
      refine S_go (fun _ _ h => h) ?_
      refine T_seq ?_
      refine T_seq ?_
      refine T_region ?_
      refine S_ 17 rfl rfl rfl _ (y_loadA 6 rfl rfl rfl Tryd.underlying52 rfl sz52) ?_
      refine S_ 18 rfl rfl rfl _ (y_call rfl rfl rfl cf33 (fun _ w hM => Check_any x w (hxo.below hM.below))) ?_
      refine S_ 7 rfl rfl rfl _ (y_assign rfl rfl) ?_
      refine S_go (fun _ _ h => h) ?_
      refine T_seq ?_
      refine T_region ?_
      refine S_ 19 rfl rfl rfl _ (y_move rfl rfl) ?_
      refine S_ 20 rfl rfl rfl _ (y_bin rfl rfl rfl (fun _ => b_neq)) ?_
      refine S_go (fun _ _ h => h) ?_
      refine T_cond rfl (fun h20 => ?_) (fun h20 => ?_)
      · try simp only [decide_eq_true_eq, decide_eq_false_iff_not, Bool.or_eq_true, Bool.or_eq_false_iff, Bool.and_eq_true, Bool.and_eq_false_iff, Bool.not_eq_true', Bool.not_eq_false', Bool.not_eq_true, Bool.not_eq_false, Bool.not_true, Bool.not_false, Int.not_lt, Int.not_le, not_or, not_and, Classical.not_not] at h20
        refine T_many0 900 ?_
        refine T_seq ?_
        refine T_region ?_
        refine S_ 21 rfl rfl rfl _ (y_move rfl rfl) ?_
        refine S_nilSlice 2 (e := 78) (size := 3) ?_
        refine S_ 2 rfl rfl rfl _ (y_assign rfl rfl) ?_
        refine S_ 3 rfl rfl rfl _ (y_assign rfl rfl) ?_
        refine S_go (fun _ _ h => h) ?_
        refine T_ret (fun a w hF hM => hRb a w (post2 rfl rfl rfl (fun w hM => ?_) a w hF hM))
        have hno : tlNo l = evNo x := by rw [tlNo, if_neg (by omega), hp5, hx2, evsNo, if_pos h20]
        exact ⟨⟨none, 0, [], []⟩, by rw [hno]; rfl, ⟨fun h => absurd (hno ▸ h) h20, fun w _ _ => ⟨⟨⟨rfl, fun h => absurd h (by decide)⟩, rfl⟩, Nat.le_refl 0⟩⟩, hM.keep (ks := [(0, 999)]) (by repeat (first | exact kl_rest (by assumption) rfl | (apply kl_in; focus rfl))) _ ⟨rfl, trivial⟩⟩
      · try simp only [decide_eq_true_eq, decide_eq_false_iff_not, Bool.or_eq_true, Bool.or_eq_false_iff, Bool.and_eq_true, Bool.and_eq_false_iff, Bool.not_eq_true', Bool.not_eq_false', Bool.not_eq_true, Bool.not_eq_false, Bool.not_true, Bool.not_false, Int.not_lt, Int.not_le, not_or, not_and, Classical.not_not] at h20
        have h20 : evNo x = 0 := h20
        obtain ⟨hxf, _, hxc, _⟩ := ev_parts h20
        have hef := hxo.fa.ok.t
        have hf0 := faults_pos hxf
        obtain ⟨f0, hf1, hf2⟩ := hef.at (i := 0) hf0
        refine T_skip_go (fun _ _ h => h) ?_
        refine T_seq ?_
        refine T_region ?_
        refine S_ 22 rfl rfl rfl _ (y_move rfl rfl) ?_
        refine S_ 23 rfl rfl rfl _ (y_fieldAddr rfl rfl fa52_5) ?_
        refine S_ 24 rfl rfl rfl _ (y_load 6 rfl rfl rfl rfl Tryd.underlying50 rfl) ?_
        obtain ⟨i25, hi25, hz25, hs25, hy25⟩ := info_parts inf78
        refine S_appendG 25 4 (news := x.cr.l.flatMap SCrumb.enc) rfl rfl rfl rfl rfl rfl rfl (fun w hM => hxo.cr.ok.t.rd.below hM.below) Tryd.underlying50 hi25 hz25 hs25 hy25 rfl (by decide) (allOne_of (fun u hu => by obtain ⟨a, _, ha⟩ := List.mem_flatMap.1 hu; simp [SCrumb.enc] at ha; rcases ha with rfl | rfl | rfl <;> rfl)) ?_ ?_ (n + x.cr.q) ((out ++ x.cr.l).flatMap SCrumb.enc) ?_ ?_ ?_
        · (simp only [maxLen]; omega)
        · omega
        · rfl
        · simp [List.flatMap_append]
        intro A25 c25
        refine S_ 4 rfl rfl rfl _ (y_assign rfl rfl) ?_
        refine S_go (fun _ _ h => h) ?_
        refine T_perm [0, 1, 2, 3, 4, 5, 6, 7, 8, 9, 10, 11] [true, true, true, true, true, true, true, true, true, false, false, true] [0, 0, 2, 0, 8, 24, 56, 120, 254, 510, 1023, 2047] [(2, [6]), (4, [6])] (by kernel_rfl) (by kernel_rfl) (by kernel_rfl) rfl (by kernel_rfl) ?_
        refine Rf_ 0 26 rfl rfl rfl rfl rfl _ trivial (Y.z (y_move rfl rfl) rfl) ?_
        refine Rf_ 1 27 rfl rfl rfl rfl rfl _ trivial (Y.z (y_fieldAddr rfl rfl fa52_1) rfl) ?_
        refine Rf_ 2 28 rfl rfl rfl rfl rfl _ ⟨rfl, trivial⟩ (Y.z (y_load 6 rfl rfl rfl rfl Tryd.underlying3 rfl) rfl) ?_
        refine Rf_ 3 29 rfl rfl rfl rfl rfl _ trivial (Y.z (y_fieldAddr rfl rfl fa52_3) rfl) ?_
        refine Rf_ 4 30 rfl rfl rfl rfl rfl _ ⟨rfl, trivial⟩ (Y.z (y_load 6 rfl rfl rfl rfl Tryd.underlying48 rfl) rfl) ?_
        refine Rf_ 5 31 rfl rfl rfl rfl rfl _ trivial (Y.z (y_indexAddrI (j := 0) rfl rfl rfl (fun _ => rfl) Tryd.underlying48 sz70 (fun hg => hef.isSome (by omega)) (fun _ => by omega)) rfl) ?_
        refine Rf_ 6 32 rfl rfl rfl rfl rfl _ trivial (Y.z (y_fieldEl rfl rfl hef.rd (fun _ => by omega) fa70_0) rfl) ?_
        refine Rf_ 7 33 rfl rfl rfl rfl rfl _ trivial (Y.z (y_load_fT rfl rfl hef (fun _ => rfl) (fun _ => hf1) rfl Tryd.underlying9 rfl) rfl) ?_
        refine Rf_ 8 34 rfl rfl rfl rfl rfl _ trivial (Y.z (y_build (zv := .agg #[.int .i64 0, .string ⟨#[]⟩, .string ⟨#[]⟩]) (pl := [(0, 1), (1, 1), (2, 1)]) (out := [_, _, _]) rfl rfl Tryd.underlying78 z78 (by kernel_rfl) rfl) rfl) ?_
        refine R_chain 9 rfl rfl ?_
        refine S_buildSlice 35 35 rfl rfl rfl rfl rfl Tryd.underlying50 inf78 rfl (by decide) (by decide) rfl rfl (by decide) rfl (_) rfl ?_
        intro b35
        refine R_next ⟨.inl rfl, .inl rfl, trivial⟩ ?_
        refine R_chain 10 rfl rfl ?_
        obtain ⟨i36, hi36, hz36, hs36, hy36⟩ := info_parts inf78
        refine S_append 36 4 35 rfl rfl rfl rfl rfl rfl rfl rfl Tryd.underlying50 hi36 hz36 hs36 hy36 rfl (by decide) (by decide) rfl ?_ ?_ (n + x.cr.q + 1) ((out ++ x.cr.l ++ [(⟨x.at_, eventB, f0.k⟩ : SCrumb)]).flatMap SCrumb.enc) ?_ ?_ ?_
        · (simp only [maxLen]; omega)
        · omega
        · rfl
        · simp [List.flatMap_append, SCrumb.enc]; rfl
        intro A36 c36
        refine R_next ⟨.inl rfl, .inl rfl, trivial⟩ ?_
        refine Rf_ 11 4 rfl rfl rfl rfl rfl _ trivial (Y.z (y_assign rfl rfl) rfl) ?_
        refine R_go (fun _ _ h => h) ?_
        refine T_region ?_
        refine S_ 37 rfl rfl rfl _ (y_bin rfl rfl rfl (fun hg => b_add (by omega))) ?_
        refine S_ 13 rfl rfl rfl _ (y_move rfl rfl) ?_
        refine S_nil (nextK5 (kf := [(2, 4), (6, 7), (13, 37)]) (kl := [(2, 4), (6, 7), (13, 37)]) (i + 1) (out ++ x.cr.l ++ [(⟨x.at_, eventB, f0.k⟩ : SCrumb)]) (n + x.cr.q + 1) A36 c36 (by repeat (first | exact kf_nil | (apply kf_in; focus rfl) | (apply kf_out; focus rfl))) (by repeat (first | exact kl_nil | exact kl_rest (by assumption) rfl | (apply kl_in; focus rfl) | (apply kl_out; focus rfl))) ?_ ?_ ?_ ?_)
        · omega
        · exact ⟨by omega, by rw [tlOut_snoc hx1, hp2, kind0_at hf1], by simp only [List.length_append, List.length_cons, List.length_nil]; omega, by omega, by rw [hp5, hx2, evsNo, if_neg (by simp [h20])]⟩
        · exact ⟨rfl, rfl, trivial⟩
        · exact ⟨rfl, trivial⟩
    · try simp only [decide_eq_true_eq, decide_eq_false_iff_not, Bool.or_eq_true, Bool.or_eq_false_iff, Bool.and_eq_true, Bool.and_eq_false_iff, Bool.not_eq_true', Bool.not_eq_false', Bool.not_eq_true, Bool.not_eq_false, Bool.not_true, Bool.not_false, Int.not_lt, Int.not_le, not_or, not_and, Classical.not_not] at h14
      refine T_exit_go (fun _ _ h => h) ?_
      refine T_seq ?_
      refine T_region ?_
      refine S_ 38 rfl rfl rfl _ (y_move rfl rfl) ?_
      refine S_callM 39 [(0, 4)] (X := List SCrumb) rfl rfl rfl rfl rfl rfl rfl cf113 rfl (fun _ => .tuple #[]) (fun (W : List SCrumb) => W.Perm out ∧ W.Pairwise fun (x y : SCrumb) => x.at_ ≤ y.at_) (fun W => [(0, .own 78 3 (.slice A n c) n (W.flatMap SCrumb.enc))]) (fun _ => rfl) (fun _ => rfl) (fun K1 hK1 w hM => sortStableC_any (R := fun x y => x.at_ ≤ y.at_) (fun _ _ _ => Int.le_trans) (cf := fun x y => cmpJ x.at_ y.at_) _ #[] cf114 (fun x y w => tlcmp_any x y w) hK1 A n c out hp3 (by omega) (List.pairwise_of_forall fun x y => ⟨fun h => cmpJ_lt h, fun h => cmpJ_ge h⟩) w hM) ?_
      rintro W ⟨hWp, hWs⟩
      refine S_go (fun _ _ h => h) ?_
      refine T_seq ?_
      refine T_region ?_
      refine S_many0 900 ?_
      refine S_bank [(4, 4), (900, 900)] 900 4 rfl rfl rfl rfl (by repeat (first | exact kl_nil | exact kl_rest (by assumption) rfl | (apply kl_in; focus rfl) | (apply kl_out; focus rfl))) ?_
      refine S_ 40 rfl rfl rfl _ (y_move rfl rfl) ?_
      refine S_ 2 rfl rfl rfl _ (y_assign rfl rfl) ?_
      refine S_ 3 rfl rfl rfl _ (y_assign rfl rfl) ?_
      refine S_go (fun _ _ h => h) ?_
      refine T_ret (fun a w hF hM => hRb a w (post2 rfl rfl rfl (fun w hM => ?_) a w hF hM))
      have hno : tlNo l = 0 := by rw [tlNo, if_neg (by omega), hp5, ht.end (by omega)]; rfl
      have hWl : W.length = n := by rw [hWp.length_eq, hp3]
      exact ⟨⟨A, c, W, _⟩, by rw [hno, hWl], ⟨fun _ => ⟨by rw [← List.take_of_length_le (l := l.l) (i := i) (by omega), ← hp2]; exact hWp, hWs⟩, by subst hWl; exact Sees.row (List.mem_append_right _ (List.mem_singleton.2 rfl)) rfl⟩, hM.keep (ks := [(0, 999)]) (by repeat (first | exact kl_rest (by assumption) rfl | (apply kl_in; focus rfl))) _ ⟨rfl, trivial⟩⟩
def crSum : List Evt → Nat
  | [] => 0
  | e :: r => e.cr.q + crSum r
theorem tlOut_len : ∀ l : List Evt, (∀ e ∈ l, e.cr.l.length = e.cr.q) → (tlOut l).length = l.length + crSum l
  | [], _ => rfl
  | e :: r, h => by
    have h1 := h e List.mem_cons_self
    show (tl1 e ++ tlOut r).length = _
    rw [List.length_append, tlOut_len r fun x hx => h x (List.mem_cons_of_mem _ hx), tl1, List.length_append, List.length_singleton, List.length_cons, crSum]
    omega
theorem crSum_le : ∀ l : List Evt, (∀ e ∈ l, evNo e = 0) → crSum l ≤ l.length * 50
  | [], _ => Nat.le_refl 0
  | e :: r, h => by
    have h1 := (ev_parts (h e List.mem_cons_self)).2.2.1
    have h2 := crSum_le r fun x hx => h x (List.mem_cons_of_mem _ hx)
    rw [crSum, List.length_cons, Nat.succ_mul]
    omega
theorem EventTimeline_any (l : Sl Evt) (w : World) (hl : EvsOk w l) (hT : TzTab w) :
    Calls Tryd.prog 8 #[.slice l.A l.q l.c] w fun en w' => en = .returned (.bool true) ∧ Below w.heap.size w w' := by
  have ht := hl.ok.t
  have hlen := ht.len
  refine enter_args (args := [.slice l.A l.q l.c]) (F := _) Tryd.func8 rfl Tryd.ntmps8 rfl rfl ?_
  intro Rb hRb hRn
  refine T_seq ?_
  refine T_region ?_
  refine S_ 2 rfl rfl rfl _ (y_assign rfl rfl) ?_
  refine S_go (fun _ _ h => h) ?_
  refine T_seq ?_
  refine T_seq ?_
  refine T_region ?_
  refine S_ 8 rfl rfl rfl _ (y_call rfl rfl rfl cf46 (fun _ w hM => awakeEvent_any w (hT.below hM.below))) ?_
  refine S_ 9 rfl rfl rfl _ (y_not rfl rfl) ?_
  refine S_go (fun _ _ h => h) ?_
  refine T_cond rfl (fun h9 => ?_) (fun h9 => ?_)
  · skip
    cases h9
  · skip
    refine T_skip_go (fun _ _ h => h) ?_
    refine T_seq ?_
    refine T_region ?_
    refine S_ 11 rfl rfl rfl _ (y_move rfl rfl) ?_
    refine S_callN 12 [] [(900, 900)] (X := TlR) rfl rfl rfl rfl rfl rfl rfl cf47 rfl (fun z => .tuple #[.slice z.A z.W.length z.c, .int .i64 (tlNo l)]) (fun z => (tlNo l = 0 → TlP l z) ∧ Sees w z.rs fun w => (⟨z.A, z.W.length, z.c, z.W⟩ : Sl SCrumb).Ok SCrumb.enc 3 w) (fun z => [(900, .many z.rs)]) (fun _ => rfl) (fun _ => rfl) (fun K1 hK1 w1 hM => Timeline_any hK1 l w1 hl hM) ?_
    rintro z hz1
    refine S_ 10 rfl rfl rfl _ (y_move rfl rfl) ?_
    refine S_ 13 rfl rfl rfl _ (y_extract rfl rfl rfl) ?_
    refine S_ 14 rfl rfl rfl _ (y_extract rfl rfl rfl) ?_
    refine S_ 3 rfl rfl rfl _ (y_assign rfl rfl) ?_
    refine S_ 4 rfl rfl rfl _ (y_assign rfl rfl) ?_
    refine S_go (fun _ _ h => h) ?_
    refine T_seq ?_
    refine T_seq ?_
    refine T_region ?_
    refine S_ 15 rfl rfl rfl _ (y_move rfl rfl) ?_
    refine S_ 16 rfl rfl rfl _ (y_bin rfl rfl rfl (fun _ => b_neq)) ?_
    refine S_go (fun _ _ h => h) ?_
    refine T_cond rfl (fun h16 => ?_) (fun h16 => ?_)
    · try simp only [decide_eq_true_eq, decide_eq_false_iff_not, Bool.or_eq_true, Bool.or_eq_false_iff, Bool.and_eq_true, Bool.and_eq_false_iff, Bool.not_eq_true', Bool.not_eq_false', Bool.not_eq_true, Bool.not_eq_false, Bool.not_true, Bool.not_false, Int.not_lt, Int.not_le, not_or, not_and, Classical.not_not] at h16
      refine T_seq ?_
      refine T_region ?_
      refine S_ 2 rfl rfl rfl _ (y_assign rfl rfl) ?_
      refine S_go (fun _ _ h => h) ?_
      refine T_ret (fun a w hF hM => hRb a w (post1 rfl rfl (fun w hM => ?_) a w hF hM))
      exact ⟨rfl, hM.below⟩
    · try simp only [decide_eq_true_eq, decide_eq_false_iff_not, Bool.or_eq_true, Bool.or_eq_false_iff, Bool.and_eq_true, Bool.and_eq_false_iff, Bool.not_eq_true', Bool.not_eq_false', Bool.not_eq_true, Bool.not_eq_false, Bool.not_true, Bool.not_false, Int.not_lt, Int.not_le, not_or, not_and, Classical.not_not] at h16
      have hno : tlNo l = 0 := h16
      have hP := hz1.1 hno
      have hq2 : l.q ≤ 2000 := by
        unfold tlNo at hno
        split at hno
        · cases hno
        · omega
      have hev : ∀ e ∈ l.l, evNo e = 0 := evs_parts _ (by rw [tlNo, if_neg (by omega)] at hno; exact hno)
      have hat : ∀ x ∈ z.W, atOk x := fun x hx => tlOut_at hev x (hP.1.mem_iff.1 hx)
      have hcs := crSum_le l.l hev
      have hzl : z.W.length = l.q + crSum l.l := by rw [hP.1.length_eq, tlOut_len l.l fun e he => (hl.n e he).cr.ok.t.len, hlen]
      refine T_skip_go (fun _ _ h => h) ?_
      refine T_seq ?_
      refine T_region ?_
      refine S_ 17 rfl rfl rfl _ (y_move rfl rfl) ?_
      refine S_ 18 rfl rfl rfl _ (y_len_slice rfl rfl Tryd.underlying43) ?_
      refine S_ 5 rfl rfl rfl _ (y_assign rfl rfl) ?_
      refine S_go (fun _ _ h => h) ?_
      refine T_seq ?_
      refine T_seq ?_
      refine T_region ?_
      refine S_ 19 rfl rfl rfl _ (y_move rfl rfl) ?_
      refine S_ 20 rfl rfl rfl _ (y_len_slice rfl rfl Tryd.underlying43) ?_
      refine S_ 21 rfl rfl rfl _ (y_move rfl rfl) ?_
      refine S_go (fun _ _ h => h) ?_
      refine T_block ?_
      refine T_loopK2 (kf := [(5, 5), (7, 7), (21, 30)]) (kl := [(5, 5), (7, 7), (21, 30)]) (fun (i m : Nat) => [(21, true, .int .i64 (i : Int)), (5, true, .int .i64 (m : Int))]) (fun (i m : Nat) => []) (fun (i m : Nat) => i ≤ l.q ∧ m + crSum (l.l.drop i) = l.q + crSum l.l) (fun (i m : Nat) => l.q - i) 0 l.q (by repeat (first | exact kf_nil | (apply kf_in; focus rfl) | (apply kf_out; focus rfl))) (by repeat (first | exact kl_nil | exact kl_rest (by assumption) rfl | (apply kl_in; focus rfl) | (apply kl_out; focus rfl))) ?_ ?_ ?_ ?_
      · exact ⟨by omega, rfl⟩
      · exact ⟨rfl, rfl, trivial⟩
      · exact trivial
      rintro i m ⟨hp1, hp2⟩
      refine T_seq ?_
      refine T_region ?_
      refine S_ 22 rfl rfl rfl _ (y_bin rfl rfl rfl (fun _ => b_lss)) ?_
      refine S_go (fun _ _ h => h) ?_
      refine T_seq ?_
      refine T_cond rfl (fun h22 => ?_) (fun h22 => ?_)
      · try simp only [decide_eq_true_eq, decide_eq_false_iff_not, Bool.or_eq_true, Bool.or_eq_false_iff, Bool.and_eq_true, Bool.and_eq_false_iff, Bool.not_eq_true', Bool.not_eq_false', Bool.not_eq_true, Bool.not_eq_false, Bool.not_true, Bool.not_false, Int.not_lt, Int.not_le, not_or, not_and, Classical.not_not] at h22
        obtain ⟨x, hx1, hx2⟩ := ht.at (i := i) (by omega)
        rw [hx2, crSum] at hp2
        refine T_skip_go (fun _ _ h => h) ?_
        refine T_seq ?_
        refine T_block ?_
        refine T_seq ?_
        refine T_region ?_
        refine S_ 23 rfl rfl rfl _ (y_indexAddr rfl rfl rfl Tryd.underlying43 sz52 (fun hg => ht.isSome (by omega)) (fun _ => by omega)) ?_
        refine S_ 24 rfl rfl rfl _ (y_loadT rfl rfl ht (fun _ => rfl) (fun _ => hx1) Tryd.underlying52 rfl sz52) ?_
        refine S_alloc 7 7 rfl rfl rfl rfl z52 ?_
        intro b7
        refine S_store 7 rfl rfl rfl rfl rfl rfl sz52 rfl rfl ?_
        refine S_go (fun _ _ h => h) ?_
        refine T_region ?_
        refine S_ 25 rfl rfl rfl _ (y_move rfl rfl) ?_
        refine S_ 26 rfl rfl rfl _ (y_fieldAddr rfl rfl fa52_5) ?_
        refine S_ 27 rfl rfl rfl _ (y_load 7 rfl rfl rfl rfl Tryd.underlying50 rfl) ?_
        refine S_ 28 rfl rfl rfl _ (y_len_slice rfl rfl Tryd.underlying50) ?_
        refine S_ 29 rfl rfl rfl _ (y_bin rfl rfl rfl (fun hg => b_addv (((m + x.cr.q : Nat) : Int)) (by omega) (by omega))) ?_
        refine S_ 5 rfl rfl rfl _ (y_assign rfl rfl) ?_
        refine S_go (fun _ _ h => h) ?_
        refine T_region ?_
        refine S_ 30 rfl rfl rfl _ (y_bin rfl rfl rfl (fun hg => b_add (by omega))) ?_
        refine S_ 21 rfl rfl rfl _ (y_move rfl rfl) ?_
        refine S_nil (nextK2 (kf := [(5, 5), (7, 7), (21, 30)]) (kl := [(5, 5), (7, 7), (21, 30)]) (i + 1) (m + x.cr.q) (by repeat (first | exact kf_nil | (apply kf_in; focus rfl) | (apply kf_out; focus rfl))) (by repeat (first | exact kl_nil | exact kl_rest (by assumption) rfl | (apply kl_in; focus rfl) | (apply kl_out; focus rfl))) ?_ ?_ ?_ ?_)
        · omega
        · exact ⟨by omega, by omega⟩
        · exact ⟨rfl, rfl, trivial⟩
        · exact trivial
      · try simp only [decide_eq_true_eq, decide_eq_false_iff_not, Bool.or_eq_true, Bool.or_eq_false_iff, Bool.and_eq_true, Bool.and_eq_false_iff, Bool.not_eq_true', Bool.not_eq_false', Bool.not_eq_true, Bool.not_eq_false, Bool.not_true, Bool.not_false, Int.not_lt, Int.not_le, not_or, not_and, Classical.not_not] at h22
        rw [ht.end (by omega), crSum] at hp2
        refine T_exit_go (fun _ _ h => h) ?_
        refine T_seq ?_
        refine T_region ?_
        refine S_ 31 rfl rfl rfl _ (y_move rfl rfl) ?_
        refine S_ 32 rfl rfl rfl _ (y_len_slice rfl rfl Tryd.underlying50) ?_
        refine S_ 33 rfl rfl rfl _ (y_move rfl rfl) ?_
        refine S_ 34 rfl rfl rfl _ (y_bin rfl rfl rfl (fun _ => b_eql)) ?_
        refine S_ 35 rfl rfl rfl _ (y_move rfl rfl) ?_
        refine Sg_ 36 rfl rfl rfl rfl rfl rfl _ (y_move rfl rfl) ?_
        refine Sg_ 37 rfl rfl rfl rfl rfl rfl _ (y_call rfl rfl rfl cf48 (fun _ w hM => isSortedC_any (cf := fun x y => x.at_ - y.at_) _ #[] cf49 z.A z.W.length z.c z.W (fun x hx y hy w => tlsub_any x y (hat x hx) (hat y hy) w) (hP.2.imp fun h h2 => by omega) w (hz1.2.at hM 900 rfl).t (by omega))) ?_
        refine S_ 38 rfl rfl rfl _ (y_and rfl rfl rfl) ?_
        refine S_ 2 rfl rfl rfl _ (y_assign rfl rfl) ?_
        refine S_go (fun _ _ h => h) ?_
        refine T_ret (fun a w hF hM => hRb a w (post1 rfl rfl (fun w hM => ?_) a w hF hM))
        have hm : (z.W.length : Int) = (m : Int) := by omega
        exact ⟨by simp [hm], hM.below⟩
end Go.Proofs.YtoeipmepmlikcaaDoor
