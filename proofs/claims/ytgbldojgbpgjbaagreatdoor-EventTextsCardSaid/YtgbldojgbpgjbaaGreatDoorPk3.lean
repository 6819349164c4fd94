/- Part 3, merged by a program. stack.writeInner and stack.Write in the form Inner: right faults written. Conditions: those of each theorem. A row of strings of the call's own. No condition. The reference's lines of faults: numbers, names, places, heads, Written in the form Inner. Conditions: those of each theorem. The reference's inner: faults read from lines. Conditions: those of each theorem. The reference's errors of frames and faults. Conditions: those of each theorem. The reference's FaultsRead in the form Inner. Conditions: those of each theorem. The reference's reader of an event's head, and eventRead of the law. Conditions: those of each theorem. event.Text: an event written. Conditions: those of each theorem. The reference's Written in the form Inner, EventHead, and eventText of the law. Conditions: those of each theorem. The reference's EventHead, and eventText of the law. Conditions: those of each theorem. -/
import Derived.Test.YtgbldojgbpgjbaaGreatDoorZip
import Derived.Test.YtgbldojgbpgjbaaGreatDoorPerm
import Derived.Test.YtgbldojgbpgjbaaGreatDoorTail
import Derived.Test.YtgbldojgbpgjbaaGreatDoorTree
import Derived.Test.YtgbldojgbpgjbaaGreatDoorPk2
section
namespace Go.Proofs.YtgbldojgbpgjbaaGreatDoor
set_option linter.unusedSimpArgs false
set_option linter.unusedVariables false
set_option maxRecDepth 20000
open Go.RowKit Go.Eng
structure BdR (b : Nat) where
  ad : Value
  A : Option Addr
  c : Nat
  ok : ad = .pointer none ∨ ad = selfP b
theorem fr_cut {p : Option (List Frm)} {f : Sl Frm} {N : Nat} (h : f.l.length = f.q) (hN : N = sh2 (shW p f.l)) : ((f.l.drop 0).take (f.q - N - 0)).flatMap frameT = frmsT p f.l := by
  subst hN
  rw [frmsT, h]; rfl
theorem fltOk_t {w : World} {f : Flt} (h : FltOk w f) : SlT Frm.enc 6 w f.fr.A f.fr.q f.fr.l := h.fr.ok.t
set_option maxHeartbeats 1600000 in
theorem writeInner_any {w0 : World} {K : HL} (hK : FromK K) (b : Nat) (ad : Value) (A : Option Addr) (c : Nat) (l : Sl Flt) (had : ad = .pointer none ∨ ad = selfP b) (hl : FltsOk w0 l) (hr : ∀ f ∈ l.l, FlN f) (h0 : 0 < l.q) (h10 : l.q ≤ 10) (w : World) (hM0 : Mem w0 ([(0, bB b ad A c []), (1, bR A c [])] ++ K) w) (hP : P10 w0) (hT : TzTab w0) :
    Calls Tryz.prog 73 #[selfP b, .slice l.A l.q l.c] w fun e w' => ∃ x : Option Addr × Nat, e = .returned (.tuple #[]) ∧ True ∧ Mem w0 ([(0, bB b (selfP b) x.1 x.2 (writeT none (l.l.map pfl))), (1, bR x.1 x.2 (writeT none (l.l.map pfl)))] ++ K) w' := by
  have ht := hl.ok.t
  refine enterM_args (args := [selfP b, .slice l.A l.q l.c]) (F := _) hM0 Tryz.func73 rfl Tryz.ntmps73 rfl rfl ?_
  intro Rb hRb hRn
  refine tx ?_
  refine sr 1 ?_
  refine s1 (y_len_slice rfl rfl Tryz.underlying22) ?_
  refine sr 1 ?_
  refine sgo ?_
  refine T_block ?_
  refine lK5 (kf := [(4, 6), (8, 8), (11, 66)]) (kl := [(0, 1), (4, 6), (8, 8), (11, 66)]) (fun (i : Nat) (L : List UInt8) (ad2 : Value) (A2 : Option Addr) (c2 : Nat) => [(11, true, .int .i64 (i : Int))]) (fun (i : Nat) (L : List UInt8) (ad2 : Value) (A2 : Option Addr) (c2 : Nat) => [(0, bB b ad2 A2 c2 L), (1, bR A2 c2 L)]) (fun (i : Nat) (L : List UInt8) (ad2 : Value) (A2 : Option Addr) (c2 : Nat) => i ≤ l.q ∧ L ++ writeT (prevP l.l i) ((l.l.drop i).map pfl) = writeT none (l.l.map pfl) ∧ (ad2 = .pointer none ∨ ad2 = selfP b) ∧ (0 < i → ad2 = selfP b) ∧ L.length ≤ i * 900000000) (fun (i : Nat) (L : List UInt8) (ad2 : Value) (A2 : Option Addr) (c2 : Nat) => l.q - i) 0 [] ad A c ?_ ?_ ?_ ?_
  · exact ⟨by omega, rfl, had, fun h => absurd h (Nat.lt_irrefl 0), Nat.zero_le _⟩
  · exact ⟨rfl, trivial⟩
  · exact ⟨rfl, rfl, trivial⟩
  rintro i L ad2 A2 c2 ⟨hp1, hp2, hp3, hp4, hp5⟩
  refine tx ?_
  refine sr 1 ?_
  refine sgs ?_
  refine T_cond rfl ?_ ?_ <;> intro h12
  · try simp only [nrm] at h12
    obtain ⟨x, hx1, hx2⟩ := ht.at (i := i) (by omega)
    have hn := hr x (mem_at hx1)
    have hxo := hl.n x (mem_at hx1)
    have hxt := fltOk_t hxo
    have hxc := hxo.fr.ok.cap
    have hxl := hxt.len
    have hxq := hn.q
    have hpl := preT_le (prevP l.l i)
    have hhl := headT_le hn.k hn.t
    have hfl := frmsT_le (p := (prevP l.l i)) hn
    have hol := oneT_le (p := (prevP l.l i)) hn
    have hs1 := sh2_le (shW (prevP l.l i) x.fr.l)
    have hs2 := shW_le (prevP l.l i) x.fr.l
    have hwt := writeT_cons (p := (prevP l.l i)) hx2
    refine kgs ?_
    refine T_block ?_
    refine tx ?_
    refine sr 1 ?_
    refine s1 (y_indexAddr rfl rfl rfl Tryz.underlying22 sz36 (fun hg => ht.isSome (by omega)) (fun _ => by omega)) ?_
    refine s1 (y_loadT rfl rfl ht (fun _ => rfl) (fun _ => hx1) Tryz.underlying36 rfl sz36) ?_
    refine S_alloc 5 5 rfl rfl rfl rfl z36 ?_
    intro b5
    refine sr 1 ?_
    refine S_store 5 rfl rfl rfl rfl rfl rfl sz36 rfl rfl ?_
    refine sgx ?_
    refine sr 1 ?_
    refine sgs ?_
    refine tx ?_
    refine sr 2 ?_
    refine sgo ?_
    refine T_mid (kf := [(6, 6), (18, 28)]) (kl := [(0, 1), (6, 6), (18, 28)]) (fun y : BdR b => [(6, true, .int .i64 ((shW (prevP l.l i) x.fr.l : Nat) : Int))]) (fun y : BdR b => [(0, bB b y.ad y.A y.c (L ++ preT (prevP l.l i))), (1, bR y.A y.c (L ++ preT (prevP l.l i)))]) (by repeat (first | exact kf_nil | (apply kf_in; focus rfl) | (apply kf_out; focus rfl))) (by repeat (first | exact kl_nil | exact kl_rest (by assumption) rfl | (apply kl_in; focus rfl) | (apply kl_out; focus rfl))) ?_ ?_
    · skip
      refine T_cond rfl ?_ ?_ <;> intro h17
      · try simp only [nrm] at h17
        obtain ⟨v, hv1, hv2⟩ := ht.at (i := i - 1) (by omega)
        have hpv := prevP_pos (by omega) hv1
        have hvq := (hr v (mem_at hv1)).q
        have hvl := (fltOk_t (hl.n v (mem_at hv1))).len
        refine tx ?_
        refine sr 1 ?_
        refine S_callM 19 [(0, 0), (1, 1)] (X := Option Addr × Nat) rfl rfl rfl rfl rfl rfl rfl cf31 rfl (fun _ => .tuple #[.int .i64 (causeB).length, .nilIface]) (fun _ => True) (fun z0 => [(0, bB b (selfP b) z0.1 z0.2 (L ++ causeB)), (1, bR z0.1 z0.2 (L ++ causeB))]) (fun _ => rfl) (fun _ => rfl) (fun K1 hK1 w hM => (WStr_any hK1 b _ _ _ (L) (causeB) (hp3) (by simp only [List.length_cons, List.length_nil]; omega) w hM).mono fun e w1 h => h.elim fun x h => ⟨x, h.1, trivial, h.2.2⟩) ?_
        intro x19 hx19
        refine sgo ?_
        refine T_draws (by kernel_rfl) (by kernel_rfl) ?_
        refine d1 (y_move rfl rfl) ?_
        refine d1 (y_move rfl rfl) ?_
        refine d1 (y_bin rfl rfl rfl (fun hg => b_subv (((i - 1 : Nat) : Int)) (by omega) (by omega))) ?_
        refine d1 (y_indexAddr rfl rfl rfl Tryz.underlying22 sz36 (fun _ => ht.isSome (by omega)) (fun _ => by omega)) ?_
        refine d1 (y_fieldEl rfl rfl ht.rd (fun _ => by omega) fa36_2) ?_
        refine d1 (y_load_fT rfl rfl ht (fun _ => rfl) (fun _ => hv1) rfl Tryz.underlying32 rfl) ?_
        refine d1 (yF fa36_2) ?_
        refine d1 (yL 5 Tryz.underlying32) ?_
        refine d1 (y_call rfl rfl rfl cf164 (fun _ w hM => Shared_any _ _ _ _ _ _ _ _ w ((fltOk_t (hl.n v (mem_at hv1))).below hM.below) (hxt.below hM.below) (by omega) (by omega))) ?_
        refine d1 (y_assign rfl rfl) ?_
        refine D_nil (mid_end (kf := [(6, 6), (18, 28)]) (kl := [(0, 1), (6, 6), (18, 28)]) (⟨selfP b, x19.1, x19.2, .inr rfl⟩) (by repeat (first | exact kf_nil | (apply kf_in; focus rfl) | (apply kf_out; focus rfl))) (by repeat (first | exact kl_nil | exact kl_rest (by assumption) rfl | (apply kl_in; focus rfl) | (apply kl_out; focus rfl))) ?_ ?_)
        · exact ⟨by rw [hpv]; rfl, trivial⟩
        · exact ⟨by rw [hpv]; rfl, by rw [hpv]; rfl, trivial⟩
      try simp only [nrm] at h17
      have hi0 : i = 0 := by omega
      have hpv : prevP l.l i = none := by rw [hi0]; rfl
      have hLp : L ++ preT (prevP l.l i) = L := by rw [hpv]; exact List.append_nil L
      refine T_skip (mid_end (kf := [(6, 6), (18, 28)]) (kl := [(0, 1), (6, 6), (18, 28)]) (⟨ad2, A2, c2, hp3⟩) (by repeat (first | exact kf_nil | (apply kf_in; focus rfl) | (apply kf_out; focus rfl))) (by repeat (first | exact kl_nil | exact kl_rest (by assumption) rfl | (apply kl_in; focus rfl) | (apply kl_out; focus rfl))) ?_ ?_)
      · exact ⟨by rw [hpv]; rfl, trivial⟩
      · exact ⟨by rw [hLp]; rfl, by rw [hLp]; rfl, trivial⟩
    intro y
    refine sgx ?_
    refine sr 1 ?_
    refine s1 (yA 5 rfl Tryz.underlying36 sz36) ?_
    refine s1 (y_call rfl rfl rfl cf165 (fun _ w _ => head_any x hn.k hn.t w)) ?_
    refine S_callM 32 [(0, 0), (1, 1)] (X := Option Addr × Nat) rfl rfl rfl rfl rfl rfl rfl cf31 rfl (fun _ => .tuple #[.int .i64 (headT x.k x.t).length, .nilIface]) (fun _ => True) (fun z0 => [(0, bB b (selfP b) z0.1 z0.2 ((L ++ preT (prevP l.l i)) ++ headT x.k x.t)), (1, bR z0.1 z0.2 ((L ++ preT (prevP l.l i)) ++ headT x.k x.t))]) (fun _ => rfl) (fun _ => rfl) (fun K1 hK1 w hM => (WStr_any hK1 b _ _ _ ((L ++ preT (prevP l.l i))) (headT x.k x.t) (y.ok) (by rw [List.length_append]; omega) w hM).mono fun e w1 h => h.elim fun x h => ⟨x, h.1, trivial, h.2.2⟩) ?_
    intro x32 hx32
    refine sgs ?_
    refine tx ?_
    refine sr 2 ?_
    refine sgo ?_
    refine T_mid (kf := [(6, 6)]) (kl := [(6, 6)]) (fun u : Unit => [(6, true, .int .i64 (((sh2 (shW (prevP l.l i) x.fr.l)) : Nat) : Int))]) (fun u : Unit => []) (by repeat (first | exact kf_nil | (apply kf_in; focus rfl) | (apply kf_out; focus rfl))) (by repeat (first | exact kl_nil | exact kl_rest (by assumption) rfl | (apply kl_in; focus rfl) | (apply kl_out; focus rfl))) ?_ ?_
    · skip
      refine T_cond rfl ?_ ?_ <;> intro h34
      · try simp only [nrm] at h34
        refine T_region ?_
        refine sr 1 ?_
        refine S_nil (mid_end (kf := [(6, 6)]) (kl := [(6, 6)]) (()) (by repeat (first | exact kf_nil | (apply kf_in; focus rfl) | (apply kf_out; focus rfl))) (by repeat (first | exact kl_nil | exact kl_rest (by assumption) rfl | (apply kl_in; focus rfl) | (apply kl_out; focus rfl))) ?_ ?_)
        · exact ⟨by rw [sh2, if_pos (by omega)]; rfl, trivial⟩
        · exact trivial
      try simp only [nrm] at h34
      refine T_skip (mid_end (kf := [(6, 6)]) (kl := [(6, 6)]) (()) (by repeat (first | exact kf_nil | (apply kf_in; focus rfl) | (apply kf_out; focus rfl))) (by repeat (first | exact kl_nil | exact kl_rest (by assumption) rfl | (apply kl_in; focus rfl) | (apply kl_out; focus rfl))) ?_ ?_)
      · exact ⟨by rw [sh2, if_neg (by omega)]; rfl, trivial⟩
      · exact trivial
    intro u
    have hcut := hxt.cut (lo := 0) (hi := x.fr.q - (sh2 (shW (prevP l.l i) x.fr.l))) (c := x.fr.c) (fun _ => rfl) (by omega) (by omega) hxc
    have hfm := fr_cut (p := (prevP l.l i)) hxl rfl
    refine sgs ?_
    refine tx ?_
    refine s1 (yF fa36_2) ?_
    refine s1 (yL 5 Tryz.underlying32) ?_
    refine s1 (yF fa36_2) ?_
    refine s1 (yL 5 Tryz.underlying32) ?_
    refine s1 (y_len_slice rfl rfl Tryz.underlying32) ?_
    refine sr 1 ?_
    refine s1 (y_bin rfl rfl rfl (fun hg => b_subv (((x.fr.q - sh2 (shW (prevP l.l i) x.fr.l) : Nat) : Int)) (by omega) (by omega))) ?_
    refine s1 (y_slice rfl rfl Tryz.underlying32 sz45 (.inl ⟨rfl, rfl⟩) (.inr ⟨_, _, rfl, rfl⟩) (by omega) (by omega) hxc) ?_
    refine s1 (y_len_slice rfl rfl Tryz.underlying32) ?_
    refine sr 1 ?_
    refine sgo ?_
    refine T_block ?_
    refine lK4 (kf := [(8, 8), (44, 57)]) (kl := [(0, 1), (8, 8), (44, 57)]) (fun (j : Nat) (L2 : List UInt8) (A3 : Option Addr) (c3 : Nat) => [(44, true, .int .i64 (j : Int))]) (fun (j : Nat) (L2 : List UInt8) (A3 : Option Addr) (c3 : Nat) => [(0, bB b (selfP b) A3 c3 L2), (1, bR A3 c3 L2)]) (fun (j : Nat) (L2 : List UInt8) (A3 : Option Addr) (c3 : Nat) => j ≤ x.fr.q - (sh2 (shW (prevP l.l i) x.fr.l)) - 0 ∧ L2 ++ (((x.fr.l.drop 0).take (x.fr.q - (sh2 (shW (prevP l.l i) x.fr.l)) - 0)).drop j).flatMap frameT = (L ++ preT (prevP l.l i) ++ headT x.k x.t) ++ ((x.fr.l.drop 0).take (x.fr.q - (sh2 (shW (prevP l.l i) x.fr.l)) - 0)).flatMap frameT) (fun (j : Nat) (L2 : List UInt8) (A3 : Option Addr) (c3 : Nat) => x.fr.q - (sh2 (shW (prevP l.l i) x.fr.l)) - 0 - j) 0 (L ++ preT (prevP l.l i) ++ headT x.k x.t) x32.1 x32.2 ?_ ?_ ?_ ?_
    · exact ⟨by omega, rfl⟩
    · exact ⟨rfl, trivial⟩
    · exact ⟨rfl, rfl, trivial⟩
    rintro j L2 A3 c3 ⟨hq1, hq2⟩
    refine tx ?_
    refine sr 1 ?_
    refine sgs ?_
    refine T_cond rfl ?_ ?_ <;> intro h45
    · try simp only [nrm] at h45
      obtain ⟨z, hz1, hz2⟩ := hcut.at (i := j) (by omega)
      have hzn := hn.n z (List.mem_of_mem_drop (List.mem_of_mem_take (mem_at hz1)))
      have hzl := frameT_le hzn
      have hzc := callT_le hzn.s
      have hzp := placeT_le hzn
      have hfml := congrArg List.length hfm
      have hlx := congrArg List.length hq2
      rw [hz2, List.flatMap_cons] at hq2
      simp only [List.length_append] at hlx
      refine kgs ?_
      refine T_block ?_
      refine tx ?_
      refine s1 (y_indexAddr rfl rfl rfl Tryz.underlying32 sz45 (fun hg => hcut.isSome (by omega)) (fun _ => by omega)) ?_
      refine s1 (y_loadT rfl rfl hcut (fun _ => rfl) (fun _ => hz1) Tryz.underlying45 rfl sz45) ?_
      refine S_alloc 8 8 rfl rfl rfl rfl z45 ?_
      intro b8
      refine S_store 8 rfl rfl rfl rfl rfl rfl sz45 rfl rfl ?_
      refine sgo ?_
      refine T_drawsTail 8 (by kernel_rfl) (by kernel_rfl) ?_
      refine d1 (y_move rfl rfl) ?_
      refine d1 (yA 8 rfl Tryz.underlying45 sz45) ?_
      refine d1 (y_call rfl rfl rfl cf166 (fun _ w _ => call_any z hzn.s w)) ?_
      refine d1 (y_bin rfl rfl rfl (fun hg => b_adds (by first | omega | (simp only [List.length_append, List.length_cons, List.length_nil]; omega)))) ?_
      refine d1 (yA 8 rfl Tryz.underlying45 sz45) ?_
      refine d1 (y_call rfl rfl rfl cf167 (fun _ w hM => place_any z hzn w (hP.below hM.below) (hT.below hM.below))) ?_
      refine d1 (y_bin rfl rfl rfl (fun hg => b_adds (by first | omega | (simp only [List.length_append, List.length_cons, List.length_nil]; omega)))) ?_
      refine d1 (y_as (v' := str (frameT z)) (by exact rfl) (y_bin rfl rfl rfl (fun hg => b_adds (by first | omega | (simp only [List.length_append, List.length_cons, List.length_nil]; omega))))) ?_
      refine D_tail ?_
      refine S_callM 56 [(0, 0), (1, 1)] (X := Option Addr × Nat) rfl rfl rfl rfl rfl rfl rfl cf31 rfl (fun _ => .tuple #[.int .i64 (frameT z).length, .nilIface]) (fun _ => True) (fun z0 => [(0, bB b (selfP b) z0.1 z0.2 (L2 ++ frameT z)), (1, bR z0.1 z0.2 (L2 ++ frameT z))]) (fun _ => rfl) (fun _ => rfl) (fun K1 hK1 w hM => (WStr_any hK1 b _ _ _ (L2) (frameT z) (.inr rfl) (by omega) w hM).mono fun e w1 h => h.elim fun x h => ⟨x, h.1, trivial, h.2.2⟩) ?_
      intro x56 hx56
      refine sgr ?_
      refine s1 (y_bin rfl rfl rfl (fun hg => b_add (by omega))) ?_
      refine sr 1 ?_
      refine S_nil (nK4 (kf := [(8, 8), (44, 57)]) (kl := [(0, 1), (8, 8), (44, 57)]) (j + 1) (L2 ++ frameT z) x56.1 x56.2 ?_ ?_ ?_ ?_)
      · omega
      · exact ⟨by omega, by rw [← hq2, List.append_assoc]⟩
      · exact ⟨rfl, trivial⟩
      · exact ⟨rfl, rfl, trivial⟩
    try simp only [nrm] at h45
    have hL2 : L2 = (L ++ preT (prevP l.l i) ++ headT x.k x.t) ++ frmsT (prevP l.l i) x.fr.l := by rw [hcut.end (by omega)] at hq2; rw [← hfm, ← hq2]; exact (List.append_nil L2).symm
    have hll := congrArg List.length hL2
    simp only [List.length_append] at hll
    refine egx ?_
    refine sr 2 ?_
    refine sgo ?_
    refine T_mid (kf := [(60, 65)]) (kl := [(0, 1), (60, 65)]) (fun v : Option Addr × Nat => []) (fun v : Option Addr × Nat => [(0, bB b (selfP b) v.1 v.2 (L ++ oneT (prevP l.l i) (pfl x))), (1, bR v.1 v.2 (L ++ oneT (prevP l.l i) (pfl x)))]) (by repeat (first | exact kf_nil | (apply kf_in; focus rfl) | (apply kf_out; focus rfl))) (by repeat (first | exact kl_nil | exact kl_rest (by assumption) rfl | (apply kl_in; focus rfl) | (apply kl_out; focus rfl))) ?_ ?_
    · skip
      refine T_cond rfl ?_ ?_ <;> intro h59
      · try simp only [nrm] at h59
        have hE : L2 ++ (dotB ++ Lib.itoa (((sh2 (shW (prevP l.l i) x.fr.l)) : Nat) : Int) ++ moreB ++ [10]) = L ++ oneT (prevP l.l i) (pfl x) := by
          rw [hL2]
          show _ = L ++ (preT (prevP l.l i) ++ headT x.k x.t ++ frmsT (prevP l.l i) x.fr.l ++ dotT (sh2 (shW (prevP l.l i) x.fr.l)))
          rw [dotT, if_neg (by omega)]
          simp only [List.append_assoc]
        have hil := itoa_le (((sh2 (shW (prevP l.l i) x.fr.l)) : Nat) : Int) (by omega)
        refine T_region ?_
        refine sr 2 ?_
        refine s1 (y_call rfl rfl rfl cf33 (fun _ w hM => Itoa_any _ (by omega) (by omega) w (hP.below hM.below))) ?_
        refine s1 (y_bin rfl rfl rfl (fun hg => b_adds (by first | omega | (simp only [List.length_append, List.length_cons, List.length_nil]; omega)))) ?_
        refine s1 (y_as (v' := str (dotB ++ Lib.itoa ((sh2 (shW (prevP l.l i) x.fr.l) : Nat) : Int) ++ moreB ++ [10])) (by simp) (y_bin rfl rfl rfl (fun hg => b_adds (by first | omega | (simp only [List.length_append, List.length_cons, List.length_nil]; omega))))) ?_
        refine S_callM 65 [(0, 0), (1, 1)] (X := Option Addr × Nat) rfl rfl rfl rfl rfl rfl rfl cf31 rfl (fun _ => .tuple #[.int .i64 ((dotB ++ Lib.itoa ((sh2 (shW (prevP l.l i) x.fr.l) : Nat) : Int) ++ moreB ++ [10])).length, .nilIface]) (fun _ => True) (fun z0 => [(0, bB b (selfP b) z0.1 z0.2 (L2 ++ (dotB ++ Lib.itoa ((sh2 (shW (prevP l.l i) x.fr.l) : Nat) : Int) ++ moreB ++ [10]))), (1, bR z0.1 z0.2 (L2 ++ (dotB ++ Lib.itoa ((sh2 (shW (prevP l.l i) x.fr.l) : Nat) : Int) ++ moreB ++ [10])))]) (fun _ => rfl) (fun _ => rfl) (fun K1 hK1 w hM => (WStr_any hK1 b _ _ _ (L2) ((dotB ++ Lib.itoa ((sh2 (shW (prevP l.l i) x.fr.l) : Nat) : Int) ++ moreB ++ [10])) (.inr rfl) (by simp only [List.length_append, List.length_cons, List.length_nil]; omega) w hM).mono fun e w1 h => h.elim fun x h => ⟨x, h.1, trivial, h.2.2⟩) ?_
        intro x65 hx65
        refine S_nil (mid_end (kf := [(60, 65)]) (kl := [(0, 1), (60, 65)]) ((x65.1, x65.2)) (by repeat (first | exact kf_nil | (apply kf_in; focus rfl) | (apply kf_out; focus rfl))) (by repeat (first | exact kl_nil | exact kl_rest (by assumption) rfl | (apply kl_in; focus rfl) | (apply kl_out; focus rfl))) ?_ ?_)
        · exact trivial
        · exact ⟨by rw [← hE]; rfl, by rw [← hE]; rfl, trivial⟩
      try simp only [nrm] at h59
      have hE : L2 = L ++ oneT (prevP l.l i) (pfl x) := by
        rw [hL2]
        show _ = L ++ (preT (prevP l.l i) ++ headT x.k x.t ++ frmsT (prevP l.l i) x.fr.l ++ dotT (sh2 (shW (prevP l.l i) x.fr.l)))
        rw [dotT, if_pos (by omega)]
        simp only [List.append_assoc, List.append_nil]
      refine T_skip (mid_end (kf := [(60, 65)]) (kl := [(0, 1), (60, 65)]) ((A3, c3)) (by repeat (first | exact kf_nil | (apply kf_in; focus rfl) | (apply kf_out; focus rfl))) (by repeat (first | exact kl_nil | exact kl_rest (by assumption) rfl | (apply kl_in; focus rfl) | (apply kl_out; focus rfl))) ?_ ?_)
      · exact trivial
      · exact ⟨by rw [← hE]; rfl, by rw [← hE]; rfl, trivial⟩
    intro v
    refine sgr ?_
    refine s1 (y_bin rfl rfl rfl (fun hg => b_add (by omega))) ?_
    refine sr 1 ?_
    refine S_nil (nK5 (kf := [(4, 6), (8, 8), (11, 66)]) (kl := [(0, 1), (4, 6), (8, 8), (11, 66)]) (i + 1) (L ++ oneT (prevP l.l i) (pfl x)) (selfP b) v.1 v.2 ?_ ?_ ?_ ?_)
    · omega
    · exact ⟨by omega, by rw [← hp2, hwt, prevP_next hx1, List.append_assoc], .inr rfl, fun _ => rfl, by rw [List.length_append]; omega⟩
    · exact ⟨rfl, trivial⟩
    · exact ⟨rfl, rfl, trivial⟩
  try simp only [nrm] at h12
  refine T_exit (fun a w hF hM => hRn a w (post0 rfl (fun w hM => ?_) a w hF hM))
  have hi : i = l.q := by omega
  have hL : L = writeT none (l.l.map pfl) := by rw [← hp2, ht.end (by omega)]; exact (List.append_nil L).symm
  have had2 := hp4 (by omega)
  subst had2
  rw [← hL]
  exact ⟨(A2, c2), rfl, trivial, hM.keep (ks := [(0, 999)]) (by repeat (first | exact kl_rest (by assumption) rfl | (apply kl_in; focus rfl))) _ ⟨rfl, rfl, trivial⟩⟩
theorem writeT_pos {p : Option (List Frm)} {l : List Flt} (h : 0 < l.length) : 2 ≤ (writeT p (l.map pfl)).length := by
  cases l with
  | nil => cases h
  | cons f r =>
    have e : writeT p ((f :: r).map pfl) = (preT p ++ headT f.k f.t ++ frmsT p f.fr.l ++ dotT (sh2 (shW p f.fr.l))) ++ writeT (some f.fr.l) (r.map pfl) := rfl
    have e2 : 2 ≤ (headT f.k f.t).length := by unfold headT; split <;> simp only [List.length_append, List.length_cons, List.length_nil] <;> omega
    rw [e]; simp only [List.length_append]; omega
def wrNo (l : Sl Flt) : Int := if bangL l.l = true then 9 else if (1000000 : Int) < (writeT none (l.l.map pfl)).length then 4 else 0
def wrS (l : Sl Flt) : List UInt8 := if wrNo l = 0 then writeT none (l.l.map pfl) else []
theorem bangL_cons (x : Flt) (r : List Flt) : bangL (x :: r) = (x.fr.l.any bangF || bangL r) := rfl
theorem sWrite_any (l : Sl Flt) (w : World) (hl : FltsOk w l) (hno : faultsNo l = 0) (hP : P10 w) (hT : TzTab w) :
    Calls Tryz.prog 29 #[.slice l.A l.q l.c, .int .i64 1] w fun e w' => e = .returned (.tuple #[str (wrS l), .int .i64 (wrNo l)]) ∧ Below w.heap.size w w' := by
  have ht := hl.ok.t
  have hlen := ht.len
  obtain ⟨h0, h10, hr⟩ := faultsNo_right hl hno
  have hwl := writeT_le (n := 0) (p := none) hr
  have hwp := writeT_pos (p := none) (l := l.l) (by omega)
  refine enter_args (args := [.slice l.A l.q l.c, .int .i64 1]) (F := _) Tryz.func29 rfl Tryz.ntmps29 rfl rfl ?_
  intro Rb hRb hRn
  refine tx ?_
  refine sr 2 ?_
  refine sgs ?_
  refine tx ?_
  refine sr 1 ?_
  refine s1 (y_call rfl rfl rfl cf21 (fun _ w1 hM => sCheck_any l w1 (hl.below hM.below))) ?_
  refine sr 1 ?_
  refine sgx ?_
  refine sr 2 ?_
  refine sgo ?_
  refine T_cond rfl ?_ ?_ <;> intro h15
  · try simp only [nrm] at h15
    exact absurd hno h15
  try simp only [nrm] at h15
  refine kgs ?_
  refine tx ?_
  refine sr 1 ?_
  refine s1 (y_call rfl rfl rfl cf71 (fun _ w _ => soutside_any _ _ _ w)) ?_
  refine sgo ?_
  refine T_cond rfl ?_ ?_ <;> intro h18
  · skip
    cases h18
  refine kgs ?_
  refine tx ?_
  refine sr 1 ?_
  refine s1 (y_len_slice rfl rfl Tryz.underlying22) ?_
  refine sr 1 ?_
  refine sgo ?_
  refine T_block ?_
  refine lK1 (kf := [(4, 5), (8, 8), (10, 10), (21, 41)]) (kl := [(4, 5), (8, 8), (10, 10), (21, 41)]) (fun (i : Nat) => [(21, true, .int .i64 (i : Int))]) (fun (i : Nat) => []) (fun (i : Nat) => i ≤ l.q ∧ bangL l.l = bangL (l.l.drop i)) (fun (i : Nat) => l.q - i) 0 ?_ ?_ ?_ ?_
  · exact ⟨by omega, rfl⟩
  · exact ⟨rfl, trivial⟩
  · exact trivial
  rintro i ⟨hp1, hp2⟩
  refine tx ?_
  refine sr 1 ?_
  refine sgs ?_
  refine T_cond rfl ?_ ?_ <;> intro h22
  · try simp only [nrm] at h22
    obtain ⟨x, hx1, hx2⟩ := ht.at (i := i) (by omega)
    have hxt := fltOk_t (hl.n x (mem_at hx1))
    have hxq := (hr x (mem_at hx1)).q
    have hxl := hxt.len
    refine kgs ?_
    refine T_block ?_
    refine tx ?_
    refine s1 (y_indexAddr rfl rfl rfl Tryz.underlying22 sz36 (fun hg => ht.isSome (by omega)) (fun _ => by omega)) ?_
    refine s1 (y_loadT rfl rfl ht (fun _ => rfl) (fun _ => hx1) Tryz.underlying36 rfl sz36) ?_
    refine S_alloc 8 8 rfl rfl rfl rfl z36 ?_
    intro b8
    refine S_store 8 rfl rfl rfl rfl rfl rfl sz36 rfl rfl ?_
    refine sgx ?_
    refine s1 (yF fa36_2) ?_
    refine s1 (yL 8 Tryz.underlying32) ?_
    refine s1 (y_len_slice rfl rfl Tryz.underlying32) ?_
    refine sr 1 ?_
    refine sgo ?_
    refine T_block ?_
    refine lK1 (kf := [(4, 5), (10, 10), (28, 40)]) (kl := [(4, 5), (10, 10), (28, 40)]) (fun (j : Nat) => [(28, true, .int .i64 (j : Int))]) (fun (j : Nat) => []) (fun (j : Nat) => j ≤ x.fr.q ∧ x.fr.l.any bangF = (x.fr.l.drop j).any bangF) (fun (j : Nat) => x.fr.q - j) 0 ?_ ?_ ?_ ?_
    · exact ⟨by omega, rfl⟩
    · exact ⟨rfl, trivial⟩
    · exact trivial
    rintro j ⟨hq1, hq2⟩
    refine tx ?_
    refine sr 1 ?_
    refine sgs ?_
    refine T_cond rfl ?_ ?_ <;> intro h29
    · try simp only [nrm] at h29
      obtain ⟨z, hz1, hz2⟩ := hxt.at (i := j) (by omega)
      refine kgs ?_
      refine T_block ?_
      refine tx ?_
      refine s1 (y_indexAddr rfl rfl rfl Tryz.underlying32 sz45 (fun hg => hxt.isSome (by omega)) (fun _ => by omega)) ?_
      refine s1 (y_loadT rfl rfl hxt (fun _ => rfl) (fun _ => hz1) Tryz.underlying45 rfl sz45) ?_
      refine S_alloc 10 10 rfl rfl rfl rfl z45 ?_
      intro b10
      refine S_store 10 rfl rfl rfl rfl rfl rfl sz45 rfl rfl ?_
      refine sgx ?_
      refine s1 (yF fa45_1) ?_
      refine s1 (yL 10 Tryz.underlying9) ?_
      refine s1 (y_call rfl rfl rfl cf72 (fun _ w _ => Contains1_any _ 33 w)) ?_
      refine sr 1 ?_
      refine sg rfl (yF fa45_0) ?_
      refine sg rfl (yL 10 Tryz.underlying9) ?_
      refine sg rfl (y_call rfl rfl rfl cf72 (fun _ w _ => Contains1_any _ 33 w)) ?_
      refine s1 (y_as (v' := .bool (bangF z)) (by exact rfl) (y_or rfl rfl rfl)) ?_
      refine sgo ?_
      refine T_cond rfl ?_ ?_ <;> intro h39
      · skip
        refine tx ?_
        refine sr 2 ?_
        refine sgo ?_
        refine tr2 hRb fun w hM => ?_
        have e : wrNo l = 9 := if_pos (by rw [hp2, hx2, bangL_cons, hq2, hz2, any_t h39, Bool.true_or])
        exact ⟨by rw [wrS, e]; rfl, hM.below⟩
      refine kgr ?_
      refine s1 (y_bin rfl rfl rfl (fun hg => b_add (by omega))) ?_
      refine sr 1 ?_
      refine S_nil (nK1 (kf := [(4, 5), (10, 10), (28, 40)]) (kl := [(4, 5), (10, 10), (28, 40)]) (j + 1) ?_ ?_ ?_ ?_)
      · omega
      · exact ⟨by omega, by rw [hq2, hz2, any_f h39]⟩
      · exact ⟨rfl, trivial⟩
      · exact trivial
    try simp only [nrm] at h29
    have hb1 : x.fr.l.any bangF = false := by rw [hq2, hxt.end (by omega)]; rfl
    refine egr ?_
    refine s1 (y_bin rfl rfl rfl (fun hg => b_add (by omega))) ?_
    refine sr 1 ?_
    refine S_nil (nK1 (kf := [(4, 5), (8, 8), (10, 10), (21, 41)]) (kl := [(4, 5), (8, 8), (10, 10), (21, 41)]) (i + 1) ?_ ?_ ?_ ?_)
    · omega
    · exact ⟨by omega, by rw [hp2, hx2, bangL_cons, hb1, Bool.false_or]⟩
    · exact ⟨rfl, trivial⟩
    · exact trivial
  try simp only [nrm] at h22
  have hb0 : ¬ bangL l.l = true := by rw [hp2, ht.end (by omega)]; exact Bool.false_ne_true
  refine egx ?_
  refine S_alloc 11 11 rfl rfl rfl rfl z73 ?_
  intro b11
  refine S_nilSlice 900 (e := 5) (size := 1) ?_
  refine sgs ?_
  refine tx ?_
  refine sr 1 ?_
  refine sgo ?_
  refine T_block ?_
  refine tx ?_
  refine sr 2 ?_
  refine sgo ?_
  refine T_cond rfl ?_ ?_ <;> intro h45
  · skip
    refine T_region ?_
    refine sr 1 ?_
    refine S_callM 48 [(0, 11), (1, 900)] (X := Option Addr × Nat) rfl rfl rfl rfl rfl rfl rfl cf73 rfl (fun _ => .tuple #[]) (fun _ => True) (fun z => [(0, bB b11 (selfP b11) z.1 z.2 (writeT none (l.l.map pfl))), (1, bR z.1 z.2 (writeT none (l.l.map pfl)))]) (fun _ => rfl) (fun _ => rfl) (fun K1 hK1 w1 hM => writeInner_any hK1 b11 _ _ _ l (.inl rfl) hl hr h0 h10 w1 hM hP hT) ?_
    intro x48 _
    refine sgs ?_
    refine tx ?_
    refine s1 (y_call rfl rfl rfl cf35 (fun _ w1 hM => BLen_any b11 x48.1 (writeT none (l.l.map pfl)).length x48.2 w1 (hM.box_cell (i := 11) rfl rfl))) ?_
    refine sr 1 ?_
    refine sgo ?_
    refine T_cond rfl ?_ ?_ <;> intro h54
    · try simp only [nrm] at h54
      refine tx ?_
      refine sr 2 ?_
      refine sgo ?_
      refine tr2 hRb fun w hM => ?_
      have e : wrNo l = 4 := by rw [wrNo, if_neg hb0, if_pos (by omega)]
      exact ⟨by rw [wrS, e]; rfl, hM.below⟩
    try simp only [nrm] at h54
    refine kgx ?_
    refine S_callM 55 [(0, 11), (1, 900)] (X := Unit) rfl rfl rfl rfl rfl rfl rfl cf36 rfl (fun _ => str ((writeT none (l.l.map pfl)))) (fun _ => True) (fun _ => [(1, bR none 0 []), (0, bB b11 (selfP b11) x48.1 x48.2 ((writeT none (l.l.map pfl))))]) (fun _ => rfl) (fun _ => rfl) (fun K1 hK1 w hM => (BStr_any hK1 b11 _ _ _ ((writeT none (l.l.map pfl))) (by omega) (by omega) w hM).mono fun e w1 h => ⟨(), h.1, trivial, h.2⟩) ?_
    intro _ _
    refine sr 2 ?_
    refine sgo ?_
    refine tr2 hRb fun w hM => ?_
    have e : wrNo l = 0 := by rw [wrNo, if_neg hb0, if_neg (by omega)]
    exact ⟨by rw [wrS, e]; rfl, hM.below⟩
  simp at h45
end Go.Proofs.YtgbldojgbpgjbaaGreatDoor
end
section
namespace Go.Proofs.YtgbldojgbpgjbaaGreatDoor
set_option linter.unusedSimpArgs false
set_option linter.unusedVariables false
set_option maxRecDepth 20000
open Go.RowKit Go.Eng
abbrev wsI (A : Option Addr) (c : Nat) (ws : List (List UInt8)) : It := .own 9 1 (.slice A ws.length c) ws.length (ws.flatMap strE)
/-- items that are no more wanted are left -/
theorem S_keepM {P : Program} {w0 : World} {n : Nat} {ops : Array Oper} {l : List Oper} {F : FL} {L : HL} {Q : Exit → Act → World → Prop} (ks : List (Nat × Nat)) (KL : HL) (hK : KeepL ks L KL) (h : S P w0 n ops l F KL Q) : S P w0 n ops l F L Q := fun a w hF hM => h a w hF (hM.keep hK [] trivial)
end Go.Proofs.YtgbldojgbpgjbaaGreatDoor
end
section
namespace Go.Proofs.YtgbldojgbpgjbaaGreatDoor
set_option linter.unusedSimpArgs false
set_option linter.unusedVariables false
set_option maxRecDepth 20000
open Go.RowKit Go.Eng
def decA (u : Nat) (acc : List UInt8) : List UInt8 := Lib.decDigits u ++ acc
theorem dec_dig : ∀ n : Fin 10, UInt8.ofNat (48 + n.val) = dig n.val := by decide
theorem decA_end {u : Nat} {acc : List UInt8} (h : u < 10) : decA u acc = dig u :: acc := by
  rw [decA, Lib.decDigits, dif_pos h, dec_dig ⟨u, h⟩]; rfl
theorem decA_next {u : Nat} {acc : List UInt8} (h : ¬ u < 10) : decA u acc = decA (u / 10) (dig (u % 10) :: acc) := by
  rw [decA, decA, Lib.decDigits, dif_neg h, List.append_assoc, dec_dig ⟨u % 10, Nat.mod_lt u (by decide)⟩]; rfl
theorem dig_cut {k : Nat} (h : k < 16) : (hexs.take (k + 1)).drop k = [dig k] := by
  have h1 : ∀ n : Fin 16, (hexs.take (n.val + 1)).drop n.val = [dig n.val] := by decide
  exact h1 ⟨k, h⟩
theorem itoa_dec {n : Int} (h : 0 ≤ n) : decA n.toNat [] = Lib.itoa n := by
  unfold Lib.itoa
  rw [if_neg (by omega), decA, List.append_nil]
theorem inBase10_any (n : Nat) (hn : n ≤ 281474976710655) (w : World) : Calls Tryz.prog 195 #[.int .i64 (n : Int), .int .i64 10] w fun e w' => e = .returned (str (decA n [])) ∧ Below w.heap.size w w' := by
  refine enter_args (args := [.int .i64 (n : Int), .int .i64 10]) (F := _) Tryz.func195 rfl Tryz.ntmps195 rfl rfl ?_
  intro Rb hRb hRn
  refine tx ?_
  refine sr 1 ?_
  refine sgx ?_
  refine sr 1 ?_
  refine sgo ?_
  refine T_block ?_
  refine lK2 (kf := [(0, 0), (4, 21)]) (kl := [(0, 0), (4, 21)]) (fun (u : Nat) (acc : List UInt8) => [(0, true, .int .i64 (u : Int)), (5, true, str acc)]) (fun (u : Nat) (acc : List UInt8) => []) (fun (u : Nat) (acc : List UInt8) => acc.length + u ≤ n ∧ decA u acc = decA n []) (fun (u : Nat) (acc : List UInt8) => u) n [] ?_ ?_ ?_ ?_
  · exact ⟨by simp, rfl⟩
  · exact ⟨rfl, rfl, trivial⟩
  · exact trivial
  rintro u acc ⟨hp1, hp2⟩
  refine T_block ?_
  refine T_seq ?_
  refine T_draws (by kernel_rfl) (by kernel_rfl) ?_
  refine d1 (y_move rfl rfl) ?_
  refine d1 (y_move rfl rfl) ?_
  refine d1 (y_bin rfl rfl rfl (fun hg => b_remv (((u % 10 : Nat) : Int)) (by omega) (by omega) (by omega) (by omega))) ?_
  refine d1 (y_move rfl rfl) ?_
  refine d1 (y_move rfl rfl) ?_
  refine d1 (y_bin rfl rfl rfl (fun hg => b_remv (((u % 10 : Nat) : Int)) (by omega) (by omega) (by omega) (by omega))) ?_
  refine d1 (y_bin rfl rfl rfl (fun hg => b_addv (((u % 10 + 1 : Nat) : Int)) (by omega) (by omega))) ?_
  refine d1 (y_as (v' := str [dig (u % 10)]) (by exact congrArg str (dig_cut (by omega))) (y_strSub rfl rfl rfl rfl Tryz.underlying9 (fun _ => ⟨by omega, by omega, by show (((u % 10 + 1 : Nat) : Int)) ≤ 16; omega⟩))) ?_
  refine d1 (y_move rfl rfl) ?_
  refine d1 (y_as (v' := str (dig (u % 10) :: acc)) (by exact rfl) (y_bin rfl rfl rfl (fun hg => b_adds (by first | omega | (simp only [List.length_append, List.length_cons, List.length_nil]; omega))))) ?_
  refine d1 (y_assign rfl rfl) ?_
  refine dgx ?_
  refine sr 2 ?_
  refine s1 (y_bin rfl rfl rfl (fun hg => b_quov (((u / 10 : Nat) : Int)) (by omega) (by omega) (by omega) (by omega))) ?_
  refine sr 1 ?_
  refine sgx ?_
  refine sr 2 ?_
  refine sgo ?_
  refine T_cond rfl ?_ ?_ <;> intro h20
  · try simp only [nrm] at h20
    have hu : u < 10 := by omega
    have hm : u % 10 = u := Nat.mod_eq_of_lt hu
    refine tx ?_
    refine sr 2 ?_
    refine sgo ?_
    refine tr1 hRb fun w hM => ?_
    exact ⟨by rw [← hp2, decA_end hu, hm], hM.below⟩
  try simp only [nrm] at h20
  have hu : ¬ u < 10 := by omega
  refine T_skip (nK2 (kf := [(0, 0), (4, 21)]) (kl := [(0, 0), (4, 21)]) (u / 10) (dig (u % 10) :: acc) ?_ ?_ ?_ ?_)
  · omega
  · exact ⟨by rw [List.length_cons]; omega, by rw [← hp2, decA_next hu]⟩
  · exact ⟨rfl, rfl, trivial⟩
  · exact trivial
theorem inBase16_any (n : Nat) (hn : n ≤ 281474976710655) (w : World) : Calls Tryz.prog 195 #[.int .i64 (n : Int), .int .i64 16] w fun e w' => e = .returned (str (hexA n [])) ∧ Below w.heap.size w w' := by
  refine enter_args (args := [.int .i64 (n : Int), .int .i64 16]) (F := _) Tryz.func195 rfl Tryz.ntmps195 rfl rfl ?_
  intro Rb hRb hRn
  refine tx ?_
  refine sr 1 ?_
  refine sgx ?_
  refine sr 1 ?_
  refine sgo ?_
  refine T_block ?_
  refine lK2 (kf := [(0, 0), (4, 21)]) (kl := [(0, 0), (4, 21)]) (fun (u : Nat) (acc : List UInt8) => [(0, true, .int .i64 (u : Int)), (5, true, str acc)]) (fun (u : Nat) (acc : List UInt8) => []) (fun (u : Nat) (acc : List UInt8) => acc.length + u ≤ n ∧ hexA u acc = hexA n []) (fun (u : Nat) (acc : List UInt8) => u) n [] ?_ ?_ ?_ ?_
  · exact ⟨by simp, rfl⟩
  · exact ⟨rfl, rfl, trivial⟩
  · exact trivial
  rintro u acc ⟨hp1, hp2⟩
  refine T_block ?_
  refine T_seq ?_
  refine T_draws (by kernel_rfl) (by kernel_rfl) ?_
  refine d1 (y_move rfl rfl) ?_
  refine d1 (y_move rfl rfl) ?_
  refine d1 (y_bin rfl rfl rfl (fun hg => b_remv (((u % 16 : Nat) : Int)) (by omega) (by omega) (by omega) (by omega))) ?_
  refine d1 (y_move rfl rfl) ?_
  refine d1 (y_move rfl rfl) ?_
  refine d1 (y_bin rfl rfl rfl (fun hg => b_remv (((u % 16 : Nat) : Int)) (by omega) (by omega) (by omega) (by omega))) ?_
  refine d1 (y_bin rfl rfl rfl (fun hg => b_addv (((u % 16 + 1 : Nat) : Int)) (by omega) (by omega))) ?_
  refine d1 (y_as (v' := str [dig (u % 16)]) (by exact congrArg str (dig_cut (by omega))) (y_strSub rfl rfl rfl rfl Tryz.underlying9 (fun _ => ⟨by omega, by omega, by show (((u % 16 + 1 : Nat) : Int)) ≤ 16; omega⟩))) ?_
  refine d1 (y_move rfl rfl) ?_
  refine d1 (y_as (v' := str (dig (u % 16) :: acc)) (by exact rfl) (y_bin rfl rfl rfl (fun hg => b_adds (by first | omega | (simp only [List.length_append, List.length_cons, List.length_nil]; omega))))) ?_
  refine d1 (y_assign rfl rfl) ?_
  refine dgx ?_
  refine sr 2 ?_
  refine s1 (y_bin rfl rfl rfl (fun hg => b_quov (((u / 16 : Nat) : Int)) (by omega) (by omega) (by omega) (by omega))) ?_
  refine sr 1 ?_
  refine sgx ?_
  refine sr 2 ?_
  refine sgo ?_
  refine T_cond rfl ?_ ?_ <;> intro h20
  · try simp only [nrm] at h20
    have hu : u < 16 := by omega
    have hm : u % 16 = u := Nat.mod_eq_of_lt hu
    refine tx ?_
    refine sr 2 ?_
    refine sgo ?_
    refine tr1 hRb fun w hM => ?_
    exact ⟨by rw [← hp2, hexA_end hu, hm], hM.below⟩
  try simp only [nrm] at h20
  have hu : ¬ u < 16 := by omega
  refine T_skip (nK2 (kf := [(0, 0), (4, 21)]) (kl := [(0, 0), (4, 21)]) (u / 16) (dig (u % 16) :: acc) ?_ ?_ ?_ ?_)
  · omega
  · exact ⟨by rw [List.length_cons]; omega, by rw [← hp2, hexA_next hu]⟩
  · exact ⟨rfl, rfl, trivial⟩
  · exact trivial
theorem Told_any (n : Nat) (hn : n ≤ 281474976710655) (w : World) : Calls Tryz.prog 127 #[.int .i64 (n : Int)] w fun e w' => e = .returned (str (Lib.itoa (n : Int))) ∧ Below w.heap.size w w' := by
  refine enter_args (args := [.int .i64 (n : Int)]) (F := _) Tryz.func127 rfl Tryz.ntmps127 rfl rfl ?_
  intro Rb hRb hRn
  refine tx ?_
  refine sr 1 ?_
  refine sgs ?_
  refine tx ?_
  refine sr 2 ?_
  refine sgo ?_
  refine T_cond rfl ?_ ?_ <;> intro h5
  · try simp only [nrm] at h5
    refine tx ?_
    refine sr 1 ?_
    refine s1 (y_call rfl rfl rfl cf195 (fun _ w _ => inBase10_any n hn w)) ?_
    refine sr 1 ?_
    refine sgo ?_
    refine tr1 hRb fun w hM => ?_
    exact ⟨by rw [← itoa_dec (Int.natCast_nonneg n), Int.toNat_natCast], hM.below⟩
  try simp only [nrm] at h5
  omega
def headR (k t : List UInt8) : List UInt8 := if t = [] then k ++ [58] else k ++ [58, 32] ++ t
theorem headR_nl (k t : List UInt8) : headR k t ++ [10] = headT k t := by
  unfold headR headT
  split <;> simp
theorem nameOf_any (x : Frm) (hx : FrS 1000000 x) (w : World) : Calls Tryz.prog 128 #[x.val] w fun e w' => e = .returned (str (callT x)) ∧ Below w.heap.size w w' := by
  obtain ⟨hx1, hx2, hx3⟩ := hx
  refine enter_args (args := [.agg #[str x.m, str x.f, str x.fi, .int .i64 x.ln, .int .i64 x.ad, .bool x.own]]) (F := _) Tryz.func128 rfl Tryz.ntmps128 rfl rfl ?_
  intro Rb hRb hRn
  refine tx ?_
  refine S_box 1 1 rfl rfl rfl rfl rfl ?_
  intro b1
  refine sr 1 ?_
  refine sgs ?_
  refine tx ?_
  refine s1 (yF fa45_0) ?_
  refine s1 (yL 1 Tryz.underlying9) ?_
  refine s1 (y_bin rfl rfl rfl (fun _ => b_eqls)) ?_
  refine sgo ?_
  refine T_cond rfl ?_ ?_ <;> intro h5
  · try simp only [nrm] at h5
    have hc : callT x = x.f := if_pos h5
    refine tx ?_
    refine s1 (yF fa45_1) ?_
    refine s1 (yL 1 Tryz.underlying9) ?_
    refine sr 1 ?_
    refine sgo ?_
    refine tr1 hRb fun w hM => ?_
    rw [hc]
    exact ⟨rfl, hM.below⟩
  try simp only [nrm] at h5
  have hc : callT x = x.m ++ [33] ++ x.f := if_neg h5
  refine kgx ?_
  refine s1 (yF fa45_0) ?_
  refine s1 (yL 1 Tryz.underlying9) ?_
  refine s1 (y_bin rfl rfl rfl (fun hg => b_adds (by first | omega | (simp only [List.length_append, List.length_cons, List.length_nil]; omega)))) ?_
  refine s1 (yF fa45_1) ?_
  refine s1 (yL 1 Tryz.underlying9) ?_
  refine s1 (y_bin rfl rfl rfl (fun hg => b_adds (by first | omega | (simp only [List.length_append, List.length_cons, List.length_nil]; omega)))) ?_
  refine sr 1 ?_
  refine sgo ?_
  refine tr1 hRb fun w hM => ?_
  rw [hc]
  exact ⟨rfl, hM.below⟩
theorem headOf_any (f : Flt) (hk : f.k.length ≤ 1000000) (ht : f.t.length ≤ 1000000) (w : World) : Calls Tryz.prog 124 #[f.val] w fun e w' => e = .returned (str (headR f.k f.t)) ∧ Below w.heap.size w w' := by
  refine enter_args (args := [.agg #[str f.k, str f.t, .slice f.fr.A f.fr.q f.fr.c]]) (F := _) Tryz.func124 rfl Tryz.ntmps124 rfl rfl ?_
  intro Rb hRb hRn
  refine tx ?_
  refine S_box 1 1 rfl rfl rfl rfl rfl ?_
  intro b1
  refine sr 1 ?_
  refine sgs ?_
  refine tx ?_
  refine s1 (yF fa36_1) ?_
  refine s1 (yL 1 Tryz.underlying9) ?_
  refine s1 (y_bin rfl rfl rfl (fun _ => b_eqls)) ?_
  refine sgo ?_
  refine T_cond rfl ?_ ?_ <;> intro h5
  · try simp only [nrm] at h5
    have hc : headR f.k f.t = f.k ++ [58] := if_pos h5
    refine tx ?_
    refine s1 (yF fa36_0) ?_
    refine s1 (yL 1 Tryz.underlying9) ?_
    refine s1 (y_bin rfl rfl rfl (fun hg => b_adds (by first | omega | (simp only [List.length_append, List.length_cons, List.length_nil]; omega)))) ?_
    refine sr 1 ?_
    refine sgo ?_
    refine tr1 hRb fun w hM => ?_
    rw [hc]
    exact ⟨rfl, hM.below⟩
  try simp only [nrm] at h5
  have hc : headR f.k f.t = f.k ++ [58, 32] ++ f.t := if_neg h5
  refine kgx ?_
  refine s1 (yF fa36_0) ?_
  refine s1 (yL 1 Tryz.underlying9) ?_
  refine s1 (y_bin rfl rfl rfl (fun hg => b_adds (by first | omega | (simp only [List.length_append, List.length_cons, List.length_nil]; omega)))) ?_
  refine s1 (yF fa36_1) ?_
  refine s1 (yL 1 Tryz.underlying9) ?_
  refine s1 (y_bin rfl rfl rfl (fun hg => b_adds (by first | omega | (simp only [List.length_append, List.length_cons, List.length_nil]; omega)))) ?_
  refine sr 1 ?_
  refine sgo ?_
  refine tr1 hRb fun w hM => ?_
  rw [hc]
  exact ⟨rfl, hM.below⟩
def lnW (x : Frm) : List UInt8 := if x.ln = 0 then [] else 58 :: Lib.itoa x.ln
def fileW (x : Frm) : List (List UInt8) := if x.fi = [] then [] else [[40] ++ x.fi ++ lnW x ++ [41]]
def addrW (x : Frm) : List (List UInt8) := if x.ad = -1 then [] else [[64] ++ hexA x.ad.toNat []]
def ownW (x : Frm) : List (List UInt8) := if x.own = true then [[42]] else []
def restT (x : Frm) : List UInt8 := jnS [32] (fileW x ++ addrW x ++ ownW x)
theorem place_rest (x : Frm) : placeT x = if restT x = [] then [] else 32 :: restT x := by
  unfold placeT fileT addrT restT fileW addrW ownW lnW
  by_cases h1 : x.fi = [] <;> by_cases h2 : x.ad = -1 <;> by_cases h3 : x.own = true <;> simp [h1, h2, h3, jnS]
theorem rest_le {x : Frm} (h : FrN x) : (restT x).length ≤ 1002102 := by
  have h1 := placeT_le h
  rw [place_rest] at h1
  split at h1
  · rename_i h2; rw [h2]; exact Nat.zero_le _
  · rw [List.length_cons] at h1; omega
theorem fileW_le (x : Frm) : (fileW x).length ≤ 1 := by unfold fileW; split <;> simp
theorem addrW_le (x : Frm) : (addrW x).length ≤ 1 := by unfold addrW; split <;> simp
theorem ownW_le (x : Frm) : (ownW x).length ≤ 1 := by unfold ownW; split <;> simp
theorem len_snocW (l : List (List UInt8)) (a : List UInt8) : l.length + 1 = (l ++ [a]).length := by simp
theorem flat_snocW (l : List (List UInt8)) (a : List UInt8) : l.flatMap strE ++ strE a = (l ++ [a]).flatMap strE := by simp
set_option maxHeartbeats 1600000 in
theorem restOf_any (x : Frm) (hx : FrN x) (w : World) : Calls Tryz.prog 129 #[x.val] w fun e w' => e = .returned (str (restT x)) ∧ Below w.heap.size w w' := by
  have hrl := rest_le hx
  have hfw := fileW_le x
  have haw := addrW_le x
  have how := ownW_le x
  have hfa : (fileW x ++ addrW x).length ≤ 2 := by rw [List.length_append]; omega
  have hil := itoa_le x.ln hx.ln
  obtain ⟨⟨hx1, hx2, hx3⟩, hln, had⟩ := hx
  have hhl := hexA_len x.ad.toNat [] (by decide) (by show x.ad.toNat < 16 ^ 16; omega)
  have hll : (lnW x).length ≤ 1001 := by unfold lnW; split <;> simp; omega
  refine enter_args (args := [.agg #[str x.m, str x.f, str x.fi, .int .i64 x.ln, .int .i64 x.ad, .bool x.own]]) (F := _) Tryz.func129 rfl Tryz.ntmps129 rfl rfl ?_
  intro Rb hRb hRn
  refine tx ?_
  refine S_box 1 1 rfl rfl rfl rfl rfl ?_
  intro b1
  refine sr 1 ?_
  refine sgx ?_
  refine S_nilSlice 3 (e := 9) (size := 1) ?_
  refine sr 1 ?_
  refine sgs ?_
  refine tx ?_
  refine s1 (yF fa45_2) ?_
  refine s1 (yL 1 Tryz.underlying9) ?_
  refine s1 (y_bin rfl rfl rfl (fun _ => b_neqs)) ?_
  refine sgo ?_
  refine T_mid (kf := [(3, 4), (8, 24)]) (kl := [(3, 4), (8, 24)]) (fun y : Option Addr × Nat => [(3, true, .slice y.1 (fileW x).length y.2)]) (fun y : Option Addr × Nat => [(3, wsI y.1 y.2 (fileW x))]) (by repeat (first | exact kf_nil | (apply kf_in; focus rfl) | (apply kf_out; focus rfl))) (by repeat (first | exact kl_nil | exact kl_rest (by assumption) rfl | (apply kl_in; focus rfl) | (apply kl_out; focus rfl))) ?_ ?_
  · skip
    refine T_cond rfl ?_ ?_ <;> intro h7
    · try simp only [nrm] at h7
      refine tx ?_
      refine s1 (yF fa45_2) ?_
      refine s1 (yL 1 Tryz.underlying9) ?_
      refine s1 (y_bin rfl rfl rfl (fun hg => b_adds (by first | omega | (simp only [List.length_append, List.length_cons, List.length_nil]; omega)))) ?_
      refine sr 1 ?_
      refine sgs ?_
      refine tx ?_
      refine s1 (yF fa45_3) ?_
      refine s1 (yL 1 Tryz.underlying3) ?_
      refine sr 1 ?_
      refine sgo ?_
      refine T_mid (kf := [(4, 4), (14, 19)]) (kl := [(4, 4), (14, 19)]) (fun u : Unit => [(4, true, str ([40] ++ x.fi ++ lnW x))]) (fun u : Unit => []) (by repeat (first | exact kf_nil | (apply kf_in; focus rfl) | (apply kf_out; focus rfl))) (by repeat (first | exact kl_nil | exact kl_rest (by assumption) rfl | (apply kl_in; focus rfl) | (apply kl_out; focus rfl))) ?_ ?_
      · skip
        refine T_cond rfl ?_ ?_ <;> intro h13
        · try simp only [nrm] at h13
          refine T_region ?_
          refine sr 1 ?_
          refine s1 (yF fa45_3) ?_
          refine s1 (y_as (v' := .int .i64 ((x.ln.toNat : Nat) : Int)) (by exact congrArg (Value.int .i64) (show x.ln = ((x.ln.toNat : Nat) : Int) by omega)) (yL 1 Tryz.underlying3)) ?_
          refine s1 (y_as (v' := str (Lib.itoa x.ln)) (by rw [show ((x.ln.toNat : Nat) : Int) = x.ln by omega]) (y_call rfl rfl rfl cf127 (fun _ w _ => Told_any x.ln.toNat (by omega) w))) ?_
          refine s1 (y_bin rfl rfl rfl (fun hg => b_adds (by first | omega | (simp only [List.length_append, List.length_cons, List.length_nil]; omega)))) ?_
          refine s1 (y_bin rfl rfl rfl (fun hg => b_adds (by first | omega | (simp only [List.length_append, List.length_cons, List.length_nil]; omega)))) ?_
          refine sr 1 ?_
          refine S_nil (mid_end (kf := [(4, 4), (14, 19)]) (kl := [(4, 4), (14, 19)]) (()) (by repeat (first | exact kf_nil | (apply kf_in; focus rfl) | (apply kf_out; focus rfl))) (by repeat (first | exact kl_nil | exact kl_rest (by assumption) rfl | (apply kl_in; focus rfl) | (apply kl_out; focus rfl))) ?_ ?_)
          · exact ⟨by rw [lnW, if_neg (by omega)]; rfl, trivial⟩
          · exact trivial
        try simp only [nrm] at h13
        refine T_skip (mid_end (kf := [(4, 4), (14, 19)]) (kl := [(4, 4), (14, 19)]) (()) (by repeat (first | exact kf_nil | (apply kf_in; focus rfl) | (apply kf_out; focus rfl))) (by repeat (first | exact kl_nil | exact kl_rest (by assumption) rfl | (apply kl_in; focus rfl) | (apply kl_out; focus rfl))) ?_ ?_)
        · exact ⟨by rw [lnW, if_pos (by omega), List.append_nil]; rfl, trivial⟩
        · exact trivial
      intro u
      refine sgr ?_
      refine sr 2 ?_
      refine s1 (y_bin rfl rfl rfl (fun hg => b_adds (by first | omega | (simp only [List.length_append, List.length_cons, List.length_nil]; omega)))) ?_
      refine S_buildSlice 23 23 rfl rfl rfl rfl rfl Tryz.underlying53 inf9 rfl (by decide) (by decide) rfl rfl (by decide) rfl (_) rfl ?_
      intro b23
      obtain ⟨i24, hi24, hz24, hs24, hy24⟩ := info_parts inf9
      refine S_append 24 3 23 rfl rfl rfl rfl rfl rfl rfl rfl Tryz.underlying53 hi24 hz24 hs24 hy24 rfl (by decide) (by decide) rfl ?_ ?_ (1) ([[40] ++ x.fi ++ lnW x ++ [41]].flatMap strE) ?_ ?_ ?_
      · (simp only [maxLen]; omega)
      · omega
      · rfl
      · rfl
      intro A24 c24
      refine sr 1 ?_
      refine S_nil (mid_end (kf := [(3, 4), (8, 24)]) (kl := [(3, 4), (8, 24)]) ((A24, c24)) (by repeat (first | exact kf_nil | (apply kf_in; focus rfl) | (apply kf_out; focus rfl))) (by repeat (first | exact kl_nil | exact kl_rest (by assumption) rfl | (apply kl_in; focus rfl) | (apply kl_out; focus rfl))) ?_ ?_)
      · exact ⟨by rw [fileW, if_neg h7]; rfl, trivial⟩
      · exact ⟨by rw [fileW, if_neg h7]; rfl, trivial⟩
    try simp only [nrm] at h7
    refine T_skip (mid_end (kf := [(3, 4), (8, 24)]) (kl := [(3, 4), (8, 24)]) ((none, 0)) (by repeat (first | exact kf_nil | (apply kf_in; focus rfl) | (apply kf_out; focus rfl))) (by repeat (first | exact kl_nil | exact kl_rest (by assumption) rfl | (apply kl_in; focus rfl) | (apply kl_out; focus rfl))) ?_ ?_)
    · exact ⟨by rw [fileW, if_pos h7]; rfl, trivial⟩
    · exact ⟨by rw [fileW, if_pos h7]; rfl, trivial⟩
  intro y
  refine sgs ?_
  refine tx ?_
  refine s1 (yF fa45_4) ?_
  refine s1 (yL 1 Tryz.underlying3) ?_
  refine sr 1 ?_
  refine sgo ?_
  refine T_mid (kf := [(3, 3), (28, 34)]) (kl := [(3, 3), (28, 34)]) (fun v : Option Addr × Nat => [(3, true, .slice v.1 (fileW x ++ addrW x).length v.2)]) (fun v : Option Addr × Nat => [(3, wsI v.1 v.2 (fileW x ++ addrW x))]) (by repeat (first | exact kf_nil | (apply kf_in; focus rfl) | (apply kf_out; focus rfl))) (by repeat (first | exact kl_nil | exact kl_rest (by assumption) rfl | (apply kl_in; focus rfl) | (apply kl_out; focus rfl))) ?_ ?_
  · skip
    refine T_cond rfl ?_ ?_ <;> intro h27
    · try simp only [nrm] at h27
      refine T_region ?_
      refine sr 1 ?_
      refine s1 (yF fa45_4) ?_
      refine s1 (y_as (v' := .int .i64 ((x.ad.toNat : Nat) : Int)) (by exact congrArg (Value.int .i64) (show x.ad = ((x.ad.toNat : Nat) : Int) by omega)) (yL 1 Tryz.underlying3)) ?_
      refine s1 (y_call rfl rfl rfl cf195 (fun _ w _ => inBase16_any x.ad.toNat (by omega) w)) ?_
      refine s1 (y_bin rfl rfl rfl (fun hg => b_adds (by first | omega | (simp only [List.length_append, List.length_cons, List.length_nil]; omega)))) ?_
      refine S_buildSlice 33 33 rfl rfl rfl rfl rfl Tryz.underlying53 inf9 rfl (by decide) (by decide) rfl rfl (by decide) rfl (_) rfl ?_
      intro b33
      obtain ⟨i34, hi34, hz34, hs34, hy34⟩ := info_parts inf9
      refine S_append 34 3 33 rfl rfl rfl rfl rfl rfl rfl rfl Tryz.underlying53 hi34 hz34 hs34 hy34 rfl (by decide) (by decide) rfl ?_ ?_ (((fileW x) ++ [([64] ++ hexA x.ad.toNat [])]).length) (((fileW x) ++ [([64] ++ hexA x.ad.toNat [])]).flatMap strE) ?_ ?_ ?_
      · (simp only [maxLen]; omega)
      · omega
      · exact len_snocW (fileW x) ([64] ++ hexA x.ad.toNat [])
      · exact flat_snocW (fileW x) ([64] ++ hexA x.ad.toNat [])
      intro A34 c34
      refine sr 1 ?_
      refine S_nil (mid_end (kf := [(3, 3), (28, 34)]) (kl := [(3, 3), (28, 34)]) ((A34, c34)) (by repeat (first | exact kf_nil | (apply kf_in; focus rfl) | (apply kf_out; focus rfl))) (by repeat (first | exact kl_nil | exact kl_rest (by assumption) rfl | (apply kl_in; focus rfl) | (apply kl_out; focus rfl))) ?_ ?_)
      · exact ⟨by rw [addrW, if_neg (by omega)]; rfl, trivial⟩
      · exact ⟨by rw [addrW, if_neg (by omega)]; rfl, trivial⟩
    try simp only [nrm] at h27
    refine T_skip (mid_end (kf := [(3, 3), (28, 34)]) (kl := [(3, 3), (28, 34)]) ((y.1, y.2)) (by repeat (first | exact kf_nil | (apply kf_in; focus rfl) | (apply kf_out; focus rfl))) (by repeat (first | exact kl_nil | exact kl_rest (by assumption) rfl | (apply kl_in; focus rfl) | (apply kl_out; focus rfl))) ?_ ?_)
    · exact ⟨by rw [addrW, if_pos (by omega), List.append_nil]; rfl, trivial⟩
    · exact ⟨by rw [addrW, if_pos (by omega), List.append_nil]; rfl, trivial⟩
  intro v
  refine sgs ?_
  refine tx ?_
  refine s1 (yF fa45_5) ?_
  refine s1 (yL 1 Tryz.underlying4) ?_
  refine sgo ?_
  refine T_mid (kf := [(3, 3), (37, 39)]) (kl := [(3, 3), (37, 39)]) (fun z : Option Addr × Nat => [(3, true, .slice z.1 (fileW x ++ addrW x ++ ownW x).length z.2)]) (fun z : Option Addr × Nat => [(3, wsI z.1 z.2 (fileW x ++ addrW x ++ ownW x))]) (by repeat (first | exact kf_nil | (apply kf_in; focus rfl) | (apply kf_out; focus rfl))) (by repeat (first | exact kl_nil | exact kl_rest (by assumption) rfl | (apply kl_in; focus rfl) | (apply kl_out; focus rfl))) ?_ ?_
  · skip
    refine T_cond rfl ?_ ?_ <;> intro h36
    · try simp only [nrm] at h36
      refine T_region ?_
      refine sr 1 ?_
      refine S_buildSlice 38 38 rfl rfl rfl rfl rfl Tryz.underlying53 inf9 rfl (by decide) (by decide) rfl rfl (by decide) rfl (_) rfl ?_
      intro b38
      obtain ⟨i39, hi39, hz39, hs39, hy39⟩ := info_parts inf9
      refine S_append 39 3 38 rfl rfl rfl rfl rfl rfl rfl rfl Tryz.underlying53 hi39 hz39 hs39 hy39 rfl (by decide) (by decide) rfl ?_ ?_ (((fileW x ++ addrW x) ++ [[42]]).length) (((fileW x ++ addrW x) ++ [[42]]).flatMap strE) ?_ ?_ ?_
      · (simp only [maxLen]; omega)
      · omega
      · exact len_snocW (fileW x ++ addrW x) [42]
      · exact flat_snocW (fileW x ++ addrW x) [42]
      intro A39 c39
      refine sr 1 ?_
      refine S_nil (mid_end (kf := [(3, 3), (37, 39)]) (kl := [(3, 3), (37, 39)]) ((A39, c39)) (by repeat (first | exact kf_nil | (apply kf_in; focus rfl) | (apply kf_out; focus rfl))) (by repeat (first | exact kl_nil | exact kl_rest (by assumption) rfl | (apply kl_in; focus rfl) | (apply kl_out; focus rfl))) ?_ ?_)
      · exact ⟨by rw [ownW, if_pos h36]; rfl, trivial⟩
      · exact ⟨by rw [ownW, if_pos h36]; rfl, trivial⟩
    try simp only [nrm] at h36
    refine T_skip (mid_end (kf := [(3, 3), (37, 39)]) (kl := [(3, 3), (37, 39)]) ((v.1, v.2)) (by repeat (first | exact kf_nil | (apply kf_in; focus rfl) | (apply kf_out; focus rfl))) (by repeat (first | exact kl_nil | exact kl_rest (by assumption) rfl | (apply kl_in; focus rfl) | (apply kl_out; focus rfl))) ?_ ?_)
    · exact ⟨by rw [ownW, if_neg (by rw [h36]; decide), List.append_nil]; rfl, trivial⟩
    · exact ⟨by rw [ownW, if_neg (by rw [h36]; decide), List.append_nil]; rfl, trivial⟩
  intro z
  refine sgx ?_
  refine sr 1 ?_
  refine s1 (y_call rfl rfl rfl cf32 (fun _ w hM => JoinS_any [32] _ _ _ (fileW x ++ addrW x ++ ownW x) w (row_ok (enc := strE) (hM.sat 3 _ rfl) rfl).t (row_ok (enc := strE) (hM.sat 3 _ rfl) rfl).cap (by show (restT x).length ≤ _; omega) (by simp only [List.length_append]; omega))) ?_
  refine sr 1 ?_
  refine sgo ?_
  refine tr1 hRb fun w hM => ?_
  exact ⟨rfl, hM.below⟩
theorem lineOf_any (x : Frm) (hx : FrN x) (w : World) : Calls Tryz.prog 126 #[x.val] w fun e w' => e = .returned (str (callT x ++ placeT x)) ∧ Below w.heap.size w w' := by
  have hrl := rest_le hx
  have hcl := callT_le hx.s
  have hpr := place_rest x
  refine enter_args (args := [.agg #[str x.m, str x.f, str x.fi, .int .i64 x.ln, .int .i64 x.ad, .bool x.own]]) (F := _) Tryz.func126 rfl Tryz.ntmps126 rfl rfl ?_
  intro Rb hRb hRn
  refine tx ?_
  refine S_box 1 1 rfl rfl rfl rfl rfl ?_
  intro b1
  refine sr 1 ?_
  refine sgs ?_
  refine tx ?_
  refine s1 (yA 1 rfl Tryz.underlying45 sz45) ?_
  refine s1 (y_call rfl rfl rfl cf129 (fun _ w _ => restOf_any x hx w)) ?_
  refine sr 1 ?_
  refine sgx ?_
  refine sr 1 ?_
  refine s1 (y_bin rfl rfl rfl (fun _ => b_neqs)) ?_
  refine sgo ?_
  refine T_cond rfl ?_ ?_ <;> intro h7
  · try simp only [nrm] at h7
    rw [if_neg h7] at hpr
    refine tx ?_
    refine s1 (yA 1 rfl Tryz.underlying45 sz45) ?_
    refine s1 (y_call rfl rfl rfl cf128 (fun _ w _ => nameOf_any x hx.s w)) ?_
    refine s1 (y_bin rfl rfl rfl (fun hg => b_adds (by first | omega | (simp only [List.length_append, List.length_cons, List.length_nil]; omega)))) ?_
    refine sr 1 ?_
    refine s1 (y_bin rfl rfl rfl (fun hg => b_adds (by first | omega | (simp only [List.length_append, List.length_cons, List.length_nil]; omega)))) ?_
    refine sr 1 ?_
    refine sgo ?_
    refine tr1 hRb fun w hM => ?_
    exact ⟨by rw [hpr, List.append_assoc]; rfl, hM.below⟩
  try simp only [nrm] at h7
  rw [if_pos h7] at hpr
  refine kgx ?_
  refine s1 (yA 1 rfl Tryz.underlying45 sz45) ?_
  refine s1 (y_call rfl rfl rfl cf128 (fun _ w _ => nameOf_any x hx.s w)) ?_
  refine sr 1 ?_
  refine sgo ?_
  refine tr1 hRb fun w hM => ?_
  exact ⟨by rw [hpr, List.append_nil], hM.below⟩
theorem SharedOf_any (A B : Option Addr) (q c p d : Nat) (l m : List Frm) (w : World) (hl : SlT Frm.enc 6 w A q l) (hm : SlT Frm.enc 6 w B p m) (hq : q ≤ 4000000) (hp : p ≤ 4000000) :
    Calls Tryz.prog 125 #[.slice A q c, .slice B p d] w fun e w' => e = .returned (.int .i64 ((shQ l m : Nat) : Int)) ∧ Below w.heap.size w w' := by
  have hlen := hl.len
  have hmen := hm.len
  refine enter_args (args := [.slice A q c, .slice B p d]) (F := _) Tryz.func125 rfl Tryz.ntmps125 rfl rfl ?_
  intro Rb hRb hRn
  refine tx ?_
  refine sr 1 ?_
  refine sgx ?_
  refine sr 1 ?_
  refine sgs ?_
  refine T_block ?_
  refine lK1 (kf := [(5, 36)]) (kl := [(5, 36)]) (fun (n : Nat) => [(5, true, .int .i64 (n : Int))]) (fun (n : Nat) => []) (fun (n : Nat) => n ≤ q ∧ n ≤ p ∧ shQ l m = shL (l.reverse.drop n) (m.reverse.drop n) + n) (fun (n : Nat) => q - n) 0 ?_ ?_ ?_ ?_
  · exact ⟨by omega, by omega, rfl⟩
  · exact ⟨rfl, trivial⟩
  · exact trivial
  rintro n ⟨hp1, hp2, hp3⟩
  refine T_seq ?_
  refine T_seq ?_
  refine T_draws (by kernel_rfl) (by kernel_rfl) ?_
  refine d1 (y_move rfl rfl) ?_
  refine d1 (y_move rfl rfl) ?_
  refine d1 (y_len_slice rfl rfl Tryz.underlying32) ?_
  refine d1 (y_bin rfl rfl rfl (fun _ => b_lss)) ?_
  refine d1 (y_move rfl rfl) ?_
  refine dg rfl (y_move rfl rfl) ?_
  refine dg rfl (y_move rfl rfl) ?_
  refine dg rfl (y_len_slice rfl rfl Tryz.underlying32) ?_
  refine dg rfl (y_bin rfl rfl rfl (fun _ => b_lss)) ?_
  refine d1 (y_and rfl rfl rfl) ?_
  refine d1 (y_move rfl rfl) ?_
  refine dg rfl (y_move rfl rfl) ?_
  refine dg rfl (y_move rfl rfl) ?_
  refine dg rfl (y_len_slice rfl rfl Tryz.underlying32) ?_
  refine dg rfl (y_bin rfl rfl rfl (fun hg => b_sub (by simp only [Bool.true_and, Bool.and_eq_true, beq_iff_eq, decide_eq_true_eq, decide_eq_false_iff_not, Int.not_lt, Int.not_le] at hg; omega))) ?_
  refine dg rfl (y_move rfl rfl) ?_
  refine dg rfl (y_bin rfl rfl rfl (fun hg => b_sub (by simp only [Bool.true_and, Bool.and_eq_true, beq_iff_eq, decide_eq_true_eq, decide_eq_false_iff_not, Int.not_lt, Int.not_le] at hg; omega))) ?_
  refine dg rfl (y_indexAddrI (j := (q - 1 - n)) rfl rfl rfl ((fun hg => by simp only [Bool.true_and, Bool.and_eq_true, beq_iff_eq, decide_eq_true_eq, decide_eq_false_iff_not, Int.not_lt, Int.not_le] at hg; omega)) Tryz.underlying32 sz45 (fun hg => hl.isSome (by simp only [Bool.true_and, Bool.and_eq_true, beq_iff_eq, decide_eq_true_eq, decide_eq_false_iff_not, Int.not_lt, Int.not_le] at hg; omega)) (fun hg => by simp only [Bool.true_and, Bool.and_eq_true, beq_iff_eq, decide_eq_true_eq, decide_eq_false_iff_not, Int.not_lt, Int.not_le] at hg; omega)) ?_
  refine dg rfl (y_loadT rfl rfl hl (fun _ => rfl) (fun hg => getF_at (by simp only [Bool.true_and, Bool.and_eq_true, beq_iff_eq, decide_eq_true_eq, decide_eq_false_iff_not, Int.not_lt, Int.not_le] at hg; omega)) Tryz.underlying45 rfl sz45) ?_
  refine dg rfl (y_move rfl rfl) ?_
  refine dg rfl (y_move rfl rfl) ?_
  refine dg rfl (y_len_slice rfl rfl Tryz.underlying32) ?_
  refine dg rfl (y_bin rfl rfl rfl (fun hg => b_sub (by simp only [Bool.true_and, Bool.and_eq_true, beq_iff_eq, decide_eq_true_eq, decide_eq_false_iff_not, Int.not_lt, Int.not_le] at hg; omega))) ?_
  refine dg rfl (y_move rfl rfl) ?_
  refine dg rfl (y_bin rfl rfl rfl (fun hg => b_sub (by simp only [Bool.true_and, Bool.and_eq_true, beq_iff_eq, decide_eq_true_eq, decide_eq_false_iff_not, Int.not_lt, Int.not_le] at hg; omega))) ?_
  refine dg rfl (y_indexAddrI (j := (p - 1 - n)) rfl rfl rfl ((fun hg => by simp only [Bool.true_and, Bool.and_eq_true, beq_iff_eq, decide_eq_true_eq, decide_eq_false_iff_not, Int.not_lt, Int.not_le] at hg; omega)) Tryz.underlying32 sz45 (fun hg => hm.isSome (by simp only [Bool.true_and, Bool.and_eq_true, beq_iff_eq, decide_eq_true_eq, decide_eq_false_iff_not, Int.not_lt, Int.not_le] at hg; omega)) (fun hg => by simp only [Bool.true_and, Bool.and_eq_true, beq_iff_eq, decide_eq_true_eq, decide_eq_false_iff_not, Int.not_lt, Int.not_le] at hg; omega)) ?_
  refine dg rfl (y_loadT rfl rfl hm (fun _ => rfl) (fun hg => getF_at (by simp only [Bool.true_and, Bool.and_eq_true, beq_iff_eq, decide_eq_true_eq, decide_eq_false_iff_not, Int.not_lt, Int.not_le] at hg; omega)) Tryz.underlying45 rfl sz45) ?_
  refine dg rfl (y_as (v' := .bool (Frm.eqB (l.getD (q - 1 - n) frm0) (m.getD (p - 1 - n) frm0))) (by simp [Frm.eqB, str]) (y_bin rfl rfl rfl (fun _ => b_eqlA (rs := [_, _, _, _, _, _]) Tryz.underlying45 (by kernel_rfl) (by kernel_rfl) ⟨by decide, ⟨_, Tryz.underlying9, rfl, _, _, rfl, rfl, rfl⟩, by decide, ⟨_, Tryz.underlying9, rfl, _, _, rfl, rfl, rfl⟩, by decide, ⟨_, Tryz.underlying9, rfl, _, _, rfl, rfl, rfl⟩, by decide, ⟨_, Tryz.underlying3, rfl, _, _, rfl, rfl, rfl⟩, by decide, ⟨_, Tryz.underlying3, rfl, _, _, rfl, rfl, rfl⟩, by decide, ⟨_, Tryz.underlying4, rfl, _, _, rfl, rfl, rfl⟩, trivial⟩))) ?_
  refine d1 (y_and rfl rfl rfl) ?_
  refine dgo ?_
  refine T_cond rfl ?_ ?_ <;> intro h34
  · try simp only [nrm] at h34
    subst hlen hmen
    have hst := shR_step (l := l) (m := m) (n := n) (by omega) (by omega) h34.2
    refine kgo ?_
    refine T_block ?_
    refine T_region ?_
    refine sr 1 ?_
    refine s1 (y_bin rfl rfl rfl (fun hg => b_add (by omega))) ?_
    refine sr 1 ?_
    refine S_nil (nK1 (kf := [(5, 36)]) (kl := [(5, 36)]) (n + 1) ?_ ?_ ?_ ?_)
    · omega
    · exact ⟨by omega, by omega, by rw [hp3, hst]; omega⟩
    · exact ⟨rfl, trivial⟩
    · exact trivial
  try simp only [nrm] at h34
  subst hlen hmen
  have hst := shR_stop (l := l) (m := m) (n := n) fun h1 h2 => h34.resolve_left (by omega)
  refine egx ?_
  refine sr 2 ?_
  refine sgo ?_
  refine tr1 hRb fun w hM => ?_
  have he : shQ l m = n := by rw [hp3, hst, Nat.zero_add]
  rw [he]
  exact ⟨rfl, hM.below⟩
end Go.Proofs.YtgbldojgbpgjbaaGreatDoor
end
section
namespace Go.Proofs.YtgbldojgbpgjbaaGreatDoor
set_option linter.unusedSimpArgs false
set_option linter.unusedVariables false
set_option maxRecDepth 20000
open Go.RowKit Go.Eng
def inX : List PFl ⊕ Nat → Int
  | .inl _ => -1
  | .inr n => (n : Int) - 1
theorem inX_r (n : Nat) : inX (.inr (n + 1)) = (n : Int) := by show ((n + 1 : Nat) : Int) - 1 = n; omega
def gnI (m : Bool) (j : Nat) : Int := if m = true then (j : Int) - 1 else -1
theorem gn_t (j : Nat) : gnI true (j + 1) = (j : Int) := by show ((j + 1 : Nat) : Int) - 1 = (j : Int); omega
theorem gn_lt {m : Bool} {j : Nat} (h : 1 ≤ j) : Value.bool (decide (gnI m j < 0)) = .bool (!m) := by
  cases m with
  | false => rfl
  | true => rw [gnI, if_pos rfl, decide_eq_false (by omega)]; rfl
def flt0 : Flt := ⟨[], [], ⟨none, 0, 0, []⟩⟩
def lstF (l : List Flt) : Flt := l.getD (l.length - 1) flt0
theorem lst_at {l : List Flt} (h : 0 < l.length) : l[l.length - 1]? = some (lstF l) := by
  have h2 := List.getElem?_eq_getElem (l := l) (i := l.length - 1) (by omega)
  rw [lstF, List.getD_eq_getElem?_getD, h2]; rfl
theorem lst_mem {l : List Flt} (h : 0 < l.length) : lstF l ∈ l := List.mem_of_getElem? (lst_at h)
theorem lst_fr {l : List Flt} (h : 0 < l.length) : lastF (l.map pfl) = (lstF l).fr.l := by
  rw [lastF, List.getLast?_map, List.getLast?_eq_getElem?, lst_at h]; rfl
theorem dot_val {ls : List (List UInt8)} {n : Nat} (h : begL ls dotB = true) (h2 : dotQ (ls.headD []) = some n) : n = (numB 10 3 (Lib.trimSuffix (nxV ls dotB) moreB)).getD 0 := by
  rw [dot_eq h] at h2
  split at h2
  · rw [h2]; rfl
  · cases h2
theorem dots_bad {ls : List (List UInt8)} {l : List Flt} {fr : List Frm} (h : begL ls dotB = true) (hq : 0 < l.length → (lstF l).fr.l.length = (lstF l).fr.q)
    (h2 : (((Lib.hasSuffix (nxV ls dotB) moreB = false ∨ (numB 10 3 (Lib.trimSuffix (nxV ls dotB) moreB)).isSome = false) ∨ (((numB 10 3 (Lib.trimSuffix (nxV ls dotB) moreB)).getD 0 : Nat) : Int) < 2) ∨ ((l.length : Nat) : Int) = 0) ∨ (((lstF l).fr.q : Nat) : Int) < (((numB 10 3 (Lib.trimSuffix (nxV ls dotB) moreB)).getD 0 : Nat) : Int)) :
    (dotQ (ls.headD [])).bind (joinF (l.map pfl) fr) = none := by
  cases hd : dotQ (ls.headD []) with
  | none => rfl
  | some n =>
    have hn := dot_val h hd
    show joinF (l.map pfl) fr n = none
    rcases h2 with ((h3 | h3) | h3) | h3
    · have h4 := dot_none h h3
      rw [hd] at h4; cases h4
    · exact joinF_no (.inr (.inl (by omega)))
    · exact joinF_no (.inl (map_nil_iff.2 (by omega)))
    · by_cases h0 : l.length = 0
      · exact joinF_no (.inl (map_nil_iff.2 h0))
      · exact joinF_no (.inr (.inr (by rw [lst_fr (by omega), hq (by omega)]; omega)))
structure IxR where
  A : Option Addr
  c : Nat
  l : List Flt
  rs : List Row
structure IxOk (w0 : World) (rs : List Row) (z : Src) (x : IxR) : Prop where
  more : ∀ r ∈ rs, r ∈ x.rs
  ok : ∀ f ∈ x.l, Sees w0 x.rs fun w => FlR w f
  few : x.l.length ≤ z.q
  says : ∀ y, innerQ z.tl (z.q + 1) [] z.ls 0 = .inl y → x.l.map pfl = y
set_option maxRecDepth 8000 in
set_option maxHeartbeats 6400000 in
theorem rInner_any {w0 : World} {K : HL} (hK : FromK K) (rs : List Row) (z : Src) (hz : SrcOk w0 rs z) (w : World) (hM0 : Mem w0 ([(900, .many rs)] ++ K) w) :
    Calls Tryz.prog 136 #[.slice z.A z.q z.c, str z.tl] w fun e w' => ∃ x : IxR, e = .returned (.tuple #[.slice x.A x.l.length x.c, .int .i64 (inX (innerQ z.tl (z.q + 1) [] z.ls 0))]) ∧ IxOk w0 rs z x ∧ Mem w0 ([(900, .many x.rs), (6, flI x.A x.c x.l)] ++ K) w' := by
  have hfew := hz.few
  have hlen := hz.len
  have htl := hz.tl
  refine enterM_args (args := [.slice z.A z.q z.c, str z.tl]) (F := _) hM0 Tryz.func136 rfl Tryz.ntmps136 rfl rfl ?_
  intro Rb hRb hRn
  refine tx ?_
  refine sr 2 ?_
  refine sgx ?_
  refine S_nilSlice 6 (e := 36) (size := 3) ?_
  refine sr 1 ?_
  refine sgs ?_
  refine tx ?_
  refine sr 1 ?_
  refine sgo ?_
  refine T_block ?_
  refine lK5 (kf := [(4, 225)]) (kl := [(4, 225), (900, 900)]) (fun (i : Nat) (A : Option Addr) (c : Nat) (l : List Flt) (rs2 : List Row) => [(7, true, .int .i64 (i : Int)), (6, true, .slice A l.length c)]) (fun (i : Nat) (A : Option Addr) (c : Nat) (l : List Flt) (rs2 : List Row) => [(900, .many rs2), (6, flI A c l)]) (fun (i : Nat) (A : Option Addr) (c : Nat) (l : List Flt) (rs2 : List Row) => i ≤ z.q ∧ l.length ≤ i ∧ (∀ r ∈ rs, r ∈ rs2) ∧ (∀ f ∈ l, Sees w0 rs2 fun w => FlR w f) ∧ (l.length = 0 ∨ i < z.q → innerQ z.tl (z.q + 1) [] z.ls 0 = innerQ z.tl (z.q + 1 - l.length) (l.map pfl) (z.ls.drop i) i) ∧ (¬ (l.length = 0 ∨ i < z.q) → innerQ z.tl (z.q + 1) [] z.ls 0 = .inl (l.map pfl))) (fun (i : Nat) (A : Option Addr) (c : Nat) (l : List Flt) (rs2 : List Row) => z.q - i) 0 none 0 [] rs ?_ ?_ ?_ ?_
  · exact ⟨by omega, Nat.le_refl _, fun _ h => h, fun _ h => (by cases h), fun _ => rfl, fun h => absurd (.inl rfl) h⟩
  · exact ⟨rfl, rfl, trivial⟩
  · exact ⟨rfl, rfl, trivial⟩
  rintro i A c l rs2 ⟨hp1, hp2, hp3, hp4, hp5, hp6⟩
  obtain ⟨k, hk⟩ : ∃ k, z.q + 1 - l.length = k + 1 := ⟨z.q - l.length, by omega⟩
  have hz2 : SrcOk w0 rs2 z := ⟨hz.sees.more hp3, hz.short, hz.len, hz.few, hz.tl⟩
  refine T_seq ?_
  refine tx ?_
  refine sr 2 ?_
  refine s1 (y_len_slice rfl rfl Tryz.underlying53) ?_
  refine sr 2 ?_
  refine sg rfl (y_move rfl rfl) ?_
  refine sg rfl (y_len_slice rfl rfl Tryz.underlying22) ?_
  refine sg rfl (y_bin rfl rfl rfl (fun _ => b_eql)) ?_
  refine s1 (y_or rfl rfl rfl) ?_
  refine sgo ?_
  refine T_cond rfl ?_ ?_ <;> intro h34
  · try simp only [nrm] at h34
    refine T_knownP (p := 0 < l.length → (lstF l).fr.l.length = (lstF l).fr.q ∧ (lstF l).fr.q ≤ (lstF l).fr.c ∧ (lstF l).fr.q ≤ 2000000) (fun w hM h0 => ⟨((hp4 _ (lst_mem h0)).at hM 900 rfl).ok.t.len, ((hp4 _ (lst_mem h0)).at hM 900 rfl).ok.cap, ((hp4 _ (lst_mem h0)).at hM 900 rfl).few⟩) fun hLF => ?_
    have hin := hp5 (by omega)
    refine kgo ?_
    refine T_block ?_
    refine T_seq ?_
    refine tx ?_
    refine sr 2 ?_
    refine s1 (y_len_slice rfl rfl Tryz.underlying53) ?_
    refine sr 1 ?_
    refine sgo ?_
    refine T_cond rfl ?_ ?_ <;> intro h38
    · try simp only [nrm] at h38
      have hno : fhQ (z.ls.drop i) (preQ (l.map pfl)) = none := by rw [List.drop_eq_nil_of_le (by omega)]; rfl
      have hbad : innerQ z.tl (z.q + 1) [] z.ls 0 = .inr (i + 1) := by rw [hin, hk]; exact innerQ_bad (faultQ_no hno)
      refine tx ?_
      refine sr 3 ?_
      refine sgo ?_
      refine tr2 hRb fun w hM => ?_
      rw [hbad]
      have hM := hM.add 6 (flI none 0 []) rfl (World.ownsRow_nil _ _ _ _)
      exact ⟨⟨none, 0, [], rs2⟩, by rw [inX_r]; rfl, ⟨hp3, fun f hf => (by cases hf), Nat.zero_le _, fun y hy => (by rw [hbad] at hy; cases hy)⟩, hM.keep (ks := [(0, 999)]) (by repeat (first | exact kl_rest (by assumption) rfl | (apply kl_in; focus rfl))) _ ⟨rfl, rfl, trivial⟩⟩
    try simp only [nrm] at h38
    have hil : i < z.ls.length := by omega
    refine kgx ?_
    refine sr 2 ?_
    refine s1 (y_here rfl (fun w1 hM => y_indexAddr (j := i) rfl rfl rfl Tryz.underlying53 sz9 (fun hg => (hz2.sees.at hM 900 rfl).isSome (by first | omega | simp only [Bool.true_and, Bool.and_eq_true, beq_iff_eq, decide_eq_true_eq, decide_eq_false_iff_not, Int.not_lt, Int.not_le] at hg; omega)) (fun hg => by first | omega | simp only [Bool.true_and, Bool.and_eq_true, beq_iff_eq, decide_eq_true_eq, decide_eq_false_iff_not, Int.not_lt, Int.not_le] at hg; omega))) ?_
    refine s1 (y_here rfl (fun w1 hM => y_loadT1 (val := str) (xe := z.ls.getD i []) rfl rfl (hz2.sees.at hM 900 rfl) (fun hg => getD_at (by rw [hlen]; first | omega | simp only [Bool.true_and, Bool.and_eq_true, beq_iff_eq, decide_eq_true_eq, decide_eq_false_iff_not, Int.not_lt, Int.not_le] at hg; omega)) Tryz.underlying9 rfl)) ?_
    refine sr 1 ?_
    refine sgs ?_
    refine tx ?_
    refine sr 1 ?_
    refine s1 (y_len_slice rfl rfl Tryz.underlying22) ?_
    refine sr 1 ?_
    refine sgo ?_
    refine T_mid (kf := [(4, 5), (8, 10), (47, 55)]) (kl := [(4, 5), (8, 10), (47, 55)]) (fun g1 : PLift (begL (z.ls.drop i) (preQ (l.map pfl)) = true) => [(8, true, str (nxV (z.ls.drop i) (preQ (l.map pfl))))]) (fun g1 : PLift (begL (z.ls.drop i) (preQ (l.map pfl)) = true) => []) (by repeat (first | exact kf_nil | (apply kf_in; focus rfl) | (apply kf_out; focus rfl))) (by repeat (first | exact kl_nil | exact kl_rest (by assumption) rfl | (apply kl_in; focus rfl) | (apply kl_out; focus rfl))) ?_ ?_
    · skip
      refine T_cond rfl ?_ ?_ <;> intro h46
      · try simp only [nrm] at h46
        have hpre : preQ (l.map pfl) = causeB := if_neg fun e => by have := map_nil_iff.1 e; omega
        have hbe := begL_eq (ls := z.ls) (i := i) (p := causeB)
        rw [decide_eq_true hil, Bool.true_and] at hbe
        refine tx ?_
        refine sr 1 ?_
        refine s1 (y_call rfl rfl rfl cf198 (fun _ w _ => CutPrefix_any _ _ w)) ?_
        refine sr 5 ?_
        refine sgs ?_
        refine tx ?_
        refine sr 2 ?_
        refine sgo ?_
        refine T_cond rfl ?_ ?_ <;> intro h53
        · skip
          have hb : begL (z.ls.drop i) (preQ (l.map pfl)) = false := by rw [hpre, hbe]; simpa using h53
          have hno : fhQ (z.ls.drop i) (preQ (l.map pfl)) = none := if_neg (by rw [hb]; decide)
          have hbad : innerQ z.tl (z.q + 1) [] z.ls 0 = .inr (i + 1) := by rw [hin, hk]; exact innerQ_bad (faultQ_no hno)
          refine tx ?_
          refine sr 3 ?_
          refine sgo ?_
          refine tr2 hRb fun w hM => ?_
          rw [hbad]
          have hM := hM.add 6 (flI none 0 []) rfl (World.ownsRow_nil _ _ _ _)
          exact ⟨⟨none, 0, [], rs2⟩, by rw [inX_r]; rfl, ⟨hp3, fun f hf => (by cases hf), Nat.zero_le _, fun y hy => (by rw [hbad] at hy; cases hy)⟩, hM.keep (ks := [(0, 999)]) (by repeat (first | exact kl_rest (by assumption) rfl | (apply kl_in; focus rfl))) _ ⟨rfl, rfl, trivial⟩⟩
        have h53p : Lib.hasPrefix (z.ls.getD i []) causeB = true := by simpa using h53
        have hb : begL (z.ls.drop i) (preQ (l.map pfl)) = true := by rw [hpre, hbe]; exact h53p
        have hval : Lib.trimPrefix (z.ls.getD i []) causeB = (nxV (z.ls.drop i) (preQ (l.map pfl))) := by rw [nxV_yes hb, hpre, headD_drop]; exact if_pos h53p
        refine kgr ?_
        refine sr 2 ?_
        refine S_nil (mid_end (kf := [(4, 5), (8, 10), (47, 55)]) (kl := [(4, 5), (8, 10), (47, 55)]) (⟨hb⟩) (by repeat (first | exact kf_nil | (apply kf_in; focus rfl) | (apply kf_out; focus rfl))) (by repeat (first | exact kl_nil | exact kl_rest (by assumption) rfl | (apply kl_in; focus rfl) | (apply kl_out; focus rfl))) ?_ ?_)
        · exact ⟨by rw [← hval]; rfl, trivial⟩
        · exact trivial
      try simp only [nrm] at h46
      have hl0 : l = [] := List.eq_nil_of_length_eq_zero (by omega)
      have hpre : preQ (l.map pfl) = [] := by rw [hl0]; rfl
      have hb : begL (z.ls.drop i) (preQ (l.map pfl)) = true := by rw [hpre, begL_eq, decide_eq_true hil]; rfl
      have hval : z.ls.getD i [] = (nxV (z.ls.drop i) (preQ (l.map pfl))) := by rw [nxV_yes hb, hpre, headD_drop]; rfl
      refine T_skip (mid_end (kf := [(4, 5), (8, 10), (47, 55)]) (kl := [(4, 5), (8, 10), (47, 55)]) (⟨hb⟩) (by repeat (first | exact kf_nil | (apply kf_in; focus rfl) | (apply kf_out; focus rfl))) (by repeat (first | exact kl_nil | exact kl_rest (by assumption) rfl | (apply kl_in; focus rfl) | (apply kl_out; focus rfl))) ?_ ?_)
      · exact ⟨by rw [← hval]; rfl, trivial⟩
      · exact trivial
    intro g1
    have hfq0 : fhQ (z.ls.drop i) (preQ (l.map pfl)) = headQ (nxV (z.ls.drop i) (preQ (l.map pfl))) := if_pos g1.down
    have hns := nxV_short (p := preQ (l.map pfl)) (drop_short (i := i) hz.short)
    refine sgx ?_
    refine sr 1 ?_
    refine s1 (y_call rfl rfl rfl cf199 (fun _ w _ => headLine_any _ (by omega) w)) ?_
    refine sr 3 ?_
    refine S_alloc 11 11 rfl rfl rfl rfl z36 ?_
    intro b11
    refine S_nilSlice 951 (e := 45) (size := 6) ?_
    refine S_store 11 rfl rfl rfl rfl rfl rfl sz36 rfl rfl ?_
    refine sr 1 ?_
    refine sgs ?_
    refine tx ?_
    refine sr 2 ?_
    refine sgo ?_
    refine T_cond rfl ?_ ?_ <;> intro h62
    · skip
      have hno : fhQ (z.ls.drop i) (preQ (l.map pfl)) = none := by rw [hfq0]; exact Option.not_isSome_iff_eq_none.1 (by simpa using h62)
      have hbad : innerQ z.tl (z.q + 1) [] z.ls 0 = .inr (i + 1) := by rw [hin, hk]; exact innerQ_bad (faultQ_no hno)
      refine tx ?_
      refine sr 3 ?_
      refine sgo ?_
      refine tr2 hRb fun w hM => ?_
      rw [hbad]
      have hM := hM.add 6 (flI none 0 []) rfl (World.ownsRow_nil _ _ _ _)
      exact ⟨⟨none, 0, [], rs2⟩, by rw [inX_r]; rfl, ⟨hp3, fun f hf => (by cases hf), Nat.zero_le _, fun y hy => (by rw [hbad] at hy; cases hy)⟩, hM.keep (ks := [(0, 999)]) (by repeat (first | exact kl_rest (by assumption) rfl | (apply kl_in; focus rfl))) _ ⟨rfl, rfl, trivial⟩⟩
    obtain ⟨y0, hy0⟩ := Option.isSome_iff_exists.1 (show (headQ (nxV (z.ls.drop i) (preQ (l.map pfl)))).isSome = true by simpa using h62)
    have hkt : fhQ (z.ls.drop i) (preQ (l.map pfl)) = some ((hdO (nxV (z.ls.drop i) (preQ (l.map pfl)))).1, (hdO (nxV (z.ls.drop i) (preQ (l.map pfl)))).2) := by rw [hfq0, hdO, hy0]; rfl
    generalize hdO (nxV (z.ls.drop i) (preQ (l.map pfl))) = x at hkt ⊢
    refine kgx ?_
    refine sr 2 ?_
    refine sgx ?_
    refine sr 1 ?_
    refine sgs ?_
    refine tx ?_
    refine sr 1 ?_
    refine s1 (y_bin rfl rfl rfl (fun hg => b_addv (((i + 1 : Nat) : Int)) (by omega) (by omega))) ?_
    refine sr 1 ?_
    refine sgo ?_
    refine T_block ?_
    refine lK5 (kf := [(4, 5), (7, 7), (14, 24), (67, 181)]) (kl := [(4, 5), (7, 7), (11, 11), (14, 24), (67, 181), (951, 951)]) (fun (j : Nat) (B : Option Addr) (d : Nat) (fr : List Frm) (m : Bool) => [(7, true, .int .i64 (j : Int)), (14, true, .int .i64 (gnI m j))]) (fun (j : Nat) (B : Option Addr) (d : Nat) (fr : List Frm) (m : Bool) => [(11, flB b11 x.1 x.2 B d fr), (951, frI B d fr)]) (fun (j : Nat) (B : Option Addr) (d : Nat) (fr : List Frm) (m : Bool) => j ≤ z.q ∧ i < j ∧ fr.length ≤ j + 1000 ∧ (m = false → fr.length ≤ j) ∧ (m = false → frsQ (z.ls.drop (i + 1)) (i + 1) [] = frsQ (z.ls.drop j) j fr) ∧ (m = true → faultQ (l.map pfl) z.tl i (z.ls.drop i) = .inr (⟨x.1, x.2, fr⟩, z.ls.drop j, j))) (fun (j : Nat) (B : Option Addr) (d : Nat) (fr : List Frm) (m : Bool) => z.q - j) (i + 1) none 0 [] false ?_ ?_ ?_ ?_
    · exact ⟨by omega, by omega, Nat.zero_le _, fun _ => Nat.zero_le _, fun _ => rfl, fun h => (by cases h)⟩
    · exact ⟨rfl, rfl, trivial⟩
    · exact ⟨rfl, rfl, trivial⟩
    rintro j B d fr m ⟨hq1, hq2, hq3, hq4, hq5, hq6⟩
    refine T_seq ?_
    refine tx ?_
    refine sr 2 ?_
    refine s1 (y_len_slice rfl rfl Tryz.underlying53) ?_
    refine sr 2 ?_
    refine sg rfl (y_move rfl rfl) ?_
    refine sg rfl (y_move rfl rfl) ?_
    refine sg rfl (y_here rfl (fun w1 hM => y_indexAddr (j := j) rfl rfl rfl Tryz.underlying53 sz9 (fun hg => (hz2.sees.at hM 900 rfl).isSome (by first | omega | simp only [Bool.true_and, Bool.and_eq_true, beq_iff_eq, decide_eq_true_eq, decide_eq_false_iff_not, Int.not_lt, Int.not_le] at hg; omega)) (fun hg => by first | omega | simp only [Bool.true_and, Bool.and_eq_true, beq_iff_eq, decide_eq_true_eq, decide_eq_false_iff_not, Int.not_lt, Int.not_le] at hg; omega))) ?_
    refine sg rfl (y_here rfl (fun w1 hM => y_loadT1 (val := str) (xe := z.ls.getD j []) rfl rfl (hz2.sees.at hM 900 rfl) (fun hg => getD_at (by rw [hlen]; first | omega | simp only [Bool.true_and, Bool.and_eq_true, beq_iff_eq, decide_eq_true_eq, decide_eq_false_iff_not, Int.not_lt, Int.not_le] at hg; omega)) Tryz.underlying9 rfl)) ?_
    refine sg rfl (y_call rfl rfl rfl cf200 (fun _ w _ => behind_any _ w)) ?_
    refine s1 (y_and rfl rfl rfl) ?_
    refine sr 1 ?_
    refine sg rfl (y_move rfl rfl) ?_
    refine sg rfl (y_as (v' := .bool (!m)) (by exact gn_lt (by omega)) (y_bin rfl rfl rfl (fun _ => b_lss))) ?_
    refine s1 (y_and rfl rfl rfl) ?_
    refine sgo ?_
    refine T_cond rfl ?_ ?_ <;> intro h81
    · skip
      simp only [Bool.and_eq_true, Bool.not_eq_true', decide_eq_true_eq] at h81
      obtain ⟨⟨h81a, h81b⟩, h81m⟩ := h81
      subst h81m
      have hjl : j < z.ls.length := by omega
      have hfr := hq5 rfl
      have hfl := hq4 rfl
      have hns2 := nxV_short (p := atB) (drop_short (i := j) hz.short)
      have hns3 := nxV_short (p := dotB) (drop_short (i := j) hz.short)
      refine kgs ?_
      refine T_block ?_
      refine T_seq ?_
      refine tx ?_
      refine sr 2 ?_
      refine s1 (y_here rfl (fun w1 hM => y_indexAddr (j := j) rfl rfl rfl Tryz.underlying53 sz9 (fun hg => (hz2.sees.at hM 900 rfl).isSome (by first | omega | simp only [Bool.true_and, Bool.and_eq_true, beq_iff_eq, decide_eq_true_eq, decide_eq_false_iff_not, Int.not_lt, Int.not_le] at hg; omega)) (fun hg => by first | omega | simp only [Bool.true_and, Bool.and_eq_true, beq_iff_eq, decide_eq_true_eq, decide_eq_false_iff_not, Int.not_lt, Int.not_le] at hg; omega))) ?_
      refine s1 (y_here rfl (fun w1 hM => y_loadT1 (val := str) (xe := z.ls.getD j []) rfl rfl (hz2.sees.at hM 900 rfl) (fun hg => getD_at (by rw [hlen]; first | omega | simp only [Bool.true_and, Bool.and_eq_true, beq_iff_eq, decide_eq_true_eq, decide_eq_false_iff_not, Int.not_lt, Int.not_le] at hg; omega)) Tryz.underlying9 rfl)) ?_
      refine s1 (y_call rfl rfl rfl cf198 (fun _ w _ => CutPrefix_any _ _ w)) ?_
      refine sr 5 ?_
      refine sgx ?_
      refine sr 1 ?_
      refine sgo ?_
      refine T_cond rfl ?_ ?_ <;> intro h92
      · skip
        have hba : begL (z.ls.drop j) atB = true := by rw [begL_eq, decide_eq_true hjl]; exact h92
        have hval : Lib.trimPrefix (z.ls.getD j []) atB = nxV (z.ls.drop j) atB := by rw [nxV_yes hba, headD_drop]; exact if_pos h92
        have hfm : fmQ (z.ls.drop j) atB = frameQ (nxV (z.ls.drop j) atB) := if_pos hba
        refine tx ?_
        refine s1 (y_as (v' := str (nxV (z.ls.drop j) atB)) (by exact congrArg str hval) (y_move rfl rfl)) ?_
        refine S_callM 95 [] (X := Frm) rfl rfl rfl rfl rfl rfl rfl cf201 rfl (fun y => .tuple #[y.val, .bool (frameQ (nxV (z.ls.drop j) atB)).isSome]) (fun y => ∀ u, frameQ (nxV (z.ls.drop j) atB) = some u → y = u) (fun _ => []) (fun _ => rfl) (fun _ => rfl) (fun K1 hK1 w hM => frameLine_any hK1 _ (by omega) w hM) ?_
        intro y hy
        refine sr 3 ?_
        refine S_alloc 17 17 rfl rfl rfl rfl z45 ?_
        intro b17
        refine S_store 17 rfl rfl rfl rfl rfl rfl sz45 rfl rfl ?_
        refine sr 1 ?_
        refine sgs ?_
        refine tx ?_
        refine sr 2 ?_
        refine sgo ?_
        refine T_cond rfl ?_ ?_ <;> intro h99
        · skip
          have hno2 : fmQ (z.ls.drop j) atB = none := by rw [hfm]; exact Option.not_isSome_iff_eq_none.1 (by simpa using h99)
          have hfq := (faultQ_yes (tl := z.tl) (i := i) hkt).trans (by rw [List.drop_drop, hfr, frsQ_no hba hno2])
          have hbad : innerQ z.tl (z.q + 1) [] z.ls 0 = .inr (j + 1) := by rw [hin, hk]; exact innerQ_bad hfq
          refine tx ?_
          refine sr 3 ?_
          refine sgo ?_
          refine tr2 hRb fun w hM => ?_
          rw [hbad]
          have hM := hM.add 6 (flI none 0 []) rfl (World.ownsRow_nil _ _ _ _)
          exact ⟨⟨none, 0, [], rs2⟩, by rw [inX_r]; rfl, ⟨hp3, fun f hf => (by cases hf), Nat.zero_le _, fun y hy => (by rw [hbad] at hy; cases hy)⟩, hM.keep (ks := [(0, 999)]) (by repeat (first | exact kl_rest (by assumption) rfl | (apply kl_in; focus rfl))) _ ⟨rfl, rfl, trivial⟩⟩
        obtain ⟨y0, hy0⟩ := Option.isSome_iff_exists.1 (show (frameQ (nxV (z.ls.drop j) atB)).isSome = true by simpa using h99)
        have hyy := hy y0 hy0
        subst hyy
        have hy1 := hfm.trans hy0
        refine kgx ?_
        refine s1 (yF fa36_2) ?_
        refine s1 (yL 11 Tryz.underlying32) ?_
        refine s1 (yA 17 rfl Tryz.underlying45 sz45) ?_
        refine S_buildSlice 104 104 rfl rfl rfl rfl rfl Tryz.underlying32 inf45 rfl (by decide) (by decide) rfl rfl (by decide) rfl (_) rfl ?_
        intro b104
        obtain ⟨i105, hi105, hz105, hs105, hy105⟩ := info_parts inf45
        refine S_append 105 951 104 rfl rfl rfl rfl rfl rfl rfl rfl Tryz.underlying32 hi105 hz105 hs105 hy105 rfl (by decide) (by decide) rfl ?_ ?_ ((fr ++ [y]).length) ((fr ++ [y]).flatMap Frm.enc) ?_ ?_ ?_
        · (simp only [maxLen]; omega)
        · omega
        · rw [List.length_append]; rfl
        · rw [List.flatMap_append]; rfl
        intro A105 c105
        refine s1 (yF fa36_2) ?_
        refine S_store 11 rfl rfl rfl rfl rfl rfl sz32 rfl rfl ?_
        refine sgo ?_
        refine egr ?_
        refine sr 1 ?_
        refine s1 (y_bin rfl rfl rfl (fun hg => b_addv (((j + 1 : Nat) : Int)) (by omega) (by omega))) ?_
        refine sr 1 ?_
        refine S_nil (nK5 (kf := [(4, 5), (7, 7), (14, 24), (67, 181)]) (kl := [(4, 5), (7, 7), (11, 11), (14, 24), (67, 181), (951, 951)]) (j + 1) A105 c105 (fr ++ [y]) false ?_ ?_ ?_ ?_)
        · omega
        · exact ⟨by omega, by omega, by rw [List.length_append]; show fr.length + 1 ≤ _; omega, fun _ => by rw [List.length_append]; show fr.length + 1 ≤ _; omega, fun _ => by rw [hfr, frsQ_yes hba hy1, List.drop_drop], fun h => (by cases h)⟩
        · exact ⟨rfl, rfl, trivial⟩
        · exact ⟨rfl, rfl, trivial⟩
      have h92d : Lib.hasPrefix (z.ls.getD j []) dotB = true := by rw [show Lib.hasPrefix (z.ls.getD j []) atB = false from h92, Bool.false_or] at h81b; exact h81b
      have hda : begL (z.ls.drop j) atB = false := by rw [begL_eq, decide_eq_true hjl]; exact h92
      have hdd : begL (z.ls.drop j) dotB = true := by rw [begL_eq, decide_eq_true hjl]; exact h92d
      have hend := frsQ_end (i := j) (acc := fr) hda
      have hfq := (faultQ_yes (tl := z.tl) (i := i) hkt).trans (by rw [List.drop_drop, hfr, hend])
      have hdv : Lib.trimPrefix (z.ls.getD j []) dotB = nxV (z.ls.drop j) dotB := by rw [nxV_yes hdd, headD_drop]; exact if_pos h92d
      have hdq := dot_eq hdd
      have hts := trimS_le (nxV (z.ls.drop j) dotB) moreB
      have hN9 := num3_le (Lib.trimSuffix (nxV (z.ls.drop j) dotB) moreB)
      refine kgx ?_
      refine sr 2 ?_
      refine s1 (y_here rfl (fun w1 hM => y_indexAddr (j := j) rfl rfl rfl Tryz.underlying53 sz9 (fun hg => (hz2.sees.at hM 900 rfl).isSome (by first | omega | simp only [Bool.true_and, Bool.and_eq_true, beq_iff_eq, decide_eq_true_eq, decide_eq_false_iff_not, Int.not_lt, Int.not_le] at hg; omega)) (fun hg => by first | omega | simp only [Bool.true_and, Bool.and_eq_true, beq_iff_eq, decide_eq_true_eq, decide_eq_false_iff_not, Int.not_lt, Int.not_le] at hg; omega))) ?_
      refine s1 (y_here rfl (fun w1 hM => y_loadT1 (val := str) (xe := z.ls.getD j []) rfl rfl (hz2.sees.at hM 900 rfl) (fun hg => getD_at (by rw [hlen]; first | omega | simp only [Bool.true_and, Bool.and_eq_true, beq_iff_eq, decide_eq_true_eq, decide_eq_false_iff_not, Int.not_lt, Int.not_le] at hg; omega)) Tryz.underlying9 rfl)) ?_
      refine s1 (y_call rfl rfl rfl cf198 (fun _ w _ => CutPrefix_any _ _ w)) ?_
      refine sr 5 ?_
      refine sgx ?_
      refine s1 (y_as (v' := str (nxV (z.ls.drop j) dotB)) (by exact congrArg str hdv) (y_move rfl rfl)) ?_
      refine s1 (y_call rfl rfl rfl cf202 (fun _ w _ => CutSuffix_any _ _ (by omega) w)) ?_
      refine sr 5 ?_
      refine sgx ?_
      refine sr 1 ?_
      refine s1 (y_call rfl rfl rfl cf203 (fun _ w _ => rnumber10_any _ 3 (by omega) (by show (Lib.trimSuffix (nxV (z.ls.drop j) dotB) moreB).length ≤ _; omega) w)) ?_
      refine sr 5 ?_
      refine sgs ?_
      refine tx ?_
      refine s1 (y_as (v' := .bool true) (by exact congrArg Value.bool h92d) (y_move rfl rfl)) ?_
      refine sr 2 ?_
      refine sg rfl (y_move rfl rfl) ?_
      refine sg rfl (y_not rfl rfl) ?_
      refine s1 (y_or rfl rfl rfl) ?_
      refine sr 1 ?_
      refine sg rfl (y_move rfl rfl) ?_
      refine sg rfl (y_not rfl rfl) ?_
      refine s1 (y_or rfl rfl rfl) ?_
      refine sr 1 ?_
      refine sg rfl (y_move rfl rfl) ?_
      refine sg rfl (y_bin rfl rfl rfl (fun _ => b_lss)) ?_
      refine s1 (y_or rfl rfl rfl) ?_
      refine sr 1 ?_
      refine sg rfl (y_move rfl rfl) ?_
      refine sg rfl (y_len_slice rfl rfl Tryz.underlying22) ?_
      refine sg rfl (y_bin rfl rfl rfl (fun _ => b_eql)) ?_
      refine s1 (y_or rfl rfl rfl) ?_
      refine sr 1 ?_
      refine sg rfl (y_move rfl rfl) ?_
      refine sg rfl (y_move rfl rfl) ?_
      refine sg rfl (y_move rfl rfl) ?_
      refine sg rfl (y_len_slice rfl rfl Tryz.underlying22) ?_
      refine sg rfl (y_bin rfl rfl rfl (fun hg => b_subv (((l.length - 1 : Nat) : Int)) (by have hg2 := List.length_pos_iff.2 (show ¬ l = [] from fun h0 => by subst h0; simp at hg); omega) (by have hg2 := List.length_pos_iff.2 (show ¬ l = [] from fun h0 => by subst h0; simp at hg); omega))) ?_
      refine sg rfl (y_indexOwn 6 rfl rfl rfl rfl Tryz.underlying22 sz36 (fun hg => by first | omega | (have hg2 := List.length_pos_iff.2 (show ¬ l = [] from fun h0 => by subst h0; simp at hg); omega))) ?_
      refine sg rfl (y_fieldOwn 6 rfl rfl rfl (fun hg => by first | omega | (have hg2 := List.length_pos_iff.2 (show ¬ l = [] from fun h0 => by subst h0; simp at hg); omega)) fa36_2) ?_
      refine sg rfl (y_load_cellOwn 6 rfl rfl rfl (fun hg => by first | omega | (have hg2 := List.length_pos_iff.2 (show ¬ l = [] from fun h0 => by subst h0; simp at hg); omega)) (fun hg => flat_at (enc := Flt.enc) (size := 3) (fun _ => rfl) (lst_at (by first | omega | (have hg2 := List.length_pos_iff.2 (show ¬ l = [] from fun h0 => by subst h0; simp at hg); omega))) 2 (.slice (lstF l).fr.A (lstF l).fr.q (lstF l).fr.c) rfl) Tryz.underlying32 rfl) ?_
      refine sg rfl (y_len_slice rfl rfl Tryz.underlying32) ?_
      refine sg rfl (y_bin rfl rfl rfl (fun _ => b_gtr)) ?_
      refine s1 (y_or rfl rfl rfl) ?_
      refine sgo ?_
      refine T_cond rfl ?_ ?_ <;> intro h155
      · skip
        simp only [Bool.not_true, Bool.false_or, Bool.or_eq_true, Bool.not_eq_true', decide_eq_true_eq] at h155
        have hdn := dots_bad (l := l) (fr := fr) hdd (fun h => (hLF h).1) h155
        have hr := hfq.trans (restQ_bad hdd hdn)
        have hbad : innerQ z.tl (z.q + 1) [] z.ls 0 = .inr (j + 1) := by rw [hin, hk]; exact innerQ_bad hr
        refine tx ?_
        refine sr 3 ?_
        refine sgo ?_
        refine tr2 hRb fun w hM => ?_
        rw [hbad]
        have hM := hM.add 6 (flI none 0 []) rfl (World.ownsRow_nil _ _ _ _)
        exact ⟨⟨none, 0, [], rs2⟩, by rw [inX_r]; rfl, ⟨hp3, fun f hf => (by cases hf), Nat.zero_le _, fun y hy => (by rw [hbad] at hy; cases hy)⟩, hM.keep (ks := [(0, 999)]) (by repeat (first | exact kl_rest (by assumption) rfl | (apply kl_in; focus rfl))) _ ⟨rfl, rfl, trivial⟩⟩
      simp only [Bool.not_true, Bool.false_or, Bool.or_eq_false_iff, Bool.not_eq_false', decide_eq_false_iff_not] at h155
      obtain ⟨⟨⟨⟨h155a, h155b⟩, h155c⟩, h155d⟩, h155e⟩ := h155
      have hds : dotQ ((z.ls.drop j).headD []) = some ((numB 10 3 (Lib.trimSuffix (nxV (z.ls.drop j) dotB) moreB)).getD 0) := by rw [hdq, if_pos h155a]; exact opt_some h155b
      generalize ((numB 10 3 (Lib.trimSuffix (nxV (z.ls.drop j) dotB) moreB)).getD 0) = N at hds hN9 h155c h155e ⊢
      clear hdq
      have hlp : 0 < l.length := by omega
      have hgo := joinF_go (b := l.map pfl) (fr := fr) (n := N) (fun e => by have := map_nil_iff.1 e; omega) (by omega) (by rw [lst_fr hlp, (hLF hlp).1]; omega)
      rw [lst_fr hlp, (hLF hlp).1] at hgo
      obtain ⟨hLl, hLc, hLq⟩ := hLF hlp
      refine kgx ?_
      refine sr 2 ?_
      refine sgx ?_
      refine sr 2 ?_
      refine s1 (y_len_slice rfl rfl Tryz.underlying22) ?_
      refine s1 (y_bin rfl rfl rfl (fun hg => b_subv (((l.length - 1 : Nat) : Int)) (by omega) (by omega))) ?_
      refine s1 (y_indexOwn 6 rfl rfl rfl rfl Tryz.underlying22 sz36 (fun hg => by first | omega | (have hg2 := List.length_pos_iff.2 (show ¬ l = [] from fun h0 => by subst h0; simp at hg); omega))) ?_
      refine s1 (y_fieldOwn 6 rfl rfl rfl (fun hg => by first | omega | (have hg2 := List.length_pos_iff.2 (show ¬ l = [] from fun h0 => by subst h0; simp at hg); omega)) fa36_2) ?_
      refine s1 (y_load_cellOwn 6 rfl rfl rfl (fun hg => by first | omega | (have hg2 := List.length_pos_iff.2 (show ¬ l = [] from fun h0 => by subst h0; simp at hg); omega)) (fun hg => flat_at (enc := Flt.enc) (size := 3) (fun _ => rfl) (lst_at (by first | omega | (have hg2 := List.length_pos_iff.2 (show ¬ l = [] from fun h0 => by subst h0; simp at hg); omega))) 2 (.slice (lstF l).fr.A (lstF l).fr.q (lstF l).fr.c) rfl) Tryz.underlying32 rfl) ?_
      refine sr 1 ?_
      refine sgs ?_
      refine T_drawsTail 8 (by kernel_rfl) (by kernel_rfl) ?_
      refine d1 (yF fa36_2) ?_
      refine d1 (yL 11 Tryz.underlying32) ?_
      refine d1 (y_move rfl rfl) ?_
      refine d1 (y_move rfl rfl) ?_
      refine d1 (y_len_slice rfl rfl Tryz.underlying32) ?_
      refine d1 (y_move rfl rfl) ?_
      refine d1 (y_bin rfl rfl rfl (fun hg => b_subv ((((lstF l).fr.q - N : Nat) : Int)) (by omega) (by omega))) ?_
      refine d1 (y_slice rfl rfl Tryz.underlying32 sz45 (.inr ⟨_, _, rfl, rfl⟩) (.inl ⟨rfl, rfl⟩) (by omega) (Nat.le_refl _) (hLF (by omega)).2.1) ?_
      refine D_tail ?_
      obtain ⟨i173, hi173, hz173, hs173, hy173⟩ := info_parts inf45
      refine S_appendG 173 951 (news := (((lstF l).fr.l.drop ((lstF l).fr.q - N)).take ((lstF l).fr.q - ((lstF l).fr.q - N))).flatMap Frm.enc) rfl rfl rfl rfl rfl rfl rfl (fun w hM => (((hp4 _ (lst_mem (by omega))).at hM 900 rfl).ok.t.cut (lo := (lstF l).fr.q - N) (hi := (lstF l).fr.q) (c := (lstF l).fr.c) (fun _ => rfl) (by omega) (Nat.le_refl _) (hLF (by omega)).2.1).rd) Tryz.underlying32 hi173 hz173 hs173 hy173 rfl (by decide) (allOne_of (fun u hu => by obtain ⟨a, _, ha⟩ := List.mem_flatMap.1 hu; simp [Frm.enc] at ha; rcases ha with rfl | rfl | rfl | rfl | rfl | rfl <;> rfl)) ?_ ?_ ((fr ++ (lstF l).fr.l.drop ((lstF l).fr.q - N)).length) ((fr ++ (lstF l).fr.l.drop ((lstF l).fr.q - N)).flatMap Frm.enc) ?_ ?_ ?_
      · (simp only [maxLen]; omega)
      · omega
      · rw [List.length_append, List.length_drop, (hLF (by omega)).1]
      · rw [List.flatMap_append, List.take_of_length_le (by rw [List.length_drop, (hLF (by omega)).1]; omega)]
      intro A173 c173
      refine s1 (yF fa36_2) ?_
      refine S_store 11 rfl rfl rfl rfl rfl rfl sz32 rfl rfl ?_
      refine sgx ?_
      refine sr 1 ?_
      refine s1 (yF fa36_2) ?_
      refine s1 (yL 11 Tryz.underlying32) ?_
      refine s1 (y_call rfl rfl rfl cf125 (fun _ w hM => SharedOf_any _ _ _ _ _ _ _ _ w ((hp4 _ (lst_mem (by omega))).at hM 900 rfl).ok.t (owned_T (enc := Frm.enc) hM rfl (i := 951) rfl) (by omega) (by rw [List.length_append, List.length_drop]; omega))) ?_
      refine sr 2 ?_
      refine sgo ?_
      refine T_cond rfl ?_ ?_ <;> intro h180
      · try simp only [nrm] at h180
        rw [if_neg (by omega)] at hgo
        have hr := hfq.trans (restQ_bad hdd (by rw [hds]; exact hgo))
        have hbad : innerQ z.tl (z.q + 1) [] z.ls 0 = .inr (j + 1) := by rw [hin, hk]; exact innerQ_bad hr
        refine tx ?_
        refine sr 3 ?_
        refine sgo ?_
        refine tr2 hRb fun w hM => ?_
        rw [hbad]
        have hM := hM.add 6 (flI none 0 []) rfl (World.ownsRow_nil _ _ _ _)
        exact ⟨⟨none, 0, [], rs2⟩, by rw [inX_r]; rfl, ⟨hp3, fun f hf => (by cases hf), Nat.zero_le _, fun y hy => (by rw [hbad] at hy; cases hy)⟩, hM.keep (ks := [(0, 999)]) (by repeat (first | exact kl_rest (by assumption) rfl | (apply kl_in; focus rfl))) _ ⟨rfl, rfl, trivial⟩⟩
      try simp only [nrm] at h180
      rw [if_pos (by omega)] at hgo
      have hr := hfq.trans (restQ_dots hdd (by rw [hds]; exact hgo))
      rw [List.tail_drop] at hr
      refine kgr ?_
      refine sr 1 ?_
      refine s1 (y_bin rfl rfl rfl (fun hg => b_addv (((j + 1 : Nat) : Int)) (by omega) (by omega))) ?_
      refine sr 1 ?_
      refine S_nil (nK5 (kf := [(4, 5), (7, 7), (14, 24), (67, 181)]) (kl := [(4, 5), (7, 7), (11, 11), (14, 24), (67, 181), (951, 951)]) (j + 1) A173 c173 (fr ++ (lstF l).fr.l.drop ((lstF l).fr.q - N)) true ?_ ?_ ?_ ?_)
      · omega
      · exact ⟨by omega, by omega, by rw [List.length_append, List.length_drop]; omega, fun h => (by cases h), fun h => (by cases h), fun _ => hr⟩
      · exact ⟨rfl, by rw [gn_t]; rfl, trivial⟩
      · exact ⟨rfl, rfl, trivial⟩
    have hstop : m = false → begL (z.ls.drop j) atB = false ∧ begL (z.ls.drop j) dotB = false := fun hm => by
      subst hm
      rw [begL_eq, begL_eq]
      by_cases hj : j < z.ls.length
      · rw [decide_eq_true (show (j : Int) < (z.q : Int) by omega)] at h81
        simpa [hj] using h81
      · simp [hj]
    refine egs ?_
    refine tx ?_
    refine sr 2 ?_
    refine s1 (y_len_slice rfl rfl Tryz.underlying53) ?_
    refine sr 2 ?_
    refine sg rfl (y_move rfl rfl) ?_
    refine sg rfl (y_as (v' := .bool (!m)) (by exact gn_lt (by omega)) (y_bin rfl rfl rfl (fun _ => b_lss))) ?_
    refine s1 (y_and rfl rfl rfl) ?_
    refine sr 1 ?_
    refine sg rfl (y_move rfl rfl) ?_
    refine sg rfl (y_call rfl rfl rfl cf200 (fun _ w _ => behind_any _ w)) ?_
    refine s1 (y_and rfl rfl rfl) ?_
    refine sgo ?_
    refine T_cond rfl ?_ ?_ <;> intro h193
    · skip
      simp only [Bool.and_eq_true, Bool.or_eq_true, Bool.not_eq_true', decide_eq_true_eq] at h193
      obtain ⟨⟨h193a, h193m⟩, h193b⟩ := h193
      subst h193m
      have hst := hstop rfl
      have hfq := (faultQ_yes (tl := z.tl) (i := i) hkt).trans (by rw [List.drop_drop, hq5 rfl, frsQ_end hst.1])
      have hr := hfq.trans (restQ_tail hst.2 ⟨List.drop_eq_nil_of_le (by omega), h193b⟩)
      have hbad : innerQ z.tl (z.q + 1) [] z.ls 0 = .inr (j + 1) := by rw [hin, hk]; exact innerQ_bad hr
      refine tx ?_
      refine sr 3 ?_
      refine sgo ?_
      refine tr2 hRb fun w hM => ?_
      rw [hbad]
      have hM := hM.add 6 (flI none 0 []) rfl (World.ownsRow_nil _ _ _ _)
      exact ⟨⟨none, 0, [], rs2⟩, by rw [inX_r]; rfl, ⟨hp3, fun f hf => (by cases hf), Nat.zero_le _, fun y hy => (by rw [hbad] at hy; cases hy)⟩, hM.keep (ks := [(0, 999)]) (by repeat (first | exact kl_rest (by assumption) rfl | (apply kl_in; focus rfl))) _ ⟨rfl, rfl, trivial⟩⟩
    have hnt : m = false → ¬ (z.ls.drop j = [] ∧ (Lib.hasPrefix z.tl atB = true ∨ Lib.hasPrefix z.tl dotB = true)) := fun hm => by
      subst hm
      rintro ⟨h1, h2⟩
      have h3 := List.drop_eq_nil_iff.1 h1
      rw [decide_eq_true (show (j : Int) = (z.q : Int) by omega)] at h193
      rcases h2 with h2 | h2 <;> rw [h2] at h193 <;> simp at h193
    refine kgs ?_
    refine tx ?_
    refine sr 1 ?_
    refine s1 (y_as (v' := .bool (!m)) (by exact gn_lt (by omega)) (y_bin rfl rfl rfl (fun _ => b_lss))) ?_
    refine sr 1 ?_
    refine sg rfl (y_move rfl rfl) ?_
    refine sg rfl (y_len_slice rfl rfl Tryz.underlying22) ?_
    refine sg rfl (y_bin rfl rfl rfl (fun _ => b_gtr)) ?_
    refine s1 (y_and rfl rfl rfl) ?_
    refine sgo ?_
    refine T_mid (kf := [(4, 5), (25, 25), (202, 221)]) (kl := [(4, 5), (25, 25), (202, 221)]) (fun g2 : PLift (faultQ (l.map pfl) z.tl i (z.ls.drop i) = .inr (⟨x.1, x.2, fr⟩, z.ls.drop j, j)) => []) (fun g2 : PLift (faultQ (l.map pfl) z.tl i (z.ls.drop i) = .inr (⟨x.1, x.2, fr⟩, z.ls.drop j, j)) => []) (by repeat (first | exact kf_nil | (apply kf_in; focus rfl) | (apply kf_out; focus rfl))) (by repeat (first | exact kl_nil | exact kl_rest (by assumption) rfl | (apply kl_in; focus rfl) | (apply kl_out; focus rfl))) ?_ ?_
    · skip
      refine T_cond rfl ?_ ?_ <;> intro h201
      · skip
        simp only [Bool.and_eq_true, Bool.not_eq_true', decide_eq_true_eq] at h201
        obtain ⟨h201m, h201l⟩ := h201
        subst h201m
        have hst := hstop rfl
        have hlp : 0 < l.length := by omega
        obtain ⟨hLl, hLc, hLq⟩ := hLF hlp
        have hsl := shQ_le (lstF l).fr.l fr
        have hfq := (faultQ_yes (tl := z.tl) (i := i) hkt).trans (by rw [List.drop_drop, hq5 rfl, frsQ_end hst.1])
        refine T_seq ?_
        refine T_draws (by kernel_rfl) (by kernel_rfl) ?_
        refine d1 (y_move rfl rfl) ?_
        refine d1 (y_move rfl rfl) ?_
        refine d1 (y_len_slice rfl rfl Tryz.underlying22) ?_
        refine d1 (y_bin rfl rfl rfl (fun hg => b_subv (((l.length - 1 : Nat) : Int)) (by omega) (by omega))) ?_
        refine d1 (y_indexOwn 6 rfl rfl rfl rfl Tryz.underlying22 sz36 (fun hg => by first | omega | (have hg2 := List.length_pos_iff.2 (show ¬ l = [] from fun h0 => by subst h0; simp at hg); omega))) ?_
        refine d1 (y_fieldOwn 6 rfl rfl rfl (fun hg => by first | omega | (have hg2 := List.length_pos_iff.2 (show ¬ l = [] from fun h0 => by subst h0; simp at hg); omega)) fa36_2) ?_
        refine d1 (y_load_cellOwn 6 rfl rfl rfl (fun hg => by first | omega | (have hg2 := List.length_pos_iff.2 (show ¬ l = [] from fun h0 => by subst h0; simp at hg); omega)) (fun hg => flat_at (enc := Flt.enc) (size := 3) (fun _ => rfl) (lst_at (by first | omega | (have hg2 := List.length_pos_iff.2 (show ¬ l = [] from fun h0 => by subst h0; simp at hg); omega))) 2 (.slice (lstF l).fr.A (lstF l).fr.q (lstF l).fr.c) rfl) Tryz.underlying32 rfl) ?_
        refine d1 (yF fa36_2) ?_
        refine d1 (yL 11 Tryz.underlying32) ?_
        refine d1 (y_call rfl rfl rfl cf125 (fun _ w hM => SharedOf_any _ _ _ _ _ _ _ _ w ((hp4 _ (lst_mem (by omega))).at hM 900 rfl).ok.t (owned_T (enc := Frm.enc) hM rfl (i := 951) rfl) (by omega) (by omega))) ?_
        refine d1 (y_assign rfl rfl) ?_
        refine dgx ?_
        refine sr 2 ?_
        refine sgo ?_
        refine T_cond rfl ?_ ?_ <;> intro h213
        · try simp only [nrm] at h213
          have hr := hfq.trans (restQ_sh hst.2 (hnt rfl) ⟨fun e => by have := map_nil_iff.1 e; omega, by rw [lst_fr hlp]; omega⟩)
          rw [lst_fr hlp] at hr
          have hbad : innerQ z.tl (z.q + 1) [] z.ls 0 = .inr (i + 2 + fr.length - shQ (lstF l).fr.l fr) := by rw [hin, hk]; exact innerQ_bad hr
          have hxi : inX (.inr (i + 2 + fr.length - shQ (lstF l).fr.l fr)) = ((i + 1 + fr.length - shQ (lstF l).fr.l fr : Nat) : Int) := by show ((i + 2 + fr.length - shQ (lstF l).fr.l fr : Nat) : Int) - 1 = _; omega
          refine T_seq ?_
          refine T_draws (by kernel_rfl) (by kernel_rfl) ?_
          refine d1 (y_move rfl rfl) ?_
          refine d1 (y_bin rfl rfl rfl (fun hg => b_addv (((i + 1 : Nat) : Int)) (by omega) (by omega))) ?_
          refine d1 (yF fa36_2) ?_
          refine d1 (yL 11 Tryz.underlying32) ?_
          refine d1 (y_len_slice rfl rfl Tryz.underlying32) ?_
          refine d1 (y_bin rfl rfl rfl (fun hg => b_addv (((i + 1 + fr.length : Nat) : Int)) (by omega) (by omega))) ?_
          refine d1 (y_move rfl rfl) ?_
          refine d1 (y_bin rfl rfl rfl (fun hg => b_subv (((i + 1 + fr.length - shQ (lstF l).fr.l fr : Nat) : Int)) (by omega) (by omega))) ?_
          refine d1 (y_assign rfl rfl) ?_
          refine d1 (y_assign rfl rfl) ?_
          refine dgo ?_
          refine tr2 hRb fun w hM => ?_
          rw [hbad]
          have hM := hM.add 6 (flI none 0 []) rfl (World.ownsRow_nil _ _ _ _)
          exact ⟨⟨none, 0, [], rs2⟩, by rw [hxi]; rfl, ⟨hp3, fun f hf => (by cases hf), Nat.zero_le _, fun y hy => (by rw [hbad] at hy; cases hy)⟩, hM.keep (ks := [(0, 999)]) (by repeat (first | exact kl_rest (by assumption) rfl | (apply kl_in; focus rfl))) _ ⟨rfl, rfl, trivial⟩⟩
        try simp only [nrm] at h213
        refine T_skip (mid_end (kf := [(4, 5), (25, 25), (202, 221)]) (kl := [(4, 5), (25, 25), (202, 221)]) (⟨hfq.trans (restQ_go hst.2 (hnt rfl) fun h => by rw [lst_fr hlp] at h; omega)⟩) (by repeat (first | exact kf_nil | (apply kf_in; focus rfl) | (apply kf_out; focus rfl))) (by repeat (first | exact kl_nil | exact kl_rest (by assumption) rfl | (apply kl_in; focus rfl) | (apply kl_out; focus rfl))) ?_ ?_)
        · exact trivial
        · exact trivial
      have hfq2 : faultQ (l.map pfl) z.tl i (z.ls.drop i) = .inr (⟨x.1, x.2, fr⟩, z.ls.drop j, j) := by
        cases m with
        | true => exact hq6 rfl
        | false =>
          have hst := hstop rfl
          have hfq := (faultQ_yes (tl := z.tl) (i := i) hkt).trans (by rw [List.drop_drop, hq5 rfl, frsQ_end hst.1])
          exact hfq.trans (restQ_go hst.2 (hnt rfl) fun h => h.1 (map_nil_iff.2 (by simp only [Bool.not_false, Bool.true_and, decide_eq_false_iff_not] at h201; omega)))
      refine T_skip (mid_end (kf := [(4, 5), (25, 25), (202, 221)]) (kl := [(4, 5), (25, 25), (202, 221)]) (⟨hfq2⟩) (by repeat (first | exact kf_nil | (apply kf_in; focus rfl) | (apply kf_out; focus rfl))) (by repeat (first | exact kl_nil | exact kl_rest (by assumption) rfl | (apply kl_in; focus rfl) | (apply kl_out; focus rfl))) ?_ ?_)
      · exact trivial
      · exact trivial
    intro g2
    refine sgr ?_
    refine sr 1 ?_
    refine s1 (yA 11 rfl Tryz.underlying36 sz36) ?_
    refine S_buildSlice 224 224 rfl rfl rfl rfl rfl Tryz.underlying22 inf36 rfl (by decide) (by decide) rfl rfl (by decide) rfl (_) rfl ?_
    intro b224
    refine S_bank [(951, 951), (900, 900)] 900 951 rfl rfl rfl rfl (by repeat (first | exact kl_nil | exact kl_rest (by assumption) rfl | (apply kl_in; focus rfl) | (apply kl_out; focus rfl))) ?_
    obtain ⟨i225, hi225, hz225, hs225, hy225⟩ := info_parts inf36
    refine S_append 225 6 224 rfl rfl rfl rfl rfl rfl rfl rfl Tryz.underlying22 hi225 hz225 hs225 hy225 rfl (by decide) (by decide) rfl ?_ ?_ (_) ((l ++ [(⟨x.1, x.2, ⟨B, fr.length, d, fr⟩⟩ : Flt)]).flatMap Flt.enc) rfl ?_ ?_
    · (simp only [maxLen]; omega)
    · omega
    · rw [List.flatMap_append]; rfl
    intro A225 c225
    refine sr 1 ?_
    refine S_nil (nK5 (kf := [(4, 225)]) (kl := [(4, 225), (900, 900)]) j A225 c225 (l ++ [(⟨x.1, x.2, ⟨B, fr.length, d, fr⟩⟩ : Flt)]) (rs2 ++ [(⟨45, 6, .slice B fr.length d, fr.length, fr.flatMap Frm.enc⟩ : Row)]) ?_ ?_ ?_ ?_)
    · omega
    · exact ⟨by omega, by rw [List.length_append]; show l.length + 1 ≤ _; omega, fun r hr => List.mem_append_left _ (hp3 r hr), fun f hf => by
        rcases List.mem_append.1 hf with h | h
        · exact (hp4 f h).app
        · rw [List.mem_singleton.1 h]
          exact ((Sees.row (List.mem_append_right _ (List.mem_singleton.2 rfl)) rfl).map fun w h => ⟨h, by show fr.length ≤ 2000000; omega⟩), fun hc => (by
        have hdr : z.ls.drop j ≠ [] := fun e => by have h1 := List.drop_eq_nil_iff.1 e; rw [List.length_append] at hc; have h2 : [(⟨x.1, x.2, ⟨B, fr.length, d, fr⟩⟩ : Flt)].length = 1 := rfl; omega
        rw [hin, hk, List.map_append, List.length_append, show z.q + 1 - (l.length + [(⟨x.1, x.2, ⟨B, fr.length, d, fr⟩⟩ : Flt)].length) = k from by (show z.q + 1 - (l.length + 1) = k); omega]
        exact innerQ_go g2.down hdr), fun hc => (by
        have hdr : z.ls.drop j = [] := List.drop_eq_nil_of_le (by omega)
        rw [hin, hk, List.map_append]
        exact innerQ_end (g2.down.trans (by rw [hdr]; rfl)))⟩
    · exact ⟨rfl, by rw [List.length_append]; rfl, trivial⟩
    · exact ⟨rfl, by rw [flI_snoc]; rfl, trivial⟩
  try simp only [nrm] at h34
  refine egx ?_
  refine sr 3 ?_
  refine sgo ?_
  refine tr2 hRb fun w hM => ?_
  have hfin := hp6 (by omega)
  rw [hfin]
  exact ⟨⟨A, c, l, rs2⟩, rfl, ⟨hp3, hp4, by show l.length ≤ _; omega, fun y2 hy2 => (by rw [hfin] at hy2; exact Sum.inl.inj hy2)⟩, hM.keep (ks := [(0, 999)]) (by repeat (first | exact kl_rest (by assumption) rfl | (apply kl_in; focus rfl))) _ ⟨rfl, rfl, trivial⟩⟩
end Go.Proofs.YtgbldojgbpgjbaaGreatDoor
end
section
namespace Go.Proofs.YtgbldojgbpgjbaaGreatDoor
set_option linter.unusedSimpArgs false
set_option linter.unusedVariables false
set_option maxRecDepth 20000
open Go.RowKit Go.Eng
theorem in_out (n lo hi : Int) : (!(decide (lo ≤ n) && decide (n ≤ hi))) = (decide (n < lo) || decide (hi < n)) := by
  rw [Bool.eq_iff_iff]; simp only [Bool.not_eq_true', Bool.and_eq_false_iff, decide_eq_false_iff_not, Bool.or_eq_true, decide_eq_true_eq]; omega
theorem rinB_any (n lo hi : Int) (w : World) : Calls Tryz.prog 134 #[.int .i64 n, .int .i64 lo, .int .i64 hi] w fun e w' => e = .returned (.bool (decide (lo ≤ n) && decide (n ≤ hi))) ∧ Below w.heap.size w w' := by
  refine enter_args (args := [.int .i64 n, .int .i64 lo, .int .i64 hi]) (F := _) Tryz.func134 rfl Tryz.ntmps134 rfl rfl ?_
  intro Rb hRb hRn
  refine tx ?_
  refine sr 1 ?_
  refine sgx ?_
  refine sr 4 ?_
  refine sg rfl (y_move rfl rfl) ?_
  refine sg rfl (y_move rfl rfl) ?_
  refine sg rfl (y_bin rfl rfl rfl (fun _ => b_leq)) ?_
  refine s1 (y_and rfl rfl rfl) ?_
  refine sr 1 ?_
  refine sgo ?_
  refine tr1 hRb fun w hM => ?_
  exact ⟨rfl, hM.below⟩
theorem FrameError_any (x : Frm) (hl1 : x.m.length ≤ 4611686018427387904) (hl2 : x.f.length ≤ 4611686018427387904) (hl3 : x.fi.length ≤ 4611686018427387904) (w : World) :
    Calls Tryz.prog 287 #[x.val] w fun e w' => e = .returned (.int .i64 (frmNo x)) ∧ Below w.heap.size w w' := by
  obtain ⟨m, f, fi, ln, ad, own⟩ := x
  simp only at hl1 hl2 hl3
  have hwn := wordsNo_any m f fi
  refine enter_args (args := [.agg #[str m, str f, str fi, .int .i64 ln, .int .i64 ad, .bool own]]) (F := _) Tryz.func287 rfl Tryz.ntmps287 rfl rfl ?_
  intro Rb hRb hRn
  refine tx ?_
  refine S_box 1 1 rfl rfl rfl rfl rfl ?_
  intro b1
  refine sr 1 ?_
  refine sgx ?_
  refine s1 (yF fa45_0) ?_
  refine s1 (yL 1 Tryz.underlying9) ?_
  refine s1 (yF fa45_1) ?_
  refine s1 (yL 1 Tryz.underlying9) ?_
  refine s1 (yF fa45_2) ?_
  refine s1 (yL 1 Tryz.underlying9) ?_
  refine S_buildSlice 14 14 rfl rfl rfl rfl rfl Tryz.underlying53 inf9 rfl (by decide) (by decide) rfl rfl (by decide) rfl (_) rfl ?_
  intro b14
  refine sr 1 ?_
  refine sgs ?_
  refine tx ?_
  refine sr 1 ?_
  refine s1 (y_len_slice rfl rfl Tryz.underlying53) ?_
  refine sr 1 ?_
  refine sgo ?_
  refine T_block ?_
  refine lK1 (kf := [(2, 2), (5, 5), (17, 24)]) (kl := [(2, 2), (5, 5), (17, 24)]) (fun (i : Nat) => [(17, true, .int .i64 (i : Int))]) (fun (i : Nat) => []) (fun (i : Nat) => i ≤ 3 ∧ [m, f, fi].any bigW = ([m, f, fi].drop i).any bigW) (fun (i : Nat) => 3 - i) 0 ?_ ?_ ?_ ?_
  · exact ⟨by omega, rfl⟩
  · exact ⟨rfl, trivial⟩
  · exact trivial
  rintro i ⟨hp1, hp2⟩
  have hl4 := three_len i hl1 hl2 hl3
  refine tx ?_
  refine sr 1 ?_
  refine sgs ?_
  refine T_cond rfl ?_ ?_ <;> intro h18
  · try simp only [nrm] at h18
    refine kgs ?_
    refine T_block ?_
    refine tx ?_
    refine s1 (y_indexOwn 14 rfl rfl rfl rfl Tryz.underlying53 sz9 (fun _ => by omega)) ?_
    refine s1 (y_load_own 14 rfl rfl rfl (fun _ => by omega) (fun _ => three m f fi (by omega)) Tryz.underlying9 rfl) ?_
    refine sr 1 ?_
    refine sgx ?_
    refine sr 1 ?_
    refine s1 (y_len_str rfl rfl Tryz.underlying9) ?_
    refine s1 (y_as (v' := .bool (bigW ([m, f, fi].getD i []))) (by exact rfl) (y_bin rfl rfl rfl (fun _ => b_gtr))) ?_
    refine sgo ?_
    refine T_cond rfl ?_ ?_ <;> intro h23
    · skip
      refine tx ?_
      refine sr 1 ?_
      refine sgo ?_
      refine tr1 hRb fun w hM => ?_
      rw [if_pos (by rw [hp2, three_drop _ _ _ (by omega), any_t h23])] at hwn
      exact ⟨by rw [frmNo_words (x := ⟨m, f, fi, ln, ad, own⟩) hwn (by decide)], hM.below⟩
    refine kgr ?_
    refine s1 (y_bin rfl rfl rfl (fun hg => b_add (by omega))) ?_
    refine sr 1 ?_
    refine S_nil (nK1 (kf := [(2, 2), (5, 5), (17, 24)]) (kl := [(2, 2), (5, 5), (17, 24)]) (i + 1) ?_ ?_ ?_ ?_)
    · omega
    · exact ⟨by omega, by rw [hp2, three_drop _ _ _ (by omega), any_f h23]⟩
    · exact ⟨rfl, trivial⟩
    · exact trivial
  try simp only [nrm] at h18
  have hb0 : ¬ [m, f, fi].any bigW = true := by rw [hp2, List.drop_eq_nil_of_le (by simp; omega)]; simp
  refine egs ?_
  refine tx ?_
  refine sr 1 ?_
  refine s1 (y_len_slice rfl rfl Tryz.underlying53) ?_
  refine sr 1 ?_
  refine sgo ?_
  refine T_block ?_
  refine lK1 (kf := [(2, 2), (7, 7), (27, 34)]) (kl := [(2, 2), (7, 7), (27, 34)]) (fun (i : Nat) => [(27, true, .int .i64 (i : Int))]) (fun (i : Nat) => []) (fun (i : Nat) => i ≤ 3 ∧ [m, f, fi].any badW = ([m, f, fi].drop i).any badW) (fun (i : Nat) => 3 - i) 0 ?_ ?_ ?_ ?_
  · exact ⟨by omega, rfl⟩
  · exact ⟨rfl, trivial⟩
  · exact trivial
  rintro i ⟨hq1, hq2⟩
  refine tx ?_
  refine sr 1 ?_
  refine sgs ?_
  refine T_cond rfl ?_ ?_ <;> intro h28
  · try simp only [nrm] at h28
    refine kgs ?_
    refine T_block ?_
    refine tx ?_
    refine s1 (y_indexOwn 14 rfl rfl rfl rfl Tryz.underlying53 sz9 (fun _ => by omega)) ?_
    refine s1 (y_load_own 14 rfl rfl rfl (fun _ => by omega) (fun _ => three m f fi (by omega)) Tryz.underlying9 rfl) ?_
    refine sr 1 ?_
    refine sgx ?_
    refine sr 1 ?_
    refine s1 (y_call rfl rfl rfl cf255 (fun _ w _ => bytesW_any _ marks (three_len _ hl1 hl2 hl3) w)) ?_
    refine s1 (y_as (v' := .bool (badW ([m, f, fi].getD i []))) (by exact rfl) (y_not rfl rfl)) ?_
    refine sgo ?_
    refine T_cond rfl ?_ ?_ <;> intro h33
    · skip
      refine tx ?_
      refine sr 1 ?_
      refine sgo ?_
      refine tr1 hRb fun w hM => ?_
      rw [if_neg hb0, if_pos (by rw [hq2, three_drop _ _ _ (by omega), any_t h33])] at hwn
      exact ⟨by rw [frmNo_words (x := ⟨m, f, fi, ln, ad, own⟩) hwn (by decide)], hM.below⟩
    refine kgr ?_
    refine s1 (y_bin rfl rfl rfl (fun hg => b_add (by omega))) ?_
    refine sr 1 ?_
    refine S_nil (nK1 (kf := [(2, 2), (7, 7), (27, 34)]) (kl := [(2, 2), (7, 7), (27, 34)]) (i + 1) ?_ ?_ ?_ ?_)
    · omega
    · exact ⟨by omega, by rw [hq2, three_drop _ _ _ (by omega), any_f h33]⟩
    · exact ⟨rfl, trivial⟩
    · exact trivial
  try simp only [nrm] at h28
  have hb1 : ¬ [m, f, fi].any badW = true := by rw [hq2, List.drop_eq_nil_of_le (by simp; omega)]; simp
  rw [if_neg hb0, if_neg hb1] at hwn
  refine egs ?_
  refine T_block ?_
  refine tx ?_
  refine s1 (yF fa45_1) ?_
  refine s1 (yL 1 Tryz.underlying9) ?_
  refine s1 (y_bin rfl rfl rfl (fun _ => b_eqls)) ?_
  refine sr 1 ?_
  refine sgo ?_
  refine T_cond rfl ?_ ?_ <;> intro h35
  · skip
    refine tx ?_
    refine sr 1 ?_
    refine sgo ?_
    refine tr1 hRb fun w hM => ?_
    rw [if_pos (by simpa using h35)] at hwn
    exact ⟨by rw [frmNo_words (x := ⟨m, f, fi, ln, ad, own⟩) hwn (by decide)], hM.below⟩
  refine tx ?_
  refine s1 (yF fa45_3) ?_
  refine s1 (yL 1 Tryz.underlying3) ?_
  refine s1 (y_call rfl rfl rfl cf134 (fun _ w _ => rinB_any _ _ _ w)) ?_
  refine sr 2 ?_
  refine sg rfl (yF fa45_4) ?_
  refine sg rfl (yL 1 Tryz.underlying3) ?_
  refine sg rfl (y_call rfl rfl rfl cf134 (fun _ w _ => rinB_any _ _ _ w)) ?_
  refine sg rfl (y_not rfl rfl) ?_
  refine s1 (y_or rfl rfl rfl) ?_
  refine s1 (y_as (v' := .bool (decide (ln < 0) || decide (9999999 < ln) || (decide (ad < -1) || decide (281474976710655 < ad)))) (by exact congrArg Value.bool (by rw [in_out, in_out])) (y_assign rfl rfl)) ?_
  refine sgo ?_
  refine T_cond rfl ?_ ?_ <;> intro h39
  · skip
    refine tx ?_
    refine sr 1 ?_
    refine sgo ?_
    refine tr1 hRb fun w hM => ?_
    rw [if_neg (by simpa using h35)] at hwn
    exact ⟨by rw [frmNo_rest (x := ⟨m, f, fi, ln, ad, own⟩) hwn, if_t h39], hM.below⟩
  refine tx ?_
  refine s1 (yF fa45_3) ?_
  refine s1 (yL 1 Tryz.underlying3) ?_
  refine sr 2 ?_
  refine sg rfl (yF fa45_2) ?_
  refine sg rfl (yL 1 Tryz.underlying9) ?_
  refine sg rfl (y_bin rfl rfl rfl (fun _ => b_eqls)) ?_
  refine s1 (y_and rfl rfl rfl) ?_
  refine sr 1 ?_
  refine sgo ?_
  refine T_cond rfl ?_ ?_ <;> intro h50
  · skip
    refine tx ?_
    refine sr 1 ?_
    refine sgo ?_
    refine tr1 hRb fun w hM => ?_
    rw [if_neg (by simpa using h35)] at hwn
    exact ⟨by rw [frmNo_rest (x := ⟨m, f, fi, ln, ad, own⟩) hwn, if_f h39, if_pos (by simpa using h50)], hM.below⟩
  refine kgx ?_
  refine sr 1 ?_
  refine sgo ?_
  refine tr1 hRb fun w hM => ?_
  rw [if_neg (by simpa using h35)] at hwn
  exact ⟨by rw [frmNo_rest (x := ⟨m, f, fi, ln, ad, own⟩) hwn, if_f h39, if_neg (by simpa using h50)], hM.below⟩
theorem FramesError_any (l : Sl Frm) (w : World) (hl : FrmsOk w l) :
    Calls Tryz.prog 256 #[.slice l.A l.q l.c] w fun e w' => e = .returned (.int .i64 (framesNo l)) ∧ Below w.heap.size w w' := by
  have ht := hl.ok.t
  have hq := hl.q
  refine enter_args (args := [.slice l.A l.q l.c]) (F := _) Tryz.func256 rfl Tryz.ntmps256 rfl rfl ?_
  intro Rb hRb hRn
  refine tx ?_
  refine sr 1 ?_
  refine sgs ?_
  refine tx ?_
  refine sr 1 ?_
  refine s1 (y_len_slice rfl rfl Tryz.underlying32) ?_
  refine sr 1 ?_
  refine sgo ?_
  refine T_cond rfl ?_ ?_ <;> intro h8
  · try simp only [nrm] at h8
    refine tx ?_
    refine sr 1 ?_
    refine sgo ?_
    refine tr1 hRb fun w hM => ?_
    exact ⟨by rw [framesNo, if_pos (by omega)], hM.below⟩
  try simp only [nrm] at h8
  refine kgs ?_
  refine tx ?_
  refine sr 1 ?_
  refine s1 (y_len_slice rfl rfl Tryz.underlying32) ?_
  refine sr 1 ?_
  refine sgo ?_
  refine T_block ?_
  refine lK1 (kf := [(2, 2), (4, 5), (11, 20)]) (kl := [(2, 2), (4, 5), (11, 20)]) (fun (i : Nat) => [(11, true, .int .i64 (i : Int))]) (fun (i : Nat) => []) (fun (i : Nat) => i ≤ l.q ∧ frmsNo l.l = frmsNo (l.l.drop i)) (fun (i : Nat) => l.q - i) 0 ?_ ?_ ?_ ?_
  · exact ⟨by omega, rfl⟩
  · exact ⟨rfl, trivial⟩
  · exact trivial
  rintro i ⟨hp1, hp2⟩
  refine tx ?_
  refine sr 1 ?_
  refine sgs ?_
  refine T_cond rfl ?_ ?_ <;> intro h12
  · try simp only [nrm] at h12
    obtain ⟨x, hx1, hx2⟩ := ht.at (i := i) (by omega)
    have hn := hl.n x (mem_at hx1)
    refine kgs ?_
    refine T_block ?_
    refine tx ?_
    refine s1 (y_indexAddr rfl rfl rfl Tryz.underlying32 sz45 (fun hg => ht.isSome (by omega)) (fun _ => by omega)) ?_
    refine s1 (y_loadT rfl rfl ht (fun _ => rfl) (fun _ => hx1) Tryz.underlying45 rfl sz45) ?_
    refine S_alloc 4 4 rfl rfl rfl rfl z45 ?_
    intro b4
    refine S_store 4 rfl rfl rfl rfl rfl rfl sz45 rfl rfl ?_
    refine sgx ?_
    refine s1 (yA 4 rfl Tryz.underlying45 sz45) ?_
    refine s1 (y_call rfl rfl rfl cf287 (fun _ w _ => FrameError_any x hn.1 hn.2.1 hn.2.2 w)) ?_
    refine sr 1 ?_
    refine sgx ?_
    refine sr 2 ?_
    refine sgo ?_
    refine T_cond rfl ?_ ?_ <;> intro h18
    · try simp only [nrm] at h18
      refine tx ?_
      refine sr 2 ?_
      refine sgo ?_
      refine tr1 hRb fun w hM => ?_
      exact ⟨by rw [framesNo, if_neg (by omega), hp2, hx2, frmsNo, if_pos h18], hM.below⟩
    try simp only [nrm] at h18
    refine kgr ?_
    refine s1 (y_bin rfl rfl rfl (fun hg => b_add (by omega))) ?_
    refine sr 1 ?_
    refine S_nil (nK1 (kf := [(2, 2), (4, 5), (11, 20)]) (kl := [(2, 2), (4, 5), (11, 20)]) (i + 1) ?_ ?_ ?_ ?_)
    · omega
    · exact ⟨by omega, by rw [hp2, hx2, frmsNo, if_neg (by simpa using h18)]⟩
    · exact ⟨rfl, trivial⟩
    · exact trivial
  try simp only [nrm] at h12
  refine egx ?_
  refine sr 1 ?_
  refine sgo ?_
  refine tr1 hRb fun w hM => ?_
  exact ⟨by rw [framesNo, if_neg (by omega), hp2, ht.end (by omega)]; rfl, hM.below⟩
theorem FaultError_any (f : Flt) (w : World) (hf : FltOk w f) :
    Calls Tryz.prog 205 #[f.val] w fun e w' => e = .returned (.int .i64 (fltNo f)) ∧ Below w.heap.size w w' := by
  have hk := hf.k
  have htl := hf.t
  refine enter_args (args := [.agg #[str f.k, str f.t, .slice f.fr.A f.fr.q f.fr.c]]) (F := _) Tryz.func205 rfl Tryz.ntmps205 rfl rfl ?_
  intro Rb hRb hRn
  refine tx ?_
  refine S_box 1 1 rfl rfl rfl rfl rfl ?_
  intro b1
  refine sr 1 ?_
  refine sgs ?_
  refine T_block ?_
  refine tx ?_
  refine s1 (yF fa36_0) ?_
  refine s1 (yL 1 Tryz.underlying9) ?_
  refine s1 (y_len_str rfl rfl Tryz.underlying9) ?_
  refine sr 2 ?_
  refine sgo ?_
  refine T_cond rfl ?_ ?_ <;> intro h4
  · try simp only [nrm] at h4
    refine tx ?_
    refine sr 1 ?_
    refine sgo ?_
    refine tr1 hRb fun w hM => ?_
    exact ⟨by rw [fltNo, if_pos (by omega)], hM.below⟩
  try simp only [nrm] at h4
  refine tx ?_
  refine s1 (yF fa36_0) ?_
  refine s1 (yL 1 Tryz.underlying9) ?_
  refine s1 (y_call rfl rfl rfl cf255 (fun _ w _ => bytesW_any _ [58] hk w)) ?_
  refine sr 2 ?_
  refine sgo ?_
  refine T_cond rfl ?_ ?_ <;> intro h9
  · skip
    have h9 : wordOk [58] f.k = false := by simpa using h9
    refine tx ?_
    refine sr 1 ?_
    refine sgo ?_
    refine tr1 hRb fun w hM => ?_
    exact ⟨by rw [fltNo, if_neg (by omega), if_pos h9], hM.below⟩
  have h9 : wordOk [58] f.k = true := by simpa using h9
  refine tx ?_
  refine s1 (yF fa36_0) ?_
  refine s1 (yL 1 Tryz.underlying9) ?_
  refine s1 (y_bin rfl rfl rfl (fun _ => b_eqls)) ?_
  refine sr 1 ?_
  refine sgo ?_
  refine T_cond rfl ?_ ?_ <;> intro h14
  · try simp only [nrm] at h14
    refine tx ?_
    refine sr 1 ?_
    refine sgo ?_
    refine tr1 hRb fun w hM => ?_
    exact ⟨by rw [fltNo, if_neg (by omega), if_neg (by rw [h9]; simp), if_pos h14], hM.below⟩
  try simp only [nrm] at h14
  refine tx ?_
  refine s1 (yF fa36_1) ?_
  refine s1 (yL 1 Tryz.underlying9) ?_
  refine s1 (y_len_str rfl rfl Tryz.underlying9) ?_
  refine sr 2 ?_
  refine sgo ?_
  refine T_cond rfl ?_ ?_ <;> intro h18
  · try simp only [nrm] at h18
    refine tx ?_
    refine sr 1 ?_
    refine sgo ?_
    refine tr1 hRb fun w hM => ?_
    exact ⟨by rw [fltNo_say (by omega) h9 h14 (k := 4) (by rw [sayNo, if_pos (by omega)]) (by decide)], hM.below⟩
  try simp only [nrm] at h18
  refine kgs ?_
  refine tx ?_
  refine s1 (yF fa36_1) ?_
  refine s1 (yL 1 Tryz.underlying9) ?_
  refine s1 (y_len_str rfl rfl Tryz.underlying9) ?_
  refine sr 1 ?_
  refine sgo ?_
  refine T_block ?_
  refine lK1 (kf := [(2, 3), (26, 41)]) (kl := [(2, 3), (26, 41)]) (fun (i : Nat) => [(26, true, .int .i64 (i : Int))]) (fun (i : Nat) => []) (fun (i : Nat) => i ≤ f.t.length ∧ f.t.any sayBad = (f.t.drop i).any sayBad) (fun (i : Nat) => f.t.length - i) 0 ?_ ?_ ?_ ?_
  · exact ⟨by omega, rfl⟩
  · exact ⟨rfl, trivial⟩
  · exact trivial
  rintro i ⟨hp1, hp2⟩
  refine tx ?_
  refine sr 1 ?_
  refine sgs ?_
  refine T_cond rfl ?_ ?_ <;> intro h27
  · try simp only [nrm] at h27
    refine kgs ?_
    refine T_block ?_
    refine tx ?_
    refine sr 2 ?_
    refine sgx ?_
    refine s1 (yF fa36_1) ?_
    refine s1 (yL 1 Tryz.underlying9) ?_
    refine sr 1 ?_
    refine s1 (y_index_str rfl rfl rfl Tryz.underlying9 (fun _ => by omega)) ?_
    refine sr 2 ?_
    refine sg rfl (yF fa36_1) ?_
    refine sg rfl (yL 1 Tryz.underlying9) ?_
    refine sg rfl (y_move rfl rfl) ?_
    refine sg rfl (y_index_str rfl rfl rfl Tryz.underlying9 (fun hg => by simp only [Bool.true_and, Bool.and_eq_true, beq_iff_eq, decide_eq_true_eq, decide_eq_false_iff_not, Int.not_lt, Int.not_le] at hg; omega)) ?_
    refine sg rfl (y_bin rfl rfl rfl (fun _ => b_eql)) ?_
    refine s1 (y_as (v' := .bool (sayBad (f.t.getD i 0))) (by exact rfl) (y_or rfl rfl rfl)) ?_
    refine sgo ?_
    refine T_cond rfl ?_ ?_ <;> intro h40
    · skip
      refine tx ?_
      refine sr 1 ?_
      refine sgo ?_
      refine tr1 hRb fun w hM => ?_
      exact ⟨by rw [fltNo_say (by omega) h9 h14 (k := 9) (by rw [sayNo, if_neg (by omega), if_pos (by rw [hp2, drop_str (by omega), any_t h40])]) (by decide)], hM.below⟩
    refine kgr ?_
    refine s1 (y_bin rfl rfl rfl (fun hg => b_add (by omega))) ?_
    refine sr 1 ?_
    refine S_nil (nK1 (kf := [(2, 3), (26, 41)]) (kl := [(2, 3), (26, 41)]) (i + 1) ?_ ?_ ?_ ?_)
    · omega
    · exact ⟨by omega, by rw [hp2, drop_str (by omega), any_f h40]⟩
    · exact ⟨rfl, trivial⟩
    · exact trivial
  try simp only [nrm] at h27
  refine egx ?_
  refine s1 (yF fa36_2) ?_
  refine s1 (yL 1 Tryz.underlying32) ?_
  refine s1 (y_call rfl rfl rfl cf256 (fun _ w hM => FramesError_any f.fr w (hf.fr.below hM.below))) ?_
  refine sr 1 ?_
  refine sgo ?_
  refine tr1 hRb fun w hM => ?_
  exact ⟨by rw [fltNo_frs (by omega) h9 h14 (by rw [sayNo, if_neg (by omega), if_neg (by rw [hp2, List.drop_eq_nil_of_le (by omega)]; simp)])], hM.below⟩
theorem FaultsError_any (l : Sl Flt) (w : World) (hl : FltsOk w l) :
    Calls Tryz.prog 139 #[.slice l.A l.q l.c] w fun e w' => e = .returned (.int .i64 (faultsNo l)) ∧ Below w.heap.size w w' := by
  have ht := hl.ok.t
  have hq := hl.q
  refine enter_args (args := [.slice l.A l.q l.c]) (F := _) Tryz.func139 rfl Tryz.ntmps139 rfl rfl ?_
  intro Rb hRb hRn
  refine tx ?_
  refine sr 1 ?_
  refine sgs ?_
  refine tx ?_
  refine sr 1 ?_
  refine s1 (y_len_slice rfl rfl Tryz.underlying22) ?_
  refine sr 1 ?_
  refine sgo ?_
  refine T_cond rfl ?_ ?_ <;> intro h8
  · try simp only [nrm] at h8
    refine tx ?_
    refine sr 1 ?_
    refine sgo ?_
    refine tr1 hRb fun w hM => ?_
    exact ⟨by rw [faultsNo, if_pos (by omega)], hM.below⟩
  try simp only [nrm] at h8
  refine kgs ?_
  refine tx ?_
  refine sr 1 ?_
  refine s1 (y_len_slice rfl rfl Tryz.underlying22) ?_
  refine sr 1 ?_
  refine sgo ?_
  refine T_cond rfl ?_ ?_ <;> intro h11
  · try simp only [nrm] at h11
    refine tx ?_
    refine sr 1 ?_
    refine sgo ?_
    refine tr1 hRb fun w hM => ?_
    exact ⟨by rw [faultsNo, if_neg (by omega), if_pos (by omega)], hM.below⟩
  try simp only [nrm] at h11
  refine kgs ?_
  refine tx ?_
  refine sr 1 ?_
  refine s1 (y_len_slice rfl rfl Tryz.underlying22) ?_
  refine sr 1 ?_
  refine sgo ?_
  refine T_block ?_
  refine lK1 (kf := [(2, 2), (4, 5), (14, 23)]) (kl := [(2, 2), (4, 5), (14, 23)]) (fun (i : Nat) => [(14, true, .int .i64 (i : Int))]) (fun (i : Nat) => []) (fun (i : Nat) => i ≤ l.q ∧ fltsNo l.l = fltsNo (l.l.drop i)) (fun (i : Nat) => l.q - i) 0 ?_ ?_ ?_ ?_
  · exact ⟨by omega, rfl⟩
  · exact ⟨rfl, trivial⟩
  · exact trivial
  rintro i ⟨hp1, hp2⟩
  refine tx ?_
  refine sr 1 ?_
  refine sgs ?_
  refine T_cond rfl ?_ ?_ <;> intro h15
  · try simp only [nrm] at h15
    obtain ⟨x, hx1, hx2⟩ := ht.at (i := i) (by omega)
    refine kgs ?_
    refine T_block ?_
    refine tx ?_
    refine s1 (y_indexAddr rfl rfl rfl Tryz.underlying22 sz36 (fun hg => ht.isSome (by omega)) (fun _ => by omega)) ?_
    refine s1 (y_loadT rfl rfl ht (fun _ => rfl) (fun _ => hx1) Tryz.underlying36 rfl sz36) ?_
    refine S_alloc 4 4 rfl rfl rfl rfl z36 ?_
    intro b4
    refine S_store 4 rfl rfl rfl rfl rfl rfl sz36 rfl rfl ?_
    refine sgx ?_
    refine s1 (yA 4 rfl Tryz.underlying36 sz36) ?_
    refine s1 (y_call rfl rfl rfl cf205 (fun _ w hM => FaultError_any x w ((hl.n x (mem_at hx1)).below hM.below))) ?_
    refine sr 1 ?_
    refine sgx ?_
    refine sr 2 ?_
    refine sgo ?_
    refine T_cond rfl ?_ ?_ <;> intro h21
    · try simp only [nrm] at h21
      refine tx ?_
      refine sr 2 ?_
      refine sgo ?_
      refine tr1 hRb fun w hM => ?_
      exact ⟨by rw [faultsNo, if_neg (by omega), if_neg (by omega), hp2, hx2, fltsNo, if_pos h21], hM.below⟩
    try simp only [nrm] at h21
    refine kgr ?_
    refine s1 (y_bin rfl rfl rfl (fun hg => b_add (by omega))) ?_
    refine sr 1 ?_
    refine S_nil (nK1 (kf := [(2, 2), (4, 5), (14, 23)]) (kl := [(2, 2), (4, 5), (14, 23)]) (i + 1) ?_ ?_ ?_ ?_)
    · omega
    · exact ⟨by omega, by rw [hp2, hx2, fltsNo, if_neg (by simpa using h21)]⟩
    · exact ⟨rfl, trivial⟩
    · exact trivial
  try simp only [nrm] at h15
  refine egx ?_
  refine sr 1 ?_
  refine sgo ?_
  refine tr1 hRb fun w hM => ?_
  exact ⟨by rw [faultsNo, if_neg (by omega), if_neg (by omega), hp2, ht.end (by omega)]; rfl, hM.below⟩
end Go.Proofs.YtgbldojgbpgjbaaGreatDoor
end
section
namespace Go.Proofs.YtgbldojgbpgjbaaGreatDoor
set_option linter.unusedSimpArgs false
set_option linter.unusedVariables false
set_option maxRecDepth 20000
open Go.RowKit Go.Eng
theorem split_last : ∀ s : List UInt8, s ≠ [] → ((splitC 10 s).getLast? = some [] ↔ s.getLast? = some 10)
  | [], h => absurd rfl h
  | [x], _ => by
    rw [splitC]
    by_cases h : x = 10
    · rw [if_pos h, h]; simp [splitC]
    · rw [if_neg h]; simp [splitC, h]
  | x :: y :: r, _ => by
    have ih := split_last (y :: r) (by simp)
    rw [splitC, List.getLast?_cons_cons]
    by_cases h : x = 10
    · rw [if_pos h, ← ih]
      cases hq : splitC 10 (y :: r) with
      | nil => have := split_ne 10 (y :: r); rw [hq] at this; cases this
      | cons a t => rw [List.getLast?_cons_cons]
    · rw [if_neg h, ← ih]
      cases hq : splitC 10 (y :: r) with
      | nil => have := split_ne 10 (y :: r); rw [hq] at this; cases this
      | cons a t =>
        cases t with
        | cons b u => show ((x :: a) :: b :: u).getLast? = some [] ↔ _; rw [List.getLast?_cons_cons, List.getLast?_cons_cons]
        | nil =>
          have ha : a ≠ [] := by
            rintro rfl
            rw [splitC] at hq
            by_cases hy : y = 10
            · rw [if_pos hy] at hq
              have h1 := split_ne 10 r
              have h2 := congrArg List.length hq
              rw [List.length_cons, List.length_cons, List.length_nil] at h2; omega
            · rw [if_neg hy] at hq
              cases hr : splitC 10 r with
              | nil => rw [hr] at hq; simp at hq
              | cons u v => rw [hr] at hq; simp at hq
          show ([x :: a]).getLast? = some [] ↔ ([a]).getLast? = some []
          simp [ha]
theorem getD_last {α : Type} (l : List α) (d : α) : l.getD (l.length - 1) d = l.getLast?.getD d := by
  rw [List.getD_eq_getElem?_getD, List.getLast?_eq_getElem?]
theorem tl_10 {s : List UInt8} (h : 0 < s.length) : (tlQ s = [] ↔ s.getD (s.length - 1) 0 = 10) := by
  have hne : s ≠ [] := fun e => by rw [e] at h; cases h
  have h1 := split_last s hne
  unfold tlQ
  rw [getD_last, getD_last]
  have h2 : ∃ a, (splitC 10 s).getLast? = some a := by
    have h3 := split_ne 10 s
    exact ⟨_, List.getLast?_eq_some_getLast (List.length_pos_iff.1 h3)⟩
  have h4 : ∃ a, s.getLast? = some a := ⟨_, List.getLast?_eq_some_getLast hne⟩
  obtain ⟨a, ha⟩ := h2
  obtain ⟨b, hb⟩ := h4
  rw [ha, hb] at h1 ⊢
  simpa using h1
theorem wr_t {s : List UInt8} (h1 : inX (innerS s) < 0) (h2 : ¬ tlQ s = []) : rdW s = (lsQ s).length + 1 := by
  cases hi : innerS s with
  | inr n => rw [hi] at h1; have := innerS_pos hi; exact absurd h1 (by show ¬ (n : Int) - 1 < 0; omega)
  | inl b => rw [rdW, hi]; exact if_neg fun e => h2 ((tl_10 (innerS_ne hi)).2 e)
theorem wr_f {s : List UInt8} (h : ¬ (inX (innerS s) < 0 ∧ ¬ tlQ s = [])) : inX (innerS s) = ((rdW s : Nat) : Int) - 1 := by
  cases hi : innerS s with
  | inr n => rw [rdW, hi]; rfl
  | inl b =>
    have h2 : tlQ s = [] := by
      by_cases e : tlQ s = []
      · exact e
      · exact absurd ⟨by rw [hi]; show (-1 : Int) < 0; omega, e⟩ h
    have h3 : rdW s = 0 := by rw [rdW, hi]; exact if_pos ((tl_10 (innerS_ne hi)).1 h2)
    rw [h3]; rfl
set_option maxHeartbeats 1600000 in
theorem FaultsRead_any {w0 : World} {K : HL} (hK : FromK K) (s : List UInt8) (hs : s.length ≤ 1000000) (w : World) (hM0 : Mem w0 ([] ++ K) w) :
    Calls Tryz.prog 56 #[str s, .int .i64 1] w fun e w' => ∃ x : RdR, e = .returned (.tuple #[.slice x.A x.l.length x.c, .int .i64 ((rdW s : Nat) : Int), .int .i64 (sNo s)]) ∧ SrR w0 s x ∧ Mem w0 ([(900, .many x.rs), (904, flI x.A x.c x.l)] ++ K) w' := by
  have h0 := split_ne 10 s
  have hsh : ∀ x ∈ splitC 10 s, x.length ≤ 1000000 := fun x hx => by have := split_short hx; omega
  have hn : (splitC 10 s).length ≤ 1000001 := by have := count_le 10 s; rw [splitC_len]; omega
  have hll := lsQ_len s
  have hwl := rdW_le s
  refine enterM_args (args := [str s, .int .i64 1]) (F := _) hM0 Tryz.func56 rfl Tryz.ntmps56 rfl rfl ?_
  intro Rb hRb hRn
  refine tx ?_
  refine sr 3 ?_
  refine sgs ?_
  refine tx ?_
  refine sr 1 ?_
  refine s1 (y_len_str rfl rfl Tryz.underlying9) ?_
  refine sr 1 ?_
  refine sgo ?_
  refine T_cond rfl ?_ ?_ <;> intro h14
  · try simp only [nrm] at h14
    omega
  try simp only [nrm] at h14
  refine kgs ?_
  refine tx ?_
  refine sr 1 ?_
  refine s1 (y_call rfl rfl rfl cf134 (fun _ w _ => rinB_any _ _ _ w)) ?_
  refine sr 1 ?_
  refine sgo ?_
  refine T_cond rfl ?_ ?_ <;> intro h17
  · skip
    cases h17
  refine kgx ?_
  refine sr 1 ?_
  refine S_callOwn 19 19 rfl rfl rfl rfl rfl rfl rfl cf135 (fun A c => .slice A ((splitC 10 s).length) c) 9 1 ((splitC 10 s).length) ((splitC 10 s).flatMap strE) (fun w hM => Split1_any s 10 (by omega) w) ?_
  intro A19 c19
  refine sr 1 ?_
  refine sgx ?_
  refine S_known (p := (splitC 10 s).length ≤ c19) (fun w hM => (row_ok (enc := strE) (hM.sat 19 _ rfl) rfl).cap) fun hc19 => ?_
  refine sr 2 ?_
  refine s1 (y_len_slice rfl rfl Tryz.underlying53) ?_
  refine s1 (y_bin rfl rfl rfl (fun hg => b_subv ((((splitC 10 s).length - 1 : Nat) : Int)) (by omega) (by omega))) ?_
  refine s1 (y_indexOwn 19 rfl rfl rfl rfl Tryz.underlying53 sz9 (fun _ => by omega)) ?_
  refine s1 (y_as (v' := str (tlQ s)) (by exact rfl) (y_loadO1 19 (val := (fun l : List UInt8 => str l)) rfl rfl rfl rfl (fun _ => getD_at (by omega)) Tryz.underlying9 rfl)) ?_
  refine sr 1 ?_
  refine sgx ?_
  refine sr 2 ?_
  refine s1 (y_len_slice rfl rfl Tryz.underlying53) ?_
  refine s1 (y_bin rfl rfl rfl (fun hg => b_subv ((((splitC 10 s).length - 1 : Nat) : Int)) (by omega) (by omega))) ?_
  refine s1 (y_slice rfl rfl Tryz.underlying53 sz9 (.inl ⟨rfl, rfl⟩) (.inr ⟨_, _, rfl, rfl⟩) (by omega) (by omega) hc19) ?_
  refine sr 1 ?_
  refine sgx ?_
  refine sr 1 ?_
  refine sgx ?_
  refine sr 1 ?_
  refine sgs ?_
  refine tx ?_
  refine sr 1 ?_
  refine sgo ?_
  refine T_block ?_
  refine tx ?_
  refine sr 2 ?_
  refine sgo ?_
  refine T_cond rfl ?_ ?_ <;> intro h37
  · skip
    refine T_region ?_
    refine S_many0 900 ?_
    refine S_bank [(19, 19), (900, 900)] 900 19 rfl rfl rfl rfl (by repeat (first | exact kl_nil | exact kl_rest (by assumption) rfl | (apply kl_in; focus rfl) | (apply kl_out; focus rfl))) ?_
    have hz : SrcOk w0 ([] ++ [(⟨9, 1, .slice A19 (splitC 10 s).length c19, (splitC 10 s).length, (splitC 10 s).flatMap strE⟩ : Row)]) (⟨if c19 = 0 then A19 else A19.map (·.add (0 * 1)), (splitC 10 s).length - 1 - 0, c19 - 0, lsQ s, tlQ s⟩ : Src) := ⟨(Sees.row (List.mem_singleton.2 rfl) rfl).map fun w h => h.t.cut (lo := 0) (hi := (splitC 10 s).length - 1) (c := c19) (fun _ => rfl) (by omega) (by show (splitC 10 s).length - 1 ≤ (splitC 10 s).length; omega) h.cap, fun x hx => hsh x (List.mem_of_mem_take hx), hll, by show (splitC 10 s).length - 1 - 0 ≤ _; omega, hsh _ (List.mem_of_getElem? (getD_at (by omega)))⟩
    have hiq : innerQ (tlQ s) ((splitC 10 s).length - 1 - 0 + 1) [] (lsQ s) 0 = innerS s := by rw [innerS, hll]; rfl
    refine sr 2 ?_
    refine S_callN 42 [(900, 900)] [(6, 904)] (X := IxR) rfl rfl rfl rfl rfl rfl rfl cf136 rfl (fun x => .tuple #[.slice x.A x.l.length x.c, .int .i64 (inX (innerS s))]) (fun x => IxOk w0 ([] ++ [(⟨9, 1, .slice A19 (splitC 10 s).length c19, (splitC 10 s).length, (splitC 10 s).flatMap strE⟩ : Row)]) (⟨if c19 = 0 then A19 else A19.map (·.add (0 * 1)), (splitC 10 s).length - 1 - 0, c19 - 0, lsQ s, tlQ s⟩ : Src) x) (fun x => [(900, .many x.rs), (6, flI x.A x.c x.l)]) (fun _ => rfl) (fun _ => rfl) (fun K1 hK1 w hM => by have h := rInner_any hK1 _ (⟨if c19 = 0 then A19 else A19.map (·.add (0 * 1)), (splitC 10 s).length - 1 - 0, c19 - 0, lsQ s, tlQ s⟩ : Src) hz w hM; rw [show innerQ ((⟨if c19 = 0 then A19 else A19.map (·.add (0 * 1)), (splitC 10 s).length - 1 - 0, c19 - 0, lsQ s, tlQ s⟩ : Src)).tl (((⟨if c19 = 0 then A19 else A19.map (·.add (0 * 1)), (splitC 10 s).length - 1 - 0, c19 - 0, lsQ s, tlQ s⟩ : Src)).q + 1) [] ((⟨if c19 = 0 then A19 else A19.map (·.add (0 * 1)), (splitC 10 s).length - 1 - 0, c19 - 0, lsQ s, tlQ s⟩ : Src)).ls 0 = innerS s from hiq] at h; exact h) ?_
    intro x hx
    have hys := hx.says
    rw [show innerQ ((⟨if c19 = 0 then A19 else A19.map (·.add (0 * 1)), (splitC 10 s).length - 1 - 0, c19 - 0, lsQ s, tlQ s⟩ : Src)).tl (((⟨if c19 = 0 then A19 else A19.map (·.add (0 * 1)), (splitC 10 s).length - 1 - 0, c19 - 0, lsQ s, tlQ s⟩ : Src)).q + 1) [] ((⟨if c19 = 0 then A19 else A19.map (·.add (0 * 1)), (splitC 10 s).length - 1 - 0, c19 - 0, lsQ s, tlQ s⟩ : Src)).ls 0 = innerS s from hiq] at hys
    have hyf : x.l.length ≤ (splitC 10 s).length - 1 - 0 := hx.few
    refine sr 5 ?_
    refine sgs ?_
    refine tx ?_
    refine sr 3 ?_
    refine sg rfl (y_move rfl rfl) ?_
    refine sg rfl (y_bin rfl rfl rfl (fun _ => b_neqs)) ?_
    refine s1 (y_and rfl rfl rfl) ?_
    refine sgo ?_
    refine T_mid (kf := [(10, 10), (58, 59)]) (kl := [(10, 10), (58, 59)]) (fun u : Unit => [(10, true, .int .i64 (((rdW s : Nat) : Int) - 1))]) (fun u : Unit => []) (by repeat (first | exact kf_nil | (apply kf_in; focus rfl) | (apply kf_out; focus rfl))) (by repeat (first | exact kl_nil | exact kl_rest (by assumption) rfl | (apply kl_in; focus rfl) | (apply kl_out; focus rfl))) ?_ ?_
    · skip
      refine T_cond rfl ?_ ?_ <;> intro h57
      · try simp only [nrm] at h57
        refine T_region ?_
        refine sr 1 ?_
        refine s1 (y_len_slice rfl rfl Tryz.underlying53) ?_
        refine sr 1 ?_
        refine S_nil (mid_end (kf := [(10, 10), (58, 59)]) (kl := [(10, 10), (58, 59)]) (()) (by repeat (first | exact kf_nil | (apply kf_in; focus rfl) | (apply kf_out; focus rfl))) (by repeat (first | exact kl_nil | exact kl_rest (by assumption) rfl | (apply kl_in; focus rfl) | (apply kl_out; focus rfl))) ?_ ?_)
        · exact ⟨by rw [wr_t h57.1 h57.2, show (((lsQ s).length + 1 : Nat) : Int) - 1 = (((splitC 10 s).length - 1 - 0 : Nat) : Int) by omega]; rfl, trivial⟩
        · exact trivial
      try simp only [nrm] at h57
      refine T_skip (mid_end (kf := [(10, 10), (58, 59)]) (kl := [(10, 10), (58, 59)]) (()) (by repeat (first | exact kf_nil | (apply kf_in; focus rfl) | (apply kf_out; focus rfl))) (by repeat (first | exact kl_nil | exact kl_rest (by assumption) rfl | (apply kl_in; focus rfl) | (apply kl_out; focus rfl))) ?_ ?_)
      · exact ⟨by rw [← wr_f (fun h => by rcases h57 with h2 | h2; exact absurd h.1 (by omega); exact h.2 h2)]; rfl, trivial⟩
      · exact trivial
    intro u
    refine sgs ?_
    refine tx ?_
    refine sr 2 ?_
    refine sgo ?_
    refine T_cond rfl ?_ ?_ <;> intro h61
    · try simp only [nrm] at h61
      have h0r : 0 < rdW s := by omega
      have hno : sNo s = 8 := if_pos h0r
      have hsl : sL s = [] := if_pos h0r
      refine tx ?_
      refine sr 1 ?_
      refine s1 (y_bin rfl rfl rfl (fun hg => b_addv (((rdW s : Nat) : Int)) (by omega) (by omega))) ?_
      refine sr 3 ?_
      refine sgo ?_
      refine tr3 hRb fun w hM => ?_
      rw [hno]
      have hM := hM.add 904 (flI none 0 []) rfl (World.ownsRow_nil _ _ _ _)
      exact ⟨⟨none, 0, [], x.rs⟩, rfl, ⟨fun f hf => (by cases hf), Nat.zero_le _, hsl.symm⟩, hM.keep (ks := [(0, 999)]) (by repeat (first | exact kl_rest (by assumption) rfl | (apply kl_in; focus rfl))) _ ⟨rfl, rfl, trivial⟩⟩
    try simp only [nrm] at h61
    have h0r : ¬ 0 < rdW s := by omega
    obtain ⟨bb, hbb⟩ := rdW_ok h0r
    have hrd : RdOk w0 s ⟨x.A, x.c, x.l, x.rs⟩ := ⟨hx.ok, by show x.l.length ≤ _; omega, hys⟩
    have hoks := hrd.oks hs hbb
    have hr0 : rdW s = 0 := by omega
    have hno : sNo s = pNo bb := by rw [sNo, if_neg h0r, hbb]
    have hsl : sL s = if pNo bb = 0 then bb else [] := by rw [sL, if_neg h0r, hbb]
    have hsy := hys bb hbb
    refine T_knownP (p := ∀ f ∈ x.l, f.fr.q = f.fr.l.length) (fun w hM f hf => ((hoks f hf).at hM 900 rfl).fr.ok.t.len.symm) fun hfq => ?_
    have hfn : faultsNo ⟨x.A, x.l.length, x.c, x.l⟩ = pNo bb := by rw [faultsNo_p hfq, hsy]
    refine kgs ?_
    refine tx ?_
    refine sr 1 ?_
    refine s1 (y_call rfl rfl rfl cf139 (fun _ w hM => FaultsError_any ⟨x.A, x.l.length, x.c, x.l⟩ w ⟨row_ok (hM.sat 904 _ rfl) rfl, by show x.l.length ≤ _; omega, fun f hf => (hoks f hf).at hM 900 rfl⟩)) ?_
    refine sr 1 ?_
    refine sgx ?_
    refine sr 2 ?_
    refine sgo ?_
    refine T_cond rfl ?_ ?_ <;> intro h67
    · try simp only [nrm] at h67
      rw [hfn] at h67
      rw [if_neg h67] at hsl
      refine tx ?_
      refine sr 4 ?_
      refine sgo ?_
      refine tr3 hRb fun w hM => ?_
      rw [hno, hr0, ← hfn]
      have hM := hM.add 904 (flI none 0 []) rfl (World.ownsRow_nil _ _ _ _)
      exact ⟨⟨none, 0, [], x.rs⟩, rfl, ⟨fun f hf => (by cases hf), Nat.zero_le _, hsl.symm⟩, hM.keep (ks := [(0, 999)]) (by repeat (first | exact kl_rest (by assumption) rfl | (apply kl_in; focus rfl))) _ ⟨rfl, rfl, trivial⟩⟩
    try simp only [nrm] at h67
    rw [hfn] at h67
    rw [if_pos h67] at hsl
    refine kgx ?_
    refine sr 4 ?_
    refine sgo ?_
    refine tr3 hRb fun w hM => ?_
    rw [hno, hr0, h67]
    exact ⟨⟨x.A, x.c, x.l, x.rs⟩, rfl, ⟨hoks, by show x.l.length ≤ _; omega, hsy.trans hsl.symm⟩, hM.keep (ks := [(0, 999)]) (by repeat (first | exact kl_rest (by assumption) rfl | (apply kl_in; focus rfl))) _ ⟨rfl, rfl, trivial⟩⟩
  exact absurd h37 (by decide)
end Go.Proofs.YtgbldojgbpgjbaaGreatDoor
end
section
namespace Go.Proofs.YtgbldojgbpgjbaaGreatDoor
set_option linter.unusedSimpArgs false
set_option linter.unusedVariables false
set_option maxRecDepth 20000
open Go.RowKit Go.Eng
theorem plain_and (s : List UInt8) (k : Nat) : (plainOk s k && !decide (s = [])) = plainOk s k := by
  cases h : plainOk s k with
  | false => rfl
  | true => rw [decide_eq_false (plain_parts h).1]; rfl
theorem lv_and (s : List UInt8) : (decide (0 < lvQ s) && !decide (s = [])) = decide (0 < lvQ s) := by
  by_cases h : s = []
  · subst h; rw [lv_empty]; rfl
  · rw [decide_eq_false h]; simp
theorem crumb_and (s : List UInt8) : ((cutC 32 s).2.2 && (cutC 32 (cutC 32 s).2.1).2.2 && plainOk (cutC 32 s).1 10 && !decide ((cutC 32 (cutC 32 s).2.1).1 = [])) = (plainOk (cutC 32 s).1 10 && (cutC 32 (cutC 32 s).2.1).2.2 && !decide ((cutC 32 (cutC 32 s).2.1).1 = [])) := by
  cases h : (cutC 32 s).2.2 with
  | true => cases (cutC 32 (cutC 32 s).2.1).2.2 <;> cases plainOk (cutC 32 s).1 10 <;> rfl
  | false =>
    have h2 := cut_no h
    rw [h2, cut_empty]
    cases plainOk s 10 <;> rfl
set_option maxHeartbeats 1600000 in
theorem rheadLine_any {w0 : World} {K : HL} (hK : FromK K) (b : Nat) (h : Hd) (r : HdR) (hta : h.ta.length ≤ 2000000) (hcr : h.cr.length ≤ 2000000) (k : Int) (hk : 0 ≤ k ∧ k ≤ 7) (s : List UInt8) (hs : s.length ≤ 1000000)
    (w : World) (hM0 : Mem w0 ([(901, hdB b h r), (906, tgI r.A r.c h.ta), (907, crI r.B r.d h.cr)] ++ K) w) :
    Calls Tryz.prog 133 #[ptrH b, .int .i64 k, str s] w fun e w' => ∃ y : HdR, e = .returned (.bool (takeQ h k s).2) ∧ True ∧ Mem w0 ([(901, hdB b (takeQ h k s).1 y), (906, tgI y.A y.c (takeQ h k s).1.ta), (907, crI y.B y.d (takeQ h k s).1.cr)] ++ K) w' := by
  have hlv1 : lvQ s = ixS s levels 0 + 1 := rfl
  have hlv2 := ixS_le s levels (Int.le_refl 0)
  have hlv3 : ((levels.length : Nat) : Int) = 5 := rfl
  have hc1 := cut_le 32 s
  have hc2 := cut_le 32 (cutC 32 s).2.1
  refine enterM_args (args := [ptrH b, .int .i64 k, str s]) (F := _) hM0 Tryz.func133 rfl Tryz.ntmps133 rfl rfl ?_
  intro Rb hRb hRn
  refine tx ?_
  refine sr 1 ?_
  refine sgs ?_
  refine tx ?_
  refine sr 1 ?_
  refine sgo ?_
  refine T_block ?_
  refine tx ?_
  refine sr 2 ?_
  refine sgo ?_
  refine T_cond rfl ?_ ?_ <;> intro h56
  · try simp only [nrm] at h56
    refine tx ?_
    refine sr 2 ?_
    refine s1 (y_nilCheck rfl rfl) ?_
    refine s1 (yF fa26_0) ?_
    refine S_store 901 rfl rfl rfl rfl rfl rfl sz9 rfl rfl ?_
    refine sgx ?_
    refine sr 1 ?_
    refine s1 (y_bin rfl rfl rfl (fun _ => b_neqs)) ?_
    refine sr 1 ?_
    refine sgo ?_
    refine tr1 hRb fun w hM => ?_
    have ht : takeQ h k s = ({ h with id := s }, !decide (s = [])) := by rw [takeQ, if_pos h56]
    rw [ht]
    exact ⟨r, rfl, trivial, hM.keep (ks := [(0, 999)]) (by repeat (first | exact kl_rest (by assumption) rfl | (apply kl_in; focus rfl))) _ ⟨rfl, rfl, rfl, trivial⟩⟩
  try simp only [nrm] at h56
  refine tx ?_
  refine sr 2 ?_
  refine sgo ?_
  refine T_cond rfl ?_ ?_ <;> intro h64
  · try simp only [nrm] at h64
    refine T_region ?_
    refine sr 2 ?_
    refine s1 (y_call rfl rfl rfl cf196 (fun _ w _ => whole_any s 10 (by omega) (by omega) w)) ?_
    refine sr 3 ?_
    refine s1 (y_nilCheck rfl rfl) ?_
    refine s1 (yF fa26_1) ?_
    refine S_store 901 rfl rfl rfl rfl rfl rfl sz3 rfl rfl ?_
    refine sr 1 ?_
    refine sgx ?_
    refine sr 2 ?_
    refine sgo ?_
    refine tr1 hRb fun w hM => ?_
    have ht : takeQ h k s = ({ h with at_ := ((plainJ s 10 : Nat) : Int) }, plainOk s 10 && !decide (s = [])) := by rw [takeQ, if_neg h56, if_pos h64]
    rw [plain_and] at ht
    rw [ht]
    exact ⟨r, rfl, trivial, hM.keep (ks := [(0, 999)]) (by repeat (first | exact kl_rest (by assumption) rfl | (apply kl_in; focus rfl))) _ ⟨rfl, rfl, rfl, trivial⟩⟩
  try simp only [nrm] at h64
  refine tx ?_
  refine sr 2 ?_
  refine sgo ?_
  refine T_cond rfl ?_ ?_ <;> intro h74
  · try simp only [nrm] at h74
    refine tx ?_
    refine sr 1 ?_
    refine S_callOwn 77 77 rfl rfl rfl rfl rfl rfl rfl cf131 (fun A c => .slice A (5) c) 9 1 (5) (levels.flatMap strE) (fun w hM => LevelWords_any w) ?_
    intro A77 c77
    refine sr 1 ?_
    refine s1 (y_call rfl rfl rfl cf132 (fun _ w hM => IndexSt_any _ _ _ levels s w (owned_T (enc := strE) hM rfl (i := 77) rfl) (by decide))) ?_
    refine s1 (y_bin rfl rfl rfl (fun hg => b_addv (lvQ s) (by omega) (by omega))) ?_
    refine s1 (y_nilCheck rfl rfl) ?_
    refine s1 (yF fa26_2) ?_
    refine S_store 901 rfl rfl rfl rfl rfl rfl sz3 rfl rfl ?_
    refine sgx ?_
    refine sr 1 ?_
    refine s1 (y_nilCheck rfl rfl) ?_
    refine s1 (yF fa26_2) ?_
    refine s1 (yL 901 Tryz.underlying3) ?_
    refine sr 2 ?_
    refine sgo ?_
    refine tr1 hRb fun w hM => ?_
    have ht : takeQ h k s = ({ h with lv := lvQ s }, decide (0 < lvQ s) && !decide (s = [])) := by rw [takeQ, if_neg h56, if_neg h64, if_pos h74]
    rw [lv_and] at ht
    rw [ht]
    exact ⟨r, rfl, trivial, hM.keep (ks := [(0, 999)]) (by repeat (first | exact kl_rest (by assumption) rfl | (apply kl_in; focus rfl))) _ ⟨rfl, rfl, rfl, trivial⟩⟩
  try simp only [nrm] at h74
  refine tx ?_
  refine sr 2 ?_
  refine sgo ?_
  refine T_cond rfl ?_ ?_ <;> intro h88
  · try simp only [nrm] at h88
    refine T_region ?_
    refine sr 2 ?_
    refine s1 (y_call rfl rfl rfl cf196 (fun _ w _ => whole_any s 10 (by omega) (by omega) w)) ?_
    refine sr 3 ?_
    refine s1 (y_nilCheck rfl rfl) ?_
    refine s1 (yF fa26_8) ?_
    refine S_store 901 rfl rfl rfl rfl rfl rfl sz3 rfl rfl ?_
    refine sr 1 ?_
    refine sgx ?_
    refine sr 2 ?_
    refine sgo ?_
    refine tr1 hRb fun w hM => ?_
    have ht : takeQ h k s = ({ h with wt := ((plainJ s 10 : Nat) : Int) }, plainOk s 10 && !decide (s = [])) := by rw [takeQ, if_neg h56, if_neg h64, if_neg h74, if_pos h88]
    rw [plain_and] at ht
    rw [ht]
    exact ⟨r, rfl, trivial, hM.keep (ks := [(0, 999)]) (by repeat (first | exact kl_rest (by assumption) rfl | (apply kl_in; focus rfl))) _ ⟨rfl, rfl, rfl, trivial⟩⟩
  try simp only [nrm] at h88
  refine tx ?_
  refine sr 2 ?_
  refine sgo ?_
  refine T_cond rfl ?_ ?_ <;> intro h98
  · try simp only [nrm] at h98
    refine tx ?_
    refine sr 2 ?_
    refine s1 (y_nilCheck rfl rfl) ?_
    refine s1 (yF fa26_6) ?_
    refine S_store 901 rfl rfl rfl rfl rfl rfl sz9 rfl rfl ?_
    refine sgx ?_
    refine sr 1 ?_
    refine s1 (y_bin rfl rfl rfl (fun _ => b_neqs)) ?_
    refine sr 1 ?_
    refine sgo ?_
    refine tr1 hRb fun w hM => ?_
    have ht : takeQ h k s = ({ h with rel := s }, !decide (s = [])) := by rw [takeQ, if_neg h56, if_neg h64, if_neg h74, if_neg h88, if_pos h98]
    rw [ht]
    exact ⟨r, rfl, trivial, hM.keep (ks := [(0, 999)]) (by repeat (first | exact kl_rest (by assumption) rfl | (apply kl_in; focus rfl))) _ ⟨rfl, rfl, rfl, trivial⟩⟩
  try simp only [nrm] at h98
  refine tx ?_
  refine sr 2 ?_
  refine sgo ?_
  refine T_cond rfl ?_ ?_ <;> intro h106
  · try simp only [nrm] at h106
    refine tx ?_
    refine sr 2 ?_
    refine s1 (y_nilCheck rfl rfl) ?_
    refine s1 (yF fa26_7) ?_
    refine S_store 901 rfl rfl rfl rfl rfl rfl sz9 rfl rfl ?_
    refine sgx ?_
    refine sr 1 ?_
    refine s1 (y_bin rfl rfl rfl (fun _ => b_neqs)) ?_
    refine sr 1 ?_
    refine sgo ?_
    refine tr1 hRb fun w hM => ?_
    have ht : takeQ h k s = ({ h with us := s }, !decide (s = [])) := by rw [takeQ, if_neg h56, if_neg h64, if_neg h74, if_neg h88, if_neg h98, if_pos h106]
    rw [ht]
    exact ⟨r, rfl, trivial, hM.keep (ks := [(0, 999)]) (by repeat (first | exact kl_rest (by assumption) rfl | (apply kl_in; focus rfl))) _ ⟨rfl, rfl, rfl, trivial⟩⟩
  try simp only [nrm] at h106
  refine tx ?_
  refine sr 2 ?_
  refine sgo ?_
  refine T_cond rfl ?_ ?_ <;> intro h114
  · try simp only [nrm] at h114
    refine tx ?_
    refine sr 1 ?_
    refine s1 (y_call rfl rfl rfl cf79 (fun _ w _ => Cut1_any s 32 w (by omega))) ?_
    refine sr 7 ?_
    refine sgx ?_
    refine sr 2 ?_
    refine s1 (y_nilCheck rfl rfl) ?_
    refine s1 (yF fa26_4) ?_
    refine s1 (yL 901 Tryz.underlying23) ?_
    refine sr 2 ?_
    refine s1 (y_build (zv := .agg #[.string ⟨#[]⟩, .string ⟨#[]⟩]) (pl := [(0, 1), (1, 1)]) (out := [_, _]) rfl rfl Tryz.underlying83 z83 (by kernel_rfl) rfl) ?_
    refine S_buildSlice 130 130 rfl rfl rfl rfl rfl Tryz.underlying23 inf83 rfl (by decide) (by decide) rfl rfl (by decide) rfl (_) rfl ?_
    intro b130
    obtain ⟨i131, hi131, hz131, hs131, hy131⟩ := info_parts inf83
    refine S_append 131 906 130 rfl rfl rfl rfl rfl rfl rfl rfl Tryz.underlying23 hi131 hz131 hs131 hy131 rfl (by decide) (by decide) rfl ?_ ?_ (_) ((h.ta ++ [(⟨(cutC 32 s).1, (cutC 32 s).2.1⟩ : STag)]).flatMap STag.enc) rfl ?_ ?_
    · (simp only [maxLen]; omega)
    · omega
    · rw [List.flatMap_append]; rfl
    intro A131 c131
    refine s1 (y_nilCheck rfl rfl) ?_
    refine s1 (yF fa26_4) ?_
    refine S_store 901 rfl rfl rfl rfl rfl rfl sz23 rfl rfl ?_
    refine sgx ?_
    refine sr 2 ?_
    refine sg rfl (y_move rfl rfl) ?_
    refine sg rfl (y_bin rfl rfl rfl (fun _ => b_neqs)) ?_
    refine s1 (y_and rfl rfl rfl) ?_
    refine sr 1 ?_
    refine sgo ?_
    refine tr1 hRb fun w hM => ?_
    have ht : takeQ h k s = ({ h with ta := h.ta ++ [⟨(cutC 32 s).1, (cutC 32 s).2.1⟩] }, (cutC 32 s).2.2 && !decide ((cutC 32 s).1 = [])) := by rw [takeQ, if_neg h56, if_neg h64, if_neg h74, if_neg h88, if_neg h98, if_neg h106, if_pos h114]
    rw [ht]
    exact ⟨⟨A131, c131, r.B, r.d⟩, rfl, trivial, hM.keep (ks := [(0, 999)]) (by repeat (first | exact kl_rest (by assumption) rfl | (apply kl_in; focus rfl))) _ ⟨by rw [hdB_ta]; rfl, by rw [tgI_snoc]; rfl, rfl, trivial⟩⟩
  try simp only [nrm] at h114
  refine tx ?_
  refine sr 1 ?_
  refine s1 (y_call rfl rfl rfl cf79 (fun _ w _ => Cut1_any s 32 w (by omega))) ?_
  refine sr 7 ?_
  refine sgx ?_
  refine sr 1 ?_
  refine s1 (y_call rfl rfl rfl cf79 (fun _ w _ => Cut1_any (cutC 32 s).2.1 32 w (by omega))) ?_
  refine sr 7 ?_
  refine sgx ?_
  refine sr 1 ?_
  refine sgx ?_
  refine sr 1 ?_
  refine s1 (y_call rfl rfl rfl cf196 (fun _ w _ => whole_any (cutC 32 s).1 10 (by omega) (by omega) w)) ?_
  refine sr 5 ?_
  refine sgx ?_
  refine sr 2 ?_
  refine s1 (y_nilCheck rfl rfl) ?_
  refine s1 (yF fa26_5) ?_
  refine s1 (yL 901 Tryz.underlying24) ?_
  refine sr 3 ?_
  refine s1 (y_build (zv := .agg #[.int .i64 0, .string ⟨#[]⟩, .string ⟨#[]⟩]) (pl := [(0, 1), (1, 1), (2, 1)]) (out := [_, _, _]) rfl rfl Tryz.underlying85 z85 (by kernel_rfl) rfl) ?_
  refine S_buildSlice 44 44 rfl rfl rfl rfl rfl Tryz.underlying24 inf85 rfl (by decide) (by decide) rfl rfl (by decide) rfl (_) rfl ?_
  intro b44
  obtain ⟨i45, hi45, hz45, hs45, hy45⟩ := info_parts inf85
  refine S_append 45 907 44 rfl rfl rfl rfl rfl rfl rfl rfl Tryz.underlying24 hi45 hz45 hs45 hy45 rfl (by decide) (by decide) rfl ?_ ?_ (_) ((h.cr ++ [(⟨((plainJ (cutC 32 s).1 10 : Nat) : Int), (cutC 32 (cutC 32 s).2.1).1, (cutC 32 (cutC 32 s).2.1).2.1⟩ : SCrumb)]).flatMap SCrumb.enc) rfl ?_ ?_
  · (simp only [maxLen]; omega)
  · omega
  · rw [List.flatMap_append]; rfl
  intro A45 c45
  refine s1 (y_nilCheck rfl rfl) ?_
  refine s1 (yF fa26_5) ?_
  refine S_store 901 rfl rfl rfl rfl rfl rfl sz24 rfl rfl ?_
  refine sgx ?_
  refine sr 2 ?_
  refine sg rfl (y_move rfl rfl) ?_
  refine s1 (y_and rfl rfl rfl) ?_
  refine sr 1 ?_
  refine sg rfl (y_move rfl rfl) ?_
  refine sg rfl (y_bin rfl rfl rfl (fun _ => b_neqs)) ?_
  refine s1 (y_and rfl rfl rfl) ?_
  refine sr 1 ?_
  refine sgo ?_
  refine tr1 hRb fun w hM => ?_
  have ht : takeQ h k s = ({ h with cr := h.cr ++ [⟨((plainJ (cutC 32 s).1 10 : Nat) : Int), (cutC 32 (cutC 32 s).2.1).1, (cutC 32 (cutC 32 s).2.1).2.1⟩] }, (cutC 32 s).2.2 && (cutC 32 (cutC 32 s).2.1).2.2 && plainOk (cutC 32 s).1 10 && !decide ((cutC 32 (cutC 32 s).2.1).1 = [])) := by rw [takeQ, if_neg h56, if_neg h64, if_neg h74, if_neg h88, if_neg h98, if_neg h106, if_neg h114]
  rw [crumb_and] at ht
  rw [ht]
  exact ⟨⟨r.A, r.c, A45, c45⟩, rfl, trivial, hM.keep (ks := [(0, 999)]) (by repeat (first | exact kl_rest (by assumption) rfl | (apply kl_in; focus rfl))) _ ⟨by rw [hdB_cr]; rfl, rfl, by rw [crI_snoc]; rfl, trivial⟩⟩
/-! ### A round of the reader -/
def k8 (s : List UInt8) : Int := ixS (cutC 32 (cutC 10 s).1).1 kinds8 0
theorem k8_le (s : List UInt8) : -1 ≤ k8 s ∧ k8 s ≤ 7 := by
  have h := ixS_le (cutC 32 (cutC 10 s).1).1 kinds8 (Int.le_refl 0)
  have h5 : ((kinds8.length : Nat) : Int) = 8 := rfl
  unfold k8; omega
theorem kn_k8 (s : List UInt8) : knQ s = if (cutC 32 (cutC 10 s).1).1 = faB then 8 else k8 s := kind_8 _
def h40Q (s : List UInt8) (last : Int) : Bool := (cutC 10 s).2.2 && decide ((cutC 10 s).1 = faB) && decide (4 ≤ stQ last)
def h71Q (s : List UInt8) (last : Int) : Bool := !(cutC 10 s).2.2 || !isQ s || decide (k8 s < 0) || (decide (stQ last < 4) && !decide (k8 s = stQ last)) || (decide (4 ≤ stQ last) && decide (k8 s < stQ last))
theorem hr_end {f : Nat} {s : List UInt8} {n : Nat} {last : Int} {h : Hd} (hl : -1 ≤ last ∧ last ≤ 7) (h1 : h40Q s last = true) : rdL (f + 1) s n last h = .inl (h, (cutC 10 s).2.1, n) := by
  simp only [h40Q, Bool.and_eq_true] at h1
  obtain ⟨⟨ha, hb⟩, hc⟩ := h1
  rw [line_fa, Bool.and_eq_true, decide_eq_true_eq] at hb
  have hbad : badL s last = false := by rw [badL, ha, hb.1, fol_8 hl, hc]; rfl
  rw [rdL, if_neg (by rw [hbad]; decide), if_pos hb.1, if_neg (by have := hb.2; simp only [Bool.not_eq_true'] at this; rw [this]; decide)]
theorem hr_bad {f : Nat} {s : List UInt8} {n : Nat} {last : Int} {h : Hd} (hl : -1 ≤ last ∧ last ≤ 7) (h1 : h40Q s last = false) (h2 : h71Q s last = true) : rdL (f + 1) s n last h = .inr n := by
  rw [rdL]
  by_cases hb : badL s last = true
  · rw [if_pos hb]
  rw [if_neg hb]
  have hb2 : badL s last = false := by simpa using hb
  simp only [badL, Bool.or_eq_false_iff, Bool.not_eq_false', decide_eq_false_iff_not] at hb2
  obtain ⟨⟨ha, hk⟩, hf⟩ := hb2
  by_cases h8 : knQ s = 8
  · rw [if_pos h8]
    by_cases hi : isQ s = true
    · rw [if_pos hi]
    · have hi : isQ s = false := by simpa using hi
      rw [h8, fol_8 hl] at hf
      rw [h40Q, ha, line_fa, h8, hi, hf] at h1
      exact absurd h1 (by decide)
  · rw [if_neg h8]
    have hw : (cutC 32 (cutC 10 s).1).1 ≠ faB := fun e => h8 (by rw [kn_k8, if_pos e])
    have hkk : knQ s = k8 s := by rw [kn_k8, if_neg hw]
    have hk8 := k8_le s
    rw [hkk] at hk hf
    rw [fol_st hl (by omega)] at hf
    rw [h71Q, ha, decide_eq_false hk] at h2
    simp only [Bool.not_true, Bool.false_or, Bool.or_false] at h2
    cases hi : isQ s with
    | false => rw [if_pos (by rfl)]
    | true =>
      rw [hi] at h2
      simp only [Bool.not_true, Bool.false_or] at h2
      rw [h2] at hf; cases hf
theorem hr_go {f : Nat} {s : List UInt8} {n : Nat} {last : Int} {h : Hd} (hl : -1 ≤ last ∧ last ≤ 7) (h2 : h71Q s last = false) : (0 ≤ k8 s ∧ (cutC 10 s).2.2 = true) ∧ rdL (f + 1) s n last h = if (!(takeQ h (k8 s) (rsQ s)).2) = true then .inr n else rdL f (cutC 10 s).2.1 (n + 1) (k8 s) (takeQ h (k8 s) (rsQ s)).1 := by
  have hk8 := k8_le s
  have h3 := h2
  simp only [h71Q, Bool.or_eq_false_iff, Bool.not_eq_false', decide_eq_false_iff_not] at h3
  obtain ⟨⟨⟨⟨ha, hi⟩, hk⟩, hs1⟩, hs2⟩ := h3
  have hw : (cutC 32 (cutC 10 s).1).1 ≠ faB := fun e => hk (by unfold k8; rw [e, ix8_fa]; decide)
  have hkk : knQ s = k8 s := by rw [kn_k8, if_neg hw]
  have hf : folQ last (k8 s) = true := by rw [fol_st hl (by omega), hs1, hs2]; rfl
  have hbad : badL s last = false := by rw [badL, ha, hkk, hf, decide_eq_false hk]; rfl
  refine ⟨⟨by omega, ha⟩, ?_⟩
  rw [rdL, if_neg (by rw [hbad]; decide), hkk, if_neg (by omega), hi, Bool.not_true, Bool.false_or]
def hrN : (Hd × List UInt8 × Nat) ⊕ Nat → Hd × Nat × List UInt8 × Int
  | .inl (h, r, n) => (h, n, r, 0)
  | .inr n => (hd0, n, [], 8)
set_option maxRecDepth 8000 in
set_option maxHeartbeats 3200000 in
theorem HeadRead_any {w0 : World} {K : HL} (hK : FromK K) (u : List UInt8) (hu : u.length ≤ 1000000) (w : World) (hM0 : Mem w0 ([] ++ K) w) :
    Calls Tryz.prog 55 #[str u] w fun e w' => ∃ y : HdR, e = .returned (.tuple #[evV (hrN (rdR u)).1 y, .int .i64 (((hrN (rdR u)).2.1 : Nat) : Int), str (hrN (rdR u)).2.2.1, .int .i64 (hrN (rdR u)).2.2.2]) ∧ True ∧ Mem w0 ([(906, tgI y.A y.c (hrN (rdR u)).1.ta), (907, crI y.B y.d (hrN (rdR u)).1.cr)] ++ K) w' := by
  refine enterM_args (args := [str u]) (F := _) hM0 Tryz.func55 rfl Tryz.ntmps55 rfl rfl ?_
  intro Rb hRb hRn
  refine tx ?_
  refine S_alloc 2 2 rfl rfl rfl rfl z26 ?_
  intro b2
  refine S_nilSlice 906 (e := 83) (size := 2) ?_
  refine S_nilSlice 907 (e := 85) (size := 3) ?_
  refine sr 3 ?_
  refine sgx ?_
  refine sr 1 ?_
  refine sgx ?_
  refine sr 1 ?_
  refine sgo ?_
  refine T_block ?_
  refine lK6 (kf := [(0, 0), (3, 84)]) (kl := [(0, 0), (2, 84), (906, 907)]) (fun (s : List UInt8) (n : Nat) (last : Int) (h : Hd) (r : HdR) (k : Nat) => [(0, true, str s), (6, true, .int .i64 (stQ last)), (3, true, .int .i64 (n : Int))]) (fun (s : List UInt8) (n : Nat) (last : Int) (h : Hd) (r : HdR) (k : Nat) => [(2, hdB b2 h r), (906, tgI r.A r.c h.ta), (907, crI r.B r.d h.cr)]) (fun (s : List UInt8) (n : Nat) (last : Int) (h : Hd) (r : HdR) (k : Nat) => (1 ≤ n ∧ n + s.length ≤ u.length + 1) ∧ (-1 ≤ last ∧ last ≤ 7) ∧ h.ta.length ≤ n ∧ h.cr.length ≤ n ∧ rdL (k + 1) s n last h = rdR u ∧ s.length ≤ k) (fun (s : List UInt8) (n : Nat) (last : Int) (h : Hd) (r : HdR) (k : Nat) => s.length) u 1 (-1) hd0 ⟨none, 0, none, 0⟩ u.length ?_ ?_ ?_ ?_
  · exact ⟨by omega, by omega, Nat.zero_le _, Nat.zero_le _, rfl, Nat.le_refl _⟩
  · exact ⟨rfl, rfl, rfl, trivial⟩
  · exact ⟨rfl, rfl, rfl, trivial⟩
  rintro s n last h r k ⟨hp1, hp2, hp3, hp4, hp5, hp6⟩
  have hc1 := cut_le 10 s
  have hc2 := cut_le 32 (cutC 10 s).1
  have hkl := k8_le s
  have hrl : (rsQ s).length ≤ s.length := by show (cutC 32 (cutC 10 s).1).2.1.length ≤ _; omega
  refine T_seq ?_
  refine T_block ?_
  refine tx ?_
  refine sr 1 ?_
  refine s1 (y_call rfl rfl rfl cf79 (fun _ w _ => Cut1_any s 10 w (by omega))) ?_
  refine sr 7 ?_
  refine sgx ?_
  refine sr 1 ?_
  refine s1 (y_call rfl rfl rfl cf79 (fun _ w _ => Cut1_any (cutC 10 s).1 32 w (by omega))) ?_
  refine sr 7 ?_
  refine sgx ?_
  refine sr 2 ?_
  refine sgx ?_
  refine S_buildSlice 29 29 rfl rfl rfl rfl rfl Tryz.underlying53 inf9 rfl (by decide) (by decide) rfl rfl (by decide) rfl (kinds8.flatMap strE) ?_ ?_
  · rfl
  intro b29
  refine sr 1 ?_
  refine s1 (y_as (v' := .int .i64 (k8 s)) (by exact rfl) (y_call rfl rfl rfl cf132 (fun _ w hM => IndexSt_any _ _ _ kinds8 (cutC 32 (cutC 10 s).1).1 w (owned_T (enc := strE) hM rfl (i := 29) rfl) (by decide)))) ?_
  refine sr 1 ?_
  refine sgs ?_
  refine tx ?_
  refine sr 2 ?_
  refine sg rfl (y_move rfl rfl) ?_
  refine sg rfl (y_bin rfl rfl rfl (fun _ => b_eqls)) ?_
  refine s1 (y_and rfl rfl rfl) ?_
  refine sr 1 ?_
  refine sg rfl (y_move rfl rfl) ?_
  refine sg rfl (y_bin rfl rfl rfl (fun _ => b_geq)) ?_
  refine s1 (y_as (v' := .bool (h40Q s last)) (by exact rfl) (y_and rfl rfl rfl)) ?_
  refine sgo ?_
  refine T_cond rfl ?_ ?_ <;> intro h40
  · skip
    have hres : rdR u = .inl (h, (cutC 10 s).2.1, n) := by rw [← hp5, hr_end hp2 h40]
    refine tx ?_
    refine s1 (yA 2 rfl Tryz.underlying26 sz26) ?_
    refine sr 2 ?_
    refine S_store 2 rfl rfl rfl rfl rfl rfl sz26 rfl rfl ?_
    refine sr 3 ?_
    refine sgo ?_
    refine T_ret (fun a w hF hM => hRb a w (post_cell3 2 rfl rfl rfl rfl rfl rfl Tryz.underlying26 rfl (by exact sz26) (fun w hM => ?_) a w hF hM))
    exact ⟨r, by rw [hres]; rfl, trivial, by rw [hres]; exact hM.keep (ks := [(0, 999)]) (by repeat (first | exact kl_rest (by assumption) rfl | (apply kl_in; focus rfl))) _ ⟨rfl, rfl, trivial⟩⟩
  refine kgs ?_
  refine tx ?_
  refine sr 3 ?_
  refine sg rfl (y_move rfl rfl) ?_
  refine sg rfl (y_not rfl rfl) ?_
  refine s1 (y_or rfl rfl rfl) ?_
  refine sr 1 ?_
  refine sg rfl (y_move rfl rfl) ?_
  refine sg rfl (y_bin rfl rfl rfl (fun _ => b_lss)) ?_
  refine s1 (y_or rfl rfl rfl) ?_
  refine sr 1 ?_
  refine sg rfl (y_move rfl rfl) ?_
  refine sg rfl (y_bin rfl rfl rfl (fun _ => b_lss)) ?_
  refine sg rfl (y_move rfl rfl) ?_
  refine sg rfl (y_move rfl rfl) ?_
  refine sg rfl (y_move rfl rfl) ?_
  refine sg rfl (y_bin rfl rfl rfl (fun _ => b_neq)) ?_
  refine sg rfl (y_and rfl rfl rfl) ?_
  refine s1 (y_or rfl rfl rfl) ?_
  refine sr 1 ?_
  refine sg rfl (y_move rfl rfl) ?_
  refine sg rfl (y_bin rfl rfl rfl (fun _ => b_geq)) ?_
  refine sg rfl (y_move rfl rfl) ?_
  refine sg rfl (y_move rfl rfl) ?_
  refine sg rfl (y_move rfl rfl) ?_
  refine sg rfl (y_bin rfl rfl rfl (fun _ => b_lss)) ?_
  refine sg rfl (y_and rfl rfl rfl) ?_
  refine s1 (y_as (v' := .bool (h71Q s last)) (by exact rfl) (y_or rfl rfl rfl)) ?_
  refine sgo ?_
  refine T_cond rfl ?_ ?_ <;> intro h71
  · skip
    have hres : rdR u = .inr n := by rw [← hp5, hr_bad hp2 h40 h71]
    refine tx ?_
    refine s1 (y_build (zv := .agg #[.string ⟨#[]⟩, .int .i64 0, .int .i64 0, .slice none 0 0, .slice none 0 0, .slice none 0 0, .string ⟨#[]⟩, .string ⟨#[]⟩, .int .i64 0]) (pl := [(0, 1), (1, 1), (2, 1), (3, 1), (4, 1), (5, 1), (6, 1), (7, 1), (8, 1)]) (out := [.string ⟨#[]⟩, .int .i64 0, .int .i64 0, .slice none 0 0, .slice none 0 0, .slice none 0 0, .string ⟨#[]⟩, .string ⟨#[]⟩, .int .i64 0]) rfl rfl Tryz.underlying26 z26 (by kernel_rfl) rfl) ?_
    refine sr 1 ?_
    refine S_store 2 rfl rfl rfl rfl rfl rfl sz26 rfl rfl ?_
    refine sr 3 ?_
    refine sgo ?_
    refine T_ret (fun a w hF hM => hRb a w (post_cell3 2 rfl rfl rfl rfl rfl rfl Tryz.underlying26 rfl (by exact sz26) (fun w hM => ?_) a w hF hM))
    have hM := (hM.add 907 (crI none 0 []) rfl (World.ownsRow_nil _ _ _ _)).add 906 (tgI none 0 []) rfl (World.ownsRow_nil _ _ _ _)
    exact ⟨⟨none, 0, none, 0⟩, by rw [hres]; rfl, trivial, by rw [hres]; exact hM.keep (ks := [(0, 999)]) (by repeat (first | exact kl_rest (by assumption) rfl | (apply kl_in; focus rfl))) _ ⟨rfl, rfl, trivial⟩⟩
  obtain ⟨⟨hk0, hen⟩, hgo0⟩ := hr_go (f := k) (n := n) (h := h) hp2 h71
  rw [hp5] at hgo0
  have hshr := cut_shr hen
  refine kgs ?_
  refine tx ?_
  refine sr 2 ?_
  refine S_callM 76 [(901, 2), (906, 906), (907, 907)] (X := HdR) rfl rfl rfl rfl rfl rfl rfl cf133 rfl (fun _ => .bool (takeQ h (k8 s) (rsQ s)).2) (fun _ => True) (fun y => [(901, hdB b2 (takeQ h (k8 s) (rsQ s)).1 y), (906, tgI y.A y.c (takeQ h (k8 s) (rsQ s)).1.ta), (907, crI y.B y.d (takeQ h (k8 s) (rsQ s)).1.cr)]) (fun _ => rfl) (fun _ => rfl) (fun K1 hK1 w hM => rheadLine_any hK1 b2 h r (by omega) (by omega) (k8 s) (by omega) (rsQ s) (by omega) w hM) ?_
  intro y _
  refine sr 1 ?_
  refine sgo ?_
  refine T_cond rfl ?_ ?_ <;> intro h77
  · skip
    have hres : rdR u = .inr n := by rw [hgo0, if_pos h77]
    refine tx ?_
    refine s1 (y_build (zv := .agg #[.string ⟨#[]⟩, .int .i64 0, .int .i64 0, .slice none 0 0, .slice none 0 0, .slice none 0 0, .string ⟨#[]⟩, .string ⟨#[]⟩, .int .i64 0]) (pl := [(0, 1), (1, 1), (2, 1), (3, 1), (4, 1), (5, 1), (6, 1), (7, 1), (8, 1)]) (out := [.string ⟨#[]⟩, .int .i64 0, .int .i64 0, .slice none 0 0, .slice none 0 0, .slice none 0 0, .string ⟨#[]⟩, .string ⟨#[]⟩, .int .i64 0]) rfl rfl Tryz.underlying26 z26 (by kernel_rfl) rfl) ?_
    refine sr 1 ?_
    refine S_store 2 rfl rfl rfl rfl rfl rfl sz26 rfl rfl ?_
    refine sr 3 ?_
    refine sgo ?_
    refine T_ret (fun a w hF hM => hRb a w (post_cell3 2 rfl rfl rfl rfl rfl rfl Tryz.underlying26 rfl (by exact sz26) (fun w hM => ?_) a w hF hM))
    have hM := (hM.add 907 (crI none 0 []) rfl (World.ownsRow_nil _ _ _ _)).add 906 (tgI none 0 []) rfl (World.ownsRow_nil _ _ _ _)
    exact ⟨⟨none, 0, none, 0⟩, by rw [hres]; rfl, trivial, by rw [hres]; exact hM.keep (ks := [(0, 999)]) (by repeat (first | exact kl_rest (by assumption) rfl | (apply kl_in; focus rfl))) _ ⟨rfl, rfl, trivial⟩⟩
  have hgo : rdR u = rdL k (cutC 10 s).2.1 (n + 1) (k8 s) (takeQ h (k8 s) (rsQ s)).1 := by rw [hgo0, if_neg (by rw [h77]; decide)]
  refine kgx ?_
  refine sr 1 ?_
  refine s1 (y_bin rfl rfl rfl (fun hg => b_addv (k8 s + 1) (by omega) (by omega))) ?_
  refine sr 1 ?_
  refine sgx ?_
  refine sr 2 ?_
  refine sgo ?_
  refine T_mid (kf := [(6, 6), (84, 84)]) (kl := [(6, 6), (84, 84)]) (fun v : Unit => [(6, true, .int .i64 (stQ (k8 s)))]) (fun v : Unit => []) (by repeat (first | exact kf_nil | (apply kf_in; focus rfl) | (apply kf_out; focus rfl))) (by repeat (first | exact kl_nil | exact kl_rest (by assumption) rfl | (apply kl_in; focus rfl) | (apply kl_out; focus rfl))) ?_ ?_
  · skip
    refine T_cond rfl ?_ ?_ <;> intro h83
    · try simp only [nrm] at h83
      refine T_region ?_
      refine sr 2 ?_
      refine S_nil (mid_end (kf := [(6, 6), (84, 84)]) (kl := [(6, 6), (84, 84)]) (()) (by repeat (first | exact kf_nil | (apply kf_in; focus rfl) | (apply kf_out; focus rfl))) (by repeat (first | exact kl_nil | exact kl_rest (by assumption) rfl | (apply kl_in; focus rfl) | (apply kl_out; focus rfl))) ?_ ?_)
      · exact ⟨by rw [st_next ⟨hk0, hkl.2⟩, if_pos (by omega)]; rfl, trivial⟩
      · exact trivial
    try simp only [nrm] at h83
    refine T_skip (mid_end (kf := [(6, 6), (84, 84)]) (kl := [(6, 6), (84, 84)]) (()) (by repeat (first | exact kf_nil | (apply kf_in; focus rfl) | (apply kf_out; focus rfl))) (by repeat (first | exact kl_nil | exact kl_rest (by assumption) rfl | (apply kl_in; focus rfl) | (apply kl_out; focus rfl))) ?_ ?_)
    · exact ⟨by rw [st_next ⟨hk0, hkl.2⟩, if_neg (by omega)]; rfl, trivial⟩
    · exact trivial
  intro v
  refine sgr ?_
  refine sr 1 ?_
  refine s1 (y_bin rfl rfl rfl (fun hg => b_addv (((n + 1 : Nat) : Int)) (by omega) (by omega))) ?_
  refine sr 1 ?_
  refine S_nil (nK6 (kf := [(0, 0), (3, 84)]) (kl := [(0, 0), (2, 84), (906, 907)]) (cutC 10 s).2.1 (n + 1) (k8 s) (takeQ h (k8 s) (rsQ s)).1 y (k - 1) ?_ ?_ ?_ ?_)
  · omega
  · exact ⟨by omega, by omega, by have := takeQ_len h (k8 s) (rsQ s); omega, by have := takeQ_len h (k8 s) (rsQ s); omega, by rw [hgo, show k - 1 + 1 = k from by omega], by omega⟩
  · exact ⟨rfl, rfl, rfl, trivial⟩
  · exact ⟨rfl, rfl, rfl, trivial⟩
end Go.Proofs.YtgbldojgbpgjbaaGreatDoor
end
section
namespace Go.Proofs.YtgbldojgbpgjbaaGreatDoor
set_option linter.unusedSimpArgs false
set_option linter.unusedVariables false
set_option maxRecDepth 20000
open Go.RowKit Go.Eng
theorem lineC_any {w0 : World} {K : HL} (hK : FromK K) (b : Nat) (ad : Value) (A : Option Addr) (c : Nat) (l : List UInt8) (B : Option Addr) (d : Nat) (ws : List (List UInt8)) (had : ad = .pointer none ∨ ad = selfP b) (hn : ws.length ≤ 100) (hlen : l.length + (lnT ws).length ≤ 140737488355328) (w : World) (hM0 : Mem w0 ([(0, bB b ad A c l), (1, bR A c l), (2, wsI B d ws)] ++ K) w) :
    Calls Tryz.prog 30 #[.slice B ws.length d, selfP b] w fun e w' => ∃ x : Option Addr × Nat, e = .returned (.tuple #[]) ∧ True ∧ Mem w0 ([(0, bB b (selfP b) x.1 x.2 (l ++ lnT ws)), (1, bR x.1 x.2 (l ++ lnT ws)), (2, wsI B d ws)] ++ K) w' := by
  have hjl : (jnS [32] ws).length + 1 = (lnT ws).length := by rw [lnT, List.length_append]; rfl
  refine enterM_args (args := [.slice B ws.length d, selfP b]) (F := _) hM0 Tryz.func30 rfl Tryz.ntmps30 rfl rfl ?_
  intro Rb hRb hRn
  refine T_region ?_
  refine sr 1 ?_
  refine s1 (y_call rfl rfl rfl cf32 (fun _ w hM => JoinS_any [32] _ _ _ ws w (row_ok (enc := strE) (hM.sat 2 _ rfl) rfl).t (row_ok (enc := strE) (hM.sat 2 _ rfl) rfl).cap (by omega) (by omega))) ?_
  refine s1 (y_as (v' := str (lnT ws)) (by exact rfl) (y_bin rfl rfl rfl (fun hg => b_adds (by first | omega | (simp only [List.length_append, List.length_cons, List.length_nil]; omega))))) ?_
  refine S_callM 6 [(0, 0), (1, 1)] (X := Option Addr × Nat) rfl rfl rfl rfl rfl rfl rfl cf31 rfl (fun _ => .tuple #[.int .i64 (lnT ws).length, .nilIface]) (fun _ => True) (fun z0 => [(0, bB b (selfP b) z0.1 z0.2 (l ++ lnT ws)), (1, bR z0.1 z0.2 (l ++ lnT ws))]) (fun _ => rfl) (fun _ => rfl) (fun K1 hK1 w hM => (WStr_any hK1 b _ _ _ (l) (lnT ws) (had) (by omega) w hM).mono fun e w1 h => h.elim fun x h => ⟨x, h.1, trivial, h.2.2⟩) ?_
  intro x6 hx6
  refine S_nil (fun a w hF hM => hRn a w (post0 rfl (fun w hM => ?_) a w hF hM))
  exact ⟨(x6.1, x6.2), rfl, trivial, hM.keep (ks := [(0, 999)]) (by repeat (first | exact kl_rest (by assumption) rfl | (apply kl_in; focus rfl))) _ ⟨rfl, rfl, rfl, trivial⟩⟩
theorem lv_at {n : Int} (h : 1 ≤ n ∧ n ≤ 5) : levels[(n - 1).toNat]? = some (lvW n) := by
  have h1 : n = 1 ∨ n = 2 ∨ n = 3 ∨ n = 4 ∨ n = 5 := by omega
  rcases h1 with rfl | rfl | rfl | rfl | rfl <;> rfl
theorem text_wr {e : Evt} (h : evNo e = 0) (h2 : ¬ wrNo e.fa = 0) : textNo e = wrNo e.fa := by
  refine fst_b h ?_
  unfold wrNo at h2 ⊢
  by_cases h3 : bangL e.fa.l = true
  · rw [if_pos h3, if_pos h3]
  · rw [if_neg h3] at h2 ⊢
    by_cases h4 : (1000000 : Int) < (writeT none (e.fa.l.map pfl)).length
    · rw [if_neg h3, if_pos h4, if_pos (by show (1000000 : Int) < (hdT e ++ writeT none (e.fa.l.map pfl)).length; rw [List.length_append]; omega)]
    · rw [if_neg h4] at h2; exact absurd rfl h2
theorem wr_bang {l : Sl Flt} (h : wrNo l = 0) : ¬ bangL l.l = true ∧ wrS l = writeT none (l.l.map pfl) := by
  refine ⟨fun h2 => ?_, if_pos h⟩
  rw [wrNo, if_pos h2] at h; cases h
set_option maxHeartbeats 3200000 in
theorem eText_any (e : Evt) (w : World) (he : e.Ok w) (hP : P10 w) (hT : TzTab w) :
    Calls Tryz.prog 9 #[e.val] w fun en w' => en = .returned (.tuple #[str (textS e), .int .i64 (textNo e)]) ∧ Below w.heap.size w w' := by
  have hta := he.ta.ok.t
  have hcr := he.cr.ok.t
  have htlen := hta.len
  have hclen := hcr.len
  refine enter_args (args := [.agg #[str e.id, .int .i64 e.at_, .int .i64 e.lv, .slice e.fa.A e.fa.q e.fa.c, .slice e.ta.A e.ta.q e.ta.c, .slice e.cr.A e.cr.q e.cr.c, str e.rel, str e.us, .int .i64 e.wt]]) (F := _) Tryz.func9 rfl Tryz.ntmps9 rfl rfl ?_
  intro Rb hRb hRn
  refine tx ?_
  refine S_box 1 1 rfl rfl rfl rfl rfl ?_
  intro b1
  refine sr 2 ?_
  refine sgs ?_
  refine tx ?_
  refine s1 (yA 1 rfl Tryz.underlying26 sz26) ?_
  refine s1 (y_call rfl rfl rfl cf6 (fun _ w hM => Check_any _ w (he.below hM.below))) ?_
  refine sr 1 ?_
  refine sgx ?_
  refine sr 2 ?_
  refine sgo ?_
  refine T_cond rfl ?_ ?_ <;> intro h16
  · try simp only [nrm] at h16
    refine tx ?_
    refine sr 3 ?_
    refine sgo ?_
    refine tr2 hRb fun w hM => ?_
    have h16 : ¬ evNo e = 0 := h16
    have e1 : textNo e = evNo e := fst_a rfl h16
    exact ⟨by rw [textS, e1, if_neg h16], hM.below⟩
  try simp only [nrm] at h16
  have h16 : evNo e = 0 := h16
  have hN := evNo_right he h16
  have hfn : faultsNo e.fa = 0 := (fst_zero (fst_zero h16).2).1
  obtain ⟨hid, hat, hlv, htq, htn, hcq, hcn, hrl, hul, hwt, hfq, hfr⟩ := id hN
  refine kgx ?_
  refine s1 (yF fa26_3) ?_
  refine s1 (yL 1 Tryz.underlying22) ?_
  refine s1 (y_call rfl rfl rfl cf29 (fun _ w1 hM => sWrite_any e.fa w1 (he.fa.below hM.below) hfn (hP.below hM.below) (hT.below hM.below))) ?_
  refine sr 5 ?_
  refine sgs ?_
  refine tx ?_
  refine sr 2 ?_
  refine sgo ?_
  refine T_cond rfl ?_ ?_ <;> intro h25
  · try simp only [nrm] at h25
    refine tx ?_
    refine sr 3 ?_
    refine sgo ?_
    refine tr2 hRb fun w hM => ?_
    have h25 : ¬ wrNo e.fa = 0 := h25
    have e1 := text_wr h16 h25
    exact ⟨by rw [textS, e1, if_neg h25]; rfl, hM.below⟩
  try simp only [nrm] at h25
  have h25 : wrNo e.fa = 0 := h25
  obtain ⟨hbg, hws⟩ := wr_bang h25
  have hi1 := it21 hat
  have hi2 := it21 (n := e.wt) (by omega)
  have hl1 := lvW_le e.lv
  have h4l := hd4T_le hN
  have h5l := hd5T_le hN
  have h6l := hd6T_le hN
  have hdl := hdT_le hN
  have hwl := writeT_le (n := 0) (p := none) hfr
  have htl := flat_le (f := tagT) fun t ht => tagT_le (hN.ta t ht)
  have hcl := flat_le (f := crumbT) fun t ht => crumbT_le (hN.cr t ht)
  have hel : (evT e).length = (hdT e).length + (writeT none (e.fa.l.map pfl)).length := List.length_append
  have hd2 : 2 ≤ (hd4T e).length := by simp only [hd4T, List.length_append, ln2_le]; omega
  have hd3 : 2 ≤ (hdT e).length := by simp only [hdT, hd6T, hd5T, List.length_append]; omega
  have hfl : (hd6T e ++ e.ta.l.flatMap tagT ++ e.cr.l.flatMap crumbT).length + (lnT [kFa]).length = (hdT e).length := List.length_append.symm
  refine kgx ?_
  refine S_alloc 7 7 rfl rfl rfl rfl z73 ?_
  intro b7
  refine S_nilSlice 900 (e := 5) (size := 1) ?_
  refine sgx ?_
  refine s1 (y_makeFunc rfl rfl rfl rfl rfl) ?_
  refine sr 1 ?_
  refine sgx ?_
  refine sr 1 ?_
  refine s1 (yF fa26_0) ?_
  refine s1 (yL 1 Tryz.underlying9) ?_
  refine S_buildSlice 31 31 rfl rfl rfl rfl rfl Tryz.underlying53 inf9 rfl (by decide) (by decide) rfl rfl (by decide) rfl ([kEv, e.id].flatMap strE) ?_ ?_
  · rfl
  intro b31
  refine S_callM 32 [(0, 7), (1, 900), (2, 31)] (X := Option Addr × Nat) rfl rfl rfl rfl rfl rfl rfl cf30 rfl (fun _ => .tuple #[]) (fun _ => True) (fun z0 => [(0, bB b7 (selfP b7) z0.1 z0.2 ([] ++ lnT [kEv, e.id])), (1, bR z0.1 z0.2 ([] ++ lnT [kEv, e.id])), (2, wsI (some ⟨b31, 0, none⟩) 2 [kEv, e.id])]) (fun _ => rfl) (fun _ => rfl) (fun K1 hK1 w1 hM => lineC_any hK1 b7 _ _ _ ([]) _ _ [kEv, e.id] (.inl rfl) (by simp) (by simp only [List.length_append, List.length_nil, ln2_le, ln3_le, ln4_le, List.length_cons]; omega) w1 hM) ?_
  intro x32 hx32
  refine S_keepM [(999, 999)] [(7, bB b7 (selfP b7) x32.1 x32.2 (lnT [kEv, e.id])), (900, bR x32.1 x32.2 (lnT [kEv, e.id])), (1, .blk b1 (IsBox e.enc 26))] (by repeat (first | exact kl_none | refine kl_cons rfl rfl ?_)) ?_
  refine sgx ?_
  refine sr 1 ?_
  refine s1 (yF fa26_1) ?_
  refine s1 (yL 1 Tryz.underlying3) ?_
  refine s1 (y_call rfl rfl rfl cf33 (fun _ w1 hM => Itoa_any _ (by omega) (by omega) w1 (hP.below hM.below))) ?_
  refine S_buildSlice 37 37 rfl rfl rfl rfl rfl Tryz.underlying53 inf9 rfl (by decide) (by decide) rfl rfl (by decide) rfl ([kAt, Lib.itoa e.at_].flatMap strE) ?_ ?_
  · rfl
  intro b37
  refine S_callM 38 [(0, 7), (1, 900), (2, 37)] (X := Option Addr × Nat) rfl rfl rfl rfl rfl rfl rfl cf30 rfl (fun _ => .tuple #[]) (fun _ => True) (fun z0 => [(0, bB b7 (selfP b7) z0.1 z0.2 ((lnT [kEv, e.id]) ++ lnT [kAt, Lib.itoa e.at_])), (1, bR z0.1 z0.2 ((lnT [kEv, e.id]) ++ lnT [kAt, Lib.itoa e.at_])), (2, wsI (some ⟨b37, 0, none⟩) 2 [kAt, Lib.itoa e.at_])]) (fun _ => rfl) (fun _ => rfl) (fun K1 hK1 w1 hM => lineC_any hK1 b7 _ _ _ ((lnT [kEv, e.id])) _ _ [kAt, Lib.itoa e.at_] (.inr rfl) (by simp) (by simp only [List.length_append, List.length_nil, ln2_le, ln3_le, ln4_le, List.length_cons]; omega) w1 hM) ?_
  intro x38 hx38
  refine S_keepM [(999, 999)] [(7, bB b7 (selfP b7) x38.1 x38.2 (lnT [kEv, e.id] ++ lnT [kAt, Lib.itoa e.at_])), (900, bR x38.1 x38.2 (lnT [kEv, e.id] ++ lnT [kAt, Lib.itoa e.at_])), (1, .blk b1 (IsBox e.enc 26))] (by repeat (first | exact kl_none | refine kl_cons rfl rfl ?_)) ?_
  refine sgs ?_
  refine T_perm [0, 2, 3, 4, 1, 5, 6, 7, 8] [true, false, true, true, true, false, false, false, false] [0, 0, 0, 4, 12, 30, 62, 126, 255] [(3, [1])] (by kernel_rfl) (by kernel_rfl) (by kernel_rfl) rfl (by kernel_rfl) ?_
  refine Rf_ 0 39 rfl rfl rfl rfl rfl _ trivial (Y.z (y_move rfl rfl) rfl) ?_
  refine Rf_ 2 41 rfl rfl rfl rfl rfl _ trivial (Y.z (yF fa26_2) rfl) ?_
  refine Rf_ 3 42 rfl rfl rfl rfl rfl _ ⟨rfl, trivial⟩ (Y.z (yL 1 Tryz.underlying3) rfl) ?_
  refine Rf_ 4 43 rfl rfl rfl rfl rfl _ trivial (Y.z (y_bin rfl rfl rfl (fun hg => b_subv ((((e.lv - 1).toNat : Nat) : Int)) (by omega) (by omega))) rfl) ?_
  refine R_chain 1 rfl rfl ?_
  refine S_callOwn 40 40 rfl rfl rfl rfl rfl rfl rfl cf34 (fun A c => .slice A (5) c) 9 1 (5) (levels.flatMap strE) (fun w hM => Levels_any w) ?_
  intro A40 c40
  refine R_next ⟨.inr ⟨rfl, trivial⟩, trivial⟩ ?_
  refine R_chain 5 rfl rfl ?_
  refine s1 (y_indexOwn 40 rfl rfl rfl rfl Tryz.underlying53 sz9 (fun _ => by omega)) ?_
  refine R_next ⟨.inl rfl, trivial⟩ ?_
  refine R_chain 6 rfl rfl ?_
  refine s1 (y_loadO1 40 (val := (fun l : List UInt8 => str l)) rfl rfl rfl rfl (fun _ => lv_at hlv) Tryz.underlying9 rfl) ?_
  refine R_next ⟨.inl rfl, trivial⟩ ?_
  refine R_chain 7 rfl rfl ?_
  refine S_buildSlice 46 46 rfl rfl rfl rfl rfl Tryz.underlying53 inf9 rfl (by decide) (by decide) rfl rfl (by decide) rfl ([kLv, lvW e.lv].flatMap strE) ?_ ?_
  · rfl
  intro b46
  refine R_next ⟨.inl rfl, trivial⟩ ?_
  refine R_chain 8 rfl rfl ?_
  refine S_callM 47 [(0, 7), (1, 900), (2, 46)] (X := Option Addr × Nat) rfl rfl rfl rfl rfl rfl rfl cf30 rfl (fun _ => .tuple #[]) (fun _ => True) (fun z0 => [(0, bB b7 (selfP b7) z0.1 z0.2 ((lnT [kEv, e.id] ++ lnT [kAt, Lib.itoa e.at_]) ++ lnT [kLv, lvW e.lv])), (1, bR z0.1 z0.2 ((lnT [kEv, e.id] ++ lnT [kAt, Lib.itoa e.at_]) ++ lnT [kLv, lvW e.lv])), (2, wsI (some ⟨b46, 0, none⟩) 2 [kLv, lvW e.lv])]) (fun _ => rfl) (fun _ => rfl) (fun K1 hK1 w1 hM => lineC_any hK1 b7 _ _ _ ((lnT [kEv, e.id] ++ lnT [kAt, Lib.itoa e.at_])) _ _ [kLv, lvW e.lv] (.inr rfl) (by simp) (by simp only [List.length_append, List.length_nil, ln2_le, ln3_le, ln4_le, List.length_cons]; omega) w1 hM) ?_
  intro x47 hx47
  refine R_next ⟨.inl rfl, trivial⟩ ?_
  refine R_go (fun _ _ h => h) ?_
  refine tx ?_
  refine sr 1 ?_
  refine s1 (yF fa26_8) ?_
  refine s1 (yL 1 Tryz.underlying3) ?_
  refine s1 (y_call rfl rfl rfl cf33 (fun _ w1 hM => Itoa_any _ (by omega) (by omega) w1 (hP.below hM.below))) ?_
  refine S_buildSlice 52 52 rfl rfl rfl rfl rfl Tryz.underlying53 inf9 rfl (by decide) (by decide) rfl rfl (by decide) rfl ([kWt, Lib.itoa e.wt].flatMap strE) ?_ ?_
  · rfl
  intro b52
  refine S_callM 53 [(0, 7), (1, 900), (2, 52)] (X := Option Addr × Nat) rfl rfl rfl rfl rfl rfl rfl cf30 rfl (fun _ => .tuple #[]) (fun _ => True) (fun z0 => [(0, bB b7 (selfP b7) z0.1 z0.2 ((lnT [kEv, e.id] ++ lnT [kAt, Lib.itoa e.at_] ++ lnT [kLv, lvW e.lv]) ++ lnT [kWt, Lib.itoa e.wt])), (1, bR z0.1 z0.2 ((lnT [kEv, e.id] ++ lnT [kAt, Lib.itoa e.at_] ++ lnT [kLv, lvW e.lv]) ++ lnT [kWt, Lib.itoa e.wt])), (2, wsI (some ⟨b52, 0, none⟩) 2 [kWt, Lib.itoa e.wt])]) (fun _ => rfl) (fun _ => rfl) (fun K1 hK1 w1 hM => lineC_any hK1 b7 _ _ _ ((lnT [kEv, e.id] ++ lnT [kAt, Lib.itoa e.at_] ++ lnT [kLv, lvW e.lv])) _ _ [kWt, Lib.itoa e.wt] (.inr rfl) (by simp) (by simp only [List.length_append, List.length_nil, ln2_le, ln3_le, ln4_le, List.length_cons]; omega) w1 hM) ?_
  intro x53 hx53
  refine S_keepM [(999, 999)] [(7, bB b7 (selfP b7) x53.1 x53.2 (hd4T e)), (900, bR x53.1 x53.2 (hd4T e)), (1, .blk b1 (IsBox e.enc 26))] (by repeat (first | exact kl_none | refine kl_cons rfl rfl ?_)) ?_
  refine sgs ?_
  refine tx ?_
  refine s1 (yF fa26_6) ?_
  refine s1 (yL 1 Tryz.underlying9) ?_
  refine s1 (y_bin rfl rfl rfl (fun _ => b_neqs)) ?_
  refine sgo ?_
  refine T_mid (kf := [(57, 61)]) (kl := [(7, 7), (31, 31), (37, 37), (40, 40), (46, 46), (52, 52), (57, 61), (900, 900)]) (fun y : Option Addr × Nat => []) (fun y : Option Addr × Nat => [(7, bB b7 (selfP b7) y.1 y.2 (hd5T e)), (900, bR y.1 y.2 (hd5T e))]) (by repeat (first | exact kf_nil | (apply kf_in; focus rfl) | (apply kf_out; focus rfl))) (by repeat (first | exact kl_nil | exact kl_rest (by assumption) rfl | (apply kl_in; focus rfl) | (apply kl_out; focus rfl))) ?_ ?_
  · skip
    refine T_cond rfl ?_ ?_ <;> intro h56
    · try simp only [nrm] at h56
      refine T_region ?_
      refine sr 1 ?_
      refine s1 (yF fa26_6) ?_
      refine s1 (yL 1 Tryz.underlying9) ?_
      refine S_buildSlice 60 60 rfl rfl rfl rfl rfl Tryz.underlying53 inf9 rfl (by decide) (by decide) rfl rfl (by decide) rfl ([kRel, e.rel].flatMap strE) ?_ ?_
      · rfl
      intro b60
      refine S_callM 61 [(0, 7), (1, 900), (2, 60)] (X := Option Addr × Nat) rfl rfl rfl rfl rfl rfl rfl cf30 rfl (fun _ => .tuple #[]) (fun _ => True) (fun z0 => [(0, bB b7 (selfP b7) z0.1 z0.2 ((hd4T e) ++ lnT [kRel, e.rel])), (1, bR z0.1 z0.2 ((hd4T e) ++ lnT [kRel, e.rel])), (2, wsI (some ⟨b60, 0, none⟩) 2 [kRel, e.rel])]) (fun _ => rfl) (fun _ => rfl) (fun K1 hK1 w1 hM => lineC_any hK1 b7 _ _ _ ((hd4T e)) _ _ [kRel, e.rel] (.inr rfl) (by simp) (by simp only [List.length_append, List.length_nil, ln2_le, ln3_le, ln4_le, List.length_cons]; omega) w1 hM) ?_
      intro x61 hx61
      refine S_nil (mid_end (kf := [(57, 61)]) (kl := [(7, 7), (31, 31), (37, 37), (40, 40), (46, 46), (52, 52), (57, 61), (900, 900)]) ((x61.1, x61.2)) (by repeat (first | exact kf_nil | (apply kf_in; focus rfl) | (apply kf_out; focus rfl))) (by repeat (first | exact kl_nil | exact kl_rest (by assumption) rfl | (apply kl_in; focus rfl) | (apply kl_out; focus rfl))) ?_ ?_)
      · exact trivial
      · exact ⟨by rw [hd5T, if_neg h56]; rfl, by rw [hd5T, if_neg h56]; rfl, trivial⟩
    try simp only [nrm] at h56
    refine T_skip (mid_end (kf := [(57, 61)]) (kl := [(7, 7), (31, 31), (37, 37), (40, 40), (46, 46), (52, 52), (57, 61), (900, 900)]) ((x53.1, x53.2)) (by repeat (first | exact kf_nil | (apply kf_in; focus rfl) | (apply kf_out; focus rfl))) (by repeat (first | exact kl_nil | exact kl_rest (by assumption) rfl | (apply kl_in; focus rfl) | (apply kl_out; focus rfl))) ?_ ?_)
    · exact trivial
    · exact ⟨by rw [hd5T, if_pos h56, List.append_nil]; rfl, by rw [hd5T, if_pos h56, List.append_nil]; rfl, trivial⟩
  intro y
  refine sgs ?_
  refine tx ?_
  refine s1 (yF fa26_7) ?_
  refine s1 (yL 1 Tryz.underlying9) ?_
  refine s1 (y_bin rfl rfl rfl (fun _ => b_neqs)) ?_
  refine sgo ?_
  refine T_mid (kf := [(65, 69)]) (kl := [(7, 7), (65, 69), (900, 900)]) (fun y2 : Option Addr × Nat => []) (fun y2 : Option Addr × Nat => [(7, bB b7 (selfP b7) y2.1 y2.2 (hd6T e)), (900, bR y2.1 y2.2 (hd6T e))]) (by repeat (first | exact kf_nil | (apply kf_in; focus rfl) | (apply kf_out; focus rfl))) (by repeat (first | exact kl_nil | exact kl_rest (by assumption) rfl | (apply kl_in; focus rfl) | (apply kl_out; focus rfl))) ?_ ?_
  · skip
    refine T_cond rfl ?_ ?_ <;> intro h64
    · try simp only [nrm] at h64
      refine T_region ?_
      refine sr 1 ?_
      refine s1 (yF fa26_7) ?_
      refine s1 (yL 1 Tryz.underlying9) ?_
      refine S_buildSlice 68 68 rfl rfl rfl rfl rfl Tryz.underlying53 inf9 rfl (by decide) (by decide) rfl rfl (by decide) rfl ([kUs, e.us].flatMap strE) ?_ ?_
      · rfl
      intro b68
      refine S_callM 69 [(0, 7), (1, 900), (2, 68)] (X := Option Addr × Nat) rfl rfl rfl rfl rfl rfl rfl cf30 rfl (fun _ => .tuple #[]) (fun _ => True) (fun z0 => [(0, bB b7 (selfP b7) z0.1 z0.2 ((hd5T e) ++ lnT [kUs, e.us])), (1, bR z0.1 z0.2 ((hd5T e) ++ lnT [kUs, e.us])), (2, wsI (some ⟨b68, 0, none⟩) 2 [kUs, e.us])]) (fun _ => rfl) (fun _ => rfl) (fun K1 hK1 w1 hM => lineC_any hK1 b7 _ _ _ ((hd5T e)) _ _ [kUs, e.us] (.inr rfl) (by simp) (by simp only [List.length_append, List.length_nil, ln2_le, ln3_le, ln4_le, List.length_cons]; omega) w1 hM) ?_
      intro x69 hx69
      refine S_nil (mid_end (kf := [(65, 69)]) (kl := [(7, 7), (65, 69), (900, 900)]) ((x69.1, x69.2)) (by repeat (first | exact kf_nil | (apply kf_in; focus rfl) | (apply kf_out; focus rfl))) (by repeat (first | exact kl_nil | exact kl_rest (by assumption) rfl | (apply kl_in; focus rfl) | (apply kl_out; focus rfl))) ?_ ?_)
      · exact trivial
      · exact ⟨by rw [hd6T, if_neg h64]; rfl, by rw [hd6T, if_neg h64]; rfl, trivial⟩
    try simp only [nrm] at h64
    refine T_skip (mid_end (kf := [(65, 69)]) (kl := [(7, 7), (65, 69), (900, 900)]) ((y.1, y.2)) (by repeat (first | exact kf_nil | (apply kf_in; focus rfl) | (apply kf_out; focus rfl))) (by repeat (first | exact kl_nil | exact kl_rest (by assumption) rfl | (apply kl_in; focus rfl) | (apply kl_out; focus rfl))) ?_ ?_)
    · exact trivial
    · exact ⟨by rw [hd6T, if_pos h64, List.append_nil]; rfl, by rw [hd6T, if_pos h64, List.append_nil]; rfl, trivial⟩
  intro y2
  refine sgs ?_
  refine tx ?_
  refine s1 (yF fa26_4) ?_
  refine s1 (yL 1 Tryz.underlying23) ?_
  refine s1 (y_len_slice rfl rfl Tryz.underlying23) ?_
  refine sr 1 ?_
  refine sgo ?_
  refine T_block ?_
  refine lK4 (kf := [(10, 10), (73, 84)]) (kl := [(7, 7), (10, 10), (73, 84), (900, 900)]) (fun (i : Nat) (L : List UInt8) (A : Option Addr) (c : Nat) => [(73, true, .int .i64 (i : Int))]) (fun (i : Nat) (L : List UInt8) (A : Option Addr) (c : Nat) => [(7, bB b7 (selfP b7) A c L), (900, bR A c L)]) (fun (i : Nat) (L : List UInt8) (A : Option Addr) (c : Nat) => i ≤ e.ta.q ∧ L ++ (e.ta.l.drop i).flatMap tagT = hd6T e ++ e.ta.l.flatMap tagT) (fun (i : Nat) (L : List UInt8) (A : Option Addr) (c : Nat) => e.ta.q - i) 0 (hd6T e) y2.1 y2.2 ?_ ?_ ?_ ?_
  · exact ⟨by omega, rfl⟩
  · exact ⟨rfl, trivial⟩
  · exact ⟨rfl, rfl, trivial⟩
  rintro i L A c ⟨hp1, hp2⟩
  refine tx ?_
  refine sr 1 ?_
  refine sgs ?_
  refine T_cond rfl ?_ ?_ <;> intro h74
  · try simp only [nrm] at h74
    obtain ⟨x, hx1, hx2⟩ := hta.at (i := i) (by omega)
    have hxn := htn x (mem_at hx1)
    have hlx := congrArg List.length hp2
    rw [hx2, List.flatMap_cons] at hp2
    simp only [List.length_append] at hlx
    refine kgs ?_
    refine T_block ?_
    refine tx ?_
    refine s1 (y_indexAddr rfl rfl rfl Tryz.underlying23 sz83 (fun hg => hta.isSome (by omega)) (fun _ => by omega)) ?_
    refine s1 (y_loadT rfl rfl hta (fun _ => rfl) (fun _ => hx1) Tryz.underlying83 rfl sz83) ?_
    refine S_alloc 10 10 rfl rfl rfl rfl z83 ?_
    intro b10
    refine S_store 10 rfl rfl rfl rfl rfl rfl sz83 rfl rfl ?_
    refine sgr ?_
    refine sr 1 ?_
    refine s1 (yF fa83_0) ?_
    refine s1 (yL 10 Tryz.underlying9) ?_
    refine s1 (yF fa83_1) ?_
    refine s1 (yL 10 Tryz.underlying9) ?_
    refine S_buildSlice 82 82 rfl rfl rfl rfl rfl Tryz.underlying53 inf9 rfl (by decide) (by decide) rfl rfl (by decide) rfl ([kTg, x.n, x.v].flatMap strE) ?_ ?_
    · rfl
    intro b82
    refine S_callM 83 [(0, 7), (1, 900), (2, 82)] (X := Option Addr × Nat) rfl rfl rfl rfl rfl rfl rfl cf30 rfl (fun _ => .tuple #[]) (fun _ => True) (fun z0 => [(0, bB b7 (selfP b7) z0.1 z0.2 (L ++ lnT [kTg, x.n, x.v])), (1, bR z0.1 z0.2 (L ++ lnT [kTg, x.n, x.v])), (2, wsI (some ⟨b82, 0, none⟩) 3 [kTg, x.n, x.v])]) (fun _ => rfl) (fun _ => rfl) (fun K1 hK1 w1 hM => lineC_any hK1 b7 _ _ _ (L) _ _ [kTg, x.n, x.v] (.inr rfl) (by simp) (by simp only [List.length_append, List.length_nil, ln2_le, ln3_le, ln4_le, List.length_cons]; omega) w1 hM) ?_
    intro x83 hx83
    refine sgr ?_
    refine s1 (y_bin rfl rfl rfl (fun hg => b_add (by omega))) ?_
    refine sr 1 ?_
    refine S_nil (nK4 (kf := [(10, 10), (73, 84)]) (kl := [(7, 7), (10, 10), (73, 84), (900, 900)]) (i + 1) (L ++ tagT x) x83.1 x83.2 ?_ ?_ ?_ ?_)
    · omega
    · exact ⟨by omega, by rw [← hp2, List.append_assoc]⟩
    · exact ⟨rfl, trivial⟩
    · exact ⟨rfl, rfl, trivial⟩
  try simp only [nrm] at h74
  have hL : L = hd6T e ++ e.ta.l.flatMap tagT := by rw [hta.end (by omega)] at hp2; rw [← hp2]; exact (List.append_nil L).symm
  subst hL
  refine egs ?_
  refine tx ?_
  refine s1 (yF fa26_5) ?_
  refine s1 (yL 1 Tryz.underlying24) ?_
  refine s1 (y_len_slice rfl rfl Tryz.underlying24) ?_
  refine sr 1 ?_
  refine sgo ?_
  refine T_block ?_
  refine lK4 (kf := [(12, 12), (88, 102)]) (kl := [(7, 7), (12, 12), (88, 102), (900, 900)]) (fun (i : Nat) (L : List UInt8) (A : Option Addr) (c : Nat) => [(88, true, .int .i64 (i : Int))]) (fun (i : Nat) (L : List UInt8) (A : Option Addr) (c : Nat) => [(7, bB b7 (selfP b7) A c L), (900, bR A c L)]) (fun (i : Nat) (L : List UInt8) (A : Option Addr) (c : Nat) => i ≤ e.cr.q ∧ L ++ (e.cr.l.drop i).flatMap crumbT = hd6T e ++ e.ta.l.flatMap tagT ++ e.cr.l.flatMap crumbT) (fun (i : Nat) (L : List UInt8) (A : Option Addr) (c : Nat) => e.cr.q - i) 0 (hd6T e ++ e.ta.l.flatMap tagT) A c ?_ ?_ ?_ ?_
  · exact ⟨by omega, rfl⟩
  · exact ⟨rfl, trivial⟩
  · exact ⟨rfl, rfl, trivial⟩
  rintro i L A c ⟨hp1, hp2⟩
  refine tx ?_
  refine sr 1 ?_
  refine sgs ?_
  refine T_cond rfl ?_ ?_ <;> intro h89
  · try simp only [nrm] at h89
    obtain ⟨x, hx1, hx2⟩ := hcr.at (i := i) (by omega)
    have hxn := hcn x (mem_at hx1)
    have hi3 := it21 hxn.1
    have hlx := congrArg List.length hp2
    rw [hx2, List.flatMap_cons] at hp2
    simp only [List.length_append] at hlx
    refine kgs ?_
    refine T_block ?_
    refine tx ?_
    refine s1 (y_indexAddr rfl rfl rfl Tryz.underlying24 sz85 (fun hg => hcr.isSome (by omega)) (fun _ => by omega)) ?_
    refine s1 (y_loadT rfl rfl hcr (fun _ => rfl) (fun _ => hx1) Tryz.underlying85 rfl sz85) ?_
    refine S_alloc 12 12 rfl rfl rfl rfl z85 ?_
    intro b12
    refine S_store 12 rfl rfl rfl rfl rfl rfl sz85 rfl rfl ?_
    refine sgo ?_
    refine T_perm [0, 1, 2, 4, 5, 6, 7, 3, 8, 9] [true, true, true, false, true, true, true, true, false, false] [0, 0, 2, 6, 0, 16, 0, 64, 254, 511] [(2, [12]), (5, [12]), (7, [12])] (by kernel_rfl) (by kernel_rfl) (by kernel_rfl) rfl (by kernel_rfl) ?_
    refine Rf_ 0 92 rfl rfl rfl rfl rfl _ trivial (Y.z (y_move rfl rfl) rfl) ?_
    refine Rf_ 1 93 rfl rfl rfl rfl rfl _ trivial (Y.z (yF fa85_0) rfl) ?_
    refine Rf_ 2 94 rfl rfl rfl rfl rfl _ ⟨rfl, trivial⟩ (Y.z (yL 12 Tryz.underlying3) rfl) ?_
    refine Rf_ 4 96 rfl rfl rfl rfl rfl _ trivial (Y.z (yF fa85_1) rfl) ?_
    refine Rf_ 5 97 rfl rfl rfl rfl rfl _ ⟨rfl, trivial⟩ (Y.z (yL 12 Tryz.underlying9) rfl) ?_
    refine Rf_ 6 98 rfl rfl rfl rfl rfl _ trivial (Y.z (yF fa85_2) rfl) ?_
    refine Rf_ 7 99 rfl rfl rfl rfl rfl _ ⟨rfl, trivial⟩ (Y.z (yL 12 Tryz.underlying9) rfl) ?_
    refine R_chain 3 rfl rfl ?_
    refine s1 (y_call rfl rfl rfl cf33 (fun _ w1 hM => Itoa_any _ (by omega) (by omega) w1 (hP.below hM.below))) ?_
    refine R_next ⟨.inl rfl, .inr ⟨rfl, trivial⟩, .inr ⟨rfl, trivial⟩, trivial⟩ ?_
    refine R_chain 8 rfl rfl ?_
    refine S_buildSlice 100 100 rfl rfl rfl rfl rfl Tryz.underlying53 inf9 rfl (by decide) (by decide) rfl rfl (by decide) rfl ([kCr, Lib.itoa x.at_, x.k, x.t].flatMap strE) ?_ ?_
    · rfl
    intro b100
    refine R_next ⟨.inl rfl, .inl rfl, .inl rfl, trivial⟩ ?_
    refine R_chain 9 rfl rfl ?_
    refine S_callM 101 [(0, 7), (1, 900), (2, 100)] (X := Option Addr × Nat) rfl rfl rfl rfl rfl rfl rfl cf30 rfl (fun _ => .tuple #[]) (fun _ => True) (fun z0 => [(0, bB b7 (selfP b7) z0.1 z0.2 (L ++ lnT [kCr, Lib.itoa x.at_, x.k, x.t])), (1, bR z0.1 z0.2 (L ++ lnT [kCr, Lib.itoa x.at_, x.k, x.t])), (2, wsI (some ⟨b100, 0, none⟩) 4 [kCr, Lib.itoa x.at_, x.k, x.t])]) (fun _ => rfl) (fun _ => rfl) (fun K1 hK1 w1 hM => lineC_any hK1 b7 _ _ _ (L) _ _ [kCr, Lib.itoa x.at_, x.k, x.t] (.inr rfl) (by simp) (by simp only [List.length_append, List.length_nil, ln2_le, ln3_le, ln4_le, List.length_cons]; omega) w1 hM) ?_
    intro x101 hx101
    refine R_next ⟨.inl rfl, .inl rfl, .inl rfl, trivial⟩ ?_
    refine R_go (fun _ _ h => h) ?_
    refine T_region ?_
    refine s1 (y_bin rfl rfl rfl (fun hg => b_add (by omega))) ?_
    refine sr 1 ?_
    refine S_nil (nK4 (kf := [(12, 12), (88, 102)]) (kl := [(7, 7), (12, 12), (88, 102), (900, 900)]) (i + 1) (L ++ crumbT x) x101.1 x101.2 ?_ ?_ ?_ ?_)
    · omega
    · exact ⟨by omega, by rw [← hp2, List.append_assoc]⟩
    · exact ⟨rfl, trivial⟩
    · exact ⟨rfl, rfl, trivial⟩
  try simp only [nrm] at h89
  have hL : L = hd6T e ++ e.ta.l.flatMap tagT ++ e.cr.l.flatMap crumbT := by rw [hcr.end (by omega)] at hp2; rw [← hp2]; exact (List.append_nil L).symm
  subst hL
  refine egx ?_
  refine sr 1 ?_
  refine S_buildSlice 104 104 rfl rfl rfl rfl rfl Tryz.underlying53 inf9 rfl (by decide) (by decide) rfl rfl (by decide) rfl ([kFa].flatMap strE) ?_ ?_
  · rfl
  intro b104
  refine S_callM 105 [(0, 7), (1, 900), (2, 104)] (X := Option Addr × Nat) rfl rfl rfl rfl rfl rfl rfl cf30 rfl (fun _ => .tuple #[]) (fun _ => True) (fun z0 => [(0, bB b7 (selfP b7) z0.1 z0.2 ((hd6T e ++ e.ta.l.flatMap tagT ++ e.cr.l.flatMap crumbT) ++ lnT [kFa])), (1, bR z0.1 z0.2 ((hd6T e ++ e.ta.l.flatMap tagT ++ e.cr.l.flatMap crumbT) ++ lnT [kFa])), (2, wsI (some ⟨b104, 0, none⟩) 1 [kFa])]) (fun _ => rfl) (fun _ => rfl) (fun K1 hK1 w1 hM => lineC_any hK1 b7 _ _ _ ((hd6T e ++ e.ta.l.flatMap tagT ++ e.cr.l.flatMap crumbT)) _ _ [kFa] (.inr rfl) (by simp) (by exact Nat.le_trans (Nat.le_of_eq hfl) (by omega)) w1 hM) ?_
  intro x105 hx105
  refine sgx ?_
  refine s1 (y_as (v' := str (writeT none (e.fa.l.map pfl))) (by exact congrArg str hws) (y_move rfl rfl)) ?_
  refine S_callM 107 [(0, 7), (1, 900)] (X := Option Addr × Nat) rfl rfl rfl rfl rfl rfl rfl cf31 rfl (fun _ => .tuple #[.int .i64 ((writeT none (e.fa.l.map pfl))).length, .nilIface]) (fun _ => True) (fun z0 => [(0, bB b7 (selfP b7) z0.1 z0.2 ((hdT e) ++ (writeT none (e.fa.l.map pfl)))), (1, bR z0.1 z0.2 ((hdT e) ++ (writeT none (e.fa.l.map pfl))))]) (fun _ => rfl) (fun _ => rfl) (fun K1 hK1 w hM => (WStr_any hK1 b7 _ _ _ ((hdT e)) ((writeT none (e.fa.l.map pfl))) (.inr rfl) (by omega) w hM).mono fun e w1 h => h.elim fun x h => ⟨x, h.1, trivial, h.2.2⟩) ?_
  intro x107 hx107
  refine sgs ?_
  refine tx ?_
  refine s1 (y_call rfl rfl rfl cf35 (fun _ w1 hM => BLen_any b7 x107.1 (evT e).length x107.2 w1 (hM.box_cell (i := 7) rfl rfl))) ?_
  refine sr 1 ?_
  refine sgo ?_
  refine T_cond rfl ?_ ?_ <;> intro h109
  · try simp only [nrm] at h109
    refine tx ?_
    refine sr 2 ?_
    refine sgo ?_
    refine tr2 hRb fun w hM => ?_
    have e1 : textNo e = 4 := fst_b h16 (by rw [if_neg hbg, if_pos (by omega)])
    exact ⟨by rw [textS, e1]; rfl, hM.below⟩
  try simp only [nrm] at h109
  refine kgx ?_
  refine S_callM 110 [(0, 7), (1, 900)] (X := Unit) rfl rfl rfl rfl rfl rfl rfl cf36 rfl (fun _ => str ((evT e))) (fun _ => True) (fun _ => [(1, bR none 0 []), (0, bB b7 (selfP b7) x107.1 x107.2 ((evT e)))]) (fun _ => rfl) (fun _ => rfl) (fun K1 hK1 w hM => (BStr_any hK1 b7 _ _ _ ((evT e)) (by omega) (by omega) w hM).mono fun e w1 h => ⟨(), h.1, trivial, h.2⟩) ?_
  intro _ _
  refine sr 2 ?_
  refine sgo ?_
  refine tr2 hRb fun w hM => ?_
  have e1 : textNo e = 0 := fst_b h16 (by rw [if_neg hbg, if_neg (by omega)])
  exact ⟨by rw [textS, e1]; rfl, hM.below⟩
end Go.Proofs.YtgbldojgbpgjbaaGreatDoor
end
section
namespace Go.Proofs.YtgbldojgbpgjbaaGreatDoor
set_option linter.unusedSimpArgs false
set_option linter.unusedVariables false
set_option maxRecDepth 20000
open Go.RowKit Go.Eng
def nlT (ls : List (List UInt8)) : List UInt8 := ls.flatMap fun s => s ++ [10]
theorem nlT_snoc (ls : List (List UInt8)) (s : List UInt8) : nlT (ls ++ [s]) = nlT ls ++ (s ++ [10]) := by simp [nlT]
theorem bang_app (x : Frm) : decide (0 ≤ Lib.indexByte (x.m ++ x.f) 33) = bangF x := by
  unfold bangF
  rw [← Lib.contains_iff_indexByte, ← Lib.contains_iff_indexByte, ← Lib.contains_iff_indexByte, Bool.eq_iff_iff]
  simp only [List.contains_iff_mem, List.mem_append, Bool.or_eq_true]
  exact Or.comm
structure LnR (T : List UInt8) (n : Nat) where
  A : Option Addr
  c : Nat
  ls : List (List UInt8)
  says : nlT ls = T
  few : ls.length ≤ n
def wdS (l : Sl Flt) : List UInt8 := if bangL l.l = true then [] else writeT none (l.l.map pfl)
set_option maxHeartbeats 3200000 in
theorem Written_any (l : Sl Flt) (w : World) (hl : FltsOk w l) (hno : faultsNo l = 0) :
    Calls Tryz.prog 52 #[.slice l.A l.q l.c, .int .i64 1] w fun e w' => e = .returned (.tuple #[str (wdS l), .bool (!bangL l.l)]) ∧ Below w.heap.size w w' := by
  have ht := hl.ok.t
  have hlen := ht.len
  obtain ⟨h0, h10, hr⟩ := faultsNo_right hl hno
  have hwl := writeT_le (n := 0) (p := none) hr
  refine enter_args (args := [.slice l.A l.q l.c, .int .i64 1]) (F := _) Tryz.func52 rfl Tryz.ntmps52 rfl rfl ?_
  intro Rb hRb hRn
  refine tx ?_
  refine sr 2 ?_
  refine sgs ?_
  refine tx ?_
  refine sr 1 ?_
  refine s1 (y_len_slice rfl rfl Tryz.underlying22) ?_
  refine sr 1 ?_
  refine sgo ?_
  refine T_block ?_
  refine lK1 (kf := [(4, 5), (7, 7), (9, 9), (25, 43)]) (kl := [(4, 5), (7, 7), (9, 9), (25, 43)]) (fun (i : Nat) => [(25, true, .int .i64 (i : Int))]) (fun (i : Nat) => []) (fun (i : Nat) => i ≤ l.q ∧ bangL l.l = bangL (l.l.drop i)) (fun (i : Nat) => l.q - i) 0 ?_ ?_ ?_ ?_
  · exact ⟨by omega, rfl⟩
  · exact ⟨rfl, trivial⟩
  · exact trivial
  rintro i ⟨hp1, hp2⟩
  refine tx ?_
  refine sr 1 ?_
  refine sgs ?_
  refine T_cond rfl ?_ ?_ <;> intro h26
  · try simp only [nrm] at h26
    obtain ⟨x, hx1, hx2⟩ := ht.at (i := i) (by omega)
    have hxt := fltOk_t (hl.n x (mem_at hx1))
    have hxq := (hr x (mem_at hx1)).q
    have hxl := hxt.len
    refine kgs ?_
    refine T_block ?_
    refine tx ?_
    refine s1 (y_indexAddr rfl rfl rfl Tryz.underlying22 sz36 (fun hg => ht.isSome (by omega)) (fun _ => by omega)) ?_
    refine s1 (y_loadT rfl rfl ht (fun _ => rfl) (fun _ => hx1) Tryz.underlying36 rfl sz36) ?_
    refine S_alloc 7 7 rfl rfl rfl rfl z36 ?_
    intro b7
    refine S_store 7 rfl rfl rfl rfl rfl rfl sz36 rfl rfl ?_
    refine sgx ?_
    refine s1 (yF fa36_2) ?_
    refine s1 (yL 7 Tryz.underlying32) ?_
    refine s1 (y_len_slice rfl rfl Tryz.underlying32) ?_
    refine sr 1 ?_
    refine sgo ?_
    refine T_block ?_
    refine lK1 (kf := [(4, 5), (9, 9), (32, 42)]) (kl := [(4, 5), (9, 9), (32, 42)]) (fun (j : Nat) => [(32, true, .int .i64 (j : Int))]) (fun (j : Nat) => []) (fun (j : Nat) => j ≤ x.fr.q ∧ x.fr.l.any bangF = (x.fr.l.drop j).any bangF) (fun (j : Nat) => x.fr.q - j) 0 ?_ ?_ ?_ ?_
    · exact ⟨by omega, rfl⟩
    · exact ⟨rfl, trivial⟩
    · exact trivial
    rintro j ⟨hq1, hq2⟩
    refine tx ?_
    refine sr 1 ?_
    refine sgs ?_
    refine T_cond rfl ?_ ?_ <;> intro h33
    · try simp only [nrm] at h33
      obtain ⟨z, hz1, hz2⟩ := hxt.at (i := j) (by omega)
      have hzf := (hr x (mem_at hx1)).n z (mem_at hz1)
      obtain ⟨hzs1, hzs2, hzs3⟩ := hzf.s
      refine kgs ?_
      refine T_block ?_
      refine tx ?_
      refine s1 (y_indexAddr rfl rfl rfl Tryz.underlying32 sz45 (fun hg => hxt.isSome (by omega)) (fun _ => by omega)) ?_
      refine s1 (y_loadT rfl rfl hxt (fun _ => rfl) (fun _ => hz1) Tryz.underlying45 rfl sz45) ?_
      refine S_alloc 9 9 rfl rfl rfl rfl z45 ?_
      intro b9
      refine S_store 9 rfl rfl rfl rfl rfl rfl sz45 rfl rfl ?_
      refine sgx ?_
      refine s1 (yF fa45_0) ?_
      refine s1 (yL 9 Tryz.underlying9) ?_
      refine s1 (yF fa45_1) ?_
      refine s1 (yL 9 Tryz.underlying9) ?_
      refine s1 (y_bin rfl rfl rfl (fun hg => b_adds (by first | omega | (simp only [List.length_append, List.length_cons, List.length_nil]; omega)))) ?_
      refine s1 (y_as (v' := .bool (bangF z)) (by exact congrArg Value.bool (bang_app z)) (y_call rfl rfl rfl cf72 (fun _ w _ => Contains1_any _ 33 w))) ?_
      refine sgo ?_
      refine T_cond rfl ?_ ?_ <;> intro h41
      · skip
        refine tx ?_
        refine sr 2 ?_
        refine sgo ?_
        refine tr2 hRb fun w hM => ?_
        have hb : bangL l.l = true := by rw [hp2, hx2, bangL_cons, hq2, hz2, any_t h41, Bool.true_or]
        exact ⟨by rw [wdS, if_pos hb, hb]; rfl, hM.below⟩
      refine kgr ?_
      refine s1 (y_bin rfl rfl rfl (fun hg => b_add (by omega))) ?_
      refine sr 1 ?_
      refine S_nil (nK1 (kf := [(4, 5), (9, 9), (32, 42)]) (kl := [(4, 5), (9, 9), (32, 42)]) (j + 1) ?_ ?_ ?_ ?_)
      · omega
      · exact ⟨by omega, by rw [hq2, hz2, any_f h41]⟩
      · exact ⟨rfl, trivial⟩
      · exact trivial
    try simp only [nrm] at h33
    have hb1 : x.fr.l.any bangF = false := by rw [hq2, hxt.end (by omega)]; rfl
    refine egr ?_
    refine s1 (y_bin rfl rfl rfl (fun hg => b_add (by omega))) ?_
    refine sr 1 ?_
    refine S_nil (nK1 (kf := [(4, 5), (7, 7), (9, 9), (25, 43)]) (kl := [(4, 5), (7, 7), (9, 9), (25, 43)]) (i + 1) ?_ ?_ ?_ ?_)
    · omega
    · exact ⟨by omega, by rw [hp2, hx2, bangL_cons, hb1, Bool.false_or]⟩
    · exact ⟨rfl, trivial⟩
    · exact trivial
  try simp only [nrm] at h26
  have hb0 : bangL l.l = false := by rw [hp2, ht.end (by omega)]; rfl
  have hwd : wdS l = writeT none (l.l.map pfl) := if_neg (by rw [hb0]; decide)
  refine egx ?_
  refine S_nilSlice 10 (e := 9) (size := 1) ?_
  refine sr 1 ?_
  refine sgs ?_
  refine tx ?_
  refine sr 1 ?_
  refine sgo ?_
  refine T_block ?_
  refine tx ?_
  refine sr 2 ?_
  refine sgo ?_
  refine T_cond rfl ?_ ?_ <;> intro h74
  · skip
    refine tx ?_
    refine sr 1 ?_
    refine s1 (y_len_slice rfl rfl Tryz.underlying22) ?_
    refine sr 1 ?_
    refine sgo ?_
    refine T_block ?_
    refine lK4 (kf := [(10, 14), (16, 16), (78, 133)]) (kl := [(10, 14), (16, 16), (78, 133)]) (fun (i : Nat) (ls : List (List UInt8)) (A : Option Addr) (c : Nat) => [(78, true, .int .i64 (i : Int)), (10, true, .slice A ls.length c)]) (fun (i : Nat) (ls : List (List UInt8)) (A : Option Addr) (c : Nat) => [(10, wsI A c ls)]) (fun (i : Nat) (ls : List (List UInt8)) (A : Option Addr) (c : Nat) => i ≤ l.q ∧ nlT ls ++ writeT (prevP l.l i) ((l.l.drop i).map pfl) = writeT none (l.l.map pfl) ∧ ls.length ≤ i * 300) (fun (i : Nat) (ls : List (List UInt8)) (A : Option Addr) (c : Nat) => l.q - i) 0 [] none 0 ?_ ?_ ?_ ?_
    · exact ⟨by omega, rfl, Nat.zero_le _⟩
    · exact ⟨rfl, rfl, trivial⟩
    · exact ⟨rfl, trivial⟩
    rintro i ls A c ⟨hp1, hp2, hp3⟩
    refine tx ?_
    refine sr 1 ?_
    refine sgs ?_
    refine T_cond rfl ?_ ?_ <;> intro h79
    · try simp only [nrm] at h79
      obtain ⟨x, hx1, hx2⟩ := ht.at (i := i) (by omega)
      have hn := hr x (mem_at hx1)
      have hxo := hl.n x (mem_at hx1)
      have hxt := fltOk_t hxo
      have hxc := hxo.fr.ok.cap
      have hxl := hxt.len
      have hxq := hn.q
      have hpl := preT_le (prevP l.l i)
      have hs1 := sh2_le (shW (prevP l.l i) x.fr.l)
      have hs2 := shW_le (prevP l.l i) x.fr.l
      have hwt := writeT_cons (p := (prevP l.l i)) hx2
      have hk1 := hn.k
      have hk2 := hn.t
      have hhl : (headR x.k x.t).length ≤ 2000002 := by unfold headR; split <;> simp only [List.length_append, List.length_cons, List.length_nil] <;> omega
      refine kgs ?_
      refine T_block ?_
      refine tx ?_
      refine sr 1 ?_
      refine s1 (y_indexAddr rfl rfl rfl Tryz.underlying22 sz36 (fun hg => ht.isSome (by omega)) (fun _ => by omega)) ?_
      refine s1 (y_loadT rfl rfl ht (fun _ => rfl) (fun _ => hx1) Tryz.underlying36 rfl sz36) ?_
      refine S_alloc 12 12 rfl rfl rfl rfl z36 ?_
      intro b12
      refine sr 1 ?_
      refine S_store 12 rfl rfl rfl rfl rfl rfl sz36 rfl rfl ?_
      refine sgx ?_
      refine sr 1 ?_
      refine sgx ?_
      refine s1 (yA 12 rfl Tryz.underlying36 sz36) ?_
      refine s1 (y_call rfl rfl rfl cf124 (fun _ w _ => headOf_any x hn.k hn.t w)) ?_
      refine sr 1 ?_
      refine sgs ?_
      refine tx ?_
      refine sr 2 ?_
      refine sgo ?_
      refine T_mid (kf := [(13, 14), (87, 99)]) (kl := [(13, 14), (87, 99)]) (fun u : Unit => [(13, true, .int .i64 (((sh2 (shW (prevP l.l i) x.fr.l)) : Nat) : Int)), (14, true, str (preT (prevP l.l i) ++ headR x.k x.t))]) (fun u : Unit => []) (by repeat (first | exact kf_nil | (apply kf_in; focus rfl) | (apply kf_out; focus rfl))) (by repeat (first | exact kl_nil | exact kl_rest (by assumption) rfl | (apply kl_in; focus rfl) | (apply kl_out; focus rfl))) ?_ ?_
      · skip
        refine T_cond rfl ?_ ?_ <;> intro h86
        · try simp only [nrm] at h86
          obtain ⟨v, hv1, hv2⟩ := ht.at (i := i - 1) (by omega)
          have hpv := prevP_pos (by omega) hv1
          have hvq := (hr v (mem_at hv1)).q
          have hvl := (fltOk_t (hl.n v (mem_at hv1))).len
          have hsw : shW (prevP l.l i) x.fr.l = shQ v.fr.l x.fr.l := by rw [hpv]; rfl
          refine tx ?_
          refine sr 1 ?_
          refine s1 (y_as (v' := str (preT (prevP l.l i) ++ headR x.k x.t)) (by rw [hpv]; rfl) (y_bin rfl rfl rfl (fun hg => b_adds (by first | omega | (simp only [List.length_append, List.length_cons, List.length_nil]; omega))))) ?_
          refine sr 1 ?_
          refine sgs ?_
          refine T_draws (by kernel_rfl) (by kernel_rfl) ?_
          refine d1 (y_move rfl rfl) ?_
          refine d1 (y_move rfl rfl) ?_
          refine d1 (y_bin rfl rfl rfl (fun hg => b_subv (((i - 1 : Nat) : Int)) (by omega) (by omega))) ?_
          refine d1 (y_indexAddr rfl rfl rfl Tryz.underlying22 sz36 (fun _ => ht.isSome (by omega)) (fun _ => by omega)) ?_
          refine d1 (y_fieldEl rfl rfl ht.rd (fun _ => by omega) fa36_2) ?_
          refine d1 (y_load_fT rfl rfl ht (fun _ => rfl) (fun _ => hv1) rfl Tryz.underlying32 rfl) ?_
          refine d1 (yF fa36_2) ?_
          refine d1 (yL 12 Tryz.underlying32) ?_
          refine d1 (y_call rfl rfl rfl cf125 (fun _ w1 hM => SharedOf_any _ _ _ _ _ _ _ _ w1 ((fltOk_t (hl.n v (mem_at hv1))).below hM.below) (hxt.below hM.below) (by omega) (by omega))) ?_
          refine d1 (y_assign rfl rfl) ?_
          refine dgx ?_
          refine sr 2 ?_
          refine sgo ?_
          refine T_cond rfl ?_ ?_ <;> intro h99
          · try simp only [nrm] at h99
            refine T_region ?_
            refine sr 1 ?_
            refine S_nil (mid_end (kf := [(13, 14), (87, 99)]) (kl := [(13, 14), (87, 99)]) (()) (by repeat (first | exact kf_nil | (apply kf_in; focus rfl) | (apply kf_out; focus rfl))) (by repeat (first | exact kl_nil | exact kl_rest (by assumption) rfl | (apply kl_in; focus rfl) | (apply kl_out; focus rfl))) ?_ ?_)
            · exact ⟨by rw [hsw, sh2, if_pos (by omega)]; rfl, rfl, trivial⟩
            · exact trivial
          try simp only [nrm] at h99
          refine T_skip (mid_end (kf := [(13, 14), (87, 99)]) (kl := [(13, 14), (87, 99)]) (()) (by repeat (first | exact kf_nil | (apply kf_in; focus rfl) | (apply kf_out; focus rfl))) (by repeat (first | exact kl_nil | exact kl_rest (by assumption) rfl | (apply kl_in; focus rfl) | (apply kl_out; focus rfl))) ?_ ?_)
          · exact ⟨by rw [hsw, sh2, if_neg (by omega)]; rfl, rfl, trivial⟩
          · exact trivial
        try simp only [nrm] at h86
        have hi0 : i = 0 := by omega
        have hpv : prevP l.l i = none := by rw [hi0]; rfl
        refine T_skip (mid_end (kf := [(13, 14), (87, 99)]) (kl := [(13, 14), (87, 99)]) (()) (by repeat (first | exact kf_nil | (apply kf_in; focus rfl) | (apply kf_out; focus rfl))) (by repeat (first | exact kl_nil | exact kl_rest (by assumption) rfl | (apply kl_in; focus rfl) | (apply kl_out; focus rfl))) ?_ ?_)
        · exact ⟨by rw [hpv]; rfl, by rw [hpv]; rfl, trivial⟩
        · exact trivial
      intro u
      have hcut := hxt.cut (lo := 0) (hi := x.fr.q - (sh2 (shW (prevP l.l i) x.fr.l))) (c := x.fr.c) (fun _ => rfl) (by omega) (by omega) hxc
      have hfm := fr_cut (p := (prevP l.l i)) hxl rfl
      have hol : (preT (prevP l.l i) ++ headR x.k x.t).length ≤ 2000020 := by rw [List.length_append]; omega
      refine sgx ?_
      refine sr 2 ?_
      refine S_buildSlice 102 102 rfl rfl rfl rfl rfl Tryz.underlying53 inf9 rfl (by decide) (by decide) rfl rfl (by decide) rfl (_) rfl ?_
      intro b102
      obtain ⟨i103, hi103, hz103, hs103, hy103⟩ := info_parts inf9
      refine S_append 103 10 102 rfl rfl rfl rfl rfl rfl rfl rfl Tryz.underlying53 hi103 hz103 hs103 hy103 rfl (by decide) (by decide) rfl ?_ ?_ ((ls ++ [(preT (prevP l.l i) ++ headR x.k x.t)]).length) ((ls ++ [(preT (prevP l.l i) ++ headR x.k x.t)]).flatMap strE) ?_ ?_ ?_
      · (simp only [maxLen]; omega)
      · omega
      · exact len_snocW ls (preT (prevP l.l i) ++ headR x.k x.t)
      · exact flat_snocW ls (preT (prevP l.l i) ++ headR x.k x.t)
      intro A103 c103
      refine sr 1 ?_
      refine sgs ?_
      refine tx ?_
      refine s1 (yF fa36_2) ?_
      refine s1 (yL 12 Tryz.underlying32) ?_
      refine s1 (yF fa36_2) ?_
      refine s1 (yL 12 Tryz.underlying32) ?_
      refine s1 (y_len_slice rfl rfl Tryz.underlying32) ?_
      refine sr 1 ?_
      refine s1 (y_bin rfl rfl rfl (fun hg => b_subv (((x.fr.q - (sh2 (shW (prevP l.l i) x.fr.l)) : Nat) : Int)) (by omega) (by omega))) ?_
      refine s1 (y_slice rfl rfl Tryz.underlying32 sz45 (.inl ⟨rfl, rfl⟩) (.inr ⟨_, _, rfl, rfl⟩) (by omega) (by omega) hxc) ?_
      refine s1 (y_len_slice rfl rfl Tryz.underlying32) ?_
      refine sr 1 ?_
      refine sgo ?_
      refine T_block ?_
      refine lK4 (kf := [(10, 10), (16, 16), (113, 123)]) (kl := [(10, 10), (16, 16), (113, 123)]) (fun (j : Nat) (ls2 : List (List UInt8)) (B : Option Addr) (d : Nat) => [(113, true, .int .i64 (j : Int)), (10, true, .slice B ls2.length d)]) (fun (j : Nat) (ls2 : List (List UInt8)) (B : Option Addr) (d : Nat) => [(10, wsI B d ls2)]) (fun (j : Nat) (ls2 : List (List UInt8)) (B : Option Addr) (d : Nat) => j ≤ x.fr.q - (sh2 (shW (prevP l.l i) x.fr.l)) - 0 ∧ nlT ls2 ++ (((x.fr.l.drop 0).take (x.fr.q - (sh2 (shW (prevP l.l i) x.fr.l)) - 0)).drop j).flatMap frameT = nlT (ls ++ [(preT (prevP l.l i) ++ headR x.k x.t)]) ++ ((x.fr.l.drop 0).take (x.fr.q - (sh2 (shW (prevP l.l i) x.fr.l)) - 0)).flatMap frameT ∧ ls2.length ≤ ls.length + 1 + j) (fun (j : Nat) (ls2 : List (List UInt8)) (B : Option Addr) (d : Nat) => x.fr.q - (sh2 (shW (prevP l.l i) x.fr.l)) - 0 - j) 0 (ls ++ [(preT (prevP l.l i) ++ headR x.k x.t)]) A103 c103 ?_ ?_ ?_ ?_
      · exact ⟨by omega, rfl, by rw [List.length_append]; exact Nat.le_refl _⟩
      · exact ⟨rfl, rfl, trivial⟩
      · exact ⟨rfl, trivial⟩
      rintro j ls2 B d ⟨hq1, hq2, hq3⟩
      refine tx ?_
      refine sr 1 ?_
      refine sgs ?_
      refine T_cond rfl ?_ ?_ <;> intro h114
      · try simp only [nrm] at h114
        obtain ⟨z, hz1, hz2⟩ := hcut.at (i := j) (by omega)
        have hzn := hn.n z (List.mem_of_mem_drop (List.mem_of_mem_take (mem_at hz1)))
        have hzl1 := callT_le hzn.s
        have hzl2 := placeT_le hzn
        have hzl : (callT z ++ placeT z).length ≤ 4000000 := by rw [List.length_append]; omega
        rw [hz2, List.flatMap_cons] at hq2
        refine kgs ?_
        refine T_block ?_
        refine tx ?_
        refine s1 (y_indexAddr rfl rfl rfl Tryz.underlying32 sz45 (fun hg => hcut.isSome (by omega)) (fun _ => by omega)) ?_
        refine s1 (y_loadT rfl rfl hcut (fun _ => rfl) (fun _ => hz1) Tryz.underlying45 rfl sz45) ?_
        refine S_alloc 16 16 rfl rfl rfl rfl z45 ?_
        intro b16
        refine S_store 16 rfl rfl rfl rfl rfl rfl sz45 rfl rfl ?_
        refine sgr ?_
        refine sr 1 ?_
        refine s1 (yA 16 rfl Tryz.underlying45 sz45) ?_
        refine s1 (y_call rfl rfl rfl cf126 (fun _ w _ => lineOf_any z hzn w)) ?_
        refine s1 (y_bin rfl rfl rfl (fun hg => b_adds (by first | omega | (simp only [List.length_append, List.length_cons, List.length_nil]; omega)))) ?_
        refine S_buildSlice 121 121 rfl rfl rfl rfl rfl Tryz.underlying53 inf9 rfl (by decide) (by decide) rfl rfl (by decide) rfl (_) rfl ?_
        intro b121
        obtain ⟨i122, hi122, hz122, hs122, hy122⟩ := info_parts inf9
        refine S_append 122 10 121 rfl rfl rfl rfl rfl rfl rfl rfl Tryz.underlying53 hi122 hz122 hs122 hy122 rfl (by decide) (by decide) rfl ?_ ?_ ((ls2 ++ [(atB ++ (callT z ++ placeT z))]).length) ((ls2 ++ [(atB ++ (callT z ++ placeT z))]).flatMap strE) ?_ ?_ ?_
        · (simp only [maxLen]; omega)
        · omega
        · exact len_snocW ls2 (atB ++ (callT z ++ placeT z))
        · exact flat_snocW ls2 (atB ++ (callT z ++ placeT z))
        intro A122 c122
        refine sr 1 ?_
        refine sgr ?_
        refine s1 (y_bin rfl rfl rfl (fun hg => b_add (by omega))) ?_
        refine sr 1 ?_
        refine S_nil (nK4 (kf := [(10, 10), (16, 16), (113, 123)]) (kl := [(10, 10), (16, 16), (113, 123)]) (j + 1) (ls2 ++ [atB ++ (callT z ++ placeT z)]) A122 c122 ?_ ?_ ?_ ?_)
        · omega
        · exact ⟨by omega, by rw [← hq2, nlT_snoc, frameT]; simp only [List.append_assoc], by rw [List.length_append]; show ls2.length + 1 ≤ _; omega⟩
        · exact ⟨rfl, rfl, trivial⟩
        · exact ⟨rfl, trivial⟩
      try simp only [nrm] at h114
      have hL2 : nlT ls2 = nlT (ls ++ [(preT (prevP l.l i) ++ headR x.k x.t)]) ++ frmsT (prevP l.l i) x.fr.l := by rw [hcut.end (by omega)] at hq2; rw [← hfm, ← hq2]; exact (List.append_nil _).symm
      rw [nlT_snoc, List.append_assoc (preT (prevP l.l i)), headR_nl] at hL2
      refine egx ?_
      refine sr 2 ?_
      refine sgo ?_
      refine T_mid (kf := [(10, 10), (126, 132)]) (kl := [(10, 10), (126, 132)]) (fun v : LnR (nlT ls ++ oneT (prevP l.l i) (pfl x)) (ls.length + 300) => [(10, true, .slice v.A v.ls.length v.c)]) (fun v : LnR (nlT ls ++ oneT (prevP l.l i) (pfl x)) (ls.length + 300) => [(10, wsI v.A v.c v.ls)]) (by repeat (first | exact kf_nil | (apply kf_in; focus rfl) | (apply kf_out; focus rfl))) (by repeat (first | exact kl_nil | exact kl_rest (by assumption) rfl | (apply kl_in; focus rfl) | (apply kl_out; focus rfl))) ?_ ?_
      · skip
        refine T_cond rfl ?_ ?_ <;> intro h125
        · try simp only [nrm] at h125
          have hE : nlT (ls2 ++ [([32, 32, 32, 32, 46, 46, 46, 32] ++ Lib.itoa (((sh2 (shW (prevP l.l i) x.fr.l)) : Nat) : Int) ++ [32, 109, 111, 114, 101])]) = nlT ls ++ oneT (prevP l.l i) (pfl x) := by
            rw [nlT_snoc, hL2]
            show _ = nlT ls ++ (preT (prevP l.l i) ++ headT x.k x.t ++ frmsT (prevP l.l i) x.fr.l ++ dotT (sh2 (shW (prevP l.l i) x.fr.l)))
            rw [dotT, if_neg (by omega)]
            simp only [List.append_assoc, List.cons_append, List.nil_append]
          have hil := itoa_le (((sh2 (shW (prevP l.l i) x.fr.l)) : Nat) : Int) (by omega)
          refine T_region ?_
          refine sr 2 ?_
          refine s1 (y_call rfl rfl rfl cf127 (fun _ w _ => Told_any _ (by omega) w)) ?_
          refine s1 (y_bin rfl rfl rfl (fun hg => b_adds (by first | omega | (simp only [List.length_append, List.length_cons, List.length_nil]; omega)))) ?_
          refine s1 (y_as (v' := str ([32, 32, 32, 32, 46, 46, 46, 32] ++ Lib.itoa (((sh2 (shW (prevP l.l i) x.fr.l)) : Nat) : Int) ++ [32, 109, 111, 114, 101])) (by exact rfl) (y_bin rfl rfl rfl (fun hg => b_adds (by first | omega | (simp only [List.length_append, List.length_cons, List.length_nil]; omega))))) ?_
          refine S_buildSlice 131 131 rfl rfl rfl rfl rfl Tryz.underlying53 inf9 rfl (by decide) (by decide) rfl rfl (by decide) rfl (_) rfl ?_
          intro b131
          obtain ⟨i132, hi132, hz132, hs132, hy132⟩ := info_parts inf9
          refine S_append 132 10 131 rfl rfl rfl rfl rfl rfl rfl rfl Tryz.underlying53 hi132 hz132 hs132 hy132 rfl (by decide) (by decide) rfl ?_ ?_ ((ls2 ++ [([32, 32, 32, 32, 46, 46, 46, 32] ++ Lib.itoa (((sh2 (shW (prevP l.l i) x.fr.l)) : Nat) : Int) ++ [32, 109, 111, 114, 101])]).length) ((ls2 ++ [([32, 32, 32, 32, 46, 46, 46, 32] ++ Lib.itoa (((sh2 (shW (prevP l.l i) x.fr.l)) : Nat) : Int) ++ [32, 109, 111, 114, 101])]).flatMap strE) ?_ ?_ ?_
          · (simp only [maxLen]; omega)
          · omega
          · exact len_snocW ls2 ([32, 32, 32, 32, 46, 46, 46, 32] ++ Lib.itoa (((sh2 (shW (prevP l.l i) x.fr.l)) : Nat) : Int) ++ [32, 109, 111, 114, 101])
          · exact flat_snocW ls2 ([32, 32, 32, 32, 46, 46, 46, 32] ++ Lib.itoa (((sh2 (shW (prevP l.l i) x.fr.l)) : Nat) : Int) ++ [32, 109, 111, 114, 101])
          intro A132 c132
          refine sr 1 ?_
          refine S_nil (mid_end (kf := [(10, 10), (126, 132)]) (kl := [(10, 10), (126, 132)]) (⟨A132, c132, ls2 ++ [([32, 32, 32, 32, 46, 46, 46, 32] ++ Lib.itoa (((sh2 (shW (prevP l.l i) x.fr.l)) : Nat) : Int) ++ [32, 109, 111, 114, 101])], hE, by rw [List.length_append]; show ls2.length + 1 ≤ _; omega⟩) (by repeat (first | exact kf_nil | (apply kf_in; focus rfl) | (apply kf_out; focus rfl))) (by repeat (first | exact kl_nil | exact kl_rest (by assumption) rfl | (apply kl_in; focus rfl) | (apply kl_out; focus rfl))) ?_ ?_)
          · exact ⟨rfl, trivial⟩
          · exact ⟨rfl, trivial⟩
        try simp only [nrm] at h125
        have hE : nlT ls2 = nlT ls ++ oneT (prevP l.l i) (pfl x) := by
          rw [hL2]
          show _ = nlT ls ++ (preT (prevP l.l i) ++ headT x.k x.t ++ frmsT (prevP l.l i) x.fr.l ++ dotT (sh2 (shW (prevP l.l i) x.fr.l)))
          rw [dotT, if_pos (by omega)]
          simp only [List.append_assoc, List.append_nil]
        refine T_skip (mid_end (kf := [(10, 10), (126, 132)]) (kl := [(10, 10), (126, 132)]) (⟨B, d, ls2, hE, by omega⟩) (by repeat (first | exact kf_nil | (apply kf_in; focus rfl) | (apply kf_out; focus rfl))) (by repeat (first | exact kl_nil | exact kl_rest (by assumption) rfl | (apply kl_in; focus rfl) | (apply kl_out; focus rfl))) ?_ ?_)
        · exact ⟨rfl, trivial⟩
        · exact ⟨rfl, trivial⟩
      intro v
      have hvs := v.says
      have hvf := v.few
      refine sgr ?_
      refine s1 (y_bin rfl rfl rfl (fun hg => b_add (by omega))) ?_
      refine sr 1 ?_
      refine S_nil (nK4 (kf := [(10, 14), (16, 16), (78, 133)]) (kl := [(10, 14), (16, 16), (78, 133)]) (i + 1) v.ls v.A v.c ?_ ?_ ?_ ?_)
      · omega
      · exact ⟨by omega, by rw [hvs, ← hp2, hwt, prevP_next hx1, List.append_assoc], by omega⟩
      · exact ⟨rfl, rfl, trivial⟩
      · exact ⟨rfl, trivial⟩
    try simp only [nrm] at h79
    have hnl : nlT ls = writeT none (l.l.map pfl) := by rw [← hp2, ht.end (by omega)]; exact (List.append_nil _).symm
    have hnl2 := congrArg List.length hnl
    refine egx ?_
    refine sr 1 ?_
    refine S_buildSlice 184 184 rfl rfl rfl rfl rfl Tryz.underlying53 inf9 rfl (by decide) (by decide) rfl rfl (by decide) rfl (_) rfl ?_
    intro b184
    obtain ⟨i185, hi185, hz185, hs185, hy185⟩ := info_parts inf9
    refine S_append 185 10 184 rfl rfl rfl rfl rfl rfl rfl rfl Tryz.underlying53 hi185 hz185 hs185 hy185 rfl (by decide) (by decide) rfl ?_ ?_ ((ls ++ [[]]).length) ((ls ++ [[]]).flatMap strE) ?_ ?_ ?_
    · (simp only [maxLen]; omega)
    · omega
    · exact len_snocW ls []
    · exact flat_snocW ls []
    intro A185 c185
    refine s1 (y_as (v' := str (nlT ls)) (by rw [jnS_lines]; rfl) (y_call rfl rfl rfl cf32 (fun _ w1 hM => JoinS_any [10] _ _ _ (ls ++ [[]]) w1 (row_ok (enc := strE) (hM.sat 10 _ rfl) rfl).t (row_ok (enc := strE) (hM.sat 10 _ rfl) rfl).cap (by rw [jnS_lines]; show (nlT ls).length ≤ _; omega) (by rw [List.length_append]; show ls.length + 1 ≤ _; omega)))) ?_
    refine sr 2 ?_
    refine sgo ?_
    refine tr2 hRb fun w hM => ?_
    exact ⟨by rw [hwd, hb0, hnl]; rfl, hM.below⟩
  exact absurd h74 (by decide)
end Go.Proofs.YtgbldojgbpgjbaaGreatDoor
end
section
namespace Go.Proofs.YtgbldojgbpgjbaaGreatDoor
set_option linter.unusedSimpArgs false
set_option linter.unusedVariables false
set_option maxRecDepth 20000
open Go.RowKit Go.Eng
theorem lvE_at {n : Int} (h : 1 ≤ n ∧ n ≤ 5) : levels[(n - 1).toNat]? = some (lvW n) := by
  have h1 : n = 1 ∨ n = 2 ∨ n = 3 ∨ n = 4 ∨ n = 5 := by omega
  rcases h1 with rfl | rfl | rfl | rfl | rfl <;> rfl
def nmE (n : Int) : List Value := [.int .i64 n]
def nmB (l : List Int) : List UInt8 := l.flatMap fun n => [32] ++ Lib.itoa n
theorem nmB_le : ∀ l : List Int, (∀ n ∈ l, -9223372036854775808 ≤ n ∧ n ≤ 9223372036854775807) → (nmB l).length ≤ l.length * 22
  | [], _ => by simp [nmB]
  | a :: r, h => by
    have h1 := nmB_le r fun n hn => h n (List.mem_cons_of_mem _ hn)
    obtain ⟨h2, h3⟩ := h a (List.mem_cons_self ..)
    have h4 := Lib.itoa_length_le a h2 h3
    have e : nmB (a :: r) = ([32] ++ Lib.itoa a) ++ nmB r := rfl
    rw [e, List.length_append, List.length_append, List.length_cons, List.length_cons, List.length_nil]; omega
theorem rnums_any (A : Option Addr) (q c : Nat) (l : List Int) (w : World) (hl : SlT nmE 1 w A q l) (hq : q ≤ 1000) (hn : ∀ n ∈ l, -9223372036854775808 ≤ n ∧ n ≤ 9223372036854775807) (hP : P10 w) :
    Calls Tryz.prog 130 #[.slice A q c] w fun e w' => e = .returned (str (nmB l)) ∧ Below w.heap.size w w' := by
  have hlen := hl.len
  have hle := nmB_le l hn
  refine enter_args (args := [.slice A q c]) (F := _) Tryz.func130 rfl Tryz.ntmps130 rfl rfl ?_
  intro Rb hRb hRn
  refine tx ?_
  refine sr 1 ?_
  refine sgx ?_
  refine sr 1 ?_
  refine sgs ?_
  refine tx ?_
  refine sr 1 ?_
  refine s1 (y_len_slice rfl rfl Tryz.underlying225) ?_
  refine sr 1 ?_
  refine sgo ?_
  refine T_block ?_
  refine lK2 (kf := [(3, 3), (5, 5), (8, 17)]) (kl := [(3, 3), (5, 5), (8, 17)]) (fun (i : Nat) (L : List UInt8) => [(8, true, .int .i64 (i : Int)), (3, true, str L)]) (fun (i : Nat) (L : List UInt8) => []) (fun (i : Nat) (L : List UInt8) => i ≤ q ∧ L ++ nmB (l.drop i) = nmB l) (fun (i : Nat) (L : List UInt8) => q - i) 0 [] ?_ ?_ ?_ ?_
  · exact ⟨by omega, rfl⟩
  · exact ⟨rfl, rfl, trivial⟩
  · exact trivial
  rintro i L ⟨hp1, hp2⟩
  refine tx ?_
  refine sr 1 ?_
  refine sgs ?_
  refine T_cond rfl ?_ ?_ <;> intro h9
  · try simp only [nrm] at h9
    obtain ⟨x, hx1, hx2⟩ := hl.at (i := i) (by omega)
    have hx3 := hn x (mem_at hx1)
    have hx4 := Lib.itoa_length_le x hx3.1 hx3.2
    have hlx := congrArg List.length hp2
    rw [hx2, show nmB (x :: l.drop (i + 1)) = ([32] ++ Lib.itoa x) ++ nmB (l.drop (i + 1)) from rfl, List.length_append] at hlx
    refine kgs ?_
    refine T_block ?_
    refine tx ?_
    refine s1 (y_indexAddr rfl rfl rfl Tryz.underlying225 sz3 (fun hg => hl.isSome (by omega)) (fun _ => by omega)) ?_
    refine s1 (y_loadT1 (val := (fun n : Int => Value.int .i64 n)) rfl rfl hl (fun _ => hx1) Tryz.underlying3 rfl) ?_
    refine sr 1 ?_
    refine sgr ?_
    refine sr 2 ?_
    refine s1 (y_call rfl rfl rfl cf33 (fun _ w hM => Itoa_any x hx3.1 hx3.2 w (hP.below hM.below))) ?_
    refine s1 (y_bin rfl rfl rfl (fun hg => b_adds (by first | omega | (simp only [List.length_append, List.length_cons, List.length_nil]; omega)))) ?_
    refine s1 (y_bin rfl rfl rfl (fun hg => b_adds (by first | omega | (simp only [List.length_append, List.length_cons, List.length_nil]; omega)))) ?_
    refine sr 1 ?_
    refine sgr ?_
    refine s1 (y_bin rfl rfl rfl (fun hg => b_add (by omega))) ?_
    refine sr 1 ?_
    refine S_nil (nK2 (kf := [(3, 3), (5, 5), (8, 17)]) (kl := [(3, 3), (5, 5), (8, 17)]) (i + 1) (L ++ ([32] ++ Lib.itoa x)) ?_ ?_ ?_ ?_)
    · omega
    · exact ⟨by omega, by rw [← hp2, hx2, List.append_assoc]; rfl⟩
    · exact ⟨rfl, rfl, trivial⟩
    · exact trivial
  try simp only [nrm] at h9
  have e1 : L = nmB l := by rw [hl.end (by omega)] at hp2; simpa [nmB] using hp2
  refine egx ?_
  refine sr 2 ?_
  refine sgo ?_
  refine tr1 hRb fun w hM => ?_
  exact ⟨by rw [e1], hM.below⟩
theorem nmB_one (n : Int) : nmB [n] = [32] ++ Lib.itoa n := by simp [nmB]
set_option maxHeartbeats 1600000 in
theorem EventHead_any (e : Evt) (w : World) (he : e.Ok w) (hN : EvN e) (hP : P10 w) :
    Calls Tryz.prog 53 #[e.val] w fun en w' => en = .returned (str (hdT e)) ∧ Below w.heap.size w w' := by
  have hta := he.ta.ok.t
  have hcr := he.cr.ok.t
  have htlen := hta.len
  have hclen := hcr.len
  obtain ⟨hid, hat, hlv, htq, htn, hcq, hcn, hrl, hul, hwt, hfq, hfr⟩ := id hN
  have hi1 := it21 hat
  have hi2 := it21 (n := e.wt) (by omega)
  have hl1 := lvW_le e.lv
  have h4l := hd4T_le hN
  have h5l := hd5T_le hN
  have h6l := hd6T_le hN
  have hdl := hdT_le hN
  have htl := flat_le (f := tagT) fun t ht => tagT_le (hN.ta t ht)
  have hcl := flat_le (f := crumbT) fun t ht => crumbT_le (hN.cr t ht)
  refine enter_args (args := [.agg #[str e.id, .int .i64 e.at_, .int .i64 e.lv, .slice e.fa.A e.fa.q e.fa.c, .slice e.ta.A e.ta.q e.ta.c, .slice e.cr.A e.cr.q e.cr.c, str e.rel, str e.us, .int .i64 e.wt]]) (F := _) Tryz.func53 rfl Tryz.ntmps53 rfl rfl ?_
  intro Rb hRb hRn
  refine tx ?_
  refine S_box 1 1 rfl rfl rfl rfl rfl ?_
  intro b1
  refine sr 1 ?_
  refine sgs ?_
  refine T_cut [(1, true, .pointer (some ⟨b1, 0, none⟩)), (3, true, str (hd4T e))] [(1, .blk b1 (IsBox e.enc 26))] ?_ ?_
  · refine T_tree (PTree.one 0 (PTree.one 1 (PTree.one 2 (PTree.one 3 (PTree.one 4 (PTree.one 5 (PTree.one 11 (PTree.one 12 (PTree.one 13 (PTree.one 18 (PTree.one 19 (PTree.two 6 (PTree.two 7 (PTree.one 8 (PTree.one 9 (PTree.two 10 (PTree.two 14 (PTree.two 15 (PTree.one 16 (PTree.one 17 (PTree.one 20 (PTree.one 21 (PTree.one 22 (PTree.one 23 (PTree.one 24 PTree.nil))))))) 20 (PTree.two 15 (PTree.one 16 (PTree.one 17 (PTree.one 21 (PTree.one 22 (PTree.one 23 (PTree.one 24 PTree.nil)))))) 21 (PTree.one 15 (PTree.one 16 (PTree.one 17 (PTree.one 22 (PTree.one 23 (PTree.one 24 PTree.nil)))))))) 20 (PTree.two 14 (PTree.two 15 (PTree.one 16 (PTree.one 17 (PTree.one 21 (PTree.one 22 (PTree.one 23 (PTree.one 24 PTree.nil)))))) 21 (PTree.one 15 (PTree.one 16 (PTree.one 17 (PTree.one 22 (PTree.one 23 (PTree.one 24 PTree.nil))))))) 21 (PTree.one 14 (PTree.one 15 (PTree.one 16 (PTree.one 17 (PTree.one 22 (PTree.one 23 (PTree.one 24 PTree.nil))))))))) 20 (PTree.one 10 (PTree.two 14 (PTree.two 15 (PTree.one 16 (PTree.one 17 (PTree.one 21 (PTree.one 22 (PTree.one 23 (PTree.one 24 PTree.nil)))))) 21 (PTree.one 15 (PTree.one 16 (PTree.one 17 (PTree.one 22 (PTree.one 23 (PTree.one 24 PTree.nil))))))) 21 (PTree.one 14 (PTree.one 15 (PTree.one 16 (PTree.one 17 (PTree.one 22 (PTree.one 23 (PTree.one 24 PTree.nil)))))))))))) 20 (PTree.one 7 (PTree.one 8 (PTree.one 9 (PTree.one 10 (PTree.two 14 (PTree.two 15 (PTree.one 16 (PTree.one 17 (PTree.one 21 (PTree.one 22 (PTree.one 23 (PTree.one 24 PTree.nil)))))) 21 (PTree.one 15 (PTree.one 16 (PTree.one 17 (PTree.one 22 (PTree.one 23 (PTree.one 24 PTree.nil))))))) 21 (PTree.one 14 (PTree.one 15 (PTree.one 16 (PTree.one 17 (PTree.one 22 (PTree.one 23 (PTree.one 24 PTree.nil))))))))))))) 20 (PTree.one 6 (PTree.one 7 (PTree.one 8 (PTree.one 9 (PTree.one 10 (PTree.two 14 (PTree.two 15 (PTree.one 16 (PTree.one 17 (PTree.one 21 (PTree.one 22 (PTree.one 23 (PTree.one 24 PTree.nil)))))) 21 (PTree.one 15 (PTree.one 16 (PTree.one 17 (PTree.one 22 (PTree.one 23 (PTree.one 24 PTree.nil))))))) 21 (PTree.one 14 (PTree.one 15 (PTree.one 16 (PTree.one 17 (PTree.one 22 (PTree.one 23 (PTree.one 24 PTree.nil))))))))))))))))))))))))) [true, true, true, true, true, true, false, false, true, true, false, true, true, true, false, false, true, true, true, true, false, false, true, true, true] [0, 1, 3, 7, 0, 16, 48, 112, 255, 511, 240, 0, 2048, 6144, 15600, 31984, 65535, 131071, 0, 262144, 786432, 1836272, 4194303, 8388607, 16777215] [(1, [1]), (5, [1]), (12, [1]), (19, [1])] (by kernel_rfl) (by kernel_rfl) (by kernel_rfl) rfl (by kernel_rfl) ?_
    refine R2f_ 0 8 rfl rfl rfl rfl rfl _ trivial (Y.z (yF fa26_0) rfl) ?_
    refine R2f_ 1 9 rfl rfl rfl rfl rfl _ ⟨rfl, trivial⟩ (Y.z (yL 1 Tryz.underlying9) rfl) ?_
    refine R2f_ 2 10 rfl rfl rfl rfl rfl _ trivial (Y.z (y_bin rfl rfl rfl (fun hg => b_adds (by first | omega | (simp only [List.length_append, List.length_cons, List.length_nil]; omega)))) rfl) ?_
    refine R2f_ 3 11 rfl rfl rfl rfl rfl _ trivial (Y.z (y_bin rfl rfl rfl (fun hg => b_adds (by first | omega | (simp only [List.length_append, List.length_cons, List.length_nil]; omega)))) rfl) ?_
    refine R2f_ 4 12 rfl rfl rfl rfl rfl _ trivial (Y.z (yF fa26_1) rfl) ?_
    refine R2f_ 5 13 rfl rfl rfl rfl rfl _ ⟨rfl, trivial⟩ (Y.z (yL 1 Tryz.underlying3) rfl) ?_
    refine R2f_ 11 19 rfl rfl rfl rfl rfl _ trivial (Y.z (yF fa26_2) rfl) ?_
    refine R2f_ 12 20 rfl rfl rfl rfl rfl _ ⟨rfl, trivial⟩ (Y.z (yL 1 Tryz.underlying3) rfl) ?_
    refine R2f_ 13 21 rfl rfl rfl rfl rfl _ trivial (Y.z (y_bin rfl rfl rfl (fun hg => b_subv ((((e.lv - 1).toNat : Nat) : Int)) (by omega) (by omega))) rfl) ?_
    refine R2f_ 18 26 rfl rfl rfl rfl rfl _ trivial (Y.z (yF fa26_8) rfl) ?_
    refine R2f_ 19 27 rfl rfl rfl rfl rfl _ ⟨rfl, trivial⟩ (Y.z (yL 1 Tryz.underlying3) rfl) ?_
    refine R2_two rfl rfl ?_ ?_
    · skip
      refine S_buildSlice 14 14 rfl rfl rfl rfl rfl Tryz.underlying225 inf3 rfl (by decide) (by decide) rfl rfl (by decide) rfl ([e.at_].flatMap nmE) ?_ ?_
      · rfl
      intro b14
      refine R2_next ⟨.inr ⟨rfl, trivial⟩, .inl rfl, .inr ⟨rfl, trivial⟩, .inr ⟨rfl, trivial⟩, trivial⟩ ?_
      refine R2_two rfl rfl ?_ ?_
      · skip
        refine s1 (y_as (v' := str ([32] ++ Lib.itoa e.at_)) (by rw [nmB_one]) (y_call rfl rfl rfl cf130 (fun hg w1 hM => rnums_any _ 1 _ [e.at_] w1 (owned_ok (enc := nmE) (l := [e.at_]) hM rfl (i := 14) rfl).t (by decide) (fun n hn => by rw [List.mem_singleton.1 hn]; omega) (hP.below hM.below)))) ?_
        refine R2_next ⟨.inr ⟨rfl, trivial⟩, .inl rfl, .inr ⟨rfl, trivial⟩, .inr ⟨rfl, trivial⟩, trivial⟩ ?_
        refine R2f_ 8 16 rfl rfl rfl rfl rfl _ trivial (Y.z (y_bin rfl rfl rfl (fun hg => b_adds (by first | omega | (simp only [List.length_append, List.length_cons, List.length_nil]; omega)))) rfl) ?_
        refine R2f_ 9 17 rfl rfl rfl rfl rfl _ trivial (Y.z (y_bin rfl rfl rfl (fun hg => b_adds (by first | omega | (simp only [List.length_append, List.length_cons, List.length_nil]; omega)))) rfl) ?_
        refine R2_two rfl rfl ?_ ?_
        · skip
          refine S_callOwn 18 18 rfl rfl rfl rfl rfl rfl rfl cf131 (fun A c => .slice A (5) c) 9 1 (5) (levels.flatMap strE) (fun w hM => LevelWords_any w) ?_
          intro A18 c18
          refine R2_next ⟨.inr ⟨rfl, trivial⟩, .inl rfl, .inr ⟨rfl, trivial⟩, .inr ⟨rfl, trivial⟩, trivial⟩ ?_
          refine R2_two rfl rfl ?_ ?_
          · skip
            refine s1 (y_indexOwn 18 rfl rfl rfl rfl Tryz.underlying53 sz9 (fun _ => by omega)) ?_
            refine R2_next ⟨.inr ⟨rfl, trivial⟩, .inl rfl, .inl rfl, .inr ⟨rfl, trivial⟩, trivial⟩ ?_
            refine R2_two rfl rfl ?_ ?_
            · skip
              refine s1 (y_loadO1 18 (val := (fun l : List UInt8 => str l)) rfl rfl rfl rfl (fun _ => lvE_at hlv) Tryz.underlying9 rfl) ?_
              refine R2_next ⟨.inr ⟨rfl, trivial⟩, .inl rfl, .inl rfl, .inr ⟨rfl, trivial⟩, trivial⟩ ?_
              refine R2f_ 16 24 rfl rfl rfl rfl rfl _ trivial (Y.z (y_bin rfl rfl rfl (fun hg => b_adds (by first | omega | (simp only [List.length_append, List.length_cons, List.length_nil]; omega)))) rfl) ?_
              refine R2f_ 17 25 rfl rfl rfl rfl rfl _ trivial (Y.z (y_bin rfl rfl rfl (fun hg => b_adds (by first | omega | (simp only [List.length_append, List.length_cons, List.length_nil]; omega)))) rfl) ?_
              refine R2_chain 20 rfl rfl ?_
              refine S_buildSlice 28 28 rfl rfl rfl rfl rfl Tryz.underlying225 inf3 rfl (by decide) (by decide) rfl rfl (by decide) rfl ([e.wt].flatMap nmE) ?_ ?_
              · rfl
              intro b28
              refine R2_next ⟨.inr ⟨rfl, trivial⟩, .inr ⟨rfl, trivial⟩, .inr ⟨rfl, trivial⟩, .inl rfl, trivial⟩ ?_
              refine R2_chain 21 rfl rfl ?_
              refine s1 (y_as (v' := str ([32] ++ Lib.itoa e.wt)) (by rw [nmB_one]) (y_call rfl rfl rfl cf130 (fun hg w1 hM => rnums_any _ 1 _ [e.wt] w1 (owned_ok (enc := nmE) (l := [e.wt]) hM rfl (i := 28) rfl).t (by decide) (fun n hn => by rw [List.mem_singleton.1 hn]; omega) (hP.below hM.below)))) ?_
              refine R2_next ⟨.inr ⟨rfl, trivial⟩, .inl rfl, .inr ⟨rfl, trivial⟩, .inl rfl, trivial⟩ ?_
              refine R2f_ 22 30 rfl rfl rfl rfl rfl _ trivial (Y.z (y_bin rfl rfl rfl (fun hg => b_adds (by first | omega | (simp only [List.length_append, List.length_cons, List.length_nil]; omega)))) rfl) ?_
              refine R2f_ 23 31 rfl rfl rfl rfl rfl _ trivial (Y.z (y_as (v' := str (hd4T e)) (by simp [hd4T, lnT, jnS]) (y_bin rfl rfl rfl (fun hg => b_adds (by first | omega | (simp only [List.length_append, List.length_cons, List.length_nil]; omega))))) rfl) ?_
              refine R2f_ 24 3 rfl rfl rfl rfl rfl _ trivial (Y.z (y_assign rfl rfl) rfl) ?_
              exact R2_nil (fun a w hF hM => ⟨hF.sub (by exact ⟨rfl, rfl, trivial⟩), hM.sub (by exact ⟨rfl, trivial⟩)⟩)
            · skip
              refine S_buildSlice 28 28 rfl rfl rfl rfl rfl Tryz.underlying225 inf3 rfl (by decide) (by decide) rfl rfl (by decide) rfl ([e.wt].flatMap nmE) ?_ ?_
              · rfl
              intro b28
              refine R2_next ⟨.inr ⟨rfl, trivial⟩, .inr ⟨rfl, trivial⟩, .inr ⟨rfl, trivial⟩, .inl rfl, trivial⟩ ?_
              refine R2_two rfl rfl ?_ ?_
              · skip
                refine s1 (y_loadO1 18 (val := (fun l : List UInt8 => str l)) rfl rfl rfl rfl (fun _ => lvE_at hlv) Tryz.underlying9 rfl) ?_
                refine R2_next ⟨.inr ⟨rfl, trivial⟩, .inl rfl, .inl rfl, .inr ⟨rfl, trivial⟩, trivial⟩ ?_
                refine R2f_ 16 24 rfl rfl rfl rfl rfl _ trivial (Y.z (y_bin rfl rfl rfl (fun hg => b_adds (by first | omega | (simp only [List.length_append, List.length_cons, List.length_nil]; omega)))) rfl) ?_
                refine R2f_ 17 25 rfl rfl rfl rfl rfl _ trivial (Y.z (y_bin rfl rfl rfl (fun hg => b_adds (by first | omega | (simp only [List.length_append, List.length_cons, List.length_nil]; omega)))) rfl) ?_
                refine R2_chain 21 rfl rfl ?_
                refine s1 (y_as (v' := str ([32] ++ Lib.itoa e.wt)) (by rw [nmB_one]) (y_call rfl rfl rfl cf130 (fun hg w1 hM => rnums_any _ 1 _ [e.wt] w1 (owned_ok (enc := nmE) (l := [e.wt]) hM rfl (i := 28) rfl).t (by decide) (fun n hn => by rw [List.mem_singleton.1 hn]; omega) (hP.below hM.below)))) ?_
                refine R2_next ⟨.inr ⟨rfl, trivial⟩, .inl rfl, .inr ⟨rfl, trivial⟩, .inl rfl, trivial⟩ ?_
                refine R2f_ 22 30 rfl rfl rfl rfl rfl _ trivial (Y.z (y_bin rfl rfl rfl (fun hg => b_adds (by first | omega | (simp only [List.length_append, List.length_cons, List.length_nil]; omega)))) rfl) ?_
                refine R2f_ 23 31 rfl rfl rfl rfl rfl _ trivial (Y.z (y_as (v' := str (hd4T e)) (by simp [hd4T, lnT, jnS]) (y_bin rfl rfl rfl (fun hg => b_adds (by first | omega | (simp only [List.length_append, List.length_cons, List.length_nil]; omega))))) rfl) ?_
                refine R2f_ 24 3 rfl rfl rfl rfl rfl _ trivial (Y.z (y_assign rfl rfl) rfl) ?_
                exact R2_nil (fun a w hF hM => ⟨hF.sub (by exact ⟨rfl, rfl, trivial⟩), hM.sub (by exact ⟨rfl, trivial⟩)⟩)
              · skip
                refine s1 (y_as (v' := str ([32] ++ Lib.itoa e.wt)) (by rw [nmB_one]) (y_call rfl rfl rfl cf130 (fun hg w1 hM => rnums_any _ 1 _ [e.wt] w1 (owned_ok (enc := nmE) (l := [e.wt]) hM rfl (i := 28) rfl).t (by decide) (fun n hn => by rw [List.mem_singleton.1 hn]; omega) (hP.below hM.below)))) ?_
                refine R2_next ⟨.inr ⟨rfl, trivial⟩, .inl rfl, .inr ⟨rfl, trivial⟩, .inl rfl, trivial⟩ ?_
                refine R2_chain 15 rfl rfl ?_
                refine s1 (y_loadO1 18 (val := (fun l : List UInt8 => str l)) rfl rfl rfl rfl (fun _ => lvE_at hlv) Tryz.underlying9 rfl) ?_
                refine R2_next ⟨.inr ⟨rfl, trivial⟩, .inl rfl, .inl rfl, .inr ⟨rfl, trivial⟩, trivial⟩ ?_
                refine R2f_ 16 24 rfl rfl rfl rfl rfl _ trivial (Y.z (y_bin rfl rfl rfl (fun hg => b_adds (by first | omega | (simp only [List.length_append, List.length_cons, List.length_nil]; omega)))) rfl) ?_
                refine R2f_ 17 25 rfl rfl rfl rfl rfl _ trivial (Y.z (y_bin rfl rfl rfl (fun hg => b_adds (by first | omega | (simp only [List.length_append, List.length_cons, List.length_nil]; omega)))) rfl) ?_
                refine R2f_ 22 30 rfl rfl rfl rfl rfl _ trivial (Y.z (y_bin rfl rfl rfl (fun hg => b_adds (by first | omega | (simp only [List.length_append, List.length_cons, List.length_nil]; omega)))) rfl) ?_
                refine R2f_ 23 31 rfl rfl rfl rfl rfl _ trivial (Y.z (y_as (v' := str (hd4T e)) (by simp [hd4T, lnT, jnS]) (y_bin rfl rfl rfl (fun hg => b_adds (by first | omega | (simp only [List.length_append, List.length_cons, List.length_nil]; omega))))) rfl) ?_
                refine R2f_ 24 3 rfl rfl rfl rfl rfl _ trivial (Y.z (y_assign rfl rfl) rfl) ?_
                exact R2_nil (fun a w hF hM => ⟨hF.sub (by exact ⟨rfl, rfl, trivial⟩), hM.sub (by exact ⟨rfl, trivial⟩)⟩)
          · skip
            refine S_buildSlice 28 28 rfl rfl rfl rfl rfl Tryz.underlying225 inf3 rfl (by decide) (by decide) rfl rfl (by decide) rfl ([e.wt].flatMap nmE) ?_ ?_
            · rfl
            intro b28
            refine R2_next ⟨.inr ⟨rfl, trivial⟩, .inr ⟨rfl, trivial⟩, .inr ⟨rfl, trivial⟩, .inl rfl, trivial⟩ ?_
            refine R2_two rfl rfl ?_ ?_
            · skip
              refine s1 (y_indexOwn 18 rfl rfl rfl rfl Tryz.underlying53 sz9 (fun _ => by omega)) ?_
              refine R2_next ⟨.inr ⟨rfl, trivial⟩, .inl rfl, .inl rfl, .inr ⟨rfl, trivial⟩, trivial⟩ ?_
              refine R2_two rfl rfl ?_ ?_
              · skip
                refine s1 (y_loadO1 18 (val := (fun l : List UInt8 => str l)) rfl rfl rfl rfl (fun _ => lvE_at hlv) Tryz.underlying9 rfl) ?_
                refine R2_next ⟨.inr ⟨rfl, trivial⟩, .inl rfl, .inl rfl, .inr ⟨rfl, trivial⟩, trivial⟩ ?_
                refine R2f_ 16 24 rfl rfl rfl rfl rfl _ trivial (Y.z (y_bin rfl rfl rfl (fun hg => b_adds (by first | omega | (simp only [List.length_append, List.length_cons, List.length_nil]; omega)))) rfl) ?_
                refine R2f_ 17 25 rfl rfl rfl rfl rfl _ trivial (Y.z (y_bin rfl rfl rfl (fun hg => b_adds (by first | omega | (simp only [List.length_append, List.length_cons, List.length_nil]; omega)))) rfl) ?_
                refine R2_chain 21 rfl rfl ?_
                refine s1 (y_as (v' := str ([32] ++ Lib.itoa e.wt)) (by rw [nmB_one]) (y_call rfl rfl rfl cf130 (fun hg w1 hM => rnums_any _ 1 _ [e.wt] w1 (owned_ok (enc := nmE) (l := [e.wt]) hM rfl (i := 28) rfl).t (by decide) (fun n hn => by rw [List.mem_singleton.1 hn]; omega) (hP.below hM.below)))) ?_
                refine R2_next ⟨.inr ⟨rfl, trivial⟩, .inl rfl, .inr ⟨rfl, trivial⟩, .inl rfl, trivial⟩ ?_
                refine R2f_ 22 30 rfl rfl rfl rfl rfl _ trivial (Y.z (y_bin rfl rfl rfl (fun hg => b_adds (by first | omega | (simp only [List.length_append, List.length_cons, List.length_nil]; omega)))) rfl) ?_
                refine R2f_ 23 31 rfl rfl rfl rfl rfl _ trivial (Y.z (y_as (v' := str (hd4T e)) (by simp [hd4T, lnT, jnS]) (y_bin rfl rfl rfl (fun hg => b_adds (by first | omega | (simp only [List.length_append, List.length_cons, List.length_nil]; omega))))) rfl) ?_
                refine R2f_ 24 3 rfl rfl rfl rfl rfl _ trivial (Y.z (y_assign rfl rfl) rfl) ?_
                exact R2_nil (fun a w hF hM => ⟨hF.sub (by exact ⟨rfl, rfl, trivial⟩), hM.sub (by exact ⟨rfl, trivial⟩)⟩)
              · skip
                refine s1 (y_as (v' := str ([32] ++ Lib.itoa e.wt)) (by rw [nmB_one]) (y_call rfl rfl rfl cf130 (fun hg w1 hM => rnums_any _ 1 _ [e.wt] w1 (owned_ok (enc := nmE) (l := [e.wt]) hM rfl (i := 28) rfl).t (by decide) (fun n hn => by rw [List.mem_singleton.1 hn]; omega) (hP.below hM.below)))) ?_
                refine R2_next ⟨.inr ⟨rfl, trivial⟩, .inl rfl, .inr ⟨rfl, trivial⟩, .inl rfl, trivial⟩ ?_
                refine R2_chain 15 rfl rfl ?_
                refine s1 (y_loadO1 18 (val := (fun l : List UInt8 => str l)) rfl rfl rfl rfl (fun _ => lvE_at hlv) Tryz.underlying9 rfl) ?_
                refine R2_next ⟨.inr ⟨rfl, trivial⟩, .inl rfl, .inl rfl, .inr ⟨rfl, trivial⟩, trivial⟩ ?_
                refine R2f_ 16 24 rfl rfl rfl rfl rfl _ trivial (Y.z (y_bin rfl rfl rfl (fun hg => b_adds (by first | omega | (simp only [List.length_append, List.length_cons, List.length_nil]; omega)))) rfl) ?_
                refine R2f_ 17 25 rfl rfl rfl rfl rfl _ trivial (Y.z (y_bin rfl rfl rfl (fun hg => b_adds (by first | omega | (simp only [List.length_append, List.length_cons, List.length_nil]; omega)))) rfl) ?_
                refine R2f_ 22 30 rfl rfl rfl rfl rfl _ trivial (Y.z (y_bin rfl rfl rfl (fun hg => b_adds (by first | omega | (simp only [List.length_append, List.length_cons, List.length_nil]; omega)))) rfl) ?_
                refine R2f_ 23 31 rfl rfl rfl rfl rfl _ trivial (Y.z (y_as (v' := str (hd4T e)) (by simp [hd4T, lnT, jnS]) (y_bin rfl rfl rfl (fun hg => b_adds (by first | omega | (simp only [List.length_append, List.length_cons, List.length_nil]; omega))))) rfl) ?_
                refine R2f_ 24 3 rfl rfl rfl rfl rfl _ trivial (Y.z (y_assign rfl rfl) rfl) ?_
                exact R2_nil (fun a w hF hM => ⟨hF.sub (by exact ⟨rfl, rfl, trivial⟩), hM.sub (by exact ⟨rfl, trivial⟩)⟩)
            · skip
              refine s1 (y_as (v' := str ([32] ++ Lib.itoa e.wt)) (by rw [nmB_one]) (y_call rfl rfl rfl cf130 (fun hg w1 hM => rnums_any _ 1 _ [e.wt] w1 (owned_ok (enc := nmE) (l := [e.wt]) hM rfl (i := 28) rfl).t (by decide) (fun n hn => by rw [List.mem_singleton.1 hn]; omega) (hP.below hM.below)))) ?_
              refine R2_next ⟨.inr ⟨rfl, trivial⟩, .inl rfl, .inr ⟨rfl, trivial⟩, .inl rfl, trivial⟩ ?_
              refine R2_chain 14 rfl rfl ?_
              refine s1 (y_indexOwn 18 rfl rfl rfl rfl Tryz.underlying53 sz9 (fun _ => by omega)) ?_
              refine R2_next ⟨.inr ⟨rfl, trivial⟩, .inl rfl, .inl rfl, .inr ⟨rfl, trivial⟩, trivial⟩ ?_
              refine R2_chain 15 rfl rfl ?_
              refine s1 (y_loadO1 18 (val := (fun l : List UInt8 => str l)) rfl rfl rfl rfl (fun _ => lvE_at hlv) Tryz.underlying9 rfl) ?_
              refine R2_next ⟨.inr ⟨rfl, trivial⟩, .inl rfl, .inl rfl, .inr ⟨rfl, trivial⟩, trivial⟩ ?_
              refine R2f_ 16 24 rfl rfl rfl rfl rfl _ trivial (Y.z (y_bin rfl rfl rfl (fun hg => b_adds (by first | omega | (simp only [List.length_append, List.length_cons, List.length_nil]; omega)))) rfl) ?_
              refine R2f_ 17 25 rfl rfl rfl rfl rfl _ trivial (Y.z (y_bin rfl rfl rfl (fun hg => b_adds (by first | omega | (simp only [List.length_append, List.length_cons, List.length_nil]; omega)))) rfl) ?_
              refine R2f_ 22 30 rfl rfl rfl rfl rfl _ trivial (Y.z (y_bin rfl rfl rfl (fun hg => b_adds (by first | omega | (simp only [List.length_append, List.length_cons, List.length_nil]; omega)))) rfl) ?_
              refine R2f_ 23 31 rfl rfl rfl rfl rfl _ trivial (Y.z (y_as (v' := str (hd4T e)) (by simp [hd4T, lnT, jnS]) (y_bin rfl rfl rfl (fun hg => b_adds (by first | omega | (simp only [List.length_append, List.length_cons, List.length_nil]; omega))))) rfl) ?_
              refine R2f_ 24 3 rfl rfl rfl rfl rfl _ trivial (Y.z (y_assign rfl rfl) rfl) ?_
              exact R2_nil (fun a w hF hM => ⟨hF.sub (by exact ⟨rfl, rfl, trivial⟩), hM.sub (by exact ⟨rfl, trivial⟩)⟩)
        · skip
          refine S_buildSlice 28 28 rfl rfl rfl rfl rfl Tryz.underlying225 inf3 rfl (by decide) (by decide) rfl rfl (by decide) rfl ([e.wt].flatMap nmE) ?_ ?_
          · rfl
          intro b28
          refine R2_next ⟨.inr ⟨rfl, trivial⟩, .inr ⟨rfl, trivial⟩, .inr ⟨rfl, trivial⟩, .inl rfl, trivial⟩ ?_
          refine R2_chain 10 rfl rfl ?_
          refine S_callOwn 18 18 rfl rfl rfl rfl rfl rfl rfl cf131 (fun A c => .slice A (5) c) 9 1 (5) (levels.flatMap strE) (fun w hM => LevelWords_any w) ?_
          intro A18 c18
          refine R2_next ⟨.inr ⟨rfl, trivial⟩, .inl rfl, .inr ⟨rfl, trivial⟩, .inr ⟨rfl, trivial⟩, trivial⟩ ?_
          refine R2_two rfl rfl ?_ ?_
          · skip
            refine s1 (y_indexOwn 18 rfl rfl rfl rfl Tryz.underlying53 sz9 (fun _ => by omega)) ?_
            refine R2_next ⟨.inr ⟨rfl, trivial⟩, .inl rfl, .inl rfl, .inr ⟨rfl, trivial⟩, trivial⟩ ?_
            refine R2_two rfl rfl ?_ ?_
            · skip
              refine s1 (y_loadO1 18 (val := (fun l : List UInt8 => str l)) rfl rfl rfl rfl (fun _ => lvE_at hlv) Tryz.underlying9 rfl) ?_
              refine R2_next ⟨.inr ⟨rfl, trivial⟩, .inl rfl, .inl rfl, .inr ⟨rfl, trivial⟩, trivial⟩ ?_
              refine R2f_ 16 24 rfl rfl rfl rfl rfl _ trivial (Y.z (y_bin rfl rfl rfl (fun hg => b_adds (by first | omega | (simp only [List.length_append, List.length_cons, List.length_nil]; omega)))) rfl) ?_
              refine R2f_ 17 25 rfl rfl rfl rfl rfl _ trivial (Y.z (y_bin rfl rfl rfl (fun hg => b_adds (by first | omega | (simp only [List.length_append, List.length_cons, List.length_nil]; omega)))) rfl) ?_
              refine R2_chain 21 rfl rfl ?_
              refine s1 (y_as (v' := str ([32] ++ Lib.itoa e.wt)) (by rw [nmB_one]) (y_call rfl rfl rfl cf130 (fun hg w1 hM => rnums_any _ 1 _ [e.wt] w1 (owned_ok (enc := nmE) (l := [e.wt]) hM rfl (i := 28) rfl).t (by decide) (fun n hn => by rw [List.mem_singleton.1 hn]; omega) (hP.below hM.below)))) ?_
              refine R2_next ⟨.inr ⟨rfl, trivial⟩, .inl rfl, .inr ⟨rfl, trivial⟩, .inl rfl, trivial⟩ ?_
              refine R2f_ 22 30 rfl rfl rfl rfl rfl _ trivial (Y.z (y_bin rfl rfl rfl (fun hg => b_adds (by first | omega | (simp only [List.length_append, List.length_cons, List.length_nil]; omega)))) rfl) ?_
              refine R2f_ 23 31 rfl rfl rfl rfl rfl _ trivial (Y.z (y_as (v' := str (hd4T e)) (by simp [hd4T, lnT, jnS]) (y_bin rfl rfl rfl (fun hg => b_adds (by first | omega | (simp only [List.length_append, List.length_cons, List.length_nil]; omega))))) rfl) ?_
              refine R2f_ 24 3 rfl rfl rfl rfl rfl _ trivial (Y.z (y_assign rfl rfl) rfl) ?_
              exact R2_nil (fun a w hF hM => ⟨hF.sub (by exact ⟨rfl, rfl, trivial⟩), hM.sub (by exact ⟨rfl, trivial⟩)⟩)
            · skip
              refine s1 (y_as (v' := str ([32] ++ Lib.itoa e.wt)) (by rw [nmB_one]) (y_call rfl rfl rfl cf130 (fun hg w1 hM => rnums_any _ 1 _ [e.wt] w1 (owned_ok (enc := nmE) (l := [e.wt]) hM rfl (i := 28) rfl).t (by decide) (fun n hn => by rw [List.mem_singleton.1 hn]; omega) (hP.below hM.below)))) ?_
              refine R2_next ⟨.inr ⟨rfl, trivial⟩, .inl rfl, .inr ⟨rfl, trivial⟩, .inl rfl, trivial⟩ ?_
              refine R2_chain 15 rfl rfl ?_
              refine s1 (y_loadO1 18 (val := (fun l : List UInt8 => str l)) rfl rfl rfl rfl (fun _ => lvE_at hlv) Tryz.underlying9 rfl) ?_
              refine R2_next ⟨.inr ⟨rfl, trivial⟩, .inl rfl, .inl rfl, .inr ⟨rfl, trivial⟩, trivial⟩ ?_
              refine R2f_ 16 24 rfl rfl rfl rfl rfl _ trivial (Y.z (y_bin rfl rfl rfl (fun hg => b_adds (by first | omega | (simp only [List.length_append, List.length_cons, List.length_nil]; omega)))) rfl) ?_
              refine R2f_ 17 25 rfl rfl rfl rfl rfl _ trivial (Y.z (y_bin rfl rfl rfl (fun hg => b_adds (by first | omega | (simp only [List.length_append, List.length_cons, List.length_nil]; omega)))) rfl) ?_
              refine R2f_ 22 30 rfl rfl rfl rfl rfl _ trivial (Y.z (y_bin rfl rfl rfl (fun hg => b_adds (by first | omega | (simp only [List.length_append, List.length_cons, List.length_nil]; omega)))) rfl) ?_
              refine R2f_ 23 31 rfl rfl rfl rfl rfl _ trivial (Y.z (y_as (v' := str (hd4T e)) (by simp [hd4T, lnT, jnS]) (y_bin rfl rfl rfl (fun hg => b_adds (by first | omega | (simp only [List.length_append, List.length_cons, List.length_nil]; omega))))) rfl) ?_
              refine R2f_ 24 3 rfl rfl rfl rfl rfl _ trivial (Y.z (y_assign rfl rfl) rfl) ?_
              exact R2_nil (fun a w hF hM => ⟨hF.sub (by exact ⟨rfl, rfl, trivial⟩), hM.sub (by exact ⟨rfl, trivial⟩)⟩)
          · skip
            refine s1 (y_as (v' := str ([32] ++ Lib.itoa e.wt)) (by rw [nmB_one]) (y_call rfl rfl rfl cf130 (fun hg w1 hM => rnums_any _ 1 _ [e.wt] w1 (owned_ok (enc := nmE) (l := [e.wt]) hM rfl (i := 28) rfl).t (by decide) (fun n hn => by rw [List.mem_singleton.1 hn]; omega) (hP.below hM.below)))) ?_
            refine R2_next ⟨.inr ⟨rfl, trivial⟩, .inl rfl, .inr ⟨rfl, trivial⟩, .inl rfl, trivial⟩ ?_
            refine R2_chain 14 rfl rfl ?_
            refine s1 (y_indexOwn 18 rfl rfl rfl rfl Tryz.underlying53 sz9 (fun _ => by omega)) ?_
            refine R2_next ⟨.inr ⟨rfl, trivial⟩, .inl rfl, .inl rfl, .inr ⟨rfl, trivial⟩, trivial⟩ ?_
            refine R2_chain 15 rfl rfl ?_
            refine s1 (y_loadO1 18 (val := (fun l : List UInt8 => str l)) rfl rfl rfl rfl (fun _ => lvE_at hlv) Tryz.underlying9 rfl) ?_
            refine R2_next ⟨.inr ⟨rfl, trivial⟩, .inl rfl, .inl rfl, .inr ⟨rfl, trivial⟩, trivial⟩ ?_
            refine R2f_ 16 24 rfl rfl rfl rfl rfl _ trivial (Y.z (y_bin rfl rfl rfl (fun hg => b_adds (by first | omega | (simp only [List.length_append, List.length_cons, List.length_nil]; omega)))) rfl) ?_
            refine R2f_ 17 25 rfl rfl rfl rfl rfl _ trivial (Y.z (y_bin rfl rfl rfl (fun hg => b_adds (by first | omega | (simp only [List.length_append, List.length_cons, List.length_nil]; omega)))) rfl) ?_
            refine R2f_ 22 30 rfl rfl rfl rfl rfl _ trivial (Y.z (y_bin rfl rfl rfl (fun hg => b_adds (by first | omega | (simp only [List.length_append, List.length_cons, List.length_nil]; omega)))) rfl) ?_
            refine R2f_ 23 31 rfl rfl rfl rfl rfl _ trivial (Y.z (y_as (v' := str (hd4T e)) (by simp [hd4T, lnT, jnS]) (y_bin rfl rfl rfl (fun hg => b_adds (by first | omega | (simp only [List.length_append, List.length_cons, List.length_nil]; omega))))) rfl) ?_
            refine R2f_ 24 3 rfl rfl rfl rfl rfl _ trivial (Y.z (y_assign rfl rfl) rfl) ?_
            exact R2_nil (fun a w hF hM => ⟨hF.sub (by exact ⟨rfl, rfl, trivial⟩), hM.sub (by exact ⟨rfl, trivial⟩)⟩)
      · skip
        refine S_buildSlice 28 28 rfl rfl rfl rfl rfl Tryz.underlying225 inf3 rfl (by decide) (by decide) rfl rfl (by decide) rfl ([e.wt].flatMap nmE) ?_ ?_
        · rfl
        intro b28
        refine R2_next ⟨.inr ⟨rfl, trivial⟩, .inr ⟨rfl, trivial⟩, .inr ⟨rfl, trivial⟩, .inl rfl, trivial⟩ ?_
        refine R2_chain 7 rfl rfl ?_
        refine s1 (y_as (v' := str ([32] ++ Lib.itoa e.at_)) (by rw [nmB_one]) (y_call rfl rfl rfl cf130 (fun hg w1 hM => rnums_any _ 1 _ [e.at_] w1 (owned_ok (enc := nmE) (l := [e.at_]) hM rfl (i := 14) rfl).t (by decide) (fun n hn => by rw [List.mem_singleton.1 hn]; omega) (hP.below hM.below)))) ?_
        refine R2_next ⟨.inr ⟨rfl, trivial⟩, .inl rfl, .inr ⟨rfl, trivial⟩, .inr ⟨rfl, trivial⟩, trivial⟩ ?_
        refine R2f_ 8 16 rfl rfl rfl rfl rfl _ trivial (Y.z (y_bin rfl rfl rfl (fun hg => b_adds (by first | omega | (simp only [List.length_append, List.length_cons, List.length_nil]; omega)))) rfl) ?_
        refine R2f_ 9 17 rfl rfl rfl rfl rfl _ trivial (Y.z (y_bin rfl rfl rfl (fun hg => b_adds (by first | omega | (simp only [List.length_append, List.length_cons, List.length_nil]; omega)))) rfl) ?_
        refine R2_chain 10 rfl rfl ?_
        refine S_callOwn 18 18 rfl rfl rfl rfl rfl rfl rfl cf131 (fun A c => .slice A (5) c) 9 1 (5) (levels.flatMap strE) (fun w hM => LevelWords_any w) ?_
        intro A18 c18
        refine R2_next ⟨.inr ⟨rfl, trivial⟩, .inl rfl, .inr ⟨rfl, trivial⟩, .inr ⟨rfl, trivial⟩, trivial⟩ ?_
        refine R2_two rfl rfl ?_ ?_
        · skip
          refine s1 (y_indexOwn 18 rfl rfl rfl rfl Tryz.underlying53 sz9 (fun _ => by omega)) ?_
          refine R2_next ⟨.inr ⟨rfl, trivial⟩, .inl rfl, .inl rfl, .inr ⟨rfl, trivial⟩, trivial⟩ ?_
          refine R2_two rfl rfl ?_ ?_
          · skip
            refine s1 (y_loadO1 18 (val := (fun l : List UInt8 => str l)) rfl rfl rfl rfl (fun _ => lvE_at hlv) Tryz.underlying9 rfl) ?_
            refine R2_next ⟨.inr ⟨rfl, trivial⟩, .inl rfl, .inl rfl, .inr ⟨rfl, trivial⟩, trivial⟩ ?_
            refine R2f_ 16 24 rfl rfl rfl rfl rfl _ trivial (Y.z (y_bin rfl rfl rfl (fun hg => b_adds (by first | omega | (simp only [List.length_append, List.length_cons, List.length_nil]; omega)))) rfl) ?_
            refine R2f_ 17 25 rfl rfl rfl rfl rfl _ trivial (Y.z (y_bin rfl rfl rfl (fun hg => b_adds (by first | omega | (simp only [List.length_append, List.length_cons, List.length_nil]; omega)))) rfl) ?_
            refine R2_chain 21 rfl rfl ?_
            refine s1 (y_as (v' := str ([32] ++ Lib.itoa e.wt)) (by rw [nmB_one]) (y_call rfl rfl rfl cf130 (fun hg w1 hM => rnums_any _ 1 _ [e.wt] w1 (owned_ok (enc := nmE) (l := [e.wt]) hM rfl (i := 28) rfl).t (by decide) (fun n hn => by rw [List.mem_singleton.1 hn]; omega) (hP.below hM.below)))) ?_
            refine R2_next ⟨.inr ⟨rfl, trivial⟩, .inl rfl, .inr ⟨rfl, trivial⟩, .inl rfl, trivial⟩ ?_
            refine R2f_ 22 30 rfl rfl rfl rfl rfl _ trivial (Y.z (y_bin rfl rfl rfl (fun hg => b_adds (by first | omega | (simp only [List.length_append, List.length_cons, List.length_nil]; omega)))) rfl) ?_
            refine R2f_ 23 31 rfl rfl rfl rfl rfl _ trivial (Y.z (y_as (v' := str (hd4T e)) (by simp [hd4T, lnT, jnS]) (y_bin rfl rfl rfl (fun hg => b_adds (by first | omega | (simp only [List.length_append, List.length_cons, List.length_nil]; omega))))) rfl) ?_
            refine R2f_ 24 3 rfl rfl rfl rfl rfl _ trivial (Y.z (y_assign rfl rfl) rfl) ?_
            exact R2_nil (fun a w hF hM => ⟨hF.sub (by exact ⟨rfl, rfl, trivial⟩), hM.sub (by exact ⟨rfl, trivial⟩)⟩)
          · skip
            refine s1 (y_as (v' := str ([32] ++ Lib.itoa e.wt)) (by rw [nmB_one]) (y_call rfl rfl rfl cf130 (fun hg w1 hM => rnums_any _ 1 _ [e.wt] w1 (owned_ok (enc := nmE) (l := [e.wt]) hM rfl (i := 28) rfl).t (by decide) (fun n hn => by rw [List.mem_singleton.1 hn]; omega) (hP.below hM.below)))) ?_
            refine R2_next ⟨.inr ⟨rfl, trivial⟩, .inl rfl, .inr ⟨rfl, trivial⟩, .inl rfl, trivial⟩ ?_
            refine R2_chain 15 rfl rfl ?_
            refine s1 (y_loadO1 18 (val := (fun l : List UInt8 => str l)) rfl rfl rfl rfl (fun _ => lvE_at hlv) Tryz.underlying9 rfl) ?_
            refine R2_next ⟨.inr ⟨rfl, trivial⟩, .inl rfl, .inl rfl, .inr ⟨rfl, trivial⟩, trivial⟩ ?_
            refine R2f_ 16 24 rfl rfl rfl rfl rfl _ trivial (Y.z (y_bin rfl rfl rfl (fun hg => b_adds (by first | omega | (simp only [List.length_append, List.length_cons, List.length_nil]; omega)))) rfl) ?_
            refine R2f_ 17 25 rfl rfl rfl rfl rfl _ trivial (Y.z (y_bin rfl rfl rfl (fun hg => b_adds (by first | omega | (simp only [List.length_append, List.length_cons, List.length_nil]; omega)))) rfl) ?_
            refine R2f_ 22 30 rfl rfl rfl rfl rfl _ trivial (Y.z (y_bin rfl rfl rfl (fun hg => b_adds (by first | omega | (simp only [List.length_append, List.length_cons, List.length_nil]; omega)))) rfl) ?_
            refine R2f_ 23 31 rfl rfl rfl rfl rfl _ trivial (Y.z (y_as (v' := str (hd4T e)) (by simp [hd4T, lnT, jnS]) (y_bin rfl rfl rfl (fun hg => b_adds (by first | omega | (simp only [List.length_append, List.length_cons, List.length_nil]; omega))))) rfl) ?_
            refine R2f_ 24 3 rfl rfl rfl rfl rfl _ trivial (Y.z (y_assign rfl rfl) rfl) ?_
            exact R2_nil (fun a w hF hM => ⟨hF.sub (by exact ⟨rfl, rfl, trivial⟩), hM.sub (by exact ⟨rfl, trivial⟩)⟩)
        · skip
          refine s1 (y_as (v' := str ([32] ++ Lib.itoa e.wt)) (by rw [nmB_one]) (y_call rfl rfl rfl cf130 (fun hg w1 hM => rnums_any _ 1 _ [e.wt] w1 (owned_ok (enc := nmE) (l := [e.wt]) hM rfl (i := 28) rfl).t (by decide) (fun n hn => by rw [List.mem_singleton.1 hn]; omega) (hP.below hM.below)))) ?_
          refine R2_next ⟨.inr ⟨rfl, trivial⟩, .inl rfl, .inr ⟨rfl, trivial⟩, .inl rfl, trivial⟩ ?_
          refine R2_chain 14 rfl rfl ?_
          refine s1 (y_indexOwn 18 rfl rfl rfl rfl Tryz.underlying53 sz9 (fun _ => by omega)) ?_
          refine R2_next ⟨.inr ⟨rfl, trivial⟩, .inl rfl, .inl rfl, .inr ⟨rfl, trivial⟩, trivial⟩ ?_
          refine R2_chain 15 rfl rfl ?_
          refine s1 (y_loadO1 18 (val := (fun l : List UInt8 => str l)) rfl rfl rfl rfl (fun _ => lvE_at hlv) Tryz.underlying9 rfl) ?_
          refine R2_next ⟨.inr ⟨rfl, trivial⟩, .inl rfl, .inl rfl, .inr ⟨rfl, trivial⟩, trivial⟩ ?_
          refine R2f_ 16 24 rfl rfl rfl rfl rfl _ trivial (Y.z (y_bin rfl rfl rfl (fun hg => b_adds (by first | omega | (simp only [List.length_append, List.length_cons, List.length_nil]; omega)))) rfl) ?_
          refine R2f_ 17 25 rfl rfl rfl rfl rfl _ trivial (Y.z (y_bin rfl rfl rfl (fun hg => b_adds (by first | omega | (simp only [List.length_append, List.length_cons, List.length_nil]; omega)))) rfl) ?_
          refine R2f_ 22 30 rfl rfl rfl rfl rfl _ trivial (Y.z (y_bin rfl rfl rfl (fun hg => b_adds (by first | omega | (simp only [List.length_append, List.length_cons, List.length_nil]; omega)))) rfl) ?_
          refine R2f_ 23 31 rfl rfl rfl rfl rfl _ trivial (Y.z (y_as (v' := str (hd4T e)) (by simp [hd4T, lnT, jnS]) (y_bin rfl rfl rfl (fun hg => b_adds (by first | omega | (simp only [List.length_append, List.length_cons, List.length_nil]; omega))))) rfl) ?_
          refine R2f_ 24 3 rfl rfl rfl rfl rfl _ trivial (Y.z (y_assign rfl rfl) rfl) ?_
          exact R2_nil (fun a w hF hM => ⟨hF.sub (by exact ⟨rfl, rfl, trivial⟩), hM.sub (by exact ⟨rfl, trivial⟩)⟩)
    · skip
      refine S_buildSlice 28 28 rfl rfl rfl rfl rfl Tryz.underlying225 inf3 rfl (by decide) (by decide) rfl rfl (by decide) rfl ([e.wt].flatMap nmE) ?_ ?_
      · rfl
      intro b28
      refine R2_next ⟨.inr ⟨rfl, trivial⟩, .inr ⟨rfl, trivial⟩, .inr ⟨rfl, trivial⟩, .inl rfl, trivial⟩ ?_
      refine R2_chain 6 rfl rfl ?_
      refine S_buildSlice 14 14 rfl rfl rfl rfl rfl Tryz.underlying225 inf3 rfl (by decide) (by decide) rfl rfl (by decide) rfl ([e.at_].flatMap nmE) ?_ ?_
      · rfl
      intro b14
      refine R2_next ⟨.inr ⟨rfl, trivial⟩, .inl rfl, .inr ⟨rfl, trivial⟩, .inr ⟨rfl, trivial⟩, trivial⟩ ?_
      refine R2_chain 7 rfl rfl ?_
      refine s1 (y_as (v' := str ([32] ++ Lib.itoa e.at_)) (by rw [nmB_one]) (y_call rfl rfl rfl cf130 (fun hg w1 hM => rnums_any _ 1 _ [e.at_] w1 (owned_ok (enc := nmE) (l := [e.at_]) hM rfl (i := 14) rfl).t (by decide) (fun n hn => by rw [List.mem_singleton.1 hn]; omega) (hP.below hM.below)))) ?_
      refine R2_next ⟨.inr ⟨rfl, trivial⟩, .inl rfl, .inr ⟨rfl, trivial⟩, .inr ⟨rfl, trivial⟩, trivial⟩ ?_
      refine R2f_ 8 16 rfl rfl rfl rfl rfl _ trivial (Y.z (y_bin rfl rfl rfl (fun hg => b_adds (by first | omega | (simp only [List.length_append, List.length_cons, List.length_nil]; omega)))) rfl) ?_
      refine R2f_ 9 17 rfl rfl rfl rfl rfl _ trivial (Y.z (y_bin rfl rfl rfl (fun hg => b_adds (by first | omega | (simp only [List.length_append, List.length_cons, List.length_nil]; omega)))) rfl) ?_
      refine R2_chain 10 rfl rfl ?_
      refine S_callOwn 18 18 rfl rfl rfl rfl rfl rfl rfl cf131 (fun A c => .slice A (5) c) 9 1 (5) (levels.flatMap strE) (fun w hM => LevelWords_any w) ?_
      intro A18 c18
      refine R2_next ⟨.inr ⟨rfl, trivial⟩, .inl rfl, .inr ⟨rfl, trivial⟩, .inr ⟨rfl, trivial⟩, trivial⟩ ?_
      refine R2_two rfl rfl ?_ ?_
      · skip
        refine s1 (y_indexOwn 18 rfl rfl rfl rfl Tryz.underlying53 sz9 (fun _ => by omega)) ?_
        refine R2_next ⟨.inr ⟨rfl, trivial⟩, .inl rfl, .inl rfl, .inr ⟨rfl, trivial⟩, trivial⟩ ?_
        refine R2_two rfl rfl ?_ ?_
        · skip
          refine s1 (y_loadO1 18 (val := (fun l : List UInt8 => str l)) rfl rfl rfl rfl (fun _ => lvE_at hlv) Tryz.underlying9 rfl) ?_
          refine R2_next ⟨.inr ⟨rfl, trivial⟩, .inl rfl, .inl rfl, .inr ⟨rfl, trivial⟩, trivial⟩ ?_
          refine R2f_ 16 24 rfl rfl rfl rfl rfl _ trivial (Y.z (y_bin rfl rfl rfl (fun hg => b_adds (by first | omega | (simp only [List.length_append, List.length_cons, List.length_nil]; omega)))) rfl) ?_
          refine R2f_ 17 25 rfl rfl rfl rfl rfl _ trivial (Y.z (y_bin rfl rfl rfl (fun hg => b_adds (by first | omega | (simp only [List.length_append, List.length_cons, List.length_nil]; omega)))) rfl) ?_
          refine R2_chain 21 rfl rfl ?_
          refine s1 (y_as (v' := str ([32] ++ Lib.itoa e.wt)) (by rw [nmB_one]) (y_call rfl rfl rfl cf130 (fun hg w1 hM => rnums_any _ 1 _ [e.wt] w1 (owned_ok (enc := nmE) (l := [e.wt]) hM rfl (i := 28) rfl).t (by decide) (fun n hn => by rw [List.mem_singleton.1 hn]; omega) (hP.below hM.below)))) ?_
          refine R2_next ⟨.inr ⟨rfl, trivial⟩, .inl rfl, .inr ⟨rfl, trivial⟩, .inl rfl, trivial⟩ ?_
          refine R2f_ 22 30 rfl rfl rfl rfl rfl _ trivial (Y.z (y_bin rfl rfl rfl (fun hg => b_adds (by first | omega | (simp only [List.length_append, List.length_cons, List.length_nil]; omega)))) rfl) ?_
          refine R2f_ 23 31 rfl rfl rfl rfl rfl _ trivial (Y.z (y_as (v' := str (hd4T e)) (by simp [hd4T, lnT, jnS]) (y_bin rfl rfl rfl (fun hg => b_adds (by first | omega | (simp only [List.length_append, List.length_cons, List.length_nil]; omega))))) rfl) ?_
          refine R2f_ 24 3 rfl rfl rfl rfl rfl _ trivial (Y.z (y_assign rfl rfl) rfl) ?_
          exact R2_nil (fun a w hF hM => ⟨hF.sub (by exact ⟨rfl, rfl, trivial⟩), hM.sub (by exact ⟨rfl, trivial⟩)⟩)
        · skip
          refine s1 (y_as (v' := str ([32] ++ Lib.itoa e.wt)) (by rw [nmB_one]) (y_call rfl rfl rfl cf130 (fun hg w1 hM => rnums_any _ 1 _ [e.wt] w1 (owned_ok (enc := nmE) (l := [e.wt]) hM rfl (i := 28) rfl).t (by decide) (fun n hn => by rw [List.mem_singleton.1 hn]; omega) (hP.below hM.below)))) ?_
          refine R2_next ⟨.inr ⟨rfl, trivial⟩, .inl rfl, .inr ⟨rfl, trivial⟩, .inl rfl, trivial⟩ ?_
          refine R2_chain 15 rfl rfl ?_
          refine s1 (y_loadO1 18 (val := (fun l : List UInt8 => str l)) rfl rfl rfl rfl (fun _ => lvE_at hlv) Tryz.underlying9 rfl) ?_
          refine R2_next ⟨.inr ⟨rfl, trivial⟩, .inl rfl, .inl rfl, .inr ⟨rfl, trivial⟩, trivial⟩ ?_
          refine R2f_ 16 24 rfl rfl rfl rfl rfl _ trivial (Y.z (y_bin rfl rfl rfl (fun hg => b_adds (by first | omega | (simp only [List.length_append, List.length_cons, List.length_nil]; omega)))) rfl) ?_
          refine R2f_ 17 25 rfl rfl rfl rfl rfl _ trivial (Y.z (y_bin rfl rfl rfl (fun hg => b_adds (by first | omega | (simp only [List.length_append, List.length_cons, List.length_nil]; omega)))) rfl) ?_
          refine R2f_ 22 30 rfl rfl rfl rfl rfl _ trivial (Y.z (y_bin rfl rfl rfl (fun hg => b_adds (by first | omega | (simp only [List.length_append, List.length_cons, List.length_nil]; omega)))) rfl) ?_
          refine R2f_ 23 31 rfl rfl rfl rfl rfl _ trivial (Y.z (y_as (v' := str (hd4T e)) (by simp [hd4T, lnT, jnS]) (y_bin rfl rfl rfl (fun hg => b_adds (by first | omega | (simp only [List.length_append, List.length_cons, List.length_nil]; omega))))) rfl) ?_
          refine R2f_ 24 3 rfl rfl rfl rfl rfl _ trivial (Y.z (y_assign rfl rfl) rfl) ?_
          exact R2_nil (fun a w hF hM => ⟨hF.sub (by exact ⟨rfl, rfl, trivial⟩), hM.sub (by exact ⟨rfl, trivial⟩)⟩)
      · skip
        refine s1 (y_as (v' := str ([32] ++ Lib.itoa e.wt)) (by rw [nmB_one]) (y_call rfl rfl rfl cf130 (fun hg w1 hM => rnums_any _ 1 _ [e.wt] w1 (owned_ok (enc := nmE) (l := [e.wt]) hM rfl (i := 28) rfl).t (by decide) (fun n hn => by rw [List.mem_singleton.1 hn]; omega) (hP.below hM.below)))) ?_
        refine R2_next ⟨.inr ⟨rfl, trivial⟩, .inl rfl, .inr ⟨rfl, trivial⟩, .inl rfl, trivial⟩ ?_
        refine R2_chain 14 rfl rfl ?_
        refine s1 (y_indexOwn 18 rfl rfl rfl rfl Tryz.underlying53 sz9 (fun _ => by omega)) ?_
        refine R2_next ⟨.inr ⟨rfl, trivial⟩, .inl rfl, .inl rfl, .inr ⟨rfl, trivial⟩, trivial⟩ ?_
        refine R2_chain 15 rfl rfl ?_
        refine s1 (y_loadO1 18 (val := (fun l : List UInt8 => str l)) rfl rfl rfl rfl (fun _ => lvE_at hlv) Tryz.underlying9 rfl) ?_
        refine R2_next ⟨.inr ⟨rfl, trivial⟩, .inl rfl, .inl rfl, .inr ⟨rfl, trivial⟩, trivial⟩ ?_
        refine R2f_ 16 24 rfl rfl rfl rfl rfl _ trivial (Y.z (y_bin rfl rfl rfl (fun hg => b_adds (by first | omega | (simp only [List.length_append, List.length_cons, List.length_nil]; omega)))) rfl) ?_
        refine R2f_ 17 25 rfl rfl rfl rfl rfl _ trivial (Y.z (y_bin rfl rfl rfl (fun hg => b_adds (by first | omega | (simp only [List.length_append, List.length_cons, List.length_nil]; omega)))) rfl) ?_
        refine R2f_ 22 30 rfl rfl rfl rfl rfl _ trivial (Y.z (y_bin rfl rfl rfl (fun hg => b_adds (by first | omega | (simp only [List.length_append, List.length_cons, List.length_nil]; omega)))) rfl) ?_
        refine R2f_ 23 31 rfl rfl rfl rfl rfl _ trivial (Y.z (y_as (v' := str (hd4T e)) (by simp [hd4T, lnT, jnS]) (y_bin rfl rfl rfl (fun hg => b_adds (by first | omega | (simp only [List.length_append, List.length_cons, List.length_nil]; omega))))) rfl) ?_
        refine R2f_ 24 3 rfl rfl rfl rfl rfl _ trivial (Y.z (y_assign rfl rfl) rfl) ?_
        exact R2_nil (fun a w hF hM => ⟨hF.sub (by exact ⟨rfl, rfl, trivial⟩), hM.sub (by exact ⟨rfl, trivial⟩)⟩)
  refine sgs ?_
  refine tx ?_
  refine s1 (yF fa26_6) ?_
  refine s1 (yL 1 Tryz.underlying9) ?_
  refine s1 (y_bin rfl rfl rfl (fun _ => b_neqs)) ?_
  refine sgo ?_
  refine T_mid (kf := [(3, 3), (35, 40)]) (kl := [(3, 3), (35, 40)]) (fun u : Unit => [(3, true, str (hd5T e))]) (fun u : Unit => []) (by repeat (first | exact kf_nil | (apply kf_in; focus rfl) | (apply kf_out; focus rfl))) (by repeat (first | exact kl_nil | exact kl_rest (by assumption) rfl | (apply kl_in; focus rfl) | (apply kl_out; focus rfl))) ?_ ?_
  · skip
    refine T_cond rfl ?_ ?_ <;> intro h34
    · try simp only [nrm] at h34
      refine T_region ?_
      refine sr 1 ?_
      refine s1 (yF fa26_6) ?_
      refine s1 (yL 1 Tryz.underlying9) ?_
      refine s1 (y_bin rfl rfl rfl (fun hg => b_adds (by first | omega | (simp only [List.length_append, List.length_cons, List.length_nil]; omega)))) ?_
      refine s1 (y_bin rfl rfl rfl (fun hg => b_adds (by first | omega | (simp only [List.length_append, List.length_cons, List.length_nil]; omega)))) ?_
      refine s1 (y_as (v' := str (hd5T e)) (by rw [hd5T, if_neg h34]; simp [lnT, jnS]) (y_bin rfl rfl rfl (fun hg => b_adds (by first | omega | (simp only [List.length_append, List.length_cons, List.length_nil]; omega))))) ?_
      refine sr 1 ?_
      refine S_nil (mid_end (kf := [(3, 3), (35, 40)]) (kl := [(3, 3), (35, 40)]) (()) (by repeat (first | exact kf_nil | (apply kf_in; focus rfl) | (apply kf_out; focus rfl))) (by repeat (first | exact kl_nil | exact kl_rest (by assumption) rfl | (apply kl_in; focus rfl) | (apply kl_out; focus rfl))) ?_ ?_)
      · exact ⟨rfl, trivial⟩
      · exact trivial
    try simp only [nrm] at h34
    refine T_skip (mid_end (kf := [(3, 3), (35, 40)]) (kl := [(3, 3), (35, 40)]) (()) (by repeat (first | exact kf_nil | (apply kf_in; focus rfl) | (apply kf_out; focus rfl))) (by repeat (first | exact kl_nil | exact kl_rest (by assumption) rfl | (apply kl_in; focus rfl) | (apply kl_out; focus rfl))) ?_ ?_)
    · exact ⟨by rw [hd5T, if_pos h34, List.append_nil]; rfl, trivial⟩
    · exact trivial
  intro u
  refine sgs ?_
  refine tx ?_
  refine s1 (yF fa26_7) ?_
  refine s1 (yL 1 Tryz.underlying9) ?_
  refine s1 (y_bin rfl rfl rfl (fun _ => b_neqs)) ?_
  refine sgo ?_
  refine T_mid (kf := [(3, 3), (44, 49)]) (kl := [(3, 3), (44, 49)]) (fun u : Unit => [(3, true, str (hd6T e))]) (fun u : Unit => []) (by repeat (first | exact kf_nil | (apply kf_in; focus rfl) | (apply kf_out; focus rfl))) (by repeat (first | exact kl_nil | exact kl_rest (by assumption) rfl | (apply kl_in; focus rfl) | (apply kl_out; focus rfl))) ?_ ?_
  · skip
    refine T_cond rfl ?_ ?_ <;> intro h43
    · try simp only [nrm] at h43
      refine T_region ?_
      refine sr 1 ?_
      refine s1 (yF fa26_7) ?_
      refine s1 (yL 1 Tryz.underlying9) ?_
      refine s1 (y_bin rfl rfl rfl (fun hg => b_adds (by first | omega | (simp only [List.length_append, List.length_cons, List.length_nil]; omega)))) ?_
      refine s1 (y_bin rfl rfl rfl (fun hg => b_adds (by first | omega | (simp only [List.length_append, List.length_cons, List.length_nil]; omega)))) ?_
      refine s1 (y_as (v' := str (hd6T e)) (by rw [hd6T, if_neg h43]; simp [lnT, jnS]) (y_bin rfl rfl rfl (fun hg => b_adds (by first | omega | (simp only [List.length_append, List.length_cons, List.length_nil]; omega))))) ?_
      refine sr 1 ?_
      refine S_nil (mid_end (kf := [(3, 3), (44, 49)]) (kl := [(3, 3), (44, 49)]) (()) (by repeat (first | exact kf_nil | (apply kf_in; focus rfl) | (apply kf_out; focus rfl))) (by repeat (first | exact kl_nil | exact kl_rest (by assumption) rfl | (apply kl_in; focus rfl) | (apply kl_out; focus rfl))) ?_ ?_)
      · exact ⟨rfl, trivial⟩
      · exact trivial
    try simp only [nrm] at h43
    refine T_skip (mid_end (kf := [(3, 3), (44, 49)]) (kl := [(3, 3), (44, 49)]) (()) (by repeat (first | exact kf_nil | (apply kf_in; focus rfl) | (apply kf_out; focus rfl))) (by repeat (first | exact kl_nil | exact kl_rest (by assumption) rfl | (apply kl_in; focus rfl) | (apply kl_out; focus rfl))) ?_ ?_)
    · exact ⟨by rw [hd6T, if_pos h43, List.append_nil]; rfl, trivial⟩
    · exact trivial
  intro u
  refine sgs ?_
  refine tx ?_
  refine s1 (yF fa26_4) ?_
  refine s1 (yL 1 Tryz.underlying23) ?_
  refine s1 (y_len_slice rfl rfl Tryz.underlying23) ?_
  refine sr 1 ?_
  refine sgo ?_
  refine T_block ?_
  refine lK2 (kf := [(3, 3), (5, 5), (53, 67)]) (kl := [(3, 3), (5, 5), (53, 67)]) (fun (i : Nat) (L : List UInt8) => [(53, true, .int .i64 (i : Int)), (3, true, str L)]) (fun (i : Nat) (L : List UInt8) => []) (fun (i : Nat) (L : List UInt8) => i ≤ e.ta.q ∧ L ++ (e.ta.l.drop i).flatMap tagT = hd6T e ++ e.ta.l.flatMap tagT) (fun (i : Nat) (L : List UInt8) => e.ta.q - i) 0 (hd6T e) ?_ ?_ ?_ ?_
  · exact ⟨by omega, rfl⟩
  · exact ⟨rfl, rfl, trivial⟩
  · exact trivial
  rintro i L ⟨hp1, hp2⟩
  refine tx ?_
  refine sr 1 ?_
  refine sgs ?_
  refine T_cond rfl ?_ ?_ <;> intro h54
  · try simp only [nrm] at h54
    obtain ⟨x, hx1, hx2⟩ := hta.at (i := i) (by omega)
    have hxn := htn x (mem_at hx1)
    have hlx := congrArg List.length hp2
    rw [hx2, List.flatMap_cons] at hp2
    simp only [List.length_append] at hlx
    refine kgs ?_
    refine T_block ?_
    refine tx ?_
    refine s1 (y_indexAddr rfl rfl rfl Tryz.underlying23 sz83 (fun hg => hta.isSome (by omega)) (fun _ => by omega)) ?_
    refine s1 (y_loadT rfl rfl hta (fun _ => rfl) (fun _ => hx1) Tryz.underlying83 rfl sz83) ?_
    refine S_alloc 5 5 rfl rfl rfl rfl z83 ?_
    intro b5
    refine S_store 5 rfl rfl rfl rfl rfl rfl sz83 rfl rfl ?_
    refine sgr ?_
    refine sr 1 ?_
    refine s1 (yF fa83_0) ?_
    refine s1 (yL 5 Tryz.underlying9) ?_
    refine s1 (y_bin rfl rfl rfl (fun hg => b_adds (by first | omega | (simp only [List.length_append, List.length_cons, List.length_nil]; omega)))) ?_
    refine s1 (y_bin rfl rfl rfl (fun hg => b_adds (by first | omega | (simp only [List.length_append, List.length_cons, List.length_nil]; omega)))) ?_
    refine s1 (yF fa83_1) ?_
    refine s1 (yL 5 Tryz.underlying9) ?_
    refine s1 (y_bin rfl rfl rfl (fun hg => b_adds (by first | omega | (simp only [List.length_append, List.length_cons, List.length_nil]; omega)))) ?_
    refine s1 (y_bin rfl rfl rfl (fun hg => b_adds (by first | omega | (simp only [List.length_append, List.length_cons, List.length_nil]; omega)))) ?_
    refine s1 (y_as (v' := str (L ++ tagT x)) (by simp [tagT, lnT, jnS]) (y_bin rfl rfl rfl (fun hg => b_adds (by first | omega | (simp only [List.length_append, List.length_cons, List.length_nil]; omega))))) ?_
    refine sr 1 ?_
    refine sgr ?_
    refine s1 (y_bin rfl rfl rfl (fun hg => b_add (by omega))) ?_
    refine sr 1 ?_
    refine S_nil (nK2 (kf := [(3, 3), (5, 5), (53, 67)]) (kl := [(3, 3), (5, 5), (53, 67)]) (i + 1) (L ++ tagT x) ?_ ?_ ?_ ?_)
    · omega
    · exact ⟨by omega, by rw [← hp2, List.append_assoc]⟩
    · exact ⟨rfl, rfl, trivial⟩
    · exact trivial
  try simp only [nrm] at h54
  have hL : L = hd6T e ++ e.ta.l.flatMap tagT := by rw [hta.end (by omega)] at hp2; rw [← hp2]; exact (List.append_nil L).symm
  subst hL
  refine egs ?_
  refine tx ?_
  refine s1 (yF fa26_5) ?_
  refine s1 (yL 1 Tryz.underlying24) ?_
  refine s1 (y_len_slice rfl rfl Tryz.underlying24) ?_
  refine sr 1 ?_
  refine sgo ?_
  refine T_block ?_
  refine lK2 (kf := [(3, 3), (7, 7), (71, 91)]) (kl := [(3, 3), (7, 7), (71, 91)]) (fun (i : Nat) (L : List UInt8) => [(71, true, .int .i64 (i : Int)), (3, true, str L)]) (fun (i : Nat) (L : List UInt8) => []) (fun (i : Nat) (L : List UInt8) => i ≤ e.cr.q ∧ L ++ (e.cr.l.drop i).flatMap crumbT = hd6T e ++ e.ta.l.flatMap tagT ++ e.cr.l.flatMap crumbT) (fun (i : Nat) (L : List UInt8) => e.cr.q - i) 0 (hd6T e ++ e.ta.l.flatMap tagT) ?_ ?_ ?_ ?_
  · exact ⟨by omega, rfl⟩
  · exact ⟨rfl, rfl, trivial⟩
  · exact trivial
  rintro i L ⟨hp1, hp2⟩
  refine tx ?_
  refine sr 1 ?_
  refine sgs ?_
  refine T_cond rfl ?_ ?_ <;> intro h72
  · try simp only [nrm] at h72
    obtain ⟨x, hx1, hx2⟩ := hcr.at (i := i) (by omega)
    have hxn := hcn x (mem_at hx1)
    have hi3 := it21 hxn.1
    have hlx := congrArg List.length hp2
    rw [hx2, List.flatMap_cons] at hp2
    simp only [List.length_append] at hlx
    refine kgs ?_
    refine T_block ?_
    refine tx ?_
    refine s1 (y_indexAddr rfl rfl rfl Tryz.underlying24 sz85 (fun hg => hcr.isSome (by omega)) (fun _ => by omega)) ?_
    refine s1 (y_loadT rfl rfl hcr (fun _ => rfl) (fun _ => hx1) Tryz.underlying85 rfl sz85) ?_
    refine S_alloc 7 7 rfl rfl rfl rfl z85 ?_
    intro b7
    refine S_store 7 rfl rfl rfl rfl rfl rfl sz85 rfl rfl ?_
    refine sgo ?_
    refine T_perm [0, 1, 2, 7, 8, 11, 12, 3, 4, 5, 6, 9, 10, 13, 14, 15, 16] [true, true, true, false, false, true, true, true, true, true, true, true, true, true, true, true, true] [0, 0, 2, 6, 14, 30, 62, 0, 128, 510, 1022, 0, 2048, 8190, 16382, 32767, 65535] [(2, [7]), (8, [7]), (12, [7])] (by kernel_rfl) (by kernel_rfl) (by kernel_rfl) rfl (by kernel_rfl) ?_
    refine Rf_ 0 75 rfl rfl rfl rfl rfl _ trivial (Y.z (y_move rfl rfl) rfl) ?_
    refine Rf_ 1 76 rfl rfl rfl rfl rfl _ trivial (Y.z (yF fa85_0) rfl) ?_
    refine Rf_ 2 77 rfl rfl rfl rfl rfl _ ⟨rfl, trivial⟩ (Y.z (yL 7 Tryz.underlying3) rfl) ?_
    refine Rf_ 7 82 rfl rfl rfl rfl rfl _ trivial (Y.z (yF fa85_1) rfl) ?_
    refine Rf_ 8 83 rfl rfl rfl rfl rfl _ ⟨rfl, trivial⟩ (Y.z (yL 7 Tryz.underlying9) rfl) ?_
    refine Rf_ 11 86 rfl rfl rfl rfl rfl _ trivial (Y.z (yF fa85_2) rfl) ?_
    refine Rf_ 12 87 rfl rfl rfl rfl rfl _ ⟨rfl, trivial⟩ (Y.z (yL 7 Tryz.underlying9) rfl) ?_
    refine R_chain 3 rfl rfl ?_
    refine S_buildSlice 78 78 rfl rfl rfl rfl rfl Tryz.underlying225 inf3 rfl (by decide) (by decide) rfl rfl (by decide) rfl ([x.at_].flatMap nmE) ?_ ?_
    · rfl
    intro b78
    refine R_next ⟨.inl rfl, .inr ⟨rfl, trivial⟩, .inr ⟨rfl, trivial⟩, trivial⟩ ?_
    refine R_chain 4 rfl rfl ?_
    refine s1 (y_as (v' := str ([32] ++ Lib.itoa x.at_)) (by rw [nmB_one]) (y_call rfl rfl rfl cf130 (fun hg w1 hM => rnums_any _ 1 _ [x.at_] w1 (owned_ok (enc := nmE) (l := [x.at_]) hM rfl (i := 78) rfl).t (by decide) (fun n hn => by rw [List.mem_singleton.1 hn]; omega) (hP.below hM.below)))) ?_
    refine R_next ⟨.inl rfl, .inr ⟨rfl, trivial⟩, .inr ⟨rfl, trivial⟩, trivial⟩ ?_
    refine Rf_ 5 80 rfl rfl rfl rfl rfl _ trivial (Y.z (y_bin rfl rfl rfl (fun hg => b_adds (by first | omega | (simp only [List.length_append, List.length_cons, List.length_nil]; omega)))) rfl) ?_
    refine Rf_ 6 81 rfl rfl rfl rfl rfl _ trivial (Y.z (y_bin rfl rfl rfl (fun hg => b_adds (by first | omega | (simp only [List.length_append, List.length_cons, List.length_nil]; omega)))) rfl) ?_
    refine Rf_ 9 84 rfl rfl rfl rfl rfl _ trivial (Y.z (y_bin rfl rfl rfl (fun hg => b_adds (by first | omega | (simp only [List.length_append, List.length_cons, List.length_nil]; omega)))) rfl) ?_
    refine Rf_ 10 85 rfl rfl rfl rfl rfl _ trivial (Y.z (y_bin rfl rfl rfl (fun hg => b_adds (by first | omega | (simp only [List.length_append, List.length_cons, List.length_nil]; omega)))) rfl) ?_
    refine Rf_ 13 88 rfl rfl rfl rfl rfl _ trivial (Y.z (y_bin rfl rfl rfl (fun hg => b_adds (by first | omega | (simp only [List.length_append, List.length_cons, List.length_nil]; omega)))) rfl) ?_
    refine Rf_ 14 89 rfl rfl rfl rfl rfl _ trivial (Y.z (y_bin rfl rfl rfl (fun hg => b_adds (by first | omega | (simp only [List.length_append, List.length_cons, List.length_nil]; omega)))) rfl) ?_
    refine Rf_ 15 90 rfl rfl rfl rfl rfl _ trivial (Y.z (y_as (v' := str (L ++ crumbT x)) (by simp [crumbT, lnT, jnS]) (y_bin rfl rfl rfl (fun hg => b_adds (by first | omega | (simp only [List.length_append, List.length_cons, List.length_nil]; omega))))) rfl) ?_
    refine Rf_ 16 3 rfl rfl rfl rfl rfl _ trivial (Y.z (y_assign rfl rfl) rfl) ?_
    refine R_go (fun _ _ h => h) ?_
    refine T_region ?_
    refine s1 (y_bin rfl rfl rfl (fun hg => b_add (by omega))) ?_
    refine sr 1 ?_
    refine S_nil (nK2 (kf := [(3, 3), (7, 7), (71, 91)]) (kl := [(3, 3), (7, 7), (71, 91)]) (i + 1) (L ++ crumbT x) ?_ ?_ ?_ ?_)
    · omega
    · exact ⟨by omega, by rw [← hp2, List.append_assoc]⟩
    · exact ⟨rfl, rfl, trivial⟩
    · exact trivial
  try simp only [nrm] at h72
  have hL : L = hd6T e ++ e.ta.l.flatMap tagT ++ e.cr.l.flatMap crumbT := by rw [hcr.end (by omega)] at hp2; rw [← hp2]; exact (List.append_nil L).symm
  subst hL
  refine egx ?_
  refine sr 1 ?_
  refine s1 (y_as (v' := str (hdT e)) (by simp [hdT, lnT, jnS]) (y_bin rfl rfl rfl (fun hg => b_adds (by first | omega | (simp only [List.length_append, List.length_cons, List.length_nil]; omega))))) ?_
  refine sr 1 ?_
  refine sgo ?_
  refine tr1 hRb fun w hM => ?_
  exact ⟨rfl, hM.below⟩
theorem rlong_any (s : List UInt8) (w : World) : Calls Tryz.prog 54 #[str s] w fun e w' => e = .returned (.int .i64 (if (1000000 : Int) < s.length then 4 else 0)) ∧ Below w.heap.size w w' := by
  refine enter_args (args := [str s]) (F := _) Tryz.func54 rfl Tryz.ntmps54 rfl rfl ?_
  intro Rb hRb hRn
  refine tx ?_
  refine sr 1 ?_
  refine sgs ?_
  refine tx ?_
  refine sr 1 ?_
  refine s1 (y_len_str rfl rfl Tryz.underlying9) ?_
  refine sr 1 ?_
  refine sgo ?_
  refine T_cond rfl ?_ ?_ <;> intro h5
  · try simp only [nrm] at h5
    refine tx ?_
    refine sr 1 ?_
    refine sgo ?_
    refine tr1 hRb fun w hM => ?_
    rw [if_pos (show (1000000 : Int) < s.length by omega)]
    exact ⟨rfl, hM.below⟩
  try simp only [nrm] at h5
  refine kgx ?_
  refine sr 1 ?_
  refine sgo ?_
  refine tr1 hRb fun w hM => ?_
  rw [if_neg (show ¬ (1000000 : Int) < s.length by omega)]
  exact ⟨rfl, hM.below⟩
def etNo (e : Evt) : Int := if bangL e.fa.l = true then 9 else if (1000000 : Int) < (evT e).length then 4 else 0
def etS (e : Evt) : List UInt8 := if bangL e.fa.l = true then [] else evT e
theorem textNo_et (e : Evt) : textNo e = fst (evNo e) (etNo e) := rfl
theorem eventText_any (e : Evt) (w : World) (he : e.Ok w) (h0 : evNo e = 0) (hP : P10 w) :
    Calls Tryz.prog 15 #[e.val] w fun en w' => en = .returned (.tuple #[str (etS e), .int .i64 (etNo e)]) ∧ Below w.heap.size w w' := by
  have hN := evNo_right he h0
  have hfn : faultsNo e.fa = 0 := (fst_zero (fst_zero h0).2).1
  have hdl := hdT_le hN
  have hfq := hN.fq
  have hwl := writeT_le (n := 0) (p := none) hN.fa
  have hel : (evT e).length = (hdT e).length + (writeT none (e.fa.l.map pfl)).length := List.length_append
  refine enter_args (args := [.agg #[str e.id, .int .i64 e.at_, .int .i64 e.lv, .slice e.fa.A e.fa.q e.fa.c, .slice e.ta.A e.ta.q e.ta.c, .slice e.cr.A e.cr.q e.cr.c, str e.rel, str e.us, .int .i64 e.wt]]) (F := _) Tryz.func15 rfl Tryz.ntmps15 rfl rfl ?_
  intro Rb hRb hRn
  refine tx ?_
  refine S_box 1 1 rfl rfl rfl rfl rfl ?_
  intro b1
  refine sr 2 ?_
  refine sgx ?_
  refine s1 (yF fa26_3) ?_
  refine s1 (yL 1 Tryz.underlying22) ?_
  refine s1 (y_call rfl rfl rfl cf52 (fun _ w1 hM => Written_any e.fa w1 (he.fa.below hM.below) hfn)) ?_
  refine sr 5 ?_
  refine sgs ?_
  refine tx ?_
  refine sr 2 ?_
  refine sgo ?_
  refine T_cond rfl ?_ ?_ <;> intro h14
  · skip
    have hb : bangL e.fa.l = true := by simpa using h14
    refine tx ?_
    refine sr 2 ?_
    refine sgo ?_
    refine tr2 hRb fun w hM => ?_
    exact ⟨by rw [etS, etNo, if_pos hb, if_pos hb], hM.below⟩
  have hb : bangL e.fa.l = false := by simpa using h14
  have hbn : ¬ bangL e.fa.l = true := by rw [hb]; decide
  have hwd : wdS e.fa = writeT none (e.fa.l.map pfl) := if_neg hbn
  have hwl2 : (wdS e.fa).length = (writeT none (e.fa.l.map pfl)).length := by rw [hwd]
  refine kgx ?_
  refine s1 (yA 1 rfl Tryz.underlying26 sz26) ?_
  refine s1 (y_call rfl rfl rfl cf53 (fun _ w1 hM => EventHead_any e w1 (he.below hM.below) hN (hP.below hM.below))) ?_
  refine sr 1 ?_
  refine s1 (y_as (v' := str (evT e)) (by rw [wdS, if_neg (by rw [hb]; decide)]; rfl) (y_bin rfl rfl rfl (fun hg => b_adds (by first | omega | (simp only [List.length_append, List.length_cons, List.length_nil]; omega))))) ?_
  refine sr 1 ?_
  refine sgx ?_
  refine sr 2 ?_
  refine s1 (y_call rfl rfl rfl cf54 (fun _ w _ => rlong_any _ w)) ?_
  refine sr 2 ?_
  refine sgo ?_
  refine tr2 hRb fun w hM => ?_
  exact ⟨by rw [etS, etNo, if_neg hbn, if_neg hbn], hM.below⟩
end Go.Proofs.YtgbldojgbpgjbaaGreatDoor
end
