/- strings.Builder: what its methods do to a builder that the caller has made. Conditions: those of each theorem. -/
import Derived.Test.YtpmlgnbbkpplhaaDoorBld
import Derived.Test.YtpmlgnbbkpplhaaDoorLem
namespace Go.Proofs.YtpmlgnbbkpplhaaDoor
set_option linter.unusedSimpArgs false
set_option linter.unusedVariables false
set_option maxRecDepth 20000
open Go.RowKit Go.Eng
/-- a builder's box, and its row of bytes -/
abbrev bldBox (b : Nat) (ad : Value) (A : Option Addr) (q c : Nat) : It := .blk b (IsBox [ad, .slice A q c] 79)
abbrev bldRow (A : Option Addr) (q c : Nat) (l : List UInt8) : It := .own 5 1 (.slice A q c) q (bytesV l)
abbrev selfP (b : Nat) : Value := .pointer (some ⟨b, 0, none⟩)
theorem copyCheck_any {w0 : World} {K : HL} (hK : FromK K) (b : Nat) (ad sl : Value) (had : ad = .pointer none ∨ ad = selfP b) (w : World) (hM0 : Mem w0 ([(0, .blk b (IsBox [ad, sl] 79))] ++ K) w) :
    Calls Tryd.prog 106 #[selfP b] w fun e w' => e = .returned (.tuple #[]) ∧ Mem w0 ([(0, .blk b (IsBox [selfP b, sl] 79))] ++ K) w' := by
  obtain ⟨j, hinf79, _⟩ := Option.map_eq_some_iff.1 sz79
  rcases had with rfl | rfl
  ·
    refine enterM_args (args := [selfP b]) (F := _) hM0 Tryd.func106 rfl Tryd.ntmps106 rfl rfl ?_
    intro Rb hRb hRn
    refine T_seq ?_
    refine T_region ?_
    refine S_ 2 rfl rfl rfl _ (y_move rfl rfl) ?_
    refine S_ 3 rfl rfl rfl _ (y_nilCheck rfl rfl) ?_
    refine S_ 4 rfl rfl rfl _ (y_fieldAddr rfl rfl fa79_0) ?_
    refine S_ 5 rfl rfl rfl _ (y_load 0 rfl rfl rfl rfl Tryd.underlying76 rfl) ?_
    refine S_ 6 rfl rfl rfl _ (y_bin rfl rfl rfl (fun _ => b_eqlp Tryd.underlying76)) ?_
    refine S_go (fun _ _ h => h) ?_
    refine T_cond rfl (fun h6 => ?_) (fun h6 => ?_)
    · skip
      refine T_region ?_
      refine S_ 7 rfl rfl rfl _ (y_move rfl rfl) ?_
      refine S_ 8 rfl rfl rfl _ (y_move rfl rfl) ?_
      refine S_ 9 rfl rfl rfl _ (y_conv_to (i := 0) rfl rfl rfl Tryd.underlying76 Tryd.underlying152 sz79 (Nat.succ_pos _)) ?_
      refine S_ 10 rfl rfl rfl _ (y_noEscape rfl rfl (run_callFunc_extern Tryd.func137 (by kernel_rfl) (by kernel_rfl) (by kernel_rfl) (by kernel_rfl))) ?_
      refine S_ 11 rfl rfl rfl _ (y_conv_from (i := 0) rfl rfl rfl Tryd.underlying152 Tryd.underlying76 sz79 (by kernel_rfl)) ?_
      refine S_ 12 rfl rfl rfl _ (y_nilCheck rfl rfl) ?_
      refine S_ 13 rfl rfl rfl _ (y_fieldAddr rfl rfl fa79_0) ?_
      refine S_store 0 rfl rfl rfl rfl rfl rfl sz76 rfl rfl ?_
      refine S_nil (fun a w hF hM => hRn a w (post0 rfl (fun w hM => ?_) a w hF hM))
      exact ⟨rfl, hM.keep (ks := [(0, 999)]) (by repeat (first | exact kl_rest (by assumption) rfl | (apply kl_in; focus rfl))) _ ⟨rfl, trivial⟩⟩
    · skip
      simp at h6
  ·
    refine enterM_args (args := [selfP b]) (F := _) hM0 Tryd.func106 rfl Tryd.ntmps106 rfl rfl ?_
    intro Rb hRb hRn
    refine T_seq ?_
    refine T_region ?_
    refine S_ 2 rfl rfl rfl _ (y_move rfl rfl) ?_
    refine S_ 3 rfl rfl rfl _ (y_nilCheck rfl rfl) ?_
    refine S_ 4 rfl rfl rfl _ (y_fieldAddr rfl rfl fa79_0) ?_
    refine S_ 5 rfl rfl rfl _ (y_load 0 rfl rfl rfl rfl Tryd.underlying76 rfl) ?_
    refine S_ 6 rfl rfl rfl _ (y_bin rfl rfl rfl (fun _ => b_eqlp Tryd.underlying76)) ?_
    refine S_go (fun _ _ h => h) ?_
    refine T_cond rfl (fun h6 => ?_) (fun h6 => ?_)
    · skip
      simp at h6
    · skip
      refine T_seq ?_
      refine T_region ?_
      refine S_ 14 rfl rfl rfl _ (y_move rfl rfl) ?_
      refine S_ 15 rfl rfl rfl _ (y_nilCheck rfl rfl) ?_
      refine S_ 16 rfl rfl rfl _ (y_fieldAddr rfl rfl fa79_0) ?_
      refine S_ 17 rfl rfl rfl _ (y_load 0 rfl rfl rfl rfl Tryd.underlying76 rfl) ?_
      refine S_ 18 rfl rfl rfl _ (y_move rfl rfl) ?_
      refine S_ 19 rfl rfl rfl _ (y_bin rfl rfl rfl (fun _ => b_neqp_same Tryd.underlying76 hinf79)) ?_
      refine S_go (fun _ _ h => h) ?_
      refine T_cond rfl (fun h19 => ?_) (fun h19 => ?_)
      · skip
        cases h19
      · skip
        refine T_skip (fun a w hF hM => hRn a w (post0 rfl (fun w hM => ?_) a w hF hM))
        exact ⟨rfl, hM.keep (ks := [(0, 999)]) (by repeat (first | exact kl_rest (by assumption) rfl | (apply kl_in; focus rfl))) _ ⟨rfl, trivial⟩⟩
theorem WriteString_any {w0 : World} {K : HL} (hK : FromK K) (b : Nat) (ad : Value) (A : Option Addr) (q c : Nat) (l s : List UInt8) (had : ad = .pointer none ∨ ad = selfP b) (hlen : q + s.length ≤ 140737488355328) (w : World) (hM0 : Mem w0 ([(0, bldBox b ad A q c), (1, bldRow A q c l)] ++ K) w) :
    Calls Tryd.prog 40 #[selfP b, str s] w fun e w' => ∃ x : Option Addr × Nat, e = .returned (.tuple #[.int .i64 s.length, .nilIface]) ∧ (A = none → c = 0 → s = [] → x.1 = none ∧ x.2 = 0) ∧
      Mem w0 ([(0, bldBox b (selfP b) x.1 (q + s.length) x.2), (1, bldRow x.1 (q + s.length) x.2 (l ++ s))] ++ K) w' := by
  refine enterM_args (args := [selfP b, str s]) (F := _) hM0 Tryd.func40 rfl Tryd.ntmps40 rfl rfl ?_
  intro Rb hRb hRn
  refine T_seq ?_
  refine T_region ?_
  refine S_ 4 rfl rfl rfl _ (y_assign rfl rfl) ?_
  refine S_ 5 rfl rfl rfl _ (y_assign rfl rfl) ?_
  refine S_go (fun _ _ h => h) ?_
  refine T_seq ?_
  refine T_region ?_
  refine S_ 6 rfl rfl rfl _ (y_move rfl rfl) ?_
  refine S_callM 7 [(0, 0)] (X := Unit) rfl rfl rfl rfl rfl rfl rfl cf106 rfl (fun _ => .tuple #[]) (fun _ => True) (fun _ => [(0, bldBox b (selfP b) A q c)]) (fun _ => rfl) (fun _ => rfl) (fun K1 hK1 w hM => (copyCheck_any hK1 b ad _ had w hM).mono fun e w1 h => ⟨(), h.1, trivial, h.2⟩) ?_
  intro _ _
  refine S_go (fun _ _ h => h) ?_
  refine T_seq ?_
  refine T_region ?_
  refine S_ 8 rfl rfl rfl _ (y_move rfl rfl) ?_
  refine S_ 9 rfl rfl rfl _ (y_move rfl rfl) ?_
  refine S_ 10 rfl rfl rfl _ (y_nilCheck rfl rfl) ?_
  refine S_ 11 rfl rfl rfl _ (y_fieldAddr rfl rfl fa79_1) ?_
  refine S_ 12 rfl rfl rfl _ (y_load 0 rfl rfl rfl rfl Tryd.underlying77 rfl) ?_
  refine S_ 13 rfl rfl rfl _ (y_move rfl rfl) ?_
  refine S_appendStr 14 1 rfl rfl rfl rfl rfl rfl rfl Tryd.underlying77 Tryd.underlying9 inf5 ?_ (q + s.length) (l ++ s) rfl rfl ?_
  · omega
  intro A14 c14 hn14
  refine S_ 15 rfl rfl rfl _ (y_nilCheck rfl rfl) ?_
  refine S_ 16 rfl rfl rfl _ (y_fieldAddr rfl rfl fa79_1) ?_
  refine S_store 0 rfl rfl rfl rfl rfl rfl sz77 rfl rfl ?_
  refine S_go (fun _ _ h => h) ?_
  refine T_seq ?_
  refine T_region ?_
  refine S_ 17 rfl rfl rfl _ (y_move rfl rfl) ?_
  refine S_ 18 rfl rfl rfl _ (y_len_str rfl rfl Tryd.underlying9) ?_
  refine S_ 4 rfl rfl rfl _ (y_assign rfl rfl) ?_
  refine S_ 5 rfl rfl rfl _ (y_assign rfl rfl) ?_
  refine S_go (fun _ _ h => h) ?_
  refine T_ret (fun a w hF hM => hRb a w (post2 rfl rfl rfl (fun w hM => ?_) a w hF hM))
  exact ⟨(A14, c14), rfl, hn14, hM.keep (ks := [(0, 999)]) (by repeat (first | exact kl_rest (by assumption) rfl | (apply kl_in; focus rfl))) _ ⟨rfl, rfl, trivial⟩⟩
theorem BLen_any (b : Nat) (A : Option Addr) (q c : Nat) (w : World) (hc : w.cell? ⟨b, 1, none⟩ = some (.slice A q c) ∧ b < w.heap.size) :
    Calls Tryd.prog 141 #[selfP b] w fun e w' => e = .returned (.int .i64 q) ∧ Below w.heap.size w w' := by
  refine enter_args (args := [selfP b]) (F := _) Tryd.func141 rfl Tryd.ntmps141 rfl rfl ?_
  intro Rb hRb hRn
  refine T_seq ?_
  refine T_region ?_
  refine S_ 2 rfl rfl rfl _ (y_assign rfl rfl) ?_
  refine S_go (fun _ _ h => h) ?_
  refine T_seq ?_
  refine T_region ?_
  refine S_ 3 rfl rfl rfl _ (y_move rfl rfl) ?_
  refine S_ 4 rfl rfl rfl _ (y_nilCheck rfl rfl) ?_
  refine S_ 5 rfl rfl rfl _ (y_fieldAddr rfl rfl fa79_1) ?_
  refine S_ 6 rfl rfl rfl _ (y_load_far rfl rfl hc.1 hc.2 Tryd.underlying77 rfl) ?_
  refine S_ 7 rfl rfl rfl _ (y_len_slice rfl rfl Tryd.underlying77) ?_
  refine S_ 2 rfl rfl rfl _ (y_assign rfl rfl) ?_
  refine S_go (fun _ _ h => h) ?_
  refine T_ret (fun a w hF hM => hRb a w (post1 rfl rfl (fun w hM => ?_) a w hF hM))
  exact ⟨rfl, hM.below⟩
theorem BString_any {w0 : World} {K : HL} (hK : FromK K) (b : Nat) (ad : Value) (A : Option Addr) (q c : Nat) (l : List UInt8) (hz : q = 0 → A = none) (h63 : q ≤ 9223372036854775807) (w : World) (hM0 : Mem w0 ([(0, bldBox b ad A q c), (1, bldRow A q c l)] ++ K) w) :
    Calls Tryd.prog 42 #[selfP b] w fun e w' => e = .returned (str l) ∧ Mem w0 ([(1, bldRow none 0 0 []), (0, bldBox b ad A q c)] ++ K) w' := by
  have hrow : w.ownsRow w0.heap.size 5 1 (.slice A q c) q (bytesV l) := hM0.sat 1 _ rfl
  have hql : l.length = q := by have := hrow.1; simp [bytesV] at this; omega
  by_cases h0 : q = 0
  · have hA := hz h0
    subst hA
    have hl : l = [] := List.eq_nil_of_length_eq_zero (by omega)
    subst hl
    subst h0
    refine enterM_args (args := [selfP b]) (F := _) hM0 Tryd.func42 rfl Tryd.ntmps42 rfl rfl ?_
    intro Rb hRb hRn
    refine T_seq ?_
    refine T_region ?_
    refine S_ 2 rfl rfl rfl _ (y_assign rfl rfl) ?_
    refine S_go (fun _ _ h => h) ?_
    refine T_seq ?_
    refine T_tail 10 (by kernel_rfl) (by kernel_rfl) ?_
    refine E_ 3 rfl rfl rfl _ (z_move rfl rfl) ?_
    refine E_ 4 rfl rfl rfl _ (z_nilCheck rfl rfl) ?_
    refine E_ 5 rfl rfl rfl _ (z_fieldAddr rfl rfl fa79_1) ?_
    refine E_ 6 rfl rfl rfl _ (z_load 0 rfl rfl rfl rfl Tryd.underlying77 rfl) ?_
    refine E_ 7 rfl rfl rfl _ (z_sliceData rfl rfl (.inl rfl)) ?_
    refine E_ 8 rfl rfl rfl _ (z_move rfl rfl) ?_
    refine E_ 9 rfl rfl rfl _ (z_nilCheck rfl rfl) ?_
    refine E_ 10 rfl rfl rfl _ (z_fieldAddr rfl rfl fa79_1) ?_
    refine E_ 11 rfl rfl rfl _ (z_load 0 rfl rfl rfl rfl Tryd.underlying77 rfl) ?_
    refine E_ 12 rfl rfl rfl _ (z_len rfl rfl Tryd.underlying77) ?_
    refine E_nil ?_
    refine S_unsafeString0 13 rfl rfl rfl rfl rfl rfl ?_
    refine S_ 2 rfl rfl rfl _ (y_assign rfl rfl) ?_
    refine S_go (fun _ _ h => h) ?_
    refine T_ret (fun a w hF hM => hRb a w (post1 rfl rfl (fun w hM => ?_) a w hF hM))
    exact ⟨rfl, (hM.keep (ks := [(0, 999)]) (by repeat (first | exact kl_rest (by assumption) rfl | (apply kl_in; focus rfl))) _ ⟨rfl, trivial⟩ : Mem w0 ([(0, bldBox b ad _ _ c)] ++ K) w).add 1 _ rfl (World.ownsRow_nil _ _ _ _)⟩
  · obtain ⟨g, rfl, hc0⟩ : ∃ g, A = some ⟨g, 0, none⟩ ∧ c ≠ 0 := by
      rcases hrow.2 with ⟨_, h⟩ | ⟨g, cap, cur, hv, _, _, hnc, _⟩
      · exact absurd h h0
      · exact ⟨g, by injection hv, by have : c = cap := by injection hv
                                      omega⟩
    refine enterM_args (args := [selfP b]) (F := _) hM0 Tryd.func42 rfl Tryd.ntmps42 rfl rfl ?_
    intro Rb hRb hRn
    refine T_seq ?_
    refine T_region ?_
    refine S_ 2 rfl rfl rfl _ (y_assign rfl rfl) ?_
    refine S_go (fun _ _ h => h) ?_
    refine T_seq ?_
    refine T_tail 10 (by kernel_rfl) (by kernel_rfl) ?_
    refine E_ 3 rfl rfl rfl _ (z_move rfl rfl) ?_
    refine E_ 4 rfl rfl rfl _ (z_nilCheck rfl rfl) ?_
    refine E_ 5 rfl rfl rfl _ (z_fieldAddr rfl rfl fa79_1) ?_
    refine E_ 6 rfl rfl rfl _ (z_load 0 rfl rfl rfl rfl Tryd.underlying77 rfl) ?_
    refine E_ 7 rfl rfl rfl _ (z_sliceData rfl rfl (.inr hc0)) ?_
    refine E_ 8 rfl rfl rfl _ (z_move rfl rfl) ?_
    refine E_ 9 rfl rfl rfl _ (z_nilCheck rfl rfl) ?_
    refine E_ 10 rfl rfl rfl _ (z_fieldAddr rfl rfl fa79_1) ?_
    refine E_ 11 rfl rfl rfl _ (z_load 0 rfl rfl rfl rfl Tryd.underlying77 rfl) ?_
    refine E_ 12 rfl rfl rfl _ (z_len rfl rfl Tryd.underlying77) ?_
    refine E_nil ?_
    refine S_giveRow 1 (g := g) rfl ?_
    refine S_unsafeString 13 1 rfl rfl rfl rfl rfl rfl rfl hql (by omega) h63 Tryd.underlying131 co5 ?_
    refine S_ 2 rfl rfl rfl _ (y_assign rfl rfl) ?_
    refine S_go (fun _ _ h => h) ?_
    refine T_ret (fun a w hF hM => hRb a w (post1 rfl rfl (fun w hM => ?_) a w hF hM))
    exact ⟨rfl, (hM.keep (ks := [(0, 999)]) (by repeat (first | exact kl_rest (by assumption) rfl | (apply kl_in; focus rfl))) _ ⟨rfl, trivial⟩ : Mem w0 ([(0, bldBox b ad _ _ c)] ++ K) w).add 1 _ rfl (World.ownsRow_nil _ _ _ _)⟩
/-! ### .. by the bytes alone -/
abbrev bB (b : Nat) (ad : Value) (A : Option Addr) (c : Nat) (l : List UInt8) : It := bldBox b ad A l.length c
abbrev bR (A : Option Addr) (c : Nat) (l : List UInt8) : It := bldRow A l.length c l
theorem WStr_any {w0 : World} {K : HL} (hK : FromK K) (b : Nat) (ad : Value) (A : Option Addr) (c : Nat) (l s : List UInt8) (had : ad = .pointer none ∨ ad = selfP b) (hlen : l.length + s.length ≤ 140737488355328) (w : World) (hM0 : Mem w0 ([(0, bB b ad A c l), (1, bR A c l)] ++ K) w) :
    Calls Tryd.prog 40 #[selfP b, str s] w fun e w' => ∃ x : Option Addr × Nat, e = .returned (.tuple #[.int .i64 s.length, .nilIface]) ∧ (A = none → c = 0 → s = [] → x.1 = none ∧ x.2 = 0) ∧
      Mem w0 ([(0, bB b (selfP b) x.1 x.2 (l ++ s)), (1, bR x.1 x.2 (l ++ s))] ++ K) w' :=
  (WriteString_any hK b ad A l.length c l s had hlen w hM0).mono fun e w' ⟨x, h1, h2, h3⟩ => ⟨x, h1, h2, by
    show Mem w0 ([(0, bldBox b (selfP b) x.1 (l ++ s).length x.2), (1, bldRow x.1 (l ++ s).length x.2 (l ++ s))] ++ K) w'
    rw [List.length_append]; exact h3⟩
theorem BStr_any {w0 : World} {K : HL} (hK : FromK K) (b : Nat) (ad : Value) (A : Option Addr) (c : Nat) (l : List UInt8) (hz : l.length = 0 → A = none) (h63 : l.length ≤ 9223372036854775807) (w : World) (hM0 : Mem w0 ([(0, bB b ad A c l), (1, bR A c l)] ++ K) w) :
    Calls Tryd.prog 42 #[selfP b] w fun e w' => e = .returned (str l) ∧ Mem w0 ([(1, bR none 0 []), (0, bB b ad A c l)] ++ K) w' := BString_any hK b ad A l.length c l hz h63 w hM0
end Go.Proofs.YtpmlgnbbkpplhaaDoor
