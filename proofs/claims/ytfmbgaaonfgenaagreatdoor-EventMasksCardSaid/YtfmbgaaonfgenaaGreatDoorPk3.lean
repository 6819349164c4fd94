/- Part 3, merged by a program. strings.Builder: what its methods do to a builder that the caller has made. Conditions: those of each theorem. What the rules of what is cleared find and put. Conditions: those of each theorem. The digest of a string: Sum, FormatUint in base 16 and Repeat of a nought. Conditions: the table of trailing noughts holds Go's numbers. strings.Repeat of a star: a builder that grows at once and is read while it is written. Conditions: those of each theorem. Addresses in a string, walked. Conditions: those of each theorem. -/
import Derived.Test.YtfmbgaaonfgenaaGreatDoorBld
import Derived.Test.YtfmbgaaonfgenaaGreatDoorLem
import Derived.Test.YtfmbgaaonfgenaaGreatDoorPermg
import Derived.Test.YtfmbgaaonfgenaaGreatDoorArr
import Derived.Test.YtfmbgaaonfgenaaGreatDoorFz
import Derived.Test.YtfmbgaaonfgenaaGreatDoorTree
import Derived.Test.YtfmbgaaonfgenaaGreatDoorPk2
section
namespace Go.Proofs.YtfmbgaaonfgenaaGreatDoor
set_option linter.unusedSimpArgs false
set_option linter.unusedVariables false
set_option maxRecDepth 20000
open Go.RowKit Go.Eng
/-- a builder's box, and its row of bytes -/
abbrev bldBox (b : Nat) (ad : Value) (A : Option Addr) (q c : Nat) : It := .blk b (IsBox [ad, .slice A q c] 226)
abbrev bldRow (A : Option Addr) (q c : Nat) (l : List UInt8) : It := .own 5 1 (.slice A q c) q (bytesV l)
abbrev selfP (b : Nat) : Value := .pointer (some ⟨b, 0, none⟩)
theorem copyCheck_any {w0 : World} {K : HL} (hK : FromK K) (b : Nat) (ad sl : Value) (had : ad = .pointer none ∨ ad = selfP b) (w : World) (hM0 : Mem w0 ([(0, .blk b (IsBox [ad, sl] 226))] ++ K) w) :
    Calls Tryz.prog 253 #[selfP b] w fun e w' => e = .returned (.tuple #[]) ∧ Mem w0 ([(0, .blk b (IsBox [selfP b, sl] 226))] ++ K) w' := by
  obtain ⟨j, hinf226, _⟩ := Option.map_eq_some_iff.1 sz226
  rcases had with rfl | rfl
  ·
    refine enterM_args (args := [selfP b]) (F := _) hM0 Tryz.func253 rfl Tryz.ntmps253 rfl rfl ?_
    intro Rb hRb hRn
    refine T_seq ?_
    refine T_region ?_
    refine S_ 2 rfl rfl rfl _ (y_move rfl rfl) ?_
    refine S_ 3 rfl rfl rfl _ (y_nilCheck rfl rfl) ?_
    refine S_ 4 rfl rfl rfl _ (y_fieldAddr rfl rfl fa226_0) ?_
    refine S_ 5 rfl rfl rfl _ (y_load 0 rfl rfl rfl rfl Tryz.underlying224 rfl) ?_
    refine S_ 6 rfl rfl rfl _ (y_bin rfl rfl rfl (fun _ => b_eqlp Tryz.underlying224)) ?_
    refine S_go (fun _ _ h => h) ?_
    refine T_cond rfl (fun h6 => ?_) (fun h6 => ?_)
    · skip
      refine T_region ?_
      refine S_ 7 rfl rfl rfl _ (y_move rfl rfl) ?_
      refine S_ 8 rfl rfl rfl _ (y_move rfl rfl) ?_
      refine S_ 9 rfl rfl rfl _ (y_conv_to (i := 0) rfl rfl rfl Tryz.underlying224 Tryz.underlying283 sz226 (Nat.succ_pos _)) ?_
      refine S_ 10 rfl rfl rfl _ (y_noEscape rfl rfl (run_callFunc_extern Tryz.func273 (by kernel_rfl) (by kernel_rfl) (by kernel_rfl) (by kernel_rfl))) ?_
      refine S_ 11 rfl rfl rfl _ (y_conv_from (i := 0) rfl rfl rfl Tryz.underlying283 Tryz.underlying224 sz226 (by kernel_rfl)) ?_
      refine S_ 12 rfl rfl rfl _ (y_nilCheck rfl rfl) ?_
      refine S_ 13 rfl rfl rfl _ (y_fieldAddr rfl rfl fa226_0) ?_
      refine S_store 0 rfl rfl rfl rfl rfl rfl sz224 rfl rfl ?_
      refine S_nil (fun a w hF hM => hRn a w (post0 rfl (fun w hM => ?_) a w hF hM))
      exact ⟨rfl, hM.keep (ks := [(0, 999)]) (by repeat (first | exact kl_rest (by assumption) rfl | (apply kl_in; focus rfl))) _ ⟨rfl, trivial⟩⟩
    · skip
      simp at h6
  ·
    refine enterM_args (args := [selfP b]) (F := _) hM0 Tryz.func253 rfl Tryz.ntmps253 rfl rfl ?_
    intro Rb hRb hRn
    refine T_seq ?_
    refine T_region ?_
    refine S_ 2 rfl rfl rfl _ (y_move rfl rfl) ?_
    refine S_ 3 rfl rfl rfl _ (y_nilCheck rfl rfl) ?_
    refine S_ 4 rfl rfl rfl _ (y_fieldAddr rfl rfl fa226_0) ?_
    refine S_ 5 rfl rfl rfl _ (y_load 0 rfl rfl rfl rfl Tryz.underlying224 rfl) ?_
    refine S_ 6 rfl rfl rfl _ (y_bin rfl rfl rfl (fun _ => b_eqlp Tryz.underlying224)) ?_
    refine S_go (fun _ _ h => h) ?_
    refine T_cond rfl (fun h6 => ?_) (fun h6 => ?_)
    · skip
      simp at h6
    · skip
      refine T_seq ?_
      refine T_region ?_
      refine S_ 14 rfl rfl rfl _ (y_move rfl rfl) ?_
      refine S_ 15 rfl rfl rfl _ (y_nilCheck rfl rfl) ?_
      refine S_ 16 rfl rfl rfl _ (y_fieldAddr rfl rfl fa226_0) ?_
      refine S_ 17 rfl rfl rfl _ (y_load 0 rfl rfl rfl rfl Tryz.underlying224 rfl) ?_
      refine S_ 18 rfl rfl rfl _ (y_move rfl rfl) ?_
      refine S_ 19 rfl rfl rfl _ (y_bin rfl rfl rfl (fun _ => b_neqp_same Tryz.underlying224 hinf226)) ?_
      refine S_go (fun _ _ h => h) ?_
      refine T_cond rfl (fun h19 => ?_) (fun h19 => ?_)
      · skip
        cases h19
      · skip
        refine T_skip (fun a w hF hM => hRn a w (post0 rfl (fun w hM => ?_) a w hF hM))
        exact ⟨rfl, hM.keep (ks := [(0, 999)]) (by repeat (first | exact kl_rest (by assumption) rfl | (apply kl_in; focus rfl))) _ ⟨rfl, trivial⟩⟩
theorem WriteString_any {w0 : World} {K : HL} (hK : FromK K) (b : Nat) (ad : Value) (A : Option Addr) (q c : Nat) (l s : List UInt8) (had : ad = .pointer none ∨ ad = selfP b) (hlen : q + s.length ≤ 140737488355328) (w : World) (hM0 : Mem w0 ([(0, bldBox b ad A q c), (1, bldRow A q c l)] ++ K) w) :
    Calls Tryz.prog 208 #[selfP b, str s] w fun e w' => ∃ x : Option Addr × Nat, e = .returned (.tuple #[.int .i64 s.length, .nilIface]) ∧ (A = none → c = 0 → s = [] → x.1 = none ∧ x.2 = 0) ∧
      Mem w0 ([(0, bldBox b (selfP b) x.1 (q + s.length) x.2), (1, bldRow x.1 (q + s.length) x.2 (l ++ s))] ++ K) w' := by
  refine enterM_args (args := [selfP b, str s]) (F := _) hM0 Tryz.func208 rfl Tryz.ntmps208 rfl rfl ?_
  intro Rb hRb hRn
  refine T_seq ?_
  refine T_region ?_
  refine S_ 4 rfl rfl rfl _ (y_assign rfl rfl) ?_
  refine S_ 5 rfl rfl rfl _ (y_assign rfl rfl) ?_
  refine S_go (fun _ _ h => h) ?_
  refine T_seq ?_
  refine T_region ?_
  refine S_ 6 rfl rfl rfl _ (y_move rfl rfl) ?_
  refine S_callM 7 [(0, 0)] (X := Unit) rfl rfl rfl rfl rfl rfl rfl cf253 rfl (fun _ => .tuple #[]) (fun _ => True) (fun _ => [(0, bldBox b (selfP b) A q c)]) (fun _ => rfl) (fun _ => rfl) (fun K1 hK1 w hM => (copyCheck_any hK1 b ad _ had w hM).mono fun e w1 h => ⟨(), h.1, trivial, h.2⟩) ?_
  intro _ _
  refine S_go (fun _ _ h => h) ?_
  refine T_seq ?_
  refine T_region ?_
  refine S_ 8 rfl rfl rfl _ (y_move rfl rfl) ?_
  refine S_ 9 rfl rfl rfl _ (y_move rfl rfl) ?_
  refine S_ 10 rfl rfl rfl _ (y_nilCheck rfl rfl) ?_
  refine S_ 11 rfl rfl rfl _ (y_fieldAddr rfl rfl fa226_1) ?_
  refine S_ 12 rfl rfl rfl _ (y_load 0 rfl rfl rfl rfl Tryz.underlying183 rfl) ?_
  refine S_ 13 rfl rfl rfl _ (y_move rfl rfl) ?_
  refine S_appendStr 14 1 rfl rfl rfl rfl rfl rfl rfl Tryz.underlying183 Tryz.underlying9 inf5 ?_ (q + s.length) (l ++ s) rfl rfl ?_
  · omega
  intro A14 c14 hn14
  refine S_ 15 rfl rfl rfl _ (y_nilCheck rfl rfl) ?_
  refine S_ 16 rfl rfl rfl _ (y_fieldAddr rfl rfl fa226_1) ?_
  refine S_store 0 rfl rfl rfl rfl rfl rfl sz183 rfl rfl ?_
  refine S_go (fun _ _ h => h) ?_
  refine T_seq ?_
  refine T_region ?_
  refine S_ 17 rfl rfl rfl _ (y_move rfl rfl) ?_
  refine S_ 18 rfl rfl rfl _ (y_len_str rfl rfl Tryz.underlying9) ?_
  refine S_ 4 rfl rfl rfl _ (y_assign rfl rfl) ?_
  refine S_ 5 rfl rfl rfl _ (y_assign rfl rfl) ?_
  refine S_go (fun _ _ h => h) ?_
  refine T_ret (fun a w hF hM => hRb a w (post2 rfl rfl rfl (fun w hM => ?_) a w hF hM))
  exact ⟨(A14, c14), rfl, hn14, hM.keep (ks := [(0, 999)]) (by repeat (first | exact kl_rest (by assumption) rfl | (apply kl_in; focus rfl))) _ ⟨rfl, rfl, trivial⟩⟩
theorem BLen_any (b : Nat) (A : Option Addr) (q c : Nat) (w : World) (hc : w.cell? ⟨b, 1, none⟩ = some (.slice A q c) ∧ b < w.heap.size) :
    Calls Tryz.prog 209 #[selfP b] w fun e w' => e = .returned (.int .i64 q) ∧ Below w.heap.size w w' := by
  refine enter_args (args := [selfP b]) (F := _) Tryz.func209 rfl Tryz.ntmps209 rfl rfl ?_
  intro Rb hRb hRn
  refine T_seq ?_
  refine T_region ?_
  refine S_ 2 rfl rfl rfl _ (y_assign rfl rfl) ?_
  refine S_go (fun _ _ h => h) ?_
  refine T_seq ?_
  refine T_region ?_
  refine S_ 3 rfl rfl rfl _ (y_move rfl rfl) ?_
  refine S_ 4 rfl rfl rfl _ (y_nilCheck rfl rfl) ?_
  refine S_ 5 rfl rfl rfl _ (y_fieldAddr rfl rfl fa226_1) ?_
  refine S_ 6 rfl rfl rfl _ (y_load_far rfl rfl hc.1 hc.2 Tryz.underlying183 rfl) ?_
  refine S_ 7 rfl rfl rfl _ (y_len_slice rfl rfl Tryz.underlying183) ?_
  refine S_ 2 rfl rfl rfl _ (y_assign rfl rfl) ?_
  refine S_go (fun _ _ h => h) ?_
  refine T_ret (fun a w hF hM => hRb a w (post1 rfl rfl (fun w hM => ?_) a w hF hM))
  exact ⟨rfl, hM.below⟩
theorem BString_any {w0 : World} {K : HL} (hK : FromK K) (b : Nat) (ad : Value) (A : Option Addr) (q c : Nat) (l : List UInt8) (hz : q = 0 → A = none) (h63 : q ≤ 9223372036854775807) (w : World) (hM0 : Mem w0 ([(0, bldBox b ad A q c), (1, bldRow A q c l)] ++ K) w) :
    Calls Tryz.prog 210 #[selfP b] w fun e w' => e = .returned (str l) ∧ Mem w0 ([(1, bldRow none 0 0 []), (0, bldBox b ad A q c)] ++ K) w' := by
  have hrow : w.ownsRow w0.heap.size 5 1 (.slice A q c) q (bytesV l) := hM0.sat 1 _ rfl
  have hql : l.length = q := by have := hrow.1; simp [bytesV] at this; omega
  by_cases h0 : q = 0
  · have hA := hz h0
    subst hA
    have hl : l = [] := List.eq_nil_of_length_eq_zero (by omega)
    subst hl
    subst h0
    refine enterM_args (args := [selfP b]) (F := _) hM0 Tryz.func210 rfl Tryz.ntmps210 rfl rfl ?_
    intro Rb hRb hRn
    refine T_seq ?_
    refine T_region ?_
    refine S_ 2 rfl rfl rfl _ (y_assign rfl rfl) ?_
    refine S_go (fun _ _ h => h) ?_
    refine T_seq ?_
    refine T_tail 10 (by kernel_rfl) (by kernel_rfl) ?_
    refine E_ 3 rfl rfl rfl _ (z_move rfl rfl) ?_
    refine E_ 4 rfl rfl rfl _ (z_nilCheck rfl rfl) ?_
    refine E_ 5 rfl rfl rfl _ (z_fieldAddr rfl rfl fa226_1) ?_
    refine E_ 6 rfl rfl rfl _ (z_load 0 rfl rfl rfl rfl Tryz.underlying183 rfl) ?_
    refine E_ 7 rfl rfl rfl _ (z_sliceData rfl rfl (.inl rfl)) ?_
    refine E_ 8 rfl rfl rfl _ (z_move rfl rfl) ?_
    refine E_ 9 rfl rfl rfl _ (z_nilCheck rfl rfl) ?_
    refine E_ 10 rfl rfl rfl _ (z_fieldAddr rfl rfl fa226_1) ?_
    refine E_ 11 rfl rfl rfl _ (z_load 0 rfl rfl rfl rfl Tryz.underlying183 rfl) ?_
    refine E_ 12 rfl rfl rfl _ (z_len rfl rfl Tryz.underlying183) ?_
    refine E_nil ?_
    refine S_unsafeString0 13 rfl rfl rfl rfl rfl rfl ?_
    refine S_ 2 rfl rfl rfl _ (y_assign rfl rfl) ?_
    refine S_go (fun _ _ h => h) ?_
    refine T_ret (fun a w hF hM => hRb a w (post1 rfl rfl (fun w hM => ?_) a w hF hM))
    exact ⟨rfl, (hM.keep (ks := [(0, 999)]) (by repeat (first | exact kl_rest (by assumption) rfl | (apply kl_in; focus rfl))) _ ⟨rfl, trivial⟩ : Mem w0 ([(0, bldBox b ad _ _ c)] ++ K) w).add 1 _ rfl (World.ownsRow_nil _ _ _ _)⟩
  · obtain ⟨g, rfl, hc0⟩ : ∃ g, A = some ⟨g, 0, none⟩ ∧ c ≠ 0 := by
      rcases hrow.2 with ⟨_, h⟩ | ⟨g, cap, cur, hv, _, _, hnc, _⟩
      · exact absurd h h0
      · exact ⟨g, by injection hv, by have : c = cap := by injection hv
                                      omega⟩
    refine enterM_args (args := [selfP b]) (F := _) hM0 Tryz.func210 rfl Tryz.ntmps210 rfl rfl ?_
    intro Rb hRb hRn
    refine T_seq ?_
    refine T_region ?_
    refine S_ 2 rfl rfl rfl _ (y_assign rfl rfl) ?_
    refine S_go (fun _ _ h => h) ?_
    refine T_seq ?_
    refine T_tail 10 (by kernel_rfl) (by kernel_rfl) ?_
    refine E_ 3 rfl rfl rfl _ (z_move rfl rfl) ?_
    refine E_ 4 rfl rfl rfl _ (z_nilCheck rfl rfl) ?_
    refine E_ 5 rfl rfl rfl _ (z_fieldAddr rfl rfl fa226_1) ?_
    refine E_ 6 rfl rfl rfl _ (z_load 0 rfl rfl rfl rfl Tryz.underlying183 rfl) ?_
    refine E_ 7 rfl rfl rfl _ (z_sliceData rfl rfl (.inr hc0)) ?_
    refine E_ 8 rfl rfl rfl _ (z_move rfl rfl) ?_
    refine E_ 9 rfl rfl rfl _ (z_nilCheck rfl rfl) ?_
    refine E_ 10 rfl rfl rfl _ (z_fieldAddr rfl rfl fa226_1) ?_
    refine E_ 11 rfl rfl rfl _ (z_load 0 rfl rfl rfl rfl Tryz.underlying183 rfl) ?_
    refine E_ 12 rfl rfl rfl _ (z_len rfl rfl Tryz.underlying183) ?_
    refine E_nil ?_
    refine S_giveRow 1 (g := g) rfl ?_
    refine S_unsafeString 13 1 rfl rfl rfl rfl rfl rfl rfl hql (by omega) h63 Tryz.underlying263 co5 ?_
    refine S_ 2 rfl rfl rfl _ (y_assign rfl rfl) ?_
    refine S_go (fun _ _ h => h) ?_
    refine T_ret (fun a w hF hM => hRb a w (post1 rfl rfl (fun w hM => ?_) a w hF hM))
    exact ⟨rfl, (hM.keep (ks := [(0, 999)]) (by repeat (first | exact kl_rest (by assumption) rfl | (apply kl_in; focus rfl))) _ ⟨rfl, trivial⟩ : Mem w0 ([(0, bldBox b ad _ _ c)] ++ K) w).add 1 _ rfl (World.ownsRow_nil _ _ _ _)⟩
/-! ### .. by the bytes alone -/
abbrev bB (b : Nat) (ad : Value) (A : Option Addr) (c : Nat) (l : List UInt8) : It := bldBox b ad A l.length c
abbrev bR (A : Option Addr) (c : Nat) (l : List UInt8) : It := bldRow A l.length c l
theorem WStr_any {w0 : World} {K : HL} (hK : FromK K) (b : Nat) (ad : Value) (A : Option Addr) (c : Nat) (l s : List UInt8) (had : ad = .pointer none ∨ ad = selfP b) (hlen : l.length + s.length ≤ 140737488355328) (w : World) (hM0 : Mem w0 ([(0, bB b ad A c l), (1, bR A c l)] ++ K) w) :
    Calls Tryz.prog 208 #[selfP b, str s] w fun e w' => ∃ x : Option Addr × Nat, e = .returned (.tuple #[.int .i64 s.length, .nilIface]) ∧ (A = none → c = 0 → s = [] → x.1 = none ∧ x.2 = 0) ∧
      Mem w0 ([(0, bB b (selfP b) x.1 x.2 (l ++ s)), (1, bR x.1 x.2 (l ++ s))] ++ K) w' :=
  (WriteString_any hK b ad A l.length c l s had hlen w hM0).mono fun e w' ⟨x, h1, h2, h3⟩ => ⟨x, h1, h2, by
    show Mem w0 ([(0, bldBox b (selfP b) x.1 (l ++ s).length x.2), (1, bldRow x.1 (l ++ s).length x.2 (l ++ s))] ++ K) w'
    rw [List.length_append]; exact h3⟩
theorem BStr_any {w0 : World} {K : HL} (hK : FromK K) (b : Nat) (ad : Value) (A : Option Addr) (c : Nat) (l : List UInt8) (hz : l.length = 0 → A = none) (h63 : l.length ≤ 9223372036854775807) (w : World) (hM0 : Mem w0 ([(0, bB b ad A c l), (1, bR A c l)] ++ K) w) :
    Calls Tryz.prog 210 #[selfP b] w fun e w' => e = .returned (str l) ∧ Mem w0 ([(1, bR none 0 []), (0, bB b ad A c l)] ++ K) w' := BString_any hK b ad A l.length c l hz h63 w hM0
end Go.Proofs.YtfmbgaaonfgenaaGreatDoor
end
section
namespace Go.Proofs.YtfmbgaaonfgenaaGreatDoor
set_option linter.unusedSimpArgs false
set_option linter.unusedVariables false
set_option maxRecDepth 20000
open Go.RowKit Go.Eng
abbrev CellsM (w : World) (b : Nat) (cs : List Value) : Prop := (∀ j u, cs[j]? = some u → w.cell? ((⟨b, 0, none⟩ : Addr).add j) = some u) ∧ b < w.heap.size
theorem CellsM.one {w : World} {b j : Nat} {cs : List Value} {u : Value} (h : CellsM w b cs) (hj : cs[j]? = some u) : w.cell? ((⟨b, 0, none⟩ : Addr).add j) = some u ∧ ((⟨b, 0, none⟩ : Addr).add j).block < w.heap.size := ⟨h.1 j u hj, by rw [block_of_add]; exact h.2⟩
abbrev shrtB (k : Int) (x : Sp) : Bool := decide ((x.2 : Int) - (x.1 : Int) < k)
theorem lng_not (k : Int) (l : List Sp) : l.filter (notQ (shrtB k)) = lngF k l := by
  unfold lngF
  congr 1
  funext x
  rw [notQ, shrtB, Bool.eq_iff_iff]
  simp only [Bool.not_eq_true', decide_eq_false_iff_not, decide_eq_true_eq, Int.not_lt]
theorem shrt_any (x : Sp) (k : Int) (b : Nat) (hx : x.1 ≤ 1000000 ∧ x.2 ≤ 1000000) (w : World) (h : w.cell? ⟨b, 0, none⟩ = some (.int .i64 k) ∧ b < w.heap.size) :
    Calls Tryz.prog 214 (#[.agg (spE x).toArray] ++ #[.pointer (some ⟨b, 0, none⟩)]) w fun e w' => e = .returned (.bool (shrtB k x)) ∧ Below w.heap.size w w' := by
  refine enter_args (args := [.agg #[.int .i64 (x.1 : Int), .int .i64 (x.2 : Int)], .pointer (some ⟨b, 0, none⟩)]) (F := _) Tryz.func214 rfl Tryz.ntmps214 rfl rfl ?_
  intro Rb hRb hRn
  refine T_seq ?_
  refine T_region ?_
  refine S_box 2 2 rfl rfl rfl rfl rfl ?_
  intro b2
  refine S_ 3 rfl rfl rfl _ (y_assign rfl rfl) ?_
  refine S_go (fun _ _ h => h) ?_
  refine T_seq ?_
  refine T_region ?_
  refine S_ 4 rfl rfl rfl _ (y_fieldAddr rfl rfl fa199_1) ?_
  refine S_ 5 rfl rfl rfl _ (y_load 2 rfl rfl rfl rfl Tryz.underlying3 rfl) ?_
  refine S_ 6 rfl rfl rfl _ (y_fieldAddr rfl rfl fa199_0) ?_
  refine S_ 7 rfl rfl rfl _ (y_load 2 rfl rfl rfl rfl Tryz.underlying3 rfl) ?_
  refine S_ 8 rfl rfl rfl _ (y_bin rfl rfl rfl (fun hg => b_sub (by omega))) ?_
  refine S_ 9 rfl rfl rfl _ (y_load_far rfl rfl h.1 h.2 Tryz.underlying3 rfl) ?_
  refine S_ 10 rfl rfl rfl _ (y_bin rfl rfl rfl (fun _ => b_lss)) ?_
  refine S_ 3 rfl rfl rfl _ (y_assign rfl rfl) ?_
  refine S_go (fun _ _ h => h) ?_
  refine T_ret (fun a w hF hM => hRb a w (post1 rfl rfl (fun w hM => ?_) a w hF hM))
  exact ⟨rfl, hM.below⟩
theorem long_any {w0 : World} {K : HL} (hK : FromK K) (A : Option Addr) (q c : Nat) (l : List Sp) (k : Int) (hlen : l.length = q) (hq : q ≤ 1000000000) (hl : ∀ x ∈ l, x.1 ≤ 1000000 ∧ x.2 ≤ 1000000) (w : World) (hM0 : Mem w0 ([(0, .own 199 2 (.slice A q c) q (l.flatMap spE))] ++ K) w) :
    Calls Tryz.prog 162 #[.slice A q c, .int .i64 k] w fun e w' => ∃ _u : Unit, e = .returned (.slice A (lngF k l).length c) ∧ True ∧ Mem w0 ([(0, .own 199 2 (.slice A (lngF k l).length c) (lngF k l).length ((lngF k l).flatMap spE))] ++ K) w' := by
  refine enterM_args (args := [.slice A q c, .int .i64 k]) (F := _) hM0 Tryz.func162 rfl Tryz.ntmps162 rfl rfl ?_
  intro Rb hRb hRn
  refine T_seq ?_
  refine T_region ?_
  refine S_box 3 3 rfl rfl rfl rfl rfl ?_
  intro b3
  refine S_nilSlice 4 (e := 199) (size := 2) ?_
  refine S_ 4 rfl rfl rfl _ (y_assign rfl rfl) ?_
  refine S_go (fun _ _ h => h) ?_
  refine T_seq ?_
  refine T_region ?_
  refine S_ 5 rfl rfl rfl _ (y_move rfl rfl) ?_
  refine S_ 6 rfl rfl rfl _ (y_makeFunc rfl rfl rfl rfl rfl) ?_
  refine S_callM 7 [(0, 0), (1, 3)] (X := Nat) rfl rfl rfl rfl rfl rfl rfl cf213 rfl (fun z => .slice A z c) (fun z => z = (l.filter (notQ (shrtB k))).length) (fun z => [(0, .own 199 2 (.slice A z c) z ((l.filter (notQ (shrtB k))).flatMap spE)), (1, .blk b3 (IsBox [.int .i64 k] 3))]) (fun _ => rfl) (fun _ => rfl) (fun K1 hK1 w1 hM => DeleteSp_any hK1 (.blk b3 (IsBox [.int .i64 k] 3)) A q c l 214 _ (shrtB k) hlen hq cf214 (fun x hx w2 hM2 => shrt_any x k b3 (hl x hx) w2 (hM2.box_cell (i := 1) rfl rfl)) w1 hM) ?_
  rintro z hz
  refine S_ 4 rfl rfl rfl _ (y_assign rfl rfl) ?_
  refine S_go (fun _ _ h => h) ?_
  refine T_ret (fun a w hF hM => hRb a w (post1 rfl rfl (fun w hM => ?_) a w hF hM))
  rw [lng_not] at hz
  subst hz
  exact ⟨(), rfl, trivial, hM.keep (ks := [(0, 999)]) (by repeat (first | exact kl_rest (by assumption) rfl | (apply kl_in; focus rfl))) _ ⟨by rw [← lng_not]; rfl, trivial⟩⟩
theorem sp_small {n a : Nat} {l : List Sp} (h : SpOk n a l) : ∀ x ∈ l, x.1 ≤ n ∧ x.2 ≤ n := by
  induction h with
  | nil h => intro x hx; cases hx
  | cons h1 h2 h3 h ih =>
    intro x hx
    rcases List.mem_cons.1 hx with rfl | hx
    · exact ⟨Nat.le_trans h2 h3, h3⟩
    · exact ih x hx
abbrev ownSp (B : Nat) (w' : World) (A : Option Addr) (c : Nat) (l : List Sp) : Prop := w'.ownsRow B 199 2 (.slice A l.length c) l.length (l.flatMap spE)
theorem fndDig_any (s : List UInt8) (hs : s.length ≤ 1000000) (r : SRl) (b : Nat) (w : World) (h : CellsM w b r.enc) :
    Calls Tryz.prog 163 #[str s, .pointer (some ⟨b, 0, none⟩)] w fun e w' => ∃ A c, e = .returned (.slice A (rowsK digM r.ls s).length c) ∧ ownSp w.heap.size w' A c (rowsK digM r.ls s) ∧ Below w.heap.size w w' := by
  have hrl := rowsF_len digM s s.length 0
  have hsm := sp_small (rowsF_ok digM s s.length 0 (by omega))
  refine enter_args (args := [str s, .pointer (some ⟨b, 0, none⟩)]) (F := _) Tryz.func163 rfl Tryz.ntmps163 rfl rfl ?_
  intro Rb hRb hRn
  refine T_seq ?_
  refine T_region ?_
  refine S_nilSlice 3 (e := 199) (size := 2) ?_
  refine S_ 3 rfl rfl rfl _ (y_assign rfl rfl) ?_
  refine S_go (fun _ _ h => h) ?_
  refine T_seq ?_
  refine T_perm [0, 2, 3, 1, 4, 5] [true, false, true, true, false, true] [0, 1, 0, 4, 15, 31] [] (by kernel_rfl) (by kernel_rfl) (by kernel_rfl) rfl (by kernel_rfl) ?_
  refine Rf_ 0 4 rfl rfl rfl rfl rfl _ trivial (Y.z (y_move rfl rfl) rfl) ?_
  refine Rf_ 2 6 rfl rfl rfl rfl rfl _ trivial (Y.z (y_fieldAddr rfl rfl fa43_3) rfl) ?_
  refine Rf_ 3 7 rfl rfl rfl rfl rfl _ trivial (Y.z (y_load_far rfl rfl (h.one (j := 3) rfl).1 (h.one (j := 3) (cs := r.enc) rfl).2 Tryz.underlying3 rfl) rfl) ?_
  refine R_chain 1 rfl rfl ?_
  refine S_callOwn 5 5 rfl rfl rfl rfl rfl rfl rfl cf164 (fun A c => .slice A ((rowsF digM s s.length 0).length) c) 199 2 ((rowsF digM s s.length 0).length) ((rowsF digM s s.length 0).flatMap spE) (fun w1 hM => rows_any s hs 165 digM cf165 isDig_any w1) ?_
  intro A5 c5
  refine R_next trivial ?_
  refine R_chain 4 rfl rfl ?_
  refine S_callM 8 [(0, 5)] (X := Unit) rfl rfl rfl rfl rfl rfl rfl cf162 rfl (fun _ => .slice A5 (rowsK digM r.ls s).length c5) (fun _ => True) (fun _ => [(0, .own 199 2 (.slice A5 (rowsK digM r.ls s).length c5) (rowsK digM r.ls s).length ((rowsK digM r.ls s).flatMap spE))]) (fun _ => rfl) (fun _ => rfl) (fun K1 hK1 w1 hM => long_any hK1 A5 _ c5 (rowsF digM s s.length 0) r.ls rfl (by omega) (fun x hx => ⟨by have := (hsm x hx).1; omega, by have := (hsm x hx).2; omega⟩) w1 hM) ?_
  intro x8 hx8
  refine R_next trivial ?_
  refine Rf_ 5 3 rfl rfl rfl rfl rfl _ trivial (Y.z (y_assign rfl rfl) rfl) ?_
  refine R_go (fun _ _ h => h) ?_
  refine T_ret (fun a w hF hM => hRb a w (post1 rfl rfl (fun w hM => ?_) a w hF hM))
  exact ⟨A5, c5, rfl, hM.sat 5 _ rfl, hM.below⟩
theorem fndHex_any (s : List UInt8) (hs : s.length ≤ 1000000) (r : SRl) (b : Nat) (w : World) (h : CellsM w b r.enc) :
    Calls Tryz.prog 166 #[str s, .pointer (some ⟨b, 0, none⟩)] w fun e w' => ∃ A c, e = .returned (.slice A (rowsK hexM r.ls s).length c) ∧ ownSp w.heap.size w' A c (rowsK hexM r.ls s) ∧ Below w.heap.size w w' := by
  have hrl := rowsF_len hexM s s.length 0
  have hsm := sp_small (rowsF_ok hexM s s.length 0 (by omega))
  refine enter_args (args := [str s, .pointer (some ⟨b, 0, none⟩)]) (F := _) Tryz.func166 rfl Tryz.ntmps166 rfl rfl ?_
  intro Rb hRb hRn
  refine T_seq ?_
  refine T_region ?_
  refine S_nilSlice 3 (e := 199) (size := 2) ?_
  refine S_ 3 rfl rfl rfl _ (y_assign rfl rfl) ?_
  refine S_go (fun _ _ h => h) ?_
  refine T_seq ?_
  refine T_perm [0, 2, 3, 1, 4, 5] [true, false, true, true, false, true] [0, 1, 0, 4, 15, 31] [] (by kernel_rfl) (by kernel_rfl) (by kernel_rfl) rfl (by kernel_rfl) ?_
  refine Rf_ 0 4 rfl rfl rfl rfl rfl _ trivial (Y.z (y_move rfl rfl) rfl) ?_
  refine Rf_ 2 6 rfl rfl rfl rfl rfl _ trivial (Y.z (y_fieldAddr rfl rfl fa43_3) rfl) ?_
  refine Rf_ 3 7 rfl rfl rfl rfl rfl _ trivial (Y.z (y_load_far rfl rfl (h.one (j := 3) rfl).1 (h.one (j := 3) (cs := r.enc) rfl).2 Tryz.underlying3 rfl) rfl) ?_
  refine R_chain 1 rfl rfl ?_
  refine S_callOwn 5 5 rfl rfl rfl rfl rfl rfl rfl cf164 (fun A c => .slice A ((rowsF hexM s s.length 0).length) c) 199 2 ((rowsF hexM s s.length 0).length) ((rowsF hexM s s.length 0).flatMap spE) (fun w1 hM => rows_any s hs 167 hexM cf167 isHex_any w1) ?_
  intro A5 c5
  refine R_next trivial ?_
  refine R_chain 4 rfl rfl ?_
  refine S_callM 8 [(0, 5)] (X := Unit) rfl rfl rfl rfl rfl rfl rfl cf162 rfl (fun _ => .slice A5 (rowsK hexM r.ls s).length c5) (fun _ => True) (fun _ => [(0, .own 199 2 (.slice A5 (rowsK hexM r.ls s).length c5) (rowsK hexM r.ls s).length ((rowsK hexM r.ls s).flatMap spE))]) (fun _ => rfl) (fun _ => rfl) (fun K1 hK1 w1 hM => long_any hK1 A5 _ c5 (rowsF hexM s s.length 0) r.ls rfl (by omega) (fun x hx => ⟨by have := (hsm x hx).1; omega, by have := (hsm x hx).2; omega⟩) w1 hM) ?_
  intro x8 hx8
  refine R_next trivial ?_
  refine Rf_ 5 3 rfl rfl rfl rfl rfl _ trivial (Y.z (y_assign rfl rfl) rfl) ?_
  refine R_go (fun _ _ h => h) ?_
  refine T_ret (fun a w hF hM => hRb a w (post1 rfl rfl (fun w hM => ?_) a w hF hM))
  exact ⟨A5, c5, rfl, hM.sat 5 _ rfl, hM.below⟩
end Go.Proofs.YtfmbgaaonfgenaaGreatDoor
end
section
namespace Go.Proofs.YtfmbgaaonfgenaaGreatDoor
set_option linter.unusedSimpArgs false
set_option linter.unusedVariables false
set_option maxRecDepth 20000
open Go.RowKit Go.Eng
def digs : List UInt8 := [48, 49, 50, 51, 52, 53, 54, 55, 56, 57, 97, 98, 99, 100, 101, 102, 103, 104, 105, 106, 107, 108, 109, 110, 111, 112, 113, 114, 115, 116, 117, 118, 119, 120, 121, 122]
def dig (n : Nat) : UInt8 := digs.getD n 0
/-- the digits of base 16 -/
def hexA (u : Nat) (acc : List UInt8) : List UInt8 := if h : u < 16 then dig u :: acc else hexA (u / 16) (dig (u % 16) :: acc)
termination_by u
decreasing_by omega
theorem hexA_end {u : Nat} {acc : List UInt8} (h : u < 16) : hexA u acc = dig u :: acc := by rw [hexA, dif_pos h]
theorem hexA_next {u : Nat} {acc : List UInt8} (h : ¬ u < 16) : hexA u acc = hexA (u / 16) (dig (u % 16) :: acc) := by rw [hexA, dif_neg h]
theorem and15 (u : Nat) (h : u < 18446744073709551616) : Value.int .u64 (bits .and .u64 (u : Int) 15) = .int .u64 ((u % 16 : Nat) : Int) := by
  have e : (BitVec.ofInt 64 (u : Int) &&& BitVec.ofInt 64 15).toNat = u % 16 := by
    rw [BitVec.toNat_and]
    have e1 : (BitVec.ofInt 64 (u : Int)).toNat = u := by
      rw [BitVec.ofInt_natCast, BitVec.toNat_ofNat]; exact Nat.mod_eq_of_lt h
    have e2 : (BitVec.ofInt 64 15).toNat = 15 := by decide
    rw [e1, e2, show (15 : Nat) = 2 ^ 4 - 1 from rfl, Nat.and_two_pow_sub_one_eq_mod]
  have e3 : bits .and .u64 (u : Int) 15 = IntKind.u64.wrap (((BitVec.ofInt 64 (u : Int) &&& BitVec.ofInt 64 15).toNat : Nat) : Int) := rfl
  rw [e3, e, wrap_in .u64 _ ⟨by show (0 : Int) ≤ _; omega, by show _ ≤ (18446744073709551615 : Int); omega⟩]
/-- Go's table holds the number of trailing noughts of 16 -/
def TzTab (w : World) : Prop := w.cell? ⟨5, 15, none⟩ = some (.int .u8 4) ∧ 5 < w.heap.size
theorem TzTab.below {w w' : World} (h : TzTab w) (hb : Below w.heap.size w w') : TzTab w' := ⟨(hb.cell h.2).trans h.1, Nat.lt_of_lt_of_le h.2 hb.size⟩
theorem isPow_any (w : World) : Calls Tryz.prog 271 #[.int .i64 16] w fun e w' => e = .returned (.bool true) ∧ Below w.heap.size w w' := by
  refine enter_args (args := [.int .i64 16]) (F := _) Tryz.func271 rfl Tryz.ntmps271 rfl rfl ?_
  intro Rb hRb hRn
  refine T_seq ?_
  refine T_region ?_
  refine S_ 2 rfl rfl rfl _ (y_assign rfl rfl) ?_
  refine S_go (fun _ _ h => h) ?_
  refine T_seq ?_
  refine T_region ?_
  refine S_ 3 rfl rfl rfl _ (y_move rfl rfl) ?_
  refine S_ 4 rfl rfl rfl _ (y_move rfl rfl) ?_
  refine S_ 5 rfl rfl rfl _ (y_bin rfl rfl rfl (fun hg => b_sub (by omega))) ?_
  refine S_ 6 rfl rfl rfl _ (y_as (v' := .int .i64 0) (by exact rfl) (y_bin rfl rfl rfl (fun _ => b_and))) ?_
  refine S_ 7 rfl rfl rfl _ (y_as (v' := .bool true) (by exact rfl) (y_bin rfl rfl rfl (fun _ => b_eql))) ?_
  refine S_ 2 rfl rfl rfl _ (y_assign rfl rfl) ?_
  refine S_go (fun _ _ h => h) ?_
  refine T_ret (fun a w hF hM => hRb a w (post1 rfl rfl (fun w hM => ?_) a w hF hM))
  exact ⟨rfl, hM.below⟩
theorem tz64_any (w : World) (hT : TzTab w) : Calls Tryz.prog 280 #[.int .u64 16] w fun e w' => e = .returned (.int .i64 4) ∧ Below w.heap.size w w' := by
  refine enter_args (args := [.int .u64 16]) (F := _) Tryz.func280 rfl Tryz.ntmps280 rfl rfl ?_
  intro Rb hRb hRn
  refine T_seq ?_
  refine T_region ?_
  refine S_ 2 rfl rfl rfl _ (y_assign rfl rfl) ?_
  refine S_go (fun _ _ h => h) ?_
  refine T_seq ?_
  refine T_seq ?_
  refine T_region ?_
  refine S_ 3 rfl rfl rfl _ (y_move rfl rfl) ?_
  refine S_ 4 rfl rfl rfl _ (y_bin rfl rfl rfl (fun _ => b_eql)) ?_
  refine S_go (fun _ _ h => h) ?_
  refine T_cond rfl (fun h4 => ?_) (fun h4 => ?_)
  · skip
    exact absurd h4 (by decide)
  · skip
    refine T_skip_go (fun _ _ h => h) ?_
    refine T_seq ?_
    refine T_region ?_
    refine S_ 5 rfl rfl rfl _ (y_move rfl rfl) ?_
    refine S_ 6 rfl rfl rfl _ (y_move rfl rfl) ?_
    refine S_ 7 rfl rfl rfl _ (y_as (v' := .int .u64 18446744073709551600) (by exact rfl) (y_neg (_) rfl rfl (fun hg => rfl))) ?_
    refine S_ 8 rfl rfl rfl _ (y_as (v' := .int .u64 16) (by kernel_rfl) (y_bin rfl rfl rfl (fun _ => b_and))) ?_
    refine S_ 9 rfl rfl rfl _ (y_as (v' := .int .u64 4573923408821661840) (by kernel_rfl) (y_bin rfl rfl rfl (fun hg => b_mulw))) ?_
    refine S_ 10 rfl rfl rfl _ (y_bin rfl rfl rfl (fun hg => b_shrv (15) (by decide) (by decide) (by first | (simp; done) | (simp; omega)))) ?_
    refine S_ 11 rfl rfl rfl _ (y_indexArr (j := 15) rfl rfl rfl Tryz.underlying290 (by decide) sz5 (fun _ => by decide)) ?_
    refine S_ 12 rfl rfl rfl _ (y_load_far rfl rfl hT.1 hT.2 Tryz.underlying5 rfl) ?_
    refine S_ 13 rfl rfl rfl _ (y_conv64 rfl rfl Tryz.underlying5 Tryz.underlying3 (fun _ => by omega)) ?_
    refine S_ 2 rfl rfl rfl _ (y_assign rfl rfl) ?_
    refine S_go (fun _ _ h => h) ?_
    refine T_ret (fun a w hF hM => hRb a w (post1 rfl rfl (fun w hM => ?_) a w hF hM))
    exact ⟨rfl, hM.below⟩
theorem tz_any (w : World) (hT : TzTab w) : Calls Tryz.prog 272 #[.int .u64 16] w fun e w' => e = .returned (.int .i64 4) ∧ Below w.heap.size w w' := by
  refine enter_args (args := [.int .u64 16]) (F := _) Tryz.func272 rfl Tryz.ntmps272 rfl rfl ?_
  intro Rb hRb hRn
  refine T_seq ?_
  refine T_region ?_
  refine S_ 2 rfl rfl rfl _ (y_assign rfl rfl) ?_
  refine S_go (fun _ _ h => h) ?_
  refine T_seq ?_
  refine T_cond rfl (fun hNone => ?_) (fun hNone => ?_)
  · skip
    cases hNone
  · skip
    refine T_skip_go (fun _ _ h => h) ?_
    refine T_seq ?_
    refine T_region ?_
    refine S_ 6 rfl rfl rfl _ (y_move rfl rfl) ?_
    refine S_ 7 rfl rfl rfl _ (y_call rfl rfl rfl cf280 (fun _ w hM => tz64_any w (hT.below hM.below))) ?_
    refine S_ 2 rfl rfl rfl _ (y_assign rfl rfl) ?_
    refine S_go (fun _ _ h => h) ?_
    refine T_ret (fun a w hF hM => hRb a w (post1 rfl rfl (fun w hM => ?_) a w hF hM))
    exact ⟨rfl, hM.below⟩
theorem pow_16 {u k : Nat} (h : u < 16 ^ k) (h1 : 16 ≤ u) : u / 16 < 16 ^ (k - 1) ∧ 2 ≤ k := by
  have hk : 2 ≤ k := by
    rcases Nat.lt_or_ge k 2 with h2 | h2
    · have : 16 ^ k ≤ 16 ^ 1 := Nat.pow_le_pow_right (by decide) (by omega)
      omega
    · exact h2
  obtain ⟨j, rfl⟩ : ∃ j, k = j + 1 := ⟨k - 1, by omega⟩
  rw [Nat.pow_succ] at h
  exact ⟨by simp only [Nat.add_sub_cancel]; omega, hk⟩
theorem pow_64 {u k : Nat} (h : u < 16 ^ (16 - k)) : u < 18446744073709551616 := by
  have : 16 ^ (16 - k) ≤ 16 ^ 16 := Nat.pow_le_pow_right (by decide) (by omega)
  have e : (16 : Nat) ^ 16 = 18446744073709551616 := by decide
  omega
theorem formatBits_any (h : Nat) (hh : h < 18446744073709551616) (w : World) (hT : TzTab w) :
    Calls Tryz.prog 249 #[.slice none 0 0, .int .u64 (h : Int), .int .i64 16, .bool false, .bool false] w fun e w' => e = .returned (.tuple #[.slice none 0 0, str (hexA h [])]) ∧ Below w.heap.size w w' := by
  refine enter_args (args := [.slice none 0 0, .int .u64 (h : Int), .int .i64 16, .bool false, .bool false]) (F := _) Tryz.func249 rfl Tryz.ntmps249 rfl rfl ?_
  intro Rb hRb hRn
  refine T_seq ?_
  refine T_region ?_
  refine S_nilSlice 10 (e := 5) (size := 1) ?_
  refine S_ 10 rfl rfl rfl _ (y_assign rfl rfl) ?_
  refine S_ 11 rfl rfl rfl _ (y_assign rfl rfl) ?_
  refine S_go (fun _ _ h => h) ?_
  refine T_seq ?_
  refine T_seq ?_
  refine T_region ?_
  refine S_ 19 rfl rfl rfl _ (y_move rfl rfl) ?_
  refine S_ 20 rfl rfl rfl _ (y_bin rfl rfl rfl (fun _ => b_lss)) ?_
  refine S_ 21 rfl rfl rfl _ (y_move rfl rfl) ?_
  refine Sg_ 22 rfl rfl rfl rfl rfl rfl _ (y_move rfl rfl) ?_
  refine Sg_ 23 rfl rfl rfl rfl rfl rfl _ (y_bin rfl rfl rfl (fun _ => b_eql)) ?_
  refine S_ 24 rfl rfl rfl _ (y_or rfl rfl rfl) ?_
  refine S_ 25 rfl rfl rfl _ (y_move rfl rfl) ?_
  refine Sg_ 26 rfl rfl rfl rfl rfl rfl _ (y_move rfl rfl) ?_
  refine Sg_ 27 rfl rfl rfl rfl rfl rfl _ (y_bin rfl rfl rfl (fun _ => b_gtr)) ?_
  refine S_ 28 rfl rfl rfl _ (y_or rfl rfl rfl) ?_
  refine S_go (fun _ _ h => h) ?_
  refine T_cond rfl (fun h28 => ?_) (fun h28 => ?_)
  · skip
    exact absurd h28 (by decide)
  · skip
    refine T_skip_go (fun _ _ h => h) ?_
    refine T_seq ?_
    refine T_region ?_
    refine S_alloc 12 12 rfl rfl rfl rfl z282 ?_
    intro b12
    refine S_go (fun _ _ h => h) ?_
    refine T_seq ?_
    refine T_region ?_
    refine S_ 13 rfl rfl rfl _ (y_assign rfl rfl) ?_
    refine S_go (fun _ _ h => h) ?_
    refine T_seq ?_
    refine T_seq ?_
    refine T_region ?_
    refine S_ 30 rfl rfl rfl _ (y_move rfl rfl) ?_
    refine S_go (fun _ _ h => h) ?_
    refine T_cond rfl (fun h30 => ?_) (fun h30 => ?_)
    · skip
      cases h30
    · skip
      refine T_skip_go (fun _ _ h => h) ?_
      refine T_seq ?_
      refine T_seq ?_
      refine T_region ?_
      refine S_ 33 rfl rfl rfl _ (y_move rfl rfl) ?_
      refine S_ 34 rfl rfl rfl _ (y_call rfl rfl rfl cf271 (fun _ w _ => isPow_any w)) ?_
      refine S_go (fun _ _ h => h) ?_
      refine T_cond rfl (fun h34 => ?_) (fun h34 => ?_)
      · skip
        refine T_seq ?_
        refine T_region ?_
        refine S_ 35 rfl rfl rfl _ (y_move rfl rfl) ?_
        refine S_ 36 rfl rfl rfl _ (y_as (v' := .int .u64 16) (by exact rfl) (y_conv rfl rfl Tryz.underlying3 Tryz.underlying210)) ?_
        refine S_ 37 rfl rfl rfl _ (y_call rfl rfl rfl cf272 (fun _ w hM => tz_any w (hT.below hM.below))) ?_
        refine S_ 38 rfl rfl rfl _ (y_as (v' := .int .u64 4) (by exact rfl) (y_conv rfl rfl Tryz.underlying3 Tryz.underlying210)) ?_
        refine S_ 14 rfl rfl rfl _ (y_assign rfl rfl) ?_
        refine S_go (fun _ _ h => h) ?_
        refine T_seq ?_
        refine T_region ?_
        refine S_ 39 rfl rfl rfl _ (y_move rfl rfl) ?_
        refine S_ 40 rfl rfl rfl _ (y_as (v' := .int .u64 16) (by exact rfl) (y_conv rfl rfl Tryz.underlying3 Tryz.underlying192)) ?_
        refine S_ 15 rfl rfl rfl _ (y_assign rfl rfl) ?_
        refine S_go (fun _ _ h => h) ?_
        refine T_seq ?_
        refine T_region ?_
        refine S_ 41 rfl rfl rfl _ (y_move rfl rfl) ?_
        refine S_ 42 rfl rfl rfl _ (y_as (v' := .int .u64 16) (by exact rfl) (y_conv rfl rfl Tryz.underlying3 Tryz.underlying210)) ?_
        refine S_ 43 rfl rfl rfl _ (y_as (v' := .int .u64 15) (by exact rfl) (y_bin rfl rfl rfl (fun hg => b_subw))) ?_
        refine S_ 16 rfl rfl rfl _ (y_assign rfl rfl) ?_
        refine S_go (fun _ _ h => h) ?_
        refine T_seq ?_
        refine T_block ?_
        refine T_loopK3 (kf := [(1, 1), (13, 13), (44, 57)]) (kl := [(1, 1), (12, 13), (44, 57)]) (fun (u : Nat) (acc : List UInt8) (cs : List Value) => [(1, true, .int .u64 (u : Int)), (13, true, .int .i64 ((65 - acc.length : Nat) : Int))]) (fun (u : Nat) (acc : List UInt8) (cs : List Value) => [(12, .blk b12 (IsBox cs 282))]) (fun (u : Nat) (acc : List UInt8) (cs : List Value) => hexA h [] = hexA u acc ∧ acc.length ≤ 15 ∧ u < 16 ^ (16 - acc.length) ∧ cs.length = 65 ∧ cs.drop (65 - acc.length) = bytesV acc) (fun (u : Nat) (acc : List UInt8) (cs : List Value) => u) h [] (List.replicate 65 (.int .u8 0)) (by repeat (first | exact kf_nil | (apply kf_in; focus rfl) | (apply kf_out; focus rfl))) (by repeat (first | exact kl_nil | exact kl_rest (by assumption) rfl | (apply kl_in; focus rfl) | (apply kl_out; focus rfl))) ?_ ?_ ?_ ?_
        · exact ⟨rfl, by decide, hh, rfl, rfl⟩
        · exact ⟨rfl, rfl, trivial⟩
        · exact ⟨rfl, trivial⟩
        rintro u acc cs ⟨hp1, hp2, hp3, hp4, hp5⟩
        refine T_seq ?_
        refine T_seq ?_
        refine T_region ?_
        refine S_ 44 rfl rfl rfl _ (y_move rfl rfl) ?_
        refine S_ 45 rfl rfl rfl _ (y_move rfl rfl) ?_
        refine S_ 46 rfl rfl rfl _ (y_bin rfl rfl rfl (fun _ => b_geq)) ?_
        refine S_go (fun _ _ h => h) ?_
        refine T_cond rfl (fun h46 => ?_) (fun h46 => ?_)
        · try simp only [decide_eq_true_eq, decide_eq_false_iff_not, Bool.or_eq_true, Bool.or_eq_false_iff, Bool.and_eq_true, Bool.and_eq_false_iff, Bool.not_eq_true', Bool.not_eq_false', Bool.not_eq_true, Bool.not_eq_false, Bool.not_true, Bool.not_false, Int.not_lt, Int.not_le, not_or, not_and, Classical.not_not] at h46
          have hpw := pow_16 hp3 (by omega)
          have hu64 := pow_64 hp3
          refine T_skip_go (fun _ _ h => h) ?_
          refine T_block ?_
          refine T_seq ?_
          refine T_region ?_
          refine S_ 47 rfl rfl rfl _ (y_move rfl rfl) ?_
          refine S_ 48 rfl rfl rfl _ (y_bin rfl rfl rfl (fun hg => b_subv (((65 - (acc.length + 1) : Nat) : Int)) (by omega) (by omega))) ?_
          refine S_ 13 rfl rfl rfl _ (y_assign rfl rfl) ?_
          refine S_go (fun _ _ h => h) ?_
          refine T_seq ?_
          refine T_region ?_
          refine S_ 49 rfl rfl rfl _ (y_move rfl rfl) ?_
          refine S_ 50 rfl rfl rfl _ (y_move rfl rfl) ?_
          refine S_ 51 rfl rfl rfl _ (y_move rfl rfl) ?_
          refine S_ 52 rfl rfl rfl _ (y_as (v' := .int .u64 ((u % 16 : Nat) : Int)) (by exact and15 u hu64) (y_bin rfl rfl rfl (fun _ => b_and))) ?_
          refine S_ 53 rfl rfl rfl _ (y_index_str (j := u % 16) (s := digs) rfl rfl rfl Tryz.underlying9 (fun _ => Nat.lt_of_lt_of_le (Nat.mod_lt _ (by decide)) (by decide))) ?_
          refine S_ 54 rfl rfl rfl _ (y_indexArr (j := 65 - (acc.length + 1)) rfl rfl rfl Tryz.underlying282 (by decide) sz5 (fun _ => by omega)) ?_
          refine S_store 12 rfl rfl rfl rfl rfl rfl sz5 rfl (Nat.ble_eq_true_of_le (by rw [hp4]; show 65 - (acc.length + 1) + 1 ≤ 65; omega)) ?_
          refine S_go (fun _ _ h => h) ?_
          refine T_region ?_
          refine S_ 55 rfl rfl rfl _ (y_move rfl rfl) ?_
          refine S_ 56 rfl rfl rfl _ (y_move rfl rfl) ?_
          refine S_ 57 rfl rfl rfl _ (y_bin rfl rfl rfl (fun hg => b_shrv (((u / 16 : Nat) : Int)) (by decide) (by decide) (by first | (simp; done) | (simp; omega)))) ?_
          refine S_ 1 rfl rfl rfl _ (y_assign rfl rfl) ?_
          refine S_nil (nextK3 (kf := [(1, 1), (13, 13), (44, 57)]) (kl := [(1, 1), (12, 13), (44, 57)]) (u / 16) (dig (u % 16) :: acc) (spl cs (65 - (acc.length + 1)) [.int .u8 ((dig (u % 16)).toNat : Int)]) (by repeat (first | exact kf_nil | (apply kf_in; focus rfl) | (apply kf_out; focus rfl))) (by repeat (first | exact kl_nil | exact kl_rest (by assumption) rfl | (apply kl_in; focus rfl) | (apply kl_out; focus rfl))) ?_ ?_ ?_ ?_)
          · omega
          · exact ⟨by rw [hp1, hexA_next (by omega)], by simp only [List.length_cons]; omega, by have := hpw.1; rw [show 16 - (dig (u % 16) :: acc).length = 16 - acc.length - 1 from by simp only [List.length_cons]; omega]; exact this, by rw [spl_len (by simp; omega), hp4], by simp only [List.length_cons]; rw [spl_drop (by omega), show 65 - (acc.length + 1) + 1 = 65 - acc.length from by omega, hp5]; rfl⟩
          · exact ⟨rfl, rfl, trivial⟩
          · exact ⟨rfl, trivial⟩
        · try simp only [decide_eq_true_eq, decide_eq_false_iff_not, Bool.or_eq_true, Bool.or_eq_false_iff, Bool.and_eq_true, Bool.and_eq_false_iff, Bool.not_eq_true', Bool.not_eq_false', Bool.not_eq_true, Bool.not_eq_false, Bool.not_true, Bool.not_false, Int.not_lt, Int.not_le, not_or, not_and, Classical.not_not] at h46
          have hu64 := pow_64 hp3
          refine T_exit_go (fun _ _ h => h) ?_
          refine T_seq ?_
          refine T_region ?_
          refine S_ 58 rfl rfl rfl _ (y_move rfl rfl) ?_
          refine S_ 59 rfl rfl rfl _ (y_bin rfl rfl rfl (fun hg => b_subv (((65 - (acc.length + 1) : Nat) : Int)) (by omega) (by omega))) ?_
          refine S_ 13 rfl rfl rfl _ (y_assign rfl rfl) ?_
          refine S_go (fun _ _ h => h) ?_
          refine T_region ?_
          refine S_ 60 rfl rfl rfl _ (y_move rfl rfl) ?_
          refine S_ 61 rfl rfl rfl _ (y_move rfl rfl) ?_
          refine S_ 62 rfl rfl rfl _ (y_index_str (j := u) (s := digs) rfl rfl rfl Tryz.underlying9 (fun _ => Nat.lt_of_lt_of_le (show u < 16 by omega) (by decide))) ?_
          refine S_ 63 rfl rfl rfl _ (y_indexArr (j := 65 - (acc.length + 1)) rfl rfl rfl Tryz.underlying282 (by decide) sz5 (fun _ => by omega)) ?_
          refine S_store 12 rfl rfl rfl rfl rfl rfl sz5 rfl (Nat.ble_eq_true_of_le (by rw [hp4]; show 65 - (acc.length + 1) + 1 ≤ 65; omega)) ?_
          refine S_go (fun _ _ h => h) ?_
          refine T_seq ?_
          refine T_seq ?_
          refine T_region ?_
          refine S_ 89 rfl rfl rfl _ (y_move rfl rfl) ?_
          refine S_go (fun _ _ h => h) ?_
          refine T_cond rfl (fun h89 => ?_) (fun h89 => ?_)
          · skip
            cases h89
          · skip
            refine T_skip_go (fun _ _ h => h) ?_
            refine T_seq ?_
            refine T_seq ?_
            refine T_region ?_
            refine S_ 94 rfl rfl rfl _ (y_move rfl rfl) ?_
            refine S_go (fun _ _ h => h) ?_
            refine T_cond rfl (fun h94 => ?_) (fun h94 => ?_)
            · skip
              cases h94
            · skip
              refine T_skip_go (fun _ _ h => h) ?_
              refine T_seq ?_
              refine T_region ?_
              refine S_ 99 rfl rfl rfl _ (y_move rfl rfl) ?_
              refine S_ 100 rfl rfl rfl _ (y_sliceArr rfl rfl Tryz.underlying282 sz5 rfl (by omega)) ?_
              refine S_ 101 rfl rfl rfl _ (y_str_box 12 (dig u :: acc) rfl rfl rfl (by simp only [List.length_cons]; omega) (by show (spl cs (65 - (acc.length + 1)) [_]).drop _ = _; rw [spl_drop (by omega), show 65 - (acc.length + 1) + 1 = 65 - acc.length from by omega, hp5]; rfl) Tryz.underlying183 Tryz.underlying5 Tryz.underlying9) ?_
              refine S_ 11 rfl rfl rfl _ (y_assign rfl rfl) ?_
              refine S_go (fun _ _ h => h) ?_
              refine T_ret (fun a w hF hM => hRb a w (post2 rfl rfl rfl (fun w hM => ?_) a w hF hM))
              exact ⟨by rw [hp1, hexA_end (by omega)], hM.below⟩
      · skip
        cases h34
theorem hexA_len : ∀ (u : Nat) (acc : List UInt8), acc.length ≤ 15 → u < 16 ^ (16 - acc.length) → (hexA u acc).length ≤ 16 := by
  intro u
  induction u using Nat.strongRecOn with
  | ind u ih =>
    intro acc h1 h2
    by_cases h : u < 16
    · rw [hexA_end h]; simp only [List.length_cons]; omega
    · have hp := pow_16 h2 (by omega)
      rw [hexA_next h]
      exact ih (u / 16) (by omega) _ (by simp only [List.length_cons]; omega) (by rw [show 16 - (dig (u % 16) :: acc).length = 16 - acc.length - 1 from by simp only [List.length_cons]; omega]; exact hp.1)
theorem iFormatUint_any (h : Nat) (hh : h < 18446744073709551616) (w : World) (hT : TzTab w) :
    Calls Tryz.prog 204 #[.int .u64 (h : Int), .int .i64 16] w fun e w' => e = .returned (str (hexA h [])) ∧ Below w.heap.size w w' := by
  refine enter_args (args := [.int .u64 (h : Int), .int .i64 16]) (F := _) Tryz.func204 rfl Tryz.ntmps204 rfl rfl ?_
  intro Rb hRb hRn
  refine T_seq ?_
  refine T_region ?_
  refine S_ 4 rfl rfl rfl _ (y_assign rfl rfl) ?_
  refine S_go (fun _ _ h => h) ?_
  refine T_seq ?_
  refine T_seq ?_
  refine T_region ?_
  refine S_ 9 rfl rfl rfl _ (y_move rfl rfl) ?_
  refine S_ 10 rfl rfl rfl _ (y_bin rfl rfl rfl (fun _ => b_eql)) ?_
  refine S_go (fun _ _ h => h) ?_
  refine T_cond rfl (fun h10 => ?_) (fun h10 => ?_)
  · skip
    exact absurd h10 (by decide)
  · skip
    refine T_skip_go (fun _ _ h => h) ?_
    refine T_seq ?_
    refine T_region ?_
    refine S_ 26 rfl rfl rfl _ (y_move rfl rfl) ?_
    refine S_ 27 rfl rfl rfl _ (y_move rfl rfl) ?_
    refine S_ 28 rfl rfl rfl _ (y_call rfl rfl rfl cf249 (fun _ w hM => formatBits_any h hh w (hT.below hM.below))) ?_
    refine S_ 25 rfl rfl rfl _ (y_move rfl rfl) ?_
    refine S_ 29 rfl rfl rfl _ (y_extract rfl rfl rfl) ?_
    refine S_ 30 rfl rfl rfl _ (y_extract rfl rfl rfl) ?_
    refine S_ 7 rfl rfl rfl _ (y_assign rfl rfl) ?_
    refine S_ 8 rfl rfl rfl _ (y_assign rfl rfl) ?_
    refine S_go (fun _ _ h => h) ?_
    refine T_seq ?_
    refine T_region ?_
    refine S_ 31 rfl rfl rfl _ (y_move rfl rfl) ?_
    refine S_ 4 rfl rfl rfl _ (y_assign rfl rfl) ?_
    refine S_go (fun _ _ h => h) ?_
    refine T_ret (fun a w hF hM => hRb a w (post1 rfl rfl (fun w hM => ?_) a w hF hM))
    exact ⟨rfl, hM.below⟩
theorem FormatUint_any (h : Nat) (hh : h < 18446744073709551616) (w : World) (hT : TzTab w) :
    Calls Tryz.prog 158 #[.int .u64 (h : Int), .int .i64 16] w fun e w' => e = .returned (str (hexA h [])) ∧ Below w.heap.size w w' := by
  refine enter_args (args := [.int .u64 (h : Int), .int .i64 16]) (F := _) Tryz.func158 rfl Tryz.ntmps158 rfl rfl ?_
  intro Rb hRb hRn
  refine T_seq ?_
  refine T_region ?_
  refine S_ 4 rfl rfl rfl _ (y_assign rfl rfl) ?_
  refine S_go (fun _ _ h => h) ?_
  refine T_seq ?_
  refine T_region ?_
  refine S_ 5 rfl rfl rfl _ (y_move rfl rfl) ?_
  refine S_ 6 rfl rfl rfl _ (y_move rfl rfl) ?_
  refine S_ 7 rfl rfl rfl _ (y_call rfl rfl rfl cf204 (fun _ w hM => iFormatUint_any h hh w (hT.below hM.below))) ?_
  refine S_ 4 rfl rfl rfl _ (y_assign rfl rfl) ?_
  refine S_go (fun _ _ h => h) ?_
  refine T_ret (fun a w hF hM => hRb a w (post1 rfl rfl (fun w hM => ?_) a w hF hM))
  exact ⟨rfl, hM.below⟩
theorem Mul1_any (n : Nat) (hn : n < 18446744073709551616) (w : World) : Calls Tryz.prog 205 #[.int .u64 1, .int .u64 (n : Int)] w fun e w' => e = .returned (.tuple #[.int .u64 0, .int .u64 (n : Int)]) ∧ Below w.heap.size w w' :=
  (Tryz.bits_Mul 1 n (by decide) hn w).mono fun e w' h => ⟨by rw [h.1, Nat.one_mul, Nat.div_eq_of_lt hn, Nat.mod_eq_of_lt hn]; rfl, h.2 ▸ Below.refl _ _⟩
theorem HasPrefix_any (s p : List UInt8) (w : World) : Calls Tryz.prog 206 #[str s, str p] w fun e w' => e = .returned (.bool (Lib.hasPrefix s p)) ∧ Below w.heap.size w w' :=
  (Tryz.strings_HasPrefix ⟨s.toArray⟩ ⟨p.toArray⟩ w).mono fun e w' h => ⟨by rw [h.1], h.2 ▸ Below.refl _ _⟩
theorem Repeat0_any (n : Nat) (hn : n ≤ 16) (w : World) : Calls Tryz.prog 159 #[str [48], .int .i64 (n : Int)] w fun e w' => e = .returned (str (List.replicate n 48)) ∧ Below w.heap.size w w' := by
  refine enter_args (args := [str [48], .int .i64 (n : Int)]) (F := _) Tryz.func159 rfl Tryz.ntmps159 rfl rfl ?_
  intro Rb hRb hRn
  refine T_seq ?_
  refine T_region ?_
  refine S_ 4 rfl rfl rfl _ (y_assign rfl rfl) ?_
  refine S_go (fun _ _ h => h) ?_
  refine T_seq ?_
  refine T_seq ?_
  refine T_region ?_
  refine S_ 11 rfl rfl rfl _ (y_move rfl rfl) ?_
  refine S_go (fun _ _ h => h) ?_
  refine T_block ?_
  refine T_seq ?_
  refine T_region ?_
  refine S_ 13 rfl rfl rfl _ (y_bin rfl rfl rfl (fun _ => b_eql)) ?_
  refine S_ 12 rfl rfl rfl _ (y_assign rfl rfl) ?_
  refine S_go (fun _ _ h => h) ?_
  refine T_cond rfl (fun h12 => ?_) (fun h12 => ?_)
  · try simp only [decide_eq_true_eq, decide_eq_false_iff_not, Bool.or_eq_true, Bool.or_eq_false_iff, Bool.and_eq_true, Bool.and_eq_false_iff, Bool.not_eq_true', Bool.not_eq_false', Bool.not_eq_true, Bool.not_eq_false, Bool.not_true, Bool.not_false, Int.not_lt, Int.not_le, not_or, not_and, Classical.not_not] at h12
    refine T_seq ?_
    refine T_region ?_
    refine S_ 4 rfl rfl rfl _ (y_assign rfl rfl) ?_
    refine S_go (fun _ _ h => h) ?_
    refine T_ret (fun a w hF hM => hRb a w (post1 rfl rfl (fun w hM => ?_) a w hF hM))
    exact ⟨by rw [show n = 0 from by omega]; rfl, hM.below⟩
  · try simp only [decide_eq_true_eq, decide_eq_false_iff_not, Bool.or_eq_true, Bool.or_eq_false_iff, Bool.and_eq_true, Bool.and_eq_false_iff, Bool.not_eq_true', Bool.not_eq_false', Bool.not_eq_true, Bool.not_eq_false, Bool.not_true, Bool.not_false, Int.not_lt, Int.not_le, not_or, not_and, Classical.not_not] at h12
    refine T_seq ?_
    refine T_region ?_
    refine S_ 15 rfl rfl rfl _ (y_bin rfl rfl rfl (fun _ => b_eql)) ?_
    refine S_ 14 rfl rfl rfl _ (y_assign rfl rfl) ?_
    refine S_go (fun _ _ h => h) ?_
    refine T_cond rfl (fun h14 => ?_) (fun h14 => ?_)
    · try simp only [decide_eq_true_eq, decide_eq_false_iff_not, Bool.or_eq_true, Bool.or_eq_false_iff, Bool.and_eq_true, Bool.and_eq_false_iff, Bool.not_eq_true', Bool.not_eq_false', Bool.not_eq_true, Bool.not_eq_false, Bool.not_true, Bool.not_false, Int.not_lt, Int.not_le, not_or, not_and, Classical.not_not] at h14
      refine T_seq ?_
      refine T_region ?_
      refine S_ 16 rfl rfl rfl _ (y_move rfl rfl) ?_
      refine S_ 4 rfl rfl rfl _ (y_assign rfl rfl) ?_
      refine S_go (fun _ _ h => h) ?_
      refine T_ret (fun a w hF hM => hRb a w (post1 rfl rfl (fun w hM => ?_) a w hF hM))
      exact ⟨by rw [show n = 1 from by omega]; rfl, hM.below⟩
    · try simp only [decide_eq_true_eq, decide_eq_false_iff_not, Bool.or_eq_true, Bool.or_eq_false_iff, Bool.and_eq_true, Bool.and_eq_false_iff, Bool.not_eq_true', Bool.not_eq_false', Bool.not_eq_true, Bool.not_eq_false, Bool.not_true, Bool.not_false, Int.not_lt, Int.not_le, not_or, not_and, Classical.not_not] at h14
      refine T_skip_go (fun _ _ h => h) ?_
      refine T_seq ?_
      refine T_seq ?_
      refine T_region ?_
      refine S_ 17 rfl rfl rfl _ (y_move rfl rfl) ?_
      refine S_ 18 rfl rfl rfl _ (y_bin rfl rfl rfl (fun _ => b_lss)) ?_
      refine S_go (fun _ _ h => h) ?_
      refine T_cond rfl (fun h18 => ?_) (fun h18 => ?_)
      · try simp only [decide_eq_true_eq, decide_eq_false_iff_not, Bool.or_eq_true, Bool.or_eq_false_iff, Bool.and_eq_true, Bool.and_eq_false_iff, Bool.not_eq_true', Bool.not_eq_false', Bool.not_eq_true, Bool.not_eq_false, Bool.not_true, Bool.not_false, Int.not_lt, Int.not_le, not_or, not_and, Classical.not_not] at h18
        omega
      · try simp only [decide_eq_true_eq, decide_eq_false_iff_not, Bool.or_eq_true, Bool.or_eq_false_iff, Bool.and_eq_true, Bool.and_eq_false_iff, Bool.not_eq_true', Bool.not_eq_false', Bool.not_eq_true, Bool.not_eq_false, Bool.not_true, Bool.not_false, Int.not_lt, Int.not_le, not_or, not_and, Classical.not_not] at h18
        refine T_skip_go (fun _ _ h => h) ?_
        refine T_seq ?_
        refine T_region ?_
        refine S_ 21 rfl rfl rfl _ (y_move rfl rfl) ?_
        refine S_ 22 rfl rfl rfl _ (y_len_str rfl rfl Tryz.underlying9) ?_
        refine S_ 23 rfl rfl rfl _ (y_as (v' := .int .u64 1) (by exact rfl) (y_conv rfl rfl Tryz.underlying3 Tryz.underlying210)) ?_
        refine S_ 24 rfl rfl rfl _ (y_move rfl rfl) ?_
        refine S_ 25 rfl rfl rfl _ (y_as (v' := .int .u64 (n : Int)) (by rw [wrap_in .u64 _ ⟨by show (0 : Int) ≤ _; omega, by show _ ≤ (18446744073709551615 : Int); omega⟩]) (y_conv rfl rfl Tryz.underlying3 Tryz.underlying210)) ?_
        refine S_ 26 rfl rfl rfl _ (y_call rfl rfl rfl cf205 (fun _ w _ => Mul1_any n (by omega) w)) ?_
        refine S_ 20 rfl rfl rfl _ (y_move rfl rfl) ?_
        refine S_ 27 rfl rfl rfl _ (y_extract rfl rfl rfl) ?_
        refine S_ 28 rfl rfl rfl _ (y_extract rfl rfl rfl) ?_
        refine S_ 5 rfl rfl rfl _ (y_assign rfl rfl) ?_
        refine S_ 6 rfl rfl rfl _ (y_assign rfl rfl) ?_
        refine S_go (fun _ _ h => h) ?_
        refine T_seq ?_
        refine T_seq ?_
        refine T_region ?_
        refine S_ 29 rfl rfl rfl _ (y_move rfl rfl) ?_
        refine S_ 30 rfl rfl rfl _ (y_bin rfl rfl rfl (fun _ => b_gtr)) ?_
        refine S_ 31 rfl rfl rfl _ (y_move rfl rfl) ?_
        refine Sg_ 32 rfl rfl rfl rfl rfl rfl _ (y_move rfl rfl) ?_
        refine Sg_ 33 rfl rfl rfl rfl rfl rfl _ (y_bin rfl rfl rfl (fun _ => b_gtr)) ?_
        refine S_ 34 rfl rfl rfl _ (y_or rfl rfl rfl) ?_
        refine S_go (fun _ _ h => h) ?_
        refine T_cond rfl (fun h34 => ?_) (fun h34 => ?_)
        · skip
          exact absurd h34 (by simp; omega)
        · skip
          refine T_skip_go (fun _ _ h => h) ?_
          refine T_seq ?_
          refine T_region ?_
          refine S_ 36 rfl rfl rfl _ (y_move rfl rfl) ?_
          refine S_ 37 rfl rfl rfl _ (y_conv64 rfl rfl Tryz.underlying210 Tryz.underlying3 (fun _ => by omega)) ?_
          refine S_ 7 rfl rfl rfl _ (y_assign rfl rfl) ?_
          refine S_go (fun _ _ h => h) ?_
          refine T_seq ?_
          refine T_seq ?_
          refine T_region ?_
          refine S_ 38 rfl rfl rfl _ (y_move rfl rfl) ?_
          refine S_ 39 rfl rfl rfl _ (y_len_str rfl rfl Tryz.underlying9) ?_
          refine S_ 40 rfl rfl rfl _ (y_bin rfl rfl rfl (fun _ => b_eql)) ?_
          refine S_go (fun _ _ h => h) ?_
          refine T_cond rfl (fun h40 => ?_) (fun h40 => ?_)
          · skip
            exact absurd h40 (by decide)
          · skip
            refine T_skip_go (fun _ _ h => h) ?_
            refine T_seq ?_
            refine T_seq ?_
            refine T_region ?_
            refine S_ 41 rfl rfl rfl _ (y_move rfl rfl) ?_
            refine S_ 42 rfl rfl rfl _ (y_index_str (j := 0) rfl rfl rfl Tryz.underlying9 (fun _ => by decide)) ?_
            refine S_go (fun _ _ h => h) ?_
            refine T_block ?_
            refine T_seq ?_
            refine T_seq ?_
            refine T_region ?_
            refine S_ 44 rfl rfl rfl _ (y_bin rfl rfl rfl (fun _ => b_eql)) ?_
            refine S_ 43 rfl rfl rfl _ (y_assign rfl rfl) ?_
            refine S_go (fun _ _ h => h) ?_
            refine T_cond rfl (fun h43 => ?_) (fun h43 => ?_)
            · skip
              exact absurd h43 (by decide)
            · skip
              refine T_seq ?_
              refine T_region ?_
              refine S_ 45 rfl rfl rfl _ (y_bin rfl rfl rfl (fun _ => b_eql)) ?_
              refine S_ 43 rfl rfl rfl _ (y_assign rfl rfl) ?_
              refine S_go (fun _ _ h => h) ?_
              refine T_cond rfl (fun h43 => ?_) (fun h43 => ?_)
              · skip
                exact absurd h43 (by decide)
              · skip
                refine T_seq ?_
                refine T_region ?_
                refine S_ 46 rfl rfl rfl _ (y_bin rfl rfl rfl (fun _ => b_eql)) ?_
                refine S_ 43 rfl rfl rfl _ (y_assign rfl rfl) ?_
                refine S_go (fun _ _ h => h) ?_
                refine T_cond rfl (fun h43 => ?_) (fun h43 => ?_)
                · skip
                  refine T_skip_go (fun _ _ h => h) ?_
                  refine T_cond rfl (fun h43 => ?_) (fun h43 => ?_)
                  · skip
                    refine T_block ?_
                    refine T_seq ?_
                    refine T_region ?_
                    refine S_ 50 rfl rfl rfl _ (y_move rfl rfl) ?_
                    refine S_ 51 rfl rfl rfl _ (y_bin rfl rfl rfl (fun _ => b_leq)) ?_
                    refine S_ 52 rfl rfl rfl _ (y_move rfl rfl) ?_
                    refine Sg_ 53 rfl rfl rfl rfl rfl rfl _ (y_move rfl rfl) ?_
                    refine Sg_ 54 rfl rfl rfl rfl rfl rfl _ (y_call rfl rfl rfl cf206 (fun _ w _ => HasPrefix_any _ _ w)) ?_
                    refine S_ 55 rfl rfl rfl _ (y_as (v' := .bool false) (by rw [show Lib.hasPrefix _ [48] = false from by decide, Bool.and_false]) (y_and rfl rfl rfl)) ?_
                    refine S_ 49 rfl rfl rfl _ (y_assign rfl rfl) ?_
                    refine S_go (fun _ _ h => h) ?_
                    refine T_cond rfl (fun h49 => ?_) (fun h49 => ?_)
                    · skip
                      cases h49
                    · skip
                      refine T_seq ?_
                      refine T_region ?_
                      refine S_ 59 rfl rfl rfl _ (y_move rfl rfl) ?_
                      refine S_ 60 rfl rfl rfl _ (y_bin rfl rfl rfl (fun _ => b_leq)) ?_
                      refine S_ 61 rfl rfl rfl _ (y_move rfl rfl) ?_
                      refine Sg_ 62 rfl rfl rfl rfl rfl rfl _ (y_move rfl rfl) ?_
                      refine Sg_ 63 rfl rfl rfl rfl rfl rfl _ (y_call rfl rfl rfl cf206 (fun _ w _ => HasPrefix_any _ _ w)) ?_
                      refine S_ 64 rfl rfl rfl _ (y_as (v' := .bool false) (by rw [show Lib.hasPrefix _ [48] = false from by decide, Bool.and_false]) (y_and rfl rfl rfl)) ?_
                      refine S_ 58 rfl rfl rfl _ (y_assign rfl rfl) ?_
                      refine S_go (fun _ _ h => h) ?_
                      refine T_cond rfl (fun h58 => ?_) (fun h58 => ?_)
                      · skip
                        cases h58
                      · skip
                        refine T_seq ?_
                        refine T_region ?_
                        refine S_ 68 rfl rfl rfl _ (y_move rfl rfl) ?_
                        refine S_ 69 rfl rfl rfl _ (y_bin rfl rfl rfl (fun _ => b_leq)) ?_
                        refine S_ 70 rfl rfl rfl _ (y_move rfl rfl) ?_
                        refine Sg_ 71 rfl rfl rfl rfl rfl rfl _ (y_move rfl rfl) ?_
                        refine Sg_ 72 rfl rfl rfl rfl rfl rfl _ (y_call rfl rfl rfl cf206 (fun _ w _ => HasPrefix_any _ _ w)) ?_
                        refine S_ 73 rfl rfl rfl _ (y_as (v' := .bool true) (by rw [show Lib.hasPrefix _ [48] = true from by decide, Bool.and_true, decide_eq_true (by omega)]) (y_and rfl rfl rfl)) ?_
                        refine S_ 67 rfl rfl rfl _ (y_assign rfl rfl) ?_
                        refine S_go (fun _ _ h => h) ?_
                        refine T_cond rfl (fun h67 => ?_) (fun h67 => ?_)
                        · skip
                          refine T_seq ?_
                          refine T_region ?_
                          refine S_ 74 rfl rfl rfl _ (y_move rfl rfl) ?_
                          refine S_ 75 rfl rfl rfl _ (y_strTo rfl rfl rfl Tryz.underlying9 (fun _ => ⟨by omega, by show (n : Int) ≤ ((64 : Nat) : Int); omega⟩)) ?_
                          refine S_ 4 rfl rfl rfl _ (y_assign rfl rfl) ?_
                          refine S_go (fun _ _ h => h) ?_
                          refine T_ret (fun a w hF hM => hRb a w (post1 rfl rfl (fun w hM => ?_) a w hF hM))
                          exact ⟨by rw [show (List.replicate n (48 : UInt8)) = (List.replicate 64 48).take n from by rw [List.take_replicate, Nat.min_eq_left (by omega)]]; rfl, hM.below⟩
                        · skip
                          cases h67
                  · skip
                    exact absurd h43 (by decide)
                · skip
                  exact absurd h43 (by decide)
/-- the digest -/
def sumN (h : Nat) (c : UInt8) : Nat := ((h ^^^ c.toNat) * 1099511628211) % 18446744073709551616
def sumF (h : Nat) : List UInt8 → Nat
  | [] => h
  | c :: r => sumF (sumN h c) r
def sum0 : Nat := 14695981039346656037
def sumS (s : List UInt8) : List UInt8 := List.replicate (16 - (hexA (sumF sum0 s) []).length) 48 ++ hexA (sumF sum0 s) []
theorem xorN (h c : Nat) (hh : h < 18446744073709551616) (hc : c < 18446744073709551616) : bits .xor .u64 (h : Int) (c : Int) = ((h ^^^ c : Nat) : Int) := by
  have e : (BitVec.ofInt 64 (h : Int) ^^^ BitVec.ofInt 64 (c : Int)).toNat = h ^^^ c := by
    rw [BitVec.toNat_xor]
    have e1 : ∀ u : Nat, u < 18446744073709551616 → (BitVec.ofInt 64 (u : Int)).toNat = u := fun u hu => by
      rw [BitVec.ofInt_natCast, BitVec.toNat_ofNat]; exact Nat.mod_eq_of_lt hu
    rw [e1 h hh, e1 c hc]
  have e3 : bits .xor .u64 (h : Int) (c : Int) = IntKind.u64.wrap (((BitVec.ofInt 64 (h : Int) ^^^ BitVec.ofInt 64 (c : Int)).toNat : Nat) : Int) := rfl
  have hl : h ^^^ c < 2 ^ 64 := Nat.xor_lt_two_pow (by simpa using hh) (by simpa using hc)
  rw [e3, e, wrap_in .u64 _ ⟨by show (0 : Int) ≤ _; omega, by show _ ≤ (18446744073709551615 : Int); omega⟩]
theorem wrapN (a : Nat) : IntKind.u64.wrap (a : Int) = ((a % 18446744073709551616 : Nat) : Int) := by
  have e : IntKind.u64.wrap (a : Int) = (a : Int) % 18446744073709551616 := rfl
  rw [e]; omega
theorem mulN (a : Nat) : Value.int .u64 (IntKind.u64.wrap ((a : Int) * 1099511628211)) = .int .u64 ((a * 1099511628211 % 18446744073709551616 : Nat) : Int) := by
  rw [show ((a : Int) * 1099511628211) = ((a * 1099511628211 : Nat) : Int) from (Int.natCast_mul a 1099511628211).symm, wrapN]
theorem Sum_any (s : List UInt8) (hs : s.length ≤ 4611686018427387904) (w : World) (hT : TzTab w) :
    Calls Tryz.prog 74 #[str s] w fun e w' => e = .returned (str (sumS s)) ∧ Below w.heap.size w w' := by
  refine enter_args (args := [str s]) (F := _) Tryz.func74 rfl Tryz.ntmps74 rfl rfl ?_
  intro Rb hRb hRn
  refine T_seq ?_
  refine T_region ?_
  refine S_ 2 rfl rfl rfl _ (y_assign rfl rfl) ?_
  refine S_go (fun _ _ h => h) ?_
  refine T_seq ?_
  refine T_region ?_
  refine S_ 3 rfl rfl rfl _ (y_assign rfl rfl) ?_
  refine S_go (fun _ _ h => h) ?_
  refine T_seq ?_
  refine T_seq ?_
  refine T_region ?_
  refine S_ 6 rfl rfl rfl _ (y_move rfl rfl) ?_
  refine S_ 7 rfl rfl rfl _ (y_len_str rfl rfl Tryz.underlying9) ?_
  refine S_ 8 rfl rfl rfl _ (y_move rfl rfl) ?_
  refine S_go (fun _ _ h => h) ?_
  refine T_block ?_
  refine T_loopK2 (kf := [(3, 4), (8, 18)]) (kl := [(3, 4), (8, 18)]) (fun (i : Nat) (h : Nat) => [(8, true, .int .i64 (i : Int)), (3, true, .int .u64 (h : Int))]) (fun (i : Nat) (h : Nat) => []) (fun (i : Nat) (h : Nat) => i ≤ s.length ∧ sumF sum0 s = sumF h (s.drop i) ∧ h < 18446744073709551616) (fun (i : Nat) (h : Nat) => s.length - i) 0 sum0 (by repeat (first | exact kf_nil | (apply kf_in; focus rfl) | (apply kf_out; focus rfl))) (by repeat (first | exact kl_nil | exact kl_rest (by assumption) rfl | (apply kl_in; focus rfl) | (apply kl_out; focus rfl))) ?_ ?_ ?_ ?_
  · exact ⟨by omega, rfl, by decide⟩
  · exact ⟨rfl, rfl, trivial⟩
  · exact trivial
  rintro i h ⟨hp1, hp2, hp3⟩
  refine T_seq ?_
  refine T_region ?_
  refine S_ 9 rfl rfl rfl _ (y_bin rfl rfl rfl (fun _ => b_lss)) ?_
  refine S_go (fun _ _ h => h) ?_
  refine T_seq ?_
  refine T_cond rfl (fun h9 => ?_) (fun h9 => ?_)
  · try simp only [decide_eq_true_eq, decide_eq_false_iff_not, Bool.or_eq_true, Bool.or_eq_false_iff, Bool.and_eq_true, Bool.and_eq_false_iff, Bool.not_eq_true', Bool.not_eq_false', Bool.not_eq_true, Bool.not_eq_false, Bool.not_true, Bool.not_false, Int.not_lt, Int.not_le, not_or, not_and, Classical.not_not] at h9
    refine T_skip_go (fun _ _ h => h) ?_
    refine T_seq ?_
    refine T_block ?_
    refine T_seq ?_
    refine T_region ?_
    refine S_ 10 rfl rfl rfl _ (y_move rfl rfl) ?_
    refine S_ 4 rfl rfl rfl _ (y_assign rfl rfl) ?_
    refine S_go (fun _ _ h => h) ?_
    refine T_region ?_
    refine S_ 11 rfl rfl rfl _ (y_move rfl rfl) ?_
    refine S_ 12 rfl rfl rfl _ (y_move rfl rfl) ?_
    refine S_ 13 rfl rfl rfl _ (y_move rfl rfl) ?_
    refine S_ 14 rfl rfl rfl _ (y_index_str rfl rfl rfl Tryz.underlying9 (fun _ => by omega)) ?_
    refine S_ 15 rfl rfl rfl _ (y_as (v' := .int .u64 ((s.getD i 0).toNat : Int)) (by have := (s.getD i 0).toNat_lt; rw [wrap_in .u64 _ ⟨by show (0 : Int) ≤ _; omega, by show _ ≤ (18446744073709551615 : Int); omega⟩]) (y_conv rfl rfl Tryz.underlying5 Tryz.underlying192)) ?_
    refine S_ 16 rfl rfl rfl _ (y_as (v' := .int .u64 ((h ^^^ (s.getD i 0).toNat : Nat) : Int)) (by rw [xorN _ _ hp3 (by have := (s.getD i 0).toNat_lt; omega)]) (y_bin rfl rfl rfl (fun _ => b_xor))) ?_
    refine S_ 17 rfl rfl rfl _ (y_as (v' := .int .u64 ((sumN h (s.getD i 0) : Nat) : Int)) (by exact mulN _) (y_bin rfl rfl rfl (fun hg => b_mulw))) ?_
    refine S_ 3 rfl rfl rfl _ (y_assign rfl rfl) ?_
    refine S_go (fun _ _ h => h) ?_
    refine T_region ?_
    refine S_ 18 rfl rfl rfl _ (y_bin rfl rfl rfl (fun hg => b_add (by omega))) ?_
    refine S_ 8 rfl rfl rfl _ (y_move rfl rfl) ?_
    refine S_nil (nextK2 (kf := [(3, 4), (8, 18)]) (kl := [(3, 4), (8, 18)]) (i + 1) (sumN h (s.getD i 0)) (by repeat (first | exact kf_nil | (apply kf_in; focus rfl) | (apply kf_out; focus rfl))) (by repeat (first | exact kl_nil | exact kl_rest (by assumption) rfl | (apply kl_in; focus rfl) | (apply kl_out; focus rfl))) ?_ ?_ ?_ ?_)
    · omega
    · exact ⟨by omega, by rw [hp2, drop_str (by omega)]; rfl, Nat.mod_lt _ (by decide)⟩
    · exact ⟨rfl, rfl, trivial⟩
    · exact trivial
  · try simp only [decide_eq_true_eq, decide_eq_false_iff_not, Bool.or_eq_true, Bool.or_eq_false_iff, Bool.and_eq_true, Bool.and_eq_false_iff, Bool.not_eq_true', Bool.not_eq_false', Bool.not_eq_true, Bool.not_eq_false, Bool.not_true, Bool.not_false, Int.not_lt, Int.not_le, not_or, not_and, Classical.not_not] at h9
    have hl : (hexA h []).length ≤ 16 := hexA_len h [] (by decide) hp3
    have he : sumF sum0 s = h := by rw [hp2, List.drop_eq_nil_of_le (by omega)]; rfl
    refine T_exit_go (fun _ _ h => h) ?_
    refine T_seq ?_
    refine T_region ?_
    refine S_ 19 rfl rfl rfl _ (y_move rfl rfl) ?_
    refine S_ 20 rfl rfl rfl _ (y_call rfl rfl rfl cf158 (fun _ w hM => FormatUint_any h hp3 w (hT.below hM.below))) ?_
    refine S_ 5 rfl rfl rfl _ (y_assign rfl rfl) ?_
    refine S_go (fun _ _ h => h) ?_
    refine T_seq ?_
    refine T_region ?_
    refine S_ 21 rfl rfl rfl _ (y_move rfl rfl) ?_
    refine S_ 22 rfl rfl rfl _ (y_len_str rfl rfl Tryz.underlying9) ?_
    refine S_ 23 rfl rfl rfl _ (y_bin rfl rfl rfl (fun hg => b_subv (((16 - (hexA h []).length : Nat) : Int)) (by omega) (by omega))) ?_
    refine S_ 24 rfl rfl rfl _ (y_call rfl rfl rfl cf159 (fun _ w _ => Repeat0_any _ (by omega) w)) ?_
    refine S_ 25 rfl rfl rfl _ (y_move rfl rfl) ?_
    refine S_ 26 rfl rfl rfl _ (y_bin rfl rfl rfl (fun _ => b_adds (by rw [List.length_replicate]; omega))) ?_
    refine S_ 2 rfl rfl rfl _ (y_assign rfl rfl) ?_
    refine S_go (fun _ _ h => h) ?_
    refine T_ret (fun a w hF hM => hRb a w (post1 rfl rfl (fun w hM => ?_) a w hF hM))
    exact ⟨by rw [sumS, he], hM.below⟩
end Go.Proofs.YtfmbgaaonfgenaaGreatDoor
end
section
namespace Go.Proofs.YtfmbgaaonfgenaaGreatDoor
set_option linter.unusedSimpArgs false
set_option linter.unusedVariables false
set_option maxRecDepth 20000
open Go.RowKit Go.Eng
abbrev fzRow (g c : Nat) (l : List UInt8) : It := .blk g (IsFz 5 c l)
abbrev fzBox (b g q c : Nat) : It := .blk b (IsBox [selfP b, .slice (some ⟨g, 0, none⟩) q c] 226)
theorem WriteFz_any {w0 : World} {K : HL} (hK : FromK K) (b g c q : Nat) (l s : List UInt8) (hq : l.length = q) (hroom : q + s.length ≤ c) (w : World) (hM0 : Mem w0 ([(0, fzBox b g q c), (1, fzRow g c l)] ++ K) w) :
    Calls Tryz.prog 208 #[selfP b, str s] w fun e w' => ∃ _u : Unit, e = .returned (.tuple #[.int .i64 s.length, .nilIface]) ∧ True ∧ Mem w0 ([(0, fzBox b g (q + s.length) c), (1, fzRow g c (l ++ s))] ++ K) w' := by
  refine enterM_args (args := [selfP b, str s]) (F := _) hM0 Tryz.func208 rfl Tryz.ntmps208 rfl rfl ?_
  intro Rb hRb hRn
  refine T_seq ?_
  refine T_region ?_
  refine S_ 4 rfl rfl rfl _ (y_assign rfl rfl) ?_
  refine S_ 5 rfl rfl rfl _ (y_assign rfl rfl) ?_
  refine S_go (fun _ _ h => h) ?_
  refine T_seq ?_
  refine T_region ?_
  refine S_ 6 rfl rfl rfl _ (y_move rfl rfl) ?_
  refine S_callM 7 [(0, 0)] (X := Unit) rfl rfl rfl rfl rfl rfl rfl cf253 rfl (fun _ => .tuple #[]) (fun _ => True) (fun _ => [(0, fzBox b g q c)]) (fun _ => rfl) (fun _ => rfl) (fun K1 hK1 w hM => (copyCheck_any hK1 b (selfP b) _ (.inr rfl) w hM).mono fun e w1 h => ⟨(), h.1, trivial, h.2⟩) ?_
  intro _ _
  refine S_go (fun _ _ h => h) ?_
  refine T_seq ?_
  refine T_region ?_
  refine S_ 8 rfl rfl rfl _ (y_move rfl rfl) ?_
  refine S_ 9 rfl rfl rfl _ (y_move rfl rfl) ?_
  refine S_ 10 rfl rfl rfl _ (y_nilCheck rfl rfl) ?_
  refine S_ 11 rfl rfl rfl _ (y_fieldAddr rfl rfl fa226_1) ?_
  refine S_ 12 rfl rfl rfl _ (y_load 0 rfl rfl rfl rfl Tryz.underlying183 rfl) ?_
  refine S_ 13 rfl rfl rfl _ (y_move rfl rfl) ?_
  refine S_appendFz 14 1 rfl rfl rfl rfl rfl rfl rfl Tryz.underlying183 Tryz.underlying9 inf5 hq hroom ?_
  refine S_ 15 rfl rfl rfl _ (y_nilCheck rfl rfl) ?_
  refine S_ 16 rfl rfl rfl _ (y_fieldAddr rfl rfl fa226_1) ?_
  refine S_store 0 rfl rfl rfl rfl rfl rfl sz183 rfl rfl ?_
  refine S_go (fun _ _ h => h) ?_
  refine T_seq ?_
  refine T_region ?_
  refine S_ 17 rfl rfl rfl _ (y_move rfl rfl) ?_
  refine S_ 18 rfl rfl rfl _ (y_len_str rfl rfl Tryz.underlying9) ?_
  refine S_ 4 rfl rfl rfl _ (y_assign rfl rfl) ?_
  refine S_ 5 rfl rfl rfl _ (y_assign rfl rfl) ?_
  refine S_go (fun _ _ h => h) ?_
  refine T_ret (fun a w hF hM => hRb a w (post2 rfl rfl rfl (fun w hM => ?_) a w hF hM))
  exact ⟨(), rfl, trivial, hM.keep (ks := [(0, 999)]) (by repeat (first | exact kl_rest (by assumption) rfl | (apply kl_in; focus rfl))) _ ⟨rfl, rfl, trivial⟩⟩
theorem StringFz_any {w0 : World} {K : HL} (hK : FromK K) (b g c q : Nat) (l : List UInt8) (hq : l.length = q) (h0 : 0 < q) (hqc : q ≤ c) (h63 : q ≤ 9223372036854775807) (w : World) (hM0 : Mem w0 ([(0, fzBox b g q c), (1, fzRow g c l)] ++ K) w) :
    Calls Tryz.prog 210 #[selfP b] w fun e w' => ∃ _u : Unit, e = .returned (str l) ∧ True ∧ Mem w0 ([(0, fzBox b g q c), (1, fzRow g c l)] ++ K) w' := by
  refine enterM_args (args := [selfP b]) (F := _) hM0 Tryz.func210 rfl Tryz.ntmps210 rfl rfl ?_
  intro Rb hRb hRn
  refine T_seq ?_
  refine T_region ?_
  refine S_ 2 rfl rfl rfl _ (y_assign rfl rfl) ?_
  refine S_go (fun _ _ h => h) ?_
  refine T_seq ?_
  refine T_tail 10 (by kernel_rfl) (by kernel_rfl) ?_
  refine E_ 3 rfl rfl rfl _ (z_move rfl rfl) ?_
  refine E_ 4 rfl rfl rfl _ (z_nilCheck rfl rfl) ?_
  refine E_ 5 rfl rfl rfl _ (z_fieldAddr rfl rfl fa226_1) ?_
  refine E_ 6 rfl rfl rfl _ (z_load 0 rfl rfl rfl rfl Tryz.underlying183 rfl) ?_
  refine E_ 7 rfl rfl rfl _ (z_sliceData rfl rfl (.inr (by omega))) ?_
  refine E_ 8 rfl rfl rfl _ (z_move rfl rfl) ?_
  refine E_ 9 rfl rfl rfl _ (z_nilCheck rfl rfl) ?_
  refine E_ 10 rfl rfl rfl _ (z_fieldAddr rfl rfl fa226_1) ?_
  refine E_ 11 rfl rfl rfl _ (z_load 0 rfl rfl rfl rfl Tryz.underlying183 rfl) ?_
  refine E_ 12 rfl rfl rfl _ (z_len rfl rfl Tryz.underlying183) ?_
  refine E_nil ?_
  refine S_unsafeStringFz 13 1 rfl rfl rfl rfl rfl rfl rfl hq h0 h63 Tryz.underlying263 co5 ?_
  refine S_ 2 rfl rfl rfl _ (y_assign rfl rfl) ?_
  refine S_go (fun _ _ h => h) ?_
  refine T_ret (fun a w hF hM => hRb a w (post1 rfl rfl (fun w hM => ?_) a w hF hM))
  exact ⟨(), rfl, trivial, hM.keep (ks := [(0, 999)]) (by repeat (first | exact kl_rest (by assumption) rfl | (apply kl_in; focus rfl))) _ ⟨rfl, rfl, trivial⟩⟩
theorem GrowFz_any {w0 : World} (b n : Nat) (hn : n ≤ 1000000) (h1 : 1 ≤ n) (w : World) (hM0 : Mem w0 [(9, .blk b (IsBox [.pointer none, .slice none 0 0] 226))] w) :
    Calls Tryz.prog 207 #[selfP b, .int .i64 (n : Int)] w fun e w' => ∃ x : Nat × Nat, e = .returned (.tuple #[]) ∧ n ≤ x.2 ∧ Mem w0 [(9, fzBox b x.1 0 x.2), (908, fzRow x.1 x.2 [])] w' := by
  obtain ⟨hb, ob, h2, h3⟩ := hM0.sat 9 _ rfl
  unfold IsBox at h3
  subst h3
  refine (Tryz.Builder_Grow_fresh_cap w0.heap.size b n w hb h2 hM0.size (by omega)).mono ?_
  rintro e w' ⟨he, ⟨⟨_, v, hv, hown, hne⟩, hbel⟩, p, cap, hc, hcap⟩
  have hvc : v = .slice p 0 cap := by
    simp [World.cell?, hv] at hc
    exact hc
  subst hvc
  rcases hown.2 with ⟨h, _⟩ | ⟨g, cap', cur, hs, hg0, hg, _, _, hcs, _⟩
  · have : cap = 0 := by injection h
    omega
  · have hp : p = some ⟨g, 0, none⟩ := by injection hs
    have hcc : cap = cap' := by injection hs
    subst hp; subst hcc
    have hgb : g ≠ b := fun e => hne (by rw [e]; rfl)
    refine ⟨(g, cap), he, hcap, ⟨hM0.below.trans hbel, fun i p hp => ?_, fun i j p q hij hp hq k hk hk2 => ?_⟩⟩
    · rcases HL.get_cons hp with ⟨rfl, rfl⟩ | ⟨_, h⟩
      · exact ⟨hb, _, hv, rfl⟩
      · rcases HL.get_cons h with ⟨rfl, rfl⟩ | ⟨_, h⟩
        · exact ⟨hg0, _, hg, cur, _, rfl, by simpa using hcs, Nat.zero_le _, rfl, Nat.le_refl _⟩
        · cases h
    · rcases HL.get_cons hp with ⟨rfl, rfl⟩ | ⟨_, h⟩ <;> rcases HL.get_cons hq with ⟨rfl, rfl⟩ | ⟨_, h'⟩
      · exact hij rfl
      · rcases HL.get_cons h' with ⟨rfl, rfl⟩ | ⟨_, h'⟩
        · have e1 : b = k := hk
          have e2 : g = k := hk2
          exact hgb (e2.trans e1.symm)
        · cases h'
      · rcases HL.get_cons h with ⟨rfl, rfl⟩ | ⟨_, h⟩
        · have e1 : g = k := hk
          have e2 : b = k := hk2
          exact hgb (e1.trans e2.symm)
        · cases h
      · rcases HL.get_cons h with ⟨rfl, rfl⟩ | ⟨_, h⟩ <;> rcases HL.get_cons h' with ⟨rfl, rfl⟩ | ⟨_, h'⟩
        · exact hij rfl
        · cases h'
        · cases h
        · cases h
abbrev stars (k : Nat) : List UInt8 := List.replicate k 42
theorem stars_take {m k : Nat} (h : m ≤ k) : str ((stars k).take m) = str (stars m) := by rw [stars, List.take_replicate, Nat.min_eq_left h]
theorem WriteStars_any {w0 : World} {K : HL} (hK : FromK K) (b g c k m : Nat) (hroom : k + m ≤ c) (w : World) (hM0 : Mem w0 ([(0, fzBox b g k c), (1, fzRow g c (stars k))] ++ K) w) :
    Calls Tryz.prog 208 #[selfP b, str (stars m)] w fun e w' => ∃ _u : Unit, e = .returned (.tuple #[.int .i64 (m : Nat), .nilIface]) ∧ True ∧ Mem w0 ([(0, fzBox b g (k + m) c), (1, fzRow g c (stars (k + m)))] ++ K) w' := by
  have h := WriteFz_any hK b g c k (stars k) (stars m) (List.length_replicate ..) (by rw [List.length_replicate]; exact hroom) w hM0
  rw [show stars k ++ stars m = stars (k + m) from List.replicate_append_replicate, show (stars m).length = m from List.length_replicate] at h
  exact h
theorem RepeatS_any (n : Nat) (hn : n ≤ 5000) (w : World) : Calls Tryz.prog 159 #[str [42], .int .i64 (n : Int)] w fun e w' => e = .returned (str (stars n)) ∧ Below w.heap.size w w' := by
  refine enter_args (args := [str [42], .int .i64 (n : Int)]) (F := _) Tryz.func159 rfl Tryz.ntmps159 rfl rfl ?_
  intro Rb hRb hRn
  refine T_seq ?_
  refine T_region ?_
  refine S_ 4 rfl rfl rfl _ (y_assign rfl rfl) ?_
  refine S_go (fun _ _ h => h) ?_
  refine T_seq ?_
  refine T_seq ?_
  refine T_region ?_
  refine S_ 11 rfl rfl rfl _ (y_move rfl rfl) ?_
  refine S_go (fun _ _ h => h) ?_
  refine T_block ?_
  refine T_seq ?_
  refine T_region ?_
  refine S_ 13 rfl rfl rfl _ (y_bin rfl rfl rfl (fun _ => b_eql)) ?_
  refine S_ 12 rfl rfl rfl _ (y_assign rfl rfl) ?_
  refine S_go (fun _ _ h => h) ?_
  refine T_cond rfl (fun h12 => ?_) (fun h12 => ?_)
  · try simp only [decide_eq_true_eq, decide_eq_false_iff_not, Bool.or_eq_true, Bool.or_eq_false_iff, Bool.and_eq_true, Bool.and_eq_false_iff, Bool.not_eq_true', Bool.not_eq_false', Bool.not_eq_true, Bool.not_eq_false, Bool.not_true, Bool.not_false, Int.not_lt, Int.not_le, not_or, not_and, Classical.not_not] at h12
    refine T_seq ?_
    refine T_region ?_
    refine S_ 4 rfl rfl rfl _ (y_assign rfl rfl) ?_
    refine S_go (fun _ _ h => h) ?_
    refine T_ret (fun a w hF hM => hRb a w (post1 rfl rfl (fun w hM => ?_) a w hF hM))
    exact ⟨by rw [show n = 0 from by omega]; rfl, hM.below⟩
  · try simp only [decide_eq_true_eq, decide_eq_false_iff_not, Bool.or_eq_true, Bool.or_eq_false_iff, Bool.and_eq_true, Bool.and_eq_false_iff, Bool.not_eq_true', Bool.not_eq_false', Bool.not_eq_true, Bool.not_eq_false, Bool.not_true, Bool.not_false, Int.not_lt, Int.not_le, not_or, not_and, Classical.not_not] at h12
    refine T_seq ?_
    refine T_region ?_
    refine S_ 15 rfl rfl rfl _ (y_bin rfl rfl rfl (fun _ => b_eql)) ?_
    refine S_ 14 rfl rfl rfl _ (y_assign rfl rfl) ?_
    refine S_go (fun _ _ h => h) ?_
    refine T_cond rfl (fun h14 => ?_) (fun h14 => ?_)
    · try simp only [decide_eq_true_eq, decide_eq_false_iff_not, Bool.or_eq_true, Bool.or_eq_false_iff, Bool.and_eq_true, Bool.and_eq_false_iff, Bool.not_eq_true', Bool.not_eq_false', Bool.not_eq_true, Bool.not_eq_false, Bool.not_true, Bool.not_false, Int.not_lt, Int.not_le, not_or, not_and, Classical.not_not] at h14
      refine T_seq ?_
      refine T_region ?_
      refine S_ 16 rfl rfl rfl _ (y_move rfl rfl) ?_
      refine S_ 4 rfl rfl rfl _ (y_assign rfl rfl) ?_
      refine S_go (fun _ _ h => h) ?_
      refine T_ret (fun a w hF hM => hRb a w (post1 rfl rfl (fun w hM => ?_) a w hF hM))
      exact ⟨by rw [show n = 1 from by omega]; rfl, hM.below⟩
    · try simp only [decide_eq_true_eq, decide_eq_false_iff_not, Bool.or_eq_true, Bool.or_eq_false_iff, Bool.and_eq_true, Bool.and_eq_false_iff, Bool.not_eq_true', Bool.not_eq_false', Bool.not_eq_true, Bool.not_eq_false, Bool.not_true, Bool.not_false, Int.not_lt, Int.not_le, not_or, not_and, Classical.not_not] at h14
      refine T_skip_go (fun _ _ h => h) ?_
      refine T_seq ?_
      refine T_seq ?_
      refine T_region ?_
      refine S_ 17 rfl rfl rfl _ (y_move rfl rfl) ?_
      refine S_ 18 rfl rfl rfl _ (y_bin rfl rfl rfl (fun _ => b_lss)) ?_
      refine S_go (fun _ _ h => h) ?_
      refine T_cond rfl (fun h18 => ?_) (fun h18 => ?_)
      · try simp only [decide_eq_true_eq, decide_eq_false_iff_not, Bool.or_eq_true, Bool.or_eq_false_iff, Bool.and_eq_true, Bool.and_eq_false_iff, Bool.not_eq_true', Bool.not_eq_false', Bool.not_eq_true, Bool.not_eq_false, Bool.not_true, Bool.not_false, Int.not_lt, Int.not_le, not_or, not_and, Classical.not_not] at h18
        omega
      · try simp only [decide_eq_true_eq, decide_eq_false_iff_not, Bool.or_eq_true, Bool.or_eq_false_iff, Bool.and_eq_true, Bool.and_eq_false_iff, Bool.not_eq_true', Bool.not_eq_false', Bool.not_eq_true, Bool.not_eq_false, Bool.not_true, Bool.not_false, Int.not_lt, Int.not_le, not_or, not_and, Classical.not_not] at h18
        refine T_skip_go (fun _ _ h => h) ?_
        refine T_seq ?_
        refine T_region ?_
        refine S_ 21 rfl rfl rfl _ (y_move rfl rfl) ?_
        refine S_ 22 rfl rfl rfl _ (y_len_str rfl rfl Tryz.underlying9) ?_
        refine S_ 23 rfl rfl rfl _ (y_as (v' := .int .u64 1) (by exact rfl) (y_conv rfl rfl Tryz.underlying3 Tryz.underlying210)) ?_
        refine S_ 24 rfl rfl rfl _ (y_move rfl rfl) ?_
        refine S_ 25 rfl rfl rfl _ (y_as (v' := .int .u64 (n : Int)) (by rw [wrap_in .u64 _ ⟨by show (0 : Int) ≤ _; omega, by show _ ≤ (18446744073709551615 : Int); omega⟩]) (y_conv rfl rfl Tryz.underlying3 Tryz.underlying210)) ?_
        refine S_ 26 rfl rfl rfl _ (y_call rfl rfl rfl cf205 (fun _ w _ => Mul1_any n (by omega) w)) ?_
        refine S_ 20 rfl rfl rfl _ (y_move rfl rfl) ?_
        refine S_ 27 rfl rfl rfl _ (y_extract rfl rfl rfl) ?_
        refine S_ 28 rfl rfl rfl _ (y_extract rfl rfl rfl) ?_
        refine S_ 5 rfl rfl rfl _ (y_assign rfl rfl) ?_
        refine S_ 6 rfl rfl rfl _ (y_assign rfl rfl) ?_
        refine S_go (fun _ _ h => h) ?_
        refine T_seq ?_
        refine T_seq ?_
        refine T_region ?_
        refine S_ 29 rfl rfl rfl _ (y_move rfl rfl) ?_
        refine S_ 30 rfl rfl rfl _ (y_bin rfl rfl rfl (fun _ => b_gtr)) ?_
        refine S_ 31 rfl rfl rfl _ (y_move rfl rfl) ?_
        refine Sg_ 32 rfl rfl rfl rfl rfl rfl _ (y_move rfl rfl) ?_
        refine Sg_ 33 rfl rfl rfl rfl rfl rfl _ (y_bin rfl rfl rfl (fun _ => b_gtr)) ?_
        refine S_ 34 rfl rfl rfl _ (y_or rfl rfl rfl) ?_
        refine S_go (fun _ _ h => h) ?_
        refine T_cond rfl (fun h34 => ?_) (fun h34 => ?_)
        · skip
          exact absurd h34 (by simp; omega)
        · skip
          refine T_skip_go (fun _ _ h => h) ?_
          refine T_seq ?_
          refine T_region ?_
          refine S_ 36 rfl rfl rfl _ (y_move rfl rfl) ?_
          refine S_ 37 rfl rfl rfl _ (y_conv64 rfl rfl Tryz.underlying210 Tryz.underlying3 (fun _ => by omega)) ?_
          refine S_ 7 rfl rfl rfl _ (y_assign rfl rfl) ?_
          refine S_go (fun _ _ h => h) ?_
          refine T_seq ?_
          refine T_seq ?_
          refine T_region ?_
          refine S_ 38 rfl rfl rfl _ (y_move rfl rfl) ?_
          refine S_ 39 rfl rfl rfl _ (y_len_str rfl rfl Tryz.underlying9) ?_
          refine S_ 40 rfl rfl rfl _ (y_bin rfl rfl rfl (fun _ => b_eql)) ?_
          refine S_go (fun _ _ h => h) ?_
          refine T_cond rfl (fun h40 => ?_) (fun h40 => ?_)
          · skip
            exact absurd h40 (by decide)
          · skip
            refine T_skip_go (fun _ _ h => h) ?_
            refine T_seq ?_
            refine T_seq ?_
            refine T_region ?_
            refine S_ 41 rfl rfl rfl _ (y_move rfl rfl) ?_
            refine S_ 42 rfl rfl rfl _ (y_index_str (j := 0) rfl rfl rfl Tryz.underlying9 (fun _ => by decide)) ?_
            refine S_go (fun _ _ h => h) ?_
            refine T_block ?_
            refine T_seq ?_
            refine T_seq ?_
            refine T_region ?_
            refine S_ 44 rfl rfl rfl _ (y_bin rfl rfl rfl (fun _ => b_eql)) ?_
            refine S_ 43 rfl rfl rfl _ (y_assign rfl rfl) ?_
            refine S_go (fun _ _ h => h) ?_
            refine T_cond rfl (fun h43 => ?_) (fun h43 => ?_)
            · skip
              exact absurd h43 (by decide)
            · skip
              refine T_seq ?_
              refine T_region ?_
              refine S_ 45 rfl rfl rfl _ (y_bin rfl rfl rfl (fun _ => b_eql)) ?_
              refine S_ 43 rfl rfl rfl _ (y_assign rfl rfl) ?_
              refine S_go (fun _ _ h => h) ?_
              refine T_cond rfl (fun h43 => ?_) (fun h43 => ?_)
              · skip
                exact absurd h43 (by decide)
              · skip
                refine T_seq ?_
                refine T_region ?_
                refine S_ 46 rfl rfl rfl _ (y_bin rfl rfl rfl (fun _ => b_eql)) ?_
                refine S_ 43 rfl rfl rfl _ (y_assign rfl rfl) ?_
                refine S_go (fun _ _ h => h) ?_
                refine T_cond rfl (fun h43 => ?_) (fun h43 => ?_)
                · skip
                  exact absurd h43 (by decide)
                · skip
                  refine T_seq ?_
                  refine T_region ?_
                  refine S_ 47 rfl rfl rfl _ (y_bin rfl rfl rfl (fun _ => b_eql)) ?_
                  refine S_ 43 rfl rfl rfl _ (y_assign rfl rfl) ?_
                  refine S_go (fun _ _ h => h) ?_
                  refine T_cond rfl (fun h43 => ?_) (fun h43 => ?_)
                  · skip
                    exact absurd h43 (by decide)
                  · skip
                    refine T_region ?_
                    refine S_ 48 rfl rfl rfl _ (y_bin rfl rfl rfl (fun _ => b_eql)) ?_
                    refine S_ 43 rfl rfl rfl _ (y_assign rfl rfl) ?_
                    refine S_go (fun _ _ h => h) ?_
                    refine T_cond rfl (fun h43 => ?_) (fun h43 => ?_)
                    · skip
                      exact absurd h43 (by decide)
                    · skip
                      refine T_skip_go (fun _ _ h => h) ?_
                      refine T_seq ?_
                      refine T_region ?_
                      refine S_ 94 rfl rfl rfl _ (y_move rfl rfl) ?_
                      refine S_ 8 rfl rfl rfl _ (y_assign rfl rfl) ?_
                      refine S_go (fun _ _ h => h) ?_
                      refine T_seq ?_
                      refine T_seq ?_
                      refine T_region ?_
                      refine S_ 95 rfl rfl rfl _ (y_move rfl rfl) ?_
                      refine S_ 96 rfl rfl rfl _ (y_bin rfl rfl rfl (fun _ => b_gtr)) ?_
                      refine S_go (fun _ _ h => h) ?_
                      refine T_cond rfl (fun h96 => ?_) (fun h96 => ?_)
                      · try simp only [decide_eq_true_eq, decide_eq_false_iff_not, Bool.or_eq_true, Bool.or_eq_false_iff, Bool.and_eq_true, Bool.and_eq_false_iff, Bool.not_eq_true', Bool.not_eq_false', Bool.not_eq_true, Bool.not_eq_false, Bool.not_true, Bool.not_false, Int.not_lt, Int.not_le, not_or, not_and, Classical.not_not] at h96
                        omega
                      · try simp only [decide_eq_true_eq, decide_eq_false_iff_not, Bool.or_eq_true, Bool.or_eq_false_iff, Bool.and_eq_true, Bool.and_eq_false_iff, Bool.not_eq_true', Bool.not_eq_false', Bool.not_eq_true, Bool.not_eq_false, Bool.not_true, Bool.not_false, Int.not_lt, Int.not_le, not_or, not_and, Classical.not_not] at h96
                        refine T_skip_go (fun _ _ h => h) ?_
                        refine T_seq ?_
                        refine T_region ?_
                        refine S_alloc 9 9 rfl rfl rfl rfl z226 ?_
                        intro b9
                        refine S_go (fun _ _ h => h) ?_
                        refine T_seq ?_
                        refine T_region ?_
                        refine S_ 107 rfl rfl rfl _ (y_move rfl rfl) ?_
                        refine S_call 108 (X := Nat × Nat) rfl rfl rfl rfl rfl rfl rfl cf207 (fun _ => .tuple #[]) (fun x => n ≤ x.2) (fun x => [(9, fzBox b9 x.1 0 x.2), (908, fzRow x.1 x.2 [])]) (fun w1 hM => GrowFz_any b9 n (by omega) (by omega) w1 hM) ?_
                        intro x108 hx108
                        refine S_go (fun _ _ h => h) ?_
                        refine T_seq ?_
                        refine T_region ?_
                        refine S_ 109 rfl rfl rfl _ (y_move rfl rfl) ?_
                        refine S_callM 110 [(0, 9), (1, 908)] (X := Unit) rfl rfl rfl rfl rfl rfl rfl cf208 rfl (fun _ => .tuple #[.int .i64 1, .nilIface]) (fun _ => True) (fun _ => [(0, fzBox b9 x108.1 1 x108.2), (1, fzRow x108.1 x108.2 [42])]) (fun _ => rfl) (fun _ => rfl) (fun K1 hK1 w hM => WriteFz_any hK1 b9 x108.1 x108.2 0 [] [42] rfl (by show 0 + 1 ≤ _; omega) w hM) ?_
                        intro _ _
                        refine S_go (fun _ _ h => h) ?_
                        refine T_seq ?_
                        refine T_block ?_
                        refine T_loopK1 (kf := [(10, 10), (111, 123)]) (kl := [(9, 10), (111, 123), (908, 908)]) (fun (k : Nat) => []) (fun (k : Nat) => [(9, fzBox b9 x108.1 k x108.2), (908, fzRow x108.1 x108.2 (stars k))]) (fun (k : Nat) => 1 ≤ k ∧ k ≤ n) (fun (k : Nat) => n - k) 1 (by repeat (first | exact kf_nil | (apply kf_in; focus rfl) | (apply kf_out; focus rfl))) (by repeat (first | exact kl_nil | exact kl_rest (by assumption) rfl | (apply kl_in; focus rfl) | (apply kl_out; focus rfl))) ?_ ?_ ?_ ?_
                        · exact ⟨by omega, by omega⟩
                        · exact trivial
                        · exact ⟨rfl, rfl, trivial⟩
                        rintro k ⟨hp1, hp2⟩
                        refine T_seq ?_
                        refine T_seq ?_
                        refine T_region ?_
                        refine S_ 111 rfl rfl rfl _ (y_call rfl rfl rfl cf209 (fun w1 w2 hM => BLen_any b9 (some ⟨x108.1, 0, none⟩) k x108.2 w2 (hM.box_cell (i := 9) (off := 1) rfl rfl))) ?_
                        refine S_ 112 rfl rfl rfl _ (y_move rfl rfl) ?_
                        refine S_ 113 rfl rfl rfl _ (y_bin rfl rfl rfl (fun _ => b_lss)) ?_
                        refine S_go (fun _ _ h => h) ?_
                        refine T_cond rfl (fun h113 => ?_) (fun h113 => ?_)
                        · try simp only [decide_eq_true_eq, decide_eq_false_iff_not, Bool.or_eq_true, Bool.or_eq_false_iff, Bool.and_eq_true, Bool.and_eq_false_iff, Bool.not_eq_true', Bool.not_eq_false', Bool.not_eq_true, Bool.not_eq_false, Bool.not_true, Bool.not_false, Int.not_lt, Int.not_le, not_or, not_and, Classical.not_not] at h113
                          refine T_skip_go (fun _ _ h => h) ?_
                          refine T_block ?_
                          refine T_seq ?_
                          refine T_region ?_
                          refine S_ 114 rfl rfl rfl _ (y_move rfl rfl) ?_
                          refine S_ 115 rfl rfl rfl _ (y_call rfl rfl rfl cf209 (fun w1 w2 hM => BLen_any b9 (some ⟨x108.1, 0, none⟩) k x108.2 w2 (hM.box_cell (i := 9) (off := 1) rfl rfl))) ?_
                          refine S_ 116 rfl rfl rfl _ (y_bin rfl rfl rfl (fun hg => b_subv (((n - k : Nat) : Int)) (by omega) (by omega))) ?_
                          refine S_ 117 rfl rfl rfl _ (y_call rfl rfl rfl cf209 (fun w1 w2 hM => BLen_any b9 (some ⟨x108.1, 0, none⟩) k x108.2 w2 (hM.box_cell (i := 9) (off := 1) rfl rfl))) ?_
                          refine S_ 118 rfl rfl rfl _ (y_move rfl rfl) ?_
                          refine S_ 119 rfl rfl rfl _ (y_as (v' := .int .i64 ((min (n - k) k : Nat) : Int)) (by congr 1; split <;> split <;> omega) (y_min3 rfl rfl rfl rfl)) ?_
                          refine S_ 10 rfl rfl rfl _ (y_assign rfl rfl) ?_
                          refine S_go (fun _ _ h => h) ?_
                          refine T_region ?_
                          refine S_callM 120 [(0, 9), (1, 908)] (X := Unit) rfl rfl rfl rfl rfl rfl rfl cf210 rfl (fun _ => str (stars k)) (fun _ => True) (fun _ => [(0, fzBox b9 x108.1 k x108.2), (1, fzRow x108.1 x108.2 (stars k))]) (fun _ => rfl) (fun _ => rfl) (fun K1 hK1 w hM => StringFz_any hK1 b9 x108.1 x108.2 k (stars k) (List.length_replicate ..) (by omega) (by omega) (by omega) w hM) ?_
                          intro _ _
                          refine S_ 121 rfl rfl rfl _ (y_move rfl rfl) ?_
                          refine S_ 122 rfl rfl rfl _ (y_as (v' := str (stars (min (n - k) k))) (by exact stars_take (Nat.min_le_right _ _)) (y_strTo rfl rfl rfl Tryz.underlying9 (fun _ => ⟨by omega, by show ((min (n - k) k : Nat) : Int) ≤ ((stars k).length : Nat); rw [List.length_replicate]; omega⟩))) ?_
                          refine S_callM 123 [(0, 9), (1, 908)] (X := Unit) rfl rfl rfl rfl rfl rfl rfl cf208 rfl (fun _ => .tuple #[.int .i64 (min (n - k) k : Nat), .nilIface]) (fun _ => True) (fun _ => [(0, fzBox b9 x108.1 (k + min (n - k) k) x108.2), (1, fzRow x108.1 x108.2 (stars (k + min (n - k) k)))]) (fun _ => rfl) (fun _ => rfl) (fun K1 hK1 w hM => WriteStars_any hK1 b9 x108.1 x108.2 k (min (n - k) k) (by omega) w hM) ?_
                          intro _ _
                          refine S_nil (nextK1 (kf := [(10, 10), (111, 123)]) (kl := [(9, 10), (111, 123), (908, 908)]) (k + min (n - k) k) (by repeat (first | exact kf_nil | (apply kf_in; focus rfl) | (apply kf_out; focus rfl))) (by repeat (first | exact kl_nil | exact kl_rest (by assumption) rfl | (apply kl_in; focus rfl) | (apply kl_out; focus rfl))) ?_ ?_ ?_ ?_)
                          · omega
                          · exact ⟨by omega, by omega⟩
                          · exact trivial
                          · exact ⟨rfl, rfl, trivial⟩
                        · try simp only [decide_eq_true_eq, decide_eq_false_iff_not, Bool.or_eq_true, Bool.or_eq_false_iff, Bool.and_eq_true, Bool.and_eq_false_iff, Bool.not_eq_true', Bool.not_eq_false', Bool.not_eq_true, Bool.not_eq_false, Bool.not_true, Bool.not_false, Int.not_lt, Int.not_le, not_or, not_and, Classical.not_not] at h113
                          refine T_exit_go (fun _ _ h => h) ?_
                          refine T_seq ?_
                          refine T_region ?_
                          refine S_callM 124 [(0, 9), (1, 908)] (X := Unit) rfl rfl rfl rfl rfl rfl rfl cf210 rfl (fun _ => str (stars k)) (fun _ => True) (fun _ => [(0, fzBox b9 x108.1 k x108.2), (1, fzRow x108.1 x108.2 (stars k))]) (fun _ => rfl) (fun _ => rfl) (fun K1 hK1 w hM => StringFz_any hK1 b9 x108.1 x108.2 k (stars k) (List.length_replicate ..) (by omega) (by omega) (by omega) w hM) ?_
                          intro _ _
                          refine S_ 4 rfl rfl rfl _ (y_assign rfl rfl) ?_
                          refine S_go (fun _ _ h => h) ?_
                          refine T_ret (fun a w hF hM => hRb a w (post1 rfl rfl (fun w hM => ?_) a w hF hM))
                          exact ⟨by rw [show k = n from by omega], hM.below⟩
end Go.Proofs.YtfmbgaaonfgenaaGreatDoor
end
section
namespace Go.Proofs.YtfmbgaaonfgenaaGreatDoor
set_option linter.unusedSimpArgs false
set_option linter.unusedVariables false
set_option maxRecDepth 20000
open Go.RowKit Go.Eng
theorem mails_any (s : List UInt8) (hs : s.length ≤ 1000000) (w : World) :
    Calls Tryz.prog 168 #[str s] w fun e w' => ∃ A c, e = .returned (.slice A (mailsF malM s).length c) ∧ ownSp w.heap.size w' A c (mailsF malM s) ∧ Below w.heap.size w w' := by
  obtain ⟨al, hal⟩ : ∃ al, al = rowsF malM s s.length 0 := ⟨_, rfl⟩
  have hlen : al.length ≤ s.length := by rw [hal]; exact rowsF_len malM s s.length 0
  have hin : ∀ x ∈ al, x.1 < x.2 ∧ x.2 ≤ s.length := fun x hx => by rw [hal] at hx; have := rowsF_is s.length 0 (by omega) x hx; exact ⟨this.2.1, this.2.2.1⟩
  have hmf : mailsF malM s = mailG s al := by rw [hal]; rfl
  refine enter_args (args := [str s]) (F := _) Tryz.func168 rfl Tryz.ntmps168 rfl rfl ?_
  intro Rb hRb hRn
  refine T_seq ?_
  refine T_region ?_
  refine S_nilSlice 2 (e := 199) (size := 2) ?_
  refine S_ 2 rfl rfl rfl _ (y_assign rfl rfl) ?_
  refine S_go (fun _ _ h => h) ?_
  refine T_seq ?_
  refine T_region ?_
  refine S_nilSlice 903 (e := 199) (size := 2) ?_
  refine S_nilSlice 3 (e := 199) (size := 2) ?_
  refine S_ 3 rfl rfl rfl _ (y_assign rfl rfl) ?_
  refine S_go (fun _ _ h => h) ?_
  refine T_seq ?_
  refine T_region ?_
  refine S_ 8 rfl rfl rfl _ (y_move rfl rfl) ?_
  refine S_callOwn 9 9 rfl rfl rfl rfl rfl rfl rfl cf164 (fun A c => .slice A (al.length) c) 199 2 (al.length) (al.flatMap spE) (fun w1 hM => by rw [hal]; exact rows_any s hs 215 malM cf215 isMal_any w1) ?_
  intro A9 c9
  refine S_ 4 rfl rfl rfl _ (y_assign rfl rfl) ?_
  refine S_go (fun _ _ h => h) ?_
  refine T_seq ?_
  refine T_seq ?_
  refine T_region ?_
  refine S_ 5 rfl rfl rfl _ (y_assign rfl rfl) ?_
  refine S_go (fun _ _ h => h) ?_
  refine T_block ?_
  refine T_loopK4 (kf := [(3, 3), (5, 7), (10, 48)]) (kl := [(3, 3), (5, 7), (10, 48), (903, 903)]) (fun (i : Nat) (A : Option Addr) (c : Nat) (out : List Sp) => [(5, true, .int .i64 (i : Int)), (3, true, .slice A out.length c)]) (fun (i : Nat) (A : Option Addr) (c : Nat) (out : List Sp) => [(903, .own 199 2 (.slice A out.length c) out.length (out.flatMap spE))]) (fun (i : Nat) (A : Option Addr) (c : Nat) (out : List Sp) => i ≤ al.length + 1 ∧ mailG s al = out ++ mailG s (al.drop i) ∧ out.length ≤ i) (fun (i : Nat) (A : Option Addr) (c : Nat) (out : List Sp) => al.length + 1 - i) 0 none 0 [] (by repeat (first | exact kf_nil | (apply kf_in; focus rfl) | (apply kf_out; focus rfl))) (by repeat (first | exact kl_nil | exact kl_rest (by assumption) rfl | (apply kl_in; focus rfl) | (apply kl_out; focus rfl))) ?_ ?_ ?_ ?_
  · exact ⟨by omega, rfl, Nat.le_refl _⟩
  · exact ⟨rfl, rfl, trivial⟩
  · exact ⟨rfl, trivial⟩
  rintro i A c out ⟨hp1, hp2, hp3⟩
  refine T_seq ?_
  refine T_seq ?_
  refine T_region ?_
  refine S_ 10 rfl rfl rfl _ (y_move rfl rfl) ?_
  refine S_ 11 rfl rfl rfl _ (y_bin rfl rfl rfl (fun hg => b_add (by omega))) ?_
  refine S_ 12 rfl rfl rfl _ (y_move rfl rfl) ?_
  refine S_ 13 rfl rfl rfl _ (y_len_slice rfl rfl Tryz.underlying196) ?_
  refine S_ 14 rfl rfl rfl _ (y_bin rfl rfl rfl (fun _ => b_lss)) ?_
  refine S_go (fun _ _ h => h) ?_
  refine T_cond rfl (fun h14 => ?_) (fun h14 => ?_)
  · try simp only [decide_eq_true_eq, decide_eq_false_iff_not, Bool.or_eq_true, Bool.or_eq_false_iff, Bool.and_eq_true, Bool.and_eq_false_iff, Bool.not_eq_true', Bool.not_eq_false', Bool.not_eq_true, Bool.not_eq_false, Bool.not_true, Bool.not_false, Int.not_lt, Int.not_le, not_or, not_and, Classical.not_not] at h14
    obtain ⟨x, hx1, hx2⟩ := at_ltP (l := al) (i := i) (by omega)
    obtain ⟨y, hy1, hy2⟩ := at_ltP (l := al) (i := i + 1) (by omega)
    have hix := hin x (List.mem_of_getElem? hx1)
    have hiy := hin y (List.mem_of_getElem? hy1)
    refine T_skip_go (fun _ _ h => h) ?_
    refine T_seq ?_
    refine T_block ?_
    refine T_seq ?_
    refine T_cut1 (fun b : Nat × Nat => [(6, true, selfP b.1), (7, true, selfP b.2), (5, true, .int .i64 (i : Int)), (3, true, .slice A out.length c), (4, true, .slice A9 al.length c9), (9, true, .slice A9 al.length c9), (8, true, str s), (2, true, .slice none 0 0), (0, true, str s)]) (fun b : Nat × Nat => [(6, .blk b.1 (IsBox (spE x) 199)), (7, .blk b.2 (IsBox (spE y) 199)), (903, .own 199 2 (.slice A out.length c) out.length (out.flatMap spE)), (9, .own 199 2 (.slice A9 al.length c9) al.length (al.flatMap spE)), (2, .own 199 2 (.slice none 0 0) 0 [])]) ?_ ?_
    · refine T_tree (PTree.one 0 (PTree.one 1 (PTree.one 2 (PTree.one 3 (PTree.one 4 (PTree.one 5 (PTree.one 6 (PTree.one 7 (PTree.one 8 (PTree.two 9 (PTree.one 10 (PTree.one 11 (PTree.one 12 PTree.nil))) 10 (PTree.one 9 (PTree.one 11 (PTree.one 12 PTree.nil))))))))))))) [true, true, true, true, true, true, true, true, true, false, false, false, false] [0, 0, 3, 7, 0, 0, 32, 112, 240, 0, 0, 1551, 4095] [(2, [9]), (3, [9]), (7, [9]), (8, [9])] (by kernel_rfl) (by kernel_rfl) (by kernel_rfl) rfl (by kernel_rfl) ?_
      refine R2f_ 0 17 rfl rfl rfl rfl rfl _ trivial (Y.z (y_move rfl rfl) rfl) ?_
      refine R2f_ 1 18 rfl rfl rfl rfl rfl _ trivial (Y.z (y_move rfl rfl) rfl) ?_
      refine R2f_ 2 19 rfl rfl rfl rfl rfl _ ⟨rfl, trivial⟩ (Y.z (y_indexOwn 9 rfl rfl rfl rfl Tryz.underlying196 sz199 (fun _ => by omega)) rfl) ?_
      refine R2f_ 3 20 rfl rfl rfl rfl rfl _ ⟨rfl, trivial⟩ (Y.z (y_loadO 9 rfl rfl rfl rfl (fun _ => rfl) (fun _ => hx1) Tryz.underlying199 rfl sz199) rfl) ?_
      refine R2f_ 4 21 rfl rfl rfl rfl rfl _ trivial (Y.z (y_move rfl rfl) rfl) ?_
      refine R2f_ 5 22 rfl rfl rfl rfl rfl _ trivial (Y.z (y_move rfl rfl) rfl) ?_
      refine R2f_ 6 23 rfl rfl rfl rfl rfl _ trivial (Y.z (y_bin rfl rfl rfl (fun hg => b_addv (((i + 1 : Nat) : Int)) (by omega) (by omega))) rfl) ?_
      refine R2f_ 7 24 rfl rfl rfl rfl rfl _ ⟨rfl, trivial⟩ (Y.z (y_indexOwn 9 rfl rfl rfl rfl Tryz.underlying196 sz199 (fun _ => by omega)) rfl) ?_
      refine R2f_ 8 25 rfl rfl rfl rfl rfl _ ⟨rfl, trivial⟩ (Y.z (y_loadO 9 rfl rfl rfl rfl (fun _ => rfl) (fun _ => hy1) Tryz.underlying199 rfl sz199) rfl) ?_
      refine R2_two rfl rfl ?_ ?_
      · skip
        refine S_alloc 6 6 rfl rfl rfl rfl z199 ?_
        intro b6
        refine R2_next ⟨.inr ⟨rfl, trivial⟩, .inr ⟨rfl, trivial⟩, .inr ⟨rfl, trivial⟩, .inr ⟨rfl, trivial⟩, trivial⟩ ?_
        refine R2_chain 10 rfl rfl ?_
        refine S_alloc 7 7 rfl rfl rfl rfl z199 ?_
        intro b7
        refine R2_next ⟨.inr ⟨rfl, trivial⟩, .inr ⟨rfl, trivial⟩, .inr ⟨rfl, trivial⟩, .inr ⟨rfl, trivial⟩, trivial⟩ ?_
        refine R2_chain 11 rfl rfl ?_
        refine S_store 6 rfl rfl rfl rfl rfl rfl sz199 rfl rfl ?_
        refine R2_next ⟨.inl rfl, .inl rfl, .inr ⟨rfl, trivial⟩, .inr ⟨rfl, trivial⟩, trivial⟩ ?_
        refine R2_chain 12 rfl rfl ?_
        refine S_store 7 rfl rfl rfl rfl rfl rfl sz199 rfl rfl ?_
        refine R2_next ⟨.inl rfl, .inl rfl, .inl rfl, .inl rfl, trivial⟩ ?_
        exact R2_nil (fun a w hF hM => ⟨(b6, b7), hF.sub (by exact ⟨rfl, rfl, rfl, rfl, rfl, rfl, rfl, rfl, rfl, trivial⟩), hM.sub (by exact ⟨rfl, rfl, rfl, rfl, rfl, trivial⟩)⟩)
      · skip
        refine S_alloc 7 7 rfl rfl rfl rfl z199 ?_
        intro b7
        refine R2_next ⟨.inr ⟨rfl, trivial⟩, .inr ⟨rfl, trivial⟩, .inr ⟨rfl, trivial⟩, .inr ⟨rfl, trivial⟩, trivial⟩ ?_
        refine R2_chain 9 rfl rfl ?_
        refine S_alloc 6 6 rfl rfl rfl rfl z199 ?_
        intro b6
        refine R2_next ⟨.inr ⟨rfl, trivial⟩, .inr ⟨rfl, trivial⟩, .inr ⟨rfl, trivial⟩, .inr ⟨rfl, trivial⟩, trivial⟩ ?_
        refine R2_chain 11 rfl rfl ?_
        refine S_store 6 rfl rfl rfl rfl rfl rfl sz199 rfl rfl ?_
        refine R2_next ⟨.inl rfl, .inl rfl, .inr ⟨rfl, trivial⟩, .inr ⟨rfl, trivial⟩, trivial⟩ ?_
        refine R2_chain 12 rfl rfl ?_
        refine S_store 7 rfl rfl rfl rfl rfl rfl sz199 rfl rfl ?_
        refine R2_next ⟨.inl rfl, .inl rfl, .inl rfl, .inl rfl, trivial⟩ ?_
        exact R2_nil (fun a w hF hM => ⟨(b6, b7), hF.sub (by exact ⟨rfl, rfl, rfl, rfl, rfl, rfl, rfl, rfl, rfl, trivial⟩), hM.sub (by exact ⟨rfl, rfl, rfl, rfl, rfl, trivial⟩)⟩)
    intro b
    refine S_go (fun _ _ h => h) ?_
    refine T_seq ?_
    refine T_region ?_
    refine S_ 26 rfl rfl rfl _ (y_fieldAddr rfl rfl fa199_0) ?_
    refine S_ 27 rfl rfl rfl _ (y_load 7 rfl rfl rfl rfl Tryz.underlying3 rfl) ?_
    refine S_ 28 rfl rfl rfl _ (y_fieldAddr rfl rfl fa199_1) ?_
    refine S_ 29 rfl rfl rfl _ (y_load 6 rfl rfl rfl rfl Tryz.underlying3 rfl) ?_
    refine S_ 30 rfl rfl rfl _ (y_bin rfl rfl rfl (fun hg => b_add (by omega))) ?_
    refine S_ 31 rfl rfl rfl _ (y_bin rfl rfl rfl (fun _ => b_eql)) ?_
    refine S_ 32 rfl rfl rfl _ (y_move rfl rfl) ?_
    refine Sg_ 33 rfl rfl rfl rfl rfl rfl _ (y_move rfl rfl) ?_
    refine Sg_ 34 rfl rfl rfl rfl rfl rfl _ (y_fieldAddr rfl rfl fa199_1) ?_
    refine Sg_ 35 rfl rfl rfl rfl rfl rfl _ (y_load 6 rfl rfl rfl rfl Tryz.underlying3 rfl) ?_
    refine Sg_ 36 rfl rfl rfl rfl rfl rfl _ (y_index_str rfl rfl rfl Tryz.underlying9 (fun hg => by simp only [Bool.true_and, Bool.and_eq_true, beq_iff_eq, decide_eq_true_eq, decide_eq_false_iff_not, Int.not_lt, Int.not_le] at hg; omega)) ?_
    refine Sg_ 37 rfl rfl rfl rfl rfl rfl _ (y_bin rfl rfl rfl (fun _ => b_eql)) ?_
    refine S_ 38 rfl rfl rfl _ (y_and rfl rfl rfl) ?_
    refine S_go (fun _ _ h => h) ?_
    refine T_cond rfl (fun h38 => ?_) (fun h38 => ?_)
    · try simp only [decide_eq_true_eq, decide_eq_false_iff_not, Bool.or_eq_true, Bool.or_eq_false_iff, Bool.and_eq_true, Bool.and_eq_false_iff, Bool.not_eq_true', Bool.not_eq_false', Bool.not_eq_true, Bool.not_eq_false, Bool.not_true, Bool.not_false, Int.not_lt, Int.not_le, not_or, not_and, Classical.not_not] at h38
      have hst : mailG s (al.drop i) = (x.1, y.2) :: mailG s (al.drop (i + 2)) := by rw [hx2, hy2, mailG, if_pos ⟨by omega, by have := h38.2; exact UInt8.toNat_inj.1 (by show _ = 64; omega)⟩]
      refine T_seq ?_
      refine T_region ?_
      refine S_ 39 rfl rfl rfl _ (y_move rfl rfl) ?_
      refine S_ 40 rfl rfl rfl _ (y_fieldAddr rfl rfl fa199_0) ?_
      refine S_ 41 rfl rfl rfl _ (y_load 6 rfl rfl rfl rfl Tryz.underlying3 rfl) ?_
      refine S_ 42 rfl rfl rfl _ (y_fieldAddr rfl rfl fa199_1) ?_
      refine S_ 43 rfl rfl rfl _ (y_load 7 rfl rfl rfl rfl Tryz.underlying3 rfl) ?_
      refine S_ 44 rfl rfl rfl _ (y_build (zv := .agg #[.int .i64 0, .int .i64 0]) (pl := [(0, 1), (1, 1)]) (out := [_, _]) rfl rfl Tryz.underlying199 z199 (by kernel_rfl) rfl) ?_
      refine S_buildSlice 45 45 rfl rfl rfl rfl rfl Tryz.underlying196 inf199 rfl (by decide) (by decide) rfl rfl (by decide) rfl (_) rfl ?_
      intro b45
      obtain ⟨i46, hi46, hz46, hs46, hy46⟩ := info_parts inf199
      refine S_append 46 903 45 rfl rfl rfl rfl rfl rfl rfl rfl Tryz.underlying196 hi46 hz46 hs46 hy46 rfl (by decide) (by decide) rfl ?_ ?_ ((out ++ [(x.1, y.2)]).length) ((out ++ [(x.1, y.2)]).flatMap spE) ?_ ?_ ?_
      · (simp only [maxLen]; omega)
      · omega
      · rw [List.length_append]; rfl
      · rw [List.flatMap_append]; rfl
      intro A46 c46
      refine S_ 3 rfl rfl rfl _ (y_assign rfl rfl) ?_
      refine S_go (fun _ _ h => h) ?_
      refine T_region ?_
      refine S_ 47 rfl rfl rfl _ (y_move rfl rfl) ?_
      refine S_ 48 rfl rfl rfl _ (y_bin rfl rfl rfl (fun hg => b_add (by omega))) ?_
      refine S_ 5 rfl rfl rfl _ (y_assign rfl rfl) ?_
      refine S_go (fun _ _ h => h) ?_
      refine T_region ?_
      refine S_ 15 rfl rfl rfl _ (y_move rfl rfl) ?_
      refine S_ 16 rfl rfl rfl _ (y_bin rfl rfl rfl (fun hg => b_add (by omega))) ?_
      refine S_ 5 rfl rfl rfl _ (y_assign rfl rfl) ?_
      refine S_nil (nextK4 (kf := [(3, 3), (5, 7), (10, 48)]) (kl := [(3, 3), (5, 7), (10, 48), (903, 903)]) (i + 2) A46 c46 (out ++ [(x.1, y.2)]) (by repeat (first | exact kf_nil | (apply kf_in; focus rfl) | (apply kf_out; focus rfl))) (by repeat (first | exact kl_nil | exact kl_rest (by assumption) rfl | (apply kl_in; focus rfl) | (apply kl_out; focus rfl))) ?_ ?_ ?_ ?_)
      · omega
      · exact ⟨by omega, by rw [hp2, hst]; simp, by rw [List.length_append, List.length_singleton]; omega⟩
      · exact ⟨rfl, rfl, trivial⟩
      · exact ⟨rfl, trivial⟩
    · try simp only [decide_eq_true_eq, decide_eq_false_iff_not, Bool.or_eq_true, Bool.or_eq_false_iff, Bool.and_eq_true, Bool.and_eq_false_iff, Bool.not_eq_true', Bool.not_eq_false', Bool.not_eq_true, Bool.not_eq_false, Bool.not_true, Bool.not_false, Int.not_lt, Int.not_le, not_or, not_and, Classical.not_not] at h38
      have hst : mailG s (al.drop i) = mailG s (al.drop (i + 1)) := by rw [hx2, hy2, mailG, if_neg (fun hc => by rcases h38 with h | h; exact h (by omega); exact h (by rw [hc.2]; rfl))]
      refine T_skip_go (fun _ _ h => h) ?_
      refine T_region ?_
      refine S_ 15 rfl rfl rfl _ (y_move rfl rfl) ?_
      refine S_ 16 rfl rfl rfl _ (y_bin rfl rfl rfl (fun hg => b_add (by omega))) ?_
      refine S_ 5 rfl rfl rfl _ (y_assign rfl rfl) ?_
      refine S_nil (nextK4 (kf := [(3, 3), (5, 7), (10, 48)]) (kl := [(3, 3), (5, 7), (10, 48), (903, 903)]) (i + 1) A c out (by repeat (first | exact kf_nil | (apply kf_in; focus rfl) | (apply kf_out; focus rfl))) (by repeat (first | exact kl_nil | exact kl_rest (by assumption) rfl | (apply kl_in; focus rfl) | (apply kl_out; focus rfl))) ?_ ?_ ?_ ?_)
      · omega
      · exact ⟨by omega, by rw [hp2, hst], by omega⟩
      · exact ⟨rfl, rfl, trivial⟩
      · exact ⟨rfl, trivial⟩
  · try simp only [decide_eq_true_eq, decide_eq_false_iff_not, Bool.or_eq_true, Bool.or_eq_false_iff, Bool.and_eq_true, Bool.and_eq_false_iff, Bool.not_eq_true', Bool.not_eq_false', Bool.not_eq_true, Bool.not_eq_false, Bool.not_true, Bool.not_false, Int.not_lt, Int.not_le, not_or, not_and, Classical.not_not] at h14
    have hfin : mailG s al = out := by
      have h0 : mailG s (al.drop i) = [] := by
        rcases Nat.lt_or_ge i al.length with h | h
        · have e : al.drop i = [al[i]] := by rw [List.drop_eq_getElem_cons h, List.drop_eq_nil_of_le (by omega)]
          rw [e, mailG]; simp
        · rw [List.drop_eq_nil_of_le h, mailG]; simp
      rw [hp2, h0, List.append_nil]
    refine T_exit_go (fun _ _ h => h) ?_
    refine T_seq ?_
    refine T_region ?_
    refine S_ 49 rfl rfl rfl _ (y_move rfl rfl) ?_
    refine S_ 2 rfl rfl rfl _ (y_assign rfl rfl) ?_
    refine S_go (fun _ _ h => h) ?_
    refine T_ret (fun a w hF hM => hRb a w (post1 rfl rfl (fun w hM => ?_) a w hF hM))
    rw [hmf, hfin]
    exact ⟨A, c, rfl, hM.sat 903 _ rfl, hM.below⟩
end Go.Proofs.YtfmbgaaonfgenaaGreatDoor
end
