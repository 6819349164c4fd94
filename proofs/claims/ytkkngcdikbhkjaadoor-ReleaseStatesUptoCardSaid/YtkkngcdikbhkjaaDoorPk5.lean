/- Part 5, merged by a program. A state's words read: the program's steps. Condition: the words of its kinds lie in memory. readState and ReadState. Condition: the words of the kinds lie in memory. -/
import Derived.Test.YtkkngcdikbhkjaaDoorPk4
section
namespace Go.Proofs.YtkkngcdikbhkjaaDoor
set_option linter.unusedSimpArgs false
set_option linter.unusedVariables false
set_option maxRecDepth 20000
open Go.RowKit Go.Eng
theorem plainNumberR_any (s : List UInt8) (hs : s.length ≤ 1000000000) (w : World) :
    Calls Tryd.prog 90 #[str s] w fun e w' => e = .returned (.tuple #[.int .i64 (sNum s), .bool (plainOk s 10)]) ∧ Below w.heap.size w w' := by
  refine enter_args (args := [str s]) (F := _) Tryd.func90 rfl Tryd.ntmps90 rfl rfl ?_
  intro Rb hRb hRn
  refine T_seq ?_
  refine T_region ?_
  refine S_ 2 rfl rfl rfl _ (y_assign rfl rfl) ?_
  refine S_ 3 rfl rfl rfl _ (y_assign rfl rfl) ?_
  refine S_go (fun _ _ h => h) ?_
  refine T_seq ?_
  refine T_seq ?_
  refine T_region ?_
  refine S_ 6 rfl rfl rfl _ (y_move rfl rfl) ?_
  refine S_ 7 rfl rfl rfl _ (y_call rfl rfl rfl cf119 (fun _ w _ => allOfD_any s hs w)) ?_
  refine S_ 8 rfl rfl rfl _ (y_not rfl rfl) ?_
  refine S_ 9 rfl rfl rfl _ (y_move rfl rfl) ?_
  refine Sg_ 10 rfl rfl rfl rfl rfl rfl _ (y_move rfl rfl) ?_
  refine Sg_ 11 rfl rfl rfl rfl rfl rfl _ (y_len_str rfl rfl Tryd.underlying9) ?_
  refine Sg_ 12 rfl rfl rfl rfl rfl rfl _ (y_bin rfl rfl rfl (fun _ => b_gtr)) ?_
  refine S_ 13 rfl rfl rfl _ (y_or rfl rfl rfl) ?_
  refine S_ 14 rfl rfl rfl _ (y_move rfl rfl) ?_
  refine Sg_ 15 rfl rfl rfl rfl rfl rfl _ (y_move rfl rfl) ?_
  refine Sg_ 16 rfl rfl rfl rfl rfl rfl _ (y_len_str rfl rfl Tryd.underlying9) ?_
  refine Sg_ 17 rfl rfl rfl rfl rfl rfl _ (y_bin rfl rfl rfl (fun _ => b_gtr)) ?_
  refine Sg_ 18 rfl rfl rfl rfl rfl rfl _ (y_move rfl rfl) ?_
  refine Sg_ 19 rfl rfl rfl rfl rfl rfl _ (y_move rfl rfl) ?_
  refine Sg_ 20 rfl rfl rfl rfl rfl rfl _ (y_index_str (j := 0) rfl rfl rfl Tryd.underlying9 (fun hg => by simp at hg; omega)) ?_
  refine Sg_ 21 rfl rfl rfl rfl rfl rfl _ (y_bin rfl rfl rfl (fun _ => b_eql)) ?_
  refine Sg_ 22 rfl rfl rfl rfl rfl rfl _ (y_and rfl rfl rfl) ?_
  refine S_ 23 rfl rfl rfl _ (y_as (v' := .bool (!plainOk s 10)) (by exact congrArg Value.bool (by
    rw [plainOk, Bool.not_not, allOf]
    cases decide (s = []) <;> cases decide (Lib.trimS s digB = []) <;> cases decide (((10 : Nat) : Int) < s.length) <;> cases decide ((1 : Int) < s.length) <;> cases decide (((s.getD 0 0).toNat : Int) = 48) <;> rfl)) (y_or rfl rfl rfl)) ?_
  refine S_go (fun _ _ h => h) ?_
  refine T_cond rfl (fun h23 => ?_) (fun h23 => ?_)
  · skip
    have hn : plainOk s 10 = false := by simpa using h23
    refine T_seq ?_
    refine T_region ?_
    refine S_ 2 rfl rfl rfl _ (y_assign rfl rfl) ?_
    refine S_ 3 rfl rfl rfl _ (y_assign rfl rfl) ?_
    refine S_go (fun _ _ h => h) ?_
    refine T_ret (fun a w hF hM => hRb a w (post2 rfl rfl rfl (fun w hM => ?_) a w hF hM))
    exact ⟨by rw [sNum, plainJ, hn]; rfl, hM.below⟩
  · skip
    have hn : plainOk s 10 = true := by simpa using h23
    have hd := plain_parts hn
    refine T_skip_go (fun _ _ h => h) ?_
    refine T_seq ?_
    refine T_region ?_
    refine S_ 25 rfl rfl rfl _ (y_move rfl rfl) ?_
    refine S_ 26 rfl rfl rfl _ (y_call rfl rfl rfl cf92 (fun _ w _ => Atoi_any s hd.1 (by omega) hd.2.2 w)) ?_
    refine S_ 24 rfl rfl rfl _ (y_move rfl rfl) ?_
    refine S_ 27 rfl rfl rfl _ (y_extract rfl rfl rfl) ?_
    refine S_ 28 rfl rfl rfl _ (y_extract rfl rfl rfl) ?_
    refine S_ 4 rfl rfl rfl _ (y_assign rfl rfl) ?_
    refine S_ 5 rfl rfl rfl _ (y_assign rfl rfl) ?_
    refine S_go (fun _ _ h => h) ?_
    refine T_seq ?_
    refine T_draws (by kernel_rfl) (by kernel_rfl) ?_
    refine D_ 29 rfl rfl rfl _ (y_move rfl rfl) ?_
    refine D_ 30 rfl rfl rfl _ (y_move rfl rfl) ?_
    refine D_ 31 rfl rfl rfl _ (y_bin rfl rfl rfl (fun _ => b_eqlII Tryd.underlying116)) ?_
    refine D_ 2 rfl rfl rfl _ (y_assign rfl rfl) ?_
    refine D_ 3 rfl rfl rfl _ (y_assign rfl rfl) ?_
    refine D_go (fun _ _ h => h) ?_
    refine T_ret (fun a w hF hM => hRb a w (post2 rfl rfl rfl (fun w hM => ?_) a w hF hM))
    exact ⟨by rw [sNum, plainJ, hn]; rfl, hM.below⟩
abbrev ptr0 (b : Nat) : Value := .pointer (some ⟨b, 0, none⟩)
abbrev SS := Sl (List UInt8)
def cutSl (s : SS) (k : Nat) : SS := ⟨if s.c = k then s.A else s.A.map (·.add (k * 1)), s.q - k, s.c - k, s.l.drop k⟩
theorem cutSl_ok {w : World} {s : SS} (h : s.Ok strE 1 w) (k : Nat) (hk : k ≤ s.q) : (cutSl s k).Ok strE 1 w := by
  have h1 := h.t.cut (lo := k) (hi := s.q) (c := s.c) (fun _ => rfl) hk (Nat.le_refl _) h.cap
  have e : (s.l.drop k).take (s.q - k) = s.l.drop k := List.take_of_length_le (by rw [List.length_drop, h.t.len]; omega)
  rw [e] at h1
  exact ⟨h1, by show s.q - k ≤ s.c - k; have := h.cap; omega⟩
theorem at_D {l : List (List UInt8)} {i : Nat} (h : i < l.length) : l[i]? = some (l.getD i []) := by
  rw [List.getD_eq_getElem?_getD, List.getElem?_eq_getElem h]; rfl
theorem isW_len {v : List UInt8} {l : List (List UInt8)} (h : isW v l = true) : 2 ≤ l.length := by
  simp only [isW, Bool.and_eq_true, decide_eq_true_eq] at h; omega
theorem is_any (wd : List UInt8) (b : Nat) (s : SS) (w : World) (hs : s.Ok strE 1 w) (hc : w.cell? ⟨b, 0, none⟩ = some (.slice s.A s.q s.c) ∧ b < w.heap.size) :
    Calls Tryd.prog 87 #[str wd, ptr0 b] w fun e w' => e = .returned (.bool (isW wd s.l)) ∧ Below w.heap.size w w' := by
  have hlen := hs.t.len
  refine enter_args (args := [str wd, ptr0 b]) (F := _) Tryd.func87 rfl Tryd.ntmps87 rfl rfl ?_
  intro Rb hRb hRn
  refine T_seq ?_
  refine T_region ?_
  refine S_ 3 rfl rfl rfl _ (y_assign rfl rfl) ?_
  refine S_go (fun _ _ h => h) ?_
  refine T_seq ?_
  refine T_region ?_
  refine S_ 4 rfl rfl rfl _ (y_load_far rfl rfl hc.1 hc.2 Tryd.underlying46 rfl) ?_
  refine S_ 5 rfl rfl rfl _ (y_len_slice rfl rfl Tryd.underlying46) ?_
  refine S_ 6 rfl rfl rfl _ (y_bin rfl rfl rfl (fun _ => b_gtr)) ?_
  refine S_ 7 rfl rfl rfl _ (y_move rfl rfl) ?_
  refine Sg_ 8 rfl rfl rfl rfl rfl rfl _ (y_load_far rfl rfl hc.1 hc.2 Tryd.underlying46 rfl) ?_
  refine Sg_ 9 rfl rfl rfl rfl rfl rfl _ (y_indexAddrI (j := 0) rfl rfl rfl (fun _ => rfl) Tryd.underlying46 sz9 (fun hg => hs.t.isSome (by simp at hg; omega)) (fun hg => by simp at hg; omega)) ?_
  refine Sg_ 10 rfl rfl rfl rfl rfl rfl _ (y_loadT1 (val := (fun l : List UInt8 => str l)) rfl rfl hs.t (fun hg => at_D (by simp at hg; omega)) Tryd.underlying9 rfl) ?_
  refine Sg_ 11 rfl rfl rfl rfl rfl rfl _ (y_move rfl rfl) ?_
  refine Sg_ 12 rfl rfl rfl rfl rfl rfl _ (y_bin rfl rfl rfl (fun _ => b_eqls)) ?_
  refine S_ 13 rfl rfl rfl _ (y_and rfl rfl rfl) ?_
  refine S_ 3 rfl rfl rfl _ (y_assign rfl rfl) ?_
  refine S_go (fun _ _ h => h) ?_
  refine T_ret (fun a w hF hM => hRb a w (post1 rfl rfl (fun w hM => ?_) a w hF hM))
  exact ⟨by rw [isW, hlen], hM.below⟩
abbrev iW (b : Nat) (s : SS) : It := .blk b (IsBox [.slice s.A s.q s.c] 46)
abbrev iS (b : Nat) (s : PSt) : It := .blk b (IsBox s.enc 40)
abbrev iOk (b : Nat) (o : Bool) : It := .blk b (IsBox [.bool o] 4)
abbrev iIs (b b1 : Nat) : It := .blk b (IsBox [.func (.func 87) #[] #[ptr0 b1]] 83)
abbrev iNx (b b1 : Nat) : It := .blk b (IsBox [.func (.func 88) #[] #[ptr0 b1]] 112)
theorem next_any {w0 : World} {K : HL} (hK : FromK K) (b : Nat) (s : SS) (hs : s.Ok strE 1 w0) (h2 : 2 ≤ s.q) (w : World) (hM0 : Mem w0 ([(901, iW b s)] ++ K) w) :
    Calls Tryd.prog 88 #[ptr0 b] w fun e w' => ∃ _u : Unit, e = .returned (str (s.l.getD 1 [])) ∧ True ∧ Mem w0 ([(901, iW b (cutSl s 2))] ++ K) w' := by
  have hlen := hs.t.len
  have hcap := hs.cap
  refine enterM_args (args := [ptr0 b]) (F := _) hM0 Tryd.func88 rfl Tryd.ntmps88 rfl rfl ?_
  intro Rb hRb hRn
  refine T_seq ?_
  refine T_region ?_
  refine S_ 1 rfl rfl rfl _ (y_assign rfl rfl) ?_
  refine S_go (fun _ _ h => h) ?_
  refine T_seq ?_
  refine T_region ?_
  refine S_ 3 rfl rfl rfl _ (y_load 901 rfl rfl rfl rfl Tryd.underlying46 rfl) ?_
  refine S_ 4 rfl rfl rfl _ (y_indexAddrI (j := 1) rfl rfl rfl (fun _ => rfl) Tryd.underlying46 sz9 (fun hg => hs.t.isSome (by omega)) (fun _ => by omega)) ?_
  refine S_ 5 rfl rfl rfl _ (y_loadT1 (val := (fun l : List UInt8 => str l)) rfl rfl hs.t (fun _ => at_D (by omega)) Tryd.underlying9 rfl) ?_
  refine S_ 2 rfl rfl rfl _ (y_assign rfl rfl) ?_
  refine S_go (fun _ _ h => h) ?_
  refine T_seq ?_
  refine T_region ?_
  refine S_ 6 rfl rfl rfl _ (y_load 901 rfl rfl rfl rfl Tryd.underlying46 rfl) ?_
  refine S_ 7 rfl rfl rfl _ (y_slice (lo := 2) (hi := s.q) rfl rfl Tryd.underlying46 sz9 (.inr ⟨_, _, rfl, rfl⟩) (.inl ⟨rfl, rfl⟩) h2 (Nat.le_refl _) hcap) ?_
  refine S_store 901 rfl rfl rfl rfl rfl rfl sz46 rfl rfl ?_
  refine S_go (fun _ _ h => h) ?_
  refine T_seq ?_
  refine T_region ?_
  refine S_ 8 rfl rfl rfl _ (y_move rfl rfl) ?_
  refine S_ 1 rfl rfl rfl _ (y_assign rfl rfl) ?_
  refine S_go (fun _ _ h => h) ?_
  refine T_ret (fun a w hF hM => hRb a w (post1 rfl rfl (fun w hM => ?_) a w hF hM))
  exact ⟨(), rfl, trivial, hM.keep (ks := [(0, 999)]) (by repeat (first | exact kl_rest (by assumption) rfl | (apply kl_in; focus rfl))) _ ⟨rfl, trivial⟩⟩
def tkS (wd : List UInt8) (s : SS) : SS := if isW wd s.l = true then cutSl s 2 else s
theorem tkS_ok {w : World} {s : SS} {wd : List UInt8} (h : s.Ok strE 1 w) : (tkS wd s).Ok strE 1 w := by
  unfold tkS; split
  · rename_i h1; exact cutSl_ok h 2 (by rw [← h.t.len]; exact isW_len h1)
  · exact h
theorem tkS_l (wd : List UInt8) (set : PSt → Int → PSt) (st : PSt) (ok : Bool) (s : SS) : (tkS wd s).l = (stp wd set (st, ok, s.l)).2.2 := by
  unfold tkS stp
  show (if isW wd s.l = true then cutSl s 2 else s).l = (if isW wd s.l = true then _ else (st, ok, s.l)).2.2
  split <;> rfl
theorem tkS_mem {wd : List UInt8} {s : SS} {n : Nat} (h : ∀ x ∈ s.l, x.length ≤ n) : ∀ x ∈ (tkS wd s).l, x.length ≤ n := by
  unfold tkS; split
  · intro x hx; exact h x (List.mem_of_mem_drop hx)
  · exact h
theorem takeAt_any {w0 : World} {K : HL} (hK : FromK K) (b1 b4 b5 b6 b7 : Nat) (st : PSt) (ok : Bool) (s : SS) (hs : s.Ok strE 1 w0) (hz : ∀ x ∈ s.l, x.length ≤ 1000000000) (wd : List UInt8) (w : World)
    (hM0 : Mem w0 ([(901, iW b1 s), (904, iS b4 st), (905, iOk b5 ok), (906, iIs b6 b1), (907, iNx b7 b1)] ++ K) w) :
    Calls Tryd.prog 89 #[str wd, .pointer (some ⟨b4, 1, none⟩), ptr0 b6, ptr0 b7, ptr0 b5] w fun e w' => ∃ _u : Unit, e = .returned (.bool (isW wd s.l)) ∧ True ∧
      Mem w0 ([(901, iW b1 (tkS wd s)), (904, iS b4 (stp wd setAt (st, ok, s.l)).1), (905, iOk b5 (stp wd setAt (st, ok, s.l)).2.1), (906, iIs b6 b1), (907, iNx b7 b1)] ++ K) w' := by
  have hlen := hs.t.len
  refine enterM_args (args := [str wd, .pointer (some ⟨b4, 1, none⟩), ptr0 b6, ptr0 b7, ptr0 b5]) (F := _) hM0 Tryd.func89 rfl Tryd.ntmps89 rfl rfl ?_
  intro Rb hRb hRn
  refine T_seq ?_
  refine T_region ?_
  refine S_ 7 rfl rfl rfl _ (y_assign rfl rfl) ?_
  refine S_go (fun _ _ h => h) ?_
  refine T_seq ?_
  refine T_seq ?_
  refine T_region ?_
  refine S_ 10 rfl rfl rfl _ (y_load 906 rfl rfl rfl rfl Tryd.underlying83 rfl) ?_
  refine S_ 11 rfl rfl rfl _ (y_move rfl rfl) ?_
  refine S_ 12 rfl rfl rfl _ (y_call rfl rfl rfl cf87 (fun _ w hM => is_any wd b1 s w (hs.below hM.below) (hM.box_cell (i := 901) rfl rfl))) ?_
  refine S_ 13 rfl rfl rfl _ (y_not rfl rfl) ?_
  refine S_go (fun _ _ h => h) ?_
  refine T_cond rfl (fun h13 => ?_) (fun h13 => ?_)
  · skip
    have e1 : isW wd s.l = false := by simpa using h13
    refine T_seq ?_
    refine T_region ?_
    refine S_ 7 rfl rfl rfl _ (y_assign rfl rfl) ?_
    refine S_go (fun _ _ h => h) ?_
    refine T_ret (fun a w hF hM => hRb a w (post1 rfl rfl (fun w hM => ?_) a w hF hM))
    have e2 : stp wd setAt (st, ok, s.l) = (st, ok, s.l) := if_neg (by rw [e1]; simp)
    have e3 : tkS wd s = s := if_neg (by rw [e1]; simp)
    rw [e2, e3, e1]
    exact ⟨(), rfl, trivial, hM.keep (ks := [(0, 999)]) (by repeat (first | exact kl_rest (by assumption) rfl | (apply kl_in; focus rfl))) _ ⟨rfl, rfl, rfl, rfl, rfl, trivial⟩⟩
  · skip
    have e1 : isW wd s.l = true := by simpa using h13
    have h2 := isW_len e1
    refine T_skip_go (fun _ _ h => h) ?_
    refine T_seq ?_
    refine T_region ?_
    refine S_ 15 rfl rfl rfl _ (y_load 907 rfl rfl rfl rfl Tryd.underlying112 rfl) ?_
    refine S_callM 16 [(901, 901)] (X := Unit) rfl rfl rfl rfl rfl rfl rfl cf88 rfl (fun _ => str (s.l.getD 1 [])) (fun _ => True) (fun _ => [(901, iW b1 (cutSl s 2))]) (fun _ => rfl) (fun _ => rfl) (fun K1 hK1 w hM => next_any hK1 b1 s hs (by omega) w hM) ?_
    intro u16 hu16
    refine S_ 17 rfl rfl rfl _ (y_call rfl rfl rfl cf90 (fun _ w _ => plainNumberR_any (s.l.getD 1 []) (hz _ (List.mem_of_getElem? (at_D (by omega)))) w)) ?_
    refine S_ 14 rfl rfl rfl _ (y_move rfl rfl) ?_
    refine S_ 18 rfl rfl rfl _ (y_extract rfl rfl rfl) ?_
    refine S_ 19 rfl rfl rfl _ (y_extract rfl rfl rfl) ?_
    refine S_ 8 rfl rfl rfl _ (y_assign rfl rfl) ?_
    refine S_ 9 rfl rfl rfl _ (y_assign rfl rfl) ?_
    refine S_go (fun _ _ h => h) ?_
    refine T_seq ?_
    refine T_region ?_
    refine S_ 20 rfl rfl rfl _ (y_move rfl rfl) ?_
    refine S_ 21 rfl rfl rfl _ (y_move rfl rfl) ?_
    refine S_ 22 rfl rfl rfl _ (y_nilCheck rfl rfl) ?_
    refine S_store 904 rfl rfl rfl rfl rfl rfl sz3 rfl rfl ?_
    refine S_go (fun _ _ h => h) ?_
    refine T_seq ?_
    refine T_region ?_
    refine S_ 23 rfl rfl rfl _ (y_load 905 rfl rfl rfl rfl Tryd.underlying4 rfl) ?_
    refine S_ 24 rfl rfl rfl _ (y_move rfl rfl) ?_
    refine Sg_ 25 rfl rfl rfl rfl rfl rfl _ (y_move rfl rfl) ?_
    refine S_ 26 rfl rfl rfl _ (y_and rfl rfl rfl) ?_
    refine S_store 905 rfl rfl rfl rfl rfl rfl sz4 rfl rfl ?_
    refine S_go (fun _ _ h => h) ?_
    refine T_seq ?_
    refine T_region ?_
    refine S_ 7 rfl rfl rfl _ (y_assign rfl rfl) ?_
    refine S_go (fun _ _ h => h) ?_
    refine T_ret (fun a w hF hM => hRb a w (post1 rfl rfl (fun w hM => ?_) a w hF hM))
    have e2 : stp wd setAt (st, ok, s.l) = (setAt st (sNum (s.l.getD 1 [])), ok && plainOk (s.l.getD 1 []) 10, s.l.drop 2) := if_pos e1
    have e3 : tkS wd s = cutSl s 2 := if_pos e1
    rw [e2, e3, e1]
    exact ⟨(), rfl, trivial, hM.keep (ks := [(0, 999)]) (by repeat (first | exact kl_rest (by assumption) rfl | (apply kl_in; focus rfl))) _ ⟨rfl, rfl, rfl, rfl, rfl, trivial⟩⟩
theorem takeTill_any {w0 : World} {K : HL} (hK : FromK K) (b1 b4 b5 b6 b7 : Nat) (st : PSt) (ok : Bool) (s : SS) (hs : s.Ok strE 1 w0) (hz : ∀ x ∈ s.l, x.length ≤ 1000000000) (wd : List UInt8) (w : World)
    (hM0 : Mem w0 ([(901, iW b1 s), (904, iS b4 st), (905, iOk b5 ok), (906, iIs b6 b1), (907, iNx b7 b1)] ++ K) w) :
    Calls Tryd.prog 89 #[str wd, .pointer (some ⟨b4, 4, none⟩), ptr0 b6, ptr0 b7, ptr0 b5] w fun e w' => ∃ _u : Unit, e = .returned (.bool (isW wd s.l)) ∧ True ∧
      Mem w0 ([(901, iW b1 (tkS wd s)), (904, iS b4 (stp wd setTill (st, ok, s.l)).1), (905, iOk b5 (stp wd setTill (st, ok, s.l)).2.1), (906, iIs b6 b1), (907, iNx b7 b1)] ++ K) w' := by
  have hlen := hs.t.len
  refine enterM_args (args := [str wd, .pointer (some ⟨b4, 4, none⟩), ptr0 b6, ptr0 b7, ptr0 b5]) (F := _) hM0 Tryd.func89 rfl Tryd.ntmps89 rfl rfl ?_
  intro Rb hRb hRn
  refine T_seq ?_
  refine T_region ?_
  refine S_ 7 rfl rfl rfl _ (y_assign rfl rfl) ?_
  refine S_go (fun _ _ h => h) ?_
  refine T_seq ?_
  refine T_seq ?_
  refine T_region ?_
  refine S_ 10 rfl rfl rfl _ (y_load 906 rfl rfl rfl rfl Tryd.underlying83 rfl) ?_
  refine S_ 11 rfl rfl rfl _ (y_move rfl rfl) ?_
  refine S_ 12 rfl rfl rfl _ (y_call rfl rfl rfl cf87 (fun _ w hM => is_any wd b1 s w (hs.below hM.below) (hM.box_cell (i := 901) rfl rfl))) ?_
  refine S_ 13 rfl rfl rfl _ (y_not rfl rfl) ?_
  refine S_go (fun _ _ h => h) ?_
  refine T_cond rfl (fun h13 => ?_) (fun h13 => ?_)
  · skip
    have e1 : isW wd s.l = false := by simpa using h13
    refine T_seq ?_
    refine T_region ?_
    refine S_ 7 rfl rfl rfl _ (y_assign rfl rfl) ?_
    refine S_go (fun _ _ h => h) ?_
    refine T_ret (fun a w hF hM => hRb a w (post1 rfl rfl (fun w hM => ?_) a w hF hM))
    have e2 : stp wd setTill (st, ok, s.l) = (st, ok, s.l) := if_neg (by rw [e1]; simp)
    have e3 : tkS wd s = s := if_neg (by rw [e1]; simp)
    rw [e2, e3, e1]
    exact ⟨(), rfl, trivial, hM.keep (ks := [(0, 999)]) (by repeat (first | exact kl_rest (by assumption) rfl | (apply kl_in; focus rfl))) _ ⟨rfl, rfl, rfl, rfl, rfl, trivial⟩⟩
  · skip
    have e1 : isW wd s.l = true := by simpa using h13
    have h2 := isW_len e1
    refine T_skip_go (fun _ _ h => h) ?_
    refine T_seq ?_
    refine T_region ?_
    refine S_ 15 rfl rfl rfl _ (y_load 907 rfl rfl rfl rfl Tryd.underlying112 rfl) ?_
    refine S_callM 16 [(901, 901)] (X := Unit) rfl rfl rfl rfl rfl rfl rfl cf88 rfl (fun _ => str (s.l.getD 1 [])) (fun _ => True) (fun _ => [(901, iW b1 (cutSl s 2))]) (fun _ => rfl) (fun _ => rfl) (fun K1 hK1 w hM => next_any hK1 b1 s hs (by omega) w hM) ?_
    intro u16 hu16
    refine S_ 17 rfl rfl rfl _ (y_call rfl rfl rfl cf90 (fun _ w _ => plainNumberR_any (s.l.getD 1 []) (hz _ (List.mem_of_getElem? (at_D (by omega)))) w)) ?_
    refine S_ 14 rfl rfl rfl _ (y_move rfl rfl) ?_
    refine S_ 18 rfl rfl rfl _ (y_extract rfl rfl rfl) ?_
    refine S_ 19 rfl rfl rfl _ (y_extract rfl rfl rfl) ?_
    refine S_ 8 rfl rfl rfl _ (y_assign rfl rfl) ?_
    refine S_ 9 rfl rfl rfl _ (y_assign rfl rfl) ?_
    refine S_go (fun _ _ h => h) ?_
    refine T_seq ?_
    refine T_region ?_
    refine S_ 20 rfl rfl rfl _ (y_move rfl rfl) ?_
    refine S_ 21 rfl rfl rfl _ (y_move rfl rfl) ?_
    refine S_ 22 rfl rfl rfl _ (y_nilCheck rfl rfl) ?_
    refine S_store 904 rfl rfl rfl rfl rfl rfl sz3 rfl rfl ?_
    refine S_go (fun _ _ h => h) ?_
    refine T_seq ?_
    refine T_region ?_
    refine S_ 23 rfl rfl rfl _ (y_load 905 rfl rfl rfl rfl Tryd.underlying4 rfl) ?_
    refine S_ 24 rfl rfl rfl _ (y_move rfl rfl) ?_
    refine Sg_ 25 rfl rfl rfl rfl rfl rfl _ (y_move rfl rfl) ?_
    refine S_ 26 rfl rfl rfl _ (y_and rfl rfl rfl) ?_
    refine S_store 905 rfl rfl rfl rfl rfl rfl sz4 rfl rfl ?_
    refine S_go (fun _ _ h => h) ?_
    refine T_seq ?_
    refine T_region ?_
    refine S_ 7 rfl rfl rfl _ (y_assign rfl rfl) ?_
    refine S_go (fun _ _ h => h) ?_
    refine T_ret (fun a w hF hM => hRb a w (post1 rfl rfl (fun w hM => ?_) a w hF hM))
    have e2 : stp wd setTill (st, ok, s.l) = (setTill st (sNum (s.l.getD 1 [])), ok && plainOk (s.l.getD 1 []) 10, s.l.drop 2) := if_pos e1
    have e3 : tkS wd s = cutSl s 2 := if_pos e1
    rw [e2, e3, e1]
    exact ⟨(), rfl, trivial, hM.keep (ks := [(0, 999)]) (by repeat (first | exact kl_rest (by assumption) rfl | (apply kl_in; focus rfl))) _ ⟨rfl, rfl, rfl, rfl, rfl, trivial⟩⟩
theorem takeMore_any {w0 : World} {K : HL} (hK : FromK K) (b1 b4 b5 b6 b7 : Nat) (st : PSt) (ok : Bool) (s : SS) (hs : s.Ok strE 1 w0) (hz : ∀ x ∈ s.l, x.length ≤ 1000000000) (wd : List UInt8) (w : World)
    (hM0 : Mem w0 ([(901, iW b1 s), (904, iS b4 st), (905, iOk b5 ok), (906, iIs b6 b1), (907, iNx b7 b1)] ++ K) w) :
    Calls Tryd.prog 89 #[str wd, .pointer (some ⟨b4, 5, none⟩), ptr0 b6, ptr0 b7, ptr0 b5] w fun e w' => ∃ _u : Unit, e = .returned (.bool (isW wd s.l)) ∧ True ∧
      Mem w0 ([(901, iW b1 (tkS wd s)), (904, iS b4 (stp wd setMore (st, ok, s.l)).1), (905, iOk b5 (stp wd setMore (st, ok, s.l)).2.1), (906, iIs b6 b1), (907, iNx b7 b1)] ++ K) w' := by
  have hlen := hs.t.len
  refine enterM_args (args := [str wd, .pointer (some ⟨b4, 5, none⟩), ptr0 b6, ptr0 b7, ptr0 b5]) (F := _) hM0 Tryd.func89 rfl Tryd.ntmps89 rfl rfl ?_
  intro Rb hRb hRn
  refine T_seq ?_
  refine T_region ?_
  refine S_ 7 rfl rfl rfl _ (y_assign rfl rfl) ?_
  refine S_go (fun _ _ h => h) ?_
  refine T_seq ?_
  refine T_seq ?_
  refine T_region ?_
  refine S_ 10 rfl rfl rfl _ (y_load 906 rfl rfl rfl rfl Tryd.underlying83 rfl) ?_
  refine S_ 11 rfl rfl rfl _ (y_move rfl rfl) ?_
  refine S_ 12 rfl rfl rfl _ (y_call rfl rfl rfl cf87 (fun _ w hM => is_any wd b1 s w (hs.below hM.below) (hM.box_cell (i := 901) rfl rfl))) ?_
  refine S_ 13 rfl rfl rfl _ (y_not rfl rfl) ?_
  refine S_go (fun _ _ h => h) ?_
  refine T_cond rfl (fun h13 => ?_) (fun h13 => ?_)
  · skip
    have e1 : isW wd s.l = false := by simpa using h13
    refine T_seq ?_
    refine T_region ?_
    refine S_ 7 rfl rfl rfl _ (y_assign rfl rfl) ?_
    refine S_go (fun _ _ h => h) ?_
    refine T_ret (fun a w hF hM => hRb a w (post1 rfl rfl (fun w hM => ?_) a w hF hM))
    have e2 : stp wd setMore (st, ok, s.l) = (st, ok, s.l) := if_neg (by rw [e1]; simp)
    have e3 : tkS wd s = s := if_neg (by rw [e1]; simp)
    rw [e2, e3, e1]
    exact ⟨(), rfl, trivial, hM.keep (ks := [(0, 999)]) (by repeat (first | exact kl_rest (by assumption) rfl | (apply kl_in; focus rfl))) _ ⟨rfl, rfl, rfl, rfl, rfl, trivial⟩⟩
  · skip
    have e1 : isW wd s.l = true := by simpa using h13
    have h2 := isW_len e1
    refine T_skip_go (fun _ _ h => h) ?_
    refine T_seq ?_
    refine T_region ?_
    refine S_ 15 rfl rfl rfl _ (y_load 907 rfl rfl rfl rfl Tryd.underlying112 rfl) ?_
    refine S_callM 16 [(901, 901)] (X := Unit) rfl rfl rfl rfl rfl rfl rfl cf88 rfl (fun _ => str (s.l.getD 1 [])) (fun _ => True) (fun _ => [(901, iW b1 (cutSl s 2))]) (fun _ => rfl) (fun _ => rfl) (fun K1 hK1 w hM => next_any hK1 b1 s hs (by omega) w hM) ?_
    intro u16 hu16
    refine S_ 17 rfl rfl rfl _ (y_call rfl rfl rfl cf90 (fun _ w _ => plainNumberR_any (s.l.getD 1 []) (hz _ (List.mem_of_getElem? (at_D (by omega)))) w)) ?_
    refine S_ 14 rfl rfl rfl _ (y_move rfl rfl) ?_
    refine S_ 18 rfl rfl rfl _ (y_extract rfl rfl rfl) ?_
    refine S_ 19 rfl rfl rfl _ (y_extract rfl rfl rfl) ?_
    refine S_ 8 rfl rfl rfl _ (y_assign rfl rfl) ?_
    refine S_ 9 rfl rfl rfl _ (y_assign rfl rfl) ?_
    refine S_go (fun _ _ h => h) ?_
    refine T_seq ?_
    refine T_region ?_
    refine S_ 20 rfl rfl rfl _ (y_move rfl rfl) ?_
    refine S_ 21 rfl rfl rfl _ (y_move rfl rfl) ?_
    refine S_ 22 rfl rfl rfl _ (y_nilCheck rfl rfl) ?_
    refine S_store 904 rfl rfl rfl rfl rfl rfl sz3 rfl rfl ?_
    refine S_go (fun _ _ h => h) ?_
    refine T_seq ?_
    refine T_region ?_
    refine S_ 23 rfl rfl rfl _ (y_load 905 rfl rfl rfl rfl Tryd.underlying4 rfl) ?_
    refine S_ 24 rfl rfl rfl _ (y_move rfl rfl) ?_
    refine Sg_ 25 rfl rfl rfl rfl rfl rfl _ (y_move rfl rfl) ?_
    refine S_ 26 rfl rfl rfl _ (y_and rfl rfl rfl) ?_
    refine S_store 905 rfl rfl rfl rfl rfl rfl sz4 rfl rfl ?_
    refine S_go (fun _ _ h => h) ?_
    refine T_seq ?_
    refine T_region ?_
    refine S_ 7 rfl rfl rfl _ (y_assign rfl rfl) ?_
    refine S_go (fun _ _ h => h) ?_
    refine T_ret (fun a w hF hM => hRb a w (post1 rfl rfl (fun w hM => ?_) a w hF hM))
    have e2 : stp wd setMore (st, ok, s.l) = (setMore st (sNum (s.l.getD 1 [])), ok && plainOk (s.l.getD 1 []) 10, s.l.drop 2) := if_pos e1
    have e3 : tkS wd s = cutSl s 2 := if_pos e1
    rw [e2, e3, e1]
    exact ⟨(), rfl, trivial, hM.keep (ks := [(0, 999)]) (by repeat (first | exact kl_rest (by assumption) rfl | (apply kl_in; focus rfl))) _ ⟨rfl, rfl, rfl, rfl, rfl, trivial⟩⟩
theorem takePpl_any {w0 : World} {K : HL} (hK : FromK K) (b1 b4 b5 b6 b7 : Nat) (st : PSt) (ok : Bool) (s : SS) (hs : s.Ok strE 1 w0) (hz : ∀ x ∈ s.l, x.length ≤ 1000000000) (wd : List UInt8) (w : World)
    (hM0 : Mem w0 ([(901, iW b1 s), (904, iS b4 st), (905, iOk b5 ok), (906, iIs b6 b1), (907, iNx b7 b1)] ++ K) w) :
    Calls Tryd.prog 89 #[str wd, .pointer (some ⟨b4, 6, none⟩), ptr0 b6, ptr0 b7, ptr0 b5] w fun e w' => ∃ _u : Unit, e = .returned (.bool (isW wd s.l)) ∧ True ∧
      Mem w0 ([(901, iW b1 (tkS wd s)), (904, iS b4 (stp wd setPpl (st, ok, s.l)).1), (905, iOk b5 (stp wd setPpl (st, ok, s.l)).2.1), (906, iIs b6 b1), (907, iNx b7 b1)] ++ K) w' := by
  have hlen := hs.t.len
  refine enterM_args (args := [str wd, .pointer (some ⟨b4, 6, none⟩), ptr0 b6, ptr0 b7, ptr0 b5]) (F := _) hM0 Tryd.func89 rfl Tryd.ntmps89 rfl rfl ?_
  intro Rb hRb hRn
  refine T_seq ?_
  refine T_region ?_
  refine S_ 7 rfl rfl rfl _ (y_assign rfl rfl) ?_
  refine S_go (fun _ _ h => h) ?_
  refine T_seq ?_
  refine T_seq ?_
  refine T_region ?_
  refine S_ 10 rfl rfl rfl _ (y_load 906 rfl rfl rfl rfl Tryd.underlying83 rfl) ?_
  refine S_ 11 rfl rfl rfl _ (y_move rfl rfl) ?_
  refine S_ 12 rfl rfl rfl _ (y_call rfl rfl rfl cf87 (fun _ w hM => is_any wd b1 s w (hs.below hM.below) (hM.box_cell (i := 901) rfl rfl))) ?_
  refine S_ 13 rfl rfl rfl _ (y_not rfl rfl) ?_
  refine S_go (fun _ _ h => h) ?_
  refine T_cond rfl (fun h13 => ?_) (fun h13 => ?_)
  · skip
    have e1 : isW wd s.l = false := by simpa using h13
    refine T_seq ?_
    refine T_region ?_
    refine S_ 7 rfl rfl rfl _ (y_assign rfl rfl) ?_
    refine S_go (fun _ _ h => h) ?_
    refine T_ret (fun a w hF hM => hRb a w (post1 rfl rfl (fun w hM => ?_) a w hF hM))
    have e2 : stp wd setPpl (st, ok, s.l) = (st, ok, s.l) := if_neg (by rw [e1]; simp)
    have e3 : tkS wd s = s := if_neg (by rw [e1]; simp)
    rw [e2, e3, e1]
    exact ⟨(), rfl, trivial, hM.keep (ks := [(0, 999)]) (by repeat (first | exact kl_rest (by assumption) rfl | (apply kl_in; focus rfl))) _ ⟨rfl, rfl, rfl, rfl, rfl, trivial⟩⟩
  · skip
    have e1 : isW wd s.l = true := by simpa using h13
    have h2 := isW_len e1
    refine T_skip_go (fun _ _ h => h) ?_
    refine T_seq ?_
    refine T_region ?_
    refine S_ 15 rfl rfl rfl _ (y_load 907 rfl rfl rfl rfl Tryd.underlying112 rfl) ?_
    refine S_callM 16 [(901, 901)] (X := Unit) rfl rfl rfl rfl rfl rfl rfl cf88 rfl (fun _ => str (s.l.getD 1 [])) (fun _ => True) (fun _ => [(901, iW b1 (cutSl s 2))]) (fun _ => rfl) (fun _ => rfl) (fun K1 hK1 w hM => next_any hK1 b1 s hs (by omega) w hM) ?_
    intro u16 hu16
    refine S_ 17 rfl rfl rfl _ (y_call rfl rfl rfl cf90 (fun _ w _ => plainNumberR_any (s.l.getD 1 []) (hz _ (List.mem_of_getElem? (at_D (by omega)))) w)) ?_
    refine S_ 14 rfl rfl rfl _ (y_move rfl rfl) ?_
    refine S_ 18 rfl rfl rfl _ (y_extract rfl rfl rfl) ?_
    refine S_ 19 rfl rfl rfl _ (y_extract rfl rfl rfl) ?_
    refine S_ 8 rfl rfl rfl _ (y_assign rfl rfl) ?_
    refine S_ 9 rfl rfl rfl _ (y_assign rfl rfl) ?_
    refine S_go (fun _ _ h => h) ?_
    refine T_seq ?_
    refine T_region ?_
    refine S_ 20 rfl rfl rfl _ (y_move rfl rfl) ?_
    refine S_ 21 rfl rfl rfl _ (y_move rfl rfl) ?_
    refine S_ 22 rfl rfl rfl _ (y_nilCheck rfl rfl) ?_
    refine S_store 904 rfl rfl rfl rfl rfl rfl sz3 rfl rfl ?_
    refine S_go (fun _ _ h => h) ?_
    refine T_seq ?_
    refine T_region ?_
    refine S_ 23 rfl rfl rfl _ (y_load 905 rfl rfl rfl rfl Tryd.underlying4 rfl) ?_
    refine S_ 24 rfl rfl rfl _ (y_move rfl rfl) ?_
    refine Sg_ 25 rfl rfl rfl rfl rfl rfl _ (y_move rfl rfl) ?_
    refine S_ 26 rfl rfl rfl _ (y_and rfl rfl rfl) ?_
    refine S_store 905 rfl rfl rfl rfl rfl rfl sz4 rfl rfl ?_
    refine S_go (fun _ _ h => h) ?_
    refine T_seq ?_
    refine T_region ?_
    refine S_ 7 rfl rfl rfl _ (y_assign rfl rfl) ?_
    refine S_go (fun _ _ h => h) ?_
    refine T_ret (fun a w hF hM => hRb a w (post1 rfl rfl (fun w hM => ?_) a w hF hM))
    have e2 : stp wd setPpl (st, ok, s.l) = (setPpl st (sNum (s.l.getD 1 [])), ok && plainOk (s.l.getD 1 []) 10, s.l.drop 2) := if_pos e1
    have e3 : tkS wd s = cutSl s 2 := if_pos e1
    rw [e2, e3, e1]
    exact ⟨(), rfl, trivial, hM.keep (ks := [(0, 999)]) (by repeat (first | exact kl_rest (by assumption) rfl | (apply kl_in; focus rfl))) _ ⟨rfl, rfl, rfl, rfl, rfl, trivial⟩⟩
theorem takeAgain_any {w0 : World} {K : HL} (hK : FromK K) (b1 b4 b5 b6 b7 : Nat) (st : PSt) (ok : Bool) (s : SS) (hs : s.Ok strE 1 w0) (hz : ∀ x ∈ s.l, x.length ≤ 1000000000) (wd : List UInt8) (w : World)
    (hM0 : Mem w0 ([(901, iW b1 s), (904, iS b4 st), (905, iOk b5 ok), (906, iIs b6 b1), (907, iNx b7 b1)] ++ K) w) :
    Calls Tryd.prog 89 #[str wd, .pointer (some ⟨b4, 7, none⟩), ptr0 b6, ptr0 b7, ptr0 b5] w fun e w' => ∃ _u : Unit, e = .returned (.bool (isW wd s.l)) ∧ True ∧
      Mem w0 ([(901, iW b1 (tkS wd s)), (904, iS b4 (stp wd setAgain (st, ok, s.l)).1), (905, iOk b5 (stp wd setAgain (st, ok, s.l)).2.1), (906, iIs b6 b1), (907, iNx b7 b1)] ++ K) w' := by
  have hlen := hs.t.len
  refine enterM_args (args := [str wd, .pointer (some ⟨b4, 7, none⟩), ptr0 b6, ptr0 b7, ptr0 b5]) (F := _) hM0 Tryd.func89 rfl Tryd.ntmps89 rfl rfl ?_
  intro Rb hRb hRn
  refine T_seq ?_
  refine T_region ?_
  refine S_ 7 rfl rfl rfl _ (y_assign rfl rfl) ?_
  refine S_go (fun _ _ h => h) ?_
  refine T_seq ?_
  refine T_seq ?_
  refine T_region ?_
  refine S_ 10 rfl rfl rfl _ (y_load 906 rfl rfl rfl rfl Tryd.underlying83 rfl) ?_
  refine S_ 11 rfl rfl rfl _ (y_move rfl rfl) ?_
  refine S_ 12 rfl rfl rfl _ (y_call rfl rfl rfl cf87 (fun _ w hM => is_any wd b1 s w (hs.below hM.below) (hM.box_cell (i := 901) rfl rfl))) ?_
  refine S_ 13 rfl rfl rfl _ (y_not rfl rfl) ?_
  refine S_go (fun _ _ h => h) ?_
  refine T_cond rfl (fun h13 => ?_) (fun h13 => ?_)
  · skip
    have e1 : isW wd s.l = false := by simpa using h13
    refine T_seq ?_
    refine T_region ?_
    refine S_ 7 rfl rfl rfl _ (y_assign rfl rfl) ?_
    refine S_go (fun _ _ h => h) ?_
    refine T_ret (fun a w hF hM => hRb a w (post1 rfl rfl (fun w hM => ?_) a w hF hM))
    have e2 : stp wd setAgain (st, ok, s.l) = (st, ok, s.l) := if_neg (by rw [e1]; simp)
    have e3 : tkS wd s = s := if_neg (by rw [e1]; simp)
    rw [e2, e3, e1]
    exact ⟨(), rfl, trivial, hM.keep (ks := [(0, 999)]) (by repeat (first | exact kl_rest (by assumption) rfl | (apply kl_in; focus rfl))) _ ⟨rfl, rfl, rfl, rfl, rfl, trivial⟩⟩
  · skip
    have e1 : isW wd s.l = true := by simpa using h13
    have h2 := isW_len e1
    refine T_skip_go (fun _ _ h => h) ?_
    refine T_seq ?_
    refine T_region ?_
    refine S_ 15 rfl rfl rfl _ (y_load 907 rfl rfl rfl rfl Tryd.underlying112 rfl) ?_
    refine S_callM 16 [(901, 901)] (X := Unit) rfl rfl rfl rfl rfl rfl rfl cf88 rfl (fun _ => str (s.l.getD 1 [])) (fun _ => True) (fun _ => [(901, iW b1 (cutSl s 2))]) (fun _ => rfl) (fun _ => rfl) (fun K1 hK1 w hM => next_any hK1 b1 s hs (by omega) w hM) ?_
    intro u16 hu16
    refine S_ 17 rfl rfl rfl _ (y_call rfl rfl rfl cf90 (fun _ w _ => plainNumberR_any (s.l.getD 1 []) (hz _ (List.mem_of_getElem? (at_D (by omega)))) w)) ?_
    refine S_ 14 rfl rfl rfl _ (y_move rfl rfl) ?_
    refine S_ 18 rfl rfl rfl _ (y_extract rfl rfl rfl) ?_
    refine S_ 19 rfl rfl rfl _ (y_extract rfl rfl rfl) ?_
    refine S_ 8 rfl rfl rfl _ (y_assign rfl rfl) ?_
    refine S_ 9 rfl rfl rfl _ (y_assign rfl rfl) ?_
    refine S_go (fun _ _ h => h) ?_
    refine T_seq ?_
    refine T_region ?_
    refine S_ 20 rfl rfl rfl _ (y_move rfl rfl) ?_
    refine S_ 21 rfl rfl rfl _ (y_move rfl rfl) ?_
    refine S_ 22 rfl rfl rfl _ (y_nilCheck rfl rfl) ?_
    refine S_store 904 rfl rfl rfl rfl rfl rfl sz3 rfl rfl ?_
    refine S_go (fun _ _ h => h) ?_
    refine T_seq ?_
    refine T_region ?_
    refine S_ 23 rfl rfl rfl _ (y_load 905 rfl rfl rfl rfl Tryd.underlying4 rfl) ?_
    refine S_ 24 rfl rfl rfl _ (y_move rfl rfl) ?_
    refine Sg_ 25 rfl rfl rfl rfl rfl rfl _ (y_move rfl rfl) ?_
    refine S_ 26 rfl rfl rfl _ (y_and rfl rfl rfl) ?_
    refine S_store 905 rfl rfl rfl rfl rfl rfl sz4 rfl rfl ?_
    refine S_go (fun _ _ h => h) ?_
    refine T_seq ?_
    refine T_region ?_
    refine S_ 7 rfl rfl rfl _ (y_assign rfl rfl) ?_
    refine S_go (fun _ _ h => h) ?_
    refine T_ret (fun a w hF hM => hRb a w (post1 rfl rfl (fun w hM => ?_) a w hF hM))
    have e2 : stp wd setAgain (st, ok, s.l) = (setAgain st (sNum (s.l.getD 1 [])), ok && plainOk (s.l.getD 1 []) 10, s.l.drop 2) := if_pos e1
    have e3 : tkS wd s = cutSl s 2 := if_pos e1
    rw [e2, e3, e1]
    exact ⟨(), rfl, trivial, hM.keep (ks := [(0, 999)]) (by repeat (first | exact kl_rest (by assumption) rfl | (apply kl_in; focus rfl))) _ ⟨rfl, rfl, rfl, rfl, rfl, trivial⟩⟩
end Go.Proofs.YtkkngcdikbhkjaaDoor
end
section
namespace Go.Proofs.YtkkngcdikbhkjaaDoor
set_option linter.unusedSimpArgs false
set_option linter.unusedVariables false
set_option maxRecDepth 20000
open Go.RowKit Go.Eng
theorem IndexT_any (A : Option Addr) (q c : Nat) (l : List (List UInt8)) (s : List UInt8) (w : World) (hl : SlT strE 1 w A q l) (hq : q ≤ 4611686018427387904) :
    Calls Tryd.prog 31 #[.slice A q c, str s] w fun e w' => e = .returned (.int .i64 (idxF s l 0)) ∧ Below w.heap.size w w' := by
  have hlen := hl.len
  refine enter_args (args := [.slice A q c, str s]) (F := _) Tryd.func31 rfl Tryd.ntmps31 rfl rfl ?_
  intro Rb hRb hRn
  refine T_seq ?_
  refine T_region ?_
  refine S_ 4 rfl rfl rfl _ (y_assign rfl rfl) ?_
  refine S_go (fun _ _ h => h) ?_
  refine T_seq ?_
  refine T_seq ?_
  refine T_region ?_
  refine S_ 6 rfl rfl rfl _ (y_move rfl rfl) ?_
  refine S_ 7 rfl rfl rfl _ (y_len_slice rfl rfl Tryd.underlying46) ?_
  refine S_ 8 rfl rfl rfl _ (y_move rfl rfl) ?_
  refine S_go (fun _ _ h => h) ?_
  refine T_block ?_
  refine T_loopK1 (kf := [(4, 5), (8, 18)]) (kl := [(4, 5), (8, 18)]) (fun (i : Nat) => [(8, true, .int .i64 (i : Int))]) (fun (i : Nat) => []) (fun (i : Nat) => i ≤ q ∧ idxF s (l.drop i) (i : Int) = idxF s l 0) (fun (i : Nat) => q - i) 0 (by repeat (first | exact kf_nil | (apply kf_in; focus rfl) | (apply kf_out; focus rfl))) (by repeat (first | exact kl_nil | exact kl_rest (by assumption) rfl | (apply kl_in; focus rfl) | (apply kl_out; focus rfl))) ?_ ?_ ?_ ?_
  · exact ⟨by omega, rfl⟩
  · exact ⟨rfl, trivial⟩
  · exact trivial
  rintro i ⟨hp1, hp2⟩
  refine T_seq ?_
  refine T_region ?_
  refine S_ 9 rfl rfl rfl _ (y_bin rfl rfl rfl (fun _ => b_lss)) ?_
  refine S_go (fun _ _ h => h) ?_
  refine T_seq ?_
  refine T_cond rfl (fun h9 => ?_) (fun h9 => ?_)
  · try simp only [decide_eq_true_eq, decide_eq_false_iff_not, Bool.or_eq_true, Bool.or_eq_false_iff, Bool.and_eq_true, Bool.and_eq_false_iff, Bool.not_eq_true', Bool.not_eq_false', Bool.not_eq_true, Bool.not_eq_false, Bool.not_true, Bool.not_false, Int.not_lt, Int.not_le, not_or, not_and, Classical.not_not] at h9
    obtain ⟨x, hx1, hx2⟩ := hl.at (i := i) (by omega)
    rw [hx2, idxF] at hp2
    refine T_skip_go (fun _ _ h => h) ?_
    refine T_seq ?_
    refine T_block ?_
    refine T_seq ?_
    refine T_region ?_
    refine S_ 10 rfl rfl rfl _ (y_move rfl rfl) ?_
    refine S_ 5 rfl rfl rfl _ (y_assign rfl rfl) ?_
    refine S_go (fun _ _ h => h) ?_
    refine T_seq ?_
    refine T_region ?_
    refine S_ 11 rfl rfl rfl _ (y_move rfl rfl) ?_
    refine S_ 12 rfl rfl rfl _ (y_move rfl rfl) ?_
    refine S_ 13 rfl rfl rfl _ (y_move rfl rfl) ?_
    refine S_ 14 rfl rfl rfl _ (y_indexAddr rfl rfl rfl Tryd.underlying46 sz9 (fun hg => hl.isSome (by omega)) (fun _ => by omega)) ?_
    refine S_ 15 rfl rfl rfl _ (y_loadT1 (val := (fun l : List UInt8 => str l)) rfl rfl hl (fun _ => hx1) Tryd.underlying9 rfl) ?_
    refine S_ 16 rfl rfl rfl _ (y_bin rfl rfl rfl (fun _ => b_eqls)) ?_
    refine S_go (fun _ _ h => h) ?_
    refine T_cond rfl (fun h16 => ?_) (fun h16 => ?_)
    · skip
      have h16e : s = x := by simpa using h16
      rw [if_pos h16e] at hp2
      refine T_seq ?_
      refine T_region ?_
      refine S_ 17 rfl rfl rfl _ (y_move rfl rfl) ?_
      refine S_ 4 rfl rfl rfl _ (y_assign rfl rfl) ?_
      refine S_go (fun _ _ h => h) ?_
      refine T_ret (fun a w hF hM => hRb a w (post1 rfl rfl (fun w hM => ?_) a w hF hM))
      exact ⟨by rw [← hp2], hM.below⟩
    · skip
      have h16e : ¬ s = x := by simpa using h16
      rw [if_neg h16e] at hp2
      refine T_skip_go (fun _ _ h => h) ?_
      refine T_region ?_
      refine S_ 18 rfl rfl rfl _ (y_bin rfl rfl rfl (fun hg => b_add (by omega))) ?_
      refine S_ 8 rfl rfl rfl _ (y_move rfl rfl) ?_
      refine S_nil (nextK1 (kf := [(4, 5), (8, 18)]) (kl := [(4, 5), (8, 18)]) (i + 1) (by repeat (first | exact kf_nil | (apply kf_in; focus rfl) | (apply kf_out; focus rfl))) (by repeat (first | exact kl_nil | exact kl_rest (by assumption) rfl | (apply kl_in; focus rfl) | (apply kl_out; focus rfl))) ?_ ?_ ?_ ?_)
      · omega
      · exact ⟨by omega, hp2⟩
      · exact ⟨rfl, trivial⟩
      · exact trivial
  · try simp only [decide_eq_true_eq, decide_eq_false_iff_not, Bool.or_eq_true, Bool.or_eq_false_iff, Bool.and_eq_true, Bool.and_eq_false_iff, Bool.not_eq_true', Bool.not_eq_false', Bool.not_eq_true, Bool.not_eq_false, Bool.not_true, Bool.not_false, Int.not_lt, Int.not_le, not_or, not_and, Classical.not_not] at h9
    refine T_exit_go (fun _ _ h => h) ?_
    refine T_seq ?_
    refine T_region ?_
    refine S_ 4 rfl rfl rfl _ (y_assign rfl rfl) ?_
    refine S_go (fun _ _ h => h) ?_
    refine T_ret (fun a w hF hM => hRb a w (post1 rfl rfl (fun w hM => ?_) a w hF hM))
    exact ⟨by rw [← hp2, hl.end (by omega)]; rfl, hM.below⟩
theorem kw_slT {w : World} (h : KW w) : SlT strE 1 w (some ⟨0, 1, none⟩) 3 [wdOpen, wdRes, wdIgn] := by
  refine ⟨⟨rfl, fun _ => ⟨_, rfl, h.2, fun j u hu => ?_⟩⟩, rfl⟩
  match j, hu with
  | 0, hu => cases hu; exact h.1 1 (by decide)
  | 1, hu => cases hu; exact h.1 2 (by decide)
  | 2, hu => cases hu; exact h.1 3 (by decide)
  | _ + 3, hu => cases hu
theorem kindS_le (a : List UInt8) : 0 ≤ kindS a ∧ kindS a ≤ 3 := by
  unfold kindS
  simp only [idxF]
  repeat' split
  all_goals omega
theorem chain_step {wd : List UInt8} {set : PSt → Int → PSt} {st : PSt} {ok : Bool} {s s' : SS} {y : StR} (h : y = stp wd set (st, ok, s.l)) (k : s' = tkS wd s) : stp wd set (st, ok, s.l) = (y.1, y.2.1, s'.l) := by
  subst h; subst k; rw [tkS_l wd set st ok s]
theorem again_step {st : PSt} {ok : Bool} {s s' : SS} {y : StR} (h : y = stp wdAgain setAgain (st, ok, s.l)) (k : s' = tkS wdAgain s) : stAgain (st, ok, s.l) = (y.1, (if isW wdAgain s.l = true then y.2.1 && !decide (y.1.again = 0) else y.2.1), s'.l) := by
  have e := chain_step h k
  rw [stAgain]
  show (if isW wdAgain s.l = true then _ else _) = _
  rw [e]
  by_cases hi : isW wdAgain s.l = true
  · rw [if_pos hi, if_pos hi]
  · rw [if_neg hi, if_neg hi]
    rw [← e]; exact (stp_no (by simpa using hi)).symm
theorem z83 : ∀ w, (zeroValue 83).run Tryd.prog w = .ok .nilFunc w := fun _ => by kernel_rfl
theorem z112 : ∀ w, (zeroValue 112).run Tryd.prog w = .ok .nilFunc w := fun _ => by kernel_rfl
theorem readState_any (s : SS) (w : World) (hs : s.Ok strE 1 w) (h0 : 0 < s.q) (hz : ∀ x ∈ s.l, x.length ≤ 1000000000) (hK : KW w) :
    Calls Tryd.prog 29 #[.slice s.A s.q s.c] w fun e w' => e = .returned (.tuple #[(stZ s.l).1.val, .bool ((stZ s.l).2.1 && decide ((((stZ s.l).2.2.length : Nat) : Int) = 0))]) ∧ Below w.heap.size w w' := by
  have hlen := hs.t.len
  have hcap := hs.cap
  have hkb := kindS_le (s.l.getD 0 [])
  unfold kindS at hkb
  have hs0 : (cutSl s 1).Ok strE 1 w := cutSl_ok hs 1 h0
  have hz0 : ∀ x ∈ (cutSl s 1).l, x.length ≤ 1000000000 := fun x hx => hz x (List.mem_of_mem_drop hx)
  refine enter_args (args := [.slice s.A s.q s.c]) (F := _) Tryd.func29 rfl Tryd.ntmps29 rfl rfl ?_
  intro Rb hRb hRn
  refine T_seq ?_
  refine T_region ?_
  refine S_box 1 1 rfl rfl rfl rfl rfl ?_
  intro b1
  refine S_alloc 2 2 rfl rfl rfl rfl z40 ?_
  intro b2
  refine S_ 3 rfl rfl rfl _ (y_assign rfl rfl) ?_
  refine S_go (fun _ _ h => h) ?_
  refine T_seq ?_
  refine T_cut1 (fun b4 : Nat => [(1, true, ptr0 b1), (2, true, ptr0 b2), (4, true, ptr0 b4)]) (fun b4 : Nat => [(1, iW b1 s), (2, iS b2 ⟨0, 0, [], false, 0, 0, 0, 0⟩), (4, iS b4 (stB s.l).1)]) ?_ ?_
  · refine T_tree (PTree.one 0 (PTree.one 1 (PTree.one 2 (PTree.one 3 (PTree.two 4 (PTree.one 5 (PTree.one 6 (PTree.one 7 (PTree.one 8 PTree.nil)))) 7 (PTree.one 4 (PTree.one 5 (PTree.one 6 (PTree.one 8 PTree.nil))))))))) [true, true, true, true, false, true, true, false, false] [0, 0, 2, 6, 15, 31, 63, 0, 255] [(1, [1])] (by kernel_rfl) (by kernel_rfl) (by kernel_rfl) rfl (by kernel_rfl) ?_
    refine R2f_ 0 9 rfl rfl rfl rfl rfl _ trivial (Y.z (y_sliceArr (lo := 1) rfl rfl Tryd.underlying64 sz9 rfl (by decide)) rfl) ?_
    refine R2f_ 1 10 rfl rfl rfl rfl rfl _ ⟨rfl, trivial⟩ (Y.z (y_load 1 rfl rfl rfl rfl Tryd.underlying46 rfl) rfl) ?_
    refine R2f_ 2 11 rfl rfl rfl rfl rfl _ trivial (Y.z (y_indexAddrI (j := 0) rfl rfl rfl (fun _ => rfl) Tryd.underlying46 sz9 (fun hg => hs.t.isSome (by omega)) (fun _ => by omega)) rfl) ?_
    refine R2f_ 3 12 rfl rfl rfl rfl rfl _ trivial (Y.z (y_loadT1 (val := (fun l : List UInt8 => str l)) rfl rfl hs.t (fun _ => at_D (by omega)) Tryd.underlying9 rfl) rfl) ?_
    refine R2_two rfl rfl ?_ ?_
    · skip
      refine S_ 13 rfl rfl rfl _ (y_call rfl rfl rfl cf31 (fun _ w hM => IndexT_any _ 3 3 [wdOpen, wdRes, wdIgn] _ w ((kw_slT hK).below hM.below) (by decide))) ?_
      refine R2_next ⟨.inl rfl, trivial⟩ ?_
      refine R2f_ 5 14 rfl rfl rfl rfl rfl _ trivial (Y.z (y_bin rfl rfl rfl (fun hg => b_add (by omega))) rfl) ?_
      refine R2f_ 6 15 rfl rfl rfl rfl rfl _ trivial (Y.z (y_build (zv := .agg #[.int .i64 0, .int .i64 0, .string ⟨#[]⟩, .bool false, .int .i64 0, .int .i64 0, .int .i64 0, .int .i64 0]) (pl := [(0, 1), (1, 1), (2, 1), (3, 1), (4, 1), (5, 1), (6, 1), (7, 1)]) (out := [_, .int .i64 0, .string ⟨#[]⟩, .bool false, _, _, _, .int .i64 0]) rfl rfl Tryd.underlying40 z40 (by kernel_rfl) rfl) rfl) ?_
      refine R2_chain 7 rfl rfl ?_
      refine S_alloc 4 4 rfl rfl rfl rfl z40 ?_
      intro b4
      refine R2_next ⟨.inr ⟨rfl, trivial⟩, trivial⟩ ?_
      refine R2_chain 8 rfl rfl ?_
      refine S_store 4 rfl rfl rfl rfl rfl rfl sz40 rfl rfl ?_
      refine R2_next ⟨.inl rfl, trivial⟩ ?_
      exact R2_nil (fun a w hF hM => ⟨b4, hF.sub (by exact ⟨rfl, rfl, rfl, trivial⟩), hM.sub (by exact ⟨rfl, rfl, rfl, trivial⟩)⟩)
    · skip
      refine S_alloc 4 4 rfl rfl rfl rfl z40 ?_
      intro b4
      refine R2_next ⟨.inr ⟨rfl, trivial⟩, trivial⟩ ?_
      refine R2_chain 4 rfl rfl ?_
      refine S_ 13 rfl rfl rfl _ (y_call rfl rfl rfl cf31 (fun _ w hM => IndexT_any _ 3 3 [wdOpen, wdRes, wdIgn] _ w ((kw_slT hK).below hM.below) (by decide))) ?_
      refine R2_next ⟨.inl rfl, trivial⟩ ?_
      refine R2f_ 5 14 rfl rfl rfl rfl rfl _ trivial (Y.z (y_bin rfl rfl rfl (fun hg => b_add (by omega))) rfl) ?_
      refine R2f_ 6 15 rfl rfl rfl rfl rfl _ trivial (Y.z (y_build (zv := .agg #[.int .i64 0, .int .i64 0, .string ⟨#[]⟩, .bool false, .int .i64 0, .int .i64 0, .int .i64 0, .int .i64 0]) (pl := [(0, 1), (1, 1), (2, 1), (3, 1), (4, 1), (5, 1), (6, 1), (7, 1)]) (out := [_, .int .i64 0, .string ⟨#[]⟩, .bool false, _, _, _, .int .i64 0]) rfl rfl Tryd.underlying40 z40 (by kernel_rfl) rfl) rfl) ?_
      refine R2_chain 8 rfl rfl ?_
      refine S_store 4 rfl rfl rfl rfl rfl rfl sz40 rfl rfl ?_
      refine R2_next ⟨.inl rfl, trivial⟩ ?_
      exact R2_nil (fun a w hF hM => ⟨b4, hF.sub (by exact ⟨rfl, rfl, rfl, trivial⟩), hM.sub (by exact ⟨rfl, rfl, rfl, trivial⟩)⟩)
  intro b4
  refine S_go (fun _ _ h => h) ?_
  refine T_seq ?_
  refine T_region ?_
  refine S_ 16 rfl rfl rfl _ (y_load 1 rfl rfl rfl rfl Tryd.underlying46 rfl) ?_
  refine S_ 17 rfl rfl rfl _ (y_slice (lo := 1) (hi := s.q) rfl rfl Tryd.underlying46 sz9 (.inr ⟨_, _, rfl, rfl⟩) (.inl ⟨rfl, rfl⟩) h0 (Nat.le_refl _) hcap) ?_
  refine S_store 1 rfl rfl rfl rfl rfl rfl sz46 rfl rfl ?_
  refine S_go (fun _ _ h => h) ?_
  refine T_seq ?_
  refine T_region ?_
  refine S_ 18 rfl rfl rfl _ (y_fieldAddr rfl rfl fa40_0) ?_
  refine S_ 19 rfl rfl rfl _ (y_load 4 rfl rfl rfl rfl Tryd.underlying3 rfl) ?_
  refine S_ 20 rfl rfl rfl _ (y_bin rfl rfl rfl (fun _ => b_gtr)) ?_
  refine S_alloc 5 5 rfl rfl rfl rfl z4 ?_
  intro b5
  refine S_store 5 rfl rfl rfl rfl rfl rfl sz4 rfl rfl ?_
  refine S_go (fun _ _ h => h) ?_
  refine T_seq ?_
  refine T_region ?_
  refine S_ 21 rfl rfl rfl _ (y_makeFunc rfl rfl rfl rfl rfl) ?_
  refine S_alloc 6 6 rfl rfl rfl rfl z83 ?_
  intro b6
  refine S_store 6 rfl rfl rfl rfl rfl rfl sz83 rfl rfl ?_
  refine S_go (fun _ _ h => h) ?_
  refine T_seq ?_
  refine T_region ?_
  refine S_ 22 rfl rfl rfl _ (y_makeFunc rfl rfl rfl rfl rfl) ?_
  refine S_alloc 7 7 rfl rfl rfl rfl z112 ?_
  intro b7
  refine S_store 7 rfl rfl rfl rfl rfl rfl sz112 rfl rfl ?_
  refine S_go (fun _ _ h => h) ?_
  refine T_seq ?_
  refine T_region ?_
  refine S_ 23 rfl rfl rfl _ (y_makeFunc rfl rfl rfl rfl rfl) ?_
  refine S_ 8 rfl rfl rfl _ (y_assign rfl rfl) ?_
  refine S_go (fun _ _ h => h) ?_
  refine T_seq ?_
  refine T_region ?_
  refine S_ 24 rfl rfl rfl _ (y_move rfl rfl) ?_
  refine S_ 25 rfl rfl rfl _ (y_fieldAddr rfl rfl fa40_1) ?_
  refine S_callM 26 [(901, 1), (904, 4), (905, 5), (906, 6), (907, 7)] (X := StR × SS) rfl rfl rfl rfl rfl rfl rfl cf89 rfl (fun _ => .bool (isW wdAt (cutSl s 1).l)) (fun z => z.1 = stp wdAt setAt ((stB s.l).1, (stB s.l).2.1, (cutSl s 1).l) ∧ z.2 = tkS wdAt (cutSl s 1)) (fun z => [(901, iW b1 z.2), (904, iS b4 z.1.1), (905, iOk b5 z.1.2.1), (906, iIs b6 b1), (907, iNx b7 b1)]) (fun _ => rfl) (fun _ => rfl) (fun K1 hK1 w1 hM => (takeAt_any hK1 b1 b4 b5 b6 b7 ((stB s.l).1) ((stB s.l).2.1) (cutSl s 1) hs0 hz0 wdAt w1 hM).mono fun e w2 ⟨_, h1, _, h2⟩ => ⟨(_, _), h1, ⟨rfl, rfl⟩, h2⟩) ?_
  rintro ⟨y1, s1⟩ ⟨h1, k1⟩
  dsimp only at h1 k1
  have hs1 : s1.Ok strE 1 w := by rw [k1]; exact tkS_ok hs0
  have hz1 : ∀ x ∈ s1.l, x.length ≤ 1000000000 := by rw [k1]; exact tkS_mem hz0
  refine S_ 27 rfl rfl rfl _ (y_move rfl rfl) ?_
  refine Sg_ 28 rfl rfl rfl rfl rfl rfl _ (y_load 5 rfl rfl rfl rfl Tryd.underlying4 rfl) ?_
  refine S_ 29 rfl rfl rfl _ (y_and rfl rfl rfl) ?_
  refine S_store 5 rfl rfl rfl rfl rfl rfl sz4 rfl rfl ?_
  refine S_go (fun _ _ h => h) ?_
  refine T_seq ?_
  refine T_seq ?_
  refine T_region ?_
  refine S_ 30 rfl rfl rfl _ (y_load 6 rfl rfl rfl rfl Tryd.underlying83 rfl) ?_
  refine S_ 31 rfl rfl rfl _ (y_call rfl rfl rfl cf87 (fun _ w hM => is_any wdIn b1 s1 w (hs1.below hM.below) (hM.box_cell (i := 1) rfl rfl))) ?_
  refine S_ 32 rfl rfl rfl _ (y_move rfl rfl) ?_
  refine Sg_ 33 rfl rfl rfl rfl rfl rfl _ (y_load 6 rfl rfl rfl rfl Tryd.underlying83 rfl) ?_
  refine Sg_ 34 rfl rfl rfl rfl rfl rfl _ (y_call rfl rfl rfl cf87 (fun _ w hM => is_any wdAfter b1 s1 w (hs1.below hM.below) (hM.box_cell (i := 1) rfl rfl))) ?_
  refine S_ 35 rfl rfl rfl _ (y_or rfl rfl rfl) ?_
  refine S_go (fun _ _ h => h) ?_
  refine T_cond rfl (fun h35 => ?_) (fun h35 => ?_)
  · skip
    have h2l : 2 ≤ s1.l.length := by
      rcases Bool.or_eq_true_iff.1 h35 with h | h
      · exact isW_len h
      · exact isW_len h
    refine T_seq ?_
    refine T_region ?_
    refine S_ 36 rfl rfl rfl _ (y_load 6 rfl rfl rfl rfl Tryd.underlying83 rfl) ?_
    refine S_ 37 rfl rfl rfl _ (y_call rfl rfl rfl cf87 (fun _ w hM => is_any wdAfter b1 s1 w (hs1.below hM.below) (hM.box_cell (i := 1) rfl rfl))) ?_
    refine S_ 38 rfl rfl rfl _ (y_fieldAddr rfl rfl fa40_3) ?_
    refine S_store 4 rfl rfl rfl rfl rfl rfl sz4 rfl rfl ?_
    refine S_go (fun _ _ h => h) ?_
    refine T_seq ?_
    refine T_region ?_
    refine S_ 39 rfl rfl rfl _ (y_load 7 rfl rfl rfl rfl Tryd.underlying112 rfl) ?_
    refine S_callM 40 [(901, 1)] (X := Unit) rfl rfl rfl rfl rfl rfl rfl cf88 rfl (fun _ => str (s1.l.getD 1 [])) (fun _ => True) (fun _ => [(901, iW b1 (cutSl s1 2))]) (fun _ => rfl) (fun _ => rfl) (fun K1 hK1 w1 hM => next_any hK1 b1 s1 hs1 (by rw [← hs1.t.len]; omega) w1 hM) ?_
    intro u40 hu40
    refine S_ 41 rfl rfl rfl _ (y_fieldAddr rfl rfl fa40_2) ?_
    refine S_store 4 rfl rfl rfl rfl rfl rfl sz9 rfl rfl ?_
    refine S_go (fun _ _ h => h) ?_
    refine T_region ?_
    refine S_ 42 rfl rfl rfl _ (y_load 5 rfl rfl rfl rfl Tryd.underlying4 rfl) ?_
    refine S_ 43 rfl rfl rfl _ (y_move rfl rfl) ?_
    refine Sg_ 44 rfl rfl rfl rfl rfl rfl _ (y_fieldAddr rfl rfl fa40_2) ?_
    refine Sg_ 45 rfl rfl rfl rfl rfl rfl _ (y_load 4 rfl rfl rfl rfl Tryd.underlying9 rfl) ?_
    refine Sg_ 46 rfl rfl rfl rfl rfl rfl _ (y_bin rfl rfl rfl (fun _ => b_neqs)) ?_
    refine S_ 47 rfl rfl rfl _ (y_and rfl rfl rfl) ?_
    refine S_store 5 rfl rfl rfl rfl rfl rfl sz4 rfl rfl ?_
    refine S_go (fun _ _ h => h) ?_
    refine T_seq ?_
    refine T_region ?_
    refine S_ 48 rfl rfl rfl _ (y_move rfl rfl) ?_
    refine S_ 49 rfl rfl rfl _ (y_fieldAddr rfl rfl fa40_4) ?_
    refine S_callM 50 [(901, 1), (904, 4), (905, 5), (906, 6), (907, 7)] (X := StR × SS) rfl rfl rfl rfl rfl rfl rfl cf89 rfl (fun _ => .bool (isW wdTill ((cutSl s1 2)).l)) (fun z => z.1 = stp wdTill setTill (({ y1.1 with nx := isW wdAfter s1.l, inn := s1.l.getD 1 [] } : PSt), ((isW wdAt (cutSl s 1).l && y1.2.1) && !decide (s1.l.getD 1 [] = [])), ((cutSl s1 2)).l) ∧ z.2 = tkS wdTill ((cutSl s1 2))) (fun z => [(901, iW b1 z.2), (904, iS b4 z.1.1), (905, iOk b5 z.1.2.1), (906, iIs b6 b1), (907, iNx b7 b1)]) (fun _ => rfl) (fun _ => rfl) (fun K1 hK1 w1 hM => (takeTill_any hK1 b1 b4 b5 b6 b7 (({ y1.1 with nx := isW wdAfter s1.l, inn := s1.l.getD 1 [] } : PSt)) (((isW wdAt (cutSl s 1).l && y1.2.1) && !decide (s1.l.getD 1 [] = []))) ((cutSl s1 2)) (cutSl_ok hs1 2 (by rw [← hs1.t.len]; omega)) (fun x hx => hz1 x (List.mem_of_mem_drop hx)) wdTill w1 hM).mono fun e w2 ⟨_, h1, _, h2⟩ => ⟨(_, _), h1, ⟨rfl, rfl⟩, h2⟩) ?_
    rintro ⟨y3, s3⟩ ⟨h3, k3⟩
    dsimp only at h3 k3
    have hs3 : s3.Ok strE 1 w := by rw [k3]; exact tkS_ok (cutSl_ok hs1 2 (by rw [← hs1.t.len]; omega))
    have hz3 : ∀ x ∈ s3.l, x.length ≤ 1000000000 := by rw [k3]; exact tkS_mem (fun x hx => hz1 x (List.mem_of_mem_drop hx))
    refine S_go (fun _ _ h => h) ?_
    refine T_seq ?_
    refine T_region ?_
    refine S_ 51 rfl rfl rfl _ (y_move rfl rfl) ?_
    refine S_ 52 rfl rfl rfl _ (y_fieldAddr rfl rfl fa40_5) ?_
    refine S_callM 53 [(901, 1), (904, 4), (905, 5), (906, 6), (907, 7)] (X := StR × SS) rfl rfl rfl rfl rfl rfl rfl cf89 rfl (fun _ => .bool (isW wdMore (s3).l)) (fun z => z.1 = stp wdMore setMore (y3.1, y3.2.1, (s3).l) ∧ z.2 = tkS wdMore (s3)) (fun z => [(901, iW b1 z.2), (904, iS b4 z.1.1), (905, iOk b5 z.1.2.1), (906, iIs b6 b1), (907, iNx b7 b1)]) (fun _ => rfl) (fun _ => rfl) (fun K1 hK1 w1 hM => (takeMore_any hK1 b1 b4 b5 b6 b7 (y3.1) (y3.2.1) (s3) hs3 hz3 wdMore w1 hM).mono fun e w2 ⟨_, h1, _, h2⟩ => ⟨(_, _), h1, ⟨rfl, rfl⟩, h2⟩) ?_
    rintro ⟨y4, s4⟩ ⟨h4, k4⟩
    dsimp only at h4 k4
    have hs4 : s4.Ok strE 1 w := by rw [k4]; exact tkS_ok hs3
    have hz4 : ∀ x ∈ s4.l, x.length ≤ 1000000000 := by rw [k4]; exact tkS_mem hz3
    refine S_go (fun _ _ h => h) ?_
    refine T_seq ?_
    refine T_region ?_
    refine S_ 54 rfl rfl rfl _ (y_move rfl rfl) ?_
    refine S_ 55 rfl rfl rfl _ (y_fieldAddr rfl rfl fa40_6) ?_
    refine S_callM 56 [(901, 1), (904, 4), (905, 5), (906, 6), (907, 7)] (X := StR × SS) rfl rfl rfl rfl rfl rfl rfl cf89 rfl (fun _ => .bool (isW wdPpl (s4).l)) (fun z => z.1 = stp wdPpl setPpl (y4.1, y4.2.1, (s4).l) ∧ z.2 = tkS wdPpl (s4)) (fun z => [(901, iW b1 z.2), (904, iS b4 z.1.1), (905, iOk b5 z.1.2.1), (906, iIs b6 b1), (907, iNx b7 b1)]) (fun _ => rfl) (fun _ => rfl) (fun K1 hK1 w1 hM => (takePpl_any hK1 b1 b4 b5 b6 b7 (y4.1) (y4.2.1) (s4) hs4 hz4 wdPpl w1 hM).mono fun e w2 ⟨_, h1, _, h2⟩ => ⟨(_, _), h1, ⟨rfl, rfl⟩, h2⟩) ?_
    rintro ⟨y5, s5⟩ ⟨h5, k5⟩
    dsimp only at h5 k5
    have hs5 : s5.Ok strE 1 w := by rw [k5]; exact tkS_ok hs4
    have hz5 : ∀ x ∈ s5.l, x.length ≤ 1000000000 := by rw [k5]; exact tkS_mem hz4
    refine S_go (fun _ _ h => h) ?_
    refine T_seq ?_
    refine T_seq ?_
    refine T_region ?_
    refine S_ 57 rfl rfl rfl _ (y_move rfl rfl) ?_
    refine S_ 58 rfl rfl rfl _ (y_fieldAddr rfl rfl fa40_7) ?_
    refine S_callM 59 [(901, 1), (904, 4), (905, 5), (906, 6), (907, 7)] (X := StR × SS) rfl rfl rfl rfl rfl rfl rfl cf89 rfl (fun _ => .bool (isW wdAgain (s5).l)) (fun z => z.1 = stp wdAgain setAgain (y5.1, y5.2.1, (s5).l) ∧ z.2 = tkS wdAgain (s5)) (fun z => [(901, iW b1 z.2), (904, iS b4 z.1.1), (905, iOk b5 z.1.2.1), (906, iIs b6 b1), (907, iNx b7 b1)]) (fun _ => rfl) (fun _ => rfl) (fun K1 hK1 w1 hM => (takeAgain_any hK1 b1 b4 b5 b6 b7 (y5.1) (y5.2.1) (s5) hs5 hz5 wdAgain w1 hM).mono fun e w2 ⟨_, h1, _, h2⟩ => ⟨(_, _), h1, ⟨rfl, rfl⟩, h2⟩) ?_
    rintro ⟨y6, s6⟩ ⟨h6, k6⟩
    dsimp only at h6 k6
    have hs6 : s6.Ok strE 1 w := by rw [k6]; exact tkS_ok hs5
    have hz6 : ∀ x ∈ s6.l, x.length ≤ 1000000000 := by rw [k6]; exact tkS_mem hz5
    refine S_go (fun _ _ h => h) ?_
    refine T_cond rfl (fun h59 => ?_) (fun h59 => ?_)
    · skip
      refine T_region ?_
      refine S_ 60 rfl rfl rfl _ (y_load 5 rfl rfl rfl rfl Tryd.underlying4 rfl) ?_
      refine S_ 61 rfl rfl rfl _ (y_move rfl rfl) ?_
      refine Sg_ 62 rfl rfl rfl rfl rfl rfl _ (y_fieldAddr rfl rfl fa40_7) ?_
      refine Sg_ 63 rfl rfl rfl rfl rfl rfl _ (y_load 4 rfl rfl rfl rfl Tryd.underlying3 rfl) ?_
      refine Sg_ 64 rfl rfl rfl rfl rfl rfl _ (y_bin rfl rfl rfl (fun _ => b_neq)) ?_
      refine S_ 65 rfl rfl rfl _ (y_and rfl rfl rfl) ?_
      refine S_store 5 rfl rfl rfl rfl rfl rfl sz4 rfl rfl ?_
      refine S_go (fun _ _ h => h) ?_
      refine T_seq ?_
      refine T_perm [0, 1, 2, 3, 4, 5, 6, 7, 8] [true, true, true, true, true, true, true, false, true] [0, 0, 2, 6, 14, 30, 62, 7, 255] [(0, [4]), (1, [5]), (3, [1])] (by kernel_rfl) (by kernel_rfl) (by kernel_rfl) rfl (by kernel_rfl) ?_
      refine Rf_ 0 66 rfl rfl rfl rfl rfl _ ⟨rfl, trivial⟩ (Y.z (y_loadA 4 rfl rfl rfl Tryd.underlying40 rfl sz40) rfl) ?_
      refine Rf_ 1 67 rfl rfl rfl rfl rfl _ ⟨rfl, trivial⟩ (Y.z (y_load 5 rfl rfl rfl rfl Tryd.underlying4 rfl) rfl) ?_
      refine Rf_ 2 68 rfl rfl rfl rfl rfl _ trivial (Y.z (y_move rfl rfl) rfl) ?_
      refine Rfg_ 3 69 rfl rfl rfl rfl rfl rfl rfl rfl _ ⟨rfl, trivial⟩ (Y.z (y_load 1 rfl rfl rfl rfl Tryd.underlying46 rfl) rfl) ?_
      refine Rfg_ 4 70 rfl rfl rfl rfl rfl rfl rfl rfl _ trivial (zg_len rfl rfl Tryd.underlying46) ?_
      refine Rfg_ 5 71 rfl rfl rfl rfl rfl rfl rfl rfl _ trivial (Y.z (y_bin rfl rfl rfl (fun _ => b_eql)) rfl) ?_
      refine Rf_ 6 72 rfl rfl rfl rfl rfl _ trivial (Y.z (y_and rfl rfl rfl) rfl) ?_
      refine R_chain 7 rfl rfl ?_
      refine S_store 2 rfl rfl rfl rfl rfl rfl sz40 rfl rfl ?_
      refine R_next ⟨.inl rfl, .inl rfl, .inr ⟨rfl, trivial⟩, trivial⟩ ?_
      refine Rf_ 8 3 rfl rfl rfl rfl rfl _ trivial (Y.z (y_assign rfl rfl) rfl) ?_
      refine R_go (fun _ _ h => h) ?_
      refine T_ret (fun a w hF hM => hRb a w (post_cell 2 rfl rfl rfl rfl Tryd.underlying40 rfl (by exact sz40) (fun w hM => ?_) a w hF hM))
      have e1 : stAt (stB s.l) = (y1.1, (isW wdAt (cutSl s 1).l && y1.2.1), s1.l) := by
        have := chain_step (set := setAt) h1 k1
        show ((stp wdAt setAt (stB s.l)).1, (isW wdAt (s.l.drop 1) && (stp wdAt setAt (stB s.l)).2.1), (stp wdAt setAt (stB s.l)).2.2) = _
        rw [show stp wdAt setAt (stB s.l) = (y1.1, y1.2.1, s1.l) from this]; rfl
      have e2 : stIn (y1.1, (isW wdAt (cutSl s 1).l && y1.2.1), s1.l) = (({ y1.1 with nx := isW wdAfter s1.l, inn := s1.l.getD 1 [] } : PSt), ((isW wdAt (cutSl s 1).l && y1.2.1) && !decide (s1.l.getD 1 [] = [])), (cutSl s1 2).l) := if_pos h35
      have e6 := again_step h6 k6
      rw [if_pos h59] at e6
      have eZ : stZ s.l = (y6.1, y6.2.1 && !decide (y6.1.again = 0), s6.l) := by rw [stZ, e1, e2, chain_step h3 k3, chain_step h4 k4, chain_step h5 k5, e6]
      rw [eZ]
      exact ⟨by show _ = Ending.returned (.tuple #[y6.1.val, .bool (_ && decide (((s6.l.length : Nat) : Int) = 0))]); rw [hs6.t.len]; rfl, hM.below⟩
    · skip
      refine T_skip_go (fun _ _ h => h) ?_
      refine T_seq ?_
      refine T_perm [0, 1, 2, 3, 4, 5, 6, 7, 8] [true, true, true, true, true, true, true, false, true] [0, 0, 2, 6, 14, 30, 62, 7, 255] [(0, [4]), (1, [5]), (3, [1])] (by kernel_rfl) (by kernel_rfl) (by kernel_rfl) rfl (by kernel_rfl) ?_
      refine Rf_ 0 66 rfl rfl rfl rfl rfl _ ⟨rfl, trivial⟩ (Y.z (y_loadA 4 rfl rfl rfl Tryd.underlying40 rfl sz40) rfl) ?_
      refine Rf_ 1 67 rfl rfl rfl rfl rfl _ ⟨rfl, trivial⟩ (Y.z (y_load 5 rfl rfl rfl rfl Tryd.underlying4 rfl) rfl) ?_
      refine Rf_ 2 68 rfl rfl rfl rfl rfl _ trivial (Y.z (y_move rfl rfl) rfl) ?_
      refine Rfg_ 3 69 rfl rfl rfl rfl rfl rfl rfl rfl _ ⟨rfl, trivial⟩ (Y.z (y_load 1 rfl rfl rfl rfl Tryd.underlying46 rfl) rfl) ?_
      refine Rfg_ 4 70 rfl rfl rfl rfl rfl rfl rfl rfl _ trivial (zg_len rfl rfl Tryd.underlying46) ?_
      refine Rfg_ 5 71 rfl rfl rfl rfl rfl rfl rfl rfl _ trivial (Y.z (y_bin rfl rfl rfl (fun _ => b_eql)) rfl) ?_
      refine Rf_ 6 72 rfl rfl rfl rfl rfl _ trivial (Y.z (y_and rfl rfl rfl) rfl) ?_
      refine R_chain 7 rfl rfl ?_
      refine S_store 2 rfl rfl rfl rfl rfl rfl sz40 rfl rfl ?_
      refine R_next ⟨.inl rfl, .inl rfl, .inr ⟨rfl, trivial⟩, trivial⟩ ?_
      refine Rf_ 8 3 rfl rfl rfl rfl rfl _ trivial (Y.z (y_assign rfl rfl) rfl) ?_
      refine R_go (fun _ _ h => h) ?_
      refine T_ret (fun a w hF hM => hRb a w (post_cell 2 rfl rfl rfl rfl Tryd.underlying40 rfl (by exact sz40) (fun w hM => ?_) a w hF hM))
      have e1 : stAt (stB s.l) = (y1.1, (isW wdAt (cutSl s 1).l && y1.2.1), s1.l) := by
        have := chain_step (set := setAt) h1 k1
        show ((stp wdAt setAt (stB s.l)).1, (isW wdAt (s.l.drop 1) && (stp wdAt setAt (stB s.l)).2.1), (stp wdAt setAt (stB s.l)).2.2) = _
        rw [show stp wdAt setAt (stB s.l) = (y1.1, y1.2.1, s1.l) from this]; rfl
      have e2 : stIn (y1.1, (isW wdAt (cutSl s 1).l && y1.2.1), s1.l) = (({ y1.1 with nx := isW wdAfter s1.l, inn := s1.l.getD 1 [] } : PSt), ((isW wdAt (cutSl s 1).l && y1.2.1) && !decide (s1.l.getD 1 [] = [])), (cutSl s1 2).l) := if_pos h35
      have e6 := again_step h6 k6
      rw [if_neg (by rw [h59]; simp)] at e6
      have eZ : stZ s.l = (y6.1, y6.2.1, s6.l) := by rw [stZ, e1, e2, chain_step h3 k3, chain_step h4 k4, chain_step h5 k5, e6]
      rw [eZ]
      exact ⟨by show _ = Ending.returned (.tuple #[y6.1.val, .bool (_ && decide (((s6.l.length : Nat) : Int) = 0))]); rw [hs6.t.len]; rfl, hM.below⟩
  · skip
    refine T_skip_go (fun _ _ h => h) ?_
    refine T_seq ?_
    refine T_region ?_
    refine S_ 48 rfl rfl rfl _ (y_move rfl rfl) ?_
    refine S_ 49 rfl rfl rfl _ (y_fieldAddr rfl rfl fa40_4) ?_
    refine S_callM 50 [(901, 1), (904, 4), (905, 5), (906, 6), (907, 7)] (X := StR × SS) rfl rfl rfl rfl rfl rfl rfl cf89 rfl (fun _ => .bool (isW wdTill (s1).l)) (fun z => z.1 = stp wdTill setTill (y1.1, (isW wdAt (cutSl s 1).l && y1.2.1), (s1).l) ∧ z.2 = tkS wdTill (s1)) (fun z => [(901, iW b1 z.2), (904, iS b4 z.1.1), (905, iOk b5 z.1.2.1), (906, iIs b6 b1), (907, iNx b7 b1)]) (fun _ => rfl) (fun _ => rfl) (fun K1 hK1 w1 hM => (takeTill_any hK1 b1 b4 b5 b6 b7 (y1.1) ((isW wdAt (cutSl s 1).l && y1.2.1)) (s1) hs1 hz1 wdTill w1 hM).mono fun e w2 ⟨_, h1, _, h2⟩ => ⟨(_, _), h1, ⟨rfl, rfl⟩, h2⟩) ?_
    rintro ⟨y3, s3⟩ ⟨h3, k3⟩
    dsimp only at h3 k3
    have hs3 : s3.Ok strE 1 w := by rw [k3]; exact tkS_ok hs1
    have hz3 : ∀ x ∈ s3.l, x.length ≤ 1000000000 := by rw [k3]; exact tkS_mem hz1
    refine S_go (fun _ _ h => h) ?_
    refine T_seq ?_
    refine T_region ?_
    refine S_ 51 rfl rfl rfl _ (y_move rfl rfl) ?_
    refine S_ 52 rfl rfl rfl _ (y_fieldAddr rfl rfl fa40_5) ?_
    refine S_callM 53 [(901, 1), (904, 4), (905, 5), (906, 6), (907, 7)] (X := StR × SS) rfl rfl rfl rfl rfl rfl rfl cf89 rfl (fun _ => .bool (isW wdMore (s3).l)) (fun z => z.1 = stp wdMore setMore (y3.1, y3.2.1, (s3).l) ∧ z.2 = tkS wdMore (s3)) (fun z => [(901, iW b1 z.2), (904, iS b4 z.1.1), (905, iOk b5 z.1.2.1), (906, iIs b6 b1), (907, iNx b7 b1)]) (fun _ => rfl) (fun _ => rfl) (fun K1 hK1 w1 hM => (takeMore_any hK1 b1 b4 b5 b6 b7 (y3.1) (y3.2.1) (s3) hs3 hz3 wdMore w1 hM).mono fun e w2 ⟨_, h1, _, h2⟩ => ⟨(_, _), h1, ⟨rfl, rfl⟩, h2⟩) ?_
    rintro ⟨y4, s4⟩ ⟨h4, k4⟩
    dsimp only at h4 k4
    have hs4 : s4.Ok strE 1 w := by rw [k4]; exact tkS_ok hs3
    have hz4 : ∀ x ∈ s4.l, x.length ≤ 1000000000 := by rw [k4]; exact tkS_mem hz3
    refine S_go (fun _ _ h => h) ?_
    refine T_seq ?_
    refine T_region ?_
    refine S_ 54 rfl rfl rfl _ (y_move rfl rfl) ?_
    refine S_ 55 rfl rfl rfl _ (y_fieldAddr rfl rfl fa40_6) ?_
    refine S_callM 56 [(901, 1), (904, 4), (905, 5), (906, 6), (907, 7)] (X := StR × SS) rfl rfl rfl rfl rfl rfl rfl cf89 rfl (fun _ => .bool (isW wdPpl (s4).l)) (fun z => z.1 = stp wdPpl setPpl (y4.1, y4.2.1, (s4).l) ∧ z.2 = tkS wdPpl (s4)) (fun z => [(901, iW b1 z.2), (904, iS b4 z.1.1), (905, iOk b5 z.1.2.1), (906, iIs b6 b1), (907, iNx b7 b1)]) (fun _ => rfl) (fun _ => rfl) (fun K1 hK1 w1 hM => (takePpl_any hK1 b1 b4 b5 b6 b7 (y4.1) (y4.2.1) (s4) hs4 hz4 wdPpl w1 hM).mono fun e w2 ⟨_, h1, _, h2⟩ => ⟨(_, _), h1, ⟨rfl, rfl⟩, h2⟩) ?_
    rintro ⟨y5, s5⟩ ⟨h5, k5⟩
    dsimp only at h5 k5
    have hs5 : s5.Ok strE 1 w := by rw [k5]; exact tkS_ok hs4
    have hz5 : ∀ x ∈ s5.l, x.length ≤ 1000000000 := by rw [k5]; exact tkS_mem hz4
    refine S_go (fun _ _ h => h) ?_
    refine T_seq ?_
    refine T_seq ?_
    refine T_region ?_
    refine S_ 57 rfl rfl rfl _ (y_move rfl rfl) ?_
    refine S_ 58 rfl rfl rfl _ (y_fieldAddr rfl rfl fa40_7) ?_
    refine S_callM 59 [(901, 1), (904, 4), (905, 5), (906, 6), (907, 7)] (X := StR × SS) rfl rfl rfl rfl rfl rfl rfl cf89 rfl (fun _ => .bool (isW wdAgain (s5).l)) (fun z => z.1 = stp wdAgain setAgain (y5.1, y5.2.1, (s5).l) ∧ z.2 = tkS wdAgain (s5)) (fun z => [(901, iW b1 z.2), (904, iS b4 z.1.1), (905, iOk b5 z.1.2.1), (906, iIs b6 b1), (907, iNx b7 b1)]) (fun _ => rfl) (fun _ => rfl) (fun K1 hK1 w1 hM => (takeAgain_any hK1 b1 b4 b5 b6 b7 (y5.1) (y5.2.1) (s5) hs5 hz5 wdAgain w1 hM).mono fun e w2 ⟨_, h1, _, h2⟩ => ⟨(_, _), h1, ⟨rfl, rfl⟩, h2⟩) ?_
    rintro ⟨y6, s6⟩ ⟨h6, k6⟩
    dsimp only at h6 k6
    have hs6 : s6.Ok strE 1 w := by rw [k6]; exact tkS_ok hs5
    have hz6 : ∀ x ∈ s6.l, x.length ≤ 1000000000 := by rw [k6]; exact tkS_mem hz5
    refine S_go (fun _ _ h => h) ?_
    refine T_cond rfl (fun h59 => ?_) (fun h59 => ?_)
    · skip
      refine T_region ?_
      refine S_ 60 rfl rfl rfl _ (y_load 5 rfl rfl rfl rfl Tryd.underlying4 rfl) ?_
      refine S_ 61 rfl rfl rfl _ (y_move rfl rfl) ?_
      refine Sg_ 62 rfl rfl rfl rfl rfl rfl _ (y_fieldAddr rfl rfl fa40_7) ?_
      refine Sg_ 63 rfl rfl rfl rfl rfl rfl _ (y_load 4 rfl rfl rfl rfl Tryd.underlying3 rfl) ?_
      refine Sg_ 64 rfl rfl rfl rfl rfl rfl _ (y_bin rfl rfl rfl (fun _ => b_neq)) ?_
      refine S_ 65 rfl rfl rfl _ (y_and rfl rfl rfl) ?_
      refine S_store 5 rfl rfl rfl rfl rfl rfl sz4 rfl rfl ?_
      refine S_go (fun _ _ h => h) ?_
      refine T_seq ?_
      refine T_perm [0, 1, 2, 3, 4, 5, 6, 7, 8] [true, true, true, true, true, true, true, false, true] [0, 0, 2, 6, 14, 30, 62, 7, 255] [(0, [4]), (1, [5]), (3, [1])] (by kernel_rfl) (by kernel_rfl) (by kernel_rfl) rfl (by kernel_rfl) ?_
      refine Rf_ 0 66 rfl rfl rfl rfl rfl _ ⟨rfl, trivial⟩ (Y.z (y_loadA 4 rfl rfl rfl Tryd.underlying40 rfl sz40) rfl) ?_
      refine Rf_ 1 67 rfl rfl rfl rfl rfl _ ⟨rfl, trivial⟩ (Y.z (y_load 5 rfl rfl rfl rfl Tryd.underlying4 rfl) rfl) ?_
      refine Rf_ 2 68 rfl rfl rfl rfl rfl _ trivial (Y.z (y_move rfl rfl) rfl) ?_
      refine Rfg_ 3 69 rfl rfl rfl rfl rfl rfl rfl rfl _ ⟨rfl, trivial⟩ (Y.z (y_load 1 rfl rfl rfl rfl Tryd.underlying46 rfl) rfl) ?_
      refine Rfg_ 4 70 rfl rfl rfl rfl rfl rfl rfl rfl _ trivial (zg_len rfl rfl Tryd.underlying46) ?_
      refine Rfg_ 5 71 rfl rfl rfl rfl rfl rfl rfl rfl _ trivial (Y.z (y_bin rfl rfl rfl (fun _ => b_eql)) rfl) ?_
      refine Rf_ 6 72 rfl rfl rfl rfl rfl _ trivial (Y.z (y_and rfl rfl rfl) rfl) ?_
      refine R_chain 7 rfl rfl ?_
      refine S_store 2 rfl rfl rfl rfl rfl rfl sz40 rfl rfl ?_
      refine R_next ⟨.inl rfl, .inl rfl, .inr ⟨rfl, trivial⟩, trivial⟩ ?_
      refine Rf_ 8 3 rfl rfl rfl rfl rfl _ trivial (Y.z (y_assign rfl rfl) rfl) ?_
      refine R_go (fun _ _ h => h) ?_
      refine T_ret (fun a w hF hM => hRb a w (post_cell 2 rfl rfl rfl rfl Tryd.underlying40 rfl (by exact sz40) (fun w hM => ?_) a w hF hM))
      have e1 : stAt (stB s.l) = (y1.1, (isW wdAt (cutSl s 1).l && y1.2.1), s1.l) := by
        have := chain_step (set := setAt) h1 k1
        show ((stp wdAt setAt (stB s.l)).1, (isW wdAt (s.l.drop 1) && (stp wdAt setAt (stB s.l)).2.1), (stp wdAt setAt (stB s.l)).2.2) = _
        rw [show stp wdAt setAt (stB s.l) = (y1.1, y1.2.1, s1.l) from this]; rfl
      have e2 : stIn (y1.1, (isW wdAt (cutSl s 1).l && y1.2.1), s1.l) = (y1.1, (isW wdAt (cutSl s 1).l && y1.2.1), s1.l) := if_neg (by rw [h35]; simp)
      have e6 := again_step h6 k6
      rw [if_pos h59] at e6
      have eZ : stZ s.l = (y6.1, y6.2.1 && !decide (y6.1.again = 0), s6.l) := by rw [stZ, e1, e2, chain_step h3 k3, chain_step h4 k4, chain_step h5 k5, e6]
      rw [eZ]
      exact ⟨by show _ = Ending.returned (.tuple #[y6.1.val, .bool (_ && decide (((s6.l.length : Nat) : Int) = 0))]); rw [hs6.t.len]; rfl, hM.below⟩
    · skip
      refine T_skip_go (fun _ _ h => h) ?_
      refine T_seq ?_
      refine T_perm [0, 1, 2, 3, 4, 5, 6, 7, 8] [true, true, true, true, true, true, true, false, true] [0, 0, 2, 6, 14, 30, 62, 7, 255] [(0, [4]), (1, [5]), (3, [1])] (by kernel_rfl) (by kernel_rfl) (by kernel_rfl) rfl (by kernel_rfl) ?_
      refine Rf_ 0 66 rfl rfl rfl rfl rfl _ ⟨rfl, trivial⟩ (Y.z (y_loadA 4 rfl rfl rfl Tryd.underlying40 rfl sz40) rfl) ?_
      refine Rf_ 1 67 rfl rfl rfl rfl rfl _ ⟨rfl, trivial⟩ (Y.z (y_load 5 rfl rfl rfl rfl Tryd.underlying4 rfl) rfl) ?_
      refine Rf_ 2 68 rfl rfl rfl rfl rfl _ trivial (Y.z (y_move rfl rfl) rfl) ?_
      refine Rfg_ 3 69 rfl rfl rfl rfl rfl rfl rfl rfl _ ⟨rfl, trivial⟩ (Y.z (y_load 1 rfl rfl rfl rfl Tryd.underlying46 rfl) rfl) ?_
      refine Rfg_ 4 70 rfl rfl rfl rfl rfl rfl rfl rfl _ trivial (zg_len rfl rfl Tryd.underlying46) ?_
      refine Rfg_ 5 71 rfl rfl rfl rfl rfl rfl rfl rfl _ trivial (Y.z (y_bin rfl rfl rfl (fun _ => b_eql)) rfl) ?_
      refine Rf_ 6 72 rfl rfl rfl rfl rfl _ trivial (Y.z (y_and rfl rfl rfl) rfl) ?_
      refine R_chain 7 rfl rfl ?_
      refine S_store 2 rfl rfl rfl rfl rfl rfl sz40 rfl rfl ?_
      refine R_next ⟨.inl rfl, .inl rfl, .inr ⟨rfl, trivial⟩, trivial⟩ ?_
      refine Rf_ 8 3 rfl rfl rfl rfl rfl _ trivial (Y.z (y_assign rfl rfl) rfl) ?_
      refine R_go (fun _ _ h => h) ?_
      refine T_ret (fun a w hF hM => hRb a w (post_cell 2 rfl rfl rfl rfl Tryd.underlying40 rfl (by exact sz40) (fun w hM => ?_) a w hF hM))
      have e1 : stAt (stB s.l) = (y1.1, (isW wdAt (cutSl s 1).l && y1.2.1), s1.l) := by
        have := chain_step (set := setAt) h1 k1
        show ((stp wdAt setAt (stB s.l)).1, (isW wdAt (s.l.drop 1) && (stp wdAt setAt (stB s.l)).2.1), (stp wdAt setAt (stB s.l)).2.2) = _
        rw [show stp wdAt setAt (stB s.l) = (y1.1, y1.2.1, s1.l) from this]; rfl
      have e2 : stIn (y1.1, (isW wdAt (cutSl s 1).l && y1.2.1), s1.l) = (y1.1, (isW wdAt (cutSl s 1).l && y1.2.1), s1.l) := if_neg (by rw [h35]; simp)
      have e6 := again_step h6 k6
      rw [if_neg (by rw [h59]; simp)] at e6
      have eZ : stZ s.l = (y6.1, y6.2.1, s6.l) := by rw [stZ, e1, e2, chain_step h3 k3, chain_step h4 k4, chain_step h5 k5, e6]
      rw [eZ]
      exact ⟨by show _ = Ending.returned (.tuple #[y6.1.val, .bool (_ && decide (((s6.l.length : Nat) : Int) = 0))]); rw [hs6.t.len]; rfl, hM.below⟩
end Go.Proofs.YtkkngcdikbhkjaaDoor
end
