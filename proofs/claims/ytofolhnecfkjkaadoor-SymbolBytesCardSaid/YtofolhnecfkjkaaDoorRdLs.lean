/- symbol.readTable: its lists. Conditions: those of each theorem. -/
import Derived.Test.YtofolhnecfkjkaaDoorRdL
namespace Go.Proofs.YtofolhnecfkjkaaDoor
set_option linter.unusedSimpArgs false
set_option linter.unusedVariables false
set_option maxRecDepth 20000
open Go.RowKit Go.Eng
theorem all_snoc {α : Type} {p : α → Prop} {l l' : List α} {x : α} (he : l' = l ++ [x]) (h : ∀ y ∈ l, p y) (hx : p x) : ∀ y ∈ l', p y := fun y hy => by
  subst he
  rcases List.mem_append.1 hy with hy | hy
  · exact h y hy
  · have := List.mem_singleton.1 hy; subst this; exact hx
theorem end_list {m : Nat} {ok : Bool} (h : (decide ((0 : Int) < (m : Int)) && ok) = false) : m = 0 ∨ ok = false := by
  cases ok with
  | false => exact .inr rfl
  | true => left; simp at h; exact h
theorem go_list {m : Nat} {ok : Bool} (h : (decide ((0 : Int) < (m : Int)) && ok) = true) : ok = true ∧ 0 < m := by
  simp only [Bool.and_eq_true, decide_eq_true_eq] at h
  exact ⟨h.2, by omega⟩
theorem IterInv.next {σ : Type} {one : σ → Pa σ} {N m : Nat} {a0 a a' : σ} {s0 s s1 : List UInt8} {ok0 ok ok1 : Bool} (hm : 0 < m) (hok : ok = true) (h : IterInv one N a0 s0 ok0 m a s ok) (hr : PRes (one a) s ok a' s1 ok1) : IterInv one N a0 s0 ok0 (m - 1) a' s1 ok1 := by
  subst hok
  rw [show m = m - 1 + 1 by omega] at h
  exact h.step hr
theorem less_of {σ : Type} {one : σ → Pa σ} {a a' : σ} {s s1 : List UInt8} {ok ok1 : Bool} (hl : ∀ {a b : σ} {s s1 : List UInt8}, one a s = some (b, s1) → s1.length < s.length) (hr : PRes (one a) s ok a' s1 ok1) (h : ok1 = true) : s1.length < s.length := by
  subst h
  exact hl hr.some.1
theorem list6_any {w0 : World} {K : HL} (hK : FromK K) (d : Ad) (id : List UInt8) (size : Int) (vu vr vc : Value) (s : List UInt8) (ok : Bool) (hs : s.length ≤ 1000000) (w : World)
    (hM0 : Mem w0 ([(901, d.iS s), (902, d.iO ok), (903, d.iT), (904, d.iN), (906, d.iW), (907, d.iTab id size (.slice none 0 0) vu vr vc), (908, rF none 0 [])] ++ K) w) :
    Calls Tryd.prog 106 #[.func (.func 107) #[] #[selfP d.T, selfP d.w], selfP d.n, selfP d.o] w fun e w' => ∃ z : (List (List UInt8)) × List UInt8 × Bool × Option Addr × Nat, e = .returned (.tuple #[]) ∧
      (PRes (lst oneF []) s ok z.1 z.2.1 z.2.2.1 ∧ (z.1.length ≤ 1000001 ∧ ∀ x ∈ z.1, x.length ≤ 1000000) ∧ z.2.1.length ≤ s.length) ∧
      Mem w0 ([(901, d.iS z.2.1), (902, d.iO z.2.2.1), (903, d.iT), (904, d.iN), (906, d.iW), (907, d.iTab id size (.slice z.2.2.2.1 z.1.length z.2.2.2.2) vu vr vc), (908, rF z.2.2.2.1 z.2.2.2.2 z.1)] ++ K) w' := by
  refine enterM_args (args := [.func (.func 107) #[] #[selfP d.T, selfP d.w], selfP d.n, selfP d.o]) (F := _) hM0 Tryd.func106 rfl Tryd.ntmps106 rfl rfl ?_
  intro Rb hRb hRn
  refine T_seq ?_
  refine T_region ?_
  refine S_ 5 rfl rfl rfl _ (y_load 904 rfl rfl rfl rfl Tryd.underlying113 rfl) ?_
  refine S_callM 6 [(901, 901), (902, 902), (903, 903)] (X := Nat × List UInt8 × Bool) rfl rfl rfl rfl rfl rfl rfl cf102 rfl (fun z => .int .i64 (z.1 : Int)) (fun z => PRes nm (s) (ok) z.1 z.2.1 z.2.2 ∧ z.2.1.length ≤ (s).length ∧ z.1 ≤ 281474976710656) (fun z => [(901, Ad.iS (d) z.2.1), (902, Ad.iO (d) z.2.2), (903, Ad.iT (d))]) (fun _ => rfl) (fun _ => rfl) (fun K1 hK1 w hM => num_any hK1 (d) (s) (ok) w hM) ?_
  rintro ⟨N, s1, ok1⟩ h1
  try dsimp only at h1
  refine S_ 4 rfl rfl rfl _ (y_assign rfl rfl) ?_
  refine S_go (fun _ _ h => h) ?_
  refine T_block ?_
  refine T_loopK6 (kf := [(4, 4), (7, 15)]) (kl := [(4, 4), (7, 15), (901, 902), (907, 908)]) (fun (m : Nat) (l : List (List UInt8)) (t : List UInt8) (ok3 : Bool) (A : Option Addr) (c : Nat) => [(4, true, .int .i64 (m : Int))]) (fun (m : Nat) (l : List (List UInt8)) (t : List UInt8) (ok3 : Bool) (A : Option Addr) (c : Nat) => [(901, d.iS t), (902, d.iO ok3), (907, d.iTab id size (.slice A l.length c) vu vr vc), (908, rF A c l)]) (fun (m : Nat) (l : List (List UInt8)) (t : List UInt8) (ok3 : Bool) (A : Option Addr) (c : Nat) => m ≤ 281474976710656 ∧ IterInv oneF N [] s1 ok1 m l t ok3 ∧ (ok3 = true → l.length + t.length ≤ 1000000) ∧ (l.length ≤ 1000001 ∧ ∀ x ∈ l, x.length ≤ 1000000) ∧ t.length ≤ s.length) (fun (m : Nat) (l : List (List UInt8)) (t : List UInt8) (ok3 : Bool) (A : Option Addr) (c : Nat) => m) N [] s1 ok1 none 0 (by repeat (first | exact kf_nil | (apply kf_in; focus rfl) | (apply kf_out; focus rfl))) (by repeat (first | exact kl_nil | exact kl_rest (by assumption) rfl | (apply kl_in; focus rfl) | (apply kl_out; focus rfl))) ?_ ?_ ?_ ?_
  · exact ⟨h1.2.2, IterInv.start, fun _ => by show 0 + s1.length ≤ 1000000; omega, ⟨by simp, by simp⟩, h1.2.1⟩
  · exact ⟨rfl, trivial⟩
  · exact ⟨rfl, rfl, rfl, rfl, trivial⟩
  rintro m l t ok3 A c ⟨hp1, hp2, hp3, hp4, hp5⟩
  refine T_seq ?_
  refine T_seq ?_
  refine T_region ?_
  refine S_ 7 rfl rfl rfl _ (y_move rfl rfl) ?_
  refine S_ 8 rfl rfl rfl _ (y_bin rfl rfl rfl (fun _ => b_gtr)) ?_
  refine S_ 9 rfl rfl rfl _ (y_move rfl rfl) ?_
  refine Sg_ 10 rfl rfl rfl rfl rfl rfl _ (y_load 902 rfl rfl rfl rfl Tryd.underlying4 rfl) ?_
  refine S_ 11 rfl rfl rfl _ (y_and rfl rfl rfl) ?_
  refine S_go (fun _ _ h => h) ?_
  refine T_cond rfl (fun h11 => ?_) (fun h11 => ?_)
  · skip
    obtain ⟨hok, hm⟩ := go_list h11
    have hb := hp3 hok
    refine T_skip_go (fun _ _ h => h) ?_
    refine T_seq ?_
    refine T_block ?_
    refine T_region ?_
    refine S_ 14 rfl rfl rfl _ (y_move rfl rfl) ?_
    refine S_callM 15 [(901, 901), (902, 902), (903, 903), (904, 904), (906, 906), (907, 907), (908, 908)] (X := (List (List UInt8)) × List UInt8 × Bool × Option Addr × Nat) rfl rfl rfl rfl rfl rfl rfl cf107 rfl (fun _ => .tuple #[]) (fun z => PRes (oneF l) t ok3 z.1 z.2.1 z.2.2.1 ∧ (∃ x : List UInt8, z.1 = l ++ [x] ∧ x.length ≤ t.length) ∧ z.2.1.length ≤ t.length) (fun z => [(901, d.iS z.2.1), (902, d.iO z.2.2.1), (903, d.iT), (904, d.iN), (906, d.iW), (907, d.iTab id size (.slice z.2.2.2.1 z.1.length z.2.2.2.2) vu vr vc), (908, rF z.2.2.2.1 z.2.2.2.2 z.1)]) (fun _ => rfl) (fun _ => rfl) (fun K1 hK1 w hM => one6_any hK1 d id size vu vr vc A c l t ok3 (by omega) w hM) ?_
    rintro ⟨a', s2, ok2, A', c'⟩ h2
    try dsimp only at h2
    refine S_go (fun _ _ h => h) ?_
    refine T_region ?_
    refine S_ 12 rfl rfl rfl _ (y_move rfl rfl) ?_
    refine S_ 13 rfl rfl rfl _ (y_bin rfl rfl rfl (fun hg => b_subv (((m - 1 : Nat) : Int)) (by omega) (by omega))) ?_
    refine S_ 4 rfl rfl rfl _ (y_assign rfl rfl) ?_
    obtain ⟨x, hx⟩ := h2.2.1
    have hlen : a'.length = l.length + 1 := by rw [hx.1]; simp
    refine S_nil (nextK6 (kf := [(4, 4), (7, 15)]) (kl := [(4, 4), (7, 15), (901, 902), (907, 908)]) (m - 1) a' s2 ok2 A' c' (by repeat (first | exact kf_nil | (apply kf_in; focus rfl) | (apply kf_out; focus rfl))) (by repeat (first | exact kl_none | exact kl_tail (by assumption) rfl (by repeat (first | exact ti_refl | (apply ti_cons; focus rfl))) | refine kl_cons rfl rfl ?_)) ?_ ?_ ?_ ?_)
    · omega
    · exact ⟨by omega, hp2.next hm hok h2.1, fun h => by have := less_of (one := oneF) oneF_less h2.1 h; omega, ⟨by omega, all_snoc hx.1 hp4.2 (by omega)⟩, by omega⟩
    · exact ⟨rfl, trivial⟩
    · exact ⟨rfl, rfl, rfl, rfl, trivial⟩
  · skip
    refine T_exit (fun a w hF hM => hRn a w (post0 rfl (fun w hM => ?_) a w hF hM))
    exact ⟨(l, t, ok3, A, c), rfl, ⟨h1.1.bnd (hp2.done (end_list h11)), hp4, hp5⟩, hM.keep (ks := [(0, 999)]) (by repeat (first | exact kl_rest (by assumption) rfl | (apply kl_in; focus rfl))) _ ⟨rfl, rfl, rfl, rfl, rfl, rfl, rfl, trivial⟩⟩
theorem list7_any {w0 : World} {K : HL} (hK : FromK K) (d : Ad) (id : List UInt8) (size : Int) (vf vr vc : Value) (s : List UInt8) (ok : Bool) (hs : s.length ≤ 1000000) (w : World)
    (hM0 : Mem w0 ([(901, d.iS s), (902, d.iO ok), (903, d.iT), (904, d.iN), (906, d.iW), (907, d.iTab id size vf (.slice none 0 0) vr vc), (909, rU none 0 []), (912, d.iL 0)] ++ K) w) :
    Calls Tryd.prog 106 #[.func (.func 108) #[] #[selfP d.l, selfP d.n, selfP d.T, selfP d.w], selfP d.n, selfP d.o] w fun e w' => ∃ z : (List SFunc × Int) × List UInt8 × Bool × Option Addr × Nat, e = .returned (.tuple #[]) ∧
      (PRes (lst oneU ([], 0)) s ok z.1 z.2.1 z.2.2.1 ∧ (z.1.1.length ≤ 1000001 ∧ ∀ x ∈ z.1.1, x.name.length ≤ 1000000) ∧ z.2.1.length ≤ s.length) ∧
      Mem w0 ([(901, d.iS z.2.1), (902, d.iO z.2.2.1), (903, d.iT), (904, d.iN), (906, d.iW), (907, d.iTab id size vf (.slice z.2.2.2.1 z.1.1.length z.2.2.2.2) vr vc), (909, rU z.2.2.2.1 z.2.2.2.2 z.1.1), (912, d.iL z.1.2)] ++ K) w' := by
  refine enterM_args (args := [.func (.func 108) #[] #[selfP d.l, selfP d.n, selfP d.T, selfP d.w], selfP d.n, selfP d.o]) (F := _) hM0 Tryd.func106 rfl Tryd.ntmps106 rfl rfl ?_
  intro Rb hRb hRn
  refine T_seq ?_
  refine T_region ?_
  refine S_ 5 rfl rfl rfl _ (y_load 904 rfl rfl rfl rfl Tryd.underlying113 rfl) ?_
  refine S_callM 6 [(901, 901), (902, 902), (903, 903)] (X := Nat × List UInt8 × Bool) rfl rfl rfl rfl rfl rfl rfl cf102 rfl (fun z => .int .i64 (z.1 : Int)) (fun z => PRes nm (s) (ok) z.1 z.2.1 z.2.2 ∧ z.2.1.length ≤ (s).length ∧ z.1 ≤ 281474976710656) (fun z => [(901, Ad.iS (d) z.2.1), (902, Ad.iO (d) z.2.2), (903, Ad.iT (d))]) (fun _ => rfl) (fun _ => rfl) (fun K1 hK1 w hM => num_any hK1 (d) (s) (ok) w hM) ?_
  rintro ⟨N, s1, ok1⟩ h1
  try dsimp only at h1
  refine S_ 4 rfl rfl rfl _ (y_assign rfl rfl) ?_
  refine S_go (fun _ _ h => h) ?_
  refine T_block ?_
  refine T_loopK6 (kf := [(4, 4), (7, 15)]) (kl := [(4, 4), (7, 15), (901, 902), (907, 907), (909, 909), (912, 912)]) (fun (m : Nat) (l : List SFunc × Int) (t : List UInt8) (ok3 : Bool) (A : Option Addr) (c : Nat) => [(4, true, .int .i64 (m : Int))]) (fun (m : Nat) (l : List SFunc × Int) (t : List UInt8) (ok3 : Bool) (A : Option Addr) (c : Nat) => [(901, d.iS t), (902, d.iO ok3), (907, d.iTab id size vf (.slice A l.1.length c) vr vc), (909, rU A c l.1), (912, d.iL l.2)]) (fun (m : Nat) (l : List SFunc × Int) (t : List UInt8) (ok3 : Bool) (A : Option Addr) (c : Nat) => m ≤ 281474976710656 ∧ IterInv oneU N ([], 0) s1 ok1 m l t ok3 ∧ (ok3 = true → l.1.length + t.length ≤ 1000000) ∧ (l.1.length ≤ 1000001 ∧ ∀ x ∈ l.1, x.name.length ≤ 1000000) ∧ t.length ≤ s.length) (fun (m : Nat) (l : List SFunc × Int) (t : List UInt8) (ok3 : Bool) (A : Option Addr) (c : Nat) => m) N ([], 0) s1 ok1 none 0 (by repeat (first | exact kf_nil | (apply kf_in; focus rfl) | (apply kf_out; focus rfl))) (by repeat (first | exact kl_nil | exact kl_rest (by assumption) rfl | (apply kl_in; focus rfl) | (apply kl_out; focus rfl))) ?_ ?_ ?_ ?_
  · exact ⟨h1.2.2, IterInv.start, fun _ => by show 0 + s1.length ≤ 1000000; omega, ⟨by simp, by simp⟩, h1.2.1⟩
  · exact ⟨rfl, trivial⟩
  · exact ⟨rfl, rfl, rfl, rfl, rfl, trivial⟩
  rintro m l t ok3 A c ⟨hp1, hp2, hp3, hp4, hp5⟩
  refine T_seq ?_
  refine T_seq ?_
  refine T_region ?_
  refine S_ 7 rfl rfl rfl _ (y_move rfl rfl) ?_
  refine S_ 8 rfl rfl rfl _ (y_bin rfl rfl rfl (fun _ => b_gtr)) ?_
  refine S_ 9 rfl rfl rfl _ (y_move rfl rfl) ?_
  refine Sg_ 10 rfl rfl rfl rfl rfl rfl _ (y_load 902 rfl rfl rfl rfl Tryd.underlying4 rfl) ?_
  refine S_ 11 rfl rfl rfl _ (y_and rfl rfl rfl) ?_
  refine S_go (fun _ _ h => h) ?_
  refine T_cond rfl (fun h11 => ?_) (fun h11 => ?_)
  · skip
    obtain ⟨hok, hm⟩ := go_list h11
    have hb := hp3 hok
    refine T_skip_go (fun _ _ h => h) ?_
    refine T_seq ?_
    refine T_block ?_
    refine T_region ?_
    refine S_ 14 rfl rfl rfl _ (y_move rfl rfl) ?_
    refine S_callM 15 [(901, 901), (902, 902), (903, 903), (904, 904), (906, 906), (907, 907), (909, 909), (912, 912)] (X := (List SFunc × Int) × List UInt8 × Bool × Option Addr × Nat) rfl rfl rfl rfl rfl rfl rfl cf108 rfl (fun _ => .tuple #[]) (fun z => PRes (oneU l) t ok3 z.1 z.2.1 z.2.2.1 ∧ (∃ x : SFunc, z.1.1 = l.1 ++ [x] ∧ x.name.length ≤ t.length) ∧ z.2.1.length ≤ t.length) (fun z => [(901, d.iS z.2.1), (902, d.iO z.2.2.1), (903, d.iT), (904, d.iN), (906, d.iW), (907, d.iTab id size vf (.slice z.2.2.2.1 z.1.1.length z.2.2.2.2) vr vc), (909, rU z.2.2.2.1 z.2.2.2.2 z.1.1), (912, d.iL z.1.2)]) (fun _ => rfl) (fun _ => rfl) (fun K1 hK1 w hM => one7_any hK1 d id size vf vr vc A c l.1 l.2 t ok3 (by omega) w hM) ?_
    rintro ⟨a', s2, ok2, A', c'⟩ h2
    try dsimp only at h2
    refine S_go (fun _ _ h => h) ?_
    refine T_region ?_
    refine S_ 12 rfl rfl rfl _ (y_move rfl rfl) ?_
    refine S_ 13 rfl rfl rfl _ (y_bin rfl rfl rfl (fun hg => b_subv (((m - 1 : Nat) : Int)) (by omega) (by omega))) ?_
    refine S_ 4 rfl rfl rfl _ (y_assign rfl rfl) ?_
    obtain ⟨x, hx⟩ := h2.2.1
    have hlen : a'.1.length = l.1.length + 1 := by rw [hx.1]; simp
    refine S_nil (nextK6 (kf := [(4, 4), (7, 15)]) (kl := [(4, 4), (7, 15), (901, 902), (907, 907), (909, 909), (912, 912)]) (m - 1) a' s2 ok2 A' c' (by repeat (first | exact kf_nil | (apply kf_in; focus rfl) | (apply kf_out; focus rfl))) (by repeat (first | exact kl_none | exact kl_tail (by assumption) rfl (by repeat (first | exact ti_refl | (apply ti_cons; focus rfl))) | refine kl_cons rfl rfl ?_)) ?_ ?_ ?_ ?_)
    · omega
    · exact ⟨by omega, hp2.next hm hok h2.1, fun h => by have := less_of (one := oneU) oneU_less h2.1 h; omega, ⟨by omega, all_snoc hx.1 hp4.2 (by omega)⟩, by omega⟩
    · exact ⟨rfl, trivial⟩
    · exact ⟨rfl, rfl, rfl, rfl, rfl, trivial⟩
  · skip
    refine T_exit (fun a w hF hM => hRn a w (post0 rfl (fun w hM => ?_) a w hF hM))
    exact ⟨(l, t, ok3, A, c), rfl, ⟨h1.1.bnd (hp2.done (end_list h11)), hp4, hp5⟩, hM.keep (ks := [(0, 999)]) (by repeat (first | exact kl_rest (by assumption) rfl | (apply kl_in; focus rfl))) _ ⟨rfl, rfl, rfl, rfl, rfl, rfl, rfl, rfl,trivial⟩⟩
theorem list8_any {w0 : World} {K : HL} (hK : FromK K) (d : Ad) (id : List UInt8) (size : Int) (vf vu vc : Value) (s : List UInt8) (ok : Bool) (hs : s.length ≤ 1000000) (w : World)
    (hM0 : Mem w0 ([(901, d.iS s), (902, d.iO ok), (903, d.iT), (904, d.iN), (905, d.iG), (907, d.iTab id size vf vu (.slice none 0 0) vc), (910, rR none 0 []), (913, d.iR rowZ)] ++ K) w) :
    Calls Tryd.prog 106 #[.func (.func 109) #[] #[selfP d.r, selfP d.n, selfP d.g, selfP d.T], selfP d.n, selfP d.o] w fun e w' => ∃ z : (List SRow × SRow) × List UInt8 × Bool × Option Addr × Nat, e = .returned (.tuple #[]) ∧
      (PRes (lst oneR ([], rowZ)) s ok z.1 z.2.1 z.2.2.1 ∧ (z.1.1.length ≤ 1000001 ∧ ∀ x ∈ z.1.1, True) ∧ z.2.1.length ≤ s.length) ∧
      Mem w0 ([(901, d.iS z.2.1), (902, d.iO z.2.2.1), (903, d.iT), (904, d.iN), (905, d.iG), (907, d.iTab id size vf vu (.slice z.2.2.2.1 z.1.1.length z.2.2.2.2) vc), (910, rR z.2.2.2.1 z.2.2.2.2 z.1.1), (913, d.iR z.1.2)] ++ K) w' := by
  refine enterM_args (args := [.func (.func 109) #[] #[selfP d.r, selfP d.n, selfP d.g, selfP d.T], selfP d.n, selfP d.o]) (F := _) hM0 Tryd.func106 rfl Tryd.ntmps106 rfl rfl ?_
  intro Rb hRb hRn
  refine T_seq ?_
  refine T_region ?_
  refine S_ 5 rfl rfl rfl _ (y_load 904 rfl rfl rfl rfl Tryd.underlying113 rfl) ?_
  refine S_callM 6 [(901, 901), (902, 902), (903, 903)] (X := Nat × List UInt8 × Bool) rfl rfl rfl rfl rfl rfl rfl cf102 rfl (fun z => .int .i64 (z.1 : Int)) (fun z => PRes nm (s) (ok) z.1 z.2.1 z.2.2 ∧ z.2.1.length ≤ (s).length ∧ z.1 ≤ 281474976710656) (fun z => [(901, Ad.iS (d) z.2.1), (902, Ad.iO (d) z.2.2), (903, Ad.iT (d))]) (fun _ => rfl) (fun _ => rfl) (fun K1 hK1 w hM => num_any hK1 (d) (s) (ok) w hM) ?_
  rintro ⟨N, s1, ok1⟩ h1
  try dsimp only at h1
  refine S_ 4 rfl rfl rfl _ (y_assign rfl rfl) ?_
  refine S_go (fun _ _ h => h) ?_
  refine T_block ?_
  refine T_loopK6 (kf := [(4, 4), (7, 15)]) (kl := [(4, 4), (7, 15), (901, 902), (907, 907), (910, 910), (913, 913)]) (fun (m : Nat) (l : List SRow × SRow) (t : List UInt8) (ok3 : Bool) (A : Option Addr) (c : Nat) => [(4, true, .int .i64 (m : Int))]) (fun (m : Nat) (l : List SRow × SRow) (t : List UInt8) (ok3 : Bool) (A : Option Addr) (c : Nat) => [(901, d.iS t), (902, d.iO ok3), (907, d.iTab id size vf vu (.slice A l.1.length c) vc), (910, rR A c l.1), (913, d.iR l.2)]) (fun (m : Nat) (l : List SRow × SRow) (t : List UInt8) (ok3 : Bool) (A : Option Addr) (c : Nat) => m ≤ 281474976710656 ∧ IterInv oneR N ([], rowZ) s1 ok1 m l t ok3 ∧ (ok3 = true → l.1.length + t.length ≤ 1000000) ∧ (l.1.length ≤ 1000001 ∧ ∀ x ∈ l.1, True) ∧ t.length ≤ s.length) (fun (m : Nat) (l : List SRow × SRow) (t : List UInt8) (ok3 : Bool) (A : Option Addr) (c : Nat) => m) N ([], rowZ) s1 ok1 none 0 (by repeat (first | exact kf_nil | (apply kf_in; focus rfl) | (apply kf_out; focus rfl))) (by repeat (first | exact kl_nil | exact kl_rest (by assumption) rfl | (apply kl_in; focus rfl) | (apply kl_out; focus rfl))) ?_ ?_ ?_ ?_
  · exact ⟨h1.2.2, IterInv.start, fun _ => by show 0 + s1.length ≤ 1000000; omega, ⟨by simp, by simp⟩, h1.2.1⟩
  · exact ⟨rfl, trivial⟩
  · exact ⟨rfl, rfl, rfl, rfl, rfl, trivial⟩
  rintro m l t ok3 A c ⟨hp1, hp2, hp3, hp4, hp5⟩
  refine T_seq ?_
  refine T_seq ?_
  refine T_region ?_
  refine S_ 7 rfl rfl rfl _ (y_move rfl rfl) ?_
  refine S_ 8 rfl rfl rfl _ (y_bin rfl rfl rfl (fun _ => b_gtr)) ?_
  refine S_ 9 rfl rfl rfl _ (y_move rfl rfl) ?_
  refine Sg_ 10 rfl rfl rfl rfl rfl rfl _ (y_load 902 rfl rfl rfl rfl Tryd.underlying4 rfl) ?_
  refine S_ 11 rfl rfl rfl _ (y_and rfl rfl rfl) ?_
  refine S_go (fun _ _ h => h) ?_
  refine T_cond rfl (fun h11 => ?_) (fun h11 => ?_)
  · skip
    obtain ⟨hok, hm⟩ := go_list h11
    have hb := hp3 hok
    refine T_skip_go (fun _ _ h => h) ?_
    refine T_seq ?_
    refine T_block ?_
    refine T_region ?_
    refine S_ 14 rfl rfl rfl _ (y_move rfl rfl) ?_
    refine S_callM 15 [(901, 901), (902, 902), (903, 903), (904, 904), (905, 905), (907, 907), (910, 910), (913, 913)] (X := (List SRow × SRow) × List UInt8 × Bool × Option Addr × Nat) rfl rfl rfl rfl rfl rfl rfl cf109 rfl (fun _ => .tuple #[]) (fun z => PRes (oneR l) t ok3 z.1 z.2.1 z.2.2.1 ∧ (∃ x : SRow, z.1.1 = l.1 ++ [x]) ∧ z.2.1.length ≤ t.length) (fun z => [(901, d.iS z.2.1), (902, d.iO z.2.2.1), (903, d.iT), (904, d.iN), (905, d.iG), (907, d.iTab id size vf vu (.slice z.2.2.2.1 z.1.1.length z.2.2.2.2) vc), (910, rR z.2.2.2.1 z.2.2.2.2 z.1.1), (913, d.iR z.1.2)]) (fun _ => rfl) (fun _ => rfl) (fun K1 hK1 w hM => one8_any hK1 d id size vf vu vc A c l.1 l.2 t ok3 (by omega) w hM) ?_
    rintro ⟨a', s2, ok2, A', c'⟩ h2
    try dsimp only at h2
    refine S_go (fun _ _ h => h) ?_
    refine T_region ?_
    refine S_ 12 rfl rfl rfl _ (y_move rfl rfl) ?_
    refine S_ 13 rfl rfl rfl _ (y_bin rfl rfl rfl (fun hg => b_subv (((m - 1 : Nat) : Int)) (by omega) (by omega))) ?_
    refine S_ 4 rfl rfl rfl _ (y_assign rfl rfl) ?_
    obtain ⟨x, hx⟩ := h2.2.1
    have hlen : a'.1.length = l.1.length + 1 := by rw [hx]; simp
    refine S_nil (nextK6 (kf := [(4, 4), (7, 15)]) (kl := [(4, 4), (7, 15), (901, 902), (907, 907), (910, 910), (913, 913)]) (m - 1) a' s2 ok2 A' c' (by repeat (first | exact kf_nil | (apply kf_in; focus rfl) | (apply kf_out; focus rfl))) (by repeat (first | exact kl_none | exact kl_tail (by assumption) rfl (by repeat (first | exact ti_refl | (apply ti_cons; focus rfl))) | refine kl_cons rfl rfl ?_)) ?_ ?_ ?_ ?_)
    · omega
    · exact ⟨by omega, hp2.next hm hok h2.1, fun h => by have := less_of (one := oneR) oneR_less h2.1 h; omega, ⟨by omega, all_snoc hx hp4.2 (by trivial)⟩, by omega⟩
    · exact ⟨rfl, trivial⟩
    · exact ⟨rfl, rfl, rfl, rfl, rfl, trivial⟩
  · skip
    refine T_exit (fun a w hF hM => hRn a w (post0 rfl (fun w hM => ?_) a w hF hM))
    exact ⟨(l, t, ok3, A, c), rfl, ⟨h1.1.bnd (hp2.done (end_list h11)), hp4, hp5⟩, hM.keep (ks := [(0, 999)]) (by repeat (first | exact kl_rest (by assumption) rfl | (apply kl_in; focus rfl))) _ ⟨rfl, rfl, rfl, rfl, rfl, rfl, rfl, rfl,trivial⟩⟩
theorem list9_any {w0 : World} {K : HL} (hK : FromK K) (d : Ad) (id : List UInt8) (size : Int) (vf vu vr : Value) (s : List UInt8) (ok : Bool) (hs : s.length ≤ 1000000) (w : World)
    (hM0 : Mem w0 ([(901, d.iS s), (902, d.iO ok), (903, d.iT), (904, d.iN), (906, d.iW), (907, d.iTab id size vf vu vr (.slice none 0 0)), (911, rC none 0 []), (912, d.iL 0)] ++ K) w) :
    Calls Tryd.prog 106 #[.func (.func 110) #[] #[selfP d.l, selfP d.n, selfP d.w, selfP d.T], selfP d.n, selfP d.o] w fun e w' => ∃ z : (List SCall × Int) × List UInt8 × Bool × Option Addr × Nat, e = .returned (.tuple #[]) ∧
      (PRes (lst oneC ([], 0)) s ok z.1 z.2.1 z.2.2.1 ∧ (z.1.1.length ≤ 1000001 ∧ ∀ x ∈ z.1.1, x.name.length ≤ 1000000) ∧ z.2.1.length ≤ s.length) ∧
      Mem w0 ([(901, d.iS z.2.1), (902, d.iO z.2.2.1), (903, d.iT), (904, d.iN), (906, d.iW), (907, d.iTab id size vf vu vr (.slice z.2.2.2.1 z.1.1.length z.2.2.2.2)), (911, rC z.2.2.2.1 z.2.2.2.2 z.1.1), (912, d.iL z.1.2)] ++ K) w' := by
  refine enterM_args (args := [.func (.func 110) #[] #[selfP d.l, selfP d.n, selfP d.w, selfP d.T], selfP d.n, selfP d.o]) (F := _) hM0 Tryd.func106 rfl Tryd.ntmps106 rfl rfl ?_
  intro Rb hRb hRn
  refine T_seq ?_
  refine T_region ?_
  refine S_ 5 rfl rfl rfl _ (y_load 904 rfl rfl rfl rfl Tryd.underlying113 rfl) ?_
  refine S_callM 6 [(901, 901), (902, 902), (903, 903)] (X := Nat × List UInt8 × Bool) rfl rfl rfl rfl rfl rfl rfl cf102 rfl (fun z => .int .i64 (z.1 : Int)) (fun z => PRes nm (s) (ok) z.1 z.2.1 z.2.2 ∧ z.2.1.length ≤ (s).length ∧ z.1 ≤ 281474976710656) (fun z => [(901, Ad.iS (d) z.2.1), (902, Ad.iO (d) z.2.2), (903, Ad.iT (d))]) (fun _ => rfl) (fun _ => rfl) (fun K1 hK1 w hM => num_any hK1 (d) (s) (ok) w hM) ?_
  rintro ⟨N, s1, ok1⟩ h1
  try dsimp only at h1
  refine S_ 4 rfl rfl rfl _ (y_assign rfl rfl) ?_
  refine S_go (fun _ _ h => h) ?_
  refine T_block ?_
  refine T_loopK6 (kf := [(4, 4), (7, 15)]) (kl := [(4, 4), (7, 15), (901, 902), (907, 907), (911, 912)]) (fun (m : Nat) (l : List SCall × Int) (t : List UInt8) (ok3 : Bool) (A : Option Addr) (c : Nat) => [(4, true, .int .i64 (m : Int))]) (fun (m : Nat) (l : List SCall × Int) (t : List UInt8) (ok3 : Bool) (A : Option Addr) (c : Nat) => [(901, d.iS t), (902, d.iO ok3), (907, d.iTab id size vf vu vr (.slice A l.1.length c)), (911, rC A c l.1), (912, d.iL l.2)]) (fun (m : Nat) (l : List SCall × Int) (t : List UInt8) (ok3 : Bool) (A : Option Addr) (c : Nat) => m ≤ 281474976710656 ∧ IterInv oneC N ([], 0) s1 ok1 m l t ok3 ∧ (ok3 = true → l.1.length + t.length ≤ 1000000) ∧ (l.1.length ≤ 1000001 ∧ ∀ x ∈ l.1, x.name.length ≤ 1000000) ∧ t.length ≤ s.length) (fun (m : Nat) (l : List SCall × Int) (t : List UInt8) (ok3 : Bool) (A : Option Addr) (c : Nat) => m) N ([], 0) s1 ok1 none 0 (by repeat (first | exact kf_nil | (apply kf_in; focus rfl) | (apply kf_out; focus rfl))) (by repeat (first | exact kl_nil | exact kl_rest (by assumption) rfl | (apply kl_in; focus rfl) | (apply kl_out; focus rfl))) ?_ ?_ ?_ ?_
  · exact ⟨h1.2.2, IterInv.start, fun _ => by show 0 + s1.length ≤ 1000000; omega, ⟨by simp, by simp⟩, h1.2.1⟩
  · exact ⟨rfl, trivial⟩
  · exact ⟨rfl, rfl, rfl, rfl, rfl, trivial⟩
  rintro m l t ok3 A c ⟨hp1, hp2, hp3, hp4, hp5⟩
  refine T_seq ?_
  refine T_seq ?_
  refine T_region ?_
  refine S_ 7 rfl rfl rfl _ (y_move rfl rfl) ?_
  refine S_ 8 rfl rfl rfl _ (y_bin rfl rfl rfl (fun _ => b_gtr)) ?_
  refine S_ 9 rfl rfl rfl _ (y_move rfl rfl) ?_
  refine Sg_ 10 rfl rfl rfl rfl rfl rfl _ (y_load 902 rfl rfl rfl rfl Tryd.underlying4 rfl) ?_
  refine S_ 11 rfl rfl rfl _ (y_and rfl rfl rfl) ?_
  refine S_go (fun _ _ h => h) ?_
  refine T_cond rfl (fun h11 => ?_) (fun h11 => ?_)
  · skip
    obtain ⟨hok, hm⟩ := go_list h11
    have hb := hp3 hok
    refine T_skip_go (fun _ _ h => h) ?_
    refine T_seq ?_
    refine T_block ?_
    refine T_region ?_
    refine S_ 14 rfl rfl rfl _ (y_move rfl rfl) ?_
    refine S_callM 15 [(901, 901), (902, 902), (903, 903), (904, 904), (906, 906), (907, 907), (911, 911), (912, 912)] (X := (List SCall × Int) × List UInt8 × Bool × Option Addr × Nat) rfl rfl rfl rfl rfl rfl rfl cf110 rfl (fun _ => .tuple #[]) (fun z => PRes (oneC l) t ok3 z.1 z.2.1 z.2.2.1 ∧ (∃ x : SCall, z.1.1 = l.1 ++ [x] ∧ x.name.length ≤ t.length) ∧ z.2.1.length ≤ t.length) (fun z => [(901, d.iS z.2.1), (902, d.iO z.2.2.1), (903, d.iT), (904, d.iN), (906, d.iW), (907, d.iTab id size vf vu vr (.slice z.2.2.2.1 z.1.1.length z.2.2.2.2)), (911, rC z.2.2.2.1 z.2.2.2.2 z.1.1), (912, d.iL z.1.2)]) (fun _ => rfl) (fun _ => rfl) (fun K1 hK1 w hM => one9_any hK1 d id size vf vu vr A c l.1 l.2 t ok3 (by omega) w hM) ?_
    rintro ⟨a', s2, ok2, A', c'⟩ h2
    try dsimp only at h2
    refine S_go (fun _ _ h => h) ?_
    refine T_region ?_
    refine S_ 12 rfl rfl rfl _ (y_move rfl rfl) ?_
    refine S_ 13 rfl rfl rfl _ (y_bin rfl rfl rfl (fun hg => b_subv (((m - 1 : Nat) : Int)) (by omega) (by omega))) ?_
    refine S_ 4 rfl rfl rfl _ (y_assign rfl rfl) ?_
    obtain ⟨x, hx⟩ := h2.2.1
    have hlen : a'.1.length = l.1.length + 1 := by rw [hx.1]; simp
    refine S_nil (nextK6 (kf := [(4, 4), (7, 15)]) (kl := [(4, 4), (7, 15), (901, 902), (907, 907), (911, 912)]) (m - 1) a' s2 ok2 A' c' (by repeat (first | exact kf_nil | (apply kf_in; focus rfl) | (apply kf_out; focus rfl))) (by repeat (first | exact kl_none | exact kl_tail (by assumption) rfl (by repeat (first | exact ti_refl | (apply ti_cons; focus rfl))) | refine kl_cons rfl rfl ?_)) ?_ ?_ ?_ ?_)
    · omega
    · exact ⟨by omega, hp2.next hm hok h2.1, fun h => by have := less_of (one := oneC) oneC_less h2.1 h; omega, ⟨by omega, all_snoc hx.1 hp4.2 (by omega)⟩, by omega⟩
    · exact ⟨rfl, trivial⟩
    · exact ⟨rfl, rfl, rfl, rfl, rfl, trivial⟩
  · skip
    refine T_exit (fun a w hF hM => hRn a w (post0 rfl (fun w hM => ?_) a w hF hM))
    exact ⟨(l, t, ok3, A, c), rfl, ⟨h1.1.bnd (hp2.done (end_list h11)), hp4, hp5⟩, hM.keep (ks := [(0, 999)]) (by repeat (first | exact kl_rest (by assumption) rfl | (apply kl_in; focus rfl))) _ ⟨rfl, rfl, rfl, rfl, rfl, rfl, rfl, rfl,trivial⟩⟩
end Go.Proofs.YtofolhnecfkjkaaDoor
