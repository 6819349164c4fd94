/- symbol.readTable: the closures that take one element, and the lists. Conditions: those of each theorem. -/
import Derived.Test.YtofolhnecfkjkaaDoorRdP
namespace Go.Proofs.YtofolhnecfkjkaaDoor
set_option linter.unusedSimpArgs false
set_option linter.unusedVariables false
set_option maxRecDepth 20000
open Go.RowKit Go.Eng
theorem one6_any {w0 : World} {K : HL} (hK : FromK K) (d : Ad) (id : List UInt8) (size : Int) (vu vr vc : Value) (A : Option Addr) (c : Nat) (l : List (List UInt8)) (s : List UInt8) (ok : Bool) (hn : l.length ≤ 1000000) (w : World)
    (hM0 : Mem w0 ([(901, d.iS s), (902, d.iO ok), (903, d.iT), (904, d.iN), (906, d.iW), (907, d.iTab id size (.slice A l.length c) vu vr vc), (908, rF A c l)] ++ K) w) :
    Calls Tryd.prog 107 #[selfP d.T, selfP d.w] w fun e w' => ∃ z : List (List UInt8) × List UInt8 × Bool × Option Addr × Nat, e = .returned (.tuple #[]) ∧
      (PRes (oneF l) s ok z.1 z.2.1 z.2.2.1 ∧ (∃ x, z.1 = l ++ [x] ∧ x.length ≤ s.length) ∧ z.2.1.length ≤ s.length) ∧
      Mem w0 ([(901, d.iS z.2.1), (902, d.iO z.2.2.1), (903, d.iT), (904, d.iN), (906, d.iW), (907, d.iTab id size (.slice z.2.2.2.1 z.1.length z.2.2.2.2) vu vr vc), (908, rF z.2.2.2.1 z.2.2.2.2 z.1)] ++ K) w' := by
  refine enterM_args (args := [selfP d.T, selfP d.w]) (F := _) hM0 Tryd.func107 rfl Tryd.ntmps107 rfl rfl ?_
  intro Rb hRb hRn
  refine T_perm [0, 1, 2, 3, 4, 5, 6, 7] [true, true, true, false, false, false, true, false] [0, 1, 0, 4, 12, 31, 63, 127] [(1, [907]), (2, [906])] (by kernel_rfl) (by kernel_rfl) (by kernel_rfl) rfl (by kernel_rfl) ?_
  refine Rf_ 0 2 rfl rfl rfl rfl rfl _ trivial (Y.z (y_fieldAddr rfl rfl fa27_2) rfl) ?_
  refine Rf_ 1 3 rfl rfl rfl rfl rfl _ ⟨rfl, trivial⟩ (Y.z (y_load 907 rfl rfl rfl rfl Tryd.underlying22 rfl) rfl) ?_
  refine Rf_ 2 4 rfl rfl rfl rfl rfl _ ⟨rfl, trivial⟩ (Y.z (y_load 906 rfl rfl rfl rfl Tryd.underlying111 rfl) rfl) ?_
  refine R_chain 3 rfl rfl ?_
  refine S_callM 5 [(901, 901), (902, 902), (903, 903), (904, 904)] (X := List UInt8 × List UInt8 × Bool) rfl rfl rfl rfl rfl rfl rfl cf105 rfl (fun z => str z.1) (fun z => PRes wd (s) (ok) z.1 z.2.1 z.2.2 ∧ z.1.length ≤ (s).length ∧ z.2.1.length ≤ (s).length) (fun z => [(901, d.iS z.2.1), (902, d.iO z.2.2), (903, d.iT), (904, d.iN)]) (fun _ => rfl) (fun _ => rfl) (fun K1 hK1 w hM => wordc_any hK1 d (s) (ok) w hM) ?_
  rintro ⟨x, s1, ok1⟩ h
  try dsimp only at h
  refine R_next ⟨.inr ⟨rfl, trivial⟩, .inl rfl, trivial⟩ ?_
  refine R_chain 4 rfl rfl ?_
  refine S_buildSlice 6 6 rfl rfl rfl rfl rfl Tryd.underlying22 inf9 rfl (by decide) (by decide) rfl rfl (by decide) rfl (_) rfl ?_
  intro b6
  refine R_next ⟨.inr ⟨rfl, trivial⟩, .inl rfl, trivial⟩ ?_
  refine R_chain 5 rfl rfl ?_
  obtain ⟨i7, hi7, hz7, hs7, hy7⟩ := info_parts inf9
  refine S_append 7 908 6 rfl rfl rfl rfl rfl rfl rfl rfl Tryd.underlying22 hi7 hz7 hs7 hy7 rfl (by decide) (by decide) rfl ?_ ?_ ((l ++ [x]).length) ((l ++ [x]).flatMap strEnc) ?_ ?_ ?_
  · (simp only [maxLen]; omega)
  · omega
  · simp
  · simp [List.flatMap_append, strEnc]; rfl
  intro A7 c7
  refine R_next ⟨.inl rfl, .inl rfl, trivial⟩ ?_
  refine Rf_ 6 8 rfl rfl rfl rfl rfl _ trivial (Y.z (y_fieldAddr rfl rfl fa27_2) rfl) ?_
  refine R_chain 7 rfl rfl ?_
  refine S_store 907 rfl rfl rfl rfl rfl rfl sz22 rfl rfl ?_
  refine R_next ⟨.inl rfl, .inl rfl, trivial⟩ ?_
  refine R_nil (fun a w hF hM => hRn a w (post0 rfl (fun w hM => ?_) a w hF hM))
  exact ⟨(l ++ [x], s1, ok1, A7, c7), rfl, ⟨h.1.map (f := fun x => l ++ [x]), ⟨x, rfl, h.2.1⟩, h.2.2⟩, hM.keep (ks := [(0, 999)]) (by repeat (first | exact kl_rest (by assumption) rfl | (apply kl_in; focus rfl))) _ ⟨rfl, rfl, rfl, rfl, rfl, rfl, rfl, trivial⟩⟩
theorem one7_any {w0 : World} {K : HL} (hK : FromK K) (d : Ad) (id : List UInt8) (size : Int) (vf vr vc : Value) (A : Option Addr) (c : Nat) (l : List SFunc) (last : Int) (s : List UInt8) (ok : Bool) (hn : l.length ≤ 1000000) (w : World)
    (hM0 : Mem w0 ([(901, d.iS s), (902, d.iO ok), (903, d.iT), (904, d.iN), (906, d.iW), (907, d.iTab id size vf (.slice A l.length c) vr vc), (909, rU A c l), (912, d.iL last)] ++ K) w) :
    Calls Tryd.prog 108 #[selfP d.l, selfP d.n, selfP d.T, selfP d.w] w fun e w' => ∃ z : (List SFunc × Int) × List UInt8 × Bool × Option Addr × Nat, e = .returned (.tuple #[]) ∧
      (PRes (oneU (l, last)) s ok z.1 z.2.1 z.2.2.1 ∧ (∃ x : SFunc, z.1.1 = l ++ [x] ∧ x.name.length ≤ s.length) ∧ z.2.1.length ≤ s.length) ∧
      Mem w0 ([(901, d.iS z.2.1), (902, d.iO z.2.2.1), (903, d.iT), (904, d.iN), (906, d.iW), (907, d.iTab id size vf (.slice z.2.2.2.1 z.1.1.length z.2.2.2.2) vr vc), (909, rU z.2.2.2.1 z.2.2.2.2 z.1.1), (912, d.iL z.1.2)] ++ K) w' := by
  refine enterM_args (args := [selfP d.l, selfP d.n, selfP d.T, selfP d.w]) (F := _) hM0 Tryd.func108 rfl Tryd.ntmps108 rfl rfl ?_
  intro Rb hRb hRn
  refine T_seq ?_
  refine T_perm [0, 1, 2, 3, 4] [true, true, false, true, true] [0, 0, 2, 7, 15] [(0, [912]), (1, [904])] (by kernel_rfl) (by kernel_rfl) (by kernel_rfl) rfl (by kernel_rfl) ?_
  refine Rf_ 0 5 rfl rfl rfl rfl rfl _ ⟨rfl, trivial⟩ (Y.z (y_load 912 rfl rfl rfl rfl Tryd.underlying3 rfl) rfl) ?_
  refine Rf_ 1 6 rfl rfl rfl rfl rfl _ ⟨rfl, trivial⟩ (Y.z (y_load 904 rfl rfl rfl rfl Tryd.underlying113 rfl) rfl) ?_
  refine R_chain 2 rfl rfl ?_
  refine S_callM 7 [(901, 901), (902, 902), (903, 903)] (X := Nat × List UInt8 × Bool) rfl rfl rfl rfl rfl rfl rfl cf102 rfl (fun z => .int .i64 (z.1 : Int)) (fun z => PRes nm (s) (ok) z.1 z.2.1 z.2.2 ∧ z.2.1.length ≤ (s).length ∧ z.1 ≤ 281474976710656) (fun z => [(901, Ad.iS (d) z.2.1), (902, Ad.iO (d) z.2.2), (903, Ad.iT (d))]) (fun _ => rfl) (fun _ => rfl) (fun K1 hK1 w hM => num_any hK1 (d) (s) (ok) w hM) ?_
  rintro ⟨n, s1, ok1⟩ h
  try dsimp only at h
  refine R_next ⟨.inr ⟨rfl, trivial⟩, .inl rfl, trivial⟩ ?_
  refine Rf_ 3 8 rfl rfl rfl rfl rfl _ trivial (Y.z (y_bin rfl rfl rfl (fun hg => b_addw)) rfl) ?_
  refine Rf_ 4 4 rfl rfl rfl rfl rfl _ trivial (Y.z (y_assign rfl rfl) rfl) ?_
  refine R_go (fun _ _ h => h) ?_
  refine T_seq ?_
  refine T_region ?_
  refine S_ 9 rfl rfl rfl _ (y_move rfl rfl) ?_
  refine S_ 10 rfl rfl rfl _ (y_load 904 rfl rfl rfl rfl Tryd.underlying113 rfl) ?_
  refine S_callM 11 [(901, 901), (902, 902), (903, 903)] (X := Nat × List UInt8 × Bool) rfl rfl rfl rfl rfl rfl rfl cf102 rfl (fun z => .int .i64 (z.1 : Int)) (fun z => PRes nm (s1) (ok1) z.1 z.2.1 z.2.2 ∧ z.2.1.length ≤ (s1).length ∧ z.1 ≤ 281474976710656) (fun z => [(901, Ad.iS (d) z.2.1), (902, Ad.iO (d) z.2.2), (903, Ad.iT (d))]) (fun _ => rfl) (fun _ => rfl) (fun K1 hK1 w hM => num_any hK1 (d) (s1) (ok1) w hM) ?_
  rintro ⟨m, s2, ok2⟩ h2
  try dsimp only at h2
  refine S_ 12 rfl rfl rfl _ (y_bin rfl rfl rfl (fun hg => b_addw)) ?_
  refine S_store 912 rfl rfl rfl rfl rfl rfl sz3 rfl rfl ?_
  refine S_go (fun _ _ h => h) ?_
  refine T_perm [0, 1, 2, 4, 5, 3, 6, 7, 8, 9, 10] [true, true, true, false, true, true, true, false, false, true, false] [0, 1, 0, 4, 0, 0, 60, 124, 255, 511, 1023] [(1, [907]), (2, [906]), (5, [912])] (by kernel_rfl) (by kernel_rfl) (by kernel_rfl) rfl (by kernel_rfl) ?_
  refine Rf_ 0 13 rfl rfl rfl rfl rfl _ trivial (Y.z (y_fieldAddr rfl rfl fa27_3) rfl) ?_
  refine Rf_ 1 14 rfl rfl rfl rfl rfl _ ⟨rfl, trivial⟩ (Y.z (y_load 907 rfl rfl rfl rfl Tryd.underlying23 rfl) rfl) ?_
  refine Rf_ 2 15 rfl rfl rfl rfl rfl _ ⟨rfl, trivial⟩ (Y.z (y_load 906 rfl rfl rfl rfl Tryd.underlying111 rfl) rfl) ?_
  refine Rf_ 4 17 rfl rfl rfl rfl rfl _ trivial (Y.z (y_move rfl rfl) rfl) ?_
  refine Rf_ 5 18 rfl rfl rfl rfl rfl _ ⟨rfl, trivial⟩ (Y.z (y_load 912 rfl rfl rfl rfl Tryd.underlying3 rfl) rfl) ?_
  refine R_chain 3 rfl rfl ?_
  refine S_callM 16 [(901, 901), (902, 902), (903, 903), (904, 904)] (X := List UInt8 × List UInt8 × Bool) rfl rfl rfl rfl rfl rfl rfl cf105 rfl (fun z => str z.1) (fun z => PRes wd (s2) (ok2) z.1 z.2.1 z.2.2 ∧ z.1.length ≤ (s2).length ∧ z.2.1.length ≤ (s2).length) (fun z => [(901, d.iS z.2.1), (902, d.iO z.2.2), (903, d.iT), (904, d.iN)]) (fun _ => rfl) (fun _ => rfl) (fun K1 hK1 w hM => wordc_any hK1 d (s2) (ok2) w hM) ?_
  rintro ⟨x, s3, ok3⟩ h3
  try dsimp only at h3
  refine R_next ⟨.inr ⟨rfl, trivial⟩, .inl rfl, .inr ⟨rfl, trivial⟩, trivial⟩ ?_
  refine Rf_ 6 19 rfl rfl rfl rfl rfl _ trivial (Y.z (y_build (zv := .agg #[.string ⟨#[]⟩, .int .i64 0, .int .i64 0]) (pl := [(0, 1), (1, 1), (2, 1)]) (out := [_, _, _]) rfl rfl Tryd.underlying80 z80 (by kernel_rfl) rfl) rfl) ?_
  refine R_chain 7 rfl rfl ?_
  refine S_buildSlice 20 20 rfl rfl rfl rfl rfl Tryd.underlying23 inf80 rfl (by decide) (by decide) rfl rfl (by decide) rfl (_) rfl ?_
  intro b20
  refine R_next ⟨.inr ⟨rfl, trivial⟩, .inl rfl, .inl rfl, trivial⟩ ?_
  refine R_chain 8 rfl rfl ?_
  obtain ⟨i21, hi21, hz21, hs21, hy21⟩ := info_parts inf80
  refine S_append 21 909 20 rfl rfl rfl rfl rfl rfl rfl rfl Tryd.underlying23 hi21 hz21 hs21 hy21 rfl (by decide) (by decide) rfl ?_ ?_ ((l ++ [(⟨x, wr (last + n), wr (wr (last + n) + m)⟩ : SFunc)]).length) ((l ++ [(⟨x, wr (last + n), wr (wr (last + n) + m)⟩ : SFunc)]).flatMap SFunc.enc) ?_ ?_ ?_
  · (simp only [maxLen]; omega)
  · omega
  · simp
  · simp [List.flatMap_append, SFunc.enc]; rfl
  intro A21 c21
  refine R_next ⟨.inl rfl, .inl rfl, .inl rfl, trivial⟩ ?_
  refine Rf_ 9 22 rfl rfl rfl rfl rfl _ trivial (Y.z (y_fieldAddr rfl rfl fa27_3) rfl) ?_
  refine R_chain 10 rfl rfl ?_
  refine S_store 907 rfl rfl rfl rfl rfl rfl sz23 rfl rfl ?_
  refine R_next ⟨.inl rfl, .inl rfl, .inl rfl, trivial⟩ ?_
  refine R_nil (fun a w hF hM => hRn a w (post0 rfl (fun w hM => ?_) a w hF hM))
  exact ⟨((l ++ [(⟨x, wr (last + n), wr (wr (last + n) + m)⟩ : SFunc)], wr (wr (last + n) + m)), s3, ok3, A21, c21), rfl, ⟨h.1.bnd (h2.1.bnd (h3.1.bnd PRes.giv)), ⟨_, rfl, by show x.length ≤ s.length; omega⟩, by show s3.length ≤ s.length; omega⟩, hM.keep (ks := [(0, 999)]) (by repeat (first | exact kl_rest (by assumption) rfl | (apply kl_in; focus rfl))) _ ⟨rfl, rfl, rfl, rfl, rfl, rfl, rfl, rfl, trivial⟩⟩
theorem one8_any {w0 : World} {K : HL} (hK : FromK K) (d : Ad) (id : List UInt8) (size : Int) (vf vu vc : Value) (A : Option Addr) (c : Nat) (l : List SRow) (b : SRow) (s : List UInt8) (ok : Bool) (hn : l.length ≤ 1000000) (w : World)
    (hM0 : Mem w0 ([(901, d.iS s), (902, d.iO ok), (903, d.iT), (904, d.iN), (905, d.iG), (907, d.iTab id size vf vu (.slice A l.length c) vc), (910, rR A c l), (913, d.iR b)] ++ K) w) :
    Calls Tryd.prog 109 #[selfP d.r, selfP d.n, selfP d.g, selfP d.T] w fun e w' => ∃ z : (List SRow × SRow) × List UInt8 × Bool × Option Addr × Nat, e = .returned (.tuple #[]) ∧
      (PRes (oneR (l, b)) s ok z.1 z.2.1 z.2.2.1 ∧ (∃ x : SRow, z.1.1 = l ++ [x]) ∧ z.2.1.length ≤ s.length) ∧
      Mem w0 ([(901, d.iS z.2.1), (902, d.iO z.2.2.1), (903, d.iT), (904, d.iN), (905, d.iG), (907, d.iTab id size vf vu (.slice z.2.2.2.1 z.1.1.length z.2.2.2.2) vc), (910, rR z.2.2.2.1 z.2.2.2.2 z.1.1), (913, d.iR z.1.2)] ++ K) w' := by
  refine enterM_args (args := [selfP d.r, selfP d.n, selfP d.g, selfP d.T]) (F := _) hM0 Tryd.func109 rfl Tryd.ntmps109 rfl rfl ?_
  intro Rb hRb hRn
  refine T_seq ?_
  refine T_perm [0, 1, 2, 3, 4, 5, 6] [true, true, true, false, true, true, false] [0, 1, 0, 4, 15, 31, 63] [(1, [913]), (2, [904])] (by kernel_rfl) (by kernel_rfl) (by kernel_rfl) rfl (by kernel_rfl) ?_
  refine Rf_ 0 4 rfl rfl rfl rfl rfl _ trivial (Y.z (y_fieldAddr rfl rfl fa98_0) rfl) ?_
  refine Rf_ 1 5 rfl rfl rfl rfl rfl _ ⟨rfl, trivial⟩ (Y.z (y_load 913 rfl rfl rfl rfl Tryd.underlying3 rfl) rfl) ?_
  refine Rf_ 2 6 rfl rfl rfl rfl rfl _ ⟨rfl, trivial⟩ (Y.z (y_load 904 rfl rfl rfl rfl Tryd.underlying113 rfl) rfl) ?_
  refine R_chain 3 rfl rfl ?_
  refine S_callM 7 [(901, 901), (902, 902), (903, 903)] (X := Nat × List UInt8 × Bool) rfl rfl rfl rfl rfl rfl rfl cf102 rfl (fun z => .int .i64 (z.1 : Int)) (fun z => PRes nm (s) (ok) z.1 z.2.1 z.2.2 ∧ z.2.1.length ≤ (s).length ∧ z.1 ≤ 281474976710656) (fun z => [(901, Ad.iS (d) z.2.1), (902, Ad.iO (d) z.2.2), (903, Ad.iT (d))]) (fun _ => rfl) (fun _ => rfl) (fun K1 hK1 w hM => num_any hK1 (d) (s) (ok) w hM) ?_
  rintro ⟨n, s1, ok1⟩ h
  try dsimp only at h
  refine R_next ⟨.inr ⟨rfl, trivial⟩, .inl rfl, trivial⟩ ?_
  refine Rf_ 4 8 rfl rfl rfl rfl rfl _ trivial (Y.z (y_bin rfl rfl rfl (fun hg => b_addw)) rfl) ?_
  refine Rf_ 5 9 rfl rfl rfl rfl rfl _ trivial (Y.z (y_fieldAddr rfl rfl fa98_0) rfl) ?_
  refine R_chain 6 rfl rfl ?_
  refine S_store 913 rfl rfl rfl rfl rfl rfl sz3 rfl rfl ?_
  refine R_next ⟨.inl rfl, .inl rfl, trivial⟩ ?_
  refine R_go (fun _ _ h => h) ?_
  refine T_seq ?_
  refine T_perm [0, 1, 2, 3, 4, 5, 6] [true, true, true, false, true, true, false] [0, 1, 0, 4, 15, 31, 63] [(1, [913]), (2, [905])] (by kernel_rfl) (by kernel_rfl) (by kernel_rfl) rfl (by kernel_rfl) ?_
  refine Rf_ 0 10 rfl rfl rfl rfl rfl _ trivial (Y.z (y_fieldAddr rfl rfl fa98_1) rfl) ?_
  refine Rf_ 1 11 rfl rfl rfl rfl rfl _ ⟨rfl, trivial⟩ (Y.z (y_load 913 rfl rfl rfl rfl Tryd.underlying3 rfl) rfl) ?_
  refine Rf_ 2 12 rfl rfl rfl rfl rfl _ ⟨rfl, trivial⟩ (Y.z (y_load 905 rfl rfl rfl rfl Tryd.underlying113 rfl) rfl) ?_
  refine R_chain 3 rfl rfl ?_
  refine S_callM 13 [(901, 901), (902, 902), (903, 903), (904, 904)] (X := Int × List UInt8 × Bool) rfl rfl rfl rfl rfl rfl rfl cf104 rfl (fun z => .int .i64 z.1) (fun z => PRes sg (s1) (ok1) z.1 z.2.1 z.2.2 ∧ z.2.1.length ≤ (s1).length) (fun z => [(901, d.iS z.2.1), (902, d.iO z.2.2), (903, d.iT), (904, d.iN)]) (fun _ => rfl) (fun _ => rfl) (fun K1 hK1 w hM => sgn_any hK1 d (s1) (ok1) w hM) ?_
  rintro ⟨m, s2, ok2⟩ h2
  try dsimp only at h2
  refine R_next ⟨.inr ⟨rfl, trivial⟩, .inl rfl, trivial⟩ ?_
  refine Rf_ 4 14 rfl rfl rfl rfl rfl _ trivial (Y.z (y_bin rfl rfl rfl (fun hg => b_addw)) rfl) ?_
  refine Rf_ 5 15 rfl rfl rfl rfl rfl _ trivial (Y.z (y_fieldAddr rfl rfl fa98_1) rfl) ?_
  refine R_chain 6 rfl rfl ?_
  refine S_store 913 rfl rfl rfl rfl rfl rfl sz3 rfl rfl ?_
  refine R_next ⟨.inl rfl, .inl rfl, trivial⟩ ?_
  refine R_go (fun _ _ h => h) ?_
  refine T_seq ?_
  refine T_perm [0, 1, 2, 3, 4, 5, 6] [true, true, true, false, true, true, false] [0, 1, 0, 4, 15, 31, 63] [(1, [913]), (2, [905])] (by kernel_rfl) (by kernel_rfl) (by kernel_rfl) rfl (by kernel_rfl) ?_
  refine Rf_ 0 16 rfl rfl rfl rfl rfl _ trivial (Y.z (y_fieldAddr rfl rfl fa98_2) rfl) ?_
  refine Rf_ 1 17 rfl rfl rfl rfl rfl _ ⟨rfl, trivial⟩ (Y.z (y_load 913 rfl rfl rfl rfl Tryd.underlying3 rfl) rfl) ?_
  refine Rf_ 2 18 rfl rfl rfl rfl rfl _ ⟨rfl, trivial⟩ (Y.z (y_load 905 rfl rfl rfl rfl Tryd.underlying113 rfl) rfl) ?_
  refine R_chain 3 rfl rfl ?_
  refine S_callM 19 [(901, 901), (902, 902), (903, 903), (904, 904)] (X := Int × List UInt8 × Bool) rfl rfl rfl rfl rfl rfl rfl cf104 rfl (fun z => .int .i64 z.1) (fun z => PRes sg (s2) (ok2) z.1 z.2.1 z.2.2 ∧ z.2.1.length ≤ (s2).length) (fun z => [(901, d.iS z.2.1), (902, d.iO z.2.2), (903, d.iT), (904, d.iN)]) (fun _ => rfl) (fun _ => rfl) (fun K1 hK1 w hM => sgn_any hK1 d (s2) (ok2) w hM) ?_
  rintro ⟨k, s3, ok3⟩ h3
  try dsimp only at h3
  refine R_next ⟨.inr ⟨rfl, trivial⟩, .inl rfl, trivial⟩ ?_
  refine Rf_ 4 20 rfl rfl rfl rfl rfl _ trivial (Y.z (y_bin rfl rfl rfl (fun hg => b_addw)) rfl) ?_
  refine Rf_ 5 21 rfl rfl rfl rfl rfl _ trivial (Y.z (y_fieldAddr rfl rfl fa98_2) rfl) ?_
  refine R_chain 6 rfl rfl ?_
  refine S_store 913 rfl rfl rfl rfl rfl rfl sz3 rfl rfl ?_
  refine R_next ⟨.inl rfl, .inl rfl, trivial⟩ ?_
  refine R_go (fun _ _ h => h) ?_
  refine T_region ?_
  refine S_ 22 rfl rfl rfl _ (y_fieldAddr rfl rfl fa27_4) ?_
  refine S_ 23 rfl rfl rfl _ (y_load 907 rfl rfl rfl rfl Tryd.underlying24 rfl) ?_
  refine S_ 24 rfl rfl rfl _ (y_loadA 913 rfl rfl rfl Tryd.underlying98 rfl sz98) ?_
  refine S_buildSlice 25 25 rfl rfl rfl rfl rfl Tryd.underlying24 inf98 rfl (by decide) (by decide) rfl rfl (by decide) rfl (_) rfl ?_
  intro b25
  obtain ⟨i26, hi26, hz26, hs26, hy26⟩ := info_parts inf98
  refine S_append 26 910 25 rfl rfl rfl rfl rfl rfl rfl rfl Tryd.underlying24 hi26 hz26 hs26 hy26 rfl (by decide) (by decide) rfl ?_ ?_ ((l ++ [(⟨wr (b.pos + n), wr (b.fi + m), wr (b.ln + k)⟩ : SRow)]).length) ((l ++ [(⟨wr (b.pos + n), wr (b.fi + m), wr (b.ln + k)⟩ : SRow)]).flatMap SRow.enc) ?_ ?_ ?_
  · (simp only [maxLen]; omega)
  · omega
  · simp
  · simp [List.flatMap_append, SRow.enc]; rfl
  intro A26 c26
  refine S_ 27 rfl rfl rfl _ (y_fieldAddr rfl rfl fa27_4) ?_
  refine S_store 907 rfl rfl rfl rfl rfl rfl sz24 rfl rfl ?_
  refine S_nil (fun a w hF hM => hRn a w (post0 rfl (fun w hM => ?_) a w hF hM))
  exact ⟨((l ++ [(⟨wr (b.pos + n), wr (b.fi + m), wr (b.ln + k)⟩ : SRow)], ⟨wr (b.pos + n), wr (b.fi + m), wr (b.ln + k)⟩), s3, ok3, A26, c26), rfl, ⟨h.1.bnd (h2.1.bnd (h3.1.bnd PRes.giv)), ⟨_, rfl⟩, by show s3.length ≤ s.length; omega⟩, hM.keep (ks := [(0, 999)]) (by repeat (first | exact kl_rest (by assumption) rfl | (apply kl_in; focus rfl))) _ ⟨rfl, rfl, rfl, rfl, rfl, rfl, rfl, rfl, trivial⟩⟩
theorem one9_any {w0 : World} {K : HL} (hK : FromK K) (d : Ad) (id : List UInt8) (size : Int) (vf vu vr : Value) (A : Option Addr) (c : Nat) (l : List SCall) (last : Int) (s : List UInt8) (ok : Bool) (hn : l.length ≤ 1000000) (w : World)
    (hM0 : Mem w0 ([(901, d.iS s), (902, d.iO ok), (903, d.iT), (904, d.iN), (906, d.iW), (907, d.iTab id size vf vu vr (.slice A l.length c)), (911, rC A c l), (912, d.iL last)] ++ K) w) :
    Calls Tryd.prog 110 #[selfP d.l, selfP d.n, selfP d.w, selfP d.T] w fun e w' => ∃ z : (List SCall × Int) × List UInt8 × Bool × Option Addr × Nat, e = .returned (.tuple #[]) ∧
      (PRes (oneC (l, last)) s ok z.1 z.2.1 z.2.2.1 ∧ (∃ x : SCall, z.1.1 = l ++ [x] ∧ x.name.length ≤ s.length) ∧ z.2.1.length ≤ s.length) ∧
      Mem w0 ([(901, d.iS z.2.1), (902, d.iO z.2.2.1), (903, d.iT), (904, d.iN), (906, d.iW), (907, d.iTab id size vf vu vr (.slice z.2.2.2.1 z.1.1.length z.2.2.2.2)), (911, rC z.2.2.2.1 z.2.2.2.2 z.1.1), (912, d.iL z.1.2)] ++ K) w' := by
  refine enterM_args (args := [selfP d.l, selfP d.n, selfP d.w, selfP d.T]) (F := _) hM0 Tryd.func110 rfl Tryd.ntmps110 rfl rfl ?_
  intro Rb hRb hRn
  refine T_seq ?_
  refine T_perm [0, 1, 2, 3, 4] [true, true, false, true, false] [0, 0, 2, 7, 15] [(0, [912]), (1, [904])] (by kernel_rfl) (by kernel_rfl) (by kernel_rfl) rfl (by kernel_rfl) ?_
  refine Rf_ 0 5 rfl rfl rfl rfl rfl _ ⟨rfl, trivial⟩ (Y.z (y_load 912 rfl rfl rfl rfl Tryd.underlying3 rfl) rfl) ?_
  refine Rf_ 1 6 rfl rfl rfl rfl rfl _ ⟨rfl, trivial⟩ (Y.z (y_load 904 rfl rfl rfl rfl Tryd.underlying113 rfl) rfl) ?_
  refine R_chain 2 rfl rfl ?_
  refine S_callM 7 [(901, 901), (902, 902), (903, 903)] (X := Nat × List UInt8 × Bool) rfl rfl rfl rfl rfl rfl rfl cf102 rfl (fun z => .int .i64 (z.1 : Int)) (fun z => PRes nm (s) (ok) z.1 z.2.1 z.2.2 ∧ z.2.1.length ≤ (s).length ∧ z.1 ≤ 281474976710656) (fun z => [(901, Ad.iS (d) z.2.1), (902, Ad.iO (d) z.2.2), (903, Ad.iT (d))]) (fun _ => rfl) (fun _ => rfl) (fun K1 hK1 w hM => num_any hK1 (d) (s) (ok) w hM) ?_
  rintro ⟨n, s1, ok1⟩ h
  try dsimp only at h
  refine R_next ⟨.inr ⟨rfl, trivial⟩, .inl rfl, trivial⟩ ?_
  refine Rf_ 3 8 rfl rfl rfl rfl rfl _ trivial (Y.z (y_bin rfl rfl rfl (fun hg => b_addw)) rfl) ?_
  refine R_chain 4 rfl rfl ?_
  refine S_store 912 rfl rfl rfl rfl rfl rfl sz3 rfl rfl ?_
  refine R_next ⟨.inl rfl, .inl rfl, trivial⟩ ?_
  refine R_go (fun _ _ h => h) ?_
  refine T_seq ?_
  refine T_region ?_
  refine S_ 9 rfl rfl rfl _ (y_load 912 rfl rfl rfl rfl Tryd.underlying3 rfl) ?_
  refine S_ 10 rfl rfl rfl _ (y_build (zv := .agg #[.string ⟨#[]⟩, .int .i64 0, .int .i64 0, .int .i64 0, .int .i64 0]) (pl := [(0, 1), (1, 1), (2, 1), (3, 1), (4, 1)]) (out := [.string ⟨#[]⟩, _, .int .i64 0, .int .i64 0, .int .i64 0]) rfl rfl Tryd.underlying110 z110 (by kernel_rfl) rfl) ?_
  refine S_alloc 4 4 rfl rfl rfl rfl z110 ?_
  intro b4
  refine S_store 4 rfl rfl rfl rfl rfl rfl sz110 rfl rfl ?_
  refine S_go (fun _ _ h => h) ?_
  refine T_seq ?_
  refine T_perm [0, 1, 2, 3, 4, 5] [true, true, false, true, true, false] [0, 0, 2, 7, 15, 31] [(0, [912]), (1, [904])] (by kernel_rfl) (by kernel_rfl) (by kernel_rfl) rfl (by kernel_rfl) ?_
  refine Rf_ 0 11 rfl rfl rfl rfl rfl _ ⟨rfl, trivial⟩ (Y.z (y_load 912 rfl rfl rfl rfl Tryd.underlying3 rfl) rfl) ?_
  refine Rf_ 1 12 rfl rfl rfl rfl rfl _ ⟨rfl, trivial⟩ (Y.z (y_load 904 rfl rfl rfl rfl Tryd.underlying113 rfl) rfl) ?_
  refine R_chain 2 rfl rfl ?_
  refine S_callM 13 [(901, 901), (902, 902), (903, 903)] (X := Nat × List UInt8 × Bool) rfl rfl rfl rfl rfl rfl rfl cf102 rfl (fun z => .int .i64 (z.1 : Int)) (fun z => PRes nm (s1) (ok1) z.1 z.2.1 z.2.2 ∧ z.2.1.length ≤ (s1).length ∧ z.1 ≤ 281474976710656) (fun z => [(901, Ad.iS (d) z.2.1), (902, Ad.iO (d) z.2.2), (903, Ad.iT (d))]) (fun _ => rfl) (fun _ => rfl) (fun K1 hK1 w hM => num_any hK1 (d) (s1) (ok1) w hM) ?_
  rintro ⟨m, s2, ok2⟩ h2
  try dsimp only at h2
  refine R_next ⟨.inr ⟨rfl, trivial⟩, .inl rfl, trivial⟩ ?_
  refine Rf_ 3 14 rfl rfl rfl rfl rfl _ trivial (Y.z (y_bin rfl rfl rfl (fun hg => b_addw)) rfl) ?_
  refine Rf_ 4 15 rfl rfl rfl rfl rfl _ trivial (Y.z (y_fieldAddr rfl rfl fa110_2) rfl) ?_
  refine R_chain 5 rfl rfl ?_
  refine S_store 4 rfl rfl rfl rfl rfl rfl sz3 rfl rfl ?_
  refine R_next ⟨.inl rfl, .inl rfl, trivial⟩ ?_
  refine R_go (fun _ _ h => h) ?_
  refine T_seq ?_
  refine T_perm [0, 2, 1, 4, 3, 5, 6, 7] [true, false, true, false, true, false, true, false] [0, 1, 0, 7, 3, 31, 63, 127] [(0, [904]), (2, [904])] (by kernel_rfl) (by kernel_rfl) (by kernel_rfl) rfl (by kernel_rfl) ?_
  refine Rf_ 0 16 rfl rfl rfl rfl rfl _ ⟨rfl, trivial⟩ (Y.z (y_load 904 rfl rfl rfl rfl Tryd.underlying113 rfl) rfl) ?_
  refine Rf_ 2 18 rfl rfl rfl rfl rfl _ ⟨rfl, trivial⟩ (Y.z (y_load 904 rfl rfl rfl rfl Tryd.underlying113 rfl) rfl) ?_
  refine R_chain 1 rfl rfl ?_
  refine S_callM 17 [(901, 901), (902, 902), (903, 903)] (X := Nat × List UInt8 × Bool) rfl rfl rfl rfl rfl rfl rfl cf102 rfl (fun z => .int .i64 (z.1 : Int)) (fun z => PRes nm (s2) (ok2) z.1 z.2.1 z.2.2 ∧ z.2.1.length ≤ (s2).length ∧ z.1 ≤ 281474976710656) (fun z => [(901, Ad.iS (d) z.2.1), (902, Ad.iO (d) z.2.2), (903, Ad.iT (d))]) (fun _ => rfl) (fun _ => rfl) (fun K1 hK1 w hM => num_any hK1 (d) (s2) (ok2) w hM) ?_
  rintro ⟨k, s3, ok3⟩ h3
  try dsimp only at h3
  refine R_next ⟨.inl rfl, .inr ⟨rfl, trivial⟩, trivial⟩ ?_
  refine Rf_ 4 20 rfl rfl rfl rfl rfl _ trivial (Y.z (y_fieldAddr rfl rfl fa110_3) rfl) ?_
  refine R_chain 3 rfl rfl ?_
  refine S_callM 19 [(901, 901), (902, 902), (903, 903)] (X := Nat × List UInt8 × Bool) rfl rfl rfl rfl rfl rfl rfl cf102 rfl (fun z => .int .i64 (z.1 : Int)) (fun z => PRes nm (s3) (ok3) z.1 z.2.1 z.2.2 ∧ z.2.1.length ≤ (s3).length ∧ z.1 ≤ 281474976710656) (fun z => [(901, Ad.iS (d) z.2.1), (902, Ad.iO (d) z.2.2), (903, Ad.iT (d))]) (fun _ => rfl) (fun _ => rfl) (fun K1 hK1 w hM => num_any hK1 (d) (s3) (ok3) w hM) ?_
  rintro ⟨j, s4, ok4⟩ h4
  try dsimp only at h4
  refine R_next ⟨.inl rfl, .inl rfl, trivial⟩ ?_
  refine R_chain 5 rfl rfl ?_
  refine S_store 4 rfl rfl rfl rfl rfl rfl sz3 rfl rfl ?_
  refine R_next ⟨.inl rfl, .inl rfl, trivial⟩ ?_
  refine Rf_ 6 21 rfl rfl rfl rfl rfl _ trivial (Y.z (y_fieldAddr rfl rfl fa110_4) rfl) ?_
  refine R_chain 7 rfl rfl ?_
  refine S_store 4 rfl rfl rfl rfl rfl rfl sz3 rfl rfl ?_
  refine R_next ⟨.inl rfl, .inl rfl, trivial⟩ ?_
  refine R_go (fun _ _ h => h) ?_
  refine T_seq ?_
  refine T_region ?_
  refine S_ 22 rfl rfl rfl _ (y_load 906 rfl rfl rfl rfl Tryd.underlying111 rfl) ?_
  refine S_callM 23 [(901, 901), (902, 902), (903, 903), (904, 904)] (X := List UInt8 × List UInt8 × Bool) rfl rfl rfl rfl rfl rfl rfl cf105 rfl (fun z => str z.1) (fun z => PRes wd (s4) (ok4) z.1 z.2.1 z.2.2 ∧ z.1.length ≤ (s4).length ∧ z.2.1.length ≤ (s4).length) (fun z => [(901, d.iS z.2.1), (902, d.iO z.2.2), (903, d.iT), (904, d.iN)]) (fun _ => rfl) (fun _ => rfl) (fun K1 hK1 w hM => wordc_any hK1 d (s4) (ok4) w hM) ?_
  rintro ⟨x, s5, ok5⟩ h5
  try dsimp only at h5
  refine S_ 24 rfl rfl rfl _ (y_fieldAddr rfl rfl fa110_0) ?_
  refine S_store 4 rfl rfl rfl rfl rfl rfl sz9 rfl rfl ?_
  refine S_go (fun _ _ h => h) ?_
  refine T_region ?_
  refine S_ 25 rfl rfl rfl _ (y_fieldAddr rfl rfl fa27_5) ?_
  refine S_ 26 rfl rfl rfl _ (y_load 907 rfl rfl rfl rfl Tryd.underlying25 rfl) ?_
  refine S_ 27 rfl rfl rfl _ (y_loadA 4 rfl rfl rfl Tryd.underlying110 rfl sz110) ?_
  refine S_buildSlice 28 28 rfl rfl rfl rfl rfl Tryd.underlying25 inf110 rfl (by decide) (by decide) rfl rfl (by decide) rfl (_) rfl ?_
  intro b28
  obtain ⟨i29, hi29, hz29, hs29, hy29⟩ := info_parts inf110
  refine S_append 29 911 28 rfl rfl rfl rfl rfl rfl rfl rfl Tryd.underlying25 hi29 hz29 hs29 hy29 rfl (by decide) (by decide) rfl ?_ ?_ ((l ++ [(⟨x, wr (last + n), wr (wr (last + n) + m), k, j⟩ : SCall)]).length) ((l ++ [(⟨x, wr (last + n), wr (wr (last + n) + m), k, j⟩ : SCall)]).flatMap SCall.enc) ?_ ?_ ?_
  · (simp only [maxLen]; omega)
  · omega
  · simp
  · simp [List.flatMap_append, SCall.enc]; rfl
  intro A29 c29
  refine S_ 30 rfl rfl rfl _ (y_fieldAddr rfl rfl fa27_5) ?_
  refine S_store 907 rfl rfl rfl rfl rfl rfl sz25 rfl rfl ?_
  refine S_nil (fun a w hF hM => hRn a w (post0 rfl (fun w hM => ?_) a w hF hM))
  exact ⟨((l ++ [(⟨x, wr (last + n), wr (wr (last + n) + m), k, j⟩ : SCall)], wr (last + n)), s5, ok5, A29, c29), rfl, ⟨h.1.bnd (h2.1.bnd (h3.1.bnd (h4.1.bnd (h5.1.bnd PRes.giv)))), ⟨_, rfl, by show x.length ≤ s.length; omega⟩, by show s5.length ≤ s.length; omega⟩, hM.keep (ks := [(0, 999)]) (by repeat (first | exact kl_rest (by assumption) rfl | (apply kl_in; focus rfl))) _ ⟨rfl, rfl, rfl, rfl, rfl, rfl, rfl, rfl, trivial⟩⟩
end Go.Proofs.YtofolhnecfkjkaaDoor
