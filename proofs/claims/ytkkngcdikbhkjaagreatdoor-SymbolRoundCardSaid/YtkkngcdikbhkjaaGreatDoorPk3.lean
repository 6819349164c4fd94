/- Part 3, merged by a program. symbol.readTable: the closures that take one element, and the lists. Conditions: those of each theorem. symbol.readTable: its lists. Conditions: those of each theorem. symbol.readTable and symbol.Read. Conditions: those of each theorem. SymbolChecks: the program's answers and the reference's are one. symbol.Read. Conditions: those of each theorem. Strings at a seat of tables: one byte looked for, cut and split at it. Conditions: those of each theorem. -/
import Derived.Test.YtkkngcdikbhkjaaGreatDoorByt
import Derived.Test.YtkkngcdikbhkjaaGreatDoorClr
import Derived.Test.YtkkngcdikbhkjaaGreatDoorMany
import Derived.Test.YtkkngcdikbhkjaaGreatDoorPk2
section
namespace Go.Proofs.YtkkngcdikbhkjaaGreatDoor
set_option linter.unusedSimpArgs false
set_option linter.unusedVariables false
set_option maxRecDepth 20000
open Go.RowKit Go.Eng
theorem one6_any {w0 : World} {K : HL} (hK : FromK K) (d : Ad) (id : List UInt8) (size : Int) (vu vr vc : Value) (A : Option Addr) (c : Nat) (l : List (List UInt8)) (s : List UInt8) (ok : Bool) (hn : l.length ≤ 1000000) (w : World)
    (hM0 : Mem w0 ([(901, d.iS s), (902, d.iO ok), (903, d.iT), (904, d.iN), (906, d.iW), (907, d.iTab id size (.slice A l.length c) vu vr vc), (908, rF A c l)] ++ K) w) :
    Calls Tryz.prog 279 #[selfP d.T, selfP d.w] w fun e w' => ∃ z : List (List UInt8) × List UInt8 × Bool × Option Addr × Nat, e = .returned (.tuple #[]) ∧
      (PRes (oneF l) s ok z.1 z.2.1 z.2.2.1 ∧ (∃ x, z.1 = l ++ [x] ∧ x.length ≤ s.length) ∧ z.2.1.length ≤ s.length) ∧
      Mem w0 ([(901, d.iS z.2.1), (902, d.iO z.2.2.1), (903, d.iT), (904, d.iN), (906, d.iW), (907, d.iTab id size (.slice z.2.2.2.1 z.1.length z.2.2.2.2) vu vr vc), (908, rF z.2.2.2.1 z.2.2.2.2 z.1)] ++ K) w' := by
  refine enterM_args (args := [selfP d.T, selfP d.w]) (F := _) hM0 Tryz.func279 rfl Tryz.ntmps279 rfl rfl ?_
  intro Rb hRb hRn
  refine T_perm [0, 1, 2, 3, 4, 5, 6, 7] [true, true, true, false, false, false, true, false] [0, 1, 0, 4, 12, 31, 63, 127] [(1, [907]), (2, [906])] (by kernel_rfl) (by kernel_rfl) (by kernel_rfl) rfl (by kernel_rfl) ?_
  refine Rf_ 0 2 rfl rfl rfl rfl rfl _ trivial (Y.z (y_fieldAddr rfl rfl fa62_2) rfl) ?_
  refine Rf_ 1 3 rfl rfl rfl rfl rfl _ ⟨rfl, trivial⟩ (Y.z (y_load 907 rfl rfl rfl rfl Tryz.underlying57 rfl) rfl) ?_
  refine Rf_ 2 4 rfl rfl rfl rfl rfl _ ⟨rfl, trivial⟩ (Y.z (y_load 906 rfl rfl rfl rfl Tryz.underlying201 rfl) rfl) ?_
  refine R_chain 3 rfl rfl ?_
  refine S_callM 5 [(901, 901), (902, 902), (903, 903), (904, 904)] (X := List UInt8 × List UInt8 × Bool) rfl rfl rfl rfl rfl rfl rfl cf277 rfl (fun z => str z.1) (fun z => PRes wd (s) (ok) z.1 z.2.1 z.2.2 ∧ z.1.length ≤ (s).length ∧ z.2.1.length ≤ (s).length) (fun z => [(901, d.iS z.2.1), (902, d.iO z.2.2), (903, d.iT), (904, d.iN)]) (fun _ => rfl) (fun _ => rfl) (fun K1 hK1 w hM => wordc_any hK1 d (s) (ok) w hM) ?_
  rintro ⟨x, s1, ok1⟩ h
  try dsimp only at h
  refine R_next ⟨.inr ⟨rfl, trivial⟩, .inl rfl, trivial⟩ ?_
  refine R_chain 4 rfl rfl ?_
  refine S_buildSlice 6 6 rfl rfl rfl rfl rfl Tryz.underlying57 inf9 rfl (by decide) (by decide) rfl rfl (by decide) rfl (_) rfl ?_
  intro b6
  refine R_next ⟨.inr ⟨rfl, trivial⟩, .inl rfl, trivial⟩ ?_
  refine R_chain 5 rfl rfl ?_
  obtain ⟨i7, hi7, hz7, hs7, hy7⟩ := info_parts inf9
  refine S_append 7 908 6 rfl rfl rfl rfl rfl rfl rfl rfl Tryz.underlying57 hi7 hz7 hs7 hy7 rfl (by decide) (by decide) rfl ?_ ?_ ((l ++ [x]).length) ((l ++ [x]).flatMap strEnc) ?_ ?_ ?_
  · (simp only [maxLen]; omega)
  · omega
  · simp
  · simp [List.flatMap_append, strEnc]; rfl
  intro A7 c7
  refine R_next ⟨.inl rfl, .inl rfl, trivial⟩ ?_
  refine Rf_ 6 8 rfl rfl rfl rfl rfl _ trivial (Y.z (y_fieldAddr rfl rfl fa62_2) rfl) ?_
  refine R_chain 7 rfl rfl ?_
  refine S_store 907 rfl rfl rfl rfl rfl rfl sz57 rfl rfl ?_
  refine R_next ⟨.inl rfl, .inl rfl, trivial⟩ ?_
  refine R_nil (fun a w hF hM => hRn a w (post0 rfl (fun w hM => ?_) a w hF hM))
  exact ⟨(l ++ [x], s1, ok1, A7, c7), rfl, ⟨h.1.map (f := fun x => l ++ [x]), ⟨x, rfl, h.2.1⟩, h.2.2⟩, hM.keep (ks := [(0, 999)]) (by repeat (first | exact kl_rest (by assumption) rfl | (apply kl_in; focus rfl))) _ ⟨rfl, rfl, rfl, rfl, rfl, rfl, rfl, trivial⟩⟩
theorem one7_any {w0 : World} {K : HL} (hK : FromK K) (d : Ad) (id : List UInt8) (size : Int) (vf vr vc : Value) (A : Option Addr) (c : Nat) (l : List SFunc) (last : Int) (s : List UInt8) (ok : Bool) (hn : l.length ≤ 1000000) (w : World)
    (hM0 : Mem w0 ([(901, d.iS s), (902, d.iO ok), (903, d.iT), (904, d.iN), (906, d.iW), (907, d.iTab id size vf (.slice A l.length c) vr vc), (909, rU A c l), (912, d.iL last)] ++ K) w) :
    Calls Tryz.prog 280 #[selfP d.l, selfP d.n, selfP d.T, selfP d.w] w fun e w' => ∃ z : (List SFunc × Int) × List UInt8 × Bool × Option Addr × Nat, e = .returned (.tuple #[]) ∧
      (PRes (oneU (l, last)) s ok z.1 z.2.1 z.2.2.1 ∧ (∃ x : SFunc, z.1.1 = l ++ [x] ∧ x.name.length ≤ s.length) ∧ z.2.1.length ≤ s.length) ∧
      Mem w0 ([(901, d.iS z.2.1), (902, d.iO z.2.2.1), (903, d.iT), (904, d.iN), (906, d.iW), (907, d.iTab id size vf (.slice z.2.2.2.1 z.1.1.length z.2.2.2.2) vr vc), (909, rU z.2.2.2.1 z.2.2.2.2 z.1.1), (912, d.iL z.1.2)] ++ K) w' := by
  refine enterM_args (args := [selfP d.l, selfP d.n, selfP d.T, selfP d.w]) (F := _) hM0 Tryz.func280 rfl Tryz.ntmps280 rfl rfl ?_
  intro Rb hRb hRn
  refine T_seq ?_
  refine T_perm [0, 1, 2, 3, 4] [true, true, false, true, true] [0, 0, 2, 7, 15] [(0, [912]), (1, [904])] (by kernel_rfl) (by kernel_rfl) (by kernel_rfl) rfl (by kernel_rfl) ?_
  refine Rf_ 0 5 rfl rfl rfl rfl rfl _ ⟨rfl, trivial⟩ (Y.z (y_load 912 rfl rfl rfl rfl Tryz.underlying3 rfl) rfl) ?_
  refine Rf_ 1 6 rfl rfl rfl rfl rfl _ ⟨rfl, trivial⟩ (Y.z (y_load 904 rfl rfl rfl rfl Tryz.underlying117 rfl) rfl) ?_
  refine R_chain 2 rfl rfl ?_
  refine S_callM 7 [(901, 901), (902, 902), (903, 903)] (X := Nat × List UInt8 × Bool) rfl rfl rfl rfl rfl rfl rfl cf274 rfl (fun z => .int .i64 (z.1 : Int)) (fun z => PRes nm (s) (ok) z.1 z.2.1 z.2.2 ∧ z.2.1.length ≤ (s).length ∧ z.1 ≤ 281474976710656) (fun z => [(901, Ad.iS (d) z.2.1), (902, Ad.iO (d) z.2.2), (903, Ad.iT (d))]) (fun _ => rfl) (fun _ => rfl) (fun K1 hK1 w hM => num_any hK1 (d) (s) (ok) w hM) ?_
  rintro ⟨n, s1, ok1⟩ h
  try dsimp only at h
  refine R_next ⟨.inr ⟨rfl, trivial⟩, .inl rfl, trivial⟩ ?_
  refine Rf_ 3 8 rfl rfl rfl rfl rfl _ trivial (Y.z (y_bin rfl rfl rfl (fun hg => b_addw)) rfl) ?_
  refine Rf_ 4 4 rfl rfl rfl rfl rfl _ trivial (Y.z (y_assign rfl rfl) rfl) ?_
  refine R_go (fun _ _ h => h) ?_
  refine T_seq ?_
  refine T_region ?_
  refine S_ 9 rfl rfl rfl _ (y_move rfl rfl) ?_
  refine S_ 10 rfl rfl rfl _ (y_load 904 rfl rfl rfl rfl Tryz.underlying117 rfl) ?_
  refine S_callM 11 [(901, 901), (902, 902), (903, 903)] (X := Nat × List UInt8 × Bool) rfl rfl rfl rfl rfl rfl rfl cf274 rfl (fun z => .int .i64 (z.1 : Int)) (fun z => PRes nm (s1) (ok1) z.1 z.2.1 z.2.2 ∧ z.2.1.length ≤ (s1).length ∧ z.1 ≤ 281474976710656) (fun z => [(901, Ad.iS (d) z.2.1), (902, Ad.iO (d) z.2.2), (903, Ad.iT (d))]) (fun _ => rfl) (fun _ => rfl) (fun K1 hK1 w hM => num_any hK1 (d) (s1) (ok1) w hM) ?_
  rintro ⟨m, s2, ok2⟩ h2
  try dsimp only at h2
  refine S_ 12 rfl rfl rfl _ (y_bin rfl rfl rfl (fun hg => b_addw)) ?_
  refine S_store 912 rfl rfl rfl rfl rfl rfl sz3 rfl rfl ?_
  refine S_go (fun _ _ h => h) ?_
  refine T_perm [0, 1, 2, 4, 5, 3, 6, 7, 8, 9, 10] [true, true, true, false, true, true, true, false, false, true, false] [0, 1, 0, 4, 0, 0, 60, 124, 255, 511, 1023] [(1, [907]), (2, [906]), (5, [912])] (by kernel_rfl) (by kernel_rfl) (by kernel_rfl) rfl (by kernel_rfl) ?_
  refine Rf_ 0 13 rfl rfl rfl rfl rfl _ trivial (Y.z (y_fieldAddr rfl rfl fa62_3) rfl) ?_
  refine Rf_ 1 14 rfl rfl rfl rfl rfl _ ⟨rfl, trivial⟩ (Y.z (y_load 907 rfl rfl rfl rfl Tryz.underlying58 rfl) rfl) ?_
  refine Rf_ 2 15 rfl rfl rfl rfl rfl _ ⟨rfl, trivial⟩ (Y.z (y_load 906 rfl rfl rfl rfl Tryz.underlying201 rfl) rfl) ?_
  refine Rf_ 4 17 rfl rfl rfl rfl rfl _ trivial (Y.z (y_move rfl rfl) rfl) ?_
  refine Rf_ 5 18 rfl rfl rfl rfl rfl _ ⟨rfl, trivial⟩ (Y.z (y_load 912 rfl rfl rfl rfl Tryz.underlying3 rfl) rfl) ?_
  refine R_chain 3 rfl rfl ?_
  refine S_callM 16 [(901, 901), (902, 902), (903, 903), (904, 904)] (X := List UInt8 × List UInt8 × Bool) rfl rfl rfl rfl rfl rfl rfl cf277 rfl (fun z => str z.1) (fun z => PRes wd (s2) (ok2) z.1 z.2.1 z.2.2 ∧ z.1.length ≤ (s2).length ∧ z.2.1.length ≤ (s2).length) (fun z => [(901, d.iS z.2.1), (902, d.iO z.2.2), (903, d.iT), (904, d.iN)]) (fun _ => rfl) (fun _ => rfl) (fun K1 hK1 w hM => wordc_any hK1 d (s2) (ok2) w hM) ?_
  rintro ⟨x, s3, ok3⟩ h3
  try dsimp only at h3
  refine R_next ⟨.inr ⟨rfl, trivial⟩, .inl rfl, .inr ⟨rfl, trivial⟩, trivial⟩ ?_
  refine Rf_ 6 19 rfl rfl rfl rfl rfl _ trivial (Y.z (y_build (zv := .agg #[.string ⟨#[]⟩, .int .i64 0, .int .i64 0]) (pl := [(0, 1), (1, 1), (2, 1)]) (out := [_, _, _]) rfl rfl Tryz.underlying196 z196 (by kernel_rfl) rfl) rfl) ?_
  refine R_chain 7 rfl rfl ?_
  refine S_buildSlice 20 20 rfl rfl rfl rfl rfl Tryz.underlying58 inf196 rfl (by decide) (by decide) rfl rfl (by decide) rfl (_) rfl ?_
  intro b20
  refine R_next ⟨.inr ⟨rfl, trivial⟩, .inl rfl, .inl rfl, trivial⟩ ?_
  refine R_chain 8 rfl rfl ?_
  obtain ⟨i21, hi21, hz21, hs21, hy21⟩ := info_parts inf196
  refine S_append 21 909 20 rfl rfl rfl rfl rfl rfl rfl rfl Tryz.underlying58 hi21 hz21 hs21 hy21 rfl (by decide) (by decide) rfl ?_ ?_ ((l ++ [(⟨x, wr (last + n), wr (wr (last + n) + m)⟩ : SFunc)]).length) ((l ++ [(⟨x, wr (last + n), wr (wr (last + n) + m)⟩ : SFunc)]).flatMap SFunc.enc) ?_ ?_ ?_
  · (simp only [maxLen]; omega)
  · omega
  · simp
  · simp [List.flatMap_append, SFunc.enc]; rfl
  intro A21 c21
  refine R_next ⟨.inl rfl, .inl rfl, .inl rfl, trivial⟩ ?_
  refine Rf_ 9 22 rfl rfl rfl rfl rfl _ trivial (Y.z (y_fieldAddr rfl rfl fa62_3) rfl) ?_
  refine R_chain 10 rfl rfl ?_
  refine S_store 907 rfl rfl rfl rfl rfl rfl sz58 rfl rfl ?_
  refine R_next ⟨.inl rfl, .inl rfl, .inl rfl, trivial⟩ ?_
  refine R_nil (fun a w hF hM => hRn a w (post0 rfl (fun w hM => ?_) a w hF hM))
  exact ⟨((l ++ [(⟨x, wr (last + n), wr (wr (last + n) + m)⟩ : SFunc)], wr (wr (last + n) + m)), s3, ok3, A21, c21), rfl, ⟨h.1.bnd (h2.1.bnd (h3.1.bnd PRes.giv)), ⟨_, rfl, by show x.length ≤ s.length; omega⟩, by show s3.length ≤ s.length; omega⟩, hM.keep (ks := [(0, 999)]) (by repeat (first | exact kl_rest (by assumption) rfl | (apply kl_in; focus rfl))) _ ⟨rfl, rfl, rfl, rfl, rfl, rfl, rfl, rfl, trivial⟩⟩
theorem one8_any {w0 : World} {K : HL} (hK : FromK K) (d : Ad) (id : List UInt8) (size : Int) (vf vu vc : Value) (A : Option Addr) (c : Nat) (l : List SRow) (b : SRow) (s : List UInt8) (ok : Bool) (hn : l.length ≤ 1000000) (w : World)
    (hM0 : Mem w0 ([(901, d.iS s), (902, d.iO ok), (903, d.iT), (904, d.iN), (905, d.iG), (907, d.iTab id size vf vu (.slice A l.length c) vc), (910, rR A c l), (913, d.iR b)] ++ K) w) :
    Calls Tryz.prog 281 #[selfP d.r, selfP d.n, selfP d.g, selfP d.T] w fun e w' => ∃ z : (List SRow × SRow) × List UInt8 × Bool × Option Addr × Nat, e = .returned (.tuple #[]) ∧
      (PRes (oneR (l, b)) s ok z.1 z.2.1 z.2.2.1 ∧ (∃ x : SRow, z.1.1 = l ++ [x]) ∧ z.2.1.length ≤ s.length) ∧
      Mem w0 ([(901, d.iS z.2.1), (902, d.iO z.2.2.1), (903, d.iT), (904, d.iN), (905, d.iG), (907, d.iTab id size vf vu (.slice z.2.2.2.1 z.1.1.length z.2.2.2.2) vc), (910, rR z.2.2.2.1 z.2.2.2.2 z.1.1), (913, d.iR z.1.2)] ++ K) w' := by
  refine enterM_args (args := [selfP d.r, selfP d.n, selfP d.g, selfP d.T]) (F := _) hM0 Tryz.func281 rfl Tryz.ntmps281 rfl rfl ?_
  intro Rb hRb hRn
  refine T_seq ?_
  refine T_perm [0, 1, 2, 3, 4, 5, 6] [true, true, true, false, true, true, false] [0, 1, 0, 4, 15, 31, 63] [(1, [913]), (2, [904])] (by kernel_rfl) (by kernel_rfl) (by kernel_rfl) rfl (by kernel_rfl) ?_
  refine Rf_ 0 4 rfl rfl rfl rfl rfl _ trivial (Y.z (y_fieldAddr rfl rfl fa198_0) rfl) ?_
  refine Rf_ 1 5 rfl rfl rfl rfl rfl _ ⟨rfl, trivial⟩ (Y.z (y_load 913 rfl rfl rfl rfl Tryz.underlying3 rfl) rfl) ?_
  refine Rf_ 2 6 rfl rfl rfl rfl rfl _ ⟨rfl, trivial⟩ (Y.z (y_load 904 rfl rfl rfl rfl Tryz.underlying117 rfl) rfl) ?_
  refine R_chain 3 rfl rfl ?_
  refine S_callM 7 [(901, 901), (902, 902), (903, 903)] (X := Nat × List UInt8 × Bool) rfl rfl rfl rfl rfl rfl rfl cf274 rfl (fun z => .int .i64 (z.1 : Int)) (fun z => PRes nm (s) (ok) z.1 z.2.1 z.2.2 ∧ z.2.1.length ≤ (s).length ∧ z.1 ≤ 281474976710656) (fun z => [(901, Ad.iS (d) z.2.1), (902, Ad.iO (d) z.2.2), (903, Ad.iT (d))]) (fun _ => rfl) (fun _ => rfl) (fun K1 hK1 w hM => num_any hK1 (d) (s) (ok) w hM) ?_
  rintro ⟨n, s1, ok1⟩ h
  try dsimp only at h
  refine R_next ⟨.inr ⟨rfl, trivial⟩, .inl rfl, trivial⟩ ?_
  refine Rf_ 4 8 rfl rfl rfl rfl rfl _ trivial (Y.z (y_bin rfl rfl rfl (fun hg => b_addw)) rfl) ?_
  refine Rf_ 5 9 rfl rfl rfl rfl rfl _ trivial (Y.z (y_fieldAddr rfl rfl fa198_0) rfl) ?_
  refine R_chain 6 rfl rfl ?_
  refine S_store 913 rfl rfl rfl rfl rfl rfl sz3 rfl rfl ?_
  refine R_next ⟨.inl rfl, .inl rfl, trivial⟩ ?_
  refine R_go (fun _ _ h => h) ?_
  refine T_seq ?_
  refine T_perm [0, 1, 2, 3, 4, 5, 6] [true, true, true, false, true, true, false] [0, 1, 0, 4, 15, 31, 63] [(1, [913]), (2, [905])] (by kernel_rfl) (by kernel_rfl) (by kernel_rfl) rfl (by kernel_rfl) ?_
  refine Rf_ 0 10 rfl rfl rfl rfl rfl _ trivial (Y.z (y_fieldAddr rfl rfl fa198_1) rfl) ?_
  refine Rf_ 1 11 rfl rfl rfl rfl rfl _ ⟨rfl, trivial⟩ (Y.z (y_load 913 rfl rfl rfl rfl Tryz.underlying3 rfl) rfl) ?_
  refine Rf_ 2 12 rfl rfl rfl rfl rfl _ ⟨rfl, trivial⟩ (Y.z (y_load 905 rfl rfl rfl rfl Tryz.underlying117 rfl) rfl) ?_
  refine R_chain 3 rfl rfl ?_
  refine S_callM 13 [(901, 901), (902, 902), (903, 903), (904, 904)] (X := Int × List UInt8 × Bool) rfl rfl rfl rfl rfl rfl rfl cf276 rfl (fun z => .int .i64 z.1) (fun z => PRes sg (s1) (ok1) z.1 z.2.1 z.2.2 ∧ z.2.1.length ≤ (s1).length) (fun z => [(901, d.iS z.2.1), (902, d.iO z.2.2), (903, d.iT), (904, d.iN)]) (fun _ => rfl) (fun _ => rfl) (fun K1 hK1 w hM => sgn_any hK1 d (s1) (ok1) w hM) ?_
  rintro ⟨m, s2, ok2⟩ h2
  try dsimp only at h2
  refine R_next ⟨.inr ⟨rfl, trivial⟩, .inl rfl, trivial⟩ ?_
  refine Rf_ 4 14 rfl rfl rfl rfl rfl _ trivial (Y.z (y_bin rfl rfl rfl (fun hg => b_addw)) rfl) ?_
  refine Rf_ 5 15 rfl rfl rfl rfl rfl _ trivial (Y.z (y_fieldAddr rfl rfl fa198_1) rfl) ?_
  refine R_chain 6 rfl rfl ?_
  refine S_store 913 rfl rfl rfl rfl rfl rfl sz3 rfl rfl ?_
  refine R_next ⟨.inl rfl, .inl rfl, trivial⟩ ?_
  refine R_go (fun _ _ h => h) ?_
  refine T_seq ?_
  refine T_perm [0, 1, 2, 3, 4, 5, 6] [true, true, true, false, true, true, false] [0, 1, 0, 4, 15, 31, 63] [(1, [913]), (2, [905])] (by kernel_rfl) (by kernel_rfl) (by kernel_rfl) rfl (by kernel_rfl) ?_
  refine Rf_ 0 16 rfl rfl rfl rfl rfl _ trivial (Y.z (y_fieldAddr rfl rfl fa198_2) rfl) ?_
  refine Rf_ 1 17 rfl rfl rfl rfl rfl _ ⟨rfl, trivial⟩ (Y.z (y_load 913 rfl rfl rfl rfl Tryz.underlying3 rfl) rfl) ?_
  refine Rf_ 2 18 rfl rfl rfl rfl rfl _ ⟨rfl, trivial⟩ (Y.z (y_load 905 rfl rfl rfl rfl Tryz.underlying117 rfl) rfl) ?_
  refine R_chain 3 rfl rfl ?_
  refine S_callM 19 [(901, 901), (902, 902), (903, 903), (904, 904)] (X := Int × List UInt8 × Bool) rfl rfl rfl rfl rfl rfl rfl cf276 rfl (fun z => .int .i64 z.1) (fun z => PRes sg (s2) (ok2) z.1 z.2.1 z.2.2 ∧ z.2.1.length ≤ (s2).length) (fun z => [(901, d.iS z.2.1), (902, d.iO z.2.2), (903, d.iT), (904, d.iN)]) (fun _ => rfl) (fun _ => rfl) (fun K1 hK1 w hM => sgn_any hK1 d (s2) (ok2) w hM) ?_
  rintro ⟨k, s3, ok3⟩ h3
  try dsimp only at h3
  refine R_next ⟨.inr ⟨rfl, trivial⟩, .inl rfl, trivial⟩ ?_
  refine Rf_ 4 20 rfl rfl rfl rfl rfl _ trivial (Y.z (y_bin rfl rfl rfl (fun hg => b_addw)) rfl) ?_
  refine Rf_ 5 21 rfl rfl rfl rfl rfl _ trivial (Y.z (y_fieldAddr rfl rfl fa198_2) rfl) ?_
  refine R_chain 6 rfl rfl ?_
  refine S_store 913 rfl rfl rfl rfl rfl rfl sz3 rfl rfl ?_
  refine R_next ⟨.inl rfl, .inl rfl, trivial⟩ ?_
  refine R_go (fun _ _ h => h) ?_
  refine T_region ?_
  refine S_ 22 rfl rfl rfl _ (y_fieldAddr rfl rfl fa62_4) ?_
  refine S_ 23 rfl rfl rfl _ (y_load 907 rfl rfl rfl rfl Tryz.underlying59 rfl) ?_
  refine S_ 24 rfl rfl rfl _ (y_loadA 913 rfl rfl rfl Tryz.underlying198 rfl sz198) ?_
  refine S_buildSlice 25 25 rfl rfl rfl rfl rfl Tryz.underlying59 inf198 rfl (by decide) (by decide) rfl rfl (by decide) rfl (_) rfl ?_
  intro b25
  obtain ⟨i26, hi26, hz26, hs26, hy26⟩ := info_parts inf198
  refine S_append 26 910 25 rfl rfl rfl rfl rfl rfl rfl rfl Tryz.underlying59 hi26 hz26 hs26 hy26 rfl (by decide) (by decide) rfl ?_ ?_ ((l ++ [(⟨wr (b.pos + n), wr (b.fi + m), wr (b.ln + k)⟩ : SRow)]).length) ((l ++ [(⟨wr (b.pos + n), wr (b.fi + m), wr (b.ln + k)⟩ : SRow)]).flatMap SRow.enc) ?_ ?_ ?_
  · (simp only [maxLen]; omega)
  · omega
  · simp
  · simp [List.flatMap_append, SRow.enc]; rfl
  intro A26 c26
  refine S_ 27 rfl rfl rfl _ (y_fieldAddr rfl rfl fa62_4) ?_
  refine S_store 907 rfl rfl rfl rfl rfl rfl sz59 rfl rfl ?_
  refine S_nil (fun a w hF hM => hRn a w (post0 rfl (fun w hM => ?_) a w hF hM))
  exact ⟨((l ++ [(⟨wr (b.pos + n), wr (b.fi + m), wr (b.ln + k)⟩ : SRow)], ⟨wr (b.pos + n), wr (b.fi + m), wr (b.ln + k)⟩), s3, ok3, A26, c26), rfl, ⟨h.1.bnd (h2.1.bnd (h3.1.bnd PRes.giv)), ⟨_, rfl⟩, by show s3.length ≤ s.length; omega⟩, hM.keep (ks := [(0, 999)]) (by repeat (first | exact kl_rest (by assumption) rfl | (apply kl_in; focus rfl))) _ ⟨rfl, rfl, rfl, rfl, rfl, rfl, rfl, rfl, trivial⟩⟩
theorem one9_any {w0 : World} {K : HL} (hK : FromK K) (d : Ad) (id : List UInt8) (size : Int) (vf vu vr : Value) (A : Option Addr) (c : Nat) (l : List SCall) (last : Int) (s : List UInt8) (ok : Bool) (hn : l.length ≤ 1000000) (w : World)
    (hM0 : Mem w0 ([(901, d.iS s), (902, d.iO ok), (903, d.iT), (904, d.iN), (906, d.iW), (907, d.iTab id size vf vu vr (.slice A l.length c)), (911, rC A c l), (912, d.iL last)] ++ K) w) :
    Calls Tryz.prog 282 #[selfP d.l, selfP d.n, selfP d.w, selfP d.T] w fun e w' => ∃ z : (List SCall × Int) × List UInt8 × Bool × Option Addr × Nat, e = .returned (.tuple #[]) ∧
      (PRes (oneC (l, last)) s ok z.1 z.2.1 z.2.2.1 ∧ (∃ x : SCall, z.1.1 = l ++ [x] ∧ x.name.length ≤ s.length) ∧ z.2.1.length ≤ s.length) ∧
      Mem w0 ([(901, d.iS z.2.1), (902, d.iO z.2.2.1), (903, d.iT), (904, d.iN), (906, d.iW), (907, d.iTab id size vf vu vr (.slice z.2.2.2.1 z.1.1.length z.2.2.2.2)), (911, rC z.2.2.2.1 z.2.2.2.2 z.1.1), (912, d.iL z.1.2)] ++ K) w' := by
  refine enterM_args (args := [selfP d.l, selfP d.n, selfP d.w, selfP d.T]) (F := _) hM0 Tryz.func282 rfl Tryz.ntmps282 rfl rfl ?_
  intro Rb hRb hRn
  refine T_seq ?_
  refine T_perm [0, 1, 2, 3, 4] [true, true, false, true, false] [0, 0, 2, 7, 15] [(0, [912]), (1, [904])] (by kernel_rfl) (by kernel_rfl) (by kernel_rfl) rfl (by kernel_rfl) ?_
  refine Rf_ 0 5 rfl rfl rfl rfl rfl _ ⟨rfl, trivial⟩ (Y.z (y_load 912 rfl rfl rfl rfl Tryz.underlying3 rfl) rfl) ?_
  refine Rf_ 1 6 rfl rfl rfl rfl rfl _ ⟨rfl, trivial⟩ (Y.z (y_load 904 rfl rfl rfl rfl Tryz.underlying117 rfl) rfl) ?_
  refine R_chain 2 rfl rfl ?_
  refine S_callM 7 [(901, 901), (902, 902), (903, 903)] (X := Nat × List UInt8 × Bool) rfl rfl rfl rfl rfl rfl rfl cf274 rfl (fun z => .int .i64 (z.1 : Int)) (fun z => PRes nm (s) (ok) z.1 z.2.1 z.2.2 ∧ z.2.1.length ≤ (s).length ∧ z.1 ≤ 281474976710656) (fun z => [(901, Ad.iS (d) z.2.1), (902, Ad.iO (d) z.2.2), (903, Ad.iT (d))]) (fun _ => rfl) (fun _ => rfl) (fun K1 hK1 w hM => num_any hK1 (d) (s) (ok) w hM) ?_
  rintro ⟨n, s1, ok1⟩ h
  try dsimp only at h
  refine R_next ⟨.inr ⟨rfl, trivial⟩, .inl rfl, trivial⟩ ?_
  refine Rf_ 3 8 rfl rfl rfl rfl rfl _ trivial (Y.z (y_bin rfl rfl rfl (fun hg => b_addw)) rfl) ?_
  refine R_chain 4 rfl rfl ?_
  refine S_store 912 rfl rfl rfl rfl rfl rfl sz3 rfl rfl ?_
  refine R_next ⟨.inl rfl, .inl rfl, trivial⟩ ?_
  refine R_go (fun _ _ h => h) ?_
  refine T_seq ?_
  refine T_region ?_
  refine S_ 9 rfl rfl rfl _ (y_load 912 rfl rfl rfl rfl Tryz.underlying3 rfl) ?_
  refine S_ 10 rfl rfl rfl _ (y_build (zv := .agg #[.string ⟨#[]⟩, .int .i64 0, .int .i64 0, .int .i64 0, .int .i64 0]) (pl := [(0, 1), (1, 1), (2, 1), (3, 1), (4, 1)]) (out := [.string ⟨#[]⟩, _, .int .i64 0, .int .i64 0, .int .i64 0]) rfl rfl Tryz.underlying200 z200 (by kernel_rfl) rfl) ?_
  refine S_alloc 4 4 rfl rfl rfl rfl z200 ?_
  intro b4
  refine S_store 4 rfl rfl rfl rfl rfl rfl sz200 rfl rfl ?_
  refine S_go (fun _ _ h => h) ?_
  refine T_seq ?_
  refine T_perm [0, 1, 2, 3, 4, 5] [true, true, false, true, true, false] [0, 0, 2, 7, 15, 31] [(0, [912]), (1, [904])] (by kernel_rfl) (by kernel_rfl) (by kernel_rfl) rfl (by kernel_rfl) ?_
  refine Rf_ 0 11 rfl rfl rfl rfl rfl _ ⟨rfl, trivial⟩ (Y.z (y_load 912 rfl rfl rfl rfl Tryz.underlying3 rfl) rfl) ?_
  refine Rf_ 1 12 rfl rfl rfl rfl rfl _ ⟨rfl, trivial⟩ (Y.z (y_load 904 rfl rfl rfl rfl Tryz.underlying117 rfl) rfl) ?_
  refine R_chain 2 rfl rfl ?_
  refine S_callM 13 [(901, 901), (902, 902), (903, 903)] (X := Nat × List UInt8 × Bool) rfl rfl rfl rfl rfl rfl rfl cf274 rfl (fun z => .int .i64 (z.1 : Int)) (fun z => PRes nm (s1) (ok1) z.1 z.2.1 z.2.2 ∧ z.2.1.length ≤ (s1).length ∧ z.1 ≤ 281474976710656) (fun z => [(901, Ad.iS (d) z.2.1), (902, Ad.iO (d) z.2.2), (903, Ad.iT (d))]) (fun _ => rfl) (fun _ => rfl) (fun K1 hK1 w hM => num_any hK1 (d) (s1) (ok1) w hM) ?_
  rintro ⟨m, s2, ok2⟩ h2
  try dsimp only at h2
  refine R_next ⟨.inr ⟨rfl, trivial⟩, .inl rfl, trivial⟩ ?_
  refine Rf_ 3 14 rfl rfl rfl rfl rfl _ trivial (Y.z (y_bin rfl rfl rfl (fun hg => b_addw)) rfl) ?_
  refine Rf_ 4 15 rfl rfl rfl rfl rfl _ trivial (Y.z (y_fieldAddr rfl rfl fa200_2) rfl) ?_
  refine R_chain 5 rfl rfl ?_
  refine S_store 4 rfl rfl rfl rfl rfl rfl sz3 rfl rfl ?_
  refine R_next ⟨.inl rfl, .inl rfl, trivial⟩ ?_
  refine R_go (fun _ _ h => h) ?_
  refine T_seq ?_
  refine T_perm [0, 2, 1, 4, 3, 5, 6, 7] [true, false, true, false, true, false, true, false] [0, 1, 0, 7, 3, 31, 63, 127] [(0, [904]), (2, [904])] (by kernel_rfl) (by kernel_rfl) (by kernel_rfl) rfl (by kernel_rfl) ?_
  refine Rf_ 0 16 rfl rfl rfl rfl rfl _ ⟨rfl, trivial⟩ (Y.z (y_load 904 rfl rfl rfl rfl Tryz.underlying117 rfl) rfl) ?_
  refine Rf_ 2 18 rfl rfl rfl rfl rfl _ ⟨rfl, trivial⟩ (Y.z (y_load 904 rfl rfl rfl rfl Tryz.underlying117 rfl) rfl) ?_
  refine R_chain 1 rfl rfl ?_
  refine S_callM 17 [(901, 901), (902, 902), (903, 903)] (X := Nat × List UInt8 × Bool) rfl rfl rfl rfl rfl rfl rfl cf274 rfl (fun z => .int .i64 (z.1 : Int)) (fun z => PRes nm (s2) (ok2) z.1 z.2.1 z.2.2 ∧ z.2.1.length ≤ (s2).length ∧ z.1 ≤ 281474976710656) (fun z => [(901, Ad.iS (d) z.2.1), (902, Ad.iO (d) z.2.2), (903, Ad.iT (d))]) (fun _ => rfl) (fun _ => rfl) (fun K1 hK1 w hM => num_any hK1 (d) (s2) (ok2) w hM) ?_
  rintro ⟨k, s3, ok3⟩ h3
  try dsimp only at h3
  refine R_next ⟨.inl rfl, .inr ⟨rfl, trivial⟩, trivial⟩ ?_
  refine Rf_ 4 20 rfl rfl rfl rfl rfl _ trivial (Y.z (y_fieldAddr rfl rfl fa200_3) rfl) ?_
  refine R_chain 3 rfl rfl ?_
  refine S_callM 19 [(901, 901), (902, 902), (903, 903)] (X := Nat × List UInt8 × Bool) rfl rfl rfl rfl rfl rfl rfl cf274 rfl (fun z => .int .i64 (z.1 : Int)) (fun z => PRes nm (s3) (ok3) z.1 z.2.1 z.2.2 ∧ z.2.1.length ≤ (s3).length ∧ z.1 ≤ 281474976710656) (fun z => [(901, Ad.iS (d) z.2.1), (902, Ad.iO (d) z.2.2), (903, Ad.iT (d))]) (fun _ => rfl) (fun _ => rfl) (fun K1 hK1 w hM => num_any hK1 (d) (s3) (ok3) w hM) ?_
  rintro ⟨j, s4, ok4⟩ h4
  try dsimp only at h4
  refine R_next ⟨.inl rfl, .inl rfl, trivial⟩ ?_
  refine R_chain 5 rfl rfl ?_
  refine S_store 4 rfl rfl rfl rfl rfl rfl sz3 rfl rfl ?_
  refine R_next ⟨.inl rfl, .inl rfl, trivial⟩ ?_
  refine Rf_ 6 21 rfl rfl rfl rfl rfl _ trivial (Y.z (y_fieldAddr rfl rfl fa200_4) rfl) ?_
  refine R_chain 7 rfl rfl ?_
  refine S_store 4 rfl rfl rfl rfl rfl rfl sz3 rfl rfl ?_
  refine R_next ⟨.inl rfl, .inl rfl, trivial⟩ ?_
  refine R_go (fun _ _ h => h) ?_
  refine T_seq ?_
  refine T_region ?_
  refine S_ 22 rfl rfl rfl _ (y_load 906 rfl rfl rfl rfl Tryz.underlying201 rfl) ?_
  refine S_callM 23 [(901, 901), (902, 902), (903, 903), (904, 904)] (X := List UInt8 × List UInt8 × Bool) rfl rfl rfl rfl rfl rfl rfl cf277 rfl (fun z => str z.1) (fun z => PRes wd (s4) (ok4) z.1 z.2.1 z.2.2 ∧ z.1.length ≤ (s4).length ∧ z.2.1.length ≤ (s4).length) (fun z => [(901, d.iS z.2.1), (902, d.iO z.2.2), (903, d.iT), (904, d.iN)]) (fun _ => rfl) (fun _ => rfl) (fun K1 hK1 w hM => wordc_any hK1 d (s4) (ok4) w hM) ?_
  rintro ⟨x, s5, ok5⟩ h5
  try dsimp only at h5
  refine S_ 24 rfl rfl rfl _ (y_fieldAddr rfl rfl fa200_0) ?_
  refine S_store 4 rfl rfl rfl rfl rfl rfl sz9 rfl rfl ?_
  refine S_go (fun _ _ h => h) ?_
  refine T_region ?_
  refine S_ 25 rfl rfl rfl _ (y_fieldAddr rfl rfl fa62_5) ?_
  refine S_ 26 rfl rfl rfl _ (y_load 907 rfl rfl rfl rfl Tryz.underlying60 rfl) ?_
  refine S_ 27 rfl rfl rfl _ (y_loadA 4 rfl rfl rfl Tryz.underlying200 rfl sz200) ?_
  refine S_buildSlice 28 28 rfl rfl rfl rfl rfl Tryz.underlying60 inf200 rfl (by decide) (by decide) rfl rfl (by decide) rfl (_) rfl ?_
  intro b28
  obtain ⟨i29, hi29, hz29, hs29, hy29⟩ := info_parts inf200
  refine S_append 29 911 28 rfl rfl rfl rfl rfl rfl rfl rfl Tryz.underlying60 hi29 hz29 hs29 hy29 rfl (by decide) (by decide) rfl ?_ ?_ ((l ++ [(⟨x, wr (last + n), wr (wr (last + n) + m), k, j⟩ : SCall)]).length) ((l ++ [(⟨x, wr (last + n), wr (wr (last + n) + m), k, j⟩ : SCall)]).flatMap SCall.enc) ?_ ?_ ?_
  · (simp only [maxLen]; omega)
  · omega
  · simp
  · simp [List.flatMap_append, SCall.enc]; rfl
  intro A29 c29
  refine S_ 30 rfl rfl rfl _ (y_fieldAddr rfl rfl fa62_5) ?_
  refine S_store 907 rfl rfl rfl rfl rfl rfl sz60 rfl rfl ?_
  refine S_nil (fun a w hF hM => hRn a w (post0 rfl (fun w hM => ?_) a w hF hM))
  exact ⟨((l ++ [(⟨x, wr (last + n), wr (wr (last + n) + m), k, j⟩ : SCall)], wr (last + n)), s5, ok5, A29, c29), rfl, ⟨h.1.bnd (h2.1.bnd (h3.1.bnd (h4.1.bnd (h5.1.bnd PRes.giv)))), ⟨_, rfl, by show x.length ≤ s.length; omega⟩, by show s5.length ≤ s.length; omega⟩, hM.keep (ks := [(0, 999)]) (by repeat (first | exact kl_rest (by assumption) rfl | (apply kl_in; focus rfl))) _ ⟨rfl, rfl, rfl, rfl, rfl, rfl, rfl, rfl, trivial⟩⟩
end Go.Proofs.YtkkngcdikbhkjaaGreatDoor
end
section
namespace Go.Proofs.YtkkngcdikbhkjaaGreatDoor
set_option linter.unusedSimpArgs false
set_option linter.unusedVariables false
set_option maxRecDepth 20000
open Go.RowKit Go.Eng
theorem all_snoc {α : Type} {p : α → Prop} {l l' : List α} {x : α} (he : l' = l ++ [x]) (h : ∀ y ∈ l, p y) (hx : p x) : ∀ y ∈ l', p y := fun y hy => by
  subst he
  rcases List.mem_append.1 hy with hy | hy
  · exact h y hy
  · have := List.mem_singleton.1 hy; subst this; exact hx
theorem end_list {m : Nat} {ok : Bool} (h : (decide ((0 : Int) < (m : Int)) && ok) = false) : m = 0 ∨ ok = false := by
  cases ok with
  | false => exact .inr rfl
  | true => left; simp at h; exact h
theorem go_list {m : Nat} {ok : Bool} (h : (decide ((0 : Int) < (m : Int)) && ok) = true) : ok = true ∧ 0 < m := by
  simp only [Bool.and_eq_true, decide_eq_true_eq] at h
  exact ⟨h.2, by omega⟩
theorem IterInv.next {σ : Type} {one : σ → Pa σ} {N m : Nat} {a0 a a' : σ} {s0 s s1 : List UInt8} {ok0 ok ok1 : Bool} (hm : 0 < m) (hok : ok = true) (h : IterInv one N a0 s0 ok0 m a s ok) (hr : PRes (one a) s ok a' s1 ok1) : IterInv one N a0 s0 ok0 (m - 1) a' s1 ok1 := by
  subst hok
  rw [show m = m - 1 + 1 by omega] at h
  exact h.step hr
theorem less_of {σ : Type} {one : σ → Pa σ} {a a' : σ} {s s1 : List UInt8} {ok ok1 : Bool} (hl : ∀ {a b : σ} {s s1 : List UInt8}, one a s = some (b, s1) → s1.length < s.length) (hr : PRes (one a) s ok a' s1 ok1) (h : ok1 = true) : s1.length < s.length := by
  subst h
  exact hl hr.some.1
theorem list6_any {w0 : World} {K : HL} (hK : FromK K) (d : Ad) (id : List UInt8) (size : Int) (vu vr vc : Value) (s : List UInt8) (ok : Bool) (hs : s.length ≤ 1000000) (w : World)
    (hM0 : Mem w0 ([(901, d.iS s), (902, d.iO ok), (903, d.iT), (904, d.iN), (906, d.iW), (907, d.iTab id size (.slice none 0 0) vu vr vc), (908, rF none 0 [])] ++ K) w) :
    Calls Tryz.prog 278 #[.func (.func 279) #[] #[selfP d.T, selfP d.w], selfP d.n, selfP d.o] w fun e w' => ∃ z : (List (List UInt8)) × List UInt8 × Bool × Option Addr × Nat, e = .returned (.tuple #[]) ∧
      (PRes (lst oneF []) s ok z.1 z.2.1 z.2.2.1 ∧ (z.1.length ≤ 1000001 ∧ ∀ x ∈ z.1, x.length ≤ 1000000) ∧ z.2.1.length ≤ s.length) ∧
      Mem w0 ([(901, d.iS z.2.1), (902, d.iO z.2.2.1), (903, d.iT), (904, d.iN), (906, d.iW), (907, d.iTab id size (.slice z.2.2.2.1 z.1.length z.2.2.2.2) vu vr vc), (908, rF z.2.2.2.1 z.2.2.2.2 z.1)] ++ K) w' := by
  refine enterM_args (args := [.func (.func 279) #[] #[selfP d.T, selfP d.w], selfP d.n, selfP d.o]) (F := _) hM0 Tryz.func278 rfl Tryz.ntmps278 rfl rfl ?_
  intro Rb hRb hRn
  refine T_seq ?_
  refine T_region ?_
  refine S_ 5 rfl rfl rfl _ (y_load 904 rfl rfl rfl rfl Tryz.underlying117 rfl) ?_
  refine S_callM 6 [(901, 901), (902, 902), (903, 903)] (X := Nat × List UInt8 × Bool) rfl rfl rfl rfl rfl rfl rfl cf274 rfl (fun z => .int .i64 (z.1 : Int)) (fun z => PRes nm (s) (ok) z.1 z.2.1 z.2.2 ∧ z.2.1.length ≤ (s).length ∧ z.1 ≤ 281474976710656) (fun z => [(901, Ad.iS (d) z.2.1), (902, Ad.iO (d) z.2.2), (903, Ad.iT (d))]) (fun _ => rfl) (fun _ => rfl) (fun K1 hK1 w hM => num_any hK1 (d) (s) (ok) w hM) ?_
  rintro ⟨N, s1, ok1⟩ h1
  try dsimp only at h1
  refine S_ 4 rfl rfl rfl _ (y_assign rfl rfl) ?_
  refine S_go (fun _ _ h => h) ?_
  refine T_block ?_
  refine T_loopK6 (kf := [(4, 4), (7, 15)]) (kl := [(4, 4), (7, 15), (901, 902), (907, 908)]) (fun (m : Nat) (l : List (List UInt8)) (t : List UInt8) (ok3 : Bool) (A : Option Addr) (c : Nat) => [(4, true, .int .i64 (m : Int))]) (fun (m : Nat) (l : List (List UInt8)) (t : List UInt8) (ok3 : Bool) (A : Option Addr) (c : Nat) => [(901, d.iS t), (902, d.iO ok3), (907, d.iTab id size (.slice A l.length c) vu vr vc), (908, rF A c l)]) (fun (m : Nat) (l : List (List UInt8)) (t : List UInt8) (ok3 : Bool) (A : Option Addr) (c : Nat) => m ≤ 281474976710656 ∧ IterInv oneF N [] s1 ok1 m l t ok3 ∧ (ok3 = true → l.length + t.length ≤ 1000000) ∧ (l.length ≤ 1000001 ∧ ∀ x ∈ l, x.length ≤ 1000000) ∧ t.length ≤ s.length) (fun (m : Nat) (l : List (List UInt8)) (t : List UInt8) (ok3 : Bool) (A : Option Addr) (c : Nat) => m) N [] s1 ok1 none 0 (by repeat (first | exact kf_nil | (apply kf_in; focus rfl) | (apply kf_out; focus rfl))) (by repeat (first | exact kl_nil | exact kl_rest (by assumption) rfl | (apply kl_in; focus rfl) | (apply kl_out; focus rfl))) ?_ ?_ ?_ ?_
  · exact ⟨h1.2.2, IterInv.start, fun _ => by show 0 + s1.length ≤ 1000000; omega, ⟨by simp, by simp⟩, h1.2.1⟩
  · exact ⟨rfl, trivial⟩
  · exact ⟨rfl, rfl, rfl, rfl, trivial⟩
  rintro m l t ok3 A c ⟨hp1, hp2, hp3, hp4, hp5⟩
  refine T_seq ?_
  refine T_seq ?_
  refine T_region ?_
  refine S_ 7 rfl rfl rfl _ (y_move rfl rfl) ?_
  refine S_ 8 rfl rfl rfl _ (y_bin rfl rfl rfl (fun _ => b_gtr)) ?_
  refine S_ 9 rfl rfl rfl _ (y_move rfl rfl) ?_
  refine Sg_ 10 rfl rfl rfl rfl rfl rfl _ (y_load 902 rfl rfl rfl rfl Tryz.underlying4 rfl) ?_
  refine S_ 11 rfl rfl rfl _ (y_and rfl rfl rfl) ?_
  refine S_go (fun _ _ h => h) ?_
  refine T_cond rfl (fun h11 => ?_) (fun h11 => ?_)
  · skip
    obtain ⟨hok, hm⟩ := go_list h11
    have hb := hp3 hok
    refine T_skip_go (fun _ _ h => h) ?_
    refine T_seq ?_
    refine T_block ?_
    refine T_region ?_
    refine S_ 14 rfl rfl rfl _ (y_move rfl rfl) ?_
    refine S_callM 15 [(901, 901), (902, 902), (903, 903), (904, 904), (906, 906), (907, 907), (908, 908)] (X := (List (List UInt8)) × List UInt8 × Bool × Option Addr × Nat) rfl rfl rfl rfl rfl rfl rfl cf279 rfl (fun _ => .tuple #[]) (fun z => PRes (oneF l) t ok3 z.1 z.2.1 z.2.2.1 ∧ (∃ x : List UInt8, z.1 = l ++ [x] ∧ x.length ≤ t.length) ∧ z.2.1.length ≤ t.length) (fun z => [(901, d.iS z.2.1), (902, d.iO z.2.2.1), (903, d.iT), (904, d.iN), (906, d.iW), (907, d.iTab id size (.slice z.2.2.2.1 z.1.length z.2.2.2.2) vu vr vc), (908, rF z.2.2.2.1 z.2.2.2.2 z.1)]) (fun _ => rfl) (fun _ => rfl) (fun K1 hK1 w hM => one6_any hK1 d id size vu vr vc A c l t ok3 (by omega) w hM) ?_
    rintro ⟨a', s2, ok2, A', c'⟩ h2
    try dsimp only at h2
    refine S_go (fun _ _ h => h) ?_
    refine T_region ?_
    refine S_ 12 rfl rfl rfl _ (y_move rfl rfl) ?_
    refine S_ 13 rfl rfl rfl _ (y_bin rfl rfl rfl (fun hg => b_subv (((m - 1 : Nat) : Int)) (by omega) (by omega))) ?_
    refine S_ 4 rfl rfl rfl _ (y_assign rfl rfl) ?_
    obtain ⟨x, hx⟩ := h2.2.1
    have hlen : a'.length = l.length + 1 := by rw [hx.1]; simp
    refine S_nil (nextK6 (kf := [(4, 4), (7, 15)]) (kl := [(4, 4), (7, 15), (901, 902), (907, 908)]) (m - 1) a' s2 ok2 A' c' (by repeat (first | exact kf_nil | (apply kf_in; focus rfl) | (apply kf_out; focus rfl))) (by repeat (first | exact kl_none | exact kl_tail (by assumption) rfl (by repeat (first | exact ti_refl | (apply ti_cons; focus rfl))) | refine kl_cons rfl rfl ?_)) ?_ ?_ ?_ ?_)
    · omega
    · exact ⟨by omega, hp2.next hm hok h2.1, fun h => by have := less_of (one := oneF) oneF_less h2.1 h; omega, ⟨by omega, all_snoc hx.1 hp4.2 (by omega)⟩, by omega⟩
    · exact ⟨rfl, trivial⟩
    · exact ⟨rfl, rfl, rfl, rfl, trivial⟩
  · skip
    refine T_exit (fun a w hF hM => hRn a w (post0 rfl (fun w hM => ?_) a w hF hM))
    exact ⟨(l, t, ok3, A, c), rfl, ⟨h1.1.bnd (hp2.done (end_list h11)), hp4, hp5⟩, hM.keep (ks := [(0, 999)]) (by repeat (first | exact kl_rest (by assumption) rfl | (apply kl_in; focus rfl))) _ ⟨rfl, rfl, rfl, rfl, rfl, rfl, rfl, trivial⟩⟩
theorem list7_any {w0 : World} {K : HL} (hK : FromK K) (d : Ad) (id : List UInt8) (size : Int) (vf vr vc : Value) (s : List UInt8) (ok : Bool) (hs : s.length ≤ 1000000) (w : World)
    (hM0 : Mem w0 ([(901, d.iS s), (902, d.iO ok), (903, d.iT), (904, d.iN), (906, d.iW), (907, d.iTab id size vf (.slice none 0 0) vr vc), (909, rU none 0 []), (912, d.iL 0)] ++ K) w) :
    Calls Tryz.prog 278 #[.func (.func 280) #[] #[selfP d.l, selfP d.n, selfP d.T, selfP d.w], selfP d.n, selfP d.o] w fun e w' => ∃ z : (List SFunc × Int) × List UInt8 × Bool × Option Addr × Nat, e = .returned (.tuple #[]) ∧
      (PRes (lst oneU ([], 0)) s ok z.1 z.2.1 z.2.2.1 ∧ (z.1.1.length ≤ 1000001 ∧ ∀ x ∈ z.1.1, x.name.length ≤ 1000000) ∧ z.2.1.length ≤ s.length) ∧
      Mem w0 ([(901, d.iS z.2.1), (902, d.iO z.2.2.1), (903, d.iT), (904, d.iN), (906, d.iW), (907, d.iTab id size vf (.slice z.2.2.2.1 z.1.1.length z.2.2.2.2) vr vc), (909, rU z.2.2.2.1 z.2.2.2.2 z.1.1), (912, d.iL z.1.2)] ++ K) w' := by
  refine enterM_args (args := [.func (.func 280) #[] #[selfP d.l, selfP d.n, selfP d.T, selfP d.w], selfP d.n, selfP d.o]) (F := _) hM0 Tryz.func278 rfl Tryz.ntmps278 rfl rfl ?_
  intro Rb hRb hRn
  refine T_seq ?_
  refine T_region ?_
  refine S_ 5 rfl rfl rfl _ (y_load 904 rfl rfl rfl rfl Tryz.underlying117 rfl) ?_
  refine S_callM 6 [(901, 901), (902, 902), (903, 903)] (X := Nat × List UInt8 × Bool) rfl rfl rfl rfl rfl rfl rfl cf274 rfl (fun z => .int .i64 (z.1 : Int)) (fun z => PRes nm (s) (ok) z.1 z.2.1 z.2.2 ∧ z.2.1.length ≤ (s).length ∧ z.1 ≤ 281474976710656) (fun z => [(901, Ad.iS (d) z.2.1), (902, Ad.iO (d) z.2.2), (903, Ad.iT (d))]) (fun _ => rfl) (fun _ => rfl) (fun K1 hK1 w hM => num_any hK1 (d) (s) (ok) w hM) ?_
  rintro ⟨N, s1, ok1⟩ h1
  try dsimp only at h1
  refine S_ 4 rfl rfl rfl _ (y_assign rfl rfl) ?_
  refine S_go (fun _ _ h => h) ?_
  refine T_block ?_
  refine T_loopK6 (kf := [(4, 4), (7, 15)]) (kl := [(4, 4), (7, 15), (901, 902), (907, 907), (909, 909), (912, 912)]) (fun (m : Nat) (l : List SFunc × Int) (t : List UInt8) (ok3 : Bool) (A : Option Addr) (c : Nat) => [(4, true, .int .i64 (m : Int))]) (fun (m : Nat) (l : List SFunc × Int) (t : List UInt8) (ok3 : Bool) (A : Option Addr) (c : Nat) => [(901, d.iS t), (902, d.iO ok3), (907, d.iTab id size vf (.slice A l.1.length c) vr vc), (909, rU A c l.1), (912, d.iL l.2)]) (fun (m : Nat) (l : List SFunc × Int) (t : List UInt8) (ok3 : Bool) (A : Option Addr) (c : Nat) => m ≤ 281474976710656 ∧ IterInv oneU N ([], 0) s1 ok1 m l t ok3 ∧ (ok3 = true → l.1.length + t.length ≤ 1000000) ∧ (l.1.length ≤ 1000001 ∧ ∀ x ∈ l.1, x.name.length ≤ 1000000) ∧ t.length ≤ s.length) (fun (m : Nat) (l : List SFunc × Int) (t : List UInt8) (ok3 : Bool) (A : Option Addr) (c : Nat) => m) N ([], 0) s1 ok1 none 0 (by repeat (first | exact kf_nil | (apply kf_in; focus rfl) | (apply kf_out; focus rfl))) (by repeat (first | exact kl_nil | exact kl_rest (by assumption) rfl | (apply kl_in; focus rfl) | (apply kl_out; focus rfl))) ?_ ?_ ?_ ?_
  · exact ⟨h1.2.2, IterInv.start, fun _ => by show 0 + s1.length ≤ 1000000; omega, ⟨by simp, by simp⟩, h1.2.1⟩
  · exact ⟨rfl, trivial⟩
  · exact ⟨rfl, rfl, rfl, rfl, rfl, trivial⟩
  rintro m l t ok3 A c ⟨hp1, hp2, hp3, hp4, hp5⟩
  refine T_seq ?_
  refine T_seq ?_
  refine T_region ?_
  refine S_ 7 rfl rfl rfl _ (y_move rfl rfl) ?_
  refine S_ 8 rfl rfl rfl _ (y_bin rfl rfl rfl (fun _ => b_gtr)) ?_
  refine S_ 9 rfl rfl rfl _ (y_move rfl rfl) ?_
  refine Sg_ 10 rfl rfl rfl rfl rfl rfl _ (y_load 902 rfl rfl rfl rfl Tryz.underlying4 rfl) ?_
  refine S_ 11 rfl rfl rfl _ (y_and rfl rfl rfl) ?_
  refine S_go (fun _ _ h => h) ?_
  refine T_cond rfl (fun h11 => ?_) (fun h11 => ?_)
  · skip
    obtain ⟨hok, hm⟩ := go_list h11
    have hb := hp3 hok
    refine T_skip_go (fun _ _ h => h) ?_
    refine T_seq ?_
    refine T_block ?_
    refine T_region ?_
    refine S_ 14 rfl rfl rfl _ (y_move rfl rfl) ?_
    refine S_callM 15 [(901, 901), (902, 902), (903, 903), (904, 904), (906, 906), (907, 907), (909, 909), (912, 912)] (X := (List SFunc × Int) × List UInt8 × Bool × Option Addr × Nat) rfl rfl rfl rfl rfl rfl rfl cf280 rfl (fun _ => .tuple #[]) (fun z => PRes (oneU l) t ok3 z.1 z.2.1 z.2.2.1 ∧ (∃ x : SFunc, z.1.1 = l.1 ++ [x] ∧ x.name.length ≤ t.length) ∧ z.2.1.length ≤ t.length) (fun z => [(901, d.iS z.2.1), (902, d.iO z.2.2.1), (903, d.iT), (904, d.iN), (906, d.iW), (907, d.iTab id size vf (.slice z.2.2.2.1 z.1.1.length z.2.2.2.2) vr vc), (909, rU z.2.2.2.1 z.2.2.2.2 z.1.1), (912, d.iL z.1.2)]) (fun _ => rfl) (fun _ => rfl) (fun K1 hK1 w hM => one7_any hK1 d id size vf vr vc A c l.1 l.2 t ok3 (by omega) w hM) ?_
    rintro ⟨a', s2, ok2, A', c'⟩ h2
    try dsimp only at h2
    refine S_go (fun _ _ h => h) ?_
    refine T_region ?_
    refine S_ 12 rfl rfl rfl _ (y_move rfl rfl) ?_
    refine S_ 13 rfl rfl rfl _ (y_bin rfl rfl rfl (fun hg => b_subv (((m - 1 : Nat) : Int)) (by omega) (by omega))) ?_
    refine S_ 4 rfl rfl rfl _ (y_assign rfl rfl) ?_
    obtain ⟨x, hx⟩ := h2.2.1
    have hlen : a'.1.length = l.1.length + 1 := by rw [hx.1]; simp
    refine S_nil (nextK6 (kf := [(4, 4), (7, 15)]) (kl := [(4, 4), (7, 15), (901, 902), (907, 907), (909, 909), (912, 912)]) (m - 1) a' s2 ok2 A' c' (by repeat (first | exact kf_nil | (apply kf_in; focus rfl) | (apply kf_out; focus rfl))) (by repeat (first | exact kl_none | exact kl_tail (by assumption) rfl (by repeat (first | exact ti_refl | (apply ti_cons; focus rfl))) | refine kl_cons rfl rfl ?_)) ?_ ?_ ?_ ?_)
    · omega
    · exact ⟨by omega, hp2.next hm hok h2.1, fun h => by have := less_of (one := oneU) oneU_less h2.1 h; omega, ⟨by omega, all_snoc hx.1 hp4.2 (by omega)⟩, by omega⟩
    · exact ⟨rfl, trivial⟩
    · exact ⟨rfl, rfl, rfl, rfl, rfl, trivial⟩
  · skip
    refine T_exit (fun a w hF hM => hRn a w (post0 rfl (fun w hM => ?_) a w hF hM))
    exact ⟨(l, t, ok3, A, c), rfl, ⟨h1.1.bnd (hp2.done (end_list h11)), hp4, hp5⟩, hM.keep (ks := [(0, 999)]) (by repeat (first | exact kl_rest (by assumption) rfl | (apply kl_in; focus rfl))) _ ⟨rfl, rfl, rfl, rfl, rfl, rfl, rfl, rfl,trivial⟩⟩
theorem list8_any {w0 : World} {K : HL} (hK : FromK K) (d : Ad) (id : List UInt8) (size : Int) (vf vu vc : Value) (s : List UInt8) (ok : Bool) (hs : s.length ≤ 1000000) (w : World)
    (hM0 : Mem w0 ([(901, d.iS s), (902, d.iO ok), (903, d.iT), (904, d.iN), (905, d.iG), (907, d.iTab id size vf vu (.slice none 0 0) vc), (910, rR none 0 []), (913, d.iR rowZ)] ++ K) w) :
    Calls Tryz.prog 278 #[.func (.func 281) #[] #[selfP d.r, selfP d.n, selfP d.g, selfP d.T], selfP d.n, selfP d.o] w fun e w' => ∃ z : (List SRow × SRow) × List UInt8 × Bool × Option Addr × Nat, e = .returned (.tuple #[]) ∧
      (PRes (lst oneR ([], rowZ)) s ok z.1 z.2.1 z.2.2.1 ∧ (z.1.1.length ≤ 1000001 ∧ ∀ x ∈ z.1.1, True) ∧ z.2.1.length ≤ s.length) ∧
      Mem w0 ([(901, d.iS z.2.1), (902, d.iO z.2.2.1), (903, d.iT), (904, d.iN), (905, d.iG), (907, d.iTab id size vf vu (.slice z.2.2.2.1 z.1.1.length z.2.2.2.2) vc), (910, rR z.2.2.2.1 z.2.2.2.2 z.1.1), (913, d.iR z.1.2)] ++ K) w' := by
  refine enterM_args (args := [.func (.func 281) #[] #[selfP d.r, selfP d.n, selfP d.g, selfP d.T], selfP d.n, selfP d.o]) (F := _) hM0 Tryz.func278 rfl Tryz.ntmps278 rfl rfl ?_
  intro Rb hRb hRn
  refine T_seq ?_
  refine T_region ?_
  refine S_ 5 rfl rfl rfl _ (y_load 904 rfl rfl rfl rfl Tryz.underlying117 rfl) ?_
  refine S_callM 6 [(901, 901), (902, 902), (903, 903)] (X := Nat × List UInt8 × Bool) rfl rfl rfl rfl rfl rfl rfl cf274 rfl (fun z => .int .i64 (z.1 : Int)) (fun z => PRes nm (s) (ok) z.1 z.2.1 z.2.2 ∧ z.2.1.length ≤ (s).length ∧ z.1 ≤ 281474976710656) (fun z => [(901, Ad.iS (d) z.2.1), (902, Ad.iO (d) z.2.2), (903, Ad.iT (d))]) (fun _ => rfl) (fun _ => rfl) (fun K1 hK1 w hM => num_any hK1 (d) (s) (ok) w hM) ?_
  rintro ⟨N, s1, ok1⟩ h1
  try dsimp only at h1
  refine S_ 4 rfl rfl rfl _ (y_assign rfl rfl) ?_
  refine S_go (fun _ _ h => h) ?_
  refine T_block ?_
  refine T_loopK6 (kf := [(4, 4), (7, 15)]) (kl := [(4, 4), (7, 15), (901, 902), (907, 907), (910, 910), (913, 913)]) (fun (m : Nat) (l : List SRow × SRow) (t : List UInt8) (ok3 : Bool) (A : Option Addr) (c : Nat) => [(4, true, .int .i64 (m : Int))]) (fun (m : Nat) (l : List SRow × SRow) (t : List UInt8) (ok3 : Bool) (A : Option Addr) (c : Nat) => [(901, d.iS t), (902, d.iO ok3), (907, d.iTab id size vf vu (.slice A l.1.length c) vc), (910, rR A c l.1), (913, d.iR l.2)]) (fun (m : Nat) (l : List SRow × SRow) (t : List UInt8) (ok3 : Bool) (A : Option Addr) (c : Nat) => m ≤ 281474976710656 ∧ IterInv oneR N ([], rowZ) s1 ok1 m l t ok3 ∧ (ok3 = true → l.1.length + t.length ≤ 1000000) ∧ (l.1.length ≤ 1000001 ∧ ∀ x ∈ l.1, True) ∧ t.length ≤ s.length) (fun (m : Nat) (l : List SRow × SRow) (t : List UInt8) (ok3 : Bool) (A : Option Addr) (c : Nat) => m) N ([], rowZ) s1 ok1 none 0 (by repeat (first | exact kf_nil | (apply kf_in; focus rfl) | (apply kf_out; focus rfl))) (by repeat (first | exact kl_nil | exact kl_rest (by assumption) rfl | (apply kl_in; focus rfl) | (apply kl_out; focus rfl))) ?_ ?_ ?_ ?_
  · exact ⟨h1.2.2, IterInv.start, fun _ => by show 0 + s1.length ≤ 1000000; omega, ⟨by simp, by simp⟩, h1.2.1⟩
  · exact ⟨rfl, trivial⟩
  · exact ⟨rfl, rfl, rfl, rfl, rfl, trivial⟩
  rintro m l t ok3 A c ⟨hp1, hp2, hp3, hp4, hp5⟩
  refine T_seq ?_
  refine T_seq ?_
  refine T_region ?_
  refine S_ 7 rfl rfl rfl _ (y_move rfl rfl) ?_
  refine S_ 8 rfl rfl rfl _ (y_bin rfl rfl rfl (fun _ => b_gtr)) ?_
  refine S_ 9 rfl rfl rfl _ (y_move rfl rfl) ?_
  refine Sg_ 10 rfl rfl rfl rfl rfl rfl _ (y_load 902 rfl rfl rfl rfl Tryz.underlying4 rfl) ?_
  refine S_ 11 rfl rfl rfl _ (y_and rfl rfl rfl) ?_
  refine S_go (fun _ _ h => h) ?_
  refine T_cond rfl (fun h11 => ?_) (fun h11 => ?_)
  · skip
    obtain ⟨hok, hm⟩ := go_list h11
    have hb := hp3 hok
    refine T_skip_go (fun _ _ h => h) ?_
    refine T_seq ?_
    refine T_block ?_
    refine T_region ?_
    refine S_ 14 rfl rfl rfl _ (y_move rfl rfl) ?_
    refine S_callM 15 [(901, 901), (902, 902), (903, 903), (904, 904), (905, 905), (907, 907), (910, 910), (913, 913)] (X := (List SRow × SRow) × List UInt8 × Bool × Option Addr × Nat) rfl rfl rfl rfl rfl rfl rfl cf281 rfl (fun _ => .tuple #[]) (fun z => PRes (oneR l) t ok3 z.1 z.2.1 z.2.2.1 ∧ (∃ x : SRow, z.1.1 = l.1 ++ [x]) ∧ z.2.1.length ≤ t.length) (fun z => [(901, d.iS z.2.1), (902, d.iO z.2.2.1), (903, d.iT), (904, d.iN), (905, d.iG), (907, d.iTab id size vf vu (.slice z.2.2.2.1 z.1.1.length z.2.2.2.2) vc), (910, rR z.2.2.2.1 z.2.2.2.2 z.1.1), (913, d.iR z.1.2)]) (fun _ => rfl) (fun _ => rfl) (fun K1 hK1 w hM => one8_any hK1 d id size vf vu vc A c l.1 l.2 t ok3 (by omega) w hM) ?_
    rintro ⟨a', s2, ok2, A', c'⟩ h2
    try dsimp only at h2
    refine S_go (fun _ _ h => h) ?_
    refine T_region ?_
    refine S_ 12 rfl rfl rfl _ (y_move rfl rfl) ?_
    refine S_ 13 rfl rfl rfl _ (y_bin rfl rfl rfl (fun hg => b_subv (((m - 1 : Nat) : Int)) (by omega) (by omega))) ?_
    refine S_ 4 rfl rfl rfl _ (y_assign rfl rfl) ?_
    obtain ⟨x, hx⟩ := h2.2.1
    have hlen : a'.1.length = l.1.length + 1 := by rw [hx]; simp
    refine S_nil (nextK6 (kf := [(4, 4), (7, 15)]) (kl := [(4, 4), (7, 15), (901, 902), (907, 907), (910, 910), (913, 913)]) (m - 1) a' s2 ok2 A' c' (by repeat (first | exact kf_nil | (apply kf_in; focus rfl) | (apply kf_out; focus rfl))) (by repeat (first | exact kl_none | exact kl_tail (by assumption) rfl (by repeat (first | exact ti_refl | (apply ti_cons; focus rfl))) | refine kl_cons rfl rfl ?_)) ?_ ?_ ?_ ?_)
    · omega
    · exact ⟨by omega, hp2.next hm hok h2.1, fun h => by have := less_of (one := oneR) oneR_less h2.1 h; omega, ⟨by omega, all_snoc hx hp4.2 (by trivial)⟩, by omega⟩
    · exact ⟨rfl, trivial⟩
    · exact ⟨rfl, rfl, rfl, rfl, rfl, trivial⟩
  · skip
    refine T_exit (fun a w hF hM => hRn a w (post0 rfl (fun w hM => ?_) a w hF hM))
    exact ⟨(l, t, ok3, A, c), rfl, ⟨h1.1.bnd (hp2.done (end_list h11)), hp4, hp5⟩, hM.keep (ks := [(0, 999)]) (by repeat (first | exact kl_rest (by assumption) rfl | (apply kl_in; focus rfl))) _ ⟨rfl, rfl, rfl, rfl, rfl, rfl, rfl, rfl,trivial⟩⟩
theorem list9_any {w0 : World} {K : HL} (hK : FromK K) (d : Ad) (id : List UInt8) (size : Int) (vf vu vr : Value) (s : List UInt8) (ok : Bool) (hs : s.length ≤ 1000000) (w : World)
    (hM0 : Mem w0 ([(901, d.iS s), (902, d.iO ok), (903, d.iT), (904, d.iN), (906, d.iW), (907, d.iTab id size vf vu vr (.slice none 0 0)), (911, rC none 0 []), (912, d.iL 0)] ++ K) w) :
    Calls Tryz.prog 278 #[.func (.func 282) #[] #[selfP d.l, selfP d.n, selfP d.w, selfP d.T], selfP d.n, selfP d.o] w fun e w' => ∃ z : (List SCall × Int) × List UInt8 × Bool × Option Addr × Nat, e = .returned (.tuple #[]) ∧
      (PRes (lst oneC ([], 0)) s ok z.1 z.2.1 z.2.2.1 ∧ (z.1.1.length ≤ 1000001 ∧ ∀ x ∈ z.1.1, x.name.length ≤ 1000000) ∧ z.2.1.length ≤ s.length) ∧
      Mem w0 ([(901, d.iS z.2.1), (902, d.iO z.2.2.1), (903, d.iT), (904, d.iN), (906, d.iW), (907, d.iTab id size vf vu vr (.slice z.2.2.2.1 z.1.1.length z.2.2.2.2)), (911, rC z.2.2.2.1 z.2.2.2.2 z.1.1), (912, d.iL z.1.2)] ++ K) w' := by
  refine enterM_args (args := [.func (.func 282) #[] #[selfP d.l, selfP d.n, selfP d.w, selfP d.T], selfP d.n, selfP d.o]) (F := _) hM0 Tryz.func278 rfl Tryz.ntmps278 rfl rfl ?_
  intro Rb hRb hRn
  refine T_seq ?_
  refine T_region ?_
  refine S_ 5 rfl rfl rfl _ (y_load 904 rfl rfl rfl rfl Tryz.underlying117 rfl) ?_
  refine S_callM 6 [(901, 901), (902, 902), (903, 903)] (X := Nat × List UInt8 × Bool) rfl rfl rfl rfl rfl rfl rfl cf274 rfl (fun z => .int .i64 (z.1 : Int)) (fun z => PRes nm (s) (ok) z.1 z.2.1 z.2.2 ∧ z.2.1.length ≤ (s).length ∧ z.1 ≤ 281474976710656) (fun z => [(901, Ad.iS (d) z.2.1), (902, Ad.iO (d) z.2.2), (903, Ad.iT (d))]) (fun _ => rfl) (fun _ => rfl) (fun K1 hK1 w hM => num_any hK1 (d) (s) (ok) w hM) ?_
  rintro ⟨N, s1, ok1⟩ h1
  try dsimp only at h1
  refine S_ 4 rfl rfl rfl _ (y_assign rfl rfl) ?_
  refine S_go (fun _ _ h => h) ?_
  refine T_block ?_
  refine T_loopK6 (kf := [(4, 4), (7, 15)]) (kl := [(4, 4), (7, 15), (901, 902), (907, 907), (911, 912)]) (fun (m : Nat) (l : List SCall × Int) (t : List UInt8) (ok3 : Bool) (A : Option Addr) (c : Nat) => [(4, true, .int .i64 (m : Int))]) (fun (m : Nat) (l : List SCall × Int) (t : List UInt8) (ok3 : Bool) (A : Option Addr) (c : Nat) => [(901, d.iS t), (902, d.iO ok3), (907, d.iTab id size vf vu vr (.slice A l.1.length c)), (911, rC A c l.1), (912, d.iL l.2)]) (fun (m : Nat) (l : List SCall × Int) (t : List UInt8) (ok3 : Bool) (A : Option Addr) (c : Nat) => m ≤ 281474976710656 ∧ IterInv oneC N ([], 0) s1 ok1 m l t ok3 ∧ (ok3 = true → l.1.length + t.length ≤ 1000000) ∧ (l.1.length ≤ 1000001 ∧ ∀ x ∈ l.1, x.name.length ≤ 1000000) ∧ t.length ≤ s.length) (fun (m : Nat) (l : List SCall × Int) (t : List UInt8) (ok3 : Bool) (A : Option Addr) (c : Nat) => m) N ([], 0) s1 ok1 none 0 (by repeat (first | exact kf_nil | (apply kf_in; focus rfl) | (apply kf_out; focus rfl))) (by repeat (first | exact kl_nil | exact kl_rest (by assumption) rfl | (apply kl_in; focus rfl) | (apply kl_out; focus rfl))) ?_ ?_ ?_ ?_
  · exact ⟨h1.2.2, IterInv.start, fun _ => by show 0 + s1.length ≤ 1000000; omega, ⟨by simp, by simp⟩, h1.2.1⟩
  · exact ⟨rfl, trivial⟩
  · exact ⟨rfl, rfl, rfl, rfl, rfl, trivial⟩
  rintro m l t ok3 A c ⟨hp1, hp2, hp3, hp4, hp5⟩
  refine T_seq ?_
  refine T_seq ?_
  refine T_region ?_
  refine S_ 7 rfl rfl rfl _ (y_move rfl rfl) ?_
  refine S_ 8 rfl rfl rfl _ (y_bin rfl rfl rfl (fun _ => b_gtr)) ?_
  refine S_ 9 rfl rfl rfl _ (y_move rfl rfl) ?_
  refine Sg_ 10 rfl rfl rfl rfl rfl rfl _ (y_load 902 rfl rfl rfl rfl Tryz.underlying4 rfl) ?_
  refine S_ 11 rfl rfl rfl _ (y_and rfl rfl rfl) ?_
  refine S_go (fun _ _ h => h) ?_
  refine T_cond rfl (fun h11 => ?_) (fun h11 => ?_)
  · skip
    obtain ⟨hok, hm⟩ := go_list h11
    have hb := hp3 hok
    refine T_skip_go (fun _ _ h => h) ?_
    refine T_seq ?_
    refine T_block ?_
    refine T_region ?_
    refine S_ 14 rfl rfl rfl _ (y_move rfl rfl) ?_
    refine S_callM 15 [(901, 901), (902, 902), (903, 903), (904, 904), (906, 906), (907, 907), (911, 911), (912, 912)] (X := (List SCall × Int) × List UInt8 × Bool × Option Addr × Nat) rfl rfl rfl rfl rfl rfl rfl cf282 rfl (fun _ => .tuple #[]) (fun z => PRes (oneC l) t ok3 z.1 z.2.1 z.2.2.1 ∧ (∃ x : SCall, z.1.1 = l.1 ++ [x] ∧ x.name.length ≤ t.length) ∧ z.2.1.length ≤ t.length) (fun z => [(901, d.iS z.2.1), (902, d.iO z.2.2.1), (903, d.iT), (904, d.iN), (906, d.iW), (907, d.iTab id size vf vu vr (.slice z.2.2.2.1 z.1.1.length z.2.2.2.2)), (911, rC z.2.2.2.1 z.2.2.2.2 z.1.1), (912, d.iL z.1.2)]) (fun _ => rfl) (fun _ => rfl) (fun K1 hK1 w hM => one9_any hK1 d id size vf vu vr A c l.1 l.2 t ok3 (by omega) w hM) ?_
    rintro ⟨a', s2, ok2, A', c'⟩ h2
    try dsimp only at h2
    refine S_go (fun _ _ h => h) ?_
    refine T_region ?_
    refine S_ 12 rfl rfl rfl _ (y_move rfl rfl) ?_
    refine S_ 13 rfl rfl rfl _ (y_bin rfl rfl rfl (fun hg => b_subv (((m - 1 : Nat) : Int)) (by omega) (by omega))) ?_
    refine S_ 4 rfl rfl rfl _ (y_assign rfl rfl) ?_
    obtain ⟨x, hx⟩ := h2.2.1
    have hlen : a'.1.length = l.1.length + 1 := by rw [hx.1]; simp
    refine S_nil (nextK6 (kf := [(4, 4), (7, 15)]) (kl := [(4, 4), (7, 15), (901, 902), (907, 907), (911, 912)]) (m - 1) a' s2 ok2 A' c' (by repeat (first | exact kf_nil | (apply kf_in; focus rfl) | (apply kf_out; focus rfl))) (by repeat (first | exact kl_none | exact kl_tail (by assumption) rfl (by repeat (first | exact ti_refl | (apply ti_cons; focus rfl))) | refine kl_cons rfl rfl ?_)) ?_ ?_ ?_ ?_)
    · omega
    · exact ⟨by omega, hp2.next hm hok h2.1, fun h => by have := less_of (one := oneC) oneC_less h2.1 h; omega, ⟨by omega, all_snoc hx.1 hp4.2 (by omega)⟩, by omega⟩
    · exact ⟨rfl, trivial⟩
    · exact ⟨rfl, rfl, rfl, rfl, rfl, trivial⟩
  · skip
    refine T_exit (fun a w hF hM => hRn a w (post0 rfl (fun w hM => ?_) a w hF hM))
    exact ⟨(l, t, ok3, A, c), rfl, ⟨h1.1.bnd (hp2.done (end_list h11)), hp4, hp5⟩, hM.keep (ks := [(0, 999)]) (by repeat (first | exact kl_rest (by assumption) rfl | (apply kl_in; focus rfl))) _ ⟨rfl, rfl, rfl, rfl, rfl, rfl, rfl, rfl,trivial⟩⟩
end Go.Proofs.YtkkngcdikbhkjaaGreatDoor
end
section
namespace Go.Proofs.YtkkngcdikbhkjaaGreatDoor
set_option linter.unusedSimpArgs false
set_option linter.unusedVariables false
set_option maxRecDepth 20000
open Go.RowKit Go.Eng
theorem z202 : ∀ w, (zeroValue 202).run Tryz.prog w = .ok .nilFunc w := fun _ => by kernel_rfl
theorem z117 : ∀ w, (zeroValue 117).run Tryz.prog w = .ok .nilFunc w := fun _ => by kernel_rfl
theorem z201 : ∀ w, (zeroValue 201).run Tryz.prog w = .ok .nilFunc w := fun _ => by kernel_rfl
def Tab.pl (t : Tab) : PT := ⟨t.id, t.size, t.fi.l, t.fu.l, t.ro.l, t.ca.l⟩
/-- a table whose slices are rows of the call's own -/
structure OT where
  id : List UInt8
  size : Int
  fA : Option Addr
  fc : Nat
  fl : List (List UInt8)
  uA : Option Addr
  uc : Nat
  ul : List SFunc
  rA : Option Addr
  rc : Nat
  rl : List SRow
  cA : Option Addr
  cc : Nat
  cl : List SCall
def OT.tab (o : OT) : Tab := ⟨o.id, o.size, ⟨o.fA, o.fl.length, o.fc, o.fl⟩, ⟨o.uA, o.ul.length, o.uc, o.ul⟩, ⟨o.rA, o.rl.length, o.rc, o.rl⟩, ⟨o.cA, o.cl.length, o.cc, o.cl⟩⟩
def OT.small (o : OT) : Prop := o.id.length ≤ 1000000 ∧ (o.fl.length ≤ 1000001 ∧ ∀ x ∈ o.fl, x.length ≤ 1000000) ∧ (o.ul.length ≤ 1000001 ∧ ∀ x ∈ o.ul, x.name.length ≤ 1000000) ∧ o.rl.length ≤ 1000001 ∧ (o.cl.length ≤ 1000001 ∧ ∀ x ∈ o.cl, x.name.length ≤ 1000000)
theorem own_ok {α : Type} {enc : α → List Value} {size : Nat} {e : TypeId} {w0 w : World} {L : HL} {i : Nat} {A : Option Addr} {c : Nat} {l : List α} (hM : Mem w0 L w) (hL : L.get i = some (.own e size (.slice A l.length c) l.length (l.flatMap enc))) : Sl.Ok enc size w ⟨A, l.length, c, l⟩ := by
  refine ⟨⟨own_reads hM hL, rfl⟩, ?_⟩
  have h : w.ownsRow w0.heap.size e size (.slice A l.length c) l.length (l.flatMap enc) := hM.sat i _ hL
  rcases h.2 with ⟨hv, h0⟩ | ⟨g, cap, cur, hv, _, _, hnc, _⟩
  · show l.length ≤ c
    omega
  · have : c = cap := by injection hv
    show l.length ≤ c
    omega
def OT.items (o : OT) (i : Nat) : HL := [(i, rF o.fA o.fc o.fl), (i + 1, rU o.uA o.uc o.ul), (i + 2, rR o.rA o.rc o.rl), (i + 3, rC o.cA o.cc o.cl)]
def OT0 : OT := ⟨[], 0, none, 0, [], none, 0, [], none, 0, [], none, 0, []⟩
theorem OT0.sm : OT0.small := ⟨by simp [OT0], ⟨by simp [OT0], by simp [OT0]⟩, ⟨by simp [OT0], by simp [OT0]⟩, by simp [OT0], by simp [OT0], by simp [OT0]⟩
theorem Mem.nil4 {w0 w : World} {L : HL} (h : Mem w0 L w) : Mem w0 ([(908, rF none 0 []), (909, rU none 0 []), (910, rR none 0 []), (911, rC none 0 [])] ++ L) w :=
  (((h.add 911 (rC none 0 []) rfl (World.ownsRow_nil _ _ _ _)).add 910 (rR none 0 []) rfl (World.ownsRow_nil _ _ _ _)).add 909 (rU none 0 []) rfl (World.ownsRow_nil _ _ _ _)).add 908 (rF none 0 []) rfl (World.ownsRow_nil _ _ _ _)
theorem OT.okI {o : OT} (i : Nat) {w0 w : World} {L : HL} (hM : Mem w0 L w) (hs : o.small) (h1 : L.get i = some (rF o.fA o.fc o.fl)) (h2 : L.get (i + 1) = some (rU o.uA o.uc o.ul)) (h3 : L.get (i + 2) = some (rR o.rA o.rc o.rl)) (h4 : L.get (i + 3) = some (rC o.cA o.cc o.cl)) : o.tab.Ok w := by
  obtain ⟨s1, s2, s3, s4, s5⟩ := hs
  refine ⟨own_ok hM h1, own_ok hM h2, own_ok hM h3, own_ok hM h4, ⟨?_, ?_, ?_, ?_, ?_⟩, fun s hx => ?_, fun s hx => ?_, fun s hx => ?_⟩
  · show o.id.length ≤ _; omega
  · show o.fl.length ≤ _; omega
  · show o.ul.length ≤ _; omega
  · show o.rl.length ≤ _; omega
  · show o.cl.length ≤ _; omega
  · have := s2.2 s hx; omega
  · have := s3.2 s hx; omega
  · have := s5.2 s hx; omega
theorem OT.ok {o : OT} {w0 w : World} {L : HL} (hM : Mem w0 L w) (hs : o.small) (h1 : L.get 908 = some (rF o.fA o.fc o.fl)) (h2 : L.get 909 = some (rU o.uA o.uc o.ul)) (h3 : L.get 910 = some (rR o.rA o.rc o.rl)) (h4 : L.get 911 = some (rC o.cA o.cc o.cl)) : o.tab.Ok w := OT.okI 908 hM hs h1 h2 h3 h4
def RdOk (s : List UInt8) (p : PT) (b : Bool) : Prop := b = (parseT s).isSome ∧ (b = true → parseT s = some p)
theorem read_end {s x s1 s7 : List UInt8} {ok1 ok7 : Bool} {p : PT} (h1 : PRes (tk 4) s true x s1 ok1) (h2 : PRes pTab s1 (decide (x = magic) && ok1) p s7 ok7) : RdOk s p (ok7 && decide (s7 = [])) := by
  obtain ⟨a1, b1⟩ := h1
  obtain ⟨a2, b2⟩ := h2
  rw [Bool.true_and] at a1
  unfold RdOk
  cases ok1 with
  | false =>
    have hn : tk 4 s = none := by
      cases hp : tk 4 s with
      | none => rfl
      | some u => rw [hp] at a1; cases a1
    simp only [Bool.and_false, Bool.false_and] at a2
    subst a2
    simp [parseT, hn]
  | true =>
    have hp := b1 rfl
    by_cases hx : x = magic
    · simp only [hx, decide_true, Bool.true_and] at a2
      cases ok7 with
      | false =>
        have hn : pTab s1 = none := by
          cases hq : pTab s1 with
          | none => rfl
          | some u => rw [hq] at a2; cases a2
        simp [parseT, hp, hx, hn]
      | true =>
        have hq := b2 rfl
        cases s7 with
        | nil => simp [parseT, hp, hx, hq]
        | cons c r => simp [parseT, hp, hx, hq]
    · simp only [hx, decide_false, Bool.false_and] at a2
      subst a2
      simp [parseT, hp, hx]
theorem readTable_any {w0 : World} {K : HL} (hK : FromK K) (s : List UInt8) (hs : s.length ≤ 1000000) (w : World) (hM0 : Mem w0 ([] ++ K) w) :
    Calls Tryz.prog 134 #[str s] w fun e w' => ∃ z : OT × Bool, e = .returned (.tuple #[z.1.tab.val, .bool z.2]) ∧ (RdOk s z.1.tab.pl z.2 ∧ z.1.small) ∧
      Mem w0 ([(908, rF z.1.fA z.1.fc z.1.fl), (909, rU z.1.uA z.1.uc z.1.ul), (910, rR z.1.rA z.1.rc z.1.rl), (911, rC z.1.cA z.1.cc z.1.cl)] ++ K) w' := by
  refine enterM_args (args := [str s]) (F := _) hM0 Tryz.func134 rfl Tryz.ntmps134 rfl rfl ?_
  intro Rb hRb hRn
  refine T_seq ?_
  refine T_region ?_
  refine S_box 1 1 rfl rfl rfl rfl rfl ?_
  intro b1
  refine S_alloc 2 2 rfl rfl rfl rfl z62 ?_
  intro b2
  refine S_ 3 rfl rfl rfl _ (y_assign rfl rfl) ?_
  refine S_go (fun _ _ h => h) ?_
  refine T_seq ?_
  refine T_region ?_
  refine S_alloc 4 4 rfl rfl rfl rfl z62 ?_
  intro b4
  refine S_nilSlice 908 (e := 9) (size := 1) ?_
  refine S_nilSlice 909 (e := 196) (size := 3) ?_
  refine S_nilSlice 910 (e := 198) (size := 3) ?_
  refine S_nilSlice 911 (e := 200) (size := 5) ?_
  refine S_go (fun _ _ h => h) ?_
  refine T_seq ?_
  refine T_region ?_
  refine S_alloc 5 5 rfl rfl rfl rfl z4 ?_
  intro b5
  refine S_store 5 rfl rfl rfl rfl rfl rfl sz4 rfl rfl ?_
  refine S_go (fun _ _ h => h) ?_
  refine T_seq ?_
  refine T_region ?_
  refine S_ 13 rfl rfl rfl _ (y_makeFunc rfl rfl rfl rfl rfl) ?_
  refine S_alloc 6 6 rfl rfl rfl rfl z202 ?_
  intro b6
  refine S_store 6 rfl rfl rfl rfl rfl rfl sz202 rfl rfl ?_
  refine S_go (fun _ _ h => h) ?_
  refine T_seq ?_
  refine T_region ?_
  refine S_ 14 rfl rfl rfl _ (y_makeFunc rfl rfl rfl rfl rfl) ?_
  refine S_alloc 7 7 rfl rfl rfl rfl z117 ?_
  intro b7
  refine S_store 7 rfl rfl rfl rfl rfl rfl sz117 rfl rfl ?_
  refine S_go (fun _ _ h => h) ?_
  refine T_seq ?_
  refine T_region ?_
  refine S_ 15 rfl rfl rfl _ (y_makeFunc rfl rfl rfl rfl rfl) ?_
  refine S_alloc 8 8 rfl rfl rfl rfl z117 ?_
  intro b8
  refine S_store 8 rfl rfl rfl rfl rfl rfl sz117 rfl rfl ?_
  refine S_go (fun _ _ h => h) ?_
  refine T_seq ?_
  refine T_region ?_
  refine S_ 16 rfl rfl rfl _ (y_makeFunc rfl rfl rfl rfl rfl) ?_
  refine S_alloc 9 9 rfl rfl rfl rfl z201 ?_
  intro b9
  refine S_store 9 rfl rfl rfl rfl rfl rfl sz201 rfl rfl ?_
  refine S_go (fun _ _ h => h) ?_
  refine T_seq ?_
  refine T_region ?_
  refine S_ 17 rfl rfl rfl _ (y_makeFunc rfl rfl rfl rfl rfl) ?_
  refine S_ 10 rfl rfl rfl _ (y_assign rfl rfl) ?_
  refine S_go (fun _ _ h => h) ?_
  refine T_seq ?_
  refine T_region ?_
  refine S_ 18 rfl rfl rfl _ (y_load 6 rfl rfl rfl rfl Tryz.underlying202 rfl) ?_
  refine S_callM 19 [(901, 1), (902, 5)] (X := List UInt8 × List UInt8 × Bool) rfl rfl rfl rfl rfl rfl rfl cf273 rfl (fun z => str z.1) (fun z => PRes (tk (4)) (s) (true) z.1 z.2.1 z.2.2 ∧ z.1.length ≤ (s).length ∧ z.2.1.length ≤ (s).length) (fun z => [(901, Ad.iS (Ad.mk b1 b5 b6 b7 b8 b9 b4 0 0) z.2.1), (902, Ad.iO (Ad.mk b1 b5 b6 b7 b8 b9 b4 0 0) z.2.2)]) (fun _ => rfl) (fun _ => rfl) (fun K1 hK1 w hM => take_any hK1 (Ad.mk b1 b5 b6 b7 b8 b9 b4 0 0) (4) (s) (true) w hM) ?_
  rintro ⟨x4, s1, ok1⟩ h1
  try dsimp only at h1
  refine S_ 20 rfl rfl rfl _ (y_bin rfl rfl rfl (fun _ => b_eqls)) ?_
  refine S_ 21 rfl rfl rfl _ (y_move rfl rfl) ?_
  refine Sg_ 22 rfl rfl rfl rfl rfl rfl _ (y_load 5 rfl rfl rfl rfl Tryz.underlying4 rfl) ?_
  refine S_ 23 rfl rfl rfl _ (y_and rfl rfl rfl) ?_
  refine S_store 5 rfl rfl rfl rfl rfl rfl sz4 rfl rfl ?_
  refine S_go (fun _ _ h => h) ?_
  refine T_seq ?_
  refine T_region ?_
  refine S_ 24 rfl rfl rfl _ (y_load 6 rfl rfl rfl rfl Tryz.underlying202 rfl) ?_
  refine S_callM 25 [(901, 1), (902, 5)] (X := List UInt8 × List UInt8 × Bool) rfl rfl rfl rfl rfl rfl rfl cf273 rfl (fun z => str z.1) (fun z => PRes (tk (16)) (s1) ((decide (x4 = magic) && ok1)) z.1 z.2.1 z.2.2 ∧ z.1.length ≤ (s1).length ∧ z.2.1.length ≤ (s1).length) (fun z => [(901, Ad.iS (Ad.mk b1 b5 b6 b7 b8 b9 b4 0 0) z.2.1), (902, Ad.iO (Ad.mk b1 b5 b6 b7 b8 b9 b4 0 0) z.2.2)]) (fun _ => rfl) (fun _ => rfl) (fun K1 hK1 w hM => take_any hK1 (Ad.mk b1 b5 b6 b7 b8 b9 b4 0 0) (16) (s1) ((decide (x4 = magic) && ok1)) w hM) ?_
  rintro ⟨id, s2, ok2⟩ h2
  try dsimp only at h2
  refine S_ 26 rfl rfl rfl _ (y_fieldAddr rfl rfl fa62_0) ?_
  refine S_store 4 rfl rfl rfl rfl rfl rfl sz9 rfl rfl ?_
  refine S_go (fun _ _ h => h) ?_
  refine T_seq ?_
  refine T_region ?_
  refine S_ 27 rfl rfl rfl _ (y_load 7 rfl rfl rfl rfl Tryz.underlying117 rfl) ?_
  refine S_callM 28 [(901, 1), (902, 5), (903, 6)] (X := Nat × List UInt8 × Bool) rfl rfl rfl rfl rfl rfl rfl cf274 rfl (fun z => .int .i64 (z.1 : Int)) (fun z => PRes nm (s2) (ok2) z.1 z.2.1 z.2.2 ∧ z.2.1.length ≤ (s2).length ∧ z.1 ≤ 281474976710656) (fun z => [(901, Ad.iS (Ad.mk b1 b5 b6 b7 b8 b9 b4 0 0) z.2.1), (902, Ad.iO (Ad.mk b1 b5 b6 b7 b8 b9 b4 0 0) z.2.2), (903, Ad.iT (Ad.mk b1 b5 b6 b7 b8 b9 b4 0 0))]) (fun _ => rfl) (fun _ => rfl) (fun K1 hK1 w hM => num_any hK1 (Ad.mk b1 b5 b6 b7 b8 b9 b4 0 0) (s2) (ok2) w hM) ?_
  rintro ⟨n, s3, ok3⟩ h3
  try dsimp only at h3
  refine S_ 29 rfl rfl rfl _ (y_fieldAddr rfl rfl fa62_1) ?_
  refine S_store 4 rfl rfl rfl rfl rfl rfl sz3 rfl rfl ?_
  refine S_go (fun _ _ h => h) ?_
  refine T_seq ?_
  refine T_region ?_
  refine S_ 30 rfl rfl rfl _ (y_move rfl rfl) ?_
  refine S_ 31 rfl rfl rfl _ (y_makeFunc rfl rfl rfl rfl rfl) ?_
  refine S_callM 32 [(901, 1), (902, 5), (903, 6), (904, 7), (906, 9), (907, 4), (908, 908)] (X := (List (List UInt8)) × List UInt8 × Bool × Option Addr × Nat) rfl rfl rfl rfl rfl rfl rfl cf278 rfl (fun _ => .tuple #[]) (fun z => PRes (lst oneF []) s3 ok3 z.1 z.2.1 z.2.2.1 ∧ (z.1.length ≤ 1000001 ∧ ∀ x ∈ z.1, x.length ≤ 1000000) ∧ z.2.1.length ≤ (s3).length) (fun z => [(901, Ad.iS (Ad.mk b1 b5 b6 b7 b8 b9 b4 0 0) z.2.1), (902, Ad.iO (Ad.mk b1 b5 b6 b7 b8 b9 b4 0 0) z.2.2.1), (903, Ad.iT (Ad.mk b1 b5 b6 b7 b8 b9 b4 0 0)), (904, Ad.iN (Ad.mk b1 b5 b6 b7 b8 b9 b4 0 0)), (906, Ad.iW (Ad.mk b1 b5 b6 b7 b8 b9 b4 0 0)), (907, Ad.iTab (Ad.mk b1 b5 b6 b7 b8 b9 b4 0 0) id n (.slice z.2.2.2.1 z.1.length z.2.2.2.2) (.slice none 0 0) (.slice none 0 0) (.slice none 0 0)), (908, rF z.2.2.2.1 z.2.2.2.2 z.1)]) (fun _ => rfl) (fun _ => rfl) (fun K1 hK1 w hM => list6_any hK1 (Ad.mk b1 b5 b6 b7 b8 b9 b4 0 0) id n (.slice none 0 0) (.slice none 0 0) (.slice none 0 0) (s3) (ok3) (by omega) w hM) ?_
  rintro ⟨fl, s4, ok4, fA, fc⟩ h4
  try dsimp only at h4
  refine S_go (fun _ _ h => h) ?_
  refine T_seq ?_
  refine T_region ?_
  refine S_alloc 11 11 rfl rfl rfl rfl z3 ?_
  intro b11
  refine S_store 11 rfl rfl rfl rfl rfl rfl sz3 rfl rfl ?_
  refine S_go (fun _ _ h => h) ?_
  refine T_seq ?_
  refine T_region ?_
  refine S_ 33 rfl rfl rfl _ (y_move rfl rfl) ?_
  refine S_ 34 rfl rfl rfl _ (y_makeFunc rfl rfl rfl rfl rfl) ?_
  refine S_callM 35 [(901, 1), (902, 5), (903, 6), (904, 7), (906, 9), (907, 4), (909, 909), (912, 11)] (X := (List SFunc × Int) × List UInt8 × Bool × Option Addr × Nat) rfl rfl rfl rfl rfl rfl rfl cf278 rfl (fun _ => .tuple #[]) (fun z => PRes (lst oneU ([], 0)) s4 ok4 z.1 z.2.1 z.2.2.1 ∧ (z.1.1.length ≤ 1000001 ∧ ∀ x ∈ z.1.1, x.name.length ≤ 1000000) ∧ z.2.1.length ≤ (s4).length) (fun z => [(901, Ad.iS (Ad.mk b1 b5 b6 b7 b8 b9 b4 b11 0) z.2.1), (902, Ad.iO (Ad.mk b1 b5 b6 b7 b8 b9 b4 b11 0) z.2.2.1), (903, Ad.iT (Ad.mk b1 b5 b6 b7 b8 b9 b4 b11 0)), (904, Ad.iN (Ad.mk b1 b5 b6 b7 b8 b9 b4 b11 0)), (906, Ad.iW (Ad.mk b1 b5 b6 b7 b8 b9 b4 b11 0)), (907, Ad.iTab (Ad.mk b1 b5 b6 b7 b8 b9 b4 b11 0) id n (.slice fA fl.length fc) (.slice z.2.2.2.1 z.1.1.length z.2.2.2.2) (.slice none 0 0) (.slice none 0 0)), (909, rU z.2.2.2.1 z.2.2.2.2 z.1.1), (912, Ad.iL (Ad.mk b1 b5 b6 b7 b8 b9 b4 b11 0) z.1.2)]) (fun _ => rfl) (fun _ => rfl) (fun K1 hK1 w hM => list7_any hK1 (Ad.mk b1 b5 b6 b7 b8 b9 b4 b11 0) id n (.slice fA fl.length fc) (.slice none 0 0) (.slice none 0 0) (s4) (ok4) (by omega) w hM) ?_
  rintro ⟨ul, s5, ok5, uA, uc⟩ h5
  try dsimp only at h5
  refine S_go (fun _ _ h => h) ?_
  refine T_seq ?_
  refine T_region ?_
  refine S_ 36 rfl rfl rfl _ (y_build (zv := .agg #[.int .i64 0, .int .i64 0, .int .i64 0]) (pl := [(0, 1), (1, 1), (2, 1)]) (out := [.int .i64 0, .int .i64 0, .int .i64 0]) rfl rfl Tryz.underlying198 z198 (by kernel_rfl) rfl) ?_
  refine S_alloc 12 12 rfl rfl rfl rfl z198 ?_
  intro b12
  refine S_store 12 rfl rfl rfl rfl rfl rfl sz198 rfl rfl ?_
  refine S_go (fun _ _ h => h) ?_
  refine T_seq ?_
  refine T_region ?_
  refine S_ 37 rfl rfl rfl _ (y_move rfl rfl) ?_
  refine S_ 38 rfl rfl rfl _ (y_makeFunc rfl rfl rfl rfl rfl) ?_
  refine S_callM 39 [(901, 1), (902, 5), (903, 6), (904, 7), (905, 8), (907, 4), (910, 910), (913, 12)] (X := (List SRow × SRow) × List UInt8 × Bool × Option Addr × Nat) rfl rfl rfl rfl rfl rfl rfl cf278 rfl (fun _ => .tuple #[]) (fun z => PRes (lst oneR ([], rowZ)) s5 ok5 z.1 z.2.1 z.2.2.1 ∧ (z.1.1.length ≤ 1000001 ∧ ∀ x ∈ z.1.1, True) ∧ z.2.1.length ≤ (s5).length) (fun z => [(901, Ad.iS (Ad.mk b1 b5 b6 b7 b8 b9 b4 b11 b12) z.2.1), (902, Ad.iO (Ad.mk b1 b5 b6 b7 b8 b9 b4 b11 b12) z.2.2.1), (903, Ad.iT (Ad.mk b1 b5 b6 b7 b8 b9 b4 b11 b12)), (904, Ad.iN (Ad.mk b1 b5 b6 b7 b8 b9 b4 b11 b12)), (905, Ad.iG (Ad.mk b1 b5 b6 b7 b8 b9 b4 b11 b12)), (907, Ad.iTab (Ad.mk b1 b5 b6 b7 b8 b9 b4 b11 b12) id n (.slice fA fl.length fc) (.slice uA ul.1.length uc) (.slice z.2.2.2.1 z.1.1.length z.2.2.2.2) (.slice none 0 0)), (910, rR z.2.2.2.1 z.2.2.2.2 z.1.1), (913, Ad.iR (Ad.mk b1 b5 b6 b7 b8 b9 b4 b11 b12) z.1.2)]) (fun _ => rfl) (fun _ => rfl) (fun K1 hK1 w hM => list8_any hK1 (Ad.mk b1 b5 b6 b7 b8 b9 b4 b11 b12) id n (.slice fA fl.length fc) (.slice uA ul.1.length uc) (.slice none 0 0) (s5) (ok5) (by omega) w hM) ?_
  rintro ⟨rl, s6, ok6, rA, rc⟩ h6
  try dsimp only at h6
  refine S_go (fun _ _ h => h) ?_
  refine T_seq ?_
  refine T_region ?_
  refine S_store 11 rfl rfl rfl rfl rfl rfl sz3 rfl rfl ?_
  refine S_go (fun _ _ h => h) ?_
  refine T_seq ?_
  refine T_region ?_
  refine S_ 40 rfl rfl rfl _ (y_move rfl rfl) ?_
  refine S_ 41 rfl rfl rfl _ (y_makeFunc rfl rfl rfl rfl rfl) ?_
  refine S_callM 42 [(901, 1), (902, 5), (903, 6), (904, 7), (906, 9), (907, 4), (911, 911), (912, 11)] (X := (List SCall × Int) × List UInt8 × Bool × Option Addr × Nat) rfl rfl rfl rfl rfl rfl rfl cf278 rfl (fun _ => .tuple #[]) (fun z => PRes (lst oneC ([], 0)) s6 ok6 z.1 z.2.1 z.2.2.1 ∧ (z.1.1.length ≤ 1000001 ∧ ∀ x ∈ z.1.1, x.name.length ≤ 1000000) ∧ z.2.1.length ≤ (s6).length) (fun z => [(901, Ad.iS (Ad.mk b1 b5 b6 b7 b8 b9 b4 b11 b12) z.2.1), (902, Ad.iO (Ad.mk b1 b5 b6 b7 b8 b9 b4 b11 b12) z.2.2.1), (903, Ad.iT (Ad.mk b1 b5 b6 b7 b8 b9 b4 b11 b12)), (904, Ad.iN (Ad.mk b1 b5 b6 b7 b8 b9 b4 b11 b12)), (906, Ad.iW (Ad.mk b1 b5 b6 b7 b8 b9 b4 b11 b12)), (907, Ad.iTab (Ad.mk b1 b5 b6 b7 b8 b9 b4 b11 b12) id n (.slice fA fl.length fc) (.slice uA ul.1.length uc) (.slice rA rl.1.length rc) (.slice z.2.2.2.1 z.1.1.length z.2.2.2.2)), (911, rC z.2.2.2.1 z.2.2.2.2 z.1.1), (912, Ad.iL (Ad.mk b1 b5 b6 b7 b8 b9 b4 b11 b12) z.1.2)]) (fun _ => rfl) (fun _ => rfl) (fun K1 hK1 w hM => list9_any hK1 (Ad.mk b1 b5 b6 b7 b8 b9 b4 b11 b12) id n (.slice fA fl.length fc) (.slice uA ul.1.length uc) (.slice rA rl.1.length rc) (s6) (ok6) (by omega) w hM) ?_
  rintro ⟨cl, s7, ok7, cA, cc⟩ h7
  try dsimp only at h7
  refine S_go (fun _ _ h => h) ?_
  refine T_seq ?_
  refine T_perm [0, 1, 2, 3, 4, 5, 6, 7] [true, true, true, true, true, true, false, true] [0, 0, 2, 6, 14, 30, 7, 127] [(0, [4]), (1, [5]), (3, [1])] (by kernel_rfl) (by kernel_rfl) (by kernel_rfl) rfl (by kernel_rfl) ?_
  refine Rf_ 0 43 rfl rfl rfl rfl rfl _ ⟨rfl, trivial⟩ (Y.z (y_loadA 4 rfl rfl rfl Tryz.underlying62 rfl sz62) rfl) ?_
  refine Rf_ 1 44 rfl rfl rfl rfl rfl _ ⟨rfl, trivial⟩ (Y.z (y_load 5 rfl rfl rfl rfl Tryz.underlying4 rfl) rfl) ?_
  refine Rf_ 2 45 rfl rfl rfl rfl rfl _ trivial (Y.z (y_move rfl rfl) rfl) ?_
  refine Rfg_ 3 46 rfl rfl rfl rfl rfl rfl rfl rfl _ ⟨rfl, trivial⟩ (Y.z (y_load 1 rfl rfl rfl rfl Tryz.underlying9 rfl) rfl) ?_
  refine Rfg_ 4 47 rfl rfl rfl rfl rfl rfl rfl rfl _ trivial (Y.z (y_bin rfl rfl rfl (fun _ => b_eqls)) rfl) ?_
  refine Rf_ 5 48 rfl rfl rfl rfl rfl _ trivial (Y.z (y_and rfl rfl rfl) rfl) ?_
  refine R_chain 6 rfl rfl ?_
  refine S_store 2 rfl rfl rfl rfl rfl rfl sz62 rfl rfl ?_
  refine R_next ⟨.inl rfl, .inl rfl, .inr ⟨rfl, trivial⟩, trivial⟩ ?_
  refine Rf_ 7 3 rfl rfl rfl rfl rfl _ trivial (Y.z (y_assign rfl rfl) rfl) ?_
  refine R_go (fun _ _ h => h) ?_
  refine T_ret (fun a w hF hM => hRb a w (post_cell 2 rfl rfl rfl rfl Tryz.underlying62 rfl (by exact sz62) (fun w hM => ?_) a w hF hM))
  exact ⟨(⟨id, n, fA, fc, fl, uA, uc, ul.1, rA, rc, rl.1, cA, cc, cl.1⟩, ok7 && decide (s7 = [])), rfl, ⟨read_end h1.1 (h2.1.bnd (h3.1.bnd (h4.1.bnd (h5.1.bnd (h6.1.bnd (h7.1.bnd PRes.giv)))))), ⟨by show id.length ≤ 1000000; omega, h4.2.1, h5.2.1, h6.2.1.1, h7.2.1⟩⟩, hM.keep (ks := [(0, 999)]) (by repeat (first | exact kl_rest (by assumption) rfl | (apply kl_in; focus rfl))) _ ⟨rfl, rfl, rfl, rfl, trivial⟩⟩
end Go.Proofs.YtkkngcdikbhkjaaGreatDoor
end
section
namespace Go.Proofs.YtkkngcdikbhkjaaGreatDoor
set_option linter.unusedSimpArgs false
set_option linter.unusedVariables false
set_option maxRecDepth 20000
open Go.RowKit Go.Eng
end Go.Proofs.YtkkngcdikbhkjaaGreatDoor
end
section
namespace Go.Proofs.YtkkngcdikbhkjaaGreatDoor
set_option linter.unusedSimpArgs false
set_option linter.unusedVariables false
set_option maxRecDepth 20000
open Go.RowKit Go.Eng
def PT0 : PT := ⟨[], 0, [], [], [], []⟩
def Tab0 : Tab := ⟨[], 0, ⟨none, 0, 0, []⟩, ⟨none, 0, 0, []⟩, ⟨none, 0, 0, []⟩, ⟨none, 0, 0, []⟩⟩
theorem slOk_nil {α : Type} {enc : α → List Value} {size : Nat} {w : World} : Sl.Ok enc size w ⟨none, 0, 0, []⟩ := ⟨⟨⟨by simp, fun h => absurd h (by simp)⟩, rfl⟩, Nat.le_refl _⟩
theorem Tab0.ok {w : World} : Tab0.Ok w := ⟨slOk_nil, slOk_nil, slOk_nil, slOk_nil, by simp [Tab0], by simp [Tab0]⟩
def tabNoP (p : PT) : Int := tabNo ⟨p.id, p.size, ⟨none, p.fi.length, 0, p.fi⟩, ⟨none, p.fu.length, 0, p.fu⟩, ⟨none, p.ro.length, 0, p.ro⟩, ⟨none, p.ca.length, 0, p.ca⟩⟩
theorem tabNo_pl {t : Tab} {w : World} (h : t.Ok w) : tabNo t = tabNoP t.pl := by
  simp only [tabNo, tabNoP, Tab.pl, h.fi.t.len, h.fu.t.len, h.ro.t.len, h.ca.t.len]
def readNo (s : List UInt8) : Int := if (1000000 : Int) < s.length then 4 else (parseT s).elim 8 tabNoP
def readP (s : List UInt8) : PT := if readNo s = 0 then (parseT s).getD PT0 else PT0
theorem read_big {s : List UInt8} (h : (1000000 : Int) < s.length) : readNo s = 4 ∧ readP s = PT0 := by
  have e : readNo s = 4 := if_pos h
  exact ⟨e, if_neg (by rw [e]; decide)⟩
theorem read_none {s : List UInt8} {p : PT} (h : (s.length : Int) ≤ 1000000) (hr : RdOk s p false) : readNo s = 8 ∧ readP s = PT0 := by
  have hn : parseT s = none := by
    cases hp : parseT s with
    | none => rfl
    | some u => have := hr.1; rw [hp] at this; cases this
  have e : readNo s = 8 := by rw [readNo, if_neg (by omega), hn]; rfl
  exact ⟨e, if_neg (by rw [e]; decide)⟩
theorem read_some {s : List UInt8} {p : PT} (h : (s.length : Int) ≤ 1000000) (hr : RdOk s p true) : readNo s = tabNoP p ∧ readP s = if tabNoP p = 0 then p else PT0 := by
  have hp := hr.2 rfl
  have e : readNo s = tabNoP p := by rw [readNo, if_neg (by omega), hp]; rfl
  exact ⟨e, by rw [readP, e, hp]; rfl⟩
theorem Read_any {w0 : World} {K : HL} (hK : FromK K) (s : List UInt8) (w : World) (hM0 : Mem w0 ([] ++ K) w) :
    Calls Tryz.prog 34 #[str s] w fun e w' => ∃ o : OT, e = .returned (.tuple #[o.tab.val, .int .i64 (readNo s)]) ∧ (o.tab.pl = readP s ∧ o.small) ∧ Mem w0 ([(908, rF o.fA o.fc o.fl), (909, rU o.uA o.uc o.ul), (910, rR o.rA o.rc o.rl), (911, rC o.cA o.cc o.cl)] ++ K) w' := by
  refine enterM_args (args := [str s]) (F := _) hM0 Tryz.func34 rfl Tryz.ntmps34 rfl rfl ?_
  intro Rb hRb hRn
  refine T_seq ?_
  refine T_region ?_
  refine S_alloc 2 2 rfl rfl rfl rfl z62 ?_
  intro b2
  refine S_ 3 rfl rfl rfl _ (y_assign rfl rfl) ?_
  refine S_go (fun _ _ h => h) ?_
  refine T_seq ?_
  refine T_seq ?_
  refine T_region ?_
  refine S_ 7 rfl rfl rfl _ (y_move rfl rfl) ?_
  refine S_ 8 rfl rfl rfl _ (y_len_str rfl rfl Tryz.underlying9) ?_
  refine S_ 9 rfl rfl rfl _ (y_bin rfl rfl rfl (fun _ => b_gtr)) ?_
  refine S_go (fun _ _ h => h) ?_
  refine T_cond rfl (fun h9 => ?_) (fun h9 => ?_)
  · try simp only [decide_eq_true_eq, decide_eq_false_iff_not, Bool.or_eq_true, Bool.or_eq_false_iff, Bool.and_eq_true, Bool.and_eq_false_iff, Bool.not_eq_true', Bool.not_eq_false', Bool.not_eq_true, Bool.not_eq_false, Bool.not_true, Bool.not_false, Int.not_lt, Int.not_le, not_or, not_and, Classical.not_not] at h9
    refine T_seq ?_
    refine T_region ?_
    refine S_ 10 rfl rfl rfl _ (y_build (zv := .agg #[.string ⟨#[]⟩, .int .i64 0, .slice none 0 0, .slice none 0 0, .slice none 0 0, .slice none 0 0]) (pl := [(0, 1), (1, 1), (2, 1), (3, 1), (4, 1), (5, 1)]) (out := [.string ⟨#[]⟩, .int .i64 0, .slice none 0 0, .slice none 0 0, .slice none 0 0, .slice none 0 0]) rfl rfl Tryz.underlying62 z62 (by kernel_rfl) rfl) ?_
    refine S_store 2 rfl rfl rfl rfl rfl rfl sz62 rfl rfl ?_
    refine S_ 3 rfl rfl rfl _ (y_assign rfl rfl) ?_
    refine S_go (fun _ _ h => h) ?_
    refine T_ret (fun a w hF hM => hRb a w (post_cell 2 rfl rfl rfl rfl Tryz.underlying62 rfl (by exact sz62) (fun w hM => ?_) a w hF hM))
    obtain ⟨e1, e2⟩ := read_big (s := s) (by omega)
    exact ⟨OT0, by rw [e1]; rfl, ⟨e2.symm, OT0.sm⟩, Mem.nil4 (hM.keep (ks := [(0, 999)]) (by repeat (first | exact kl_rest (by assumption) rfl | (apply kl_in; focus rfl))) _ trivial : Mem w0 ([] ++ K) w)⟩
  · try simp only [decide_eq_true_eq, decide_eq_false_iff_not, Bool.or_eq_true, Bool.or_eq_false_iff, Bool.and_eq_true, Bool.and_eq_false_iff, Bool.not_eq_true', Bool.not_eq_false', Bool.not_eq_true, Bool.not_eq_false, Bool.not_true, Bool.not_false, Int.not_lt, Int.not_le, not_or, not_and, Classical.not_not] at h9
    refine T_skip_go (fun _ _ h => h) ?_
    refine T_seq ?_
    refine T_region ?_
    refine S_ 12 rfl rfl rfl _ (y_move rfl rfl) ?_
    refine S_callN 13 [] [(908, 908), (909, 909), (910, 910), (911, 911)] (X := OT × Bool) rfl rfl rfl rfl rfl rfl rfl cf134 rfl (fun z => .tuple #[z.1.tab.val, .bool z.2]) (fun z => RdOk s z.1.tab.pl z.2 ∧ z.1.small) (fun z => [(908, rF z.1.fA z.1.fc z.1.fl), (909, rU z.1.uA z.1.uc z.1.ul), (910, rR z.1.rA z.1.rc z.1.rl), (911, rC z.1.cA z.1.cc z.1.cl)]) (fun _ => rfl) (fun _ => rfl) (fun K1 hK1 w hM => readTable_any hK1 s (by omega) w hM) ?_
    rintro ⟨o, b⟩ hb
    dsimp only at hb
    refine S_ 11 rfl rfl rfl _ (y_move rfl rfl) ?_
    refine S_ 14 rfl rfl rfl _ (y_extract rfl rfl rfl) ?_
    refine S_ 15 rfl rfl rfl _ (y_extract rfl rfl rfl) ?_
    refine S_alloc 4 4 rfl rfl rfl rfl z62 ?_
    intro b4
    refine S_store 4 rfl rfl rfl rfl rfl rfl sz62 rfl rfl ?_
    refine S_ 5 rfl rfl rfl _ (y_assign rfl rfl) ?_
    refine S_go (fun _ _ h => h) ?_
    refine T_seq ?_
    refine T_seq ?_
    refine T_region ?_
    refine S_ 16 rfl rfl rfl _ (y_move rfl rfl) ?_
    refine S_ 17 rfl rfl rfl _ (y_not rfl rfl) ?_
    refine S_go (fun _ _ h => h) ?_
    refine T_cond rfl (fun h17 => ?_) (fun h17 => ?_)
    · skip
      have e : b = false := by simpa using h17
      subst e
      refine T_seq ?_
      refine T_region ?_
      refine S_ 18 rfl rfl rfl _ (y_build (zv := .agg #[.string ⟨#[]⟩, .int .i64 0, .slice none 0 0, .slice none 0 0, .slice none 0 0, .slice none 0 0]) (pl := [(0, 1), (1, 1), (2, 1), (3, 1), (4, 1), (5, 1)]) (out := [.string ⟨#[]⟩, .int .i64 0, .slice none 0 0, .slice none 0 0, .slice none 0 0, .slice none 0 0]) rfl rfl Tryz.underlying62 z62 (by kernel_rfl) rfl) ?_
      refine S_store 2 rfl rfl rfl rfl rfl rfl sz62 rfl rfl ?_
      refine S_ 3 rfl rfl rfl _ (y_assign rfl rfl) ?_
      refine S_go (fun _ _ h => h) ?_
      refine T_ret (fun a w hF hM => hRb a w (post_cell 2 rfl rfl rfl rfl Tryz.underlying62 rfl (by exact sz62) (fun w hM => ?_) a w hF hM))
      obtain ⟨e1, e2⟩ := read_none (by omega) hb.1
      exact ⟨OT0, by rw [e1]; rfl, ⟨e2.symm, OT0.sm⟩, Mem.nil4 (hM.keep (ks := [(0, 999)]) (by repeat (first | exact kl_rest (by assumption) rfl | (apply kl_in; focus rfl))) _ trivial : Mem w0 ([] ++ K) w)⟩
    · skip
      have e : b = true := by simpa using h17
      subst e
      refine T_skip_go (fun _ _ h => h) ?_
      refine T_seq ?_
      refine T_seq ?_
      refine T_region ?_
      refine S_ 19 rfl rfl rfl _ (y_loadA 4 rfl rfl rfl Tryz.underlying62 rfl sz62) ?_
      refine S_ 20 rfl rfl rfl _ (y_call rfl rfl rfl cf123 (fun _ w hM => CheckTable_any o.tab w (OT.ok hM hb.2 rfl rfl rfl rfl))) ?_
      refine S_ 6 rfl rfl rfl _ (y_assign rfl rfl) ?_
      refine S_go (fun _ _ h => h) ?_
      refine T_seq ?_
      refine T_region ?_
      refine S_ 21 rfl rfl rfl _ (y_move rfl rfl) ?_
      refine S_ 22 rfl rfl rfl _ (y_bin rfl rfl rfl (fun _ => b_neq)) ?_
      refine S_go (fun _ _ h => h) ?_
      refine T_cond rfl (fun h22 => ?_) (fun h22 => ?_)
      · try simp only [decide_eq_true_eq, decide_eq_false_iff_not, Bool.or_eq_true, Bool.or_eq_false_iff, Bool.and_eq_true, Bool.and_eq_false_iff, Bool.not_eq_true', Bool.not_eq_false', Bool.not_eq_true, Bool.not_eq_false, Bool.not_true, Bool.not_false, Int.not_lt, Int.not_le, not_or, not_and, Classical.not_not] at h22
        refine T_seq ?_
        refine T_region ?_
        refine S_ 23 rfl rfl rfl _ (y_build (zv := .agg #[.string ⟨#[]⟩, .int .i64 0, .slice none 0 0, .slice none 0 0, .slice none 0 0, .slice none 0 0]) (pl := [(0, 1), (1, 1), (2, 1), (3, 1), (4, 1), (5, 1)]) (out := [.string ⟨#[]⟩, .int .i64 0, .slice none 0 0, .slice none 0 0, .slice none 0 0, .slice none 0 0]) rfl rfl Tryz.underlying62 z62 (by kernel_rfl) rfl) ?_
        refine S_ 24 rfl rfl rfl _ (y_move rfl rfl) ?_
        refine S_store 2 rfl rfl rfl rfl rfl rfl sz62 rfl rfl ?_
        refine S_ 3 rfl rfl rfl _ (y_assign rfl rfl) ?_
        refine S_go (fun _ _ h => h) ?_
        refine T_ret (fun a w hF hM => hRb a w (post_cell 2 rfl rfl rfl rfl Tryz.underlying62 rfl (by exact sz62) (fun w hM => ?_) a w hF hM))
        obtain ⟨e1, e2⟩ := read_some (by omega) hb.1
        have hk := OT.ok hM hb.2 rfl rfl rfl rfl
        rw [← tabNo_pl hk] at e1 e2
        exact ⟨OT0, by rw [e1]; rfl, ⟨by rw [e2, if_neg h22]; rfl, OT0.sm⟩, Mem.nil4 (hM.keep (ks := [(0, 999)]) (by repeat (first | exact kl_rest (by assumption) rfl | (apply kl_in; focus rfl))) _ trivial : Mem w0 ([] ++ K) w)⟩
      · try simp only [decide_eq_true_eq, decide_eq_false_iff_not, Bool.or_eq_true, Bool.or_eq_false_iff, Bool.and_eq_true, Bool.and_eq_false_iff, Bool.not_eq_true', Bool.not_eq_false', Bool.not_eq_true, Bool.not_eq_false, Bool.not_true, Bool.not_false, Int.not_lt, Int.not_le, not_or, not_and, Classical.not_not] at h22
        refine T_skip_go (fun _ _ h => h) ?_
        refine T_seq ?_
        refine T_region ?_
        refine S_ 25 rfl rfl rfl _ (y_loadA 4 rfl rfl rfl Tryz.underlying62 rfl sz62) ?_
        refine S_store 2 rfl rfl rfl rfl rfl rfl sz62 rfl rfl ?_
        refine S_ 3 rfl rfl rfl _ (y_assign rfl rfl) ?_
        refine S_go (fun _ _ h => h) ?_
        refine T_ret (fun a w hF hM => hRb a w (post_cell 2 rfl rfl rfl rfl Tryz.underlying62 rfl (by exact sz62) (fun w hM => ?_) a w hF hM))
        obtain ⟨e1, e2⟩ := read_some (by omega) hb.1
        have hk := OT.ok hM hb.2 rfl rfl rfl rfl
        rw [← tabNo_pl hk] at e1 e2
        exact ⟨o, by rw [e1, h22]; rfl, ⟨by rw [e2, if_pos h22], hb.2⟩, hM.keep (ks := [(0, 999)]) (by repeat (first | exact kl_rest (by assumption) rfl | (apply kl_in; focus rfl))) _ ⟨rfl, rfl, rfl, rfl, trivial⟩⟩
end Go.Proofs.YtkkngcdikbhkjaaGreatDoor
end
section
namespace Go.Proofs.YtkkngcdikbhkjaaGreatDoor
set_option linter.unusedSimpArgs false
set_option linter.unusedVariables false
set_option maxRecDepth 20000
open Go.RowKit Go.Eng
theorem Index1_any (s : List UInt8) (c : UInt8) (w : World) : Calls Tryz.prog 222 #[str s, str [c]] w fun e w' => e = .returned (.int .i64 (Lib.indexByte s c)) ∧ Below w.heap.size w w' :=
  (Tryz.strings_Index_one ⟨s.toArray⟩ c w).mono fun e w' h => ⟨by rw [h.1], h.2 ▸ Below.refl _ _⟩
theorem LIndex1_any (s : List UInt8) (c : UInt8) (w : World) : Calls Tryz.prog 309 #[str s, str [c]] w fun e w' => e = .returned (.int .i64 (Lib.indexByte s c)) ∧ Below w.heap.size w w' :=
  (Tryz.stringslite_Index_one ⟨s.toArray⟩ c w).mono fun e w' h => ⟨by rw [h.1], h.2 ▸ Below.refl _ _⟩
theorem Count1_any (s : List UInt8) (c : UInt8) (w : World) : Calls Tryz.prog 334 #[str s, str [c]] w fun e w' => e = .returned (.int .i64 ((s.count c : Nat) : Int)) ∧ Below w.heap.size w w' :=
  (Tryz.strings_Count_one ⟨s.toArray⟩ c w).mono fun e w' h => ⟨by rw [h.1]; rfl, h.2 ▸ Below.refl _ _⟩
/-! ### Split -/
def splitC (c : UInt8) : List UInt8 → List (List UInt8)
  | [] => [[]]
  | x :: r => if x = c then [] :: splitC c r else match splitC c r with
    | h :: t => (x :: h) :: t
    | [] => [[x]]
theorem splitC_len (c : UInt8) : ∀ s : List UInt8, (splitC c s).length = s.count c + 1
  | [] => rfl
  | x :: r => by
    have ih := splitC_len c r
    rw [splitC]
    by_cases h : x = c
    · subst h; rw [if_pos rfl, List.length_cons, ih, List.count_cons_self]
    · rw [if_neg h, List.count_cons_of_ne h]
      cases hq : splitC c r with
      | nil => rw [hq] at ih; simp at ih
      | cons a t => rw [hq] at ih; simpa using ih
theorem splitC_none (c : UInt8) : ∀ s : List UInt8, (∀ k : Nat, s[k]? ≠ some c) → splitC c s = [s]
  | [], _ => rfl
  | x :: r, h => by
    have hx : ¬ x = c := fun e => h 0 (by simp [e])
    rw [splitC, if_neg hx, splitC_none c r fun k => by have := h (k + 1); simpa using this]
theorem splitC_some (c : UInt8) : ∀ (s : List UInt8) (o : Nat), s[o]? = some c → (∀ k : Nat, k < o → s[k]? ≠ some c) → splitC c s = s.take o :: splitC c (s.drop (o + 1))
  | [], o, h, _ => by simp at h
  | x :: r, 0, h, _ => by
    have hx : x = c := by simpa using h
    rw [splitC, if_pos hx]; rfl
  | x :: r, o + 1, h, hk => by
    have hx : ¬ x = c := fun e => hk 0 (by omega) (by simp [e])
    rw [splitC, if_neg hx, splitC_some c r o (by simpa using h) fun k hko => by have := hk (k + 1) (by omega); simpa using this]
    rfl
theorem strs_flat (l : List (List UInt8)) : l.flatMap strEnc = l.map str := by
  induction l with
  | nil => rfl
  | cons a r ih => rw [List.flatMap_cons, ih]; rfl
theorem strs_len (l : List (List UInt8)) : (l.flatMap strEnc).length = l.length := by rw [strs_flat, List.length_map]
theorem strs_set {out : List (List UInt8)} {i m : Nat} {v : List UInt8} (ho : out.length = i) (hm : 0 < m) : ((out ++ List.replicate m []).flatMap strEnc).set i (str v) = ((out ++ [v]) ++ List.replicate (m - 1) []).flatMap strEnc := by
  obtain ⟨k, rfl⟩ : ∃ k, m = k + 1 := ⟨m - 1, by omega⟩
  subst ho
  rw [strs_flat, strs_flat, Nat.add_sub_cancel, List.replicate_succ]
  simp
theorem made_str (z : Value) (hz : z = str []) (n : Nat) : (madeCells z.cells (n * 1)).toList = (List.replicate n []).flatMap strEnc := by
  subst hz
  rw [strs_flat, Nat.mul_one]
  apply List.ext_getElem?
  intro j
  by_cases h : j < n
  · simp [madeCells, h, List.getElem?_replicate, Value.cells, Nat.mod_one]
  · simp [madeCells, h, List.getElem?_replicate]
set_option maxHeartbeats 1000000 in
theorem genSplit1_any (s : List UInt8) (c : UInt8) (hs : s.length ≤ 1000000000) (w : World) :
    Calls Tryz.prog 265 #[str s, str [c], .int .i64 0, .int .i64 (-1)] w fun e w' => ∃ A q, e = .returned (.slice A (splitC c s).length q) ∧ w'.ownsRow w.heap.size 9 1 (.slice A (splitC c s).length q) (splitC c s).length ((splitC c s).flatMap strEnc) ∧ Below w.heap.size w w' := by
  have hcl : s.count c ≤ s.length := List.count_le_length
  have hsl := splitC_len c s
  refine enter_args (args := [str s, str [c], .int .i64 0, .int .i64 (-1)]) (F := _) Tryz.func265 rfl Tryz.ntmps265 rfl rfl ?_
  intro Rb hRb hRn
  refine T_seq ?_
  refine T_region ?_
  refine S_nilSlice 8 (e := 9) (size := 1) ?_
  refine S_ 8 rfl rfl rfl _ (y_assign rfl rfl) ?_
  refine S_go (fun _ _ h => h) ?_
  refine T_seq ?_
  refine T_seq ?_
  refine T_region ?_
  refine S_ 12 rfl rfl rfl _ (y_move rfl rfl) ?_
  refine S_ 13 rfl rfl rfl _ (y_bin rfl rfl rfl (fun _ => b_eql)) ?_
  refine S_go (fun _ _ h => h) ?_
  refine T_cond rfl (fun h13 => ?_) (fun h13 => ?_)
  · skip
    simp at h13
  · skip
    refine T_skip_go (fun _ _ h => h) ?_
    refine T_seq ?_
    refine T_seq ?_
    refine T_region ?_
    refine S_ 14 rfl rfl rfl _ (y_move rfl rfl) ?_
    refine S_ 15 rfl rfl rfl _ (y_bin rfl rfl rfl (fun _ => b_eqls)) ?_
    refine S_go (fun _ _ h => h) ?_
    refine T_cond rfl (fun h15 => ?_) (fun h15 => ?_)
    · skip
      simp at h15
    · skip
      refine T_skip_go (fun _ _ h => h) ?_
      refine T_seq ?_
      refine T_seq ?_
      refine T_region ?_
      refine S_ 19 rfl rfl rfl _ (y_move rfl rfl) ?_
      refine S_ 20 rfl rfl rfl _ (y_bin rfl rfl rfl (fun _ => b_lss)) ?_
      refine S_go (fun _ _ h => h) ?_
      refine T_cond rfl (fun h20 => ?_) (fun h20 => ?_)
      · skip
        refine T_region ?_
        refine S_ 21 rfl rfl rfl _ (y_move rfl rfl) ?_
        refine S_ 22 rfl rfl rfl _ (y_move rfl rfl) ?_
        refine S_ 23 rfl rfl rfl _ (y_call rfl rfl rfl cf334 (fun _ w _ => Count1_any s c w)) ?_
        refine S_ 24 rfl rfl rfl _ (y_bin rfl rfl rfl (fun hg => b_addv (((s.count c + 1 : Nat) : Int)) (by omega) (by omega))) ?_
        refine S_ 3 rfl rfl rfl _ (y_assign rfl rfl) ?_
        refine S_go (fun _ _ h => h) ?_
        refine T_seq ?_
        refine T_region ?_
        refine S_ 25 rfl rfl rfl _ (y_move rfl rfl) ?_
        refine S_ 26 rfl rfl rfl _ (y_move rfl rfl) ?_
        refine S_ 27 rfl rfl rfl _ (y_len_str rfl rfl Tryz.underlying9) ?_
        refine S_ 28 rfl rfl rfl _ (y_bin rfl rfl rfl (fun hg => b_add (by omega))) ?_
        refine S_ 29 rfl rfl rfl _ (y_as (v' := .int .i64 ((s.count c + 1 : Nat) : Int)) (by congr 1; split <;> omega) (y_min rfl rfl rfl)) ?_
        refine S_ 3 rfl rfl rfl _ (y_assign rfl rfl) ?_
        refine S_go (fun _ _ h => h) ?_
        refine T_seq ?_
        refine T_region ?_
        refine S_ 30 rfl rfl rfl _ (y_move rfl rfl) ?_
        obtain ⟨i31, hi31, hz31, hs31, hy31⟩ := info_parts inf9
        refine S_makeSlice 31 31 rfl rfl rfl rfl rfl rfl Tryz.underlying57 hi31 hz31 hs31 (by rw [hy31]; omega) ((by simp only [maxLen]; omega)) rfl ?_
        intro b31
        refine S_ 9 rfl rfl rfl _ (y_assign rfl rfl) ?_
        refine S_go (fun _ _ h => h) ?_
        refine T_seq ?_
        refine T_region ?_
        refine S_ 32 rfl rfl rfl _ (y_move rfl rfl) ?_
        refine S_ 33 rfl rfl rfl _ (y_bin rfl rfl rfl (fun hg => b_subv (((s.count c : Nat) : Int)) (by omega) (by omega))) ?_
        refine S_ 3 rfl rfl rfl _ (y_assign rfl rfl) ?_
        refine S_go (fun _ _ h => h) ?_
        refine T_seq ?_
        refine T_region ?_
        refine S_ 10 rfl rfl rfl _ (y_assign rfl rfl) ?_
        refine S_go (fun _ _ h => h) ?_
        refine T_seq ?_
        refine T_block ?_
        refine T_loopK3 (kf := [(0, 0), (10, 11), (34, 57)]) (kl := [(0, 0), (10, 11), (31, 31), (34, 57)]) (fun (i : Nat) (out : List (List UInt8)) (rest : List UInt8) => [(10, true, .int .i64 (i : Int)), (0, true, str rest)]) (fun (i : Nat) (out : List (List UInt8)) (rest : List UInt8) => [(31, .own 9 1 (.slice (some ⟨b31, 0, none⟩) (s.count c + 1) (s.count c + 1)) (s.count c + 1) ((out ++ List.replicate (s.count c + 1 - i) []).flatMap strEnc))]) (fun (i : Nat) (out : List (List UInt8)) (rest : List UInt8) => out.length = i ∧ out ++ splitC c rest = splitC c s ∧ i + (splitC c rest).length = s.count c + 1 ∧ rest.length ≤ s.length) (fun (i : Nat) (out : List (List UInt8)) (rest : List UInt8) => s.count c + 1 - i) 0 [] s (by repeat (first | exact kf_nil | (apply kf_in; focus rfl) | (apply kf_out; focus rfl))) (by repeat (first | exact kl_nil | exact kl_rest (by assumption) rfl | (apply kl_in; focus rfl) | (apply kl_out; focus rfl))) ?_ ?_ ?_ ?_
        · exact ⟨rfl, rfl, by omega, by omega⟩
        · exact ⟨rfl, rfl, trivial⟩
        · exact ⟨by rw [made_str _ rfl]; rfl, trivial⟩
        rintro i out rest ⟨hp1, hp2, hp3, hp4⟩
        refine T_seq ?_
        refine T_seq ?_
        refine T_region ?_
        refine S_ 34 rfl rfl rfl _ (y_move rfl rfl) ?_
        refine S_ 35 rfl rfl rfl _ (y_move rfl rfl) ?_
        refine S_ 36 rfl rfl rfl _ (y_bin rfl rfl rfl (fun _ => b_lss)) ?_
        refine S_go (fun _ _ h => h) ?_
        refine T_cond rfl (fun h36 => ?_) (fun h36 => ?_)
        · try simp only [decide_eq_true_eq, decide_eq_false_iff_not, Bool.or_eq_true, Bool.or_eq_false_iff, Bool.and_eq_true, Bool.and_eq_false_iff, Bool.not_eq_true', Bool.not_eq_false', Bool.not_eq_true, Bool.not_eq_false, Bool.not_true, Bool.not_false, Int.not_lt, Int.not_le, not_or, not_and, Classical.not_not] at h36
          refine T_skip_go (fun _ _ h => h) ?_
          refine T_block ?_
          refine T_seq ?_
          refine T_region ?_
          refine S_ 37 rfl rfl rfl _ (y_move rfl rfl) ?_
          refine S_ 38 rfl rfl rfl _ (y_move rfl rfl) ?_
          refine S_ 39 rfl rfl rfl _ (y_call rfl rfl rfl cf222 (fun _ w _ => Index1_any rest c w)) ?_
          refine S_ 11 rfl rfl rfl _ (y_assign rfl rfl) ?_
          refine S_go (fun _ _ h => h) ?_
          refine T_seq ?_
          refine T_seq ?_
          refine T_region ?_
          refine S_ 40 rfl rfl rfl _ (y_move rfl rfl) ?_
          refine S_ 41 rfl rfl rfl _ (y_bin rfl rfl rfl (fun _ => b_lss)) ?_
          refine S_go (fun _ _ h => h) ?_
          refine T_cond rfl (fun h41 => ?_) (fun h41 => ?_)
          · try simp only [decide_eq_true_eq, decide_eq_false_iff_not, Bool.or_eq_true, Bool.or_eq_false_iff, Bool.and_eq_true, Bool.and_eq_false_iff, Bool.not_eq_true', Bool.not_eq_false', Bool.not_eq_true, Bool.not_eq_false, Bool.not_true, Bool.not_false, Int.not_lt, Int.not_le, not_or, not_and, Classical.not_not] at h41
            have hix : Lib.indexByte rest c = -1 := by have := Lib.indexByte_ge rest c; omega
            have hr0 : splitC c rest = [rest] := splitC_none c rest (Lib.indexByte_none hix)
            have hi1 : i + 1 = s.count c + 1 := by rw [hr0] at hp3; exact hp3
            refine T_exit_go (fun _ _ h => h) ?_
            refine T_seq ?_
            refine T_region ?_
            refine S_ 58 rfl rfl rfl _ (y_move rfl rfl) ?_
            refine S_ 59 rfl rfl rfl _ (y_move rfl rfl) ?_
            refine S_ 60 rfl rfl rfl _ (y_move rfl rfl) ?_
            refine S_ 61 rfl rfl rfl _ (y_indexOwn 31 rfl rfl rfl rfl Tryz.underlying57 sz9 (fun _ => by omega)) ?_
            refine S_storeOwn 31 rfl rfl rfl rfl rfl rfl sz9 rfl rfl ?_ (xs' := ((out ++ [rest]) ++ List.replicate (s.count c + 1 - i - 1) []).flatMap strEnc) ?_ ?_
            · (rw [strs_len, List.length_append, List.length_replicate]; omega)
            · exact strs_set hp1 (by omega)
            refine S_go (fun _ _ h => h) ?_
            refine T_seq ?_
            refine T_region ?_
            refine S_ 62 rfl rfl rfl _ (y_move rfl rfl) ?_
            refine S_ 63 rfl rfl rfl _ (y_move rfl rfl) ?_
            refine S_ 64 rfl rfl rfl _ (y_bin rfl rfl rfl (fun hg => b_addv (((i + 1 : Nat) : Int)) (by omega) (by omega))) ?_
            refine S_shrink 31 (i + 1) rfl (by omega) ?_
            refine S_ 65 rfl rfl rfl _ (y_as (v' := .slice (some ⟨b31, 0, none⟩) (i + 1) (s.count c + 1)) (by rw [slice0, Nat.sub_zero, Nat.sub_zero]) (y_slice (lo := 0) (hi := i + 1) rfl rfl Tryz.underlying57 sz9 (.inl ⟨rfl, rfl⟩) (.inr ⟨_, _, rfl, rfl⟩) (by omega) (by omega) (Nat.le_refl _))) ?_
            refine S_ 8 rfl rfl rfl _ (y_assign rfl rfl) ?_
            refine S_go (fun _ _ h => h) ?_
            refine T_ret (fun a w hF hM => hRb a w (post1 rfl rfl (fun w hM => ?_) a w hF hM))
            have hfin : splitC c s = out ++ [rest] := by rw [← hp2, hr0]
            have hlen : (splitC c s).length = i + 1 := by rw [hfin, List.length_append, hp1]; rfl
            rw [hlen]
            refine ⟨some ⟨b31, 0, none⟩, s.count c + 1, rfl, ?_, hM.below⟩
            have h := hM.sat 31 _ rfl
            rw [show s.count c + 1 - i - 1 = 0 by omega, List.replicate_zero, List.append_nil, ← hfin, List.take_of_length_le (by rw [strs_len, hlen]; omega)] at h
            exact h
          · try simp only [decide_eq_true_eq, decide_eq_false_iff_not, Bool.or_eq_true, Bool.or_eq_false_iff, Bool.and_eq_true, Bool.and_eq_false_iff, Bool.not_eq_true', Bool.not_eq_false', Bool.not_eq_true, Bool.not_eq_false, Bool.not_true, Bool.not_false, Int.not_lt, Int.not_le, not_or, not_and, Classical.not_not] at h41
            obtain ⟨o, ho⟩ : ∃ o : Nat, Lib.indexByte rest c = o := ⟨(Lib.indexByte rest c).toNat, by omega⟩
            obtain ⟨ho1, ho2⟩ := Lib.indexByte_some ho
            have hol := (List.getElem?_eq_some_iff.1 ho1).1
            have hsp := splitC_some c rest o ho1 ho2
            have hdl : (rest.drop (o + 1)).length = rest.length - (o + 1) := List.length_drop
            refine T_skip_go (fun _ _ h => h) ?_
            refine T_seq ?_
            refine T_region ?_
            refine S_ 42 rfl rfl rfl _ (y_move rfl rfl) ?_
            refine S_ 43 rfl rfl rfl _ (y_move rfl rfl) ?_
            refine S_ 44 rfl rfl rfl _ (y_move rfl rfl) ?_
            refine S_ 45 rfl rfl rfl _ (y_move rfl rfl) ?_
            refine S_ 46 rfl rfl rfl _ (y_move rfl rfl) ?_
            refine S_ 47 rfl rfl rfl _ (y_bin rfl rfl rfl (fun hg => b_addv (((o : Nat) : Int)) (by omega) (by omega))) ?_
            refine S_ 48 rfl rfl rfl _ (y_as (v' := str (rest.take o)) (by rfl) (y_strTo rfl rfl rfl Tryz.underlying9 (fun _ => by omega))) ?_
            refine S_ 49 rfl rfl rfl _ (y_indexOwn 31 rfl rfl rfl rfl Tryz.underlying57 sz9 (fun _ => by omega)) ?_
            refine S_storeOwn 31 rfl rfl rfl rfl rfl rfl sz9 rfl rfl ?_ (xs' := ((out ++ [rest.take o]) ++ List.replicate (s.count c + 1 - i - 1) []).flatMap strEnc) ?_ ?_
            · (rw [strs_len, List.length_append, List.length_replicate]; omega)
            · exact strs_set hp1 (by omega)
            refine S_go (fun _ _ h => h) ?_
            refine T_seq ?_
            refine T_region ?_
            refine S_ 50 rfl rfl rfl _ (y_move rfl rfl) ?_
            refine S_ 51 rfl rfl rfl _ (y_move rfl rfl) ?_
            refine S_ 52 rfl rfl rfl _ (y_move rfl rfl) ?_
            refine S_ 53 rfl rfl rfl _ (y_as (v' := .int .i64 1) (by exact rfl) (y_len_str rfl rfl Tryz.underlying9)) ?_
            refine S_ 54 rfl rfl rfl _ (y_bin rfl rfl rfl (fun hg => b_addv (((o + 1 : Nat) : Int)) (by omega) (by omega))) ?_
            refine S_ 55 rfl rfl rfl _ (y_as (v' := str (rest.drop (o + 1))) (by rfl) (y_strFrom rfl rfl rfl Tryz.underlying9 (fun _ => by omega))) ?_
            refine S_ 0 rfl rfl rfl _ (y_assign rfl rfl) ?_
            refine S_go (fun _ _ h => h) ?_
            refine T_region ?_
            refine S_ 56 rfl rfl rfl _ (y_move rfl rfl) ?_
            refine S_ 57 rfl rfl rfl _ (y_bin rfl rfl rfl (fun hg => b_addv (((i + 1 : Nat) : Int)) (by omega) (by omega))) ?_
            refine S_ 10 rfl rfl rfl _ (y_assign rfl rfl) ?_
            refine S_nil (nextK3 (kf := [(0, 0), (10, 11), (34, 57)]) (kl := [(0, 0), (10, 11), (31, 31), (34, 57)]) (i + 1) (out ++ [rest.take o]) (rest.drop (o + 1)) (by repeat (first | exact kf_nil | (apply kf_in; focus rfl) | (apply kf_out; focus rfl))) (by repeat (first | exact kl_nil | exact kl_rest (by assumption) rfl | (apply kl_in; focus rfl) | (apply kl_out; focus rfl))) ?_ ?_ ?_ ?_)
            · omega
            · exact ⟨by simp [hp1], by rw [← hp2, hsp, List.append_assoc]; rfl, by rw [hsp, List.length_cons] at hp3; omega, by omega⟩
            · exact ⟨rfl, rfl, trivial⟩
            · exact ⟨rfl, trivial⟩
        · try simp only [decide_eq_true_eq, decide_eq_false_iff_not, Bool.or_eq_true, Bool.or_eq_false_iff, Bool.and_eq_true, Bool.and_eq_false_iff, Bool.not_eq_true', Bool.not_eq_false', Bool.not_eq_true, Bool.not_eq_false, Bool.not_true, Bool.not_false, Int.not_lt, Int.not_le, not_or, not_and, Classical.not_not] at h36
          have hr0 : splitC c rest = [rest] := by
            rcases hq : splitC c rest with _ | ⟨a, _ | ⟨b, t⟩⟩
            · rw [hq] at hp3; have := splitC_len c rest; rw [hq] at this; simp at this
            · have h1 := splitC_len c rest
              rw [hq] at h1
              rw [← hq]
              refine splitC_none c rest fun k hk => ?_
              have := List.count_pos_iff.2 (List.mem_of_getElem? hk)
              simp at h1
              omega
            · rw [hq] at hp3; simp at hp3; omega
          have hi1 : i + 1 = s.count c + 1 := by rw [hr0] at hp3; exact hp3
          refine T_exit_go (fun _ _ h => h) ?_
          refine T_seq ?_
          refine T_region ?_
          refine S_ 58 rfl rfl rfl _ (y_move rfl rfl) ?_
          refine S_ 59 rfl rfl rfl _ (y_move rfl rfl) ?_
          refine S_ 60 rfl rfl rfl _ (y_move rfl rfl) ?_
          refine S_ 61 rfl rfl rfl _ (y_indexOwn 31 rfl rfl rfl rfl Tryz.underlying57 sz9 (fun _ => by omega)) ?_
          refine S_storeOwn 31 rfl rfl rfl rfl rfl rfl sz9 rfl rfl ?_ (xs' := ((out ++ [rest]) ++ List.replicate (s.count c + 1 - i - 1) []).flatMap strEnc) ?_ ?_
          · (rw [strs_len, List.length_append, List.length_replicate]; omega)
          · exact strs_set hp1 (by omega)
          refine S_go (fun _ _ h => h) ?_
          refine T_seq ?_
          refine T_region ?_
          refine S_ 62 rfl rfl rfl _ (y_move rfl rfl) ?_
          refine S_ 63 rfl rfl rfl _ (y_move rfl rfl) ?_
          refine S_ 64 rfl rfl rfl _ (y_bin rfl rfl rfl (fun hg => b_addv (((i + 1 : Nat) : Int)) (by omega) (by omega))) ?_
          refine S_shrink 31 (i + 1) rfl (by omega) ?_
          refine S_ 65 rfl rfl rfl _ (y_as (v' := .slice (some ⟨b31, 0, none⟩) (i + 1) (s.count c + 1)) (by rw [slice0, Nat.sub_zero, Nat.sub_zero]) (y_slice (lo := 0) (hi := i + 1) rfl rfl Tryz.underlying57 sz9 (.inl ⟨rfl, rfl⟩) (.inr ⟨_, _, rfl, rfl⟩) (by omega) (by omega) (Nat.le_refl _))) ?_
          refine S_ 8 rfl rfl rfl _ (y_assign rfl rfl) ?_
          refine S_go (fun _ _ h => h) ?_
          refine T_ret (fun a w hF hM => hRb a w (post1 rfl rfl (fun w hM => ?_) a w hF hM))
          have hfin : splitC c s = out ++ [rest] := by rw [← hp2, hr0]
          have hlen : (splitC c s).length = i + 1 := by rw [hfin, List.length_append, hp1]; rfl
          rw [hlen]
          refine ⟨some ⟨b31, 0, none⟩, s.count c + 1, rfl, ?_, hM.below⟩
          have h := hM.sat 31 _ rfl
          rw [show s.count c + 1 - i - 1 = 0 by omega, List.replicate_zero, List.append_nil, ← hfin, List.take_of_length_le (by rw [strs_len, hlen]; omega)] at h
          exact h
      · skip
        simp at h20
theorem Split1_any (s : List UInt8) (c : UInt8) (hs : s.length ≤ 1000000000) (w : World) :
    Calls Tryz.prog 128 #[str s, str [c]] w fun e w' => ∃ A q, e = .returned (.slice A (splitC c s).length q) ∧ w'.ownsRow w.heap.size 9 1 (.slice A (splitC c s).length q) (splitC c s).length ((splitC c s).flatMap strEnc) ∧ Below w.heap.size w w' := by
  refine enter_args (args := [str s, str [c]]) (F := _) Tryz.func128 rfl Tryz.ntmps128 rfl rfl ?_
  intro Rb hRb hRn
  refine T_seq ?_
  refine T_region ?_
  refine S_nilSlice 4 (e := 9) (size := 1) ?_
  refine S_ 4 rfl rfl rfl _ (y_assign rfl rfl) ?_
  refine S_go (fun _ _ h => h) ?_
  refine T_seq ?_
  refine T_region ?_
  refine S_ 5 rfl rfl rfl _ (y_move rfl rfl) ?_
  refine S_ 6 rfl rfl rfl _ (y_move rfl rfl) ?_
  refine S_callOwn 7 7 rfl rfl rfl rfl rfl rfl rfl cf265 (fun A q => .slice A (splitC c s).length q) 9 1 ((splitC c s).length) ((splitC c s).flatMap strEnc) (fun w hM => genSplit1_any s c hs w) ?_
  intro A7 c7
  refine S_ 4 rfl rfl rfl _ (y_assign rfl rfl) ?_
  refine S_go (fun _ _ h => h) ?_
  refine T_ret (fun a w hF hM => hRb a w (post1 rfl rfl (fun w hM => ?_) a w hF hM))
  exact ⟨A7, c7, rfl, hM.sat 7 _ rfl, hM.below⟩
/-! ### Cut -/
def cutC (c : UInt8) (s : List UInt8) : List UInt8 × List UInt8 × Bool := if Lib.indexByte s c < 0 then (s, [], false) else (s.take (Lib.indexByte s c).toNat, s.drop ((Lib.indexByte s c).toNat + 1), true)
theorem LCut1_any (s : List UInt8) (c : UInt8) (w : World) (hs : s.length ≤ 4611686018427387904) : Calls Tryz.prog 264 #[str s, str [c]] w fun e w' => e = .returned (.tuple #[str (cutC c s).1, str (cutC c s).2.1, .bool (cutC c s).2.2]) ∧ Below w.heap.size w w' := by
  refine enter_args (args := [str s, str [c]]) (F := _) Tryz.func264 rfl Tryz.ntmps264 rfl rfl ?_
  intro Rb hRb hRn
  refine T_seq ?_
  refine T_region ?_
  refine S_ 4 rfl rfl rfl _ (y_assign rfl rfl) ?_
  refine S_ 5 rfl rfl rfl _ (y_assign rfl rfl) ?_
  refine S_ 6 rfl rfl rfl _ (y_assign rfl rfl) ?_
  refine S_go (fun _ _ h => h) ?_
  refine T_seq ?_
  refine T_seq ?_
  refine T_region ?_
  refine S_ 8 rfl rfl rfl _ (y_move rfl rfl) ?_
  refine S_ 9 rfl rfl rfl _ (y_move rfl rfl) ?_
  refine S_ 10 rfl rfl rfl _ (y_call rfl rfl rfl cf309 (fun _ w _ => LIndex1_any s c w)) ?_
  refine S_ 7 rfl rfl rfl _ (y_assign rfl rfl) ?_
  refine S_go (fun _ _ h => h) ?_
  refine T_seq ?_
  refine T_region ?_
  refine S_ 11 rfl rfl rfl _ (y_move rfl rfl) ?_
  refine S_ 12 rfl rfl rfl _ (y_bin rfl rfl rfl (fun _ => b_geq)) ?_
  refine S_go (fun _ _ h => h) ?_
  refine T_cond rfl (fun h12 => ?_) (fun h12 => ?_)
  · try simp only [decide_eq_true_eq, decide_eq_false_iff_not, Bool.or_eq_true, Bool.or_eq_false_iff, Bool.and_eq_true, Bool.and_eq_false_iff, Bool.not_eq_true', Bool.not_eq_false', Bool.not_eq_true, Bool.not_eq_false, Bool.not_true, Bool.not_false, Int.not_lt, Int.not_le, not_or, not_and, Classical.not_not] at h12
    obtain ⟨o, ho⟩ : ∃ o : Nat, Lib.indexByte s c = o := ⟨(Lib.indexByte s c).toNat, by omega⟩
    obtain ⟨ho1, ho2⟩ := Lib.indexByte_some ho
    have hol := (List.getElem?_eq_some_iff.1 ho1).1
    refine T_seq ?_
    refine T_draws (by kernel_rfl) (by kernel_rfl) ?_
    refine D_ 13 rfl rfl rfl _ (y_move rfl rfl) ?_
    refine D_ 14 rfl rfl rfl _ (y_as (v' := .int .i64 ((o : Nat) : Int)) (by rw [ho]) (y_move rfl rfl)) ?_
    refine D_ 15 rfl rfl rfl _ (y_strTo rfl rfl rfl Tryz.underlying9 (fun _ => by omega)) ?_
    refine D_ 16 rfl rfl rfl _ (y_move rfl rfl) ?_
    refine D_ 17 rfl rfl rfl _ (y_as (v' := .int .i64 ((o : Nat) : Int)) (by rw [ho]) (y_move rfl rfl)) ?_
    refine D_ 18 rfl rfl rfl _ (y_move rfl rfl) ?_
    refine D_ 19 rfl rfl rfl _ (y_as (v' := .int .i64 1) (by exact rfl) (y_len_str rfl rfl Tryz.underlying9)) ?_
    refine D_ 20 rfl rfl rfl _ (y_bin rfl rfl rfl (fun hg => b_addv (((o + 1 : Nat) : Int)) (by omega) (by omega))) ?_
    refine D_ 21 rfl rfl rfl _ (y_strFrom rfl rfl rfl Tryz.underlying9 (fun _ => by omega)) ?_
    refine D_ 4 rfl rfl rfl _ (y_assign rfl rfl) ?_
    refine D_ 5 rfl rfl rfl _ (y_assign rfl rfl) ?_
    refine D_ 6 rfl rfl rfl _ (y_assign rfl rfl) ?_
    refine D_go (fun _ _ h => h) ?_
    refine T_ret (fun a w hF hM => hRb a w (post3 rfl rfl rfl rfl (fun w hM => ?_) a w hF hM))
    exact ⟨by rw [cutC, if_neg (by omega), ho]; rfl, hM.below⟩
  · try simp only [decide_eq_true_eq, decide_eq_false_iff_not, Bool.or_eq_true, Bool.or_eq_false_iff, Bool.and_eq_true, Bool.and_eq_false_iff, Bool.not_eq_true', Bool.not_eq_false', Bool.not_eq_true, Bool.not_eq_false, Bool.not_true, Bool.not_false, Int.not_lt, Int.not_le, not_or, not_and, Classical.not_not] at h12
    refine T_skip_go (fun _ _ h => h) ?_
    refine T_seq ?_
    refine T_region ?_
    refine S_ 22 rfl rfl rfl _ (y_move rfl rfl) ?_
    refine S_ 4 rfl rfl rfl _ (y_assign rfl rfl) ?_
    refine S_ 5 rfl rfl rfl _ (y_assign rfl rfl) ?_
    refine S_ 6 rfl rfl rfl _ (y_assign rfl rfl) ?_
    refine S_go (fun _ _ h => h) ?_
    refine T_ret (fun a w hF hM => hRb a w (post3 rfl rfl rfl rfl (fun w hM => ?_) a w hF hM))
    exact ⟨by rw [cutC, if_pos (by omega)], hM.below⟩
theorem Cut1_any (s : List UInt8) (c : UInt8) (w : World) (hs : s.length ≤ 4611686018427387904) : Calls Tryz.prog 127 #[str s, str [c]] w fun e w' => e = .returned (.tuple #[str (cutC c s).1, str (cutC c s).2.1, .bool (cutC c s).2.2]) ∧ Below w.heap.size w w' := by
  refine enter_args (args := [str s, str [c]]) (F := _) Tryz.func127 rfl Tryz.ntmps127 rfl rfl ?_
  intro Rb hRb hRn
  refine T_seq ?_
  refine T_region ?_
  refine S_ 4 rfl rfl rfl _ (y_assign rfl rfl) ?_
  refine S_ 5 rfl rfl rfl _ (y_assign rfl rfl) ?_
  refine S_ 6 rfl rfl rfl _ (y_assign rfl rfl) ?_
  refine S_go (fun _ _ h => h) ?_
  refine T_seq ?_
  refine T_region ?_
  refine S_ 7 rfl rfl rfl _ (y_move rfl rfl) ?_
  refine S_ 8 rfl rfl rfl _ (y_move rfl rfl) ?_
  refine S_ 9 rfl rfl rfl _ (y_call rfl rfl rfl cf264 (fun _ w _ => LCut1_any s c w hs)) ?_
  refine S_ 10 rfl rfl rfl _ (y_extract rfl rfl rfl) ?_
  refine S_ 11 rfl rfl rfl _ (y_extract rfl rfl rfl) ?_
  refine S_ 12 rfl rfl rfl _ (y_extract rfl rfl rfl) ?_
  refine S_ 4 rfl rfl rfl _ (y_assign rfl rfl) ?_
  refine S_ 5 rfl rfl rfl _ (y_assign rfl rfl) ?_
  refine S_ 6 rfl rfl rfl _ (y_assign rfl rfl) ?_
  refine S_go (fun _ _ h => h) ?_
  refine T_ret (fun a w hF hM => hRb a w (post3 rfl rfl rfl rfl (fun w hM => ?_) a w hF hM))
  exact ⟨rfl, hM.below⟩
end Go.Proofs.YtkkngcdikbhkjaaGreatDoor
end
