/- symbol.readTable and symbol.Read. Conditions: those of each theorem. -/
import Derived.Test.YtofolhnecfkjkaaDoorRdLs
import Derived.Test.YtofolhnecfkjkaaDoorFlt
namespace Go.Proofs.YtofolhnecfkjkaaDoor
set_option linter.unusedSimpArgs false
set_option linter.unusedVariables false
set_option maxRecDepth 20000
open Go.RowKit Go.Eng
theorem z107 : ∀ w, (zeroValue 107).run Tryd.prog w = .ok .nilFunc w := fun _ => by kernel_rfl
theorem z113 : ∀ w, (zeroValue 113).run Tryd.prog w = .ok .nilFunc w := fun _ => by kernel_rfl
theorem z111 : ∀ w, (zeroValue 111).run Tryd.prog w = .ok .nilFunc w := fun _ => by kernel_rfl
def Tab.pl (t : Tab) : PT := ⟨t.id, t.size, t.fi.l, t.fu.l, t.ro.l, t.ca.l⟩
/-- a table whose slices are rows of the call's own -/
structure OT where
  id : List UInt8
  size : Int
  fA : Option Addr
  fc : Nat
  fl : List (List UInt8)
  uA : Option Addr
  uc : Nat
  ul : List SFunc
  rA : Option Addr
  rc : Nat
  rl : List SRow
  cA : Option Addr
  cc : Nat
  cl : List SCall
def OT.tab (o : OT) : Tab := ⟨o.id, o.size, ⟨o.fA, o.fl.length, o.fc, o.fl⟩, ⟨o.uA, o.ul.length, o.uc, o.ul⟩, ⟨o.rA, o.rl.length, o.rc, o.rl⟩, ⟨o.cA, o.cl.length, o.cc, o.cl⟩⟩
def OT.small (o : OT) : Prop := o.id.length ≤ 1000000 ∧ (o.fl.length ≤ 1000001 ∧ ∀ x ∈ o.fl, x.length ≤ 1000000) ∧ (o.ul.length ≤ 1000001 ∧ ∀ x ∈ o.ul, x.name.length ≤ 1000000) ∧ o.rl.length ≤ 1000001 ∧ (o.cl.length ≤ 1000001 ∧ ∀ x ∈ o.cl, x.name.length ≤ 1000000)
theorem own_ok {α : Type} {enc : α → List Value} {size : Nat} {e : TypeId} {w0 w : World} {L : HL} {i : Nat} {A : Option Addr} {c : Nat} {l : List α} (hM : Mem w0 L w) (hL : L.get i = some (.own e size (.slice A l.length c) l.length (l.flatMap enc))) : Sl.Ok enc size w ⟨A, l.length, c, l⟩ := by
  refine ⟨⟨own_reads hM hL, rfl⟩, ?_⟩
  have h : w.ownsRow w0.heap.size e size (.slice A l.length c) l.length (l.flatMap enc) := hM.sat i _ hL
  rcases h.2 with ⟨hv, h0⟩ | ⟨g, cap, cur, hv, _, _, hnc, _⟩
  · show l.length ≤ c
    omega
  · have : c = cap := by injection hv
    show l.length ≤ c
    omega
def OT.items (o : OT) (i : Nat) : HL := [(i, rF o.fA o.fc o.fl), (i + 1, rU o.uA o.uc o.ul), (i + 2, rR o.rA o.rc o.rl), (i + 3, rC o.cA o.cc o.cl)]
def OT0 : OT := ⟨[], 0, none, 0, [], none, 0, [], none, 0, [], none, 0, []⟩
theorem OT0.sm : OT0.small := ⟨by simp [OT0], ⟨by simp [OT0], by simp [OT0]⟩, ⟨by simp [OT0], by simp [OT0]⟩, by simp [OT0], by simp [OT0], by simp [OT0]⟩
theorem Mem.nil4 {w0 w : World} {L : HL} (h : Mem w0 L w) : Mem w0 ([(908, rF none 0 []), (909, rU none 0 []), (910, rR none 0 []), (911, rC none 0 [])] ++ L) w :=
  (((h.add 911 (rC none 0 []) rfl (World.ownsRow_nil _ _ _ _)).add 910 (rR none 0 []) rfl (World.ownsRow_nil _ _ _ _)).add 909 (rU none 0 []) rfl (World.ownsRow_nil _ _ _ _)).add 908 (rF none 0 []) rfl (World.ownsRow_nil _ _ _ _)
theorem OT.okI {o : OT} (i : Nat) {w0 w : World} {L : HL} (hM : Mem w0 L w) (hs : o.small) (h1 : L.get i = some (rF o.fA o.fc o.fl)) (h2 : L.get (i + 1) = some (rU o.uA o.uc o.ul)) (h3 : L.get (i + 2) = some (rR o.rA o.rc o.rl)) (h4 : L.get (i + 3) = some (rC o.cA o.cc o.cl)) : o.tab.Ok w := by
  obtain ⟨s1, s2, s3, s4, s5⟩ := hs
  refine ⟨own_ok hM h1, own_ok hM h2, own_ok hM h3, own_ok hM h4, ⟨?_, ?_, ?_, ?_, ?_⟩, fun s hx => ?_, fun s hx => ?_, fun s hx => ?_⟩
  · show o.id.length ≤ _; omega
  · show o.fl.length ≤ _; omega
  · show o.ul.length ≤ _; omega
  · show o.rl.length ≤ _; omega
  · show o.cl.length ≤ _; omega
  · have := s2.2 s hx; omega
  · have := s3.2 s hx; omega
  · have := s5.2 s hx; omega
theorem OT.ok {o : OT} {w0 w : World} {L : HL} (hM : Mem w0 L w) (hs : o.small) (h1 : L.get 908 = some (rF o.fA o.fc o.fl)) (h2 : L.get 909 = some (rU o.uA o.uc o.ul)) (h3 : L.get 910 = some (rR o.rA o.rc o.rl)) (h4 : L.get 911 = some (rC o.cA o.cc o.cl)) : o.tab.Ok w := OT.okI 908 hM hs h1 h2 h3 h4
def RdOk (s : List UInt8) (p : PT) (b : Bool) : Prop := b = (parseT s).isSome ∧ (b = true → parseT s = some p)
theorem read_end {s x s1 s7 : List UInt8} {ok1 ok7 : Bool} {p : PT} (h1 : PRes (tk 4) s true x s1 ok1) (h2 : PRes pTab s1 (decide (x = magic) && ok1) p s7 ok7) : RdOk s p (ok7 && decide (s7 = [])) := by
  obtain ⟨a1, b1⟩ := h1
  obtain ⟨a2, b2⟩ := h2
  rw [Bool.true_and] at a1
  unfold RdOk
  cases ok1 with
  | false =>
    have hn : tk 4 s = none := by
      cases hp : tk 4 s with
      | none => rfl
      | some u => rw [hp] at a1; cases a1
    simp only [Bool.and_false, Bool.false_and] at a2
    subst a2
    simp [parseT, hn]
  | true =>
    have hp := b1 rfl
    by_cases hx : x = magic
    · simp only [hx, decide_true, Bool.true_and] at a2
      cases ok7 with
      | false =>
        have hn : pTab s1 = none := by
          cases hq : pTab s1 with
          | none => rfl
          | some u => rw [hq] at a2; cases a2
        simp [parseT, hp, hx, hn]
      | true =>
        have hq := b2 rfl
        cases s7 with
        | nil => simp [parseT, hp, hx, hq]
        | cons c r => simp [parseT, hp, hx, hq]
    · simp only [hx, decide_false, Bool.false_and] at a2
      subst a2
      simp [parseT, hp, hx]
theorem readTable_any {w0 : World} {K : HL} (hK : FromK K) (s : List UInt8) (hs : s.length ≤ 1000000) (w : World) (hM0 : Mem w0 ([] ++ K) w) :
    Calls Tryd.prog 69 #[str s] w fun e w' => ∃ z : OT × Bool, e = .returned (.tuple #[z.1.tab.val, .bool z.2]) ∧ (RdOk s z.1.tab.pl z.2 ∧ z.1.small) ∧
      Mem w0 ([(908, rF z.1.fA z.1.fc z.1.fl), (909, rU z.1.uA z.1.uc z.1.ul), (910, rR z.1.rA z.1.rc z.1.rl), (911, rC z.1.cA z.1.cc z.1.cl)] ++ K) w' := by
  refine enterM_args (args := [str s]) (F := _) hM0 Tryd.func69 rfl Tryd.ntmps69 rfl rfl ?_
  intro Rb hRb hRn
  refine T_seq ?_
  refine T_region ?_
  refine S_box 1 1 rfl rfl rfl rfl rfl ?_
  intro b1
  refine S_alloc 2 2 rfl rfl rfl rfl z27 ?_
  intro b2
  refine S_ 3 rfl rfl rfl _ (y_assign rfl rfl) ?_
  refine S_go (fun _ _ h => h) ?_
  refine T_seq ?_
  refine T_region ?_
  refine S_alloc 4 4 rfl rfl rfl rfl z27 ?_
  intro b4
  refine S_nilSlice 908 (e := 9) (size := 1) ?_
  refine S_nilSlice 909 (e := 80) (size := 3) ?_
  refine S_nilSlice 910 (e := 98) (size := 3) ?_
  refine S_nilSlice 911 (e := 110) (size := 5) ?_
  refine S_go (fun _ _ h => h) ?_
  refine T_seq ?_
  refine T_region ?_
  refine S_alloc 5 5 rfl rfl rfl rfl z4 ?_
  intro b5
  refine S_store 5 rfl rfl rfl rfl rfl rfl sz4 rfl rfl ?_
  refine S_go (fun _ _ h => h) ?_
  refine T_seq ?_
  refine T_region ?_
  refine S_ 13 rfl rfl rfl _ (y_makeFunc rfl rfl rfl rfl rfl) ?_
  refine S_alloc 6 6 rfl rfl rfl rfl z107 ?_
  intro b6
  refine S_store 6 rfl rfl rfl rfl rfl rfl sz107 rfl rfl ?_
  refine S_go (fun _ _ h => h) ?_
  refine T_seq ?_
  refine T_region ?_
  refine S_ 14 rfl rfl rfl _ (y_makeFunc rfl rfl rfl rfl rfl) ?_
  refine S_alloc 7 7 rfl rfl rfl rfl z113 ?_
  intro b7
  refine S_store 7 rfl rfl rfl rfl rfl rfl sz113 rfl rfl ?_
  refine S_go (fun _ _ h => h) ?_
  refine T_seq ?_
  refine T_region ?_
  refine S_ 15 rfl rfl rfl _ (y_makeFunc rfl rfl rfl rfl rfl) ?_
  refine S_alloc 8 8 rfl rfl rfl rfl z113 ?_
  intro b8
  refine S_store 8 rfl rfl rfl rfl rfl rfl sz113 rfl rfl ?_
  refine S_go (fun _ _ h => h) ?_
  refine T_seq ?_
  refine T_region ?_
  refine S_ 16 rfl rfl rfl _ (y_makeFunc rfl rfl rfl rfl rfl) ?_
  refine S_alloc 9 9 rfl rfl rfl rfl z111 ?_
  intro b9
  refine S_store 9 rfl rfl rfl rfl rfl rfl sz111 rfl rfl ?_
  refine S_go (fun _ _ h => h) ?_
  refine T_seq ?_
  refine T_region ?_
  refine S_ 17 rfl rfl rfl _ (y_makeFunc rfl rfl rfl rfl rfl) ?_
  refine S_ 10 rfl rfl rfl _ (y_assign rfl rfl) ?_
  refine S_go (fun _ _ h => h) ?_
  refine T_seq ?_
  refine T_region ?_
  refine S_ 18 rfl rfl rfl _ (y_load 6 rfl rfl rfl rfl Tryd.underlying107 rfl) ?_
  refine S_callM 19 [(901, 1), (902, 5)] (X := List UInt8 × List UInt8 × Bool) rfl rfl rfl rfl rfl rfl rfl cf101 rfl (fun z => str z.1) (fun z => PRes (tk (4)) (s) (true) z.1 z.2.1 z.2.2 ∧ z.1.length ≤ (s).length ∧ z.2.1.length ≤ (s).length) (fun z => [(901, Ad.iS (Ad.mk b1 b5 b6 b7 b8 b9 b4 0 0) z.2.1), (902, Ad.iO (Ad.mk b1 b5 b6 b7 b8 b9 b4 0 0) z.2.2)]) (fun _ => rfl) (fun _ => rfl) (fun K1 hK1 w hM => take_any hK1 (Ad.mk b1 b5 b6 b7 b8 b9 b4 0 0) (4) (s) (true) w hM) ?_
  rintro ⟨x4, s1, ok1⟩ h1
  try dsimp only at h1
  refine S_ 20 rfl rfl rfl _ (y_bin rfl rfl rfl (fun _ => b_eqls)) ?_
  refine S_ 21 rfl rfl rfl _ (y_move rfl rfl) ?_
  refine Sg_ 22 rfl rfl rfl rfl rfl rfl _ (y_load 5 rfl rfl rfl rfl Tryd.underlying4 rfl) ?_
  refine S_ 23 rfl rfl rfl _ (y_and rfl rfl rfl) ?_
  refine S_store 5 rfl rfl rfl rfl rfl rfl sz4 rfl rfl ?_
  refine S_go (fun _ _ h => h) ?_
  refine T_seq ?_
  refine T_region ?_
  refine S_ 24 rfl rfl rfl _ (y_load 6 rfl rfl rfl rfl Tryd.underlying107 rfl) ?_
  refine S_callM 25 [(901, 1), (902, 5)] (X := List UInt8 × List UInt8 × Bool) rfl rfl rfl rfl rfl rfl rfl cf101 rfl (fun z => str z.1) (fun z => PRes (tk (16)) (s1) ((decide (x4 = magic) && ok1)) z.1 z.2.1 z.2.2 ∧ z.1.length ≤ (s1).length ∧ z.2.1.length ≤ (s1).length) (fun z => [(901, Ad.iS (Ad.mk b1 b5 b6 b7 b8 b9 b4 0 0) z.2.1), (902, Ad.iO (Ad.mk b1 b5 b6 b7 b8 b9 b4 0 0) z.2.2)]) (fun _ => rfl) (fun _ => rfl) (fun K1 hK1 w hM => take_any hK1 (Ad.mk b1 b5 b6 b7 b8 b9 b4 0 0) (16) (s1) ((decide (x4 = magic) && ok1)) w hM) ?_
  rintro ⟨id, s2, ok2⟩ h2
  try dsimp only at h2
  refine S_ 26 rfl rfl rfl _ (y_fieldAddr rfl rfl fa27_0) ?_
  refine S_store 4 rfl rfl rfl rfl rfl rfl sz9 rfl rfl ?_
  refine S_go (fun _ _ h => h) ?_
  refine T_seq ?_
  refine T_region ?_
  refine S_ 27 rfl rfl rfl _ (y_load 7 rfl rfl rfl rfl Tryd.underlying113 rfl) ?_
  refine S_callM 28 [(901, 1), (902, 5), (903, 6)] (X := Nat × List UInt8 × Bool) rfl rfl rfl rfl rfl rfl rfl cf102 rfl (fun z => .int .i64 (z.1 : Int)) (fun z => PRes nm (s2) (ok2) z.1 z.2.1 z.2.2 ∧ z.2.1.length ≤ (s2).length ∧ z.1 ≤ 281474976710656) (fun z => [(901, Ad.iS (Ad.mk b1 b5 b6 b7 b8 b9 b4 0 0) z.2.1), (902, Ad.iO (Ad.mk b1 b5 b6 b7 b8 b9 b4 0 0) z.2.2), (903, Ad.iT (Ad.mk b1 b5 b6 b7 b8 b9 b4 0 0))]) (fun _ => rfl) (fun _ => rfl) (fun K1 hK1 w hM => num_any hK1 (Ad.mk b1 b5 b6 b7 b8 b9 b4 0 0) (s2) (ok2) w hM) ?_
  rintro ⟨n, s3, ok3⟩ h3
  try dsimp only at h3
  refine S_ 29 rfl rfl rfl _ (y_fieldAddr rfl rfl fa27_1) ?_
  refine S_store 4 rfl rfl rfl rfl rfl rfl sz3 rfl rfl ?_
  refine S_go (fun _ _ h => h) ?_
  refine T_seq ?_
  refine T_region ?_
  refine S_ 30 rfl rfl rfl _ (y_move rfl rfl) ?_
  refine S_ 31 rfl rfl rfl _ (y_makeFunc rfl rfl rfl rfl rfl) ?_
  refine S_callM 32 [(901, 1), (902, 5), (903, 6), (904, 7), (906, 9), (907, 4), (908, 908)] (X := (List (List UInt8)) × List UInt8 × Bool × Option Addr × Nat) rfl rfl rfl rfl rfl rfl rfl cf106 rfl (fun _ => .tuple #[]) (fun z => PRes (lst oneF []) s3 ok3 z.1 z.2.1 z.2.2.1 ∧ (z.1.length ≤ 1000001 ∧ ∀ x ∈ z.1, x.length ≤ 1000000) ∧ z.2.1.length ≤ (s3).length) (fun z => [(901, Ad.iS (Ad.mk b1 b5 b6 b7 b8 b9 b4 0 0) z.2.1), (902, Ad.iO (Ad.mk b1 b5 b6 b7 b8 b9 b4 0 0) z.2.2.1), (903, Ad.iT (Ad.mk b1 b5 b6 b7 b8 b9 b4 0 0)), (904, Ad.iN (Ad.mk b1 b5 b6 b7 b8 b9 b4 0 0)), (906, Ad.iW (Ad.mk b1 b5 b6 b7 b8 b9 b4 0 0)), (907, Ad.iTab (Ad.mk b1 b5 b6 b7 b8 b9 b4 0 0) id n (.slice z.2.2.2.1 z.1.length z.2.2.2.2) (.slice none 0 0) (.slice none 0 0) (.slice none 0 0)), (908, rF z.2.2.2.1 z.2.2.2.2 z.1)]) (fun _ => rfl) (fun _ => rfl) (fun K1 hK1 w hM => list6_any hK1 (Ad.mk b1 b5 b6 b7 b8 b9 b4 0 0) id n (.slice none 0 0) (.slice none 0 0) (.slice none 0 0) (s3) (ok3) (by omega) w hM) ?_
  rintro ⟨fl, s4, ok4, fA, fc⟩ h4
  try dsimp only at h4
  refine S_go (fun _ _ h => h) ?_
  refine T_seq ?_
  refine T_region ?_
  refine S_alloc 11 11 rfl rfl rfl rfl z3 ?_
  intro b11
  refine S_store 11 rfl rfl rfl rfl rfl rfl sz3 rfl rfl ?_
  refine S_go (fun _ _ h => h) ?_
  refine T_seq ?_
  refine T_region ?_
  refine S_ 33 rfl rfl rfl _ (y_move rfl rfl) ?_
  refine S_ 34 rfl rfl rfl _ (y_makeFunc rfl rfl rfl rfl rfl) ?_
  refine S_callM 35 [(901, 1), (902, 5), (903, 6), (904, 7), (906, 9), (907, 4), (909, 909), (912, 11)] (X := (List SFunc × Int) × List UInt8 × Bool × Option Addr × Nat) rfl rfl rfl rfl rfl rfl rfl cf106 rfl (fun _ => .tuple #[]) (fun z => PRes (lst oneU ([], 0)) s4 ok4 z.1 z.2.1 z.2.2.1 ∧ (z.1.1.length ≤ 1000001 ∧ ∀ x ∈ z.1.1, x.name.length ≤ 1000000) ∧ z.2.1.length ≤ (s4).length) (fun z => [(901, Ad.iS (Ad.mk b1 b5 b6 b7 b8 b9 b4 b11 0) z.2.1), (902, Ad.iO (Ad.mk b1 b5 b6 b7 b8 b9 b4 b11 0) z.2.2.1), (903, Ad.iT (Ad.mk b1 b5 b6 b7 b8 b9 b4 b11 0)), (904, Ad.iN (Ad.mk b1 b5 b6 b7 b8 b9 b4 b11 0)), (906, Ad.iW (Ad.mk b1 b5 b6 b7 b8 b9 b4 b11 0)), (907, Ad.iTab (Ad.mk b1 b5 b6 b7 b8 b9 b4 b11 0) id n (.slice fA fl.length fc) (.slice z.2.2.2.1 z.1.1.length z.2.2.2.2) (.slice none 0 0) (.slice none 0 0)), (909, rU z.2.2.2.1 z.2.2.2.2 z.1.1), (912, Ad.iL (Ad.mk b1 b5 b6 b7 b8 b9 b4 b11 0) z.1.2)]) (fun _ => rfl) (fun _ => rfl) (fun K1 hK1 w hM => list7_any hK1 (Ad.mk b1 b5 b6 b7 b8 b9 b4 b11 0) id n (.slice fA fl.length fc) (.slice none 0 0) (.slice none 0 0) (s4) (ok4) (by omega) w hM) ?_
  rintro ⟨ul, s5, ok5, uA, uc⟩ h5
  try dsimp only at h5
  refine S_go (fun _ _ h => h) ?_
  refine T_seq ?_
  refine T_region ?_
  refine S_ 36 rfl rfl rfl _ (y_build (zv := .agg #[.int .i64 0, .int .i64 0, .int .i64 0]) (pl := [(0, 1), (1, 1), (2, 1)]) (out := [.int .i64 0, .int .i64 0, .int .i64 0]) rfl rfl Tryd.underlying98 z98 (by kernel_rfl) rfl) ?_
  refine S_alloc 12 12 rfl rfl rfl rfl z98 ?_
  intro b12
  refine S_store 12 rfl rfl rfl rfl rfl rfl sz98 rfl rfl ?_
  refine S_go (fun _ _ h => h) ?_
  refine T_seq ?_
  refine T_region ?_
  refine S_ 37 rfl rfl rfl _ (y_move rfl rfl) ?_
  refine S_ 38 rfl rfl rfl _ (y_makeFunc rfl rfl rfl rfl rfl) ?_
  refine S_callM 39 [(901, 1), (902, 5), (903, 6), (904, 7), (905, 8), (907, 4), (910, 910), (913, 12)] (X := (List SRow × SRow) × List UInt8 × Bool × Option Addr × Nat) rfl rfl rfl rfl rfl rfl rfl cf106 rfl (fun _ => .tuple #[]) (fun z => PRes (lst oneR ([], rowZ)) s5 ok5 z.1 z.2.1 z.2.2.1 ∧ (z.1.1.length ≤ 1000001 ∧ ∀ x ∈ z.1.1, True) ∧ z.2.1.length ≤ (s5).length) (fun z => [(901, Ad.iS (Ad.mk b1 b5 b6 b7 b8 b9 b4 b11 b12) z.2.1), (902, Ad.iO (Ad.mk b1 b5 b6 b7 b8 b9 b4 b11 b12) z.2.2.1), (903, Ad.iT (Ad.mk b1 b5 b6 b7 b8 b9 b4 b11 b12)), (904, Ad.iN (Ad.mk b1 b5 b6 b7 b8 b9 b4 b11 b12)), (905, Ad.iG (Ad.mk b1 b5 b6 b7 b8 b9 b4 b11 b12)), (907, Ad.iTab (Ad.mk b1 b5 b6 b7 b8 b9 b4 b11 b12) id n (.slice fA fl.length fc) (.slice uA ul.1.length uc) (.slice z.2.2.2.1 z.1.1.length z.2.2.2.2) (.slice none 0 0)), (910, rR z.2.2.2.1 z.2.2.2.2 z.1.1), (913, Ad.iR (Ad.mk b1 b5 b6 b7 b8 b9 b4 b11 b12) z.1.2)]) (fun _ => rfl) (fun _ => rfl) (fun K1 hK1 w hM => list8_any hK1 (Ad.mk b1 b5 b6 b7 b8 b9 b4 b11 b12) id n (.slice fA fl.length fc) (.slice uA ul.1.length uc) (.slice none 0 0) (s5) (ok5) (by omega) w hM) ?_
  rintro ⟨rl, s6, ok6, rA, rc⟩ h6
  try dsimp only at h6
  refine S_go (fun _ _ h => h) ?_
  refine T_seq ?_
  refine T_region ?_
  refine S_store 11 rfl rfl rfl rfl rfl rfl sz3 rfl rfl ?_
  refine S_go (fun _ _ h => h) ?_
  refine T_seq ?_
  refine T_region ?_
  refine S_ 40 rfl rfl rfl _ (y_move rfl rfl) ?_
  refine S_ 41 rfl rfl rfl _ (y_makeFunc rfl rfl rfl rfl rfl) ?_
  refine S_callM 42 [(901, 1), (902, 5), (903, 6), (904, 7), (906, 9), (907, 4), (911, 911), (912, 11)] (X := (List SCall × Int) × List UInt8 × Bool × Option Addr × Nat) rfl rfl rfl rfl rfl rfl rfl cf106 rfl (fun _ => .tuple #[]) (fun z => PRes (lst oneC ([], 0)) s6 ok6 z.1 z.2.1 z.2.2.1 ∧ (z.1.1.length ≤ 1000001 ∧ ∀ x ∈ z.1.1, x.name.length ≤ 1000000) ∧ z.2.1.length ≤ (s6).length) (fun z => [(901, Ad.iS (Ad.mk b1 b5 b6 b7 b8 b9 b4 b11 b12) z.2.1), (902, Ad.iO (Ad.mk b1 b5 b6 b7 b8 b9 b4 b11 b12) z.2.2.1), (903, Ad.iT (Ad.mk b1 b5 b6 b7 b8 b9 b4 b11 b12)), (904, Ad.iN (Ad.mk b1 b5 b6 b7 b8 b9 b4 b11 b12)), (906, Ad.iW (Ad.mk b1 b5 b6 b7 b8 b9 b4 b11 b12)), (907, Ad.iTab (Ad.mk b1 b5 b6 b7 b8 b9 b4 b11 b12) id n (.slice fA fl.length fc) (.slice uA ul.1.length uc) (.slice rA rl.1.length rc) (.slice z.2.2.2.1 z.1.1.length z.2.2.2.2)), (911, rC z.2.2.2.1 z.2.2.2.2 z.1.1), (912, Ad.iL (Ad.mk b1 b5 b6 b7 b8 b9 b4 b11 b12) z.1.2)]) (fun _ => rfl) (fun _ => rfl) (fun K1 hK1 w hM => list9_any hK1 (Ad.mk b1 b5 b6 b7 b8 b9 b4 b11 b12) id n (.slice fA fl.length fc) (.slice uA ul.1.length uc) (.slice rA rl.1.length rc) (s6) (ok6) (by omega) w hM) ?_
  rintro ⟨cl, s7, ok7, cA, cc⟩ h7
  try dsimp only at h7
  refine S_go (fun _ _ h => h) ?_
  refine T_seq ?_
  refine T_perm [0, 1, 2, 3, 4, 5, 6, 7] [true, true, true, true, true, true, false, true] [0, 0, 2, 6, 14, 30, 7, 127] [(0, [4]), (1, [5]), (3, [1])] (by kernel_rfl) (by kernel_rfl) (by kernel_rfl) rfl (by kernel_rfl) ?_
  refine Rf_ 0 43 rfl rfl rfl rfl rfl _ ⟨rfl, trivial⟩ (Y.z (y_loadA 4 rfl rfl rfl Tryd.underlying27 rfl sz27) rfl) ?_
  refine Rf_ 1 44 rfl rfl rfl rfl rfl _ ⟨rfl, trivial⟩ (Y.z (y_load 5 rfl rfl rfl rfl Tryd.underlying4 rfl) rfl) ?_
  refine Rf_ 2 45 rfl rfl rfl rfl rfl _ trivial (Y.z (y_move rfl rfl) rfl) ?_
  refine Rfg_ 3 46 rfl rfl rfl rfl rfl rfl rfl rfl _ ⟨rfl, trivial⟩ (Y.z (y_load 1 rfl rfl rfl rfl Tryd.underlying9 rfl) rfl) ?_
  refine Rfg_ 4 47 rfl rfl rfl rfl rfl rfl rfl rfl _ trivial (Y.z (y_bin rfl rfl rfl (fun _ => b_eqls)) rfl) ?_
  refine Rf_ 5 48 rfl rfl rfl rfl rfl _ trivial (Y.z (y_and rfl rfl rfl) rfl) ?_
  refine R_chain 6 rfl rfl ?_
  refine S_store 2 rfl rfl rfl rfl rfl rfl sz27 rfl rfl ?_
  refine R_next ⟨.inl rfl, .inl rfl, .inr ⟨rfl, trivial⟩, trivial⟩ ?_
  refine Rf_ 7 3 rfl rfl rfl rfl rfl _ trivial (Y.z (y_assign rfl rfl) rfl) ?_
  refine R_go (fun _ _ h => h) ?_
  refine T_ret (fun a w hF hM => hRb a w (post_cell 2 rfl rfl rfl rfl Tryd.underlying27 rfl (by exact sz27) (fun w hM => ?_) a w hF hM))
  exact ⟨(⟨id, n, fA, fc, fl, uA, uc, ul.1, rA, rc, rl.1, cA, cc, cl.1⟩, ok7 && decide (s7 = [])), rfl, ⟨read_end h1.1 (h2.1.bnd (h3.1.bnd (h4.1.bnd (h5.1.bnd (h6.1.bnd (h7.1.bnd PRes.giv)))))), ⟨by show id.length ≤ 1000000; omega, h4.2.1, h5.2.1, h6.2.1.1, h7.2.1⟩⟩, hM.keep (ks := [(0, 999)]) (by repeat (first | exact kl_rest (by assumption) rfl | (apply kl_in; focus rfl))) _ ⟨rfl, rfl, rfl, rfl, trivial⟩⟩
end Go.Proofs.YtofolhnecfkjkaaDoor
