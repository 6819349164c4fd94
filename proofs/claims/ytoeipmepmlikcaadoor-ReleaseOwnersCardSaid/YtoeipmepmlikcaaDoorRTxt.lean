/- strings.Join at one blank; OwnersWords, OwnersText. Conditions: those of each theorem. -/
import Derived.Test.YtoeipmepmlikcaaDoorROwn
import Derived.Test.YtoeipmepmlikcaaDoorBldC
import Derived.Test.YtoeipmepmlikcaaDoorTail
import Derived.Test.YtoeipmepmlikcaaDoorSjn
import Derived.Shelf.Strings.OnBuilder
namespace Go.Proofs.YtoeipmepmlikcaaDoor
set_option linter.unusedSimpArgs false
set_option linter.unusedVariables false
set_option maxRecDepth 20000
open Go.RowKit Go.Eng
theorem Join_any (A : Option Addr) (q c : Nat) (l : List (List UInt8)) (w : World) (hl : SlT strE 1 w A q l) (hq : 0 < q) (hcap : q ≤ c) (hlen : (Lib.join l [32]).length ≤ 140737488355328) (h47 : q ≤ 1000000) :
    Calls Tryd.prog 68 #[.slice A q c, str [32]] w fun e w' => e = .returned (str (Lib.join l [32])) ∧ Below w.heap.size w w' := by
  obtain ⟨ad, rfl, hlt, hc⟩ := hl.rd.2 hq
  obtain ⟨bk, o, sp⟩ := ad
  have hll := hl.len
  have hx : ∀ (j : Nat) (s : List UInt8), l[j]? = some s → w.cell? ((⟨bk, o, sp⟩ : Addr).add j) = some (str s) := fun j s hj => hc j (str s) (by rw [strs_flat, List.getElem?_map, hj]; rfl)
  have hsp : sp = none := by
    obtain ⟨s, hs⟩ : ∃ s, l[0]? = some s := ⟨_, List.getElem?_eq_getElem (by omega)⟩
    have h := hx 0 s hs
    cases sp with
    | none => rfl
    | some k =>
      rw [show (⟨bk, o, some k⟩ : Addr).add 0 = ⟨bk, o, some k⟩ from rfl] at h
      unfold World.cell? at h
      split at h
      · simp at h
      · cases h
  subst hsp
  have hm : (l.map fun s => (⟨s.toArray⟩ : ByteArray)).map (·.data.toList) = l := by rw [List.map_map]; exact (List.map_congr_left fun s _ => rfl).trans (List.map_id l)
  have h := Any.strings_Join Tryd.lays156 Tryd.Builder_Extra_156 bk o c (l.map fun s => ⟨s.toArray⟩) ⟨#[32]⟩ w (fun j x hj => by
      rw [List.getElem?_map] at hj
      obtain ⟨s, hs, rfl⟩ := Option.map_eq_some_iff.1 hj
      have := hx j s hs
      rwa [show (⟨bk, o, none⟩ : Addr).add j = ⟨bk, o + j, none⟩ from by unfold Addr.add; split <;> simp_all] at this) hlt (by rw [List.length_map]; omega) (by rw [List.length_map]; omega) (by rw [hm]; exact hlen)
  rw [hm, List.length_map, hll] at h
  exact h
def ownB (o : SOwner) : List UInt8 := o.p ++ [32] ++ Lib.join o.w.l [32] ++ [10]
def ownsB (l : List SOwner) : List UInt8 := l.flatMap ownB
theorem lens_le {n : Nat} : ∀ l : List (List UInt8), (∀ s ∈ l, s.length ≤ n) → Lib.lens l ≤ n * l.length
  | [], _ => by simp [Lib.lens]
  | a :: r, h => by
    have h1 := h a (List.mem_cons_self ..)
    have h2 := lens_le r fun s hs => h s (List.mem_cons_of_mem _ hs)
    have h3 : Lib.lens (a :: r) = a.length + Lib.lens r := by simp [Lib.lens]
    rw [h3, List.length_cons, Nat.mul_succ]; omega
theorem join_le {n : Nat} (l : List (List UInt8)) (h : ∀ s ∈ l, s.length ≤ n) : (Lib.join l [32]).length ≤ (n + 1) * l.length := by
  cases l with
  | nil => simp [Lib.join_nil]
  | cons a r =>
    have := lens_le (a :: r) h
    rw [Lib.join_length]
    simp only [List.length_cons, List.length_nil] at this ⊢
    have e : (n + 1) * (r.length + 1) = n * (r.length + 1) + (r.length + 1) := Nat.succ_mul _ _
    rw [e]; omega
theorem who_names : ∀ (l seen : List (List UInt8)), whoNo seen l = 0 → ∀ n ∈ l, nameOk n = true
  | [], _, _ => fun n h => by cases h
  | a :: r, seen, h => fun n hn => by
    rw [whoNo] at h
    split at h
    · cases h
    · rename_i h1
      split at h
      · cases h
      · rcases List.mem_cons.1 hn with rfl | hn
        · simpa using h1
        · exact who_names r _ h n hn
theorem own_ok {o : SOwner} (h : ownNo o = 0) : o.p.length ≤ 200 ∧ 1 ≤ o.w.q ∧ o.w.q ≤ 20 ∧ ∀ n ∈ o.w.l, nameOk n = true := by
  have h1 := own_parts h
  unfold ownNo at h
  split at h
  · exact absurd h ‹_›
  · split at h
    · cases h
    · split at h
      · cases h
      · exact ⟨h1.1, by omega, h1.2, who_names _ _ h⟩
theorem nameOk_le {s : List UInt8} (h : nameOk s = true) : s.length ≤ 40 := by
  simp only [nameOk, Bool.and_eq_true, decide_eq_true_eq] at h
  omega
theorem ownB_le {o : SOwner} (h : ownNo o = 0) (hl : o.w.l.length = o.w.q) : (Lib.join o.w.l [32]).length ≤ 820 ∧ (ownB o).length ≤ 1022 := by
  obtain ⟨h1, h2, h3, h4⟩ := own_ok h
  have h5 := join_le o.w.l fun s hs => nameOk_le (h4 s hs)
  have h6 : (Lib.join o.w.l [32]).length ≤ 820 := Nat.le_trans h5 (by omega)
  refine ⟨h6, ?_⟩
  simp only [ownB, List.length_append, List.length_cons, List.length_nil]; omega
theorem owns0 {l : Sl SOwner} (h0 : ownersNo l = 0) : l.q ≤ 200 ∧ ∀ o ∈ l.l, ownNo o = 0 := by
  unfold ownersNo at h0
  split at h0
  · cases h0
  · exact ⟨by omega, owns_parts _ h0⟩
theorem OwnersWords_any (l : Sl SOwner) (w : World) (hl : OwnsOk w l) (h0 : ownersNo l = 0) :
    Calls Tryd.prog 15 #[.slice l.A l.q l.c] w fun e w' => e = .returned (str (ownsB l.l)) ∧ Below w.heap.size w w' := by
  have ht := hl.ok.t
  obtain ⟨hq, hall⟩ := owns0 h0
  refine enter_args (args := [.slice l.A l.q l.c]) (F := _) Tryd.func15 rfl Tryd.ntmps15 rfl rfl ?_
  intro Rb hRb hRn
  refine T_seq ?_
  refine T_region ?_
  refine S_ 2 rfl rfl rfl _ (y_assign rfl rfl) ?_
  refine S_go (fun _ _ h => h) ?_
  refine T_seq ?_
  refine T_region ?_
  refine S_alloc 3 3 rfl rfl rfl rfl z105 ?_
  intro b3
  refine S_nilSlice 900 (e := 5) (size := 1) ?_
  refine S_go (fun _ _ h => h) ?_
  refine T_seq ?_
  refine T_seq ?_
  refine T_region ?_
  refine S_ 6 rfl rfl rfl _ (y_move rfl rfl) ?_
  refine S_ 7 rfl rfl rfl _ (y_len_slice rfl rfl Tryd.underlying22) ?_
  refine S_ 8 rfl rfl rfl _ (y_move rfl rfl) ?_
  refine S_go (fun _ _ h => h) ?_
  refine T_block ?_
  refine T_loopK5 (kf := [(5, 5), (8, 21)]) (kl := [(3, 3), (5, 5), (8, 21), (900, 900)]) (fun (i : Nat) (L : List UInt8) (ad : Value) (A : Option Addr) (c : Nat) => [(8, true, .int .i64 (i : Int))]) (fun (i : Nat) (L : List UInt8) (ad : Value) (A : Option Addr) (c : Nat) => [(3, bB b3 ad A c L), (900, bR A c L)]) (fun (i : Nat) (L : List UInt8) (ad : Value) (A : Option Addr) (c : Nat) => i ≤ l.q ∧ L ++ ownsB (l.l.drop i) = ownsB l.l ∧ L.length ≤ i * 1022 ∧ (ad = .pointer none ∨ ad = selfP b3) ∧ (L.length = 0 → A = none)) (fun (i : Nat) (L : List UInt8) (ad : Value) (A : Option Addr) (c : Nat) => l.q - i) 0 [] (.pointer none) none 0 (by repeat (first | exact kf_nil | (apply kf_in; focus rfl) | (apply kf_out; focus rfl))) (by repeat (first | exact kl_nil | exact kl_rest (by assumption) rfl | (apply kl_in; focus rfl) | (apply kl_out; focus rfl))) ?_ ?_ ?_ ?_
  · exact ⟨by omega, rfl, by simp, .inl rfl, fun _ => rfl⟩
  · exact ⟨rfl, trivial⟩
  · exact ⟨rfl, rfl, trivial⟩
  rintro i L ad A c ⟨hp1, hp2, hp3, hp4, hp5⟩
  refine T_seq ?_
  refine T_region ?_
  refine S_ 9 rfl rfl rfl _ (y_bin rfl rfl rfl (fun _ => b_lss)) ?_
  refine S_go (fun _ _ h => h) ?_
  refine T_seq ?_
  refine T_cond rfl (fun h9 => ?_) (fun h9 => ?_)
  · try simp only [decide_eq_true_eq, decide_eq_false_iff_not, Bool.or_eq_true, Bool.or_eq_false_iff, Bool.and_eq_true, Bool.and_eq_false_iff, Bool.not_eq_true', Bool.not_eq_false', Bool.not_eq_true, Bool.not_eq_false, Bool.not_true, Bool.not_false, Int.not_lt, Int.not_le, not_or, not_and, Classical.not_not] at h9
    obtain ⟨x, hx1, hx2⟩ := ht.at (i := i) (by omega)
    have hxo := hl.n x (mem_at hx1)
    have hx0 := hall x (mem_at hx1)
    obtain ⟨hk1, hk2, hk3, hk4⟩ := own_ok hx0
    have hk5 := ownB_le hx0 hxo.w.t.len
    refine T_skip_go (fun _ _ h => h) ?_
    refine T_seq ?_
    refine T_block ?_
    refine T_seq ?_
    refine T_region ?_
    refine S_ 10 rfl rfl rfl _ (y_indexAddr rfl rfl rfl Tryd.underlying22 sz89 (fun hg => ht.isSome (by omega)) (fun _ => by omega)) ?_
    refine S_ 11 rfl rfl rfl _ (y_loadT rfl rfl ht (fun _ => rfl) (fun _ => hx1) Tryd.underlying89 rfl sz89) ?_
    refine S_alloc 5 5 rfl rfl rfl rfl z89 ?_
    intro b5
    refine S_store 5 rfl rfl rfl rfl rfl rfl sz89 rfl rfl ?_
    refine S_go (fun _ _ h => h) ?_
    refine T_drawsTail 8 (by kernel_rfl) (by kernel_rfl) ?_
    refine D_ 12 rfl rfl rfl _ (y_fieldAddr rfl rfl fa89_0) ?_
    refine D_ 13 rfl rfl rfl _ (y_load 5 rfl rfl rfl rfl Tryd.underlying9 rfl) ?_
    refine D_ 14 rfl rfl rfl _ (y_bin rfl rfl rfl (fun hg => b_adds (by first | omega | (simp only [List.length_append, List.length_cons, List.length_nil]; omega)))) ?_
    refine D_ 15 rfl rfl rfl _ (y_fieldAddr rfl rfl fa89_1) ?_
    refine D_ 16 rfl rfl rfl _ (y_load 5 rfl rfl rfl rfl Tryd.underlying25 rfl) ?_
    refine D_ 17 rfl rfl rfl _ (y_call rfl rfl rfl cf68 (fun _ w hM => Join_any _ _ _ x.w.l w (hxo.w.t.below hM.below) (by omega) hxo.w.cap (by omega) (by omega))) ?_
    refine D_ 18 rfl rfl rfl _ (y_bin rfl rfl rfl (fun hg => b_adds (by first | omega | (simp only [List.length_append, List.length_cons, List.length_nil]; omega)))) ?_
    refine D_ 19 rfl rfl rfl _ (y_bin rfl rfl rfl (fun hg => b_adds (by first | omega | (simp only [List.length_append, List.length_cons, List.length_nil]; omega)))) ?_
    refine D_tail ?_
    refine S_callM 20 [(0, 3), (1, 900)] (X := Option Addr × Nat) rfl rfl rfl rfl rfl rfl rfl cf67 rfl (fun _ => .tuple #[.int .i64 (ownB x).length, .nilIface]) (fun _ => True) (fun z0 => [(0, bB b3 (selfP b3) z0.1 z0.2 (L ++ ownB x)), (1, bR z0.1 z0.2 (L ++ ownB x))]) (fun _ => rfl) (fun _ => rfl) (fun K1 hK1 w hM => (WStr_any hK1 b3 _ _ _ (L) (ownB x) (hp4) (by omega) w hM).mono fun e w1 h => h.elim fun x h => ⟨x, h.1, trivial, h.2.2⟩) ?_
    intro x20 hx20
    refine S_go (fun _ _ h => h) ?_
    refine T_region ?_
    refine S_ 21 rfl rfl rfl _ (y_bin rfl rfl rfl (fun hg => b_add (by omega))) ?_
    refine S_ 8 rfl rfl rfl _ (y_move rfl rfl) ?_
    refine S_nil (nextK5 (kf := [(5, 5), (8, 21)]) (kl := [(3, 3), (5, 5), (8, 21), (900, 900)]) (i + 1) (L ++ ownB x) (selfP b3) x20.1 x20.2 (by repeat (first | exact kf_nil | (apply kf_in; focus rfl) | (apply kf_out; focus rfl))) (by repeat (first | exact kl_nil | exact kl_rest (by assumption) rfl | (apply kl_in; focus rfl) | (apply kl_out; focus rfl))) ?_ ?_ ?_ ?_)
    · omega
    · exact ⟨by omega, by rw [← hp2, hx2, ownsB, ownsB, List.flatMap_cons, List.append_assoc], by rw [List.length_append]; omega, .inr rfl, fun h => by simp [ownB] at h⟩
    · exact ⟨rfl, trivial⟩
    · exact ⟨rfl, rfl, trivial⟩
  · try simp only [decide_eq_true_eq, decide_eq_false_iff_not, Bool.or_eq_true, Bool.or_eq_false_iff, Bool.and_eq_true, Bool.and_eq_false_iff, Bool.not_eq_true', Bool.not_eq_false', Bool.not_eq_true, Bool.not_eq_false, Bool.not_true, Bool.not_false, Int.not_lt, Int.not_le, not_or, not_and, Classical.not_not] at h9
    have e1 : L = ownsB l.l := by rw [ht.end (by omega)] at hp2; simpa [ownsB] using hp2
    subst e1
    refine T_exit_go (fun _ _ h => h) ?_
    refine T_seq ?_
    refine T_region ?_
    refine S_callM 22 [(0, 3), (1, 900)] (X := Unit) rfl rfl rfl rfl rfl rfl rfl cf69 rfl (fun _ => str (ownsB l.l)) (fun _ => True) (fun _ => [(1, bR none 0 []), (0, bB b3 (ad) A c (ownsB l.l))]) (fun _ => rfl) (fun _ => rfl) (fun K1 hK1 w hM => (BStr_any hK1 b3 _ _ _ (ownsB l.l) (by omega) (by omega) w hM).mono fun e w1 h => ⟨(), h.1, trivial, h.2⟩) ?_
    intro _ _
    refine S_ 2 rfl rfl rfl _ (y_assign rfl rfl) ?_
    refine S_go (fun _ _ h => h) ?_
    refine T_ret (fun a w hF hM => hRb a w (post1 rfl rfl (fun w hM => ?_) a w hF hM))
    exact ⟨rfl, hM.below⟩
def otRes (l : Sl SOwner) : Int × List UInt8 := if ownersNo l ≠ 0 then (ownersNo l, []) else (0, ownsB l.l)
theorem OwnersText_any (l : Sl SOwner) (w : World) (hl : OwnsOk w l) :
    Calls Tryd.prog 17 #[.slice l.A l.q l.c] w fun e w' => e = .returned (.tuple #[str (otRes l).2, .int .i64 (otRes l).1]) ∧ Below w.heap.size w w' := by
  have ht := hl.ok.t
  refine enter_args (args := [.slice l.A l.q l.c]) (F := _) Tryd.func17 rfl Tryd.ntmps17 rfl rfl ?_
  intro Rb hRb hRn
  refine T_seq ?_
  refine T_region ?_
  refine S_ 2 rfl rfl rfl _ (y_assign rfl rfl) ?_
  refine S_ 3 rfl rfl rfl _ (y_assign rfl rfl) ?_
  refine S_go (fun _ _ h => h) ?_
  refine T_seq ?_
  refine T_seq ?_
  refine T_region ?_
  refine S_ 8 rfl rfl rfl _ (y_move rfl rfl) ?_
  refine S_ 9 rfl rfl rfl _ (y_call rfl rfl rfl cf18 (fun _ w hM => CheckOwners_any l w (hl.below hM.below))) ?_
  refine S_ 4 rfl rfl rfl _ (y_assign rfl rfl) ?_
  refine S_go (fun _ _ h => h) ?_
  refine T_seq ?_
  refine T_region ?_
  refine S_ 10 rfl rfl rfl _ (y_move rfl rfl) ?_
  refine S_ 11 rfl rfl rfl _ (y_bin rfl rfl rfl (fun _ => b_neq)) ?_
  refine S_go (fun _ _ h => h) ?_
  refine T_cond rfl (fun h11 => ?_) (fun h11 => ?_)
  · try simp only [decide_eq_true_eq, decide_eq_false_iff_not, Bool.or_eq_true, Bool.or_eq_false_iff, Bool.and_eq_true, Bool.and_eq_false_iff, Bool.not_eq_true', Bool.not_eq_false', Bool.not_eq_true, Bool.not_eq_false, Bool.not_true, Bool.not_false, Int.not_lt, Int.not_le, not_or, not_and, Classical.not_not] at h11
    refine T_seq ?_
    refine T_region ?_
    refine S_ 12 rfl rfl rfl _ (y_move rfl rfl) ?_
    refine S_ 2 rfl rfl rfl _ (y_assign rfl rfl) ?_
    refine S_ 3 rfl rfl rfl _ (y_assign rfl rfl) ?_
    refine S_go (fun _ _ h => h) ?_
    refine T_ret (fun a w hF hM => hRb a w (post2 rfl rfl rfl (fun w hM => ?_) a w hF hM))
    exact ⟨by rw [otRes, if_pos h11], hM.below⟩
  · try simp only [decide_eq_true_eq, decide_eq_false_iff_not, Bool.or_eq_true, Bool.or_eq_false_iff, Bool.and_eq_true, Bool.and_eq_false_iff, Bool.not_eq_true', Bool.not_eq_false', Bool.not_eq_true, Bool.not_eq_false, Bool.not_true, Bool.not_false, Int.not_lt, Int.not_le, not_or, not_and, Classical.not_not] at h11
    have h11 : ownersNo l = 0 := h11
    obtain ⟨hq, hall⟩ := owns0 h11
    refine T_skip_go (fun _ _ h => h) ?_
    refine T_seq ?_
    refine T_region ?_
    refine S_alloc 5 5 rfl rfl rfl rfl z105 ?_
    intro b5
    refine S_nilSlice 900 (e := 5) (size := 1) ?_
    refine S_go (fun _ _ h => h) ?_
    refine T_seq ?_
    refine T_seq ?_
    refine T_region ?_
    refine S_ 13 rfl rfl rfl _ (y_move rfl rfl) ?_
    refine S_ 14 rfl rfl rfl _ (y_len_slice rfl rfl Tryd.underlying22) ?_
    refine S_ 15 rfl rfl rfl _ (y_move rfl rfl) ?_
    refine S_go (fun _ _ h => h) ?_
    refine T_block ?_
    refine T_loopK5 (kf := [(7, 7), (15, 28)]) (kl := [(5, 5), (7, 7), (15, 28), (900, 900)]) (fun (i : Nat) (L : List UInt8) (ad : Value) (A : Option Addr) (c : Nat) => [(15, true, .int .i64 (i : Int))]) (fun (i : Nat) (L : List UInt8) (ad : Value) (A : Option Addr) (c : Nat) => [(5, bB b5 ad A c L), (900, bR A c L)]) (fun (i : Nat) (L : List UInt8) (ad : Value) (A : Option Addr) (c : Nat) => i ≤ l.q ∧ L ++ ownsB (l.l.drop i) = ownsB l.l ∧ L.length ≤ i * 1022 ∧ (ad = .pointer none ∨ ad = selfP b5) ∧ (L.length = 0 → A = none)) (fun (i : Nat) (L : List UInt8) (ad : Value) (A : Option Addr) (c : Nat) => l.q - i) 0 [] (.pointer none) none 0 (by repeat (first | exact kf_nil | (apply kf_in; focus rfl) | (apply kf_out; focus rfl))) (by repeat (first | exact kl_nil | exact kl_rest (by assumption) rfl | (apply kl_in; focus rfl) | (apply kl_out; focus rfl))) ?_ ?_ ?_ ?_
    · exact ⟨by omega, rfl, by simp, .inl rfl, fun _ => rfl⟩
    · exact ⟨rfl, trivial⟩
    · exact ⟨rfl, rfl, trivial⟩
    rintro i L ad A c ⟨hp1, hp2, hp3, hp4, hp5⟩
    refine T_seq ?_
    refine T_region ?_
    refine S_ 16 rfl rfl rfl _ (y_bin rfl rfl rfl (fun _ => b_lss)) ?_
    refine S_go (fun _ _ h => h) ?_
    refine T_seq ?_
    refine T_cond rfl (fun h16 => ?_) (fun h16 => ?_)
    · try simp only [decide_eq_true_eq, decide_eq_false_iff_not, Bool.or_eq_true, Bool.or_eq_false_iff, Bool.and_eq_true, Bool.and_eq_false_iff, Bool.not_eq_true', Bool.not_eq_false', Bool.not_eq_true, Bool.not_eq_false, Bool.not_true, Bool.not_false, Int.not_lt, Int.not_le, not_or, not_and, Classical.not_not] at h16
      obtain ⟨x, hx1, hx2⟩ := ht.at (i := i) (by omega)
      have hxo := hl.n x (mem_at hx1)
      have hx0 := hall x (mem_at hx1)
      obtain ⟨hk1, hk2, hk3, hk4⟩ := own_ok hx0
      have hk5 := ownB_le hx0 hxo.w.t.len
      refine T_skip_go (fun _ _ h => h) ?_
      refine T_seq ?_
      refine T_block ?_
      refine T_seq ?_
      refine T_region ?_
      refine S_ 17 rfl rfl rfl _ (y_indexAddr rfl rfl rfl Tryd.underlying22 sz89 (fun hg => ht.isSome (by omega)) (fun _ => by omega)) ?_
      refine S_ 18 rfl rfl rfl _ (y_loadT rfl rfl ht (fun _ => rfl) (fun _ => hx1) Tryd.underlying89 rfl sz89) ?_
      refine S_alloc 7 7 rfl rfl rfl rfl z89 ?_
      intro b7
      refine S_store 7 rfl rfl rfl rfl rfl rfl sz89 rfl rfl ?_
      refine S_go (fun _ _ h => h) ?_
      refine T_drawsTail 8 (by kernel_rfl) (by kernel_rfl) ?_
      refine D_ 19 rfl rfl rfl _ (y_fieldAddr rfl rfl fa89_0) ?_
      refine D_ 20 rfl rfl rfl _ (y_load 7 rfl rfl rfl rfl Tryd.underlying9 rfl) ?_
      refine D_ 21 rfl rfl rfl _ (y_bin rfl rfl rfl (fun hg => b_adds (by first | omega | (simp only [List.length_append, List.length_cons, List.length_nil]; omega)))) ?_
      refine D_ 22 rfl rfl rfl _ (y_fieldAddr rfl rfl fa89_1) ?_
      refine D_ 23 rfl rfl rfl _ (y_load 7 rfl rfl rfl rfl Tryd.underlying25 rfl) ?_
      refine D_ 24 rfl rfl rfl _ (y_call rfl rfl rfl cf68 (fun _ w hM => Join_any _ _ _ x.w.l w (hxo.w.t.below hM.below) (by omega) hxo.w.cap (by omega) (by omega))) ?_
      refine D_ 25 rfl rfl rfl _ (y_bin rfl rfl rfl (fun hg => b_adds (by first | omega | (simp only [List.length_append, List.length_cons, List.length_nil]; omega)))) ?_
      refine D_ 26 rfl rfl rfl _ (y_bin rfl rfl rfl (fun hg => b_adds (by first | omega | (simp only [List.length_append, List.length_cons, List.length_nil]; omega)))) ?_
      refine D_tail ?_
      refine S_callM 27 [(0, 5), (1, 900)] (X := Option Addr × Nat) rfl rfl rfl rfl rfl rfl rfl cf67 rfl (fun _ => .tuple #[.int .i64 (ownB x).length, .nilIface]) (fun _ => True) (fun z0 => [(0, bB b5 (selfP b5) z0.1 z0.2 (L ++ ownB x)), (1, bR z0.1 z0.2 (L ++ ownB x))]) (fun _ => rfl) (fun _ => rfl) (fun K1 hK1 w hM => (WStr_any hK1 b5 _ _ _ (L) (ownB x) (hp4) (by omega) w hM).mono fun e w1 h => h.elim fun x h => ⟨x, h.1, trivial, h.2.2⟩) ?_
      intro x27 hx27
      refine S_go (fun _ _ h => h) ?_
      refine T_region ?_
      refine S_ 28 rfl rfl rfl _ (y_bin rfl rfl rfl (fun hg => b_add (by omega))) ?_
      refine S_ 15 rfl rfl rfl _ (y_move rfl rfl) ?_
      refine S_nil (nextK5 (kf := [(7, 7), (15, 28)]) (kl := [(5, 5), (7, 7), (15, 28), (900, 900)]) (i + 1) (L ++ ownB x) (selfP b5) x27.1 x27.2 (by repeat (first | exact kf_nil | (apply kf_in; focus rfl) | (apply kf_out; focus rfl))) (by repeat (first | exact kl_nil | exact kl_rest (by assumption) rfl | (apply kl_in; focus rfl) | (apply kl_out; focus rfl))) ?_ ?_ ?_ ?_)
      · omega
      · exact ⟨by omega, by rw [← hp2, hx2, ownsB, ownsB, List.flatMap_cons, List.append_assoc], by rw [List.length_append]; omega, .inr rfl, fun h => by simp [ownB] at h⟩
      · exact ⟨rfl, trivial⟩
      · exact ⟨rfl, rfl, trivial⟩
    · try simp only [decide_eq_true_eq, decide_eq_false_iff_not, Bool.or_eq_true, Bool.or_eq_false_iff, Bool.and_eq_true, Bool.and_eq_false_iff, Bool.not_eq_true', Bool.not_eq_false', Bool.not_eq_true, Bool.not_eq_false, Bool.not_true, Bool.not_false, Int.not_lt, Int.not_le, not_or, not_and, Classical.not_not] at h16
      have e1 : L = ownsB l.l := by rw [ht.end (by omega)] at hp2; simpa [ownsB] using hp2
      subst e1
      have hp3 : (ownsB l.l).length ≤ i * 1022 := hp3
      refine T_exit_go (fun _ _ h => h) ?_
      refine T_seq ?_
      refine T_seq ?_
      refine T_region ?_
      refine S_ 29 rfl rfl rfl _ (y_call rfl rfl rfl cf70 (fun _ w hM => BLen_any b5 A (ownsB l.l).length c w (hM.box_cell (i := 5) rfl rfl))) ?_
      refine S_ 30 rfl rfl rfl _ (y_bin rfl rfl rfl (fun _ => b_gtr)) ?_
      refine S_go (fun _ _ h => h) ?_
      refine T_cond rfl (fun h30 => ?_) (fun h30 => ?_)
      · try simp only [decide_eq_true_eq, decide_eq_false_iff_not, Bool.or_eq_true, Bool.or_eq_false_iff, Bool.and_eq_true, Bool.and_eq_false_iff, Bool.not_eq_true', Bool.not_eq_false', Bool.not_eq_true, Bool.not_eq_false, Bool.not_true, Bool.not_false, Int.not_lt, Int.not_le, not_or, not_and, Classical.not_not] at h30
        omega
      · try simp only [decide_eq_true_eq, decide_eq_false_iff_not, Bool.or_eq_true, Bool.or_eq_false_iff, Bool.and_eq_true, Bool.and_eq_false_iff, Bool.not_eq_true', Bool.not_eq_false', Bool.not_eq_true, Bool.not_eq_false, Bool.not_true, Bool.not_false, Int.not_lt, Int.not_le, not_or, not_and, Classical.not_not] at h30
        refine T_skip_go (fun _ _ h => h) ?_
        refine T_seq ?_
        refine T_region ?_
        refine S_callM 31 [(0, 5), (1, 900)] (X := Unit) rfl rfl rfl rfl rfl rfl rfl cf69 rfl (fun _ => str (ownsB l.l)) (fun _ => True) (fun _ => [(1, bR none 0 []), (0, bB b5 (ad) A c (ownsB l.l))]) (fun _ => rfl) (fun _ => rfl) (fun K1 hK1 w hM => (BStr_any hK1 b5 _ _ _ (ownsB l.l) (by omega) (by omega) w hM).mono fun e w1 h => ⟨(), h.1, trivial, h.2⟩) ?_
        intro _ _
        refine S_ 2 rfl rfl rfl _ (y_assign rfl rfl) ?_
        refine S_ 3 rfl rfl rfl _ (y_assign rfl rfl) ?_
        refine S_go (fun _ _ h => h) ?_
        refine T_ret (fun a w hF hM => hRb a w (post2 rfl rfl rfl (fun w hM => ?_) a w hF hM))
        exact ⟨by rw [otRes, if_neg (by simpa using h11)], hM.below⟩
end Go.Proofs.YtoeipmepmlikcaaDoor
