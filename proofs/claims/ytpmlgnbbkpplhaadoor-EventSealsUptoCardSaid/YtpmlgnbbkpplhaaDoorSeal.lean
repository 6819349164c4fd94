/- Seal and the reference's Sealed write the same envelope. Conditions: those of each theorem. -/
import Derived.Test.YtpmlgnbbkpplhaaDoorSNum
import Derived.Test.YtpmlgnbbkpplhaaDoorBldC
import Derived.Test.YtpmlgnbbkpplhaaDoorEChk
import Derived.Test.YtpmlgnbbkpplhaaDoorECutF
namespace Go.Proofs.YtpmlgnbbkpplhaaDoor
set_option linter.unusedSimpArgs false
set_option linter.unusedVariables false
set_option maxRecDepth 20000
open Go.RowKit Go.Eng
structure SItem where
  k : List UInt8
  b : List UInt8
def SItem.enc (x : SItem) : List Value := [str x.k, str x.b]
def SItem.val (x : SItem) : Value := .agg x.enc.toArray
structure ItemsOk (w : World) (l : Sl SItem) : Prop where
  ok : l.Ok SItem.enc 2 w
  q : l.q ≤ 4611686018427387904
theorem ItemsOk.below {w w' : World} {l : Sl SItem} (h : ItemsOk w l) (hb : Below w.heap.size w w') : ItemsOk w' l := ⟨h.ok.below hb, h.q⟩
def tot : List SItem → Nat
  | [] => 0
  | x :: r => x.k.length + x.b.length + tot r
def totB : List SItem → Nat
  | [] => 0
  | x :: r => x.b.length + totB r
theorem totB_le : ∀ l : List SItem, totB l ≤ tot l
  | [] => Nat.le_refl _
  | x :: r => by have := totB_le r; simp only [tot, totB]; omega
def itemB (x : SItem) : List UInt8 := x.k ++ [32] ++ Lib.itoa ((x.b.length : Nat) : Int) ++ [10] ++ x.b ++ [10]
def itemsB (l : List SItem) : List UInt8 := l.flatMap itemB
def envB : List UInt8 := [101, 110, 118, 101, 108, 111, 112, 101]
def sealB (q : Nat) (l : List SItem) : List UInt8 := envB ++ [32] ++ Lib.itoa ((q : Nat) : Int) ++ [32] ++ sumS (itemsB l) ++ [10] ++ itemsB l
def kindsBad (l : List SItem) : Bool := l.any fun x => !nameOk x.k
def sealRes (l : Sl SItem) : Int × List UInt8 := if (100 : Int) < l.q then (4, []) else if kindsBad l.l = true then (3, []) else if (1000000 : Int) < (sealB l.q l.l).length then (4, []) else (0, sealB l.q l.l)
theorem itoa_len {n : Nat} (h : n ≤ 1000000000) : (Lib.itoa (n : Int)).length ≤ 21 := Lib.itoa_length_le _ (by omega) (by omega)
theorem itemB_le {x : SItem} (h : x.b.length ≤ 1000000000) : (itemB x).length ≤ x.k.length + x.b.length + 24 ∧ x.b.length ≤ (itemB x).length ∧ 1 ≤ (itemB x).length := by
  have := itoa_len h
  simp only [itemB, List.length_append, List.length_cons, List.length_nil]; omega
theorem itemsB_le : ∀ l : List SItem, tot l ≤ 1000000000 → (itemsB l).length ≤ tot l + l.length * 24 ∧ totB l ≤ (itemsB l).length
  | [], _ => by simp [itemsB, tot, totB]
  | x :: r, h => by
    simp only [tot] at h
    have h1 := itemsB_le r (by omega)
    have h2 := itemB_le (x := x) (by omega)
    have e : itemsB (x :: r) = itemB x ++ itemsB r := rfl
    rw [e, List.length_append, List.length_cons]
    simp only [tot, totB]; omega
theorem tot_at : ∀ {l : List SItem} {i : Nat} {x : SItem}, l[i]? = some x → x.k.length + x.b.length ≤ tot l
  | [], i, x, h => by simp at h
  | a :: r, 0, x, h => by simp at h; subst h; simp only [tot]; omega
  | a :: r, i + 1, x, h => by have := tot_at (l := r) (i := i) (by simpa using h); simp only [tot]; omega
theorem any_drop_f {p : SItem → Bool} {l : List SItem} {i : Nat} {x : SItem} (hd : l.drop i = x :: l.drop (i + 1)) (hp : p x = false) : (l.drop i).any p = (l.drop (i + 1)).any p := by rw [hd, List.any_cons, hp, Bool.false_or]
theorem sumF_lt : ∀ (s : List UInt8) (h : Nat), h < 18446744073709551616 → sumF h s < 18446744073709551616
  | [], h, hh => hh
  | c :: r, h, hh => sumF_lt r _ (Nat.mod_lt _ (by decide))
theorem sumS_le (s : List UInt8) : (sumS s).length ≤ 16 := by
  have h := hexA_len (sumF sum0 s) [] (by decide) (by have := sumF_lt s sum0 (by decide); exact this)
  rw [sumS, List.length_append, List.length_replicate]; omega
/-! ### a builder's text read twice -/
def bF (A : Option Addr) (c : Nat) (l : List UInt8) : It := match A with
  | none => bR none c []
  | some a => .blk a.block (RowF 5 (bytesV l))
set_option maxHeartbeats 1000000 in
theorem BStrF_any {w0 : World} {K : HL} (hK : FromK K) (b : Nat) (ad : Value) (A : Option Addr) (c : Nat) (l : List UInt8) (hz : l.length = 0 → A = none) (h63 : l.length ≤ 9223372036854775807) (w : World) (hM0 : Mem w0 ([(0, bB b ad A c l), (1, bR A c l)] ++ K) w) :
    Calls Tryd.prog 42 #[selfP b] w fun e w' => (e = .returned (str l) ∧ (l.length ≠ 0 → ∃ g, A = some ⟨g, 0, none⟩ ∧ c ≠ 0)) ∧ Mem w0 ([(1, bF A c l), (0, bB b ad A c l)] ++ K) w' := by
  have hrow : w.ownsRow w0.heap.size 5 1 (.slice A l.length c) l.length (bytesV l) := hM0.sat 1 _ rfl
  by_cases h0 : l.length = 0
  · have hA := hz h0
    subst hA
    have hl : l = [] := List.eq_nil_of_length_eq_zero h0
    subst hl
    refine enterM_args (args := [selfP b]) (F := _) hM0 Tryd.func42 rfl Tryd.ntmps42 rfl rfl ?_
    intro Rb hRb hRn
    refine T_seq ?_
    refine T_region ?_
    refine S_ 2 rfl rfl rfl _ (y_assign rfl rfl) ?_
    refine S_go (fun _ _ h => h) ?_
    refine T_seq ?_
    refine T_tail 10 (by kernel_rfl) (by kernel_rfl) ?_
    refine E_ 3 rfl rfl rfl _ (z_move rfl rfl) ?_
    refine E_ 4 rfl rfl rfl _ (z_nilCheck rfl rfl) ?_
    refine E_ 5 rfl rfl rfl _ (z_fieldAddr rfl rfl fa79_1) ?_
    refine E_ 6 rfl rfl rfl _ (z_load 0 rfl rfl rfl rfl Tryd.underlying77 rfl) ?_
    refine E_ 7 rfl rfl rfl _ (z_sliceData rfl rfl (.inl rfl)) ?_
    refine E_ 8 rfl rfl rfl _ (z_move rfl rfl) ?_
    refine E_ 9 rfl rfl rfl _ (z_nilCheck rfl rfl) ?_
    refine E_ 10 rfl rfl rfl _ (z_fieldAddr rfl rfl fa79_1) ?_
    refine E_ 11 rfl rfl rfl _ (z_load 0 rfl rfl rfl rfl Tryd.underlying77 rfl) ?_
    refine E_ 12 rfl rfl rfl _ (z_len rfl rfl Tryd.underlying77) ?_
    refine E_nil ?_
    refine S_unsafeString0 13 rfl rfl rfl rfl rfl rfl ?_
    refine S_ 2 rfl rfl rfl _ (y_assign rfl rfl) ?_
    refine S_go (fun _ _ h => h) ?_
    refine T_ret (fun a w hF hM => hRb a w (post1 rfl rfl (fun w hM => ?_) a w hF hM))
    exact ⟨⟨rfl, fun h => absurd rfl h⟩, (hM.keep (ks := [(0, 999)]) (by repeat (first | exact kl_rest (by assumption) rfl | (apply kl_in; focus rfl))) _ ⟨rfl, rfl, trivial⟩ : Mem w0 ([(1, bF none c []), (0, bB b ad none c [])] ++ K) _)⟩
  · obtain ⟨g, rfl, hc0⟩ : ∃ g, A = some ⟨g, 0, none⟩ ∧ c ≠ 0 := by
      rcases hrow.2 with ⟨_, h⟩ | ⟨g, cap, cur, hv, _, _, hnc, _⟩
      · exact absurd h h0
      · exact ⟨g, by injection hv, by have : c = cap := by injection hv
                                      omega⟩
    refine enterM_args (args := [selfP b]) (F := _) hM0 Tryd.func42 rfl Tryd.ntmps42 rfl rfl ?_
    intro Rb hRb hRn
    refine T_seq ?_
    refine T_region ?_
    refine S_ 2 rfl rfl rfl _ (y_assign rfl rfl) ?_
    refine S_go (fun _ _ h => h) ?_
    refine T_seq ?_
    refine T_tail 10 (by kernel_rfl) (by kernel_rfl) ?_
    refine E_ 3 rfl rfl rfl _ (z_move rfl rfl) ?_
    refine E_ 4 rfl rfl rfl _ (z_nilCheck rfl rfl) ?_
    refine E_ 5 rfl rfl rfl _ (z_fieldAddr rfl rfl fa79_1) ?_
    refine E_ 6 rfl rfl rfl _ (z_load 0 rfl rfl rfl rfl Tryd.underlying77 rfl) ?_
    refine E_ 7 rfl rfl rfl _ (z_sliceData rfl rfl (.inr hc0)) ?_
    refine E_ 8 rfl rfl rfl _ (z_move rfl rfl) ?_
    refine E_ 9 rfl rfl rfl _ (z_nilCheck rfl rfl) ?_
    refine E_ 10 rfl rfl rfl _ (z_fieldAddr rfl rfl fa79_1) ?_
    refine E_ 11 rfl rfl rfl _ (z_load 0 rfl rfl rfl rfl Tryd.underlying77 rfl) ?_
    refine E_ 12 rfl rfl rfl _ (z_len rfl rfl Tryd.underlying77) ?_
    refine E_nil ?_
    refine S_giveRow 1 (g := g) rfl ?_
    refine S_unsafeString 13 1 rfl rfl rfl rfl rfl rfl rfl rfl (by omega) h63 Tryd.underlying131 co5 ?_
    refine S_ 2 rfl rfl rfl _ (y_assign rfl rfl) ?_
    refine S_go (fun _ _ h => h) ?_
    refine T_ret (fun a w hF hM => hRb a w (post1 rfl rfl (fun w hM => ?_) a w hF hM))
    exact ⟨⟨rfl, fun _ => ⟨g, rfl, hc0⟩⟩, (hM.keep (ks := [(0, 999)]) (by repeat (first | exact kl_rest (by assumption) rfl | (apply kl_in; focus rfl))) _ ⟨rfl, rfl, trivial⟩ : Mem w0 ([(1, bF (some ⟨g, 0, none⟩) c l), (0, bB b ad (some ⟨g, 0, none⟩) c l)] ++ K) _)⟩
set_option maxHeartbeats 1000000 in
theorem BStrG_any {w0 : World} {K : HL} (hK : FromK K) (b : Nat) (ad : Value) (A : Option Addr) (c : Nat) (l : List UInt8) (hz : l.length = 0 → A = none) (hg : l.length ≠ 0 → ∃ g, A = some ⟨g, 0, none⟩ ∧ c ≠ 0) (h63 : l.length ≤ 9223372036854775807) (w : World) (hM0 : Mem w0 ([(0, bB b ad A c l), (1, bF A c l)] ++ K) w) :
    Calls Tryd.prog 42 #[selfP b] w fun e w' => e = .returned (str l) ∧ Mem w0 ([(1, bF A c l), (0, bB b ad A c l)] ++ K) w' := by
  by_cases h0 : l.length = 0
  · have hA := hz h0
    subst hA
    have hl : l = [] := List.eq_nil_of_length_eq_zero h0
    subst hl
    refine enterM_args (args := [selfP b]) (F := _) hM0 Tryd.func42 rfl Tryd.ntmps42 rfl rfl ?_
    intro Rb hRb hRn
    refine T_seq ?_
    refine T_region ?_
    refine S_ 2 rfl rfl rfl _ (y_assign rfl rfl) ?_
    refine S_go (fun _ _ h => h) ?_
    refine T_seq ?_
    refine T_tail 10 (by kernel_rfl) (by kernel_rfl) ?_
    refine E_ 3 rfl rfl rfl _ (z_move rfl rfl) ?_
    refine E_ 4 rfl rfl rfl _ (z_nilCheck rfl rfl) ?_
    refine E_ 5 rfl rfl rfl _ (z_fieldAddr rfl rfl fa79_1) ?_
    refine E_ 6 rfl rfl rfl _ (z_load 0 rfl rfl rfl rfl Tryd.underlying77 rfl) ?_
    refine E_ 7 rfl rfl rfl _ (z_sliceData rfl rfl (.inl rfl)) ?_
    refine E_ 8 rfl rfl rfl _ (z_move rfl rfl) ?_
    refine E_ 9 rfl rfl rfl _ (z_nilCheck rfl rfl) ?_
    refine E_ 10 rfl rfl rfl _ (z_fieldAddr rfl rfl fa79_1) ?_
    refine E_ 11 rfl rfl rfl _ (z_load 0 rfl rfl rfl rfl Tryd.underlying77 rfl) ?_
    refine E_ 12 rfl rfl rfl _ (z_len rfl rfl Tryd.underlying77) ?_
    refine E_nil ?_
    refine S_unsafeString0 13 rfl rfl rfl rfl rfl rfl ?_
    refine S_ 2 rfl rfl rfl _ (y_assign rfl rfl) ?_
    refine S_go (fun _ _ h => h) ?_
    refine T_ret (fun a w hF hM => hRb a w (post1 rfl rfl (fun w hM => ?_) a w hF hM))
    exact ⟨rfl, (hM.keep (ks := [(0, 999)]) (by repeat (first | exact kl_rest (by assumption) rfl | (apply kl_in; focus rfl))) _ ⟨rfl, rfl, trivial⟩ : Mem w0 ([(1, bF none c []), (0, bB b ad none c [])] ++ K) _)⟩
  · obtain ⟨g, rfl, hc0⟩ := hg h0
    have hM1 : Mem w0 ([(0, bB b ad (some ⟨g, 0, none⟩) c l), (1, .blk g (RowF 5 (bytesV l)))] ++ K) w := hM0
    refine enterM_args (args := [selfP b]) (F := _) hM1 Tryd.func42 rfl Tryd.ntmps42 rfl rfl ?_
    intro Rb hRb hRn
    refine T_seq ?_
    refine T_region ?_
    refine S_ 2 rfl rfl rfl _ (y_assign rfl rfl) ?_
    refine S_go (fun _ _ h => h) ?_
    refine T_seq ?_
    refine T_tail 10 (by kernel_rfl) (by kernel_rfl) ?_
    refine E_ 3 rfl rfl rfl _ (z_move rfl rfl) ?_
    refine E_ 4 rfl rfl rfl _ (z_nilCheck rfl rfl) ?_
    refine E_ 5 rfl rfl rfl _ (z_fieldAddr rfl rfl fa79_1) ?_
    refine E_ 6 rfl rfl rfl _ (z_load 0 rfl rfl rfl rfl Tryd.underlying77 rfl) ?_
    refine E_ 7 rfl rfl rfl _ (z_sliceData rfl rfl (.inr hc0)) ?_
    refine E_ 8 rfl rfl rfl _ (z_move rfl rfl) ?_
    refine E_ 9 rfl rfl rfl _ (z_nilCheck rfl rfl) ?_
    refine E_ 10 rfl rfl rfl _ (z_fieldAddr rfl rfl fa79_1) ?_
    refine E_ 11 rfl rfl rfl _ (z_load 0 rfl rfl rfl rfl Tryd.underlying77 rfl) ?_
    refine E_ 12 rfl rfl rfl _ (z_len rfl rfl Tryd.underlying77) ?_
    refine E_nil ?_
    refine S_unsafeString 13 1 rfl rfl rfl rfl rfl rfl rfl rfl (by omega) h63 Tryd.underlying131 co5 ?_
    refine S_ 2 rfl rfl rfl _ (y_assign rfl rfl) ?_
    refine S_go (fun _ _ h => h) ?_
    refine T_ret (fun a w hF hM => hRb a w (post1 rfl rfl (fun w hM => ?_) a w hF hM))
    exact ⟨rfl, (hM.keep (ks := [(0, 999)]) (by repeat (first | exact kl_rest (by assumption) rfl | (apply kl_in; focus rfl))) _ ⟨rfl, rfl, trivial⟩ : Mem w0 ([(1, bF (some ⟨g, 0, none⟩) c l), (0, bB b ad (some ⟨g, 0, none⟩) c l)] ++ K) _)⟩
theorem kinds_at {l : List SItem} {i : Nat} {x : SItem} (hd : l.drop i = x :: l.drop (i + 1)) (hp : nameOk x.k = true) : (l.drop i).any (fun x => !nameOk x.k) = (l.drop (i + 1)).any fun x => !nameOk x.k := any_drop_f hd (by rw [hp]; rfl)
theorem seal_le (q : Nat) (l : List SItem) : (itemsB l).length ≤ (sealB q l).length := by simp only [sealB, List.length_append]; omega
set_option maxHeartbeats 1600000 in
theorem Seal_any (l : Sl SItem) (w : World) (hl : ItemsOk w l) (hs : tot l.l ≤ 1048576) (hT : TzTab w) (hP : P10 w) :
    Calls Tryd.prog 14 #[.slice l.A l.q l.c] w fun e w' => e = .returned (.tuple #[str (sealRes l).2, .int .i64 (sealRes l).1]) ∧ Below w.heap.size w w' := by
  have ht := hl.ok.t
  have hq := hl.q
  have htb := totB_le l.l
  obtain ⟨hi1, hi2⟩ := itemsB_le l.l (by omega)
  have hse := seal_le l.q l.l
  have hlen := ht.len
  refine enter_args (args := [.slice l.A l.q l.c]) (F := _) Tryd.func14 rfl Tryd.ntmps14 rfl rfl ?_
  intro Rb hRb hRn
  refine T_seq ?_
  refine T_region ?_
  refine S_ 2 rfl rfl rfl _ (y_assign rfl rfl) ?_
  refine S_ 3 rfl rfl rfl _ (y_assign rfl rfl) ?_
  refine S_go (fun _ _ h => h) ?_
  refine T_seq ?_
  refine T_seq ?_
  refine T_region ?_
  refine S_ 11 rfl rfl rfl _ (y_move rfl rfl) ?_
  refine S_ 12 rfl rfl rfl _ (y_len_slice rfl rfl Tryd.underlying49) ?_
  refine S_ 13 rfl rfl rfl _ (y_bin rfl rfl rfl (fun _ => b_gtr)) ?_
  refine S_go (fun _ _ h => h) ?_
  refine T_cond rfl (fun h13 => ?_) (fun h13 => ?_)
  · try simp only [decide_eq_true_eq, decide_eq_false_iff_not, Bool.or_eq_true, Bool.or_eq_false_iff, Bool.and_eq_true, Bool.and_eq_false_iff, Bool.not_eq_true', Bool.not_eq_false', Bool.not_eq_true, Bool.not_eq_false, Bool.not_true, Bool.not_false, Int.not_lt, Int.not_le, not_or, not_and, Classical.not_not] at h13
    refine T_seq ?_
    refine T_region ?_
    refine S_ 2 rfl rfl rfl _ (y_assign rfl rfl) ?_
    refine S_ 3 rfl rfl rfl _ (y_assign rfl rfl) ?_
    refine S_go (fun _ _ h => h) ?_
    refine T_ret (fun a w hF hM => hRb a w (post2 rfl rfl rfl (fun w hM => ?_) a w hF hM))
    exact ⟨by rw [sealRes, if_pos (by omega)], hM.below⟩
  · try simp only [decide_eq_true_eq, decide_eq_false_iff_not, Bool.or_eq_true, Bool.or_eq_false_iff, Bool.and_eq_true, Bool.and_eq_false_iff, Bool.not_eq_true', Bool.not_eq_false', Bool.not_eq_true, Bool.not_eq_false, Bool.not_true, Bool.not_false, Int.not_lt, Int.not_le, not_or, not_and, Classical.not_not] at h13
    have hq1 : l.q ≤ 100 := by omega
    refine T_skip_go (fun _ _ h => h) ?_
    refine T_seq ?_
    refine T_region ?_
    refine S_ 4 rfl rfl rfl _ (y_assign rfl rfl) ?_
    refine S_go (fun _ _ h => h) ?_
    refine T_seq ?_
    refine T_seq ?_
    refine T_region ?_
    refine S_ 14 rfl rfl rfl _ (y_move rfl rfl) ?_
    refine S_ 15 rfl rfl rfl _ (y_len_slice rfl rfl Tryd.underlying49) ?_
    refine S_ 16 rfl rfl rfl _ (y_move rfl rfl) ?_
    refine S_go (fun _ _ h => h) ?_
    refine T_block ?_
    refine T_loopK2 (kf := [(2, 4), (6, 6), (16, 29)]) (kl := [(2, 4), (6, 6), (16, 29)]) (fun (i sz : Nat) => [(16, true, .int .i64 (i : Int)), (4, true, .int .i64 (sz : Int))]) (fun (i sz : Nat) => []) (fun (i sz : Nat) => i ≤ l.q ∧ kindsBad l.l = (l.l.drop i).any (fun x => !nameOk x.k) ∧ sz + totB (l.l.drop i) = totB l.l) (fun (i sz : Nat) => l.q - i) 0 0 (by repeat (first | exact kf_nil | (apply kf_in; focus rfl) | (apply kf_out; focus rfl))) (by repeat (first | exact kl_nil | exact kl_rest (by assumption) rfl | (apply kl_in; focus rfl) | (apply kl_out; focus rfl))) ?_ ?_ ?_ ?_
    · exact ⟨by omega, rfl, by rw [Nat.zero_add]; rfl⟩
    · exact ⟨rfl, rfl, trivial⟩
    · exact trivial
    rintro i sz ⟨hp1, hp2, hp3⟩
    refine T_seq ?_
    refine T_region ?_
    refine S_ 17 rfl rfl rfl _ (y_bin rfl rfl rfl (fun _ => b_lss)) ?_
    refine S_go (fun _ _ h => h) ?_
    refine T_seq ?_
    refine T_cond rfl (fun h17 => ?_) (fun h17 => ?_)
    · try simp only [decide_eq_true_eq, decide_eq_false_iff_not, Bool.or_eq_true, Bool.or_eq_false_iff, Bool.and_eq_true, Bool.and_eq_false_iff, Bool.not_eq_true', Bool.not_eq_false', Bool.not_eq_true, Bool.not_eq_false, Bool.not_true, Bool.not_false, Int.not_lt, Int.not_le, not_or, not_and, Classical.not_not] at h17
      obtain ⟨x, hx1, hx2⟩ := ht.at (i := i) (by omega)
      have hxt := tot_at hx1
      rw [hx2, totB] at hp3
      refine T_skip_go (fun _ _ h => h) ?_
      refine T_seq ?_
      refine T_block ?_
      refine T_seq ?_
      refine T_region ?_
      refine S_ 18 rfl rfl rfl _ (y_indexAddr rfl rfl rfl Tryd.underlying49 sz56 (fun hg => ht.isSome (by omega)) (fun _ => by omega)) ?_
      refine S_ 19 rfl rfl rfl _ (y_loadT rfl rfl ht (fun _ => rfl) (fun _ => hx1) Tryd.underlying56 rfl sz56) ?_
      refine S_alloc 6 6 rfl rfl rfl rfl z56 ?_
      intro b6
      refine S_store 6 rfl rfl rfl rfl rfl rfl sz56 rfl rfl ?_
      refine S_go (fun _ _ h => h) ?_
      refine T_seq ?_
      refine T_seq ?_
      refine T_region ?_
      refine S_ 20 rfl rfl rfl _ (y_fieldAddr rfl rfl fa56_0) ?_
      refine S_ 21 rfl rfl rfl _ (y_load 6 rfl rfl rfl rfl Tryd.underlying9 rfl) ?_
      refine S_ 22 rfl rfl rfl _ (y_call rfl rfl rfl cf39 (fun _ w _ => IsName_any x.k w)) ?_
      refine S_ 23 rfl rfl rfl _ (y_not rfl rfl) ?_
      refine S_go (fun _ _ h => h) ?_
      refine T_cond rfl (fun h23 => ?_) (fun h23 => ?_)
      · skip
        have h23 : nameOk x.k = false := by simpa using h23
        refine T_seq ?_
        refine T_region ?_
        refine S_ 2 rfl rfl rfl _ (y_assign rfl rfl) ?_
        refine S_ 3 rfl rfl rfl _ (y_assign rfl rfl) ?_
        refine S_go (fun _ _ h => h) ?_
        refine T_ret (fun a w hF hM => hRb a w (post2 rfl rfl rfl (fun w hM => ?_) a w hF hM))
        exact ⟨by rw [sealRes, if_neg (by omega), if_pos (by rw [hp2, hx2, List.any_cons, h23]; rfl)], hM.below⟩
      · skip
        have h23 : nameOk x.k = true := by simpa using h23
        refine T_skip_go (fun _ _ h => h) ?_
        refine T_region ?_
        refine S_ 24 rfl rfl rfl _ (y_move rfl rfl) ?_
        refine S_ 25 rfl rfl rfl _ (y_fieldAddr rfl rfl fa56_1) ?_
        refine S_ 26 rfl rfl rfl _ (y_load 6 rfl rfl rfl rfl Tryd.underlying9 rfl) ?_
        refine S_ 27 rfl rfl rfl _ (y_len_str rfl rfl Tryd.underlying9) ?_
        refine S_ 28 rfl rfl rfl _ (y_bin rfl rfl rfl (fun hg => b_addv (((sz + x.b.length : Nat) : Int)) (by omega) (by omega))) ?_
        refine S_ 4 rfl rfl rfl _ (y_assign rfl rfl) ?_
        refine S_go (fun _ _ h => h) ?_
        refine T_region ?_
        refine S_ 29 rfl rfl rfl _ (y_bin rfl rfl rfl (fun hg => b_add (by omega))) ?_
        refine S_ 16 rfl rfl rfl _ (y_move rfl rfl) ?_
        refine S_nil (nextK2 (kf := [(2, 4), (6, 6), (16, 29)]) (kl := [(2, 4), (6, 6), (16, 29)]) (i + 1) (sz + x.b.length) (by repeat (first | exact kf_nil | (apply kf_in; focus rfl) | (apply kf_out; focus rfl))) (by repeat (first | exact kl_nil | exact kl_rest (by assumption) rfl | (apply kl_in; focus rfl) | (apply kl_out; focus rfl))) ?_ ?_ ?_ ?_)
        · omega
        · exact ⟨by omega, by rw [hp2, kinds_at hx2 h23], by omega⟩
        · exact ⟨rfl, rfl, trivial⟩
        · exact trivial
    · try simp only [decide_eq_true_eq, decide_eq_false_iff_not, Bool.or_eq_true, Bool.or_eq_false_iff, Bool.and_eq_true, Bool.and_eq_false_iff, Bool.not_eq_true', Bool.not_eq_false', Bool.not_eq_true, Bool.not_eq_false, Bool.not_true, Bool.not_false, Int.not_lt, Int.not_le, not_or, not_and, Classical.not_not] at h17
      have hkb : kindsBad l.l = false := by rw [hp2, ht.end (by omega)]; rfl
      have hsz : sz = totB l.l := by rw [ht.end (by omega)] at hp3; exact hp3
      refine T_exit_go (fun _ _ h => h) ?_
      refine T_seq ?_
      refine T_seq ?_
      refine T_region ?_
      refine S_ 30 rfl rfl rfl _ (y_move rfl rfl) ?_
      refine S_ 31 rfl rfl rfl _ (y_bin rfl rfl rfl (fun _ => b_gtr)) ?_
      refine S_go (fun _ _ h => h) ?_
      refine T_cond rfl (fun h31 => ?_) (fun h31 => ?_)
      · try simp only [decide_eq_true_eq, decide_eq_false_iff_not, Bool.or_eq_true, Bool.or_eq_false_iff, Bool.and_eq_true, Bool.and_eq_false_iff, Bool.not_eq_true', Bool.not_eq_false', Bool.not_eq_true, Bool.not_eq_false, Bool.not_true, Bool.not_false, Int.not_lt, Int.not_le, not_or, not_and, Classical.not_not] at h31
        refine T_seq ?_
        refine T_region ?_
        refine S_ 2 rfl rfl rfl _ (y_assign rfl rfl) ?_
        refine S_ 3 rfl rfl rfl _ (y_assign rfl rfl) ?_
        refine S_go (fun _ _ h => h) ?_
        refine T_ret (fun a w hF hM => hRb a w (post2 rfl rfl rfl (fun w hM => ?_) a w hF hM))
        exact ⟨by rw [sealRes, if_neg (by omega), if_neg (by rw [hkb]; exact Bool.false_ne_true), if_pos (by omega)], hM.below⟩
      · try simp only [decide_eq_true_eq, decide_eq_false_iff_not, Bool.or_eq_true, Bool.or_eq_false_iff, Bool.and_eq_true, Bool.and_eq_false_iff, Bool.not_eq_true', Bool.not_eq_false', Bool.not_eq_true, Bool.not_eq_false, Bool.not_true, Bool.not_false, Int.not_lt, Int.not_le, not_or, not_and, Classical.not_not] at h31
        refine T_skip_go (fun _ _ h => h) ?_
        refine T_seq ?_
        refine T_region ?_
        refine S_alloc 7 7 rfl rfl rfl rfl z79 ?_
        intro b7
        refine S_nilSlice 900 (e := 5) (size := 1) ?_
        refine S_go (fun _ _ h => h) ?_
        refine T_seq ?_
        refine T_seq ?_
        refine T_region ?_
        refine S_ 32 rfl rfl rfl _ (y_move rfl rfl) ?_
        refine S_ 33 rfl rfl rfl _ (y_len_slice rfl rfl Tryd.underlying49) ?_
        refine S_ 34 rfl rfl rfl _ (y_move rfl rfl) ?_
        refine S_go (fun _ _ h => h) ?_
        refine T_block ?_
        refine T_loopK5 (kf := [(9, 9), (34, 52)]) (kl := [(7, 7), (9, 9), (34, 52), (900, 900)]) (fun (i : Nat) (L : List UInt8) (ad : Value) (A : Option Addr) (c : Nat) => [(34, true, .int .i64 (i : Int))]) (fun (i : Nat) (L : List UInt8) (ad : Value) (A : Option Addr) (c : Nat) => [(7, bB b7 ad A c L), (900, bR A c L)]) (fun (i : Nat) (L : List UInt8) (ad : Value) (A : Option Addr) (c : Nat) => i ≤ l.q ∧ L ++ itemsB (l.l.drop i) = itemsB l.l ∧ (ad = .pointer none ∨ ad = selfP b7) ∧ (L.length = 0 → A = none)) (fun (i : Nat) (L : List UInt8) (ad : Value) (A : Option Addr) (c : Nat) => l.q - i) 0 [] (.pointer none) none 0 (by repeat (first | exact kf_nil | (apply kf_in; focus rfl) | (apply kf_out; focus rfl))) (by repeat (first | exact kl_nil | exact kl_rest (by assumption) rfl | (apply kl_in; focus rfl) | (apply kl_out; focus rfl))) ?_ ?_ ?_ ?_
        · exact ⟨by omega, rfl, .inl rfl, fun _ => rfl⟩
        · exact ⟨rfl, trivial⟩
        · exact ⟨rfl, rfl, trivial⟩
        rintro i L ad A c ⟨hp1, hp2, hp4, hp5⟩
        refine T_seq ?_
        refine T_region ?_
        refine S_ 35 rfl rfl rfl _ (y_bin rfl rfl rfl (fun _ => b_lss)) ?_
        refine S_go (fun _ _ h => h) ?_
        refine T_seq ?_
        refine T_cond rfl (fun h35 => ?_) (fun h35 => ?_)
        · try simp only [decide_eq_true_eq, decide_eq_false_iff_not, Bool.or_eq_true, Bool.or_eq_false_iff, Bool.and_eq_true, Bool.and_eq_false_iff, Bool.not_eq_true', Bool.not_eq_false', Bool.not_eq_true, Bool.not_eq_false, Bool.not_true, Bool.not_false, Int.not_lt, Int.not_le, not_or, not_and, Classical.not_not] at h35
          obtain ⟨x, hx1, hx2⟩ := ht.at (i := i) (by omega)
          have hxt := tot_at hx1
          have hib := itemB_le (x := x) (by omega)
          have hio := itoa_len (n := x.b.length) (by omega)
          have hlx := congrArg List.length hp2
          rw [hx2, show itemsB (x :: l.l.drop (i + 1)) = itemB x ++ itemsB (l.l.drop (i + 1)) from rfl, List.length_append, List.length_append] at hlx
          refine T_skip_go (fun _ _ h => h) ?_
          refine T_seq ?_
          refine T_block ?_
          refine T_seq ?_
          refine T_region ?_
          refine S_ 36 rfl rfl rfl _ (y_indexAddr rfl rfl rfl Tryd.underlying49 sz56 (fun hg => ht.isSome (by omega)) (fun _ => by omega)) ?_
          refine S_ 37 rfl rfl rfl _ (y_loadT rfl rfl ht (fun _ => rfl) (fun _ => hx1) Tryd.underlying56 rfl sz56) ?_
          refine S_alloc 9 9 rfl rfl rfl rfl z56 ?_
          intro b9
          refine S_store 9 rfl rfl rfl rfl rfl rfl sz56 rfl rfl ?_
          refine S_go (fun _ _ h => h) ?_
          refine T_drawsTail 13 (by kernel_rfl) (by kernel_rfl) ?_
          refine D_ 38 rfl rfl rfl _ (y_fieldAddr rfl rfl fa56_0) ?_
          refine D_ 39 rfl rfl rfl _ (y_load 9 rfl rfl rfl rfl Tryd.underlying9 rfl) ?_
          refine D_ 40 rfl rfl rfl _ (y_bin rfl rfl rfl (fun hg => b_adds (by first | omega | (simp only [List.length_append, List.length_cons, List.length_nil]; omega)))) ?_
          refine D_ 41 rfl rfl rfl _ (y_fieldAddr rfl rfl fa56_1) ?_
          refine D_ 42 rfl rfl rfl _ (y_load 9 rfl rfl rfl rfl Tryd.underlying9 rfl) ?_
          refine D_ 43 rfl rfl rfl _ (y_len_str rfl rfl Tryd.underlying9) ?_
          refine D_ 44 rfl rfl rfl _ (y_call rfl rfl rfl cf31 (fun _ w hM => Itoa_any _ (by omega) (by omega) w (hP.below hM.below))) ?_
          refine D_ 45 rfl rfl rfl _ (y_bin rfl rfl rfl (fun hg => b_adds (by first | omega | (simp only [List.length_append, List.length_cons, List.length_nil]; omega)))) ?_
          refine D_ 46 rfl rfl rfl _ (y_bin rfl rfl rfl (fun hg => b_adds (by first | omega | (simp only [List.length_append, List.length_cons, List.length_nil]; omega)))) ?_
          refine D_ 47 rfl rfl rfl _ (y_fieldAddr rfl rfl fa56_1) ?_
          refine D_ 48 rfl rfl rfl _ (y_load 9 rfl rfl rfl rfl Tryd.underlying9 rfl) ?_
          refine D_ 49 rfl rfl rfl _ (y_bin rfl rfl rfl (fun hg => b_adds (by first | omega | (simp only [List.length_append, List.length_cons, List.length_nil]; omega)))) ?_
          refine D_ 50 rfl rfl rfl _ (y_bin rfl rfl rfl (fun hg => b_adds (by first | omega | (simp only [List.length_append, List.length_cons, List.length_nil]; omega)))) ?_
          refine D_tail ?_
          refine S_callM 51 [(0, 7), (1, 900)] (X := Option Addr × Nat) rfl rfl rfl rfl rfl rfl rfl cf40 rfl (fun _ => .tuple #[.int .i64 (itemB x).length, .nilIface]) (fun _ => True) (fun z0 => [(0, bB b7 (selfP b7) z0.1 z0.2 (L ++ itemB x)), (1, bR z0.1 z0.2 (L ++ itemB x))]) (fun _ => rfl) (fun _ => rfl) (fun K1 hK1 w hM => (WStr_any hK1 b7 _ _ _ (L) (itemB x) (hp4) (by omega) w hM).mono fun e w1 h => h.elim fun x h => ⟨x, h.1, trivial, h.2.2⟩) ?_
          intro x51 hx51
          refine S_go (fun _ _ h => h) ?_
          refine T_region ?_
          refine S_ 52 rfl rfl rfl _ (y_bin rfl rfl rfl (fun hg => b_add (by omega))) ?_
          refine S_ 34 rfl rfl rfl _ (y_move rfl rfl) ?_
          refine S_nil (nextK5 (kf := [(9, 9), (34, 52)]) (kl := [(7, 7), (9, 9), (34, 52), (900, 900)]) (i + 1) (L ++ itemB x) (selfP b7) x51.1 x51.2 (by repeat (first | exact kf_nil | (apply kf_in; focus rfl) | (apply kf_out; focus rfl))) (by repeat (first | exact kl_nil | exact kl_rest (by assumption) rfl | (apply kl_in; focus rfl) | (apply kl_out; focus rfl))) ?_ ?_ ?_ ?_)
          · omega
          · exact ⟨by omega, by rw [← hp2, hx2, itemsB, itemsB, List.flatMap_cons, List.append_assoc], .inr rfl, fun h => by rw [List.length_append] at h; omega⟩
          · exact ⟨rfl, trivial⟩
          · exact ⟨rfl, rfl, trivial⟩
        · try simp only [decide_eq_true_eq, decide_eq_false_iff_not, Bool.or_eq_true, Bool.or_eq_false_iff, Bool.and_eq_true, Bool.and_eq_false_iff, Bool.not_eq_true', Bool.not_eq_false', Bool.not_eq_true, Bool.not_eq_false, Bool.not_true, Bool.not_false, Int.not_lt, Int.not_le, not_or, not_and, Classical.not_not] at h35
          have e1 : L = itemsB l.l := by rw [ht.end (by omega)] at hp2; simpa [itemsB] using hp2
          subst e1
          have hio := itoa_len (n := l.q) (by omega)
          have hso := sumS_le (itemsB l.l)
          refine T_exit_go (fun _ _ h => h) ?_
          refine T_seq ?_
          refine T_region ?_
          refine S_ 53 rfl rfl rfl _ (y_move rfl rfl) ?_
          refine S_ 54 rfl rfl rfl _ (y_len_slice rfl rfl Tryd.underlying49) ?_
          refine S_ 55 rfl rfl rfl _ (y_call rfl rfl rfl cf31 (fun _ w hM => Itoa_any _ (by omega) (by omega) w (hP.below hM.below))) ?_
          refine S_ 56 rfl rfl rfl _ (y_bin rfl rfl rfl (fun hg => b_adds (by first | omega | (simp only [List.length_append, List.length_cons, List.length_nil]; omega)))) ?_
          refine S_ 57 rfl rfl rfl _ (y_bin rfl rfl rfl (fun hg => b_adds (by first | omega | (simp only [List.length_append, List.length_cons, List.length_nil]; omega)))) ?_
          refine S_callM 58 [(0, 7), (1, 900)] (X := Unit) rfl rfl rfl rfl rfl rfl rfl cf42 rfl (fun _ => str (itemsB l.l)) (fun _ => (itemsB l.l).length ≠ 0 → ∃ g, A = some ⟨g, 0, none⟩ ∧ c ≠ 0) (fun _ => [(1, bF A c (itemsB l.l)), (0, bB b7 ad A c (itemsB l.l))]) (fun _ => rfl) (fun _ => rfl) (fun K1 hK1 w hM => (BStrF_any hK1 b7 ad A c (itemsB l.l) hp5 (by omega) w hM).mono fun e w1 h => ⟨(), h.1.1, h.1.2, h.2⟩) ?_
          rintro _ hgg
          refine S_ 59 rfl rfl rfl _ (y_call rfl rfl rfl cf41 (fun _ w hM => Sum_any (itemsB l.l) (by omega) w (hT.below hM.below))) ?_
          refine S_ 60 rfl rfl rfl _ (y_bin rfl rfl rfl (fun hg => b_adds (by first | omega | (simp only [List.length_append, List.length_cons, List.length_nil]; omega)))) ?_
          refine S_ 61 rfl rfl rfl _ (y_bin rfl rfl rfl (fun hg => b_adds (by first | omega | (simp only [List.length_append, List.length_cons, List.length_nil]; omega)))) ?_
          refine S_callM 62 [(0, 7), (1, 900)] (X := Unit) rfl rfl rfl rfl rfl rfl rfl cf42 rfl (fun _ => str (itemsB l.l)) (fun _ => True) (fun _ => [(1, bF A c (itemsB l.l)), (0, bB b7 ad A c (itemsB l.l))]) (fun _ => rfl) (fun _ => rfl) (fun K1 hK1 w hM => (BStrG_any hK1 b7 ad A c (itemsB l.l) hp5 hgg (by omega) w hM).mono fun e w1 h => ⟨(), h.1, trivial, h.2⟩) ?_
          intro _ _
          refine S_ 63 rfl rfl rfl _ (y_as (v' := str (sealB l.q l.l)) (by exact rfl) (y_bin rfl rfl rfl (fun hg => b_adds (by first | omega | (simp only [List.length_append, List.length_cons, List.length_nil]; omega))))) ?_
          refine S_ 10 rfl rfl rfl _ (y_assign rfl rfl) ?_
          refine S_go (fun _ _ h => h) ?_
          refine T_seq ?_
          refine T_seq ?_
          refine T_region ?_
          refine S_ 64 rfl rfl rfl _ (y_move rfl rfl) ?_
          refine S_ 65 rfl rfl rfl _ (y_len_str rfl rfl Tryd.underlying9) ?_
          refine S_ 66 rfl rfl rfl _ (y_bin rfl rfl rfl (fun _ => b_gtr)) ?_
          refine S_go (fun _ _ h => h) ?_
          refine T_cond rfl (fun h66 => ?_) (fun h66 => ?_)
          · try simp only [decide_eq_true_eq, decide_eq_false_iff_not, Bool.or_eq_true, Bool.or_eq_false_iff, Bool.and_eq_true, Bool.and_eq_false_iff, Bool.not_eq_true', Bool.not_eq_false', Bool.not_eq_true, Bool.not_eq_false, Bool.not_true, Bool.not_false, Int.not_lt, Int.not_le, not_or, not_and, Classical.not_not] at h66
            refine T_seq ?_
            refine T_region ?_
            refine S_ 2 rfl rfl rfl _ (y_assign rfl rfl) ?_
            refine S_ 3 rfl rfl rfl _ (y_assign rfl rfl) ?_
            refine S_go (fun _ _ h => h) ?_
            refine T_ret (fun a w hF hM => hRb a w (post2 rfl rfl rfl (fun w hM => ?_) a w hF hM))
            exact ⟨by rw [sealRes, if_neg (by omega), if_neg (by rw [hkb]; exact Bool.false_ne_true), if_pos (by omega)], hM.below⟩
          · try simp only [decide_eq_true_eq, decide_eq_false_iff_not, Bool.or_eq_true, Bool.or_eq_false_iff, Bool.and_eq_true, Bool.and_eq_false_iff, Bool.not_eq_true', Bool.not_eq_false', Bool.not_eq_true, Bool.not_eq_false, Bool.not_true, Bool.not_false, Int.not_lt, Int.not_le, not_or, not_and, Classical.not_not] at h66
            refine T_skip_go (fun _ _ h => h) ?_
            refine T_seq ?_
            refine T_region ?_
            refine S_ 67 rfl rfl rfl _ (y_move rfl rfl) ?_
            refine S_ 2 rfl rfl rfl _ (y_assign rfl rfl) ?_
            refine S_ 3 rfl rfl rfl _ (y_assign rfl rfl) ?_
            refine S_go (fun _ _ h => h) ?_
            refine T_ret (fun a w hF hM => hRb a w (post2 rfl rfl rfl (fun w hM => ?_) a w hF hM))
            exact ⟨by rw [sealRes, if_neg (by omega), if_neg (by rw [hkb]; exact Bool.false_ne_true), if_neg (by omega)], hM.below⟩
def numsB (l : List Int) : List UInt8 := l.flatMap fun n => [32] ++ Lib.itoa n
theorem numsB_le : ∀ l : List Int, (∀ n ∈ l, -9223372036854775808 ≤ n ∧ n ≤ 9223372036854775807) → (numsB l).length ≤ l.length * 22
  | [], _ => by simp [numsB]
  | a :: r, h => by
    have h1 := numsB_le r fun n hn => h n (List.mem_cons_of_mem _ hn)
    obtain ⟨h2, h3⟩ := h a (List.mem_cons_self ..)
    have h4 := Lib.itoa_length_le a h2 h3
    have e : numsB (a :: r) = ([32] ++ Lib.itoa a) ++ numsB r := rfl
    rw [e, List.length_append, List.length_append, List.length_cons, List.length_cons, List.length_nil]; omega
theorem numbers_any (A : Option Addr) (q c : Nat) (l : List Int) (w : World) (hl : SlT (fun n : Int => [Value.int .i64 n]) 1 w A q l) (hq : q ≤ 1000) (hn : ∀ n ∈ l, -9223372036854775808 ≤ n ∧ n ≤ 9223372036854775807) (hP : P10 w) :
    Calls Tryd.prog 45 #[.slice A q c] w fun e w' => e = .returned (str (numsB l)) ∧ Below w.heap.size w w' := by
  have hlen := hl.len
  have hle := numsB_le l hn
  refine enter_args (args := [.slice A q c]) (F := _) Tryd.func45 rfl Tryd.ntmps45 rfl rfl ?_
  intro Rb hRb hRn
  refine T_seq ?_
  refine T_region ?_
  refine S_ 2 rfl rfl rfl _ (y_assign rfl rfl) ?_
  refine S_go (fun _ _ h => h) ?_
  refine T_seq ?_
  refine T_region ?_
  refine S_ 3 rfl rfl rfl _ (y_assign rfl rfl) ?_
  refine S_go (fun _ _ h => h) ?_
  refine T_seq ?_
  refine T_seq ?_
  refine T_region ?_
  refine S_ 6 rfl rfl rfl _ (y_move rfl rfl) ?_
  refine S_ 7 rfl rfl rfl _ (y_len_slice rfl rfl Tryd.underlying126) ?_
  refine S_ 8 rfl rfl rfl _ (y_move rfl rfl) ?_
  refine S_go (fun _ _ h => h) ?_
  refine T_block ?_
  refine T_loopK2 (kf := [(3, 3), (5, 5), (8, 17)]) (kl := [(3, 3), (5, 5), (8, 17)]) (fun (i : Nat) (L : List UInt8) => [(8, true, .int .i64 (i : Int)), (3, true, str L)]) (fun (i : Nat) (L : List UInt8) => []) (fun (i : Nat) (L : List UInt8) => i ≤ q ∧ L ++ numsB (l.drop i) = numsB l) (fun (i : Nat) (L : List UInt8) => q - i) 0 [] (by repeat (first | exact kf_nil | (apply kf_in; focus rfl) | (apply kf_out; focus rfl))) (by repeat (first | exact kl_nil | exact kl_rest (by assumption) rfl | (apply kl_in; focus rfl) | (apply kl_out; focus rfl))) ?_ ?_ ?_ ?_
  · exact ⟨by omega, rfl⟩
  · exact ⟨rfl, rfl, trivial⟩
  · exact trivial
  rintro i L ⟨hp1, hp2⟩
  refine T_seq ?_
  refine T_region ?_
  refine S_ 9 rfl rfl rfl _ (y_bin rfl rfl rfl (fun _ => b_lss)) ?_
  refine S_go (fun _ _ h => h) ?_
  refine T_seq ?_
  refine T_cond rfl (fun h9 => ?_) (fun h9 => ?_)
  · try simp only [decide_eq_true_eq, decide_eq_false_iff_not, Bool.or_eq_true, Bool.or_eq_false_iff, Bool.and_eq_true, Bool.and_eq_false_iff, Bool.not_eq_true', Bool.not_eq_false', Bool.not_eq_true, Bool.not_eq_false, Bool.not_true, Bool.not_false, Int.not_lt, Int.not_le, not_or, not_and, Classical.not_not] at h9
    obtain ⟨x, hx1, hx2⟩ := hl.at (i := i) (by omega)
    have hx3 := hn x (mem_at hx1)
    have hx4 := Lib.itoa_length_le x hx3.1 hx3.2
    have hlx := congrArg List.length hp2
    rw [hx2, show numsB (x :: l.drop (i + 1)) = ([32] ++ Lib.itoa x) ++ numsB (l.drop (i + 1)) from rfl, List.length_append] at hlx
    refine T_skip_go (fun _ _ h => h) ?_
    refine T_seq ?_
    refine T_block ?_
    refine T_seq ?_
    refine T_region ?_
    refine S_ 10 rfl rfl rfl _ (y_indexAddr rfl rfl rfl Tryd.underlying126 sz3 (fun hg => hl.isSome (by omega)) (fun _ => by omega)) ?_
    refine S_ 11 rfl rfl rfl _ (y_loadT1 (val := (fun n : Int => Value.int .i64 n)) rfl rfl hl (fun _ => hx1) Tryd.underlying3 rfl) ?_
    refine S_ 5 rfl rfl rfl _ (y_assign rfl rfl) ?_
    refine S_go (fun _ _ h => h) ?_
    refine T_region ?_
    refine S_ 12 rfl rfl rfl _ (y_move rfl rfl) ?_
    refine S_ 13 rfl rfl rfl _ (y_move rfl rfl) ?_
    refine S_ 14 rfl rfl rfl _ (y_call rfl rfl rfl cf31 (fun _ w hM => Itoa_any x hx3.1 hx3.2 w (hP.below hM.below))) ?_
    refine S_ 15 rfl rfl rfl _ (y_bin rfl rfl rfl (fun hg => b_adds (by first | omega | (simp only [List.length_append, List.length_cons, List.length_nil]; omega)))) ?_
    refine S_ 16 rfl rfl rfl _ (y_bin rfl rfl rfl (fun hg => b_adds (by first | omega | (simp only [List.length_append, List.length_cons, List.length_nil]; omega)))) ?_
    refine S_ 3 rfl rfl rfl _ (y_assign rfl rfl) ?_
    refine S_go (fun _ _ h => h) ?_
    refine T_region ?_
    refine S_ 17 rfl rfl rfl _ (y_bin rfl rfl rfl (fun hg => b_add (by omega))) ?_
    refine S_ 8 rfl rfl rfl _ (y_move rfl rfl) ?_
    refine S_nil (nextK2 (kf := [(3, 3), (5, 5), (8, 17)]) (kl := [(3, 3), (5, 5), (8, 17)]) (i + 1) (L ++ ([32] ++ Lib.itoa x)) (by repeat (first | exact kf_nil | (apply kf_in; focus rfl) | (apply kf_out; focus rfl))) (by repeat (first | exact kl_nil | exact kl_rest (by assumption) rfl | (apply kl_in; focus rfl) | (apply kl_out; focus rfl))) ?_ ?_ ?_ ?_)
    · omega
    · exact ⟨by omega, by rw [← hp2, hx2, List.append_assoc]; rfl⟩
    · exact ⟨rfl, rfl, trivial⟩
    · exact trivial
  · try simp only [decide_eq_true_eq, decide_eq_false_iff_not, Bool.or_eq_true, Bool.or_eq_false_iff, Bool.and_eq_true, Bool.and_eq_false_iff, Bool.not_eq_true', Bool.not_eq_false', Bool.not_eq_true, Bool.not_eq_false, Bool.not_true, Bool.not_false, Int.not_lt, Int.not_le, not_or, not_and, Classical.not_not] at h9
    have e1 : L = numsB l := by rw [hl.end (by omega)] at hp2; simpa [numsB] using hp2
    refine T_exit_go (fun _ _ h => h) ?_
    refine T_seq ?_
    refine T_region ?_
    refine S_ 18 rfl rfl rfl _ (y_move rfl rfl) ?_
    refine S_ 2 rfl rfl rfl _ (y_assign rfl rfl) ?_
    refine S_go (fun _ _ h => h) ?_
    refine T_ret (fun a w hF hM => hRb a w (post1 rfl rfl (fun w hM => ?_) a w hF hM))
    exact ⟨by rw [e1], hM.below⟩
theorem numsB_one (n : Int) : numsB [n] = [32] ++ Lib.itoa n := by simp [numsB]
set_option maxHeartbeats 1000000 in
theorem itemsText_any (l : Sl SItem) (w : World) (hl : ItemsOk w l) (hs : tot l.l ≤ 1048576) (hq1 : l.q ≤ 100) (hP : P10 w) :
    Calls Tryd.prog 44 #[.slice l.A l.q l.c] w fun e w' => e = .returned (str (itemsB l.l)) ∧ Below w.heap.size w w' := by
  have ht := hl.ok.t
  obtain ⟨hi1, hi2⟩ := itemsB_le l.l (by omega)
  have hlen := ht.len
  refine enter_args (args := [.slice l.A l.q l.c]) (F := _) Tryd.func44 rfl Tryd.ntmps44 rfl rfl ?_
  intro Rb hRb hRn
  refine T_seq ?_
  refine T_region ?_
  refine S_ 2 rfl rfl rfl _ (y_assign rfl rfl) ?_
  refine S_go (fun _ _ h => h) ?_
  refine T_seq ?_
  refine T_region ?_
  refine S_alloc 3 3 rfl rfl rfl rfl z79 ?_
  intro b3
  refine S_nilSlice 900 (e := 5) (size := 1) ?_
  refine S_go (fun _ _ h => h) ?_
  refine T_seq ?_
  refine T_seq ?_
  refine T_region ?_
  refine S_ 6 rfl rfl rfl _ (y_move rfl rfl) ?_
  refine S_ 7 rfl rfl rfl _ (y_len_slice rfl rfl Tryd.underlying49) ?_
  refine S_ 8 rfl rfl rfl _ (y_move rfl rfl) ?_
  refine S_go (fun _ _ h => h) ?_
  refine T_block ?_
  refine T_loopK5 (kf := [(5, 5), (8, 26)]) (kl := [(3, 3), (5, 5), (8, 26), (900, 900)]) (fun (i : Nat) (L : List UInt8) (ad : Value) (A : Option Addr) (c : Nat) => [(8, true, .int .i64 (i : Int))]) (fun (i : Nat) (L : List UInt8) (ad : Value) (A : Option Addr) (c : Nat) => [(3, bB b3 ad A c L), (900, bR A c L)]) (fun (i : Nat) (L : List UInt8) (ad : Value) (A : Option Addr) (c : Nat) => i ≤ l.q ∧ L ++ itemsB (l.l.drop i) = itemsB l.l ∧ (ad = .pointer none ∨ ad = selfP b3) ∧ (L.length = 0 → A = none)) (fun (i : Nat) (L : List UInt8) (ad : Value) (A : Option Addr) (c : Nat) => l.q - i) 0 [] (.pointer none) none 0 (by repeat (first | exact kf_nil | (apply kf_in; focus rfl) | (apply kf_out; focus rfl))) (by repeat (first | exact kl_nil | exact kl_rest (by assumption) rfl | (apply kl_in; focus rfl) | (apply kl_out; focus rfl))) ?_ ?_ ?_ ?_
  · exact ⟨by omega, rfl, .inl rfl, fun _ => rfl⟩
  · exact ⟨rfl, trivial⟩
  · exact ⟨rfl, rfl, trivial⟩
  rintro i L ad A c ⟨hp1, hp2, hp4, hp5⟩
  refine T_seq ?_
  refine T_region ?_
  refine S_ 9 rfl rfl rfl _ (y_bin rfl rfl rfl (fun _ => b_lss)) ?_
  refine S_go (fun _ _ h => h) ?_
  refine T_seq ?_
  refine T_cond rfl (fun h9 => ?_) (fun h9 => ?_)
  · try simp only [decide_eq_true_eq, decide_eq_false_iff_not, Bool.or_eq_true, Bool.or_eq_false_iff, Bool.and_eq_true, Bool.and_eq_false_iff, Bool.not_eq_true', Bool.not_eq_false', Bool.not_eq_true, Bool.not_eq_false, Bool.not_true, Bool.not_false, Int.not_lt, Int.not_le, not_or, not_and, Classical.not_not] at h9
    obtain ⟨x, hx1, hx2⟩ := ht.at (i := i) (by omega)
    have hxt := tot_at hx1
    have hib := itemB_le (x := x) (by omega)
    have hio := itoa_len (n := x.b.length) (by omega)
    have hon : (numsB [((x.b.length : Nat) : Int)]).length ≤ 22 := by rw [numsB_one, List.length_append, List.length_cons, List.length_nil]; omega
    have hlx := congrArg List.length hp2
    rw [hx2, show itemsB (x :: l.l.drop (i + 1)) = itemB x ++ itemsB (l.l.drop (i + 1)) from rfl, List.length_append, List.length_append] at hlx
    refine T_skip_go (fun _ _ h => h) ?_
    refine T_seq ?_
    refine T_block ?_
    refine T_seq ?_
    refine T_region ?_
    refine S_ 10 rfl rfl rfl _ (y_indexAddr rfl rfl rfl Tryd.underlying49 sz56 (fun hg => ht.isSome (by omega)) (fun _ => by omega)) ?_
    refine S_ 11 rfl rfl rfl _ (y_loadT rfl rfl ht (fun _ => rfl) (fun _ => hx1) Tryd.underlying56 rfl sz56) ?_
    refine S_alloc 5 5 rfl rfl rfl rfl z56 ?_
    intro b5
    refine S_store 5 rfl rfl rfl rfl rfl rfl sz56 rfl rfl ?_
    refine S_go (fun _ _ h => h) ?_
    refine T_perm [0, 1, 2, 3, 4, 9, 10, 5, 6, 7, 8, 11, 12, 13] [true, true, true, true, true, false, false, true, true, true, true, true, true, false] [0, 1, 0, 4, 12, 28, 60, 127, 255, 0, 512, 2047, 4095, 8191] [(1, [5]), (3, [5]), (10, [5])] (by kernel_rfl) (by kernel_rfl) (by kernel_rfl) rfl (by kernel_rfl) ?_
    refine Rf_ 0 12 rfl rfl rfl rfl rfl _ trivial (Y.z (y_fieldAddr rfl rfl fa56_0) rfl) ?_
    refine Rf_ 1 13 rfl rfl rfl rfl rfl _ ⟨rfl, trivial⟩ (Y.z (y_load 5 rfl rfl rfl rfl Tryd.underlying9 rfl) rfl) ?_
    refine Rf_ 2 14 rfl rfl rfl rfl rfl _ trivial (Y.z (y_fieldAddr rfl rfl fa56_1) rfl) ?_
    refine Rf_ 3 15 rfl rfl rfl rfl rfl _ ⟨rfl, trivial⟩ (Y.z (y_load 5 rfl rfl rfl rfl Tryd.underlying9 rfl) rfl) ?_
    refine Rf_ 4 16 rfl rfl rfl rfl rfl _ trivial (Z.of (z_len_str rfl rfl Tryd.underlying9)) ?_
    refine Rf_ 9 21 rfl rfl rfl rfl rfl _ trivial (Y.z (y_fieldAddr rfl rfl fa56_1) rfl) ?_
    refine Rf_ 10 22 rfl rfl rfl rfl rfl _ ⟨rfl, trivial⟩ (Y.z (y_load 5 rfl rfl rfl rfl Tryd.underlying9 rfl) rfl) ?_
    refine R_chain 5 rfl rfl ?_
    refine S_buildSlice 17 17 rfl rfl rfl rfl rfl Tryd.underlying126 inf3 rfl (by decide) (by decide) rfl rfl (by decide) rfl (_) rfl ?_
    intro b17
    refine R_next ⟨.inr ⟨rfl, trivial⟩, .inl rfl, .inr ⟨rfl, trivial⟩, trivial⟩ ?_
    refine R_chain 6 rfl rfl ?_
    refine S_ 18 rfl rfl rfl _ (y_call rfl rfl rfl cf45 (fun _ w hM => numbers_any _ _ _ [((x.b.length : Nat) : Int)] w (owned_T (enc := fun n : Int => [Value.int .i64 n]) hM rfl (i := 17) rfl) (by decide) (fun n hn => by simp only [List.mem_singleton] at hn; subst hn; omega) (hP.below hM.below))) ?_
    refine R_next ⟨.inr ⟨rfl, trivial⟩, .inl rfl, .inr ⟨rfl, trivial⟩, trivial⟩ ?_
    refine Rf_ 7 19 rfl rfl rfl rfl rfl _ trivial (Y.z (y_as (v' := str (x.k ++ ([32] ++ Lib.itoa ((x.b.length : Nat) : Int)))) (by rw [numsB_one]) (y_bin rfl rfl rfl (fun hg => b_adds (by first | omega | (simp only [List.length_append, List.length_cons, List.length_nil]; omega))))) rfl) ?_
    refine Rf_ 8 20 rfl rfl rfl rfl rfl _ trivial (Y.z (y_bin rfl rfl rfl (fun hg => b_adds (by first | omega | (simp only [List.length_append, List.length_cons, List.length_nil]; omega)))) rfl) ?_
    refine Rf_ 11 23 rfl rfl rfl rfl rfl _ trivial (Y.z (y_bin rfl rfl rfl (fun hg => b_adds (by first | omega | (simp only [List.length_append, List.length_cons, List.length_nil]; omega)))) rfl) ?_
    refine Rf_ 12 24 rfl rfl rfl rfl rfl _ trivial (Y.z (y_as (v' := str (itemB x)) (by simp [itemB, List.append_assoc]) (y_bin rfl rfl rfl (fun hg => b_adds (by first | omega | (simp only [List.length_append, List.length_cons, List.length_nil]; omega))))) rfl) ?_
    refine R_chain 13 rfl rfl ?_
    refine S_callM 25 [(0, 3), (1, 900)] (X := Option Addr × Nat) rfl rfl rfl rfl rfl rfl rfl cf40 rfl (fun _ => .tuple #[.int .i64 (itemB x).length, .nilIface]) (fun _ => True) (fun z0 => [(0, bB b3 (selfP b3) z0.1 z0.2 (L ++ itemB x)), (1, bR z0.1 z0.2 (L ++ itemB x))]) (fun _ => rfl) (fun _ => rfl) (fun K1 hK1 w hM => (WStr_any hK1 b3 _ _ _ (L) (itemB x) (hp4) (by omega) w hM).mono fun e w1 h => h.elim fun x h => ⟨x, h.1, trivial, h.2.2⟩) ?_
    intro x25 hx25
    refine R_next ⟨.inl rfl, .inl rfl, .inl rfl, trivial⟩ ?_
    refine R_go (fun _ _ h => h) ?_
    refine T_region ?_
    refine S_ 26 rfl rfl rfl _ (y_bin rfl rfl rfl (fun hg => b_add (by omega))) ?_
    refine S_ 8 rfl rfl rfl _ (y_move rfl rfl) ?_
    refine S_nil (nextK5 (kf := [(5, 5), (8, 26)]) (kl := [(3, 3), (5, 5), (8, 26), (900, 900)]) (i + 1) (L ++ itemB x) (selfP b3) x25.1 x25.2 (by repeat (first | exact kf_nil | (apply kf_in; focus rfl) | (apply kf_out; focus rfl))) (by repeat (first | exact kl_nil | exact kl_rest (by assumption) rfl | (apply kl_in; focus rfl) | (apply kl_out; focus rfl))) ?_ ?_ ?_ ?_)
    · omega
    · exact ⟨by omega, by rw [← hp2, hx2, itemsB, itemsB, List.flatMap_cons, List.append_assoc], .inr rfl, fun h => by rw [List.length_append] at h; omega⟩
    · exact ⟨rfl, trivial⟩
    · exact ⟨rfl, rfl, trivial⟩
  · try simp only [decide_eq_true_eq, decide_eq_false_iff_not, Bool.or_eq_true, Bool.or_eq_false_iff, Bool.and_eq_true, Bool.and_eq_false_iff, Bool.not_eq_true', Bool.not_eq_false', Bool.not_eq_true, Bool.not_eq_false, Bool.not_true, Bool.not_false, Int.not_lt, Int.not_le, not_or, not_and, Classical.not_not] at h9
    have e1 : L = itemsB l.l := by rw [ht.end (by omega)] at hp2; simpa [itemsB] using hp2
    subst e1
    refine T_exit_go (fun _ _ h => h) ?_
    refine T_seq ?_
    refine T_region ?_
    refine S_callM 27 [(0, 3), (1, 900)] (X := Unit) rfl rfl rfl rfl rfl rfl rfl cf42 rfl (fun _ => str (itemsB l.l)) (fun _ => True) (fun _ => [(1, bR none 0 []), (0, bB b3 (ad) A c (itemsB l.l))]) (fun _ => rfl) (fun _ => rfl) (fun K1 hK1 w hM => (BStr_any hK1 b3 _ _ _ (itemsB l.l) (by omega) (by omega) w hM).mono fun e w1 h => ⟨(), h.1, trivial, h.2⟩) ?_
    intro _ _
    refine S_ 2 rfl rfl rfl _ (y_assign rfl rfl) ?_
    refine S_go (fun _ _ h => h) ?_
    refine T_ret (fun a w hF hM => hRb a w (post1 rfl rfl (fun w hM => ?_) a w hF hM))
    exact ⟨rfl, hM.below⟩
set_option maxHeartbeats 1000000 in
theorem Sealed_any (l : Sl SItem) (w : World) (hl : ItemsOk w l) (hs : tot l.l ≤ 1048576) (hT : TzTab w) (hP : P10 w) :
    Calls Tryd.prog 15 #[.slice l.A l.q l.c] w fun e w' => e = .returned (.tuple #[str (sealRes l).2, .int .i64 (sealRes l).1]) ∧ Below w.heap.size w w' := by
  have ht := hl.ok.t
  have hq := hl.q
  obtain ⟨hi1, hi2⟩ := itemsB_le l.l (by omega)
  have hlen := ht.len
  refine enter_args (args := [.slice l.A l.q l.c]) (F := _) Tryd.func15 rfl Tryd.ntmps15 rfl rfl ?_
  intro Rb hRb hRn
  refine T_seq ?_
  refine T_region ?_
  refine S_ 2 rfl rfl rfl _ (y_assign rfl rfl) ?_
  refine S_ 3 rfl rfl rfl _ (y_assign rfl rfl) ?_
  refine S_go (fun _ _ h => h) ?_
  refine T_seq ?_
  refine T_seq ?_
  refine T_region ?_
  refine S_ 7 rfl rfl rfl _ (y_move rfl rfl) ?_
  refine S_ 8 rfl rfl rfl _ (y_len_slice rfl rfl Tryd.underlying49) ?_
  refine S_ 9 rfl rfl rfl _ (y_bin rfl rfl rfl (fun _ => b_gtr)) ?_
  refine S_go (fun _ _ h => h) ?_
  refine T_cond rfl (fun h9 => ?_) (fun h9 => ?_)
  · try simp only [decide_eq_true_eq, decide_eq_false_iff_not, Bool.or_eq_true, Bool.or_eq_false_iff, Bool.and_eq_true, Bool.and_eq_false_iff, Bool.not_eq_true', Bool.not_eq_false', Bool.not_eq_true, Bool.not_eq_false, Bool.not_true, Bool.not_false, Int.not_lt, Int.not_le, not_or, not_and, Classical.not_not] at h9
    refine T_seq ?_
    refine T_region ?_
    refine S_ 2 rfl rfl rfl _ (y_assign rfl rfl) ?_
    refine S_ 3 rfl rfl rfl _ (y_assign rfl rfl) ?_
    refine S_go (fun _ _ h => h) ?_
    refine T_ret (fun a w hF hM => hRb a w (post2 rfl rfl rfl (fun w hM => ?_) a w hF hM))
    exact ⟨by rw [sealRes, if_pos (by omega)], hM.below⟩
  · try simp only [decide_eq_true_eq, decide_eq_false_iff_not, Bool.or_eq_true, Bool.or_eq_false_iff, Bool.and_eq_true, Bool.and_eq_false_iff, Bool.not_eq_true', Bool.not_eq_false', Bool.not_eq_true, Bool.not_eq_false, Bool.not_true, Bool.not_false, Int.not_lt, Int.not_le, not_or, not_and, Classical.not_not] at h9
    have hq1 : l.q ≤ 100 := by omega
    refine T_skip_go (fun _ _ h => h) ?_
    refine T_seq ?_
    refine T_seq ?_
    refine T_region ?_
    refine S_ 10 rfl rfl rfl _ (y_move rfl rfl) ?_
    refine S_ 11 rfl rfl rfl _ (y_len_slice rfl rfl Tryd.underlying49) ?_
    refine S_ 12 rfl rfl rfl _ (y_move rfl rfl) ?_
    refine S_go (fun _ _ h => h) ?_
    refine T_block ?_
    refine T_loopK1 (kf := [(2, 3), (5, 5), (12, 20)]) (kl := [(2, 3), (5, 5), (12, 20)]) (fun (i : Nat) => [(12, true, .int .i64 (i : Int))]) (fun (i : Nat) => []) (fun (i : Nat) => i ≤ l.q ∧ kindsBad l.l = (l.l.drop i).any (fun x => !nameOk x.k)) (fun (i : Nat) => l.q - i) 0 (by repeat (first | exact kf_nil | (apply kf_in; focus rfl) | (apply kf_out; focus rfl))) (by repeat (first | exact kl_nil | exact kl_rest (by assumption) rfl | (apply kl_in; focus rfl) | (apply kl_out; focus rfl))) ?_ ?_ ?_ ?_
    · exact ⟨by omega, rfl⟩
    · exact ⟨rfl, trivial⟩
    · exact trivial
    rintro i ⟨hp1, hp2⟩
    refine T_seq ?_
    refine T_region ?_
    refine S_ 13 rfl rfl rfl _ (y_bin rfl rfl rfl (fun _ => b_lss)) ?_
    refine S_go (fun _ _ h => h) ?_
    refine T_seq ?_
    refine T_cond rfl (fun h13 => ?_) (fun h13 => ?_)
    · try simp only [decide_eq_true_eq, decide_eq_false_iff_not, Bool.or_eq_true, Bool.or_eq_false_iff, Bool.and_eq_true, Bool.and_eq_false_iff, Bool.not_eq_true', Bool.not_eq_false', Bool.not_eq_true, Bool.not_eq_false, Bool.not_true, Bool.not_false, Int.not_lt, Int.not_le, not_or, not_and, Classical.not_not] at h13
      obtain ⟨x, hx1, hx2⟩ := ht.at (i := i) (by omega)
      refine T_skip_go (fun _ _ h => h) ?_
      refine T_seq ?_
      refine T_block ?_
      refine T_seq ?_
      refine T_region ?_
      refine S_ 14 rfl rfl rfl _ (y_indexAddr rfl rfl rfl Tryd.underlying49 sz56 (fun hg => ht.isSome (by omega)) (fun _ => by omega)) ?_
      refine S_ 15 rfl rfl rfl _ (y_loadT rfl rfl ht (fun _ => rfl) (fun _ => hx1) Tryd.underlying56 rfl sz56) ?_
      refine S_alloc 5 5 rfl rfl rfl rfl z56 ?_
      intro b5
      refine S_store 5 rfl rfl rfl rfl rfl rfl sz56 rfl rfl ?_
      refine S_go (fun _ _ h => h) ?_
      refine T_seq ?_
      refine T_region ?_
      refine S_ 16 rfl rfl rfl _ (y_fieldAddr rfl rfl fa56_0) ?_
      refine S_ 17 rfl rfl rfl _ (y_load 5 rfl rfl rfl rfl Tryd.underlying9 rfl) ?_
      refine S_ 18 rfl rfl rfl _ (y_call rfl rfl rfl cf43 (fun _ w _ => NameOk_any x.k w)) ?_
      refine S_ 19 rfl rfl rfl _ (y_not rfl rfl) ?_
      refine S_go (fun _ _ h => h) ?_
      refine T_cond rfl (fun h19 => ?_) (fun h19 => ?_)
      · skip
        have h19 : nameOk x.k = false := by simpa using h19
        refine T_seq ?_
        refine T_region ?_
        refine S_ 2 rfl rfl rfl _ (y_assign rfl rfl) ?_
        refine S_ 3 rfl rfl rfl _ (y_assign rfl rfl) ?_
        refine S_go (fun _ _ h => h) ?_
        refine T_ret (fun a w hF hM => hRb a w (post2 rfl rfl rfl (fun w hM => ?_) a w hF hM))
        exact ⟨by rw [sealRes, if_neg (by omega), if_pos (by rw [hp2, hx2, List.any_cons, h19]; rfl)], hM.below⟩
      · skip
        have h19 : nameOk x.k = true := by simpa using h19
        refine T_skip_go (fun _ _ h => h) ?_
        refine T_region ?_
        refine S_ 20 rfl rfl rfl _ (y_bin rfl rfl rfl (fun hg => b_add (by omega))) ?_
        refine S_ 12 rfl rfl rfl _ (y_move rfl rfl) ?_
        refine S_nil (nextK1 (kf := [(2, 3), (5, 5), (12, 20)]) (kl := [(2, 3), (5, 5), (12, 20)]) (i + 1) (by repeat (first | exact kf_nil | (apply kf_in; focus rfl) | (apply kf_out; focus rfl))) (by repeat (first | exact kl_nil | exact kl_rest (by assumption) rfl | (apply kl_in; focus rfl) | (apply kl_out; focus rfl))) ?_ ?_ ?_ ?_)
        · omega
        · exact ⟨by omega, by rw [hp2, kinds_at hx2 h19]⟩
        · exact ⟨rfl, trivial⟩
        · exact trivial
    · try simp only [decide_eq_true_eq, decide_eq_false_iff_not, Bool.or_eq_true, Bool.or_eq_false_iff, Bool.and_eq_true, Bool.and_eq_false_iff, Bool.not_eq_true', Bool.not_eq_false', Bool.not_eq_true, Bool.not_eq_false, Bool.not_true, Bool.not_false, Int.not_lt, Int.not_le, not_or, not_and, Classical.not_not] at h13
      have hkb : kindsBad l.l = false := by rw [hp2, ht.end (by omega)]; rfl
      have hio := itoa_len (n := l.q) (by omega)
      have hon : (numsB [((l.q : Nat) : Int)]).length ≤ 22 := by rw [numsB_one, List.length_append, List.length_cons, List.length_nil]; omega
      have hel : envB.length = 8 := rfl
      have hso := sumS_le (itemsB l.l)
      refine T_exit_go (fun _ _ h => h) ?_
      refine T_seq ?_
      refine T_region ?_
      refine S_ 21 rfl rfl rfl _ (y_move rfl rfl) ?_
      refine S_ 22 rfl rfl rfl _ (y_call rfl rfl rfl cf44 (fun _ w hM => itemsText_any l w (hl.below hM.below) hs hq1 (hP.below hM.below))) ?_
      refine S_ 6 rfl rfl rfl _ (y_assign rfl rfl) ?_
      refine S_go (fun _ _ h => h) ?_
      refine T_seq ?_
      refine T_region ?_
      refine S_ 23 rfl rfl rfl _ (y_move rfl rfl) ?_
      refine S_ 24 rfl rfl rfl _ (y_len_slice rfl rfl Tryd.underlying49) ?_
      refine S_buildSlice 25 25 rfl rfl rfl rfl rfl Tryd.underlying126 inf3 rfl (by decide) (by decide) rfl rfl (by decide) rfl (_) rfl ?_
      intro b25
      refine S_ 26 rfl rfl rfl _ (y_call rfl rfl rfl cf45 (fun _ w hM => numbers_any _ _ _ [((l.q : Nat) : Int)] w (owned_T (enc := fun n : Int => [Value.int .i64 n]) hM rfl (i := 25) rfl) (by decide) (fun n hn => by simp only [List.mem_singleton] at hn; subst hn; omega) (hP.below hM.below))) ?_
      refine S_ 27 rfl rfl rfl _ (y_as (v' := str (envB ++ [32] ++ Lib.itoa ((l.q : Nat) : Int))) (by rw [numsB_one, List.append_assoc]; rfl) (y_bin rfl rfl rfl (fun hg => b_adds (by first | omega | (simp only [List.length_append, List.length_cons, List.length_nil]; omega))))) ?_
      refine S_ 28 rfl rfl rfl _ (y_bin rfl rfl rfl (fun hg => b_adds (by first | omega | (simp only [List.length_append, List.length_cons, List.length_nil]; omega)))) ?_
      refine S_ 29 rfl rfl rfl _ (y_move rfl rfl) ?_
      refine S_ 30 rfl rfl rfl _ (y_call rfl rfl rfl cf46 (fun _ w hM => SumOf_any (itemsB l.l) (by omega) w (hT.below hM.below))) ?_
      refine S_ 31 rfl rfl rfl _ (y_bin rfl rfl rfl (fun hg => b_adds (by first | omega | (simp only [List.length_append, List.length_cons, List.length_nil]; omega)))) ?_
      refine S_ 32 rfl rfl rfl _ (y_bin rfl rfl rfl (fun hg => b_adds (by first | omega | (simp only [List.length_append, List.length_cons, List.length_nil]; omega)))) ?_
      refine S_ 33 rfl rfl rfl _ (y_move rfl rfl) ?_
      refine S_ 34 rfl rfl rfl _ (y_as (v' := str (sealB l.q l.l)) (by exact rfl) (y_bin rfl rfl rfl (fun hg => b_adds (by first | omega | (simp only [List.length_append, List.length_cons, List.length_nil]; omega))))) ?_
      refine S_ 6 rfl rfl rfl _ (y_assign rfl rfl) ?_
      refine S_go (fun _ _ h => h) ?_
      refine T_seq ?_
      refine T_seq ?_
      refine T_region ?_
      refine S_ 35 rfl rfl rfl _ (y_move rfl rfl) ?_
      refine S_ 36 rfl rfl rfl _ (y_len_str rfl rfl Tryd.underlying9) ?_
      refine S_ 37 rfl rfl rfl _ (y_bin rfl rfl rfl (fun _ => b_gtr)) ?_
      refine S_go (fun _ _ h => h) ?_
      refine T_cond rfl (fun h37 => ?_) (fun h37 => ?_)
      · try simp only [decide_eq_true_eq, decide_eq_false_iff_not, Bool.or_eq_true, Bool.or_eq_false_iff, Bool.and_eq_true, Bool.and_eq_false_iff, Bool.not_eq_true', Bool.not_eq_false', Bool.not_eq_true, Bool.not_eq_false, Bool.not_true, Bool.not_false, Int.not_lt, Int.not_le, not_or, not_and, Classical.not_not] at h37
        refine T_seq ?_
        refine T_region ?_
        refine S_ 2 rfl rfl rfl _ (y_assign rfl rfl) ?_
        refine S_ 3 rfl rfl rfl _ (y_assign rfl rfl) ?_
        refine S_go (fun _ _ h => h) ?_
        refine T_ret (fun a w hF hM => hRb a w (post2 rfl rfl rfl (fun w hM => ?_) a w hF hM))
        exact ⟨by rw [sealRes, if_neg (by omega), if_neg (by rw [hkb]; exact Bool.false_ne_true), if_pos (by omega)], hM.below⟩
      · try simp only [decide_eq_true_eq, decide_eq_false_iff_not, Bool.or_eq_true, Bool.or_eq_false_iff, Bool.and_eq_true, Bool.and_eq_false_iff, Bool.not_eq_true', Bool.not_eq_false', Bool.not_eq_true, Bool.not_eq_false, Bool.not_true, Bool.not_false, Int.not_lt, Int.not_le, not_or, not_and, Classical.not_not] at h37
        refine T_skip_go (fun _ _ h => h) ?_
        refine T_seq ?_
        refine T_region ?_
        refine S_ 38 rfl rfl rfl _ (y_move rfl rfl) ?_
        refine S_ 2 rfl rfl rfl _ (y_assign rfl rfl) ?_
        refine S_ 3 rfl rfl rfl _ (y_assign rfl rfl) ?_
        refine S_go (fun _ _ h => h) ?_
        refine T_ret (fun a w hF hM => hRb a w (post2 rfl rfl rfl (fun w hM => ?_) a w hF hM))
        exact ⟨by rw [sealRes, if_neg (by omega), if_neg (by rw [hkb]; exact Bool.false_ne_true), if_neg (by omega)], hM.below⟩
end Go.Proofs.YtpmlgnbbkpplhaaDoor
