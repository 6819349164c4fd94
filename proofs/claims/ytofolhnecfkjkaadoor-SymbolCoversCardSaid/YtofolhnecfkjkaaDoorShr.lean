/- symbol.Shares, but for its sort: SortFunc at a share is asked as a premise (SortsShares). Conditions: those of each theorem. -/
import Derived.Test.YtofolhnecfkjkaaDoorShare
import Derived.Test.YtofolhnecfkjkaaDoorRefPl
import Derived.Test.YtofolhnecfkjkaaDoorMapR
namespace Go.Proofs.YtofolhnecfkjkaaDoor
set_option linter.unusedSimpArgs false
set_option linter.unusedVariables false
set_option maxRecDepth 20000
open Go.RowKit Go.Eng
structure SShare where
  name : Nm
  n : Int
def SShare.enc (s : SShare) : List Value := [str s.name, .int .i64 s.n]
def mi (p : Nm × Int) : Nm × Value := (p.1, .int .i64 p.2)
theorem mget_mi (s : Nm) : ∀ M : List (Nm × Int), (mget (M.map mi) s).getD (.int .i64 0) = .int .i64 (gi M s)
  | [] => rfl
  | p :: r => by
    show (if s = p.1 then some (Value.int .i64 p.2) else mget (r.map mi) s).getD (.int .i64 0) = .int .i64 (if p.1 = s then p.2 else gi r s)
    by_cases h : p.1 = s
    · rw [if_pos h.symm, if_pos h]; rfl
    · rw [if_neg (fun e => h e.symm), if_neg h]; exact mget_mi s r
theorem mput_mi (s : Nm) (v : Int) : ∀ M : List (Nm × Int), mput (M.map mi) s (.int .i64 v) = (pi' M s v).map mi
  | [] => rfl
  | p :: r => by
    show (if s = p.1 then (p.1, Value.int .i64 v) :: r.map mi else mi p :: mput (r.map mi) s (.int .i64 v)) = _
    unfold pi'
    by_cases h : p.1 = s
    · rw [if_pos h.symm, if_pos h]; rfl
    · rw [if_neg (fun e => h e.symm), if_neg h, mput_mi s v r]; rfl
theorem len_put (s : Nm) (v : Int) : ∀ M : List (Nm × Int), (pi' M s v).length ≤ M.length + 1
  | [] => by simp [pi']
  | p :: r => by
    unfold pi'
    split
    · simp
    · have := len_put s v r; simp; omega
def lenF : List SFunc → Int
  | [] => 0
  | g :: r => (g.to - g.fr) + lenF r
def mkS (p : Nm × Int) : SShare := ⟨p.1, p.2⟩
def posB (p : Nm × Int) : Bool := decide (0 < p.2)
/-- what Shares hands back: the positive entries of the map, in whatever order they came, sorted -/
def ShOk (le : SShare → SShare → Bool) (t : Tab) (l : List SShare) : Prop :=
  if tabNo t ≠ 0 then l = [] else ∃ (M D : List (Nm × Int)), MapOk t.size.toNat (layC t.ca.l (layF t.fu.l fun _ => none)) M ∧ sumM M = lenF t.fu.l ∧ M.Perm D ∧ l = ((D.filter posB).map mkS).mergeSort le ∧ M.length ≤ 10000
def SortsShares (le : SShare → SShare → Bool) : Prop := ∀ {w0 : World} {K : HL}, FromK K → ∀ (A : Option Addr) (q c : Nat) (l : List SShare) (w : World), l.length = q → q ≤ 1000000 → Mem w0 ([(0, .own 78 2 (.slice A q c) q (l.flatMap SShare.enc))] ++ K) w →
  Calls Tryd.prog 83 #[.slice A q c, .func (.func 84) #[] #[]] w fun e w' => ∃ l' : List SShare, e = .returned (.tuple #[]) ∧ l' = l.mergeSort le ∧ Mem w0 ([(0, .own 78 2 (.slice A q c) q (l'.flatMap SShare.enc))] ++ K) w'
theorem shares1_any (f : SFunc) (ad : Addr) (c : SCall) (w : World) (hb : ad.block < w.heap.size) (h1 : w.cell? (ad.add 1) = some (.int .i64 c.fr)) (h2 : w.cell? (ad.add 2) = some (.int .i64 c.to)) :
    Calls Tryd.prog 82 #[.agg f.enc.toArray, .pointer (some ad)] w fun e w' => e = .returned (.bool (f.holds c)) ∧ Below w.heap.size w w' := by
  refine enter_args (args := [.agg #[str f.name, .int .i64 f.fr, .int .i64 f.to], .pointer (some ad)]) (F := _) Tryd.func82 rfl Tryd.ntmps82 rfl rfl ?_
  intro Rb hRb hRn
  refine T_seq ?_
  refine T_region ?_
  refine S_box 2 2 rfl rfl rfl rfl rfl ?_
  intro b2
  refine S_ 3 rfl rfl rfl _ (y_assign rfl rfl) ?_
  refine S_go (fun _ _ h => h) ?_
  refine T_seq ?_
  refine T_region ?_
  refine S_ 4 rfl rfl rfl _ (y_fieldAddr rfl rfl fa80_1) ?_
  refine S_ 5 rfl rfl rfl _ (y_load 2 rfl rfl rfl rfl Tryd.underlying3 rfl) ?_
  refine S_ 6 rfl rfl rfl _ (y_fieldAddr rfl rfl fa110_1) ?_
  refine S_ 7 rfl rfl rfl _ (y_load_far rfl rfl h1 (by rw [block_of_add]; exact hb) Tryd.underlying3 rfl) ?_
  refine S_ 8 rfl rfl rfl _ (y_bin rfl rfl rfl (fun _ => b_leq)) ?_
  refine S_ 9 rfl rfl rfl _ (y_move rfl rfl) ?_
  refine Sg_ 10 rfl rfl rfl rfl rfl rfl _ (y_fieldAddr rfl rfl fa110_2) ?_
  refine Sg_ 11 rfl rfl rfl rfl rfl rfl _ (y_load_far rfl rfl h2 (by rw [block_of_add]; exact hb) Tryd.underlying3 rfl) ?_
  refine Sg_ 12 rfl rfl rfl rfl rfl rfl _ (y_fieldAddr rfl rfl fa80_2) ?_
  refine Sg_ 13 rfl rfl rfl rfl rfl rfl _ (y_load 2 rfl rfl rfl rfl Tryd.underlying3 rfl) ?_
  refine Sg_ 14 rfl rfl rfl rfl rfl rfl _ (y_bin rfl rfl rfl (fun _ => b_leq)) ?_
  refine S_ 15 rfl rfl rfl _ (y_and rfl rfl rfl) ?_
  refine S_ 3 rfl rfl rfl _ (y_assign rfl rfl) ?_
  refine S_go (fun _ _ h => h) ?_
  refine T_ret (fun a w hF hM => hRb a w (post1 rfl rfl (fun w hM => ?_) a w hF hM))
  exact ⟨rfl, hM.below⟩
theorem asks_shares {b : Nat} {c : SCall} {w : World} (h1 : w.cell? ⟨b, 1, none⟩ = some (.int .i64 c.fr) ∧ b < w.heap.size) (h2 : w.cell? ⟨b, 2, none⟩ = some (.int .i64 c.to) ∧ b < w.heap.size) : Asks Tryd.prog SFunc.enc w 82 #[.pointer (some ⟨b, 0, none⟩)] (SFunc.holds c) :=
  ⟨cf82, fun f w' hb => shares1_any f ⟨b, 0, none⟩ c w' (Nat.lt_of_lt_of_le h1.2 hb.size) ((hb.cell h1.2).trans h1.1) ((hb.cell h2.2).trans h2.1)⟩
end Go.Proofs.YtofolhnecfkjkaaDoor
