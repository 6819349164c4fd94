/- Part 1, merged by a program. Words, names and ids: what the program and the reference say of them. No condition beyond lengths that a machine can hold. Frames: CheckFrame, checkFrames and what the reference has in their places. Conditions: lengths that a machine can hold. Events in plain lists: faults, tags, crumbs, and their faults' codes. No program in sight. Events are checked: the program's Check and the reference's EventFault. Conditions: those of each theorem. Events are compared, and what is asked of one: Same, Tag, Levels, and the reference's. Conditions: those of each theorem. Clones of faults, tags and crumbs; frames put together, and cut. Conditions: those of each theorem. Strings: one byte looked for, cut and split at it, suffixes; words in a list. Conditions: those of each theorem. Numbers and names of releases, and what is parsed of one release that is given. Conditions: those of each theorem. The digest of a string: Sum, FormatUint in base 16 and Repeat of a nought. Conditions: the table of trailing noughts holds Go's numbers. Numbers as texts: Itoa, plainNumber, whole; the table of powers of ten. Conditions: those of each theorem. Versions in plain lists: what parse makes of a text, and that the reference makes the same. No program in sight. cmp.Compare of numbers and of strings. No condition. Versions compared, in plain lists: the order is total up to equal right versions; texts and versions go to and fro. No program in sight. -/
import Derived.Test.YtkkngcdikbhkjaaDoorLem
import Derived.Test.YtkkngcdikbhkjaaDoorShelf
import Derived.Shelf.Strings.SlTrimAscii
import Derived.Test.YtkkngcdikbhkjaaDoorApp
import Derived.Test.YtkkngcdikbhkjaaDoorOpsB
import Derived.Test.YtkkngcdikbhkjaaDoorMany
import Derived.Test.YtkkngcdikbhkjaaDoorByt
import Derived.Test.YtkkngcdikbhkjaaDoorClr
import Derived.Test.YtkkngcdikbhkjaaDoorIfc
import Derived.Test.YtkkngcdikbhkjaaDoorArr
import Derived.Test.YtkkngcdikbhkjaaDoorSit
import Derived.Lib.ItoaLen
import Derived.Lib.Join
import Derived.Sort.Walk0
section
namespace Go.Proofs.YtkkngcdikbhkjaaDoor
set_option linter.unusedSimpArgs false
set_option linter.unusedVariables false
set_option maxRecDepth 20000
open Go.RowKit Go.Eng
theorem out_any (n lo hi : Int) (w : World) :
    Calls Tryd.prog 23 #[.int .i64 n, .int .i64 lo, .int .i64 hi] w fun e w' => e = .returned (.bool (decide (n < lo) || decide (hi < n))) ∧ Below w.heap.size w w' := by
  refine enter_args (args := [.int .i64 n, .int .i64 lo, .int .i64 hi]) (F := _) Tryd.func23 rfl Tryd.ntmps23 rfl rfl ?_
  intro Rb hRb hRn
  refine T_seq ?_
  refine T_region ?_
  refine S_ 6 rfl rfl rfl _ (y_assign rfl rfl) ?_
  refine S_go (fun _ _ h => h) ?_
  refine T_seq ?_
  refine T_region ?_
  refine S_ 7 rfl rfl rfl _ (y_move rfl rfl) ?_
  refine S_ 8 rfl rfl rfl _ (y_move rfl rfl) ?_
  refine S_ 9 rfl rfl rfl _ (y_bin rfl rfl rfl (fun _ => b_lss)) ?_
  refine S_ 10 rfl rfl rfl _ (y_move rfl rfl) ?_
  refine Sg_ 11 rfl rfl rfl rfl rfl rfl _ (y_move rfl rfl) ?_
  refine Sg_ 12 rfl rfl rfl rfl rfl rfl _ (y_move rfl rfl) ?_
  refine Sg_ 13 rfl rfl rfl rfl rfl rfl _ (y_bin rfl rfl rfl (fun _ => b_gtr)) ?_
  refine S_ 14 rfl rfl rfl _ (y_or rfl rfl rfl) ?_
  refine S_ 6 rfl rfl rfl _ (y_assign rfl rfl) ?_
  refine S_go (fun _ _ h => h) ?_
  refine T_ret (fun a w hF hM => hRb a w (post1 rfl rfl (fun w hM => ?_) a w hF hM))
  exact ⟨rfl, hM.below⟩
theorem IndexByte_any (s : List UInt8) (c : UInt8) (w : World) :
    Calls Tryd.prog 74 #[str s, .int .u8 (c.toNat : Int)] w fun e w' => e = .returned (.int .i64 (Lib.indexByte s c)) ∧ Below w.heap.size w w' := by
  refine (Tryd.strings_IndexByte ⟨s.toArray⟩ (c.toNat : Int) w).mono fun e w' ⟨h1, h2⟩ => ⟨?_, h2 ▸ Below.refl _ _⟩
  rw [h1]; simp
end Go.Proofs.YtkkngcdikbhkjaaDoor
end
section
namespace Go.Proofs.YtkkngcdikbhkjaaDoor
set_option linter.unusedSimpArgs false
set_option linter.unusedVariables false
set_option maxRecDepth 20000
open Go.RowKit Go.Eng
structure Frm where
  m : List UInt8
  f : List UInt8
  fi : List UInt8
  ln : Int
  ad : Int
  own : Bool
def Frm.enc (x : Frm) : List Value := [str x.m, str x.f, str x.fi, .int .i64 x.ln, .int .i64 x.ad, .bool x.own]
def Frm.val (x : Frm) : Value := .agg x.enc.toArray
/-! ### The reference's -/
theorem three {i : Nat} (m f fi : List UInt8) (h : i < 3) : [str m, str f, str fi][i]? = some (str ([m, f, fi].getD i [])) := by
  match i, h with
  | 0, _ => rfl
  | 1, _ => rfl
  | 2, _ => rfl
theorem mem_at {α : Type} {l : List α} {i : Nat} {x : α} (h : l[i]? = some x) : x ∈ l := List.mem_of_getElem? h
structure FrmsOk (w : World) (l : Sl Frm) : Prop where
  ok : l.Ok Frm.enc 6 w
  q : l.q ≤ 4611686018427387904
  n : ∀ f ∈ l.l, f.m.length ≤ 4611686018427387904 ∧ f.f.length ≤ 4611686018427387904 ∧ f.fi.length ≤ 4611686018427387904
theorem FrmsOk.below {w w' : World} {l : Sl Frm} (h : FrmsOk w l) (hb : Below w.heap.size w w') : FrmsOk w' l := ⟨h.ok.below hb, h.q, h.n⟩
end Go.Proofs.YtkkngcdikbhkjaaDoor
end
section
namespace Go.Proofs.YtkkngcdikbhkjaaDoor
set_option linter.unusedSimpArgs false
set_option linter.unusedVariables false
set_option maxRecDepth 20000
open Go.RowKit Go.Eng
/-- a name: 1 to 40 bytes, the first one a small letter -/
def nameBs : List UInt8 := [97, 98, 99, 100, 101, 102, 103, 104, 105, 106, 107, 108, 109, 110, 111, 112, 113, 114, 115, 116, 117, 118, 119, 120, 121, 122, 48, 49, 50, 51, 52, 53, 54, 55, 56, 57, 45, 46, 95]
def nameOk (s : List UInt8) : Bool := !decide (s = []) && decide ((s.length : Int) ≤ 40) && decide ((97 : Int) ≤ ((s.getD 0 0).toNat : Int)) && decide (((s.getD 0 0).toNat : Int) ≤ 122) && decide (Lib.trimS s nameBs = [])
structure Flt where
  k : List UInt8
  t : List UInt8
  fr : Sl Frm
def Flt.enc (f : Flt) : List Value := [str f.k, str f.t, .slice f.fr.A f.fr.q f.fr.c]
def Flt.val (f : Flt) : Value := .agg f.enc.toArray
structure STag where
  n : List UInt8
  v : List UInt8
def STag.enc (t : STag) : List Value := [str t.n, str t.v]
structure SCrumb where
  at_ : Int
  k : List UInt8
  t : List UInt8
def SCrumb.enc (c : SCrumb) : List Value := [.int .i64 c.at_, str c.k, str c.t]
structure Evt where
  id : List UInt8
  at_ : Int
  lv : Int
  fa : Sl Flt
  ta : Sl STag
  cr : Sl SCrumb
  rel : List UInt8
  us : List UInt8
  wt : Int
def Evt.enc (e : Evt) : List Value := [str e.id, .int .i64 e.at_, .int .i64 e.lv, .slice e.fa.A e.fa.q e.fa.c, .slice e.ta.A e.ta.q e.ta.c, .slice e.cr.A e.cr.q e.cr.c, str e.rel, str e.us, .int .i64 e.wt]
def Evt.val (e : Evt) : Value := .agg e.enc.toArray
structure FltOk (w : World) (f : Flt) : Prop where
  k : f.k.length ≤ 4611686018427387904
  t : f.t.length ≤ 4611686018427387904
  fr : FrmsOk w f.fr
structure FltsOk (w : World) (l : Sl Flt) : Prop where
  ok : l.Ok Flt.enc 3 w
  q : l.q ≤ 4611686018427387904
  n : ∀ f ∈ l.l, FltOk w f
structure TagsOk (w : World) (l : Sl STag) : Prop where
  ok : l.Ok STag.enc 2 w
  q : l.q ≤ 4611686018427387904
  n : ∀ t ∈ l.l, t.n.length ≤ 4611686018427387904 ∧ t.v.length ≤ 4611686018427387904
structure CrumbsOk (w : World) (l : Sl SCrumb) : Prop where
  ok : l.Ok SCrumb.enc 3 w
  q : l.q ≤ 4611686018427387904
  n : ∀ c ∈ l.l, c.k.length ≤ 4611686018427387904 ∧ c.t.length ≤ 4611686018427387904
structure Evt.Ok (w : World) (e : Evt) : Prop where
  fa : FltsOk w e.fa
  ta : TagsOk w e.ta
  cr : CrumbsOk w e.cr
  id : e.id.length ≤ 4611686018427387904
  rel : e.rel.length ≤ 4611686018427387904
  us : e.us.length ≤ 4611686018427387904
section
variable {w w' : World} (hb : Below w.heap.size w w')
include hb
theorem FltOk.below {f : Flt} (h : FltOk w f) : FltOk w' f := ⟨h.k, h.t, h.fr.below hb⟩
theorem FltsOk.below {l : Sl Flt} (h : FltsOk w l) : FltsOk w' l := ⟨h.ok.below hb, h.q, fun f hf => (h.n f hf).below hb⟩
theorem TagsOk.below {l : Sl STag} (h : TagsOk w l) : TagsOk w' l := ⟨h.ok.below hb, h.q, h.n⟩
theorem CrumbsOk.below {l : Sl SCrumb} (h : CrumbsOk w l) : CrumbsOk w' l := ⟨h.ok.below hb, h.q, h.n⟩
theorem Evt.Ok.below {e : Evt} (h : e.Ok w) : e.Ok w' := ⟨h.fa.below hb, h.ta.below hb, h.cr.below hb, h.id, h.rel, h.us⟩
end
/-! ### The codes of their faults -/
def fst (a b : Int) : Int := if a ≠ 0 then a else b
theorem name_t {s : List UInt8} (h : (decide ((s.length : Int) < 1) || decide ((40 : Int) < (s.length : Int)) || decide (((s.getD 0 0).toNat : Int) < 97) || decide ((122 : Int) < ((s.getD 0 0).toNat : Int))) = true) : nameOk s = false := by
  unfold nameOk
  cases s with
  | nil => rfl
  | cons a r =>
    simp only [Bool.or_eq_true, decide_eq_true_eq, List.length_cons] at h
    rw [Bool.eq_false_iff]
    simp only [ne_eq, Bool.and_eq_true, decide_eq_true_eq, List.length_cons]
    omega
theorem name_f {s : List UInt8} (h : (decide ((s.length : Int) < 1) || decide ((40 : Int) < (s.length : Int)) || decide (((s.getD 0 0).toNat : Int) < 97) || decide ((122 : Int) < ((s.getD 0 0).toNat : Int))) = false) : s.length ≤ 40 ∧ decide (Lib.trimS s nameBs = []) = nameOk s := by
  cases s with
  | nil => simp at h
  | cons a r =>
    simp only [Bool.or_eq_false_iff, decide_eq_false_iff_not, List.length_cons] at h
    refine ⟨by simp only [List.length_cons]; omega, ?_⟩
    unfold nameOk
    rw [show (!decide (a :: r = [])) = true from by simp, show decide (((a :: r).length : Int) ≤ 40) = true from decide_eq_true (by simp only [List.length_cons]; omega), show decide ((97 : Int) ≤ (((a :: r).getD 0 0).toNat : Int)) = true from decide_eq_true (by omega),
      show decide ((((a :: r).getD 0 0).toNat : Int) ≤ 122) = true from decide_eq_true (by omega)]
    rfl
end Go.Proofs.YtkkngcdikbhkjaaDoor
end
section
namespace Go.Proofs.YtkkngcdikbhkjaaDoor
set_option linter.unusedSimpArgs false
set_option linter.unusedVariables false
set_option maxRecDepth 20000
open Go.RowKit Go.Eng
theorem TrimName_any (s : List UInt8) (hs : s.length ≤ 1000) (w : World) :
    Calls Tryd.prog 34 #[str s, str nameBs] w fun e w' => e = .returned (str (Lib.trimS s nameBs)) ∧ Below w.heap.size w w' :=
  Any.strings_Trim_laid Tryd.lays160 (by kernel_rfl) ⟨s.toArray⟩ ⟨nameBs.toArray⟩ w (by rw [Lib.size_eq]; simp; omega) (by decide) (ascii_of_all (by decide))
theorem IsName_any (s : List UInt8) (w : World) :
    Calls Tryd.prog 42 #[str s] w fun e w' => e = .returned (.bool (nameOk s)) ∧ Below w.heap.size w w' := by
  refine enter_args (args := [str s]) (F := _) Tryd.func42 rfl Tryd.ntmps42 rfl rfl ?_
  intro Rb hRb hRn
  refine T_seq ?_
  refine T_region ?_
  refine S_ 2 rfl rfl rfl _ (y_assign rfl rfl) ?_
  refine S_go (fun _ _ h => h) ?_
  refine T_seq ?_
  refine T_seq ?_
  refine T_region ?_
  refine S_ 3 rfl rfl rfl _ (y_move rfl rfl) ?_
  refine S_ 4 rfl rfl rfl _ (y_len_str rfl rfl Tryd.underlying9) ?_
  refine S_ 5 rfl rfl rfl _ (y_bin rfl rfl rfl (fun _ => b_lss)) ?_
  refine S_ 6 rfl rfl rfl _ (y_move rfl rfl) ?_
  refine Sg_ 7 rfl rfl rfl rfl rfl rfl _ (y_move rfl rfl) ?_
  refine Sg_ 8 rfl rfl rfl rfl rfl rfl _ (y_len_str rfl rfl Tryd.underlying9) ?_
  refine Sg_ 9 rfl rfl rfl rfl rfl rfl _ (y_bin rfl rfl rfl (fun _ => b_gtr)) ?_
  refine S_ 10 rfl rfl rfl _ (y_or rfl rfl rfl) ?_
  refine S_ 11 rfl rfl rfl _ (y_move rfl rfl) ?_
  refine Sg_ 12 rfl rfl rfl rfl rfl rfl _ (y_move rfl rfl) ?_
  refine Sg_ 13 rfl rfl rfl rfl rfl rfl _ (y_index_str (j := 0) rfl rfl rfl Tryd.underlying9 (fun hg => List.length_pos_iff.2 (fun e => by subst e; simp at hg))) ?_
  refine Sg_ 14 rfl rfl rfl rfl rfl rfl _ (y_bin rfl rfl rfl (fun _ => b_lss)) ?_
  refine S_ 15 rfl rfl rfl _ (y_or rfl rfl rfl) ?_
  refine S_ 16 rfl rfl rfl _ (y_move rfl rfl) ?_
  refine Sg_ 17 rfl rfl rfl rfl rfl rfl _ (y_move rfl rfl) ?_
  refine Sg_ 18 rfl rfl rfl rfl rfl rfl _ (y_index_str (j := 0) rfl rfl rfl Tryd.underlying9 (fun hg => List.length_pos_iff.2 (fun e => by subst e; simp at hg))) ?_
  refine Sg_ 19 rfl rfl rfl rfl rfl rfl _ (y_bin rfl rfl rfl (fun _ => b_gtr)) ?_
  refine S_ 20 rfl rfl rfl _ (y_or rfl rfl rfl) ?_
  refine S_go (fun _ _ h => h) ?_
  refine T_cond rfl (fun h20 => ?_) (fun h20 => ?_)
  · skip
    refine T_seq ?_
    refine T_region ?_
    refine S_ 2 rfl rfl rfl _ (y_assign rfl rfl) ?_
    refine S_go (fun _ _ h => h) ?_
    refine T_ret (fun a w hF hM => hRb a w (post1 rfl rfl (fun w hM => ?_) a w hF hM))
    exact ⟨by rw [name_t h20], hM.below⟩
  · skip
    have hn := name_f h20
    have hl := hn.1
    refine T_skip_go (fun _ _ h => h) ?_
    refine T_seq ?_
    refine T_region ?_
    refine S_ 21 rfl rfl rfl _ (y_move rfl rfl) ?_
    refine S_ 22 rfl rfl rfl _ (y_call rfl rfl rfl cf34 (fun _ w _ => TrimName_any s (by omega) w)) ?_
    refine S_ 23 rfl rfl rfl _ (y_bin rfl rfl rfl (fun _ => b_eqls)) ?_
    refine S_ 2 rfl rfl rfl _ (y_assign rfl rfl) ?_
    refine S_go (fun _ _ h => h) ?_
    refine T_ret (fun a w hF hM => hRb a w (post1 rfl rfl (fun w hM => ?_) a w hF hM))
    exact ⟨by rw [← hn.2], hM.below⟩
theorem NameOk_any (s : List UInt8) (w : World) :
    Calls Tryd.prog 73 #[str s] w fun e w' => e = .returned (.bool (nameOk s)) ∧ Below w.heap.size w w' := by
  refine enter_args (args := [str s]) (F := _) Tryd.func73 rfl Tryd.ntmps73 rfl rfl ?_
  intro Rb hRb hRn
  refine T_seq ?_
  refine T_region ?_
  refine S_ 2 rfl rfl rfl _ (y_assign rfl rfl) ?_
  refine S_go (fun _ _ h => h) ?_
  refine T_seq ?_
  refine T_region ?_
  refine S_ 3 rfl rfl rfl _ (y_move rfl rfl) ?_
  refine S_ 4 rfl rfl rfl _ (y_bin rfl rfl rfl (fun _ => b_neqs)) ?_
  refine S_ 5 rfl rfl rfl _ (y_move rfl rfl) ?_
  refine Sg_ 6 rfl rfl rfl rfl rfl rfl _ (y_move rfl rfl) ?_
  refine Sg_ 7 rfl rfl rfl rfl rfl rfl _ (y_len_str rfl rfl Tryd.underlying9) ?_
  refine Sg_ 8 rfl rfl rfl rfl rfl rfl _ (y_bin rfl rfl rfl (fun _ => b_leq)) ?_
  refine S_ 9 rfl rfl rfl _ (y_and rfl rfl rfl) ?_
  refine S_ 10 rfl rfl rfl _ (y_move rfl rfl) ?_
  refine Sg_ 11 rfl rfl rfl rfl rfl rfl _ (y_move rfl rfl) ?_
  refine Sg_ 12 rfl rfl rfl rfl rfl rfl _ (y_index_str (j := 0) rfl rfl rfl Tryd.underlying9 (fun hg => List.length_pos_iff.2 (fun e => by subst e; simp at hg))) ?_
  refine Sg_ 13 rfl rfl rfl rfl rfl rfl _ (y_bin rfl rfl rfl (fun _ => b_geq)) ?_
  refine S_ 14 rfl rfl rfl _ (y_and rfl rfl rfl) ?_
  refine S_ 15 rfl rfl rfl _ (y_move rfl rfl) ?_
  refine Sg_ 16 rfl rfl rfl rfl rfl rfl _ (y_move rfl rfl) ?_
  refine Sg_ 17 rfl rfl rfl rfl rfl rfl _ (y_index_str (j := 0) rfl rfl rfl Tryd.underlying9 (fun hg => List.length_pos_iff.2 (fun e => by subst e; simp at hg))) ?_
  refine Sg_ 18 rfl rfl rfl rfl rfl rfl _ (y_bin rfl rfl rfl (fun _ => b_leq)) ?_
  refine S_ 19 rfl rfl rfl _ (y_and rfl rfl rfl) ?_
  refine S_ 20 rfl rfl rfl _ (y_move rfl rfl) ?_
  refine Sg_ 21 rfl rfl rfl rfl rfl rfl _ (y_move rfl rfl) ?_
  refine Sg_ 22 rfl rfl rfl rfl rfl rfl _ (y_call rfl rfl rfl cf34 (fun hg w _ => TrimName_any s (by simp only [Bool.true_and, Bool.and_eq_true, beq_iff_eq, decide_eq_true_eq, decide_eq_false_iff_not, Int.not_lt, Int.not_le] at hg; omega) w)) ?_
  refine Sg_ 23 rfl rfl rfl rfl rfl rfl _ (y_bin rfl rfl rfl (fun _ => b_eqls)) ?_
  refine S_ 24 rfl rfl rfl _ (y_and rfl rfl rfl) ?_
  refine S_ 2 rfl rfl rfl _ (y_assign rfl rfl) ?_
  refine S_go (fun _ _ h => h) ?_
  refine T_ret (fun a w hF hM => hRb a w (post1 rfl rfl (fun w hM => ?_) a w hF hM))
  exact ⟨rfl, hM.below⟩
end Go.Proofs.YtkkngcdikbhkjaaDoor
end
section
namespace Go.Proofs.YtkkngcdikbhkjaaDoor
set_option linter.unusedSimpArgs false
set_option linter.unusedVariables false
set_option maxRecDepth 20000
open Go.RowKit Go.Eng
def Frm.eqB (a b : Frm) : Bool := decide (a.m = b.m) && (decide (a.f = b.f) && (decide (a.fi = b.fi) && (decide (a.ln = b.ln) && (decide (a.ad = b.ad) && (a.own == b.own)))))
def STag.eqB (a b : STag) : Bool := decide (a.n = b.n) && decide (a.v = b.v)
def SCrumb.eqB (a b : SCrumb) : Bool := decide (a.at_ = b.at_) && (decide (a.k = b.k) && decide (a.t = b.t))
def strE (l : List UInt8) : List Value := [str l]
def Flt.eqB (x y : Flt) : Bool := decide (x.k = y.k) && decide (x.t = y.t) && eqLB Frm.eqB x.fr.l y.fr.l
end Go.Proofs.YtkkngcdikbhkjaaDoor
end
section
namespace Go.Proofs.YtkkngcdikbhkjaaDoor
set_option linter.unusedSimpArgs false
set_option linter.unusedVariables false
set_option maxRecDepth 20000
open Go.RowKit Go.Eng
end Go.Proofs.YtkkngcdikbhkjaaDoor
end
section
namespace Go.Proofs.YtkkngcdikbhkjaaDoor
set_option linter.unusedSimpArgs false
set_option linter.unusedVariables false
set_option maxRecDepth 20000
open Go.RowKit Go.Eng
theorem Contains1_any (s : List UInt8) (c : UInt8) (w : World) : Calls Tryd.prog 70 #[str s, str [c]] w fun e w' => e = .returned (.bool (decide (0 ≤ Lib.indexByte s c))) ∧ Below w.heap.size w w' :=
  (Tryd.strings_Contains_one ⟨s.toArray⟩ c w).mono fun e w' h => ⟨by rw [h.1], h.2 ▸ Below.refl _ _⟩
theorem Index1_any (s : List UInt8) (c : UInt8) (w : World) : Calls Tryd.prog 113 #[str s, str [c]] w fun e w' => e = .returned (.int .i64 (Lib.indexByte s c)) ∧ Below w.heap.size w w' :=
  (Tryd.strings_Index_one ⟨s.toArray⟩ c w).mono fun e w' h => ⟨by rw [h.1], h.2 ▸ Below.refl _ _⟩
theorem LIndex1_any (s : List UInt8) (c : UInt8) (w : World) : Calls Tryd.prog 131 #[str s, str [c]] w fun e w' => e = .returned (.int .i64 (Lib.indexByte s c)) ∧ Below w.heap.size w w' :=
  (Tryd.stringslite_Index_one ⟨s.toArray⟩ c w).mono fun e w' h => ⟨by rw [h.1], h.2 ▸ Below.refl _ _⟩
theorem Count1_any (s : List UInt8) (c : UInt8) (w : World) : Calls Tryd.prog 121 #[str s, str [c]] w fun e w' => e = .returned (.int .i64 ((s.count c : Nat) : Int)) ∧ Below w.heap.size w w' :=
  (Tryd.strings_Count_one ⟨s.toArray⟩ c w).mono fun e w' h => ⟨by rw [h.1]; rfl, h.2 ▸ Below.refl _ _⟩
/-! ### Split -/
def splitC (c : UInt8) : List UInt8 → List (List UInt8)
  | [] => [[]]
  | x :: r => if x = c then [] :: splitC c r else match splitC c r with
    | h :: t => (x :: h) :: t
    | [] => [[x]]
theorem splitC_len (c : UInt8) : ∀ s : List UInt8, (splitC c s).length = s.count c + 1
  | [] => rfl
  | x :: r => by
    have ih := splitC_len c r
    rw [splitC]
    by_cases h : x = c
    · subst h; rw [if_pos rfl, List.length_cons, ih, List.count_cons_self]
    · rw [if_neg h, List.count_cons_of_ne h]
      cases hq : splitC c r with
      | nil => rw [hq] at ih; simp at ih
      | cons a t => rw [hq] at ih; simpa using ih
theorem splitC_none (c : UInt8) : ∀ s : List UInt8, (∀ k : Nat, s[k]? ≠ some c) → splitC c s = [s]
  | [], _ => rfl
  | x :: r, h => by
    have hx : ¬ x = c := fun e => h 0 (by simp [e])
    rw [splitC, if_neg hx, splitC_none c r fun k => by have := h (k + 1); simpa using this]
theorem splitC_some (c : UInt8) : ∀ (s : List UInt8) (o : Nat), s[o]? = some c → (∀ k : Nat, k < o → s[k]? ≠ some c) → splitC c s = s.take o :: splitC c (s.drop (o + 1))
  | [], o, h, _ => by simp at h
  | x :: r, 0, h, _ => by
    have hx : x = c := by simpa using h
    rw [splitC, if_pos hx]; rfl
  | x :: r, o + 1, h, hk => by
    have hx : ¬ x = c := fun e => hk 0 (by omega) (by simp [e])
    rw [splitC, if_neg hx, splitC_some c r o (by simpa using h) fun k hko => by have := hk (k + 1) (by omega); simpa using this]
    rfl
theorem strs_flat (l : List (List UInt8)) : l.flatMap strE = l.map str := by
  induction l with
  | nil => rfl
  | cons a r ih => rw [List.flatMap_cons, ih]; rfl
theorem strs_len (l : List (List UInt8)) : (l.flatMap strE).length = l.length := by rw [strs_flat, List.length_map]
theorem strs_set {out : List (List UInt8)} {i m : Nat} {v : List UInt8} (ho : out.length = i) (hm : 0 < m) : ((out ++ List.replicate m []).flatMap strE).set i (str v) = ((out ++ [v]) ++ List.replicate (m - 1) []).flatMap strE := by
  obtain ⟨k, rfl⟩ : ∃ k, m = k + 1 := ⟨m - 1, by omega⟩
  subst ho
  rw [strs_flat, strs_flat, Nat.add_sub_cancel, List.replicate_succ]
  simp
theorem made_str (z : Value) (hz : z = str []) (n : Nat) : (madeCells z.cells (n * 1)).toList = (List.replicate n []).flatMap strE := by
  subst hz
  rw [strs_flat, Nat.mul_one]
  apply List.ext_getElem?
  intro j
  by_cases h : j < n
  · simp [madeCells, h, List.getElem?_replicate, Value.cells, Nat.mod_one]
  · simp [madeCells, h, List.getElem?_replicate]
set_option maxHeartbeats 1000000 in
theorem genSplit1_any (s : List UInt8) (c : UInt8) (hs : s.length ≤ 1000000000) (w : World) :
    Calls Tryd.prog 91 #[str s, str [c], .int .i64 0, .int .i64 (-1)] w fun e w' => ∃ A q, e = .returned (.slice A (splitC c s).length q) ∧ w'.ownsRow w.heap.size 9 1 (.slice A (splitC c s).length q) (splitC c s).length ((splitC c s).flatMap strE) ∧ Below w.heap.size w w' := by
  have hcl : s.count c ≤ s.length := List.count_le_length
  have hsl := splitC_len c s
  refine enter_args (args := [str s, str [c], .int .i64 0, .int .i64 (-1)]) (F := _) Tryd.func91 rfl Tryd.ntmps91 rfl rfl ?_
  intro Rb hRb hRn
  refine T_seq ?_
  refine T_region ?_
  refine S_nilSlice 8 (e := 9) (size := 1) ?_
  refine S_ 8 rfl rfl rfl _ (y_assign rfl rfl) ?_
  refine S_go (fun _ _ h => h) ?_
  refine T_seq ?_
  refine T_seq ?_
  refine T_region ?_
  refine S_ 12 rfl rfl rfl _ (y_move rfl rfl) ?_
  refine S_ 13 rfl rfl rfl _ (y_bin rfl rfl rfl (fun _ => b_eql)) ?_
  refine S_go (fun _ _ h => h) ?_
  refine T_cond rfl (fun h13 => ?_) (fun h13 => ?_)
  · skip
    simp at h13
  · skip
    refine T_skip_go (fun _ _ h => h) ?_
    refine T_seq ?_
    refine T_seq ?_
    refine T_region ?_
    refine S_ 14 rfl rfl rfl _ (y_move rfl rfl) ?_
    refine S_ 15 rfl rfl rfl _ (y_bin rfl rfl rfl (fun _ => b_eqls)) ?_
    refine S_go (fun _ _ h => h) ?_
    refine T_cond rfl (fun h15 => ?_) (fun h15 => ?_)
    · skip
      simp at h15
    · skip
      refine T_skip_go (fun _ _ h => h) ?_
      refine T_seq ?_
      refine T_seq ?_
      refine T_region ?_
      refine S_ 19 rfl rfl rfl _ (y_move rfl rfl) ?_
      refine S_ 20 rfl rfl rfl _ (y_bin rfl rfl rfl (fun _ => b_lss)) ?_
      refine S_go (fun _ _ h => h) ?_
      refine T_cond rfl (fun h20 => ?_) (fun h20 => ?_)
      · skip
        refine T_region ?_
        refine S_ 21 rfl rfl rfl _ (y_move rfl rfl) ?_
        refine S_ 22 rfl rfl rfl _ (y_move rfl rfl) ?_
        refine S_ 23 rfl rfl rfl _ (y_call rfl rfl rfl cf121 (fun _ w _ => Count1_any s c w)) ?_
        refine S_ 24 rfl rfl rfl _ (y_bin rfl rfl rfl (fun hg => b_addv (((s.count c + 1 : Nat) : Int)) (by omega) (by omega))) ?_
        refine S_ 3 rfl rfl rfl _ (y_assign rfl rfl) ?_
        refine S_go (fun _ _ h => h) ?_
        refine T_seq ?_
        refine T_region ?_
        refine S_ 25 rfl rfl rfl _ (y_move rfl rfl) ?_
        refine S_ 26 rfl rfl rfl _ (y_move rfl rfl) ?_
        refine S_ 27 rfl rfl rfl _ (y_len_str rfl rfl Tryd.underlying9) ?_
        refine S_ 28 rfl rfl rfl _ (y_bin rfl rfl rfl (fun hg => b_add (by omega))) ?_
        refine S_ 29 rfl rfl rfl _ (y_as (v' := .int .i64 ((s.count c + 1 : Nat) : Int)) (by congr 1; split <;> omega) (y_min rfl rfl rfl)) ?_
        refine S_ 3 rfl rfl rfl _ (y_assign rfl rfl) ?_
        refine S_go (fun _ _ h => h) ?_
        refine T_seq ?_
        refine T_region ?_
        refine S_ 30 rfl rfl rfl _ (y_move rfl rfl) ?_
        obtain ⟨i31, hi31, hz31, hs31, hy31⟩ := info_parts inf9
        refine S_makeSlice 31 31 rfl rfl rfl rfl rfl rfl Tryd.underlying46 hi31 hz31 hs31 (by rw [hy31]; omega) ((by simp only [maxLen]; omega)) rfl ?_
        intro b31
        refine S_ 9 rfl rfl rfl _ (y_assign rfl rfl) ?_
        refine S_go (fun _ _ h => h) ?_
        refine T_seq ?_
        refine T_region ?_
        refine S_ 32 rfl rfl rfl _ (y_move rfl rfl) ?_
        refine S_ 33 rfl rfl rfl _ (y_bin rfl rfl rfl (fun hg => b_subv (((s.count c : Nat) : Int)) (by omega) (by omega))) ?_
        refine S_ 3 rfl rfl rfl _ (y_assign rfl rfl) ?_
        refine S_go (fun _ _ h => h) ?_
        refine T_seq ?_
        refine T_region ?_
        refine S_ 10 rfl rfl rfl _ (y_assign rfl rfl) ?_
        refine S_go (fun _ _ h => h) ?_
        refine T_seq ?_
        refine T_block ?_
        refine T_loopK3 (kf := [(0, 0), (10, 11), (34, 57)]) (kl := [(0, 0), (10, 11), (31, 31), (34, 57)]) (fun (i : Nat) (out : List (List UInt8)) (rest : List UInt8) => [(10, true, .int .i64 (i : Int)), (0, true, str rest)]) (fun (i : Nat) (out : List (List UInt8)) (rest : List UInt8) => [(31, .own 9 1 (.slice (some ⟨b31, 0, none⟩) (s.count c + 1) (s.count c + 1)) (s.count c + 1) ((out ++ List.replicate (s.count c + 1 - i) []).flatMap strE))]) (fun (i : Nat) (out : List (List UInt8)) (rest : List UInt8) => out.length = i ∧ out ++ splitC c rest = splitC c s ∧ i + (splitC c rest).length = s.count c + 1 ∧ rest.length ≤ s.length) (fun (i : Nat) (out : List (List UInt8)) (rest : List UInt8) => s.count c + 1 - i) 0 [] s (by repeat (first | exact kf_nil | (apply kf_in; focus rfl) | (apply kf_out; focus rfl))) (by repeat (first | exact kl_nil | exact kl_rest (by assumption) rfl | (apply kl_in; focus rfl) | (apply kl_out; focus rfl))) ?_ ?_ ?_ ?_
        · exact ⟨rfl, rfl, by omega, by omega⟩
        · exact ⟨rfl, rfl, trivial⟩
        · exact ⟨by rw [made_str _ rfl]; rfl, trivial⟩
        rintro i out rest ⟨hp1, hp2, hp3, hp4⟩
        refine T_seq ?_
        refine T_seq ?_
        refine T_region ?_
        refine S_ 34 rfl rfl rfl _ (y_move rfl rfl) ?_
        refine S_ 35 rfl rfl rfl _ (y_move rfl rfl) ?_
        refine S_ 36 rfl rfl rfl _ (y_bin rfl rfl rfl (fun _ => b_lss)) ?_
        refine S_go (fun _ _ h => h) ?_
        refine T_cond rfl (fun h36 => ?_) (fun h36 => ?_)
        · try simp only [decide_eq_true_eq, decide_eq_false_iff_not, Bool.or_eq_true, Bool.or_eq_false_iff, Bool.and_eq_true, Bool.and_eq_false_iff, Bool.not_eq_true', Bool.not_eq_false', Bool.not_eq_true, Bool.not_eq_false, Bool.not_true, Bool.not_false, Int.not_lt, Int.not_le, not_or, not_and, Classical.not_not] at h36
          refine T_skip_go (fun _ _ h => h) ?_
          refine T_block ?_
          refine T_seq ?_
          refine T_region ?_
          refine S_ 37 rfl rfl rfl _ (y_move rfl rfl) ?_
          refine S_ 38 rfl rfl rfl _ (y_move rfl rfl) ?_
          refine S_ 39 rfl rfl rfl _ (y_call rfl rfl rfl cf113 (fun _ w _ => Index1_any rest c w)) ?_
          refine S_ 11 rfl rfl rfl _ (y_assign rfl rfl) ?_
          refine S_go (fun _ _ h => h) ?_
          refine T_seq ?_
          refine T_seq ?_
          refine T_region ?_
          refine S_ 40 rfl rfl rfl _ (y_move rfl rfl) ?_
          refine S_ 41 rfl rfl rfl _ (y_bin rfl rfl rfl (fun _ => b_lss)) ?_
          refine S_go (fun _ _ h => h) ?_
          refine T_cond rfl (fun h41 => ?_) (fun h41 => ?_)
          · try simp only [decide_eq_true_eq, decide_eq_false_iff_not, Bool.or_eq_true, Bool.or_eq_false_iff, Bool.and_eq_true, Bool.and_eq_false_iff, Bool.not_eq_true', Bool.not_eq_false', Bool.not_eq_true, Bool.not_eq_false, Bool.not_true, Bool.not_false, Int.not_lt, Int.not_le, not_or, not_and, Classical.not_not] at h41
            have hix : Lib.indexByte rest c = -1 := by have := Lib.indexByte_ge rest c; omega
            have hr0 : splitC c rest = [rest] := splitC_none c rest (Lib.indexByte_none hix)
            have hi1 : i + 1 = s.count c + 1 := by rw [hr0] at hp3; exact hp3
            refine T_exit_go (fun _ _ h => h) ?_
            refine T_seq ?_
            refine T_region ?_
            refine S_ 58 rfl rfl rfl _ (y_move rfl rfl) ?_
            refine S_ 59 rfl rfl rfl _ (y_move rfl rfl) ?_
            refine S_ 60 rfl rfl rfl _ (y_move rfl rfl) ?_
            refine S_ 61 rfl rfl rfl _ (y_indexOwn 31 rfl rfl rfl rfl Tryd.underlying46 sz9 (fun _ => by omega)) ?_
            refine S_storeOwn 31 rfl rfl rfl rfl rfl rfl sz9 rfl rfl ?_ (xs' := ((out ++ [rest]) ++ List.replicate (s.count c + 1 - i - 1) []).flatMap strE) ?_ ?_
            · (rw [strs_len, List.length_append, List.length_replicate]; omega)
            · exact strs_set hp1 (by omega)
            refine S_go (fun _ _ h => h) ?_
            refine T_seq ?_
            refine T_region ?_
            refine S_ 62 rfl rfl rfl _ (y_move rfl rfl) ?_
            refine S_ 63 rfl rfl rfl _ (y_move rfl rfl) ?_
            refine S_ 64 rfl rfl rfl _ (y_bin rfl rfl rfl (fun hg => b_addv (((i + 1 : Nat) : Int)) (by omega) (by omega))) ?_
            refine S_shrink 31 (i + 1) rfl (by omega) ?_
            refine S_ 65 rfl rfl rfl _ (y_as (v' := .slice (some ⟨b31, 0, none⟩) (i + 1) (s.count c + 1)) (by rw [slice0, Nat.sub_zero, Nat.sub_zero]) (y_slice (lo := 0) (hi := i + 1) rfl rfl Tryd.underlying46 sz9 (.inl ⟨rfl, rfl⟩) (.inr ⟨_, _, rfl, rfl⟩) (by omega) (by omega) (Nat.le_refl _))) ?_
            refine S_ 8 rfl rfl rfl _ (y_assign rfl rfl) ?_
            refine S_go (fun _ _ h => h) ?_
            refine T_ret (fun a w hF hM => hRb a w (post1 rfl rfl (fun w hM => ?_) a w hF hM))
            have hfin : splitC c s = out ++ [rest] := by rw [← hp2, hr0]
            have hlen : (splitC c s).length = i + 1 := by rw [hfin, List.length_append, hp1]; rfl
            rw [hlen]
            refine ⟨some ⟨b31, 0, none⟩, s.count c + 1, rfl, ?_, hM.below⟩
            have h := hM.sat 31 _ rfl
            rw [show s.count c + 1 - i - 1 = 0 by omega, List.replicate_zero, List.append_nil, ← hfin, List.take_of_length_le (by rw [strs_len, hlen]; omega)] at h
            exact h
          · try simp only [decide_eq_true_eq, decide_eq_false_iff_not, Bool.or_eq_true, Bool.or_eq_false_iff, Bool.and_eq_true, Bool.and_eq_false_iff, Bool.not_eq_true', Bool.not_eq_false', Bool.not_eq_true, Bool.not_eq_false, Bool.not_true, Bool.not_false, Int.not_lt, Int.not_le, not_or, not_and, Classical.not_not] at h41
            obtain ⟨o, ho⟩ : ∃ o : Nat, Lib.indexByte rest c = o := ⟨(Lib.indexByte rest c).toNat, by omega⟩
            obtain ⟨ho1, ho2⟩ := Lib.indexByte_some ho
            have hol := (List.getElem?_eq_some_iff.1 ho1).1
            have hsp := splitC_some c rest o ho1 ho2
            have hdl : (rest.drop (o + 1)).length = rest.length - (o + 1) := List.length_drop
            refine T_skip_go (fun _ _ h => h) ?_
            refine T_seq ?_
            refine T_region ?_
            refine S_ 42 rfl rfl rfl _ (y_move rfl rfl) ?_
            refine S_ 43 rfl rfl rfl _ (y_move rfl rfl) ?_
            refine S_ 44 rfl rfl rfl _ (y_move rfl rfl) ?_
            refine S_ 45 rfl rfl rfl _ (y_move rfl rfl) ?_
            refine S_ 46 rfl rfl rfl _ (y_move rfl rfl) ?_
            refine S_ 47 rfl rfl rfl _ (y_bin rfl rfl rfl (fun hg => b_addv (((o : Nat) : Int)) (by omega) (by omega))) ?_
            refine S_ 48 rfl rfl rfl _ (y_as (v' := str (rest.take o)) (by rfl) (y_strTo rfl rfl rfl Tryd.underlying9 (fun _ => by omega))) ?_
            refine S_ 49 rfl rfl rfl _ (y_indexOwn 31 rfl rfl rfl rfl Tryd.underlying46 sz9 (fun _ => by omega)) ?_
            refine S_storeOwn 31 rfl rfl rfl rfl rfl rfl sz9 rfl rfl ?_ (xs' := ((out ++ [rest.take o]) ++ List.replicate (s.count c + 1 - i - 1) []).flatMap strE) ?_ ?_
            · (rw [strs_len, List.length_append, List.length_replicate]; omega)
            · exact strs_set hp1 (by omega)
            refine S_go (fun _ _ h => h) ?_
            refine T_seq ?_
            refine T_region ?_
            refine S_ 50 rfl rfl rfl _ (y_move rfl rfl) ?_
            refine S_ 51 rfl rfl rfl _ (y_move rfl rfl) ?_
            refine S_ 52 rfl rfl rfl _ (y_move rfl rfl) ?_
            refine S_ 53 rfl rfl rfl _ (y_as (v' := .int .i64 1) (by exact rfl) (y_len_str rfl rfl Tryd.underlying9)) ?_
            refine S_ 54 rfl rfl rfl _ (y_bin rfl rfl rfl (fun hg => b_addv (((o + 1 : Nat) : Int)) (by omega) (by omega))) ?_
            refine S_ 55 rfl rfl rfl _ (y_as (v' := str (rest.drop (o + 1))) (by rfl) (y_strFrom rfl rfl rfl Tryd.underlying9 (fun _ => by omega))) ?_
            refine S_ 0 rfl rfl rfl _ (y_assign rfl rfl) ?_
            refine S_go (fun _ _ h => h) ?_
            refine T_region ?_
            refine S_ 56 rfl rfl rfl _ (y_move rfl rfl) ?_
            refine S_ 57 rfl rfl rfl _ (y_bin rfl rfl rfl (fun hg => b_addv (((i + 1 : Nat) : Int)) (by omega) (by omega))) ?_
            refine S_ 10 rfl rfl rfl _ (y_assign rfl rfl) ?_
            refine S_nil (nextK3 (kf := [(0, 0), (10, 11), (34, 57)]) (kl := [(0, 0), (10, 11), (31, 31), (34, 57)]) (i + 1) (out ++ [rest.take o]) (rest.drop (o + 1)) (by repeat (first | exact kf_nil | (apply kf_in; focus rfl) | (apply kf_out; focus rfl))) (by repeat (first | exact kl_nil | exact kl_rest (by assumption) rfl | (apply kl_in; focus rfl) | (apply kl_out; focus rfl))) ?_ ?_ ?_ ?_)
            · omega
            · exact ⟨by simp [hp1], by rw [← hp2, hsp, List.append_assoc]; rfl, by rw [hsp, List.length_cons] at hp3; omega, by omega⟩
            · exact ⟨rfl, rfl, trivial⟩
            · exact ⟨rfl, trivial⟩
        · try simp only [decide_eq_true_eq, decide_eq_false_iff_not, Bool.or_eq_true, Bool.or_eq_false_iff, Bool.and_eq_true, Bool.and_eq_false_iff, Bool.not_eq_true', Bool.not_eq_false', Bool.not_eq_true, Bool.not_eq_false, Bool.not_true, Bool.not_false, Int.not_lt, Int.not_le, not_or, not_and, Classical.not_not] at h36
          have hr0 : splitC c rest = [rest] := by
            rcases hq : splitC c rest with _ | ⟨a, _ | ⟨b, t⟩⟩
            · rw [hq] at hp3; have := splitC_len c rest; rw [hq] at this; simp at this
            · have h1 := splitC_len c rest
              rw [hq] at h1
              rw [← hq]
              refine splitC_none c rest fun k hk => ?_
              have := List.count_pos_iff.2 (List.mem_of_getElem? hk)
              simp at h1
              omega
            · rw [hq] at hp3; simp at hp3; omega
          have hi1 : i + 1 = s.count c + 1 := by rw [hr0] at hp3; exact hp3
          refine T_exit_go (fun _ _ h => h) ?_
          refine T_seq ?_
          refine T_region ?_
          refine S_ 58 rfl rfl rfl _ (y_move rfl rfl) ?_
          refine S_ 59 rfl rfl rfl _ (y_move rfl rfl) ?_
          refine S_ 60 rfl rfl rfl _ (y_move rfl rfl) ?_
          refine S_ 61 rfl rfl rfl _ (y_indexOwn 31 rfl rfl rfl rfl Tryd.underlying46 sz9 (fun _ => by omega)) ?_
          refine S_storeOwn 31 rfl rfl rfl rfl rfl rfl sz9 rfl rfl ?_ (xs' := ((out ++ [rest]) ++ List.replicate (s.count c + 1 - i - 1) []).flatMap strE) ?_ ?_
          · (rw [strs_len, List.length_append, List.length_replicate]; omega)
          · exact strs_set hp1 (by omega)
          refine S_go (fun _ _ h => h) ?_
          refine T_seq ?_
          refine T_region ?_
          refine S_ 62 rfl rfl rfl _ (y_move rfl rfl) ?_
          refine S_ 63 rfl rfl rfl _ (y_move rfl rfl) ?_
          refine S_ 64 rfl rfl rfl _ (y_bin rfl rfl rfl (fun hg => b_addv (((i + 1 : Nat) : Int)) (by omega) (by omega))) ?_
          refine S_shrink 31 (i + 1) rfl (by omega) ?_
          refine S_ 65 rfl rfl rfl _ (y_as (v' := .slice (some ⟨b31, 0, none⟩) (i + 1) (s.count c + 1)) (by rw [slice0, Nat.sub_zero, Nat.sub_zero]) (y_slice (lo := 0) (hi := i + 1) rfl rfl Tryd.underlying46 sz9 (.inl ⟨rfl, rfl⟩) (.inr ⟨_, _, rfl, rfl⟩) (by omega) (by omega) (Nat.le_refl _))) ?_
          refine S_ 8 rfl rfl rfl _ (y_assign rfl rfl) ?_
          refine S_go (fun _ _ h => h) ?_
          refine T_ret (fun a w hF hM => hRb a w (post1 rfl rfl (fun w hM => ?_) a w hF hM))
          have hfin : splitC c s = out ++ [rest] := by rw [← hp2, hr0]
          have hlen : (splitC c s).length = i + 1 := by rw [hfin, List.length_append, hp1]; rfl
          rw [hlen]
          refine ⟨some ⟨b31, 0, none⟩, s.count c + 1, rfl, ?_, hM.below⟩
          have h := hM.sat 31 _ rfl
          rw [show s.count c + 1 - i - 1 = 0 by omega, List.replicate_zero, List.append_nil, ← hfin, List.take_of_length_le (by rw [strs_len, hlen]; omega)] at h
          exact h
      · skip
        simp at h20
theorem Split1_any (s : List UInt8) (c : UInt8) (hs : s.length ≤ 1000000000) (w : World) :
    Calls Tryd.prog 30 #[str s, str [c]] w fun e w' => ∃ A q, e = .returned (.slice A (splitC c s).length q) ∧ w'.ownsRow w.heap.size 9 1 (.slice A (splitC c s).length q) (splitC c s).length ((splitC c s).flatMap strE) ∧ Below w.heap.size w w' := by
  refine enter_args (args := [str s, str [c]]) (F := _) Tryd.func30 rfl Tryd.ntmps30 rfl rfl ?_
  intro Rb hRb hRn
  refine T_seq ?_
  refine T_region ?_
  refine S_nilSlice 4 (e := 9) (size := 1) ?_
  refine S_ 4 rfl rfl rfl _ (y_assign rfl rfl) ?_
  refine S_go (fun _ _ h => h) ?_
  refine T_seq ?_
  refine T_region ?_
  refine S_ 5 rfl rfl rfl _ (y_move rfl rfl) ?_
  refine S_ 6 rfl rfl rfl _ (y_move rfl rfl) ?_
  refine S_callOwn 7 7 rfl rfl rfl rfl rfl rfl rfl cf91 (fun A q => .slice A (splitC c s).length q) 9 1 ((splitC c s).length) ((splitC c s).flatMap strE) (fun w hM => genSplit1_any s c hs w) ?_
  intro A7 c7
  refine S_ 4 rfl rfl rfl _ (y_assign rfl rfl) ?_
  refine S_go (fun _ _ h => h) ?_
  refine T_ret (fun a w hF hM => hRb a w (post1 rfl rfl (fun w hM => ?_) a w hF hM))
  exact ⟨A7, c7, rfl, hM.sat 7 _ rfl, hM.below⟩
/-! ### Cut -/
def cutC (c : UInt8) (s : List UInt8) : List UInt8 × List UInt8 × Bool := if Lib.indexByte s c < 0 then (s, [], false) else (s.take (Lib.indexByte s c).toNat, s.drop ((Lib.indexByte s c).toNat + 1), true)
theorem LCut1_any (s : List UInt8) (c : UInt8) (w : World) (hs : s.length ≤ 4611686018427387904) : Calls Tryd.prog 116 #[str s, str [c]] w fun e w' => e = .returned (.tuple #[str (cutC c s).1, str (cutC c s).2.1, .bool (cutC c s).2.2]) ∧ Below w.heap.size w w' := by
  refine enter_args (args := [str s, str [c]]) (F := _) Tryd.func116 rfl Tryd.ntmps116 rfl rfl ?_
  intro Rb hRb hRn
  refine T_seq ?_
  refine T_region ?_
  refine S_ 4 rfl rfl rfl _ (y_assign rfl rfl) ?_
  refine S_ 5 rfl rfl rfl _ (y_assign rfl rfl) ?_
  refine S_ 6 rfl rfl rfl _ (y_assign rfl rfl) ?_
  refine S_go (fun _ _ h => h) ?_
  refine T_seq ?_
  refine T_seq ?_
  refine T_region ?_
  refine S_ 8 rfl rfl rfl _ (y_move rfl rfl) ?_
  refine S_ 9 rfl rfl rfl _ (y_move rfl rfl) ?_
  refine S_ 10 rfl rfl rfl _ (y_call rfl rfl rfl cf131 (fun _ w _ => LIndex1_any s c w)) ?_
  refine S_ 7 rfl rfl rfl _ (y_assign rfl rfl) ?_
  refine S_go (fun _ _ h => h) ?_
  refine T_seq ?_
  refine T_region ?_
  refine S_ 11 rfl rfl rfl _ (y_move rfl rfl) ?_
  refine S_ 12 rfl rfl rfl _ (y_bin rfl rfl rfl (fun _ => b_geq)) ?_
  refine S_go (fun _ _ h => h) ?_
  refine T_cond rfl (fun h12 => ?_) (fun h12 => ?_)
  · try simp only [decide_eq_true_eq, decide_eq_false_iff_not, Bool.or_eq_true, Bool.or_eq_false_iff, Bool.and_eq_true, Bool.and_eq_false_iff, Bool.not_eq_true', Bool.not_eq_false', Bool.not_eq_true, Bool.not_eq_false, Bool.not_true, Bool.not_false, Int.not_lt, Int.not_le, not_or, not_and, Classical.not_not] at h12
    obtain ⟨o, ho⟩ : ∃ o : Nat, Lib.indexByte s c = o := ⟨(Lib.indexByte s c).toNat, by omega⟩
    obtain ⟨ho1, ho2⟩ := Lib.indexByte_some ho
    have hol := (List.getElem?_eq_some_iff.1 ho1).1
    refine T_seq ?_
    refine T_draws (by kernel_rfl) (by kernel_rfl) ?_
    refine D_ 13 rfl rfl rfl _ (y_move rfl rfl) ?_
    refine D_ 14 rfl rfl rfl _ (y_as (v' := .int .i64 ((o : Nat) : Int)) (by rw [ho]) (y_move rfl rfl)) ?_
    refine D_ 15 rfl rfl rfl _ (y_strTo rfl rfl rfl Tryd.underlying9 (fun _ => by omega)) ?_
    refine D_ 16 rfl rfl rfl _ (y_move rfl rfl) ?_
    refine D_ 17 rfl rfl rfl _ (y_as (v' := .int .i64 ((o : Nat) : Int)) (by rw [ho]) (y_move rfl rfl)) ?_
    refine D_ 18 rfl rfl rfl _ (y_move rfl rfl) ?_
    refine D_ 19 rfl rfl rfl _ (y_as (v' := .int .i64 1) (by exact rfl) (y_len_str rfl rfl Tryd.underlying9)) ?_
    refine D_ 20 rfl rfl rfl _ (y_bin rfl rfl rfl (fun hg => b_addv (((o + 1 : Nat) : Int)) (by omega) (by omega))) ?_
    refine D_ 21 rfl rfl rfl _ (y_strFrom rfl rfl rfl Tryd.underlying9 (fun _ => by omega)) ?_
    refine D_ 4 rfl rfl rfl _ (y_assign rfl rfl) ?_
    refine D_ 5 rfl rfl rfl _ (y_assign rfl rfl) ?_
    refine D_ 6 rfl rfl rfl _ (y_assign rfl rfl) ?_
    refine D_go (fun _ _ h => h) ?_
    refine T_ret (fun a w hF hM => hRb a w (post3 rfl rfl rfl rfl (fun w hM => ?_) a w hF hM))
    exact ⟨by rw [cutC, if_neg (by omega), ho]; rfl, hM.below⟩
  · try simp only [decide_eq_true_eq, decide_eq_false_iff_not, Bool.or_eq_true, Bool.or_eq_false_iff, Bool.and_eq_true, Bool.and_eq_false_iff, Bool.not_eq_true', Bool.not_eq_false', Bool.not_eq_true, Bool.not_eq_false, Bool.not_true, Bool.not_false, Int.not_lt, Int.not_le, not_or, not_and, Classical.not_not] at h12
    refine T_skip_go (fun _ _ h => h) ?_
    refine T_seq ?_
    refine T_region ?_
    refine S_ 22 rfl rfl rfl _ (y_move rfl rfl) ?_
    refine S_ 4 rfl rfl rfl _ (y_assign rfl rfl) ?_
    refine S_ 5 rfl rfl rfl _ (y_assign rfl rfl) ?_
    refine S_ 6 rfl rfl rfl _ (y_assign rfl rfl) ?_
    refine S_go (fun _ _ h => h) ?_
    refine T_ret (fun a w hF hM => hRb a w (post3 rfl rfl rfl rfl (fun w hM => ?_) a w hF hM))
    exact ⟨by rw [cutC, if_pos (by omega)], hM.below⟩
theorem Cut1_any (s : List UInt8) (c : UInt8) (w : World) (hs : s.length ≤ 4611686018427387904) : Calls Tryd.prog 76 #[str s, str [c]] w fun e w' => e = .returned (.tuple #[str (cutC c s).1, str (cutC c s).2.1, .bool (cutC c s).2.2]) ∧ Below w.heap.size w w' := by
  refine enter_args (args := [str s, str [c]]) (F := _) Tryd.func76 rfl Tryd.ntmps76 rfl rfl ?_
  intro Rb hRb hRn
  refine T_seq ?_
  refine T_region ?_
  refine S_ 4 rfl rfl rfl _ (y_assign rfl rfl) ?_
  refine S_ 5 rfl rfl rfl _ (y_assign rfl rfl) ?_
  refine S_ 6 rfl rfl rfl _ (y_assign rfl rfl) ?_
  refine S_go (fun _ _ h => h) ?_
  refine T_seq ?_
  refine T_region ?_
  refine S_ 7 rfl rfl rfl _ (y_move rfl rfl) ?_
  refine S_ 8 rfl rfl rfl _ (y_move rfl rfl) ?_
  refine S_ 9 rfl rfl rfl _ (y_call rfl rfl rfl cf116 (fun _ w _ => LCut1_any s c w hs)) ?_
  refine S_ 10 rfl rfl rfl _ (y_extract rfl rfl rfl) ?_
  refine S_ 11 rfl rfl rfl _ (y_extract rfl rfl rfl) ?_
  refine S_ 12 rfl rfl rfl _ (y_extract rfl rfl rfl) ?_
  refine S_ 4 rfl rfl rfl _ (y_assign rfl rfl) ?_
  refine S_ 5 rfl rfl rfl _ (y_assign rfl rfl) ?_
  refine S_ 6 rfl rfl rfl _ (y_assign rfl rfl) ?_
  refine S_go (fun _ _ h => h) ?_
  refine T_ret (fun a w hF hM => hRb a w (post3 rfl rfl rfl rfl (fun w hM => ?_) a w hF hM))
  exact ⟨rfl, hM.below⟩
/-! ### Words in a list -/
end Go.Proofs.YtkkngcdikbhkjaaDoor
end
section
namespace Go.Proofs.YtkkngcdikbhkjaaDoor
set_option linter.unusedSimpArgs false
set_option linter.unusedVariables false
set_option maxRecDepth 20000
open Go.RowKit Go.Eng
theorem dropWhile_nil {p : UInt8 → Bool} : ∀ {l : List UInt8}, l.dropWhile p = [] → ∀ c ∈ l, p c = true
  | [], _ => fun c h => by cases h
  | a :: r, h => fun c hc => by
    rw [List.dropWhile_cons] at h
    split at h
    · rcases List.mem_cons.1 hc with rfl | hc
      · assumption
      · exact dropWhile_nil h c hc
    · cases h
theorem dropWhile_head {p : UInt8 → Bool} : ∀ {l : List UInt8} {y : UInt8} {t : List UInt8}, l.dropWhile p = y :: t → p y = false
  | [], y, t, h => by simp at h
  | a :: r, y, t, h => by
    rw [List.dropWhile_cons] at h
    split at h
    · exact dropWhile_head h
    · rename_i hp
      obtain ⟨rfl, _⟩ := List.cons.inj h
      simpa using hp
theorem trimS_nil {s cs : List UInt8} (h : Lib.trimS s cs = []) : ∀ c ∈ s, cs.contains c = true := by
  have h1 := dropWhile_nil (l := Lib.trimRightS s cs) h
  have h2 : s.reverse.dropWhile (cs.contains ·) = [] := by
    cases hq : s.reverse.dropWhile (cs.contains ·) with
    | nil => rfl
    | cons y t =>
      have h3 := dropWhile_head hq
      have h4 := h1 y (by unfold Lib.trimRightS; rw [hq]; simp)
      rw [h3] at h4; cases h4
  intro c hc
  exact dropWhile_nil h2 c (List.mem_reverse.2 hc)
abbrev digB : List UInt8 := [48, 49, 50, 51, 52, 53, 54, 55, 56, 57]
def allOf (s cs : List UInt8) : Bool := !decide (s = []) && decide (Lib.trimS s cs = [])
theorem digB_iff {c : UInt8} (h : digB.contains c = true) : 48 ≤ c.toNat ∧ c.toNat ≤ 57 := by
  have h : c ∈ digB := by simpa using h
  simp only [digB, List.mem_cons, List.not_mem_nil, or_false] at h
  rcases h with rfl | rfl | rfl | rfl | rfl | rfl | rfl | rfl | rfl | rfl <;> decide
theorem allOf_dig {s : List UInt8} (h : allOf s digB = true) : s ≠ [] ∧ ∀ c ∈ s, 48 ≤ c.toNat ∧ c.toNat ≤ 57 := by
  simp only [allOf, Bool.and_eq_true, Bool.not_eq_true', decide_eq_false_iff_not, decide_eq_true_eq] at h
  exact ⟨h.1, fun c hc => digB_iff (trimS_nil h.2 c hc)⟩
theorem allOfD_any (s : List UInt8) (hs : s.length ≤ 1000000000) (w : World) : Calls Tryd.prog 119 #[str s, str digB] w fun e w' => e = .returned (.bool (allOf s digB)) ∧ Below w.heap.size w w' := by
  refine enter_args (args := [str s, str digB]) (F := _) Tryd.func119 rfl Tryd.ntmps119 rfl rfl ?_
  intro Rb hRb hRn
  refine T_seq ?_
  refine T_region ?_
  refine S_ 4 rfl rfl rfl _ (y_assign rfl rfl) ?_
  refine S_go (fun _ _ h => h) ?_
  refine T_seq ?_
  refine T_region ?_
  refine S_ 5 rfl rfl rfl _ (y_move rfl rfl) ?_
  refine S_ 6 rfl rfl rfl _ (y_bin rfl rfl rfl (fun _ => b_neqs)) ?_
  refine S_ 7 rfl rfl rfl _ (y_move rfl rfl) ?_
  refine Sg_ 8 rfl rfl rfl rfl rfl rfl _ (y_move rfl rfl) ?_
  refine Sg_ 9 rfl rfl rfl rfl rfl rfl _ (y_move rfl rfl) ?_
  refine Sg_ 10 rfl rfl rfl rfl rfl rfl _ (y_call rfl rfl rfl cf34 (fun _ w _ => Any.strings_Trim_laid Tryd.lays160 (by kernel_rfl) ⟨s.toArray⟩ ⟨digB.toArray⟩ w (by rw [Lib.size_eq]; simp; omega) (by decide) (ascii_of_all (by decide)))) ?_
  refine Sg_ 11 rfl rfl rfl rfl rfl rfl _ (y_bin rfl rfl rfl (fun _ => b_eqls)) ?_
  refine S_ 12 rfl rfl rfl _ (y_and rfl rfl rfl) ?_
  refine S_ 4 rfl rfl rfl _ (y_assign rfl rfl) ?_
  refine S_go (fun _ _ h => h) ?_
  refine T_ret (fun a w hF hM => hRb a w (post1 rfl rfl (fun w hM => ?_) a w hF hM))
  exact ⟨rfl, hM.below⟩
def valD (s : List UInt8) : Nat := s.foldl (fun n c => n * 10 + (c.toNat - 48)) 0
theorem valD_snoc (l : List UInt8) (c : UInt8) : valD (l ++ [c]) = valD l * 10 + (c.toNat - 48) := by rw [valD, List.foldl_append]; rfl
theorem wrap8_in {V : Int} (h : 0 ≤ V ∧ V ≤ 255) : IntKind.u8.wrap V = V := IntWalk.u8_in _ (by omega)
theorem bytesV_at {s : List UInt8} {i : Nat} (h : i < s.length) : (bytesV s)[i]? = some (.int .u8 (((s.getD i 0).toNat : Nat) : Int)) := by
  simp [bytesV, List.getElem?_map, List.getElem?_eq_getElem h, List.getD_eq_getElem?_getD]
theorem getD_mem {s : List UInt8} {i : Nat} (h : i < s.length) : s.getD i 0 ∈ s := by
  rw [List.getD_eq_getElem?_getD, List.getElem?_eq_getElem h]; exact List.getElem_mem h
theorem take_getD {s : List UInt8} {i : Nat} (h : i < s.length) : s.take (i + 1) = s.take i ++ [s.getD i 0] := by
  rw [List.getD_eq_getElem?_getD, List.getElem?_eq_getElem h, List.take_succ_eq_append_getElem h]; rfl
theorem iAtoi_any (s : List UInt8) (h0 : s ≠ []) (h6 : s.length ≤ 18) (hd : ∀ c ∈ s, 48 ≤ c.toNat ∧ c.toNat ≤ 57) (w : World) :
    Calls Tryd.prog 122 #[str s] w fun e w' => e = .returned (.tuple #[.int .i64 (valD s : Nat), .nilIface]) ∧ Below w.heap.size w w' := by
  have hl : 0 < s.length := List.length_pos_iff.2 h0
  have hd0 := hd _ (getD_mem (i := 0) hl)
  refine enter_args (args := [str s]) (F := _) Tryd.func122 rfl Tryd.ntmps122 rfl rfl ?_
  intro Rb hRb hRn
  refine T_seq ?_
  refine T_region ?_
  refine S_ 2 rfl rfl rfl _ (y_assign rfl rfl) ?_
  refine S_ 3 rfl rfl rfl _ (y_assign rfl rfl) ?_
  refine S_go (fun _ _ h => h) ?_
  refine T_seq ?_
  refine T_region ?_
  refine S_ 11 rfl rfl rfl _ (y_move rfl rfl) ?_
  refine S_ 12 rfl rfl rfl _ (y_len_str rfl rfl Tryd.underlying9) ?_
  refine S_ 4 rfl rfl rfl _ (y_assign rfl rfl) ?_
  refine S_go (fun _ _ h => h) ?_
  refine T_seq ?_
  refine T_seq ?_
  refine T_region ?_
  refine S_ 13 rfl rfl rfl _ (y_move rfl rfl) ?_
  refine Sg_ 14 rfl rfl rfl rfl rfl rfl _ (y_move rfl rfl) ?_
  refine Sg_ 15 rfl rfl rfl rfl rfl rfl _ (y_bin rfl rfl rfl (fun _ => b_lss)) ?_
  refine Sg_ 16 rfl rfl rfl rfl rfl rfl _ (y_move rfl rfl) ?_
  refine Sg_ 17 rfl rfl rfl rfl rfl rfl _ (y_move rfl rfl) ?_
  refine Sg_ 18 rfl rfl rfl rfl rfl rfl _ (y_bin rfl rfl rfl (fun _ => b_lss)) ?_
  refine Sg_ 19 rfl rfl rfl rfl rfl rfl _ (y_and rfl rfl rfl) ?_
  refine S_ 20 rfl rfl rfl _ (y_and rfl rfl rfl) ?_
  refine S_ 21 rfl rfl rfl _ (y_move rfl rfl) ?_
  refine Sg_ 22 rfl rfl rfl rfl rfl rfl _ (y_move rfl rfl) ?_
  refine Sg_ 23 rfl rfl rfl rfl rfl rfl _ (y_move rfl rfl) ?_
  refine Sg_ 24 rfl rfl rfl rfl rfl rfl _ (y_bin rfl rfl rfl (fun _ => b_lss)) ?_
  refine Sg_ 25 rfl rfl rfl rfl rfl rfl _ (y_move rfl rfl) ?_
  refine Sg_ 26 rfl rfl rfl rfl rfl rfl _ (y_move rfl rfl) ?_
  refine Sg_ 27 rfl rfl rfl rfl rfl rfl _ (y_bin rfl rfl rfl (fun _ => b_lss)) ?_
  refine Sg_ 28 rfl rfl rfl rfl rfl rfl _ (y_and rfl rfl rfl) ?_
  refine Sg_ 29 rfl rfl rfl rfl rfl rfl _ (y_and rfl rfl rfl) ?_
  refine S_ 30 rfl rfl rfl _ (y_or rfl rfl rfl) ?_
  refine S_go (fun _ _ h => h) ?_
  refine T_cond rfl (fun h30 => ?_) (fun h30 => ?_)
  · skip
    refine T_seq ?_
    refine T_region ?_
    refine S_ 31 rfl rfl rfl _ (y_move rfl rfl) ?_
    refine S_ 5 rfl rfl rfl _ (y_assign rfl rfl) ?_
    refine S_go (fun _ _ h => h) ?_
    refine T_seq ?_
    refine T_seq ?_
    refine T_region ?_
    refine S_ 32 rfl rfl rfl _ (y_move rfl rfl) ?_
    refine S_ 33 rfl rfl rfl _ (y_index_str (j := 0) rfl rfl rfl Tryd.underlying9 (fun _ => hl)) ?_
    refine S_ 34 rfl rfl rfl _ (y_bin rfl rfl rfl (fun _ => b_eql)) ?_
    refine S_ 35 rfl rfl rfl _ (y_move rfl rfl) ?_
    refine Sg_ 36 rfl rfl rfl rfl rfl rfl _ (y_move rfl rfl) ?_
    refine Sg_ 37 rfl rfl rfl rfl rfl rfl _ (y_index_str (j := 0) rfl rfl rfl Tryd.underlying9 (fun _ => hl)) ?_
    refine Sg_ 38 rfl rfl rfl rfl rfl rfl _ (y_bin rfl rfl rfl (fun _ => b_eql)) ?_
    refine S_ 39 rfl rfl rfl _ (y_or rfl rfl rfl) ?_
    refine S_go (fun _ _ h => h) ?_
    refine T_cond rfl (fun h39 => ?_) (fun h39 => ?_)
    · skip
      simp only [Bool.or_eq_true, decide_eq_true_eq] at h39
      omega
    · skip
      refine T_skip_go (fun _ _ h => h) ?_
      refine T_seq ?_
      refine T_region ?_
      refine S_ 6 rfl rfl rfl _ (y_assign rfl rfl) ?_
      refine S_go (fun _ _ h => h) ?_
      refine T_seq ?_
      refine T_seq ?_
      refine T_region ?_
      refine S_ 46 rfl rfl rfl _ (y_move rfl rfl) ?_
      refine S_strBytes 47 47 rfl rfl rfl rfl rfl Tryd.underlying9 Tryd.underlying137 Tryd.underlying5 ?_
      intro b47 c47
      refine S_ 48 rfl rfl rfl _ (y_len_slice rfl rfl Tryd.underlying137) ?_
      refine S_ 49 rfl rfl rfl _ (y_move rfl rfl) ?_
      refine S_go (fun _ _ h => h) ?_
      refine T_block ?_
      refine T_loopK2 (kf := [(2, 3), (6, 6), (8, 8), (49, 63)]) (kl := [(2, 3), (6, 6), (8, 8), (49, 63)]) (fun (i m : Nat) => [(49, true, .int .i64 (i : Int)), (6, true, .int .i64 (m : Int))]) (fun (i m : Nat) => []) (fun (i m : Nat) => i ≤ s.length ∧ m < 10 ^ i ∧ valD (s.take i) = m) (fun (i m : Nat) => s.length - i) 0 0 (by repeat (first | exact kf_nil | (apply kf_in; focus rfl) | (apply kf_out; focus rfl))) (by repeat (first | exact kl_nil | exact kl_rest (by assumption) rfl | (apply kl_in; focus rfl) | (apply kl_out; focus rfl))) ?_ ?_ ?_ ?_
      · exact ⟨by omega, by decide, rfl⟩
      · exact ⟨rfl, rfl, trivial⟩
      · exact trivial
      rintro i m ⟨hp1, hp2, hp3⟩
      refine T_seq ?_
      refine T_region ?_
      refine S_ 50 rfl rfl rfl _ (y_bin rfl rfl rfl (fun _ => b_lss)) ?_
      refine S_go (fun _ _ h => h) ?_
      refine T_seq ?_
      refine T_cond rfl (fun h50 => ?_) (fun h50 => ?_)
      · try simp only [decide_eq_true_eq, decide_eq_false_iff_not, Bool.or_eq_true, Bool.or_eq_false_iff, Bool.and_eq_true, Bool.and_eq_false_iff, Bool.not_eq_true', Bool.not_eq_false', Bool.not_eq_true, Bool.not_eq_false, Bool.not_true, Bool.not_false, Int.not_lt, Int.not_le, not_or, not_and, Classical.not_not] at h50
        have hdi := hd _ (getD_mem (i := i) (by omega))
        have hp10 : 10 ^ i ≤ 100000000000000000 := Nat.le_trans (Nat.pow_le_pow_right (by decide) (by omega : i ≤ 17)) (by decide)
        refine T_skip_go (fun _ _ h => h) ?_
        refine T_seq ?_
        refine T_block ?_
        refine T_seq ?_
        refine T_region ?_
        refine S_ 51 rfl rfl rfl _ (y_indexAddr rfl rfl rfl Tryd.underlying137 sz5 (fun _ => rfl) (fun _ => by omega)) ?_
        refine S_ 52 rfl rfl rfl _ (y_loadRd 47 rfl rfl rfl (fun _ => bytesV_at (by omega)) Tryd.underlying5 rfl) ?_
        refine S_ 8 rfl rfl rfl _ (y_assign rfl rfl) ?_
        refine S_go (fun _ _ h => h) ?_
        refine T_seq ?_
        refine T_region ?_
        refine S_ 53 rfl rfl rfl _ (y_move rfl rfl) ?_
        refine S_ 54 rfl rfl rfl _ (y_as (v' := .int .u8 (((s.getD i 0).toNat - 48 : Nat) : Int)) (by congr 1; rw [wrap8_in (by omega)]; omega) (y_bin rfl rfl rfl (fun hg => b_subw))) ?_
        refine S_ 8 rfl rfl rfl _ (y_assign rfl rfl) ?_
        refine S_go (fun _ _ h => h) ?_
        refine T_seq ?_
        refine T_seq ?_
        refine T_region ?_
        refine S_ 55 rfl rfl rfl _ (y_move rfl rfl) ?_
        refine S_ 56 rfl rfl rfl _ (y_bin rfl rfl rfl (fun _ => b_gtr)) ?_
        refine S_go (fun _ _ h => h) ?_
        refine T_cond rfl (fun h56 => ?_) (fun h56 => ?_)
        · try simp only [decide_eq_true_eq, decide_eq_false_iff_not, Bool.or_eq_true, Bool.or_eq_false_iff, Bool.and_eq_true, Bool.and_eq_false_iff, Bool.not_eq_true', Bool.not_eq_false', Bool.not_eq_true, Bool.not_eq_false, Bool.not_true, Bool.not_false, Int.not_lt, Int.not_le, not_or, not_and, Classical.not_not] at h56
          omega
        · try simp only [decide_eq_true_eq, decide_eq_false_iff_not, Bool.or_eq_true, Bool.or_eq_false_iff, Bool.and_eq_true, Bool.and_eq_false_iff, Bool.not_eq_true', Bool.not_eq_false', Bool.not_eq_true, Bool.not_eq_false, Bool.not_true, Bool.not_false, Int.not_lt, Int.not_le, not_or, not_and, Classical.not_not] at h56
          refine T_skip_go (fun _ _ h => h) ?_
          refine T_region ?_
          refine S_ 58 rfl rfl rfl _ (y_move rfl rfl) ?_
          refine S_ 59 rfl rfl rfl _ (y_bin rfl rfl rfl (fun hg => b_mulv (((m * 10 : Nat) : Int)) (by omega) (by omega))) ?_
          refine S_ 60 rfl rfl rfl _ (y_move rfl rfl) ?_
          refine S_ 61 rfl rfl rfl _ (y_conv64 rfl rfl Tryd.underlying5 Tryd.underlying3 (fun _ => by omega)) ?_
          refine S_ 62 rfl rfl rfl _ (y_bin rfl rfl rfl (fun hg => b_addv (((m * 10 + ((s.getD i 0).toNat - 48) : Nat) : Int)) (by omega) (by omega))) ?_
          refine S_ 6 rfl rfl rfl _ (y_assign rfl rfl) ?_
          refine S_go (fun _ _ h => h) ?_
          refine T_region ?_
          refine S_ 63 rfl rfl rfl _ (y_bin rfl rfl rfl (fun hg => b_add (by omega))) ?_
          refine S_ 49 rfl rfl rfl _ (y_move rfl rfl) ?_
          refine S_nil (nextK2 (kf := [(2, 3), (6, 6), (8, 8), (49, 63)]) (kl := [(2, 3), (6, 6), (8, 8), (49, 63)]) (i + 1) (m * 10 + ((s.getD i 0).toNat - 48)) (by repeat (first | exact kf_nil | (apply kf_in; focus rfl) | (apply kf_out; focus rfl))) (by repeat (first | exact kl_nil | exact kl_rest (by assumption) rfl | (apply kl_in; focus rfl) | (apply kl_out; focus rfl))) ?_ ?_ ?_ ?_)
          · omega
          · exact ⟨by omega, by rw [Nat.pow_succ]; omega, by rw [take_getD (by omega), valD_snoc, hp3]⟩
          · exact ⟨rfl, rfl, trivial⟩
          · exact trivial
      · try simp only [decide_eq_true_eq, decide_eq_false_iff_not, Bool.or_eq_true, Bool.or_eq_false_iff, Bool.and_eq_true, Bool.and_eq_false_iff, Bool.not_eq_true', Bool.not_eq_false', Bool.not_eq_true, Bool.not_eq_false, Bool.not_true, Bool.not_false, Int.not_lt, Int.not_le, not_or, not_and, Classical.not_not] at h50
        refine T_exit_go (fun _ _ h => h) ?_
        refine T_seq ?_
        refine T_seq ?_
        refine T_region ?_
        refine S_ 64 rfl rfl rfl _ (y_move rfl rfl) ?_
        refine S_ 65 rfl rfl rfl _ (y_index_str (j := 0) rfl rfl rfl Tryd.underlying9 (fun _ => hl)) ?_
        refine S_ 66 rfl rfl rfl _ (y_bin rfl rfl rfl (fun _ => b_eql)) ?_
        refine S_go (fun _ _ h => h) ?_
        refine T_cond rfl (fun h66 => ?_) (fun h66 => ?_)
        · skip
          simp only [decide_eq_true_eq] at h66
          omega
        · skip
          refine T_skip_go (fun _ _ h => h) ?_
          refine T_seq ?_
          refine T_region ?_
          refine S_ 69 rfl rfl rfl _ (y_move rfl rfl) ?_
          refine S_ 2 rfl rfl rfl _ (y_assign rfl rfl) ?_
          refine S_ 3 rfl rfl rfl _ (y_assign rfl rfl) ?_
          refine S_go (fun _ _ h => h) ?_
          refine T_ret (fun a w hF hM => hRb a w (post2 rfl rfl rfl (fun w hM => ?_) a w hF hM))
          have hv : valD s = m := by rw [← hp3, List.take_of_length_le (by omega)]
          exact ⟨by rw [hv], hM.below⟩
  · skip
    simp at h30
    omega
theorem Atoi_any (s : List UInt8) (h0 : s ≠ []) (h6 : s.length ≤ 18) (hd : ∀ c ∈ s, 48 ≤ c.toNat ∧ c.toNat ≤ 57) (w : World) :
    Calls Tryd.prog 92 #[str s] w fun e w' => e = .returned (.tuple #[.int .i64 (valD s : Nat), .nilIface]) ∧ Below w.heap.size w w' := by
  refine enter_args (args := [str s]) (F := _) Tryd.func92 rfl Tryd.ntmps92 rfl rfl ?_
  intro Rb hRb hRn
  refine T_seq ?_
  refine T_region ?_
  refine S_ 2 rfl rfl rfl _ (y_assign rfl rfl) ?_
  refine S_ 3 rfl rfl rfl _ (y_assign rfl rfl) ?_
  refine S_go (fun _ _ h => h) ?_
  refine T_seq ?_
  refine T_region ?_
  refine S_ 7 rfl rfl rfl _ (y_move rfl rfl) ?_
  refine S_ 8 rfl rfl rfl _ (y_call rfl rfl rfl cf122 (fun _ w _ => iAtoi_any s h0 h6 hd w)) ?_
  refine S_ 6 rfl rfl rfl _ (y_move rfl rfl) ?_
  refine S_ 9 rfl rfl rfl _ (y_extract rfl rfl rfl) ?_
  refine S_ 10 rfl rfl rfl _ (y_extract rfl rfl rfl) ?_
  refine S_ 4 rfl rfl rfl _ (y_assign rfl rfl) ?_
  refine S_ 5 rfl rfl rfl _ (y_assign rfl rfl) ?_
  refine S_go (fun _ _ h => h) ?_
  refine T_seq ?_
  refine T_seq ?_
  refine T_region ?_
  refine S_ 11 rfl rfl rfl _ (y_move rfl rfl) ?_
  refine S_ 12 rfl rfl rfl _ (y_bin rfl rfl rfl (fun _ => b_neqII Tryd.underlying116)) ?_
  refine S_go (fun _ _ h => h) ?_
  refine T_cond rfl (fun h12 => ?_) (fun h12 => ?_)
  · skip
    cases h12
  · skip
    refine T_skip_go (fun _ _ h => h) ?_
    refine T_seq ?_
    refine T_region ?_
    refine S_ 17 rfl rfl rfl _ (y_move rfl rfl) ?_
    refine S_ 2 rfl rfl rfl _ (y_assign rfl rfl) ?_
    refine S_ 3 rfl rfl rfl _ (y_assign rfl rfl) ?_
    refine S_go (fun _ _ h => h) ?_
    refine T_ret (fun a w hF hM => hRb a w (post2 rfl rfl rfl (fun w hM => ?_) a w hF hM))
    exact ⟨rfl, hM.below⟩
def numOk (s : List UInt8) : Bool := allOf s digB && !decide ((6 : Int) < s.length) && !(decide ((1 : Int) < s.length) && decide (((s.getD 0 0).toNat : Int) = 48))
theorem number_any (s : List UInt8) (hs : s.length ≤ 1000000000) (w : World) :
    Calls Tryd.prog 84 #[str s] w fun e w' => e = .returned (.tuple #[.int .i64 (if numOk s = true then ((valD s : Nat) : Int) else 0), .bool (numOk s)]) ∧ Below w.heap.size w w' := by
  refine enter_args (args := [str s]) (F := _) Tryd.func84 rfl Tryd.ntmps84 rfl rfl ?_
  intro Rb hRb hRn
  refine T_seq ?_
  refine T_region ?_
  refine S_ 2 rfl rfl rfl _ (y_assign rfl rfl) ?_
  refine S_ 3 rfl rfl rfl _ (y_assign rfl rfl) ?_
  refine S_go (fun _ _ h => h) ?_
  refine T_seq ?_
  refine T_seq ?_
  refine T_region ?_
  refine S_ 6 rfl rfl rfl _ (y_move rfl rfl) ?_
  refine S_ 7 rfl rfl rfl _ (y_call rfl rfl rfl cf119 (fun _ w _ => allOfD_any s hs w)) ?_
  refine S_ 8 rfl rfl rfl _ (y_not rfl rfl) ?_
  refine S_ 9 rfl rfl rfl _ (y_move rfl rfl) ?_
  refine Sg_ 10 rfl rfl rfl rfl rfl rfl _ (y_move rfl rfl) ?_
  refine Sg_ 11 rfl rfl rfl rfl rfl rfl _ (y_len_str rfl rfl Tryd.underlying9) ?_
  refine Sg_ 12 rfl rfl rfl rfl rfl rfl _ (y_bin rfl rfl rfl (fun _ => b_gtr)) ?_
  refine S_ 13 rfl rfl rfl _ (y_or rfl rfl rfl) ?_
  refine S_ 14 rfl rfl rfl _ (y_move rfl rfl) ?_
  refine Sg_ 15 rfl rfl rfl rfl rfl rfl _ (y_move rfl rfl) ?_
  refine Sg_ 16 rfl rfl rfl rfl rfl rfl _ (y_len_str rfl rfl Tryd.underlying9) ?_
  refine Sg_ 17 rfl rfl rfl rfl rfl rfl _ (y_bin rfl rfl rfl (fun _ => b_gtr)) ?_
  refine Sg_ 18 rfl rfl rfl rfl rfl rfl _ (y_move rfl rfl) ?_
  refine Sg_ 19 rfl rfl rfl rfl rfl rfl _ (y_move rfl rfl) ?_
  refine Sg_ 20 rfl rfl rfl rfl rfl rfl _ (y_index_str (j := 0) rfl rfl rfl Tryd.underlying9 (fun hg => by simp at hg; omega)) ?_
  refine Sg_ 21 rfl rfl rfl rfl rfl rfl _ (y_bin rfl rfl rfl (fun _ => b_eql)) ?_
  refine Sg_ 22 rfl rfl rfl rfl rfl rfl _ (y_and rfl rfl rfl) ?_
  refine S_ 23 rfl rfl rfl _ (y_as (v' := .bool (!numOk s)) (by simp [numOk, Bool.not_and, Bool.not_not]) (y_or rfl rfl rfl)) ?_
  refine S_go (fun _ _ h => h) ?_
  refine T_cond rfl (fun h23 => ?_) (fun h23 => ?_)
  · skip
    have hn : numOk s = false := by simpa using h23
    refine T_seq ?_
    refine T_region ?_
    refine S_ 2 rfl rfl rfl _ (y_assign rfl rfl) ?_
    refine S_ 3 rfl rfl rfl _ (y_assign rfl rfl) ?_
    refine S_go (fun _ _ h => h) ?_
    refine T_ret (fun a w hF hM => hRb a w (post2 rfl rfl rfl (fun w hM => ?_) a w hF hM))
    exact ⟨by rw [hn]; rfl, hM.below⟩
  · skip
    have hn : numOk s = true := by simpa using h23
    have hd := allOf_dig (s := s) (by simp only [numOk, Bool.and_eq_true] at hn; exact hn.1.1)
    have hl6 : s.length ≤ 6 := by
      simp only [numOk, Bool.and_eq_true, Bool.not_eq_true', decide_eq_false_iff_not] at hn
      omega
    refine T_skip_go (fun _ _ h => h) ?_
    refine T_seq ?_
    refine T_region ?_
    refine S_ 25 rfl rfl rfl _ (y_move rfl rfl) ?_
    refine S_ 26 rfl rfl rfl _ (y_call rfl rfl rfl cf92 (fun _ w _ => Atoi_any s hd.1 (by omega) hd.2 w)) ?_
    refine S_ 24 rfl rfl rfl _ (y_move rfl rfl) ?_
    refine S_ 27 rfl rfl rfl _ (y_extract rfl rfl rfl) ?_
    refine S_ 28 rfl rfl rfl _ (y_extract rfl rfl rfl) ?_
    refine S_ 4 rfl rfl rfl _ (y_assign rfl rfl) ?_
    refine S_ 5 rfl rfl rfl _ (y_assign rfl rfl) ?_
    refine S_go (fun _ _ h => h) ?_
    refine T_seq ?_
    refine T_draws (by kernel_rfl) (by kernel_rfl) ?_
    refine D_ 29 rfl rfl rfl _ (y_move rfl rfl) ?_
    refine D_ 30 rfl rfl rfl _ (y_move rfl rfl) ?_
    refine D_ 31 rfl rfl rfl _ (y_bin rfl rfl rfl (fun _ => b_eqlII Tryd.underlying116)) ?_
    refine D_ 2 rfl rfl rfl _ (y_assign rfl rfl) ?_
    refine D_ 3 rfl rfl rfl _ (y_assign rfl rfl) ?_
    refine D_go (fun _ _ h => h) ?_
    refine T_ret (fun a w hF hM => hRb a w (post2 rfl rfl rfl (fun w hM => ?_) a w hF hM))
    exact ⟨by rw [hn]; rfl, hM.below⟩
/-- the last place of a byte ahead of place t -/
def lastB (s : List UInt8) (c : UInt8) : Nat → Int
  | 0 => -1
  | t + 1 => if s.getD t 0 = c then t else lastB s c t
theorem LastByte_any (s : List UInt8) (c : UInt8) (hs : s.length ≤ 4611686018427387904) (w : World) :
    Calls Tryd.prog 115 #[str s, .int .u8 (c.toNat : Int)] w fun e w' => e = .returned (.int .i64 (lastB s c s.length)) ∧ Below w.heap.size w w' := by
  refine enter_args (args := [str s, .int .u8 (c.toNat : Int)]) (F := _) Tryd.func115 rfl Tryd.ntmps115 rfl rfl ?_
  intro Rb hRb hRn
  refine T_seq ?_
  refine T_region ?_
  refine S_ 4 rfl rfl rfl _ (y_assign rfl rfl) ?_
  refine S_go (fun _ _ h => h) ?_
  refine T_seq ?_
  refine T_seq ?_
  refine T_region ?_
  refine S_ 6 rfl rfl rfl _ (y_move rfl rfl) ?_
  refine S_ 7 rfl rfl rfl _ (y_len_str rfl rfl Tryd.underlying9) ?_
  refine S_ 8 rfl rfl rfl _ (y_bin rfl rfl rfl (fun hg => b_sub (by omega))) ?_
  refine S_ 5 rfl rfl rfl _ (y_assign rfl rfl) ?_
  refine S_go (fun _ _ h => h) ?_
  refine T_block ?_
  refine T_loopK1 (kf := [(4, 5), (9, 18)]) (kl := [(4, 5), (9, 18)]) (fun (t : Nat) => [(5, true, .int .i64 (((t : Nat) : Int) - 1))]) (fun (t : Nat) => []) (fun (t : Nat) => t ≤ s.length ∧ lastB s c s.length = lastB s c t) (fun (t : Nat) => t) s.length (by repeat (first | exact kf_nil | (apply kf_in; focus rfl) | (apply kf_out; focus rfl))) (by repeat (first | exact kl_nil | exact kl_rest (by assumption) rfl | (apply kl_in; focus rfl) | (apply kl_out; focus rfl))) ?_ ?_ ?_ ?_
  · exact ⟨by omega, rfl⟩
  · exact ⟨rfl, trivial⟩
  · exact trivial
  rintro t ⟨hp1, hp2⟩
  refine T_seq ?_
  refine T_seq ?_
  refine T_region ?_
  refine S_ 9 rfl rfl rfl _ (y_move rfl rfl) ?_
  refine S_ 10 rfl rfl rfl _ (y_bin rfl rfl rfl (fun _ => b_geq)) ?_
  refine S_go (fun _ _ h => h) ?_
  refine T_cond rfl (fun h10 => ?_) (fun h10 => ?_)
  · try simp only [decide_eq_true_eq, decide_eq_false_iff_not, Bool.or_eq_true, Bool.or_eq_false_iff, Bool.and_eq_true, Bool.and_eq_false_iff, Bool.not_eq_true', Bool.not_eq_false', Bool.not_eq_true, Bool.not_eq_false, Bool.not_true, Bool.not_false, Int.not_lt, Int.not_le, not_or, not_and, Classical.not_not] at h10
    obtain ⟨k, rfl⟩ : ∃ k, t = k + 1 := ⟨t - 1, by omega⟩
    rw [lastB] at hp2
    rw [show Value.int IntKind.i64 (((k + 1 : Nat) : Int) - 1) = .int .i64 ((k : Nat) : Int) from by congr 1; omega]
    refine T_skip_go (fun _ _ h => h) ?_
    refine T_seq ?_
    refine T_block ?_
    refine T_seq ?_
    refine T_region ?_
    refine S_ 13 rfl rfl rfl _ (y_move rfl rfl) ?_
    refine S_ 14 rfl rfl rfl _ (y_move rfl rfl) ?_
    refine S_ 15 rfl rfl rfl _ (y_index_str rfl rfl rfl Tryd.underlying9 (fun _ => by omega)) ?_
    refine S_ 16 rfl rfl rfl _ (y_move rfl rfl) ?_
    refine S_ 17 rfl rfl rfl _ (y_bin rfl rfl rfl (fun _ => b_eql)) ?_
    refine S_go (fun _ _ h => h) ?_
    refine T_cond rfl (fun h17 => ?_) (fun h17 => ?_)
    · skip
      have h17 : s.getD k 0 = c := UInt8.toNat_inj.1 (by simp only [decide_eq_true_eq] at h17; omega)
      rw [if_pos h17] at hp2
      refine T_seq ?_
      refine T_region ?_
      refine S_ 18 rfl rfl rfl _ (y_move rfl rfl) ?_
      refine S_ 4 rfl rfl rfl _ (y_assign rfl rfl) ?_
      refine S_go (fun _ _ h => h) ?_
      refine T_ret (fun a w hF hM => hRb a w (post1 rfl rfl (fun w hM => ?_) a w hF hM))
      exact ⟨by rw [hp2], hM.below⟩
    · skip
      have h17 : ¬ s.getD k 0 = c := fun e => by rw [e] at h17; simp at h17
      rw [if_neg h17] at hp2
      refine T_skip_go (fun _ _ h => h) ?_
      refine T_region ?_
      refine S_ 11 rfl rfl rfl _ (y_move rfl rfl) ?_
      refine S_ 12 rfl rfl rfl _ (y_bin rfl rfl rfl (fun hg => b_sub (by omega))) ?_
      refine S_ 5 rfl rfl rfl _ (y_assign rfl rfl) ?_
      refine S_nil (nextK1 (kf := [(4, 5), (9, 18)]) (kl := [(4, 5), (9, 18)]) k (by repeat (first | exact kf_nil | (apply kf_in; focus rfl) | (apply kf_out; focus rfl))) (by repeat (first | exact kl_nil | exact kl_rest (by assumption) rfl | (apply kl_in; focus rfl) | (apply kl_out; focus rfl))) ?_ ?_ ?_ ?_)
      · omega
      · exact ⟨by omega, hp2⟩
      · exact ⟨rfl, trivial⟩
      · exact trivial
  · try simp only [decide_eq_true_eq, decide_eq_false_iff_not, Bool.or_eq_true, Bool.or_eq_false_iff, Bool.and_eq_true, Bool.and_eq_false_iff, Bool.not_eq_true', Bool.not_eq_false', Bool.not_eq_true, Bool.not_eq_false, Bool.not_true, Bool.not_false, Int.not_lt, Int.not_le, not_or, not_and, Classical.not_not] at h10
    have ht0 : t = 0 := by omega
    subst ht0
    refine T_exit_go (fun _ _ h => h) ?_
    refine T_seq ?_
    refine T_region ?_
    refine S_ 4 rfl rfl rfl _ (y_assign rfl rfl) ?_
    refine S_go (fun _ _ h => h) ?_
    refine T_ret (fun a w hF hM => hRb a w (post1 rfl rfl (fun w hM => ?_) a w hF hM))
    exact ⟨by rw [hp2]; rfl, hM.below⟩
theorem SLast_any (s : List UInt8) (c : UInt8) (hs : s.length ≤ 4611686018427387904) (w : World) :
    Calls Tryd.prog 75 #[str s, .int .u8 (c.toNat : Int)] w fun e w' => e = .returned (.int .i64 (lastB s c s.length)) ∧ Below w.heap.size w w' := by
  refine enter_args (args := [str s, .int .u8 (c.toNat : Int)]) (F := _) Tryd.func75 rfl Tryd.ntmps75 rfl rfl ?_
  intro Rb hRb hRn
  refine T_seq ?_
  refine T_region ?_
  refine S_ 4 rfl rfl rfl _ (y_assign rfl rfl) ?_
  refine S_go (fun _ _ h => h) ?_
  refine T_seq ?_
  refine T_region ?_
  refine S_ 5 rfl rfl rfl _ (y_move rfl rfl) ?_
  refine S_ 6 rfl rfl rfl _ (y_move rfl rfl) ?_
  refine S_ 7 rfl rfl rfl _ (y_call rfl rfl rfl cf115 (fun _ w _ => LastByte_any s c hs w)) ?_
  refine S_ 4 rfl rfl rfl _ (y_assign rfl rfl) ?_
  refine S_go (fun _ _ h => h) ?_
  refine T_ret (fun a w hF hM => hRb a w (post1 rfl rfl (fun w hM => ?_) a w hF hM))
  exact ⟨rfl, hM.below⟩
def projOk (s : List UInt8) : Bool := nameOk s && !decide (0 ≤ Lib.indexByte s 46)
theorem IsProject_any (s : List UInt8) (w : World) : Calls Tryd.prog 83 #[str s] w fun e w' => e = .returned (.bool (projOk s)) ∧ Below w.heap.size w w' := by
  refine enter_args (args := [str s]) (F := _) Tryd.func83 rfl Tryd.ntmps83 rfl rfl ?_
  intro Rb hRb hRn
  refine T_seq ?_
  refine T_region ?_
  refine S_ 2 rfl rfl rfl _ (y_assign rfl rfl) ?_
  refine S_go (fun _ _ h => h) ?_
  refine T_seq ?_
  refine T_region ?_
  refine S_ 3 rfl rfl rfl _ (y_move rfl rfl) ?_
  refine S_ 4 rfl rfl rfl _ (y_call rfl rfl rfl cf42 (fun _ w _ => IsName_any s w)) ?_
  refine S_ 5 rfl rfl rfl _ (y_move rfl rfl) ?_
  refine Sg_ 6 rfl rfl rfl rfl rfl rfl _ (y_move rfl rfl) ?_
  refine Sg_ 7 rfl rfl rfl rfl rfl rfl _ (y_call rfl rfl rfl cf70 (fun _ w _ => Contains1_any s 46 w)) ?_
  refine Sg_ 8 rfl rfl rfl rfl rfl rfl _ (y_not rfl rfl) ?_
  refine S_ 9 rfl rfl rfl _ (y_and rfl rfl rfl) ?_
  refine S_ 2 rfl rfl rfl _ (y_assign rfl rfl) ?_
  refine S_go (fun _ _ h => h) ?_
  refine T_ret (fun a w hF hM => hRb a w (post1 rfl rfl (fun w hM => ?_) a w hF hM))
  exact ⟨rfl, hM.below⟩
end Go.Proofs.YtkkngcdikbhkjaaDoor
end
section
namespace Go.Proofs.YtkkngcdikbhkjaaDoor
set_option linter.unusedSimpArgs false
set_option linter.unusedVariables false
set_option maxRecDepth 20000
open Go.RowKit Go.Eng
/-- Go's table holds the number of trailing noughts of 16 -/
def TzTab (w : World) : Prop := w.cell? ⟨8, 15, none⟩ = some (.int .u8 4) ∧ 8 < w.heap.size
theorem TzTab.below {w w' : World} (h : TzTab w) (hb : Below w.heap.size w w') : TzTab w' := ⟨(hb.cell h.2).trans h.1, Nat.lt_of_lt_of_le h.2 hb.size⟩
end Go.Proofs.YtkkngcdikbhkjaaDoor
end
section
namespace Go.Proofs.YtkkngcdikbhkjaaDoor
set_option linter.unusedSimpArgs false
set_option linter.unusedVariables false
set_option maxRecDepth 20000
open Go.RowKit Go.Eng
/-- the table of powers of ten lies there -/
def P10 (w : World) : Prop := Lib.TabIs Tryd.prog w "internal/strconv.uint64pow10" .u64 Lib.pow10Tab ∧ 2 < w.heap.size
theorem P10.below {w w' : World} (h : P10 w) (hb : Below w.heap.size w w') : P10 w' := by
  refine ⟨?_, Nat.lt_of_lt_of_le h.2 hb.size⟩
  have e : Tryd.prog.globalNamed "internal/strconv.uint64pow10" = some 2 := by kernel_rfl
  have h1 := h.1
  unfold Lib.TabIs World.var? at h1 ⊢
  rw [e] at h1 ⊢
  simp only [Option.bind_some] at h1 ⊢
  rw [hb.block _ h.2]; exact h1
theorem below_grow0 (w : World) (k : Nat) (os : Array Obj) : Below w.heap.size w (Sort.grow (w.drewN k) os) :=
  ⟨rfl, rfl, rfl, by show w.heap.size ≤ (w.heap ++ os).size; simp, fun j hj => by show (w.heap ++ os)[j]? = w.heap[j]?; rw [Array.getElem?_append, if_pos hj]⟩
theorem Itoa_any (n : Int) (h0 : -9223372036854775808 ≤ n) (h1 : n ≤ 9223372036854775807) (w : World) (hP : P10 w) :
    Calls Tryd.prog 26 #[.int .i64 n] w fun e w' => e = .returned (str (Lib.itoa n)) ∧ Below w.heap.size w w' :=
  (Any.strconv_Itoa Tryd.laysM171 n h0 h1 w hP.1).mono fun e w' ⟨h, k, os, hw⟩ => ⟨h, hw ▸ below_grow0 w k os⟩
theorem TrimDig_any (s : List UInt8) (hs : s.length ≤ 1000000000) (w : World) : Calls Tryd.prog 34 #[str s, str digB] w fun e w' => e = .returned (str (Lib.trimS s digB)) ∧ Below w.heap.size w w' :=
  Any.strings_Trim_laid Tryd.lays160 (by kernel_rfl) ⟨s.toArray⟩ ⟨digB.toArray⟩ w (by rw [Lib.size_eq]; simp; omega) (by decide) (ascii_of_all (by decide))
def plainOk (s : List UInt8) (k : Nat) : Bool := !(decide (s = []) || decide ((k : Int) < s.length) || (decide ((1 : Int) < s.length) && decide (((s.getD 0 0).toNat : Int) = 48)) || !decide (Lib.trimS s digB = []))
def plainJ (s : List UInt8) (k : Nat) : Nat := if plainOk s k = true then valD s else 0
theorem plain_parts {s : List UInt8} {k : Nat} (h : plainOk s k = true) : s ≠ [] ∧ s.length ≤ k ∧ ∀ c ∈ s, 48 ≤ c.toNat ∧ c.toNat ≤ 57 := by
  simp only [plainOk, Bool.not_eq_true', Bool.or_eq_false_iff, decide_eq_false_iff_not, Bool.not_eq_false', decide_eq_true_eq] at h
  obtain ⟨⟨⟨h1, h2⟩, _⟩, h3⟩ := h
  exact ⟨h1, by omega, fun c hc => digB_iff (trimS_nil h3 c hc)⟩
theorem zero_one {s : List UInt8} (h : s ≠ []) : (decide (((s.getD 0 0).toNat : Int) = 48) && !decide (s = [48])) = (decide ((1 : Int) < s.length) && decide (((s.getD 0 0).toNat : Int) = 48)) := by
  cases s with
  | nil => exact absurd rfl h
  | cons a r =>
    cases r with
    | nil =>
      simp only [List.getD_cons_zero, List.length_cons, List.length_nil, List.cons.injEq, and_true]
      by_cases ha : a = 48
      · subst ha; simp
      · have : ¬ ((a.toNat : Nat) : Int) = 48 := fun e => ha (UInt8.toNat_inj.1 (show a.toNat = 48 by omega))
        simp [ha, this]
    | cons b t =>
      have : (1 : Int) < ((a :: b :: t).length : Nat) := by simp only [List.length_cons]; omega
      rw [decide_eq_true this, decide_eq_false (show ¬ a :: b :: t = [48] by simp)]
      cases decide ((((a :: b :: t).getD 0 0).toNat : Int) = 48) <;> rfl
theorem whole_any (s : List UInt8) (k : Nat) (hk : k ≤ 18) (hs : s.length ≤ 1000000000) (w : World) :
    Calls Tryd.prog 32 #[str s, .int .i64 (k : Int)] w fun e w' => e = .returned (.tuple #[.int .i64 ((plainJ s k : Nat) : Int), .bool (plainOk s k)]) ∧ Below w.heap.size w w' := by
  refine enter_args (args := [str s, .int .i64 (k : Int)]) (F := _) Tryd.func32 rfl Tryd.ntmps32 rfl rfl ?_
  intro Rb hRb hRn
  refine T_seq ?_
  refine T_region ?_
  refine S_ 4 rfl rfl rfl _ (y_assign rfl rfl) ?_
  refine S_ 5 rfl rfl rfl _ (y_assign rfl rfl) ?_
  refine S_go (fun _ _ h => h) ?_
  refine T_seq ?_
  refine T_seq ?_
  refine T_region ?_
  refine S_ 8 rfl rfl rfl _ (y_move rfl rfl) ?_
  refine S_ 9 rfl rfl rfl _ (y_bin rfl rfl rfl (fun _ => b_eqls)) ?_
  refine S_ 10 rfl rfl rfl _ (y_move rfl rfl) ?_
  refine Sg_ 11 rfl rfl rfl rfl rfl rfl _ (y_move rfl rfl) ?_
  refine Sg_ 12 rfl rfl rfl rfl rfl rfl _ (y_len_str rfl rfl Tryd.underlying9) ?_
  refine Sg_ 13 rfl rfl rfl rfl rfl rfl _ (y_move rfl rfl) ?_
  refine Sg_ 14 rfl rfl rfl rfl rfl rfl _ (y_bin rfl rfl rfl (fun _ => b_gtr)) ?_
  refine S_ 15 rfl rfl rfl _ (y_or rfl rfl rfl) ?_
  refine S_ 16 rfl rfl rfl _ (y_move rfl rfl) ?_
  refine Sg_ 17 rfl rfl rfl rfl rfl rfl _ (y_move rfl rfl) ?_
  refine Sg_ 18 rfl rfl rfl rfl rfl rfl _ (y_call rfl rfl rfl cf34 (fun _ w _ => TrimDig_any s hs w)) ?_
  refine Sg_ 19 rfl rfl rfl rfl rfl rfl _ (y_bin rfl rfl rfl (fun _ => b_neqs)) ?_
  refine S_ 20 rfl rfl rfl _ (y_or rfl rfl rfl) ?_
  refine S_ 21 rfl rfl rfl _ (y_move rfl rfl) ?_
  refine Sg_ 22 rfl rfl rfl rfl rfl rfl _ (y_move rfl rfl) ?_
  refine Sg_ 23 rfl rfl rfl rfl rfl rfl _ (y_index_str (j := 0) rfl rfl rfl Tryd.underlying9 (fun hg => List.length_pos_iff.2 (by simp at hg; exact hg.1.1))) ?_
  refine Sg_ 24 rfl rfl rfl rfl rfl rfl _ (y_bin rfl rfl rfl (fun _ => b_eql)) ?_
  refine Sg_ 25 rfl rfl rfl rfl rfl rfl _ (y_move rfl rfl) ?_
  refine Sg_ 26 rfl rfl rfl rfl rfl rfl _ (y_move rfl rfl) ?_
  refine Sg_ 27 rfl rfl rfl rfl rfl rfl _ (y_bin rfl rfl rfl (fun _ => b_neqs)) ?_
  refine Sg_ 28 rfl rfl rfl rfl rfl rfl _ (y_and rfl rfl rfl) ?_
  refine S_ 29 rfl rfl rfl _ (y_as (v' := .bool (!plainOk s k)) (by exact congrArg Value.bool (by
    rw [plainOk, Bool.not_not]
    by_cases h : s = []
    · subst h; simp
    · rw [← zero_one h]
      cases decide (s = []) <;> cases decide ((k : Int) < s.length) <;> cases (decide (((s.getD 0 0).toNat : Int) = 48) && !decide (s = [48])) <;> cases decide (Lib.trimS s digB = []) <;> rfl)) (y_or rfl rfl rfl)) ?_
  refine S_go (fun _ _ h => h) ?_
  refine T_cond rfl (fun h29 => ?_) (fun h29 => ?_)
  · skip
    have hn : plainOk s k = false := by simpa using h29
    refine T_seq ?_
    refine T_region ?_
    refine S_ 4 rfl rfl rfl _ (y_assign rfl rfl) ?_
    refine S_ 5 rfl rfl rfl _ (y_assign rfl rfl) ?_
    refine S_go (fun _ _ h => h) ?_
    refine T_ret (fun a w hF hM => hRb a w (post2 rfl rfl rfl (fun w hM => ?_) a w hF hM))
    exact ⟨by rw [plainJ, hn]; rfl, hM.below⟩
  · skip
    have hn : plainOk s k = true := by simpa using h29
    have hd := plain_parts hn
    refine T_skip_go (fun _ _ h => h) ?_
    refine T_seq ?_
    refine T_region ?_
    refine S_ 31 rfl rfl rfl _ (y_move rfl rfl) ?_
    refine S_ 32 rfl rfl rfl _ (y_call rfl rfl rfl cf92 (fun _ w _ => Atoi_any s hd.1 (by omega) hd.2.2 w)) ?_
    refine S_ 30 rfl rfl rfl _ (y_move rfl rfl) ?_
    refine S_ 33 rfl rfl rfl _ (y_extract rfl rfl rfl) ?_
    refine S_ 34 rfl rfl rfl _ (y_extract rfl rfl rfl) ?_
    refine S_ 6 rfl rfl rfl _ (y_assign rfl rfl) ?_
    refine S_ 7 rfl rfl rfl _ (y_assign rfl rfl) ?_
    refine S_go (fun _ _ h => h) ?_
    refine T_seq ?_
    refine T_draws (by kernel_rfl) (by kernel_rfl) ?_
    refine D_ 35 rfl rfl rfl _ (y_move rfl rfl) ?_
    refine D_ 36 rfl rfl rfl _ (y_move rfl rfl) ?_
    refine D_ 37 rfl rfl rfl _ (y_bin rfl rfl rfl (fun _ => b_eqlII Tryd.underlying116)) ?_
    refine D_ 4 rfl rfl rfl _ (y_assign rfl rfl) ?_
    refine D_ 5 rfl rfl rfl _ (y_assign rfl rfl) ?_
    refine D_go (fun _ _ h => h) ?_
    refine T_ret (fun a w hF hM => hRb a w (post2 rfl rfl rfl (fun w hM => ?_) a w hF hM))
    exact ⟨by rw [plainJ, hn]; rfl, hM.below⟩
end Go.Proofs.YtkkngcdikbhkjaaDoor
end
section
namespace Go.Proofs.YtkkngcdikbhkjaaDoor
set_option linter.unusedSimpArgs false
set_option linter.unusedVariables false
set_option maxRecDepth 20000
open Go.RowKit Go.Eng
/-! ### Trimmed to nothing -/
theorem dropWhile_all {p : UInt8 → Bool} : ∀ {l : List UInt8}, (∀ c ∈ l, p c = true) → l.dropWhile p = []
  | [], _ => rfl
  | a :: r, h => by rw [List.dropWhile_cons, if_pos (h a (List.mem_cons_self ..)), dropWhile_all fun c hc => h c (List.mem_cons_of_mem _ hc)]
theorem trimS_all {s cs : List UInt8} (h : ∀ c ∈ s, cs.contains c = true) : Lib.trimS s cs = [] := by
  have h2 : s.reverse.dropWhile (cs.contains ·) = [] := dropWhile_all fun c hc => h c (List.mem_reverse.1 hc)
  have h3 : Lib.trimRightS s cs = [] := by unfold Lib.trimRightS; rw [h2]; rfl
  unfold Lib.trimS; rw [h3]; rfl
abbrev letB : List UInt8 := [97, 98, 99, 100, 101, 102, 103, 104, 105, 106, 107, 108, 109, 110, 111, 112, 113, 114, 115, 116, 117, 118, 119, 120, 121, 122, 48, 49, 50, 51, 52, 53, 54, 55, 56, 57]
theorem sub_let {c : UInt8} (h : digB.contains c = true) : letB.contains c = true := by
  have h : c ∈ digB := by simpa using h
  simp only [digB, List.mem_cons, List.not_mem_nil, or_false] at h
  rcases h with rfl | rfl | rfl | rfl | rfl | rfl | rfl | rfl | rfl | rfl <;> decide
theorem let_name {c : UInt8} (h : letB.contains c = true) : nameBs.contains c = true := by
  have h : c ∈ letB := by simpa using h
  have : c ∈ nameBs := by
    have e : nameBs = letB ++ [45, 46, 95] := rfl
    rw [e]; exact List.mem_append_left _ h
  simpa using this
theorem allOf_iff {s cs : List UInt8} : allOf s cs = true ↔ s ≠ [] ∧ ∀ c ∈ s, cs.contains c = true := by
  simp only [allOf, Bool.and_eq_true, Bool.not_eq_true', decide_eq_false_iff_not, decide_eq_true_eq]
  exact ⟨fun h => ⟨h.1, trimS_nil h.2⟩, fun h => ⟨h.1, trimS_all h.2⟩⟩
/-! ### Parts -/
def isPreB (s : List UInt8) : Bool := if allOf s digB = true then numOk s else allOf s letB
def partB (s : List UInt8) : Bool := if (decide (s = []) || !decide (Lib.trimS s letB = [])) = true then false else plainOk s 6 || !decide (Lib.trimS s digB = [])
theorem numOk_plain (s : List UInt8) : numOk s = plainOk s 6 := by
  unfold numOk allOf plainOk
  rw [show ((6 : Nat) : Int) = 6 from rfl]
  generalize decide (s = []) = a
  generalize decide ((6 : Int) < (s.length : Int)) = b
  generalize (decide ((1 : Int) < (s.length : Int)) && decide (((s.getD 0 0).toNat : Int) = 48)) = c
  generalize decide (Lib.trimS s digB = []) = d
  cases a <;> cases b <;> cases c <;> cases d <;> rfl
theorem preB_eq (s : List UInt8) : isPreB s = partB s := by
  unfold isPreB partB
  by_cases h0 : s = []
  · subst h0; rfl
  · by_cases h1 : Lib.trimS s digB = []
    · have h2 : Lib.trimS s letB = [] := trimS_all fun c hc => sub_let (trimS_nil h1 c hc)
      rw [if_pos (by simp [allOf, h0, h1]), numOk_plain]; simp [h0, h1, h2]
    · rw [if_neg (by simp [allOf, h1])]
      by_cases h2 : Lib.trimS s letB = [] <;> simp [allOf, h0, h1, h2]
theorem preB_let {s : List UInt8} (h : isPreB s = true) : s ≠ [] ∧ ∀ c ∈ s, letB.contains c = true := by
  unfold isPreB at h
  split at h
  · rename_i h1
    have := allOf_iff.1 h1
    exact ⟨this.1, fun c hc => sub_let (this.2 c hc)⟩
  · exact allOf_iff.1 h
theorem numOk_dig {s : List UInt8} (h : numOk s = true) : s ≠ [] ∧ ∀ c ∈ s, digB.contains c = true := by
  simp only [numOk, Bool.and_eq_true] at h
  exact allOf_iff.1 h.1.1
/-! ### Joined and split at one byte -/
def jn (c : UInt8) : List (List UInt8) → List UInt8
  | [] => []
  | [a] => a
  | a :: b :: r => a ++ c :: jn c (b :: r)
theorem split_ne (c : UInt8) (s : List UInt8) : splitC c s ≠ [] := by
  intro h
  have := splitC_len c s
  rw [h] at this; simp at this
theorem jn_cons (c : UInt8) (a : List UInt8) {l : List (List UInt8)} (h : l ≠ []) : jn c (a :: l) = a ++ c :: jn c l := by
  cases l with
  | nil => exact absurd rfl h
  | cons b r => rfl
theorem jn_head (c x : UInt8) (h : List UInt8) (t : List (List UInt8)) : jn c ((x :: h) :: t) = x :: jn c (h :: t) := by
  cases t <;> rfl
theorem jn_split (c : UInt8) : ∀ s : List UInt8, jn c (splitC c s) = s
  | [] => rfl
  | x :: r => by
    have ih := jn_split c r
    rw [splitC]
    split
    · rename_i h; subst h
      rw [jn_cons _ _ (split_ne _ r), ih]; rfl
    · cases hs : splitC c r with
      | nil => exact absurd hs (split_ne _ r)
      | cons h t =>
        rw [hs] at ih
        show jn c ((x :: h) :: t) = x :: r
        rw [jn_head, ih]
theorem mem_jn {c x : UInt8} : ∀ {l : List (List UInt8)}, x ∈ jn c l → x = c ∨ ∃ w ∈ l, x ∈ w
  | [], h => by cases h
  | [a], h => .inr ⟨a, List.mem_cons_self .., h⟩
  | a :: b :: r, h => by
    rw [jn] at h
    rcases List.mem_append.1 h with h | h
    · exact .inr ⟨a, List.mem_cons_self .., h⟩
    · rcases List.mem_cons.1 h with h | h
      · exact .inl h
      · rcases mem_jn h with h | ⟨w, hw, h⟩
        · exact .inl h
        · exact .inr ⟨w, List.mem_cons_of_mem _ hw, h⟩
theorem spl_le (c : UInt8) : ∀ (s x : List UInt8), x ∈ splitC c s → x.length ≤ s.length
  | [], x, h => by rw [splitC] at h; simp at h; subst h; exact Nat.le_refl _
  | y :: r, x, h => by
    rw [splitC] at h
    split at h
    · rcases List.mem_cons.1 h with rfl | h
      · exact Nat.zero_le _
      · exact Nat.le_succ_of_le (spl_le c r x h)
    · cases hs : splitC c r with
      | nil => rw [hs] at h; simp at h; subst h; simp
      | cons a t =>
        rw [hs] at h
        rcases List.mem_cons.1 h with rfl | h
        · have := spl_le c r a (by rw [hs]; exact List.mem_cons_self ..)
          simpa using this
        · exact Nat.le_succ_of_le (spl_le c r x (by rw [hs]; exact List.mem_cons_of_mem _ h))
theorem cut_le (c : UInt8) (s : List UInt8) : (cutC c s).1.length ≤ s.length ∧ (cutC c s).2.1.length ≤ s.length := by
  unfold cutC
  split
  · exact ⟨Nat.le_refl _, Nat.zero_le _⟩
  · simp only [List.length_take, List.length_drop]; omega
/-! ### Cut, the last place of a byte -/
theorem cut_t {c : UInt8} {s : List UInt8} (h : (cutC c s).2.2 = true) : s = (cutC c s).1 ++ c :: (cutC c s).2.1 := by
  unfold cutC at h ⊢
  split at h
  · cases h
  · rename_i hn
    rw [if_neg hn]
    obtain ⟨o, ho⟩ : ∃ o : Nat, Lib.indexByte s c = o := ⟨(Lib.indexByte s c).toNat, by omega⟩
    obtain ⟨h1, _⟩ := Lib.indexByte_some ho
    obtain ⟨h2, h3⟩ := List.getElem?_eq_some_iff.1 h1
    rw [ho, Int.toNat_natCast]
    rw [← h3, ← List.drop_eq_getElem_cons h2, List.take_append_drop]
theorem cut_f {c : UInt8} {s : List UInt8} (h : (cutC c s).2.2 = false) : (cutC c s).1 = s ∧ (cutC c s).2.1 = [] := by
  unfold cutC at h ⊢
  split at h
  · rename_i hn; rw [if_pos hn]; exact ⟨rfl, rfl⟩
  · cases h
theorem last_spec (s : List UInt8) (c : UInt8) : ∀ t : Nat, (lastB s c t = -1 ∧ ∀ j : Nat, j < t → s.getD j 0 ≠ c) ∨ ∃ k : Nat, lastB s c t = k ∧ k < t ∧ s.getD k 0 = c ∧ ∀ j : Nat, k < j → j < t → s.getD j 0 ≠ c
  | 0 => .inl ⟨rfl, fun j h => absurd h (Nat.not_lt_zero _)⟩
  | t + 1 => by
    rw [lastB]
    split
    · rename_i h
      exact .inr ⟨t, rfl, by omega, h, fun j h1 h2 => by omega⟩
    · rename_i h
      rcases last_spec s c t with ⟨h1, h2⟩ | ⟨k, h1, h2, h3, h4⟩
      · refine .inl ⟨h1, fun j hj => ?_⟩
        rcases Nat.lt_or_ge j t with hl | hl
        · exact h2 j hl
        · rw [show j = t by omega]; exact h
      · refine .inr ⟨k, h1, by omega, h3, fun j hj1 hj2 => ?_⟩
        rcases Nat.lt_or_ge j t with hl | hl
        · exact h4 j hj1 hl
        · rw [show j = t by omega]; exact h
/-! ### Parsed -/
structure PVer where
  p : List UInt8
  a : Int
  b : Int
  c : Int
  pre : List (List UInt8)
def pver0 : PVer := ⟨[], 0, 0, 0, []⟩
def ptN (s : List UInt8) : Nat := (Lib.indexByte s 46).toNat
def lnI (s : List UInt8) : Int := lastB (s.take (ptN s)) 45 (s.take (ptN s)).length
def prS (s : List UInt8) : List UInt8 := s.take (lnI s).toNat
def rsS (s : List UInt8) : List UInt8 := s.drop ((lnI s).toNat + 1)
def wdS (s : List UInt8) : List (List UInt8) := splitC 46 (cutC 45 (rsS s)).1
def preS (s : List UInt8) : List (List UInt8) := if (cutC 45 (rsS s)).2.2 = true then splitC 46 (cutC 45 (rsS s)).2.1 else []
def numI (s : List UInt8) : Int := if numOk s = true then ((valD s : Nat) : Int) else 0
def verV (s : List UInt8) : PVer := ⟨prS s, numI ((wdS s).getD 0 []), numI ((wdS s).getD 1 []), numI ((wdS s).getD 2 []), preS s⟩
def badPre (l : List (List UInt8)) : Bool := l.any fun p => !isPreB p
def parseOk (s : List UInt8) : Bool := numOk ((wdS s).getD 0 []) && numOk ((wdS s).getD 1 []) && numOk ((wdS s).getD 2 []) && !badPre (preS s) && decide (((preS s).length : Int) ≤ 5)
def parseR (s : List UInt8) : PVer × Bool :=
  if (decide (Lib.indexByte s 46 < 0) || decide ((40 : Int) < s.length)) = true then (pver0, false)
  else if (decide (lnI s < 0) || !projOk (prS s)) = true then (pver0, false)
  else if ((wdS s).length : Int) ≠ 3 then (pver0, false) else (verV s, parseOk s)
abbrev relOk (s : List UInt8) : Bool := (parseR s).2
theorem parse_iff (s : List UInt8) : relOk s = true ↔ 0 ≤ lnI s ∧ s.length ≤ 40 ∧ projOk (prS s) = true ∧ (wdS s).length = 3 ∧ parseOk s = true := by
  have hneg : Lib.indexByte s 46 < 0 → lnI s = -1 := fun h => by
    have h0 : ptN s = 0 := by unfold ptN; omega
    unfold lnI; rw [h0]; rfl
  unfold relOk parseR
  split
  · rename_i h
    simp only [Bool.or_eq_true, decide_eq_true_eq] at h
    refine ⟨(fun h => by cases h), fun h1 => ?_⟩
    rcases h with h | h
    · have := hneg h; omega
    · omega
  · rename_i h
    simp only [Bool.or_eq_true, decide_eq_true_eq, not_or] at h
    split
    · rename_i h2
      simp only [Bool.or_eq_true, decide_eq_true_eq, Bool.not_eq_true'] at h2
      refine ⟨(fun h => by cases h), fun h1 => ?_⟩
      rcases h2 with h2 | h2
      · omega
      · rw [h2] at h1; cases h1.2.2.1
    · rename_i h2
      simp only [Bool.or_eq_true, decide_eq_true_eq, Bool.not_eq_true', not_or, Bool.not_eq_false] at h2
      split
      · refine ⟨(fun h => by cases h), fun h1 => ?_⟩
        rename_i h3; omega
      · rename_i h3
        exact ⟨fun h4 => ⟨by omega, by omega, h2.2, by omega, h4⟩, fun h4 => h4.2.2.2.2⟩
def wholesOk (l : List (List UInt8)) : Bool := l.all fun w => plainOk w 6
def refR (s : List UInt8) : PVer × Int :=
  if nameOk s = false then (pver0, 8) else if lnI s < 0 then (pver0, 8)
  else if (!wholesOk (wdS s) || !decide (((wdS s).length : Int) = 3) || !projOk (prS s)) = true then (pver0, 8)
  else if (cutC 45 (rsS s)).2.2 = true then (if (decide ((5 : Int) < (preS s).length) || (preS s).any fun p => !partB p) = true then (pver0, 8) else (verV s, 0)) else (verV s, 0)
theorem ln_parts {s : List UInt8} (h : 0 ≤ lnI s) : s = prS s ++ 45 :: rsS s := by
  unfold prS rsS
  rcases last_spec (s.take (ptN s)) 45 (s.take (ptN s)).length with ⟨h1, _⟩ | ⟨k, h1, h2, h3, _⟩
  · have : lnI s = -1 := h1
    omega
  · have h1 : lnI s = k := h1
    rw [h1, Int.toNat_natCast]
    rw [List.length_take] at h2
    have hk : k < s.length := by omega
    have e : s.getD k 0 = 45 := by
      rw [← h3, List.getD_eq_getElem?_getD, List.getD_eq_getElem?_getD, List.getElem?_take, if_pos (by omega)]
    rw [← e, ← drop_str hk, List.take_append_drop]
theorem mem_rest {s : List UInt8} (hw : ∀ w ∈ wdS s, ∀ c ∈ w, letB.contains c = true) (hp : ∀ w ∈ preS s, ∀ c ∈ w, letB.contains c = true) : ∀ c ∈ rsS s, nameBs.contains c = true := by
  have h1 : ∀ c ∈ (cutC 45 (rsS s)).1, nameBs.contains c = true := fun c hc => by
    rw [← jn_split 46 (cutC 45 (rsS s)).1] at hc
    rcases mem_jn hc with rfl | ⟨w, h1, h2⟩
    · decide
    · exact let_name (hw w h1 c h2)
  intro c hc
  cases h : (cutC 45 (rsS s)).2.2 with
  | false => rw [(cut_f h).1] at h1; exact h1 c hc
  | true =>
    rw [cut_t h] at hc
    rcases List.mem_append.1 hc with hc | hc
    · exact h1 c hc
    · rcases List.mem_cons.1 hc with rfl | hc
      · decide
      · rw [← jn_split 46 (cutC 45 (rsS s)).2.1] at hc
        rcases mem_jn hc with rfl | ⟨w, h1, h2⟩
        · decide
        · exact let_name (hp w (by unfold preS; rw [if_pos h]; exact h1) c h2)
theorem name_iff {s : List UInt8} : nameOk s = true ↔ s ≠ [] ∧ s.length ≤ 40 ∧ 97 ≤ (s.getD 0 0).toNat ∧ (s.getD 0 0).toNat ≤ 122 ∧ ∀ c ∈ s, nameBs.contains c = true := by
  simp only [nameOk, Bool.and_eq_true, Bool.not_eq_true', decide_eq_false_iff_not, decide_eq_true_eq]
  constructor
  · rintro ⟨⟨⟨⟨h1, h2⟩, h3⟩, h4⟩, h5⟩
    exact ⟨h1, by omega, by omega, by omega, trimS_nil h5⟩
  · rintro ⟨h1, h2, h3, h4, h5⟩
    exact ⟨⟨⟨⟨h1, by omega⟩, by omega⟩, by omega⟩, trimS_all h5⟩
theorem proj_name {s : List UInt8} (h : projOk s = true) : nameOk s = true := by
  simp only [projOk, Bool.and_eq_true] at h; exact h.1
theorem name_of {s : List UInt8} (h0 : 0 ≤ lnI s) (h1 : s.length ≤ 40) (h2 : projOk (prS s) = true) (hw : ∀ w ∈ wdS s, ∀ c ∈ w, letB.contains c = true) (hp : ∀ w ∈ preS s, ∀ c ∈ w, letB.contains c = true) : nameOk s = true := by
  have e := ln_parts h0
  obtain ⟨n1, n2, n3, n4, n5⟩ := name_iff.1 (proj_name h2)
  have eg : s.getD 0 0 = (prS s).getD 0 0 := by
    generalize prS s = u at e n1 ⊢
    generalize rsS s = v at e
    subst e
    cases u with
    | nil => exact absurd rfl n1
    | cons a r => rfl
  refine name_iff.2 ⟨fun h => ?_, h1, by rw [eg]; exact n3, by rw [eg]; exact n4, fun c hc => ?_⟩
  · rw [h] at e; simp at e
  · rw [e] at hc
    rcases List.mem_append.1 hc with hc | hc
    · exact n5 c hc
    · rcases List.mem_cons.1 hc with rfl | hc
      · decide
      · exact mem_rest hw hp c hc
theorem triple {α : Type} {l : List α} (h : l.length = 3) : ∃ x y z, l = [x, y, z] := by
  match l, h with
  | [x, y, z], _ => exact ⟨x, y, z, rfl⟩
theorem bad_iff {l : List (List UInt8)} : badPre l = false ↔ ∀ p ∈ l, isPreB p = true := by
  unfold badPre
  constructor
  · intro h p hp
    cases hq : isPreB p with
    | true => rfl
    | false =>
      have : (l.any fun p => !isPreB p) = true := List.any_eq_true.2 ⟨p, hp, by rw [hq]; rfl⟩
      rw [this] at h; cases h
  · intro h
    cases hq : (l.any fun p => !isPreB p) with
    | false => rfl
    | true =>
      obtain ⟨p, hp, hb⟩ := List.any_eq_true.1 hq
      rw [h p hp] at hb; cases hb
theorem parse_parts {s : List UInt8} (h3 : (wdS s).length = 3) (h : parseOk s = true) : (∀ w ∈ wdS s, numOk w = true) ∧ (∀ p ∈ preS s, isPreB p = true) ∧ (preS s).length ≤ 5 := by
  obtain ⟨x, y, z, e⟩ := triple h3
  simp only [parseOk, Bool.and_eq_true, Bool.not_eq_true', decide_eq_true_eq, e, List.getD_cons_zero, List.getD_cons_succ] at h
  obtain ⟨⟨⟨⟨h1, h2⟩, h4⟩, h5⟩, h6⟩ := h
  refine ⟨fun w hw => ?_, bad_iff.1 h5, by omega⟩
  rw [e] at hw
  simp only [List.mem_cons, List.not_mem_nil, or_false] at hw
  rcases hw with rfl | rfl | rfl <;> assumption
theorem parts_parse {s : List UInt8} (h3 : (wdS s).length = 3) (hw : ∀ w ∈ wdS s, numOk w = true) (hp : ∀ p ∈ preS s, isPreB p = true) (h5 : (preS s).length ≤ 5) : parseOk s = true := by
  obtain ⟨x, y, z, e⟩ := triple h3
  simp only [parseOk, Bool.and_eq_true, Bool.not_eq_true', decide_eq_true_eq, e, List.getD_cons_zero, List.getD_cons_succ]
  rw [e] at hw
  exact ⟨⟨⟨⟨hw x (by simp), hw y (by simp)⟩, hw z (by simp)⟩, bad_iff.2 hp⟩, by omega⟩
theorem wholes_iff {l : List (List UInt8)} : wholesOk l = true ↔ ∀ w ∈ l, numOk w = true := by
  unfold wholesOk
  rw [List.all_eq_true]
  constructor <;> intro h w hw
  · rw [numOk_plain]; exact h w hw
  · rw [← numOk_plain]; exact h w hw
theorem ref_ok {s : List UInt8} (h : relOk s = true) : refR s = (verV s, 0) := by
  obtain ⟨h0, h1, h2, h3, h4⟩ := (parse_iff s).1 h
  obtain ⟨p1, p2, p3⟩ := parse_parts h3 h4
  have hn := name_of h0 h1 h2 (fun w hw c hc => sub_let ((numOk_dig (p1 w hw)).2 c hc)) fun w hw => (preB_let (p2 w hw)).2
  unfold refR
  rw [if_neg (by simp [hn]), if_neg (by omega), if_neg (by simp [wholes_iff.2 p1, h3, h2])]
  split
  · rw [if_neg]
    simp only [Bool.or_eq_true, decide_eq_true_eq, List.any_eq_true, Bool.not_eq_true', not_or, not_exists, not_and, Bool.not_eq_false]
    exact ⟨by omega, fun p hp => by rw [← preB_eq]; exact p2 p hp⟩
  · rfl
theorem ref_bad {s : List UInt8} (h : relOk s = false) : refR s = (pver0, 8) := by
  have hno : ¬ relOk s = true := by rw [h]; exact Bool.false_ne_true
  rw [parse_iff] at hno
  unfold refR
  split
  · rfl
  · rename_i hn
    have hn : nameOk s = true := by simpa using hn
    have hl := (name_iff.1 hn).2.1
    split
    · rfl
    · rename_i h0
      split
      · rfl
      · rename_i h1
        simp only [Bool.or_eq_true, Bool.not_eq_true', decide_eq_false_iff_not, not_or, Bool.not_eq_false, Classical.not_not] at h1
        obtain ⟨⟨h1, h2⟩, h3⟩ := h1
        have hw := wholes_iff.1 h1
        split
        · split
          · rfl
          · rename_i h4
            exfalso
            simp only [Bool.or_eq_true, decide_eq_true_eq, List.any_eq_true, Bool.not_eq_true', not_or, not_exists, not_and, Bool.not_eq_false] at h4
            exact hno ⟨by omega, hl, h3, by omega, parts_parse (by omega) hw (fun p hp => by rw [preB_eq]; exact h4.2 p hp) (by omega)⟩
        · rename_i h4
          exfalso
          have e : preS s = [] := by unfold preS; rw [if_neg h4]
          exact hno ⟨by omega, hl, h3, by omega, parts_parse (by omega) hw (fun p hp => by rw [e] at hp; cases hp) (by rw [e]; exact Nat.zero_le _)⟩
end Go.Proofs.YtkkngcdikbhkjaaDoor
end
section
namespace Go.Proofs.YtkkngcdikbhkjaaDoor
set_option linter.unusedSimpArgs false
set_option linter.unusedVariables false
set_option maxRecDepth 20000
open Go.RowKit Go.Eng
end Go.Proofs.YtkkngcdikbhkjaaDoor
end
section
namespace Go.Proofs.YtkkngcdikbhkjaaDoor
set_option linter.unusedSimpArgs false
set_option linter.unusedVariables false
set_option maxRecDepth 20000
open Go.RowKit Go.Eng
/-! ### Three-way comparing -/
structure Cmp3 {α : Type} (f : α → α → Int) : Prop where
  anti : ∀ a b, f b a = -f a b
  tr : ∀ a b c, f a b ≤ 0 → f b c ≤ 0 → f a c ≤ 0
section
variable {α β : Type} {f g : α → α → Int}
theorem Cmp3.refl (h : Cmp3 f) (a : α) : f a a = 0 := by have := h.anti a a; omega
theorem Cmp3.zero (h : Cmp3 f) {a b c : α} (h1 : f a b = 0) (h2 : f b c = 0) : f a c = 0 := by
  have h3 := h.tr a b c (by omega) (by omega)
  have h4 := h.anti a b
  have h5 := h.anti b c
  have h6 := h.tr c b a (by omega) (by omega)
  have h7 := h.anti a c
  omega
end
/-! ### Versions -/
/-! ### Numbers -/
/-! ### Right versions -/
/-! ### Texts -/
def outB (n lo hi : Int) : Bool := decide (n < lo) || decide (hi < n)
/-! ### Ranges, ties -/
end Go.Proofs.YtkkngcdikbhkjaaDoor
end
