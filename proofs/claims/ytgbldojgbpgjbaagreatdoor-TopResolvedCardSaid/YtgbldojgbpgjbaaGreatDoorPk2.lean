/- Part 2, merged by a program. Numbers as texts: Itoa, plainNumber, whole; the table of powers of ten. Conditions: those of each theorem. Traces as texts, read: frames, heads, faults of the form Inner. Plain lists; no program in sight. Numbers of a base as texts: strconv.ParseInt at digits of base 10 and 16, stack.number; CutPrefix, CutSuffix. Conditions: those of each theorem. The line of a frame and the line of a fault walked: CutPrefix, CutSuffix, readCall, readPlace, readFrame, readHead. Conditions: those of each theorem. The lines of a text and their reader: begins, next, fault, frame, newSource. Conditions: those of each theorem. stack.Shared, stack.shares: the frames that a fault shares with the one before it. Conditions: those of each theorem. stack.readInner: the plain steps of a round, and the walk. Conditions: those of each theorem. stack.read and stack.Read in the form Inner: the plain facts, and the walks. Conditions: those of each theorem. The lines of an event's head, read: kinds of lines, what may follow, what a line says. Conditions: those of each theorem. event.readLines: the head of an event read. Conditions: those of each theorem. How far a wrong line's number goes; event.Read. Conditions: those of each theorem. The lines of frames and faults, written: call, head, place. Conditions: those of each theorem. -/
import Derived.Test.YtgbldojgbpgjbaaGreatDoorZip
import Derived.Test.YtgbldojgbpgjbaaGreatDoorSit
import Derived.Lib.ItoaLen
import Derived.Test.YtgbldojgbpgjbaaGreatDoorIfc
import Derived.Test.YtgbldojgbpgjbaaGreatDoorInv
import Derived.Test.YtgbldojgbpgjbaaGreatDoorByt
import Derived.Test.YtgbldojgbpgjbaaGreatDoorOpsB
import Derived.Test.YtgbldojgbpgjbaaGreatDoorMid
import Derived.Test.YtgbldojgbpgjbaaGreatDoorMany
import Derived.Test.YtgbldojgbpgjbaaGreatDoorHere
import Derived.Test.YtgbldojgbpgjbaaGreatDoorPost
import Derived.Test.YtgbldojgbpgjbaaGreatDoorLoud
import Derived.Test.YtgbldojgbpgjbaaGreatDoorUnb
import Derived.Test.YtgbldojgbpgjbaaGreatDoorPerm
import Derived.Test.YtgbldojgbpgjbaaGreatDoorCopy
import Derived.Test.YtgbldojgbpgjbaaGreatDoorPk1
section
namespace Go.Proofs.YtgbldojgbpgjbaaGreatDoor
set_option linter.unusedSimpArgs false
set_option linter.unusedVariables false
set_option maxRecDepth 20000
open Go.RowKit Go.Eng
/-- the table of powers of ten lies there -/
def P10 (w : World) : Prop := Lib.TabIs Tryz.prog w "internal/strconv.uint64pow10" .u64 Lib.pow10Tab ∧ 1 < w.heap.size
theorem P10.below {w w' : World} (h : P10 w) (hb : Below w.heap.size w w') : P10 w' := by
  refine ⟨?_, Nat.lt_of_lt_of_le h.2 hb.size⟩
  have e : Tryz.prog.globalNamed "internal/strconv.uint64pow10" = some 1 := by kernel_rfl
  have h1 := h.1
  unfold Lib.TabIs World.var? at h1 ⊢
  rw [e] at h1 ⊢
  simp only [Option.bind_some] at h1 ⊢
  rw [hb.block _ h.2]; exact h1
theorem below_grow0 (w : World) (k : Nat) (os : Array Obj) : Below w.heap.size w (Sort.grow (w.drewN k) os) :=
  ⟨rfl, rfl, rfl, by show w.heap.size ≤ (w.heap ++ os).size; simp, fun j hj => by show (w.heap ++ os)[j]? = w.heap[j]?; rw [Array.getElem?_append, if_pos hj]⟩
theorem Itoa_any (n : Int) (h0 : -9223372036854775808 ≤ n) (h1 : n ≤ 9223372036854775807) (w : World) (hP : P10 w) :
    Calls Tryz.prog 33 #[.int .i64 n] w fun e w' => e = .returned (str (Lib.itoa n)) ∧ Below w.heap.size w w' :=
  (Any.strconv_Itoa Tryz.laysM171 n h0 h1 w hP.1).mono fun e w' ⟨h, k, os, hw⟩ => ⟨h, hw ▸ below_grow0 w k os⟩
theorem TrimDig_any (s : List UInt8) (hs : s.length ≤ 1000000000) (w : World) : Calls Tryz.prog 60 #[str s, str digB] w fun e w' => e = .returned (str (Lib.trimS s digB)) ∧ Below w.heap.size w w' :=
  Any.strings_Trim_laid Tryz.lays160 (by kernel_rfl) ⟨s.toArray⟩ ⟨digB.toArray⟩ w (by rw [Lib.size_eq]; simp; omega) (by decide) (ascii_of_all (by decide))
def plainOk (s : List UInt8) (k : Nat) : Bool := !(decide (s = []) || decide ((k : Int) < s.length) || (decide ((1 : Int) < s.length) && decide (((s.getD 0 0).toNat : Int) = 48)) || !decide (Lib.trimS s digB = []))
def plainJ (s : List UInt8) (k : Nat) : Nat := if plainOk s k = true then valD s else 0
theorem plain_parts {s : List UInt8} {k : Nat} (h : plainOk s k = true) : s ≠ [] ∧ s.length ≤ k ∧ ∀ c ∈ s, 48 ≤ c.toNat ∧ c.toNat ≤ 57 := by
  simp only [plainOk, Bool.not_eq_true', Bool.or_eq_false_iff, decide_eq_false_iff_not, Bool.not_eq_false', decide_eq_true_eq] at h
  obtain ⟨⟨⟨h1, h2⟩, _⟩, h3⟩ := h
  exact ⟨h1, by omega, fun c hc => digB_iff (trimS_nil h3 c hc)⟩
theorem plainNumber_any (s : List UInt8) (k : Nat) (hk : k ≤ 18) (hs : s.length ≤ 1000000000) (w : World) :
    Calls Tryz.prog 173 #[str s, .int .i64 (k : Int)] w fun e w' => e = .returned (.tuple #[.int .i64 ((plainJ s k : Nat) : Int), .bool (plainOk s k)]) ∧ Below w.heap.size w w' := by
  refine enter_args (args := [str s, .int .i64 (k : Int)]) (F := _) Tryz.func173 rfl Tryz.ntmps173 rfl rfl ?_
  intro Rb hRb hRn
  refine tx ?_
  refine sr 2 ?_
  refine sgs ?_
  refine tx ?_
  refine sr 1 ?_
  refine s1 (y_bin rfl rfl rfl (fun _ => b_eqls)) ?_
  refine sr 1 ?_
  refine sg rfl (y_move rfl rfl) ?_
  refine sg rfl (y_len_str rfl rfl Tryz.underlying9) ?_
  refine sg rfl (y_move rfl rfl) ?_
  refine sg rfl (y_bin rfl rfl rfl (fun _ => b_gtr)) ?_
  refine s1 (y_or rfl rfl rfl) ?_
  refine sr 1 ?_
  refine sg rfl (y_move rfl rfl) ?_
  refine sg rfl (y_len_str rfl rfl Tryz.underlying9) ?_
  refine sg rfl (y_bin rfl rfl rfl (fun _ => b_gtr)) ?_
  refine sg rfl (y_move rfl rfl) ?_
  refine sg rfl (y_move rfl rfl) ?_
  refine sg rfl (y_index_str (j := 0) rfl rfl rfl Tryz.underlying9 (fun hg => by simp at hg; omega)) ?_
  refine sg rfl (y_bin rfl rfl rfl (fun _ => b_eql)) ?_
  refine sg rfl (y_and rfl rfl rfl) ?_
  refine s1 (y_or rfl rfl rfl) ?_
  refine sr 1 ?_
  refine sg rfl (y_move rfl rfl) ?_
  refine sg rfl (y_call rfl rfl rfl cf60 (fun _ w _ => TrimDig_any s hs w)) ?_
  refine sg rfl (y_bin rfl rfl rfl (fun _ => b_neqs)) ?_
  refine s1 (y_as (v' := .bool (!plainOk s k)) (by rw [plainOk, Bool.not_not]) (y_or rfl rfl rfl)) ?_
  refine sgo ?_
  refine T_cond rfl ?_ ?_ <;> intro h30
  · skip
    have hn : plainOk s k = false := by simpa using h30
    refine tx ?_
    refine sr 2 ?_
    refine sgo ?_
    refine tr2 hRb fun w hM => ?_
    exact ⟨by rw [plainJ, hn]; rfl, hM.below⟩
  have hn : plainOk s k = true := by simpa using h30
  have hd := plain_parts hn
  refine kgx ?_
  refine sr 1 ?_
  refine s1 (y_call rfl rfl rfl cf227 (fun _ w _ => Atoi_any s hd.1 (by omega) hd.2.2 w)) ?_
  refine sr 5 ?_
  refine sgs ?_
  refine T_draws (by kernel_rfl) (by kernel_rfl) ?_
  refine d1 (y_move rfl rfl) ?_
  refine d1 (y_move rfl rfl) ?_
  refine d1 (y_bin rfl rfl rfl (fun _ => b_eqlII Tryz.underlying75)) ?_
  refine d1 (y_assign rfl rfl) ?_
  refine d1 (y_assign rfl rfl) ?_
  refine dgo ?_
  refine tr2 hRb fun w hM => ?_
  exact ⟨by rw [plainJ, hn]; rfl, hM.below⟩
end Go.Proofs.YtgbldojgbpgjbaaGreatDoor
end
section
namespace Go.Proofs.YtgbldojgbpgjbaaGreatDoor
set_option linter.unusedSimpArgs false
set_option linter.unusedVariables false
set_option maxRecDepth 20000
open Go.RowKit Go.Eng
abbrev marksB : List UInt8 := [40, 41, 58, 44, 33]
/-! ### Numbers of a base -/
def hexV (c : UInt8) : Nat := if c.toNat ≤ 57 then c.toNat - 48 else c.toNat - 87
def digOk (b : Nat) (c : UInt8) : Bool := (decide (48 ≤ c.toNat) && decide (c.toNat ≤ 57)) || (decide (b = 16) && decide (97 ≤ c.toNat) && decide (c.toNat ≤ 102))
def valB (b : Nat) (s : List UInt8) : Nat := s.foldl (fun n c => n * b + hexV c) 0
def numH (b k : Nat) (s : List UInt8) : Bool := !decide (s = []) && decide (s.length ≤ k) && !(decide (1 < s.length) && decide (s.getD 0 0 = 48)) && s.all (digOk b)
def numB (b k : Nat) (s : List UInt8) : Option Nat := if numH b k s = true then some (valB b s) else none
/-! ### The line of a frame -/
def callM (s : List UInt8) : List UInt8 × List UInt8 := if (cutC 33 s).2.2 = true then ((cutC 33 s).1, (cutC 33 s).2.1) else ([], s)
def callOk (s : List UInt8) : Bool := !decide ((callM s).2 = []) && wordOk marksB (callM s).2 && wordOk marksB (callM s).1 && (!decide ((callM s).1 = []) || !(cutC 33 s).2.2)
/-- a word in brackets: a file, and a line -/
def fileQ (w : List UInt8) : Option (List UInt8 × Nat) :=
  let s := w.drop 1
  if Lib.hasSuffix s [41] = false then none else
    let t := s.take (s.length - 1)
    let x := cutC 58 t
    if x.1 = [] ∨ wordOk marks x.1 = false then none
    else if x.2.2 = true then (match numB 10 7 x.2.1 with | some (n + 1) => some (x.1, n + 1) | _ => none) else some (x.1, 0)
structure PPl where
  fi : List UInt8
  ln : Nat
  ad : Int
  own : Bool
def plC (fi : List UInt8) (ln : Nat) (ad : Int) : List (List UInt8) → Option PPl
  | [] => some ⟨fi, ln, ad, false⟩
  | [w] => if w = [42] then some ⟨fi, ln, ad, true⟩ else none
  | _ => none
def plB (fi : List UInt8) (ln : Nat) : List (List UInt8) → Option PPl
  | [] => some ⟨fi, ln, -1, false⟩
  | w :: r => if Lib.hasPrefix w [64] = true then (match numB 16 12 (w.drop 1) with | some n => plC fi ln (n : Int) r | none => none) else plC fi ln (-1) (w :: r)
def placeQ : List (List UInt8) → Option PPl
  | [] => some ⟨[], 0, -1, false⟩
  | w :: r => if Lib.hasPrefix w [40] = true then (match fileQ w with | some (fi, ln) => plB fi ln r | none => none) else plB [] 0 (w :: r)
/-- the words of a line; the first one, and the others -/
def frameQ (s : List UInt8) : Option Frm :=
  match splitC 32 s with
  | [] => none
  | w :: r => if callOk w = true then (placeQ r).map fun p => ⟨(callM w).1, (callM w).2, p.fi, (p.ln : Int), p.ad, p.own⟩ else none
/-! ### The line of a fault -/
def headQ (s : List UInt8) : Option (List UInt8 × List UInt8) :=
  let x := cutC 58 s
  if x.2.2 = false ∨ x.1 = [] ∨ wordOk [58] x.1 = false then none
  else if x.2.1 = [] then some (x.1, []) else if Lib.hasPrefix x.2.1 [32] = true ∧ x.2.1.drop 1 ≠ [] then some (x.1, x.2.1.drop 1) else none
/-! ### Faults, one within another -/
structure PFl where
  k : List UInt8
  t : List UInt8
  fr : List Frm
abbrev atB : List UInt8 := [32, 32, 32, 32, 97, 116, 32]
abbrev dotB : List UInt8 := [32, 32, 32, 32, 46, 46, 46, 32]
abbrev moreB : List UInt8 := [32, 109, 111, 114, 101]
abbrev causeB : List UInt8 := [67, 97, 117, 115, 101, 100, 32, 98, 121, 58, 32]
/-- how many of the outermost frames are equal -/
def shL : List Frm → List Frm → Nat
  | x :: a, y :: b => if Frm.eqB x y = true then shL a b + 1 else 0
  | _, _ => 0
def shQ (a b : List Frm) : Nat := shL a.reverse b.reverse
def begL (ls : List (List UInt8)) (p : List UInt8) : Bool := match ls with
  | [] => false
  | l :: _ => Lib.hasPrefix l p
/-- the lines of frames: those that were taken are acc -/
def frsQ : List (List UInt8) → Nat → List Frm → Nat ⊕ (List Frm × List (List UInt8) × Nat)
  | [], i, acc => .inr (acc, [], i)
  | l :: ls, i, acc => if Lib.hasPrefix l atB = true then (match frameQ (l.drop 7) with | some x => frsQ ls (i + 1) (acc ++ [x]) | none => .inl (i + 1)) else .inr (acc, l :: ls, i)
/-- the line that says how many frames are shared -/
def dotQ (l : List UInt8) : Option Nat := if Lib.hasSuffix (l.drop 8) moreB = true then numB 10 3 ((l.drop 8).take ((l.drop 8).length - 5)) else none
def lastF (b : List PFl) : List Frm := (b.getLast?.map PFl.fr).getD []
def joinF (b : List PFl) (fr : List Frm) (n : Nat) : Option (List Frm) :=
  if b = [] ∨ n < 2 ∨ (lastF b).length < n then none
  else if shQ (lastF b) (fr ++ (lastF b).drop ((lastF b).length - n)) = n then some (fr ++ (lastF b).drop ((lastF b).length - n)) else none
def preQ (b : List PFl) : List UInt8 := if b = [] then [] else causeB
/-- a fault's lines; what is left, and how many were taken; or the number of the wrong line -/
def faultQ (b : List PFl) (tail : List UInt8) (i : Nat) : List (List UInt8) → Nat ⊕ (PFl × List (List UInt8) × Nat)
  | [] => .inl (i + 1)
  | l :: ls =>
    if Lib.hasPrefix l (preQ b) = false then .inl (i + 1) else
      match headQ (l.drop (preQ b).length) with
      | none => .inl (i + 1)
      | some (k, t) =>
        match frsQ ls (i + 1) [] with
        | .inl e => .inl e
        | .inr (fr, ls2, i2) =>
          if begL ls2 dotB = true then
            match (dotQ (ls2.headD [])).bind (joinF b fr) with
            | none => .inl (i2 + 1)
            | some fr' => .inr (⟨k, t, fr'⟩, ls2.tail, i2 + 1)
          else if ls2 = [] ∧ (Lib.hasPrefix tail atB = true ∨ Lib.hasPrefix tail dotB = true) then .inl (i2 + 1)
          else if b ≠ [] ∧ 2 ≤ shQ (lastF b) fr then .inl (i + 2 + fr.length - shQ (lastF b) fr)
          else .inr (⟨k, t, fr⟩, ls2, i2)
def innerQ (tail : List UInt8) : Nat → List PFl → List (List UInt8) → Nat → List PFl ⊕ Nat
  | 0, _, _, _ => .inr 0
  | f + 1, b, ls, i => match faultQ b tail i ls with
    | .inl e => .inr e
    | .inr (x, ls', i') => if ls' = [] then .inl (b ++ [x]) else innerQ tail f (b ++ [x]) ls' i'
end Go.Proofs.YtgbldojgbpgjbaaGreatDoor
end
section
namespace Go.Proofs.YtgbldojgbpgjbaaGreatDoor
set_option linter.unusedSimpArgs false
set_option linter.unusedVariables false
set_option maxRecDepth 20000
open Go.RowKit Go.Eng
theorem dig_val {b : Nat} (hb : b = 10 ∨ b = 16) {c : UInt8} (h : digOk b c = true) : hexV c < b := by
  unfold digOk at h
  unfold hexV
  simp only [Bool.or_eq_true, Bool.and_eq_true, decide_eq_true_eq] at h
  rcases h with h | h
  · rw [if_pos h.2]; rcases hb with rfl | rfl <;> omega
  · have : b = 16 := h.1.1
    subst this
    rw [if_neg (by omega)]; omega
theorem valB_snoc (b : Nat) (s : List UInt8) (c : UInt8) : valB b (s ++ [c]) = valB b s * b + hexV c := by simp [valB, List.foldl_append]
theorem valA_lt {b : Nat} (hb : b = 10 ∨ b = 16) : ∀ (s : List UInt8) (n : Nat), (∀ c ∈ s, digOk b c = true) → s.foldl (fun n c => n * b + hexV c) n < (n + 1) * b ^ s.length
  | [], n, _ => by simp
  | c :: s, n, h => by
    have h1 := valA_lt hb s (n * b + hexV c) fun x hx => h x (List.mem_cons_of_mem _ hx)
    have h2 := dig_val hb (h c List.mem_cons_self)
    have h3 : n * b + hexV c + 1 ≤ (n + 1) * b := by rw [Nat.add_mul, Nat.one_mul]; omega
    have h4 := Nat.mul_le_mul_right (b ^ s.length) h3
    rw [List.foldl_cons, List.length_cons, Nat.pow_succ, Nat.mul_comm (b ^ s.length), ← Nat.mul_assoc]
    exact Nat.lt_of_lt_of_le h1 h4
theorem valB_lt {b : Nat} (hb : b = 10 ∨ b = 16) (s : List UInt8) (h : ∀ c ∈ s, digOk b c = true) : valB b s < b ^ s.length := by
  have := valA_lt hb s 0 h
  simpa [valB] using this
theorem take_getN {s : List UInt8} {i : Nat} (h : i < s.length) : s.take (i + 1) = s.take i ++ [s.getD i 0] := by
  rw [List.getD_eq_getElem?_getD, List.getElem?_eq_getElem h, List.take_succ_eq_append_getElem h]; rfl
theorem getN_mem {s : List UInt8} {i : Nat} (h : i < s.length) : s.getD i 0 ∈ s := by
  rw [List.getD_eq_getElem?_getD, List.getElem?_eq_getElem h]; exact List.getElem_mem h
theorem valB_take {b : Nat} {s : List UInt8} {i : Nat} (h : i < s.length) : valB b (s.take (i + 1)) = valB b (s.take i) * b + hexV (s.getD i 0) := by rw [take_getN h, valB_snoc]
theorem valB_small {b : Nat} (hb : b = 10 ∨ b = 16) {s : List UInt8} (hd : ∀ c ∈ s, digOk b c = true) {i : Nat} (hi : i ≤ 12) : valB b (s.take i) < 281474976710656 := by
  have h1 := valB_lt hb (s.take i) fun c hc => hd c (List.mem_of_mem_take hc)
  have hl : (s.take i).length ≤ 12 := by rw [List.length_take]; omega
  have h2 : b ^ (s.take i).length ≤ b ^ 12 := Nat.pow_le_pow_right (by rcases hb with rfl | rfl <;> decide) hl
  have h3 : b ^ 12 ≤ 281474976710656 := by rcases hb with rfl | rfl <;> decide
  omega
theorem num_parts {b k : Nat} {s : List UInt8} (h : numH b k s = true) : s ≠ [] ∧ s.length ≤ k ∧ ∀ c ∈ s, digOk b c = true := by
  simp only [numH, Bool.and_eq_true, Bool.not_eq_true', decide_eq_false_iff_not, decide_eq_true_eq, List.all_eq_true] at h
  exact ⟨h.1.1.1, h.1.1.2, h.2⟩
theorem lower_all : ∀ n : Nat, n < 256 → bits .or .u8 (n : Int) 32 = ((n ||| 32 : Nat) : Int) := by decide +kernel
theorem low_af {c : UInt8} (h1 : 97 ≤ c.toNat) (h2 : c.toNat ≤ 102) : c.toNat ||| 32 = c.toNat := by
  have key : ∀ n : Nat, n < 256 → 97 ≤ n → n ≤ 102 → n ||| 32 = n := by decide +kernel
  exact key _ (UInt8.toNat_lt c) h1 h2
theorem b_or {P : Program} {t : TypeId} {x y : Operand} {k : IntKind} {m p : Int} : ∀ w, (do eqGuard .or t x y (.int k m) (.int k p); binOp .or t (.int k m) (.int k p) : Sem Value).run P w = .ok (.int k (bits .or k m p)) w := fun w => by
  simp only [eqGuard_or, binOp_or, intBits_or, Sem.run_bind, Sem.run_pure, Result.andThen_ok]
theorem b_shlU {P : Program} {t : TypeId} {x y : Operand} {k' : IntKind} {m p : Int} (h0 : 0 ≤ p) (h1 : p ≤ 64) : ∀ w, (do eqGuard .shl t x y (.int .u64 m) (.int k' p); binOp .shl t (.int .u64 m) (.int k' p) : Sem Value).run P w = .ok (.int .u64 (IntKind.u64.wrap (m * 2 ^ p.toNat))) w := fun w => by
  simp only [eqGuard_shl, binOp_shl, shift_shl .u64 k' m p h0 h1]; rfl
theorem slower_any (c : UInt8) (w : World) : Calls Tryz.prog 317 #[.int .u8 ((c.toNat : Nat) : Int)] w fun e w' => e = .returned (.int .u8 ((c.toNat ||| 32 : Nat) : Int)) ∧ Below w.heap.size w w' := by
  refine enter_args (args := [.int .u8 ((c.toNat : Nat) : Int)]) (F := _) Tryz.func317 rfl Tryz.ntmps317 rfl rfl ?_
  intro Rb hRb hRn
  refine tx ?_
  refine sr 1 ?_
  refine sgx ?_
  refine sr 1 ?_
  refine s1 (y_bin rfl rfl rfl (fun _ => b_or)) ?_
  refine sr 1 ?_
  refine sgo ?_
  refine tr1 hRb fun w hM => ?_
  exact ⟨by rw [lower_all _ (UInt8.toNat_lt c)], hM.below⟩
theorem hex_dig {c : UInt8} (h : (decide ((48 : Int) ≤ ((c.toNat : Nat) : Int)) && decide (((c.toNat : Nat) : Int) ≤ 57)) = true) : 48 ≤ c.toNat ∧ c.toNat ≤ 57 ∧ hexV c = c.toNat - 48 := by
  simp only [Bool.and_eq_true, decide_eq_true_eq] at h
  exact ⟨by omega, by omega, by rw [hexV, if_pos (by omega)]⟩
theorem hex_let {b : Nat} {c : UInt8} (hd : digOk b c = true) (h : (decide ((48 : Int) ≤ ((c.toNat : Nat) : Int)) && decide (((c.toNat : Nat) : Int) ≤ 57)) = false) : b = 16 ∧ 97 ≤ c.toNat ∧ c.toNat ≤ 102 ∧ c.toNat ||| 32 = c.toNat ∧ hexV c = c.toNat - 87 := by
  simp only [Bool.and_eq_false_iff, decide_eq_false_iff_not] at h
  simp only [digOk, Bool.or_eq_true, Bool.and_eq_true, decide_eq_true_eq] at hd
  rcases hd with hd | hd
  · omega
  · exact ⟨hd.1.1, hd.1.2, hd.2, low_af hd.1.2 hd.2, by rw [hexV, if_neg (by omega)]⟩
theorem ParseUint10_any (s : List UInt8) (h0 : s ≠ []) (hl : s.length ≤ 12) (hd : ∀ c ∈ s, digOk 10 c = true) (w : World) :
    Calls Tryz.prog 313 #[str s, .int .i64 10, .int .i64 64] w fun e w' => e = .returned (.tuple #[.int .u64 ((valB 10 s : Nat) : Int), .nilIface]) ∧ Below w.heap.size w w' := by
  have hb : 10 = 10 ∨ 10 = 16 := by decide
  refine enter_args (args := [str s, .int .i64 10, .int .i64 64]) (F := _) Tryz.func313 rfl Tryz.ntmps313 rfl rfl ?_
  intro Rb hRb hRn
  refine tx ?_
  refine sr 2 ?_
  refine sgs ?_
  refine tx ?_
  refine sr 1 ?_
  refine s1 (y_bin rfl rfl rfl (fun _ => b_eqls)) ?_
  refine sgo ?_
  refine T_cond rfl ?_ ?_ <;> intro h19
  · skip
    simp at h19; exact absurd h19 h0
  refine kgx ?_
  refine sr 3 ?_
  refine sgx ?_
  refine sr 2 ?_
  refine sgs ?_
  refine T_block ?_
  refine tx ?_
  refine sr 3 ?_
  refine sg rfl (y_move rfl rfl) ?_
  refine sg rfl (y_bin rfl rfl rfl (fun _ => b_leq)) ?_
  refine s1 (y_and rfl rfl rfl) ?_
  refine sr 1 ?_
  refine sgo ?_
  refine T_cond rfl ?_ ?_ <;> intro h25
  · skip
    refine kgs ?_
    refine tx ?_
    refine sr 2 ?_
    refine sgo ?_
    refine T_cond rfl ?_ ?_ <;> intro h77
    · skip
      simp at h77
    refine tx ?_
    refine sr 3 ?_
    refine sg rfl (y_move rfl rfl) ?_
    refine sg rfl (y_bin rfl rfl rfl (fun _ => b_gtr)) ?_
    refine s1 (y_or rfl rfl rfl) ?_
    refine sgo ?_
    refine T_cond rfl ?_ ?_ <;> intro h83
    · skip
      simp at h83
    refine kgx ?_
    refine sr 1 ?_
    refine sgs ?_
    refine tx ?_
    refine sr 1 ?_
    refine sgo ?_
    refine T_block ?_
    refine tx ?_
    refine sr 2 ?_
    refine sgo ?_
    refine T_cond rfl ?_ ?_ <;> intro h90
    · skip
      refine T_region ?_
      refine sr 1 ?_
      refine sgx ?_
      refine sr 1 ?_
      refine s1 (y_conv rfl rfl Tryz.underlying3 Tryz.underlying214) ?_
      refine s1 (y_as (v' := .int .u64 0) (by exact rfl) (y_bin rfl rfl rfl (fun _ => b_shlU (p := 64) (by decide) (by decide)))) ?_
      refine s1 (y_as (v' := .int .u64 18446744073709551615) (by exact rfl) (y_bin rfl rfl rfl (fun hg => b_subw))) ?_
      refine sr 1 ?_
      refine sgx ?_
      refine sr 1 ?_
      refine sgx ?_
      refine sr 1 ?_
      refine sgs ?_
      refine tx ?_
      refine sr 1 ?_
      refine S_strBytes 99 99 rfl rfl rfl rfl rfl Tryz.underlying9 Tryz.underlying71 Tryz.underlying5 ?_
      intro b99 c99
      refine s1 (y_len_slice rfl rfl Tryz.underlying71) ?_
      refine sr 1 ?_
      refine sgo ?_
      refine T_block ?_
      refine lK1 (kf := [(6, 7), (12, 13), (15, 17), (101, 163)]) (kl := [(6, 7), (12, 13), (15, 17), (101, 163)]) (fun (i : Nat) => [(101, true, .int .i64 (i : Int)), (12, true, .bool false), (13, true, .int .u64 ((valB 10 (s.take i) : Nat) : Int))]) (fun (i : Nat) => []) (fun (i : Nat) => i ≤ s.length) (fun (i : Nat) => s.length - i) 0 ?_ ?_ ?_ ?_
      · omega
      · exact ⟨rfl, rfl, rfl, trivial⟩
      · exact trivial
      rintro i hp1
      refine tx ?_
      refine sr 1 ?_
      refine sgs ?_
      refine T_cond rfl ?_ ?_ <;> intro h102
      · try simp only [nrm] at h102
        have hlt : i < s.length := by omega
        have hdi := hd _ (getN_mem hlt)
        have hdv := dig_val hb hdi
        have hvi := valB_small hb hd (i := i) (by omega)
        have hvn := valB_small hb hd (i := i + 1) (by omega)
        have hvt := valB_take (b := 10) hlt
        refine kgs ?_
        refine T_block ?_
        refine tx ?_
        refine s1 (y_indexAddr rfl rfl rfl Tryz.underlying71 sz5 (fun _ => rfl) (fun _ => by omega)) ?_
        refine s1 (y_loadRd 99 rfl rfl rfl (fun _ => bytesV_at (by omega)) Tryz.underlying5 rfl) ?_
        refine sr 1 ?_
        refine sgx ?_
        refine sr 1 ?_
        refine sgs ?_
        refine T_block ?_
        refine tx ?_
        refine sr 3 ?_
        refine sg rfl (y_move rfl rfl) ?_
        refine s1 (y_and rfl rfl rfl) ?_
        refine sr 1 ?_
        refine sgo ?_
        refine T_cond rfl ?_ ?_ <;> intro h106
        · skip
          simp at h106
        refine tx ?_
        refine sr 3 ?_
        refine sg rfl (y_move rfl rfl) ?_
        refine sg rfl (y_bin rfl rfl rfl (fun _ => b_leq)) ?_
        refine s1 (y_and rfl rfl rfl) ?_
        refine sr 1 ?_
        refine sgo ?_
        refine T_mid (kf := [(6, 7), (16, 16), (105, 105), (119, 133)]) (kl := [(6, 7), (16, 16), (105, 105), (119, 133)]) (fun u : Unit => [(16, true, .int .u8 ((hexV (s.getD i 0) : Nat) : Int))]) (fun u : Unit => []) (by repeat (first | exact kf_nil | (apply kf_in; focus rfl) | (apply kf_out; focus rfl))) (by repeat (first | exact kl_nil | exact kl_rest (by assumption) rfl | (apply kl_in; focus rfl) | (apply kl_out; focus rfl))) ?_ ?_
        · skip
          refine T_cond rfl ?_ ?_ <;> intro h112
          · skip
            obtain ⟨g1, g2, g3⟩ := hex_dig h112
            refine T_region ?_
            refine sr 1 ?_
            refine s1 (y_as (v' := .int .u8 ((hexV (s.getD i 0) : Nat) : Int)) (by rw [wrap8_in (by omega)]; congr 1; omega) (y_bin rfl rfl rfl (fun hg => b_subw))) ?_
            refine sr 1 ?_
            refine S_nil (mid_end (kf := [(6, 7), (16, 16), (105, 105), (119, 133)]) (kl := [(6, 7), (16, 16), (105, 105), (119, 133)]) (()) (by repeat (first | exact kf_nil | (apply kf_in; focus rfl) | (apply kf_out; focus rfl))) (by repeat (first | exact kl_nil | exact kl_rest (by assumption) rfl | (apply kl_in; focus rfl) | (apply kl_out; focus rfl))) ?_ ?_)
            · exact ⟨rfl, trivial⟩
            · exact trivial
          obtain ⟨g0, g1, g2, g3, g4⟩ := hex_let hdi h112
          refine tx ?_
          refine sr 1 ?_
          refine s1 (y_call rfl rfl rfl cf317 (fun _ w _ => slower_any _ w)) ?_
          refine sr 2 ?_
          refine sg rfl (y_move rfl rfl) ?_
          refine sg rfl (y_call rfl rfl rfl cf317 (fun _ w _ => slower_any _ w)) ?_
          refine sg rfl (y_bin rfl rfl rfl (fun _ => b_leq)) ?_
          refine s1 (y_and rfl rfl rfl) ?_
          refine sr 1 ?_
          refine sgo ?_
          refine T_cond rfl ?_ ?_ <;> intro h121
          · skip
            refine T_region ?_
            refine sr 1 ?_
            refine s1 (y_call rfl rfl rfl cf317 (fun _ w _ => slower_any _ w)) ?_
            refine s1 (y_as (v' := .int .u8 (((s.getD i 0).toNat - 97 : Nat) : Int)) (by rw [g3, wrap8_in (by omega)]; congr 1; omega) (y_bin rfl rfl rfl (fun hg => b_subw))) ?_
            refine s1 (y_as (v' := .int .u8 ((hexV (s.getD i 0) : Nat) : Int)) (by rw [wrap8_in (by omega)]; congr 1; omega) (y_bin rfl rfl rfl (fun hg => b_addw))) ?_
            refine sr 1 ?_
            refine S_nil (mid_end (kf := [(6, 7), (16, 16), (105, 105), (119, 133)]) (kl := [(6, 7), (16, 16), (105, 105), (119, 133)]) (()) (by repeat (first | exact kf_nil | (apply kf_in; focus rfl) | (apply kf_out; focus rfl))) (by repeat (first | exact kl_nil | exact kl_rest (by assumption) rfl | (apply kl_in; focus rfl) | (apply kl_out; focus rfl))) ?_ ?_)
            · exact ⟨rfl, trivial⟩
            · exact trivial
          rw [g3] at h121; simp only [Bool.and_eq_false_iff, decide_eq_false_iff_not] at h121; omega
        intro u
        refine sgs ?_
        refine tx ?_
        refine sr 2 ?_
        refine s1 (y_as (v' := .int .u8 10) (by exact rfl) (y_conv rfl rfl Tryz.underlying3 Tryz.underlying5)) ?_
        refine sr 1 ?_
        refine sgo ?_
        refine T_cond rfl ?_ ?_ <;> intro h137
        · skip
          simp only [decide_eq_true_eq] at h137; omega
        refine kgs ?_
        refine tx ?_
        refine sr 3 ?_
        refine sgo ?_
        refine T_cond rfl ?_ ?_ <;> intro h141
        · skip
          simp only [decide_eq_true_eq] at h141; omega
        refine kgx ?_
        refine sr 2 ?_
        refine s1 (y_as (v' := .int .u64 10) (by exact rfl) (y_conv rfl rfl Tryz.underlying3 Tryz.underlying145)) ?_
        refine s1 (y_as (v' := .int .u64 ((valB 10 (s.take i) * 10 : Nat) : Int)) (by congr 1; rw [IntWalk.u64_in _ (by omega)]; omega) (y_bin rfl rfl rfl (fun hg => b_mulw))) ?_
        refine sr 1 ?_
        refine sgx ?_
        refine sr 2 ?_
        refine s1 (y_as (v' := .int .u64 ((hexV (s.getD i 0) : Nat) : Int)) (by rw [IntWalk.u64_in _ (by omega)]) (y_conv rfl rfl Tryz.underlying5 Tryz.underlying145)) ?_
        refine s1 (y_as (v' := .int .u64 ((valB 10 (s.take (i + 1)) : Nat) : Int)) (by congr 1; rw [IntWalk.u64_in _ (by omega)]; omega) (y_bin rfl rfl rfl (fun hg => b_addw))) ?_
        refine sr 1 ?_
        refine sgs ?_
        refine tx ?_
        refine sr 4 ?_
        refine sg rfl (y_move rfl rfl) ?_
        refine sg rfl (y_move rfl rfl) ?_
        refine sg rfl (y_bin rfl rfl rfl (fun _ => b_gtr)) ?_
        refine s1 (y_or rfl rfl rfl) ?_
        refine sgo ?_
        refine T_cond rfl ?_ ?_ <;> intro h159
        · skip
          simp only [Bool.or_eq_true, decide_eq_true_eq] at h159; omega
        refine kgr ?_
        refine sr 2 ?_
        refine sgr ?_
        refine s1 (y_bin rfl rfl rfl (fun hg => b_add (by omega))) ?_
        refine sr 1 ?_
        refine S_nil (nK1 (kf := [(6, 7), (12, 13), (15, 17), (101, 163)]) (kl := [(6, 7), (12, 13), (15, 17), (101, 163)]) (i + 1) ?_ ?_ ?_ ?_)
        · omega
        · omega
        · exact ⟨rfl, rfl, rfl, trivial⟩
        · exact trivial
      try simp only [nrm] at h102
      refine egs ?_
      refine tx ?_
      refine sr 2 ?_
      refine sg rfl (y_move rfl rfl) ?_
      refine sg rfl (y_call rfl rfl rfl cf318 (fun hg w _ => (show Calls Tryz.prog 318 #[str s] w (fun e w2 => e = .returned (.bool true) ∧ Below w.heap.size w w2) from by simp at hg))) ?_
      refine sg rfl (y_not rfl rfl) ?_
      refine s1 (y_and rfl rfl rfl) ?_
      refine sgo ?_
      refine T_cond rfl ?_ ?_ <;> intro h169
      · skip
        simp at h169
      refine kgx ?_
      refine sr 3 ?_
      refine sgo ?_
      refine tr2 hRb fun w hM => ?_
      have hsi : s.take i = s := List.take_of_length_le (by omega)
      exact ⟨by rw [hsi], hM.below⟩
    simp at h90
  simp at h25
theorem ParseUint16_any (s : List UInt8) (h0 : s ≠ []) (hl : s.length ≤ 12) (hd : ∀ c ∈ s, digOk 16 c = true) (w : World) :
    Calls Tryz.prog 313 #[str s, .int .i64 16, .int .i64 64] w fun e w' => e = .returned (.tuple #[.int .u64 ((valB 16 s : Nat) : Int), .nilIface]) ∧ Below w.heap.size w w' := by
  have hb : 16 = 10 ∨ 16 = 16 := by decide
  refine enter_args (args := [str s, .int .i64 16, .int .i64 64]) (F := _) Tryz.func313 rfl Tryz.ntmps313 rfl rfl ?_
  intro Rb hRb hRn
  refine tx ?_
  refine sr 2 ?_
  refine sgs ?_
  refine tx ?_
  refine sr 1 ?_
  refine s1 (y_bin rfl rfl rfl (fun _ => b_eqls)) ?_
  refine sgo ?_
  refine T_cond rfl ?_ ?_ <;> intro h19
  · skip
    simp at h19; exact absurd h19 h0
  refine kgx ?_
  refine sr 3 ?_
  refine sgx ?_
  refine sr 2 ?_
  refine sgs ?_
  refine T_block ?_
  refine tx ?_
  refine sr 3 ?_
  refine sg rfl (y_move rfl rfl) ?_
  refine sg rfl (y_bin rfl rfl rfl (fun _ => b_leq)) ?_
  refine s1 (y_and rfl rfl rfl) ?_
  refine sr 1 ?_
  refine sgo ?_
  refine T_cond rfl ?_ ?_ <;> intro h25
  · skip
    refine kgs ?_
    refine tx ?_
    refine sr 2 ?_
    refine sgo ?_
    refine T_cond rfl ?_ ?_ <;> intro h77
    · skip
      simp at h77
    refine tx ?_
    refine sr 3 ?_
    refine sg rfl (y_move rfl rfl) ?_
    refine sg rfl (y_bin rfl rfl rfl (fun _ => b_gtr)) ?_
    refine s1 (y_or rfl rfl rfl) ?_
    refine sgo ?_
    refine T_cond rfl ?_ ?_ <;> intro h83
    · skip
      simp at h83
    refine kgx ?_
    refine sr 1 ?_
    refine sgs ?_
    refine tx ?_
    refine sr 1 ?_
    refine sgo ?_
    refine T_block ?_
    refine tx ?_
    refine sr 2 ?_
    refine sgo ?_
    refine T_cond rfl ?_ ?_ <;> intro h90
    · skip
      simp at h90
    refine tx ?_
    refine sr 2 ?_
    refine sgo ?_
    refine T_cond rfl ?_ ?_ <;> intro h92
    · skip
      refine T_region ?_
      refine sr 1 ?_
      refine sgx ?_
      refine sr 1 ?_
      refine s1 (y_conv rfl rfl Tryz.underlying3 Tryz.underlying214) ?_
      refine s1 (y_as (v' := .int .u64 0) (by exact rfl) (y_bin rfl rfl rfl (fun _ => b_shlU (p := 64) (by decide) (by decide)))) ?_
      refine s1 (y_as (v' := .int .u64 18446744073709551615) (by exact rfl) (y_bin rfl rfl rfl (fun hg => b_subw))) ?_
      refine sr 1 ?_
      refine sgx ?_
      refine sr 1 ?_
      refine sgx ?_
      refine sr 1 ?_
      refine sgs ?_
      refine tx ?_
      refine sr 1 ?_
      refine S_strBytes 99 99 rfl rfl rfl rfl rfl Tryz.underlying9 Tryz.underlying71 Tryz.underlying5 ?_
      intro b99 c99
      refine s1 (y_len_slice rfl rfl Tryz.underlying71) ?_
      refine sr 1 ?_
      refine sgo ?_
      refine T_block ?_
      refine lK1 (kf := [(6, 7), (12, 13), (15, 17), (101, 163)]) (kl := [(6, 7), (12, 13), (15, 17), (101, 163)]) (fun (i : Nat) => [(101, true, .int .i64 (i : Int)), (12, true, .bool false), (13, true, .int .u64 ((valB 16 (s.take i) : Nat) : Int))]) (fun (i : Nat) => []) (fun (i : Nat) => i ≤ s.length) (fun (i : Nat) => s.length - i) 0 ?_ ?_ ?_ ?_
      · omega
      · exact ⟨rfl, rfl, rfl, trivial⟩
      · exact trivial
      rintro i hp1
      refine tx ?_
      refine sr 1 ?_
      refine sgs ?_
      refine T_cond rfl ?_ ?_ <;> intro h102
      · try simp only [nrm] at h102
        have hlt : i < s.length := by omega
        have hdi := hd _ (getN_mem hlt)
        have hdv := dig_val hb hdi
        have hvi := valB_small hb hd (i := i) (by omega)
        have hvn := valB_small hb hd (i := i + 1) (by omega)
        have hvt := valB_take (b := 16) hlt
        refine kgs ?_
        refine T_block ?_
        refine tx ?_
        refine s1 (y_indexAddr rfl rfl rfl Tryz.underlying71 sz5 (fun _ => rfl) (fun _ => by omega)) ?_
        refine s1 (y_loadRd 99 rfl rfl rfl (fun _ => bytesV_at (by omega)) Tryz.underlying5 rfl) ?_
        refine sr 1 ?_
        refine sgx ?_
        refine sr 1 ?_
        refine sgs ?_
        refine T_block ?_
        refine tx ?_
        refine sr 3 ?_
        refine sg rfl (y_move rfl rfl) ?_
        refine s1 (y_and rfl rfl rfl) ?_
        refine sr 1 ?_
        refine sgo ?_
        refine T_cond rfl ?_ ?_ <;> intro h106
        · skip
          simp at h106
        refine tx ?_
        refine sr 3 ?_
        refine sg rfl (y_move rfl rfl) ?_
        refine sg rfl (y_bin rfl rfl rfl (fun _ => b_leq)) ?_
        refine s1 (y_and rfl rfl rfl) ?_
        refine sr 1 ?_
        refine sgo ?_
        refine T_mid (kf := [(6, 7), (16, 16), (105, 105), (119, 133)]) (kl := [(6, 7), (16, 16), (105, 105), (119, 133)]) (fun u : Unit => [(16, true, .int .u8 ((hexV (s.getD i 0) : Nat) : Int))]) (fun u : Unit => []) (by repeat (first | exact kf_nil | (apply kf_in; focus rfl) | (apply kf_out; focus rfl))) (by repeat (first | exact kl_nil | exact kl_rest (by assumption) rfl | (apply kl_in; focus rfl) | (apply kl_out; focus rfl))) ?_ ?_
        · skip
          refine T_cond rfl ?_ ?_ <;> intro h112
          · skip
            obtain ⟨g1, g2, g3⟩ := hex_dig h112
            refine T_region ?_
            refine sr 1 ?_
            refine s1 (y_as (v' := .int .u8 ((hexV (s.getD i 0) : Nat) : Int)) (by rw [wrap8_in (by omega)]; congr 1; omega) (y_bin rfl rfl rfl (fun hg => b_subw))) ?_
            refine sr 1 ?_
            refine S_nil (mid_end (kf := [(6, 7), (16, 16), (105, 105), (119, 133)]) (kl := [(6, 7), (16, 16), (105, 105), (119, 133)]) (()) (by repeat (first | exact kf_nil | (apply kf_in; focus rfl) | (apply kf_out; focus rfl))) (by repeat (first | exact kl_nil | exact kl_rest (by assumption) rfl | (apply kl_in; focus rfl) | (apply kl_out; focus rfl))) ?_ ?_)
            · exact ⟨rfl, trivial⟩
            · exact trivial
          obtain ⟨g0, g1, g2, g3, g4⟩ := hex_let hdi h112
          refine tx ?_
          refine sr 1 ?_
          refine s1 (y_call rfl rfl rfl cf317 (fun _ w _ => slower_any _ w)) ?_
          refine sr 2 ?_
          refine sg rfl (y_move rfl rfl) ?_
          refine sg rfl (y_call rfl rfl rfl cf317 (fun _ w _ => slower_any _ w)) ?_
          refine sg rfl (y_bin rfl rfl rfl (fun _ => b_leq)) ?_
          refine s1 (y_and rfl rfl rfl) ?_
          refine sr 1 ?_
          refine sgo ?_
          refine T_cond rfl ?_ ?_ <;> intro h121
          · skip
            refine T_region ?_
            refine sr 1 ?_
            refine s1 (y_call rfl rfl rfl cf317 (fun _ w _ => slower_any _ w)) ?_
            refine s1 (y_as (v' := .int .u8 (((s.getD i 0).toNat - 97 : Nat) : Int)) (by rw [g3, wrap8_in (by omega)]; congr 1; omega) (y_bin rfl rfl rfl (fun hg => b_subw))) ?_
            refine s1 (y_as (v' := .int .u8 ((hexV (s.getD i 0) : Nat) : Int)) (by rw [wrap8_in (by omega)]; congr 1; omega) (y_bin rfl rfl rfl (fun hg => b_addw))) ?_
            refine sr 1 ?_
            refine S_nil (mid_end (kf := [(6, 7), (16, 16), (105, 105), (119, 133)]) (kl := [(6, 7), (16, 16), (105, 105), (119, 133)]) (()) (by repeat (first | exact kf_nil | (apply kf_in; focus rfl) | (apply kf_out; focus rfl))) (by repeat (first | exact kl_nil | exact kl_rest (by assumption) rfl | (apply kl_in; focus rfl) | (apply kl_out; focus rfl))) ?_ ?_)
            · exact ⟨rfl, trivial⟩
            · exact trivial
          rw [g3] at h121; simp only [Bool.and_eq_false_iff, decide_eq_false_iff_not] at h121; omega
        intro u
        refine sgs ?_
        refine tx ?_
        refine sr 2 ?_
        refine s1 (y_as (v' := .int .u8 16) (by exact rfl) (y_conv rfl rfl Tryz.underlying3 Tryz.underlying5)) ?_
        refine sr 1 ?_
        refine sgo ?_
        refine T_cond rfl ?_ ?_ <;> intro h137
        · skip
          simp only [decide_eq_true_eq] at h137; omega
        refine kgs ?_
        refine tx ?_
        refine sr 3 ?_
        refine sgo ?_
        refine T_cond rfl ?_ ?_ <;> intro h141
        · skip
          simp only [decide_eq_true_eq] at h141; omega
        refine kgx ?_
        refine sr 2 ?_
        refine s1 (y_as (v' := .int .u64 16) (by exact rfl) (y_conv rfl rfl Tryz.underlying3 Tryz.underlying145)) ?_
        refine s1 (y_as (v' := .int .u64 ((valB 16 (s.take i) * 16 : Nat) : Int)) (by congr 1; rw [IntWalk.u64_in _ (by omega)]; omega) (y_bin rfl rfl rfl (fun hg => b_mulw))) ?_
        refine sr 1 ?_
        refine sgx ?_
        refine sr 2 ?_
        refine s1 (y_as (v' := .int .u64 ((hexV (s.getD i 0) : Nat) : Int)) (by rw [IntWalk.u64_in _ (by omega)]) (y_conv rfl rfl Tryz.underlying5 Tryz.underlying145)) ?_
        refine s1 (y_as (v' := .int .u64 ((valB 16 (s.take (i + 1)) : Nat) : Int)) (by congr 1; rw [IntWalk.u64_in _ (by omega)]; omega) (y_bin rfl rfl rfl (fun hg => b_addw))) ?_
        refine sr 1 ?_
        refine sgs ?_
        refine tx ?_
        refine sr 4 ?_
        refine sg rfl (y_move rfl rfl) ?_
        refine sg rfl (y_move rfl rfl) ?_
        refine sg rfl (y_bin rfl rfl rfl (fun _ => b_gtr)) ?_
        refine s1 (y_or rfl rfl rfl) ?_
        refine sgo ?_
        refine T_cond rfl ?_ ?_ <;> intro h159
        · skip
          simp only [Bool.or_eq_true, decide_eq_true_eq] at h159; omega
        refine kgr ?_
        refine sr 2 ?_
        refine sgr ?_
        refine s1 (y_bin rfl rfl rfl (fun hg => b_add (by omega))) ?_
        refine sr 1 ?_
        refine S_nil (nK1 (kf := [(6, 7), (12, 13), (15, 17), (101, 163)]) (kl := [(6, 7), (12, 13), (15, 17), (101, 163)]) (i + 1) ?_ ?_ ?_ ?_)
        · omega
        · omega
        · exact ⟨rfl, rfl, rfl, trivial⟩
        · exact trivial
      try simp only [nrm] at h102
      refine egs ?_
      refine tx ?_
      refine sr 2 ?_
      refine sg rfl (y_move rfl rfl) ?_
      refine sg rfl (y_call rfl rfl rfl cf318 (fun hg w _ => (show Calls Tryz.prog 318 #[str s] w (fun e w2 => e = .returned (.bool true) ∧ Below w.heap.size w w2) from by simp at hg))) ?_
      refine sg rfl (y_not rfl rfl) ?_
      refine s1 (y_and rfl rfl rfl) ?_
      refine sgo ?_
      refine T_cond rfl ?_ ?_ <;> intro h169
      · skip
        simp at h169
      refine kgx ?_
      refine sr 3 ?_
      refine sgo ?_
      refine tr2 hRb fun w hM => ?_
      have hsi : s.take i = s := List.take_of_length_le (by omega)
      exact ⟨by rw [hsi], hM.below⟩
    simp at h92
  simp at h25
theorem y_never {P : Program} {w0 : World} {F : FL} {L : HL} {g : Bool} {o : Oper} (v : Value) (h : ¬ g = true) : Y P w0 F L g o v := fun _ _ _ hg => absurd hg h
theorem dropWhile_allN {p : UInt8 → Bool} : ∀ {l : List UInt8}, (∀ c ∈ l, p c = true) → l.dropWhile p = []
  | [], _ => rfl
  | a :: r, h => by rw [List.dropWhile_cons, if_pos (h a List.mem_cons_self), dropWhile_allN fun c hc => h c (List.mem_cons_of_mem _ hc)]
theorem trimS_allN {s cs : List UInt8} (h : ∀ c ∈ s, cs.contains c = true) : Lib.trimS s cs = [] := by
  have h2 : s.reverse.dropWhile (cs.contains ·) = [] := dropWhile_allN fun c hc => h c (List.mem_reverse.1 hc)
  have h3 : Lib.trimRightS s cs = [] := by unfold Lib.trimRightS; rw [h2]; rfl
  unfold Lib.trimS; rw [h3]; rfl
theorem all_trimN (s cs : List UInt8) : decide (Lib.trimS s cs = []) = s.all fun c => cs.contains c := by
  by_cases h : Lib.trimS s cs = []
  · rw [decide_eq_true h]
    exact (List.all_eq_true.2 (trimS_nil h)).symm
  · rw [decide_eq_false h]
    cases hq : s.all fun c => cs.contains c with
    | false => rfl
    | true => exact absurd (trimS_allN (List.all_eq_true.1 hq)) h
theorem dig10 (c : UInt8) : digB.contains c = digOk 10 c := by
  have key : ∀ n : Nat, n < 256 → digB.contains (UInt8.ofNat n) = digOk 10 (UInt8.ofNat n) := by decide +kernel
  have := key c.toNat (UInt8.toNat_lt c)
  rwa [UInt8.ofNat_toNat] at this
theorem dig16 (c : UInt8) : hexs.contains c = digOk 16 c := by
  have key : ∀ n : Nat, n < 256 → hexs.contains (UInt8.ofNat n) = digOk 16 (UInt8.ofNat n) := by decide +kernel
  have := key c.toNat (UInt8.toNat_lt c)
  rwa [UInt8.ofNat_toNat] at this
theorem byte48 (c : UInt8) : decide (((c.toNat : Nat) : Int) = 48) = decide (c = 48) := decide_eq_decide.2 ⟨fun h => UInt8.toNat_inj.1 (by show c.toNat = 48; omega), fun h => by rw [h]; rfl⟩
def num1 (k : Nat) (s : List UInt8) : Bool := decide (s = []) || decide ((k : Int) < ((s.length : Nat) : Int)) || (decide ((1 : Int) < ((s.length : Nat) : Int)) && decide ((((s.getD 0 0).toNat : Nat) : Int) = 48))
theorem num1_len {k : Nat} {s : List UInt8} (h : num1 k s = false) : s.length ≤ k := by
  unfold num1 at h
  simp only [Bool.or_eq_false_iff, decide_eq_false_iff_not] at h
  have := h.1.2; omega
theorem num1_t {b k : Nat} {s : List UInt8} (h : num1 k s = true) : numB b k s = none := by
  unfold num1 at h
  rw [byte48] at h
  simp only [Bool.or_eq_true, Bool.and_eq_true, decide_eq_true_eq] at h
  unfold numB numH
  rcases h with (h | h) | h
  · simp [h]
  · rw [decide_eq_false (show ¬ s.length ≤ k by omega)]; simp
  · rw [decide_eq_true (show 1 < s.length by omega), decide_eq_true h.2]; simp
theorem num1_f {b k : Nat} {s : List UInt8} (h : num1 k s = false) : numH b k s = s.all (digOk b) := by
  unfold num1 at h
  rw [byte48] at h
  simp only [Bool.or_eq_false_iff, Bool.and_eq_false_iff, decide_eq_false_iff_not] at h
  unfold numH
  rw [decide_eq_false h.1.1, decide_eq_true (show s.length ≤ k by omega)]
  rcases h.2 with h2 | h2
  · rw [decide_eq_false (show ¬ 1 < s.length by omega)]; rfl
  · rw [decide_eq_false h2]; simp
theorem iParseInt10_any (s : List UInt8) (h0 : s ≠ []) (hl : s.length ≤ 12) (hd : ∀ c ∈ s, digOk 10 c = true) (w : World) :
    Calls Tryz.prog 293 #[str s, .int .i64 10, .int .i64 64] w fun e w' => e = .returned (.tuple #[.int .i64 ((valB 10 s : Nat) : Int), .nilIface]) ∧ Below w.heap.size w w' := by
  have hb : 10 = 10 ∨ 10 = 16 := by decide
  have hlt : 0 < s.length := List.length_pos_iff.2 h0
  have hd0 := hd _ (getN_mem hlt)
  have hge : 48 ≤ (s.getD 0 0).toNat := by
    simp only [digOk, Bool.or_eq_true, Bool.and_eq_true, decide_eq_true_eq] at hd0
    omega
  have hv := valB_small hb hd (i := s.length) hl
  rw [List.take_length] at hv
  refine enter_args (args := [str s, .int .i64 10, .int .i64 64]) (F := _) Tryz.func293 rfl Tryz.ntmps293 rfl rfl ?_
  intro Rb hRb hRn
  refine tx ?_
  refine sr 2 ?_
  refine sgs ?_
  refine tx ?_
  refine sr 1 ?_
  refine s1 (y_bin rfl rfl rfl (fun _ => b_eqls)) ?_
  refine sgo ?_
  refine T_cond rfl ?_ ?_ <;> intro h13
  · skip
    simp at h13; exact absurd h13 h0
  refine kgx ?_
  refine sr 1 ?_
  refine sgs ?_
  refine tx ?_
  refine sr 1 ?_
  refine s1 (y_index_str (j := 0) rfl rfl rfl Tryz.underlying9 (fun _ => hlt)) ?_
  refine sgo ?_
  refine T_block ?_
  refine tx ?_
  refine sr 2 ?_
  refine sgo ?_
  refine T_cond rfl ?_ ?_ <;> intro h17
  · skip
    simp only [decide_eq_true_eq] at h17; omega
  refine tx ?_
  refine sr 2 ?_
  refine sgo ?_
  refine T_cond rfl ?_ ?_ <;> intro h21
  · skip
    simp only [decide_eq_true_eq] at h21; omega
  refine kgx ?_
  refine sr 1 ?_
  refine sgx ?_
  refine sr 3 ?_
  refine s1 (y_call rfl rfl rfl cf313 (fun _ w _ => ParseUint10_any s h0 hl hd w)) ?_
  refine sr 5 ?_
  refine sgs ?_
  refine tx ?_
  refine sr 1 ?_
  refine s1 (y_bin rfl rfl rfl (fun _ => b_neqII Tryz.underlying75)) ?_
  refine sr 1 ?_
  refine sg rfl (y_move rfl rfl) ?_
  refine sg rfl (y_makeIfaceN rfl rfl Tryz.underlying315) ?_
  refine sg rfl (y_never (.bool true) (by simp)) ?_
  refine s1 (y_and rfl rfl rfl) ?_
  refine sgo ?_
  refine T_cond rfl ?_ ?_ <;> intro h38
  · skip
    simp at h38
  refine kgs ?_
  refine tx ?_
  refine sr 2 ?_
  refine sgo ?_
  refine T_cond rfl ?_ ?_ <;> intro h41
  · skip
    simp at h41
  refine kgx ?_
  refine sr 1 ?_
  refine s1 (y_bin rfl rfl rfl (fun hg => b_sub (by omega))) ?_
  refine s1 (y_conv rfl rfl Tryz.underlying3 Tryz.underlying214) ?_
  refine s1 (y_as (v' := .int .u64 9223372036854775808) (by exact rfl) (y_bin rfl rfl rfl (fun _ => b_shlU (p := 63) (by decide) (by decide)))) ?_
  refine sr 1 ?_
  refine sgs ?_
  refine tx ?_
  refine sr 3 ?_
  refine sg rfl (y_move rfl rfl) ?_
  refine sg rfl (y_move rfl rfl) ?_
  refine sg rfl (y_bin rfl rfl rfl (fun _ => b_geq)) ?_
  refine s1 (y_and rfl rfl rfl) ?_
  refine sgo ?_
  refine T_cond rfl ?_ ?_ <;> intro h52
  · skip
    simp at h52; omega
  refine kgs ?_
  refine tx ?_
  refine sr 2 ?_
  refine sg rfl (y_move rfl rfl) ?_
  refine sg rfl (y_move rfl rfl) ?_
  refine sg rfl (y_bin rfl rfl rfl (fun _ => b_gtr)) ?_
  refine s1 (y_and rfl rfl rfl) ?_
  refine sgo ?_
  refine T_cond rfl ?_ ?_ <;> intro h62
  · skip
    simp at h62
  refine kgx ?_
  refine sr 1 ?_
  refine s1 (y_as (v' := .int .i64 ((valB 10 s : Nat) : Int)) (by exact rfl) (y_conv64 rfl rfl Tryz.underlying145 Tryz.underlying2 (fun _ => by omega))) ?_
  refine sr 1 ?_
  refine sgs ?_
  refine tx ?_
  refine sr 1 ?_
  refine sgo ?_
  refine T_cond rfl ?_ ?_ <;> intro h69
  · skip
    cases h69
  refine kgx ?_
  refine sr 3 ?_
  refine sgo ?_
  refine tr2 hRb fun w hM => ?_
  exact ⟨rfl, hM.below⟩
theorem ParseInt10_any (s : List UInt8) (h0 : s ≠ []) (hl : s.length ≤ 12) (hd : ∀ c ∈ s, digOk 10 c = true) (w : World) :
    Calls Tryz.prog 276 #[str s, .int .i64 10, .int .i64 64] w fun e w' => e = .returned (.tuple #[.int .i64 ((valB 10 s : Nat) : Int), .nilIface]) ∧ Below w.heap.size w w' := by
  refine enter_args (args := [str s, .int .i64 10, .int .i64 64]) (F := _) Tryz.func276 rfl Tryz.ntmps276 rfl rfl ?_
  intro Rb hRb hRn
  refine tx ?_
  refine sr 2 ?_
  refine sgx ?_
  refine sr 3 ?_
  refine s1 (y_call rfl rfl rfl cf293 (fun _ w _ => iParseInt10_any s h0 hl hd w)) ?_
  refine sr 5 ?_
  refine sgs ?_
  refine tx ?_
  refine sr 1 ?_
  refine s1 (y_bin rfl rfl rfl (fun _ => b_neqII Tryz.underlying75)) ?_
  refine sgo ?_
  refine T_cond rfl ?_ ?_ <;> intro h17
  · skip
    cases h17
  refine kgx ?_
  refine sr 3 ?_
  refine sgo ?_
  refine tr2 hRb fun w hM => ?_
  exact ⟨rfl, hM.below⟩
theorem number10_any (s : List UInt8) (k : Nat) (hk : k ≤ 12) (hs : s.length ≤ 1000000) (w : World) :
    Calls Tryz.prog 232 #[str s, .int .i64 10, .int .i64 (k : Int)] w fun e w' => e = .returned (.tuple #[.int .i64 (((numB 10 k s).getD 0 : Nat) : Int), .bool (numB 10 k s).isSome]) ∧ Below w.heap.size w w' := by
  have hal : (s.all fun c => digB.contains c) = s.all (digOk 10) := by
    congr 1; funext c; exact dig10 c
  refine enter_args (args := [str s, .int .i64 10, .int .i64 (k : Int)]) (F := _) Tryz.func232 rfl Tryz.ntmps232 rfl rfl ?_
  intro Rb hRb hRn
  refine tx ?_
  refine sr 2 ?_
  refine sgs ?_
  refine tx ?_
  refine sr 1 ?_
  refine s1 (y_bin rfl rfl rfl (fun _ => b_eqls)) ?_
  refine sr 1 ?_
  refine sg rfl (y_move rfl rfl) ?_
  refine sg rfl (y_len_str rfl rfl Tryz.underlying9) ?_
  refine sg rfl (y_move rfl rfl) ?_
  refine sg rfl (y_bin rfl rfl rfl (fun _ => b_gtr)) ?_
  refine s1 (y_or rfl rfl rfl) ?_
  refine sr 1 ?_
  refine sg rfl (y_move rfl rfl) ?_
  refine sg rfl (y_len_str rfl rfl Tryz.underlying9) ?_
  refine sg rfl (y_bin rfl rfl rfl (fun _ => b_gtr)) ?_
  refine sg rfl (y_move rfl rfl) ?_
  refine sg rfl (y_move rfl rfl) ?_
  refine sg rfl (y_index_str (j := 0) rfl rfl rfl Tryz.underlying9 (fun hg => by simp at hg; omega)) ?_
  refine sg rfl (y_bin rfl rfl rfl (fun _ => b_eql)) ?_
  refine sg rfl (y_and rfl rfl rfl) ?_
  refine s1 (y_as (v' := .bool (num1 k s)) (by exact rfl) (y_or rfl rfl rfl)) ?_
  refine sgo ?_
  refine T_cond rfl ?_ ?_ <;> intro h27
  · skip
    have hn := num1_t (b := 10) h27
    refine tx ?_
    refine sr 2 ?_
    refine sgo ?_
    refine tr2 hRb fun w hM => ?_
    exact ⟨by rw [hn]; rfl, hM.below⟩
  have hn := num1_f (b := 10) h27
  have hlk := num1_len h27
  refine kgs ?_
  refine tx ?_
  refine sr 2 ?_
  refine s1 (y_as (v' := str digB) (by exact rfl) (y_strTo rfl rfl rfl Tryz.underlying9 (fun _ => by decide))) ?_
  refine s1 (y_call rfl rfl rfl cf60 (fun _ w _ => TrimDig_any s (by omega) w)) ?_
  refine s1 (y_bin rfl rfl rfl (fun _ => b_neqs)) ?_
  refine sgo ?_
  refine T_cond rfl ?_ ?_ <;> intro h32
  · skip
    have hn2 : numB 10 k s = none := by
      have h3 : decide (Lib.trimS s digB = []) = false := by simpa using h32
      rw [all_trimN, hal] at h3
      rw [numB, hn, h3]; rfl
    refine tx ?_
    refine sr 2 ?_
    refine sgo ?_
    refine tr2 hRb fun w hM => ?_
    exact ⟨by rw [hn2]; rfl, hM.below⟩
  have hn2 : numH 10 k s = true := by
    have h3 : decide (Lib.trimS s digB = []) = true := by simpa using h32
    rw [all_trimN, hal] at h3
    rw [hn, h3]
  have hp := num_parts hn2
  refine kgx ?_
  refine sr 2 ?_
  refine s1 (y_call rfl rfl rfl cf276 (fun _ w _ => ParseInt10_any s hp.1 (by omega) hp.2.2 w)) ?_
  refine sr 5 ?_
  refine sgs ?_
  refine T_draws (by kernel_rfl) (by kernel_rfl) ?_
  refine d1 (y_move rfl rfl) ?_
  refine d1 (y_move rfl rfl) ?_
  refine d1 (y_bin rfl rfl rfl (fun _ => b_eqlII Tryz.underlying75)) ?_
  refine d1 (y_assign rfl rfl) ?_
  refine d1 (y_assign rfl rfl) ?_
  refine dgo ?_
  refine tr2 hRb fun w hM => ?_
  exact ⟨by rw [numB, if_pos hn2]; rfl, hM.below⟩
theorem iParseInt16_any (s : List UInt8) (h0 : s ≠ []) (hl : s.length ≤ 12) (hd : ∀ c ∈ s, digOk 16 c = true) (w : World) :
    Calls Tryz.prog 293 #[str s, .int .i64 16, .int .i64 64] w fun e w' => e = .returned (.tuple #[.int .i64 ((valB 16 s : Nat) : Int), .nilIface]) ∧ Below w.heap.size w w' := by
  have hb : 16 = 10 ∨ 16 = 16 := by decide
  have hlt : 0 < s.length := List.length_pos_iff.2 h0
  have hd0 := hd _ (getN_mem hlt)
  have hge : 48 ≤ (s.getD 0 0).toNat := by
    simp only [digOk, Bool.or_eq_true, Bool.and_eq_true, decide_eq_true_eq] at hd0
    omega
  have hv := valB_small hb hd (i := s.length) hl
  rw [List.take_length] at hv
  refine enter_args (args := [str s, .int .i64 16, .int .i64 64]) (F := _) Tryz.func293 rfl Tryz.ntmps293 rfl rfl ?_
  intro Rb hRb hRn
  refine tx ?_
  refine sr 2 ?_
  refine sgs ?_
  refine tx ?_
  refine sr 1 ?_
  refine s1 (y_bin rfl rfl rfl (fun _ => b_eqls)) ?_
  refine sgo ?_
  refine T_cond rfl ?_ ?_ <;> intro h13
  · skip
    simp at h13; exact absurd h13 h0
  refine kgx ?_
  refine sr 1 ?_
  refine sgs ?_
  refine tx ?_
  refine sr 1 ?_
  refine s1 (y_index_str (j := 0) rfl rfl rfl Tryz.underlying9 (fun _ => hlt)) ?_
  refine sgo ?_
  refine T_block ?_
  refine tx ?_
  refine sr 2 ?_
  refine sgo ?_
  refine T_cond rfl ?_ ?_ <;> intro h17
  · skip
    simp only [decide_eq_true_eq] at h17; omega
  refine tx ?_
  refine sr 2 ?_
  refine sgo ?_
  refine T_cond rfl ?_ ?_ <;> intro h21
  · skip
    simp only [decide_eq_true_eq] at h21; omega
  refine kgx ?_
  refine sr 1 ?_
  refine sgx ?_
  refine sr 3 ?_
  refine s1 (y_call rfl rfl rfl cf313 (fun _ w _ => ParseUint16_any s h0 hl hd w)) ?_
  refine sr 5 ?_
  refine sgs ?_
  refine tx ?_
  refine sr 1 ?_
  refine s1 (y_bin rfl rfl rfl (fun _ => b_neqII Tryz.underlying75)) ?_
  refine sr 1 ?_
  refine sg rfl (y_move rfl rfl) ?_
  refine sg rfl (y_makeIfaceN rfl rfl Tryz.underlying315) ?_
  refine sg rfl (y_never (.bool true) (by simp)) ?_
  refine s1 (y_and rfl rfl rfl) ?_
  refine sgo ?_
  refine T_cond rfl ?_ ?_ <;> intro h38
  · skip
    simp at h38
  refine kgs ?_
  refine tx ?_
  refine sr 2 ?_
  refine sgo ?_
  refine T_cond rfl ?_ ?_ <;> intro h41
  · skip
    simp at h41
  refine kgx ?_
  refine sr 1 ?_
  refine s1 (y_bin rfl rfl rfl (fun hg => b_sub (by omega))) ?_
  refine s1 (y_conv rfl rfl Tryz.underlying3 Tryz.underlying214) ?_
  refine s1 (y_as (v' := .int .u64 9223372036854775808) (by exact rfl) (y_bin rfl rfl rfl (fun _ => b_shlU (p := 63) (by decide) (by decide)))) ?_
  refine sr 1 ?_
  refine sgs ?_
  refine tx ?_
  refine sr 3 ?_
  refine sg rfl (y_move rfl rfl) ?_
  refine sg rfl (y_move rfl rfl) ?_
  refine sg rfl (y_bin rfl rfl rfl (fun _ => b_geq)) ?_
  refine s1 (y_and rfl rfl rfl) ?_
  refine sgo ?_
  refine T_cond rfl ?_ ?_ <;> intro h52
  · skip
    simp at h52; omega
  refine kgs ?_
  refine tx ?_
  refine sr 2 ?_
  refine sg rfl (y_move rfl rfl) ?_
  refine sg rfl (y_move rfl rfl) ?_
  refine sg rfl (y_bin rfl rfl rfl (fun _ => b_gtr)) ?_
  refine s1 (y_and rfl rfl rfl) ?_
  refine sgo ?_
  refine T_cond rfl ?_ ?_ <;> intro h62
  · skip
    simp at h62
  refine kgx ?_
  refine sr 1 ?_
  refine s1 (y_as (v' := .int .i64 ((valB 16 s : Nat) : Int)) (by exact rfl) (y_conv64 rfl rfl Tryz.underlying145 Tryz.underlying2 (fun _ => by omega))) ?_
  refine sr 1 ?_
  refine sgs ?_
  refine tx ?_
  refine sr 1 ?_
  refine sgo ?_
  refine T_cond rfl ?_ ?_ <;> intro h69
  · skip
    cases h69
  refine kgx ?_
  refine sr 3 ?_
  refine sgo ?_
  refine tr2 hRb fun w hM => ?_
  exact ⟨rfl, hM.below⟩
theorem ParseInt16_any (s : List UInt8) (h0 : s ≠ []) (hl : s.length ≤ 12) (hd : ∀ c ∈ s, digOk 16 c = true) (w : World) :
    Calls Tryz.prog 276 #[str s, .int .i64 16, .int .i64 64] w fun e w' => e = .returned (.tuple #[.int .i64 ((valB 16 s : Nat) : Int), .nilIface]) ∧ Below w.heap.size w w' := by
  refine enter_args (args := [str s, .int .i64 16, .int .i64 64]) (F := _) Tryz.func276 rfl Tryz.ntmps276 rfl rfl ?_
  intro Rb hRb hRn
  refine tx ?_
  refine sr 2 ?_
  refine sgx ?_
  refine sr 3 ?_
  refine s1 (y_call rfl rfl rfl cf293 (fun _ w _ => iParseInt16_any s h0 hl hd w)) ?_
  refine sr 5 ?_
  refine sgs ?_
  refine tx ?_
  refine sr 1 ?_
  refine s1 (y_bin rfl rfl rfl (fun _ => b_neqII Tryz.underlying75)) ?_
  refine sgo ?_
  refine T_cond rfl ?_ ?_ <;> intro h17
  · skip
    cases h17
  refine kgx ?_
  refine sr 3 ?_
  refine sgo ?_
  refine tr2 hRb fun w hM => ?_
  exact ⟨rfl, hM.below⟩
theorem number16_any (s : List UInt8) (k : Nat) (hk : k ≤ 12) (hs : s.length ≤ 1000000) (w : World) :
    Calls Tryz.prog 232 #[str s, .int .i64 16, .int .i64 (k : Int)] w fun e w' => e = .returned (.tuple #[.int .i64 (((numB 16 k s).getD 0 : Nat) : Int), .bool (numB 16 k s).isSome]) ∧ Below w.heap.size w w' := by
  have hal : (s.all fun c => hexs.contains c) = s.all (digOk 16) := by
    congr 1; funext c; exact dig16 c
  refine enter_args (args := [str s, .int .i64 16, .int .i64 (k : Int)]) (F := _) Tryz.func232 rfl Tryz.ntmps232 rfl rfl ?_
  intro Rb hRb hRn
  refine tx ?_
  refine sr 2 ?_
  refine sgs ?_
  refine tx ?_
  refine sr 1 ?_
  refine s1 (y_bin rfl rfl rfl (fun _ => b_eqls)) ?_
  refine sr 1 ?_
  refine sg rfl (y_move rfl rfl) ?_
  refine sg rfl (y_len_str rfl rfl Tryz.underlying9) ?_
  refine sg rfl (y_move rfl rfl) ?_
  refine sg rfl (y_bin rfl rfl rfl (fun _ => b_gtr)) ?_
  refine s1 (y_or rfl rfl rfl) ?_
  refine sr 1 ?_
  refine sg rfl (y_move rfl rfl) ?_
  refine sg rfl (y_len_str rfl rfl Tryz.underlying9) ?_
  refine sg rfl (y_bin rfl rfl rfl (fun _ => b_gtr)) ?_
  refine sg rfl (y_move rfl rfl) ?_
  refine sg rfl (y_move rfl rfl) ?_
  refine sg rfl (y_index_str (j := 0) rfl rfl rfl Tryz.underlying9 (fun hg => by simp at hg; omega)) ?_
  refine sg rfl (y_bin rfl rfl rfl (fun _ => b_eql)) ?_
  refine sg rfl (y_and rfl rfl rfl) ?_
  refine s1 (y_as (v' := .bool (num1 k s)) (by exact rfl) (y_or rfl rfl rfl)) ?_
  refine sgo ?_
  refine T_cond rfl ?_ ?_ <;> intro h27
  · skip
    have hn := num1_t (b := 16) h27
    refine tx ?_
    refine sr 2 ?_
    refine sgo ?_
    refine tr2 hRb fun w hM => ?_
    exact ⟨by rw [hn]; rfl, hM.below⟩
  have hn := num1_f (b := 16) h27
  have hlk := num1_len h27
  refine kgs ?_
  refine tx ?_
  refine sr 2 ?_
  refine s1 (y_as (v' := str hexs) (by exact rfl) (y_strTo rfl rfl rfl Tryz.underlying9 (fun _ => by decide))) ?_
  refine s1 (y_call rfl rfl rfl cf60 (fun _ w _ => TrimHex_any s (by omega) w)) ?_
  refine s1 (y_bin rfl rfl rfl (fun _ => b_neqs)) ?_
  refine sgo ?_
  refine T_cond rfl ?_ ?_ <;> intro h32
  · skip
    have hn2 : numB 16 k s = none := by
      have h3 : decide (Lib.trimS s hexs = []) = false := by simpa using h32
      rw [all_trimN, hal] at h3
      rw [numB, hn, h3]; rfl
    refine tx ?_
    refine sr 2 ?_
    refine sgo ?_
    refine tr2 hRb fun w hM => ?_
    exact ⟨by rw [hn2]; rfl, hM.below⟩
  have hn2 : numH 16 k s = true := by
    have h3 : decide (Lib.trimS s hexs = []) = true := by simpa using h32
    rw [all_trimN, hal] at h3
    rw [hn, h3]
  have hp := num_parts hn2
  refine kgx ?_
  refine sr 2 ?_
  refine s1 (y_call rfl rfl rfl cf276 (fun _ w _ => ParseInt16_any s hp.1 (by omega) hp.2.2 w)) ?_
  refine sr 5 ?_
  refine sgs ?_
  refine T_draws (by kernel_rfl) (by kernel_rfl) ?_
  refine d1 (y_move rfl rfl) ?_
  refine d1 (y_move rfl rfl) ?_
  refine d1 (y_bin rfl rfl rfl (fun _ => b_eqlII Tryz.underlying75)) ?_
  refine d1 (y_assign rfl rfl) ?_
  refine d1 (y_assign rfl rfl) ?_
  refine dgo ?_
  refine tr2 hRb fun w hM => ?_
  exact ⟨by rw [numB, if_pos hn2]; rfl, hM.below⟩
end Go.Proofs.YtgbldojgbpgjbaaGreatDoor
end
section
namespace Go.Proofs.YtgbldojgbpgjbaaGreatDoor
set_option linter.unusedSimpArgs false
set_option linter.unusedVariables false
set_option maxRecDepth 20000
open Go.RowKit Go.Eng
theorem y_pickF {P : Program} {w0 : World} {F : FL} {L : HL} {o : Oper} {c x y : Operand} {v : Value} (ho : o.op = .pick c x y) (hc : F.ev c = some (true, .bool false)) (hy : F.ev y = some (true, v)) : Y P w0 F L true o v :=
  Y_of fun n a hF hg w _ => by
    have hc' : a.eval c = .bool false := by have := hF.eval hc; simpa using this
    have hy' : a.eval y = v := by have := hF.eval hy; simpa using this
    simp only [execOp, ho, hc']
    simp [asBool, hy', Result.andThen]
theorem CutPrefix_any (s p : List UInt8) (w : World) : Calls Tryz.prog 198 #[str s, str p] w fun e w' => e = .returned (.tuple #[str (Lib.trimPrefix s p), .bool (Lib.hasPrefix s p)]) ∧ Below w.heap.size w w' :=
  (Tryz.strings_CutPrefix ⟨s.toArray⟩ ⟨p.toArray⟩ w).mono fun e w' h => ⟨h.1, h.2 ▸ Below.refl _ _⟩
theorem CutSuffix_any (s p : List UInt8) (hs : s.length ≤ 4611686018427387904) (w : World) : Calls Tryz.prog 202 #[str s, str p] w fun e w' => e = .returned (.tuple #[str (Lib.trimSuffix s p), .bool (Lib.hasSuffix s p)]) ∧ Below w.heap.size w w' :=
  (Tryz.strings_CutSuffix ⟨s.toArray⟩ ⟨p.toArray⟩ w (by show s.toArray.size ≤ _; simp; omega)).mono fun e w' h => ⟨h.1, h.2 ▸ Below.refl _ _⟩
abbrev ptrH (b : Nat) : Value := .pointer (some ⟨b, 0, none⟩)
abbrev frH (b : Nat) (x : Frm) : It := .blk b (IsBox [str x.m, str x.f, str x.fi, .int .i64 x.ln, .int .i64 x.ad, .bool x.own] 45)
theorem cut_le (c : UInt8) (s : List UInt8) : (cutC c s).1.length ≤ s.length ∧ (cutC c s).2.1.length ≤ s.length := by
  unfold cutC
  split
  · exact ⟨Nat.le_refl _, Nat.zero_le _⟩
  · exact ⟨by rw [List.length_take]; omega, by rw [List.length_drop]; omega⟩
theorem callM_le (s : List UInt8) : (callM s).1.length ≤ s.length ∧ (callM s).2.length ≤ s.length := by
  have := cut_le 33 s
  unfold callM
  split
  · exact this
  · exact ⟨Nat.zero_le _, Nat.le_refl _⟩
theorem readCall_any {w0 : World} {K : HL} (hK : FromK K) (b : Nat) (x : Frm) (s : List UInt8) (hs : s.length ≤ 1000000) (w : World) (hM0 : Mem w0 ([(901, frH b x)] ++ K) w) :
    Calls Tryz.prog 236 #[str s, ptrH b] w fun e w' => ∃ z : Unit, e = .returned (.bool (callOk s)) ∧ True ∧ Mem w0 ([(901, frH b ⟨(callM s).1, (callM s).2, x.fi, x.ln, x.ad, x.own⟩)] ++ K) w' := by
  have hl := callM_le s
  refine enterM_args (args := [str s, ptrH b]) (F := _) hM0 Tryz.func236 rfl Tryz.ntmps236 rfl rfl ?_
  intro Rb hRb hRn
  refine tx ?_
  refine sr 1 ?_
  refine sgx ?_
  refine sr 1 ?_
  refine s1 (y_call rfl rfl rfl cf79 (fun _ w _ => Cut1_any s 33 w (by omega))) ?_
  refine sr 7 ?_
  refine sgs ?_
  refine tx ?_
  refine sr 2 ?_
  refine sgo ?_
  refine T_mid (kf := [(5, 6), (16, 16)]) (kl := [(5, 6), (16, 16)]) (fun u : Unit => [(5, true, str (callM s).1), (6, true, str (callM s).2)]) (fun u : Unit => []) (by repeat (first | exact kf_nil | (apply kf_in; focus rfl) | (apply kf_out; focus rfl))) (by repeat (first | exact kl_nil | exact kl_rest (by assumption) rfl | (apply kl_in; focus rfl) | (apply kl_out; focus rfl))) ?_ ?_
  · skip
    refine T_cond rfl ?_ ?_ <;> intro h15
    · skip
      have hc : (cutC 33 s).2.2 = false := by simpa using h15
      refine T_region ?_
      refine sr 3 ?_
      refine S_nil (mid_end (kf := [(5, 6), (16, 16)]) (kl := [(5, 6), (16, 16)]) (()) (by repeat (first | exact kf_nil | (apply kf_in; focus rfl) | (apply kf_out; focus rfl))) (by repeat (first | exact kl_nil | exact kl_rest (by assumption) rfl | (apply kl_in; focus rfl) | (apply kl_out; focus rfl))) ?_ ?_)
      · exact ⟨by rw [callM, if_neg (by rw [hc]; decide)]; rfl, by rw [callM, if_neg (by rw [hc]; decide)]; rfl, trivial⟩
      · exact trivial
    have hc : (cutC 33 s).2.2 = true := by simpa using h15
    refine T_skip (mid_end (kf := [(5, 6), (16, 16)]) (kl := [(5, 6), (16, 16)]) (()) (by repeat (first | exact kf_nil | (apply kf_in; focus rfl) | (apply kf_out; focus rfl))) (by repeat (first | exact kl_nil | exact kl_rest (by assumption) rfl | (apply kl_in; focus rfl) | (apply kl_out; focus rfl))) ?_ ?_)
    · exact ⟨by rw [callM, if_pos hc]; rfl, by rw [callM, if_pos hc]; rfl, trivial⟩
    · exact trivial
  intro u
  refine sgx ?_
  refine sr 4 ?_
  refine s1 (y_nilCheck rfl rfl) ?_
  refine s1 (yF fa45_0) ?_
  refine S_store 901 rfl rfl rfl rfl rfl rfl sz9 rfl rfl ?_
  refine s1 (y_nilCheck rfl rfl) ?_
  refine s1 (yF fa45_1) ?_
  refine S_store 901 rfl rfl rfl rfl rfl rfl sz9 rfl rfl ?_
  refine sgx ?_
  refine sr 1 ?_
  refine s1 (y_bin rfl rfl rfl (fun _ => b_neqs)) ?_
  refine sr 1 ?_
  refine sg rfl (y_move rfl rfl) ?_
  refine sg rfl (y_call rfl rfl rfl cf148 (fun _ w _ => isWord_any _ _ (by omega) w)) ?_
  refine s1 (y_and rfl rfl rfl) ?_
  refine sr 1 ?_
  refine sg rfl (y_move rfl rfl) ?_
  refine sg rfl (y_call rfl rfl rfl cf148 (fun _ w _ => isWord_any _ _ (by omega) w)) ?_
  refine s1 (y_and rfl rfl rfl) ?_
  refine sr 1 ?_
  refine sg rfl (y_move rfl rfl) ?_
  refine sg rfl (y_bin rfl rfl rfl (fun _ => b_neqs)) ?_
  refine sg rfl (y_move rfl rfl) ?_
  refine sg rfl (y_move rfl rfl) ?_
  refine sg rfl (y_not rfl rfl) ?_
  refine sg rfl (y_or rfl rfl rfl) ?_
  refine s1 (y_as (v' := .bool (callOk s)) (by exact rfl) (y_and rfl rfl rfl)) ?_
  refine sr 1 ?_
  refine sgo ?_
  refine tr1 hRb fun w hM => ?_
  exact ⟨(), rfl, trivial, hM.keep (ks := [(0, 999)]) (by repeat (first | exact kl_rest (by assumption) rfl | (apply kl_in; focus rfl))) _ ⟨rfl, trivial⟩⟩
/-- what is left of the words: their place in memory, and what was read before them -/
structure WdR where
  A : Option Addr
  q : Nat
  c : Nat
  ws : List (List UInt8)
  fi : List UInt8
  ln : Nat
  ad : Int
structure WdOk (w0 : World) (rs : List Row) (z : WdR) : Prop where
  sees : Sees w0 rs fun w => SlT strE 1 w z.A z.q z.ws
  cap : z.q ≤ z.c
  short : ∀ x ∈ z.ws, x.length ≤ 1000000
  len : z.ws.length = z.q
structure WdS (w0 : World) (rs : List Row) (R : WdR → Prop) where
  z : WdR
  ok : WdOk w0 rs z
  says : R z
def WdR.tl (z : WdR) (fi : List UInt8) (ln : Nat) (ad : Int) : WdR := ⟨if z.c = 1 then z.A else z.A.map (·.add 1), z.q - 1, z.c - 1, z.ws.drop 1, fi, ln, ad⟩
theorem WdOk.tl {w0 : World} {rs : List Row} {z : WdR} (h : WdOk w0 rs z) (h0 : 0 < z.q) {fi : List UInt8} {ln : Nat} {ad : Int} : WdOk w0 rs (z.tl fi ln ad) :=
  ⟨h.sees.map fun w hs => by
    have hl := hs.len
    have := hs.cut (lo := 1) (hi := z.q) (c := z.c) (fun _ => rfl) (by omega) (Nat.le_refl _) h.cap
    rw [List.take_of_length_le (by rw [List.length_drop]; omega)] at this
    exact this, by have := h.cap; show z.q - 1 ≤ z.c - 1; omega, fun x hx => h.short x (List.mem_of_mem_drop hx), by show (z.ws.drop 1).length = z.q - 1; rw [List.length_drop, h.len]⟩
theorem hd_get {α : Type} {l : List α} (d : α) (h : 0 < l.length) : l[0]? = some (l.headD d) := by
  cases l with
  | nil => cases h
  | cons a r => rfl
theorem hd_short {l : List (List UInt8)} {n : Nat} (h : ∀ x ∈ l, x.length ≤ n) : (l.headD []).length ≤ n := by
  cases l with
  | nil => exact Nat.zero_le _
  | cons a r => exact h a (List.mem_cons_self ..)
theorem pre_len {s : List UInt8} {c : UInt8} (h : Lib.hasPrefix s [c] = true) : 1 ≤ s.length := by
  cases s with
  | nil => simp [Lib.hasPrefix] at h
  | cons a r => exact Nat.succ_pos _
theorem trimS_le (s p : List UInt8) : (Lib.trimSuffix s p).length ≤ s.length := by
  unfold Lib.trimSuffix
  split
  · rw [List.length_take]; omega
  · exact Nat.le_refl _
abbrev prL (s : List UInt8) : List UInt8 × List UInt8 × Bool := cutC 58 (Lib.trimSuffix (s.drop 1) [41])
/-- the word in brackets as the code reads it -/
theorem trimS_of {s p : List UInt8} (h : Lib.hasSuffix s p = true) : Lib.trimSuffix s p = s.take (s.length - p.length) := by rw [Lib.trimSuffix, if_pos h]
theorem fileQ_no {w : List UInt8} (h : (Lib.hasSuffix (w.drop 1) [41] = false ∨ (prL w).1 = []) ∨ wordOk marks (prL w).1 = false) : fileQ w = none := by
  by_cases h1 : Lib.hasSuffix (w.drop 1) [41] = false
  · rw [fileQ, if_pos h1]
  · have h2 : (prL w).1 = [] ∨ wordOk marks (prL w).1 = false := by
      rcases h with (h | h) | h
      · exact absurd h h1
      · exact .inl h
      · exact .inr h
    rw [prL, trimS_of (by simpa using h1)] at h2
    rw [fileQ, if_neg h1]
    exact if_pos h2
theorem fileQ_yes {w : List UInt8} (h1 : Lib.hasSuffix (w.drop 1) [41] = true) (h2 : (prL w).1 ≠ []) (h3 : wordOk marks (prL w).1 = true) :
    fileQ w = if (prL w).2.2 = true then (match numB 10 7 (prL w).2.1 with | some (n + 1) => some ((prL w).1, n + 1) | _ => none) else some ((prL w).1, 0) := by
  rw [prL, trimS_of h1] at *
  rw [fileQ, if_neg (by rw [h1]; decide)]
  exact if_neg (by rw [not_or]; exact ⟨h2, fun h => absurd (h3.symm.trans h) (by decide)⟩)
theorem placeQ_par {ws : List (List UInt8)} (h0 : 0 < ws.length) (hp : Lib.hasPrefix (ws.headD []) [40] = true) : placeQ ws = match fileQ (ws.headD []) with | some (fi, ln) => plB fi ln (ws.drop 1) | none => none := by
  cases ws with
  | nil => cases h0
  | cons w r => exact if_pos hp
theorem placeQ_no {ws : List (List UInt8)} (h : 0 < ws.length → Lib.hasPrefix (ws.headD []) [40] = false) : placeQ ws = plB [] 0 ws := by
  cases ws with
  | nil => rfl
  | cons w r => exact if_neg (by have : Lib.hasPrefix w [40] = false := h (Nat.succ_pos _); rw [this]; decide)
theorem opt_none {o : Option Nat} (h : o.isSome = false) : o = none := by cases o with | none => rfl | some _ => cases h
theorem opt_some {o : Option Nat} (h : o.isSome = true) : o = some (o.getD 0) := by cases o with | none => cases h | some _ => rfl
theorem num_no {α : Type} {o : Option Nat} {x : α} : (o.isSome = false ∨ ((o.getD 0 : Nat) : Int) = 0) → (match o with | some (n + 1) => some (x, n + 1) | _ => none) = none := by
  intro h
  match o, h with
  | none, _ => rfl
  | some 0, _ => rfl
  | some (n + 1), h => rcases h with h | h; cases h; simp at h; omega
theorem num_yes {o : Option Nat} (h : o.isSome = true ∧ ¬ ((o.getD 0 : Nat) : Int) = 0) : ∃ n, o = some (n + 1) := by
  match o, h with
  | none, h => cases h.1
  | some 0, h => exact absurd rfl h.2
  | some (n + 1), _ => exact ⟨n, rfl⟩
theorem num_got {α : Type} {o : Option Nat} {x : α} : (o.isSome = true ∧ ¬ ((o.getD 0 : Nat) : Int) = 0) → (match o with | some (n + 1) => some (x, n + 1) | _ => none) = some (x, o.getD 0) := by
  intro h
  obtain ⟨n, rfl⟩ := num_yes h
  rfl
theorem plB_at {ws : List (List UInt8)} {fi : List UInt8} {ln : Nat} (h0 : 0 < ws.length) (hp : Lib.hasPrefix (ws.headD []) [64] = true) : plB fi ln ws = match numB 16 12 ((ws.headD []).drop 1) with | some n => plC fi ln (n : Int) (ws.drop 1) | none => none := by
  cases ws with
  | nil => cases h0
  | cons w r => exact if_pos hp
theorem plB_got {ws : List (List UInt8)} {fi : List UInt8} {ln : Nat} (h0 : 0 < ws.length) (hp : Lib.hasPrefix (ws.headD []) [64] = true) (h : (numB 16 12 ((ws.headD []).drop 1)).isSome = true) :
    plB fi ln ws = plC fi ln (((numB 16 12 ((ws.headD []).drop 1)).getD 0 : Nat) : Int) (ws.drop 1) := by
  rw [plB_at h0 hp]
  generalize numB 16 12 ((ws.headD []).drop 1) = o at *
  cases o with
  | none => cases h
  | some n => rfl
theorem plB_none {ws : List (List UInt8)} {fi : List UInt8} {ln : Nat} (h0 : 0 < ws.length) (hp : Lib.hasPrefix (ws.headD []) [64] = true) (h : (numB 16 12 ((ws.headD []).drop 1)).isSome = false) : plB fi ln ws = none := by
  rw [plB_at h0 hp, opt_none h]
theorem plB_no {ws : List (List UInt8)} {fi : List UInt8} {ln : Nat} (h : 0 < ws.length → Lib.hasPrefix (ws.headD []) [64] = false) : plB fi ln ws = plC fi ln (-1) ws := by
  cases ws with
  | nil => rfl
  | cons w r => exact if_neg (by have : Lib.hasPrefix w [64] = false := h (Nat.succ_pos _); rw [this]; decide)
theorem plC_star {ws : List (List UInt8)} {fi : List UInt8} {ln : Nat} {ad : Int} (h0 : 0 < ws.length) (hp : ws.headD [] = [42]) : plC fi ln ad ws = if ws.length - 1 = 0 then some ⟨fi, ln, ad, true⟩ else none := by
  match ws, h0, hp with
  | [w], _, hp => exact if_pos hp
  | _ :: _ :: _, _, _ => rfl
theorem plC_no {ws : List (List UInt8)} {fi : List UInt8} {ln : Nat} {ad : Int} (h : 0 < ws.length → ws.headD [] ≠ [42]) : plC fi ln ad ws = if ws.length = 0 then some ⟨fi, ln, ad, false⟩ else none := by
  match ws, h with
  | [], _ => rfl
  | [w], h => exact if_neg (h (Nat.succ_pos _))
  | _ :: _ :: _, _ => rfl
theorem plC_end {n q : Nat} {y : Frm} {o : Option PPl} {v : PPl} {m f : List UInt8} (hn : n = q) (ho : o = if n = 0 then some v else none) (hy : y = ⟨m, f, v.fi, (v.ln : Int), v.ad, v.own⟩) : Ending.returned (Value.bool (decide ((q : Int) = 0))) = .returned (.bool o.isSome) ∧ ∀ p, o = some p → y = ⟨m, f, p.fi, (p.ln : Int), p.ad, p.own⟩ := by
  subst hn ho
  by_cases h : n = 0
  · rw [if_pos h]; exact ⟨by simp [h], fun p hp => by cases hp; exact hy⟩
  · rw [if_neg h]; exact ⟨by simp [h], fun p hp => by cases hp⟩
set_option maxHeartbeats 1600000 in
theorem readPlace_any {w0 : World} {K : HL} (hK : FromK K) (b : Nat) (m f : List UInt8) (rs : List Row) (z : WdR) (hz : WdOk w0 rs z) (w : World) (hM0 : Mem w0 ([(900, .many rs), (901, frH b ⟨m, f, [], 0, 0, false⟩)] ++ K) w) :
    Calls Tryz.prog 237 #[.slice z.A z.q z.c, ptrH b] w fun e w' => ∃ y : Frm, e = .returned (.bool (placeQ z.ws).isSome) ∧ (∀ p, placeQ z.ws = some p → y = ⟨m, f, p.fi, (p.ln : Int), p.ad, p.own⟩) ∧ Mem w0 ([(900, .many rs), (901, frH b y)] ++ K) w' := by
  have hl := hd_short hz.short
  have hl1 := trimS_le ((z.ws.headD []).drop 1) [41]
  have hl2 := cut_le 58 (Lib.trimSuffix ((z.ws.headD []).drop 1) [41])
  have hlen := hz.len
  have hcap := hz.cap
  rw [List.length_drop] at hl1
  refine enterM_args (args := [.slice z.A z.q z.c, ptrH b]) (F := _) hM0 Tryz.func237 rfl Tryz.ntmps237 rfl rfl ?_
  intro Rb hRb hRn
  refine tx ?_
  refine sr 1 ?_
  refine sgx ?_
  refine sr 1 ?_
  refine s1 (y_nilCheck rfl rfl) ?_
  refine s1 (yF fa45_4) ?_
  refine S_store 901 rfl rfl rfl rfl rfl rfl sz3 rfl rfl ?_
  refine sgs ?_
  refine tx ?_
  refine sr 1 ?_
  refine s1 (y_len_slice rfl rfl Tryz.underlying53) ?_
  refine sr 2 ?_
  refine sg rfl (y_move rfl rfl) ?_
  refine sg rfl (y_here rfl (fun w1 hM => y_indexAddr (j := 0) rfl rfl rfl Tryz.underlying53 sz9 (fun hg => (hz.sees.at hM 900 rfl).isSome (by first | omega | simpa using hg)) (fun hg => by first | omega | simpa using hg))) ?_
  refine sg rfl (y_here rfl (fun w1 hM => y_loadT1 (val := str) (xe := z.ws.headD []) rfl rfl (hz.sees.at hM 900 rfl) (fun hg => hd_get _ (by rw [hlen]; first | omega | simpa using hg)) Tryz.underlying9 rfl)) ?_
  refine sg rfl (y_call rfl rfl rfl cf183 (fun _ w _ => HasPrefix_any _ _ w)) ?_
  refine s1 (y_and rfl rfl rfl) ?_
  refine sgo ?_
  refine T_mid (kf := [(0, 0), (4, 11), (26, 72)]) (kl := [(0, 0), (4, 11), (26, 72), (901, 901)]) (fun y : WdS w0 rs fun y => placeQ z.ws = plB y.fi y.ln y.ws => [(0, true, .slice y.z.A y.z.q y.z.c)]) (fun y : WdS w0 rs fun y => placeQ z.ws = plB y.fi y.ln y.ws => [(901, frH b ⟨m, f, y.z.fi, (y.z.ln : Int), -1, false⟩)]) (by repeat (first | exact kf_nil | (apply kf_in; focus rfl) | (apply kf_out; focus rfl))) (by repeat (first | exact kl_nil | exact kl_rest (by assumption) rfl | (apply kl_in; focus rfl) | (apply kl_out; focus rfl))) ?_ ?_
  · skip
    refine T_cond rfl ?_ ?_ <;> intro h25
    · try simp only [nrm] at h25
      have hq1 : 0 < z.ws.length := by omega
      have hpl := placeQ_par hq1 h25.2
      have hw1 := pre_len h25.2
      refine tx ?_
      refine sr 1 ?_
      refine s1 (y_here rfl (fun w1 hM => y_indexAddr (j := 0) rfl rfl rfl Tryz.underlying53 sz9 (fun hg => (hz.sees.at hM 900 rfl).isSome (by first | omega | simpa using hg)) (fun hg => by first | omega | simpa using hg))) ?_
      refine s1 (y_here rfl (fun w1 hM => y_loadT1 (val := str) (xe := z.ws.headD []) rfl rfl (hz.sees.at hM 900 rfl) (fun hg => hd_get _ (by rw [hlen]; first | omega | simpa using hg)) Tryz.underlying9 rfl)) ?_
      refine s1 (y_as (v' := str ((z.ws.headD []).drop 1)) (by exact rfl) (y_strFrom rfl rfl rfl Tryz.underlying9 (fun _ => by omega))) ?_
      refine s1 (y_call rfl rfl rfl cf202 (fun _ w _ => CutSuffix_any _ _ (by rw [List.length_drop]; omega) w)) ?_
      refine sr 5 ?_
      refine sgx ?_
      refine sr 1 ?_
      refine s1 (y_call rfl rfl rfl cf79 (fun _ w _ => Cut1_any _ 58 w (by omega))) ?_
      refine sr 7 ?_
      refine sgs ?_
      refine tx ?_
      refine sr 3 ?_
      refine sg rfl (y_move rfl rfl) ?_
      refine sg rfl (y_bin rfl rfl rfl (fun _ => b_eqls)) ?_
      refine s1 (y_or rfl rfl rfl) ?_
      refine sr 1 ?_
      refine sg rfl (y_move rfl rfl) ?_
      refine sg rfl (y_call rfl rfl rfl cf148 (fun _ w _ => isWord_any _ _ (by omega) w)) ?_
      refine sg rfl (y_not rfl rfl) ?_
      refine s1 (y_or rfl rfl rfl) ?_
      refine sgo ?_
      refine T_cond rfl ?_ ?_ <;> intro h50
      · try simp only [nrm] at h50
        have hno := fileQ_no h50
        refine tx ?_
        refine sr 1 ?_
        refine sgo ?_
        refine tr1 hRb fun w hM => ?_
        exact ⟨⟨m, f, [], 0, -1, false⟩, by rw [hpl, hno]; rfl, fun p hp => (by rw [hpl, hno] at hp; cases hp), hM.keep (ks := [(0, 999)]) (by repeat (first | exact kl_rest (by assumption) rfl | (apply kl_in; focus rfl))) _ ⟨rfl, rfl, trivial⟩⟩
      try simp only [nrm] at h50
      have hfy := fileQ_yes h50.1.1 h50.1.2 h50.2
      refine kgx ?_
      refine sr 2 ?_
      refine s1 (y_nilCheck rfl rfl) ?_
      refine s1 (yF fa45_2) ?_
      refine S_store 901 rfl rfl rfl rfl rfl rfl sz9 rfl rfl ?_
      refine sgs ?_
      refine tx ?_
      refine sr 1 ?_
      refine sgo ?_
      refine T_cond rfl ?_ ?_ <;> intro h55
      · try simp only [nrm] at h55
        refine tx ?_
        refine sr 1 ?_
        refine s1 (y_call rfl rfl rfl cf232 (fun _ w _ => number10_any _ 7 (by omega) (by omega) w)) ?_
        refine sr 5 ?_
        refine sgs ?_
        refine tx ?_
        refine sr 3 ?_
        refine sg rfl (y_move rfl rfl) ?_
        refine sg rfl (y_bin rfl rfl rfl (fun _ => b_eql)) ?_
        refine s1 (y_or rfl rfl rfl) ?_
        refine sgo ?_
        refine T_cond rfl ?_ ?_ <;> intro h66
        · try simp only [nrm] at h66
          have hn7 : fileQ (z.ws.headD []) = none := by rw [hfy, if_pos h55]; exact num_no h66
          refine tx ?_
          refine sr 1 ?_
          refine sgo ?_
          refine tr1 hRb fun w hM => ?_
          exact ⟨⟨m, f, (prL (z.ws.headD [])).1, 0, -1, false⟩, by rw [hpl, hn7]; rfl, fun p hp => (by rw [hpl, hn7] at hp; cases hp), hM.keep (ks := [(0, 999)]) (by repeat (first | exact kl_rest (by assumption) rfl | (apply kl_in; focus rfl))) _ ⟨rfl, rfl, trivial⟩⟩
        try simp only [nrm] at h66
        have hn7 : fileQ (z.ws.headD []) = some ((prL (z.ws.headD [])).1, (numB 10 7 (prL (z.ws.headD [])).2.1).getD 0) := by rw [hfy, if_pos h55]; exact num_got h66
        refine kgr ?_
        refine sr 2 ?_
        refine s1 (y_nilCheck rfl rfl) ?_
        refine s1 (yF fa45_3) ?_
        refine S_store 901 rfl rfl rfl rfl rfl rfl sz3 rfl rfl ?_
        refine sgr ?_
        refine sr 1 ?_
        refine s1 (y_slice rfl rfl Tryz.underlying53 sz9 (.inr ⟨_, _, rfl, rfl⟩) (.inl ⟨rfl, rfl⟩) (by show 1 ≤ _; omega) (by omega) (by omega)) ?_
        refine sr 1 ?_
        refine S_nil (mid_end (kf := [(0, 0), (4, 11), (26, 72)]) (kl := [(0, 0), (4, 11), (26, 72), (901, 901)]) (⟨z.tl (prL (z.ws.headD [])).1 ((numB 10 7 (prL (z.ws.headD [])).2.1).getD 0) 0, hz.tl (by omega), by rw [hpl, hn7]; rfl⟩) (by repeat (first | exact kf_nil | (apply kf_in; focus rfl) | (apply kf_out; focus rfl))) (by repeat (first | exact kl_nil | exact kl_rest (by assumption) rfl | (apply kl_in; focus rfl) | (apply kl_out; focus rfl))) ?_ ?_)
        · exact ⟨rfl, trivial⟩
        · exact ⟨rfl, trivial⟩
      try simp only [nrm] at h55
      refine kgr ?_
      refine sr 1 ?_
      refine s1 (y_slice rfl rfl Tryz.underlying53 sz9 (.inr ⟨_, _, rfl, rfl⟩) (.inl ⟨rfl, rfl⟩) (by show 1 ≤ _; omega) (by omega) (by omega)) ?_
      refine sr 1 ?_
      refine S_nil (mid_end (kf := [(0, 0), (4, 11), (26, 72)]) (kl := [(0, 0), (4, 11), (26, 72), (901, 901)]) (⟨z.tl (prL (z.ws.headD [])).1 0 0, hz.tl (by omega), by rw [hpl, hfy, if_neg (by rw [h55]; decide)]; rfl⟩) (by repeat (first | exact kf_nil | (apply kf_in; focus rfl) | (apply kf_out; focus rfl))) (by repeat (first | exact kl_nil | exact kl_rest (by assumption) rfl | (apply kl_in; focus rfl) | (apply kl_out; focus rfl))) ?_ ?_)
      · exact ⟨rfl, trivial⟩
      · exact ⟨rfl, trivial⟩
    try simp only [nrm] at h25
    have hpl := placeQ_no (ws := z.ws) fun h => h25.resolve_left (by omega)
    refine T_skip (mid_end (kf := [(0, 0), (4, 11), (26, 72)]) (kl := [(0, 0), (4, 11), (26, 72), (901, 901)]) (⟨⟨z.A, z.q, z.c, z.ws, [], 0, 0⟩, ⟨hz.sees, hz.cap, hz.short, hz.len⟩, hpl⟩) (by repeat (first | exact kf_nil | (apply kf_in; focus rfl) | (apply kf_out; focus rfl))) (by repeat (first | exact kl_nil | exact kl_rest (by assumption) rfl | (apply kl_in; focus rfl) | (apply kl_out; focus rfl))) ?_ ?_)
    · exact ⟨rfl, trivial⟩
    · exact ⟨rfl, trivial⟩
  intro y
  have hl3 := hd_short y.ok.short
  have hly := y.ok.len
  have hcy := y.ok.cap
  refine sgs ?_
  refine tx ?_
  refine sr 1 ?_
  refine s1 (y_len_slice rfl rfl Tryz.underlying53) ?_
  refine sr 2 ?_
  refine sg rfl (y_move rfl rfl) ?_
  refine sg rfl (y_here rfl (fun w1 hM => y_indexAddr (j := 0) rfl rfl rfl Tryz.underlying53 sz9 (fun hg => (y.ok.sees.at hM 900 rfl).isSome (by first | omega | simpa using hg)) (fun hg => by first | omega | simpa using hg))) ?_
  refine sg rfl (y_here rfl (fun w1 hM => y_loadT1 (val := str) (xe := y.z.ws.headD []) rfl rfl (y.ok.sees.at hM 900 rfl) (fun hg => hd_get _ (by rw [y.ok.len]; first | omega | simpa using hg)) Tryz.underlying9 rfl)) ?_
  refine sg rfl (y_call rfl rfl rfl cf183 (fun _ w _ => HasPrefix_any _ _ w)) ?_
  refine s1 (y_and rfl rfl rfl) ?_
  refine sgo ?_
  refine T_mid (kf := [(0, 0), (4, 4), (12, 13), (82, 97)]) (kl := [(0, 0), (4, 4), (12, 13), (82, 97), (901, 901)]) (fun u : WdS w0 rs fun u => placeQ z.ws = plC u.fi u.ln u.ad u.ws => [(0, true, .slice u.z.A u.z.q u.z.c)]) (fun u : WdS w0 rs fun u => placeQ z.ws = plC u.fi u.ln u.ad u.ws => [(901, frH b ⟨m, f, u.z.fi, (u.z.ln : Int), u.z.ad, false⟩)]) (by repeat (first | exact kf_nil | (apply kf_in; focus rfl) | (apply kf_out; focus rfl))) (by repeat (first | exact kl_nil | exact kl_rest (by assumption) rfl | (apply kl_in; focus rfl) | (apply kl_out; focus rfl))) ?_ ?_
  · skip
    refine T_cond rfl ?_ ?_ <;> intro h81
    · try simp only [nrm] at h81
      have hq1 : 0 < y.z.ws.length := by omega
      have hw1 := pre_len h81.2
      refine tx ?_
      refine sr 1 ?_
      refine s1 (y_here rfl (fun w1 hM => y_indexAddr (j := 0) rfl rfl rfl Tryz.underlying53 sz9 (fun hg => (y.ok.sees.at hM 900 rfl).isSome (by first | omega | simpa using hg)) (fun hg => by first | omega | simpa using hg))) ?_
      refine s1 (y_here rfl (fun w1 hM => y_loadT1 (val := str) (xe := y.z.ws.headD []) rfl rfl (y.ok.sees.at hM 900 rfl) (fun hg => hd_get _ (by rw [y.ok.len]; first | omega | simpa using hg)) Tryz.underlying9 rfl)) ?_
      refine s1 (y_as (v' := str ((y.z.ws.headD []).drop 1)) (by exact rfl) (y_strFrom rfl rfl rfl Tryz.underlying9 (fun _ => by omega))) ?_
      refine s1 (y_call rfl rfl rfl cf232 (fun _ w _ => number16_any _ 12 (by omega) (by rw [List.length_drop]; omega) w)) ?_
      refine sr 5 ?_
      refine sgs ?_
      refine tx ?_
      refine sr 2 ?_
      refine sgo ?_
      refine T_cond rfl ?_ ?_ <;> intro h91
      · try simp only [nrm] at h91
        have hn16 := plB_none (fi := y.z.fi) (ln := y.z.ln) hq1 h81.2 h91
        refine tx ?_
        refine sr 1 ?_
        refine sgo ?_
        refine tr1 hRb fun w hM => ?_
        exact ⟨⟨m, f, y.z.fi, (y.z.ln : Int), -1, false⟩, by rw [y.says, hn16]; rfl, fun p hp => (by rw [y.says, hn16] at hp; cases hp), hM.keep (ks := [(0, 999)]) (by repeat (first | exact kl_rest (by assumption) rfl | (apply kl_in; focus rfl))) _ ⟨rfl, rfl, trivial⟩⟩
      try simp only [nrm] at h91
      have hn16 := plB_got (fi := y.z.fi) (ln := y.z.ln) hq1 h81.2 h91
      refine kgx ?_
      refine sr 2 ?_
      refine s1 (y_nilCheck rfl rfl) ?_
      refine s1 (yF fa45_4) ?_
      refine S_store 901 rfl rfl rfl rfl rfl rfl sz3 rfl rfl ?_
      refine sgr ?_
      refine sr 1 ?_
      refine s1 (y_slice rfl rfl Tryz.underlying53 sz9 (.inr ⟨_, _, rfl, rfl⟩) (.inl ⟨rfl, rfl⟩) (by show 1 ≤ _; omega) (by omega) (by omega)) ?_
      refine sr 1 ?_
      refine S_nil (mid_end (kf := [(0, 0), (4, 4), (12, 13), (82, 97)]) (kl := [(0, 0), (4, 4), (12, 13), (82, 97), (901, 901)]) (⟨y.z.tl y.z.fi y.z.ln (((numB 16 12 ((y.z.ws.headD []).drop 1)).getD 0 : Nat) : Int), y.ok.tl (by omega), y.says.trans hn16⟩) (by repeat (first | exact kf_nil | (apply kf_in; focus rfl) | (apply kf_out; focus rfl))) (by repeat (first | exact kl_nil | exact kl_rest (by assumption) rfl | (apply kl_in; focus rfl) | (apply kl_out; focus rfl))) ?_ ?_)
      · exact ⟨rfl, trivial⟩
      · exact ⟨rfl, trivial⟩
    try simp only [nrm] at h81
    have hpb := plB_no (ws := y.z.ws) (fi := y.z.fi) (ln := y.z.ln) fun h => h81.resolve_left (by omega)
    refine T_skip (mid_end (kf := [(0, 0), (4, 4), (12, 13), (82, 97)]) (kl := [(0, 0), (4, 4), (12, 13), (82, 97), (901, 901)]) (⟨⟨y.z.A, y.z.q, y.z.c, y.z.ws, y.z.fi, y.z.ln, -1⟩, ⟨y.ok.sees, y.ok.cap, y.ok.short, y.ok.len⟩, y.says.trans hpb⟩) (by repeat (first | exact kf_nil | (apply kf_in; focus rfl) | (apply kf_out; focus rfl))) (by repeat (first | exact kl_nil | exact kl_rest (by assumption) rfl | (apply kl_in; focus rfl) | (apply kl_out; focus rfl))) ?_ ?_)
    · exact ⟨rfl, trivial⟩
    · exact ⟨rfl, trivial⟩
  intro u
  have hlu := u.ok.len
  have hcu := u.ok.cap
  refine sgs ?_
  refine tx ?_
  refine sr 1 ?_
  refine s1 (y_len_slice rfl rfl Tryz.underlying53) ?_
  refine sr 2 ?_
  refine sg rfl (y_move rfl rfl) ?_
  refine sg rfl (y_here rfl (fun w1 hM => y_indexAddr (j := 0) rfl rfl rfl Tryz.underlying53 sz9 (fun hg => (u.ok.sees.at hM 900 rfl).isSome (by first | omega | simpa using hg)) (fun hg => by first | omega | simpa using hg))) ?_
  refine sg rfl (y_here rfl (fun w1 hM => y_loadT1 (val := str) (xe := u.z.ws.headD []) rfl rfl (u.ok.sees.at hM 900 rfl) (fun hg => hd_get _ (by rw [u.ok.len]; first | omega | simpa using hg)) Tryz.underlying9 rfl)) ?_
  refine sg rfl (y_bin rfl rfl rfl (fun _ => b_eqls)) ?_
  refine s1 (y_and rfl rfl rfl) ?_
  refine sgo ?_
  refine T_cond rfl ?_ ?_ <;> intro h106
  · try simp only [nrm] at h106
    have hpc := plC_star (fi := u.z.fi) (ln := u.z.ln) (ad := u.z.ad) (by omega) h106.2
    refine tx ?_
    refine sr 1 ?_
    refine s1 (y_nilCheck rfl rfl) ?_
    refine s1 (yF fa45_5) ?_
    refine S_store 901 rfl rfl rfl rfl rfl rfl sz4 rfl rfl ?_
    refine sgr ?_
    refine sr 1 ?_
    refine s1 (y_slice rfl rfl Tryz.underlying53 sz9 (.inr ⟨_, _, rfl, rfl⟩) (.inl ⟨rfl, rfl⟩) (by show 1 ≤ _; omega) (by omega) (by omega)) ?_
    refine sr 1 ?_
    refine sgx ?_
    refine sr 1 ?_
    refine s1 (y_len_slice rfl rfl Tryz.underlying53) ?_
    refine sr 2 ?_
    refine sgo ?_
    refine tr1 hRb fun w hM => ?_
    have hend := plC_end (m := m) (f := f) (q := u.z.q - 1) (by omega) (u.says.trans hpc) rfl
    exact ⟨_, hend.1, hend.2, hM.keep (ks := [(0, 999)]) (by repeat (first | exact kl_rest (by assumption) rfl | (apply kl_in; focus rfl))) _ ⟨rfl, rfl, trivial⟩⟩
  try simp only [nrm] at h106
  have hpc := plC_no (ws := u.z.ws) (fi := u.z.fi) (ln := u.z.ln) (ad := u.z.ad) fun h => h106.resolve_left (by omega)
  refine kgx ?_
  refine sr 1 ?_
  refine s1 (y_len_slice rfl rfl Tryz.underlying53) ?_
  refine sr 2 ?_
  refine sgo ?_
  refine tr1 hRb fun w hM => ?_
  have hend := plC_end (m := m) (f := f) (q := u.z.q) (by omega) (u.says.trans hpc) rfl
  exact ⟨_, hend.1, hend.2, hM.keep (ks := [(0, 999)]) (by repeat (first | exact kl_rest (by assumption) rfl | (apply kl_in; focus rfl))) _ ⟨rfl, rfl, trivial⟩⟩
theorem split_ne (c : UInt8) (s : List UInt8) : 0 < (splitC c s).length := by rw [splitC_len]; omega
theorem split_short {c : UInt8} : ∀ {s x : List UInt8}, x ∈ splitC c s → x.length ≤ s.length
  | [], x, h => by rw [splitC, List.mem_singleton] at h; subst h; exact Nat.le_refl _
  | a :: r, x, h => by
    rw [splitC] at h
    rw [List.length_cons]
    by_cases e : a = c
    · rw [if_pos e] at h
      rcases List.mem_cons.1 h with rfl | h
      · exact Nat.zero_le _
      · have := split_short h; omega
    · rw [if_neg e] at h
      cases hq : splitC c r with
      | nil => rw [hq] at h; rw [List.mem_singleton.1 h]; simp
      | cons y t =>
        rw [hq] at h
        rcases List.mem_cons.1 h with rfl | h
        · have := split_short (c := c) (s := r) (x := y) (by rw [hq]; exact List.mem_cons_self ..)
          rw [List.length_cons]; omega
        · have := split_short (c := c) (s := r) (x := x) (by rw [hq]; exact List.mem_cons_of_mem _ h)
          omega
theorem frameQ_no {s : List UInt8} (h : callOk ((splitC 32 s).headD []) = false) : frameQ s = none := by
  have h0 := split_ne 32 s
  rw [frameQ]
  generalize splitC 32 s = l at *
  cases l with
  | nil => rfl
  | cons w r => exact if_neg (by rw [show callOk w = false from h]; decide)
theorem frameQ_yes {s : List UInt8} (h : callOk ((splitC 32 s).headD []) = true) : frameQ s = (placeQ ((splitC 32 s).drop 1)).map fun p => ⟨(callM ((splitC 32 s).headD [])).1, (callM ((splitC 32 s).headD [])).2, p.fi, (p.ln : Int), p.ad, p.own⟩ := by
  have h0 := split_ne 32 s
  rw [frameQ]
  generalize splitC 32 s = l at *
  cases l with
  | nil => cases h0
  | cons w r => exact if_pos h
set_option maxHeartbeats 1600000 in
theorem readFrame_any {w0 : World} {K : HL} (hK : FromK K) (s : List UInt8) (hs : s.length ≤ 1000000) (w : World) (hM0 : Mem w0 ([] ++ K) w) :
    Calls Tryz.prog 275 #[str s] w fun e w' => ∃ y : Frm, e = .returned (.tuple #[y.val, .bool (frameQ s).isSome]) ∧ (∀ x, frameQ s = some x → y = x) ∧ Mem w0 ([] ++ K) w' := by
  have h0 := split_ne 32 s
  have hsh : ∀ x ∈ splitC 32 s, x.length ≤ 1000000 := fun x hx => by have := split_short hx; omega
  have hl := hd_short hsh
  refine enterM_args (args := [str s]) (F := _) hM0 Tryz.func275 rfl Tryz.ntmps275 rfl rfl ?_
  intro Rb hRb hRn
  refine tx ?_
  refine S_alloc 2 2 rfl rfl rfl rfl z45 ?_
  intro b2
  refine sr 1 ?_
  refine sgx ?_
  refine S_alloc 4 4 rfl rfl rfl rfl z45 ?_
  intro b4
  refine sgx ?_
  refine sr 1 ?_
  refine S_callOwn 8 8 rfl rfl rfl rfl rfl rfl rfl cf135 (fun A c => .slice A ((splitC 32 s).length) c) 9 1 ((splitC 32 s).length) ((splitC 32 s).flatMap strE) (fun w hM => Split1_any s 32 (by omega) w) ?_
  intro A8 c8
  refine sr 1 ?_
  refine sgx ?_
  refine sr 1 ?_
  refine s1 (y_indexOwnI (j := 0) 8 rfl rfl rfl (fun _ => rfl) rfl Tryz.underlying53 sz9 (fun _ => h0)) ?_
  refine s1 (y_loadO1 8 (val := (fun l : List UInt8 => str l)) rfl rfl rfl rfl (fun _ => hd_get [] h0) Tryz.underlying9 rfl) ?_
  refine S_callM 12 [(901, 4)] (X := Unit) rfl rfl rfl rfl rfl rfl rfl cf236 rfl (fun _ => .bool (callOk ((splitC 32 s).headD []))) (fun _ => True) (fun _ => [(901, frH b4 ⟨(callM ((splitC 32 s).headD [])).1, (callM ((splitC 32 s).headD [])).2, [], 0, 0, false⟩)]) (fun _ => rfl) (fun _ => rfl) (fun K1 hK1 w hM => readCall_any hK1 b4 ⟨[], [], [], 0, 0, false⟩ _ (by omega) w hM) ?_
  intro _ _
  rcases Bool.eq_false_or_eq_true (callOk ((splitC 32 s).headD [])) with hb | hb
  · skip
    refine s1 (y_as (v' := .bool true) (by exact congrArg Value.bool hb) (y_move rfl rfl)) ?_
    refine S_known (p := (splitC 32 s).length ≤ c8) (fun w hM => (row_ok (enc := strE) (hM.sat 8 _ rfl) rfl).cap) fun hc8 => ?_
    refine S_many0 900 ?_
    refine S_bank [(8, 8), (900, 900)] 900 8 rfl rfl rfl rfl (by repeat (first | exact kl_nil | exact kl_rest (by assumption) rfl | (apply kl_in; focus rfl) | (apply kl_out; focus rfl))) ?_
    have hz : WdOk w0 ([] ++ [⟨9, 1, .slice A8 (splitC 32 s).length c8, (splitC 32 s).length, (splitC 32 s).flatMap strE⟩]) ⟨A8, (splitC 32 s).length, c8, splitC 32 s, [], 0, 0⟩ := ⟨(Sees.row (List.mem_singleton.2 rfl) rfl).map fun w h => h.t, hc8, hsh, rfl⟩
    refine sg rfl (y_move rfl rfl) ?_
    refine sg rfl (y_slice rfl rfl Tryz.underlying53 sz9 (.inr ⟨_, _, rfl, rfl⟩) (.inl ⟨rfl, rfl⟩) (by show 1 ≤ _; omega) (by omega) (by omega)) ?_
    refine S_unguard rfl rfl rfl rfl rfl ?_
    refine S_callM 16 [(900, 900), (901, 4)] (X := Frm) rfl rfl rfl rfl rfl rfl rfl cf237 rfl (fun _ => .bool (placeQ ((splitC 32 s).drop 1)).isSome) (fun y => ∀ p, placeQ ((splitC 32 s).drop 1) = some p → y = ⟨(callM ((splitC 32 s).headD [])).1, (callM ((splitC 32 s).headD [])).2, p.fi, (p.ln : Int), p.ad, p.own⟩) (fun y => [(900, .many ([] ++ [(⟨9, 1, .slice A8 (splitC 32 s).length c8, (splitC 32 s).length, (splitC 32 s).flatMap strE⟩ : Row)])), (901, frH b4 y)]) (fun _ => rfl) (fun _ => rfl) (fun K1 hK1 w hM => readPlace_any hK1 b4 _ _ _ (WdR.tl ⟨A8, (splitC 32 s).length, c8, splitC 32 s, [], 0, 0⟩ [] 0 0) (hz.tl h0) w hM) ?_
    intro y hy
    refine s1 (y_and rfl rfl rfl) ?_
    refine sr 1 ?_
    refine sgx ?_
    refine s1 (yA 4 rfl Tryz.underlying45 sz45) ?_
    refine sr 1 ?_
    refine S_store 2 rfl rfl rfl rfl rfl rfl sz45 rfl rfl ?_
    refine sr 1 ?_
    refine sgo ?_
    refine T_ret (fun a w hF hM => hRb a w (post_cell 2 rfl rfl rfl rfl Tryz.underlying45 rfl (by exact sz45) (fun w hM => ?_) a w hF hM))
    exact ⟨y, by rw [frameQ_yes hb, Option.isSome_map]; rfl, fun x hx => by
      rw [frameQ_yes hb] at hx
      obtain ⟨p, hp1, hp2⟩ := Option.map_eq_some_iff.1 hx
      rw [hy p hp1, ← hp2], hM.keep (ks := [(0, 999)]) (by repeat (first | exact kl_rest (by assumption) rfl | (apply kl_in; focus rfl))) _ trivial⟩
  · skip
    refine s1 (y_as (v' := .bool false) (by exact congrArg Value.bool hb) (y_move rfl rfl)) ?_
    refine S_skip 14 rfl rfl rfl rfl rfl rfl rfl ?_
    refine S_skip 15 rfl rfl rfl rfl rfl rfl rfl ?_
    refine S_skip 16 rfl rfl rfl rfl rfl rfl rfl ?_
    refine s1 (y_pickF rfl rfl rfl) ?_
    refine sr 1 ?_
    refine sgx ?_
    refine s1 (yA 4 rfl Tryz.underlying45 sz45) ?_
    refine sr 1 ?_
    refine S_store 2 rfl rfl rfl rfl rfl rfl sz45 rfl rfl ?_
    refine sr 1 ?_
    refine sgo ?_
    refine T_ret (fun a w hF hM => hRb a w (post_cell 2 rfl rfl rfl rfl Tryz.underlying45 rfl (by exact sz45) (fun w hM => ?_) a w hF hM))
    exact ⟨⟨(callM ((splitC 32 s).headD [])).1, (callM ((splitC 32 s).headD [])).2, [], 0, 0, false⟩, by rw [frameQ_no hb]; rfl, fun x hx => (by rw [frameQ_no hb] at hx; cases hx), hM.keep (ks := [(0, 999)]) (by repeat (first | exact kl_rest (by assumption) rfl | (apply kl_in; focus rfl))) _ trivial⟩
/-! ### The line of a fault -/
def badH (s : List UInt8) : Bool := !(cutC 58 s).2.2 || decide ((cutC 58 s).1 = []) || !wordOk [58] (cutC 58 s).1
def hdV (s : List UInt8) : List UInt8 × List UInt8 := if badH s = true then ([], []) else ((cutC 58 s).1, if (cutC 58 s).2.1 = [] then [] else Lib.trimPrefix (cutC 58 s).2.1 [32])
abbrev fltV (k t : List UInt8) : Value := .agg #[str k, str t, .slice none 0 0]
theorem trimP1_of {s : List UInt8} (h : Lib.hasPrefix s [32] = true) : Lib.trimPrefix s [32] = s.drop 1 := by rw [Lib.trimPrefix, if_pos h]; rfl
theorem headQ_bad {s : List UInt8} (h : badH s = true) : headQ s = none := by
  simp only [badH, Bool.or_eq_true, Bool.not_eq_true', decide_eq_true_eq] at h
  exact if_pos (by rcases h with (h | h) | h; exact .inl h; exact .inr (.inl h); exact .inr (.inr h))
theorem headQ_ok {s : List UInt8} (h : badH s = false) : headQ s = if (cutC 58 s).2.1 = [] then some ((cutC 58 s).1, []) else if Lib.hasPrefix (cutC 58 s).2.1 [32] = true ∧ (cutC 58 s).2.1.drop 1 ≠ [] then some ((cutC 58 s).1, (cutC 58 s).2.1.drop 1) else none := by
  simp only [badH, Bool.or_eq_false_iff, Bool.not_eq_false', decide_eq_false_iff_not] at h
  exact if_neg (by rintro (h' | h' | h'); rw [h.1.1] at h'; cases h'; exact h.1.2 h'; rw [h.2] at h'; cases h')
theorem headQ_hdV {s : List UInt8} {k t : List UInt8} (h : headQ s = some (k, t)) : hdV s = (k, t) := by
  cases hb : badH s with
  | true => rw [headQ_bad hb] at h; cases h
  | false =>
    rw [headQ_ok hb] at h
    rw [hdV, if_neg (by rw [hb]; decide)]
    by_cases e : (cutC 58 s).2.1 = []
    · rw [if_pos e] at h ⊢; exact Option.some.inj h
    · rw [if_neg e] at h ⊢
      split at h
      · rename_i h2; rw [trimP1_of h2.1]; exact Option.some.inj h
      · cases h
theorem head_some {s : List UInt8} (hb : badH s = false) (e : (cutC 58 s).2.1 ≠ []) : (headQ s).isSome = (Lib.hasPrefix (cutC 58 s).2.1 [32] && !decide (Lib.trimPrefix (cutC 58 s).2.1 [32] = [])) := by
  rw [headQ_ok hb, if_neg e]
  cases hp : Lib.hasPrefix (cutC 58 s).2.1 [32] with
  | false => rfl
  | true =>
    rw [trimP1_of hp]
    by_cases e2 : (cutC 58 s).2.1.drop 1 = []
    · rw [if_neg (fun h => h.2 e2), decide_eq_true e2]; rfl
    · rw [if_pos ⟨rfl, e2⟩, decide_eq_false e2]; rfl
theorem readHead_any (s : List UInt8) (hs : s.length ≤ 1000000) (w : World) :
    Calls Tryz.prog 274 #[str s] w fun e w' => e = .returned (.tuple #[fltV (hdV s).1 (hdV s).2, .bool (headQ s).isSome]) ∧ Below w.heap.size w w' := by
  have hl := cut_le 58 s
  refine enter_args (args := [str s]) (F := _) Tryz.func274 rfl Tryz.ntmps274 rfl rfl ?_
  intro Rb hRb hRn
  refine tx ?_
  refine S_alloc 2 2 rfl rfl rfl rfl z36 ?_
  intro b2
  refine sr 1 ?_
  refine sgx ?_
  refine sr 1 ?_
  refine s1 (y_call rfl rfl rfl cf79 (fun _ w _ => Cut1_any s 58 w (by omega))) ?_
  refine sr 7 ?_
  refine sgs ?_
  refine tx ?_
  refine sr 3 ?_
  refine sg rfl (y_move rfl rfl) ?_
  refine sg rfl (y_bin rfl rfl rfl (fun _ => b_eqls)) ?_
  refine s1 (y_or rfl rfl rfl) ?_
  refine sr 1 ?_
  refine sg rfl (y_move rfl rfl) ?_
  refine sg rfl (y_call rfl rfl rfl cf148 (fun _ w _ => isWord_any _ _ (by omega) w)) ?_
  refine sg rfl (y_not rfl rfl) ?_
  refine s1 (y_as (v' := .bool (badH s)) (by exact rfl) (y_or rfl rfl rfl)) ?_
  refine sgo ?_
  refine T_cond rfl ?_ ?_ <;> intro h23
  · skip
    have hv : hdV s = ([], []) := if_pos h23
    refine tx ?_
    refine s1 (y_build (zv := .agg #[.string ⟨#[]⟩, .string ⟨#[]⟩, .slice none 0 0]) (pl := [(0, 1), (1, 1), (2, 1)]) (out := [.string ⟨#[]⟩, .string ⟨#[]⟩, .slice none 0 0]) rfl rfl Tryz.underlying36 z36 (by kernel_rfl) rfl) ?_
    refine S_store 2 rfl rfl rfl rfl rfl rfl sz36 rfl rfl ?_
    refine sr 1 ?_
    refine sgo ?_
    refine T_ret (fun a w hF hM => hRb a w (post_cell 2 rfl rfl rfl rfl Tryz.underlying36 rfl (by exact sz36) (fun w hM => ?_) a w hF hM))
    rw [hv, headQ_bad h23]
    exact ⟨rfl, hM.below⟩
  have hv : hdV s = _ := if_neg (by rw [h23]; decide)
  refine kgs ?_
  refine tx ?_
  refine sr 1 ?_
  refine s1 (y_bin rfl rfl rfl (fun _ => b_eqls)) ?_
  refine sgo ?_
  refine T_cond rfl ?_ ?_ <;> intro h26
  · skip
    have he : (cutC 58 s).2.1 = [] := by simpa using h26
    refine tx ?_
    refine sr 1 ?_
    refine s1 (y_build (zv := .agg #[.string ⟨#[]⟩, .string ⟨#[]⟩, .slice none 0 0]) (pl := [(0, 1), (1, 1), (2, 1)]) (out := [_, .string ⟨#[]⟩, .slice none 0 0]) rfl rfl Tryz.underlying36 z36 (by kernel_rfl) rfl) ?_
    refine S_store 2 rfl rfl rfl rfl rfl rfl sz36 rfl rfl ?_
    refine sr 1 ?_
    refine sgo ?_
    refine T_ret (fun a w hF hM => hRb a w (post_cell 2 rfl rfl rfl rfl Tryz.underlying36 rfl (by exact sz36) (fun w hM => ?_) a w hF hM))
    rw [hv, headQ_ok h23, if_pos he, if_pos he]
    exact ⟨rfl, hM.below⟩
  have he : (cutC 58 s).2.1 ≠ [] := by simpa using h26
  refine kgx ?_
  refine sr 1 ?_
  refine s1 (y_call rfl rfl rfl cf198 (fun _ w _ => CutPrefix_any _ _ w)) ?_
  refine sr 5 ?_
  refine sgx ?_
  refine sr 2 ?_
  refine s1 (y_build (zv := .agg #[.string ⟨#[]⟩, .string ⟨#[]⟩, .slice none 0 0]) (pl := [(0, 1), (1, 1), (2, 1)]) (out := [_, _, .slice none 0 0]) rfl rfl Tryz.underlying36 z36 (by kernel_rfl) rfl) ?_
  refine sr 2 ?_
  refine sg rfl (y_move rfl rfl) ?_
  refine sg rfl (y_bin rfl rfl rfl (fun _ => b_neqs)) ?_
  refine s1 (y_and rfl rfl rfl) ?_
  refine S_store 2 rfl rfl rfl rfl rfl rfl sz36 rfl rfl ?_
  refine sr 1 ?_
  refine sgo ?_
  refine T_ret (fun a w hF hM => hRb a w (post_cell 2 rfl rfl rfl rfl Tryz.underlying36 rfl (by exact sz36) (fun w hM => ?_) a w hF hM))
  rw [hv, head_some h23 he, if_neg he]
  exact ⟨rfl, hM.below⟩
end Go.Proofs.YtgbldojgbpgjbaaGreatDoor
end
section
namespace Go.Proofs.YtgbldojgbpgjbaaGreatDoor
set_option linter.unusedSimpArgs false
set_option linter.unusedVariables false
set_option maxRecDepth 20000
open Go.RowKit Go.Eng
/-- the lines in memory -/
structure Src where
  A : Option Addr
  q : Nat
  c : Nat
  ls : List (List UInt8)
  tl : List UInt8
structure SrcOk (w0 : World) (rs : List Row) (z : Src) : Prop where
  sees : Sees w0 rs fun w => SlT strE 1 w z.A z.q z.ls
  short : ∀ x ∈ z.ls, x.length ≤ 1000000
  len : z.ls.length = z.q
  few : z.q ≤ 1000000
  tl : z.tl.length ≤ 1000000
abbrev srI (b : Nat) (z : Src) (i : Nat) : It := .blk b (IsBox [.slice z.A z.q z.c, .int .i64 (i : Int), str z.tl] 203)
structure SrcAt (w : World) (b : Nat) (z : Src) (i : Nat) : Prop where
  h0 : w.cell? ⟨b, 0, none⟩ = some (.slice z.A z.q z.c) ∧ b < w.heap.size
  h1 : w.cell? ⟨b, 1, none⟩ = some (.int .i64 (i : Int)) ∧ b < w.heap.size
  h2 : w.cell? ⟨b, 2, none⟩ = some (str z.tl) ∧ b < w.heap.size
theorem srcAt {B : Nat} {w : World} {b i : Nat} {z : Src} (h : (srI b z i).sat B w) : SrcAt w b z i := by
  have hl := (It.lt h b rfl).2
  obtain ⟨o, h1, h2, h3⟩ := h
  subst h3
  refine ⟨⟨?_, hl⟩, ⟨?_, hl⟩, ⟨?_, hl⟩⟩ <;> simp [World.cell?, h2]
theorem begL_eq {ls : List (List UInt8)} {i : Nat} {p : List UInt8} : begL (ls.drop i) p = (decide (i < ls.length) && Lib.hasPrefix (ls.getD i []) p) := by
  by_cases h : i < ls.length
  · rw [List.drop_eq_getElem_cons h, decide_eq_true h]
    simp [begL, List.getD, h]
  · rw [List.drop_eq_nil_of_le (by omega), decide_eq_false h]; rfl
theorem getD_at {ls : List (List UInt8)} {i : Nat} (h : i < ls.length) : ls[i]? = some (ls.getD i []) := by simp [List.getD, h]
theorem getD_short {ls : List (List UInt8)} {n i : Nat} (h : ∀ x ∈ ls, x.length ≤ n) : (ls.getD i []).length ≤ n := by
  by_cases hi : i < ls.length
  · exact h _ (List.mem_of_getElem? (getD_at hi))
  · simp [List.getD, Nat.le_of_not_lt hi]
theorem begins_any (b : Nat) (z : Src) (i : Nat) (p : List UInt8) (w : World) (h : SrcAt w b z i) (hs : SlT strE 1 w z.A z.q z.ls) :
    Calls Tryz.prog 229 #[ptrH b, str p] w fun e w' => e = .returned (.bool (begL (z.ls.drop i) p)) ∧ Below w.heap.size w w' := by
  have hlen := hs.len
  refine enter_args (args := [ptrH b, str p]) (F := _) Tryz.func229 rfl Tryz.ntmps229 rfl rfl ?_
  intro Rb hRb hRn
  refine tx ?_
  refine sr 1 ?_
  refine sgs ?_
  refine T_draws (by kernel_rfl) (by kernel_rfl) ?_
  refine d1 (y_move rfl rfl) ?_
  refine d1 (y_nilCheck rfl rfl) ?_
  refine d1 (yF fa203_1) ?_
  refine d1 (y_load_far rfl rfl h.h1.1 h.h1.2 Tryz.underlying3 rfl) ?_
  refine d1 (y_move rfl rfl) ?_
  refine d1 (y_nilCheck rfl rfl) ?_
  refine d1 (yF fa203_0) ?_
  refine d1 (y_load_far rfl rfl h.h0.1 h.h0.2 Tryz.underlying53 rfl) ?_
  refine d1 (y_len_slice rfl rfl Tryz.underlying53) ?_
  refine d1 (y_bin rfl rfl rfl (fun _ => b_lss)) ?_
  refine d1 (y_move rfl rfl) ?_
  refine dg rfl (y_move rfl rfl) ?_
  refine dg rfl (y_nilCheck rfl rfl) ?_
  refine dg rfl (yF fa203_0) ?_
  refine dg rfl (y_load_far rfl rfl h.h0.1 h.h0.2 Tryz.underlying53 rfl) ?_
  refine dg rfl (y_move rfl rfl) ?_
  refine dg rfl (y_nilCheck rfl rfl) ?_
  refine dg rfl (yF fa203_1) ?_
  refine dg rfl (y_load_far rfl rfl h.h1.1 h.h1.2 Tryz.underlying3 rfl) ?_
  refine dg rfl (y_indexAddr rfl rfl rfl Tryz.underlying53 sz9 (fun hg => hs.isSome (by simp only [Bool.true_and, Bool.and_eq_true, beq_iff_eq, decide_eq_true_eq, decide_eq_false_iff_not, Int.not_lt, Int.not_le] at hg; omega)) (fun hg => by simp only [Bool.true_and, Bool.and_eq_true, beq_iff_eq, decide_eq_true_eq, decide_eq_false_iff_not, Int.not_lt, Int.not_le] at hg; omega)) ?_
  refine dg rfl (y_loadT1 (val := (fun l : List UInt8 => str l)) rfl rfl hs (fun hg => getD_at (by rw [hlen]; simp only [Bool.true_and, Bool.and_eq_true, beq_iff_eq, decide_eq_true_eq, decide_eq_false_iff_not, Int.not_lt, Int.not_le] at hg; omega)) Tryz.underlying9 rfl) ?_
  refine dg rfl (y_move rfl rfl) ?_
  refine dg rfl (y_call rfl rfl rfl cf183 (fun _ w _ => HasPrefix_any _ _ w)) ?_
  refine d1 (y_as (v' := .bool (begL (z.ls.drop i) p)) (by exact congrArg Value.bool (by rw [begL_eq, hlen]; simp)) (y_and rfl rfl rfl)) ?_
  refine d1 (y_assign rfl rfl) ?_
  refine dgo ?_
  refine tr1 hRb fun w hM => ?_
  exact ⟨rfl, hM.below⟩
theorem pre_le {s p : List UInt8} (h : Lib.hasPrefix s p = true) : p.length ≤ s.length := by
  have := (List.isPrefixOf_iff_prefix.1 h).length_le
  exact this
/-- the rest of a line behind its beginning; nothing if there is no such line -/
def nxV (l : List (List UInt8)) (p : List UInt8) : List UInt8 := if begL l p = true then (l.headD []).drop p.length else []
def nxI (l : List (List UInt8)) (p : List UInt8) (i : Nat) : Nat := if begL l p = true then i + 1 else i
theorem headD_drop {l : List (List UInt8)} {i : Nat} : (l.drop i).headD [] = l.getD i [] := by
  simp [List.headD_eq_head?_getD, List.head?_drop, List.getD]
theorem next_any {w0 : World} {K : HL} (hK : FromK K) (b : Nat) (rs : List Row) (z : Src) (hz : SrcOk w0 rs z) (i : Nat) (hi : i ≤ z.q) (p : List UInt8) (w : World) (hM0 : Mem w0 ([(900, .many rs), (901, srI b z i)] ++ K) w) :
    Calls Tryz.prog 231 #[ptrH b, str p] w fun e w' => ∃ x : Unit, e = .returned (.tuple #[str (nxV (z.ls.drop i) p), .bool (begL (z.ls.drop i) p)]) ∧ True ∧ Mem w0 ([(900, .many rs), (901, srI b z (nxI (z.ls.drop i) p i))] ++ K) w' := by
  have hlen := hz.len
  have hfew := hz.few
  refine enterM_args (args := [ptrH b, str p]) (F := _) hM0 Tryz.func231 rfl Tryz.ntmps231 rfl rfl ?_
  intro Rb hRb hRn
  refine tx ?_
  refine sr 2 ?_
  refine sgs ?_
  refine tx ?_
  refine sr 2 ?_
  refine s1 (y_call rfl rfl rfl cf229 (fun _ w hM => begins_any b z i p w (srcAt (hM.sat 901 _ rfl)) (hz.sees.at hM 900 rfl))) ?_
  refine sr 1 ?_
  refine sgo ?_
  refine T_cond rfl ?_ ?_ <;> intro h9
  · try simp only [nrm] at h9
    have hb : begL (z.ls.drop i) p = false := by simpa using h9
    refine tx ?_
    refine sr 2 ?_
    refine sgo ?_
    refine tr2 hRb fun w hM => ?_
    rw [nxV, nxI, if_neg (by rw [hb]; decide), if_neg (by rw [hb]; decide), hb]
    exact ⟨(), rfl, trivial, hM.keep (ks := [(0, 999)]) (by repeat (first | exact kl_rest (by assumption) rfl | (apply kl_in; focus rfl))) _ ⟨rfl, rfl, trivial⟩⟩
  try simp only [nrm] at h9
  have hb : begL (z.ls.drop i) p = true := by simpa using h9
  have hb2 : i < z.ls.length ∧ Lib.hasPrefix (z.ls.getD i []) p = true := by
    have := hb
    rw [begL_eq] at this
    simpa using this
  have hpl := pre_le hb2.2
  have hgs := getD_short (i := i) hz.short
  refine kgx ?_
  refine sr 1 ?_
  refine s1 (y_nilCheck rfl rfl) ?_
  refine s1 (yF fa203_1) ?_
  refine s1 (yL 901 Tryz.underlying3) ?_
  refine s1 (y_bin rfl rfl rfl (fun hg => b_addv (((i + 1 : Nat) : Int)) (by omega) (by omega))) ?_
  refine s1 (y_nilCheck rfl rfl) ?_
  refine s1 (yF fa203_1) ?_
  refine S_store 901 rfl rfl rfl rfl rfl rfl sz3 rfl rfl ?_
  refine sgs ?_
  refine T_draws (by kernel_rfl) (by kernel_rfl) ?_
  refine d1 (y_move rfl rfl) ?_
  refine d1 (y_nilCheck rfl rfl) ?_
  refine d1 (yF fa203_0) ?_
  refine d1 (yL 901 Tryz.underlying53) ?_
  refine d1 (y_move rfl rfl) ?_
  refine d1 (y_nilCheck rfl rfl) ?_
  refine d1 (yF fa203_1) ?_
  refine d1 (yL 901 Tryz.underlying3) ?_
  refine d1 (y_bin rfl rfl rfl (fun hg => b_subv ((i : Int)) (by omega) (by omega))) ?_
  refine d1 (y_here rfl (fun w1 hM => y_indexAddr (j := i) rfl rfl rfl Tryz.underlying53 sz9 (fun hg => (hz.sees.at hM 900 rfl).isSome (by omega)) (fun hg => by omega))) ?_
  refine d1 (y_here rfl (fun w1 hM => y_loadT1 (val := str) (xe := z.ls.getD i []) rfl rfl (hz.sees.at hM 900 rfl) (fun hg => getD_at hb2.1) Tryz.underlying9 rfl)) ?_
  refine d1 (y_move rfl rfl) ?_
  refine d1 (y_len_str rfl rfl Tryz.underlying9) ?_
  refine d1 (y_strFrom rfl rfl rfl Tryz.underlying9 (fun _ => by omega)) ?_
  refine d1 (y_assign rfl rfl) ?_
  refine d1 (y_assign rfl rfl) ?_
  refine dgo ?_
  refine tr2 hRb fun w hM => ?_
  rw [nxV, nxI, if_pos hb, if_pos hb, hb, headD_drop]
  exact ⟨(), rfl, trivial, hM.keep (ks := [(0, 999)]) (by repeat (first | exact kl_rest (by assumption) rfl | (apply kl_in; focus rfl))) _ ⟨rfl, rfl, trivial⟩⟩
def fhQ (l : List (List UInt8)) (p : List UInt8) : Option (List UInt8 × List UInt8) := if begL l p = true then headQ (nxV l p) else none
def fmQ (l : List (List UInt8)) (p : List UInt8) : Option Frm := if begL l p = true then frameQ (nxV l p) else none
def okI {α : Type} (o : Option α) (i : Nat) : Nat := if o.isSome = true then i + 1 else i
theorem okI_no {α : Type} (i : Nat) : okI (none : Option α) i = i := if_neg Bool.false_ne_true
theorem okI_yes {α : Type} (y : α) (i : Nat) : okI (some y) i = i + 1 := if_pos rfl
theorem nxV_short {l : List (List UInt8)} {p : List UInt8} {n : Nat} (h : ∀ x ∈ l, x.length ≤ n) : (nxV l p).length ≤ n := by
  unfold nxV
  split
  · rw [List.length_drop]; have := hd_short h; omega
  · exact Nat.zero_le _
theorem drop_short {l : List (List UInt8)} {n i : Nat} (h : ∀ x ∈ l, x.length ≤ n) : ∀ x ∈ l.drop i, x.length ≤ n := fun x hx => h x (List.mem_of_mem_drop hx)
theorem fault_any {w0 : World} {K : HL} (hK : FromK K) (b : Nat) (rs : List Row) (z : Src) (hz : SrcOk w0 rs z) (i : Nat) (hi : i ≤ z.q) (p : List UInt8) (w : World) (hM0 : Mem w0 ([(900, .many rs), (901, srI b z i)] ++ K) w) :
    Calls Tryz.prog 228 #[ptrH b, str p] w fun e w' => ∃ x : List UInt8 × List UInt8, e = .returned (.tuple #[fltV x.1 x.2, .bool (fhQ (z.ls.drop i) p).isSome]) ∧ (∀ y, fhQ (z.ls.drop i) p = some y → x = y) ∧ Mem w0 ([(900, .many rs), (901, srI b z (okI (fhQ (z.ls.drop i) p) i))] ++ K) w' := by
  have hfew := hz.few
  have hns := nxV_short (p := p) (drop_short (i := i) hz.short)
  refine enterM_args (args := [ptrH b, str p]) (F := _) hM0 Tryz.func228 rfl Tryz.ntmps228 rfl rfl ?_
  intro Rb hRb hRn
  refine tx ?_
  refine S_alloc 4 4 rfl rfl rfl rfl z36 ?_
  intro b4
  refine sr 1 ?_
  refine sgx ?_
  refine sr 2 ?_
  refine S_callM 12 [(900, 900), (901, 901)] (X := Unit) rfl rfl rfl rfl rfl rfl rfl cf231 rfl (fun _ => .tuple #[str (nxV (z.ls.drop i) p), .bool (begL (z.ls.drop i) p)]) (fun _ => True) (fun _ => [(900, .many rs), (901, srI b z (nxI (z.ls.drop i) p i))]) (fun _ => rfl) (fun _ => rfl) (fun K1 hK1 w hM => next_any hK1 b rs z hz i hi p w hM) ?_
  intro _ _
  refine sr 5 ?_
  refine sgs ?_
  refine tx ?_
  refine sr 2 ?_
  refine sgo ?_
  refine T_cond rfl ?_ ?_ <;> intro h16
  · try simp only [nrm] at h16
    have hb : begL (z.ls.drop i) p = false := by simpa using h16
    have he : fhQ (z.ls.drop i) p = none := if_neg (by rw [hb]; decide)
    have hn : nxI (z.ls.drop i) p i = i := if_neg (by rw [hb]; decide)
    refine tx ?_
    refine s1 (y_build (zv := .agg #[.string ⟨#[]⟩, .string ⟨#[]⟩, .slice none 0 0]) (pl := [(0, 1), (1, 1), (2, 1)]) (out := [.string ⟨#[]⟩, .string ⟨#[]⟩, .slice none 0 0]) rfl rfl Tryz.underlying36 z36 (by kernel_rfl) rfl) ?_
    refine S_store 4 rfl rfl rfl rfl rfl rfl sz36 rfl rfl ?_
    refine sr 1 ?_
    refine sgo ?_
    refine T_ret (fun a w hF hM => hRb a w (post_cell 4 rfl rfl rfl rfl Tryz.underlying36 rfl (by exact sz36) (fun w hM => ?_) a w hF hM))
    rw [he, okI_no]
    rw [hn] at hM
    exact ⟨([], []), rfl, fun y hy => (by cases hy), hM.keep (ks := [(0, 999)]) (by repeat (first | exact kl_rest (by assumption) rfl | (apply kl_in; focus rfl))) _ ⟨rfl, rfl, trivial⟩⟩
  try simp only [nrm] at h16
  have hb : begL (z.ls.drop i) p = true := by simpa using h16
  have he : fhQ (z.ls.drop i) p = headQ (nxV (z.ls.drop i) p) := if_pos hb
  have hn : nxI (z.ls.drop i) p i = i + 1 := if_pos hb
  rw [hn]
  refine kgx ?_
  refine sr 1 ?_
  refine s1 (y_call rfl rfl rfl cf274 (fun _ w _ => readHead_any _ (by omega) w)) ?_
  refine sr 3 ?_
  refine S_alloc 8 8 rfl rfl rfl rfl z36 ?_
  intro b8
  refine S_store 8 rfl rfl rfl rfl rfl rfl sz36 rfl rfl ?_
  refine sr 1 ?_
  refine sgs ?_
  refine tx ?_
  refine sr 2 ?_
  refine sgo ?_
  refine T_cond rfl ?_ ?_ <;> intro h24
  · try simp only [nrm] at h24
    have hh : headQ (nxV (z.ls.drop i) p) = none := by simpa using h24
    refine T_region ?_
    refine sr 1 ?_
    refine s1 (y_nilCheck rfl rfl) ?_
    refine s1 (yF fa203_1) ?_
    refine s1 (yL 901 Tryz.underlying3) ?_
    refine s1 (y_bin rfl rfl rfl (fun hg => b_subv ((i : Int)) (by omega) (by omega))) ?_
    refine s1 (y_nilCheck rfl rfl) ?_
    refine s1 (yF fa203_1) ?_
    refine S_store 901 rfl rfl rfl rfl rfl rfl sz3 rfl rfl ?_
    refine sgx ?_
    refine s1 (yA 8 rfl Tryz.underlying36 sz36) ?_
    refine sr 1 ?_
    refine S_store 4 rfl rfl rfl rfl rfl rfl sz36 rfl rfl ?_
    refine sr 1 ?_
    refine sgo ?_
    refine T_ret (fun a w hF hM => hRb a w (post_cell 4 rfl rfl rfl rfl Tryz.underlying36 rfl (by exact sz36) (fun w hM => ?_) a w hF hM))
    rw [he, hh, okI_no]
    exact ⟨_, rfl, fun y hy => (by cases hy), hM.keep (ks := [(0, 999)]) (by repeat (first | exact kl_rest (by assumption) rfl | (apply kl_in; focus rfl))) _ ⟨rfl, rfl, trivial⟩⟩
  try simp only [nrm] at h24
  obtain ⟨y, hh⟩ := Option.isSome_iff_exists.1 (show (headQ (nxV (z.ls.drop i) p)).isSome = true by simpa using h24)
  refine kgx ?_
  refine s1 (yA 8 rfl Tryz.underlying36 sz36) ?_
  refine sr 1 ?_
  refine S_store 4 rfl rfl rfl rfl rfl rfl sz36 rfl rfl ?_
  refine sr 1 ?_
  refine sgo ?_
  refine T_ret (fun a w hF hM => hRb a w (post_cell 4 rfl rfl rfl rfl Tryz.underlying36 rfl (by exact sz36) (fun w hM => ?_) a w hF hM))
  rw [he, hh, okI_yes]
  exact ⟨hdV (nxV (z.ls.drop i) p), rfl, fun y hy => (headQ_hdV hh).trans (Option.some.inj hy), hM.keep (ks := [(0, 999)]) (by repeat (first | exact kl_rest (by assumption) rfl | (apply kl_in; focus rfl))) _ ⟨rfl, rfl, trivial⟩⟩
theorem frame_any {w0 : World} {K : HL} (hK : FromK K) (b : Nat) (rs : List Row) (z : Src) (hz : SrcOk w0 rs z) (i : Nat) (hi : i ≤ z.q) (p : List UInt8) (w : World) (hM0 : Mem w0 ([(900, .many rs), (901, srI b z i)] ++ K) w) :
    Calls Tryz.prog 230 #[ptrH b, str p] w fun e w' => ∃ x : Frm, e = .returned (.tuple #[x.val, .bool (fmQ (z.ls.drop i) p).isSome]) ∧ (∀ y, fmQ (z.ls.drop i) p = some y → x = y) ∧ Mem w0 ([(900, .many rs), (901, srI b z (okI (fmQ (z.ls.drop i) p) i))] ++ K) w' := by
  have hfew := hz.few
  have hns := nxV_short (p := p) (drop_short (i := i) hz.short)
  refine enterM_args (args := [ptrH b, str p]) (F := _) hM0 Tryz.func230 rfl Tryz.ntmps230 rfl rfl ?_
  intro Rb hRb hRn
  refine tx ?_
  refine S_alloc 4 4 rfl rfl rfl rfl z45 ?_
  intro b4
  refine sr 1 ?_
  refine sgx ?_
  refine sr 2 ?_
  refine S_callM 12 [(900, 900), (901, 901)] (X := Unit) rfl rfl rfl rfl rfl rfl rfl cf231 rfl (fun _ => .tuple #[str (nxV (z.ls.drop i) p), .bool (begL (z.ls.drop i) p)]) (fun _ => True) (fun _ => [(900, .many rs), (901, srI b z (nxI (z.ls.drop i) p i))]) (fun _ => rfl) (fun _ => rfl) (fun K1 hK1 w hM => next_any hK1 b rs z hz i hi p w hM) ?_
  intro _ _
  refine sr 5 ?_
  refine sgs ?_
  refine tx ?_
  refine sr 2 ?_
  refine sgo ?_
  refine T_cond rfl ?_ ?_ <;> intro h16
  · try simp only [nrm] at h16
    have hb : begL (z.ls.drop i) p = false := by simpa using h16
    have he : fmQ (z.ls.drop i) p = none := if_neg (by rw [hb]; decide)
    have hn : nxI (z.ls.drop i) p i = i := if_neg (by rw [hb]; decide)
    refine tx ?_
    refine s1 (y_build (zv := .agg #[.string ⟨#[]⟩, .string ⟨#[]⟩, .string ⟨#[]⟩, .int .i64 0, .int .i64 0, .bool false]) (pl := [(0, 1), (1, 1), (2, 1), (3, 1), (4, 1), (5, 1)]) (out := [.string ⟨#[]⟩, .string ⟨#[]⟩, .string ⟨#[]⟩, .int .i64 0, .int .i64 0, .bool false]) rfl rfl Tryz.underlying45 z45 (by kernel_rfl) rfl) ?_
    refine S_store 4 rfl rfl rfl rfl rfl rfl sz45 rfl rfl ?_
    refine sr 1 ?_
    refine sgo ?_
    refine T_ret (fun a w hF hM => hRb a w (post_cell 4 rfl rfl rfl rfl Tryz.underlying45 rfl (by exact sz45) (fun w hM => ?_) a w hF hM))
    rw [he, okI_no]
    rw [hn] at hM
    exact ⟨⟨[], [], [], 0, 0, false⟩, rfl, fun y hy => (by cases hy), hM.keep (ks := [(0, 999)]) (by repeat (first | exact kl_rest (by assumption) rfl | (apply kl_in; focus rfl))) _ ⟨rfl, rfl, trivial⟩⟩
  try simp only [nrm] at h16
  have hb : begL (z.ls.drop i) p = true := by simpa using h16
  have he : fmQ (z.ls.drop i) p = frameQ (nxV (z.ls.drop i) p) := if_pos hb
  have hn : nxI (z.ls.drop i) p i = i + 1 := if_pos hb
  rw [hn]
  refine kgx ?_
  refine sr 1 ?_
  refine S_callM 20 [] (X := Frm) rfl rfl rfl rfl rfl rfl rfl cf275 rfl (fun x => .tuple #[x.val, .bool (frameQ (nxV (z.ls.drop i) p)).isSome]) (fun x => ∀ y, frameQ (nxV (z.ls.drop i) p) = some y → x = y) (fun _ => []) (fun _ => rfl) (fun _ => rfl) (fun K1 hK1 w hM => readFrame_any hK1 _ (by omega) w hM) ?_
  intro x hx
  refine sr 3 ?_
  refine S_alloc 8 8 rfl rfl rfl rfl z45 ?_
  intro b8
  refine S_store 8 rfl rfl rfl rfl rfl rfl sz45 rfl rfl ?_
  refine sr 1 ?_
  refine sgs ?_
  refine tx ?_
  refine sr 2 ?_
  refine sgo ?_
  refine T_cond rfl ?_ ?_ <;> intro h24
  · try simp only [nrm] at h24
    have hh : frameQ (nxV (z.ls.drop i) p) = none := by simpa using h24
    refine T_region ?_
    refine sr 1 ?_
    refine s1 (y_nilCheck rfl rfl) ?_
    refine s1 (yF fa203_1) ?_
    refine s1 (yL 901 Tryz.underlying3) ?_
    refine s1 (y_bin rfl rfl rfl (fun hg => b_subv ((i : Int)) (by omega) (by omega))) ?_
    refine s1 (y_nilCheck rfl rfl) ?_
    refine s1 (yF fa203_1) ?_
    refine S_store 901 rfl rfl rfl rfl rfl rfl sz3 rfl rfl ?_
    refine sgx ?_
    refine s1 (yA 8 rfl Tryz.underlying45 sz45) ?_
    refine sr 1 ?_
    refine S_store 4 rfl rfl rfl rfl rfl rfl sz45 rfl rfl ?_
    refine sr 1 ?_
    refine sgo ?_
    refine T_ret (fun a w hF hM => hRb a w (post_cell 4 rfl rfl rfl rfl Tryz.underlying45 rfl (by exact sz45) (fun w hM => ?_) a w hF hM))
    rw [he, hh, okI_no]
    exact ⟨x, rfl, fun y hy => (by cases hy), hM.keep (ks := [(0, 999)]) (by repeat (first | exact kl_rest (by assumption) rfl | (apply kl_in; focus rfl))) _ ⟨rfl, rfl, trivial⟩⟩
  try simp only [nrm] at h24
  obtain ⟨y, hh⟩ := Option.isSome_iff_exists.1 (show (frameQ (nxV (z.ls.drop i) p)).isSome = true by simpa using h24)
  refine kgx ?_
  refine s1 (yA 8 rfl Tryz.underlying45 sz45) ?_
  refine sr 1 ?_
  refine S_store 4 rfl rfl rfl rfl rfl rfl sz45 rfl rfl ?_
  refine sr 1 ?_
  refine sgo ?_
  refine T_ret (fun a w hF hM => hRb a w (post_cell 4 rfl rfl rfl rfl Tryz.underlying45 rfl (by exact sz45) (fun w hM => ?_) a w hF hM))
  rw [he, hh, okI_yes]
  exact ⟨x, rfl, fun y2 hy => (hx y hh).trans (Option.some.inj hy), hM.keep (ks := [(0, 999)]) (by repeat (first | exact kl_rest (by assumption) rfl | (apply kl_in; focus rfl))) _ ⟨rfl, rfl, trivial⟩⟩
/-! ### The lines of a text; what stands behind the last line feed -/
def lsQ (s : List UInt8) : List (List UInt8) := (splitC 10 s).take ((splitC 10 s).length - 1)
def tlQ (s : List UInt8) : List UInt8 := (splitC 10 s).getD ((splitC 10 s).length - 1) []
structure NwR where
  b : Nat
  r : Row
  z : Src
theorem lsQ_len (s : List UInt8) : (lsQ s).length = (splitC 10 s).length - 1 := by rw [lsQ, List.length_take]; omega
theorem count_le (c : UInt8) (s : List UInt8) : s.count c ≤ s.length := List.count_le_length ..
set_option maxHeartbeats 1600000 in
theorem newSource_any {w0 : World} {K : HL} (hK : FromK K) (s : List UInt8) (hs : s.length ≤ 1000000) (w : World) (hM0 : Mem w0 ([] ++ K) w) :
    Calls Tryz.prog 174 #[str s] w fun e w' => ∃ x : NwR, e = .returned (ptrH x.b) ∧ (SrcOk w0 [x.r] x.z ∧ x.z.ls = lsQ s ∧ x.z.tl = tlQ s) ∧ Mem w0 ([(900, .many [x.r]), (18, srI x.b x.z 0)] ++ K) w' := by
  have h0 := split_ne 10 s
  have hsh : ∀ x ∈ splitC 10 s, x.length ≤ 1000000 := fun x hx => by have := split_short hx; omega
  have hn : (splitC 10 s).length ≤ 1000001 := by have := count_le 10 s; rw [splitC_len]; omega
  refine enterM_args (args := [str s]) (F := _) hM0 Tryz.func174 rfl Tryz.ntmps174 rfl rfl ?_
  intro Rb hRb hRn
  refine tx ?_
  refine sr 1 ?_
  refine sgx ?_
  refine sr 1 ?_
  refine S_callOwn 5 5 rfl rfl rfl rfl rfl rfl rfl cf135 (fun A c => .slice A ((splitC 10 s).length) c) 9 1 ((splitC 10 s).length) ((splitC 10 s).flatMap strE) (fun w hM => Split1_any s 10 (by omega) w) ?_
  intro A5 c5
  refine S_known (p := (splitC 10 s).length ≤ c5) (fun w hM => (row_ok (enc := strE) (hM.sat 5 _ rfl) rfl).cap) fun hc5 => ?_
  refine sr 1 ?_
  refine sgs ?_
  refine T_drawsTail 12 (by kernel_rfl) (by kernel_rfl) ?_
  refine d1 (y_move rfl rfl) ?_
  refine d1 (y_move rfl rfl) ?_
  refine d1 (y_len_slice rfl rfl Tryz.underlying53) ?_
  refine d1 (y_bin rfl rfl rfl (fun hg => b_subv ((((splitC 10 s).length - 1 : Nat) : Int)) (by omega) (by omega))) ?_
  refine d1 (y_slice rfl rfl Tryz.underlying53 sz9 (.inl ⟨rfl, rfl⟩) (.inr ⟨_, _, rfl, rfl⟩) (by omega) (by omega) (by omega)) ?_
  refine d1 (y_move rfl rfl) ?_
  refine d1 (y_move rfl rfl) ?_
  refine d1 (y_len_slice rfl rfl Tryz.underlying53) ?_
  refine d1 (y_bin rfl rfl rfl (fun hg => b_subv ((((splitC 10 s).length - 1 : Nat) : Int)) (by omega) (by omega))) ?_
  refine d1 (y_indexOwn 5 rfl rfl rfl rfl Tryz.underlying53 sz9 (fun _ => by omega)) ?_
  refine d1 (y_loadO1 5 (val := (fun l : List UInt8 => str l)) rfl rfl rfl rfl (fun _ => getD_at (by omega)) Tryz.underlying9 rfl) ?_
  refine d1 (y_build (zv := .agg #[.slice none 0 0, .int .i64 0, .string ⟨#[]⟩]) (pl := [(0, 1), (1, 1), (2, 1)]) (out := [_, .int .i64 0, _]) rfl rfl Tryz.underlying203 z203 (by kernel_rfl) rfl) ?_
  refine D_tail ?_
  refine S_box 18 18 rfl rfl rfl rfl rfl ?_
  intro b18
  refine sr 1 ?_
  refine sgo ?_
  refine tr1 hRb fun w hM => ?_
  have hM := (hM.many0 900).bankK (ks := [(5, 5), (900, 900)]) (m := 900) (i := 5) rfl rfl rfl (by repeat (first | exact kl_nil | exact kl_rest (by assumption) rfl | (apply kl_in; focus rfl) | (apply kl_out; focus rfl))) rfl
  refine ⟨⟨b18, ⟨9, 1, .slice A5 (splitC 10 s).length c5, (splitC 10 s).length, (splitC 10 s).flatMap strE⟩, ⟨if c5 = 0 then A5 else A5.map (·.add (0 * 1)), (splitC 10 s).length - 1 - 0, c5 - 0, lsQ s, tlQ s⟩⟩, rfl, ⟨⟨fun w hb hr => ?_, fun x hx => hsh x (List.mem_of_mem_take hx), lsQ_len s, by show (splitC 10 s).length - 1 - 0 ≤ _; omega, hsh _ (List.mem_of_getElem? (getD_at (by omega)))⟩, rfl, rfl⟩, hM.keep (ks := [(0, 999)]) (by repeat (first | exact kl_rest (by assumption) rfl | (apply kl_in; focus rfl))) _ ⟨rfl, rfl, trivial⟩⟩
  have h1 := (row_ok (enc := strE) (hr _ (List.mem_singleton.2 rfl)) rfl).t.cut (lo := 0) (hi := (splitC 10 s).length - 1) (c := c5) (fun _ => rfl) (by omega) (by show _ ≤ (splitC 10 s).length; omega) hc5
  exact h1
end Go.Proofs.YtgbldojgbpgjbaaGreatDoor
end
section
namespace Go.Proofs.YtgbldojgbpgjbaaGreatDoor
set_option linter.unusedSimpArgs false
set_option linter.unusedVariables false
set_option maxRecDepth 20000
open Go.RowKit Go.Eng
def frm0 : Frm := ⟨[], [], [], 0, 0, false⟩
theorem rev_drop {α : Type} (d : α) {l : List α} {n : Nat} (h : n < l.length) : l.reverse.drop n = l.getD (l.length - 1 - n) d :: l.reverse.drop (n + 1) := by
  rw [List.drop_eq_getElem_cons (by rw [List.length_reverse]; exact h), List.getElem_reverse]
  congr 1
  simp [List.getD, show l.length - 1 - n < l.length by omega]
theorem getF_at {l : List Frm} {i : Nat} (h : i < l.length) : l[i]? = some (l.getD i frm0) := by simp [List.getD, h]
theorem shL_nil {a : List Frm} : ∀ {b : List Frm}, a = [] ∨ b = [] → shL a b = 0
  | b, .inl h => by subst h; rfl
  | b, .inr h => by subst h; cases a <;> rfl
theorem shL_le : ∀ a b : List Frm, shL a b ≤ a.length ∧ shL a b ≤ b.length
  | [], b => ⟨Nat.zero_le _, Nat.zero_le _⟩
  | x :: a, [] => ⟨Nat.zero_le _, Nat.zero_le _⟩
  | x :: a, y :: b => by
    rw [shL]
    have := shL_le a b
    split <;> simp <;> omega
theorem shQ_le (a b : List Frm) : shQ a b ≤ a.length ∧ shQ a b ≤ b.length := by
  have := shL_le a.reverse b.reverse
  rw [List.length_reverse, List.length_reverse] at this
  exact this
theorem shR_step {l m : List Frm} {n : Nat} (h1 : n < l.length) (h2 : n < m.length) (h : Frm.eqB (l.getD (l.length - 1 - n) frm0) (m.getD (m.length - 1 - n) frm0) = true) : shL (l.reverse.drop n) (m.reverse.drop n) = shL (l.reverse.drop (n + 1)) (m.reverse.drop (n + 1)) + 1 := by
  rw [rev_drop frm0 h1, rev_drop frm0 h2, shL, if_pos h]
theorem shR_stop {l m : List Frm} {n : Nat} (h : n < l.length → n < m.length → Frm.eqB (l.getD (l.length - 1 - n) frm0) (m.getD (m.length - 1 - n) frm0) = false) : shL (l.reverse.drop n) (m.reverse.drop n) = 0 := by
  by_cases h1 : n < l.length
  · by_cases h2 : n < m.length
    · rw [rev_drop frm0 h1, rev_drop frm0 h2, shL, if_neg (by rw [h h1 h2]; decide)]
    · exact shL_nil (.inr (List.drop_eq_nil_of_le (by rw [List.length_reverse]; omega)))
  · exact shL_nil (.inl (List.drop_eq_nil_of_le (by rw [List.length_reverse]; omega)))
theorem Shared_any (A B : Option Addr) (q c p d : Nat) (l m : List Frm) (w : World) (hl : SlT Frm.enc 6 w A q l) (hm : SlT Frm.enc 6 w B p m) (hq : q ≤ 4000000) (hp : p ≤ 4000000) :
    Calls Tryz.prog 164 #[.slice A q c, .slice B p d] w fun e w' => e = .returned (.int .i64 ((shQ l m : Nat) : Int)) ∧ Below w.heap.size w w' := by
  have hlen := hl.len
  have hmen := hm.len
  refine enter_args (args := [.slice A q c, .slice B p d]) (F := _) Tryz.func164 rfl Tryz.ntmps164 rfl rfl ?_
  intro Rb hRb hRn
  refine tx ?_
  refine sr 1 ?_
  refine sgx ?_
  refine sr 1 ?_
  refine sgs ?_
  refine T_block ?_
  refine lK1 (kf := [(5, 36)]) (kl := [(5, 36)]) (fun (n : Nat) => [(5, true, .int .i64 (n : Int))]) (fun (n : Nat) => []) (fun (n : Nat) => n ≤ q ∧ n ≤ p ∧ shQ l m = shL (l.reverse.drop n) (m.reverse.drop n) + n) (fun (n : Nat) => q - n) 0 ?_ ?_ ?_ ?_
  · exact ⟨by omega, by omega, rfl⟩
  · exact ⟨rfl, trivial⟩
  · exact trivial
  rintro n ⟨hp1, hp2, hp3⟩
  refine T_seq ?_
  refine T_seq ?_
  refine T_draws (by kernel_rfl) (by kernel_rfl) ?_
  refine d1 (y_move rfl rfl) ?_
  refine d1 (y_move rfl rfl) ?_
  refine d1 (y_len_slice rfl rfl Tryz.underlying32) ?_
  refine d1 (y_bin rfl rfl rfl (fun _ => b_lss)) ?_
  refine d1 (y_move rfl rfl) ?_
  refine dg rfl (y_move rfl rfl) ?_
  refine dg rfl (y_move rfl rfl) ?_
  refine dg rfl (y_len_slice rfl rfl Tryz.underlying32) ?_
  refine dg rfl (y_bin rfl rfl rfl (fun _ => b_lss)) ?_
  refine d1 (y_and rfl rfl rfl) ?_
  refine d1 (y_move rfl rfl) ?_
  refine dg rfl (y_move rfl rfl) ?_
  refine dg rfl (y_move rfl rfl) ?_
  refine dg rfl (y_len_slice rfl rfl Tryz.underlying32) ?_
  refine dg rfl (y_bin rfl rfl rfl (fun hg => b_sub (by simp only [Bool.true_and, Bool.and_eq_true, beq_iff_eq, decide_eq_true_eq, decide_eq_false_iff_not, Int.not_lt, Int.not_le] at hg; omega))) ?_
  refine dg rfl (y_move rfl rfl) ?_
  refine dg rfl (y_bin rfl rfl rfl (fun hg => b_sub (by simp only [Bool.true_and, Bool.and_eq_true, beq_iff_eq, decide_eq_true_eq, decide_eq_false_iff_not, Int.not_lt, Int.not_le] at hg; omega))) ?_
  refine dg rfl (y_indexAddrI (j := (q - 1 - n)) rfl rfl rfl ((fun hg => by simp only [Bool.true_and, Bool.and_eq_true, beq_iff_eq, decide_eq_true_eq, decide_eq_false_iff_not, Int.not_lt, Int.not_le] at hg; omega)) Tryz.underlying32 sz45 (fun hg => hl.isSome (by simp only [Bool.true_and, Bool.and_eq_true, beq_iff_eq, decide_eq_true_eq, decide_eq_false_iff_not, Int.not_lt, Int.not_le] at hg; omega)) (fun hg => by simp only [Bool.true_and, Bool.and_eq_true, beq_iff_eq, decide_eq_true_eq, decide_eq_false_iff_not, Int.not_lt, Int.not_le] at hg; omega)) ?_
  refine dg rfl (y_loadT rfl rfl hl (fun _ => rfl) (fun hg => getF_at (by simp only [Bool.true_and, Bool.and_eq_true, beq_iff_eq, decide_eq_true_eq, decide_eq_false_iff_not, Int.not_lt, Int.not_le] at hg; omega)) Tryz.underlying45 rfl sz45) ?_
  refine dg rfl (y_move rfl rfl) ?_
  refine dg rfl (y_move rfl rfl) ?_
  refine dg rfl (y_len_slice rfl rfl Tryz.underlying32) ?_
  refine dg rfl (y_bin rfl rfl rfl (fun hg => b_sub (by simp only [Bool.true_and, Bool.and_eq_true, beq_iff_eq, decide_eq_true_eq, decide_eq_false_iff_not, Int.not_lt, Int.not_le] at hg; omega))) ?_
  refine dg rfl (y_move rfl rfl) ?_
  refine dg rfl (y_bin rfl rfl rfl (fun hg => b_sub (by simp only [Bool.true_and, Bool.and_eq_true, beq_iff_eq, decide_eq_true_eq, decide_eq_false_iff_not, Int.not_lt, Int.not_le] at hg; omega))) ?_
  refine dg rfl (y_indexAddrI (j := (p - 1 - n)) rfl rfl rfl ((fun hg => by simp only [Bool.true_and, Bool.and_eq_true, beq_iff_eq, decide_eq_true_eq, decide_eq_false_iff_not, Int.not_lt, Int.not_le] at hg; omega)) Tryz.underlying32 sz45 (fun hg => hm.isSome (by simp only [Bool.true_and, Bool.and_eq_true, beq_iff_eq, decide_eq_true_eq, decide_eq_false_iff_not, Int.not_lt, Int.not_le] at hg; omega)) (fun hg => by simp only [Bool.true_and, Bool.and_eq_true, beq_iff_eq, decide_eq_true_eq, decide_eq_false_iff_not, Int.not_lt, Int.not_le] at hg; omega)) ?_
  refine dg rfl (y_loadT rfl rfl hm (fun _ => rfl) (fun hg => getF_at (by simp only [Bool.true_and, Bool.and_eq_true, beq_iff_eq, decide_eq_true_eq, decide_eq_false_iff_not, Int.not_lt, Int.not_le] at hg; omega)) Tryz.underlying45 rfl sz45) ?_
  refine dg rfl (y_as (v' := .bool (Frm.eqB (l.getD (q - 1 - n) frm0) (m.getD (p - 1 - n) frm0))) (by simp [Frm.eqB, str]) (y_bin rfl rfl rfl (fun _ => b_eqlA (rs := [_, _, _, _, _, _]) Tryz.underlying45 (by kernel_rfl) (by kernel_rfl) ⟨by decide, ⟨_, Tryz.underlying9, rfl, _, _, rfl, rfl, rfl⟩, by decide, ⟨_, Tryz.underlying9, rfl, _, _, rfl, rfl, rfl⟩, by decide, ⟨_, Tryz.underlying9, rfl, _, _, rfl, rfl, rfl⟩, by decide, ⟨_, Tryz.underlying3, rfl, _, _, rfl, rfl, rfl⟩, by decide, ⟨_, Tryz.underlying3, rfl, _, _, rfl, rfl, rfl⟩, by decide, ⟨_, Tryz.underlying4, rfl, _, _, rfl, rfl, rfl⟩, trivial⟩))) ?_
  refine d1 (y_and rfl rfl rfl) ?_
  refine dgo ?_
  refine T_cond rfl ?_ ?_ <;> intro h34
  · try simp only [nrm] at h34
    subst hlen hmen
    have hst := shR_step (l := l) (m := m) (n := n) (by omega) (by omega) h34.2
    refine kgo ?_
    refine T_block ?_
    refine T_region ?_
    refine sr 1 ?_
    refine s1 (y_bin rfl rfl rfl (fun hg => b_add (by omega))) ?_
    refine sr 1 ?_
    refine S_nil (nK1 (kf := [(5, 36)]) (kl := [(5, 36)]) (n + 1) ?_ ?_ ?_ ?_)
    · omega
    · exact ⟨by omega, by omega, by rw [hp3, hst]; omega⟩
    · exact ⟨rfl, trivial⟩
    · exact trivial
  try simp only [nrm] at h34
  subst hlen hmen
  have hst := shR_stop (l := l) (m := m) (n := n) fun h1 h2 => h34.resolve_left (by omega)
  refine egx ?_
  refine sr 2 ?_
  refine sgo ?_
  refine tr1 hRb fun w hM => ?_
  have he : shQ l m = n := by rw [hp3, hst, Nat.zero_add]
  rw [he]
  exact ⟨rfl, hM.below⟩
/-! ### The faults before -/
theorem T_knownP {P : Program} {w0 : World} {n : Nat} {c : Code} {F : FL} {L : HL} {Q : Exit → Act → World → Prop} {p : Prop} (hp : ∀ w, Mem w0 L w → p) (h : p → T P w0 n c F L Q) : T P w0 n c F L Q := fun a w hF hM => h (hp w hM) a w hF hM
def pfl (f : Flt) : PFl := ⟨f.k, f.t, f.fr.l⟩
structure FlR (w : World) (f : Flt) : Prop where
  ok : f.fr.Ok Frm.enc 6 w
  few : f.fr.q ≤ 2000000
theorem last_at {l : List Flt} (h : 0 < l.length) : ∃ x, l[l.length - 1]? = some x ∧ x ∈ l ∧ lastF (l.map pfl) = x.fr.l := by
  have hx : l[l.length - 1]? = some (l[l.length - 1]'(by omega)) := by simp [h]
  refine ⟨_, hx, List.mem_of_getElem? hx, ?_⟩
  rw [lastF, List.getLast?_map, List.getLast?_eq_getElem?, hx]; rfl
theorem map_nil_iff {l : List Flt} : l.map pfl = [] ↔ l.length = 0 := by rw [List.map_eq_nil_iff, List.length_eq_zero_iff]
structure ShR where
  A : Option Addr
  c : Nat
  fr : List Frm
abbrev flB (b : Nat) (k t : List UInt8) (A : Option Addr) (c : Nat) (fr : List Frm) : It := .blk b (IsBox [str k, str t, .slice A fr.length c] 36)
abbrev frI (A : Option Addr) (c : Nat) (fr : List Frm) : It := .own 45 6 (.slice A fr.length c) fr.length (fr.flatMap Frm.enc)
abbrev flI (A : Option Addr) (c : Nat) (l : List Flt) : It := .own 36 3 (.slice A l.length c) l.length (l.flatMap Flt.enc)
theorem joinF_no {b : List PFl} {fr : List Frm} {n : Nat} (h : b = [] ∨ n < 2 ∨ (lastF b).length < n) : joinF b fr n = none := if_pos h
theorem joinF_go {b : List PFl} {fr : List Frm} {n : Nat} (h1 : b ≠ []) (h2 : ¬ n < 2) (h3 : ¬ (lastF b).length < n) : joinF b fr n = if shQ (lastF b) (fr ++ (lastF b).drop ((lastF b).length - n)) = n then some (fr ++ (lastF b).drop ((lastF b).length - n)) else none :=
  if_neg (by rintro (h | h | h); exact h1 h; exact h2 h; exact h3 h)
set_option maxHeartbeats 1600000 in
theorem sharesD_any {w0 : World} {K : HL} (hK : FromK K) (rs : List Row) (A : Option Addr) (c : Nat) (l : List Flt) (hl : l.length ≤ 2000000) (hf : ∀ f ∈ l, Sees w0 rs fun w => FlR w f) (b : Nat) (k t : List UInt8) (B : Option Addr) (d : Nat) (fr : List Frm) (hfr : fr.length ≤ 1000000) (fi : Int) (n i : Nat) (hn : n ≤ 999) (hi : i ≤ 1000001)
    (w : World) (hM0 : Mem w0 ([(900, .many rs), (904, flI A c l), (906, flB b k t B d fr), (951, frI B d fr)] ++ K) w) :
    Calls Tryz.prog 233 #[.slice A l.length c, ptrH b, .int .i64 fi, .int .i64 (n : Int), .int .i64 (i : Int)] w fun e w' => ∃ x : ShR, e = .returned (.int .i64 (if (joinF (l.map pfl) fr n).isSome = true then 0 else (i : Int))) ∧ (∀ y, joinF (l.map pfl) fr n = some y → x.fr = y) ∧
      Mem w0 ([(900, .many rs), (904, flI A c l), (906, flB b k t x.A x.c x.fr), (951, frI x.A x.c x.fr)] ++ K) w' := by
  refine enterM_args (args := [.slice A l.length c, ptrH b, .int .i64 fi, .int .i64 (n : Int), .int .i64 (i : Int)]) (F := _) hM0 Tryz.func233 rfl Tryz.ntmps233 rfl rfl ?_
  intro Rb hRb hRn
  refine tx ?_
  refine sr 1 ?_
  refine sgs ?_
  refine tx ?_
  refine sr 2 ?_
  refine sgo ?_
  refine T_cond rfl ?_ ?_ <;> intro h14
  · skip
    refine T_seq ?_
    refine tx ?_
    refine sr 1 ?_
    refine s1 (y_len_slice rfl rfl Tryz.underlying22) ?_
    refine sr 2 ?_
    refine sg rfl (y_move rfl rfl) ?_
    refine sg rfl (y_bin rfl rfl rfl (fun _ => b_lss)) ?_
    refine s1 (y_or rfl rfl rfl) ?_
    refine sgo ?_
    refine T_cond rfl ?_ ?_ <;> intro h21
    · try simp only [nrm] at h21
      have hno : joinF (l.map pfl) fr n = none := joinF_no (by rcases h21 with h | h; exact .inl (map_nil_iff.2 (by omega)); exact .inr (.inl (by omega)))
      refine tx ?_
      refine sr 2 ?_
      refine sgo ?_
      refine tr1 hRb fun w hM => ?_
      rw [hno]
      exact ⟨⟨B, d, fr⟩, rfl, fun y hy => (by cases hy), hM.keep (ks := [(0, 999)]) (by repeat (first | exact kl_rest (by assumption) rfl | (apply kl_in; focus rfl))) _ ⟨rfl, rfl, rfl, rfl, trivial⟩⟩
    try simp only [nrm] at h21
    obtain ⟨x, hx1, hx2, hx3⟩ := last_at (l := l) (by omega)
    refine T_knownP (p := x.fr.l.length = x.fr.q ∧ x.fr.q ≤ x.fr.c ∧ x.fr.q ≤ 2000000) (fun w hM => ⟨((hf x hx2).at hM 900 rfl).ok.t.len, ((hf x hx2).at hM 900 rfl).ok.cap, ((hf x hx2).at hM 900 rfl).few⟩) fun hxp => ?_
    obtain ⟨hxl, hxc, hxf⟩ := hxp
    refine kgx ?_
    refine sr 2 ?_
    refine s1 (y_len_slice rfl rfl Tryz.underlying22) ?_
    refine s1 (y_bin rfl rfl rfl (fun hg => b_sub (by omega))) ?_
    refine s1 (y_indexOwnI (j := (l.length - 1)) 904 rfl rfl rfl (fun _ => by omega) rfl Tryz.underlying22 sz36 (fun _ => by omega)) ?_
    refine s1 (y_fieldOwn 904 rfl rfl rfl (fun _ => by omega) fa36_2) ?_
    refine s1 (y_load_cellOwn 904 rfl rfl rfl (fun _ => by omega) (fun _ => flat_at (enc := Flt.enc) (size := 3) (fun _ => rfl) hx1 2 (.slice x.fr.A x.fr.q x.fr.c) rfl) Tryz.underlying32 rfl) ?_
    refine sr 1 ?_
    refine sgs ?_
    refine tx ?_
    refine sr 1 ?_
    refine s1 (y_len_slice rfl rfl Tryz.underlying32) ?_
    refine sr 2 ?_
    refine sgo ?_
    refine T_cond rfl ?_ ?_ <;> intro h33
    · try simp only [nrm] at h33
      have hno : joinF (l.map pfl) fr n = none := joinF_no (.inr (.inr (by rw [hx3, hxl]; omega)))
      refine tx ?_
      refine sr 2 ?_
      refine sgo ?_
      refine tr1 hRb fun w hM => ?_
      rw [hno]
      exact ⟨⟨B, d, fr⟩, rfl, fun y hy => (by cases hy), hM.keep (ks := [(0, 999)]) (by repeat (first | exact kl_rest (by assumption) rfl | (apply kl_in; focus rfl))) _ ⟨rfl, rfl, rfl, rfl, trivial⟩⟩
    try simp only [nrm] at h33
    have hgo := joinF_go (b := l.map pfl) (fr := fr) (n := n) (fun e => by have := map_nil_iff.1 e; omega) (by omega) (by rw [hx3, hxl]; omega)
    rw [hx3, hxl] at hgo
    refine kgs ?_
    refine T_perm [0, 1, 2, 3, 4, 5, 6, 7, 8, 9, 10, 11, 12, 13, 14] [true, true, true, true, true, true, true, true, true, true, true, false, true, true, false] [0, 0, 2, 6, 14, 0, 0, 64, 0, 448, 992, 2046, 4095, 8191, 16383] [(4, [906])] (by kernel_rfl) (by kernel_rfl) (by kernel_rfl) rfl (by kernel_rfl) ?_
    refine Rf_ 0 35 rfl rfl rfl rfl rfl _ trivial (Y.z (y_move rfl rfl) rfl) ?_
    refine Rf_ 1 36 rfl rfl rfl rfl rfl _ trivial (Y.z (y_move rfl rfl) rfl) ?_
    refine Rf_ 2 37 rfl rfl rfl rfl rfl _ trivial (Z.of (z_nilCheck rfl rfl)) ?_
    refine Rf_ 3 38 rfl rfl rfl rfl rfl _ trivial (Y.z (yF fa36_2) rfl) ?_
    refine Rf_ 4 39 rfl rfl rfl rfl rfl _ ⟨rfl, trivial⟩ (Y.z (yL 906 Tryz.underlying32) rfl) ?_
    refine Rf_ 5 40 rfl rfl rfl rfl rfl _ trivial (Y.z (y_move rfl rfl) rfl) ?_
    refine Rf_ 6 41 rfl rfl rfl rfl rfl _ trivial (Y.z (y_move rfl rfl) rfl) ?_
    refine Rf_ 7 42 rfl rfl rfl rfl rfl _ trivial (Z.of (z_len rfl rfl Tryz.underlying32)) ?_
    refine Rf_ 8 43 rfl rfl rfl rfl rfl _ trivial (Y.z (y_move rfl rfl) rfl) ?_
    refine Rf_ 9 44 rfl rfl rfl rfl rfl _ trivial (Y.z (y_bin rfl rfl rfl (fun hg => b_subv (((x.fr.q - n : Nat) : Int)) (by omega) (by omega))) rfl) ?_
    refine Rf_ 10 45 rfl rfl rfl rfl rfl _ trivial (Y.z (y_slice rfl rfl Tryz.underlying32 sz45 (.inr ⟨_, _, rfl, rfl⟩) (.inl ⟨rfl, rfl⟩) (by omega) (by omega) (by omega)) rfl) ?_
    refine R_chain 11 rfl rfl ?_
    obtain ⟨i46, hi46, hz46, hs46, hy46⟩ := info_parts inf45
    refine S_appendG 46 951 (news := ((x.fr.l.drop (x.fr.q - n)).take (x.fr.q - (x.fr.q - n))).flatMap Frm.enc) rfl rfl rfl rfl rfl rfl rfl (fun w hM => (((hf x hx2).at hM 900 rfl).ok.t.cut (lo := x.fr.q - n) (hi := x.fr.q) (c := x.fr.c) (fun _ => rfl) (by omega) (Nat.le_refl _) hxc).rd) Tryz.underlying32 hi46 hz46 hs46 hy46 rfl (by decide) (allOne_of (fun u hu => by obtain ⟨a, _, ha⟩ := List.mem_flatMap.1 hu; simp [Frm.enc] at ha; rcases ha with rfl | rfl | rfl | rfl | rfl | rfl <;> rfl)) ?_ ?_ ((fr ++ x.fr.l.drop (x.fr.q - n)).length) ((fr ++ x.fr.l.drop (x.fr.q - n)).flatMap Frm.enc) ?_ ?_ ?_
    · (simp only [maxLen]; omega)
    · omega
    · rw [List.length_append, List.length_drop, hxl]
    · rw [List.flatMap_append, List.take_of_length_le (by rw [List.length_drop, hxl]; omega)]
    intro A46 c46
    refine R_next ⟨.inl rfl, trivial⟩ ?_
    refine Rf_ 12 47 rfl rfl rfl rfl rfl _ trivial (Z.of (z_nilCheck rfl rfl)) ?_
    refine Rf_ 13 48 rfl rfl rfl rfl rfl _ trivial (Y.z (yF fa36_2) rfl) ?_
    refine R_chain 14 rfl rfl ?_
    refine S_store 906 rfl rfl rfl rfl rfl rfl sz32 rfl rfl ?_
    refine R_next ⟨.inl rfl, trivial⟩ ?_
    refine R_go (fun _ _ h => h) ?_
    refine T_seq ?_
    refine tx ?_
    refine sr 2 ?_
    refine s1 (y_nilCheck rfl rfl) ?_
    refine s1 (yF fa36_2) ?_
    refine s1 (yL 906 Tryz.underlying32) ?_
    refine s1 (y_call rfl rfl rfl cf164 (fun _ w hM => Shared_any _ _ _ _ _ _ _ _ w ((hf x hx2).at hM 900 rfl).ok.t (owned_T (enc := Frm.enc) hM rfl (i := 951) rfl) (by omega) (by rw [List.length_append, List.length_drop]; omega))) ?_
    refine sr 2 ?_
    refine sgo ?_
    refine T_cond rfl ?_ ?_ <;> intro h56
    · try simp only [nrm] at h56
      rw [if_neg (by omega)] at hgo
      refine tx ?_
      refine sr 2 ?_
      refine sgo ?_
      refine tr1 hRb fun w hM => ?_
      rw [hgo]
      exact ⟨⟨A46, c46, fr ++ x.fr.l.drop (x.fr.q - n)⟩, rfl, fun y hy => (by cases hy), hM.keep (ks := [(0, 999)]) (by repeat (first | exact kl_rest (by assumption) rfl | (apply kl_in; focus rfl))) _ ⟨rfl, rfl, rfl, rfl, trivial⟩⟩
    try simp only [nrm] at h56
    rw [if_pos (by omega)] at hgo
    refine kgx ?_
    refine sr 1 ?_
    refine sgo ?_
    refine tr1 hRb fun w hM => ?_
    rw [hgo]
    exact ⟨⟨A46, c46, fr ++ x.fr.l.drop (x.fr.q - n)⟩, rfl, fun y hy => Option.some.inj hy, hM.keep (ks := [(0, 999)]) (by repeat (first | exact kl_rest (by assumption) rfl | (apply kl_in; focus rfl))) _ ⟨rfl, rfl, rfl, rfl, trivial⟩⟩
  simp at h14
theorem sharesN_any {w0 : World} {K : HL} (hK : FromK K) (rs : List Row) (A : Option Addr) (c : Nat) (l : List Flt) (hl : l.length ≤ 2000000) (hf : ∀ f ∈ l, Sees w0 rs fun w => FlR w f) (b : Nat) (k t : List UInt8) (B : Option Addr) (d : Nat) (fr : List Frm) (hfr : fr.length ≤ 1000000) (fi : Nat) (hfi : fi ≤ 1000002) (i : Int)
    (w : World) (hM0 : Mem w0 ([(900, .many rs), (904, flI A c l), (906, flB b k t B d fr), (951, frI B d fr)] ++ K) w) :
    Calls Tryz.prog 233 #[.slice A l.length c, ptrH b, .int .i64 (fi : Int), .int .i64 (-1), .int .i64 i] w fun e w' => ∃ x : Unit, e = .returned (.int .i64 (if l.map pfl ≠ [] ∧ 2 ≤ shQ (lastF (l.map pfl)) fr then ((fi + fr.length - shQ (lastF (l.map pfl)) fr : Nat) : Int) else 0)) ∧ True ∧
      Mem w0 ([(900, .many rs), (904, flI A c l), (906, flB b k t B d fr), (951, frI B d fr)] ++ K) w' := by
  have hsl := shQ_le (lastF (l.map pfl)) fr
  refine enterM_args (args := [.slice A l.length c, ptrH b, .int .i64 (fi : Int), .int .i64 (-1), .int .i64 i]) (F := _) hM0 Tryz.func233 rfl Tryz.ntmps233 rfl rfl ?_
  intro Rb hRb hRn
  refine tx ?_
  refine sr 1 ?_
  refine sgs ?_
  refine tx ?_
  refine sr 2 ?_
  refine sgo ?_
  refine T_cond rfl ?_ ?_ <;> intro h14
  · skip
    simp at h14
  refine kgs ?_
  refine tx ?_
  refine sr 1 ?_
  refine s1 (y_len_slice rfl rfl Tryz.underlying22) ?_
  refine sr 1 ?_
  refine sgo ?_
  refine T_cond rfl ?_ ?_ <;> intro h60
  · try simp only [nrm] at h60
    have hno : ¬ (l.map pfl ≠ [] ∧ 2 ≤ shQ (lastF (l.map pfl)) fr) := fun h => h.1 (map_nil_iff.2 (by omega))
    refine tx ?_
    refine sr 1 ?_
    refine sgo ?_
    refine tr1 hRb fun w hM => ?_
    rw [if_neg hno]
    exact ⟨(), rfl, trivial, hM.keep (ks := [(0, 999)]) (by repeat (first | exact kl_rest (by assumption) rfl | (apply kl_in; focus rfl))) _ ⟨rfl, rfl, rfl, rfl, trivial⟩⟩
  try simp only [nrm] at h60
  obtain ⟨x, hx1, hx2, hx3⟩ := last_at (l := l) (by omega)
  rw [hx3] at hsl
  have hne : l.map pfl ≠ [] := fun e => by have := map_nil_iff.1 e; omega
  refine T_knownP (p := x.fr.l.length = x.fr.q ∧ x.fr.q ≤ x.fr.c ∧ x.fr.q ≤ 2000000) (fun w hM => ⟨((hf x hx2).at hM 900 rfl).ok.t.len, ((hf x hx2).at hM 900 rfl).ok.cap, ((hf x hx2).at hM 900 rfl).few⟩) fun hxp => ?_
  obtain ⟨hxl, hxc, hxf⟩ := hxp
  refine kgs ?_
  refine T_seq ?_
  refine T_draws (by kernel_rfl) (by kernel_rfl) ?_
  refine d1 (y_move rfl rfl) ?_
  refine d1 (y_move rfl rfl) ?_
  refine d1 (y_len_slice rfl rfl Tryz.underlying22) ?_
  refine d1 (y_bin rfl rfl rfl (fun hg => b_sub (by omega))) ?_
  refine d1 (y_indexOwnI (j := (l.length - 1)) 904 rfl rfl rfl (fun _ => by omega) rfl Tryz.underlying22 sz36 (fun _ => by omega)) ?_
  refine d1 (y_fieldOwn 904 rfl rfl rfl (fun _ => by omega) fa36_2) ?_
  refine d1 (y_load_cellOwn 904 rfl rfl rfl (fun _ => by omega) (fun _ => flat_at (enc := Flt.enc) (size := 3) (fun _ => rfl) hx1 2 (.slice x.fr.A x.fr.q x.fr.c) rfl) Tryz.underlying32 rfl) ?_
  refine d1 (y_move rfl rfl) ?_
  refine d1 (y_nilCheck rfl rfl) ?_
  refine d1 (yF fa36_2) ?_
  refine d1 (yL 906 Tryz.underlying32) ?_
  refine d1 (y_call rfl rfl rfl cf164 (fun _ w hM => Shared_any _ _ _ _ _ _ _ _ w ((hf x hx2).at hM 900 rfl).ok.t (owned_T (enc := Frm.enc) hM rfl (i := 951) rfl) (by omega) (by omega))) ?_
  refine d1 (y_assign rfl rfl) ?_
  refine dgx ?_
  refine sr 2 ?_
  refine sgo ?_
  refine T_cond rfl ?_ ?_ <;> intro h74
  · try simp only [nrm] at h74
    refine tx ?_
    refine sr 2 ?_
    refine s1 (y_nilCheck rfl rfl) ?_
    refine s1 (yF fa36_2) ?_
    refine s1 (yL 906 Tryz.underlying32) ?_
    refine s1 (y_len_slice rfl rfl Tryz.underlying32) ?_
    refine s1 (y_bin rfl rfl rfl (fun hg => b_addv (((fi + fr.length : Nat) : Int)) (by omega) (by omega))) ?_
    refine sr 1 ?_
    refine s1 (y_bin rfl rfl rfl (fun hg => b_subv (((fi + fr.length - shQ x.fr.l fr : Nat) : Int)) (by omega) (by omega))) ?_
    refine sr 1 ?_
    refine sgo ?_
    refine tr1 hRb fun w hM => ?_
    rw [hx3, if_pos ⟨hne, by omega⟩]
    exact ⟨(), rfl, trivial, hM.keep (ks := [(0, 999)]) (by repeat (first | exact kl_rest (by assumption) rfl | (apply kl_in; focus rfl))) _ ⟨rfl, rfl, rfl, rfl, trivial⟩⟩
  try simp only [nrm] at h74
  refine kgx ?_
  refine sr 1 ?_
  refine sgo ?_
  refine tr1 hRb fun w hM => ?_
  rw [hx3, if_neg (fun h => by omega)]
  exact ⟨(), rfl, trivial, hM.keep (ks := [(0, 999)]) (by repeat (first | exact kl_rest (by assumption) rfl | (apply kl_in; focus rfl))) _ ⟨rfl, rfl, rfl, rfl, trivial⟩⟩
end Go.Proofs.YtgbldojgbpgjbaaGreatDoor
end
section
namespace Go.Proofs.YtgbldojgbpgjbaaGreatDoor
set_option linter.unusedSimpArgs false
set_option linter.unusedVariables false
set_option maxRecDepth 20000
open Go.RowKit Go.Eng
/-- what comes behind the frames of a fault; i lines were taken before it, j are taken now -/
def restQ (b : List PFl) (tl : List UInt8) (i : Nat) (k t : List UInt8) (fr : List Frm) (ls : List (List UInt8)) (j : Nat) : Nat ⊕ (PFl × List (List UInt8) × Nat) :=
  if begL ls dotB = true then
    match (dotQ (ls.headD [])).bind (joinF b fr) with
    | none => .inl (j + 1)
    | some fr' => .inr (⟨k, t, fr'⟩, ls.tail, j + 1)
  else if ls = [] ∧ (Lib.hasPrefix tl atB = true ∨ Lib.hasPrefix tl dotB = true) then .inl (j + 1)
  else if b ≠ [] ∧ 2 ≤ shQ (lastF b) fr then .inl (i + 2 + fr.length - shQ (lastF b) fr)
  else .inr (⟨k, t, fr⟩, ls, j)
theorem faultQ_no {b : List PFl} {tl : List UInt8} {i : Nat} {ls : List (List UInt8)} (h : fhQ ls (preQ b) = none) : faultQ b tl i ls = .inl (i + 1) := by
  cases ls with
  | nil => rfl
  | cons l r =>
    rw [faultQ]
    by_cases hp : Lib.hasPrefix l (preQ b) = false
    · rw [if_pos hp]
    · rw [if_neg hp]
      have h2 : begL (l :: r) (preQ b) = true := by simpa [begL] using hp
      rw [fhQ, if_pos h2, nxV, if_pos h2] at h
      rw [show headQ (l.drop (preQ b).length) = none from h]
theorem faultQ_yes {b : List PFl} {tl : List UInt8} {i : Nat} {ls : List (List UInt8)} {k t : List UInt8} (h : fhQ ls (preQ b) = some (k, t)) :
    faultQ b tl i ls = match frsQ (ls.drop 1) (i + 1) [] with | .inl e => .inl e | .inr (fr, ls2, j) => restQ b tl i k t fr ls2 j := by
  cases ls with
  | nil => cases h
  | cons l r =>
    rw [faultQ]
    by_cases hp : Lib.hasPrefix l (preQ b) = false
    · rw [fhQ, if_neg (by show ¬ (Lib.hasPrefix l (preQ b) = true); rw [hp]; decide)] at h
      cases h
    · rw [if_neg hp]
      have h2 : begL (l :: r) (preQ b) = true := by simpa [begL] using hp
      rw [fhQ, if_pos h2, nxV, if_pos h2] at h
      rw [show headQ (l.drop (preQ b).length) = some (k, t) from h]
      rw [show (l :: r).drop 1 = r from rfl]
      cases frsQ r (i + 1) [] with
      | inl e => rfl
      | inr x => rfl
theorem frsQ_end {ls : List (List UInt8)} {i : Nat} {acc : List Frm} (h : begL ls atB = false) : frsQ ls i acc = .inr (acc, ls, i) := by
  cases ls with
  | nil => rfl
  | cons l r => rw [frsQ, if_neg (by rw [show Lib.hasPrefix l atB = false from h]; decide)]
theorem frsQ_no {ls : List (List UInt8)} {i : Nat} {acc : List Frm} (h : begL ls atB = true) (h2 : fmQ ls atB = none) : frsQ ls i acc = .inl (i + 1) := by
  cases ls with
  | nil => cases h
  | cons l r =>
    rw [fmQ, if_pos h, nxV, if_pos h] at h2
    rw [frsQ, if_pos (show Lib.hasPrefix l atB = true from h), show frameQ (l.drop 7) = none from h2]
theorem frsQ_yes {ls : List (List UInt8)} {i : Nat} {acc : List Frm} {x : Frm} (h : begL ls atB = true) (h2 : fmQ ls atB = some x) : frsQ ls i acc = frsQ (ls.drop 1) (i + 1) (acc ++ [x]) := by
  cases ls with
  | nil => cases h
  | cons l r =>
    rw [fmQ, if_pos h, nxV, if_pos h] at h2
    rw [frsQ, if_pos (show Lib.hasPrefix l atB = true from h), show frameQ (l.drop 7) = some x from h2]
    rfl
theorem dotQ_eq {l : List UInt8} : dotQ l = if Lib.hasSuffix (l.drop 8) moreB = true then numB 10 3 (Lib.trimSuffix (l.drop 8) moreB) else none := by
  unfold dotQ
  split
  · rename_i h; rw [trimS_of h]; rfl
  · rfl
theorem restQ_bad {b : List PFl} {tl : List UInt8} {i : Nat} {k t : List UInt8} {fr : List Frm} {ls : List (List UInt8)} {j : Nat} (h : begL ls dotB = true) (h2 : (dotQ (ls.headD [])).bind (joinF b fr) = none) : restQ b tl i k t fr ls j = .inl (j + 1) := by
  rw [restQ, if_pos h, h2]
theorem restQ_dots {b : List PFl} {tl : List UInt8} {i : Nat} {k t : List UInt8} {fr fr' : List Frm} {ls : List (List UInt8)} {j : Nat} (h : begL ls dotB = true) (h2 : (dotQ (ls.headD [])).bind (joinF b fr) = some fr') : restQ b tl i k t fr ls j = .inr (⟨k, t, fr'⟩, ls.tail, j + 1) := by
  rw [restQ, if_pos h, h2]
theorem restQ_tail {b : List PFl} {tl : List UInt8} {i : Nat} {k t : List UInt8} {fr : List Frm} {ls : List (List UInt8)} {j : Nat} (h : begL ls dotB = false) (h2 : ls = [] ∧ (Lib.hasPrefix tl atB = true ∨ Lib.hasPrefix tl dotB = true)) : restQ b tl i k t fr ls j = .inl (j + 1) := by
  rw [restQ, if_neg (by rw [h]; decide), if_pos h2]
theorem restQ_sh {b : List PFl} {tl : List UInt8} {i : Nat} {k t : List UInt8} {fr : List Frm} {ls : List (List UInt8)} {j : Nat} (h : begL ls dotB = false) (h2 : ¬ (ls = [] ∧ (Lib.hasPrefix tl atB = true ∨ Lib.hasPrefix tl dotB = true))) (h3 : b ≠ [] ∧ 2 ≤ shQ (lastF b) fr) : restQ b tl i k t fr ls j = .inl (i + 2 + fr.length - shQ (lastF b) fr) := by
  rw [restQ, if_neg (by rw [h]; decide), if_neg h2, if_pos h3]
theorem restQ_go {b : List PFl} {tl : List UInt8} {i : Nat} {k t : List UInt8} {fr : List Frm} {ls : List (List UInt8)} {j : Nat} (h : begL ls dotB = false) (h2 : ¬ (ls = [] ∧ (Lib.hasPrefix tl atB = true ∨ Lib.hasPrefix tl dotB = true))) (h3 : ¬ (b ≠ [] ∧ 2 ≤ shQ (lastF b) fr)) : restQ b tl i k t fr ls j = .inr (⟨k, t, fr⟩, ls, j) := by
  rw [restQ, if_neg (by rw [h]; decide), if_neg h2, if_neg h3]
def inW : List PFl ⊕ Nat → Int
  | .inl _ => 0
  | .inr n => (n : Int)
theorem innerQ_bad {tl : List UInt8} {f : Nat} {b : List PFl} {ls : List (List UInt8)} {i e : Nat} (h : faultQ b tl i ls = .inl e) : innerQ tl (f + 1) b ls i = .inr e := by rw [innerQ, h]
theorem innerQ_end {tl : List UInt8} {f : Nat} {b : List PFl} {ls : List (List UInt8)} {i j : Nat} {x : PFl} (h : faultQ b tl i ls = .inr (x, [], j)) : innerQ tl (f + 1) b ls i = .inl (b ++ [x]) := by rw [innerQ, h]; rfl
theorem innerQ_go {tl : List UInt8} {f : Nat} {b : List PFl} {ls ls' : List (List UInt8)} {i j : Nat} {x : PFl} (h : faultQ b tl i ls = .inr (x, ls', j)) (h2 : ls' ≠ []) : innerQ tl (f + 1) b ls i = innerQ tl f (b ++ [x]) ls' j := by rw [innerQ, h]; exact if_neg h2
theorem num3_le (s : List UInt8) : (numB 10 3 s).getD 0 ≤ 999 := by
  unfold numB
  split
  · rename_i h
    simp only [numH, Bool.and_eq_true, decide_eq_true_eq, List.all_eq_true] at h
    have h1 := valB_lt (b := 10) (.inl rfl) s h.2
    have h2 : 10 ^ s.length ≤ 10 ^ 3 := Nat.pow_le_pow_right (by decide) h.1.1.2
    show valB 10 s ≤ 999
    omega
  · exact Nat.zero_le _
theorem joinF_len {b : List PFl} {fr y : List Frm} {n : Nat} (h : joinF b fr n = some y) : y.length ≤ fr.length + n := by
  unfold joinF at h
  split at h
  · cases h
  · split at h
    · rw [← Option.some.inj h, List.length_append, List.length_drop]; omega
    · cases h
theorem preQ_snoc (l : List Flt) (x : Flt) : preQ ((l ++ [x]).map pfl) = causeB := if_neg (by simp)
theorem gt_no {α : Type} {o : Option α} {n : Nat} (h : decide ((0 : Int) < if o.isSome = true then 0 else ((n + 1 : Nat) : Int)) = true) : o = none := by
  cases o with
  | none => rfl
  | some y => simp at h
theorem gt_yes {α : Type} {o : Option α} {n : Nat} (h : decide ((0 : Int) < if o.isSome = true then 0 else ((n + 1 : Nat) : Int)) = false) : ∃ y, o = some y := by
  cases o with
  | some y => exact ⟨y, rfl⟩
  | none => simp at h
theorem sh_gt {C : Prop} [Decidable C] {n : Nat} (h : decide ((0 : Int) < if C then (n : Int) else 0) = true) : C := by
  by_cases c : C
  · exact c
  · rw [if_neg c] at h; simp at h
theorem sh_le {C : Prop} [Decidable C] {n : Nat} (hn : 0 < n) (h : decide ((0 : Int) < if C then (n : Int) else 0) = false) : ¬ C := fun c => by
  rw [if_pos c] at h; simp at h; omega
theorem begL_lt {ls : List (List UInt8)} {i : Nat} {p : List UInt8} (h : begL (ls.drop i) p = true) : i < ls.length := by
  rw [begL_eq] at h; simp at h; exact h.1
theorem fhQ_beg {ls : List (List UInt8)} {p : List UInt8} {x : List UInt8 × List UInt8} (h : fhQ ls p = some x) : begL ls p = true := by
  cases hb : begL ls p with
  | true => rfl
  | false => rw [fhQ, if_neg (by rw [hb]; decide)] at h; cases h
theorem nxV_yes {ls : List (List UInt8)} {p : List UInt8} (h : begL ls p = true) : nxV ls p = (ls.headD []).drop p.length := if_pos h
theorem dot_eq {ls : List (List UInt8)} (h : begL ls dotB = true) : dotQ (ls.headD []) = if Lib.hasSuffix (nxV ls dotB) moreB = true then numB 10 3 (Lib.trimSuffix (nxV ls dotB) moreB) else none := by
  rw [dotQ_eq, nxV_yes h]; rfl
theorem dot_none {ls : List (List UInt8)} (h : begL ls dotB = true) (h2 : Lib.hasSuffix (nxV ls dotB) moreB = false ∨ (numB 10 3 (Lib.trimSuffix (nxV ls dotB) moreB)).isSome = false) : dotQ (ls.headD []) = none := by
  rw [dot_eq h]
  rcases h2 with h2 | h2
  · exact if_neg (by rw [h2]; decide)
  · split
    · exact opt_none h2
    · rfl
theorem flB_snoc (b : Nat) (k t : List UInt8) (A : Option Addr) (c : Nat) (fr : List Frm) (y : Frm) : flB b k t A c (fr ++ [y]) = .blk b (IsBox [str k, str t, .slice A (fr.length + 1) c] 36) := by rw [flB, List.length_append]; rfl
theorem frI_snoc (A : Option Addr) (c : Nat) (fr : List Frm) (y : Frm) : frI A c (fr ++ [y]) = .own 45 6 (.slice A (fr.length + 1) c) (fr.length + 1) ((fr ++ [y]).flatMap Frm.enc) := by rw [frI, List.length_append]; rfl
theorem flI_snoc (A : Option Addr) (c : Nat) (l : List Flt) (y : Flt) : flI A c (l ++ [y]) = .own 36 3 (.slice A (l.length + 1) c) (l.length + 1) ((l ++ [y]).flatMap Flt.enc) := by rw [flI, List.length_append]; rfl
structure InR where
  A : Option Addr
  c : Nat
  l : List Flt
  rs : List Row
  j : Nat
structure InOk (w0 : World) (rs : List Row) (z : Src) (x : InR) : Prop where
  more : ∀ r ∈ rs, r ∈ x.rs
  ok : ∀ f ∈ x.l, Sees w0 x.rs fun w => FlR w f
  few : x.l.length ≤ z.q
  says : ∀ y, innerQ z.tl (z.q + 1) [] z.ls 0 = .inl y → x.l.map pfl = y
set_option maxHeartbeats 6400000 in
theorem readInner_any {w0 : World} {K : HL} (hK : FromK K) (b : Nat) (rs : List Row) (z : Src) (hz : SrcOk w0 rs z) (w : World) (hM0 : Mem w0 ([(900, .many rs), (901, srI b z 0)] ++ K) w) :
    Calls Tryz.prog 175 #[ptrH b] w fun e w' => ∃ x : InR, e = .returned (.tuple #[.slice x.A x.l.length x.c, .int .i64 (inW (innerQ z.tl (z.q + 1) [] z.ls 0))]) ∧ InOk w0 rs z x ∧ Mem w0 ([(900, .many x.rs), (901, srI b z x.j), (904, flI x.A x.c x.l)] ++ K) w' := by
  have hfew := hz.few
  have hlen := hz.len
  have htl := hz.tl
  refine enterM_args (args := [ptrH b]) (F := _) hM0 Tryz.func175 rfl Tryz.ntmps175 rfl rfl ?_
  intro Rb hRb hRn
  refine tx ?_
  refine sr 2 ?_
  refine sgx ?_
  refine S_nilSlice 904 (e := 36) (size := 3) ?_
  refine S_nilSlice 4 (e := 36) (size := 3) ?_
  refine sr 1 ?_
  refine sgx ?_
  refine sr 1 ?_
  refine sgo ?_
  refine T_block ?_
  refine lK5 (kf := [(2, 143)]) (kl := [(2, 143), (900, 901), (904, 904)]) (fun (i : Nat) (A : Option Addr) (c : Nat) (l : List Flt) (rs2 : List Row) => [(4, true, .slice A l.length c), (5, true, str (preQ (l.map pfl)))]) (fun (i : Nat) (A : Option Addr) (c : Nat) (l : List Flt) (rs2 : List Row) => [(900, .many rs2), (901, srI b z i), (904, flI A c l)]) (fun (i : Nat) (A : Option Addr) (c : Nat) (l : List Flt) (rs2 : List Row) => i ≤ z.q ∧ l.length ≤ i ∧ (∀ r ∈ rs, r ∈ rs2) ∧ (∀ f ∈ l, Sees w0 rs2 fun w => FlR w f) ∧ innerQ z.tl (z.q + 1) [] z.ls 0 = innerQ z.tl (z.q + 1 - l.length) (l.map pfl) (z.ls.drop i) i) (fun (i : Nat) (A : Option Addr) (c : Nat) (l : List Flt) (rs2 : List Row) => z.q - i) 0 none 0 [] rs ?_ ?_ ?_ ?_
  · exact ⟨by omega, Nat.le_refl _, fun _ h => h, fun _ h => (by cases h), rfl⟩
  · exact ⟨rfl, rfl, trivial⟩
  · exact ⟨rfl, rfl, rfl, trivial⟩
  rintro i A c l rs2 ⟨hp1, hp2, hp3, hp4, hp5⟩
  obtain ⟨k, hk⟩ : ∃ k, z.q + 1 - l.length = k + 1 := ⟨z.q - l.length, by omega⟩
  have hz2 : SrcOk w0 rs2 z := ⟨hz.sees.more hp3, hz.short, hz.len, hz.few, hz.tl⟩
  refine T_block ?_
  refine tx ?_
  refine sr 2 ?_
  refine S_callM 22 [(900, 900), (901, 901)] (X := List UInt8 × List UInt8) rfl rfl rfl rfl rfl rfl rfl cf228 rfl (fun x => .tuple #[fltV x.1 x.2, .bool (fhQ (z.ls.drop i) (preQ (l.map pfl))).isSome]) (fun x => ∀ y, fhQ (z.ls.drop i) (preQ (l.map pfl)) = some y → x = y) (fun _ => [(900, .many rs2), (901, srI b z (okI (fhQ (z.ls.drop i) (preQ (l.map pfl))) i))]) (fun _ => rfl) (fun _ => rfl) (fun K1 hK1 w hM => fault_any hK1 b rs2 z hz2 i hp1 _ w hM) ?_
  intro x hx
  refine sr 3 ?_
  refine S_alloc 6 6 rfl rfl rfl rfl z36 ?_
  intro b6
  refine S_nilSlice 951 (e := 45) (size := 6) ?_
  refine S_store 6 rfl rfl rfl rfl rfl rfl sz36 rfl rfl ?_
  refine sr 1 ?_
  refine sgs ?_
  refine tx ?_
  refine sr 2 ?_
  refine sgo ?_
  refine T_cond rfl ?_ ?_ <;> intro h26
  · try simp only [nrm] at h26
    have hno : fhQ (z.ls.drop i) (preQ (l.map pfl)) = none := by simpa using h26
    have hbad : innerQ z.tl (z.q + 1) [] z.ls 0 = .inr (i + 1) := by rw [hp5, hk]; exact innerQ_bad (faultQ_no hno)
    rw [hno, okI_no]
    refine T_seq ?_
    refine T_draws (by kernel_rfl) (by kernel_rfl) ?_
    refine d1 (y_move rfl rfl) ?_
    refine d1 (y_nilCheck rfl rfl) ?_
    refine d1 (yF fa203_1) ?_
    refine d1 (yL 901 Tryz.underlying3) ?_
    refine d1 (y_bin rfl rfl rfl (fun hg => b_addv (((i + 1 : Nat) : Int)) (by omega) (by omega))) ?_
    refine d1 (y_assign rfl rfl) ?_
    refine d1 (y_assign rfl rfl) ?_
    refine dgo ?_
    refine tr2 hRb fun w hM => ?_
    rw [hbad]
    have hM := hM.add 904 (flI none 0 []) rfl (World.ownsRow_nil _ _ _ _)
    exact ⟨⟨none, 0, [], rs2, i⟩, rfl, ⟨hp3, fun f hf => (by cases hf), Nat.zero_le _, fun y hy => (by rw [hbad] at hy; cases hy)⟩, hM.keep (ks := [(0, 999)]) (by repeat (first | exact kl_rest (by assumption) rfl | (apply kl_in; focus rfl))) _ ⟨rfl, rfl, rfl, trivial⟩⟩
  try simp only [nrm] at h26
  obtain ⟨y0, hy0⟩ := Option.isSome_iff_exists.1 (show (fhQ (z.ls.drop i) (preQ (l.map pfl))).isSome = true by simpa using h26)
  have hkt : fhQ (z.ls.drop i) (preQ (l.map pfl)) = some (x.1, x.2) := by rw [hy0, hx y0 hy0]
  have hil := begL_lt (fhQ_beg hkt)
  rw [hkt, okI_yes]
  refine kgx ?_
  refine sr 1 ?_
  refine s1 (y_nilCheck rfl rfl) ?_
  refine s1 (yF fa203_1) ?_
  refine s1 (yL 901 Tryz.underlying3) ?_
  refine s1 (y_bin rfl rfl rfl (fun hg => b_addv (((i + 2 : Nat) : Int)) (by omega) (by omega))) ?_
  refine sr 2 ?_
  refine sgs ?_
  refine T_block ?_
  refine lK4 (kf := [(2, 3), (10, 11), (37, 56)]) (kl := [(2, 3), (6, 6), (10, 11), (37, 56), (900, 901), (951, 951)]) (fun (j : Nat) (B : Option Addr) (d : Nat) (fr : List Frm) => []) (fun (j : Nat) (B : Option Addr) (d : Nat) (fr : List Frm) => [(900, .many rs2), (901, srI b z j), (6, flB b6 x.1 x.2 B d fr), (951, frI B d fr)]) (fun (j : Nat) (B : Option Addr) (d : Nat) (fr : List Frm) => j ≤ z.q ∧ i < j ∧ fr.length ≤ j ∧ frsQ (z.ls.drop (i + 1)) (i + 1) [] = frsQ (z.ls.drop j) j fr) (fun (j : Nat) (B : Option Addr) (d : Nat) (fr : List Frm) => z.q - j) (i + 1) none 0 [] ?_ ?_ ?_ ?_
  · exact ⟨by omega, by omega, Nat.zero_le _, rfl⟩
  · exact trivial
  · exact ⟨rfl, rfl, rfl, rfl, trivial⟩
  rintro j B d fr ⟨hq1, hq2, hq3, hq4⟩
  refine T_seq ?_
  refine tx ?_
  refine sr 1 ?_
  refine s1 (y_call rfl rfl rfl cf229 (fun _ w hM => begins_any b z j atB w (srcAt (hM.sat 901 _ rfl)) (hz2.sees.at hM 900 rfl))) ?_
  refine sgo ?_
  refine T_cond rfl ?_ ?_ <;> intro h38
  · skip
    refine kgo ?_
    refine T_block ?_
    refine tx ?_
    refine sr 1 ?_
    refine S_callM 41 [(900, 900), (901, 901)] (X := Frm) rfl rfl rfl rfl rfl rfl rfl cf230 rfl (fun y => .tuple #[y.val, .bool (fmQ (z.ls.drop j) atB).isSome]) (fun y => ∀ u, fmQ (z.ls.drop j) atB = some u → y = u) (fun _ => [(900, .many rs2), (901, srI b z (okI (fmQ (z.ls.drop j) atB) j))]) (fun _ => rfl) (fun _ => rfl) (fun K1 hK1 w hM => frame_any hK1 b rs2 z hz2 j hq1 _ w hM) ?_
    intro y hy
    refine sr 3 ?_
    refine S_alloc 10 10 rfl rfl rfl rfl z45 ?_
    intro b10
    refine S_store 10 rfl rfl rfl rfl rfl rfl sz45 rfl rfl ?_
    refine sr 1 ?_
    refine sgs ?_
    refine tx ?_
    refine sr 2 ?_
    refine sgo ?_
    refine T_cond rfl ?_ ?_ <;> intro h45
    · try simp only [nrm] at h45
      have hno2 : fmQ (z.ls.drop j) atB = none := by simpa using h45
      have hfq := (faultQ_yes (tl := z.tl) (i := i) hkt).trans (by rw [List.drop_drop, hq4, frsQ_no h38 hno2])
      have hbad : innerQ z.tl (z.q + 1) [] z.ls 0 = .inr (j + 1) := by rw [hp5, hk]; exact innerQ_bad hfq
      rw [hno2, okI_no]
      refine T_seq ?_
      refine T_draws (by kernel_rfl) (by kernel_rfl) ?_
      refine d1 (y_move rfl rfl) ?_
      refine d1 (y_nilCheck rfl rfl) ?_
      refine d1 (yF fa203_1) ?_
      refine d1 (yL 901 Tryz.underlying3) ?_
      refine d1 (y_bin rfl rfl rfl (fun hg => b_addv (((j + 1 : Nat) : Int)) (by omega) (by omega))) ?_
      refine d1 (y_assign rfl rfl) ?_
      refine d1 (y_assign rfl rfl) ?_
      refine dgo ?_
      refine tr2 hRb fun w hM => ?_
      rw [hbad]
      have hM := hM.add 904 (flI none 0 []) rfl (World.ownsRow_nil _ _ _ _)
      exact ⟨⟨none, 0, [], rs2, j⟩, rfl, ⟨hp3, fun f hf => (by cases hf), Nat.zero_le _, fun y hy => (by rw [hbad] at hy; cases hy)⟩, hM.keep (ks := [(0, 999)]) (by repeat (first | exact kl_rest (by assumption) rfl | (apply kl_in; focus rfl))) _ ⟨rfl, rfl, rfl, trivial⟩⟩
    try simp only [nrm] at h45
    obtain ⟨y0, hy0⟩ := Option.isSome_iff_exists.1 (show (fmQ (z.ls.drop j) atB).isSome = true by simpa using h45)
    have hyy := hy y0 hy0
    subst hyy
    have hjl := begL_lt h38
    rw [hy0, okI_yes]
    refine kgr ?_
    refine s1 (yF fa36_2) ?_
    refine s1 (yL 6 Tryz.underlying32) ?_
    refine s1 (yA 10 rfl Tryz.underlying45 sz45) ?_
    refine S_buildSlice 54 54 rfl rfl rfl rfl rfl Tryz.underlying32 inf45 rfl (by decide) (by decide) rfl rfl (by decide) rfl (_) rfl ?_
    intro b54
    obtain ⟨i55, hi55, hz55, hs55, hy55⟩ := info_parts inf45
    refine S_append 55 951 54 rfl rfl rfl rfl rfl rfl rfl rfl Tryz.underlying32 hi55 hz55 hs55 hy55 rfl (by decide) (by decide) rfl ?_ ?_ (_) ((fr ++ [y]).flatMap Frm.enc) rfl ?_ ?_
    · (simp only [maxLen]; omega)
    · omega
    · rw [List.flatMap_append]; rfl
    intro A55 c55
    refine s1 (yF fa36_2) ?_
    refine S_store 6 rfl rfl rfl rfl rfl rfl sz32 rfl rfl ?_
    refine S_nil (nK4 (kf := [(2, 3), (10, 11), (37, 56)]) (kl := [(2, 3), (6, 6), (10, 11), (37, 56), (900, 901), (951, 951)]) (j + 1) A55 c55 (fr ++ [y]) ?_ ?_ ?_ ?_)
    · omega
    · exact ⟨by omega, by omega, by rw [List.length_append]; show fr.length + 1 ≤ _; omega, by rw [hq4, frsQ_yes h38 hy0, List.drop_drop]⟩
    · exact trivial
    · exact ⟨rfl, rfl, by rw [flB_snoc]; rfl, by rw [frI_snoc]; rfl, trivial⟩
  have hend := frsQ_end (i := j) (acc := fr) h38
  have hfq := (faultQ_yes (tl := z.tl) (i := i) hkt).trans (by rw [List.drop_drop, hq4, hend])
  refine egs ?_
  refine tx ?_
  refine sr 1 ?_
  refine s1 (y_call rfl rfl rfl cf229 (fun _ w hM => begins_any b z j dotB w (srcAt (hM.sat 901 _ rfl)) (hz2.sees.at hM 900 rfl))) ?_
  refine sgo ?_
  refine T_cond rfl ?_ ?_ <;> intro h58
  · skip
    have hjl := begL_lt h58
    have hnx : nxI (z.ls.drop j) dotB j = j + 1 := if_pos h58
    have hdq := dot_eq h58
    have hns := nxV_short (p := dotB) (drop_short (i := j) hz.short)
    have hts := trimS_le (nxV (z.ls.drop j) dotB) moreB
    refine tx ?_
    refine sr 1 ?_
    refine S_callM 61 [(900, 900), (901, 901)] (X := Unit) rfl rfl rfl rfl rfl rfl rfl cf231 rfl (fun _ => .tuple #[str (nxV (z.ls.drop j) dotB), .bool (begL (z.ls.drop j) dotB)]) (fun _ => True) (fun _ => [(900, .many rs2), (901, srI b z (nxI (z.ls.drop j) dotB j))]) (fun _ => rfl) (fun _ => rfl) (fun K1 hK1 w hM => next_any hK1 b rs2 z hz2 j hq1 dotB w hM) ?_
    intro _ _
    rw [hnx]
    refine sr 5 ?_
    refine sgx ?_
    refine sr 1 ?_
    refine s1 (y_call rfl rfl rfl cf202 (fun _ w _ => CutSuffix_any _ _ (by omega) w)) ?_
    refine sr 5 ?_
    refine sgx ?_
    refine sr 1 ?_
    refine s1 (y_call rfl rfl rfl cf232 (fun _ w _ => number10_any _ 3 (by omega) (by show (Lib.trimSuffix _ moreB).length ≤ _; omega) w)) ?_
    refine sr 5 ?_
    refine sgs ?_
    refine tx ?_
    refine sr 3 ?_
    refine sg rfl (y_move rfl rfl) ?_
    refine sg rfl (y_not rfl rfl) ?_
    refine s1 (y_or rfl rfl rfl) ?_
    refine sgo ?_
    refine T_cond rfl ?_ ?_ <;> intro h79
    · try simp only [nrm] at h79
      have hdn := dot_none h58 h79
      have hr := hfq.trans (restQ_bad h58 (by rw [hdn]; rfl))
      have hbad : innerQ z.tl (z.q + 1) [] z.ls 0 = .inr (j + 1) := by rw [hp5, hk]; exact innerQ_bad hr
      refine T_seq ?_
      refine T_draws (by kernel_rfl) (by kernel_rfl) ?_
      refine d1 (y_move rfl rfl) ?_
      refine d1 (y_nilCheck rfl rfl) ?_
      refine d1 (yF fa203_1) ?_
      refine d1 (yL 901 Tryz.underlying3) ?_
      refine d1 (y_assign rfl rfl) ?_
      refine d1 (y_assign rfl rfl) ?_
      refine dgo ?_
      refine tr2 hRb fun w hM => ?_
      rw [hbad]
      have hM := hM.add 904 (flI none 0 []) rfl (World.ownsRow_nil _ _ _ _)
      exact ⟨⟨none, 0, [], rs2, j + 1⟩, rfl, ⟨hp3, fun f hf => (by cases hf), Nat.zero_le _, fun y hy => (by rw [hbad] at hy; cases hy)⟩, hM.keep (ks := [(0, 999)]) (by repeat (first | exact kl_rest (by assumption) rfl | (apply kl_in; focus rfl))) _ ⟨rfl, rfl, rfl, trivial⟩⟩
    try simp only [nrm] at h79
    have hds : dotQ ((z.ls.drop j).headD []) = some ((numB 10 3 (Lib.trimSuffix (nxV (z.ls.drop j) dotB) moreB)).getD 0) := by rw [hdq, if_pos h79.1]; exact opt_some h79.2
    have hN9 := num3_le (Lib.trimSuffix (nxV (z.ls.drop j) dotB) moreB)
    generalize ((numB 10 3 (Lib.trimSuffix (nxV (z.ls.drop j) dotB) moreB)).getD 0) = N at hds hN9 ⊢
    clear hdq
    refine kgr ?_
    refine sr 2 ?_
    refine sgs ?_
    refine T_seq ?_
    refine T_draws (by kernel_rfl) (by kernel_rfl) ?_
    refine d1 (y_move rfl rfl) ?_
    refine d1 (y_bin rfl rfl rfl (fun _ => b_lss)) ?_
    refine d1 (y_move rfl rfl) ?_
    refine dg rfl (y_move rfl rfl) ?_
    refine dg rfl (y_nilCheck rfl rfl) ?_
    refine dg rfl (yF fa203_1) ?_
    refine dg rfl (yL 901 Tryz.underlying3) ?_
    refine dg rfl (y_move rfl rfl) ?_
    refine dg rfl (y_nilCheck rfl rfl) ?_
    refine dg rfl (yF fa203_0) ?_
    refine dg rfl (yL 901 Tryz.underlying53) ?_
    refine dg rfl (y_len_slice rfl rfl Tryz.underlying53) ?_
    refine dg rfl (y_bin rfl rfl rfl (fun _ => b_eql)) ?_
    refine d1 (y_and rfl rfl rfl) ?_
    refine d1 (y_move rfl rfl) ?_
    refine dg rfl (y_move rfl rfl) ?_
    refine dg rfl (y_nilCheck rfl rfl) ?_
    refine dg rfl (yF fa203_2) ?_
    refine dg rfl (yL 901 Tryz.underlying9) ?_
    refine dg rfl (y_call rfl rfl rfl cf183 (fun _ w _ => HasPrefix_any _ _ w)) ?_
    refine dg rfl (y_move rfl rfl) ?_
    refine dg rfl (y_move rfl rfl) ?_
    refine dg rfl (y_nilCheck rfl rfl) ?_
    refine dg rfl (yF fa203_2) ?_
    refine dg rfl (yL 901 Tryz.underlying9) ?_
    refine dg rfl (y_call rfl rfl rfl cf183 (fun _ w _ => HasPrefix_any _ _ w)) ?_
    refine dg rfl (y_or rfl rfl rfl) ?_
    refine d1 (y_and rfl rfl rfl) ?_
    refine dgo ?_
    refine T_cond rfl ?_ ?_ <;> intro h112
    · try simp only [nrm] at h112
      exact absurd h112.1.1 (by omega)
    try simp only [nrm] at h112
    refine kgs ?_
    refine tx ?_
    refine sr 4 ?_
    refine s1 (y_nilCheck rfl rfl) ?_
    refine s1 (yF fa203_1) ?_
    refine s1 (yL 901 Tryz.underlying3) ?_
    refine S_callM 125 [(900, 900), (904, 904), (906, 6), (951, 951)] (X := ShR) rfl rfl rfl rfl rfl rfl rfl cf233 rfl (fun _ => .int .i64 (if (joinF (l.map pfl) fr N).isSome = true then 0 else ((j + 1 : Nat) : Int))) (fun y => ∀ u, joinF (l.map pfl) fr N = some u → y.fr = u) (fun y => [(900, .many rs2), (904, flI A c l), (906, flB b6 x.1 x.2 y.A y.c y.fr), (951, frI y.A y.c y.fr)]) (fun _ => rfl) (fun _ => rfl) (fun K1 hK1 w hM => sharesD_any hK1 rs2 A c l (by omega) hp4 b6 x.1 x.2 B d fr (by omega) _ N (j + 1) hN9 (by omega) w hM) ?_
    intro y hy
    refine sr 1 ?_
    refine sgx ?_
    refine sr 2 ?_
    refine sgo ?_
    refine T_cond rfl ?_ ?_ <;> intro h127
    · skip
      have hjn := gt_no h127
      have hr := hfq.trans (restQ_bad h58 (by rw [hds]; exact hjn))
      have hbad : innerQ z.tl (z.q + 1) [] z.ls 0 = .inr (j + 1) := by rw [hp5, hk]; exact innerQ_bad hr
      rw [hjn]
      refine tx ?_
      refine sr 3 ?_
      refine sgo ?_
      refine tr2 hRb fun w hM => ?_
      rw [hbad]
      have hM := hM.add 904 (flI none 0 []) rfl (World.ownsRow_nil _ _ _ _)
      exact ⟨⟨none, 0, [], rs2, j + 1⟩, rfl, ⟨hp3, fun f hf => (by cases hf), Nat.zero_le _, fun y hy => (by rw [hbad] at hy; cases hy)⟩, hM.keep (ks := [(0, 999)]) (by repeat (first | exact kl_rest (by assumption) rfl | (apply kl_in; focus rfl))) _ ⟨rfl, rfl, rfl, trivial⟩⟩
    obtain ⟨y0, hy0⟩ := gt_yes h127
    have hyy := hy y0 hy0
    have hyl := joinF_len hy0
    rw [← hyy] at hyl
    have hr := hfq.trans (restQ_dots h58 (by rw [hds]; exact hy0))
    rw [← hyy, List.tail_drop] at hr
    refine kgx ?_
    refine sr 1 ?_
    refine s1 (yA 6 rfl Tryz.underlying36 sz36) ?_
    refine S_buildSlice 131 131 rfl rfl rfl rfl rfl Tryz.underlying22 inf36 rfl (by decide) (by decide) rfl rfl (by decide) rfl (_) rfl ?_
    intro b131
    refine S_bank [(951, 951), (900, 900)] 900 951 rfl rfl rfl rfl (by repeat (first | exact kl_nil | exact kl_rest (by assumption) rfl | (apply kl_in; focus rfl) | (apply kl_out; focus rfl))) ?_
    obtain ⟨i132, hi132, hz132, hs132, hy132⟩ := info_parts inf36
    refine S_append 132 904 131 rfl rfl rfl rfl rfl rfl rfl rfl Tryz.underlying22 hi132 hz132 hs132 hy132 rfl (by decide) (by decide) rfl ?_ ?_ (_) ((l ++ [(⟨x.1, x.2, ⟨y.A, y.fr.length, y.c, y.fr⟩⟩ : Flt)]).flatMap Flt.enc) rfl ?_ ?_
    · (simp only [maxLen]; omega)
    · omega
    · rw [List.flatMap_append]; rfl
    intro A132 c132
    refine sr 1 ?_
    refine sgs ?_
    refine T_seq ?_
    refine T_draws (by kernel_rfl) (by kernel_rfl) ?_
    refine d1 (y_move rfl rfl) ?_
    refine d1 (y_nilCheck rfl rfl) ?_
    refine d1 (yF fa203_1) ?_
    refine d1 (yL 901 Tryz.underlying3) ?_
    refine d1 (y_move rfl rfl) ?_
    refine d1 (y_nilCheck rfl rfl) ?_
    refine d1 (yF fa203_0) ?_
    refine d1 (yL 901 Tryz.underlying53) ?_
    refine d1 (y_len_slice rfl rfl Tryz.underlying53) ?_
    refine d1 (y_bin rfl rfl rfl (fun _ => b_eql)) ?_
    refine dgo ?_
    refine T_cond rfl ?_ ?_ <;> intro h142
    · try simp only [nrm] at h142
      have hdr : z.ls.drop (j + 1) = [] := List.drop_eq_nil_of_le (by omega)
      refine tx ?_
      refine sr 3 ?_
      refine sgo ?_
      refine tr2 hRb fun w hM => ?_
      have hfin : innerQ z.tl (z.q + 1) [] z.ls 0 = .inl ((l ++ [(⟨x.1, x.2, ⟨y.A, y.fr.length, y.c, y.fr⟩⟩ : Flt)]).map pfl) := by rw [hp5, hk, List.map_append]; exact innerQ_end (hr.trans (by rw [hdr]; rfl))
      rw [hfin]
      exact ⟨⟨A132, c132, l ++ [(⟨x.1, x.2, ⟨y.A, y.fr.length, y.c, y.fr⟩⟩ : Flt)], rs2 ++ [(⟨45, 6, .slice y.A y.fr.length y.c, y.fr.length, y.fr.flatMap Frm.enc⟩ : Row)], j + 1⟩, by rw [List.length_append]; rfl, ⟨fun r hr => List.mem_append_left _ (hp3 r hr), fun f hf => by
        rcases List.mem_append.1 hf with h | h
        · exact (hp4 f h).app
        · rw [List.mem_singleton.1 h]
          exact ((Sees.row (List.mem_append_right _ (List.mem_singleton.2 rfl)) rfl).map fun w h => ⟨h, by show y.fr.length ≤ 2000000; omega⟩), by rw [List.length_append]; show l.length + 1 ≤ _; omega, fun y2 hy2 => (by rw [hfin] at hy2; exact Sum.inl.inj hy2)⟩, hM.keep (ks := [(0, 999)]) (by repeat (first | exact kl_rest (by assumption) rfl | (apply kl_in; focus rfl))) _ ⟨rfl, rfl, by rw [flI_snoc]; rfl, trivial⟩⟩
    try simp only [nrm] at h142
    have hdr : z.ls.drop (j + 1) ≠ [] := fun e => by have := List.drop_eq_nil_iff.1 e; omega
    refine kgr ?_
    refine sr 1 ?_
    refine S_nil (nK5 (kf := [(2, 143)]) (kl := [(2, 143), (900, 901), (904, 904)]) (j + 1) A132 c132 (l ++ [(⟨x.1, x.2, ⟨y.A, y.fr.length, y.c, y.fr⟩⟩ : Flt)]) (rs2 ++ [(⟨45, 6, .slice y.A y.fr.length y.c, y.fr.length, y.fr.flatMap Frm.enc⟩ : Row)]) ?_ ?_ ?_ ?_)
    · omega
    · exact ⟨by omega, by rw [List.length_append]; show l.length + 1 ≤ _; omega, fun r hr => List.mem_append_left _ (hp3 r hr), fun f hf => by
        rcases List.mem_append.1 hf with h | h
        · exact (hp4 f h).app
        · rw [List.mem_singleton.1 h]
          exact ((Sees.row (List.mem_append_right _ (List.mem_singleton.2 rfl)) rfl).map fun w h => ⟨h, by show y.fr.length ≤ 2000000; omega⟩), by rw [hp5, hk, List.map_append, List.length_append, show z.q + 1 - (l.length + [(⟨x.1, x.2, ⟨y.A, y.fr.length, y.c, y.fr⟩⟩ : Flt)].length) = k from by (show z.q + 1 - (l.length + 1) = k); omega]; exact innerQ_go hr hdr⟩
    · exact ⟨by rw [List.length_append]; rfl, by rw [preQ_snoc]; rfl, trivial⟩
    · exact ⟨rfl, rfl, by rw [flI_snoc]; rfl, trivial⟩
  refine kgs ?_
  refine T_seq ?_
  refine T_draws (by kernel_rfl) (by kernel_rfl) ?_
  refine d1 (y_move rfl rfl) ?_
  refine d1 (y_bin rfl rfl rfl (fun _ => b_lss)) ?_
  refine d1 (y_move rfl rfl) ?_
  refine dg rfl (y_move rfl rfl) ?_
  refine dg rfl (y_nilCheck rfl rfl) ?_
  refine dg rfl (yF fa203_1) ?_
  refine dg rfl (yL 901 Tryz.underlying3) ?_
  refine dg rfl (y_move rfl rfl) ?_
  refine dg rfl (y_nilCheck rfl rfl) ?_
  refine dg rfl (yF fa203_0) ?_
  refine dg rfl (yL 901 Tryz.underlying53) ?_
  refine dg rfl (y_len_slice rfl rfl Tryz.underlying53) ?_
  refine dg rfl (y_bin rfl rfl rfl (fun _ => b_eql)) ?_
  refine d1 (y_and rfl rfl rfl) ?_
  refine d1 (y_move rfl rfl) ?_
  refine dg rfl (y_move rfl rfl) ?_
  refine dg rfl (y_nilCheck rfl rfl) ?_
  refine dg rfl (yF fa203_2) ?_
  refine dg rfl (yL 901 Tryz.underlying9) ?_
  refine dg rfl (y_call rfl rfl rfl cf183 (fun _ w _ => HasPrefix_any _ _ w)) ?_
  refine dg rfl (y_move rfl rfl) ?_
  refine dg rfl (y_move rfl rfl) ?_
  refine dg rfl (y_nilCheck rfl rfl) ?_
  refine dg rfl (yF fa203_2) ?_
  refine dg rfl (yL 901 Tryz.underlying9) ?_
  refine dg rfl (y_call rfl rfl rfl cf183 (fun _ w _ => HasPrefix_any _ _ w)) ?_
  refine dg rfl (y_or rfl rfl rfl) ?_
  refine d1 (y_and rfl rfl rfl) ?_
  refine dgo ?_
  refine T_cond rfl ?_ ?_ <;> intro h112
  · try simp only [nrm] at h112
    have hdr0 : z.ls.drop j = [] := List.drop_eq_nil_of_le (by omega)
    have hr := hfq.trans (restQ_tail h58 ⟨hdr0, h112.2⟩)
    have hbad : innerQ z.tl (z.q + 1) [] z.ls 0 = .inr (j + 1) := by rw [hp5, hk]; exact innerQ_bad hr
    refine T_seq ?_
    refine T_draws (by kernel_rfl) (by kernel_rfl) ?_
    refine d1 (y_move rfl rfl) ?_
    refine d1 (y_nilCheck rfl rfl) ?_
    refine d1 (yF fa203_1) ?_
    refine d1 (yL 901 Tryz.underlying3) ?_
    refine d1 (y_bin rfl rfl rfl (fun hg => b_addv (((j + 1 : Nat) : Int)) (by omega) (by omega))) ?_
    refine d1 (y_assign rfl rfl) ?_
    refine d1 (y_assign rfl rfl) ?_
    refine dgo ?_
    refine tr2 hRb fun w hM => ?_
    rw [hbad]
    have hM := hM.add 904 (flI none 0 []) rfl (World.ownsRow_nil _ _ _ _)
    exact ⟨⟨none, 0, [], rs2, j⟩, rfl, ⟨hp3, fun f hf => (by cases hf), Nat.zero_le _, fun y hy => (by rw [hbad] at hy; cases hy)⟩, hM.keep (ks := [(0, 999)]) (by repeat (first | exact kl_rest (by assumption) rfl | (apply kl_in; focus rfl))) _ ⟨rfl, rfl, rfl, trivial⟩⟩
  try simp only [nrm] at h112
  have hnt : ¬ (z.ls.drop j = [] ∧ (Lib.hasPrefix z.tl atB = true ∨ Lib.hasPrefix z.tl dotB = true)) := by
    rintro ⟨h1, h2⟩
    have h3 := List.drop_eq_nil_iff.1 h1
    rcases h112 with (h | h) | h
    · omega
    · omega
    · rcases h2 with h2 | h2
      · exact absurd (h.1.symm.trans h2) (by decide)
      · exact absurd (h.2.symm.trans h2) (by decide)
  refine kgs ?_
  refine tx ?_
  refine sr 4 ?_
  refine s1 (y_nilCheck rfl rfl) ?_
  refine s1 (yF fa203_1) ?_
  refine s1 (yL 901 Tryz.underlying3) ?_
  refine S_callM 125 [(900, 900), (904, 904), (906, 6), (951, 951)] (X := Unit) rfl rfl rfl rfl rfl rfl rfl cf233 rfl (fun _ => .int .i64 (if l.map pfl ≠ [] ∧ 2 ≤ shQ (lastF (l.map pfl)) fr then ((i + 2 + fr.length - shQ (lastF (l.map pfl)) fr : Nat) : Int) else 0)) (fun _ => True) (fun _ => [(900, .many rs2), (904, flI A c l), (906, flB b6 x.1 x.2 B d fr), (951, frI B d fr)]) (fun _ => rfl) (fun _ => rfl) (fun K1 hK1 w hM => sharesN_any hK1 rs2 A c l (by omega) hp4 b6 x.1 x.2 B d fr (by omega) (i + 2) (by omega) _ w hM) ?_
  intro _ _
  refine sr 1 ?_
  refine sgx ?_
  refine sr 2 ?_
  refine sgo ?_
  refine T_cond rfl ?_ ?_ <;> intro h127
  · skip
    have hC := sh_gt h127
    have hr := hfq.trans (restQ_sh h58 hnt hC)
    have hbad : innerQ z.tl (z.q + 1) [] z.ls 0 = .inr (i + 2 + fr.length - shQ (lastF (l.map pfl)) fr) := by rw [hp5, hk]; exact innerQ_bad hr
    rw [if_pos hC]
    refine tx ?_
    refine sr 3 ?_
    refine sgo ?_
    refine tr2 hRb fun w hM => ?_
    rw [hbad]
    have hM := hM.add 904 (flI none 0 []) rfl (World.ownsRow_nil _ _ _ _)
    exact ⟨⟨none, 0, [], rs2, j⟩, rfl, ⟨hp3, fun f hf => (by cases hf), Nat.zero_le _, fun y hy => (by rw [hbad] at hy; cases hy)⟩, hM.keep (ks := [(0, 999)]) (by repeat (first | exact kl_rest (by assumption) rfl | (apply kl_in; focus rfl))) _ ⟨rfl, rfl, rfl, trivial⟩⟩
  have hC := sh_le (by have := shQ_le (lastF (l.map pfl)) fr; omega) h127
  have hr := hfq.trans (restQ_go h58 hnt hC)
  refine kgx ?_
  refine sr 1 ?_
  refine s1 (yA 6 rfl Tryz.underlying36 sz36) ?_
  refine S_buildSlice 131 131 rfl rfl rfl rfl rfl Tryz.underlying22 inf36 rfl (by decide) (by decide) rfl rfl (by decide) rfl (_) rfl ?_
  intro b131
  refine S_bank [(951, 951), (900, 900)] 900 951 rfl rfl rfl rfl (by repeat (first | exact kl_nil | exact kl_rest (by assumption) rfl | (apply kl_in; focus rfl) | (apply kl_out; focus rfl))) ?_
  obtain ⟨i132, hi132, hz132, hs132, hy132⟩ := info_parts inf36
  refine S_append 132 904 131 rfl rfl rfl rfl rfl rfl rfl rfl Tryz.underlying22 hi132 hz132 hs132 hy132 rfl (by decide) (by decide) rfl ?_ ?_ (_) ((l ++ [(⟨x.1, x.2, ⟨B, fr.length, d, fr⟩⟩ : Flt)]).flatMap Flt.enc) rfl ?_ ?_
  · (simp only [maxLen]; omega)
  · omega
  · rw [List.flatMap_append]; rfl
  intro A132 c132
  refine sr 1 ?_
  refine sgs ?_
  refine T_seq ?_
  refine T_draws (by kernel_rfl) (by kernel_rfl) ?_
  refine d1 (y_move rfl rfl) ?_
  refine d1 (y_nilCheck rfl rfl) ?_
  refine d1 (yF fa203_1) ?_
  refine d1 (yL 901 Tryz.underlying3) ?_
  refine d1 (y_move rfl rfl) ?_
  refine d1 (y_nilCheck rfl rfl) ?_
  refine d1 (yF fa203_0) ?_
  refine d1 (yL 901 Tryz.underlying53) ?_
  refine d1 (y_len_slice rfl rfl Tryz.underlying53) ?_
  refine d1 (y_bin rfl rfl rfl (fun _ => b_eql)) ?_
  refine dgo ?_
  refine T_cond rfl ?_ ?_ <;> intro h142
  · try simp only [nrm] at h142
    have hdr : z.ls.drop j = [] := List.drop_eq_nil_of_le (by omega)
    refine tx ?_
    refine sr 3 ?_
    refine sgo ?_
    refine tr2 hRb fun w hM => ?_
    have hfin : innerQ z.tl (z.q + 1) [] z.ls 0 = .inl ((l ++ [(⟨x.1, x.2, ⟨B, fr.length, d, fr⟩⟩ : Flt)]).map pfl) := by rw [hp5, hk, List.map_append]; exact innerQ_end (hr.trans (by rw [hdr]; rfl))
    rw [hfin]
    exact ⟨⟨A132, c132, l ++ [(⟨x.1, x.2, ⟨B, fr.length, d, fr⟩⟩ : Flt)], rs2 ++ [(⟨45, 6, .slice B fr.length d, fr.length, fr.flatMap Frm.enc⟩ : Row)], j⟩, by rw [List.length_append]; rfl, ⟨fun r hr => List.mem_append_left _ (hp3 r hr), fun f hf => by
      rcases List.mem_append.1 hf with h | h
      · exact (hp4 f h).app
      · rw [List.mem_singleton.1 h]
        exact ((Sees.row (List.mem_append_right _ (List.mem_singleton.2 rfl)) rfl).map fun w h => ⟨h, by show fr.length ≤ 2000000; omega⟩), by rw [List.length_append]; show l.length + 1 ≤ _; omega, fun y2 hy2 => (by rw [hfin] at hy2; exact Sum.inl.inj hy2)⟩, hM.keep (ks := [(0, 999)]) (by repeat (first | exact kl_rest (by assumption) rfl | (apply kl_in; focus rfl))) _ ⟨rfl, rfl, by rw [flI_snoc]; rfl, trivial⟩⟩
  try simp only [nrm] at h142
  have hdr : z.ls.drop j ≠ [] := fun e => by have := List.drop_eq_nil_iff.1 e; omega
  refine kgr ?_
  refine sr 1 ?_
  refine S_nil (nK5 (kf := [(2, 143)]) (kl := [(2, 143), (900, 901), (904, 904)]) (j) A132 c132 (l ++ [(⟨x.1, x.2, ⟨B, fr.length, d, fr⟩⟩ : Flt)]) (rs2 ++ [(⟨45, 6, .slice B fr.length d, fr.length, fr.flatMap Frm.enc⟩ : Row)]) ?_ ?_ ?_ ?_)
  · omega
  · exact ⟨by omega, by rw [List.length_append]; show l.length + 1 ≤ _; omega, fun r hr => List.mem_append_left _ (hp3 r hr), fun f hf => by
      rcases List.mem_append.1 hf with h | h
      · exact (hp4 f h).app
      · rw [List.mem_singleton.1 h]
        exact ((Sees.row (List.mem_append_right _ (List.mem_singleton.2 rfl)) rfl).map fun w h => ⟨h, by show fr.length ≤ 2000000; omega⟩), by rw [hp5, hk, List.map_append, List.length_append, show z.q + 1 - (l.length + [(⟨x.1, x.2, ⟨B, fr.length, d, fr⟩⟩ : Flt)].length) = k from by (show z.q + 1 - (l.length + 1) = k); omega]; exact innerQ_go hr hdr⟩
  · exact ⟨by rw [List.length_append]; rfl, by rw [preQ_snoc]; rfl, trivial⟩
  · exact ⟨rfl, rfl, by rw [flI_snoc]; rfl, trivial⟩
end Go.Proofs.YtgbldojgbpgjbaaGreatDoor
end
section
namespace Go.Proofs.YtgbldojgbpgjbaaGreatDoor
set_option linter.unusedSimpArgs false
set_option linter.unusedVariables false
set_option maxRecDepth 20000
open Go.RowKit Go.Eng
theorem frsQ_wrong : ∀ {ls : List (List UInt8)} {i : Nat} {acc : List Frm} {e : Nat}, frsQ ls i acc = .inl e → 0 < e
  | [], i, acc, e, h => by cases h
  | l :: r, i, acc, e, h => by
    rw [frsQ] at h
    split at h
    · split at h
      · exact frsQ_wrong h
      · cases h; omega
    · cases h
theorem frsQ_less : ∀ {ls ls' : List (List UInt8)} {i j : Nat} {acc fr : List Frm}, frsQ ls i acc = .inr (fr, ls', j) → ls'.length ≤ ls.length
  | [], ls', i, j, acc, fr, h => by cases h; exact Nat.le_refl _
  | l :: r, ls', i, j, acc, fr, h => by
    rw [frsQ] at h
    split at h
    · split at h
      · have := frsQ_less h; rw [List.length_cons]; omega
      · cases h
    · cases h; exact Nat.le_refl _
theorem restQ_wrong {b : List PFl} {tl : List UInt8} {i : Nat} {k t : List UInt8} {fr : List Frm} {ls : List (List UInt8)} {j e : Nat} (h : restQ b tl i k t fr ls j = .inl e) : 0 < e := by
  unfold restQ at h
  split at h
  · split at h
    · cases h; omega
    · cases h
  · split at h
    · cases h; omega
    · split at h
      · have := shQ_le (lastF b) fr
        cases h; omega
      · cases h
theorem restQ_less {b : List PFl} {tl : List UInt8} {i : Nat} {k t : List UInt8} {fr : List Frm} {ls ls' : List (List UInt8)} {j j' : Nat} {x : PFl} (h : restQ b tl i k t fr ls j = .inr (x, ls', j')) : ls'.length ≤ ls.length := by
  unfold restQ at h
  split at h
  · split at h
    · cases h
    · cases h; rw [List.length_tail]; omega
  · split at h
    · cases h
    · split at h
      · cases h
      · cases h; exact Nat.le_refl _
theorem faultQ_wrong {b : List PFl} {tl : List UInt8} {i : Nat} {ls : List (List UInt8)} {e : Nat} (h : faultQ b tl i ls = .inl e) : 0 < e := by
  cases hk : fhQ ls (preQ b) with
  | none => rw [faultQ_no hk] at h; cases h; omega
  | some x =>
    rw [faultQ_yes (k := x.1) (t := x.2) hk] at h
    cases hf : frsQ (ls.drop 1) (i + 1) [] with
    | inl e2 => rw [hf] at h; cases h; exact frsQ_wrong hf
    | inr y => rw [hf] at h; exact restQ_wrong h
theorem faultQ_less {b : List PFl} {tl : List UInt8} {i j : Nat} {ls ls' : List (List UInt8)} {x : PFl} (h : faultQ b tl i ls = .inr (x, ls', j)) : ls'.length < ls.length := by
  cases hk : fhQ ls (preQ b) with
  | none => rw [faultQ_no hk] at h; cases h
  | some y =>
    rw [faultQ_yes (k := y.1) (t := y.2) hk] at h
    have hb := fhQ_beg hk
    cases ls with
    | nil => cases hb
    | cons l r =>
      rw [show (l :: r).drop 1 = r from rfl] at h
      cases hf : frsQ r (i + 1) [] with
      | inl e2 => rw [hf] at h; cases h
      | inr z =>
        rw [hf] at h
        have h1 := frsQ_less hf
        have h2 := restQ_less h
        rw [List.length_cons]; omega
theorem innerQ_pos {tl : List UInt8} : ∀ (f : Nat) {b : List PFl} {ls : List (List UInt8)} {i n : Nat}, ls.length < f → innerQ tl f b ls i = .inr n → 0 < n
  | 0, b, ls, i, n, hf, h => by omega
  | f + 1, b, ls, i, n, hf, h => by
    cases hq : faultQ b tl i ls with
    | inl e => rw [innerQ_bad hq] at h; cases h; exact faultQ_wrong hq
    | inr y =>
      obtain ⟨x, ls', j⟩ := y
      have hl := faultQ_less hq
      by_cases hn : ls' = []
      · subst hn; rw [innerQ_end hq] at h; cases h
      · rw [innerQ_go hq hn] at h; exact innerQ_pos f (by omega) h
/-- what Read says of a text -/
def innerS (s : List UInt8) : List PFl ⊕ Nat := innerQ (tlQ s) ((lsQ s).length + 1) [] (lsQ s) 0
theorem innerS_pos {s : List UInt8} {n : Nat} (h : innerS s = .inr n) : 0 < n := innerQ_pos _ (Nat.lt_succ_self _) h
theorem innerS_ne {s : List UInt8} {b : List PFl} (h : innerS s = .inl b) : 0 < s.length := by
  cases s with
  | nil => cases h
  | cons a r => exact Nat.succ_pos _
def rdW (s : List UInt8) : Nat := match innerS s with
  | .inl _ => if s.getD (s.length - 1) 0 = 10 then 0 else (lsQ s).length + 1
  | .inr n => n
/-! ### What is read is no longer than the text -/
theorem plC_fi {fi : List UInt8} {ln : Nat} {ad : Int} {p : PPl} : ∀ {ws : List (List UInt8)}, plC fi ln ad ws = some p → p.fi = fi
  | [], h => by cases h; rfl
  | [w], h => by
    rw [plC] at h
    split at h
    · cases h; rfl
    · cases h
  | _ :: _ :: _, h => by cases h
theorem plB_fi {fi : List UInt8} {ln : Nat} {p : PPl} : ∀ {ws : List (List UInt8)}, plB fi ln ws = some p → p.fi = fi
  | [], h => by cases h; rfl
  | w :: r, h => by
    rw [plB] at h
    split at h
    · split at h
      · exact plC_fi h
      · cases h
    · exact plC_fi h
theorem fileQ_fi {w fi : List UInt8} {ln : Nat} (h : fileQ w = some (fi, ln)) : fi.length ≤ w.length := by
  by_cases h1 : (Lib.hasSuffix (w.drop 1) [41] = false ∨ (prL w).1 = []) ∨ wordOk marks (prL w).1 = false
  · rw [fileQ_no h1] at h; cases h
  · simp only [not_or] at h1
    rw [fileQ_yes (by simpa using h1.1.1) h1.1.2 (by simpa using h1.2)] at h
    have hl : (prL w).1.length ≤ w.length := by
      have e1 := cut_le 58 (Lib.trimSuffix (w.drop 1) [41])
      have e2 := trimS_le (w.drop 1) [41]
      rw [List.length_drop] at e2
      show (cutC 58 (Lib.trimSuffix (w.drop 1) [41])).1.length ≤ _
      omega
    split at h
    · split at h
      · cases h; exact hl
      · cases h
    · cases h; exact hl
theorem placeQ_fi {n : Nat} {p : PPl} : ∀ {ws : List (List UInt8)}, (∀ w ∈ ws, w.length ≤ n) → placeQ ws = some p → p.fi.length ≤ n
  | [], _, h => by cases h; exact Nat.zero_le _
  | w :: r, hs, h => by
    rw [placeQ] at h
    split at h
    · split at h
      · rename_i fi ln hf
        rw [plB_fi h]
        have := fileQ_fi hf
        have := hs w (List.mem_cons_self ..)
        omega
      · cases h
    · rw [plB_fi h]; exact Nat.zero_le _
def FrS (n : Nat) (x : Frm) : Prop := x.m.length ≤ n ∧ x.f.length ≤ n ∧ x.fi.length ≤ n
theorem frameQ_short {s : List UInt8} {x : Frm} (h : frameQ s = some x) : FrS s.length x := by
  cases hc : callOk ((splitC 32 s).headD []) with
  | false => rw [frameQ_no hc] at h; cases h
  | true =>
    rw [frameQ_yes hc] at h
    obtain ⟨p, hp1, hp2⟩ := Option.map_eq_some_iff.1 h
    have h0 : ∀ w ∈ splitC 32 s, w.length ≤ s.length := fun w hw => split_short hw
    have h1 := hd_short h0
    have h2 := callM_le ((splitC 32 s).headD [])
    have h3 := placeQ_fi (n := s.length) (fun w hw => h0 w (List.mem_of_mem_drop hw)) hp1
    rw [← hp2]
    exact ⟨by show (callM _).1.length ≤ _; omega, by show (callM _).2.length ≤ _; omega, h3⟩
theorem headQ_short {s k t : List UInt8} (h : headQ s = some (k, t)) : k.length ≤ s.length ∧ t.length ≤ s.length := by
  have hl := cut_le 58 s
  unfold headQ at h
  dsimp only at h
  split at h
  · cases h
  · split at h
    · cases h; exact ⟨hl.1, Nat.zero_le _⟩
    · split at h
      · cases h; exact ⟨hl.1, by rw [List.length_drop]; omega⟩
      · cases h
def FlS (n : Nat) (x : PFl) : Prop := x.k.length ≤ n ∧ x.t.length ≤ n ∧ ∀ f ∈ x.fr, FrS n f
theorem FrS.le {a b : Nat} {x : Frm} (h : FrS a x) (hl : a ≤ b) : FrS b x := ⟨Nat.le_trans h.1 hl, Nat.le_trans h.2.1 hl, Nat.le_trans h.2.2 hl⟩
theorem frsQ_short {n : Nat} : ∀ {ls ls' : List (List UInt8)} {i j : Nat} {acc fr : List Frm}, (∀ l ∈ ls, l.length ≤ n) → (∀ f ∈ acc, FrS n f) → frsQ ls i acc = .inr (fr, ls', j) → (∀ f ∈ fr, FrS n f) ∧ ∀ l ∈ ls', l.length ≤ n
  | [], ls', i, j, acc, fr, hs, ha, h => by cases h; exact ⟨ha, fun _ h => (by cases h)⟩
  | l :: r, ls', i, j, acc, fr, hs, ha, h => by
    rw [frsQ] at h
    split at h
    · split at h
      · rename_i x hx
        refine frsQ_short (fun l2 h2 => hs l2 (List.mem_cons_of_mem _ h2)) (fun f hf => ?_) h
        rcases List.mem_append.1 hf with h1 | h1
        · exact ha f h1
        · rw [List.mem_singleton.1 h1]
          have e := hs l (List.mem_cons_self ..)
          exact (frameQ_short hx).le (by rw [List.length_drop]; omega)
      · cases h
    · cases h; exact ⟨ha, hs⟩
theorem lastF_short {n : Nat} {b : List PFl} (hb : ∀ p ∈ b, FlS n p) : ∀ f ∈ lastF b, FrS n f := by
  unfold lastF
  cases hl : b.getLast? with
  | none => exact fun _ h => (by cases h)
  | some x => exact (hb x (List.mem_of_getLast? hl)).2.2
theorem joinF_short {n k : Nat} {b : List PFl} {fr y : List Frm} (hb : ∀ p ∈ b, FlS n p) (hf : ∀ f ∈ fr, FrS n f) (h : joinF b fr k = some y) : ∀ f ∈ y, FrS n f := by
  unfold joinF at h
  split at h
  · cases h
  · split at h
    · rw [← Option.some.inj h]
      intro f hf2
      rcases List.mem_append.1 hf2 with h1 | h1
      · exact hf f h1
      · exact lastF_short hb f (List.mem_of_mem_drop h1)
    · cases h
theorem restQ_short {n : Nat} {b : List PFl} {tl : List UInt8} {i : Nat} {k t : List UInt8} {fr : List Frm} {ls ls' : List (List UInt8)} {j j' : Nat} {x : PFl} (hb : ∀ p ∈ b, FlS n p) (hk : k.length ≤ n) (ht : t.length ≤ n) (hf : ∀ f ∈ fr, FrS n f) (hs : ∀ l ∈ ls, l.length ≤ n)
    (h : restQ b tl i k t fr ls j = .inr (x, ls', j')) : FlS n x ∧ ∀ l ∈ ls', l.length ≤ n := by
  unfold restQ at h
  split at h
  · split at h
    · cases h
    · rename_i y hy
      obtain ⟨m, _, hm⟩ := Option.bind_eq_some_iff.1 hy
      cases h
      exact ⟨⟨hk, ht, joinF_short hb hf hm⟩, fun l hl => hs l (List.mem_of_mem_tail hl)⟩
  · split at h
    · cases h
    · split at h
      · cases h
      · cases h; exact ⟨⟨hk, ht, hf⟩, hs⟩
theorem faultQ_short {n : Nat} {b : List PFl} {tl : List UInt8} {i j : Nat} {ls ls' : List (List UInt8)} {x : PFl} (hb : ∀ p ∈ b, FlS n p) (hs : ∀ l ∈ ls, l.length ≤ n) (h : faultQ b tl i ls = .inr (x, ls', j)) : FlS n x ∧ ∀ l ∈ ls', l.length ≤ n := by
  cases hk : fhQ ls (preQ b) with
  | none => rw [faultQ_no hk] at h; cases h
  | some y =>
    rw [faultQ_yes (k := y.1) (t := y.2) hk] at h
    have hbg := fhQ_beg hk
    rw [fhQ, if_pos hbg] at hk
    have hh := headQ_short hk
    have hx := nxV_short (p := preQ b) hs
    cases hf : frsQ (ls.drop 1) (i + 1) [] with
    | inl e2 => rw [hf] at h; cases h
    | inr z =>
      obtain ⟨z1, z2, z3⟩ := z
      rw [hf] at h
      have h1 := frsQ_short (n := n) (fun l hl => hs l (List.mem_of_mem_drop hl)) (fun _ h => (by cases h)) hf
      exact restQ_short hb (by omega) (by omega) h1.1 h1.2 h
theorem innerQ_short {n : Nat} {tl : List UInt8} : ∀ (f : Nat) {b r : List PFl} {ls : List (List UInt8)} {i : Nat}, (∀ p ∈ b, FlS n p) → (∀ l ∈ ls, l.length ≤ n) → innerQ tl f b ls i = .inl r → ∀ p ∈ r, FlS n p
  | 0, b, r, ls, i, hb, hs, h => by cases h
  | f + 1, b, r, ls, i, hb, hs, h => by
    cases hq : faultQ b tl i ls with
    | inl e => rw [innerQ_bad hq] at h; cases h
    | inr y =>
      obtain ⟨x, ls', j⟩ := y
      obtain ⟨h1, h2⟩ := faultQ_short hb hs hq
      have h3 : ∀ p ∈ b ++ [x], FlS n p := fun p hp => by
        rcases List.mem_append.1 hp with h | h
        · exact hb p h
        · rw [List.mem_singleton.1 h]; exact h1
      by_cases hn : ls' = []
      · subst hn; rw [innerQ_end hq] at h; cases h; exact h3
      · rw [innerQ_go hq hn] at h; exact innerQ_short f h3 h2 h
theorem lsQ_short {s l : List UInt8} (h : l ∈ lsQ s) : l.length ≤ s.length := split_short (List.mem_of_mem_take h)
theorem innerS_short {s : List UInt8} {r : List PFl} (h : innerS s = .inl r) : ∀ p ∈ r, FlS s.length p := innerQ_short _ (fun _ h => (by cases h)) (fun _ hl => lsQ_short hl) h
/-! ### The walks -/
structure RdR where
  A : Option Addr
  c : Nat
  l : List Flt
  rs : List Row
structure RdOk (w0 : World) (s : List UInt8) (x : RdR) : Prop where
  ok : ∀ f ∈ x.l, Sees w0 x.rs fun w => FlR w f
  few : x.l.length ≤ 1000000
  says : ∀ y, innerS s = .inl y → x.l.map pfl = y
def isL (s : List UInt8) : Bool := match innerS s with | .inl _ => true | .inr _ => false
theorem isL_t {s : List UInt8} (h : isL s = true) : ∃ b, innerS s = .inl b := by
  unfold isL at h
  split at h
  · exact ⟨_, by assumption⟩
  · cases h
theorem isL_f {s : List UInt8} (h : isL s = false) : ∃ n, innerS s = .inr n ∧ 0 < n := by
  unfold isL at h
  split at h
  · cases h
  · exact ⟨_, by assumption, innerS_pos (by assumption)⟩
theorem inW_t {s : List UInt8} (h : isL s = true) : inW (innerS s) = 0 := by obtain ⟨b, hb⟩ := isL_t h; rw [hb]; rfl
theorem inW_f {s : List UInt8} (h : isL s = false) : inW (innerS s) ≠ 0 := by obtain ⟨n, hn, h0⟩ := isL_f h; rw [hn]; show (n : Int) ≠ 0; omega
theorem rdW_f {s : List UInt8} (h : isL s = false) : ((rdW s : Nat) : Int) = inW (innerS s) := by obtain ⟨n, hn, h0⟩ := isL_f h; rw [rdW, hn]; rfl
theorem rdW_t {s : List UInt8} (h : isL s = true) : rdW s = if s.getD (s.length - 1) 0 = 10 then 0 else (lsQ s).length + 1 := by obtain ⟨b, hb⟩ := isL_t h; rw [rdW, hb]
theorem byte_neT {c : UInt8} (h : (!decide (((c.toNat : Nat) : Int) = 10)) = true) : ¬ c = 10 := by
  simp only [Bool.not_eq_true', decide_eq_false_iff_not] at h
  rintro rfl
  exact h rfl
theorem byte_neF {c : UInt8} (h : (!decide (((c.toNat : Nat) : Int) = 10)) = false) : c = 10 := by
  simp only [Bool.not_eq_false', decide_eq_true_eq] at h
  exact UInt8.toNat_inj.1 (by show c.toNat = 10; omega)
set_option maxHeartbeats 1600000 in
theorem sread_any {w0 : World} {K : HL} (hK : FromK K) (s : List UInt8) (hs : s.length ≤ 1000000) (w : World) (hM0 : Mem w0 ([] ++ K) w) :
    Calls Tryz.prog 83 #[str s, .int .i64 1] w fun e w' => ∃ x : RdR, e = .returned (.tuple #[.slice x.A x.l.length x.c, .int .i64 ((rdW s : Nat) : Int)]) ∧ RdOk w0 s x ∧ Mem w0 ([(900, .many x.rs), (904, flI x.A x.c x.l)] ++ K) w' := by
  refine enterM_args (args := [str s, .int .i64 1]) (F := _) hM0 Tryz.func83 rfl Tryz.ntmps83 rfl rfl ?_
  intro Rb hRb hRn
  refine tx ?_
  refine S_nilSlice 4 (e := 36) (size := 3) ?_
  refine sr 2 ?_
  refine sgx ?_
  refine sr 1 ?_
  refine S_callN 10 [] [(900, 900), (18, 901)] (X := NwR) rfl rfl rfl rfl rfl rfl rfl cf174 rfl (fun x => ptrH x.b) (fun x => SrcOk w0 [x.r] x.z ∧ x.z.ls = lsQ s ∧ x.z.tl = tlQ s) (fun x => [(900, .many [x.r]), (18, srI x.b x.z 0)]) (fun _ => rfl) (fun _ => rfl) (fun K1 hK1 w hM => newSource_any hK1 s hs w hM) ?_
  intro x hx
  have hql : x.z.q = (lsQ s).length := by rw [← hx.1.len, hx.2.1]
  have hqf := hx.1.few
  have hiq : innerQ x.z.tl (x.z.q + 1) [] x.z.ls 0 = innerS s := by rw [hql, hx.2.1, hx.2.2]; rfl
  refine sr 1 ?_
  refine sgx ?_
  refine sr 1 ?_
  refine sgx ?_
  refine sr 1 ?_
  refine sgs ?_
  refine tx ?_
  refine sr 1 ?_
  refine sgo ?_
  refine T_block ?_
  refine tx ?_
  refine sr 2 ?_
  refine sgo ?_
  refine T_cond rfl ?_ ?_ <;> intro h17
  · skip
    refine T_region ?_
    refine sr 1 ?_
    refine S_callN 21 [(900, 900), (901, 901)] [(904, 904)] (X := InR) rfl rfl rfl rfl rfl rfl rfl cf175 rfl (fun y => .tuple #[.slice y.A y.l.length y.c, .int .i64 (inW (innerS s))]) (fun y => InOk w0 [x.r] x.z y) (fun y => [(900, .many y.rs), (901, srI x.b x.z y.j), (904, flI y.A y.c y.l)]) (fun _ => rfl) (fun _ => rfl) (fun K1 hK1 w hM => by have h := readInner_any hK1 x.b [x.r] x.z hx.1 w hM; rw [hiq] at h; exact h) ?_
    intro y hy
    have hys := hy.says
    rw [hiq] at hys
    have hyf := hy.few
    have hok : RdOk w0 s ⟨y.A, y.c, y.l, y.rs⟩ := ⟨hy.ok, by show y.l.length ≤ _; omega, hys⟩
    refine sr 5 ?_
    refine sgs ?_
    refine tx ?_
    refine sr 2 ?_
    rcases Bool.eq_false_or_eq_true (isL s) with hb | hb
    · skip
      obtain ⟨bb, hbb⟩ := isL_t hb
      have hs0 := innerS_ne hbb
      refine s1 (y_as (v' := .bool true) (by exact congrArg Value.bool (decide_eq_true (inW_t hb))) (y_move rfl rfl)) ?_
      refine sg rfl (y_move rfl rfl) ?_
      refine sg rfl (y_move rfl rfl) ?_
      refine sg rfl (y_len_str rfl rfl Tryz.underlying9) ?_
      refine sg rfl (y_bin rfl rfl rfl (fun hg => b_subv (((s.length - 1 : Nat) : Int)) (by simp only [Bool.true_and, Bool.and_eq_true, beq_iff_eq, decide_eq_true_eq, decide_eq_false_iff_not, Int.not_lt, Int.not_le] at hg; omega) (by simp only [Bool.true_and, Bool.and_eq_true, beq_iff_eq, decide_eq_true_eq, decide_eq_false_iff_not, Int.not_lt, Int.not_le] at hg; omega))) ?_
      refine sg rfl (y_index_str rfl rfl rfl Tryz.underlying9 (fun hg => by simp only [Bool.true_and, Bool.and_eq_true, beq_iff_eq, decide_eq_true_eq, decide_eq_false_iff_not, Int.not_lt, Int.not_le] at hg; omega)) ?_
      refine sg rfl (y_bin rfl rfl rfl (fun _ => b_neq)) ?_
      refine s1 (y_and rfl rfl rfl) ?_
      refine sgo ?_
      refine T_cond rfl ?_ ?_ <;> intro h40
      · skip
        have hr : rdW s = (lsQ s).length + 1 := by rw [rdW_t hb, if_neg (byte_neT h40)]
        refine T_region ?_
        refine sr 1 ?_
        refine s1 (y_nilCheck rfl rfl) ?_
        refine s1 (yF fa203_0) ?_
        refine s1 (yL 901 Tryz.underlying53) ?_
        refine s1 (y_len_slice rfl rfl Tryz.underlying53) ?_
        refine s1 (y_bin rfl rfl rfl (fun hg => b_addv ((((lsQ s).length + 1 : Nat) : Int)) (by omega) (by omega))) ?_
        refine sr 1 ?_
        refine sgx ?_
        refine sr 4 ?_
        refine sgo ?_
        refine tr2 hRb fun w hM => ?_
        rw [hr]
        exact ⟨⟨y.A, y.c, y.l, y.rs⟩, rfl, hok, hM.keep (ks := [(0, 999)]) (by repeat (first | exact kl_rest (by assumption) rfl | (apply kl_in; focus rfl))) _ ⟨rfl, rfl, trivial⟩⟩
      have hr : rdW s = 0 := by rw [rdW_t hb, if_pos (byte_neF h40)]
      refine kgx ?_
      refine sr 4 ?_
      refine sgo ?_
      refine tr2 hRb fun w hM => ?_
      rw [hr, inW_t hb]
      exact ⟨⟨y.A, y.c, y.l, y.rs⟩, rfl, hok, hM.keep (ks := [(0, 999)]) (by repeat (first | exact kl_rest (by assumption) rfl | (apply kl_in; focus rfl))) _ ⟨rfl, rfl, trivial⟩⟩
    · skip
      refine s1 (y_as (v' := .bool false) (by exact congrArg Value.bool (decide_eq_false (inW_f hb))) (y_move rfl rfl)) ?_
      refine S_skip 34 rfl rfl rfl rfl rfl rfl rfl ?_
      refine S_skip 35 rfl rfl rfl rfl rfl rfl rfl ?_
      refine S_skip 36 rfl rfl rfl rfl rfl rfl rfl ?_
      refine S_skip 37 rfl rfl rfl rfl rfl rfl rfl ?_
      refine S_skip 38 rfl rfl rfl rfl rfl rfl rfl ?_
      refine S_skip 39 rfl rfl rfl rfl rfl rfl rfl ?_
      refine s1 (y_pickF rfl rfl rfl) ?_
      refine sgo ?_
      refine T_cond rfl ?_ ?_ <;> intro h40
      · skip
        cases h40
      refine kgx ?_
      refine sr 4 ?_
      refine sgo ?_
      refine tr2 hRb fun w hM => ?_
      rw [rdW_f hb]
      exact ⟨⟨y.A, y.c, y.l, y.rs⟩, rfl, hok, hM.keep (ks := [(0, 999)]) (by repeat (first | exact kl_rest (by assumption) rfl | (apply kl_in; focus rfl))) _ ⟨rfl, rfl, trivial⟩⟩
  simp at h17
/-! ### What Check says of what was read -/
def pflNo (f : PFl) : Int := if (200 : Int) < f.k.length then 4 else if wordOk [58] f.k = false then 9 else if f.k = [] then 1 else if sayNo f.t ≠ 0 then sayNo f.t else if (200 : Int) < f.fr.length then 4 else frmsNo f.fr
def pflsNo : List PFl → Int
  | [] => 0
  | f :: r => if pflNo f ≠ 0 then pflNo f else pflsNo r
def pNo (b : List PFl) : Int := if b.length = 0 then 7 else if (10 : Int) < b.length then 4 else pflsNo b
theorem fltNo_p {f : Flt} (h : f.fr.q = f.fr.l.length) : fltNo f = pflNo (pfl f) := by
  unfold fltNo pflNo framesNo
  rw [h]; rfl
theorem fltsNo_p : ∀ {l : List Flt}, (∀ f ∈ l, f.fr.q = f.fr.l.length) → fltsNo l = pflsNo (l.map pfl)
  | [], _ => rfl
  | f :: r, h => by
    rw [fltsNo, List.map_cons, pflsNo, fltNo_p (h f (List.mem_cons_self ..)), fltsNo_p fun g hg => h g (List.mem_cons_of_mem _ hg)]
theorem faultsNo_p {A : Option Addr} {c : Nat} {l : List Flt} (h : ∀ f ∈ l, f.fr.q = f.fr.l.length) : faultsNo ⟨A, l.length, c, l⟩ = pNo (l.map pfl) := by
  unfold faultsNo pNo
  rw [List.length_map, fltsNo_p h]
def sNo (s : List UInt8) : Int := if 0 < rdW s then 8 else match innerS s with | .inl b => pNo b | .inr _ => 0
def sL (s : List UInt8) : List PFl := if 0 < rdW s then [] else match innerS s with | .inl b => if pNo b = 0 then b else [] | .inr _ => []
theorem rdW_ok {s : List UInt8} (h : ¬ 0 < rdW s) : ∃ b, innerS s = .inl b := by
  cases hi : innerS s with
  | inl b => exact ⟨b, rfl⟩
  | inr n => exact absurd (by rw [rdW, hi]; exact innerS_pos hi) h
theorem fltOk_of {w : World} {f : Flt} (h : FlR w f) (hs : FlS 1000000 (pfl f)) : FltOk w f :=
  ⟨Nat.le_trans hs.1 (by decide), Nat.le_trans hs.2.1 (by decide), h.ok, Nat.le_trans h.few (by decide), fun g hg => ⟨Nat.le_trans (hs.2.2 g hg).1 (by decide), Nat.le_trans (hs.2.2 g hg).2.1 (by decide), Nat.le_trans (hs.2.2 g hg).2.2 (by decide)⟩⟩
structure SrR (w0 : World) (s : List UInt8) (x : RdR) : Prop where
  ok : ∀ f ∈ x.l, Sees w0 x.rs fun w => FltOk w f
  few : x.l.length ≤ 1000000
  says : x.l.map pfl = sL s
theorem FlS.up {n m : Nat} {x : PFl} (h : FlS n x) (hl : n ≤ m) : FlS m x := ⟨Nat.le_trans h.1 hl, Nat.le_trans h.2.1 hl, fun f hf => (h.2.2 f hf).le hl⟩
theorem RdOk.oks {w0 : World} {s : List UInt8} {x : RdR} (h : RdOk w0 s x) (hs : s.length ≤ 1000000) {b : List PFl} (hb : innerS s = .inl b) : ∀ f ∈ x.l, Sees w0 x.rs fun w => FltOk w f := fun f hf =>
  (h.ok f hf).map fun w hw => fltOk_of hw ((innerS_short hb (pfl f) (by rw [← h.says b hb]; exact List.mem_map_of_mem hf)).up hs)
set_option maxHeartbeats 1600000 in
theorem sRead_any {w0 : World} {K : HL} (hK : FromK K) (s : List UInt8) (hs : s.length ≤ 1000000) (w : World) (hM0 : Mem w0 ([] ++ K) w) :
    Calls Tryz.prog 38 #[str s, .int .i64 1] w fun e w' => ∃ x : RdR, e = .returned (.tuple #[.slice x.A x.l.length x.c, .int .i64 ((rdW s : Nat) : Int), .int .i64 (sNo s)]) ∧ SrR w0 s x ∧ Mem w0 ([(900, .many x.rs), (904, flI x.A x.c x.l)] ++ K) w' := by
  refine enterM_args (args := [str s, .int .i64 1]) (F := _) hM0 Tryz.func38 rfl Tryz.ntmps38 rfl rfl ?_
  intro Rb hRb hRn
  refine tx ?_
  refine sr 3 ?_
  refine sgs ?_
  refine T_block ?_
  refine tx ?_
  refine sr 1 ?_
  refine s1 (y_len_str rfl rfl Tryz.underlying9) ?_
  refine sr 2 ?_
  refine sgo ?_
  refine T_cond rfl ?_ ?_ <;> intro h10
  · try simp only [nrm] at h10
    omega
  try simp only [nrm] at h10
  refine tx ?_
  refine sr 1 ?_
  refine s1 (y_call rfl rfl rfl cf71 (fun _ w _ => soutside_any _ _ _ w)) ?_
  refine sr 1 ?_
  refine sgo ?_
  refine T_cond rfl ?_ ?_ <;> intro h14
  · skip
    simp at h14
  refine kgx ?_
  refine sr 2 ?_
  refine S_callN 20 [] [(900, 900), (904, 904)] (X := RdR) rfl rfl rfl rfl rfl rfl rfl cf83 rfl (fun x => .tuple #[.slice x.A x.l.length x.c, .int .i64 ((rdW s : Nat) : Int)]) (fun x => RdOk w0 s x) (fun x => [(900, .many x.rs), (904, flI x.A x.c x.l)]) (fun _ => rfl) (fun _ => rfl) (fun K1 hK1 w hM => sread_any hK1 s hs w hM) ?_
  intro x hx
  have hxf := hx.few
  refine sr 5 ?_
  refine sgs ?_
  refine tx ?_
  refine sr 2 ?_
  refine sgo ?_
  refine T_cond rfl ?_ ?_ <;> intro h24
  · try simp only [nrm] at h24
    have h0 : 0 < rdW s := by omega
    have hn : sNo s = 8 := if_pos h0
    have hl : sL s = [] := if_pos h0
    refine tx ?_
    refine sr 4 ?_
    refine sgo ?_
    refine tr3 hRb fun w hM => ?_
    rw [hn]
    have hM := hM.add 904 (flI none 0 []) rfl (World.ownsRow_nil _ _ _ _)
    exact ⟨⟨none, 0, [], x.rs⟩, rfl, ⟨fun f hf => (by cases hf), Nat.zero_le _, hl.symm⟩, hM.keep (ks := [(0, 999)]) (by repeat (first | exact kl_rest (by assumption) rfl | (apply kl_in; focus rfl))) _ ⟨rfl, rfl, trivial⟩⟩
  try simp only [nrm] at h24
  have h0 : ¬ 0 < rdW s := by omega
  obtain ⟨bb, hbb⟩ := rdW_ok h0
  have hoks := hx.oks hs hbb
  have hr0 : rdW s = 0 := by omega
  have hn : sNo s = pNo bb := by rw [sNo, if_neg h0, hbb]
  have hl : sL s = if pNo bb = 0 then bb else [] := by rw [sL, if_neg h0, hbb]
  have hsy := hx.says bb hbb
  refine T_knownP (p := ∀ f ∈ x.l, f.fr.q = f.fr.l.length) (fun w hM f hf => ((hoks f hf).at hM 900 rfl).fr.ok.t.len.symm) fun hfq => ?_
  have hfn : faultsNo ⟨x.A, x.l.length, x.c, x.l⟩ = pNo bb := by rw [faultsNo_p hfq, hsy]
  refine kgs ?_
  refine tx ?_
  refine sr 1 ?_
  refine s1 (y_call rfl rfl rfl cf21 (fun _ w hM => sCheck_any ⟨x.A, x.l.length, x.c, x.l⟩ w ⟨row_ok (hM.sat 904 _ rfl) rfl, by show x.l.length ≤ _; omega, fun f hf => (hoks f hf).at hM 900 rfl⟩)) ?_
  refine sr 1 ?_
  refine sgx ?_
  refine sr 2 ?_
  refine sgo ?_
  refine T_cond rfl ?_ ?_ <;> intro h29
  · try simp only [nrm] at h29
    rw [hfn] at h29
    rw [if_neg h29] at hl
    refine tx ?_
    refine sr 4 ?_
    refine sgo ?_
    refine tr3 hRb fun w hM => ?_
    rw [hn, hr0, ← hfn]
    have hM := hM.add 904 (flI none 0 []) rfl (World.ownsRow_nil _ _ _ _)
    exact ⟨⟨none, 0, [], x.rs⟩, rfl, ⟨fun f hf => (by cases hf), Nat.zero_le _, hl.symm⟩, hM.keep (ks := [(0, 999)]) (by repeat (first | exact kl_rest (by assumption) rfl | (apply kl_in; focus rfl))) _ ⟨rfl, rfl, trivial⟩⟩
  try simp only [nrm] at h29
  rw [hfn] at h29
  rw [if_pos h29] at hl
  refine kgx ?_
  refine sr 4 ?_
  refine sgo ?_
  refine tr3 hRb fun w hM => ?_
  rw [hn, hr0, h29]
  exact ⟨x, rfl, ⟨hoks, hxf, hsy.trans hl.symm⟩, hM.keep (ks := [(0, 999)]) (by repeat (first | exact kl_rest (by assumption) rfl | (apply kl_in; focus rfl))) _ ⟨rfl, rfl, trivial⟩⟩
end Go.Proofs.YtgbldojgbpgjbaaGreatDoor
end
section
namespace Go.Proofs.YtgbldojgbpgjbaaGreatDoor
set_option linter.unusedSimpArgs false
set_option linter.unusedVariables false
set_option maxRecDepth 20000
open Go.RowKit Go.Eng
def ixS (v : List UInt8) : List (List UInt8) → Int → Int
  | [], _ => -1
  | a :: r, k => if v = a then k else ixS v r (k + 1)
theorem ixS_le (v : List UInt8) : ∀ (l : List (List UInt8)) {k : Int}, 0 ≤ k → -1 ≤ ixS v l k ∧ ixS v l k < k + l.length
  | [], k, h => by rw [ixS]; simp; omega
  | a :: r, k, h => by
    rw [ixS, List.length_cons]
    have := ixS_le v r (k := k + 1) (by omega)
    split <;> push_cast <;> omega
theorem IndexSt_any (A : Option Addr) (q c : Nat) (l : List (List UInt8)) (v : List UInt8) (w : World) (hl : SlT strE 1 w A q l) (hq : q ≤ 4611686018427387904) :
    Calls Tryz.prog 132 #[.slice A q c, str v] w fun e w' => e = .returned (.int .i64 (ixS v l 0)) ∧ Below w.heap.size w w' := by
  refine enter_args (args := [.slice A q c, str v]) (F := _) Tryz.func132 rfl Tryz.ntmps132 rfl rfl ?_
  intro Rb hRb hRn
  refine tx ?_
  refine sr 1 ?_
  refine sgs ?_
  refine tx ?_
  refine sr 1 ?_
  refine s1 (y_len_slice rfl rfl Tryz.underlying53) ?_
  refine sr 1 ?_
  refine sgo ?_
  refine T_block ?_
  refine lK1 (kf := [(4, 5), (8, 18)]) (kl := [(4, 5), (8, 18)]) (fun (i : Nat) => [(8, true, .int .i64 (i : Int))]) (fun (i : Nat) => []) (fun (i : Nat) => i ≤ q ∧ ixS v l 0 = ixS v (l.drop i) i) (fun (i : Nat) => q - i) 0 ?_ ?_ ?_ ?_
  · exact ⟨by omega, rfl⟩
  · exact ⟨rfl, trivial⟩
  · exact trivial
  rintro i ⟨hp1, hp2⟩
  refine tx ?_
  refine sr 1 ?_
  refine sgs ?_
  refine T_cond rfl ?_ ?_ <;> intro h9
  · try simp only [nrm] at h9
    obtain ⟨x, hx1, hx2⟩ := hl.at (i := i) (by omega)
    rw [hx2, ixS] at hp2
    refine kgs ?_
    refine T_block ?_
    refine tx ?_
    refine sr 2 ?_
    refine sgx ?_
    refine sr 3 ?_
    refine s1 (y_indexAddr rfl rfl rfl Tryz.underlying53 sz9 (fun hg => hl.isSome (by omega)) (fun _ => by omega)) ?_
    refine s1 (y_loadT1 (val := (fun l : List UInt8 => str l)) rfl rfl hl (fun _ => hx1) Tryz.underlying9 rfl) ?_
    refine s1 (y_as (v' := .bool (decide (v = x))) (by exact rfl) (y_bin rfl rfl rfl (fun _ => b_eqls))) ?_
    refine sgo ?_
    refine T_cond rfl ?_ ?_ <;> intro h16
    · skip
      rw [if_pos (of_decide_eq_true h16)] at hp2
      refine tx ?_
      refine sr 2 ?_
      refine sgo ?_
      refine tr1 hRb fun w hM => ?_
      exact ⟨by rw [hp2], hM.below⟩
    rw [if_neg (of_decide_eq_false h16)] at hp2
    refine kgr ?_
    refine s1 (y_bin rfl rfl rfl (fun hg => b_add (by omega))) ?_
    refine sr 1 ?_
    refine S_nil (nK1 (kf := [(4, 5), (8, 18)]) (kl := [(4, 5), (8, 18)]) (i + 1) ?_ ?_ ?_ ?_)
    · omega
    · exact ⟨by omega, hp2⟩
    · exact ⟨rfl, trivial⟩
    · exact trivial
  try simp only [nrm] at h9
  refine egx ?_
  refine sr 1 ?_
  refine sgo ?_
  refine tr1 hRb fun w hM => ?_
  exact ⟨by rw [hp2, hl.end (by omega)]; rfl, hM.below⟩
abbrev kindsB : List (List UInt8) := [[101, 118, 101, 110, 116], [97, 116], [108, 101, 118, 101, 108], [119, 101, 105, 103, 104, 116], [114, 101, 108, 101, 97, 115, 101], [117, 115, 101, 114], [116, 97, 103], [99, 114, 117, 109, 98], [102, 97, 117, 108, 116, 115]]
def kindK (s : List UInt8) : Int := ixS s kindsB 0
theorem kindOf_any (s : List UInt8) (w : World) : Calls Tryz.prog 80 #[str s] w fun e w' => e = .returned (.int .i64 (kindK s)) ∧ Below w.heap.size w w' := by
  refine enter_args (args := [str s]) (F := _) Tryz.func80 rfl Tryz.ntmps80 rfl rfl ?_
  intro Rb hRb hRn
  refine tx ?_
  refine sr 1 ?_
  refine sgx ?_
  refine S_buildSlice 3 3 rfl rfl rfl rfl rfl Tryz.underlying53 inf9 rfl (by decide) (by decide) rfl rfl (by decide) rfl (_) rfl ?_
  intro b3
  refine sr 1 ?_
  refine s1 (y_call rfl rfl rfl cf132 (fun _ w hM => IndexSt_any _ _ _ kindsB s w (owned_T (enc := strE) hM rfl (i := 3) rfl) (by decide))) ?_
  refine sr 1 ?_
  refine sgo ?_
  refine tr1 hRb fun w hM => ?_
  exact ⟨rfl, hM.below⟩
def folQ (last k : Int) : Bool := if last < 3 then decide (k = last + 1) else if k = 6 ∨ k = 7 then decide (last ≤ k) else decide (last < k)
theorem follows_any (last k : Int) (h : -1 ≤ last ∧ last ≤ 8) (w : World) : Calls Tryz.prog 81 #[.int .i64 last, .int .i64 k] w fun e w' => e = .returned (.bool (folQ last k)) ∧ Below w.heap.size w w' := by
  refine enter_args (args := [.int .i64 last, .int .i64 k]) (F := _) Tryz.func81 rfl Tryz.ntmps81 rfl rfl ?_
  intro Rb hRb hRn
  refine tx ?_
  refine sr 1 ?_
  refine sgs ?_
  refine T_block ?_
  refine tx ?_
  refine sr 3 ?_
  refine sgo ?_
  refine T_cond rfl ?_ ?_ <;> intro h5
  · try simp only [nrm] at h5
    refine tx ?_
    refine sr 2 ?_
    refine s1 (y_bin rfl rfl rfl (fun hg => b_addv (last + 1) (by omega) (by omega))) ?_
    refine sr 2 ?_
    refine sgo ?_
    refine tr1 hRb fun w hM => ?_
    rw [folQ, if_pos h5]
    exact ⟨rfl, hM.below⟩
  try simp only [nrm] at h5
  refine tx ?_
  refine sr 3 ?_
  refine sg rfl (y_move rfl rfl) ?_
  refine sg rfl (y_bin rfl rfl rfl (fun _ => b_eql)) ?_
  refine s1 (y_or rfl rfl rfl) ?_
  refine sr 1 ?_
  refine sgo ?_
  refine T_cond rfl ?_ ?_ <;> intro h12
  · try simp only [nrm] at h12
    refine tx ?_
    refine sr 4 ?_
    refine sgo ?_
    refine tr1 hRb fun w hM => ?_
    rw [folQ, if_neg (by omega), if_pos h12]
    exact ⟨rfl, hM.below⟩
  try simp only [nrm] at h12
  refine kgx ?_
  refine sr 4 ?_
  refine sgo ?_
  refine tr1 hRb fun w hM => ?_
  rw [folQ, if_neg (by omega), if_neg (by omega)]
  exact ⟨rfl, hM.below⟩
/-! ### What a line says -/
structure Hd where
  id : List UInt8
  at_ : Int
  lv : Int
  ta : List STag
  cr : List SCrumb
  rel : List UInt8
  us : List UInt8
  wt : Int
def lvQ (s : List UInt8) : Int := ixS s levels 0 + 1
def takeQ (h : Hd) (k : Int) (s : List UInt8) : Hd × Bool :=
  if k = 0 then ({ h with id := s }, !decide (s = []))
  else if k = 1 then ({ h with at_ := ((plainJ s 10 : Nat) : Int) }, plainOk s 10 && !decide (s = []))
  else if k = 2 then ({ h with lv := lvQ s }, decide (0 < lvQ s) && !decide (s = []))
  else if k = 3 then ({ h with wt := ((plainJ s 10 : Nat) : Int) }, plainOk s 10 && !decide (s = []))
  else if k = 4 then ({ h with rel := s }, !decide (s = []))
  else if k = 5 then ({ h with us := s }, !decide (s = []))
  else if k = 6 then ({ h with ta := h.ta ++ [⟨(cutC 32 s).1, (cutC 32 s).2.1⟩] }, (cutC 32 s).2.2 && !decide ((cutC 32 s).1 = []))
  else ({ h with cr := h.cr ++ [⟨((plainJ (cutC 32 s).1 10 : Nat) : Int), (cutC 32 (cutC 32 s).2.1).1, (cutC 32 (cutC 32 s).2.1).2.1⟩] }, (cutC 32 s).2.2 && (cutC 32 (cutC 32 s).2.1).2.2 && plainOk (cutC 32 s).1 10 && !decide ((cutC 32 (cutC 32 s).2.1).1 = []))
structure HdR where
  A : Option Addr
  c : Nat
  B : Option Addr
  d : Nat
abbrev hdB (b : Nat) (h : Hd) (r : HdR) : It := .blk b (IsBox [str h.id, .int .i64 h.at_, .int .i64 h.lv, .slice none 0 0, .slice r.A h.ta.length r.c, .slice r.B h.cr.length r.d, str h.rel, str h.us, .int .i64 h.wt] 26)
abbrev tgI (A : Option Addr) (c : Nat) (l : List STag) : It := .own 83 2 (.slice A l.length c) l.length (l.flatMap STag.enc)
abbrev crI (A : Option Addr) (c : Nat) (l : List SCrumb) : It := .own 85 3 (.slice A l.length c) l.length (l.flatMap SCrumb.enc)
theorem hdB_ta (b : Nat) (h : Hd) (r : HdR) (x : STag) : hdB b { h with ta := h.ta ++ [x] } r = .blk b (IsBox [str h.id, .int .i64 h.at_, .int .i64 h.lv, .slice none 0 0, .slice r.A (h.ta.length + 1) r.c, .slice r.B h.cr.length r.d, str h.rel, str h.us, .int .i64 h.wt] 26) := by rw [hdB, List.length_append]; rfl
theorem hdB_cr (b : Nat) (h : Hd) (r : HdR) (x : SCrumb) : hdB b { h with cr := h.cr ++ [x] } r = .blk b (IsBox [str h.id, .int .i64 h.at_, .int .i64 h.lv, .slice none 0 0, .slice r.A h.ta.length r.c, .slice r.B (h.cr.length + 1) r.d, str h.rel, str h.us, .int .i64 h.wt] 26) := by rw [hdB, List.length_append]; rfl
theorem tgI_snoc (A : Option Addr) (c : Nat) (l : List STag) (x : STag) : tgI A c (l ++ [x]) = .own 83 2 (.slice A (l.length + 1) c) (l.length + 1) ((l ++ [x]).flatMap STag.enc) := by rw [tgI, List.length_append]; rfl
theorem crI_snoc (A : Option Addr) (c : Nat) (l : List SCrumb) (x : SCrumb) : crI A c (l ++ [x]) = .own 85 3 (.slice A (l.length + 1) c) (l.length + 1) ((l ++ [x]).flatMap SCrumb.enc) := by rw [crI, List.length_append]; rfl
set_option maxHeartbeats 1600000 in
theorem takeLine_any {w0 : World} {K : HL} (hK : FromK K) (b : Nat) (h : Hd) (r : HdR) (hta : h.ta.length ≤ 2000000) (hcr : h.cr.length ≤ 2000000) (k : Int) (hk : 0 ≤ k ∧ k ≤ 7) (s : List UInt8) (hs : s.length ≤ 1000000)
    (w : World) (hM0 : Mem w0 ([(901, hdB b h r), (906, tgI r.A r.c h.ta), (907, crI r.B r.d h.cr)] ++ K) w) :
    Calls Tryz.prog 82 #[ptrH b, .int .i64 k, str s] w fun e w' => ∃ y : HdR, e = .returned (.bool (takeQ h k s).2) ∧ True ∧ Mem w0 ([(901, hdB b (takeQ h k s).1 y), (906, tgI y.A y.c (takeQ h k s).1.ta), (907, crI y.B y.d (takeQ h k s).1.cr)] ++ K) w' := by
  have hlv1 : lvQ s = ixS s levels 0 + 1 := rfl
  have hlv2 := ixS_le s levels (Int.le_refl 0)
  have hlv3 : ((levels.length : Nat) : Int) = 5 := rfl
  have hc1 := cut_le 32 s
  have hc2 := cut_le 32 (cutC 32 s).2.1
  refine enterM_args (args := [ptrH b, .int .i64 k, str s]) (F := _) hM0 Tryz.func82 rfl Tryz.ntmps82 rfl rfl ?_
  intro Rb hRb hRn
  refine tx ?_
  refine sr 1 ?_
  refine sgx ?_
  refine sr 1 ?_
  refine sgs ?_
  refine tx ?_
  refine sr 1 ?_
  refine sgo ?_
  refine T_block ?_
  refine tx ?_
  refine sr 2 ?_
  refine sgo ?_
  refine T_cond rfl ?_ ?_ <;> intro h61
  · try simp only [nrm] at h61
    refine T_region ?_
    refine sr 2 ?_
    refine s1 (y_nilCheck rfl rfl) ?_
    refine s1 (yF fa26_0) ?_
    refine S_store 901 rfl rfl rfl rfl rfl rfl sz9 rfl rfl ?_
    refine sgx ?_
    refine sr 2 ?_
    refine sg rfl (y_move rfl rfl) ?_
    refine sg rfl (y_bin rfl rfl rfl (fun _ => b_neqs)) ?_
    refine s1 (y_and rfl rfl rfl) ?_
    refine sr 1 ?_
    refine sgo ?_
    refine tr1 hRb fun w hM => ?_
    have ht : takeQ h k s = ({ h with id := s }, !decide (s = [])) := by rw [takeQ, if_pos h61]
    rw [ht]
    exact ⟨r, rfl, trivial, hM.keep (ks := [(0, 999)]) (by repeat (first | exact kl_rest (by assumption) rfl | (apply kl_in; focus rfl))) _ ⟨rfl, rfl, rfl, trivial⟩⟩
  try simp only [nrm] at h61
  refine tx ?_
  refine sr 2 ?_
  refine sgo ?_
  refine T_cond rfl ?_ ?_ <;> intro h67
  · try simp only [nrm] at h67
    refine T_region ?_
    refine sr 2 ?_
    refine s1 (y_call rfl rfl rfl cf173 (fun _ w _ => plainNumber_any s 10 (by omega) (by omega) w)) ?_
    refine sr 3 ?_
    refine s1 (y_nilCheck rfl rfl) ?_
    refine s1 (yF fa26_1) ?_
    refine S_store 901 rfl rfl rfl rfl rfl rfl sz3 rfl rfl ?_
    refine sr 1 ?_
    refine sgx ?_
    refine sr 2 ?_
    refine sg rfl (y_move rfl rfl) ?_
    refine sg rfl (y_bin rfl rfl rfl (fun _ => b_neqs)) ?_
    refine s1 (y_and rfl rfl rfl) ?_
    refine sr 1 ?_
    refine sgo ?_
    refine tr1 hRb fun w hM => ?_
    have ht : takeQ h k s = ({ h with at_ := ((plainJ s 10 : Nat) : Int) }, plainOk s 10 && !decide (s = [])) := by rw [takeQ, if_neg h61, if_pos h67]
    rw [ht]
    exact ⟨r, rfl, trivial, hM.keep (ks := [(0, 999)]) (by repeat (first | exact kl_rest (by assumption) rfl | (apply kl_in; focus rfl))) _ ⟨rfl, rfl, rfl, trivial⟩⟩
  try simp only [nrm] at h67
  refine tx ?_
  refine sr 2 ?_
  refine sgo ?_
  refine T_cond rfl ?_ ?_ <;> intro h77
  · try simp only [nrm] at h77
    refine tx ?_
    refine sr 1 ?_
    refine S_callOwn 80 80 rfl rfl rfl rfl rfl rfl rfl cf34 (fun A c => .slice A (5) c) 9 1 (5) (levels.flatMap strE) (fun w hM => Levels_any w) ?_
    intro A80 c80
    refine sr 1 ?_
    refine s1 (y_call rfl rfl rfl cf132 (fun _ w hM => IndexSt_any _ _ _ levels s w (owned_T (enc := strE) hM rfl (i := 80) rfl) (by decide))) ?_
    refine s1 (y_bin rfl rfl rfl (fun hg => b_addv (lvQ s) (by omega) (by omega))) ?_
    refine s1 (y_nilCheck rfl rfl) ?_
    refine s1 (yF fa26_2) ?_
    refine S_store 901 rfl rfl rfl rfl rfl rfl sz3 rfl rfl ?_
    refine sgr ?_
    refine sr 1 ?_
    refine s1 (y_nilCheck rfl rfl) ?_
    refine s1 (yF fa26_2) ?_
    refine s1 (yL 901 Tryz.underlying3) ?_
    refine sr 2 ?_
    refine sgx ?_
    refine sr 2 ?_
    refine sg rfl (y_move rfl rfl) ?_
    refine sg rfl (y_bin rfl rfl rfl (fun _ => b_neqs)) ?_
    refine s1 (y_and rfl rfl rfl) ?_
    refine sr 1 ?_
    refine sgo ?_
    refine tr1 hRb fun w hM => ?_
    have ht : takeQ h k s = ({ h with lv := lvQ s }, decide (0 < lvQ s) && !decide (s = [])) := by rw [takeQ, if_neg h61, if_neg h67, if_pos h77]
    rw [ht]
    exact ⟨r, rfl, trivial, hM.keep (ks := [(0, 999)]) (by repeat (first | exact kl_rest (by assumption) rfl | (apply kl_in; focus rfl))) _ ⟨rfl, rfl, rfl, trivial⟩⟩
  try simp only [nrm] at h77
  refine tx ?_
  refine sr 2 ?_
  refine sgo ?_
  refine T_cond rfl ?_ ?_ <;> intro h91
  · try simp only [nrm] at h91
    refine T_region ?_
    refine sr 2 ?_
    refine s1 (y_call rfl rfl rfl cf173 (fun _ w _ => plainNumber_any s 10 (by omega) (by omega) w)) ?_
    refine sr 3 ?_
    refine s1 (y_nilCheck rfl rfl) ?_
    refine s1 (yF fa26_8) ?_
    refine S_store 901 rfl rfl rfl rfl rfl rfl sz3 rfl rfl ?_
    refine sr 1 ?_
    refine sgx ?_
    refine sr 2 ?_
    refine sg rfl (y_move rfl rfl) ?_
    refine sg rfl (y_bin rfl rfl rfl (fun _ => b_neqs)) ?_
    refine s1 (y_and rfl rfl rfl) ?_
    refine sr 1 ?_
    refine sgo ?_
    refine tr1 hRb fun w hM => ?_
    have ht : takeQ h k s = ({ h with wt := ((plainJ s 10 : Nat) : Int) }, plainOk s 10 && !decide (s = [])) := by rw [takeQ, if_neg h61, if_neg h67, if_neg h77, if_pos h91]
    rw [ht]
    exact ⟨r, rfl, trivial, hM.keep (ks := [(0, 999)]) (by repeat (first | exact kl_rest (by assumption) rfl | (apply kl_in; focus rfl))) _ ⟨rfl, rfl, rfl, trivial⟩⟩
  try simp only [nrm] at h91
  refine tx ?_
  refine sr 2 ?_
  refine sgo ?_
  refine T_cond rfl ?_ ?_ <;> intro h101
  · try simp only [nrm] at h101
    refine T_region ?_
    refine sr 2 ?_
    refine s1 (y_nilCheck rfl rfl) ?_
    refine s1 (yF fa26_6) ?_
    refine S_store 901 rfl rfl rfl rfl rfl rfl sz9 rfl rfl ?_
    refine sgx ?_
    refine sr 2 ?_
    refine sg rfl (y_move rfl rfl) ?_
    refine sg rfl (y_bin rfl rfl rfl (fun _ => b_neqs)) ?_
    refine s1 (y_and rfl rfl rfl) ?_
    refine sr 1 ?_
    refine sgo ?_
    refine tr1 hRb fun w hM => ?_
    have ht : takeQ h k s = ({ h with rel := s }, !decide (s = [])) := by rw [takeQ, if_neg h61, if_neg h67, if_neg h77, if_neg h91, if_pos h101]
    rw [ht]
    exact ⟨r, rfl, trivial, hM.keep (ks := [(0, 999)]) (by repeat (first | exact kl_rest (by assumption) rfl | (apply kl_in; focus rfl))) _ ⟨rfl, rfl, rfl, trivial⟩⟩
  try simp only [nrm] at h101
  refine tx ?_
  refine sr 2 ?_
  refine sgo ?_
  refine T_cond rfl ?_ ?_ <;> intro h107
  · try simp only [nrm] at h107
    refine T_region ?_
    refine sr 2 ?_
    refine s1 (y_nilCheck rfl rfl) ?_
    refine s1 (yF fa26_7) ?_
    refine S_store 901 rfl rfl rfl rfl rfl rfl sz9 rfl rfl ?_
    refine sgx ?_
    refine sr 2 ?_
    refine sg rfl (y_move rfl rfl) ?_
    refine sg rfl (y_bin rfl rfl rfl (fun _ => b_neqs)) ?_
    refine s1 (y_and rfl rfl rfl) ?_
    refine sr 1 ?_
    refine sgo ?_
    refine tr1 hRb fun w hM => ?_
    have ht : takeQ h k s = ({ h with us := s }, !decide (s = [])) := by rw [takeQ, if_neg h61, if_neg h67, if_neg h77, if_neg h91, if_neg h101, if_pos h107]
    rw [ht]
    exact ⟨r, rfl, trivial, hM.keep (ks := [(0, 999)]) (by repeat (first | exact kl_rest (by assumption) rfl | (apply kl_in; focus rfl))) _ ⟨rfl, rfl, rfl, trivial⟩⟩
  try simp only [nrm] at h107
  refine tx ?_
  refine sr 2 ?_
  refine sgo ?_
  refine T_cond rfl ?_ ?_ <;> intro h113
  · try simp only [nrm] at h113
    refine tx ?_
    refine sr 1 ?_
    refine s1 (y_call rfl rfl rfl cf79 (fun _ w _ => Cut1_any s 32 w (by omega))) ?_
    refine sr 7 ?_
    refine sgx ?_
    refine sr 2 ?_
    refine s1 (y_nilCheck rfl rfl) ?_
    refine s1 (yF fa26_4) ?_
    refine s1 (yL 901 Tryz.underlying23) ?_
    refine sr 2 ?_
    refine s1 (y_build (zv := .agg #[.string ⟨#[]⟩, .string ⟨#[]⟩]) (pl := [(0, 1), (1, 1)]) (out := [_, _]) rfl rfl Tryz.underlying83 z83 (by kernel_rfl) rfl) ?_
    refine S_buildSlice 129 129 rfl rfl rfl rfl rfl Tryz.underlying23 inf83 rfl (by decide) (by decide) rfl rfl (by decide) rfl (_) rfl ?_
    intro b129
    obtain ⟨i130, hi130, hz130, hs130, hy130⟩ := info_parts inf83
    refine S_append 130 906 129 rfl rfl rfl rfl rfl rfl rfl rfl Tryz.underlying23 hi130 hz130 hs130 hy130 rfl (by decide) (by decide) rfl ?_ ?_ (_) ((h.ta ++ [(⟨(cutC 32 s).1, (cutC 32 s).2.1⟩ : STag)]).flatMap STag.enc) rfl ?_ ?_
    · (simp only [maxLen]; omega)
    · omega
    · rw [List.flatMap_append]; rfl
    intro A130 c130
    refine s1 (y_nilCheck rfl rfl) ?_
    refine s1 (yF fa26_4) ?_
    refine S_store 901 rfl rfl rfl rfl rfl rfl sz23 rfl rfl ?_
    refine sgx ?_
    refine sr 2 ?_
    refine sg rfl (y_move rfl rfl) ?_
    refine sg rfl (y_bin rfl rfl rfl (fun _ => b_neqs)) ?_
    refine s1 (y_and rfl rfl rfl) ?_
    refine sr 1 ?_
    refine sgo ?_
    refine tr1 hRb fun w hM => ?_
    have ht : takeQ h k s = ({ h with ta := h.ta ++ [⟨(cutC 32 s).1, (cutC 32 s).2.1⟩] }, (cutC 32 s).2.2 && !decide ((cutC 32 s).1 = [])) := by rw [takeQ, if_neg h61, if_neg h67, if_neg h77, if_neg h91, if_neg h101, if_neg h107, if_pos h113]
    rw [ht]
    exact ⟨⟨A130, c130, r.B, r.d⟩, rfl, trivial, hM.keep (ks := [(0, 999)]) (by repeat (first | exact kl_rest (by assumption) rfl | (apply kl_in; focus rfl))) _ ⟨by rw [hdB_ta]; rfl, by rw [tgI_snoc]; rfl, rfl, trivial⟩⟩
  try simp only [nrm] at h113
  refine tx ?_
  refine sr 1 ?_
  refine s1 (y_call rfl rfl rfl cf79 (fun _ w _ => Cut1_any s 32 w (by omega))) ?_
  refine sr 7 ?_
  refine sgx ?_
  refine sr 1 ?_
  refine s1 (y_call rfl rfl rfl cf79 (fun _ w _ => Cut1_any (cutC 32 s).2.1 32 w (by omega))) ?_
  refine sr 7 ?_
  refine sgx ?_
  refine sr 1 ?_
  refine s1 (y_call rfl rfl rfl cf173 (fun _ w _ => plainNumber_any (cutC 32 s).1 10 (by omega) (by omega) w)) ?_
  refine sr 5 ?_
  refine sgx ?_
  refine sr 2 ?_
  refine s1 (y_nilCheck rfl rfl) ?_
  refine s1 (yF fa26_5) ?_
  refine s1 (yL 901 Tryz.underlying24) ?_
  refine sr 3 ?_
  refine s1 (y_build (zv := .agg #[.int .i64 0, .string ⟨#[]⟩, .string ⟨#[]⟩]) (pl := [(0, 1), (1, 1), (2, 1)]) (out := [_, _, _]) rfl rfl Tryz.underlying85 z85 (by kernel_rfl) rfl) ?_
  refine S_buildSlice 46 46 rfl rfl rfl rfl rfl Tryz.underlying24 inf85 rfl (by decide) (by decide) rfl rfl (by decide) rfl (_) rfl ?_
  intro b46
  obtain ⟨i47, hi47, hz47, hs47, hy47⟩ := info_parts inf85
  refine S_append 47 907 46 rfl rfl rfl rfl rfl rfl rfl rfl Tryz.underlying24 hi47 hz47 hs47 hy47 rfl (by decide) (by decide) rfl ?_ ?_ (_) ((h.cr ++ [(⟨((plainJ (cutC 32 s).1 10 : Nat) : Int), (cutC 32 (cutC 32 s).2.1).1, (cutC 32 (cutC 32 s).2.1).2.1⟩ : SCrumb)]).flatMap SCrumb.enc) rfl ?_ ?_
  · (simp only [maxLen]; omega)
  · omega
  · rw [List.flatMap_append]; rfl
  intro A47 c47
  refine s1 (y_nilCheck rfl rfl) ?_
  refine s1 (yF fa26_5) ?_
  refine S_store 901 rfl rfl rfl rfl rfl rfl sz24 rfl rfl ?_
  refine sgx ?_
  refine sr 2 ?_
  refine sg rfl (y_move rfl rfl) ?_
  refine s1 (y_and rfl rfl rfl) ?_
  refine sr 1 ?_
  refine sg rfl (y_move rfl rfl) ?_
  refine s1 (y_and rfl rfl rfl) ?_
  refine sr 1 ?_
  refine sg rfl (y_move rfl rfl) ?_
  refine sg rfl (y_bin rfl rfl rfl (fun _ => b_neqs)) ?_
  refine s1 (y_and rfl rfl rfl) ?_
  refine sr 1 ?_
  refine sgo ?_
  refine tr1 hRb fun w hM => ?_
  have ht : takeQ h k s = ({ h with cr := h.cr ++ [⟨((plainJ (cutC 32 s).1 10 : Nat) : Int), (cutC 32 (cutC 32 s).2.1).1, (cutC 32 (cutC 32 s).2.1).2.1⟩] }, (cutC 32 s).2.2 && (cutC 32 (cutC 32 s).2.1).2.2 && plainOk (cutC 32 s).1 10 && !decide ((cutC 32 (cutC 32 s).2.1).1 = [])) := by rw [takeQ, if_neg h61, if_neg h67, if_neg h77, if_neg h91, if_neg h101, if_neg h107, if_neg h113]
  rw [ht]
  exact ⟨⟨r.A, r.c, A47, c47⟩, rfl, trivial, hM.keep (ks := [(0, 999)]) (by repeat (first | exact kl_rest (by assumption) rfl | (apply kl_in; focus rfl))) _ ⟨by rw [hdB_cr]; rfl, rfl, by rw [crI_snoc]; rfl, trivial⟩⟩
end Go.Proofs.YtgbldojgbpgjbaaGreatDoor
end
section
namespace Go.Eng
set_option linter.unusedSimpArgs false
set_option linter.unusedVariables false
set_option maxRecDepth 20000
open Go.RowKit
theorem results_cell_tmp3 {fn : Func} {p u v z : Tmp} {ty : TypeId} (h : fn.results = #[.cell p ty, .tmp u, .tmp v, .tmp z]) (tmps : Array Value) (P : Program) (w : World) :
    (results fn tmps).run P w = ((asAddr (tmps.getD p undef)).run P w).andThen fun a w₁ => ((loadVar ty a).run P w₁).andThen fun x w₂ => .ok (.tuple #[x, tmps.getD u undef, tmps.getD v undef, tmps.getD z undef]) w₂ := by
  simp only [results, h]
  simp [Sem.run_bind, Result.andThen]
theorem post_cell3 {P : Program} {w0 : World} {n : Nat} {F : FL} {L : HL} {fn : Func} {R : Ending → World → Prop} (i : Nat) {p u v z b : Nat} {ty tb : TypeId} {d : TypeDesc} {cs : List Value} {v' v'' z' : Value} (h : fn.results = #[.cell p ty, .tmp u, .tmp v, .tmp z]) (hp : F.get p = some (true, .pointer (some ⟨b, 0, none⟩))) (hu : F.get u = some (true, v')) (hv : F.get v = some (true, v'')) (hz' : F.get z = some (true, z')) (hL : L.get i = some (.blk b (IsBox cs tb)))
    (hty : P.underlying ty = some d) (hd : isAggB d = true) (hz : (P.info? ty).map (·.size) = some cs.length) (hR : ∀ w, Mem w0 L w → R (.returned (.tuple #[.agg cs.toArray, v', v'', z'])) w) : ∀ a w, Fr n F a → Mem w0 L w → bodyPost P fn R .ret a w := fun a w hF hM => by
  have e1 := hF.has p true _ hp
  have e2 := hF.has u true _ hu
  have e3 := hF.has v true _ hv
  have e4 := hF.has z true _ hz'
  simp only [cond_true] at e1 e2 e3 e4
  obtain ⟨_, ob, h1, h2⟩ := hM.sat i _ hL
  have hl := run_loadVarA hty hd hz w (a := ⟨b, 0, none⟩) (fun j u hu' => by rw [add_zero_off, Nat.zero_add, cell_of_box h1 h2, nth_eq]; exact hu')
  refine ⟨hF.defers, .tuple #[.agg cs.toArray, v', v'', z'], ?_, hR w hM⟩
  rw [results_cell_tmp3 h, e1, e2, e3, e4]
  simp only [Instr.loadAt, Instr.sureAddr, Sem.run_bind, Sem.run_pure, Result.andThen_ok] at hl
  simp [asAddr, hl]
end Go.Eng
namespace Go.Proofs.YtgbldojgbpgjbaaGreatDoor
open Go.RowKit Go.Eng
def hd0 : Hd := ⟨[], 0, 0, [], [], [], [], 0⟩
def knQ (s : List UInt8) : Int := kindK (cutC 32 (cutC 10 s).1).1
def rsQ (s : List UInt8) : List UInt8 := (cutC 32 (cutC 10 s).1).2.1
def isQ (s : List UInt8) : Bool := (cutC 32 (cutC 10 s).1).2.2
def badL (s : List UInt8) (last : Int) : Bool := !(cutC 10 s).2.2 || decide (knQ s < 0) || !folQ last (knQ s)
/-- the lines before the faults; what is left, and how many lines were taken; or the number of the wrong one -/
def rdL : Nat → List UInt8 → Nat → Int → Hd → (Hd × List UInt8 × Nat) ⊕ Nat
  | 0, _, n, _, _ => .inr n
  | f + 1, s, n, last, h =>
    if badL s last = true then .inr n
    else if knQ s = 8 then (if isQ s = true then .inr n else .inl (h, (cutC 10 s).2.1, n))
    else if (!isQ s || !(takeQ h (knQ s) (rsQ s)).2) = true then .inr n
    else rdL f (cutC 10 s).2.1 (n + 1) (knQ s) (takeQ h (knQ s) (rsQ s)).1
def rdR (s : List UInt8) : (Hd × List UInt8 × Nat) ⊕ Nat := rdL (s.length + 1) s 1 (-1) hd0
def rdH (x : (Hd × List UInt8 × Nat) ⊕ Nat) : Hd × List UInt8 × Nat × Nat := match x with
  | .inl (h, r, n) => (h, r, n, 0)
  | .inr n => (hd0, [], 0, n)
abbrev evV (h : Hd) (y : HdR) : Value := .agg #[str h.id, .int .i64 h.at_, .int .i64 h.lv, .slice none 0 0, .slice y.A h.ta.length y.c, .slice y.B h.cr.length y.d, str h.rel, str h.us, .int .i64 h.wt]
theorem takeQ_len (h : Hd) (k : Int) (s : List UInt8) : (takeQ h k s).1.ta.length ≤ h.ta.length + 1 ∧ (takeQ h k s).1.cr.length ≤ h.cr.length + 1 := by
  unfold takeQ
  repeat' split
  all_goals simp
theorem cut_shr {c : UInt8} {s : List UInt8} (h : (cutC c s).2.2 = true) : (cutC c s).2.1.length < s.length := by
  unfold cutC at h ⊢
  split
  · rename_i h1; rw [if_pos h1] at h; cases h
  · rename_i h1
    cases s with
    | nil => exact absurd (show Lib.indexByte [] c < 0 from (show (-1 : Int) < 0 by decide)) h1
    | cons a r => show ((a :: r).drop _).length < _; rw [List.length_drop, List.length_cons]; omega
theorem kindK_le (s : List UInt8) : -1 ≤ kindK s ∧ kindK s < 9 := ixS_le s kindsB (Int.le_refl 0)
set_option maxRecDepth 8000 in
set_option maxHeartbeats 3200000 in
theorem readLines_any {w0 : World} {K : HL} (hK : FromK K) (u : List UInt8) (hu : u.length ≤ 1000000) (w : World) (hM0 : Mem w0 ([] ++ K) w) :
    Calls Tryz.prog 37 #[str u] w fun e w' => ∃ y : HdR, e = .returned (.tuple #[evV (rdH (rdR u)).1 y, str (rdH (rdR u)).2.1, .int .i64 (((rdH (rdR u)).2.2.1 : Nat) : Int), .int .i64 (((rdH (rdR u)).2.2.2 : Nat) : Int)]) ∧ True ∧ Mem w0 ([(906, tgI y.A y.c (rdH (rdR u)).1.ta), (907, crI y.B y.d (rdH (rdR u)).1.cr)] ++ K) w' := by
  refine enterM_args (args := [str u]) (F := _) hM0 Tryz.func37 rfl Tryz.ntmps37 rfl rfl ?_
  intro Rb hRb hRn
  refine tx ?_
  refine S_alloc 2 2 rfl rfl rfl rfl z26 ?_
  intro b2
  refine S_nilSlice 906 (e := 83) (size := 2) ?_
  refine S_nilSlice 907 (e := 85) (size := 3) ?_
  refine sr 3 ?_
  refine sgx ?_
  refine sr 1 ?_
  refine sgx ?_
  refine sr 1 ?_
  refine sgo ?_
  refine T_block ?_
  refine lK6 (kf := [(0, 0), (3, 64)]) (kl := [(0, 0), (2, 64), (906, 907)]) (fun (s : List UInt8) (n : Nat) (last : Int) (h : Hd) (r : HdR) (k : Nat) => [(0, true, str s), (6, true, .int .i64 last), (7, true, .int .i64 (n : Int))]) (fun (s : List UInt8) (n : Nat) (last : Int) (h : Hd) (r : HdR) (k : Nat) => [(2, hdB b2 h r), (906, tgI r.A r.c h.ta), (907, crI r.B r.d h.cr)]) (fun (s : List UInt8) (n : Nat) (last : Int) (h : Hd) (r : HdR) (k : Nat) => (1 ≤ n ∧ n + s.length ≤ u.length + 1) ∧ (-1 ≤ last ∧ last ≤ 8) ∧ h.ta.length ≤ n ∧ h.cr.length ≤ n ∧ rdL (k + 1) s n last h = rdR u ∧ s.length ≤ k) (fun (s : List UInt8) (n : Nat) (last : Int) (h : Hd) (r : HdR) (k : Nat) => s.length) u 1 (-1) hd0 ⟨none, 0, none, 0⟩ u.length ?_ ?_ ?_ ?_
  · exact ⟨by omega, by omega, Nat.zero_le _, Nat.zero_le _, rfl, Nat.le_refl _⟩
  · exact ⟨rfl, rfl, rfl, trivial⟩
  · exact ⟨rfl, rfl, rfl, trivial⟩
  rintro s n last h r k ⟨hp1, hp2, hp3, hp4, hp5, hp6⟩
  have hc1 := cut_le 10 s
  have hc2 := cut_le 32 (cutC 10 s).1
  have hkl : -1 ≤ knQ s ∧ knQ s < 9 := kindK_le _
  have hrl : (rsQ s).length ≤ s.length := by show (cutC 32 (cutC 10 s).1).2.1.length ≤ _; omega
  refine T_seq ?_
  refine T_block ?_
  refine tx ?_
  refine sr 1 ?_
  refine s1 (y_call rfl rfl rfl cf79 (fun _ w _ => Cut1_any s 10 w (by omega))) ?_
  refine sr 7 ?_
  refine sgx ?_
  refine sr 1 ?_
  refine s1 (y_call rfl rfl rfl cf79 (fun _ w _ => Cut1_any (cutC 10 s).1 32 w (by omega))) ?_
  refine sr 7 ?_
  refine sgx ?_
  refine sr 1 ?_
  refine s1 (y_call rfl rfl rfl cf80 (fun _ w _ => kindOf_any (cutC 32 (cutC 10 s).1).1 w)) ?_
  refine sr 1 ?_
  refine sgs ?_
  refine tx ?_
  refine sr 3 ?_
  refine sg rfl (y_move rfl rfl) ?_
  refine sg rfl (y_bin rfl rfl rfl (fun _ => b_lss)) ?_
  refine s1 (y_or rfl rfl rfl) ?_
  refine sr 1 ?_
  refine sg rfl (y_move rfl rfl) ?_
  refine sg rfl (y_move rfl rfl) ?_
  refine sg rfl (y_call rfl rfl rfl cf81 (fun _ w _ => follows_any last (knQ s) (by omega) w)) ?_
  refine sg rfl (y_not rfl rfl) ?_
  refine s1 (y_as (v' := .bool (badL s last)) (by exact rfl) (y_or rfl rfl rfl)) ?_
  refine sgo ?_
  refine T_cond rfl ?_ ?_ <;> intro h42
  · skip
    have hres : rdR u = .inr n := by rw [← hp5, rdL, if_pos h42]
    refine tx ?_
    refine s1 (y_build (zv := .agg #[.string ⟨#[]⟩, .int .i64 0, .int .i64 0, .slice none 0 0, .slice none 0 0, .slice none 0 0, .string ⟨#[]⟩, .string ⟨#[]⟩, .int .i64 0]) (pl := [(0, 1), (1, 1), (2, 1), (3, 1), (4, 1), (5, 1), (6, 1), (7, 1), (8, 1)]) (out := [.string ⟨#[]⟩, .int .i64 0, .int .i64 0, .slice none 0 0, .slice none 0 0, .slice none 0 0, .string ⟨#[]⟩, .string ⟨#[]⟩, .int .i64 0]) rfl rfl Tryz.underlying26 z26 (by kernel_rfl) rfl) ?_
    refine sr 1 ?_
    refine S_store 2 rfl rfl rfl rfl rfl rfl sz26 rfl rfl ?_
    refine sr 3 ?_
    refine sgo ?_
    refine T_ret (fun a w hF hM => hRb a w (post_cell3 2 rfl rfl rfl rfl rfl rfl Tryz.underlying26 rfl (by exact sz26) (fun w hM => ?_) a w hF hM))
    have hM := (hM.add 907 (crI none 0 []) rfl (World.ownsRow_nil _ _ _ _)).add 906 (tgI none 0 []) rfl (World.ownsRow_nil _ _ _ _)
    exact ⟨⟨none, 0, none, 0⟩, by rw [hres]; rfl, trivial, by rw [hres]; exact hM.keep (ks := [(0, 999)]) (by repeat (first | exact kl_rest (by assumption) rfl | (apply kl_in; focus rfl))) _ ⟨rfl, rfl, trivial⟩⟩
  have h42n : ¬ badL s last = true := by rw [h42]; decide
  have h42p := h42
  simp only [badL, Bool.or_eq_false_iff, Bool.not_eq_false', decide_eq_false_iff_not] at h42p
  have hshr := cut_shr h42p.1.1
  refine kgs ?_
  refine tx ?_
  refine sr 2 ?_
  refine sgo ?_
  refine T_cond rfl ?_ ?_ <;> intro h46
  · try simp only [nrm] at h46
    have h46k : knQ s = 8 := h46
    refine T_seq ?_
    refine tx ?_
    refine sr 1 ?_
    refine sgo ?_
    refine T_cond rfl ?_ ?_ <;> intro h47
    · skip
      have hres : rdR u = .inr n := by rw [← hp5, rdL, if_neg h42n, if_pos h46k, if_pos (show isQ s = true from h47)]
      refine tx ?_
      refine s1 (y_build (zv := .agg #[.string ⟨#[]⟩, .int .i64 0, .int .i64 0, .slice none 0 0, .slice none 0 0, .slice none 0 0, .string ⟨#[]⟩, .string ⟨#[]⟩, .int .i64 0]) (pl := [(0, 1), (1, 1), (2, 1), (3, 1), (4, 1), (5, 1), (6, 1), (7, 1), (8, 1)]) (out := [.string ⟨#[]⟩, .int .i64 0, .int .i64 0, .slice none 0 0, .slice none 0 0, .slice none 0 0, .string ⟨#[]⟩, .string ⟨#[]⟩, .int .i64 0]) rfl rfl Tryz.underlying26 z26 (by kernel_rfl) rfl) ?_
      refine sr 1 ?_
      refine S_store 2 rfl rfl rfl rfl rfl rfl sz26 rfl rfl ?_
      refine sr 3 ?_
      refine sgo ?_
      refine T_ret (fun a w hF hM => hRb a w (post_cell3 2 rfl rfl rfl rfl rfl rfl Tryz.underlying26 rfl (by exact sz26) (fun w hM => ?_) a w hF hM))
      have hM := (hM.add 907 (crI none 0 []) rfl (World.ownsRow_nil _ _ _ _)).add 906 (tgI none 0 []) rfl (World.ownsRow_nil _ _ _ _)
      exact ⟨⟨none, 0, none, 0⟩, by rw [hres]; rfl, trivial, by rw [hres]; exact hM.keep (ks := [(0, 999)]) (by repeat (first | exact kl_rest (by assumption) rfl | (apply kl_in; focus rfl))) _ ⟨rfl, rfl, trivial⟩⟩
    have hres : rdR u = .inl (h, (cutC 10 s).2.1, n) := by rw [← hp5, rdL, if_neg h42n, if_pos h46k, if_neg (by rw [show isQ s = false from h47]; decide)]
    refine kgx ?_
    refine s1 (yA 2 rfl Tryz.underlying26 sz26) ?_
    refine sr 2 ?_
    refine S_store 2 rfl rfl rfl rfl rfl rfl sz26 rfl rfl ?_
    refine sr 3 ?_
    refine sgo ?_
    refine T_ret (fun a w hF hM => hRb a w (post_cell3 2 rfl rfl rfl rfl rfl rfl Tryz.underlying26 rfl (by exact sz26) (fun w hM => ?_) a w hF hM))
    exact ⟨r, by rw [hres]; rfl, trivial, by rw [hres]; exact hM.keep (ks := [(0, 999)]) (by repeat (first | exact kl_rest (by assumption) rfl | (apply kl_in; focus rfl))) _ ⟨rfl, rfl, trivial⟩⟩
  try simp only [nrm] at h46
  have h46k : ¬ knQ s = 8 := h46
  have h8 : knQ s ≤ 7 := by omega
  refine kgs ?_
  refine tx ?_
  refine sr 2 ?_
  rcases Bool.eq_false_or_eq_true ((!isQ s)) with hb | hb
  · skip
    refine s1 (y_as (v' := .bool true) (by exact congrArg Value.bool hb) (y_move rfl rfl)) ?_
    refine S_skip 56 rfl rfl rfl rfl rfl rfl rfl ?_
    refine S_skip 57 rfl rfl rfl rfl rfl rfl rfl ?_
    refine S_skip 58 rfl rfl rfl rfl rfl rfl rfl ?_
    refine S_skip 59 rfl rfl rfl rfl rfl rfl rfl ?_
    refine s1 (y_pickT rfl rfl rfl) ?_
    refine sgo ?_
    refine T_cond rfl ?_ ?_ <;> intro h60
    · skip
      have hres : rdR u = .inr n := by rw [← hp5, rdL, if_neg h42n, if_neg h46k, if_pos (by rw [hb]; rfl)]
      refine tx ?_
      refine s1 (y_build (zv := .agg #[.string ⟨#[]⟩, .int .i64 0, .int .i64 0, .slice none 0 0, .slice none 0 0, .slice none 0 0, .string ⟨#[]⟩, .string ⟨#[]⟩, .int .i64 0]) (pl := [(0, 1), (1, 1), (2, 1), (3, 1), (4, 1), (5, 1), (6, 1), (7, 1), (8, 1)]) (out := [.string ⟨#[]⟩, .int .i64 0, .int .i64 0, .slice none 0 0, .slice none 0 0, .slice none 0 0, .string ⟨#[]⟩, .string ⟨#[]⟩, .int .i64 0]) rfl rfl Tryz.underlying26 z26 (by kernel_rfl) rfl) ?_
      refine sr 1 ?_
      refine S_store 2 rfl rfl rfl rfl rfl rfl sz26 rfl rfl ?_
      refine sr 3 ?_
      refine sgo ?_
      refine T_ret (fun a w hF hM => hRb a w (post_cell3 2 rfl rfl rfl rfl rfl rfl Tryz.underlying26 rfl (by exact sz26) (fun w hM => ?_) a w hF hM))
      have hM := (hM.add 907 (crI none 0 []) rfl (World.ownsRow_nil _ _ _ _)).add 906 (tgI none 0 []) rfl (World.ownsRow_nil _ _ _ _)
      exact ⟨⟨none, 0, none, 0⟩, by rw [hres]; rfl, trivial, by rw [hres]; exact hM.keep (ks := [(0, 999)]) (by repeat (first | exact kl_rest (by assumption) rfl | (apply kl_in; focus rfl))) _ ⟨rfl, rfl, trivial⟩⟩
    cases h60
  · skip
    refine s1 (y_as (v' := .bool false) (by exact congrArg Value.bool hb) (y_move rfl rfl)) ?_
    refine sg rfl (y_move rfl rfl) ?_
    refine sg rfl (y_move rfl rfl) ?_
    refine S_unguard rfl rfl rfl rfl rfl ?_
    refine S_callM 58 [(901, 2), (906, 906), (907, 907)] (X := HdR) rfl rfl rfl rfl rfl rfl rfl cf82 rfl (fun _ => .bool (takeQ h (knQ s) (rsQ s)).2) (fun _ => True) (fun y => [(901, hdB b2 (takeQ h (knQ s) (rsQ s)).1 y), (906, tgI y.A y.c (takeQ h (knQ s) (rsQ s)).1.ta), (907, crI y.B y.d (takeQ h (knQ s) (rsQ s)).1.cr)]) (fun _ => rfl) (fun _ => rfl) (fun K1 hK1 w hM => takeLine_any hK1 b2 h r (by omega) (by omega) (knQ s) (by omega) (rsQ s) (by omega) w hM) ?_
    intro y _
    refine sg rfl (y_not rfl rfl) ?_
    refine s1 (y_or rfl rfl rfl) ?_
    refine sgo ?_
    refine T_cond rfl ?_ ?_ <;> intro h60
    · skip
      have hres : rdR u = .inr n := by rw [← hp5, rdL, if_neg h42n, if_neg h46k, if_pos (by rw [hb]; exact h60)]
      refine tx ?_
      refine s1 (y_build (zv := .agg #[.string ⟨#[]⟩, .int .i64 0, .int .i64 0, .slice none 0 0, .slice none 0 0, .slice none 0 0, .string ⟨#[]⟩, .string ⟨#[]⟩, .int .i64 0]) (pl := [(0, 1), (1, 1), (2, 1), (3, 1), (4, 1), (5, 1), (6, 1), (7, 1), (8, 1)]) (out := [.string ⟨#[]⟩, .int .i64 0, .int .i64 0, .slice none 0 0, .slice none 0 0, .slice none 0 0, .string ⟨#[]⟩, .string ⟨#[]⟩, .int .i64 0]) rfl rfl Tryz.underlying26 z26 (by kernel_rfl) rfl) ?_
      refine sr 1 ?_
      refine S_store 2 rfl rfl rfl rfl rfl rfl sz26 rfl rfl ?_
      refine sr 3 ?_
      refine sgo ?_
      refine T_ret (fun a w hF hM => hRb a w (post_cell3 2 rfl rfl rfl rfl rfl rfl Tryz.underlying26 rfl (by exact sz26) (fun w hM => ?_) a w hF hM))
      have hM := (hM.add 907 (crI none 0 []) rfl (World.ownsRow_nil _ _ _ _)).add 906 (tgI none 0 []) rfl (World.ownsRow_nil _ _ _ _)
      exact ⟨⟨none, 0, none, 0⟩, by rw [hres]; rfl, trivial, by rw [hres]; exact hM.keep (ks := [(0, 999)]) (by repeat (first | exact kl_rest (by assumption) rfl | (apply kl_in; focus rfl))) _ ⟨rfl, rfl, trivial⟩⟩
    have hgo : rdR u = rdL k (cutC 10 s).2.1 (n + 1) (knQ s) (takeQ h (knQ s) (rsQ s)).1 := by rw [← hp5, rdL, if_neg h42n, if_neg h46k, if_neg (by rw [hb, show (!(takeQ h (knQ s) (rsQ s)).2) = false from h60]; decide)]
    refine kgr ?_
    refine sr 4 ?_
    refine sgr ?_
    refine sr 1 ?_
    refine s1 (y_bin rfl rfl rfl (fun hg => b_addv (((n + 1 : Nat) : Int)) (by omega) (by omega))) ?_
    refine sr 1 ?_
    refine S_nil (nK6 (kf := [(0, 0), (3, 64)]) (kl := [(0, 0), (2, 64), (906, 907)]) (cutC 10 s).2.1 (n + 1) (knQ s) (takeQ h (knQ s) (rsQ s)).1 y (k - 1) ?_ ?_ ?_ ?_)
    · omega
    · exact ⟨by omega, by omega, by have := takeQ_len h (knQ s) (rsQ s); omega, by have := takeQ_len h (knQ s) (rsQ s); omega, by rw [hgo, show k - 1 + 1 = k from by omega], by omega⟩
    · exact ⟨rfl, rfl, rfl, trivial⟩
    · exact ⟨rfl, rfl, rfl, trivial⟩
end Go.Proofs.YtgbldojgbpgjbaaGreatDoor
end
section
namespace Go.Proofs.YtgbldojgbpgjbaaGreatDoor
set_option linter.unusedSimpArgs false
set_option linter.unusedVariables false
set_option maxRecDepth 20000
open Go.RowKit Go.Eng
theorem frsQ_e : ∀ {ls : List (List UInt8)} {i : Nat} {acc : List Frm} {e : Nat}, frsQ ls i acc = .inl e → e ≤ i + ls.length
  | [], i, acc, e, h => by cases h
  | l :: r, i, acc, e, h => by
    rw [frsQ] at h
    rw [List.length_cons]
    split at h
    · split at h
      · have := frsQ_e h; omega
      · cases h; omega
    · cases h
theorem frsQ_cnt : ∀ {ls ls' : List (List UInt8)} {i j : Nat} {acc fr : List Frm}, frsQ ls i acc = .inr (fr, ls', j) → fr.length + ls'.length = acc.length + ls.length ∧ j + ls'.length = i + ls.length
  | [], ls', i, j, acc, fr, h => by cases h; exact ⟨rfl, rfl⟩
  | l :: r, ls', i, j, acc, fr, h => by
    rw [frsQ] at h
    rw [List.length_cons]
    split at h
    · split at h
      · have := frsQ_cnt h
        rw [List.length_append, List.length_singleton] at this
        omega
      · cases h
    · cases h; exact ⟨rfl, rfl⟩
theorem restQ_e {b : List PFl} {tl : List UInt8} {i : Nat} {k t : List UInt8} {fr : List Frm} {ls : List (List UInt8)} {j e : Nat} (h : restQ b tl i k t fr ls j = .inl e) : e ≤ i + j + 2 + fr.length := by
  unfold restQ at h
  split at h
  · split at h
    · cases h; omega
    · cases h
  · split at h
    · cases h; omega
    · split at h
      · cases h; omega
      · cases h
theorem restQ_j {b : List PFl} {tl : List UInt8} {i : Nat} {k t : List UInt8} {fr : List Frm} {ls ls' : List (List UInt8)} {j j' : Nat} {x : PFl} (h : restQ b tl i k t fr ls j = .inr (x, ls', j')) : j' + ls'.length ≤ j + ls.length := by
  unfold restQ at h
  split at h
  · rename_i hb
    split at h
    · cases h
    · cases h
      cases ls with
      | nil => cases hb
      | cons l r => rw [List.tail_cons, List.length_cons]; omega
  · split at h
    · cases h
    · split at h
      · cases h
      · cases h; exact Nat.le_refl _
theorem faultQ_e {b : List PFl} {tl : List UInt8} {i : Nat} {ls : List (List UInt8)} {e : Nat} (h : faultQ b tl i ls = .inl e) : e ≤ 2 * (i + ls.length) + 2 := by
  cases hk : fhQ ls (preQ b) with
  | none => rw [faultQ_no hk] at h; cases h; omega
  | some x =>
    rw [faultQ_yes (k := x.1) (t := x.2) hk] at h
    have hb := fhQ_beg hk
    cases ls with
    | nil => cases hb
    | cons l r =>
      rw [show (l :: r).drop 1 = r from rfl] at h
      rw [List.length_cons]
      cases hf : frsQ r (i + 1) [] with
      | inl e2 => rw [hf] at h; cases h; have := frsQ_e hf; omega
      | inr y =>
        obtain ⟨y1, y2, y3⟩ := y
        rw [hf] at h
        have h1 := frsQ_cnt hf
        have h2 := restQ_e h
        rw [List.length_nil] at h1
        omega
theorem faultQ_j {b : List PFl} {tl : List UInt8} {i j : Nat} {ls ls' : List (List UInt8)} {x : PFl} (h : faultQ b tl i ls = .inr (x, ls', j)) : j + ls'.length ≤ i + ls.length := by
  cases hk : fhQ ls (preQ b) with
  | none => rw [faultQ_no hk] at h; cases h
  | some y =>
    rw [faultQ_yes (k := y.1) (t := y.2) hk] at h
    have hb := fhQ_beg hk
    cases ls with
    | nil => cases hb
    | cons l r =>
      rw [show (l :: r).drop 1 = r from rfl] at h
      rw [List.length_cons]
      cases hf : frsQ r (i + 1) [] with
      | inl e2 => rw [hf] at h; cases h
      | inr z =>
        obtain ⟨z1, z2, z3⟩ := z
        rw [hf] at h
        have h1 := frsQ_cnt hf
        have h2 := restQ_j h
        omega
theorem innerQ_e {tl : List UInt8} {N : Nat} : ∀ (f : Nat) {b : List PFl} {ls : List (List UInt8)} {i n : Nat}, i + ls.length ≤ N → innerQ tl f b ls i = .inr n → n ≤ 2 * N + 2
  | 0, b, ls, i, n, hN, h => by cases h; omega
  | f + 1, b, ls, i, n, hN, h => by
    cases hq : faultQ b tl i ls with
    | inl e => rw [innerQ_bad hq] at h; cases h; have := faultQ_e hq; omega
    | inr y =>
      obtain ⟨x, ls', j⟩ := y
      have hl := faultQ_j hq
      by_cases hn : ls' = []
      · subst hn; rw [innerQ_end hq] at h; cases h
      · rw [innerQ_go hq hn] at h; exact innerQ_e f (by omega) h
theorem lsQ_few (s : List UInt8) : (lsQ s).length ≤ s.length := by rw [lsQ_len, splitC_len]; have := count_le 10 s; omega
theorem rdW_le (s : List UInt8) : rdW s ≤ 2 * s.length + 2 := by
  have hl := lsQ_few s
  unfold rdW
  split
  · split <;> omega
  · rename_i n hn
    have := innerQ_e (N := (lsQ s).length) _ (by omega) hn
    omega
theorem rdL_pos : ∀ (f : Nat) {s : List UInt8} {n : Nat} {last : Int} {h : Hd} {m : Nat}, 0 < n → rdL f s n last h = .inr m → 0 < m
  | 0, s, n, last, h, m, hn, e => by cases e; exact hn
  | f + 1, s, n, last, h, m, hn, e => by
    rw [rdL] at e
    split at e
    · cases e; exact hn
    · split at e
      · split at e
        · cases e; exact hn
        · cases e
      · split at e
        · cases e; exact hn
        · exact rdL_pos f (Nat.succ_pos _) e
theorem rdL_in : ∀ (f : Nat) {s : List UInt8} {n : Nat} {last : Int} {h h' : Hd} {r : List UInt8} {m : Nat}, rdL f s n last h = .inl (h', r, m) → r.length ≤ s.length ∧ m ≤ n + s.length
  | 0, s, n, last, h, h', r, m, e => by cases e
  | f + 1, s, n, last, h, h', r, m, e => by
    have hc := cut_le 10 s
    rw [rdL] at e
    split at e
    · cases e
    · rename_i hb
      have hb2 : badL s last = false := by simpa using hb
      simp only [badL, Bool.or_eq_false_iff, Bool.not_eq_false'] at hb2
      have hs := cut_shr hb2.1.1
      split at e
      · split at e
        · cases e
        · cases e; exact ⟨hc.2, by omega⟩
      · split at e
        · cases e
        · have := rdL_in f e; omega
/-! ### event.Read -/
def evP (h : Hd) (b : List PFl) : Int := fst (headNo h.id h.at_ h.lv) (fst (pNo b) (fst (if (40 : Int) < h.ta.length then 4 else tagsNo none h.ta) (fst (if (50 : Int) < h.cr.length then 4 else crumbsNo none h.cr)
  (if (!decide (h.rel = []) && !nameOk h.rel) = true then 3 else fst (valNo h.us) (if (decide (h.wt < 1) || decide (1000000 < h.wt)) = true then 2 else 0)))))
def evOf (h : Hd) (y : HdR) (A : Option Addr) (c : Nat) (l : List Flt) : Evt := ⟨h.id, h.at_, h.lv, ⟨A, l.length, c, l⟩, ⟨y.A, h.ta.length, y.c, h.ta⟩, ⟨y.B, h.cr.length, y.d, h.cr⟩, h.rel, h.us, h.wt⟩
theorem evNo_of {h : Hd} {y : HdR} {A : Option Addr} {c : Nat} {l : List Flt} (hq : ∀ f ∈ l, f.fr.q = f.fr.l.length) : evNo (evOf h y A c l) = evP h (l.map pfl) := by
  unfold evNo evP evOf
  rw [faultsNo_p hq]
/-- what Read says: the number of the wrong line, the code, and what was read if the code is 0 -/
def readQ (s : List UInt8) : Nat × Int × Hd × List PFl :=
  if 1000000 < s.length then (0, 4, hd0, []) else match rdR s with
  | .inr n => (n, 8, hd0, [])
  | .inl (h, r, n) =>
    if sNo r = 8 then (n + rdW r, 8, hd0, [])
    else if headNo h.id h.at_ h.lv ≠ 0 then (0, headNo h.id h.at_ h.lv, hd0, [])
    else if (if sNo r = 0 then evP h (sL r) else sNo r) ≠ 0 then (0, (if sNo r = 0 then evP h (sL r) else sNo r), hd0, [])
    else (0, 0, h, sL r)
structure HdS (N : Nat) (h : Hd) : Prop where
  id : h.id.length ≤ N
  rel : h.rel.length ≤ N
  us : h.us.length ≤ N
  ta : ∀ t ∈ h.ta, t.n.length ≤ N ∧ t.v.length ≤ N
  cr : ∀ c ∈ h.cr, c.k.length ≤ N ∧ c.t.length ≤ N
theorem takeQ_short {N : Nat} {h : Hd} {k : Int} {s : List UInt8} (hh : HdS N h) (hs : s.length ≤ N) : HdS N (takeQ h k s).1 := by
  have hc1 := cut_le 32 s
  have hc2 := cut_le 32 (cutC 32 s).2.1
  obtain ⟨a1, a2, a3, a4, a5⟩ := hh
  unfold takeQ
  split
  · exact ⟨hs, a2, a3, a4, a5⟩
  split
  · exact ⟨a1, a2, a3, a4, a5⟩
  split
  · exact ⟨a1, a2, a3, a4, a5⟩
  split
  · exact ⟨a1, a2, a3, a4, a5⟩
  split
  · exact ⟨a1, hs, a3, a4, a5⟩
  split
  · exact ⟨a1, a2, hs, a4, a5⟩
  split
  · refine ⟨a1, a2, a3, fun t ht => ?_, a5⟩
    rcases List.mem_append.1 ht with h | h
    · exact a4 t h
    · rw [List.mem_singleton.1 h]; exact ⟨by show (cutC 32 s).1.length ≤ N; omega, by show (cutC 32 s).2.1.length ≤ N; omega⟩
  · refine ⟨a1, a2, a3, a4, fun t ht => ?_⟩
    rcases List.mem_append.1 ht with h | h
    · exact a5 t h
    · rw [List.mem_singleton.1 h]; exact ⟨by show (cutC 32 (cutC 32 s).2.1).1.length ≤ N; omega, by show (cutC 32 (cutC 32 s).2.1).2.1.length ≤ N; omega⟩
theorem rdL_short {N : Nat} : ∀ (f : Nat) {s : List UInt8} {n : Nat} {last : Int} {h h' : Hd} {r : List UInt8} {m : Nat}, HdS N h → s.length ≤ N → rdL f s n last h = .inl (h', r, m) → HdS N h'
  | 0, s, n, last, h, h', r, m, hh, hs, e => by cases e
  | f + 1, s, n, last, h, h', r, m, hh, hs, e => by
    have hc := cut_le 10 s
    have hc2 := cut_le 32 (cutC 10 s).1
    rw [rdL] at e
    split at e
    · cases e
    · split at e
      · split at e
        · cases e
        · cases e; exact hh
      · split at e
        · cases e
        · exact rdL_short f (takeQ_short hh (by show (cutC 32 (cutC 10 s).1).2.1.length ≤ N; omega)) (by omega) e
theorem rdL_cnt : ∀ (f : Nat) {s : List UInt8} {n : Nat} {last : Int} {h h' : Hd} {r : List UInt8} {m : Nat}, h.ta.length ≤ n → h.cr.length ≤ n → rdL f s n last h = .inl (h', r, m) → h'.ta.length ≤ m ∧ h'.cr.length ≤ m
  | 0, s, n, last, h, h', r, m, h1, h2, e => by cases e
  | f + 1, s, n, last, h, h', r, m, h1, h2, e => by
    rw [rdL] at e
    split at e
    · cases e
    · split at e
      · split at e
        · cases e
        · cases e; exact ⟨h1, h2⟩
      · split at e
        · cases e
        · have := takeQ_len h (knQ s) (rsQ s)
          exact rdL_cnt f (by omega) (by omega) e
theorem hd0_short (N : Nat) : HdS N hd0 := ⟨Nat.zero_le _, Nat.zero_le _, Nat.zero_le _, fun _ h => (by cases h), fun _ h => (by cases h)⟩
theorem rdH_in (h : Hd) (r : List UInt8) (n : Nat) : rdH (.inl (h, r, n)) = (h, r, n, 0) := rfl
structure EvR where
  y : HdR
  x : RdR
structure EvOk (w0 : World) (b : List PFl) (z : EvR) : Prop where
  ok : ∀ f ∈ z.x.l, Sees w0 z.x.rs fun w => FltOk w f
  few : z.x.l.length ≤ 1000000
  says : z.x.l.map pfl = b
theorem rdH_bad {x : (Hd × List UInt8 × Nat) ⊕ Nat} (h : 0 < (rdH x).2.2.2) : ∃ n, x = .inr n := by
  cases x with
  | inl y => exact absurd h (Nat.lt_irrefl 0)
  | inr n => exact ⟨n, rfl⟩
theorem rdH_ok {s : List UInt8} (h : ¬ 0 < (rdH (rdR s)).2.2.2) : ∃ hd r n, rdR s = .inl (hd, r, n) := by
  cases hx : rdR s with
  | inl y => exact ⟨y.1, y.2.1, y.2.2, rfl⟩
  | inr n => rw [hx] at h; exact absurd (rdL_pos _ (Nat.succ_pos 0) hx) h
theorem readQ_go {s r : List UInt8} {h : Hd} {n : Nat} (hs1 : ¬ 1000000 < s.length) (hR : rdR s = .inl (h, r, n)) (h35 : ¬ sNo r = 8) (h43 : headNo h.id h.at_ h.lv = 0) :
    readQ s = if (if sNo r = 0 then evP h (sL r) else sNo r) ≠ 0 then (0, (if sNo r = 0 then evP h (sL r) else sNo r), hd0, []) else (0, 0, h, sL r) := by
  rw [readQ, if_neg hs1, hR]
  exact (if_neg h35).trans (if_neg (fun e => e h43))
set_option maxRecDepth 8000 in
set_option maxHeartbeats 3200000 in
theorem eRead_any {w0 : World} {K : HL} (hK : FromK K) (s : List UInt8) (hs : s.length ≤ 4611686018427387904) (w : World) (hM0 : Mem w0 ([] ++ K) w) :
    Calls Tryz.prog 10 #[str s] w fun e w' => ∃ z : EvR, e = .returned (.tuple #[(evOf (readQ s).2.2.1 z.y z.x.A z.x.c z.x.l).val, .int .i64 (((readQ s).1 : Nat) : Int), .int .i64 (readQ s).2.1]) ∧ EvOk w0 (readQ s).2.2.2 z ∧
      Mem w0 ([(900, .many z.x.rs), (904, flI z.x.A z.x.c z.x.l), (906, tgI z.y.A z.y.c (readQ s).2.2.1.ta), (907, crI z.y.B z.y.d (readQ s).2.2.1.cr)] ++ K) w' := by
  refine enterM_args (args := [str s]) (F := _) hM0 Tryz.func10 rfl Tryz.ntmps10 rfl rfl ?_
  intro Rb hRb hRn
  refine tx ?_
  refine S_alloc 2 2 rfl rfl rfl rfl z26 ?_
  intro b2
  refine sr 2 ?_
  refine sgs ?_
  refine tx ?_
  refine sr 1 ?_
  refine s1 (y_len_str rfl rfl Tryz.underlying9) ?_
  refine sr 1 ?_
  refine sgo ?_
  refine T_cond rfl ?_ ?_ <;> intro h15
  · try simp only [nrm] at h15
    have hr : readQ s = (0, 4, hd0, []) := if_pos (by omega)
    refine tx ?_
    refine s1 (y_build (zv := .agg #[.string ⟨#[]⟩, .int .i64 0, .int .i64 0, .slice none 0 0, .slice none 0 0, .slice none 0 0, .string ⟨#[]⟩, .string ⟨#[]⟩, .int .i64 0]) (pl := [(0, 1), (1, 1), (2, 1), (3, 1), (4, 1), (5, 1), (6, 1), (7, 1), (8, 1)]) (out := [.string ⟨#[]⟩, .int .i64 0, .int .i64 0, .slice none 0 0, .slice none 0 0, .slice none 0 0, .string ⟨#[]⟩, .string ⟨#[]⟩, .int .i64 0]) rfl rfl Tryz.underlying26 z26 (by kernel_rfl) rfl) ?_
    refine S_store 2 rfl rfl rfl rfl rfl rfl sz26 rfl rfl ?_
    refine sr 2 ?_
    refine sgo ?_
    refine T_ret (fun a w hF hM => hRb a w (post_cell2 2 rfl rfl rfl rfl rfl Tryz.underlying26 rfl (by exact sz26) (fun w hM => ?_) a w hF hM))
    rw [hr]
    have hM := (((hM.add 907 (crI none 0 []) rfl (World.ownsRow_nil _ _ _ _)).add 906 (tgI none 0 []) rfl (World.ownsRow_nil _ _ _ _)).add 904 (flI none 0 []) rfl (World.ownsRow_nil _ _ _ _)).many0 900
    exact ⟨⟨⟨none, 0, none, 0⟩, ⟨none, 0, [], []⟩⟩, rfl, ⟨fun f hf => (by cases hf), Nat.zero_le _, rfl⟩, hM.keep (ks := [(0, 999)]) (by repeat (first | exact kl_rest (by assumption) rfl | (apply kl_in; focus rfl))) _ ⟨rfl, rfl, rfl, rfl, trivial⟩⟩
  try simp only [nrm] at h15
  have hs1 : ¬ 1000000 < s.length := by omega
  refine kgx ?_
  refine sr 1 ?_
  refine S_callN 19 [] [(906, 906), (907, 907)] (X := HdR) rfl rfl rfl rfl rfl rfl rfl cf37 rfl (fun y => .tuple #[evV (rdH (rdR s)).1 y, str (rdH (rdR s)).2.1, .int .i64 (((rdH (rdR s)).2.2.1 : Nat) : Int), .int .i64 (((rdH (rdR s)).2.2.2 : Nat) : Int)]) (fun _ => True) (fun y => [(906, tgI y.A y.c (rdH (rdR s)).1.ta), (907, crI y.B y.d (rdH (rdR s)).1.cr)]) (fun _ => rfl) (fun _ => rfl) (fun K1 hK1 w hM => readLines_any hK1 s (by omega) w hM) ?_
  intro y _
  refine sr 5 ?_
  refine S_alloc 5 5 rfl rfl rfl rfl z26 ?_
  intro b5
  refine S_store 5 rfl rfl rfl rfl rfl rfl sz26 rfl rfl ?_
  refine sr 3 ?_
  refine sgs ?_
  refine tx ?_
  refine sr 2 ?_
  refine sgo ?_
  refine T_cond rfl ?_ ?_ <;> intro h25
  · try simp only [nrm] at h25
    obtain ⟨n, hn⟩ := rdH_bad (x := rdR s) (by omega)
    have hr : readQ s = (n, 8, hd0, []) := by rw [readQ, if_neg hs1, hn]
    rw [hn]
    refine tx ?_
    refine s1 (y_build (zv := .agg #[.string ⟨#[]⟩, .int .i64 0, .int .i64 0, .slice none 0 0, .slice none 0 0, .slice none 0 0, .string ⟨#[]⟩, .string ⟨#[]⟩, .int .i64 0]) (pl := [(0, 1), (1, 1), (2, 1), (3, 1), (4, 1), (5, 1), (6, 1), (7, 1), (8, 1)]) (out := [.string ⟨#[]⟩, .int .i64 0, .int .i64 0, .slice none 0 0, .slice none 0 0, .slice none 0 0, .string ⟨#[]⟩, .string ⟨#[]⟩, .int .i64 0]) rfl rfl Tryz.underlying26 z26 (by kernel_rfl) rfl) ?_
    refine sr 1 ?_
    refine S_store 2 rfl rfl rfl rfl rfl rfl sz26 rfl rfl ?_
    refine sr 2 ?_
    refine sgo ?_
    refine T_ret (fun a w hF hM => hRb a w (post_cell2 2 rfl rfl rfl rfl rfl Tryz.underlying26 rfl (by exact sz26) (fun w hM => ?_) a w hF hM))
    rw [hr]
    have hM := (((hM.add 907 (crI none 0 []) rfl (World.ownsRow_nil _ _ _ _)).add 906 (tgI none 0 []) rfl (World.ownsRow_nil _ _ _ _)).add 904 (flI none 0 []) rfl (World.ownsRow_nil _ _ _ _)).many0 900
    exact ⟨⟨⟨none, 0, none, 0⟩, ⟨none, 0, [], []⟩⟩, rfl, ⟨fun f hf => (by cases hf), Nat.zero_le _, rfl⟩, hM.keep (ks := [(0, 999)]) (by repeat (first | exact kl_rest (by assumption) rfl | (apply kl_in; focus rfl))) _ ⟨rfl, rfl, rfl, rfl, trivial⟩⟩
  try simp only [nrm] at h25
  obtain ⟨h, r, n, hR⟩ := rdH_ok (s := s) (by omega)
  have hin := rdL_in _ hR
  have hrw := rdW_le r
  have hsh := rdL_short (N := 1000000) _ (hd0_short _) (by omega) hR
  have hcn := rdL_cnt _ (Nat.zero_le _) (Nat.zero_le _) hR
  rw [hR]
  simp only [rdH_in]
  refine kgx ?_
  refine sr 1 ?_
  refine S_callN 30 [] [(900, 900), (904, 904)] (X := RdR) rfl rfl rfl rfl rfl rfl rfl cf38 rfl (fun x => .tuple #[.slice x.A x.l.length x.c, .int .i64 ((rdW r : Nat) : Int), .int .i64 (sNo r)]) (fun x => SrR w0 r x) (fun x => [(900, .many x.rs), (904, flI x.A x.c x.l)]) (fun _ => rfl) (fun _ => rfl) (fun K1 hK1 w hM => sRead_any hK1 r (by omega) w hM) ?_
  intro x hx
  have hxf := hx.few
  have hxo := hx.ok
  have hxs := hx.says
  refine sr 7 ?_
  refine sgs ?_
  refine tx ?_
  refine sr 2 ?_
  refine sgo ?_
  refine T_cond rfl ?_ ?_ <;> intro h35
  · try simp only [nrm] at h35
    have hr : readQ s = (n + rdW r, 8, hd0, []) := by rw [readQ, if_neg hs1, hR]; exact if_pos h35
    refine tx ?_
    refine s1 (y_build (zv := .agg #[.string ⟨#[]⟩, .int .i64 0, .int .i64 0, .slice none 0 0, .slice none 0 0, .slice none 0 0, .string ⟨#[]⟩, .string ⟨#[]⟩, .int .i64 0]) (pl := [(0, 1), (1, 1), (2, 1), (3, 1), (4, 1), (5, 1), (6, 1), (7, 1), (8, 1)]) (out := [.string ⟨#[]⟩, .int .i64 0, .int .i64 0, .slice none 0 0, .slice none 0 0, .slice none 0 0, .string ⟨#[]⟩, .string ⟨#[]⟩, .int .i64 0]) rfl rfl Tryz.underlying26 z26 (by kernel_rfl) rfl) ?_
    refine sr 2 ?_
    refine s1 (y_bin rfl rfl rfl (fun hg => b_addv (((n + rdW r : Nat) : Int)) (by omega) (by omega))) ?_
    refine S_store 2 rfl rfl rfl rfl rfl rfl sz26 rfl rfl ?_
    refine sr 2 ?_
    refine sgo ?_
    refine T_ret (fun a w hF hM => hRb a w (post_cell2 2 rfl rfl rfl rfl rfl Tryz.underlying26 rfl (by exact sz26) (fun w hM => ?_) a w hF hM))
    rw [hr]
    have hM := (((hM.add 907 (crI none 0 []) rfl (World.ownsRow_nil _ _ _ _)).add 906 (tgI none 0 []) rfl (World.ownsRow_nil _ _ _ _)).add 904 (flI none 0 []) rfl (World.ownsRow_nil _ _ _ _)).many0 900
    exact ⟨⟨⟨none, 0, none, 0⟩, ⟨none, 0, [], []⟩⟩, rfl, ⟨fun f hf => (by cases hf), Nat.zero_le _, rfl⟩, hM.keep (ks := [(0, 999)]) (by repeat (first | exact kl_rest (by assumption) rfl | (apply kl_in; focus rfl))) _ ⟨rfl, rfl, rfl, rfl, trivial⟩⟩
  try simp only [nrm] at h35
  refine kgs ?_
  refine tx ?_
  refine s1 (yA 5 rfl Tryz.underlying26 sz26) ?_
  refine s1 (y_call rfl rfl rfl cf20 (fun _ w _ => checkHead_any (evOf h y none 0 []) w)) ?_
  refine sr 1 ?_
  refine sgx ?_
  refine sr 2 ?_
  refine sgo ?_
  refine T_cond rfl ?_ ?_ <;> intro h43
  · try simp only [nrm] at h43
    have hr : readQ s = (0, headNo h.id h.at_ h.lv, hd0, []) := by rw [readQ, if_neg hs1, hR]; exact (if_neg h35).trans (if_pos h43)
    refine tx ?_
    refine s1 (y_build (zv := .agg #[.string ⟨#[]⟩, .int .i64 0, .int .i64 0, .slice none 0 0, .slice none 0 0, .slice none 0 0, .string ⟨#[]⟩, .string ⟨#[]⟩, .int .i64 0]) (pl := [(0, 1), (1, 1), (2, 1), (3, 1), (4, 1), (5, 1), (6, 1), (7, 1), (8, 1)]) (out := [.string ⟨#[]⟩, .int .i64 0, .int .i64 0, .slice none 0 0, .slice none 0 0, .slice none 0 0, .string ⟨#[]⟩, .string ⟨#[]⟩, .int .i64 0]) rfl rfl Tryz.underlying26 z26 (by kernel_rfl) rfl) ?_
    refine sr 1 ?_
    refine S_store 2 rfl rfl rfl rfl rfl rfl sz26 rfl rfl ?_
    refine sr 2 ?_
    refine sgo ?_
    refine T_ret (fun a w hF hM => hRb a w (post_cell2 2 rfl rfl rfl rfl rfl Tryz.underlying26 rfl (by exact sz26) (fun w hM => ?_) a w hF hM))
    rw [hr]
    have hM := (((hM.add 907 (crI none 0 []) rfl (World.ownsRow_nil _ _ _ _)).add 906 (tgI none 0 []) rfl (World.ownsRow_nil _ _ _ _)).add 904 (flI none 0 []) rfl (World.ownsRow_nil _ _ _ _)).many0 900
    exact ⟨⟨⟨none, 0, none, 0⟩, ⟨none, 0, [], []⟩⟩, rfl, ⟨fun f hf => (by cases hf), Nat.zero_le _, rfl⟩, hM.keep (ks := [(0, 999)]) (by repeat (first | exact kl_rest (by assumption) rfl | (apply kl_in; focus rfl))) _ ⟨rfl, rfl, rfl, rfl, trivial⟩⟩
  try simp only [nrm] at h43
  refine kgx ?_
  refine sr 1 ?_
  refine s1 (yF fa26_3) ?_
  refine S_store 5 rfl rfl rfl rfl rfl rfl sz22 rfl rfl ?_
  refine sgs ?_
  refine tx ?_
  refine sr 2 ?_
  refine sgo ?_
  refine T_cond rfl ?_ ?_ <;> intro h49
  · try simp only [nrm] at h49
    refine T_knownP (p := ∀ f ∈ x.l, f.fr.q = f.fr.l.length) (fun w hM f hf => ((hxo f hf).at hM 900 rfl).fr.ok.t.len.symm) fun hfq => ?_
    have hev : evNo (evOf h y x.A x.c x.l) = evP h (sL r) := (evNo_of hfq).trans (by rw [hxs])
    refine T_region ?_
    refine s1 (yA 5 rfl Tryz.underlying26 sz26) ?_
    refine s1 (y_call rfl rfl rfl cf6 (fun _ w hM => Check_any (evOf h y x.A x.c x.l) w ⟨⟨row_ok (hM.sat 904 _ rfl) rfl, by show x.l.length ≤ _; omega, fun f hf => (hxo f hf).at hM 900 rfl⟩, ⟨row_ok (hM.sat 906 _ rfl) rfl, by show h.ta.length ≤ _; omega, fun t ht => ⟨Nat.le_trans (hsh.ta t ht).1 (by decide), Nat.le_trans (hsh.ta t ht).2 (by decide)⟩⟩, ⟨row_ok (hM.sat 907 _ rfl) rfl, by show h.cr.length ≤ _; omega, fun t ht => ⟨Nat.le_trans (hsh.cr t ht).1 (by decide), Nat.le_trans (hsh.cr t ht).2 (by decide)⟩⟩, Nat.le_trans hsh.id (by decide), Nat.le_trans hsh.rel (by decide), Nat.le_trans hsh.us (by decide)⟩)) ?_
    refine sr 1 ?_
    refine sgs ?_
    refine tx ?_
    refine sr 2 ?_
    refine sgo ?_
    refine T_cond rfl ?_ ?_ <;> intro h53
    · try simp only [nrm] at h53
      have hr : readQ s = (0, evNo (evOf h y x.A x.c x.l), hd0, []) := by rw [readQ_go hs1 hR h35 h43, if_pos h49, ← hev, if_pos h53]
      refine tx ?_
      refine s1 (y_build (zv := .agg #[.string ⟨#[]⟩, .int .i64 0, .int .i64 0, .slice none 0 0, .slice none 0 0, .slice none 0 0, .string ⟨#[]⟩, .string ⟨#[]⟩, .int .i64 0]) (pl := [(0, 1), (1, 1), (2, 1), (3, 1), (4, 1), (5, 1), (6, 1), (7, 1), (8, 1)]) (out := [.string ⟨#[]⟩, .int .i64 0, .int .i64 0, .slice none 0 0, .slice none 0 0, .slice none 0 0, .string ⟨#[]⟩, .string ⟨#[]⟩, .int .i64 0]) rfl rfl Tryz.underlying26 z26 (by kernel_rfl) rfl) ?_
      refine sr 1 ?_
      refine S_store 2 rfl rfl rfl rfl rfl rfl sz26 rfl rfl ?_
      refine sr 2 ?_
      refine sgo ?_
      refine T_ret (fun a w hF hM => hRb a w (post_cell2 2 rfl rfl rfl rfl rfl Tryz.underlying26 rfl (by exact sz26) (fun w hM => ?_) a w hF hM))
      rw [hr]
      have hM := (((hM.add 907 (crI none 0 []) rfl (World.ownsRow_nil _ _ _ _)).add 906 (tgI none 0 []) rfl (World.ownsRow_nil _ _ _ _)).add 904 (flI none 0 []) rfl (World.ownsRow_nil _ _ _ _)).many0 900
      exact ⟨⟨⟨none, 0, none, 0⟩, ⟨none, 0, [], []⟩⟩, rfl, ⟨fun f hf => (by cases hf), Nat.zero_le _, rfl⟩, hM.keep (ks := [(0, 999)]) (by repeat (first | exact kl_rest (by assumption) rfl | (apply kl_in; focus rfl))) _ ⟨rfl, rfl, rfl, rfl, trivial⟩⟩
    try simp only [nrm] at h53
    have hr : readQ s = (0, 0, h, sL r) := by rw [readQ_go hs1 hR h35 h43, if_pos h49, ← hev, if_neg (fun e => e h53)]
    refine kgx ?_
    refine s1 (yA 5 rfl Tryz.underlying26 sz26) ?_
    refine S_store 2 rfl rfl rfl rfl rfl rfl sz26 rfl rfl ?_
    refine sr 2 ?_
    refine sgo ?_
    refine T_ret (fun a w hF hM => hRb a w (post_cell2 2 rfl rfl rfl rfl rfl Tryz.underlying26 rfl (by exact sz26) (fun w hM => ?_) a w hF hM))
    rw [hr]
    exact ⟨⟨y, x⟩, rfl, ⟨hxo, hxf, hxs⟩, hM.keep (ks := [(0, 999)]) (by repeat (first | exact kl_rest (by assumption) rfl | (apply kl_in; focus rfl))) _ ⟨rfl, rfl, rfl, rfl, trivial⟩⟩
  try simp only [nrm] at h49
  refine kgs ?_
  refine tx ?_
  refine sr 2 ?_
  refine sgo ?_
  refine T_cond rfl ?_ ?_ <;> intro h53
  · try simp only [nrm] at h53
    have hr : readQ s = (0, sNo r, hd0, []) := by rw [readQ_go hs1 hR h35 h43, if_neg h49, if_pos h53]
    refine tx ?_
    refine s1 (y_build (zv := .agg #[.string ⟨#[]⟩, .int .i64 0, .int .i64 0, .slice none 0 0, .slice none 0 0, .slice none 0 0, .string ⟨#[]⟩, .string ⟨#[]⟩, .int .i64 0]) (pl := [(0, 1), (1, 1), (2, 1), (3, 1), (4, 1), (5, 1), (6, 1), (7, 1), (8, 1)]) (out := [.string ⟨#[]⟩, .int .i64 0, .int .i64 0, .slice none 0 0, .slice none 0 0, .slice none 0 0, .string ⟨#[]⟩, .string ⟨#[]⟩, .int .i64 0]) rfl rfl Tryz.underlying26 z26 (by kernel_rfl) rfl) ?_
    refine sr 1 ?_
    refine S_store 2 rfl rfl rfl rfl rfl rfl sz26 rfl rfl ?_
    refine sr 2 ?_
    refine sgo ?_
    refine T_ret (fun a w hF hM => hRb a w (post_cell2 2 rfl rfl rfl rfl rfl Tryz.underlying26 rfl (by exact sz26) (fun w hM => ?_) a w hF hM))
    rw [hr]
    have hM := (((hM.add 907 (crI none 0 []) rfl (World.ownsRow_nil _ _ _ _)).add 906 (tgI none 0 []) rfl (World.ownsRow_nil _ _ _ _)).add 904 (flI none 0 []) rfl (World.ownsRow_nil _ _ _ _)).many0 900
    exact ⟨⟨⟨none, 0, none, 0⟩, ⟨none, 0, [], []⟩⟩, rfl, ⟨fun f hf => (by cases hf), Nat.zero_le _, rfl⟩, hM.keep (ks := [(0, 999)]) (by repeat (first | exact kl_rest (by assumption) rfl | (apply kl_in; focus rfl))) _ ⟨rfl, rfl, rfl, rfl, trivial⟩⟩
  try simp only [nrm] at h53
  exact absurd h53 h49
end Go.Proofs.YtgbldojgbpgjbaaGreatDoor
end
section
namespace Go.Proofs.YtgbldojgbpgjbaaGreatDoor
set_option linter.unusedSimpArgs false
set_option linter.unusedVariables false
set_option maxRecDepth 20000
open Go.RowKit Go.Eng
def callT (x : Frm) : List UInt8 := if x.m = [] then x.f else x.m ++ [33] ++ x.f
def headT (k t : List UInt8) : List UInt8 := if t = [] then k ++ [58, 10] else k ++ [58, 32] ++ t ++ [10]
theorem call_any (x : Frm) (hx : FrS 1000000 x) (w : World) : Calls Tryz.prog 166 #[x.val] w fun e w' => e = .returned (str (callT x)) ∧ Below w.heap.size w w' := by
  obtain ⟨hx1, hx2, hx3⟩ := hx
  refine enter_args (args := [.agg #[str x.m, str x.f, str x.fi, .int .i64 x.ln, .int .i64 x.ad, .bool x.own]]) (F := _) Tryz.func166 rfl Tryz.ntmps166 rfl rfl ?_
  intro Rb hRb hRn
  refine tx ?_
  refine S_box 1 1 rfl rfl rfl rfl rfl ?_
  intro b1
  refine sr 1 ?_
  refine sgs ?_
  refine tx ?_
  refine s1 (yF fa45_0) ?_
  refine s1 (yL 1 Tryz.underlying9) ?_
  refine s1 (y_bin rfl rfl rfl (fun _ => b_neqs)) ?_
  refine sgo ?_
  refine T_cond rfl ?_ ?_ <;> intro h5
  · try simp only [nrm] at h5
    have hc : callT x = x.m ++ [33] ++ x.f := if_neg h5
    refine tx ?_
    refine s1 (yF fa45_0) ?_
    refine s1 (yL 1 Tryz.underlying9) ?_
    refine s1 (y_bin rfl rfl rfl (fun hg => b_adds (by first | omega | (simp only [List.length_append, List.length_cons, List.length_nil]; omega)))) ?_
    refine s1 (yF fa45_1) ?_
    refine s1 (yL 1 Tryz.underlying9) ?_
    refine s1 (y_as (v' := str (x.m ++ [33] ++ x.f)) (by exact rfl) (y_bin rfl rfl rfl (fun hg => b_adds (by first | omega | (simp only [List.length_append, List.length_cons, List.length_nil]; omega))))) ?_
    refine sr 1 ?_
    refine sgo ?_
    refine tr1 hRb fun w hM => ?_
    rw [hc]
    exact ⟨rfl, hM.below⟩
  try simp only [nrm] at h5
  have hc : callT x = x.f := if_pos h5
  refine kgx ?_
  refine s1 (yF fa45_1) ?_
  refine s1 (yL 1 Tryz.underlying9) ?_
  refine sr 1 ?_
  refine sgo ?_
  refine tr1 hRb fun w hM => ?_
  rw [hc]
  exact ⟨rfl, hM.below⟩
theorem head_any (f : Flt) (hk : f.k.length ≤ 1000000) (ht : f.t.length ≤ 1000000) (w : World) : Calls Tryz.prog 165 #[f.val] w fun e w' => e = .returned (str (headT f.k f.t)) ∧ Below w.heap.size w w' := by
  refine enter_args (args := [.agg #[str f.k, str f.t, .slice f.fr.A f.fr.q f.fr.c]]) (F := _) Tryz.func165 rfl Tryz.ntmps165 rfl rfl ?_
  intro Rb hRb hRn
  refine tx ?_
  refine S_box 1 1 rfl rfl rfl rfl rfl ?_
  intro b1
  refine sr 1 ?_
  refine sgs ?_
  refine tx ?_
  refine s1 (yF fa36_1) ?_
  refine s1 (yL 1 Tryz.underlying9) ?_
  refine s1 (y_bin rfl rfl rfl (fun _ => b_eqls)) ?_
  refine sgo ?_
  refine T_cond rfl ?_ ?_ <;> intro h5
  · try simp only [nrm] at h5
    have hc : headT f.k f.t = f.k ++ [58, 10] := if_pos h5
    refine tx ?_
    refine s1 (yF fa36_0) ?_
    refine s1 (yL 1 Tryz.underlying9) ?_
    refine s1 (y_bin rfl rfl rfl (fun hg => b_adds (by first | omega | (simp only [List.length_append, List.length_cons, List.length_nil]; omega)))) ?_
    refine sr 1 ?_
    refine sgo ?_
    refine tr1 hRb fun w hM => ?_
    rw [hc]
    exact ⟨rfl, hM.below⟩
  try simp only [nrm] at h5
  have hc : headT f.k f.t = f.k ++ [58, 32] ++ f.t ++ [10] := if_neg h5
  refine kgx ?_
  refine s1 (yF fa36_0) ?_
  refine s1 (yL 1 Tryz.underlying9) ?_
  refine s1 (y_bin rfl rfl rfl (fun hg => b_adds (by first | omega | (simp only [List.length_append, List.length_cons, List.length_nil]; omega)))) ?_
  refine s1 (yF fa36_1) ?_
  refine s1 (yL 1 Tryz.underlying9) ?_
  refine s1 (y_bin rfl rfl rfl (fun hg => b_adds (by first | omega | (simp only [List.length_append, List.length_cons, List.length_nil]; omega)))) ?_
  refine s1 (y_bin rfl rfl rfl (fun hg => b_adds (by first | omega | (simp only [List.length_append, List.length_cons, List.length_nil]; omega)))) ?_
  refine sr 1 ?_
  refine sgo ?_
  refine tr1 hRb fun w hM => ?_
  rw [hc]
  exact ⟨rfl, hM.below⟩
theorem wrapU (h : Nat) (hh : h < 9223372036854775808) : IntKind.wrap .u64 (h : Int) = (h : Int) := by
  have e : (2 : Int) ^ IntKind.u64.bits = 18446744073709551616 := rfl
  simp only [IntKind.wrap, e]
  have h1 : (h : Int) % 18446744073709551616 = (h : Int) := Int.emod_eq_of_lt (by omega) (by omega)
  rw [h1]
  rfl
theorem iFormatInt_any (h : Nat) (hh : h < 9223372036854775808) (w : World) (hT : TzTab w) :
    Calls Tryz.prog 171 #[.int .i64 (h : Int), .int .i64 16] w fun e w' => e = .returned (str (hexA h [])) ∧ Below w.heap.size w w' := by
  refine enter_args (args := [.int .i64 (h : Int), .int .i64 16]) (F := _) Tryz.func171 rfl Tryz.ntmps171 rfl rfl ?_
  intro Rb hRb hRn
  refine tx ?_
  refine sr 1 ?_
  refine sgs ?_
  refine tx ?_
  refine sr 2 ?_
  refine sgo ?_
  refine T_cond rfl ?_ ?_ <;> intro h11
  · skip
    exact absurd h11 (by decide)
  refine kgx ?_
  refine sr 1 ?_
  refine s1 (y_as (v' := .int .u64 (h : Int)) (by exact congrArg (Value.int .u64) (wrapU h hh)) (y_conv rfl rfl Tryz.underlying2 Tryz.underlying145)) ?_
  refine sr 2 ?_
  refine s1 (y_as (v' := .bool false) (by exact congrArg Value.bool (by simp)) (y_bin rfl rfl rfl (fun _ => b_lss))) ?_
  refine s1 (y_call rfl rfl rfl cf226 (fun _ w hM => formatBits_any h (by omega) w (hT.below hM.below))) ?_
  refine sr 5 ?_
  refine sgx ?_
  refine sr 2 ?_
  refine sgo ?_
  refine tr1 hRb fun w hM => ?_
  exact ⟨rfl, hM.below⟩
theorem FormatInt_any (h : Nat) (hh : h < 9223372036854775808) (w : World) (hT : TzTab w) :
    Calls Tryz.prog 220 #[.int .i64 (h : Int), .int .i64 16] w fun e w' => e = .returned (str (hexA h [])) ∧ Below w.heap.size w w' := by
  refine enter_args (args := [.int .i64 (h : Int), .int .i64 16]) (F := _) Tryz.func220 rfl Tryz.ntmps220 rfl rfl ?_
  intro Rb hRb hRn
  refine tx ?_
  refine sr 1 ?_
  refine sgx ?_
  refine sr 2 ?_
  refine s1 (y_call rfl rfl rfl cf171 (fun _ w hM => iFormatInt_any h hh w (hT.below hM.below))) ?_
  refine sr 1 ?_
  refine sgo ?_
  refine tr1 hRb fun w hM => ?_
  exact ⟨rfl, hM.below⟩
def fileT (x : Frm) : List UInt8 := if x.fi = [] then [] else [32, 40] ++ x.fi ++ (if x.ln = 0 then [] else 58 :: Lib.itoa x.ln) ++ [41]
def addrT (x : Frm) : List UInt8 := if x.ad = -1 then [] else [32, 64] ++ hexA x.ad.toNat []
def placeT (x : Frm) : List UInt8 := fileT x ++ addrT x ++ (if x.own = true then [32, 42] else [])
structure FrN (x : Frm) : Prop where
  s : FrS 1000000 x
  ln : 0 ≤ x.ln ∧ x.ln ≤ 9999999
  ad : -1 ≤ x.ad ∧ x.ad ≤ 281474976710655
theorem itoa_le (n : Int) (h : 0 ≤ n ∧ n ≤ 9999999) : (Lib.itoa n).length ≤ 1000 := Nat.le_trans (Lib.itoa_length_le n (by omega) (by omega)) (by decide)
theorem fileT_le (x : Frm) (h : x.fi.length ≤ 1000000) (h2 : 0 ≤ x.ln ∧ x.ln ≤ 9999999) : (fileT x).length ≤ 1002000 := by
  have := itoa_le x.ln h2
  unfold fileT
  split
  · exact Nat.zero_le _
  · split <;> simp <;> omega
theorem addrT_le (x : Frm) (h : -1 ≤ x.ad ∧ x.ad ≤ 281474976710655) : (addrT x).length ≤ 100 := by
  unfold addrT
  split
  · exact Nat.zero_le _
  · have := hexA_len x.ad.toNat [] (by decide) (by show x.ad.toNat < 16 ^ 16; omega)
    simp; omega
theorem place_any (x : Frm) (hx : FrN x) (w : World) (hP : P10 w) (hT : TzTab w) : Calls Tryz.prog 167 #[x.val] w fun e w' => e = .returned (str (placeT x)) ∧ Below w.heap.size w w' := by
  obtain ⟨⟨hx1, hx2, hx3⟩, hln, had⟩ := hx
  have hil := itoa_le x.ln hln
  have hfl := fileT_le x hx3 hln
  have hal := addrT_le x had
  have hhl := hexA_len x.ad.toNat [] (by decide) (by show x.ad.toNat < 16 ^ 16; omega)
  refine enter_args (args := [.agg #[str x.m, str x.f, str x.fi, .int .i64 x.ln, .int .i64 x.ad, .bool x.own]]) (F := _) Tryz.func167 rfl Tryz.ntmps167 rfl rfl ?_
  intro Rb hRb hRn
  refine tx ?_
  refine S_box 1 1 rfl rfl rfl rfl rfl ?_
  intro b1
  refine sr 1 ?_
  refine sgx ?_
  refine sr 1 ?_
  refine sgs ?_
  refine tx ?_
  refine s1 (yF fa45_2) ?_
  refine s1 (yL 1 Tryz.underlying9) ?_
  refine s1 (y_bin rfl rfl rfl (fun _ => b_neqs)) ?_
  refine sgo ?_
  refine T_mid (kf := [(3, 3), (7, 20)]) (kl := [(3, 3), (7, 20)]) (fun u : Unit => [(3, true, str (fileT x))]) (fun u : Unit => []) (by repeat (first | exact kf_nil | (apply kf_in; focus rfl) | (apply kf_out; focus rfl))) (by repeat (first | exact kl_nil | exact kl_rest (by assumption) rfl | (apply kl_in; focus rfl) | (apply kl_out; focus rfl))) ?_ ?_
  · skip
    refine T_cond rfl ?_ ?_ <;> intro h6
    · try simp only [nrm] at h6
      refine tx ?_
      refine s1 (yF fa45_2) ?_
      refine s1 (yL 1 Tryz.underlying9) ?_
      refine s1 (y_bin rfl rfl rfl (fun hg => b_adds (by first | omega | (simp only [List.length_append, List.length_cons, List.length_nil]; omega)))) ?_
      refine sr 1 ?_
      refine sgs ?_
      refine tx ?_
      refine s1 (yF fa45_3) ?_
      refine s1 (yL 1 Tryz.underlying3) ?_
      refine sr 1 ?_
      refine sgo ?_
      refine T_cond rfl ?_ ?_ <;> intro h12
      · try simp only [nrm] at h12
        refine T_region ?_
        refine sr 1 ?_
        refine s1 (yF fa45_3) ?_
        refine s1 (yL 1 Tryz.underlying3) ?_
        refine s1 (y_call rfl rfl rfl cf33 (fun _ w hM => Itoa_any x.ln (by omega) (by omega) w (hP.below hM.below))) ?_
        refine s1 (y_bin rfl rfl rfl (fun hg => b_adds (by first | omega | (simp only [List.length_append, List.length_cons, List.length_nil]; omega)))) ?_
        refine s1 (y_bin rfl rfl rfl (fun hg => b_adds (by first | omega | (simp only [List.length_append, List.length_cons, List.length_nil]; omega)))) ?_
        refine sr 1 ?_
        refine sgr ?_
        refine sr 1 ?_
        refine s1 (y_bin rfl rfl rfl (fun hg => b_adds (by first | omega | (simp only [List.length_append, List.length_cons, List.length_nil]; omega)))) ?_
        refine sr 1 ?_
        refine S_nil (mid_end (kf := [(3, 3), (7, 20)]) (kl := [(3, 3), (7, 20)]) (()) (by repeat (first | exact kf_nil | (apply kf_in; focus rfl) | (apply kf_out; focus rfl))) (by repeat (first | exact kl_nil | exact kl_rest (by assumption) rfl | (apply kl_in; focus rfl) | (apply kl_out; focus rfl))) ?_ ?_)
        · exact ⟨by rw [fileT, if_neg h6, if_neg h12]; rfl, trivial⟩
        · exact trivial
      try simp only [nrm] at h12
      refine kgr ?_
      refine sr 1 ?_
      refine s1 (y_bin rfl rfl rfl (fun hg => b_adds (by first | omega | (simp only [List.length_append, List.length_cons, List.length_nil]; omega)))) ?_
      refine sr 1 ?_
      refine S_nil (mid_end (kf := [(3, 3), (7, 20)]) (kl := [(3, 3), (7, 20)]) (()) (by repeat (first | exact kf_nil | (apply kf_in; focus rfl) | (apply kf_out; focus rfl))) (by repeat (first | exact kl_nil | exact kl_rest (by assumption) rfl | (apply kl_in; focus rfl) | (apply kl_out; focus rfl))) ?_ ?_)
      · exact ⟨by rw [fileT, if_neg h6, if_pos h12, List.append_nil]; rfl, trivial⟩
      · exact trivial
    try simp only [nrm] at h6
    refine T_skip (mid_end (kf := [(3, 3), (7, 20)]) (kl := [(3, 3), (7, 20)]) (()) (by repeat (first | exact kf_nil | (apply kf_in; focus rfl) | (apply kf_out; focus rfl))) (by repeat (first | exact kl_nil | exact kl_rest (by assumption) rfl | (apply kl_in; focus rfl) | (apply kl_out; focus rfl))) ?_ ?_)
    · exact ⟨by rw [fileT, if_pos h6]; rfl, trivial⟩
    · exact trivial
  intro u
  refine sgs ?_
  refine tx ?_
  refine s1 (yF fa45_4) ?_
  refine s1 (yL 1 Tryz.underlying3) ?_
  refine sr 1 ?_
  refine sgo ?_
  refine T_mid (kf := [(3, 3), (24, 29)]) (kl := [(3, 3), (24, 29)]) (fun u : Unit => [(3, true, str (fileT x ++ addrT x))]) (fun u : Unit => []) (by repeat (first | exact kf_nil | (apply kf_in; focus rfl) | (apply kf_out; focus rfl))) (by repeat (first | exact kl_nil | exact kl_rest (by assumption) rfl | (apply kl_in; focus rfl) | (apply kl_out; focus rfl))) ?_ ?_
  · skip
    refine T_cond rfl ?_ ?_ <;> intro h23
    · try simp only [nrm] at h23
      refine T_region ?_
      refine sr 1 ?_
      refine s1 (yF fa45_4) ?_
      refine s1 (y_as (v' := .int .i64 ((x.ad.toNat : Nat) : Int)) (by exact congrArg (Value.int .i64) (show x.ad = ((x.ad.toNat : Nat) : Int) by omega)) (yL 1 Tryz.underlying3)) ?_
      refine s1 (y_call rfl rfl rfl cf220 (fun _ w hM => FormatInt_any x.ad.toNat (by omega) w (hT.below hM.below))) ?_
      refine s1 (y_bin rfl rfl rfl (fun hg => b_adds (by first | omega | (simp only [List.length_append, List.length_cons, List.length_nil]; omega)))) ?_
      refine s1 (y_bin rfl rfl rfl (fun hg => b_adds (by first | omega | (simp only [List.length_append, List.length_cons, List.length_nil]; omega)))) ?_
      refine sr 1 ?_
      refine S_nil (mid_end (kf := [(3, 3), (24, 29)]) (kl := [(3, 3), (24, 29)]) (()) (by repeat (first | exact kf_nil | (apply kf_in; focus rfl) | (apply kf_out; focus rfl))) (by repeat (first | exact kl_nil | exact kl_rest (by assumption) rfl | (apply kl_in; focus rfl) | (apply kl_out; focus rfl))) ?_ ?_)
      · exact ⟨by rw [addrT, if_neg h23]; rfl, trivial⟩
      · exact trivial
    try simp only [nrm] at h23
    refine T_skip (mid_end (kf := [(3, 3), (24, 29)]) (kl := [(3, 3), (24, 29)]) (()) (by repeat (first | exact kf_nil | (apply kf_in; focus rfl) | (apply kf_out; focus rfl))) (by repeat (first | exact kl_nil | exact kl_rest (by assumption) rfl | (apply kl_in; focus rfl) | (apply kl_out; focus rfl))) ?_ ?_)
    · exact ⟨by rw [addrT, if_pos h23, List.append_nil]; rfl, trivial⟩
    · exact trivial
  intro u
  refine sgs ?_
  refine tx ?_
  refine s1 (yF fa45_5) ?_
  refine s1 (yL 1 Tryz.underlying4) ?_
  refine sgo ?_
  refine T_cond rfl ?_ ?_ <;> intro h31
  · try simp only [nrm] at h31
    refine T_region ?_
    refine sr 1 ?_
    refine s1 (y_bin rfl rfl rfl (fun hg => b_adds (by first | omega | (simp only [List.length_append, List.length_cons, List.length_nil]; omega)))) ?_
    refine sr 1 ?_
    refine sgx ?_
    refine sr 2 ?_
    refine sgo ?_
    refine tr1 hRb fun w hM => ?_
    exact ⟨by rw [placeT, if_pos h31], hM.below⟩
  try simp only [nrm] at h31
  refine kgx ?_
  refine sr 2 ?_
  refine sgo ?_
  refine tr1 hRb fun w hM => ?_
  exact ⟨by rw [placeT, if_neg (by rw [h31]; decide), List.append_nil], hM.below⟩
end Go.Proofs.YtgbldojgbpgjbaaGreatDoor
end
