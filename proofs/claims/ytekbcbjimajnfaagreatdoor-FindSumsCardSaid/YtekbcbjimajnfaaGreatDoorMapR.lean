/- The range over a map that no round writes: the iterator as an item, its entries in whatever order. No condition. -/
import Derived.Test.YtekbcbjimajnfaaGreatDoorApp
import Derived.Maps.RangeRun
import Derived.Laws.Cover1
namespace Go.Eng
set_option linter.unusedSimpArgs false
set_option linter.unusedVariables false
set_option linter.unusedSectionVars false
open Go.RowKit
section
variable {P : Program} {w0 : World} {n : Nat} {ops : Array Oper} {l : List Oper} {F : FL} {L : HL} {Q : Exit → Act → World → Prop} {o : Oper} {g : Bool} {v : Value} {x y z : Operand} {t t' : TypeId} {gx gy : Bool}
variable {α : Type} [DecidableEq α]
/-- the map as it stood when the range began -/
def IsEs (es : Array MapEntry) (clock : Nat) (ob : Obj) : Prop := ob = .map es clock ∧ (∀ e ∈ es.toList, e.born < clock) ∧ (es.toList.map (·.born)).Nodup
/-- the iterator: ps are the entries to come, last the entry that it handed out -/
def IsIt {β : Type} (ke ve : β → Value) (b : Nat) (es : Array MapEntry) (clock : Nat) (ps : List β) (last : Option β) (ob : Obj) : Prop :=
  ∃ seen c0, ob = .mapIter (some b) clock seen c0 ∧ clock ≤ c0 ∧ (leftOf es seen).toList.map (fun e => (e.key, e.val)) = ps.map (fun p => (ke p, ve p)) ∧
    (∀ p, last = some p → c0 = clock ∧ ∃ (s' : Array Nat) (e : MapEntry), seen = s'.push e.born ∧ e ∈ es.toList ∧ e.key = ke p ∧ e.val = ve p)
def nxt {β : Type} (ke ve : β → Value) (q : Option β) : Array Value := match q with
  | none => #[.bool false]
  | some p => #[.bool true, ke p, ve p]
theorem map_split {β γ δ : Type} {f : β → δ} {h : γ → δ} : ∀ {l1 l2 : List β} {e : β} {ps : List γ}, (l1 ++ e :: l2).map f = ps.map h → ∃ q1 p q2, ps = q1 ++ p :: q2 ∧ l1.map f = q1.map h ∧ f e = h p ∧ l2.map f = q2.map h
  | [], l2, e, [], hm => by simp at hm
  | [], l2, e, p :: q, hm => by
    simp only [List.nil_append, List.map_cons, List.cons.injEq] at hm
    exact ⟨[], p, q, rfl, rfl, hm.1, hm.2⟩
  | a :: l1, l2, e, [], hm => by simp at hm
  | a :: l1, l2, e, p :: q, hm => by
    simp only [List.cons_append, List.map_cons, List.cons.injEq] at hm
    obtain ⟨q1, p', q2, h1, h2, h3, h4⟩ := map_split hm.2
    exact ⟨p :: q1, p', q2, by rw [h1]; rfl, by simp [hm.1, h2], h3, h4⟩
theorem left_push {es : Array MapEntry} {seen : Array Nat} (b : Nat) : (leftOf es (seen.push b)).toList = (leftOf es seen).toList.filter (fun e => !(e.born == b)) := by
  unfold leftOf
  simp only [Array.toList_filter, List.filter_filter]
  apply List.filter_congr
  intro e _
  simp [Array.contains_push, Bool.not_or, Bool.and_comm]
  try rfl
theorem filter_one {l1 l2 : List MapEntry} {e : MapEntry} (hn : ((l1 ++ e :: l2).map (·.born)).Nodup) : (l1 ++ e :: l2).filter (fun x => !(x.born == e.born)) = l1 ++ l2 := by
  rw [List.map_append, List.map_cons, List.nodup_append] at hn
  obtain ⟨_, h2, h3⟩ := hn
  rw [List.nodup_cons] at h2
  have ha : ∀ x ∈ l1, (!(x.born == e.born)) = true := fun x hx => by
    have := h3 x.born (List.mem_map_of_mem hx) e.born List.mem_cons_self
    simpa using this
  have hb : ∀ x ∈ l2, (!(x.born == e.born)) = true := fun x hx => by
    have : x.born ≠ e.born := fun h => h2.1 (by rw [← h]; exact List.mem_map_of_mem hx)
    simpa using this
  rw [List.filter_append, List.filter_cons, if_neg (by simp), List.filter_eq_self.2 ha, List.filter_eq_self.2 hb]
theorem S_next (d i j : Nat) {β : Type} {ke ve : β → Value} {b r : Nat} {es : Array MapEntry} {clock : Nat} {ps : List β} {last : Option β} (hg : o.guard = none) (hd : o.dst = some d) (hdn : Nat.blt d n = true) (ho : o.op = .next x false) (hx : F.ev x = some (true, .pointer (some ⟨r, 0, none⟩)))
    (hLj : L.get j = some (.blk r (IsIt ke ve b es clock ps last))) (hLi : L.get i = some (.blk b (IsEs es clock)))
    (hK : ∀ q ps', (q = none → ps = []) → (∀ p, q = some p → ps.Perm (p :: ps')) → S P w0 n ops l ((d, true, .tuple (nxt ke ve q)) :: F) ((j, .blk r (IsIt ke ve b es clock ps' q)) :: L) Q) : S P w0 n ops (o :: l) F L Q :=
  S_loud d hg hd hdn fun a w hF hM => by
    have hx' : a.eval x = .pointer (some ⟨r, 0, none⟩) := by have := hF.eval hx; simpa using this
    obtain ⟨hr, ob, h1, seen, c0, rfl, h2, h3, h4⟩ := hM.sat j _ hLj
    obtain ⟨hb, ob', g1, rfl, g2, g3⟩ := hM.sat i _ hLi
    rcases run_next_at (P := P) w o.type r b clock c0 seen es clock h1 g1 g2 h2 with ⟨k1, k2⟩ | ⟨e, he, w1, hw1, k2⟩
    · have hps : ps = [] := by
        have : (leftOf es seen).toList = [] := List.eq_nil_of_length_eq_zero (by simpa using k1)
        rw [this] at h3
        exact List.map_eq_nil_iff.1 h3.symm
      refine ⟨_, w, _, ?_, hM.turn (p' := .blk r (IsIt ke ve b es clock [] none)) hLj ⟨rfl, rfl, rfl, Nat.le_refl _, fun _ _ _ => rfl⟩ ⟨hr, _, h1, seen, c0, rfl, h2, by rw [← hps]; exact h3, fun p h => by cases h⟩ (.inl rfl), hK none [] (fun _ => hps) (fun p h => by cases h)⟩
      simp only [execOp, ho, hx', Sem.run_bind, k2, Result.andThen_ok, Sem.run_pure]; rfl
    · obtain ⟨l1, l2, hl⟩ := List.append_of_mem he
      rw [hl] at h3
      obtain ⟨q1, p, q2, e1, e2, e3, e4⟩ := map_split h3
      have hnd : ((l1 ++ e :: l2).map (·.born)).Nodup := by
        rw [← hl]
        unfold leftOf
        rw [Array.toList_filter]
        exact List.Nodup.sublist (List.Sublist.map _ List.filter_sublist) g3
      have hes : e ∈ es.toList := by
        unfold leftOf at he
        rw [Array.toList_filter] at he
        exact (List.mem_filter.1 he).1
      have hke : e.key = ke p ∧ e.val = ve p := by simpa using e3
      have hM1 : Mem w0 L w1 := by rcases hw1 with rfl | rfl <;> first | exact hM | exact hM.drew
      have hr1 : w1.heap[r]? = some (.mapIter (some b) clock seen c0) := by rcases hw1 with rfl | rfl <;> exact h1
      have hlt := (Array.getElem?_eq_some_iff.1 hr1).1
      refine ⟨_, ChangeMaps.setBlock w1 r (.mapIter (some b) clock (seen.push e.born) clock), _, ?_, hM1.turn (p' := .blk r (IsIt ke ve b es clock (q1 ++ q2) (some p))) hLj ⟨rfl, rfl, rfl, by simp [ChangeMaps.setBlock], fun k _ hne => ?_⟩ ⟨hr, _, ?_, seen.push e.born, clock, rfl, Nat.le_refl _, ?_, fun p' hp' => ?_⟩ (.inl rfl), hK (some p) (q1 ++ q2) (fun h => by cases h) (fun p' hp' => ?_)⟩
      · simp only [execOp, ho, hx', Sem.run_bind, k2, Result.andThen_ok, Sem.run_pure, nxt, hke.1, hke.2]
      · show (w1.heap.setIfInBounds r _)[k]? = _
        rw [Array.getElem?_setIfInBounds_ne (fun e => hne (by rw [e]; rfl))]
      · show (w1.heap.setIfInBounds r _)[r]? = _
        rw [Array.getElem?_setIfInBounds_self]; simp [hlt]
      · rw [left_push, hl, filter_one hnd, List.map_append, List.map_append, e2, e4]
      · obtain rfl := Option.some.inj hp'
        exact ⟨rfl, seen, e, rfl, hes, hke.1, hke.2⟩
      · obtain rfl := Option.some.inj hp'
        rw [e1]; exact List.perm_middle
theorem y_entry (i j : Nat) {β : Type} {ke ve : β → Value} {b r : Nat} {es : Array MapEntry} {clock : Nat} {ps : List β} {p : β} (ho : o.op = .entry x) (hx : F.ev x = some (gx, .pointer (some ⟨r, 0, none⟩)))
    (hLj : L.get j = some (.blk r (IsIt ke ve b es clock ps (some p)))) (hLi : L.get i = some (.blk b (IsEs es clock)))
    (hi : g = true → gx = true := by first | exact (fun _ => rfl) | exact (fun h => h) | exact (fun h => (Bool.and_eq_true_iff.1 h).1) | simp_all) : Y P w0 F L g o (.tuple #[ke p, ve p]) :=
  Y_of fun n a hF hg w hM => by
    obtain ⟨hr, ob, h1, seen, c0, rfl, h2, h3, h4⟩ := hM.sat j _ hLj
    obtain ⟨hb, ob', g1, rfl, g2, g3⟩ := hM.sat i _ hLi
    obtain ⟨hc, s', e, rfl, he, hk, hv⟩ := h4 p rfl
    rw [hc] at h1
    have := run_entry_at (P := P) w r b clock s' es clock e h1 g1 he g3
    simp only [execOp, ho, hF.eval_on hx hg hi, Sem.run_bind, this, Result.andThen_ok, Sem.run_pure, hk, hv]
theorem b_gtrs {s s' : List UInt8} : ∀ w, (do eqGuard .gtr t x y (str s) (str s'); binOp .gtr t (str s) (str s') : Sem Value).run P w = .ok (.bool !(Op.bytesLess s s' || decide (s = s'))) w := fun w => by
  simp only [eqGuard_gtr, binOp_string_gtr, str_toList, lbeq_dec]; rfl
end
end Go.Eng
