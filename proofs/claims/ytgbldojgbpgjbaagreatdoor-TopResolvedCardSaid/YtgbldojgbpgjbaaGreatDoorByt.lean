/- A string's bytes as a slice that is only read: the conversion, and its elements. No condition. -/
import Derived.Test.YtgbldojgbpgjbaaGreatDoorMany
import Derived.Lib.ConvBytes
namespace Go.Eng
set_option linter.unusedSimpArgs false
set_option linter.unusedVariables false
open Go.RowKit
section
variable {P : Program} {w0 : World} {n : Nat} {ops : Array Oper} {l : List Oper} {F : FL} {L : HL} {Q : Exit → Act → World → Prop} {o : Oper} {g : Bool} {v : Value} {x y z : Operand} {t t' : TypeId} {gx gy : Bool}
theorem Mem.gainB {w w' : World} (h : Mem w0 L w) (hb : Below w.heap.size w w') (i : Nat) (φ : Obj → Prop) {ob : Obj} (hg : w'.heap[w.heap.size]? = some ob) (ho : φ ob) : Mem w0 ((i, .blk w.heap.size φ) :: L) w' := by
  have h' : Mem w0 L w' := h.call hb
  refine ⟨h'.below, ?_, ?_⟩
  · intro j p hp
    rcases HL.get_cons hp with ⟨rfl, rfl⟩ | ⟨_, hq⟩
    · exact ⟨h.size, ob, hg, ho⟩
    · exact h'.sat j p hq
  · intro j k p q hjk hp hq b hf hf'
    rcases HL.get_cons hp with ⟨rfl, rfl⟩ | ⟨_, hp'⟩
    · rcases HL.get_cons hq with ⟨rfl, rfl⟩ | ⟨_, hq'⟩
      · exact hjk rfl
      · change w.heap.size = b at hf
        have := (It.lt (h.sat k q hq') b hf').2
        omega
    · rcases HL.get_cons hq with ⟨rfl, rfl⟩ | ⟨_, hq'⟩
      · change w.heap.size = b at hf'
        have := (It.lt (h.sat j p hp') b hf).2
        omega
      · exact h.apart j k p q hjk hp' hq' b hf hf'
/-- a row that is only read -/
def IsRd (e : TypeId) (bs : List Value) (o : Obj) : Prop := ∃ (cur : Array Value) (fz : Nat × Nat), o = .cells cur e fz ∧ ∀ (j : Nat) (u : Value), bs[j]? = some u → cur[j]? = some u
theorem S_strBytes (d i : Nat) {src dst e : TypeId} {s : List UInt8} (hg : o.guard = none) (hd : o.dst = some d) (hdn : Nat.blt d n = true) (ho : o.op = .convert src dst x) (hx : F.ev x = some (true, str s)) (hs : P.underlying src = some .string) (ht : P.underlying dst = some (.slice e)) (he : P.underlying e = some (.int .u8))
    (hK : ∀ b c, S P w0 n ops l ((d, true, .slice (some ⟨b, 0, none⟩) s.length c) :: F) ((i, .blk b (IsRd e (bytesV s))) :: L) Q) : S P w0 n ops (o :: l) F L Q :=
  S_loud d hg hd hdn fun a w hF hM => by
    have hx' : a.eval x = .string ⟨s.toArray⟩ := by have := hF.eval hx; simpa using this
    have hr := Lib.run_convert_string_bytes (P := P) w src dst e ⟨s.toArray⟩ hs ht he
    have hB : Below w.heap.size w (Lib.bytesWorld w e ⟨s.toArray⟩) := ⟨rfl, rfl, rfl, by rw [Lib.bytesWorld_size]; omega, fun k hk => Lib.bytesWorld_at_old w e _ k hk⟩
    refine ⟨_, _, _, ?_, hM.gainB hB i (IsRd e (bytesV s)) (Lib.bytesWorld_at_new w e ⟨s.toArray⟩) ⟨_, _, rfl, fun j u hu => ?_⟩, hK w.heap.size (grownCap w s.length 0 e)⟩
    · simp only [execOp, ho, hx', Sem.run_bind, hr, Result.andThen_ok, Sem.run_pure]
      rfl
    · have hj := (List.getElem?_eq_some_iff.1 hu).1
      have hj' : j < s.length := by simpa [bytesV] using hj
      rw [← hu]
      simp [Lib.bytesCells, bytesV, Array.getElem?_append, hj']
theorem y_loadRd (i : Nat) {b j : Nat} {bs : List Value} {ty e : TypeId} {d : TypeDesc} (ho : o.op = .load ty x) (hx : F.ev x = some (gx, .pointer (at_ (some ⟨b, 0, none⟩) j 1))) (hL : L.get i = some (.blk b (IsRd e bs))) (hv : g = true → bs[j]? = some v)
    (hu : P.underlying ty = some d) (hd : isAggB d = false) (hi : g = true → gx = true := by first | exact (fun _ => rfl) | exact (fun h => h) | exact (fun h => (Bool.and_eq_true_iff.1 h).1) | simp_all) : Y P w0 F L g o v :=
  Y_of fun n a hF hg w hM => by
    obtain ⟨_, ob, h1, cur, fz, rfl, h2⟩ := hM.sat i _ hL
    have hc : w.cell? (⟨b, j, none⟩ : Addr) = some v := by
      simp only [World.cell?, h1]
      exact h2 j v (hv hg)
    have ha : at_ (some (⟨b, 0, none⟩ : Addr)) j 1 = some ⟨b, j, none⟩ := by simp [at_, add_zero_off]
    rw [ha] at hx
    simp only [execOp, ho, hF.eval_on hx hg hi, Sem.run_bind, run_loadVar1 hu hd w hc]; rfl
end
end Go.Eng
