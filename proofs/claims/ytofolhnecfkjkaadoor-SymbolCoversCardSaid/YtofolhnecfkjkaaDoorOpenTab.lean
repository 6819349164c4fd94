/- Tables and modules opened: from the form's reading to 'Tab.Ok'. No condition. -/
import Derived.Test.YtofolhnecfkjkaaDoorTab
import Derived.Test.YtofolhnecfkjkaaDoorOpen
namespace Go.Proofs.YtofolhnecfkjkaaDoor
set_option linter.unusedSimpArgs false
set_option linter.unusedVariables false
set_option maxRecDepth 20000
open Go.RowKit Go.Eng

section
variable {H : Type} {enc : TypeId × Value → H} {w : World}
def IntOk (n : Int) : Prop := (Lit.int .i64 n).wf = true
def ShortS (s : List UInt8) : Prop := s.length ≤ reachBytes
def strD (l : List UInt8) (d : DataW H) : Prop := d = .lit (.string l)
def intD (n : Int) (d : DataW H) : Prop := d = .lit (.int .i64 n)
theorem op_s : Opn enc Tryd.prog w 9 strEnc ShortS (strD (H := H)) := opn_str Tryd.underlying9
theorem op_i : Opn enc Tryd.prog w 3 (fun n : Int => [Value.int .i64 n]) IntOk (intD (H := H)) := opn_int Tryd.underlying3
def slV {X : Type} (s : Sl X) : List Value := [.slice s.A s.q s.c]
def slG {X : Type} (e : X → List Value) (size : Nat) (G : X → Prop) (w : World) (s : Sl X) : Prop := s.Ok e size w ∧ s.q ≤ reachBytes ∧ ∀ a ∈ s.l, G a
def funcG (f : SFunc) : Prop := ShortS f.name ∧ IntOk f.fr ∧ IntOk f.to
def funcD (f : SFunc) (d : DataW H) : Prop := ∃ d1 d2 d3, d = .agg [d1, d2, d3] ∧ strD f.name d1 ∧ intD f.fr d2 ∧ intD f.to d3
theorem op_func : Opn enc Tryd.prog w 80 SFunc.enc funcG (funcD (H := H)) :=
  (opn_struct Tryd.underlying80 co80 (opf_cons op_s rfl co9 (opf_cons op_i rfl co3 (opf_cons op_i rfl co3 opf_nil)))).map (fun p => (⟨p.1, p.2.1, p.2.2.1⟩ : SFunc)) (fun _ => rfl)
    (fun _ h => ⟨h.1, h.2.1, h.2.2.1⟩) (fun p d h => by obtain ⟨_, rfl, d1, _, rfl, h1, d2, _, rfl, h2, d3, _, rfl, h3, rfl⟩ := h; exact ⟨d1, d2, d3, rfl, h1, h2, h3⟩)
def rowG (f : SRow) : Prop := IntOk f.pos ∧ IntOk f.fi ∧ IntOk f.ln
def rowD (f : SRow) (d : DataW H) : Prop := ∃ d1 d2 d3, d = .agg [d1, d2, d3] ∧ intD f.pos d1 ∧ intD f.fi d2 ∧ intD f.ln d3
theorem op_row : Opn enc Tryd.prog w 98 SRow.enc rowG (rowD (H := H)) :=
  (opn_struct Tryd.underlying98 co98 (opf_cons op_i rfl co3 (opf_cons op_i rfl co3 (opf_cons op_i rfl co3 opf_nil)))).map (fun p => (⟨p.1, p.2.1, p.2.2.1⟩ : SRow)) (fun _ => rfl)
    (fun _ h => ⟨h.1, h.2.1, h.2.2.1⟩) (fun p d h => by obtain ⟨_, rfl, d1, _, rfl, h1, d2, _, rfl, h2, d3, _, rfl, h3, rfl⟩ := h; exact ⟨d1, d2, d3, rfl, h1, h2, h3⟩)
def callG (f : SCall) : Prop := ShortS f.name ∧ IntOk f.fr ∧ IntOk f.to ∧ IntOk f.fi ∧ IntOk f.ln
def callD (f : SCall) (d : DataW H) : Prop := ∃ d1 d2 d3 d4 d5, d = .agg [d1, d2, d3, d4, d5] ∧ strD f.name d1 ∧ intD f.fr d2 ∧ intD f.to d3 ∧ intD f.fi d4 ∧ intD f.ln d5
theorem op_call : Opn enc Tryd.prog w 110 SCall.enc callG (callD (H := H)) :=
  (opn_struct Tryd.underlying110 co110 (opf_cons op_s rfl co9 (opf_cons op_i rfl co3 (opf_cons op_i rfl co3 (opf_cons op_i rfl co3 (opf_cons op_i rfl co3 opf_nil)))))).map (fun p => (⟨p.1, p.2.1, p.2.2.1, p.2.2.2.1, p.2.2.2.2.1⟩ : SCall)) (fun _ => rfl)
    (fun _ h => ⟨h.1, h.2.1, h.2.2.1, h.2.2.2.1, h.2.2.2.2.1⟩) (fun p d h => by obtain ⟨_, rfl, d1, _, rfl, h1, d2, _, rfl, h2, d3, _, rfl, h3, d4, _, rfl, h4, d5, _, rfl, h5, rfl⟩ := h; exact ⟨d1, d2, d3, d4, d5, rfl, h1, h2, h3, h4, h5⟩)
def modG (f : SMod) : Prop := ShortS f.name ∧ ShortS f.id ∧ IntOk f.fr ∧ IntOk f.to
def modD (f : SMod) (d : DataW H) : Prop := ∃ d1 d2 d3 d4, d = .agg [d1, d2, d3, d4] ∧ strD f.name d1 ∧ strD f.id d2 ∧ intD f.fr d3 ∧ intD f.to d4
theorem op_mod : Opn enc Tryd.prog w 86 SMod.enc modG (modD (H := H)) :=
  (opn_struct Tryd.underlying86 co86 (opf_cons op_s rfl co9 (opf_cons op_s rfl co9 (opf_cons op_i rfl co3 (opf_cons op_i rfl co3 opf_nil))))).map (fun p => (⟨p.1, p.2.1, p.2.2.1, p.2.2.2.1⟩ : SMod)) (fun _ => rfl)
    (fun _ h => ⟨h.1, h.2.1, h.2.2.1, h.2.2.2.1⟩) (fun p d h => by obtain ⟨_, rfl, d1, _, rfl, h1, d2, _, rfl, h2, d3, _, rfl, h3, d4, _, rfl, h4, rfl⟩ := h; exact ⟨d1, d2, d3, d4, rfl, h1, h2, h3, h4⟩)
theorem op_files : Opn enc Tryd.prog w 22 slV (slG strEnc 1 ShortS w) (SlRel (strD (H := H))) := opn_slice Tryd.underlying22 co9 (by decide) (by rw [bo9]; decide) (fun _ => rfl) op_s
theorem op_funcs : Opn enc Tryd.prog w 23 slV (slG SFunc.enc 3 funcG w) (SlRel (funcD (H := H))) := opn_slice Tryd.underlying23 co80 (by decide) (by rw [bo80]; decide) (fun _ => rfl) op_func
theorem op_rows : Opn enc Tryd.prog w 24 slV (slG SRow.enc 3 rowG w) (SlRel (rowD (H := H))) := opn_slice Tryd.underlying24 co98 (by decide) (by rw [bo98]; decide) (fun _ => rfl) op_row
theorem op_calls : Opn enc Tryd.prog w 25 slV (slG SCall.enc 5 callG w) (SlRel (callD (H := H))) := opn_slice Tryd.underlying25 co110 (by decide) (by rw [bo110]; decide) (fun _ => rfl) op_call
theorem op_mods : Opn enc Tryd.prog w 28 slV (slG SMod.enc 4 modG w) (SlRel (modD (H := H))) := opn_slice Tryd.underlying28 co86 (by decide) (by rw [bo86]; decide) (fun _ => rfl) op_mod
theorem reach_len : reachBytes ≤ 4611686018427387904 := by decide
def tabD (t : Tab) (d : DataW H) : Prop := ∃ d1 d2 d3 d4 d5 d6, d = .agg [d1, d2, d3, d4, d5, d6] ∧ strD t.id d1 ∧ intD t.size d2 ∧ SlRel strD t.fi d3 ∧ SlRel funcD t.fu d4 ∧ SlRel rowD t.ro d5 ∧ SlRel callD t.ca d6
theorem op_tab : Opn enc Tryd.prog w 27 Tab.enc (Tab.Ok w) (tabD (H := H)) :=
  (opn_struct Tryd.underlying27 co27 (opf_cons op_s rfl co9 (opf_cons op_i rfl co3 (opf_cons op_files rfl co22 (opf_cons op_funcs rfl co23 (opf_cons op_rows rfl co24 (opf_cons op_calls rfl co25 opf_nil))))))).map
    (fun p => (⟨p.1, p.2.1, p.2.2.1, p.2.2.2.1, p.2.2.2.2.1, p.2.2.2.2.2.1⟩ : Tab)) (fun _ => rfl)
    (fun p h => by
      obtain ⟨h1, _, h3, h4, h5, h6, _⟩ := h
      have := reach_len
      exact ⟨h3.1, h4.1, h5.1, h6.1, ⟨Nat.le_trans h1 this, Nat.le_trans h3.2.1 this, Nat.le_trans h4.2.1 this, Nat.le_trans h5.2.1 this, Nat.le_trans h6.2.1 this⟩,
        fun s hs => Nat.le_trans (h3.2.2 s hs) this, fun f hf => Nat.le_trans (h4.2.2 f hf).1 this, fun f hf => Nat.le_trans (h6.2.2 f hf).1 this⟩)
    (fun p d h => by obtain ⟨_, rfl, d1, _, rfl, h1, d2, _, rfl, h2, d3, _, rfl, h3, d4, _, rfl, h4, d5, _, rfl, h5, d6, _, rfl, h6, rfl⟩ := h; exact ⟨d1, d2, d3, d4, d5, d6, rfl, h1, h2, h3, h4, h5, h6⟩)
end
end Go.Proofs.YtofolhnecfkjkaaDoor
