/- Versions among the arguments, opened with the bulk of what they hold. No condition. -/
import Derived.Test.YtpmlgnbbkpplhaaGreatDoorVCmp
import Derived.Test.YtpmlgnbbkpplhaaGreatDoorEOpen
import Derived.Test.YtpmlgnbbkpplhaaGreatDoorRows
namespace Go.Proofs.YtpmlgnbbkpplhaaGreatDoor
set_option linter.unusedSimpArgs false
set_option linter.unusedVariables false
set_option maxRecDepth 20000
open Go.RowKit Go.Eng
section
variable {H : Type} {enc : TypeId × Value → H} {w : World}
theorem bulk_pos (d : DataW H) : 1 ≤ Rows.uptoBulk d := by
  cases d with
  | lit l => cases l <;> simp only [Rows.uptoBulk] <;> omega
  | _ => simp only [Rows.uptoBulk] <;> omega
theorem bulk_len : ∀ es : List (DataW H), es.length ≤ Rows.uptoBulkAll es
  | [] => Nat.le_refl _
  | d :: r => by
    have h1 := bulk_pos d
    have h2 := bulk_len r
    simp only [Rows.uptoBulkAll, List.length_cons]; omega
theorem bulk_at : ∀ {es : List (DataW H)} {i : Nat} {x : DataW H}, es[i]? = some x → Rows.uptoBulk x ≤ Rows.uptoBulkAll es
  | [], i, x, h => by simp at h
  | d :: r, 0, x, h => by
    have h : d = x := by simpa using h
    subst h
    simp only [Rows.uptoBulkAll]; omega
  | d :: r, i + 1, x, h => by
    have h : r[i]? = some x := by simpa using h
    have := bulk_at h
    simp only [Rows.uptoBulkAll]; omega
/-- what holds of each element and its datum holds of each element under the whole's bulk -/
theorem sl_bulk {X : Type} {R : X → DataW H → Prop} {s : Sl X} {d : DataW H} (h : SlRel R s d) : s.l.length ≤ Rows.uptoBulk d ∧ ∀ a ∈ s.l, ∃ x, R a x ∧ Rows.uptoBulk x ≤ Rows.uptoBulk d := by
  obtain ⟨es, hd, hl, hr⟩ := h
  have hle : Rows.uptoBulkAll es ≤ Rows.uptoBulk d := by
    rcases hd with ⟨rfl, rfl⟩ | ⟨sp, rfl⟩
    · exact Nat.zero_le _
    · simp only [Rows.uptoBulk]; omega
  have := bulk_len es
  refine ⟨by omega, fun a ha => ?_⟩
  obtain ⟨i, hi⟩ := List.mem_iff_getElem?.1 ha
  have hlt := (List.getElem?_eq_some_iff.1 hi).1
  have hx : es[i]? = some es[i] := List.getElem?_eq_getElem (by omega)
  exact ⟨_, hr i a _ hi hx, Nat.le_trans (bulk_at hx) hle⟩
def strsR (s : Sl (List UInt8)) (d : DataW H) : Prop := s.l.length ≤ Rows.uptoBulk d ∧ ∀ a ∈ s.l, a.length ≤ Rows.uptoBulk d
theorem op_strsB : Opn enc Tryz.prog w 40 slV (fun s : Sl (List UInt8) => s.Ok strE 1 w ∧ s.q ≤ reachBytes) strsR :=
  (opn_slice Tryz.underlying40 co9 (by decide) (by rw [bo9]; decide) (fun _ => rfl) op_s).map (fun s => s) (fun _ => rfl)
    (fun s h => ⟨h.1, h.2.1⟩) (fun s d h => by
      obtain ⟨h1, h2⟩ := sl_bulk h
      refine ⟨h1, fun a ha => ?_⟩
      obtain ⟨x, hx, hb⟩ := h2 a ha
      subst hx
      simp only [Rows.uptoBulk] at hb; omega)
def verG (w : World) (v : SVer) : Prop := v.pre.Ok strE 1 w ∧ IntOk v.a ∧ IntOk v.b ∧ IntOk v.c
def verR (v : SVer) (d : DataW H) : Prop := v.p.length ≤ Rows.uptoBulk d ∧ strsR v.pre d
theorem op_ver : Opn enc Tryz.prog w 42 SVer.enc (verG w) verR :=
  (opn_struct Tryz.underlying42 co42 (opf_cons op_s rfl co9 (opf_cons op_i rfl co3 (opf_cons op_i rfl co3 (opf_cons op_i rfl co3 (opf_cons op_strsB rfl co40 opf_nil)))))).map
    (fun p => (⟨p.1, p.2.1, p.2.2.1, p.2.2.2.1, p.2.2.2.2.1⟩ : SVer)) (fun _ => rfl) (fun _ h => ⟨h.2.2.2.2.1.1, h.2.1, h.2.2.1, h.2.2.2.1⟩) (fun p d h => by
      obtain ⟨ds, rfl, d1, r1, rfl, h1, d2, r2, rfl, h2, d3, r3, rfl, h3, d4, r4, rfl, h4, d5, r5, rfl, h5, rfl⟩ := h
      subst h1
      have hb : Rows.uptoBulk d5 ≤ Rows.uptoBulk (DataW.agg [.lit (.string p.1), d2, d3, d4, d5]) := by simp only [Rows.uptoBulk, Rows.uptoBulkAll]; omega
      refine ⟨by simp only [Rows.uptoBulk, Rows.uptoBulkAll]; omega, Nat.le_trans h5.1 hb, fun a ha => Nat.le_trans (h5.2 a ha) hb⟩)
theorem int_rng {n : Int} (h : IntOk n) : -9223372036854775808 ≤ n ∧ n ≤ 9223372036854775807 := by
  have h : (Lit.int .i64 n).wf = true := h
  simp [Lit.wf, IntKind.min, IntKind.max, IntKind.signed, IntKind.bits] at h
  omega
theorem ver_of {v : SVer} {d : DataW H} (h : verG w v) (hr : verR v d) (hb : Rows.uptoBulk d ≤ 1048576) : VerOk w v :=
  ⟨h.1, by have := h.1.t.len; have := hr.2.1; omega, fun s hs => by have := hr.2.2 s hs; omega, by have := hr.1; omega, int_rng h.2.1, int_rng h.2.2.1, int_rng h.2.2.2⟩
end
end Go.Proofs.YtpmlgnbbkpplhaaGreatDoor
