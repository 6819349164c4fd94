/- Events opened: from the form's reading to 'Evt.Ok'. No condition. -/
import Derived.Test.YtpmlgnbbkpplhaaGreatDoorEv
import Derived.Test.YtpmlgnbbkpplhaaGreatDoorOpen
namespace Go.Proofs.YtpmlgnbbkpplhaaGreatDoor
set_option linter.unusedSimpArgs false
set_option linter.unusedVariables false
set_option maxRecDepth 20000
open Go.RowKit Go.Eng
section
variable {H : Type} {enc : TypeId × Value → H} {w : World}
def IntOk (n : Int) : Prop := (Lit.int .i64 n).wf = true
def ShortS (s : List UInt8) : Prop := s.length ≤ reachBytes
theorem reach_len : reachBytes ≤ 4611686018427387904 := by decide
def strEnc (l : List UInt8) : List Value := [str l]
theorem op_s : Opn enc Tryz.prog w 9 strEnc ShortS (fun l d => d = .lit (.string l)) := opn_str Tryz.underlying9
theorem op_i : Opn enc Tryz.prog w 3 (fun n : Int => [Value.int .i64 n]) IntOk (fun n d => d = .lit (.int .i64 n)) := opn_int Tryz.underlying3
theorem op_b : Opn enc Tryz.prog w 4 (fun b : Bool => [Value.bool b]) (fun _ => True) (fun b d => d = .lit (.bool b)) := opn_bool Tryz.underlying4
def slV {X : Type} (s : Sl X) : List Value := [.slice s.A s.q s.c]
def frmG (f : Frm) : Prop := ShortS f.m ∧ ShortS f.f ∧ ShortS f.fi
theorem op_frm : Opn enc Tryz.prog w 119 Frm.enc frmG (fun _ _ => True) :=
  (opn_struct Tryz.underlying119 co119 (opf_cons op_s rfl co9 (opf_cons op_s rfl co9 (opf_cons op_s rfl co9 (opf_cons op_i rfl co3 (opf_cons op_i rfl co3 (opf_cons op_b rfl co4 opf_nil))))))).map
    (fun p => (⟨p.1, p.2.1, p.2.2.1, p.2.2.2.1, p.2.2.2.2.1, p.2.2.2.2.2.1⟩ : Frm)) (fun _ => rfl) (fun _ h => ⟨h.1, h.2.1, h.2.2.1⟩) (fun _ _ _ => trivial)
theorem op_frms : Opn enc Tryz.prog w 112 slV (FrmsOk w) (fun _ _ => True) :=
  (opn_slice Tryz.underlying112 co119 (by decide) (by rw [bo119]; decide) (fun _ => rfl) op_frm).map (fun s => s) (fun _ => rfl)
    (fun s h => ⟨h.1, Nat.le_trans h.2.1 reach_len, fun f hf => ⟨Nat.le_trans (h.2.2 f hf).1 reach_len, Nat.le_trans (h.2.2 f hf).2.1 reach_len, Nat.le_trans (h.2.2 f hf).2.2 reach_len⟩⟩) (fun _ _ _ => trivial)
theorem op_flt : Opn enc Tryz.prog w 114 Flt.enc (FltOk w) (fun _ _ => True) :=
  (opn_struct Tryz.underlying114 co114 (opf_cons op_s rfl co9 (opf_cons op_s rfl co9 (opf_cons op_frms rfl co112 opf_nil)))).map
    (fun p => (⟨p.1, p.2.1, p.2.2.1⟩ : Flt)) (fun _ => rfl) (fun _ h => ⟨Nat.le_trans h.1 reach_len, Nat.le_trans h.2.1 reach_len, h.2.2.1⟩) (fun _ _ _ => trivial)
theorem op_flts : Opn enc Tryz.prog w 25 slV (FltsOk w) (fun _ _ => True) :=
  (opn_slice Tryz.underlying25 co114 (by decide) (by rw [bo114]; decide) (fun _ => rfl) op_flt).map (fun s => s) (fun _ => rfl)
    (fun s h => ⟨h.1, Nat.le_trans h.2.1 reach_len, h.2.2⟩) (fun _ _ _ => trivial)
theorem op_tag : Opn enc Tryz.prog w 104 STag.enc (fun t => ShortS t.n ∧ ShortS t.v) (fun _ _ => True) :=
  (opn_struct Tryz.underlying104 co104 (opf_cons op_s rfl co9 (opf_cons op_s rfl co9 opf_nil))).map
    (fun p => (⟨p.1, p.2.1⟩ : STag)) (fun _ => rfl) (fun _ h => ⟨h.1, h.2.1⟩) (fun _ _ _ => trivial)
theorem op_tags : Opn enc Tryz.prog w 26 slV (TagsOk w) (fun _ _ => True) :=
  (opn_slice Tryz.underlying26 co104 (by decide) (by rw [bo104]; decide) (fun _ => rfl) op_tag).map (fun s => s) (fun _ => rfl)
    (fun s h => ⟨h.1, Nat.le_trans h.2.1 reach_len, fun t ht => ⟨Nat.le_trans (h.2.2 t ht).1 reach_len, Nat.le_trans (h.2.2 t ht).2 reach_len⟩⟩) (fun _ _ _ => trivial)
theorem op_crumb : Opn enc Tryz.prog w 107 SCrumb.enc (fun c => IntOk c.at_ ∧ ShortS c.k ∧ ShortS c.t) (fun _ _ => True) :=
  (opn_struct Tryz.underlying107 co107 (opf_cons op_i rfl co3 (opf_cons op_s rfl co9 (opf_cons op_s rfl co9 opf_nil)))).map
    (fun p => (⟨p.1, p.2.1, p.2.2.1⟩ : SCrumb)) (fun _ => rfl) (fun _ h => ⟨h.1, h.2.1, h.2.2.1⟩) (fun _ _ _ => trivial)
theorem op_crumbs : Opn enc Tryz.prog w 27 slV (CrumbsOk w) (fun _ _ => True) :=
  (opn_slice Tryz.underlying27 co107 (by decide) (by rw [bo107]; decide) (fun _ => rfl) op_crumb).map (fun s => s) (fun _ => rfl)
    (fun s h => ⟨h.1, Nat.le_trans h.2.1 reach_len, fun t ht => ⟨Nat.le_trans (h.2.2 t ht).2.1 reach_len, Nat.le_trans (h.2.2 t ht).2.2 reach_len⟩⟩) (fun _ _ _ => trivial)
theorem op_evt : Opn enc Tryz.prog w 29 Evt.enc (Evt.Ok w) (fun _ _ => True) :=
  (opn_struct Tryz.underlying29 co29 (opf_cons op_s rfl co9 (opf_cons op_i rfl co3 (opf_cons op_i rfl co3 (opf_cons op_flts rfl co25 (opf_cons op_tags rfl co26 (opf_cons op_crumbs rfl co27 (opf_cons op_s rfl co9 (opf_cons op_s rfl co9 (opf_cons op_i rfl co3 opf_nil)))))))))).map
    (fun p => (⟨p.1, p.2.1, p.2.2.1, p.2.2.2.1, p.2.2.2.2.1, p.2.2.2.2.2.1, p.2.2.2.2.2.2.1, p.2.2.2.2.2.2.2.1, p.2.2.2.2.2.2.2.2.1⟩ : Evt)) (fun _ => rfl)
    (fun p h => by
      obtain ⟨h1, _, _, h4, h5, h6, h7, h8, _⟩ := h
      exact ⟨h4, h5, h6, Nat.le_trans h1 reach_len, Nat.le_trans h7 reach_len, Nat.le_trans h8 reach_len⟩) (fun _ _ _ => trivial)
end
end Go.Proofs.YtpmlgnbbkpplhaaGreatDoor
