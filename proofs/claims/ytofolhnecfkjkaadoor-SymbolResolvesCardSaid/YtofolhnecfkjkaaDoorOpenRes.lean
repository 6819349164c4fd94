/- Frames, modules and lists of tables opened: from the form's reading to FrmsOk, ModsOk and TabsOk. No condition. -/
import Derived.Test.YtofolhnecfkjkaaDoorOpenTab
import Derived.Test.YtofolhnecfkjkaaDoorTabs
namespace Go.Proofs.YtofolhnecfkjkaaDoor
set_option linter.unusedSimpArgs false
set_option linter.unusedVariables false
set_option maxRecDepth 20000
open Go.RowKit Go.Eng
section
variable {H : Type} {enc : TypeId × Value → H} {w : World}
def frmG (f : Frm) : Prop := ShortS f.m ∧ ShortS f.f ∧ ShortS f.fi
theorem op_b : Opn enc Tryd.prog w 4 (fun b : Bool => [Value.bool b]) (fun _ => True) (fun b d => d = .lit (.bool b)) := opn_bool Tryd.underlying4
theorem op_frm : Opn enc Tryd.prog w 67 Frm.enc frmG (fun _ _ => True) :=
  (opn_struct Tryd.underlying67 co67 (opf_cons op_s rfl co9 (opf_cons op_s rfl co9 (opf_cons op_s rfl co9 (opf_cons op_i rfl co3 (opf_cons op_i rfl co3 (opf_cons op_b rfl co4 opf_nil))))))).map
    (fun p => (⟨p.1, p.2.1, p.2.2.1, p.2.2.2.1, p.2.2.2.2.1, p.2.2.2.2.2.1⟩ : Frm)) (fun _ => rfl) (fun _ h => ⟨h.1, h.2.1, h.2.2.1⟩) (fun _ _ _ => trivial)
theorem op_frms : Opn enc Tryd.prog w 57 slV (FrmsOk w) (fun _ _ => True) :=
  (opn_slice Tryd.underlying57 co67 (by decide) (by rw [bo67]; decide) (fun _ => rfl) op_frm).map (fun s => s) (fun _ => rfl)
    (fun s h => ⟨h.1, Nat.le_trans h.2.1 reach_len, fun f hf => ⟨Nat.le_trans (h.2.2 f hf).1 reach_len, Nat.le_trans (h.2.2 f hf).2.1 reach_len, Nat.le_trans (h.2.2 f hf).2.2 reach_len⟩⟩) (fun _ _ _ => trivial)
theorem op_modl : Opn enc Tryd.prog w 28 slV (ModsOk w) (fun _ _ => True) :=
  op_mods.map (fun s => s) (fun _ => rfl) (fun s h => ⟨h.1, Nat.le_trans h.2.1 reach_len, fun f hf => ⟨Nat.le_trans (h.2.2 f hf).1 reach_len, Nat.le_trans (h.2.2 f hf).2.1 reach_len⟩⟩) (fun _ _ _ => trivial)
theorem op_tabs : Opn enc Tryd.prog w 58 slV (TabsOk w) (fun _ _ => True) :=
  (opn_slice Tryd.underlying58 co27 (by decide) (by rw [bo27]; decide) (fun _ => rfl) op_tab).map (fun s => s) (fun _ => rfl)
    (fun s h => ⟨h.1, Nat.le_trans h.2.1 reach_len, h.2.2⟩) (fun _ _ _ => trivial)
end
end Go.Proofs.YtofolhnecfkjkaaDoor
