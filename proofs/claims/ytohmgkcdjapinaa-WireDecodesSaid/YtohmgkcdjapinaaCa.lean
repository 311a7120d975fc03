/- The claim of WireDecodes: whatever the input, it returns true, and what it was handed reads as before. -/
import Derived.Test.YtohmgkcdjapinaaM11
import Derived.Test.YtohmgkcdjapinaaRows
import Derived.ProofKit
set_option linter.unusedVariables false
namespace Go.Proofs.Ytohmgkcdjapinaa
open Lw Go.RowKit
theorem own : ownKnob Try.prog.godebug = none := by kernel_rfl
theorem laidOut : laidOutB Try.prog = true := by kernel_rfl
set_option maxRecDepth 100000 in
theorem wireDecodes_lifted (os : Os) (started : os.Started) (H : Type) (enc : TypeId × Value → H) :
    ReturnsInHanded {} Try.checked os 4 .any (Rows.wireDecodesSpec.pre6 enc Try.prog Try.f4 Rows.wireDecodesRow.domain false) (Rows.wireDecodesSpec.post enc Try.prog Try.f4 false true false false) := by
  refine lift (C := Try.checked) own started (by kernel_rfl) Try.func4
    (ChangeSpec.witness6 (enc := enc) (C := Try.checked) false ⟨#[], #[.slice none 0 0], []⟩ 8 (by kernel_rfl) (by kernel_rfl) (by kernel_rfl) (by kernel_rfl))
    laidOut (by kernel_rfl) rfl ?_ (tb := 4) (by kernel_rfl) Try.underlying4 ?_
  · intro ds h
    rw [Try.params4] at h
    match ds, h with
    | [d0], _ => rfl
  · intro W args hg0
    have hg : Given Try.prog W [36] args.toList := hg0
    obtain ⟨v0, rfl⟩ := vals1 hg
    obtain ⟨l, hc, hr⟩ := given_bytes (m := 5) hg (j := 0) rfl rfl Try.underlying36 (by kernel_rfl)
    exact law4 l _ hc W hr
theorem wireDecodes_holds : Rows.WireDecodesSaid :=
  OpenClaim.holds_of_wide 4 Try.f4 rfl rfl rfl rfl rfl rfl rfl ⟨rfl, rfl, rfl, rfl, rfl⟩ rfl rfl rfl rfl rfl (by kernel_rfl) Try.func4 (by kernel_rfl)
    (of_decide_eq_true (by kernel_rfl)) (by unfold Func.isWrapper; first | (rw [if_pos (by decide +kernel)]; kernel_rfl) | (rw [if_neg (by decide +kernel)]; exact ⟨rfl, rfl⟩))
    (fun os started H enc _ => wireDecodes_lifted os started H enc)
end Go.Proofs.Ytohmgkcdjapinaa
