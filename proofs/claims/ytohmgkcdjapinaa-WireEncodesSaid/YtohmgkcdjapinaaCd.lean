/- The claim of WireEncodes: whatever the input, it returns true, and what it was handed reads as before. -/
import Derived.Test.YtohmgkcdjapinaaM11
import Derived.Test.YtohmgkcdjapinaaRows
import Derived.ProofKit
set_option linter.unusedVariables false
namespace Go.Proofs.Ytohmgkcdjapinaa
open Lw Go.RowKit
theorem own : ownKnob Try.prog.godebug = none := by kernel_rfl
theorem laidOut : laidOutB Try.prog = true := by kernel_rfl
set_option maxRecDepth 100000 in
theorem wireEncodes_lifted (os : Os) (started : os.Started) (H : Type) (enc : TypeId × Value → H) :
    ReturnsInHanded {} Try.checked os 3 .any (Rows.wireEncodesSpec.pre6 enc Try.prog Try.f3 Rows.wireEncodesRow.domain false) (Rows.wireEncodesSpec.post enc Try.prog Try.f3 false true false false) := by
  refine lift (C := Try.checked) own started (by kernel_rfl) Try.func3
    (ChangeSpec.witness6 (enc := enc) (C := Try.checked) false ⟨#[], #[.agg #[.int .i64 0, .string ByteArray.empty, .int .i64 0, .int .i64 0, .int .i64 0, .int .i64 0, .int .i64 0, .int .i64 0, .int .i64 0, .int .i64 0, .int .i64 0, .int .i64 0, .int .i64 0, .int .i64 0, .string ByteArray.empty, .int .i64 0, .int .i64 0, .int .i64 0, .int .i64 0, .slice none 0 0]], []⟩ 8 (by kernel_rfl) (by kernel_rfl) (by kernel_rfl) (by kernel_rfl))
    laidOut (by kernel_rfl) rfl ?_ (tb := 4) (by kernel_rfl) Try.underlying4 ?_
  · intro ds h
    rw [Try.params3] at h
    match ds, h with
    | [d0], _ => rfl
  · intro W args hg0
    have hg : Given Try.prog W [33] args.toList := hg0
    obtain ⟨v0, rfl⟩ := vals1 hg
    obtain ⟨_, rfl, h⟩ := given_agg (m := 9) (Ts := tMsg) hg (j := 0) rfl rfl Try.underlying33 (by kernel_rfl)
    obtain ⟨m, vs, vv, rfl, hm⟩ := sem_msg h
    exact law3 m vs vv W hm
theorem wireEncodes_holds : Rows.WireEncodesSaid :=
  OpenClaim.holds_of_wide 3 Try.f3 rfl rfl rfl rfl rfl rfl rfl ⟨rfl, rfl, rfl, rfl, rfl⟩ rfl rfl rfl rfl rfl (by kernel_rfl) Try.func3 (by kernel_rfl)
    (of_decide_eq_true (by kernel_rfl)) (by unfold Func.isWrapper; first | (rw [if_pos (by decide +kernel)]; kernel_rfl) | (rw [if_neg (by decide +kernel)]; exact ⟨rfl, rfl⟩))
    (fun os started H enc _ => wireEncodes_lifted os started H enc)
end Go.Proofs.Ytohmgkcdjapinaa
