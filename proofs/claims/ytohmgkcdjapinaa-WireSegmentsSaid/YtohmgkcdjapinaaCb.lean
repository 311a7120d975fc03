/- The claim of WireSegments: whatever the input, it returns true, and what it was handed reads as before. -/
import Derived.Test.YtohmgkcdjapinaaM11
import Derived.Test.YtohmgkcdjapinaaRows
import Derived.ProofKit
set_option linter.unusedVariables false
namespace Go.Proofs.Ytohmgkcdjapinaa
open Lw Go.RowKit
theorem own : ownKnob Try.prog.godebug = none := by kernel_rfl
theorem laidOut : laidOutB Try.prog = true := by kernel_rfl
set_option maxRecDepth 100000 in
theorem wireSegments_lifted (os : Os) (started : os.Started) (H : Type) (enc : TypeId × Value → H) :
    ReturnsInHanded {} Try.checked os 5 .any (Rows.wireSegmentsSpec.pre6 enc Try.prog Try.f5 Rows.wireSegmentsRow.domain false) (Rows.wireSegmentsSpec.post enc Try.prog Try.f5 false true false false) := by
  refine lift (C := Try.checked) own started (by kernel_rfl) Try.func5
    (ChangeSpec.witness6 (enc := enc) (C := Try.checked) false ⟨#[], #[.agg #[.int .i64 0, .int .i64 0, .int .i64 0, .int .i64 0, .slice none 0 0],.slice none 0 0], []⟩ 8 (by kernel_rfl) (by kernel_rfl) (by kernel_rfl) (by kernel_rfl))
    laidOut (by kernel_rfl) rfl ?_ (tb := 4) (by kernel_rfl) Try.underlying4 ?_
  · intro ds h
    rw [Try.params5] at h
    match ds, h with
    | [d0, d1], _ => rfl
  · intro W args hg0
    have hg : Given Try.prog W [39, 36] args.toList := hg0
    obtain ⟨v0, v1, rfl⟩ := vals2 hg
    obtain ⟨cs, rfl, h⟩ := given_agg (m := 5) (Ts := [.int .i64, .int .i64, .int .i64, .int .i64, .slice 1 (.int .u8)]) hg (j := 0) rfl rfl Try.underlying39 (by kernel_rfl)
    obtain ⟨f, _, rfl, _, h⟩ := sem_i64 h
    obtain ⟨t, _, rfl, _, h⟩ := sem_i64 h
    obtain ⟨s, _, rfl, _, h⟩ := sem_i64 h
    obtain ⟨a, _, rfl, _, h⟩ := sem_i64 h
    obtain ⟨dv, ds, _, rfl, _, hD, h⟩ := sem_byt h
    obtain rfl := sem_end h
    obtain ⟨l, hc, hr⟩ := given_bytes (m := 5) hg (j := 1) rfl rfl Try.underlying36 (by kernel_rfl)
    exact law5 f t s a ds dv l _ hc W hD hr
theorem wireSegments_holds : Rows.WireSegmentsSaid :=
  OpenClaim.holds_of_wide 5 Try.f5 rfl rfl rfl rfl rfl rfl rfl ⟨rfl, rfl, rfl, rfl, rfl⟩ rfl rfl rfl rfl rfl (by kernel_rfl) Try.func5 (by kernel_rfl)
    (of_decide_eq_true (by kernel_rfl)) (by unfold Func.isWrapper; first | (rw [if_pos (by decide +kernel)]; kernel_rfl) | (rw [if_neg (by decide +kernel)]; exact ⟨rfl, rfl⟩))
    (fun os started H enc _ => wireSegments_lifted os started H enc)
end Go.Proofs.Ytohmgkcdjapinaa
