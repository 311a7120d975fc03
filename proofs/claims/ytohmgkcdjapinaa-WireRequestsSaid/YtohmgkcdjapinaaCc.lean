/- The claim of WireRequests: whatever the input, it returns true, and what it was handed reads as before. -/
import Derived.Test.YtohmgkcdjapinaaM11
import Derived.Test.YtohmgkcdjapinaaRows
import Derived.ProofKit
set_option linter.unusedVariables false
namespace Go.Proofs.Ytohmgkcdjapinaa
open Lw Go.RowKit
theorem own : ownKnob Try.prog.godebug = none := by kernel_rfl
theorem laidOut : laidOutB Try.prog = true := by kernel_rfl
set_option maxRecDepth 100000 in
theorem wireRequests_lifted (os : Os) (started : os.Started) (H : Type) (enc : TypeId × Value → H) :
    ReturnsInHanded {} Try.checked os 6 .any (Rows.wireRequestsSpec.pre6 enc Try.prog Try.f6 Rows.wireRequestsRow.domain false) (Rows.wireRequestsSpec.post enc Try.prog Try.f6 false true false false) := by
  refine lift (C := Try.checked) own started (by kernel_rfl) Try.func6
    (ChangeSpec.witness6 (enc := enc) (C := Try.checked) false ⟨#[], #[.agg #[.int .i64 0, .int .i64 0],.agg #[.int .i64 0, .string ByteArray.empty, .int .i64 0, .int .i64 0],.agg #[.int .i64 0, .int .i64 0, .int .i64 0, .int .i64 0],.slice none 0 0], []⟩ 8 (by kernel_rfl) (by kernel_rfl) (by kernel_rfl) (by kernel_rfl))
    laidOut (by kernel_rfl) rfl ?_ (tb := 4) (by kernel_rfl) Try.underlying4 ?_
  · intro ds h
    rw [Try.params6] at h
    match ds, h with
    | [d0, d1, d2, d3], _ => rfl
  · intro W args hg0
    have hg : Given Try.prog W [27, 29, 42, 36] args.toList := hg0
    obtain ⟨v0, v1, v2, v3, rfl⟩ := vals4 hg
    obtain ⟨_, rfl, h⟩ := given_agg (m := 5) (Ts := [.int .i64, .int .i64]) hg (j := 0) rfl rfl Try.underlying27 (by kernel_rfl)
    obtain ⟨s, _, rfl, _, h⟩ := sem_i64 h
    obtain ⟨i, _, rfl, _, h⟩ := sem_i64 h
    obtain rfl := sem_end h
    obtain ⟨_, rfl, h⟩ := given_agg (m := 5) (Ts := [.int .i64, .str, .int .i64, .int .i64]) hg (j := 1) rfl rfl Try.underlying29 (by kernel_rfl)
    obtain ⟨k, _, rfl, _, h⟩ := sem_i64 h
    obtain ⟨nm, _, rfl, hl, h⟩ := sem_str h
    obtain ⟨a, _, rfl, ha, h⟩ := sem_i64 h
    obtain ⟨b, _, rfl, hb, h⟩ := sem_i64 h
    obtain rfl := sem_end h
    obtain ⟨_, rfl, h⟩ := given_agg (m := 5) (Ts := [.struct [.int .i64, .int .i64], .int .i64, .int .i64]) hg (j := 2) rfl rfl Try.underlying42 (by kernel_rfl)
    obtain ⟨_, _, rfl, h', hh⟩ := sem_st h
    obtain ⟨s', _, rfl, _, h'⟩ := sem_i64 h'
    obtain ⟨i', _, rfl, _, h'⟩ := sem_i64 h'
    obtain rfl := sem_end h'
    obtain ⟨er, _, rfl, _, hh⟩ := sem_i64 hh
    obtain ⟨x, _, rfl, hx, hh⟩ := sem_i64 hh
    obtain rfl := sem_end hh
    obtain ⟨l, hc, hr⟩ := given_bytes (m := 5) hg (j := 3) rfl rfl Try.underlying36 (by kernel_rfl)
    exact law6 s i k nm a b ⟨ha.1, ha.2⟩ ⟨hb.1, hb.2⟩ hl s' i' er x ⟨hx.1, hx.2⟩ l _ hc W hr
theorem wireRequests_holds : Rows.WireRequestsSaid :=
  OpenClaim.holds_of_wide 6 Try.f6 rfl rfl rfl rfl rfl rfl rfl ⟨rfl, rfl, rfl, rfl, rfl⟩ rfl rfl rfl rfl rfl (by kernel_rfl) Try.func6 (by kernel_rfl)
    (of_decide_eq_true (by kernel_rfl)) (by unfold Func.isWrapper; first | (rw [if_pos (by decide +kernel)]; kernel_rfl) | (rw [if_neg (by decide +kernel)]; exact ⟨rfl, rfl⟩))
    (fun os started H enc _ => wireRequests_lifted os started H enc)
end Go.Proofs.Ytohmgkcdjapinaa
