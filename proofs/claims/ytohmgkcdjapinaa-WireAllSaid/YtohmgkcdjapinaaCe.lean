/- The claim of WireAll: whatever the input, it returns true, and what it was handed reads as before. -/
import Derived.Test.YtohmgkcdjapinaaM11
import Derived.Test.YtohmgkcdjapinaaRows
import Derived.ProofKit
set_option linter.unusedVariables false
namespace Go.Proofs.Ytohmgkcdjapinaa
open Lw Go.RowKit
theorem own : ownKnob Try.prog.godebug = none := by kernel_rfl
theorem laidOut : laidOutB Try.prog = true := by kernel_rfl
set_option maxRecDepth 100000 in
theorem wireAll_lifted (os : Os) (started : os.Started) (H : Type) (enc : TypeId × Value → H) :
    ReturnsInHanded {} Try.checked os 8 .any (Rows.wireAllSpec.pre6 enc Try.prog Try.f8 Rows.wireAllRow.domain false) (Rows.wireAllSpec.post enc Try.prog Try.f8 false true false false) := by
  refine lift (C := Try.checked) own started (by kernel_rfl) Try.func8
    (ChangeSpec.witness6 (enc := enc) (C := Try.checked) false ⟨#[], #[.slice none 0 0], []⟩ 8 (by kernel_rfl) (by kernel_rfl) (by kernel_rfl) (by kernel_rfl))
    laidOut (by kernel_rfl) rfl ?_ (tb := 4) (by kernel_rfl) Try.underlying4 ?_
  · intro ds h
    rw [Try.params8] at h
    match ds, h with
    | [d0], _ => rfl
  · intro W args hg0
    have hg : Given Try.prog W [46] args.toList := hg0
    obtain ⟨v0, rfl⟩ := vals1 hg
    obtain ⟨⟨b, h1⟩, h2⟩ := hg.2 0 46 _ rfl rfl
    obtain ⟨v', xs, h3, _, h5, h6, _⟩ := sem_slice (f := (Subtype.val : {cs : List Value // cs.length = 37} → List Value)) (ok := fun x => SemAll W tAct x.1) (h2 9 (.slice 368 (.struct tAct)) (by kernel_rfl)) (by decide) (by decide) (fun x => x.2)
      (fun c hc => by
        have hc' : SemAll W tAct c := hc
        obtain ⟨_, _, _, _, _, _, _, _, _, _, _, _, _, _, _, _, _, _, _, _, _, _, rfl, _⟩ := sem_act hc
        exact ⟨⟨_, rfl⟩, rfl, hc'⟩)
    obtain rfl := argSlc Try.underlying46 h1 h3
    exact law8 xs _ W h5 h6
theorem wireAll_holds : Rows.WireAllSaid :=
  OpenClaim.holds_of_wide 8 Try.f8 rfl rfl rfl rfl rfl rfl rfl ⟨rfl, rfl, rfl, rfl, rfl⟩ rfl rfl rfl rfl rfl (by kernel_rfl) Try.func8 (by kernel_rfl)
    (of_decide_eq_true (by kernel_rfl)) (by unfold Func.isWrapper; first | (rw [if_pos (by decide +kernel)]; kernel_rfl) | (rw [if_neg (by decide +kernel)]; exact ⟨rfl, rfl⟩))
    (fun os started H enc _ => wireAll_lifted os started H enc)
end Go.Proofs.Ytohmgkcdjapinaa
