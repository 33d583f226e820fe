-- written by wip/myprint.sh of this session (the kit's print with functions that are given by hand)
import Derived.Test.YtpcmkjimdhlhiaaGreatDoorPx0
namespace Go.Proofs.YtpcmkjimdhlhiaaGreatDoor.P
open Go.RowKit Go.Proofs.YtpcmkjimdhlhiaaGreatDoorW.PrintWords Go.Proofs.YtpcmkjimdhlhiaaGreatDoorW.PrintLast Go.Proofs.YtpcmkjimdhlhiaaGreatDoorW.PrintMore
attribute [local go_sem] max2_int min2_int max_two min_two max_three min_three max_four min_four   -- for this text's walks alone
set_option linter.unusedVariables false
set_option linter.unusedSimpArgs false

/-! ### transhumancelaw1_signs: function 75 -/
def transhumancelaw1_signs.f  : Option (ByteArray) := some (⟨#[10, 9, 32, 34, 92, 35, 47, 97, 98, 99, 110, 116, 58, 61, 45, 91, 93, 123, 125, 44, 46, 48, 49, 50, 51, 118, 120, 126, 94, 42, 124, 60, 62, 33, 95, 122, 121, 113]⟩ : ByteArray)
set_option maxHeartbeats 8000000 in
set_option maxRecDepth 100000 in
theorem transhumancelaw1_signs.calls  (r : ByteArray) (w : World) (h : transhumancelaw1_signs.f  = some r) :
    Calls Tryz.prog 75 #[] w fun e w' => e = .returned (.string r) ∧ Drawn0 w w' := by
  have H : (some (⟨#[10, 9, 32, 34, 92, 35, 47, 97, 98, 99, 110, 116, 58, 61, 45, 91, 93, 123, 125, 44, 46, 48, 49, 50, 51, 118, 120, 126, 94, 42, 124, 60, 62, 33, 95, 122, 121, 113]⟩ : ByteArray)) = some r := h
  clear h
  obtain rfl := Option.some.inj H
  go_enter Tryz.func75, Tryz.ntmps75
  go_wp2
  go_ret
  exact ⟨by first | rfl | (simp; done) | (simp [*]; done), by repeat (first | exact Drawn0.refl _ | apply Drawn0.step)⟩

end Go.Proofs.YtpcmkjimdhlhiaaGreatDoor.P
