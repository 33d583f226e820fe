import Derived.Test.YtpcmkjimdhlhiaaGreatDoorPx0
import Derived.Test.YtpcmkjimdhlhiaaGreatDoorGlob
set_option linter.unusedVariables false
namespace Go.Proofs.YtpcmkjimdhlhiaaGreatDoor.P
open Go.RowKit Go.Proofs.YtpcmkjimdhlhiaaGreatDoorW.PrintWords
/-- dent.Write at no locks. -/
def dent_Write.f (l0 : List (S43)) : Option (ByteArray) := match l0 with
  | [] => some ⟨#[]⟩
  | _ :: _ => none
theorem dent_Write.calls (A0 : Option Addr) (c0 : Nat) (l0 : List (S43)) (r : ByteArray) (w : World) (hr0 : Kd.C k43 w A0 l0.length l0) (hc0 : l0.length ≤ c0) (hG : GlobOk w) (h : dent_Write.f l0 = some r) :
    Calls Tryz.prog 12 #[.slice A0 l0.length c0] w fun e w' => e = .returned (.string r) ∧ Below w.heap.size w w' := by
  cases l0 with
  | cons x l => cases h
  | nil =>
    obtain rfl := Option.some.inj h
    clear hr0 hc0 hG h
    rw [List.length_nil]
    go_enter Tryz.func12, Tryz.ntmps12
    go_wp2
    go_ret
    exact ⟨rfl, Below.refl _ _⟩
end Go.Proofs.YtpcmkjimdhlhiaaGreatDoor.P
