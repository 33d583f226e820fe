import Derived.Test.YtpcmkjimdhlhiaaDoorPx0
import Derived.Test.YtpcmkjimdhlhiaaDoorGlob
set_option linter.unusedVariables false
namespace Go.Proofs.YtpcmkjimdhlhiaaDoor.P
open Go.RowKit Go.Proofs.YtpcmkjimdhlhiaaDoorW.PrintWords
/-- dent.Write at no locks. -/
def dent_Write.f (l0 : List (S31)) : Option (ByteArray) := match l0 with
  | [] => some ⟨#[]⟩
  | _ :: _ => none
theorem dent_Write.calls (A0 : Option Addr) (c0 : Nat) (l0 : List (S31)) (r : ByteArray) (w : World) (hr0 : Kd.C k31 w A0 l0.length l0) (hc0 : l0.length ≤ c0) (hG : GlobOk w) (h : dent_Write.f l0 = some r) :
    Calls Tryd.prog 39 #[.slice A0 l0.length c0] w fun e w' => e = .returned (.string r) ∧ Below w.heap.size w w' := by
  cases l0 with
  | cons x l => cases h
  | nil =>
    obtain rfl := Option.some.inj h
    clear hr0 hc0 hG h
    rw [List.length_nil]
    go_enter Tryd.func39, Tryd.ntmps39
    go_wp2
    go_ret
    exact ⟨rfl, Below.refl _ _⟩
end Go.Proofs.YtpcmkjimdhlhiaaDoor.P
