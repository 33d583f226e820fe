import Derived.Test.YtpcmkjimdhlhiaaDoorPx5
import Derived.Test.YtpcmkjimdhlhiaaDoorPuBase
set_option linter.unusedVariables false
namespace Go.Proofs.YtpcmkjimdhlhiaaDoor.Pure
open Go.RowKit Go.Proofs.YtpcmkjimdhlhiaaDoor.P
set_option maxRecDepth 100000 in
theorem DentKnown : transhumancelaw7_DentKnown.Pure := by
  intro a0 _
  obtain ⟨k, hk, h0, h1⟩ := within_some a0 17 (by omega) (by omega)
  have hk2 : transhumancelaw7_within.f a0 ((17 : Nat) : Int) = some k := hk
  unfold transhumancelaw7_DentKnown.f
  simp only [Option.bind_some, List.length_cons, List.length_nil, Nat.reduceAdd, hk2]
  have hc : k = 0 ∨ k = 1 ∨ k = 2 ∨ k = 3 ∨ k = 4 ∨ k = 5 ∨ k = 6 ∨ k = 7 ∨ k = 8 ∨ k = 9 ∨ k = 10 ∨ k = 11 ∨ k = 12 ∨ k = 13 ∨ k = 14 ∨ k = 15 ∨ k = 16 := by omega
  rcases hc with rfl | rfl | rfl | rfl | rfl | rfl | rfl | rfl | rfl | rfl | rfl | rfl | rfl | rfl | rfl | rfl | rfl <;> decide +kernel
end Go.Proofs.YtpcmkjimdhlhiaaDoor.Pure
