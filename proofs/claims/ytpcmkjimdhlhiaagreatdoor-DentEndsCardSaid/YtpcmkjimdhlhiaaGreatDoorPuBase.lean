import Derived.Test.YtpcmkjimdhlhiaaGreatDoorPx3
import Derived.Test.YtpcmkjimdhlhiaaGreatDoorPx24
set_option linter.unusedVariables false
namespace Go.Proofs.YtpcmkjimdhlhiaaGreatDoor.Pure
open Go.RowKit Go.Proofs.YtpcmkjimdhlhiaaGreatDoor.P
theorem within_some (a n : Int) (hn : 0 < n) (hn2 : n ≤ 1000000) : ∃ k, transhumancelaw7_within.f a n = some k ∧ 0 ≤ k ∧ k < n := by
  have h1 : Int.tmod a n < n := Int.tmod_lt_of_pos a hn
  have h2 : -n < Int.tmod a n := by
    have := Int.neg_tmod a n
    have h3 : Int.tmod (-a) n < n := Int.tmod_lt_of_pos (-a) hn
    omega
  unfold transhumancelaw7_within.f
  rw [if_neg (by omega)]
  split
  · exact ⟨_, rfl, by unfold wrap64; omega, by unfold wrap64; omega⟩
  · exact ⟨_, rfl, by omega, by omega⟩
theorem within_self (k n : Nat) (h : k < n) (hn : n ≤ 1000000) : transhumancelaw7_within.f (k : Int) (n : Int) = some (k : Int) := by
  unfold transhumancelaw7_within.f
  rw [if_neg (by omega), Int.tmod_eq_emod_of_nonneg (by omega), Int.emod_eq_of_lt (by omega) (by omega), if_neg (by omega)]
set_option maxRecDepth 100000 in
theorem known_ok : transhumancelaw7_known.f = some true := by decide +kernel
end Go.Proofs.YtpcmkjimdhlhiaaGreatDoor.Pure
