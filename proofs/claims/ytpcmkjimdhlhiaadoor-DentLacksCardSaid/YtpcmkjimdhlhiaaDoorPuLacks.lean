import Derived.Test.YtpcmkjimdhlhiaaDoorPx4
import Derived.Test.YtpcmkjimdhlhiaaDoorPuBase
set_option linter.unusedVariables false
namespace Go.Proofs.YtpcmkjimdhlhiaaDoor.Pure
open Go.RowKit Go.Proofs.YtpcmkjimdhlhiaaDoor.P
theorem lacks_l0 (a2 b2 : Int) (h : transhumancelaw7_within.f a2 5 = transhumancelaw7_within.f b2 5) : ∀ (k : Nat) (a1 : Bool) (y2 : Int) (y3 : ByteArray) (y4 : Int), transhumancelaw7_DentLacks.l0 k a1 a2 y2 y3 y4 = transhumancelaw7_DentLacks.l0 k a1 b2 y2 y3 y4
  | 0, _, _, _, _ => rfl
  | k + 1, a1, y2, y3, y4 => by
    simp only [transhumancelaw7_DentLacks.l0, h, lacks_l0 a2 b2 h k]
theorem lacks_f (a0 b0 a2 b2 : Int) (a1 : Bool) (h0 : transhumancelaw7_within.f a0 4 = transhumancelaw7_within.f b0 4) (h : transhumancelaw7_within.f a2 5 = transhumancelaw7_within.f b2 5) (k : Nat) : transhumancelaw7_DentLacks.f k a0 a1 a2 = transhumancelaw7_DentLacks.f k b0 a1 b2 := by
  unfold transhumancelaw7_DentLacks.f
  simp only [h0, lacks_l0 a2 b2 h k]
set_option maxRecDepth 100000 in
theorem lacks_0 : ∀ a1 : Bool, ∀ b2 : Fin 5, transhumancelaw7_DentLacks.f 400 0 a1 ((b2.val : Nat) : Int) = some true := by decide +kernel
set_option maxRecDepth 100000 in
theorem lacks_1 : ∀ a1 : Bool, ∀ b2 : Fin 5, transhumancelaw7_DentLacks.f 400 1 a1 ((b2.val : Nat) : Int) = some true := by decide +kernel
set_option maxRecDepth 100000 in
theorem lacks_2 : ∀ a1 : Bool, ∀ b2 : Fin 5, transhumancelaw7_DentLacks.f 400 2 a1 ((b2.val : Nat) : Int) = some true := by decide +kernel
set_option maxRecDepth 100000 in
theorem lacks_3 : ∀ a1 : Bool, ∀ b2 : Fin 5, transhumancelaw7_DentLacks.f 400 3 a1 ((b2.val : Nat) : Int) = some true := by decide +kernel
theorem DentLacks : transhumancelaw7_DentLacks.Pure := by
  intro a0 a1 a2 _ _
  refine ⟨400, ?_⟩
  obtain ⟨k, hk, h0, h1⟩ := within_some a0 4 (by omega) (by omega)
  obtain ⟨m, hm, g0, g1⟩ := within_some a2 5 (by omega) (by omega)
  obtain ⟨k, rfl⟩ := Int.eq_ofNat_of_zero_le h0
  obtain ⟨m, rfl⟩ := Int.eq_ofNat_of_zero_le g0
  have e := lacks_f a0 k a2 m a1 (hk.trans (within_self k 4 (by omega) (by omega)).symm) (hm.trans (within_self m 5 (by omega) (by omega)).symm) 400
  rw [e]
  have hc : k = 0 ∨ k = 1 ∨ k = 2 ∨ k = 3 := by omega
  rcases hc with rfl | rfl | rfl | rfl
  · exact lacks_0 a1 ⟨m, by omega⟩
  · exact lacks_1 a1 ⟨m, by omega⟩
  · exact lacks_2 a1 ⟨m, by omega⟩
  · exact lacks_3 a1 ⟨m, by omega⟩
end Go.Proofs.YtpcmkjimdhlhiaaDoor.Pure
