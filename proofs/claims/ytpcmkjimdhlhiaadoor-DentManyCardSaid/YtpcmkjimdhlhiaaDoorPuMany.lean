import Derived.Test.YtpcmkjimdhlhiaaDoorPuMany0
set_option linter.unusedVariables false
set_option linter.unusedSimpArgs false
namespace Go.Proofs.YtpcmkjimdhlhiaaDoor.Pure
open Go.RowKit Go.Proofs.YtpcmkjimdhlhiaaDoor.P Go.Proofs.YtpcmkjimdhlhiaaDoorW.PrintWords
open G (placeL placeC)
open S (Bs Lk Run fieldLine lined)
theorem f_some (n : Nat) (hn : n < 45) : dent_Locks.f (mtext n) = some (dent_Locks.g (mtext n)) := by
  have hs := mtext_size n
  unfold dent_Locks.f
  rw [if_pos (by omega)]
theorem m_small (n : Nat) (hn : n < 45) : (mtext n).size ≤ 10000000 := by
  have hs := mtext_size n
  omega
theorem end_few (n : Nat) (l : List S31) (X : Option Bool) (g : List S31 × Int × Int × Int) (hg : g = (l, 0, 0, 0)) (hl : l.length = n) (h : ¬ (n : Int) > 40) :
    (if (n : Int) > 40 then X else (if g.2.2.2 = 0 then (some ((g.1.length : Int) == (n : Int))) else (some false))) = some true := by
  subst hg hl
  rw [if_neg h]
  exact congrArg some (beq_self_eq_true _)
theorem end_more (n : Nat) (A B : Int) (X : Option Bool) (g : List S31 × Int × Int × Int) (hg : g = ([], A, B, 2)) (q : Option (Int × Int)) (hq : q = some (A, B)) (h : (n : Int) > 40) :
    (if (n : Int) > 40 then (if g.2.2.2 = 2 then (q.bind fun bt181 => (if (g.2.1 == bt181.1 && (g.2.2.1 == bt181.2)) = true then (some ((g.1.length : Int) == 0)) else (some false))) else (some false)) else X) = some true := by
  subst hg hq
  rw [if_pos h]
  show (if (A == A && (B == B)) = true then some true else some false) = some true
  rw [beq_self_eq_true, beq_self_eq_true]
  rfl
theorem many_end (p n k : Nat) (hp : ∀ j, j = 40 → (mtext j).size = p) (hn : n < 45) (hk : 2 * (mtext n).size + 2 ≤ k) : transhumancelaw7_DentMany.l0 (k + 1) (n : Int) (mtext n) (mat p n : Int) (n : Int) = some true := by
  by_cases h : n ≤ 40
  · have hg := g_few n h
    rw [transhumancelaw7_DentMany.l0, if_neg (by omega), f_some n hn]
    have hl : (List.map lkOf (List.map mlk (List.range n))).length = n := by simp
    generalize dent_Locks.g (mtext n) = g at hg ⊢
    generalize List.map lkOf (List.map mlk (List.range n)) = l at hg hl
    exact end_few n _ _ _ hg hl (by omega)
  · have hm : mat p n = p := by unfold mat; rw [if_pos (by omega)]
    have hr := ref_Place (mtext n) p k (m_small n hn) hk
    have hg := g_more p n hp (by omega) hn
    rw [hm, transhumancelaw7_DentMany.l0, if_neg (by omega), f_some n hn]
    generalize transhumanceref1_Place.f k (mtext n) (p : Int) = q at hr ⊢
    generalize dent_Locks.g (mtext n) = g at hg ⊢
    generalize placeL (mtext n) p = A at hg hr
    generalize placeC (mtext n) p = B at hg hr
    exact end_more n _ _ _ _ hg _ hr (by omega)
theorem many_all (p k K : Nat) (hp : ∀ j, j = 40 → (mtext j).size = p) (hk : k < 10) (hK : 4000 ≤ K) : transhumancelaw7_DentMany.l0 K ((35 + k : Nat) : Int) (mtext 0) 0 0 = some true := by
  have h := many_loop p (35 + k) hp (by omega) (35 + k) 0 K (by omega) (by omega) (by omega)
  have z : ((mat p 0 : Nat) : Int) = 0 := by simp [mat]
  have z2 : ((0 : Nat) : Int) = 0 := rfl
  rw [z, z2] at h
  rw [h]
  have hs := mtext_size (35 + k)
  have h2 := many_end p (35 + k) (K - (35 + k) - 1) hp (by omega) (by omega)
  rw [show K - (35 + k) - 1 + 1 = K - (35 + k) from by omega] at h2
  exact h2
theorem mtext_zero : mtext 0 = (⟨#[108, 111, 99, 107, 115, 58, 10]⟩ : ByteArray) := rfl
theorem many_f (a0 : Int) (k K : Nat) (hk : transhumancelaw7_within.f a0 10 = some (k : Int)) (h1 : k < 10) (hl : transhumancelaw7_DentMany.l0 K ((35 + k : Nat) : Int) (⟨#[108, 111, 99, 107, 115, 58, 10]⟩ : ByteArray) 0 0 = some true) : transhumancelaw7_DentMany.f K a0 = some true := by
  have e : wrap64 (35 + (k : Int)) = ((35 + k : Nat) : Int) := by unfold wrap64; omega
  unfold transhumancelaw7_DentMany.f
  rw [known_ok, hk]
  simp only [Option.bind_some, if_true]
  rw [e]
  exact hl
theorem many_ex : ∃ p, ∀ j, j = 40 → (mtext j).size = p := ⟨_, fun j h => congrArg (fun j => (mtext j).size) h⟩
theorem DentMany : transhumancelaw7_DentMany.Pure := by
  intro a0 _
  obtain ⟨k, hk, h0, h1⟩ := within_some a0 10 (by omega) (by omega)
  obtain ⟨k, rfl⟩ := Int.eq_ofNat_of_zero_le h0
  obtain ⟨p, hp⟩ := many_ex
  obtain ⟨K, hK⟩ : ∃ K : Nat, 4000 ≤ K := ⟨4000, Nat.le_refl _⟩
  have h := many_all p k K hp (by omega) hK
  rw [mtext_zero] at h
  exact ⟨K, many_f a0 k K hk (by omega) h⟩
end Go.Proofs.YtpcmkjimdhlhiaaDoor.Pure
