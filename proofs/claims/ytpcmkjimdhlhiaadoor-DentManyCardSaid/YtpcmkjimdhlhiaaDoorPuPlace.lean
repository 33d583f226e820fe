import Derived.Test.YtpcmkjimdhlhiaaDoorPx2
import Derived.Test.YtpcmkjimdhlhiaaDoorGB
set_option linter.unusedVariables false
set_option linter.unusedSimpArgs false
namespace Go.Proofs.YtpcmkjimdhlhiaaDoor.Pure
open Go.RowKit Go.Proofs.YtpcmkjimdhlhiaaDoor.P Go.Proofs.YtpcmkjimdhlhiaaDoorW.PrintWords
open G (placeL placeC)
/-! The reference's place is the program's. -/
theorem lastIdx_extract (s : ByteArray) (c : Int) (n : Nat) (hn : n ≤ s.size) : ∀ k, k ≤ n → Lib.lastIdx (s.extract 0 n) c k = Lib.lastIdx s c k
  | 0, _ => rfl
  | k + 1, hk => by
    have e : (s.extract 0 n).data[k]! = s.data[k]! := by
      have h1 : k < s.data.size := by have : s.data.size = s.size := rfl; omega
      simp only [getElem!_def, ByteArray.data_extract, Array.getElem?_extract, Nat.zero_add]
      rw [if_pos (by omega)]
    unfold Lib.lastIdx
    rw [e, lastIdx_extract s c n hn k (by omega)]
theorem lastIdx_bd (s : ByteArray) (c : Int) (k : Nat) : -1 ≤ Lib.lastIdx s c k ∧ Lib.lastIdx s c k < k := by
  rcases Lib.lastIdx_spec s c k with ⟨h, _⟩ | ⟨i, hi, h, _⟩ <;> omega
def cnt (s : ByteArray) (i : Nat) : Nat := Lib.countByte (s.data.toList.take i) 10
theorem cnt_le (s : ByteArray) (i : Nat) : cnt s i ≤ i := by
  unfold cnt Lib.countByte
  exact Nat.le_trans List.count_le_length (List.length_take_le _ _)
theorem bt_get (s : ByteArray) (i : Nat) (h : i < s.size) : bt s (i : Int) = ((s[i]'h).toNat : Int) := by simp [bt, h]
theorem data_get (s : ByteArray) (i : Nat) (h : i < s.size) : s.data[i]! = s[i]'h := by
  rw [getElem!_pos s.data i h]
  rfl
theorem cnt_succ (s : ByteArray) (i : Nat) (h : i < s.size) : cnt s (i + 1) = cnt s i + (if bt s (i : Int) = 10 then 1 else 0) := by
  unfold cnt Lib.countByte
  have h1 : i < s.data.toList.length := by simpa using h
  rw [List.take_succ_eq_append_getElem h1, List.count_append, bt_get s i h]
  have e : s.data.toList[i]'h1 = s[i]'h := rfl
  rw [e]
  by_cases hc : s[i]'h = 10
  · rw [hc]; rfl
  · have h2 : ¬ ((s[i]'h).toNat : Int) = 10 := by
      intro h3
      exact hc (UInt8.toNat_inj.1 (by show _ = 10; omega))
    rw [if_neg h2]
    simp [List.count_cons, hc]
theorem place_go (s : ByteArray) (a n : Nat) (hs : s.size ≤ 10000000) (hn : n = min a s.size) (d : Nat) : ∀ (i k : Nat), i ≤ n → n - i = d → 2 * d + 2 ≤ k →
    transhumanceref1_Place.l0 k s (a : Int) (i : Int) (1 + (cnt s i : Int)) ((i : Int) - Lib.lastIdx s 10 i) = some (1 + (cnt s n : Int), (n : Int) - Lib.lastIdx s 10 n) := by
  induction d with
  | zero =>
    intro i k hi hd hk
    obtain rfl : i = n := by omega
    obtain ⟨k, rfl⟩ : ∃ m, k = m + 2 := ⟨k - 2, by omega⟩
    have hj : transhumanceref1_Place.j1 (k + 1) s (a : Int) (i : Int) false (1 + (cnt s i : Int)) ((i : Int) - Lib.lastIdx s 10 i) = some (1 + (cnt s i : Int), (i : Int) - Lib.lastIdx s 10 i) := by
      simp only [transhumanceref1_Place.j1]
      rw [if_neg (by simp)]
    show transhumanceref1_Place.l0 (k + 1 + 1) _ _ _ _ _ = _
    rw [transhumanceref1_Place.l0]
    split
    · have hd2 : decide ((i : Int) < (a : Int)) = false := by rw [decide_eq_false_iff_not]; omega
      rw [hd2]
      exact hj
    · exact hj
  | succ d ih =>
    intro i k hi hd hk
    obtain ⟨k, rfl⟩ : ∃ m, k = m + 2 := ⟨k - 2, by omega⟩
    have hi1 : i < s.size := by omega
    show transhumanceref1_Place.l0 (k + 1 + 1) _ _ _ _ _ = _
    rw [transhumanceref1_Place.l0]
    have hd2 : decide ((i : Int) < (a : Int)) = true := by rw [decide_eq_true_iff]; omega
    rw [if_pos (by omega), hd2]
    simp only [transhumanceref1_Place.j1]
    rw [if_pos trivial, if_pos (by omega), if_pos (by omega)]
    have hw : wrap64 ((i : Int) + 1) = ((i + 1 : Nat) : Int) := by unfold wrap64; omega
    have hc := cnt_succ s i hi1
    have hcl := cnt_le s i
    have hlb := lastIdx_bd s 10 i
    have ih2 := ih (i + 1) k (by omega) (by omega) (by omega)
    by_cases h10 : bt s (i : Int) = 10
    · rw [if_pos h10] at hc ⊢
      have h1 : Lib.lastIdx s 10 (i + 1) = (i : Int) := Lib.lastIdx_hit s 10 i (by rw [data_get s i hi1, ← bt_get s i hi1]; exact h10)
      rw [hc, h1] at ih2
      have e1 : wrap64 (1 + (cnt s i : Int) + 1) = 1 + ((cnt s i + 1 : Nat) : Int) := by unfold wrap64; omega
      rw [hw, e1]
      have e2 : (((i + 1 : Nat) : Int) - (i : Int)) = 1 := by omega
      rw [e2] at ih2
      exact ih2
    · rw [if_neg h10] at hc ⊢
      have h1 : Lib.lastIdx s 10 (i + 1) = Lib.lastIdx s 10 i := Lib.lastIdx_miss s 10 i (by rw [data_get s i hi1, ← bt_get s i hi1]; exact h10)
      rw [hc, h1] at ih2
      have e1 : wrap64 ((i : Int) - Lib.lastIdx s 10 i + 1) = ((i + 1 : Nat) : Int) - Lib.lastIdx s 10 i := by unfold wrap64; omega
      rw [hw, e1]
      exact ih2
/-- The place of a byte: the reference's, by the program's words. -/
theorem ref_Place (s : ByteArray) (a k : Nat) (hs : s.size ≤ 10000000) (hk : 2 * s.size + 2 ≤ k) : transhumanceref1_Place.f k s (a : Int) = some (placeL s a, placeC s a) := by
  unfold transhumanceref1_Place.f
  have h := place_go s a (min a s.size) hs rfl (min a s.size) 0 k (Nat.zero_le _) (by omega) (by omega)
  have e0 : (1 + (cnt s 0 : Int)) = 1 := by simp [cnt, Lib.countByte]
  have e1 : (((0 : Nat) : Int) - Lib.lastIdx s 10 0) = 1 := by rfl
  rw [e0, e1] at h
  rw [show (0 : Int) = ((0 : Nat) : Int) from rfl, h]
  have hc := cnt_le s (min a s.size)
  have hl := lastIdx_bd s 10 (min a s.size)
  have hsz : (s.extract 0 (min a s.size)).size = min a s.size := by simp
  have e2 : Lib.lastIndexByte (s.extract 0 (min a s.size)) 10 = Lib.lastIdx s 10 (min a s.size) := by
    unfold Lib.lastIndexByte
    rw [hsz]
    exact lastIdx_extract s 10 _ (Nat.min_le_right _ _) _ (Nat.le_refl _)
  have e3 : placeL s a = 1 + (cnt s (min a s.size) : Int) := by
    unfold placeL
    show wrap64 (1 + (cnt s (min a s.size) : Int)) = _
    unfold wrap64; omega
  have e4 : placeC s a = ((min a s.size : Nat) : Int) - Lib.lastIdx s 10 (min a s.size) := by
    unfold placeC
    rw [e2]
    unfold wrap64; omega
  rw [e3, e4]
end Go.Proofs.YtpcmkjimdhlhiaaDoor.Pure
