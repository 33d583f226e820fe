import Derived.Test.YtpcmkjimdhlhiaaGreatDoorPuLock
import Derived.Test.YtpcmkjimdhlhiaaGreatDoorPx16
import Derived.Test.YtpcmkjimdhlhiaaGreatDoorPx22
set_option linter.unusedVariables false
set_option linter.unusedSimpArgs false
namespace Go.Proofs.YtpcmkjimdhlhiaaGreatDoor.Pure
open Go.RowKit Go.Proofs.YtpcmkjimdhlhiaaGreatDoor.P Go.Proofs.YtpcmkjimdhlhiaaGreatDoorW.PrintWords
open S (Bs plainS plainB right rightW Lk quoteC)
/-! The references' quotes and the sameness of two rows. -/
theorem extract_at (s : ByteArray) (i : Nat) (h : i < s.size) : (s.extract i (i + 1)).data.toList = [s[i]'h] := by
  have h1 : i < s.data.toList.length := by rw [← size_list]; exact h
  rw [ByteArray.data_extract, Array.toList_extract]
  rw [List.extract_eq_take_drop, Nat.add_sub_cancel_left, List.drop_eq_getElem_cons h1]
  rfl
theorem bt_u8 (s : ByteArray) (i : Nat) (h : i < s.size) (n : Nat) (hn : n < 256) : bt s (i : Int) = (n : Int) ↔ s[i]'h = n.toUInt8 := by
  have : bt s (i : Int) = ((s[i]'h).toNat : Int) := by simp [bt, h]
  rw [this]
  exact G.u8_eq hn
theorem quote_go (s : ByteArray) (hs : s.size ≤ 1000000) (d : Nat) : ∀ (i : Nat) (x : ByteArray), i ≤ s.size → s.size - i = d → x.size ≤ 1 + 2 * i →
    Ev (fun k => transhumanceref1_Quote.l0 k s x (i : Int)) (fun r => r.data.toList = x.data.toList ++ (s.data.toList.drop i).flatMap quoteC ++ [34]) := by
  induction d with
  | zero =>
    intro i x hi hd hx
    obtain rfl : i = s.size := by omega
    refine Ev.of (r := x ++ (⟨#[34]⟩ : ByteArray)) ?_ 1 (fun k hk => ?_)
    · rw [List.drop_eq_nil_of_le (by rw [← size_list]; exact Nat.le_refl _), app_list]
      simp
    · obtain ⟨k, rfl⟩ : ∃ m, k = m + 1 := ⟨k - 1, by omega⟩
      rw [transhumanceref1_Quote.l0, if_neg (by omega), if_pos (by omega)]
  | succ d ih =>
    intro i x hi hd hx
    have hlt : i < s.size := by omega
    have h1 : i < s.data.toList.length := by rw [← size_list]; exact hlt
    have hdr : s.data.toList.drop i = (s[i]'hlt) :: s.data.toList.drop (i + 1) := by rw [List.drop_eq_getElem_cons h1]; rfl
    have hw : wrap64 ((i : Int) + 1) = ((i + 1 : Nat) : Int) := by unfold wrap64; omega
    have step : ∀ (y : ByteArray), y.data.toList = quoteC (s[i]'hlt) → y.size ≤ 2 → Ev (fun k => transhumanceref1_Quote.l0 k s (x ++ y) ((i + 1 : Nat) : Int)) (fun r => r.data.toList = x.data.toList ++ (s.data.toList.drop i).flatMap quoteC ++ [34]) := fun y hy hy2 => by
      refine (ih (i + 1) (x ++ y) (by omega) (by omega) (by rw [ByteArray.size_append]; omega)).mono (fun r hr => ?_)
      rw [hr, app_list, hdr, List.flatMap_cons, hy]
      simp only [List.append_assoc]
    have e34 : bt s (i : Int) = 34 ↔ s[i]'hlt = 34 := bt_u8 s i hlt 34 (by decide)
    have e92 : bt s (i : Int) = 92 ↔ s[i]'hlt = 92 := bt_u8 s i hlt 92 (by decide)
    have e10 : bt s (i : Int) = 10 ↔ s[i]'hlt = 10 := bt_u8 s i hlt 10 (by decide)
    have e9 : bt s (i : Int) = 9 ↔ s[i]'hlt = 9 := bt_u8 s i hlt 9 (by decide)
    by_cases c34 : bt s (i : Int) = 34
    · refine Ev.succ (step (⟨#[92, 34]⟩ : ByteArray) (by rw [e34.1 c34]; rfl) (by decide)) (fun k => ?_)
      rw [transhumanceref1_Quote.l0, if_pos (by omega), if_pos (by omega), if_pos c34, if_pos (by omega), hw]
    by_cases c92 : bt s (i : Int) = 92
    · refine Ev.succ (step (⟨#[92, 92]⟩ : ByteArray) (by rw [e92.1 c92]; rfl) (by decide)) (fun k => ?_)
      rw [transhumanceref1_Quote.l0, if_pos (by omega), if_pos (by omega), if_neg c34, if_pos c92, if_pos (by omega), hw]
    by_cases c10 : bt s (i : Int) = 10
    · refine Ev.succ (step (⟨#[92, 110]⟩ : ByteArray) (by rw [e10.1 c10]; rfl) (by decide)) (fun k => ?_)
      rw [transhumanceref1_Quote.l0, if_pos (by omega), if_pos (by omega), if_neg c34, if_neg c92, if_pos c10, if_pos (by omega), hw]
    by_cases c9 : bt s (i : Int) = 9
    · refine Ev.succ (step (⟨#[92, 116]⟩ : ByteArray) (by rw [e9.1 c9]; rfl) (by decide)) (fun k => ?_)
      rw [transhumanceref1_Quote.l0, if_pos (by omega), if_pos (by omega), if_neg c34, if_neg c92, if_neg c10, if_pos c9, if_pos (by omega), hw]
    · have hex := extract_at s i hlt
      have hes : (s.extract i (i + 1)).size = 1 := by rw [size_list, hex]; rfl
      refine Ev.succ (step (s.extract i (i + 1)) (by
        rw [hex]
        unfold S.quoteC
        rw [if_neg (fun h => c34 (e34.2 h)), if_neg (fun h => c92 (e92.2 h)), if_neg (fun h => c10 (e10.2 h)), if_neg (fun h => c9 (e9.2 h))]) (by omega)) (fun k => ?_)
      rw [transhumanceref1_Quote.l0, if_pos (by omega), if_pos (by omega), if_neg c34, if_neg c92, if_neg c10, if_neg c9, hw, if_pos (by omega), if_pos (by omega)]
      simp only [Int.toNat_natCast]
      rw [if_pos (by omega)]
theorem quote_ev (s : ByteArray) (hs : s.size ≤ 1000000) : Ev (fun k => transhumanceref1_Quote.f k s) (fun r => r.data.toList = S.quote s.data.toList) := by
  refine (quote_go s hs s.size 0 (⟨#[34]⟩ : ByteArray) (Nat.zero_le _) (by omega) (by decide)).mono (fun r hr => ?_)
  rw [hr]
  rfl
theorem rows_go (a : List SL) (ha : a.length ≤ 1000000) (d : Nat) : ∀ i, i ≤ a.length → a.length - i = d → Ev (fun k => transhumanceref5_Rows.l0 k a a (i : Int)) (fun r => r = true) := by
  induction d with
  | zero =>
    intro i hi hd
    refine Ev.of (r := true) rfl 1 (fun k hk => ?_)
    obtain ⟨k, rfl⟩ : ∃ m, k = m + 1 := ⟨k - 1, by omega⟩
    rw [transhumanceref5_Rows.l0, if_neg (by omega)]
  | succ d ih =>
    intro i hi hd
    have hw : wrap64 ((i : Int) + 1) = ((i + 1 : Nat) : Int) := by unfold wrap64; omega
    refine Ev.succ (ih (i + 1) (by omega) (by omega)) (fun k => ?_)
    rw [transhumanceref5_Rows.l0, if_pos (by omega), if_pos (by omega), if_pos (by omega), if_neg (by simp), hw]
theorem rows_ev (a : List SL) (ha : a.length ≤ 1000000) : Ev (fun k => transhumanceref5_Rows.f k a a) (fun r => r = true) := by
  refine (rows_go a ha a.length 0 (Nat.zero_le _) (by omega)).eq (fun k => ?_)
  unfold transhumanceref5_Rows.f
  rw [if_pos rfl]
  rfl
end Go.Proofs.YtpcmkjimdhlhiaaGreatDoor.Pure
