import Derived.Test.YtpcmkjimdhlhiaaGreatDoorPuEv
import Derived.Test.YtpcmkjimdhlhiaaGreatDoorPuGen
import Derived.Test.YtpcmkjimdhlhiaaGreatDoorPx7
import Derived.Test.YtpcmkjimdhlhiaaGreatDoorPx8
set_option linter.unusedVariables false
set_option linter.unusedSimpArgs false
namespace Go.Proofs.YtpcmkjimdhlhiaaGreatDoor.Pure
open Go.RowKit Go.Proofs.YtpcmkjimdhlhiaaGreatDoor.P Go.Proofs.YtpcmkjimdhlhiaaGreatDoorW.PrintWords
open S (Bs plainS plainB right rightW)
/-! Versions -/
theorem digit_one (n : Nat) (h : n < 10) : (strOfNums [(wrap64 (48 + (n : Int))) % 256]).data.toList = [(48 + n).toUInt8] := by
  have e : (wrap64 (48 + (n : Int))) % 256 = ((48 + n : Nat) : Int) := by unfold wrap64; omega
  rw [e]
  show [UInt8.ofNat ((48 + n : Nat) : Int).toNat] = _
  rw [Int.toNat_natCast]
theorem digit_plain : ∀ n : Fin 10, plainB ((48 + n.val).toUInt8) = true := by decide
def DigOk (m : Nat) (r : ByteArray) : Prop := plainS r.data.toList = true ∧ 1 ≤ r.size ∧ r.size ≤ m
theorem digits_ev (m : Nat) : ∀ n : Nat, n < 10 ^ (m + 1) → m ≤ 10 → Ev (fun k => transhumanceref1_Digits.f k (n : Int)) (DigOk (m + 1)) := by
  have one : ∀ n : Nat, n < 10 → ∀ m, Ev (fun k => transhumanceref1_Digits.f k (n : Int)) (DigOk (m + 1)) := fun n hn m => by
    have e := digit_one n hn
    refine Ev.of (r := strOfNums [(wrap64 (48 + (n : Int))) % 256]) ⟨?_, ?_, ?_⟩ 1 (fun k hk => ?_)
    · rw [e]
      have := digit_plain ⟨n, hn⟩
      simpa [S.plainS] using this
    · rw [size_list, e]; simp
    · rw [size_list, e]; simp
    · obtain ⟨k, rfl⟩ : ∃ m, k = m + 1 := ⟨k - 1, by omega⟩
      rw [transhumanceref1_Digits.f, if_neg (by omega)]
  induction m with
  | zero => exact fun n hn _ => one n (by simpa using hn) 0
  | succ m ih =>
    intro n hn hm
    by_cases h : n < 10
    · exact one n h (m + 1)
    · have e10 : 10 ^ (m + 1 + 1) = 10 ^ (m + 1) * 10 := Nat.pow_succ ..
      have hb : n < 1000000000000 := Nat.lt_of_lt_of_le hn (Nat.pow_le_pow_right (n := 10) (by omega) (by omega : m + 1 + 1 ≤ 12))
      obtain ⟨e1, e2, e3⟩ := tdiv_in (n : Int) 10 (by omega) (by omega) (by omega)
      obtain ⟨n1, n2, n3⟩ := tmod_in (n : Int) 10 (by omega) (by omega)
      have r1 := ih (n / 10) (by omega) (by omega)
      have r2 := one (n % 10) (by omega) 0
      refine Ev.succ (g := fun k => ((transhumanceref1_Digits.f k ((n / 10 : Nat) : Int)).bind fun t130 => ((transhumanceref1_Digits.f k ((n % 10 : Nat) : Int)).bind fun t131 => (if t130.size + t131.size ≤ 9223372036854775807 then (some (t130 ++ t131)) else (none))))) ?_ (fun k => ?_)
      · refine Ev.bind r1 (fun a ha => Ev.bind r2 (fun b hb2 => ?_))
        obtain ⟨a1, a2, a3⟩ := ha
        obtain ⟨b1, b2, b3⟩ := hb2
        refine (Ev.pure (r := a ++ b) ⟨?_, ?_, ?_⟩).eq (fun k => if_pos (by omega))
        · rw [app_list, plainS_app, a1, b1]; rfl
        · rw [ByteArray.size_append]; omega
        · rw [ByteArray.size_append]; omega
      · rw [transhumanceref1_Digits.f, if_pos (by omega), e1, n3]
        rfl
theorem text2_ev (a b c : Nat) (pre : ByteArray) (ha : a < 1000000) (hb : b < 1000000) (hc : c < 1000000) (hp : plainS pre.data.toList = true) (hs : pre.size ≤ 40) :
    Ev (fun k => transhumanceref2_Text.f k (a : Int) (b : Int) (c : Int) pre) (fun r => plainS r.data.toList = true ∧ 1 ≤ r.size ∧ r.size ≤ 70) := by
  unfold transhumanceref2_Text.f
  refine Ev.bind (digits_ev 5 a ha (by omega)) (fun x hx => ?_)
  obtain ⟨x1, x2, x3⟩ := hx
  simp only [if_pos (show 1 + x.size ≤ 9223372036854775807 by omega), if_pos (show 1 + x.size + 1 ≤ 9223372036854775807 by omega)]
  refine Ev.bind (digits_ev 5 b hb (by omega)) (fun y hy => ?_)
  obtain ⟨y1, y2, y3⟩ := hy
  simp only [if_pos (show 1 + x.size + 1 + y.size ≤ 9223372036854775807 by omega), if_pos (show 1 + x.size + 1 + y.size + 1 ≤ 9223372036854775807 by omega)]
  refine Ev.bind (digits_ev 5 c hc (by omega)) (fun z hz => ?_)
  obtain ⟨z1, z2, z3⟩ := hz
  simp only [if_pos (show 1 + x.size + 1 + y.size + 1 + z.size ≤ 9223372036854775807 by omega)]
  have p1 : plainS (⟨#[118]⟩ : ByteArray).data.toList = true := by decide
  have p2 : plainS (⟨#[46]⟩ : ByteArray).data.toList = true := by decide
  have p3 : plainS (⟨#[45]⟩ : ByteArray).data.toList = true := by decide
  have s1 : (⟨#[118]⟩ : ByteArray).size = 1 := rfl
  have s2 : (⟨#[46]⟩ : ByteArray).size = 1 := rfl
  have s3 : (⟨#[45]⟩ : ByteArray).size = 1 := rfl
  split
  · refine Ev.pure ⟨?_, ?_, ?_⟩
    · simp only [app_list, plainS_app, p1, p2, x1, y1, z1, Bool.and_self]
    · simp only [ByteArray.size_append]; omega
    · simp only [ByteArray.size_append]; omega
  · simp only [if_pos (show 1 + x.size + 1 + y.size + 1 + z.size + 1 ≤ 9223372036854775807 by omega), if_pos (show 1 + x.size + 1 + y.size + 1 + z.size + 1 + pre.size ≤ 9223372036854775807 by omega)]
    refine Ev.pure ⟨?_, ?_, ?_⟩
    · simp only [app_list, plainS_app, p1, p2, p3, x1, y1, z1, hp, Bool.and_self]
    · simp only [ByteArray.size_append]; omega
    · simp only [ByteArray.size_append]; omega
end Go.Proofs.YtpcmkjimdhlhiaaGreatDoor.Pure
