import Derived.Test.YtpcmkjimdhlhiaaGreatDoorPuEv
import Derived.Test.YtpcmkjimdhlhiaaGreatDoorS5
import Derived.Test.YtpcmkjimdhlhiaaGreatDoorPx13
import Derived.Test.YtpcmkjimdhlhiaaGreatDoorPx6
set_option linter.unusedVariables false
set_option linter.unusedSimpArgs false
namespace Go.Proofs.YtpcmkjimdhlhiaaGreatDoor.Pure
open Go.RowKit Go.Proofs.YtpcmkjimdhlhiaaGreatDoor.P Go.Proofs.YtpcmkjimdhlhiaaGreatDoorW.PrintWords
open S (Bs plainS plainB right rightW)
/-! The laws' makers of texts: what they make is plain, names are right. -/
def wth (a0 a1 : Int) : Option Int := if a1 = 0 then none else (if (Int.tmod a0 a1) < 0 then (some (wrap64 ((Int.tmod a0 a1) + a1))) else (some (Int.tmod a0 a1)))
theorem wth_some (a n : Int) (hn : 0 < n) (hn2 : n ≤ 1099511627776) : ∃ k, wth a n = some k ∧ 0 ≤ k ∧ k < n := by
  obtain ⟨h1, h2⟩ := tmod_bd a n hn
  unfold wth
  rw [if_neg (by omega)]
  split
  · exact ⟨_, rfl, by unfold wrap64; omega, by unfold wrap64; omega⟩
  · exact ⟨_, rfl, by omega, by omega⟩
theorem w1_eq (a n : Int) : transhumancelaw1_within.f a n = wth a n := rfl
theorem w4_eq (a n : Int) : transhumancelaw4_within.f a n = wth a n := rfl
/-! Plain -/
def sgB : ByteArray := ⟨#[10, 9, 32, 34, 92, 35, 47, 97, 98, 99, 110, 116, 58, 61, 45, 91, 93, 123, 125, 44, 46, 48, 49, 50, 51, 118, 120, 126, 94, 42, 124, 60, 62, 33, 95, 122, 121, 113]⟩
theorem signs_f : transhumancelaw1_signs.f = some sgB := rfl
theorem sg_size : (sgB.size : Int) = 38 := rfl
theorem sg_plain : ∀ t : Fin 38, ∃ c, sgB.data.toList[t.val]? = some c ∧ plainB c = true := by
  intro t
  have h : ∀ t : Fin 38, plainB (sgB.data.toList.getD t.val 0) = true := by decide +kernel
  have hl : t.val < sgB.data.toList.length := t.isLt
  refine ⟨sgB.data.toList[t.val]'hl, List.getElem?_eq_getElem hl, ?_⟩
  have := h t
  rw [List.getD_eq_getElem?_getD, List.getElem?_eq_getElem hl] at this
  exact this
def okB (n : Int) : Prop := ∃ c : UInt8, n = (c.toNat : Int) ∧ plainB c = true
theorem strOf_plain (x : List Int) (h : ∀ n ∈ x, okB n) : plainS (strOfNums x).data.toList = true := by
  unfold plainS strOfNums
  rw [List.all_eq_true]
  intro c hc
  simp only [List.mem_map] at hc
  obtain ⟨n, hn, rfl⟩ := hc
  obtain ⟨c, rfl, hp⟩ := h n hn
  simpa using hp
theorem strOf_size (x : List Int) : (strOfNums x).size = x.length := by
  rw [size_list]
  simp [strOfNums]
theorem plain_go (d : Nat) : ∀ (x : List Int) (i : Nat), i ≤ x.length → x.length - i = d → x.length ≤ 1000000 → (∀ j, j < i → ∀ n, x[j]? = some n → okB n) →
    Ev (fun k => transhumancelaw1_Plain.l0 k x (i : Int)) (fun r => plainS r.data.toList = true ∧ r.size = x.length) := by
  induction d with
  | zero =>
    intro x i hi hd hx hok
    refine Ev.of (r := strOfNums x) ⟨strOf_plain x (fun n hn => ?_), strOf_size x⟩ 1 (fun k hk => ?_)
    · obtain ⟨j, hj⟩ := List.mem_iff_getElem?.1 hn
      exact hok j (by have := (List.getElem?_eq_some_iff.1 hj).1; omega) n hj
    · obtain ⟨k, rfl⟩ : ∃ m, k = m + 1 := ⟨k - 1, by omega⟩
      rw [transhumancelaw1_Plain.l0, if_neg (by omega)]
  | succ d ih =>
    intro x i hi hd hx hok
    obtain ⟨t, ht, h0, h1⟩ := wth_some (wrap64 (rd x (i : Int))) 38 (by omega) (by omega)
    obtain ⟨t, rfl⟩ := Int.eq_ofNat_of_zero_le h0
    obtain ⟨c, hc, hp⟩ := sg_plain ⟨t, by omega⟩
    have hb := bt_list sgB t c hc
    have hl : (x.set i (c.toNat : Int)).length = x.length := by simp
    have r := ih (x.set i (c.toNat : Int)) (i + 1) (by rw [hl]; omega) (by rw [hl]; omega) (by rw [hl]; omega) (fun j hj n hn => by
      by_cases e : j = i
      · subst e
        rw [List.getElem?_set_self (by omega)] at hn
        exact ⟨c, (Option.some.inj hn).symm, hp⟩
      · rw [List.getElem?_set_ne (by omega)] at hn
        exact hok j (by omega) n hn)
    rw [hl] at r
    refine Ev.succ r (fun k => ?_)
    rw [transhumancelaw1_Plain.l0, if_pos (by omega), signs_f]
    simp only [Option.bind_some]
    rw [if_pos (by omega), sg_size, w1_eq, ht]
    simp only [Option.bind_some]
    rw [if_pos (by omega), if_pos (by omega), hb]
    have : wrap64 ((i : Int) + 1) = ((i + 1 : Nat) : Int) := by unfold wrap64; omega
    rw [this]
    simp
theorem plain_ev (l : List Int) (a : Nat) (ha : a ≤ 1000000) (hl : l.length ≤ 140737488351232) : Ev (fun k => transhumancelaw1_Plain.f k l (a : Int)) (fun r => plainS r.data.toList = true ∧ r.size ≤ a) := by
  have hm : mn (l.length : Int) (a : Int) = ((min l.length a : Nat) : Int) := by unfold mn; split <;> omega
  have hl2 : (l.take (min l.length a)).length = min l.length a := by rw [List.length_take]; omega
  refine ((plain_go (min l.length a) (l.take (min l.length a)) 0 (by omega) (by omega) (by omega) (fun j hj => by omega)).mono (fun r h => ⟨h.1, by rw [h.2, hl2]; omega⟩)).eq (fun k => ?_)
  unfold transhumancelaw1_Plain.f
  simp only [Option.bind_some]
  rw [hm, if_pos (by omega), if_pos (by omega)]
  simp only [Int.toNat_natCast]
  rw [if_pos (by rw [hl2]; simp only [List.length_nil]; omega)]
  rfl
/-! Names -/
def w11 : List ByteArray := [(⟨#[97]⟩ : ByteArray), (⟨#[98]⟩ : ByteArray), (⟨#[97, 46, 98]⟩ : ByteArray), (⟨#[99, 45, 100]⟩ : ByteArray), (⟨#[118, 50]⟩ : ByteArray), (⟨#[118, 51]⟩ : ByteArray), (⟨#[118, 49]⟩ : ByteArray), (⟨#[118, 48, 50]⟩ : ByteArray), (⟨#[95]⟩ : ByteArray), (⟨#[108, 105, 98]⟩ : ByteArray), (⟨#[118, 50, 48]⟩ : ByteArray)]
theorem w11_ok : ∀ i : Fin 11, rightW (w11.getD i.val ByteArray.empty).data.toList = true ∧ plainS (w11.getD i.val ByteArray.empty).data.toList = true ∧ 1 ≤ (w11.getD i.val ByteArray.empty).size ∧ (w11.getD i.val ByteArray.empty).size ≤ 3 := by decide +kernel
theorem w11_at (t : Int) (h0 : 0 ≤ t) (h1 : t < 11) : rightW (rdOf ByteArray.empty w11 t).data.toList = true ∧ plainS (rdOf ByteArray.empty w11 t).data.toList = true ∧ 1 ≤ (rdOf ByteArray.empty w11 t).size ∧ (rdOf ByteArray.empty w11 t).size ≤ 3 := by
  have := w11_ok ⟨t.toNat, by omega⟩
  exact this
theorem splitOn_app (c : UInt8) (l r : Bs) : S.splitOn c (l ++ c :: r) = S.splitOn c l ++ S.splitOn c r := by
  induction l with
  | nil => simp [S.splitOn]
  | cons x l ih =>
    rw [List.cons_append, S.splitOn, S.splitOn]
    by_cases h : x = c
    · rw [if_pos h, if_pos h, ih]; rfl
    · rw [if_neg h, if_neg h, ih]
      cases hs : S.splitOn c l with
      | nil => exact absurd hs (S.splitOn_ne c l)
      | cons u us => rfl
theorem rightW_app (l r : Bs) : rightW (l ++ 47 :: r) = (rightW l && rightW r) := by
  unfold S.rightW
  rw [splitOn_app, List.all_append]
theorem plainS_app (a b : Bs) : plainS (a ++ b) = (plainS a && plainS b) := by simp [S.plainS]
def NameOk (r : ByteArray) : Prop := right r.data.toList = true ∧ plainS r.data.toList = true ∧ r.size ≤ 40
theorem right_of {r : ByteArray} (h1 : rightW r.data.toList = true) (h2 : 1 ≤ r.size) (h3 : r.size ≤ 40) : right r.data.toList = true := by
  rw [size_list] at h2 h3
  unfold S.right
  simp only [h1, Bool.and_true, Bool.and_eq_true, decide_eq_true_eq]
  exact ⟨h2, h3⟩
theorem make4_go (d : Nat) : ∀ (x3 : Int) (x5 : ByteArray), 0 ≤ x3 → x3 < 1099511627776 → rightW x5.data.toList = true → plainS x5.data.toList = true → 1 ≤ x5.size → x5.size + 4 * d ≤ 40 →
    Ev (fun k => transhumancelaw4_Make.l0 k x3 w11 x5 (d : Int)) NameOk := by
  induction d with
  | zero =>
    intro x3 x5 h0 h1 hr hp hs1 hs2
    refine Ev.of (r := x5) ⟨right_of hr hs1 (by omega), hp, by omega⟩ 1 (fun k hk => ?_)
    obtain ⟨k, rfl⟩ : ∃ m, k = m + 1 := ⟨k - 1, by omega⟩
    rw [transhumancelaw4_Make.l0, if_neg (by omega), if_neg (by omega)]
  | succ d ih =>
    intro x3 x5 h0 h1 hr hp hs1 hs2
    obtain ⟨e1, e2, e3⟩ := tdiv_in x3 4 h0 (by omega) (by omega)
    obtain ⟨m1, m2, m3⟩ := tmod_in (x3 / 4) 11 e2 (by omega)
    obtain ⟨w1, w2, w3, w4⟩ := w11_at (Int.tmod (x3 / 4) 11) m1 m2
    have r := ih (x3 / 4) ((x5 ++ (⟨#[47]⟩ : ByteArray)) ++ (rdOf ByteArray.empty w11 (Int.tmod (x3 / 4) 11))) e2 (by omega) (by
      rw [app_list, app_list, List.append_assoc, show (⟨#[47]⟩ : ByteArray).data.toList = [47] from rfl, List.singleton_append, rightW_app, hr, w1]; rfl) (by
      rw [app_list, app_list, plainS_app, plainS_app, hp, w2]; rfl) (by simp only [ByteArray.size_append]; omega) (by
      have : (⟨#[47]⟩ : ByteArray).size = 1 := rfl
      simp only [ByteArray.size_append]; omega)
    refine Ev.succ r (fun k => ?_)
    rw [transhumancelaw4_Make.l0, if_pos (by omega), if_pos (by omega), e1, if_pos m1, if_pos (by exact m2), if_pos (by omega)]
    have : wrap64 (((d + 1 : Nat) : Int) - 1) = (d : Int) := by unfold wrap64; omega
    rw [this]
theorem make4_f (k : Nat) (a0 : Int) : transhumancelaw4_Make.f k a0 = (wth a0 1099511627776).bind fun t124 => (if 0 ≤ (Int.tmod t124 11) then (if (Int.tmod t124 11) < (w11.length : Int) then (transhumancelaw4_Make.l0 k (wrap64 (Int.tdiv t124 11)) w11 (rdOf ByteArray.empty w11 (Int.tmod t124 11)) (Int.tmod (wrap64 (Int.tdiv t124 11)) 4)) else (none)) else (none)) := rfl
theorem make4_ev (a0 : Int) : Ev (fun k => transhumancelaw4_Make.f k a0) NameOk := by
  obtain ⟨t, ht, h0, h1⟩ := wth_some a0 1099511627776 (by omega) (by omega)
  obtain ⟨m1, m2, m3⟩ := tmod_in t 11 h0 (by omega)
  obtain ⟨e1, e2, e3⟩ := tdiv_in t 11 h0 (by omega) (by omega)
  obtain ⟨n1, n2, n3⟩ := tmod_in (t / 11) 4 e2 (by omega)
  obtain ⟨w1, w2, w3, w4⟩ := w11_at (Int.tmod t 11) m1 m2
  obtain ⟨j, hj⟩ := Int.eq_ofNat_of_zero_le n1
  have r := make4_go j (t / 11) (rdOf ByteArray.empty w11 (Int.tmod t 11)) e2 (by omega) w1 w2 w3 (by omega)
  refine r.eq (fun k => ?_)
  rw [make4_f, ht]
  simp only [Option.bind_some]
  rw [if_pos m1, if_pos (by exact m2), e1, hj]
end Go.Proofs.YtpcmkjimdhlhiaaGreatDoor.Pure
