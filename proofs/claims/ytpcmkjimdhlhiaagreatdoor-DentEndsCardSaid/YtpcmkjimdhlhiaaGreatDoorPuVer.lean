import Derived.Test.YtpcmkjimdhlhiaaGreatDoorPuEv
import Derived.Test.YtpcmkjimdhlhiaaGreatDoorPuGen
import Derived.Test.YtpcmkjimdhlhiaaGreatDoorPx10
set_option linter.unusedVariables false
set_option linter.unusedSimpArgs false
namespace Go.Proofs.YtpcmkjimdhlhiaaGreatDoor.Pure
open Go.RowKit Go.Proofs.YtpcmkjimdhlhiaaGreatDoor.P Go.Proofs.YtpcmkjimdhlhiaaGreatDoorW.PrintWords
open S (Bs plainS plainB right rightW)
theorem w2_eq (a n : Int) : transhumancelaw2_within.f a n = wth a n := rfl
def w13 : List ByteArray := [(⟨#[48]⟩ : ByteArray), (⟨#[49]⟩ : ByteArray), (⟨#[49, 48]⟩ : ByteArray), (⟨#[50]⟩ : ByteArray), (⟨#[97]⟩ : ByteArray), (⟨#[114, 99]⟩ : ByteArray), (⟨#[114, 99, 49]⟩ : ByteArray), (⟨#[65]⟩ : ByteArray), (⟨#[45]⟩ : ByteArray), (⟨#[48, 97]⟩ : ByteArray), (⟨#[97, 108, 112, 104, 97]⟩ : ByteArray), (⟨#[57, 57, 57, 57, 57, 57, 57, 57, 57, 57]⟩ : ByteArray), (⟨#[50, 48, 50, 48, 48, 49, 48, 49, 48, 48, 48, 48, 48, 48, 45, 97, 98, 99, 100, 101, 102, 48, 49, 50, 51, 52, 53]⟩ : ByteArray)]
theorem w13_ok : ∀ i : Fin 13, plainS (w13.getD i.val ByteArray.empty).data.toList = true ∧ (w13.getD i.val ByteArray.empty).size ≤ 27 := by decide +kernel
theorem w13_at (t : Int) (h0 : 0 ≤ t) (h1 : t < 13) : plainS (rdOf ByteArray.empty w13 t).data.toList = true ∧ (rdOf ByteArray.empty w13 t).size ≤ 27 := w13_ok ⟨t.toNat, by omega⟩
theorem o1 (i : Nat) (m : Int) (a : (i : Int) < m) (b : m < 4) : i + 1 ≤ 4 := by omega
theorem o2 (i d : Nat) (h : 4 - i = d + 1) : 4 - (i + 1) = d := by omega
theorem o3 (p v i : Nat) (h : p ≤ 28 * i) (w : v ≤ 27) : p + 1 + v ≤ 28 * (i + 1) ∧ p + v ≤ 28 * (i + 1) := by omega
theorem o4 (p v i : Nat) (h : p ≤ 28 * i) (hi : i ≤ 4) (w : v ≤ 27) : p + 1 ≤ 9223372036854775807 ∧ p + 1 + v ≤ 9223372036854775807 ∧ p + v ≤ 9223372036854775807 := by omega
theorem o5 (i : Nat) (hi : i ≤ 4) : wrap64 ((i : Int) + 1) = ((i + 1 : Nat) : Int) := by unfold wrap64; omega
def VerOk (r : Int × Int × Int × ByteArray) : Prop := (0 ≤ r.1 ∧ r.1 < 1000000) ∧ (0 ≤ r.2.1 ∧ r.2.1 < 1000000) ∧ (0 ≤ r.2.2.1 ∧ r.2.2.1 < 1000000) ∧ plainS r.2.2.2.data.toList = true ∧ r.2.2.2.size ≤ 40
theorem make2_go (d : Nat) : ∀ (i : Nat) (x8 a b c : Int) (p : ByteArray), i ≤ 4 → 4 - i = d → 0 ≤ x8 → x8 < 1099511627776 → (0 ≤ a ∧ a < 1000000) → (0 ≤ b ∧ b < 1000000) → (0 ≤ c ∧ c < 1000000) → plainS p.data.toList = true → p.size ≤ 28 * i →
    Ev (fun k => transhumancelaw2_Make.l0 k w13 x8 (i : Int) a b c p) VerOk := by
  have fin : ∀ (i : Nat) (x8 a b c : Int) (p : ByteArray), ¬ (i : Int) < Int.tmod x8 4 → (0 ≤ a ∧ a < 1000000) → (0 ≤ b ∧ b < 1000000) → (0 ≤ c ∧ c < 1000000) → plainS p.data.toList = true → Ev (fun k => transhumancelaw2_Make.l0 k w13 x8 (i : Int) a b c p) VerOk := fun i x8 a b c p hn ha hb hc hp => by
    by_cases h : (p.size : Int) > 40
    · refine Ev.of (r := (a, b, c, (⟨#[114, 99, 46, 49]⟩ : ByteArray))) ⟨ha, hb, hc, show plainS [114, 99, 46, 49] = true from by decide, show (⟨#[114, 99, 46, 49]⟩ : ByteArray).size ≤ 40 from by decide⟩ 1 (fun k hk => ?_)
      obtain ⟨k, rfl⟩ : ∃ m, k = m + 1 := ⟨k - 1, by omega⟩
      rw [transhumancelaw2_Make.l0, if_neg hn, if_pos h]
    · refine Ev.of (r := (a, b, c, p)) ⟨ha, hb, hc, hp, by show p.size ≤ 40; omega⟩ 1 (fun k hk => ?_)
      obtain ⟨k, rfl⟩ : ∃ m, k = m + 1 := ⟨k - 1, by omega⟩
      rw [transhumancelaw2_Make.l0, if_neg hn, if_neg h]
  induction d with
  | zero =>
    intro i x8 a b c p hi hd h0 h1 ha hb hc hp hs
    obtain ⟨m1, m2, _⟩ := tmod_in x8 4 h0 (by omega)
    exact fin i x8 a b c p (by omega) ha hb hc hp
  | succ d ih =>
    intro i x8 a b c p hi hd h0 h1 ha hb hc hp hs
    obtain ⟨m1, m2, _⟩ := tmod_in x8 4 h0 (by omega)
    by_cases hn : (i : Int) < Int.tmod x8 4
    · obtain ⟨e1, e2, e3⟩ := tdiv_in x8 4 h0 (by omega) (by omega)
      obtain ⟨g1, g2, g3⟩ := tdiv_in x8 13 h0 (by omega) (by omega)
      obtain ⟨n1, n2, _⟩ := tmod_in (x8 / 4) 13 e2 (by omega)
      obtain ⟨w1, w2⟩ := w13_at _ n1 n2
      obtain ⟨v, hv⟩ : ∃ v, rdOf ByteArray.empty w13 (Int.tmod (x8 / 4) 13) = v := ⟨_, rfl⟩
      rw [hv] at w1 w2
      have hw := o5 i hi
      have hi1 := o1 i _ hn m2
      have hd1 := o2 i d hd
      have h13 := Int.lt_of_le_of_lt g3 h1
      obtain ⟨z1, z2⟩ := o3 p.size v.size i hs w2
      obtain ⟨y1, y2, y3⟩ := o4 p.size v.size i hs hi w2
      by_cases hz : (i : Int) > 0
      · have hpl : plainS ((p ++ (⟨#[46]⟩ : ByteArray)) ++ v).data.toList = true := by
          rw [app_list, app_list, plainS_app, plainS_app, hp, w1]; rfl
        have hsz : ((p ++ (⟨#[46]⟩ : ByteArray)) ++ v).size ≤ 28 * (i + 1) := by
          rw [ByteArray.size_append, ByteArray.size_append, show (⟨#[46]⟩ : ByteArray).size = 1 from rfl]; exact z1
        refine Ev.succ (ih (i + 1) (x8 / 13) a b c _ hi1 hd1 g2 h13 ha hb hc hpl hsz) (fun k => ?_)
        rw [transhumancelaw2_Make.l0, if_pos hn, if_pos hz, if_pos y1, e1, if_pos n1, if_pos (by exact n2), hv, if_pos y2, g1, hw]
      · have hpl : plainS (p ++ v).data.toList = true := by
          rw [app_list, plainS_app, hp, w1]; rfl
        have hsz : (p ++ v).size ≤ 28 * (i + 1) := by
          rw [ByteArray.size_append]; exact z2
        refine Ev.succ (ih (i + 1) (x8 / 13) a b c _ hi1 hd1 g2 h13 ha hb hc hpl hsz) (fun k => ?_)
        rw [transhumancelaw2_Make.l0, if_pos hn, if_neg hz, e1, if_pos n1, if_pos (by exact n2), hv, if_pos y3, g1, hw]
    · exact fin i x8 a b c p hn ha hb hc hp
theorem make2_j (a1 a b c : Int) (ha : 0 ≤ a ∧ a < 1000000) (hb : 0 ≤ b ∧ b < 1000000) (hc : 0 ≤ c ∧ c < 1000000) : Ev (fun k => transhumancelaw2_Make.j0 k a1 a b c (⟨#[]⟩ : ByteArray)) VerOk := by
  obtain ⟨t, ht, h0, h1⟩ := wth_some a1 1099511627776 (by omega) (by omega)
  refine Ev.succ (make2_go 4 0 t a b c ⟨#[]⟩ (by omega) (by omega) h0 h1 ha hb hc (by decide) (by decide)) (fun k => ?_)
  rw [transhumancelaw2_Make.j0, w2_eq, ht, Option.bind_some, w13]
  rfl
theorem o6 (x : Int) (a : 0 ≤ x) (b : x < 2) : wrap64 (999999 - x) = 999999 - x := by unfold wrap64; omega
theorem o7 (x : Int) (a : 0 ≤ x) (b : x < 2) : 0 ≤ 999999 - x ∧ 999999 - x < 1000000 := by omega
theorem o8 (x n : Int) (a : 0 ≤ x) (b : x < n) (h : n ≤ 1000000) : 0 ≤ x ∧ x < 1000000 := by omega
theorem make2_ev (a0 a1 : Int) : Ev (fun k => transhumancelaw2_Make.f k a0 a1) VerOk := by
  obtain ⟨t, ht, h0, h1⟩ := wth_some a0 1099511627776 (by omega) (by omega)
  obtain ⟨e1, e2, e3⟩ := tdiv_in t 432 h0 (by omega) (by omega)
  obtain ⟨f1, f2, f3⟩ := tdiv_in t 3 h0 (by omega) (by omega)
  obtain ⟨g1, g2, g3⟩ := tdiv_in t 12 h0 (by omega) (by omega)
  obtain ⟨a1', a2', _⟩ := tmod_in (t / 432) 2 e2 (by omega)
  obtain ⟨b1, b2, _⟩ := tmod_in (t / 3) 4 f2 (by omega)
  obtain ⟨c1, c2, _⟩ := tmod_in (t / 12) 4 g2 (by omega)
  obtain ⟨d1, d2, _⟩ := tmod_in t 3 h0 (by omega)
  have hx : wrap64 (999999 - Int.tmod (t / 432) 2) = 999999 - Int.tmod (t / 432) 2 := o6 _ a1' a2'
  have he : ∀ k, transhumancelaw2_Make.f k a0 a1 = (if (Int.tmod (wrap64 (Int.tdiv t 48)) 9) = 0 then (transhumancelaw2_Make.j0 k a1 (999999 - Int.tmod (t / 432) 2) (Int.tmod (t / 3) 4) (Int.tmod (t / 12) 4) (⟨#[]⟩ : ByteArray)) else (if (Int.tmod (wrap64 (Int.tdiv t 48)) 9) = 1 then (transhumancelaw2_Make.j0 k a1 (Int.tmod t 3) (999999 - Int.tmod (t / 432) 2) (Int.tmod (t / 12) 4) (⟨#[]⟩ : ByteArray)) else (if (Int.tmod (wrap64 (Int.tdiv t 48)) 9) = 2 then (transhumancelaw2_Make.j0 k a1 (Int.tmod t 3) (Int.tmod (t / 3) 4) (999999 - Int.tmod (t / 432) 2) (⟨#[]⟩ : ByteArray)) else (transhumancelaw2_Make.j0 k a1 (Int.tmod t 3) (Int.tmod (t / 3) 4) (Int.tmod (t / 12) 4) (⟨#[]⟩ : ByteArray))))) := fun k => by
    unfold transhumancelaw2_Make.f
    rw [w2_eq, ht]
    simp only [Option.bind_some, e1, f1, g1, hx]
  have q1 := o7 _ a1' a2'
  have q2 := o8 _ 4 b1 b2 (by decide)
  have q3 := o8 _ 4 c1 c2 (by decide)
  have q4 := o8 _ 3 d1 d2 (by decide)
  refine Ev.eq ?_ he
  split
  · exact make2_j _ _ _ _ q1 q2 q3
  split
  · exact make2_j _ _ _ _ q4 q1 q3
  split
  · exact make2_j _ _ _ _ q4 q2 q1
  · exact make2_j _ _ _ _ q4 q2 q3
end Go.Proofs.YtpcmkjimdhlhiaaGreatDoor.Pure
