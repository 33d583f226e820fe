import Derived.Test.YtpcmkjimdhlhiaaGreatDoorWE
set_option linter.unusedVariables false
set_option linter.unusedSimpArgs false
namespace Go.Proofs.YtpcmkjimdhlhiaaGreatDoor.Pure
open Go.RowKit Go.Proofs.YtpcmkjimdhlhiaaGreatDoorW.PrintWords
/-- With enough rounds g comes to one answer, and P holds of it. -/
def Ev {α : Type} (g : Nat → Option α) (P : α → Prop) : Prop := ∃ k0 r, P r ∧ ∀ k, k0 ≤ k → g k = some r
theorem Ev.pure {α : Type} {r : α} {P : α → Prop} (h : P r) : Ev (fun _ => some r) P := ⟨0, r, h, fun _ _ => rfl⟩
theorem Ev.of {α : Type} {g : Nat → Option α} {r : α} {P : α → Prop} (h : P r) (k0 : Nat) (e : ∀ k, k0 ≤ k → g k = some r) : Ev g P := ⟨k0, r, h, e⟩
theorem Ev.bind {α β : Type} {g : Nat → Option α} {h : Nat → α → Option β} {P : α → Prop} {Q : β → Prop} (hg : Ev g P) (hh : ∀ r, P r → Ev (fun k => h k r) Q) : Ev (fun k => (g k).bind (h k)) Q := by
  obtain ⟨k0, r, hp, hr⟩ := hg
  obtain ⟨k1, q, hq, hr2⟩ := hh r hp
  exact ⟨max k0 k1, q, hq, fun k hk => by show (g k).bind (h k) = _; rw [hr k (by omega)]; exact hr2 k (by omega)⟩
theorem Ev.succ {α : Type} {f g : Nat → Option α} {P : α → Prop} (hg : Ev g P) (e : ∀ k, f (k + 1) = g k) : Ev f P := by
  obtain ⟨k0, r, hp, hr⟩ := hg
  refine ⟨k0 + 1, r, hp, fun k hk => ?_⟩
  obtain ⟨k, rfl⟩ : ∃ m, k = m + 1 := ⟨k - 1, by omega⟩
  rw [e]
  exact hr k (by omega)
theorem Ev.eq {α : Type} {f g : Nat → Option α} {P : α → Prop} (hg : Ev g P) (e : ∀ k, f k = g k) : Ev f P := by
  have : f = g := funext e
  rw [this]; exact hg
theorem Ev.mono {α : Type} {g : Nat → Option α} {P Q : α → Prop} (hg : Ev g P) (h : ∀ r, P r → Q r) : Ev g Q := by
  obtain ⟨k0, r, hp, hr⟩ := hg
  exact ⟨k0, r, h r hp, hr⟩
theorem Ev.all {α : Type} {g : Nat → Option α} {r : α} (h : Ev g (fun x => x = r)) : ∃ k0, ∀ k, k0 ≤ k → g k = Option.some r := by
  obtain ⟨k0, q, rfl, hr⟩ := h
  exact ⟨k0, hr⟩
theorem Ev.at {α : Type} {g : Nat → Option α} {r : α} (h : Ev g (fun x => x = r)) : ∃ k, g k = some r := by
  obtain ⟨k0, hr⟩ := h.all
  exact ⟨k0, hr k0 (Nat.le_refl _)⟩
theorem tmod_in (a n : Int) (h0 : 0 ≤ a) (hn : 0 < n) : 0 ≤ Int.tmod a n ∧ Int.tmod a n < n ∧ Int.tmod a n = a % n := by
  have e := Int.tmod_eq_emod_of_nonneg (b := n) h0
  rw [e]
  exact ⟨Int.emod_nonneg _ (by omega), Int.emod_lt_of_pos _ hn, rfl⟩
theorem tdiv_in (a n : Int) (h0 : 0 ≤ a) (hn : 0 < n) (hm : a < 4611686018427387904) : wrap64 (Int.tdiv a n) = a / n ∧ 0 ≤ a / n ∧ a / n ≤ a := by
  have e := Int.tdiv_eq_ediv_of_nonneg (b := n) h0
  have h1 : 0 ≤ a / n := Int.ediv_nonneg h0 (by omega)
  have h2 : a / n ≤ a := Int.ediv_le_self n h0
  rw [e]
  exact ⟨by unfold wrap64; omega, h1, h2⟩
theorem tmod_bd (a n : Int) (hn : 0 < n) : -n < Int.tmod a n ∧ Int.tmod a n < n := by
  have h1 : Int.tmod a n < n := Int.tmod_lt_of_pos a hn
  have h3 : Int.tmod (-a) n < n := Int.tmod_lt_of_pos (-a) hn
  have h4 := Int.neg_tmod a n
  omega
theorem list_ext_bytes {a b : ByteArray} (h : a.data.toList = b.data.toList) : a = b := ByteArray.ext (Array.toList_inj.1 h)
theorem app_list (a b : ByteArray) : (a ++ b).data.toList = a.data.toList ++ b.data.toList := by simp [ByteArray.data_append]
theorem size_list (a : ByteArray) : a.size = a.data.toList.length := by simp
theorem bt_list (s : ByteArray) (i : Nat) (c : UInt8) (h : s.data.toList[i]? = Option.some c) : bt s (i : Int) = (c.toNat : Int) := by
  have hi : i < s.data.toList.length := (List.getElem?_eq_some_iff.1 h).1
  have hs : i < s.size := by rw [size_list]; exact hi
  have e : s.data.toList[i]'hi = c := (List.getElem?_eq_some_iff.1 h).2
  unfold bt
  simp only [Int.toNat_natCast, dif_pos hs]
  have : s[i]'hs = c := by rw [← e]; rfl
  rw [this]
end Go.Proofs.YtpcmkjimdhlhiaaGreatDoor.Pure
