import Derived.Test.YtpcmkjimdhlhiaaGreatDoorPuLines
import Derived.Test.YtpcmkjimdhlhiaaGreatDoorPx18
import Derived.Test.YtpcmkjimdhlhiaaGreatDoorPx19
import Derived.Test.YtpcmkjimdhlhiaaGreatDoorPx17
import Derived.Test.YtpcmkjimdhlhiaaGreatDoorPx20
import Derived.Test.YtpcmkjimdhlhiaaGreatDoorPx21
set_option linter.unusedVariables false
set_option linter.unusedSimpArgs false
namespace Go.Proofs.YtpcmkjimdhlhiaaGreatDoor.Pure
open Go.RowKit Go.Proofs.YtpcmkjimdhlhiaaGreatDoor.P Go.Proofs.YtpcmkjimdhlhiaaGreatDoorW.PrintWords
open S (Bs plainS plainB right rightW Lk quoteC quote Run fieldLine fieldLines FieldOk setAll lined value keyB may enc)
/-! The reference writes locks: a value as it is where it may, else in quotes. -/
def okR : UInt8 → Bs → Bool
  | _, [] => true
  | p, c :: r => if c = 10 then false else if c = 35 ∧ p = 32 then false else okR c r
theorem index_cons2 (p : UInt8) (l : Bs) (hn : ([32, 35] : Bs).isPrefixOf (p :: l) = false) : (0 ≤ Lib.index (p :: l) [32, 35]) ↔ (0 ≤ Lib.index l [32, 35]) := by
  have h := Lib.index_ge l [32, 35]
  rw [Lib.index, hn]
  simp only [Bool.false_eq_true, if_false]
  split
  · rename_i e; rw [beq_iff_eq] at e; omega
  · rename_i e; rw [beq_iff_eq] at e; omega
theorem okR_iff (l : Bs) : ∀ p, okR p l = true ↔ (∀ c ∈ l, c ≠ 10) ∧ ¬ 0 ≤ Lib.index (p :: l) [32, 35] := by
  induction l with
  | nil =>
    intro p
    have h : ([32, 35] : Bs).isPrefixOf [p] = false := by simp [List.isPrefixOf]
    rw [index_cons2 p [] h]
    simp [okR, Lib.index]
  | cons c r ih =>
    intro p
    rw [okR]
    by_cases h10 : c = 10
    · rw [if_pos h10]
      simp [h10]
    rw [if_neg h10]
    by_cases h : c = 35 ∧ p = 32
    · rw [if_pos h]
      obtain ⟨rfl, rfl⟩ := h
      have hp : ([32, 35] : Bs).isPrefixOf (32 :: 35 :: r) = true := by simp [List.isPrefixOf]
      simp only [Bool.false_eq_true, false_iff, not_and, Decidable.not_not]
      intro _
      rw [Lib.index, hp]
      simp
    · rw [if_neg h, ih c]
      have hp : ([32, 35] : Bs).isPrefixOf (p :: c :: r) = false := by
        simp only [List.isPrefixOf, Bool.and_true]
        rw [Bool.eq_false_iff]
        intro hh
        rw [Bool.and_eq_true, beq_iff_eq, beq_iff_eq] at hh
        exact h ⟨hh.2.symm, hh.1.symm⟩
      rw [index_cons2 p (c :: r) hp]
      simp [h10]
theorem indexByte_iff (l : Bs) : (0 ≤ Lib.indexByte l 10) ↔ ¬ ∀ c ∈ l, c ≠ 10 := by
  constructor
  · intro h hc
    rw [S.indexByte_not l hc] at h
    omega
  · intro h
    by_cases hc : 0 ≤ Lib.indexByte l 10
    · exact hc
    · exfalso
      apply h
      intro c hm he
      subst he
      have : ∀ l : Bs, (10 : UInt8) ∈ l → 0 ≤ Lib.indexByte l 10 := by
        intro l
        induction l with
        | nil => intro h; simp at h
        | cons x l ih =>
          intro h
          rw [Lib.indexByte]
          by_cases hx : x = 10
          · simp [hx]
          · have hb : (x == 10) = false := by simpa using hx
            have hm2 : (10 : UInt8) ∈ l := by
              rcases List.mem_cons.1 h with h | h
              · exact absurd h.symm hx
              · exact h
            have := ih hm2
            rw [hb]
            simp only [Bool.false_eq_true, if_false]
            split
            · rename_i e; rw [beq_iff_eq] at e; omega
            · omega
      exact hc (this l hm)
theorem may_okR (c : UInt8) (r : Bs) (h1 : c ≠ 34) (h2 : c ≠ 32) (h3 : c ≠ 35) (h4 : (c :: r).getLastD 0 ≠ 32) : may (c :: r) = okR 0 (c :: r) := by
  rw [Bool.eq_iff_iff, okR_iff]
  have hp : ([32, 35] : Bs).isPrefixOf (0 :: c :: r) = false := by simp [List.isPrefixOf]
  rw [index_cons2 0 (c :: r) hp]
  have hi : Lib.indexByte [34, 32, 35] c < 0 := by
    have e1 : ((34 : UInt8) == c) = false := by simpa using fun h => h1 h.symm
    have e2 : ((32 : UInt8) == c) = false := by simpa using fun h => h2 h.symm
    have e3 : ((35 : UInt8) == c) = false := by simpa using fun h => h3 h.symm
    simp [Lib.indexByte, e1, e2, e3]
  have hx := indexByte_iff (c :: r)
  unfold S.may Lib.contains
  simp only [List.headD_cons, List.isEmpty_cons, Bool.not_false, Bool.true_and, hi, decide_true, Bool.and_eq_true, Bool.not_eq_true', decide_eq_false_iff_not, beq_eq_false_iff_ne, ne_eq, h4, not_false_eq_true, true_and]
  rw [hx]
  constructor
  · rintro ⟨a, b⟩
    exact ⟨Classical.not_not.1 b, a⟩
  · rintro ⟨a, b⟩
    exact ⟨b, Classical.not_not.2 a⟩
theorem bad_f (c : UInt8) (h : plainB c = true) : transhumanceref1_bad.f (c.toNat : Int) = some false := by
  unfold transhumanceref1_bad.f
  unfold S.plainB at h
  rw [decide_eq_true_iff] at h
  split
  · rfl
  split
  · rfl
  split
  · omega
  · rw [decide_eq_false (by omega)]
theorem plain1_one (e : ByteArray) (c : UInt8) (he : e.data.toList = [c]) (h : plainB c = true) (k : Nat) : transhumanceref1_Plain.f (k + 2) e = some true := by
  have hs : e.size = 1 := by rw [size_list, he]; rfl
  have hb : bt e 0 = (c.toNat : Int) := bt_list e 0 c (by rw [he]; rfl)
  unfold transhumanceref1_Plain.f
  show transhumanceref1_Plain.l0 (k + 1 + 1) e 0 = _
  rw [transhumanceref1_Plain.l0, if_pos (by omega), if_pos (by omega), hb, bad_f c h, Option.bind_some, if_neg (by simp)]
  have hw : wrap64 (0 + 1) = 1 := by unfold wrap64; omega
  rw [hw, transhumanceref1_Plain.l0, if_neg (by omega)]
theorem plain7_go (s : ByteArray) (hs : s.size ≤ 1000000) (hp : plainS s.data.toList = true) (h0 : ∀ h : 0 < s.size, s[0]'h ≠ 35) (d : Nat) : ∀ i, i ≤ s.size → s.size - i = d →
    Ev (fun k => transhumanceref7_plain.l0 k s (i : Int)) (fun r => r = okR (if h : 0 < i ∧ i - 1 < s.size then s[i - 1]'h.2 else 0) (s.data.toList.drop i)) := by
  induction d with
  | zero =>
    intro i hi hd
    obtain rfl : i = s.size := by omega
    refine Ev.of (r := true) ?_ 1 (fun k hk => ?_)
    · rw [List.drop_eq_nil_of_le (by rw [← size_list]; exact Nat.le_refl _)]
      rfl
    · obtain ⟨k, rfl⟩ : ∃ m, k = m + 1 := ⟨k - 1, by omega⟩
      rw [transhumanceref7_plain.l0, if_neg (by omega)]
  | succ d ih =>
    intro i hi hd
    have hlt : i < s.size := by omega
    have h1 : i < s.data.toList.length := by rw [← size_list]; exact hlt
    have hdr : s.data.toList.drop i = (s[i]'hlt) :: s.data.toList.drop (i + 1) := by rw [List.drop_eq_getElem_cons h1]; rfl
    have hw : wrap64 ((i : Int) + 1) = ((i + 1 : Nat) : Int) := by unfold wrap64; omega
    have e35 : bt s (i : Int) = 35 ↔ s[i]'hlt = 35 := bt_u8 s i hlt 35 (by decide)
    have e10 : bt s (i : Int) = 10 ↔ s[i]'hlt = 10 := bt_u8 s i hlt 10 (by decide)
    have hpc : plainB (s[i]'hlt) = true := by
      have h2 := List.all_eq_true.1 (show s.data.toList.all plainB = true from hp) (s.data.toList[i]'h1) (List.getElem_mem h1)
      exact h2
    rw [hdr, okR]
    by_cases c10 : bt s (i : Int) = 10
    · rw [if_pos (e10.1 c10)]
      refine Ev.of (r := false) rfl 1 (fun k hk => ?_)
      obtain ⟨k, rfl⟩ : ∃ m, k = m + 1 := ⟨k - 1, by omega⟩
      rw [transhumanceref7_plain.l0, if_pos (by omega), if_pos (by omega), if_pos c10]
    rw [if_neg (fun h => c10 (e10.2 h))]
    have hex := extract_at s i hlt
    have nxt := ih (i + 1) (by omega) (by omega)
    rw [dif_pos (show 0 < i + 1 ∧ i + 1 - 1 < s.size from ⟨by omega, by omega⟩)] at nxt
    simp only [Nat.add_sub_cancel] at nxt
    have pl : Ev (fun k => transhumanceref1_Plain.f k (s.extract i (i + 1))) (fun r => r = true) := Ev.of rfl 2 (fun k hk => by
      obtain ⟨k, rfl⟩ : ∃ m, k = m + 2 := ⟨k - 2, by omega⟩
      exact plain1_one _ _ hex hpc k)
    refine Ev.succ (g := fun k => (transhumanceref1_Plain.f k (s.extract i (i + 1))).bind fun t192 => (if t192 = true then (if (bt s (i : Int)) = 35 then (if 0 ≤ (wrap64 ((i : Int) - 1)) then (if (wrap64 ((i : Int) - 1)) < (s.size : Int) then (if (bt s (wrap64 ((i : Int) - 1))) = 32 then (some false) else (transhumanceref7_plain.l0 k s ((i + 1 : Nat) : Int))) else (none)) else (none)) else (transhumanceref7_plain.l0 k s ((i + 1 : Nat) : Int))) else (some false))) (Ev.bind pl (fun r hr => ?_)) (fun k => ?_)
    · subst hr
      simp only [if_true]
      by_cases c35 : bt s (i : Int) = 35
      · have hi0 : 0 < i := by
          rcases Nat.eq_zero_or_pos i with h | h
          · subst h; exact absurd (e35.1 c35) (h0 hlt)
          · exact h
        have hw1 : wrap64 ((i : Int) - 1) = ((i - 1 : Nat) : Int) := by unfold wrap64; omega
        have hl1 : i - 1 < s.size := by omega
        have e32 : bt s ((i - 1 : Nat) : Int) = 32 ↔ s[i - 1]'hl1 = 32 := bt_u8 s (i - 1) hl1 32 (by decide)
        simp only [if_pos c35, hw1]
        rw [dif_pos ⟨hi0, hl1⟩]
        by_cases c32 : bt s ((i - 1 : Nat) : Int) = 32
        · rw [if_pos ⟨e35.1 c35, e32.1 c32⟩]
          refine (Ev.pure (r := false) (P := fun r => r = false) rfl).eq (fun k => ?_)
          rw [if_pos (by omega), if_pos (by omega), if_pos c32]
        · rw [if_neg (fun h => c32 (e32.2 h.2))]
          refine nxt.eq (fun k => ?_)
          rw [if_pos (by omega), if_pos (by omega), if_neg c32]
      · rw [if_neg (fun h => c35 (e35.2 h.1))]
        simp only [if_neg c35]
        exact nxt
    · rw [transhumanceref7_plain.l0, if_pos (by omega), if_pos (by omega), if_neg c10, hw, if_pos (by omega), if_pos (by omega)]
      simp only [Int.toNat_natCast]
theorem plain7_ev (s : ByteArray) (hs : s.size ≤ 1000000) (hp : plainS s.data.toList = true) : Ev (fun k => transhumanceref7_plain.f k s) (fun r => r = may s.data.toList) := by
  have fls : ∀ k, 1 ≤ k → transhumanceref7_plain.j0 k s true = some false := fun k hk => by
    obtain ⟨k, rfl⟩ : ∃ m, k = m + 1 := ⟨k - 1, by omega⟩
    rw [transhumanceref7_plain.j0, if_pos rfl]
  by_cases hz : s.size = 0
  · have he : s.data.toList = [] := List.eq_nil_of_length_eq_zero (by rw [← size_list]; exact hz)
    refine Ev.of (r := false) (by rw [he]; rfl) 1 (fun k hk => ?_)
    unfold transhumanceref7_plain.f
    rw [if_pos (by rw [ByteArray.toList_eq, he])]
    exact fls k hk
  · have h0 : 0 < s.size := by omega
    have hne : ¬ s.toList = [] := by
      rw [ByteArray.toList_eq]
      intro e
      rw [size_list, e] at hz
      exact hz rfl
    have hcons : s.data.toList = (s[0]'h0) :: s.data.toList.drop 1 := by
      have h1 : 0 < s.data.toList.length := by rw [← size_list]; exact h0
      have := List.drop_eq_getElem_cons h1
      rw [List.drop_zero] at this
      exact this
    have e34 : bt s 0 = 34 ↔ s[0]'h0 = 34 := bt_u8 s 0 h0 34 (by decide)
    have e32 : bt s 0 = 32 ↔ s[0]'h0 = 32 := bt_u8 s 0 h0 32 (by decide)
    have e35 : bt s 0 = 35 ↔ s[0]'h0 = 35 := bt_u8 s 0 h0 35 (by decide)
    have mayF : ∀ c, (c = 34 ∨ c = 32 ∨ c = 35) → ∀ r, may (c :: r) = false := fun c hc r => by
      rcases hc with rfl | rfl | rfl <;> simp [S.may, Lib.indexByte]
    by_cases c34 : bt s 0 = 34
    · refine Ev.of (r := false) (by rw [hcons]; exact (mayF _ (.inl (e34.1 c34)) _).symm) 1 (fun k hk => ?_)
      unfold transhumanceref7_plain.f
      rw [if_neg hne, if_pos (by omega), if_pos c34]
      exact fls k hk
    by_cases c32 : bt s 0 = 32
    · refine Ev.of (r := false) (by rw [hcons]; exact (mayF _ (.inr (.inl (e32.1 c32))) _).symm) 1 (fun k hk => ?_)
      unfold transhumanceref7_plain.f
      rw [if_neg hne, if_pos (by omega), if_neg c34, if_pos c32]
      exact fls k hk
    by_cases c35 : bt s 0 = 35
    · refine Ev.of (r := false) (by rw [hcons]; exact (mayF _ (.inr (.inr (e35.1 c35))) _).symm) 1 (fun k hk => ?_)
      unfold transhumanceref7_plain.f
      rw [if_neg hne, if_pos (by omega), if_neg c34, if_neg c32, if_pos c35]
      exact fls k hk
    have hl1 : s.size - 1 < s.size := by omega
    have hw1 : wrap64 ((s.size : Int) - 1) = ((s.size - 1 : Nat) : Int) := by unfold wrap64; omega
    have eL : bt s ((s.size - 1 : Nat) : Int) = 32 ↔ s[s.size - 1]'hl1 = 32 := bt_u8 s _ hl1 32 (by decide)
    have hlast : s.data.toList.getLastD 0 = s[s.size - 1]'hl1 := G.last_at s hl1
    by_cases cL : bt s ((s.size - 1 : Nat) : Int) = 32
    · refine Ev.of (r := false) ?_ 1 (fun k hk => ?_)
      · have : (s.data.toList.getLastD 0 == 32) = true := by rw [hlast, eL.1 cL]; rfl
        unfold S.may
        rw [this]
        simp
      · unfold transhumanceref7_plain.f
        rw [if_neg hne, if_pos (by omega), if_neg c34, if_neg c32, if_neg c35, hw1, if_pos (by omega), if_pos (by omega), beq_iff_eq.2 cL]
        exact fls k hk
    · have hm : may s.data.toList = okR 0 s.data.toList := by
        rw [hcons]
        exact may_okR _ _ (fun h => c34 (e34.2 h)) (fun h => c32 (e32.2 h)) (fun h => c35 (e35.2 h)) (by rw [← hcons, hlast]; exact fun h => cL (eL.2 h))
      have g := plain7_go s hs hp (fun h h2 => c35 (e35.2 h2)) s.size 0 (Nat.zero_le _) (by omega)
      rw [dif_neg (by omega), List.drop_zero, ← hm] at g
      refine Ev.eq (g := fun k => transhumanceref7_plain.j0 k s false) (Ev.succ g (fun k => by rw [transhumanceref7_plain.j0, if_neg (by simp)]; rfl)) (fun k => ?_)
      unfold transhumanceref7_plain.f
      rw [if_neg hne, if_pos (by omega), if_neg c34, if_neg c32, if_neg c35, hw1, if_pos (by omega), if_pos (by omega), beq_eq_false_iff_ne.2 cL]
end Go.Proofs.YtpcmkjimdhlhiaaGreatDoor.Pure
