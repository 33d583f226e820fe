import Derived.Test.YtpcmkjimdhlhiaaDoorPx8
import Derived.Test.YtpcmkjimdhlhiaaDoorPuBase
import Derived.Test.YtpcmkjimdhlhiaaDoorPuPlace
import Derived.Test.YtpcmkjimdhlhiaaDoorS6
set_option linter.unusedVariables false
set_option linter.unusedSimpArgs false
namespace Go.Proofs.YtpcmkjimdhlhiaaDoor.Pure
open Go.RowKit Go.Proofs.YtpcmkjimdhlhiaaDoor.P Go.Proofs.YtpcmkjimdhlhiaaDoorW.PrintWords
open G (placeL placeC)
open S (Bs Lk Run fieldLine lined)
def digs (i : Nat) : Bs := if i < 10 then [(48 + i).toUInt8] else [(48 + i / 10).toUInt8, (48 + i % 10).toUInt8]
def mlk (i : Nat) : Lk := ⟨109 :: digs i, [], [49], [], []⟩
def mtext : Nat → ByteArray
  | 0 => ⟨#[108, 111, 99, 107, 115, 58, 10]⟩
  | i + 1 => ((mtext i ++ (⟨#[45, 32, 114, 111, 111, 116, 58, 32, 109]⟩ : ByteArray)) ++ (⟨(digs i).toArray⟩ : ByteArray)) ++ (⟨#[10, 32, 32, 114, 101, 118, 105, 115, 105, 111, 110, 58, 32, 49, 10]⟩ : ByteArray)
theorem digs_len (i : Nat) : (digs i).length ≤ 2 := by unfold digs; split <;> simp
theorem mtext_size (i : Nat) : (mtext i).size ≤ 7 + 26 * i := by
  induction i with
  | zero => exact Nat.le_refl _
  | succ i ih =>
    have h := digs_len i
    have e : (mtext (i + 1)).size = (mtext i).size + 9 + (digs i).length + 15 := by
      simp only [mtext, ByteArray.size_append]
      rfl
    omega
theorem digits_two : ∀ i : Fin 45, transhumanceref1_Digits.f 2 ((i.val : Nat) : Int) = some ⟨(digs i.val).toArray⟩ := by decide +kernel
theorem digits_at (i k : Nat) (h : i < 45) (hk : 2 ≤ k) : transhumanceref1_Digits.f k (i : Int) = some ⟨(digs i).toArray⟩ :=
  at_rounds (g := fun k => transhumanceref1_Digits.f k (i : Int)) (transhumanceref1_Digits.mono (i : Int)) hk (digits_two ⟨i, h⟩)
def mat (p i : Nat) : Nat := if 40 < i then p else 0
theorem mat_succ (p i : Nat) : mat p (i + 1) = if i = 40 then p else mat p i := by
  unfold mat
  by_cases h : i = 40
  · subst h; rfl
  · rw [if_neg h]
    by_cases h2 : 40 < i
    · rw [if_pos (by omega), if_pos h2]
    · rw [if_neg (by omega), if_neg h2]
theorem many_step (p n i k : Nat) (hp : ∀ j, j = 40 → (mtext j).size = p) (hi : i < n) (hn : n ≤ 45) (hk : 2 ≤ k) : transhumancelaw7_DentMany.l0 (k + 1) (n : Int) (mtext i) (mat p i : Int) (i : Int) = transhumancelaw7_DentMany.l0 k (n : Int) (mtext (i + 1)) (mat p (i + 1) : Int) ((i + 1 : Nat) : Int) := by
  have hs := mtext_size i
  have hd : (⟨(digs i).toArray⟩ : ByteArray).size ≤ 2 := digs_len i
  have hw : wrap64 ((i : Int) + 1) = ((i + 1 : Nat) : Int) := by unfold wrap64; omega
  rw [transhumancelaw7_DentMany.l0, if_pos (by omega), mat_succ]
  by_cases h40 : i = 40
  · rw [if_pos (by omega), if_pos h40, if_pos (by omega), digits_at i k (by omega) hk]
    simp only [Option.bind_some]
    rw [if_pos (by omega), if_pos (by omega), hw, hp i h40]
    rfl
  · rw [if_neg (by omega), if_neg h40, if_pos (by omega), digits_at i k (by omega) hk]
    simp only [Option.bind_some]
    rw [if_pos (by omega), if_pos (by omega), hw]
    rfl
theorem many_loop (p n : Nat) (hp : ∀ j, j = 40 → (mtext j).size = p) (hn : n ≤ 45) (d : Nat) : ∀ (i k : Nat), i ≤ n → n - i = d → 3 + d ≤ k → transhumancelaw7_DentMany.l0 k (n : Int) (mtext i) (mat p i : Int) (i : Int) = transhumancelaw7_DentMany.l0 (k - d) (n : Int) (mtext n) (mat p n : Int) (n : Int) := by
  induction d with
  | zero =>
    intro i k hi hd hk
    obtain rfl : i = n := by omega
    rfl
  | succ d ih =>
    intro i k hi hd hk
    obtain ⟨k, rfl⟩ : ∃ m, k = m + 1 := ⟨k - 1, by omega⟩
    rw [many_step p n i k hp (by omega) hn (by omega), ih (i + 1) k (by omega) (by omega) (by omega)]
    congr 1
    omega
def mlines (n : Nat) : List Bs := S.locksWord :: (List.range n).flatMap fun i => [fieldLine true 0 (109 :: digs i), fieldLine false 2 [49]]
theorem mlines_succ (n : Nat) : mlines (n + 1) = mlines n ++ [fieldLine true 0 (109 :: digs n), fieldLine false 2 [49]] := by
  simp [mlines, List.range_succ, List.flatMap_append]
theorem mtext_list (n : Nat) : (mtext n).data.toList = lined (mlines n) := by
  induction n with
  | zero => rfl
  | succ n ih =>
    rw [mlines_succ, S.lined_app, ← ih]
    simp only [mtext, ByteArray.data_append, Array.toList_append]
    rw [List.append_assoc, List.append_assoc]
    congr 1
    have : lined [fieldLine true 0 (109 :: digs n), fieldLine false 2 [49]] = [45, 32, 114, 111, 111, 116, 58, 32, 109] ++ (digs n ++ [10, 32, 32, 114, 101, 118, 105, 115, 105, 111, 110, 58, 32, 49, 10]) := by
      simp [lined, fieldLine, S.keyB, S.keys]
    rw [this]
theorem m_ok : ∀ i : Fin 45, S.may (109 :: digs i.val) = true ∧ S.right (109 :: digs i.val) = true := by decide +kernel
theorem digs_inj : ∀ i j : Fin 45, digs i.val = digs j.val → i = j := by decide +kernel
theorem m_check (n : Nat) (hn : n ≤ 45) : S.check ((List.range n).map mlk) = 0 := by
  cases n with
  | zero => rfl
  | succ n =>
    rw [List.range_succ, List.map_append]
    unfold S.check
    simp only [List.map_cons, List.map_nil, List.reverse_append, List.reverse_cons, List.reverse_nil, List.nil_append, List.singleton_append]
    rw [if_neg (by simp [mlk]), if_neg]
    rw [Bool.not_eq_true, List.any_eq_false]
    intro y hy
    rw [List.mem_reverse, List.mem_map] at hy
    obtain ⟨i, hi, rfl⟩ := hy
    rw [List.mem_range] at hi
    intro he
    have h1 : digs i = digs n := by simpa [mlk] using he
    have h2 := digs_inj ⟨i, by omega⟩ ⟨n, by omega⟩ h1
    have h3 : i = n := congrArg Fin.val h2
    omega
theorem run_many (n : Nat) (hn : n ≤ 40) : ∃ has, Run ((mlines n).map (· ++ [10])) [] [] false ((List.range n).map mlk) has true := by
  induction n with
  | zero => exact ⟨_, Run.begins (S.chomp_end _)⟩
  | succ n ih =>
    obtain ⟨has, h⟩ := ih (by omega)
    obtain ⟨h1, h2⟩ := m_ok ⟨n, by omega⟩
    have r := Run.lock [fieldLine true 0 (109 :: digs n) ++ [10], fieldLine false 2 [49] ++ [10]] [(0, 109 :: digs n, 109 :: digs n), (2, [49], [49])] ((List.range n).map mlk) has
      (by simp [S.chomp_end, S.fieldLines]) (by
        intro f hf
        simp only [List.mem_cons, List.mem_nil_iff, or_false] at hf
        rcases hf with rfl | rfl
        · exact ⟨by show (0 : Nat) < 5; omega, S.value_may h1, fun _ => h2⟩
        · exact ⟨by decide, S.value_may (by decide), fun h => by rcases h with h | h <;> exact absurd h (by decide)⟩) (by simp) (by simp) (m_check n (by omega)) (by simp; omega)
    refine ⟨[0, 2], ?_⟩
    rw [mlines_succ, List.map_append, List.range_succ, List.map_append]
    exact h.app r
theorem line_plain : ∀ i : Fin 45, S.plainS (fieldLine true 0 (109 :: digs i.val)) = true ∧ (fieldLine true 0 (109 :: digs i.val)).all (fun c => c != 10) = true := by decide +kernel
theorem lined_plain (L : List Bs) (h : ∀ l ∈ L, S.plainS l = true) : S.plainS (lined L) = true := by
  induction L with
  | nil => rfl
  | cons l L ih =>
    have e : lined (l :: L) = l ++ ([10] ++ lined L) := by simp [lined]
    rw [e]
    have h1 := h l (by simp)
    have h2 := ih (fun x hx => h x (by simp [hx]))
    simp only [S.plainS, List.all_append, Bool.and_eq_true] at h1 h2 ⊢
    exact ⟨h1, by decide, h2⟩
theorem m_line (n : Nat) (hn : n ≤ 45) : ∀ l ∈ mlines n, S.plainS l = true ∧ l.all (fun c => c != 10) = true := by
  intro l hl
  simp only [mlines, List.mem_cons, List.mem_flatMap, List.mem_range, List.mem_nil_iff, or_false] at hl
  rcases hl with rfl | ⟨i, hi, rfl | rfl⟩
  · decide
  · exact line_plain ⟨i, by omega⟩
  · decide
theorem m_plain (n : Nat) (hn : n ≤ 45) : S.plainS (lined (mlines n)) = true := lined_plain _ (fun l hl => (m_line n hn l hl).1)
theorem m_ends' (n : Nat) (hn : n ≤ 45) : ∀ l ∈ mlines n, ∀ c ∈ l, c ≠ 10 := by
  intro l hl c hc
  have h2 := (m_line n hn l hl).2
  rw [List.all_eq_true] at h2
  have h3 := h2 c hc
  simpa using h3
theorem m_parts (n : Nat) (h : 41 ≤ n) : ∃ M, mlines n = mlines 40 ++ fieldLine true 0 (109 :: digs 40) :: M := by
  obtain ⟨j, rfl⟩ : ∃ j, n = 41 + j := ⟨n - 41, by omega⟩
  clear h
  induction j with
  | zero => exact ⟨[fieldLine false 2 [49]], mlines_succ 40⟩
  | succ j ih =>
    obtain ⟨M, hM⟩ := ih
    refine ⟨M ++ [fieldLine true 0 (109 :: digs (41 + j)), fieldLine false 2 [49]], ?_⟩
    show mlines (41 + j + 1) = _
    rw [mlines_succ, hM]
    simp
theorem many_few (n : Nat) (hn : n ≤ 40) : ∃ has, S.finish (mtext n).data.toList = ⟨0, 0, (List.range n).map mlk, has⟩ := by
  obtain ⟨has, h⟩ := run_many n hn
  have hr : Run ((mlines n).map (· ++ [10]) ++ [[]]) [] [] false ((List.range n).map mlk) has true := h.app (Run.skip (by decide) _ _ _)
  have := S.finish_run (mlines n) [] _ has true (m_ends' n (by omega)) (by simp) (by rw [List.append_nil]; exact m_plain n (by omega)) hr (m_check n (by omega))
  rw [List.append_nil, ← mtext_list] at this
  exact ⟨has, this⟩
theorem many_more (p n : Nat) (hp0 : ∀ j, j = 40 → (mtext j).size = p) (h1 : 41 ≤ n) (hn : n < 45) : (S.finish (mtext n).data.toList).ec = 2 ∧ (S.finish (mtext n).data.toList).wh = p := by
  obtain ⟨has, h⟩ := run_many 40 (Nat.le_refl _)
  obtain ⟨M, hp⟩ := m_parts n h1
  have hb := S.finish_bad (mlines 40) M (fieldLine true 0 (109 :: digs 40)) [] ((List.range 40).map mlk) has true 2 0 (by rw [← hp]; exact m_ends' n (by omega)) (by simp) (by rw [List.append_nil, ← hp]; exact m_plain n (by omega)) h (by decide)
    (fun x hx => S.step_full _ has 0 (by decide) (109 :: digs 40) (109 :: digs 40) (S.value_may (m_ok ⟨40, by decide⟩).1) (m_check 40 (by omega)) (by simp) x hx)
  rw [List.append_nil, ← hp, ← mtext_list, ← mtext_list] at hb
  exact ⟨hb.1, by rw [hb.2, Nat.add_zero, ← hp0 40 rfl]; simp⟩
theorem g_few (n : Nat) (hn : n ≤ 40) : dent_Locks.g (mtext n) = (((List.range n).map mlk).map lkOf, 0, 0, 0) := by
  have hs := mtext_size n
  obtain ⟨has, hf⟩ := many_few n hn
  unfold dent_Locks.g
  rw [if_neg (by omega), hf]
  unfold locksRes
  rw [if_pos rfl]
theorem g_more (p n : Nat) (hp : ∀ j, j = 40 → (mtext j).size = p) (h1 : 41 ≤ n) (hn : n < 45) : dent_Locks.g (mtext n) = ([], placeL (mtext n) p, placeC (mtext n) p, 2) := by
  have hs := mtext_size n
  obtain ⟨h3, h2⟩ := many_more p n hp h1 hn
  unfold dent_Locks.g
  rw [if_neg (by omega)]
  unfold locksRes
  rw [if_neg (by rw [h3]; decide), h2, h3]
  rfl
end Go.Proofs.YtpcmkjimdhlhiaaDoor.Pure
