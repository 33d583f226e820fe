import Derived.Lib.Bytes
import Derived.Lib.Bytealg
import Derived.Test.YtpcmkjimdhlhiaaGreatDoorProg
import Derived.WalkKit
import Derived.RegionTactic
import Derived.KernelRfl
import Derived.Below
import Derived.Deep.QuietTactic
import Derived.BigQuiet
import Derived.Test.YtpcmkjimdhlhiaaGreatDoorShE
import Derived.Deep.LoopGhost
import Derived.Lib.Hide
import Derived.Lib.IndexLaws
import Derived.ScopeJumps
import Derived.Lib.CutLaws
import Derived.Handy
import Derived.Test.YtpcmkjimdhlhiaaGreatDoorWE
import Derived.Deep.DeepCutAuto
import Derived.StillTailTactics
import Derived.IntWalk
set_option linter.unusedVariables false
set_option linter.unusedSimpArgs false
-- part S1
namespace Go.Proofs.YtpcmkjimdhlhiaaGreatDoor.S
/-! The document's words on lists of bytes: no program here. -/
abbrev Bs := List UInt8

/-- What a sign behind a backslash is turned to. -/
def unesc (y : UInt8) : Option UInt8 := if y = 34 then some 34 else if y = 92 then some 92 else if y = 110 then some 10 else if y = 116 then some 9 else if y = 47 then some 47 else none
/-- What a quoted text says, and where it ends; behind its first quote. -/
def unqGo : Bs → Bs → Nat → Option (Bs × Nat)
  | [], _, _ => none
  | x :: r, acc, p =>
    if x < 32 ∨ 126 < x then none
    else if x = 34 then some (acc, p + 1)
    else if x = 92 then
      match r with
      | [] => none
      | y :: r' => match unesc y with
        | none => none
        | some z => unqGo r' (acc ++ [z]) (p + 2)
    else unqGo r (acc ++ [x]) (p + 1)
def unquote : Bs → Option (Bs × Nat)
  | [] => none
  | x :: r => if x = 34 then unqGo r [] 1 else none
theorem quote_head {l : Bs} (h : Lib.hasPrefix l [34] = true) : ∃ r, l = 34 :: r := by
  cases l with
  | nil => exact absurd h (by decide)
  | cons a r =>
    have h2 : ((34 : UInt8) == a && List.isPrefixOf ([] : Bs) r) = true := h
    rw [Bool.and_eq_true] at h2
    exact ⟨r, by rw [eq_of_beq h2.1]⟩
theorem unquote_q {l : Bs} (h : Lib.hasPrefix l [34] = true) : unqGo (l.drop 1) [] 1 = unquote l := by
  obtain ⟨r, rfl⟩ := quote_head h
  rfl
theorem unquote_n {l : Bs} (h : Lib.hasPrefix l [34] = false) : unquote l = none := by
  cases l with
  | nil => rfl
  | cons a r =>
    have h2 : ((34 : UInt8) == a && List.isPrefixOf ([] : Bs) r) = false := h
    have h3 : ¬ a = 34 := by
      rintro rfl
      simp at h2
    simp only [unquote, if_neg h3]
/-- Words between the bytes c. -/
def splitOn (c : UInt8) : Bs → List Bs
  | [] => [[]]
  | x :: r => if x = c then [] :: splitOn c r else match splitOn c r with
    | [] => [[x]]
    | u :: us => (x :: u) :: us
def sgn (c : UInt8) : Bool := decide ((97 ≤ (c.toNat : Int) ∧ (c.toNat : Int) ≤ 122) ∨ (48 ≤ (c.toNat : Int) ∧ (c.toNat : Int) ≤ 57) ∨ (c.toNat : Int) = 46 ∨ (c.toNat : Int) = 45 ∨ (c.toNat : Int) = 95)
def signs (u : Bs) : Bool := u.all sgn
def wordOk (u : Bs) : Bool := !(u == []) && !(u == [46]) && !(u == [46, 46]) && signs u
def rightW (l : Bs) : Bool := (splitOn 47 l).all wordOk
def right (l : Bs) : Bool := decide (1 ≤ l.length) && decide (l.length ≤ 40) && rightW l
theorem splitOn_ne (c : UInt8) (l : Bs) : splitOn c l ≠ [] := by
  cases l with
  | nil => simp [splitOn]
  | cons x r =>
    rw [splitOn]
    split
    · simp
    · split <;> simp
theorem splitOn_none {c : UInt8} : ∀ {l : Bs}, Lib.indexByte l c = -1 → splitOn c l = [l]
  | [], _ => rfl
  | x :: r, h => by
    have hx : ¬ x = c := by
      rintro rfl
      simp [Lib.indexByte] at h
    have hr : Lib.indexByte r c = -1 := by
      rw [Lib.indexByte] at h
      have hb : (x == c) = false := by simpa using hx
      have := Lib.indexByte_ge r c
      rw [hb] at h
      simp only [Bool.false_eq_true, if_false] at h
      split at h
      · rename_i h1; exact eq_of_beq h1
      · omega
    rw [splitOn, if_neg hx, splitOn_none hr]
theorem splitOn_some {c : UInt8} : ∀ {l : Bs} {k : Nat}, Lib.indexByte l c = (k : Int) → splitOn c l = l.take k :: splitOn c (l.drop (k + 1))
  | [], k, h => by simp [Lib.indexByte] at h
  | x :: r, k, h => by
    rw [Lib.indexByte] at h
    by_cases hx : x = c
    · subst hx
      simp at h
      have hk : k = 0 := by omega
      subst hk
      simp [splitOn]
    · have hb : (x == c) = false := by simpa using hx
      rw [hb] at h
      simp only [Bool.false_eq_true, if_false] at h
      have hge := Lib.indexByte_ge r c
      split at h
      · omega
      · rename_i h1
        obtain ⟨j, rfl⟩ : ∃ j, k = j + 1 := ⟨k - 1, by
          have h2 : ¬ Lib.indexByte r c = -1 := by simpa using h1
          omega⟩
        have hj : Lib.indexByte r c = (j : Int) := by omega
        rw [splitOn, if_neg hx, splitOn_some hj]
        simp
end Go.Proofs.YtpcmkjimdhlhiaaGreatDoor.S
-- part G1
namespace Go.Proofs.YtpcmkjimdhlhiaaGreatDoor.G
open Go.RowKit

theorem hp_drew (w : World) : w.drew.heap = w.heap := rfl
theorem hp_new (w : World) (o : Obj) : (w.alloc o).heap[w.heap.size]? = some o := by unfold World.alloc; simp
theorem hp_new1 (w : World) (o o' : Obj) : ((w.alloc o).alloc o').heap[w.heap.size + 1]? = some o' := by have := hp_new (w.alloc o) o'; simpa using this
theorem hp_old {w : World} {o ob : Obj} {i : Nat} (h : w.heap[i]? = some ob) : (w.alloc o).heap[i]? = some ob := by
  have hi : i < w.heap.size := (Array.getElem?_eq_some_iff.1 h).1
  rw [← h]
  unfold World.alloc
  simp [Array.getElem?_push, Nat.ne_of_lt hi]

theorem cell_of_blk {w : World} {b : Nat} {cs : Array Value} {t : TypeId} {fr : Nat × Nat} (h : w.heap[b]? = some (.cells cs t fr)) (j : Nat) : w.cell? ⟨b, j, none⟩ = cs[j]? := by
  simp [World.cell?, h]
/-- dent: (*fault).wrong: the first error stays. -/
theorem dent_wrong_first (g : Nat) (at_ ec a0 : Int) (w : World) (h0 : w.cell? ⟨g, 0, none⟩ = some (.int .i64 a0)) (h1 : w.cell? ⟨g, 1, none⟩ = some (.int .i64 0)) (f0 : w.frozen? ⟨g, 0, none⟩ = false) (f1 : w.frozen? ⟨g, 1, none⟩ = false) :
    Calls Tryz.prog 29 #[.pointer (some ⟨g, 0, none⟩), .int .i64 at_, .int .i64 ec] w fun e w' => e = .returned (.tuple #[]) ∧ (w.setCell ⟨g, 0, none⟩ (.int .i64 at_)).setCell ⟨g, 1, none⟩ (.int .i64 ec) = w' := by
  go_enter Tryz.func29, Tryz.ntmps29
  go_wp2
  go_end0
  exact ⟨rfl, rfl⟩
theorem dent_wrong_later (g : Nat) (at_ ec e0 : Int) (w : World) (h1 : w.cell? ⟨g, 1, none⟩ = some (.int .i64 e0)) (hne : (e0 == 0) = false) :
    Calls Tryz.prog 29 #[.pointer (some ⟨g, 0, none⟩), .int .i64 at_, .int .i64 ec] w fun e w' => e = .returned (.tuple #[]) ∧ w = w' := by
  go_enter Tryz.func29, Tryz.ntmps29
  go_wp2
  go_end0
  exact ⟨rfl, rfl⟩
end Go.Proofs.YtpcmkjimdhlhiaaGreatDoor.G
-- part G3
namespace Go.Proofs.YtpcmkjimdhlhiaaGreatDoor.G
open Go.RowKit

/-- text.New: a cursor at 0. -/
theorem text_New (s : ByteArray) (w : World) :
    Calls Tryz.prog 115 #[.string s] w fun e w' => e = .returned (.pointer (some ⟨w.heap.size, 0, none⟩)) ∧ (w.alloc (.cells #[.string s, .int .i64 0] 150)) = w' := by
  go_enter Tryz.func115, Tryz.ntmps115
  go_wp2
  go_ret
  exact ⟨rfl, rfl⟩
theorem text_At (c : Nat) (p : Int) (w : World) (h1 : w.cell? ⟨c, 1, none⟩ = some (.int .i64 p)) :
    Calls Tryz.prog 119 #[.pointer (some ⟨c, 0, none⟩)] w fun e w' => e = .returned (.int .i64 p) ∧ w = w' := by
  go_enter Tryz.func119, Tryz.ntmps119
  go_wp2
  go_ret
  exact ⟨rfl, rfl⟩
def Drew (w w' : World) : Prop := ∃ n, w.drewN n = w'
/-- front.Peek: at the end. -/
theorem text_Peek_end (c p : Nat) (s : ByteArray) (w : World) (h0 : w.cell? ⟨c, 0, none⟩ = some (.string s)) (h1 : w.cell? ⟨c, 1, none⟩ = some (.int .i64 p)) (hp : s.size ≤ p) :
    Calls Tryz.prog 117 #[.pointer (some ⟨c, 0, none⟩)] w fun e w' => e = .returned (.tuple #[.int .u8 0, .bool false]) ∧ Drew w w' := by
  go_enter Tryz.func117, Tryz.ntmps117
  go_wp2
  go_quiet (fail)
  go_wp2
  go_ret2
  exact ⟨rfl, _, rfl⟩
theorem text_Peek_byte (c p : Nat) (s : ByteArray) (w : World) (h0 : w.cell? ⟨c, 0, none⟩ = some (.string s)) (h1 : w.cell? ⟨c, 1, none⟩ = some (.int .i64 p)) (hp : p < s.size) :
    Calls Tryz.prog 117 #[.pointer (some ⟨c, 0, none⟩)] w fun e w' => e = .returned (.tuple #[.int .u8 (s[p]'hp).toNat, .bool true]) ∧ Drew w w' := by
  go_enter Tryz.func117, Tryz.ntmps117
  go_wp2
  go_quiet (fail)
  go_wp2
  go_quiet (fail)
  go_wp2
  go_ret2
  exact ⟨rfl, _, (World.drewN_drewN ..).symm⟩
end Go.Proofs.YtpcmkjimdhlhiaaGreatDoor.G
-- part G4
namespace Go.Proofs.YtpcmkjimdhlhiaaGreatDoor.G
open Go.RowKit

/-- Cursor.Take: the text is not next. -/
theorem text_Take_not (c p : Nat) (s t : ByteArray) (w : World) (h0 : w.cell? ⟨c, 0, none⟩ = some (.string s)) (h1 : w.cell? ⟨c, 1, none⟩ = some (.int .i64 p)) (hp : p ≤ s.size) (hs : s.size ≤ 9223372036854775807)
    (hn : Lib.hasPrefix (List.take (s.size - p) (List.drop p s.data.toList)) t.data.toList = false) :
    Calls Tryz.prog 116 #[.pointer (some ⟨c, 0, none⟩), .string t] w fun e w' => e = .returned (.bool false) ∧ Drew w w' := by
  go_enter Tryz.func116, Tryz.ntmps116
  go_wp2
  go_quiet (first | (go_at_call 119; exact Calls.quiet_of_same ((text_At c p _ (by simpa using h1)).mono (fun e w' h => ⟨h.1, h.2.symm⟩))) | (go_at_call 122; exact Calls.quiet_of_same (Tryz.strings_HasPrefix _ _ _)))
  go_wp2
  go_ret
  exact ⟨rfl, _, rfl⟩
theorem text_Take_yes (c p q : Nat) (s t : ByteArray) (w : World) (h0 : w.cell? ⟨c, 0, none⟩ = some (.string s)) (h1 : w.cell? ⟨c, 1, none⟩ = some (.int .i64 p)) (f1 : w.frozen? ⟨c, 1, none⟩ = false) (hp : p ≤ s.size) (hs : s.size ≤ 9223372036854775807) (hpq : p + t.size = q) (hpt : q ≤ 9223372036854775807)
    (hn : Lib.hasPrefix (List.take (s.size - p) (List.drop p s.data.toList)) t.data.toList = true) :
    Calls Tryz.prog 116 #[.pointer (some ⟨c, 0, none⟩), .string t] w fun e w' => e = .returned (.bool true) ∧ ∃ n, (w.drewN n).setCell ⟨c, 1, none⟩ (.int .i64 (q : Nat)) = w' := by
  subst hpq
  go_enter Tryz.func116, Tryz.ntmps116
  go_wp2
  go_quiet (first | (go_at_call 119; exact Calls.quiet_of_same ((text_At c p _ (by simpa using h1)).mono (fun e w' h => ⟨h.1, h.2.symm⟩))) | (go_at_call 122; exact Calls.quiet_of_same (Tryz.strings_HasPrefix _ _ _)))
  go_wp2
  go_ret
  exact ⟨rfl, _, rfl⟩
end Go.Proofs.YtpcmkjimdhlhiaaGreatDoor.G
-- part G5
namespace Go.Proofs.YtpcmkjimdhlhiaaGreatDoor.G
open Go.RowKit

/-- The byte at p; 0 at the end. -/
def pk (s : ByteArray) (p : Nat) : Int := if h : p < s.size then ((s[p]'h).toNat : Int) else 0
def isAt (s : ByteArray) (p : Nat) : Bool := decide (p < s.size)
theorem pk_range (s : ByteArray) (p : Nat) : 0 ≤ pk s p ∧ pk s p ≤ 255 := by
  unfold pk
  split
  · rename_i h
    have := (s[p]'h).toNat_lt
    omega
  · omega
theorem text_Peek (c p : Nat) (s : ByteArray) (w : World) (h0 : w.cell? ⟨c, 0, none⟩ = some (.string s)) (h1 : w.cell? ⟨c, 1, none⟩ = some (.int .i64 p)) :
    Calls Tryz.prog 117 #[.pointer (some ⟨c, 0, none⟩)] w fun e w' => e = .returned (.tuple #[.int .u8 (pk s p), .bool (isAt s p)]) ∧ Drew w w' := by
  by_cases hp : p < s.size
  · refine (text_Peek_byte c p s w h0 h1 hp).mono ?_
    rintro e w' ⟨rfl, h⟩
    exact ⟨by simp [pk, isAt, hp], h⟩
  · refine (text_Peek_end c p s w h0 h1 (by omega)).mono ?_
    rintro e w' ⟨rfl, h⟩
    exact ⟨by simp [pk, isAt, hp], h⟩
theorem Drew.below {B : Nat} {w w' : World} (h : Drew w w') : Below B w w' := by
  obtain ⟨n, rfl⟩ := h
  exact ⟨rfl, rfl, rfl, Nat.le_refl _, fun _ _ => rfl⟩
theorem drop_at (s : ByteArray) (p : Nat) (hp : p < s.size) : s.data.toList.drop p = (s[p]'hp) :: s.data.toList.drop (p + 1) := by
  rw [List.drop_eq_getElem_cons (by simpa using hp)]
  rfl
theorem drop_end (s : ByteArray) (p : Nat) (hp : ¬ p < s.size) : s.data.toList.drop p = [] := List.drop_eq_nil_of_le (by simpa using (Nat.le_of_not_lt hp))
theorem pk_at (s : ByteArray) (p : Nat) (hp : p < s.size) : pk s p = ((s[p]'hp).toNat : Int) := by simp [pk, hp]
theorem u8_eq {x : UInt8} {n : Nat} (hn : n < 256) : (x.toNat : Int) = n ↔ x = n.toUInt8 := by
  constructor
  · intro h
    apply UInt8.toNat_inj.1
    simp
    omega
  · rintro rfl
    simp
    omega
theorem u8_back (x : UInt8) : ((x.toNat : Int)).toNat.toUInt8 = x := by
  apply UInt8.toNat_inj.1
  have := x.toNat_lt
  simp
theorem own_keep {w w1 : World} {base : Nat} {e : TypeId} {size n : Nat} {v : Value} {xs : List Value} (h : w.ownsRow base e size v n xs) (hm : ∀ k, base ≤ k → k < w.heap.size → w1.heap[k]? = w.heap[k]?) : w1.ownsRow base e size v n xs := by
  obtain ⟨h1, h2⟩ := h
  refine ⟨h1, ?_⟩
  rcases h2 with h2 | ⟨g, cap, cur, rfl, hg, hh, r⟩
  · exact .inl h2
  · exact .inr ⟨g, cap, cur, rfl, hg, (hm g hg (Array.getElem?_eq_some_iff.1 hh).1).trans hh, r⟩
theorem buf_keep {T e : TypeId} {B b : Nat} {bs : List Value} {w w1 : World} (h : Lib.IsBuffer T e B b bs w) (hm : ∀ k, B ≤ k → k < w.heap.size → w1.heap[k]? = w.heap[k]?) : Lib.IsBuffer T e B b bs w1 := by
  obtain ⟨hB, v, lr, hb, ho, hne⟩ := h
  exact ⟨hB, v, lr, (hm b hB (Array.getElem?_eq_some_iff.1 hb).1).trans hb, own_keep ho hm, hne⟩
theorem buf_set {T e : TypeId} {B b : Nat} {bs : List Value} {w : World} (h : Lib.IsBuffer T e B b bs w) (c o : Nat) (hc : c < B) (v : Value) (n : Nat) : Lib.IsBuffer T e B b bs ((w.setCell ⟨c, o, none⟩ v).drewN n) :=
  buf_keep h (fun k hk _ => Below.heap_setCell w ⟨c, o, none⟩ v k (by simp; omega))
theorem below_dN {B : Nat} {w W : World} (h : Below B w W) (n : Nat) : Below B w (W.drewN n) := ⟨h.os, h.tape, h.output, h.size, h.block⟩
theorem byteCells_one (l : List UInt8) : ∀ v ∈ Lib.byteCells l, v.oneCell' = true := by
  intro v hv
  simp only [Lib.byteCells, List.mem_map] at hv
  obtain ⟨b, _, rfl⟩ := hv
  rfl
theorem byteCells_snoc (l : List UInt8) (x : UInt8) : Lib.byteCells (l ++ [x]) = Lib.byteCells l ++ [Value.int .u8 x.toNat] := by simp [Lib.byteCells]
/-- Which way a round of Unquote goes. -/
theorem unq_cases (s : ByteArray) (p : Nat) (acc : S.Bs) (hp : p < s.size) :
    ((pk s p < 32 ∨ 126 < pk s p) ∧ S.unqGo (s.data.toList.drop p) acc p = none) ∨
    (pk s p = 34 ∧ S.unqGo (s.data.toList.drop p) acc p = some (acc, p + 1)) ∨
    (pk s p = 92 ∧ Lib.indexByte [34, 92, 110, 116, 47] (pk s (p + 1)).toNat.toUInt8 = -1 ∧ S.unqGo (s.data.toList.drop p) acc p = none) ∨
    (pk s p = 92 ∧ p + 1 < s.size ∧ ∃ (k : Nat) (z : UInt8), k < 5 ∧ ([34, 92, 10, 9, 47] : List UInt8)[k]? = some z ∧ Lib.indexByte [34, 92, 110, 116, 47] (pk s (p + 1)).toNat.toUInt8 = k ∧ S.unqGo (s.data.toList.drop p) acc p = S.unqGo (s.data.toList.drop (p + 2)) (acc ++ [z]) (p + 2)) ∨
    (32 ≤ pk s p ∧ pk s p ≤ 126 ∧ pk s p ≠ 34 ∧ pk s p ≠ 92 ∧ S.unqGo (s.data.toList.drop p) acc p = S.unqGo (s.data.toList.drop (p + 1)) (acc ++ [s[p]'hp]) (p + 1)) := by
  rw [drop_at s p hp, pk_at s p hp]
  generalize s[p]'hp = x
  have hx := x.toNat_lt
  by_cases h1 : x < 32 ∨ 126 < x
  · left
    refine ⟨?_, by rw [S.unqGo.eq_def]; simp only [if_pos h1]⟩
    rcases h1 with h1 | h1
    · left; have := UInt8.lt_iff_toNat_lt.1 h1; simp at this; omega
    · right; have := UInt8.lt_iff_toNat_lt.1 h1; simp at this; omega
  · right
    have hlo : 32 ≤ (x.toNat : Int) := by
      have := fun h => h1 (.inl (UInt8.lt_iff_toNat_lt.2 h))
      simp at this; omega
    have hhi : (x.toNat : Int) ≤ 126 := by
      have := fun h => h1 (.inr (UInt8.lt_iff_toNat_lt.2 h))
      simp at this; omega
    by_cases h2 : x = 34
    · left
      subst h2
      exact ⟨by decide, by rw [S.unqGo.eq_def]; simp only [if_neg h1, if_true]⟩
    · right
      by_cases h3 : x = 92
      · subst h3
        by_cases hq : p + 1 < s.size
        · rw [pk_at s (p + 1) hq, u8_back, drop_at s (p + 1) hq]
          generalize s[p + 1]'hq = y
          have key : (∃ (k : Nat) (z : UInt8), S.unesc y = some z ∧ k < 5 ∧ ([34, 92, 10, 9, 47] : List UInt8)[k]? = some z ∧ Lib.indexByte [34, 92, 110, 116, 47] y = k) ∨ (S.unesc y = none ∧ Lib.indexByte [34, 92, 110, 116, 47] y = -1) := by
            by_cases y1 : y = 34
            · subst y1; exact .inl ⟨0, 34, by decide, by decide, rfl, by decide⟩
            by_cases y2 : y = 92
            · subst y2; exact .inl ⟨1, 92, by decide, by decide, rfl, by decide⟩
            by_cases y3 : y = 110
            · subst y3; exact .inl ⟨2, 10, by decide, by decide, rfl, by decide⟩
            by_cases y4 : y = 116
            · subst y4; exact .inl ⟨3, 9, by decide, by decide, rfl, by decide⟩
            by_cases y5 : y = 47
            · subst y5; exact .inl ⟨4, 47, by decide, by decide, rfl, by decide⟩
            exact .inr ⟨by simp [S.unesc, y1, y2, y3, y4, y5], by simp [Lib.indexByte, Ne.symm y1, Ne.symm y2, Ne.symm y3, Ne.symm y4, Ne.symm y5]⟩
          rcases key with ⟨k, z, hz, hk, hr, hi⟩ | ⟨hz, hi⟩
          · right; left
            exact ⟨by decide, hq, k, z, hk, hr, hi, by rw [S.unqGo.eq_def]; simp only [if_neg h1, if_neg h2, if_true, hz]⟩
          · left
            exact ⟨by decide, hi, by rw [S.unqGo.eq_def]; simp only [if_neg h1, if_neg h2, if_true, hz]⟩
        · left
          refine ⟨by decide, ?_, ?_⟩
          · have : pk s (p + 1) = 0 := by simp [pk, hq]
            rw [this]; decide
          · rw [drop_end s (p + 1) hq, S.unqGo.eq_def]
            simp only [if_neg h1, if_neg h2, if_true]
      · right; right
        refine ⟨hlo, hhi, ?_, ?_, by rw [S.unqGo.eq_def]; simp only [if_neg h1, if_neg h2, if_neg h3]⟩
        · intro h; exact h2 ((u8_eq (n := 34) (by decide)).1 (by exact_mod_cast h))
        · intro h; exact h3 ((u8_eq (n := 92) (by decide)).1 (by exact_mod_cast h))
end Go.Proofs.YtpcmkjimdhlhiaaGreatDoor.G
-- part G6
namespace Go.Proofs.YtpcmkjimdhlhiaaGreatDoor.G
open Go.RowKit

def unqV (r : Option (S.Bs × Nat)) : Value := match r with
  | none => .tuple #[.string ⟨#[]⟩, .int .i64 0, .bool false]
  | some (o, n) => .tuple #[.string ⟨o.toArray⟩, .int .i64 (n : Nat), .bool true]
def UnqAt (w0 : World) (s : ByteArray) (g p : Nat) (acc : S.Bs) (wr : World) : Prop :=
  p ≤ s.size ∧ g = s.size - p ∧ acc.length ≤ p ∧ wr.cell? ⟨w0.heap.size, 0, none⟩ = some (.string s) ∧ wr.cell? ⟨w0.heap.size, 1, none⟩ = some (.int .i64 p) ∧ wr.frozen? ⟨w0.heap.size, 1, none⟩ = false ∧
  Lib.IsBuffer 144 5 (w0.heap.size + 1) (w0.heap.size + 1) (Lib.byteCells acc) wr ∧ w0.heap.size + 1 ≤ wr.heap.size ∧ Below w0.heap.size w0 wr ∧ S.unqGo (s.data.toList.drop p) acc p = S.unquote s.data.toList
set_option maxRecDepth 100000 in
set_option maxHeartbeats 4000000 in
theorem text_Unquote_q (s : ByteArray) (w : World) (hs : s.size ≤ 140737488351232) (hn : Lib.hasPrefix s.data.toList [34] = true) :
    Calls Tryz.prog 108 #[.string s] w fun e w' => e = .returned (unqV (S.unquote s.data.toList)) ∧ Below w.heap.size w w' := by
  have hq : Lib.hasPrefix (List.take (s.size - 0) (List.drop 0 s.data.toList)) (⟨#[34]⟩ : ByteArray).data.toList = true := by
    rw [List.drop_zero, List.take_of_length_le (by simp)]; exact hn
  have hsz : 1 ≤ s.size := by
    obtain ⟨r, hr⟩ := S.quote_head hn
    have : s.data.toList.length = s.size := by simp
    rw [hr] at this
    simp at this
    omega
  have hU : S.unqGo (s.data.toList.drop 1) [] 1 = S.unquote s.data.toList := S.unquote_q hn
  have HQ := Lib.hid hq; have HU := Lib.hid hU
  clear hq hU hn
  go_enter Tryz.func108, Tryz.ntmps108
  go_wp2_with fail
  refine (text_New s w).mono ?_
  rintro e w1 ⟨rfl, rfl⟩
  go_wp2_with fail
  refine (text_Take_yes w.heap.size 0 1 s ⟨#[34]⟩ _ (by simp) (by simp) (by simp) (by omega) (by omega) rfl (by omega) HQ.out).mono ?_
  rintro e w1 ⟨rfl, nq, rfl⟩
  go_wp2_with fail
  refine (text_Peek w.heap.size 1 s _ ?h0 ?h1).mono ?_
  case h0 => go_simp
  case h1 => go_simp
  rintro e w1 ⟨rfl, n2, rfl⟩
  go_wp2_with fail
  go_loopg [7, 8] (s.size - 1) (fun g x is wr => ∃ (p : Nat) (acc : S.Bs), UnqAt w s g p acc wr ∧ x = .int .u8 (pk s p) ∧ is = .bool (isAt s p))
  case atStart =>
    refine ⟨1, [], ⟨hsz, rfl, Nat.zero_le _, by go_simp, by go_simp, by go_simp, ?_, by simp, ?_, HU.out⟩, rfl, rfl⟩
    · exact ⟨Nat.le_refl _, .slice none 0 0, 0, by have h := heap_alloc_new (((w.alloc (.cells #[.string s, .int .i64 0] 150)).drewN nq).setCell ⟨w.heap.size, 1, none⟩ (.int .i64 1)) (.cells #[.slice none 0 0, .int .i64 0, .int .i8 0] 144); simpa using h, World.ownsRow_nil _ _ _ _, by simp [Value.ownBlock]⟩
    · exact below_dN (((below_dN ((Below.refl _ _).alloc (Nat.le_refl _) _) nq).setCell (p := ⟨w.heap.size, 1, none⟩) (Nat.le_refl _) _).alloc (by simp) _) _
  case round =>
    obtain ⟨p, acc, ⟨hp, hg, hal, c0, c1, f1, hbuf, hbw, hbel, hun⟩, rfl, rfl⟩ := hrel
    have Hg := Lib.hid hg; have Hun := Lib.hid hun
    clear hg hun
    have hr := pk_range s p
    by_cases hat : p < s.size
    · have hi : isAt s p = true := by simp [isAt, hat]
      rcases unq_cases s p acc hat with ⟨h, hu⟩ | ⟨h, hu⟩ | ⟨h, hx, hu⟩ | ⟨h, hq, k, z, hk, hz, hx, hu⟩ | ⟨h1, h2, h3, h4, hu⟩
      · -- a bad byte
        have HU : Hid (S.unquote s.data.toList = none) := by have := Hun.out; rw [hu] at this; exact this.symm
        clear hu
        rcases h with h | h
        · go_wp2
          go_ret3
          exact ⟨by rw [HU.out]; rfl, hbel⟩
        · have h' : 32 ≤ pk s p := by omega
          go_wp2
          go_ret3
          exact ⟨by rw [HU.out]; rfl, hbel⟩
      · -- the quote
        have HU : Hid (S.unquote s.data.toList = some (acc, p + 1)) := by have := Hun.out; rw [hu] at this; exact this.symm
        clear hu
        have HBUF : Hid (∀ n, Lib.IsBuffer 144 5 (w.heap.size + 1) (w.heap.size + 1) (Lib.byteCells acc) ((wr.setCell ⟨w.heap.size, 1, none⟩ (.int .i64 ((p : Int) + 1))).drewN n)) := fun n => buf_set hbuf _ _ (by omega) _ n
        go_wp2
        go_quiet (first | (go_at_call 118; exact Calls.quiet_of (Tryz.Buffer_String _ _ acc _ (HBUF.out _))) | (go_at_call 119; exact Calls.quiet_of_same ((text_At w.heap.size ((p : Int) + 1) _ (by go_simp)).mono (fun e w' h => ⟨h.1, h.2.symm⟩))))
        go_wp2
        go_ret3
        exact ⟨by rw [HU.out]; rfl, below_dN (hbel.setCell (p := ⟨w.heap.size, 1, none⟩) (Nat.le_refl _) _) _⟩
      · -- a backslash, nothing right behind it
        have HU : Hid (S.unquote s.data.toList = none) := by have := Hun.out; rw [hu] at this; exact this.symm
        clear hu
        go_wp2_with fail
        refine (text_Peek w.heap.size (p + 1) s _ ?k0 ?k1).mono ?_
        case k0 => go_simp
        case k1 => go_simp
        rintro e w3 ⟨rfl, n3, rfl⟩
        go_wp2_with fail
        refine (Tryz.strings_IndexByte _ _ _).mono ?_
        rintro e w4 ⟨rfl, rfl⟩
        go_wp2
        go_ret3
        exact ⟨by rw [HU.out]; rfl, below_dN (hbel.setCell (p := ⟨w.heap.size, 1, none⟩) (Nat.le_refl _) _) _⟩
      · -- a backslash and a sign
        have Hz := Lib.hid hz; have Hu := Lib.hid hu
        clear hz hu
        rcases k with _ | _ | _ | _ | _ | k
        all_goals first | (exfalso; omega) | skip
        all_goals
          go_wp2_with fail
          refine (text_Peek w.heap.size (p + 1) s _ ?k0 ?k1).mono ?_
          case k0 => go_simp
          case k1 => go_simp
          rintro e w3 ⟨rfl, n3, rfl⟩
          go_wp2_with fail
          refine (Tryz.strings_IndexByte _ _ _).mono ?_
          rintro e w4 ⟨rfl, rfl⟩
          go_wp2_with fail
          refine (Tryz.Buffer_WriteByte (w.heap.size + 1) (w.heap.size + 1) (Lib.byteCells acc) _ _ ?hb ?hw ?h1 ?hl).mono ?_
          case hb => exact buf_keep hbuf (fun k hk _ => (Below.heap_setCell _ ⟨w.heap.size, 1, none⟩ _ k (by simp; omega)).trans (Below.heap_setCell wr ⟨w.heap.size, 1, none⟩ _ k (by simp; omega)))
          case hw => simpa using hbw
          case h1 => exact byteCells_one _
          case hl => rw [Lib.byteCells_length]; omega
          rintro e w2 ⟨rfl, hb2, hl2⟩
          have q0 : w2.cell? ⟨w.heap.size, 0, none⟩ = some (.string s) := (hl2.cell (p := ⟨w.heap.size, 0, none⟩) (Nat.lt_succ_self _)).trans (by go_simp)
          have q1 : w2.cell? ⟨w.heap.size, 1, none⟩ = some (.int .i64 ((p + 2 : Nat) : Int)) := (hl2.cell (p := ⟨w.heap.size, 1, none⟩) (Nat.lt_succ_self _)).trans (by go_simp; omega)
          have qf : w2.frozen? ⟨w.heap.size, 1, none⟩ = false := (hl2.frozen (p := ⟨w.heap.size, 1, none⟩) (Nat.lt_succ_self _)).trans (by go_simp)
          go_wp2_with fail
          refine (text_Peek w.heap.size (p + 2) s _ q0 q1).mono ?_
          rintro e w3 ⟨rfl, n4, rfl⟩
          go_wp2
          go_roundg (s.size - (p + 2))
          case measure => have := Hg.out; omega
          case rel => exact ⟨p + 2, acc ++ [z], ⟨by omega, rfl, by simp; omega, q0, q1, qf, by have h5 := Option.some.inj Hz.out; rw [byteCells_snoc, ← h5]; exact buf_keep hb2 (fun _ _ _ => rfl), Nat.le_trans hbw (by simpa using hl2.size), below_dN ((below_dN (hbel.setCell (p := ⟨w.heap.size, 1, none⟩) (Nat.le_refl _) _) n3 |>.setCell (p := ⟨w.heap.size, 1, none⟩) (Nat.le_refl _) _).trans (hl2.mono (Nat.le_succ _))) _, by have := Hun.out; rw [Hu.out] at this; exact this⟩, rfl, rfl⟩
      · -- a byte that stands for itself
        have e1 : (pk s p == 34) = false := by simpa using h3
        have e2 : (pk s p == 92) = false := by simpa using h4
        clear h3 h4
        go_wp2_with (go_at_call 120; refine (Tryz.Buffer_WriteByte (w.heap.size + 1) (w.heap.size + 1) (Lib.byteCells acc) _ _ ?hb ?hw ?h1 ?hl).mono ?_)
        case hb => exact buf_set hbuf _ _ (by omega) _ 0
        case hw => simpa using hbw
        case h1 => exact byteCells_one _
        case hl => rw [Lib.byteCells_length]; omega
        rintro e w2 ⟨rfl, hb2, hl2⟩
        have q0 : w2.cell? ⟨w.heap.size, 0, none⟩ = some (.string s) := (hl2.cell (p := ⟨w.heap.size, 0, none⟩) (Nat.lt_succ_self _)).trans (by go_simp)
        have q1 : w2.cell? ⟨w.heap.size, 1, none⟩ = some (.int .i64 ((p + 1 : Nat) : Int)) := (hl2.cell (p := ⟨w.heap.size, 1, none⟩) (Nat.lt_succ_self _)).trans (by go_simp)
        have qf : w2.frozen? ⟨w.heap.size, 1, none⟩ = false := (hl2.frozen (p := ⟨w.heap.size, 1, none⟩) (Nat.lt_succ_self _)).trans (by go_simp)
        go_wp2_with (go_at_call 117; refine (text_Peek w.heap.size (p + 1) s _ ?k0 ?k1).mono ?_)
        case k0 => exact q0
        case k1 => exact q1
        rintro e w3 ⟨rfl, n3, rfl⟩
        go_wp2
        go_roundg (s.size - (p + 1))
        case measure => have := Hg.out; omega
        case rel => exact ⟨p + 1, acc ++ [s[p]], ⟨by omega, rfl, by simp; omega, q0, q1, qf, by rw [byteCells_snoc, ← pk_at s p hat]; exact buf_keep hb2 (fun _ _ _ => rfl), Nat.le_trans hbw (by simpa using hl2.size), below_dN ((hbel.setCell (p := ⟨w.heap.size, 1, none⟩) (Nat.le_refl _) _).trans (hl2.mono (Nat.le_succ _))) _, by have := Hun.out; rw [hu] at this; exact this⟩, rfl, rfl⟩
    · have hi : isAt s p = false := by simp [isAt, hat]
      have HU : Hid (S.unquote s.data.toList = none) := by have := Hun.out; rw [drop_end s p hat] at this; exact this.symm
      go_wp2
      go_ret3
      exact ⟨by rw [HU.out]; rfl, hbel⟩
end Go.Proofs.YtpcmkjimdhlhiaaGreatDoor.G
-- part G7
namespace Go.Proofs.YtpcmkjimdhlhiaaGreatDoor.G
open Go.RowKit

set_option maxRecDepth 100000 in
theorem text_Unquote_n (s : ByteArray) (w : World) (hs : s.size ≤ 140737488351232) (hn : Lib.hasPrefix s.data.toList [34] = false) :
    Calls Tryz.prog 108 #[.string s] w fun e w' => e = .returned (unqV (S.unquote s.data.toList)) ∧ Below w.heap.size w w' := by
  have hq : Lib.hasPrefix (List.take (s.size - 0) (List.drop 0 s.data.toList)) (⟨#[34]⟩ : ByteArray).data.toList = false := by
    rw [List.drop_zero, List.take_of_length_le (by simp)]; exact hn
  have hU := S.unquote_n hn
  have HQ := Lib.hid hq; have HU := Lib.hid hU
  clear hq hU hn
  go_enter Tryz.func108, Tryz.ntmps108
  go_wp2_with fail
  refine (text_New s w).mono ?_
  rintro e w1 ⟨rfl, rfl⟩
  go_wp2_with fail
  refine (text_Take_not w.heap.size 0 s ⟨#[34]⟩ _ (by simp) (by simp) (by omega) (by omega) HQ.out).mono ?_
  rintro e w1 ⟨rfl, nq, rfl⟩
  go_wp2
  go_ret3
  exact ⟨by rw [HU.out]; rfl, below_dN ((Below.refl _ _).alloc (Nat.le_refl _) _) nq⟩
/-- text.Unquote is the document's. -/
theorem text_Unquote (s : ByteArray) (w : World) (hs : s.size ≤ 140737488351232) :
    Calls Tryz.prog 108 #[.string s] w fun e w' => e = .returned (unqV (S.unquote s.data.toList)) ∧ Below w.heap.size w w' := by
  cases h : Lib.hasPrefix s.data.toList [34] with
  | true => exact text_Unquote_q s w hs h
  | false => exact text_Unquote_n s w hs h

/-- stringslite.Cut, strings.Cut at one byte. -/
theorem index_bound {s : ByteArray} {c : UInt8} {k : Nat} (h : Lib.indexByte s.data.toList c = (k : Int)) : k + 1 ≤ s.size := by
  have h1 := (Lib.indexByte_some h).1
  have h2 := (List.getElem?_eq_some_iff.1 h1).1
  have h3 : k < s.size := by simpa using h2
  omega
theorem slcut_yes (s : ByteArray) (c : UInt8) (k : Nat) (w : World) (hs : s.size ≤ 140737488351232) (hk : Lib.indexByte s.data.toList c = (k : Int)) :
    Calls Tryz.prog 107 #[.string s, .string ⟨#[c]⟩] w fun e w' => e = .returned (.tuple #[.string (s.extract 0 k), .string (s.extract (k + 1) s.size), .bool true]) ∧ Drew w w' := by
  have hb := index_bound hk
  go_enter Tryz.func107, Tryz.ntmps107
  go_wp2_with fail
  refine (Tryz.stringslite_Index_one s c w).mono ?_
  rintro e w1 ⟨rfl, rfl⟩
  go_wp2
  go_quiet (fail)
  go_wp2
  go_ret3
  exact ⟨rfl, _, rfl⟩
theorem slcut_no (s : ByteArray) (c : UInt8) (w : World) (hk : Lib.indexByte s.data.toList c = -1) :
    Calls Tryz.prog 107 #[.string s, .string ⟨#[c]⟩] w fun e w' => e = .returned (.tuple #[.string s, .string ⟨#[]⟩, .bool false]) ∧ Drew w w' := by
  go_enter Tryz.func107, Tryz.ntmps107
  go_wp2_with fail
  refine (Tryz.stringslite_Index_one s c w).mono ?_
  rintro e w1 ⟨rfl, rfl⟩
  go_wp2
  go_ret3
  exact ⟨rfl, 0, rfl⟩
theorem cut_yes (s : ByteArray) (c : UInt8) (k : Nat) (w : World) (hs : s.size ≤ 140737488351232) (hk : Lib.indexByte s.data.toList c = (k : Int)) :
    Calls Tryz.prog 92 #[.string s, .string ⟨#[c]⟩] w fun e w' => e = .returned (.tuple #[.string (s.extract 0 k), .string (s.extract (k + 1) s.size), .bool true]) ∧ Drew w w' := by
  have Hk := Lib.hid hk
  clear hk
  go_enter Tryz.func92, Tryz.ntmps92
  go_wp2_with fail
  refine (slcut_yes s c k w hs Hk.out).mono ?_
  rintro e w1 ⟨rfl, n, rfl⟩
  go_wp2
  go_ret3
  exact ⟨rfl, _, rfl⟩
theorem cut_no (s : ByteArray) (c : UInt8) (w : World) (hk : Lib.indexByte s.data.toList c = -1) :
    Calls Tryz.prog 92 #[.string s, .string ⟨#[c]⟩] w fun e w' => e = .returned (.tuple #[.string s, .string ⟨#[]⟩, .bool false]) ∧ Drew w w' := by
  have Hk := Lib.hid hk
  clear hk
  go_enter Tryz.func92, Tryz.ntmps92
  go_wp2_with fail
  refine (slcut_no s c w Hk.out).mono ?_
  rintro e w1 ⟨rfl, n, rfl⟩
  go_wp2
  go_ret3
  exact ⟨rfl, _, rfl⟩
end Go.Proofs.YtpcmkjimdhlhiaaGreatDoor.G
-- part G8
namespace Go.Proofs.YtpcmkjimdhlhiaaGreatDoor.G
open Go.RowKit

theorem take_snoc_b (s : ByteArray) (k : Nat) (h : k < s.size) : s.data.toList.take (k + 1) = s.data.toList.take k ++ [s[k]] := by
  rw [List.take_succ_eq_append_getElem (by simpa using h)]; rfl
theorem signs_snoc (l : S.Bs) (x : UInt8) : S.signs (l ++ [x]) = (S.signs l && S.sgn x) := by simp [S.signs]
theorem signs_false (s : ByteArray) (k : Nat) (h : k < s.size) (hf : S.sgn s[k] = false) : S.signs s.data.toList = false := by
  unfold S.signs
  rw [List.all_eq_false]
  exact ⟨s[k], by have := List.getElem_mem (l := s.data.toList) (n := k) (by simpa using h); exact this, by simp [hf]⟩
theorem signs_nil : S.signs [] = true := rfl
set_option maxRecDepth 100000 in
set_option maxHeartbeats 4000000 in
theorem path_signs (s : ByteArray) (w : World) (hs : s.size ≤ 9223372036854775807) :
    Calls Tryz.prog 94 #[.string s] w fun e w' => e = .returned (.bool (S.signs s.data.toList)) ∧ w = w' := by
  go_enter Tryz.func94, Tryz.ntmps94
  go_wp2
  go_loop [7] (fun i => ∃ k : Nat, k ≤ s.size ∧ i = .int .i64 k ∧ S.signs (s.data.toList.take k) = true) (fun i => s.size - (intOf i).toNat)
  case atStart => exact ⟨0, Nat.zero_le _, rfl, signs_nil⟩
  case round =>
    obtain ⟨k, hk, rfl, ha⟩ := hrel
    have Ha := Lib.hid ha
    clear ha
    by_cases hlt : k < s.size
    · have hx := (s[k]'hlt).toNat_lt
      have HS := Lib.hid (take_snoc_b s k hlt)
      have HA := Lib.hid (signs_snoc (s.data.toList.take k) (s[k]'hlt))
      by_cases hc : (97 ≤ ((s[k]'hlt).toNat : Int) ∧ ((s[k]'hlt).toNat : Int) ≤ 122) ∨ (48 ≤ ((s[k]'hlt).toNat : Int) ∧ ((s[k]'hlt).toNat : Int) ≤ 57) ∨ ((s[k]'hlt).toNat : Int) = 46 ∨ ((s[k]'hlt).toNat : Int) = 45 ∨ ((s[k]'hlt).toNat : Int) = 95
      · have HD : Hid (S.sgn (s[k]'hlt) = true) := Lib.hid (decide_eq_true hc)
        have HR : Hid (S.signs (s.data.toList.take (k + 1)) = true) := by rw [HS.out]; exact Lib.hid (by rw [HA.out, Ha.out, HD.out]; rfl)
        rcases hc with ⟨h1, h2⟩ | ⟨h1, h2⟩ | h1 | h1 | h1
        all_goals go_wp2
        all_goals first
          | (refine ⟨⟨k + 1, by omega, by go_num, HR.out⟩, ?_⟩; simp [intOf]; omega)
          | (go_round; (case rel => exact ⟨k + 1, by omega, by go_num, HR.out⟩); (case measure => simp [intOf]; omega))
      · have HD : Hid (S.signs s.data.toList = false) := Lib.hid (signs_false s k hlt (decide_eq_false hc))
        have n1 : (((s[k]'hlt).toNat : Int) == 46) = false := beq_eq_false_iff_ne.2 (fun h => hc (.inr (.inr (.inl h))))
        have n2 : (((s[k]'hlt).toNat : Int) == 45) = false := beq_eq_false_iff_ne.2 (fun h => hc (.inr (.inr (.inr (.inl h)))))
        have n3 : (((s[k]'hlt).toNat : Int) == 95) = false := beq_eq_false_iff_ne.2 (fun h => hc (.inr (.inr (.inr (.inr h)))))
        have m1 : ((s[k]'hlt).toNat : Int) < 97 ∨ 122 < ((s[k]'hlt).toNat : Int) := by omega
        have m2 : ((s[k]'hlt).toNat : Int) < 48 ∨ 57 < ((s[k]'hlt).toNat : Int) := by omega
        clear hc
        rcases m1 with m1 | m1 <;> rcases m2 with m2 | m2
        all_goals
          try (exfalso; omega)
        all_goals try have d1 : decide (((s[k]'hlt).toNat : Int) ≤ 122) = false := decide_eq_false (by omega)
        all_goals try have d2 : decide (((s[k]'hlt).toNat : Int) ≤ 57) = false := decide_eq_false (by omega)
        all_goals
          go_wp2
          go_ret
          exact ⟨by rw [HD.out]; rfl, rfl⟩
    · go_wp2
      go_ret
      have h1 : s.data.toList.take k = s.data.toList := List.take_of_length_le (by simp; omega)
      have h2 := Ha.out
      rw [h1] at h2
      exact ⟨by rw [h2]; rfl, rfl⟩
end Go.Proofs.YtpcmkjimdhlhiaaGreatDoor.G
-- part G9
namespace Go.Proofs.YtpcmkjimdhlhiaaGreatDoor.G
open Go.RowKit

def sizeOfStr : Value → Nat
  | .string s => s.size
  | _ => 0
theorem extract_data (s : ByteArray) (a b : Nat) : (s.extract a b).data.toList = (s.data.toList.drop a).take (b - a) := by
  simp [ByteArray.data_extract, List.extract_eq_take_drop]
/-- strings.Cut at a slash: what it parts, in the document's words. -/
theorem cut_slash (s : ByteArray) (w : World) (hs : s.size ≤ 140737488351232) :
    Calls Tryz.prog 92 #[.string s, .string ⟨#[47]⟩] w fun e w' => ∃ (u v : ByteArray) (m : Bool), e = .returned (.tuple #[.string u, .string v, .bool m]) ∧ Drew w w' ∧
      S.splitOn 47 s.data.toList = (if m then u.data.toList :: S.splitOn 47 v.data.toList else [u.data.toList]) ∧ (m = true → v.size < s.size) ∧ u.size ≤ s.size := by
  have hge := Lib.indexByte_ge s.data.toList 47
  by_cases h : Lib.indexByte s.data.toList 47 = -1
  · refine (cut_no s 47 w h).mono ?_
    rintro e w' ⟨rfl, hd⟩
    exact ⟨_, _, _, rfl, hd, by simpa using S.splitOn_none h, by simp, Nat.le_refl _⟩
  · obtain ⟨k, hk⟩ : ∃ k : Nat, Lib.indexByte s.data.toList 47 = (k : Int) := ⟨(Lib.indexByte s.data.toList 47).toNat, by omega⟩
    have hb := index_bound hk
    refine (cut_yes s 47 k w hs hk).mono ?_
    rintro e w' ⟨rfl, hd⟩
    refine ⟨_, _, _, rfl, hd, ?_, fun _ => ?_, ?_⟩
    · rw [S.splitOn_some hk]
      simp only [if_true, extract_data, List.drop_zero, Nat.sub_zero]
      rw [List.take_of_length_le (l := List.drop (k + 1) s.data.toList) (by simp)]
    · simp; omega
    · simp; omega
theorem wordOk_yes {u : ByteArray} (t1 : ¬ u.toList = []) (t2 : ¬ u.toList = [46]) (t3 : ¬ u.toList = [46, 46]) (h : S.signs u.data.toList = true) : S.wordOk u.data.toList = true := by
  rw [ByteArray.toList_eq] at t1 t2 t3
  generalize u.data.toList = l at *
  have e1 : (l == []) = false := beq_eq_false_iff_ne.2 t1
  have e2 : (l == [46]) = false := beq_eq_false_iff_ne.2 t2
  have e3 : (l == [46, 46]) = false := beq_eq_false_iff_ne.2 t3
  simp only [S.wordOk, e1, e2, e3, h]
  rfl
theorem wordOk_no1 {u : ByteArray} (t1 : u.toList = []) : S.wordOk u.data.toList = false := by rw [ByteArray.toList_eq] at t1; rw [t1]; rfl
theorem wordOk_no2 {u : ByteArray} (t1 : u.toList = [46]) : S.wordOk u.data.toList = false := by rw [ByteArray.toList_eq] at t1; rw [t1]; rfl
theorem wordOk_no3 {u : ByteArray} (t1 : u.toList = [46, 46]) : S.wordOk u.data.toList = false := by rw [ByteArray.toList_eq] at t1; rw [t1]; rfl
theorem wordOk_no4 {u : ByteArray} (h : S.signs u.data.toList = false) : S.wordOk u.data.toList = false := by simp only [S.wordOk, h, Bool.and_false]
theorem drew2 (w : World) (n m : Nat) : Drew w ((w.drewN n).drewN m) := ⟨n + m, (World.drewN_drewN ..).symm⟩
theorem rightW_more {s u v : ByteArray} (h : S.splitOn 47 s.data.toList = u.data.toList :: S.splitOn 47 v.data.toList) : S.rightW s.data.toList = (S.wordOk u.data.toList && S.rightW v.data.toList) := by
  simp [S.rightW, h]
theorem rightW_last {s u : ByteArray} (h : S.splitOn 47 s.data.toList = [u.data.toList]) : S.rightW s.data.toList = S.wordOk u.data.toList := by
  simp [S.rightW, h]
def RJ (w : World) (s : ByteArray) (a' : Act) (w' : World) : Prop := (∃ n, w.drewN n = w') ∧ ∃ (r : ByteArray) (u5 u6 u7 u8 u9 u10 u11 u12 u13 u14 u15 u16 u17 u18 u19 u20 u21 u22 u23 u24 u25 u26 u27 u28 u29 u30 u31 u32 u33 u34 u35 u36 : Value), a' = { tmps := #[.string s, undef, .bool false, .string r, .bool true, u5, u6, u7, u8, u9, u10, u11, u12, u13, u14, u15, u16, u17, u18, u19, u20, u21, u22, u23, u24, u25, u26, u27, u28, u29, u30, u31, u32, u33, u34, u35, u36], defers := [] } ∧ S.rightW r.data.toList = S.rightW s.data.toList ∧ r.size ≤ 40
set_option maxRecDepth 100000 in
set_option maxHeartbeats 4000000 in
theorem path_Right_go (s : ByteArray) (w : World) (hs : s.size ≤ 40) (h1 : 1 ≤ s.size) :
    Calls Tryz.prog 62 #[.string s] w fun e w' => e = .returned (.bool (S.rightW s.data.toList)) ∧ Drew w w' := by
  go_enter Tryz.func62, Tryz.ntmps62
  go_wp2
  refine wp_scope_jumps 0 (RJ w s) (fun a' _ => sizeOfStr (a'.tmps.getD 3 undef)) rfl ?_ ?_
  · go_wp2
    go_step3
    go_wp2_with fail
    refine (cut_slash s _ (by omega)).mono ?_
    rintro e w1 ⟨u, v, m, rfl, ⟨n1, rfl⟩, hsp, hlt, hu⟩
    have HSP := Lib.hid hsp
    have HLT := Lib.hid hlt
    clear hsp hlt
    have hW : m = true → S.rightW s.data.toList = (S.wordOk u.data.toList && S.rightW v.data.toList) := fun hm => by
      have h := HSP.out
      rw [hm] at h
      exact rightW_more (by simpa using h)
    have hL : m = false → S.rightW s.data.toList = S.wordOk u.data.toList := fun hm => by
      have h := HSP.out
      rw [hm] at h
      exact rightW_last (by simpa using h)
    have HW := Lib.hid hW
    have HL := Lib.hid hL
    clear hW hL
    have hF : S.wordOk u.data.toList = false → S.rightW s.data.toList = false := fun h => by
      cases hm : m with
      | true => rw [HW.out hm, h]; rfl
      | false => rw [HL.out hm, h]
    have HF := Lib.hid hF
    clear hF
    by_cases t1 : u.toList = []
    · have HR0 : Hid (S.rightW s.data.toList = false) := HF.out (wordOk_no1 t1)
      go_wp2
      try simp only [Exit.jump]
      try rw [Exit.noGoto_ret]
      go_ret
      exact ⟨by rw [HR0.out]; rfl, by first | exact ⟨_, rfl⟩ | exact drew2 _ _ _⟩
    by_cases t2 : u.toList = [46]
    · have HR0 : Hid (S.rightW s.data.toList = false) := HF.out (wordOk_no2 t2)
      go_wp2
      try simp only [Exit.jump]
      try rw [Exit.noGoto_ret]
      go_ret
      exact ⟨by rw [HR0.out]; rfl, by first | exact ⟨_, rfl⟩ | exact drew2 _ _ _⟩
    by_cases t3 : u.toList = [46, 46]
    · have HR0 : Hid (S.rightW s.data.toList = false) := HF.out (wordOk_no3 t3)
      go_wp2
      try simp only [Exit.jump]
      try rw [Exit.noGoto_ret]
      go_ret
      exact ⟨by rw [HR0.out]; rfl, by first | exact ⟨_, rfl⟩ | exact drew2 _ _ _⟩
    have z1 : u.toList.isEmpty = false := by cases hh : u.toList with | nil => exact absurd hh t1 | cons _ _ => rfl
    have z2 : (u.toList == [46]) = false := by simpa using t2
    have z3 : (u.toList == [46, 46]) = false := by simpa using t3
    cases hsg : S.signs u.data.toList with
    | false =>
      have HR0 : Hid (S.rightW s.data.toList = false) := HF.out (wordOk_no4 hsg)
      go_wp2_with fail
      refine (path_signs u _ (by omega)).mono ?_
      rintro e w2 ⟨rfl, rfl⟩
      go_wp2
      try simp only [Exit.jump]
      try rw [Exit.noGoto_ret]
      go_ret
      exact ⟨by rw [HR0.out]; rfl, by first | exact ⟨_, rfl⟩ | exact drew2 _ _ _⟩
    | true =>
      have HOK : Hid (S.wordOk u.data.toList = true) := Lib.hid (wordOk_yes t1 t2 t3 hsg)
      cases m with
      | false =>
        have HR0 : Hid (S.rightW s.data.toList = true) := Lib.hid ((HL.out rfl).trans HOK.out)
        go_wp2_with fail
        refine (path_signs u _ (by omega)).mono ?_
        rintro e w2 ⟨rfl, rfl⟩
        go_wp2
        try simp only [Exit.jump]
        try rw [Exit.noGoto_ret]
        go_ret
        exact ⟨by rw [HR0.out]; rfl, by first | exact ⟨_, rfl⟩ | exact drew2 _ _ _⟩
      | true =>
        go_wp2_with fail
        refine (path_signs u _ (by omega)).mono ?_
        rintro e w2 ⟨rfl, rfl⟩
        go_wp2
        go_step3
        exact ⟨rfl, ⟨(by first | exact ⟨_, rfl⟩ | exact drew2 _ _ _), v, _, _, _, _, _, _, _, _, _, _, _, _, _, _, _, _, _, _, _, _, _, _, _, _, _, _, _, _, _, _, _, _, rfl, by have h := HW.out (by first | rfl | trivial); rw [HOK.out] at h; simpa using h.symm, by have := HLT.out (by first | rfl | trivial); omega⟩⟩
  · rintro a' w' ⟨⟨n, rfl⟩, r, u5, u6, u7, u8, u9, u10, u11, u12, u13, u14, u15, u16, u17, u18, u19, u20, u21, u22, u23, u24, u25, u26, u27, u28, u29, u30, u31, u32, u33, u34, u35, u36, rfl, hr, hsz⟩
    have HR := Lib.hid hr
    clear hr
    go_wp2_with fail
    refine (cut_slash r _ (by omega)).mono ?_
    rintro e w1 ⟨u, v, m, rfl, ⟨n1, rfl⟩, hsp, hlt, hu⟩
    have HSP := Lib.hid hsp
    have HLT := Lib.hid hlt
    clear hsp hlt
    have hW : m = true → S.rightW s.data.toList = (S.wordOk u.data.toList && S.rightW v.data.toList) := fun hm => by
      have h := HSP.out
      rw [hm] at h
      rw [← HR.out]
      exact rightW_more (by simpa using h)
    have hL : m = false → S.rightW s.data.toList = S.wordOk u.data.toList := fun hm => by
      have h := HSP.out
      rw [hm] at h
      rw [← HR.out]
      exact rightW_last (by simpa using h)
    have HW := Lib.hid hW
    have HL := Lib.hid hL
    clear hW hL
    have hF : S.wordOk u.data.toList = false → S.rightW s.data.toList = false := fun h => by
      cases hm : m with
      | true => rw [HW.out hm, h]; rfl
      | false => rw [HL.out hm, h]
    have HF := Lib.hid hF
    clear hF
    by_cases t1 : u.toList = []
    · have HR0 : Hid (S.rightW s.data.toList = false) := HF.out (wordOk_no1 t1)
      go_wp2
      try simp only [Exit.jump]
      try rw [Exit.noGoto_ret]
      go_ret
      exact ⟨by rw [HR0.out]; rfl, by first | exact ⟨_, rfl⟩ | exact drew2 _ _ _⟩
    by_cases t2 : u.toList = [46]
    · have HR0 : Hid (S.rightW s.data.toList = false) := HF.out (wordOk_no2 t2)
      go_wp2
      try simp only [Exit.jump]
      try rw [Exit.noGoto_ret]
      go_ret
      exact ⟨by rw [HR0.out]; rfl, by first | exact ⟨_, rfl⟩ | exact drew2 _ _ _⟩
    by_cases t3 : u.toList = [46, 46]
    · have HR0 : Hid (S.rightW s.data.toList = false) := HF.out (wordOk_no3 t3)
      go_wp2
      try simp only [Exit.jump]
      try rw [Exit.noGoto_ret]
      go_ret
      exact ⟨by rw [HR0.out]; rfl, by first | exact ⟨_, rfl⟩ | exact drew2 _ _ _⟩
    have z1 : u.toList.isEmpty = false := by cases hh : u.toList with | nil => exact absurd hh t1 | cons _ _ => rfl
    have z2 : (u.toList == [46]) = false := by simpa using t2
    have z3 : (u.toList == [46, 46]) = false := by simpa using t3
    cases hsg : S.signs u.data.toList with
    | false =>
      have HR0 : Hid (S.rightW s.data.toList = false) := HF.out (wordOk_no4 hsg)
      go_wp2_with fail
      refine (path_signs u _ (by omega)).mono ?_
      rintro e w2 ⟨rfl, rfl⟩
      go_wp2
      try simp only [Exit.jump]
      try rw [Exit.noGoto_ret]
      go_ret
      exact ⟨by rw [HR0.out]; rfl, by first | exact ⟨_, rfl⟩ | exact drew2 _ _ _⟩
    | true =>
      have HOK : Hid (S.wordOk u.data.toList = true) := Lib.hid (wordOk_yes t1 t2 t3 hsg)
      cases m with
      | false =>
        have HR0 : Hid (S.rightW s.data.toList = true) := Lib.hid ((HL.out rfl).trans HOK.out)
        go_wp2_with fail
        refine (path_signs u _ (by omega)).mono ?_
        rintro e w2 ⟨rfl, rfl⟩
        go_wp2
        try simp only [Exit.jump]
        try rw [Exit.noGoto_ret]
        go_ret
        exact ⟨by rw [HR0.out]; rfl, by first | exact ⟨_, rfl⟩ | exact drew2 _ _ _⟩
      | true =>
        go_wp2_with fail
        refine (path_signs u _ (by omega)).mono ?_
        rintro e w2 ⟨rfl, rfl⟩
        go_wp2
        go_step3
        exact ⟨rfl, ⟨(by first | exact ⟨_, rfl⟩ | exact drew2 _ _ _), v, _, _, _, _, _, _, _, _, _, _, _, _, _, _, _, _, _, _, _, _, _, _, _, _, _, _, _, _, _, _, _, _, rfl, by have h := HW.out (by first | rfl | trivial); rw [HOK.out] at h; simpa using h.symm, by have := HLT.out (by first | rfl | trivial); omega⟩, by have := HLT.out (by first | rfl | trivial); simp [sizeOfStr]; omega⟩
end Go.Proofs.YtpcmkjimdhlhiaaGreatDoor.G
-- part S2
namespace Go.Proofs.YtpcmkjimdhlhiaaGreatDoor.S
/-! Texts of dents, on lists of bytes. -/
structure Lk where
  root : Bs
  ver : Bs
  rev : Bs
  within : Bs
  src : Bs
deriving DecidableEq
def Lk.zero : Lk := ⟨[], [], [], [], []⟩
def Lk.set (x : Lk) (i : Nat) (v : Bs) : Lk := match i with
  | 0 => { x with root := v }
  | 1 => { x with ver := v }
  | 2 => { x with rev := v }
  | 3 => { x with within := v }
  | 4 => { x with src := v }
  | _ => x
def Lk.fields (x : Lk) : List Bs := [x.root, x.ver, x.rev, x.within, x.src]
def keys : List Bs := [[114, 111, 111, 116], [118, 101, 114, 115, 105, 111, 110], [114, 101, 118, 105, 115, 105, 111, 110], [119, 105, 116, 104, 105, 110], [115, 111, 117, 114, 99, 101]]
/-- A lock's error, the last one's: 0: none; 1: it lacks something; 4: it is there twice. -/
def check (l : List Lk) : Nat := match l.reverse with
  | [] => 0
  | x :: r => if x.root = [] ∨ (x.rev = [] ∧ x.ver = []) then 1 else if r.any (fun y => y.root == x.root) then 4 else 0
def may (l : Bs) : Bool := !l.isEmpty && decide (Lib.indexByte [34, 32, 35] (l.headD 0) < 0) && !(l.getLastD 0 == 32) && !Lib.contains l [32, 35] && !decide (0 ≤ Lib.indexByte l 10)
def value (l : Bs) : Bs × Bool := match unquote l with
  | some (o, n) => if n = l.length then (o, true) else (l, may l)
  | none => (l, may l)
def pair (l : Bs) : Option (Nat × Bs) :=
  if (Lib.cut l [58, 32]).2.2 = true ∧ keys.contains (Lib.cut l [58, 32]).1 = true then
    if (value (Lib.cut l [58, 32]).2.1).2 = true then some (keys.idxOf (Lib.cut l [58, 32]).1, (value (Lib.cut l [58, 32]).2.1).1) else none
  else none
/-- What the reader knows: where it was wrong first, how; the locks; which keys the last one has. -/
structure Rd where
  wh : Nat
  ec : Nat
  l : List Lk
  has : List Nat
def Rd.wrong (r : Rd) (at_ ec : Nat) : Rd := if r.ec = 0 then { r with wh := at_, ec := ec } else r
def Rd.ended (r : Rd) (at_ : Nat) : Rd := if check r.l = 0 then r else r.wrong at_ (check r.l)
def Rd.begin (r : Rd) (at_ : Nat) : Rd :=
  let r1 := r.ended at_
  let r2 := if 40 ≤ r1.l.length then r1.wrong at_ 2 else r1
  { r2 with l := r2.l ++ [Lk.zero], has := [] }
def setLast (l : List Lk) (i : Nat) (v : Bs) : List Lk := l.dropLast ++ [(l.getLastD Lk.zero).set i v]
def Rd.field (r : Rd) (at_ i : Nat) (v : Bs) : Rd :=
  let r1 := if r.has.contains i then r.wrong at_ 4 else r
  let r2 := if (i = 0 ∨ i = 4) ∧ right v = false then r1.wrong at_ 7 else r1
  { r2 with has := r2.has ++ [i], l := setLast r2.l i v }
def lineP (r : Rd) (l : Bs) : Option (Nat × Bs) := if Lib.hasPrefix l [45, 32] = true then pair (l.drop 2) else if Lib.hasPrefix l [32, 32] = true ∧ r.l ≠ [] then pair (l.drop 2) else none
def Rd.line (r : Rd) (l : Bs) (at_ : Nat) : Rd := match lineP r l with
  | none => r.wrong at_ 1
  | some (i, v) => (if Lib.hasPrefix l [45, 32] = true then r.begin at_ else r).field at_ i v
end Go.Proofs.YtpcmkjimdhlhiaaGreatDoor.S
-- part G2
namespace Go.Proofs.YtpcmkjimdhlhiaaGreatDoor.G
open Go.RowKit

def keyNames : List ByteArray := [⟨#[114, 111, 111, 116]⟩, ⟨#[118, 101, 114, 115, 105, 111, 110]⟩, ⟨#[114, 101, 118, 105, 115, 105, 111, 110]⟩, ⟨#[119, 105, 116, 104, 105, 110]⟩, ⟨#[115, 111, 117, 114, 99, 101]⟩]
/-- dent.fields: two new rows: the keys, and the places of the fields. -/
theorem dent_fields (g o : Nat) (w : World) :
    Calls Tryz.prog 23 #[.pointer (some ⟨g, o, none⟩)] w fun e w' => ∃ b1 b2 : Nat, e = .returned (.tuple #[.slice (some ⟨b1, 0, none⟩) 5 5, .slice (some ⟨b2, 0, none⟩) 5 5]) ∧ w.heap.size ≤ b1 ∧ w.heap.size ≤ b2 ∧
      w'.heap[b1]? = some (.cells (keyNames.map Value.string).toArray 9 (0, 0)) ∧ w'.heap[b2]? = some (.cells #[.pointer (some ⟨g, o, none⟩), .pointer (some ⟨g, o + 1, none⟩), .pointer (some ⟨g, o + 2, none⟩), .pointer (some ⟨g, o + 3, none⟩), .pointer (some ⟨g, o + 4, none⟩)] 56 (0, 0)) ∧ Below w.heap.size w w' := by
  go_enter Tryz.func23, Tryz.ntmps23
  go_wp2
  go_region
  all_goals go_wp2
  all_goals go_ret2
  · exact ⟨_, _, rfl, Nat.le_refl _, Nat.le_succ _, hp_old (hp_new _ _), hp_new1 _ _ _, (((Below.refl _ _).alloc (Nat.le_refl _) _).alloc (by simp) _).drew⟩
  · exact ⟨_, _, rfl, Nat.le_succ _, Nat.le_refl _, hp_new1 _ _ _, hp_old (hp_new _ _), (((Below.refl _ _).alloc (Nat.le_refl _) _).alloc (by simp) _).drew⟩
end Go.Proofs.YtpcmkjimdhlhiaaGreatDoor.G
-- part G10
namespace Go.Proofs.YtpcmkjimdhlhiaaGreatDoor.G
open Go.RowKit

theorem Drew.refl (w : World) : Drew w w := ⟨0, rfl⟩
/-- path.Right is the document's. -/
theorem path_Right (s : ByteArray) (w : World) (hs : s.size ≤ 9223372036854775807) :
    Calls Tryz.prog 62 #[.string s] w fun e w' => e = .returned (.bool (S.right s.data.toList)) ∧ Drew w w' := by
  have hlen : s.data.toList.length = s.size := by simp
  by_cases h1 : s.size < 1
  · have HR : Hid (S.right s.data.toList = false) := Lib.hid (by simp only [S.right, hlen]; rw [decide_eq_false (by omega)]; rfl)
    go_enter Tryz.func62, Tryz.ntmps62
    go_wp2
    refine wp_scope_jumps 0 (fun _ _ => False) (fun _ _ => 0) rfl ?_ (fun _ _ h => h.elim)
    go_wp2
    try simp only [Exit.jump]
    go_ret
    exact ⟨by rw [HR.out]; rfl, Drew.refl _⟩
  · by_cases h2 : 40 < s.size
    · have HR : Hid (S.right s.data.toList = false) := Lib.hid (by simp only [S.right, hlen]; rw [decide_eq_false (p := s.size ≤ 40) (by omega), Bool.and_false]; rfl)
      go_enter Tryz.func62, Tryz.ntmps62
      go_wp2
      refine wp_scope_jumps 0 (fun _ _ => False) (fun _ _ => 0) rfl ?_ (fun _ _ h => h.elim)
      go_wp2
      try simp only [Exit.jump]
      go_ret
      exact ⟨by rw [HR.out]; rfl, Drew.refl _⟩
    · refine (path_Right_go s w (by omega) (by omega)).mono ?_
      rintro e w' ⟨rfl, h⟩
      exact ⟨by simp only [S.right, hlen]; rw [decide_eq_true (by omega), decide_eq_true (by omega)]; rfl, h⟩
theorem head_at (s : ByteArray) (h : 0 < s.size) : s.data.toList.headD 0 = s[0] := by
  have := drop_at s 0 h
  rw [List.drop_zero] at this
  rw [this]
  rfl
theorem last_at (s : ByteArray) (h : s.size - 1 < s.size) : s.data.toList.getLastD 0 = s[s.size - 1] := by
  have hl : s.data.toList.length = s.size := by simp
  have hne : s.data.toList ≠ [] := by intro h0; rw [h0] at hl; simp at hl; omega
  rw [List.getLastD_eq_getLast?, List.getLast?_eq_getElem?, hl, List.getElem?_eq_getElem (by omega)]
  rfl
set_option maxRecDepth 100000 in
set_option maxHeartbeats 2000000 in
/-- dent.may. -/
theorem dent_may (s : ByteArray) (m : Int) (w : World) (hs : s.size < 4294967281) (hm : w.cell? ⟨0, 0, none⟩ = some (.int .i64 m)) :
    Calls Tryz.prog 24 #[.string s] w fun e w' => e = .returned (.bool (S.may s.data.toList)) ∧ w = w' := by
  have HM := Lib.hid hm
  clear hm
  by_cases h0 : s.toList = []
  · have HR : Hid (S.may s.data.toList = false) := by rw [ByteArray.toList_eq] at h0; exact Lib.hid (by simp [S.may, h0])
    go_enter Tryz.func24, Tryz.ntmps24
    go_wp2
    go_ret
    exact ⟨by rw [HR.out]; rfl, rfl⟩
  have hsz : 0 < s.size := by
    rcases Nat.eq_zero_or_pos s.size with h | h
    · exfalso; apply h0; rw [ByteArray.toList_eq]; exact List.eq_nil_of_length_eq_zero (by simpa using h)
    · exact h
  have z0 : s.toList.isEmpty = false := by cases hh : s.toList with | nil => exact absurd hh h0 | cons _ _ => rfl
  have hh := head_at s hsz
  have hl := last_at s (by omega)
  have HV : Hid (∀ b1 b2 b3 b4 : Bool, decide (Lib.indexByte [34, 32, 35] s[0] < 0) = b1 → (s[s.size - 1] == 32) = b2 → Lib.contains s.data.toList [32, 35] = b3 → decide (0 ≤ Lib.indexByte s.data.toList 10) = b4 → S.may s.data.toList = (b1 && !b2 && !b3 && !b4)) := by
    refine Lib.hid ?_
    intro b1 b2 b3 b4 e1 e2 e3 e4
    have e0 : s.data.toList.isEmpty = false := by rw [← ByteArray.toList_eq]; exact z0
    simp only [S.may, hh, hl, e0, e1, e2, e3, e4]
    simp
  clear hh hl
  by_cases h1 : Lib.indexByte [34, 32, 35] s[0] < 0
  case neg =>
    have HR : Hid (S.may s.data.toList = false) := Lib.hid (by rw [HV.out _ _ _ _ (decide_eq_false h1) rfl rfl rfl]; rfl)
    go_enter Tryz.func24, Tryz.ntmps24
    go_wp2_with fail
    refine (Tryz.strings_IndexByte _ _ _).mono ?_
    rintro e w1 ⟨rfl, rfl⟩
    go_wp2
    go_ret
    exact ⟨by rw [HR.out]; rfl, rfl⟩
  by_cases h2 : s[s.size - 1] = 32
  case pos =>
    have HR : Hid (S.may s.data.toList = false) := Lib.hid (by rw [HV.out _ _ _ _ rfl (beq_iff_eq.2 h2) rfl rfl]; simp)
    have g2 : (((s[s.size - 1]).toNat : Int) != 32) = false := by rw [h2]; rfl
    clear h2
    go_enter Tryz.func24, Tryz.ntmps24
    go_wp2_with fail
    refine (Tryz.strings_IndexByte _ _ _).mono ?_
    rintro e w1 ⟨rfl, rfl⟩
    go_wp2
    go_ret
    exact ⟨by rw [HR.out]; rfl, rfl⟩
  have g2 : (((s[s.size - 1]).toNat : Int) != 32) = true := by
    rw [bne_iff_ne]; intro h; exact h2 ((u8_eq (n := 32) (by decide)).1 h)
  have H2 := Lib.hid h2
  clear h2
  by_cases h3 : Lib.contains s.data.toList [32, 35] = true
  case pos =>
    have HR : Hid (S.may s.data.toList = false) := Lib.hid (by rw [HV.out _ _ _ _ rfl rfl h3 rfl]; simp)
    go_enter Tryz.func24, Tryz.ntmps24
    go_wp2_with fail
    refine (Tryz.strings_IndexByte _ _ _).mono ?_
    rintro e w1 ⟨rfl, rfl⟩
    go_wp2_with fail
    refine (Tryz.strings_Contains s ⟨#[32, 35]⟩ m _ hs HM.out).mono ?_
    rintro e w1 ⟨rfl, rfl⟩
    go_wp2
    go_ret
    exact ⟨by rw [HR.out]; rfl, rfl⟩
  have h3' : Lib.contains s.data.toList [32, 35] = false := by simpa using h3
  clear h3
  by_cases h4 : 0 ≤ Lib.indexByte s.data.toList 10
  case pos =>
    have HR : Hid (S.may s.data.toList = false) := Lib.hid (by rw [HV.out _ _ _ _ rfl rfl rfl (decide_eq_true h4)]; simp)
    have g4 : decide (0 ≤ Lib.indexByte s.data.toList 10) = true := decide_eq_true h4
    clear h4
    go_enter Tryz.func24, Tryz.ntmps24
    go_wp2_with fail
    refine (Tryz.strings_IndexByte _ _ _).mono ?_
    rintro e w1 ⟨rfl, rfl⟩
    go_wp2_with fail
    refine (Tryz.strings_Contains s ⟨#[32, 35]⟩ m _ hs HM.out).mono ?_
    rintro e w1 ⟨rfl, rfl⟩
    go_wp2_with fail
    refine (Tryz.strings_Contains_one s 10 _).mono ?_
    rintro e w1 ⟨rfl, rfl⟩
    go_wp2
    go_ret
    exact ⟨by rw [HR.out]; rfl, rfl⟩
  case neg =>
    have HR : Hid (S.may s.data.toList = true) := Lib.hid (by rw [HV.out _ _ _ _ (decide_eq_true h1) (beq_eq_false_iff_ne.2 H2.out) h3' (decide_eq_false h4)]; rfl)
    have g4 : decide (0 ≤ Lib.indexByte s.data.toList 10) = false := decide_eq_false h4
    clear h4
    go_enter Tryz.func24, Tryz.ntmps24
    go_wp2_with fail
    refine (Tryz.strings_IndexByte _ _ _).mono ?_
    rintro e w1 ⟨rfl, rfl⟩
    go_wp2_with fail
    refine (Tryz.strings_Contains s ⟨#[32, 35]⟩ m _ hs HM.out).mono ?_
    rintro e w1 ⟨rfl, rfl⟩
    go_wp2_with fail
    refine (Tryz.strings_Contains_one s 10 _).mono ?_
    rintro e w1 ⟨rfl, rfl⟩
    go_wp2
    go_ret
    exact ⟨by rw [HR.out]; rfl, rfl⟩
end Go.Proofs.YtpcmkjimdhlhiaaGreatDoor.G
-- part G11
namespace Go.Proofs.YtpcmkjimdhlhiaaGreatDoor.G
open Go.RowKit

def valV (r : S.Bs × Bool) : Value := .tuple #[.string ⟨r.1.toArray⟩, .bool r.2]
theorem str_back (s : ByteArray) : (⟨s.data.toList.toArray⟩ : ByteArray) = s := by cases s; simp
set_option maxRecDepth 100000 in
/-- dent.value. -/
theorem dent_value (s : ByteArray) (m : Int) (w : World) (hs : s.size < 4294967281) (hm : w.cell? ⟨0, 0, none⟩ = some (.int .i64 m)) :
    Calls Tryz.prog 93 #[.string s] w fun e w' => e = .returned (valV (S.value s.data.toList)) ∧ Below w.heap.size w w' := by
  have HM := Lib.hid hm
  have hblk := World.block_lt_of_cell? w _ hm
  clear hm
  have hlen : s.data.toList.length = s.size := by simp
  cases hu : S.unquote s.data.toList with
  | none =>
    have HR : Hid (S.value s.data.toList = (s.data.toList, S.may s.data.toList)) := Lib.hid (by simp only [S.value, hu])
    have HU := Lib.hid hu
    clear hu hlen
    go_enter Tryz.func93, Tryz.ntmps93
    go_wp2_with fail
    refine (text_Unquote s w (by omega)).mono ?_
    rintro e w1 ⟨rfl, hb⟩
    rw [HU.out]
    simp only [unqV]
    go_wp2_with fail
    refine (dent_may s m w1 hs ((hb.cell hblk).trans HM.out)).mono ?_
    rintro e w2 ⟨rfl, rfl⟩
    go_wp2
    go_ret2
    exact ⟨by rw [HR.out, valV]; simp only [str_back]; rfl, hb⟩
  | some r =>
    obtain ⟨o, n⟩ := r
    by_cases hn : n = s.size
    · have HR : Hid (S.value s.data.toList = (o, true)) := Lib.hid (by simp only [S.value, hu, hlen, hn, if_true])
      have HU := Lib.hid hu
      have g1 : ((n : Int) == (s.size : Int)) = true := by simp [hn]
      clear hu hlen hn
      go_enter Tryz.func93, Tryz.ntmps93
      go_wp2_with fail
      refine (text_Unquote s w (by omega)).mono ?_
      rintro e w1 ⟨rfl, hb⟩
      rw [HU.out]
      simp only [unqV]
      go_wp2
      go_ret2
      exact ⟨by rw [HR.out]; rfl, hb⟩
    · have HR : Hid (S.value s.data.toList = (s.data.toList, S.may s.data.toList)) := Lib.hid (by simp only [S.value, hu, hlen, if_neg hn])
      have HU := Lib.hid hu
      have g1 : ((n : Int) == (s.size : Int)) = false := by rw [beq_eq_false_iff_ne]; intro h; exact hn (by exact_mod_cast h)
      clear hu hlen hn
      go_enter Tryz.func93, Tryz.ntmps93
      go_wp2_with fail
      refine (text_Unquote s w (by omega)).mono ?_
      rintro e w1 ⟨rfl, hb⟩
      rw [HU.out]
      simp only [unqV]
      go_wp2_with fail
      refine (dent_may s m w1 hs ((hb.cell hblk).trans HM.out)).mono ?_
      rintro e w2 ⟨rfl, rfl⟩
      go_wp2
      go_ret2
      exact ⟨by rw [HR.out, valV]; simp only [str_back]; rfl, hb⟩
end Go.Proofs.YtpcmkjimdhlhiaaGreatDoor.G
-- part G12
namespace Go.Proofs.YtpcmkjimdhlhiaaGreatDoor.G
open Go.RowKit

theorem bytes_eq {a b : ByteArray} (h : a.data.toList = b.data.toList) : a = b := by
  cases a; cases b
  simp only [ByteArray.mk.injEq]
  exact Array.toList_inj.1 h
theorem keyNames_data : keyNames.map (·.data.toList) = S.keys := rfl
theorem contains_keys (x : ByteArray) : Lib.containsS keyNames x = S.keys.contains x.data.toList := by
  rw [Bool.eq_iff_iff, Lib.containsS_iff, List.contains_iff_mem, ← keyNames_data, List.mem_map]
  constructor
  · intro h; exact ⟨x, h, rfl⟩
  · rintro ⟨y, hy, he⟩; rw [← bytes_eq he]; exact hy
theorem key_at (x : ByteArray) (h : S.keys.contains x.data.toList = true) : S.keys.idxOf x.data.toList < 5 ∧ keyNames[S.keys.idxOf x.data.toList]? = some x := by
  have hm : x.data.toList ∈ S.keys := List.contains_iff_mem.1 h
  have hlt : S.keys.idxOf x.data.toList < S.keys.length := List.idxOf_lt_length_of_mem hm
  refine ⟨hlt, ?_⟩
  have h1 : S.keys[S.keys.idxOf x.data.toList]? = some x.data.toList := by
    rw [List.getElem?_eq_getElem hlt, List.getElem_idxOf]
  generalize S.keys.idxOf x.data.toList = j at h1 ⊢
  rw [← keyNames_data, List.getElem?_map] at h1
  obtain ⟨y, hy, he⟩ := Option.map_eq_some_iff.1 h1
  rw [← bytes_eq he]
  exact hy
def PairV (r : Option (Nat × S.Bs)) (e : Ending) : Prop := ∃ (kv vv : ByteArray), e = .returned (.tuple #[.string kv, .string vv, .bool r.isSome]) ∧ ∀ i v, r = some (i, v) → i < 5 ∧ keyNames[i]? = some kv ∧ vv.data.toList = v
theorem PairV.no {r : Option (Nat × S.Bs)} (h : r = none) (kv vv : ByteArray) : PairV r (.returned (.tuple #[.string kv, .string vv, .bool false])) := by subst h; exact ⟨kv, vv, rfl, fun _ _ h => by cases h⟩
set_option maxRecDepth 100000 in
set_option maxHeartbeats 2000000 in
/-- dent.pair. -/
theorem dent_pair (s : ByteArray) (m : Int) (w : World) (hs : s.size < 4294967281) (hm : w.cell? ⟨0, 0, none⟩ = some (.int .i64 m)) :
    Calls Tryz.prog 60 #[.string s] w fun e w' => PairV (S.pair s.data.toList) e ∧ Below w.heap.size w w' := by
  have HM := Lib.hid hm
  have hblk := World.block_lt_of_cell? w _ hm
  clear hm
  obtain ⟨a, b, f, hcut⟩ : ∃ a b f, Lib.cut s.data.toList [58, 32] = (a, b, f) := ⟨_, _, _, rfl⟩
  have hbl : b.length ≤ s.size := by
    have : s.data.toList.length = s.size := by simp
    unfold Lib.cut at hcut
    split at hcut
    · injection hcut with h1 h2; injection h2 with h2 h3; rw [← h2, List.length_drop]; omega
    · injection hcut with h1 h2; injection h2 with h2 h3; rw [← h2]; simp
  have HC : Hid ((⟨(Lib.cut s.data.toList [58, 32]).1.toArray⟩ : ByteArray) = ⟨a.toArray⟩ ∧ (⟨(Lib.cut s.data.toList [58, 32]).2.1.toArray⟩ : ByteArray) = ⟨b.toArray⟩ ∧ (Lib.cut s.data.toList [58, 32]).2.2 = f) := Lib.hid (by rw [hcut]; exact ⟨rfl, rfl, rfl⟩)
  have HP : Hid (∀ y, f = y → S.pair s.data.toList = if y = true ∧ S.keys.contains a = true then (if (S.value b).2 = true then some (S.keys.idxOf a, (S.value b).1) else none) else none) := Lib.hid (by rintro y rfl; simp only [S.pair, hcut])
  clear hcut
  go_enter Tryz.func60, Tryz.ntmps60
  go_wp2_with fail
  refine (Tryz.strings_Cut s ⟨#[58, 32]⟩ m w hs HM.out).mono ?_
  rintro e w1 ⟨rfl, n1, rfl⟩
  rw [show (Lib.cut s.data.toList (⟨#[58, 32]⟩ : ByteArray).data.toList) = Lib.cut s.data.toList [58, 32] from rfl, HC.out.1, HC.out.2.1, HC.out.2.2]
  cases f with
  | false =>
    have HR : Hid (S.pair s.data.toList = none) := Lib.hid (by rw [HP.out _ rfl]; simp)
    go_wp2_with fail
    refine (dent_fields _ _ _).mono ?_
    rintro e w2 ⟨b1, b2, rfl, h1, h2, h3, h4, hb⟩
    go_wp2
    go_ret3
    exact ⟨PairV.no HR.out _ _, (below_dN (Below.refl _ _) n1).alloc (Nat.le_refl _) _ |>.trans (hb.mono (by simp))⟩
  | true =>
    go_wp2_with fail
    refine (dent_fields _ _ _).mono ?_
    rintro e w2 ⟨b1, b2, rfl, h1, h2, h3, h4, hb⟩
    have H3 := Lib.hid h3
    have H4 := Lib.hid h4
    clear h3 h4
    go_wp2_with fail
    refine (Tryz.slices_Contains_string b1 0 5 5 keyNames ⟨a.toArray⟩ w2 (Nat.le_refl _) (by omega) ?hc).mono ?_
    case hc =>
      intro j hj
      have hc := cell_of_blk H3.out (0 + j)
      rw [hc]
      simp only [Nat.zero_add, List.getElem?_toArray, List.getElem?_map]
      rw [List.getElem?_eq_getElem hj, List.getD_eq_getElem?_getD, List.getElem?_eq_getElem hj]
      rfl
    rintro e w3 ⟨rfl, rfl⟩
    rw [show (keyNames.take 5) = keyNames from rfl, contains_keys]
    have hB : Below w.heap.size w w3 := (below_dN (Below.refl _ _) n1).alloc (Nat.le_refl _) _ |>.trans (hb.mono (by simp))
    cases hk : S.keys.contains (⟨a.toArray⟩ : ByteArray).data.toList with
    | false =>
      have HR : Hid (S.pair s.data.toList = none) := Lib.hid (by rw [HP.out _ rfl]; rw [if_neg (by rintro ⟨_, h⟩; have h2 := h.symm.trans hk; cases h2)])
      go_wp2
      go_ret3
      exact ⟨PairV.no HR.out _ _, hB⟩
    | true =>
      go_wp2_with fail
      refine (dent_value ⟨b.toArray⟩ m w3 ?hs ((hB.cell hblk).trans HM.out)).mono ?_
      case hs => have : (⟨b.toArray⟩ : ByteArray).size = b.length := by simp [ByteArray.size]
                 omega
      rintro e w4 ⟨rfl, hb3⟩
      have hB3 := hB.trans (hb3.mono hB.size)
      cases hv : (S.value (⟨b.toArray⟩ : ByteArray).data.toList).2 with
      | false =>
        have HR : Hid (S.pair s.data.toList = none) := Lib.hid (by rw [HP.out _ rfl, if_pos ⟨rfl, hk⟩, if_neg (by intro h; have h2 := h.symm.trans hv; cases h2)])
        rw [valV, hv]
        go_wp2
        go_ret3
        exact ⟨PairV.no HR.out _ _, hB3⟩
      | true =>
        have HR : Hid (S.pair s.data.toList = some (S.keys.idxOf a, (S.value b).1)) := Lib.hid (by rw [HP.out _ rfl, if_pos ⟨rfl, hk⟩, if_pos hv])
        rw [valV, hv]
        go_wp2
        go_ret3
        refine ⟨⟨⟨a.toArray⟩, _, by rw [HR.out]; rfl, ?_⟩, hB3⟩
        intro i v h
        rw [HR.out] at h
        injection h with h
        injection h with h1 h2
        have hk2 := key_at ⟨a.toArray⟩ hk
        subst h1
        exact ⟨hk2.1, hk2.2, h2⟩
end Go.Proofs.YtpcmkjimdhlhiaaGreatDoor.G
-- part G13
namespace Go.Proofs.YtpcmkjimdhlhiaaGreatDoor.G
open Go.RowKit

def bstr (l : S.Bs) : Value := .string ⟨l.toArray⟩
def lkVals (x : S.Lk) : List Value := [bstr x.root, bstr x.ver, bstr x.rev, bstr x.within, bstr x.src]
def lkCells (l : List S.Lk) : List Value := l.flatMap lkVals
def keyVal (i : Nat) : Value := .string (keyNames.getD i ByteArray.empty)
theorem lkCells_length (l : List S.Lk) : (lkCells l).length = l.length * 5 := by
  induction l with
  | nil => rfl
  | cons x r ih => rw [lkCells, List.flatMap_cons, List.length_append, ← lkCells, ih]; simp [lkVals]; omega
theorem lkCells_append (a b : List S.Lk) : lkCells (a ++ b) = lkCells a ++ lkCells b := by simp [lkCells]
theorem lkCells_at (l : List S.Lk) (x : S.Lk) (n : Nat) (h : l[n]? = some x) (i : Nat) (hi : i < 5) : (lkCells l)[n * 5 + i]? = (lkVals x)[i]? := by
  induction l generalizing n with
  | nil => simp at h
  | cons y r ih =>
    have hy : (lkVals y).length = 5 := rfl
    rw [lkCells, List.flatMap_cons]
    cases n with
    | zero =>
      have : y = x := by simpa using h
      subst this
      rw [Nat.zero_mul, Nat.zero_add, List.getElem?_append_left (by omega)]
    | succ n =>
      rw [List.getElem?_append_right (by omega)]
      have h2 := ih n (by simpa using h)
      rw [show (n + 1) * 5 + i - (lkVals y).length = n * 5 + i by omega]
      exact h2
/-- The reader's state, at block g; its rows begin at B or behind. -/
def RdAt (B g : Nat) (r : S.Rd) (W : World) : Prop :=
  ∃ vl vh : Value, W.heap[g]? = some (.cells #[.int .i64 r.wh, .int .i64 r.ec, vl, vh] 63 (0, 0)) ∧
    W.ownsRow B 43 5 vl r.l.length (lkCells r.l) ∧ W.ownsRow B 9 1 vh r.has.length (r.has.map keyVal)
/-- Blocks from B on that the reader's work may turn, its own one beside. -/
def tch (o : Obj) : Prop := ∃ c f t, o = .cells c t f ∧ (t = 43 ∨ t = 9)
def Fr (B g : Nat) (W W' : World) : Prop := Below 0 W W' ∧ ∀ (k : Nat) (o : Obj), W.heap[k]? = some o → k ≠ g → (k < B ∨ ¬ tch o) → W'.heap[k]? = some o
theorem Fr.size {B g : Nat} {W W' : World} (h : Fr B g W W') : W.heap.size ≤ W'.heap.size := h.1.size
theorem Fr.refl (B g : Nat) (W : World) : Fr B g W W := ⟨Below.refl _ _, fun _ _ h _ _ => h⟩
theorem Fr.trans {B g : Nat} {a b c : World} (h : Fr B g a b) (k : Fr B g b c) : Fr B g a c := ⟨h.1.trans k.1, fun i o hi hn ht => k.2 i o (h.2 i o hi hn ht) hn ht⟩
theorem Fr.of_below {B g : Nat} {W W' : World} (h : Below W.heap.size W W') : Fr B g W W' :=
  ⟨h.mono (Nat.zero_le _), fun k o hk _ _ => (h.block k (Array.getElem?_eq_some_iff.1 hk).1).trans hk⟩
theorem Fr.drewN {B g : Nat} {W W' : World} (h : Fr B g W W') (n : Nat) : Fr B g W (W'.drewN n) := ⟨below_dN h.1 n, h.2⟩
theorem Fr.setG {B g : Nat} {W W' : World} (h : Fr B g W W') (i : Nat) (v : Value) : Fr B g W (W'.setCell ⟨g, i, none⟩ v) :=
  ⟨h.1.setCell (p := ⟨g, i, none⟩) (Nat.zero_le _) v, fun k o' hk hn ht => (Below.heap_setCell W' ⟨g, i, none⟩ v k hn).trans (h.2 k o' hk hn ht)⟩
theorem Fr.setRow {B g : Nat} {W W' : World} (h : Fr B g W W') {b i : Nat} (hb : B ≤ b) {o : Obj} (ho : W'.heap[b]? = some o) (ht : tch o) (v : Value) : Fr B g W (W'.setCell ⟨b, i, none⟩ v) :=
  ⟨h.1.setCell (p := ⟨b, i, none⟩) (Nat.zero_le _) v, fun k o' hk hg hn => by
    have h1 := h.2 k o' hk hg hn
    have hne : k ≠ b := by
      rintro rfl
      rw [ho] at h1; injection h1 with h1; subst h1
      rcases hn with hn | hn
      · omega
      · exact hn ht
    exact (Below.heap_setCell W' ⟨b, i, none⟩ v k hne).trans h1⟩
theorem Fr.grown {B g : Nat} {W W' W2 : World} (h : Fr B g W W') {row : Option Nat} (hg : W'.grownBy W2 row) (hr : ∀ k, row = some k → B ≤ k ∧ ∃ o, W'.heap[k]? = some o ∧ tch o) : Fr B g W W2 :=
  ⟨h.1.grown hg (Nat.zero_le _) (fun _ _ => Nat.zero_le _), fun k o' hk hgk hn => by
    have h1 := h.2 k o' hk hgk hn
    have hne : some k ≠ row := by
      rintro he
      obtain ⟨hB, o, ho, ht⟩ := hr k he.symm
      rw [ho] at h1; injection h1 with h1; subst h1
      rcases hn with hn | hn
      · omega
      · exact hn ht
    exact (hg.block k (Array.getElem?_eq_some_iff.1 h1).1 hne).trans h1⟩
theorem Fr.below {B g : Nat} {W W' : World} (h : Fr B g W W') {B0 : Nat} (hB : B0 ≤ B) (hg : B0 ≤ g) (hW : B0 ≤ W.heap.size) : Below B0 W W' :=
  ⟨h.1.os, h.1.tape, h.1.output, h.1.size, fun k hk => by
    have hlt : k < W.heap.size := Nat.lt_of_lt_of_le hk hW
    rw [h.2 k _ (Array.getElem?_eq_getElem hlt) (by omega) (.inl (by omega)), Array.getElem?_eq_getElem hlt]⟩
theorem blk_set' {w : World} {g : Nat} {t : TypeId} {cs : Array Value} {f : Nat × Nat} (h : w.heap[g]? = some (.cells cs t f)) (i : Nat) (u : Value) : (w.setCell ⟨g, i, none⟩ u).heap[g]? = some (.cells (cs.setIfInBounds i u) t f) := by
  simp [World.setCell, Array.getElem?_modify, h]
theorem frozen_blk {w : World} {g : Nat} {t : TypeId} {cs : Array Value} (h : w.heap[g]? = some (.cells cs t (0, 0))) (i : Nat) : w.frozen? ⟨g, i, none⟩ = false := by simp [World.frozen?, h]
theorem own_set {w : World} {base : Nat} {e : TypeId} {size n : Nat} {v : Value} {xs : List Value} (h : w.ownsRow base e size v n xs) {b i : Nat} {cs : Array Value} {t : TypeId} {f : Nat × Nat} (hb : w.heap[b]? = some (.cells cs t f)) (hne : e ≠ t) (u : Value) : (w.setCell ⟨b, i, none⟩ u).ownsRow base e size v n xs := by
  obtain ⟨h1, h2⟩ := h
  refine ⟨h1, ?_⟩
  rcases h2 with h2 | ⟨g, cap, cur, rfl, hg, hh, r⟩
  · exact .inl h2
  · have hgb : g ≠ b := by rintro rfl; rw [hb] at hh; injection hh with hh; injection hh with _ h3; exact hne h3.symm
    exact .inr ⟨g, cap, cur, rfl, hg, (Below.heap_setCell w ⟨b, i, none⟩ u g hgb).trans hh, r⟩
theorem tch_lock (c : Array Value) (f : Nat × Nat) : tch (.cells c 43 f) := ⟨c, f, _, rfl, .inl rfl⟩
theorem tch_string (c : Array Value) (f : Nat × Nat) : tch (.cells c 9 f) := ⟨c, f, _, rfl, .inr rfl⟩
/-- (*fault).wrong on the reader. -/
theorem dent_wrong (B g : Nat) (r : S.Rd) (at_ ec : Nat) (W : World) (h : RdAt B g r W) :
    Calls Tryz.prog 29 #[.pointer (some ⟨g, 0, none⟩), .int .i64 at_, .int .i64 ec] W fun e W' => e = .returned (.tuple #[]) ∧ RdAt B g (r.wrong at_ ec) W' ∧ Fr B g W W' := by
  obtain ⟨vl, vh, hb, hl, hh⟩ := h
  have c0 := cell_of_blk hb 0
  have c1 := cell_of_blk hb 1
  by_cases he : r.ec = 0
  · have e1 : W.cell? ⟨g, 1, none⟩ = some (.int .i64 0) := by rw [c1]; simp [he]
    refine (dent_wrong_first g at_ ec r.wh W (by rw [c0]; rfl) e1 (frozen_blk hb 0) (frozen_blk hb 1)).mono ?_
    rintro e W' ⟨rfl, rfl⟩
    have hb1 := blk_set' hb 0 (.int .i64 at_)
    have hb2 := blk_set' hb1 1 (.int .i64 ec)
    refine ⟨rfl, ⟨vl, vh, ?_, ?_, ?_⟩, ?_⟩
    · rw [hb2]; simp [S.Rd.wrong, he]
    · have := own_set (own_set hl hb (by decide) (i := 0) (.int .i64 at_)) hb1 (by decide) (i := 1) (.int .i64 ec)
      simpa [S.Rd.wrong, he] using this
    · have := own_set (own_set hh hb (by decide) (i := 0) (.int .i64 at_)) hb1 (by decide) (i := 1) (.int .i64 ec)
      simpa [S.Rd.wrong, he] using this
    · exact ((Fr.refl B g W).setG _ _).setG _ _
  · refine (dent_wrong_later g at_ ec r.ec W (by rw [c1]; rfl) (by rw [beq_eq_false_iff_ne]; omega)).mono ?_
    rintro e W' ⟨rfl, rfl⟩
    exact ⟨rfl, ⟨vl, vh, by simpa [S.Rd.wrong, he] using hb, by simpa [S.Rd.wrong, he] using hl, by simpa [S.Rd.wrong, he] using hh⟩, Fr.refl _ _ _⟩
end Go.Proofs.YtpcmkjimdhlhiaaGreatDoor.G
-- part G14
namespace Go.Proofs.YtpcmkjimdhlhiaaGreatDoor.G
open Go.RowKit

/-- The closure in ended: is its root the last one's? -/
theorem dent_same (y0 y1 y2 y3 y4 rt : ByteArray) (bx : Nat) (w : World) (h : w.cell? ⟨bx, 0, none⟩ = some (.string rt)) :
    Calls Tryz.prog 66 #[.agg #[.string y0, .string y1, .string y2, .string y3, .string y4], .pointer (some ⟨bx, 0, none⟩)] w fun e w' => e = .returned (.bool (y0.toList == rt.toList)) ∧ Below w.heap.size w w' := by
  go_enter Tryz.func66, Tryz.ntmps66
  have hbx := World.block_lt_of_cell? w _ h
  simp only at hbx
  go_wp2
  go_ret
  exact ⟨rfl, (Below.refl _ _).alloc (Nat.le_refl _) _⟩
def lkAgg (x : S.Lk) : Value := .agg #[bstr x.root, bstr x.ver, bstr x.rev, bstr x.within, bstr x.src]
/-- A row of locks that is read. -/
def LkRow (w : World) (g n : Nat) (l : List S.Lk) : Prop := n ≤ l.length ∧ ∀ (j : Nat) (x : S.Lk), l[j]? = some x → ∀ i, i < 5 → w.cell? ⟨g, j * 5 + i, none⟩ = (lkVals x)[i]?
theorem take_snoc_l (l : List S.Lk) (k : Nat) (x : S.Lk) (h : l[k]? = some x) : l.take (k + 1) = l.take k ++ [x] := by
  have hk := (List.getElem?_eq_some_iff.1 h)
  obtain ⟨h1, h2⟩ := hk
  rw [List.take_succ_eq_append_getElem h1, h2]
set_option maxRecDepth 100000 in
theorem lk_indexFunc (g n c bx : Nat) (l : List S.Lk) (rt : S.Bs) (w : World) (hg : g < w.heap.size) (hbx : bx < w.heap.size) (hr : LkRow w g n l) (hn : n ≤ 1000000) (h : w.cell? ⟨bx, 0, none⟩ = some (bstr rt)) :
    Calls Tryz.prog 96 #[.slice (some ⟨g, 0, none⟩) n c, .func (.func 66) #[] #[.pointer (some ⟨bx, 0, none⟩)]] w
      fun e w' => (∃ r : Int, e = .returned (.int .i64 r) ∧ (0 ≤ r ↔ (l.take n).any (fun y => y.root == rt) = true)) ∧ Below w.heap.size w w' := by
  have HR := Lib.hid hr
  clear hr
  go_enter Tryz.func96, Tryz.ntmps96
  go_wp2
  go_loopw [8] (fun i wr => ∃ k : Nat, k ≤ n ∧ i = .int .i64 k ∧ Below w.heap.size w wr ∧ (l.take k).any (fun y => y.root == rt) = false) (fun i _ => n - (intOf i).toNat)
  case atStart => exact ⟨0, Nat.zero_le _, rfl, Below.refl _ _, rfl⟩
  case round =>
    obtain ⟨k, hk, rfl, hb, hf⟩ := hrel
    have HF := Lib.hid hf
    clear hf
    by_cases hlt : k < n
    · have hkl : k < l.length := Nat.lt_of_lt_of_le hlt HR.out.1
      obtain ⟨x, hx⟩ : ∃ x, l[k]? = some x := ⟨_, List.getElem?_eq_getElem hkl⟩
      have hc := fun i hi => (hb.cell (p := ⟨g, k * 5 + i, none⟩) hg).trans (HR.out.2 k x hx i hi)
      have c0 := hc 0 (by omega)
      have c1 := hc 1 (by omega)
      have c2 := hc 2 (by omega)
      have c3 := hc 3 (by omega)
      have c4 := hc 4 (by omega)
      clear hc
      simp only [lkVals, List.getElem?_cons_zero, List.getElem?_cons_succ, bstr, Nat.add_zero] at c0 c1 c2 c3 c4
      go_wp2_with fail
      have hbx2 : wr.cell? ⟨bx, 0, none⟩ = some (.string ⟨rt.toArray⟩) := (hb.cell (p := ⟨bx, 0, none⟩) hbx).trans h
      refine (dent_same _ _ _ _ _ ⟨rt.toArray⟩ bx _ hbx2).mono ?_
      rintro e w2 ⟨rfl, hb2⟩
      have hbb : Below w.heap.size w w2 := hb.trans (hb2.mono hb.size)
      have HX := Lib.hid (take_snoc_l l k x hx)
      by_cases he : x.root = rt
      · have g1 : ((⟨x.root.toArray⟩ : ByteArray).toList == (⟨rt.toArray⟩ : ByteArray).toList) = true := by rw [he]; simp
        have g2 : (x.root == rt) = true := by simpa using he
        clear c0 c1 c2 c3 c4 hbx2 he
        have HT : Hid ((l.take n).any (fun y => y.root == rt) = true) := Lib.hid (by
          rw [List.any_eq_true]
          exact ⟨x, List.mem_of_getElem? (by rw [List.getElem?_take_of_lt hlt]; exact hx), g2⟩)
        go_wp2
        go_ret
        exact ⟨⟨k, rfl, by rw [HT.out]; simp⟩, hbb⟩
      · have g1 : ((⟨x.root.toArray⟩ : ByteArray).toList == (⟨rt.toArray⟩ : ByteArray).toList) = false := by
          rw [beq_eq_false_iff_ne, ByteArray.toList_eq, ByteArray.toList_eq]; simpa using he
        have g2 : (x.root == rt) = false := by simpa using he
        clear c0 c1 c2 c3 c4 hbx2 he
        go_wp2
        go_roundw
        case rel => exact ⟨k + 1, by omega, by go_num, hbb, by rw [HX.out, List.any_append, HF.out]; simp [g2]⟩
        case measure => simp [intOf]; omega
    · have hkn : k = n := by omega
      go_wp2
      go_ret
      subst hkn
      exact ⟨⟨-1, rfl, by rw [HF.out]; simp⟩, hb⟩
end Go.Proofs.YtpcmkjimdhlhiaaGreatDoor.G
-- part G15
namespace Go.Proofs.YtpcmkjimdhlhiaaGreatDoor.G
open Go.RowKit

theorem own_below {w w1 : World} {base : Nat} {e : TypeId} {size n : Nat} {v : Value} {xs : List Value} (h : w.ownsRow base e size v n xs) (hb : Below w.heap.size w w1) : w1.ownsRow base e size v n xs :=
  own_keep h (fun k _ hk => hb.block k hk)
theorem RdAt.below {B g : Nat} {r : S.Rd} {W W' : World} (h : RdAt B g r W) (hb : Below W.heap.size W W') : RdAt B g r W' := by
  obtain ⟨vl, vh, hg, hl, hh⟩ := h
  exact ⟨vl, vh, (hb.block g (Array.getElem?_eq_some_iff.1 hg).1).trans hg, own_below hl hb, own_below hh hb⟩
theorem lk_containsFunc (g n c bx : Nat) (l : List S.Lk) (rt : S.Bs) (w : World) (hg : g < w.heap.size) (hbx : bx < w.heap.size) (hr : LkRow w g n l) (hn : n ≤ 1000000) (h : w.cell? ⟨bx, 0, none⟩ = some (bstr rt)) :
    Calls Tryz.prog 65 #[.slice (some ⟨g, 0, none⟩) n c, .func (.func 66) #[] #[.pointer (some ⟨bx, 0, none⟩)]] w
      fun e w' => e = .returned (.bool ((l.take n).any (fun y => y.root == rt))) ∧ Below w.heap.size w w' := by
  have HR := Lib.hid hr
  have HH := Lib.hid h
  clear hr h
  go_enter Tryz.func65, Tryz.ntmps65
  go_wp2_with fail
  refine (lk_indexFunc g n c bx l rt w hg hbx HR.out hn HH.out).mono ?_
  rintro e w1 ⟨⟨r, rfl, hiff⟩, hb⟩
  cases hv : (l.take n).any (fun y => y.root == rt) with
  | true =>
    have hr0 : 0 ≤ r := hiff.2 hv
    have hd : decide (0 ≤ r) = true := decide_eq_true hr0
    clear hiff
    have HV := Lib.hid hv
    clear hv
    go_wp2
    go_ret
    exact ⟨by rw [HV.out]; rfl, hb⟩
  | false =>
    have hr0 : r < 0 := by
      rcases Int.lt_or_le r 0 with h | h
      · exact h
      · have := hiff.1 h; rw [hv] at this; cases this
    have hd : decide (0 ≤ r) = false := decide_eq_false (by omega)
    clear hiff
    have HV := Lib.hid hv
    clear hv
    go_wp2
    go_ret
    exact ⟨by rw [HV.out]; rfl, hb⟩
theorem own_lkRow {W : World} {B g n c : Nat} {l : List S.Lk} (h : W.ownsRow B 43 5 (.slice (some ⟨g, 0, none⟩) l.length c) l.length (lkCells l)) (hn : n ≤ l.length) : LkRow W g n l := by
  refine ⟨hn, fun j x hx i hi => ?_⟩
  have hj := (List.getElem?_eq_some_iff.1 hx).1
  rw [h.cellAt (j * 5 + i) (by omega)]
  exact lkCells_at l x j hx i hi
theorem last_split (l : List S.Lk) (h : l ≠ []) : ∃ x, l[l.length - 1]? = some x ∧ l.getLastD S.Lk.zero = x ∧ S.check l = (if x.root = [] ∨ (x.rev = [] ∧ x.ver = []) then 1 else if (l.take (l.length - 1)).any (fun y => y.root == x.root) then 4 else 0) := by
  refine ⟨l.getLast h, ?_, ?_, ?_⟩
  · rw [← List.getLast?_eq_getElem?, List.getLast?_eq_some_getLast h]
  · rw [List.getLastD_eq_getLast?, List.getLast?_eq_some_getLast h]; rfl
  · have hr : l.reverse = l.getLast h :: (l.take (l.length - 1)).reverse := by
      rw [← List.dropLast_eq_take]
      conv => lhs; rw [← List.dropLast_concat_getLast h]
      simp
    simp only [S.check, hr, List.any_reverse]
set_option maxRecDepth 100000 in
set_option maxHeartbeats 2000000 in
/-- (*reader).ended. -/
theorem dent_ended (B g : Nat) (r : S.Rd) (at_ : Nat) (W : World) (h : RdAt B g r W) (hBW : B ≤ W.heap.size) (hn : r.l.length ≤ 1000000) :
    Calls Tryz.prog 34 #[.pointer (some ⟨g, 0, none⟩), .int .i64 at_] W fun e W' => e = .returned (.tuple #[]) ∧ RdAt B g (r.ended at_) W' ∧ Fr B g W W' := by
  have HR := Lib.hid h
  obtain ⟨vl, vh, hb, hl, hh⟩ := h
  have c2 : W.cell? ⟨g, 2, none⟩ = some vl := by rw [cell_of_blk hb 2]; rfl
  have hgW : g < W.heap.size := (Array.getElem?_eq_some_iff.1 hb).1
  by_cases hz : r.l = []
  · have hv : ∃ a c, vl = .slice a 0 c := by
      rcases hl.2 with ⟨h1, _⟩ | ⟨g', cap, cur, h1, _⟩
      · exact ⟨none, 0, h1⟩
      · exact ⟨_, cap, by rw [h1, hz]; rfl⟩
    obtain ⟨a, c, rfl⟩ := hv
    have HE : Hid (r.ended at_ = r) := Lib.hid (by simp [S.Rd.ended, S.check, hz])
    clear hb hl hh
    go_enter Tryz.func34, Tryz.ntmps34
    go_wp2
    refine bodyPost_ret (results_none rfl _ _ _) rfl ?_
    exact ⟨rfl, by rw [HE.out]; exact HR.out, Fr.refl _ _ _⟩
  · obtain ⟨x, hx, _, hck⟩ := last_split r.l hz
    have hpos : 1 ≤ r.l.length := by
      rcases Nat.eq_zero_or_pos r.l.length with h0 | h0
      · exact absurd (List.eq_nil_of_length_eq_zero h0) hz
      · exact h0
    obtain ⟨gl, cap, rfl, hgB, hgl⟩ : ∃ gl cap, vl = .slice (some ⟨gl, 0, none⟩) r.l.length cap ∧ B ≤ gl ∧ gl < W.heap.size := by
      rcases hl.2 with ⟨_, h1⟩ | ⟨g', cap, cur, h1, h2, h3, _⟩
      · omega
      · exact ⟨g', cap, h1, h2, (Array.getElem?_eq_some_iff.1 h3).1⟩
    have hrow := own_lkRow (n := r.l.length - 1) hl (by omega)
    have hcell := fun i hi => hrow.2 (r.l.length - 1) x hx i hi
    have d0 := hcell 0 (by omega)
    have d1 := hcell 1 (by omega)
    have d2 := hcell 2 (by omega)
    have d3 := hcell 3 (by omega)
    have d4 := hcell 4 (by omega)
    clear hcell
    simp only [lkVals, List.getElem?_cons_zero, List.getElem?_cons_succ, bstr, Nat.add_zero] at d0 d1 d2 d3 d4
    have HROW := Lib.hid hrow
    have HCK := Lib.hid hck
    have HX := Lib.hid hx
    have HCAP : Hid (r.l.length ≤ cap) := by
      rcases hl.2 with ⟨_, h1⟩ | ⟨g', cap', cur, h1, _, _, h4, _⟩
      · omega
      · injection h1 with h1 h2 h3; rw [h3]; exact Lib.hid h4
    have hcap := HCAP.out
    clear hrow hck hx hb hl hh hz
    generalize hN : r.l.length = N at *
    obtain ⟨rt, vr, rv, wi, sr⟩ := x
    simp only at d0 d1 d2 d3 d4
    by_cases hA : rt = []
    · subst hA
      have HE : Hid (r.ended at_ = r.wrong at_ 1) := Lib.hid (by have h := HCK.out; simp at h; simp [S.Rd.ended, h])
      go_enter Tryz.func34, Tryz.ntmps34
      go_wp2_with fail
      refine (dent_wrong B g r at_ 1 _ (HR.out.below ?hbl)).mono ?_
      case hbl => exact ((Below.refl _ _).alloc (Nat.le_refl _) _)
      rintro e W2 ⟨rfl, hr2, hf2⟩
      go_wp2
      first | (refine bodyPost_ret (results_none rfl _ _ _) rfl ?_) | go_end0
      exact ⟨rfl, by rw [HE.out]; exact hr2, (Fr.of_below ((Below.refl _ _).alloc (Nat.le_refl _) _)).trans hf2⟩
    have gA : rt.isEmpty = false := by cases rt with | nil => exact absurd rfl hA | cons _ _ => rfl
    by_cases hB2 : rv = [] ∧ vr = []
    · obtain ⟨rfl, rfl⟩ := hB2
      have HE : Hid (r.ended at_ = r.wrong at_ 1) := Lib.hid (by have h := HCK.out; simp at h; simp [S.Rd.ended, h])
      clear hA
      go_enter Tryz.func34, Tryz.ntmps34
      go_wp2_with fail
      refine (dent_wrong B g r at_ 1 _ (HR.out.below ?hbl)).mono ?_
      case hbl => exact ((Below.refl _ _).alloc (Nat.le_refl _) _)
      rintro e W2 ⟨rfl, hr2, hf2⟩
      go_wp2
      first | (refine bodyPost_ret (results_none rfl _ _ _) rfl ?_) | go_end0
      exact ⟨rfl, by rw [HE.out]; exact hr2, (Fr.of_below ((Below.refl _ _).alloc (Nat.le_refl _) _)).trans hf2⟩
    have HC3 : Hid (S.check r.l = if (r.l.take (N - 1)).any (fun y => y.root == rt) = true then 4 else 0) := Lib.hid (by have h := HCK.out; rw [if_neg (by rintro (h1 | h1); exact hA h1; exact hB2 h1)] at h; exact h)
    clear hA
    by_cases hR : rv = []
    · subst hR
      have gV : vr.isEmpty = false := by cases vr with | nil => exact absurd ⟨rfl, rfl⟩ hB2 | cons _ _ => rfl
      clear hB2
      go_enter Tryz.func34, Tryz.ntmps34
      go_wp2_with fail
      refine (lk_containsFunc gl (N - 1) cap W.heap.size r.l rt _ (by simp; omega) (by simp) ?row (by omega) ?bx).mono ?_
      case row => exact ⟨HROW.out.1, fun j x hx i hi => ((((Below.refl _ _).alloc (Nat.le_refl _) _) : Below W.heap.size W _).cell (p := ⟨gl, j * 5 + i, none⟩) hgl).trans (HROW.out.2 j x hx i hi)⟩
      case bx => simp [bstr]
      rintro e W1 ⟨rfl, hb1⟩
      have hW1 : Below W.heap.size W W1 := ((Below.refl _ _).alloc (Nat.le_refl _) _).trans (hb1.mono (by simp))
      cases hv : (r.l.take (N - 1)).any (fun y => y.root == rt) with
      | true =>
        have HE : Hid (r.ended at_ = r.wrong at_ 4) := Lib.hid (by have h := HC3.out; rw [hv] at h; simp at h; simp [S.Rd.ended, h])
        clear hv
        go_wp2_with fail
        refine (dent_wrong B g r at_ 4 _ (HR.out.below hW1)).mono ?_
        rintro e W2 ⟨rfl, hr2, hf2⟩
        go_wp2
        first | (refine bodyPost_ret (results_none rfl _ _ _) rfl ?_) | go_end0
        exact ⟨rfl, by rw [HE.out]; exact hr2, (Fr.of_below hW1).trans hf2⟩
      | false =>
        have HE : Hid (r.ended at_ = r) := Lib.hid (by have h := HC3.out; rw [hv] at h; simp at h; simp [S.Rd.ended, h])
        clear hv
        go_wp2
        first | (refine bodyPost_ret (results_none rfl _ _ _) rfl ?_) | go_end0
        exact ⟨rfl, by rw [HE.out]; exact HR.out.below hW1, Fr.of_below hW1⟩
    · have gR : rv.isEmpty = false := by cases rv with | nil => exact absurd rfl hR | cons _ _ => rfl
      clear hB2 hR
      go_enter Tryz.func34, Tryz.ntmps34
      go_wp2_with fail
      refine (lk_containsFunc gl (N - 1) cap W.heap.size r.l rt _ (by simp; omega) (by simp) ?row (by omega) ?bx).mono ?_
      case row => exact ⟨HROW.out.1, fun j x hx i hi => ((((Below.refl _ _).alloc (Nat.le_refl _) _) : Below W.heap.size W _).cell (p := ⟨gl, j * 5 + i, none⟩) hgl).trans (HROW.out.2 j x hx i hi)⟩
      case bx => simp [bstr]
      rintro e W1 ⟨rfl, hb1⟩
      have hW1 : Below W.heap.size W W1 := ((Below.refl _ _).alloc (Nat.le_refl _) _).trans (hb1.mono (by simp))
      cases hv : (r.l.take (N - 1)).any (fun y => y.root == rt) with
      | true =>
        have HE : Hid (r.ended at_ = r.wrong at_ 4) := Lib.hid (by have h := HC3.out; rw [hv] at h; simp at h; simp [S.Rd.ended, h])
        clear hv
        go_wp2_with fail
        refine (dent_wrong B g r at_ 4 _ (HR.out.below hW1)).mono ?_
        rintro e W2 ⟨rfl, hr2, hf2⟩
        go_wp2
        first | (refine bodyPost_ret (results_none rfl _ _ _) rfl ?_) | go_end0
        exact ⟨rfl, by rw [HE.out]; exact hr2, (Fr.of_below hW1).trans hf2⟩
      | false =>
        have HE : Hid (r.ended at_ = r) := Lib.hid (by have h := HC3.out; rw [hv] at h; simp at h; simp [S.Rd.ended, h])
        clear hv
        go_wp2
        first | (refine bodyPost_ret (results_none rfl _ _ _) rfl ?_) | go_end0
        exact ⟨rfl, by rw [HE.out]; exact HR.out.below hW1, Fr.of_below hW1⟩
end Go.Proofs.YtpcmkjimdhlhiaaGreatDoor.G
-- part G15b
namespace Go.Proofs.YtpcmkjimdhlhiaaGreatDoor.G
open Go.RowKit

theorem keyNames_inj (i j : Nat) (kv : ByteArray) (hi : keyNames[i]? = some kv) : keyNames.getD j ByteArray.empty = kv ↔ j = i := by
  have hi5 : i < 5 := (List.getElem?_eq_some_iff.1 hi).1
  have e1 : keyNames.getD i ByteArray.empty = kv := by rw [List.getD_eq_getElem?_getD, hi]; rfl
  constructor
  · intro h
    rw [← e1] at h
    by_cases hj : j < 5
    · have hd : (keyNames.getD j ByteArray.empty).data.toList = (keyNames.getD i ByteArray.empty).data.toList := by rw [h]
      clear h e1 hi
      rcases i with _ | _ | _ | _ | _ | i <;> rcases j with _ | _ | _ | _ | _ | j <;> first | rfl | omega | (exfalso; revert hd; decide)
    · exfalso
      have h0 : keyNames.getD j ByteArray.empty = ByteArray.empty := by
        rw [List.getD_eq_getElem?_getD, List.getElem?_eq_none (by show 5 ≤ j; omega)]; rfl
      have hd : (keyNames.getD i ByteArray.empty).data.toList = [] := by rw [← h, h0]; rfl
      clear h e1 hi h0
      rcases i with _ | _ | _ | _ | _ | i <;> first | omega | (revert hd; decide)
  · rintro rfl; exact e1
theorem contains_keys_has (has : List Nat) (i : Nat) (kv : ByteArray) (hi : keyNames[i]? = some kv) : Lib.containsS (has.map fun j => keyNames.getD j ByteArray.empty) kv = has.contains i := by
  rw [Bool.eq_iff_iff, Lib.containsS_iff, List.contains_iff_mem, List.mem_map]
  constructor
  · rintro ⟨j, hj, he⟩
    rw [(keyNames_inj i j kv hi).1 he] at hj
    exact hj
  · intro h; exact ⟨i, h, (keyNames_inj i i kv hi).2 rfl⟩
def hasB (has : List Nat) (i : Nat) : Bool := has.contains i
theorem has_contains (B : Nat) (vh : Value) (has : List Nat) (i : Nat) (kv : ByteArray) (W : World) (hh : W.ownsRow B 9 1 vh has.length (has.map keyVal)) (hi : keyNames[i]? = some kv) (hn : has.length ≤ 100000) :
    Calls Tryz.prog 61 #[vh, .string kv] W fun e w' => e = .returned (.bool (hasB has i)) ∧ W = w' := by
  rcases Nat.eq_zero_or_pos has.length with h0 | h0
  · obtain rfl : has = [] := List.eq_nil_of_length_eq_zero h0
    obtain ⟨a, c, rfl⟩ : ∃ a c, vh = .slice a 0 c := by
      rcases hh.2 with ⟨h1, _⟩ | ⟨g', cap, cur, h1, _⟩
      · exact ⟨none, 0, h1⟩
      · exact ⟨_, cap, h1⟩
    exact (Tryz.slices_Contains_string_empty a c kv W).mono fun e w' h => ⟨h.1, h.2.symm⟩
  · obtain ⟨g, cap, rfl⟩ : ∃ g cap, vh = .slice (some ⟨g, 0, none⟩) has.length cap := by
      rcases hh.2 with ⟨_, h1⟩ | ⟨g', cap, cur, h1, _⟩
      · omega
      · exact ⟨g', cap, h1⟩
    have hl : (has.map fun j => keyNames.getD j ByteArray.empty).length = has.length := by simp
    refine (Tryz.slices_Contains_string g 0 has.length cap (has.map fun j => keyNames.getD j ByteArray.empty) kv W (by rw [hl]; exact Nat.le_refl _) (by omega) ?_).mono ?_
    · intro j hj
      rw [hl] at hj
      rw [Nat.zero_add, hh.cellAt j (by omega)]
      rw [List.getElem?_map, List.getElem?_eq_getElem hj, List.getD_eq_getElem?_getD, List.getElem?_map, List.getElem?_eq_getElem hj]
      rfl
    · rintro e w' ⟨rfl, rfl⟩
      refine ⟨?_, rfl⟩
      rw [List.take_of_length_le (by rw [hl]; exact Nat.le_refl _), contains_keys_has _ _ _ hi]; rfl
theorem kv_root (i : Nat) (kv : ByteArray) (hi : keyNames[i]? = some kv) : (kv.toList == [114, 111, 111, 116]) = decide (i = 0) ∧ (kv.toList == [115, 111, 117, 114, 99, 101]) = decide (i = 4) := by
  have hi5 : i < 5 := (List.getElem?_eq_some_iff.1 hi).1
  rw [ByteArray.toList_eq]
  rcases i with _ | _ | _ | _ | _ | i
  all_goals first | omega | (obtain rfl := Option.some.inj hi; decide)
theorem names_index (b1 i : Nat) (kv : ByteArray) (W : World) (hb : W.heap[b1]? = some (.cells (keyNames.map Value.string).toArray 9 (0, 0))) (hi : keyNames[i]? = some kv) :
    Calls Tryz.prog 64 #[.slice (some ⟨b1, 0, none⟩) 5 5, .string kv] W fun e w' => e = .returned (.int .i64 (i : Nat)) ∧ W = w' := by
  have hi5 : i < 5 := (List.getElem?_eq_some_iff.1 hi).1
  refine (Tryz.slices_Index_string b1 0 5 5 keyNames kv W (Nat.le_refl _) (by omega) ?_).mono ?_
  · intro j hj
    rw [cell_of_blk hb (0 + j)]
    simp only [Nat.zero_add, List.getElem?_toArray, List.getElem?_map]
    rw [List.getElem?_eq_getElem hj, List.getD_eq_getElem?_getD, List.getElem?_eq_getElem hj]
    rfl
  · rintro e w' ⟨rfl, rfl⟩
    refine ⟨?_, rfl⟩
    rw [show keyNames.take 5 = keyNames from rfl]
    congr 2
    rcases i with _ | _ | _ | _ | _ | i
    all_goals first | omega | (obtain rfl := Option.some.inj hi; decide)
theorem strings_Clone (s : ByteArray) (w : World) (hs : s.size ≤ 9223372036854775807) (hlim : s.size ≤ 281474976710656) :
    Calls Tryz.prog 63 #[.string s] w fun e w' => e = .returned (.string s) ∧ Below w.heap.size w w' := by
  go_enter Tryz.func63, Tryz.ntmps63
  go_wp2_with fail
  refine (Tryz.stringslite_Clone s w hlim).mono ?_
  rintro e w1 ⟨rfl, hb⟩
  go_wp2
  go_ret
  exact ⟨rfl, hb⟩
end Go.Proofs.YtpcmkjimdhlhiaaGreatDoor.G
-- part G15c
namespace Go.Proofs.YtpcmkjimdhlhiaaGreatDoor.G
open Go.RowKit Go.Proofs.YtpcmkjimdhlhiaaGreatDoorW.PrintWords

theorem trim_two (s : ByteArray) (p : S.Bs) (hp : p.length = 2) (h : Lib.hasPrefix s.data.toList p = true) : Lib.trimPrefix s.data.toList p = s.data.toList.drop 2 := by
  simp [Lib.trimPrefix, h, hp]
theorem size_mk (l : S.Bs) : (⟨l.toArray⟩ : ByteArray).size = l.length := by simp [ByteArray.size]
theorem info_lock : (Tryz.prog.info? 43).map (fun i => (i.zero, i.size, i.bytes)) = some (some (.agg #[(.string ⟨#[]⟩), (.string ⟨#[]⟩), (.string ⟨#[]⟩), (.string ⟨#[]⟩), (.string ⟨#[]⟩)]), 5, 80) := by kernel_rfl
theorem info_string : (Tryz.prog.info? 9).map (fun i => (i.zero, i.size, i.bytes)) = some (some (.string ⟨#[]⟩), 1, 16) := by kernel_rfl
theorem own_grown {w w1 : World} {base : Nat} {e : TypeId} {size n : Nat} {v : Value} {xs : List Value} (h : w.ownsRow base e size v n xs) {row : Option Nat} (hg : w.grownBy w1 row) (hne : ∀ k c, row = some k → w.heap[k]? = some c → ∀ cs f, c ≠ .cells cs e f) : w1.ownsRow base e size v n xs := by
  obtain ⟨h1, h2⟩ := h
  refine ⟨h1, ?_⟩
  rcases h2 with h2 | ⟨g, cap, cur, rfl, hb, hh, r⟩
  · exact .inl h2
  · refine .inr ⟨g, cap, cur, rfl, hb, (hg.block g (Array.getElem?_eq_some_iff.1 hh).1 ?_).trans hh, r⟩
    rintro rfl
    exact hne g _ rfl hh _ _ rfl
theorem wrong_l (r : S.Rd) (a e : Nat) : (r.wrong a e).l = r.l := by unfold S.Rd.wrong; split <;> rfl
theorem ite_wrong_l (p : Prop) [Decidable p] (r : S.Rd) (a e : Nat) : (if p then r.wrong a e else r).l = r.l := by
  split
  · exact wrong_l r a e
  · rfl
theorem wrong_has (r : S.Rd) (a e : Nat) : (r.wrong a e).has = r.has := by unfold S.Rd.wrong; split <;> rfl
theorem ite_wrong_has (p : Prop) [Decidable p] (r : S.Rd) (a e : Nat) : (if p then r.wrong a e else r).has = r.has := by
  split
  · exact wrong_has r a e
  · rfl
theorem ended_l (r : S.Rd) (a : Nat) : (r.ended a).l = r.l := by
  unfold S.Rd.ended
  split
  · rfl
  · exact wrong_l _ _ _
theorem begin_len (r : S.Rd) (a : Nat) : (r.begin a).l.length = r.l.length + 1 := by
  simp only [S.Rd.begin, List.length_append, List.length_singleton]
  rw [ite_wrong_l, ended_l]
theorem own_form {w : World} {base : Nat} {e : TypeId} {v : Value} {l : List S.Lk} (h : w.ownsRow base e 5 v l.length (lkCells l)) (hne : l ≠ []) : ∃ gl cap, v = .slice (some ⟨gl, 0, none⟩) l.length cap ∧ base ≤ gl ∧ gl < w.heap.size := by
  rcases h.2 with ⟨_, h1⟩ | ⟨g', cap, cur, h1, h2, h3, _⟩
  · exact absurd (List.eq_nil_of_length_eq_zero h1) hne
  · exact ⟨g', cap, h1, h2, (Array.getElem?_eq_some_iff.1 h3).1⟩
theorem own_room {w : World} {base : Nat} {e : TypeId} {gl cap N : Nat} {l : List S.Lk} (h : w.ownsRow base e 5 (.slice (some ⟨gl, 0, none⟩) l.length cap) l.length (lkCells l)) (hne : l ≠ []) (hN : l.length ≤ N) : Hid (1 ≤ l.length ∧ l.length ≤ N ∧ l.length ≤ cap) := by
  have h0 : 1 ≤ l.length := by
    rcases Nat.eq_zero_or_pos l.length with h0 | h0
    · exact absurd (List.eq_nil_of_length_eq_zero h0) hne
    · exact h0
  rcases h.2 with ⟨h1, _⟩ | ⟨g', cap', cur, h1, h2, h3, h4, _⟩
  · cases h1
  · injection h1 with _ _ h5
    exact ⟨h0, hN, by rw [h5]; exact h4⟩
/-- A row's block: of the row's type. -/
theorem own_blk {w : World} {base : Nat} {e : TypeId} {size n : Nat} {v : Value} {xs : List Value} (h : w.ownsRow base e size v n xs) (k : Nat) (hk : v.ownBlock = some k) : base ≤ k ∧ ∃ cs, w.heap[k]? = some (.cells cs e (0, 0)) := by
  rcases h.2 with ⟨rfl, _⟩ | ⟨g, cap, cur, rfl, hb, hh, _⟩
  · simp [Value.ownBlock] at hk
  · have : g = k := by simpa [Value.ownBlock] using hk
    subst this
    exact ⟨hb, cur, hh⟩
theorem grown_blk {w w1 : World} {base : Nat} {e : TypeId} {size n : Nat} {v : Value} {xs : List Value} (h : w.ownsRow base e size v n xs) (hg : w.grownBy w1 v.ownBlock) {b : Nat} {cs : Array Value} {t : TypeId} {f : Nat × Nat} (hb : w.heap[b]? = some (.cells cs t f)) (hne : e ≠ t) : w1.heap[b]? = some (.cells cs t f) := by
  refine (hg.block b (Array.getElem?_eq_some_iff.1 hb).1 ?_).trans hb
  intro he
  obtain ⟨_, cs', hc⟩ := own_blk h b he.symm
  rw [hb] at hc
  injection hc with hc
  injection hc with _ h3
  exact hne h3.symm
theorem Fr.grown_own {B g : Nat} {W W' W2 : World} (h : Fr B g W W') {e : TypeId} {size n : Nat} {v : Value} {xs : List Value} (ho : W'.ownsRow B e size v n xs) (hg : W'.grownBy W2 v.ownBlock) (ht : ∀ c f, tch (.cells c e f)) : Fr B g W W2 :=
  h.grown hg (fun k hk => by obtain ⟨h1, cs, h2⟩ := own_blk ho k hk; exact ⟨h1, _, h2, ht _ _⟩)

theorem lkVals_set (x : S.Lk) (i : Nat) (hi : i < 5) (v : S.Bs) : lkVals (x.set i v) = (lkVals x).set i (bstr v) := by
  rcases i with _ | _ | _ | _ | _ | i
  all_goals first | rfl | omega
theorem lkCells_setLast (l : List S.Lk) (k i : Nat) (hk : l.length = k + 1) (hi : i < 5) (v : S.Bs) : lkCells (S.setLast l i v) = (lkCells l).set (k * 5 + i) (bstr v) := by
  have hne : l ≠ [] := by intro h; rw [h] at hk; simp at hk
  have hl : l = l.dropLast ++ [l.getLast hne] := (List.dropLast_concat_getLast hne).symm
  have hd : l.getLastD S.Lk.zero = l.getLast hne := by rw [List.getLastD_eq_getLast?, List.getLast?_eq_some_getLast hne]; rfl
  have hlen : l.dropLast.length = k := by rw [List.length_dropLast, hk]; rfl
  rw [S.setLast, hd, lkCells_append]
  conv => rhs; rw [hl, lkCells_append]
  have hc : (lkCells l.dropLast).length = k * 5 := by rw [lkCells_length, hlen]
  rw [List.set_append_right _ _ (by omega), show k * 5 + i - (lkCells l.dropLast).length = i by omega]
  have e : ∀ y : S.Lk, lkCells [y] = lkVals y := fun y => by simp [lkCells]
  rw [e, e, lkVals_set _ _ hi]
theorem RdAt.setField {B g : Nat} {r : S.Rd} {W : World} (h : RdAt B g r W) {gl k i cap : Nat} (hs : W.cell? ⟨g, 2, none⟩ = some (.slice (some ⟨gl, 0, none⟩) (k + 1) cap)) (hk : r.l.length = k + 1) (hi : i < 5) (v : S.Bs) :
    RdAt B g { r with l := S.setLast r.l i v } (W.setCell ⟨gl, k * 5 + i, none⟩ (bstr v)) ∧ Fr B g W (W.setCell ⟨gl, k * 5 + i, none⟩ (bstr v)) := by
  obtain ⟨vl, vh, hb, hl, hh⟩ := h
  have h2 : W.cell? ⟨g, 2, none⟩ = some vl := by rw [cell_of_blk hb 2]; rfl
  obtain rfl : vl = .slice (some ⟨gl, 0, none⟩) (k + 1) cap := by have := h2.symm.trans hs; injection this
  rw [hk] at hl
  obtain ⟨hg1, cs, hg2⟩ := own_blk hl gl rfl
  have hne : g ≠ gl := by rintro rfl; rw [hb] at hg2; injection hg2 with hg2; injection hg2 with _ h3; exact absurd h3 (by decide)
  have hst := (hl.stored (k * 5 + i) (bstr v)).1
  rw [← lkCells_setLast r.l k i hk hi v] at hst
  have hlen : (S.setLast r.l i v).length = k + 1 := by simp [S.setLast, hk]
  refine ⟨⟨_, vh, (Below.heap_setCell W ⟨gl, k * 5 + i, none⟩ (bstr v) g hne).trans hb, ?_, own_set hh hg2 (by decide) _⟩, (Fr.refl B g W).setRow hg1 hg2 (tch_lock _ _) _⟩
  show World.ownsRow _ B _ 5 _ (S.setLast r.l i v).length (lkCells (S.setLast r.l i v))
  rw [hlen]
  exact hst
end Go.Proofs.YtpcmkjimdhlhiaaGreatDoor.G
-- part G16
namespace Go.Proofs.YtpcmkjimdhlhiaaGreatDoor.G
open Go.RowKit Go.Proofs.YtpcmkjimdhlhiaaGreatDoorW.PrintWords

set_option maxRecDepth 100000 in
set_option maxHeartbeats 4000000 in
/-- (*reader).line: a line that begins a lock. -/
theorem dent_line_b (B g : Nat) (r : S.Rd) (s kv vv : ByteArray) (at_ i : Nat) (m : Int) (W : World) (h : RdAt B g r W) (hBW : B ≤ W.heap.size) (hn : r.l.length ≤ 100000) (hnh : r.has.length ≤ 100000) (hs : s.size ≤ 100000) (hvs : vv.size ≤ 100000) (hm : W.cell? ⟨0, 0, none⟩ = some (.int .i64 m))
    (hp : Lib.hasPrefix s.data.toList [45, 32] = true) (hpr : S.pair (s.data.toList.drop 2) = some (i, vv.data.toList)) :
    Calls Tryz.prog 33 #[.pointer (some ⟨g, 0, none⟩), .string s, .int .i64 at_] W fun e W' => e = .returned (.tuple #[]) ∧ RdAt B g ((r.begin at_).field at_ i vv.data.toList) W' ∧ Fr B g W W' := by
  have HR := Lib.hid h
  have HM := Lib.hid hm
  have HPR := Lib.hid hpr
  have HT := Lib.hid (trim_two s [45, 32] rfl hp)
  clear h hm hpr
  go_enter Tryz.func33, Tryz.ntmps33
  go_wp2_with fail
  refine (Tryz.strings_CutPrefix s ⟨#[45, 32]⟩ W).mono ?_
  rintro e W0 ⟨rfl, rfl⟩
  rw [show ((⟨#[45, 32]⟩ : ByteArray).data.toList) = [45, 32] from rfl, hp, HT.out]
  go_wp2_with fail
  refine (Tryz.strings_CutPrefix s ⟨#[32, 32]⟩ W0).mono ?_
  rintro e W ⟨rfl, rfl⟩
  go_wp2_with fail
  refine (dent_pair ⟨(List.drop 2 s.data.toList).toArray⟩ m W ?sz HM.out).mono ?_
  case sz => rw [size_mk, List.length_drop]; have : s.data.toList.length = s.size := by simp
             omega
  rintro e W1 ⟨⟨kv2, vv2, rfl, hkv⟩, hb1⟩
  rw [show (⟨(List.drop 2 s.data.toList).toArray⟩ : ByteArray).data.toList = List.drop 2 s.data.toList from rfl] at hkv ⊢
  rw [HPR.out] at hkv ⊢
  obtain ⟨hi5, hk, hv⟩ := hkv _ _ rfl
  obtain rfl := bytes_eq hv
  clear hkv
  simp only [Option.isSome_some]
  go_upto_if 56 with (fail)
  have hF1 : Fr B g W W1 := Fr.of_below hb1
  have HR1 := Lib.hid (HR.out.below hb1)
  have hBW1 : B ≤ W1.heap.size := Nat.le_trans hBW hb1.size
  have HK := Lib.hid hk
  have HI5 := Lib.hid hi5
  have HVS : Hid (vv2.size ≤ 100000) := Lib.hid hvs
  clear hk hb1 hp hvs
  go_cut [] (fun wx => RdAt B g (r.begin at_) wx ∧ Fr B g W wx)
  case first =>
    go_wp2_with fail
    refine (dent_ended B g r at_ W1 HR1.out hBW1 (by omega)).mono ?_
    rintro e W2 ⟨rfl, hr2, hf2⟩
    have hl2 : (r.ended at_).l = r.l := ended_l r at_
    have HBX2 : Hid (B ≤ W2.heap.size) := Lib.hid (Nat.le_trans hBW1 hf2.size)
    have hF2 := hF1.trans hf2
    have HR2 := Lib.hid hr2
    clear hr2
    obtain ⟨vl0, vh0, hb0, hl0, hh0⟩ := HR2.out
    have hgW0 : g < W2.heap.size := (Array.getElem?_eq_some_iff.1 hb0).1
    obtain ⟨a0, c0, rfl⟩ : ∃ a c, vl0 = .slice a (r.ended at_).l.length c := by
      rcases hl0.2 with ⟨h1, h2⟩ | ⟨g', cap, cur, h1, _⟩
      · exact ⟨none, 0, by rw [h1, h2]⟩
      · exact ⟨_, cap, h1⟩
    have q0 : W2.cell? ⟨g, 2, none⟩ = some (.slice a0 (r.ended at_).l.length c0) := by rw [cell_of_blk hb0 2]; rfl
    clear hb0 hl0 hh0
    rw [hl2] at q0
    have HL0 := Lib.hid hl2
    clear hl2
    by_cases h40 : 40 ≤ r.l.length
    · go_wp2_with fail
      refine (dent_wrong B g (r.ended at_) at_ 2 W2 HR2.out).mono ?_
      rintro e W3 ⟨rfl, hr3, hf3⟩
      have HBX : Hid (B ≤ W3.heap.size) := Lib.hid (Nat.le_trans HBX2.out hf3.size)
      have hF3 := hF2.trans hf3
      have HRX := Lib.hid hr3
      have HLX : Hid (((r.ended at_).wrong at_ 2).l.length = r.l.length) := Lib.hid (by rw [wrong_l, HL0.out])
      have HBE : Hid (r.begin at_ = { (r.ended at_).wrong at_ 2 with l := ((r.ended at_).wrong at_ 2).l ++ [S.Lk.zero], has := [] }) := Lib.hid (by simp only [S.Rd.begin]; rw [if_pos (by rw [HL0.out]; exact h40)])
      clear hr3 q0 hgW0
      obtain ⟨vl, vh, hb, hl, hh⟩ := HRX.out
      have hgW : g < W3.heap.size := (Array.getElem?_eq_some_iff.1 hb).1
      have q2 : W3.cell? ⟨g, 2, none⟩ = some vl := by rw [cell_of_blk hb 2]; rfl
      skip
      have HB2 := Lib.hid hb
      have HL2 := Lib.hid hl
      have HH2 := Lib.hid hh
      clear hb hl hh
      go_wp2_with (at_builtin; go_loud (refine print_append_cells (w0 := W3) (W := W3) B rfl _ _ 25 43 _ 5 80 rfl Tryz.underlying25 info_lock rfl (by decide) (by decide) vl ((r.ended at_).wrong at_ 2).l.length (lkCells ((r.ended at_).wrong at_ 2).l) [.string ⟨#[]⟩, .string ⟨#[]⟩, .string ⟨#[]⟩, .string ⟨#[]⟩, .string ⟨#[]⟩] rfl rfl rfl (by intro u hu; simp at hu; subst hu; rfl) HL2.out (Below.refl _ _) HBX.out (by have := HLX.out; omega) ?_); intro vl1 W5 hown hbel hgr hat; obtain ⟨A1, cap1, rfl⟩ := own_slice hown; (have hb5 := grown_blk HL2.out hgr HB2.out (by decide)); (have hh5 := own_grown HH2.out hgr (fun k c hk hc cs f he => by obtain ⟨_, cs', h3⟩ := own_blk HL2.out k hk; rw [h3] at hc; injection hc with hc; rw [← hc] at he; injection he with _ h4; exact absurd h4 (by decide))); (have hF5 : Fr B g W W5 := hF3.grown_own HL2.out hgr tch_lock); (have p2 : W5.cell? ⟨g, 2, none⟩ = some vl := by rw [cell_of_blk hb5 2]; rfl); (have p3 : W5.cell? ⟨g, 3, none⟩ = some vh := by rw [cell_of_blk hb5 3]; rfl); (have f2 := frozen_blk hb5 2); (have f3 := frozen_blk hb5 3); (have HO := Lib.hid hown); (have HG5 := Lib.hid hb5); (clear hown hgr))
      try go_wp2
      go_meet
      have e1 := blk_set' HG5.out 2 (.slice A1 (((r.ended at_).wrong at_ 2).l.length + 1) cap1)
      have e2 := blk_set' e1 3 (.slice none 0 0)
      refine ⟨⟨.slice A1 (((r.ended at_).wrong at_ 2).l.length + 1) cap1, .slice none 0 0, ?_, ?_, World.ownsRow_nil _ _ _ _⟩, (hF5.setG _ _).setG _ _⟩
      · rw [e2, HBE.out]; rfl
      · have h6 := own_set (own_set HO.out HG5.out (by decide) (i := 2) (.slice A1 (((r.ended at_).wrong at_ 2).l.length + 1) cap1)) e1 (by decide) (i := 3) (.slice none 0 0)
        rw [HBE.out, List.length_append, List.length_singleton, lkCells_append]
        exact h6
    · have HBX := HBX2
      have HRX := HR2
      have HLX : Hid ((r.ended at_).l.length = r.l.length) := Lib.hid (by rw [HL0.out])
      have HBE : Hid (r.begin at_ = { (r.ended at_) with l := (r.ended at_).l ++ [S.Lk.zero], has := [] }) := Lib.hid (by simp only [S.Rd.begin]; rw [if_neg (by rw [HL0.out]; exact h40)])
      clear hgW0
      obtain ⟨vl, vh, hb, hl, hh⟩ := HRX.out
      have hgW : g < W2.heap.size := (Array.getElem?_eq_some_iff.1 hb).1
      have q2 : W2.cell? ⟨g, 2, none⟩ = some vl := by rw [cell_of_blk hb 2]; rfl
      obtain rfl : vl = .slice a0 r.l.length c0 := by have h9 := q2.symm.trans q0; injection h9
      have HB2 := Lib.hid hb
      have HL2 := Lib.hid hl
      have HH2 := Lib.hid hh
      clear hb hl hh
      go_wp2_with (at_builtin; go_loud (refine print_append_cells (w0 := W2) (W := W2) B rfl _ _ 25 43 _ 5 80 rfl Tryz.underlying25 info_lock rfl (by decide) (by decide) (.slice a0 r.l.length c0) (r.ended at_).l.length (lkCells (r.ended at_).l) [.string ⟨#[]⟩, .string ⟨#[]⟩, .string ⟨#[]⟩, .string ⟨#[]⟩, .string ⟨#[]⟩] rfl rfl rfl (by intro u hu; simp at hu; subst hu; rfl) HL2.out (Below.refl _ _) HBX.out (by have := HLX.out; omega) ?_); intro vl1 W5 hown hbel hgr hat; obtain ⟨A1, cap1, rfl⟩ := own_slice hown; (have hb5 := grown_blk HL2.out hgr HB2.out (by decide)); (have hh5 := own_grown HH2.out hgr (fun k c hk hc cs f he => by obtain ⟨_, cs', h3⟩ := own_blk HL2.out k hk; rw [h3] at hc; injection hc with hc; rw [← hc] at he; injection he with _ h4; exact absurd h4 (by decide))); (have hF5 : Fr B g W W5 := hF2.grown_own HL2.out hgr tch_lock); (have p2 : W5.cell? ⟨g, 2, none⟩ = some (.slice a0 r.l.length c0) := by rw [cell_of_blk hb5 2]; rfl); (have p3 : W5.cell? ⟨g, 3, none⟩ = some vh := by rw [cell_of_blk hb5 3]; rfl); (have f2 := frozen_blk hb5 2); (have f3 := frozen_blk hb5 3); (have HO := Lib.hid hown); (have HG5 := Lib.hid hb5); (clear hown hgr))
      try go_wp2
      go_meet
      have e1 := blk_set' HG5.out 2 (.slice A1 ((r.ended at_).l.length + 1) cap1)
      have e2 := blk_set' e1 3 (.slice none 0 0)
      refine ⟨⟨.slice A1 ((r.ended at_).l.length + 1) cap1, .slice none 0 0, ?_, ?_, World.ownsRow_nil _ _ _ _⟩, (hF5.setG _ _).setG _ _⟩
      · rw [e2, HBE.out]; rfl
      · have h6 := own_set (own_set HO.out HG5.out (by decide) (i := 2) (.slice A1 ((r.ended at_).l.length + 1) cap1)) e1 (by decide) (i := 3) (.slice none 0 0)
        rw [HBE.out, List.length_append, List.length_singleton, lkCells_append]
        exact h6
  case rest =>
    have HNE : Hid ((r.begin at_).l ≠ []) := Lib.hid (by simp [S.Rd.begin])
    have HNL0 : Hid ((r.begin at_).l.length ≤ 100001) := Lib.hid (by rw [begin_len]; omega)
    have HNH : Hid ((r.begin at_).has.length ≤ 100000) := Lib.hid (Nat.zero_le _)
    obtain ⟨hr3, hf3⟩ := hcut
    have HBW3 : Hid (B ≤ wc.heap.size) := Lib.hid (Nat.le_trans hBW hf3.size)
    have HR3 := Lib.hid hr3
    have HF3 := Lib.hid hf3
    clear hr3 hf3
    obtain ⟨vl, vh, hb, hl, hh⟩ := HR3.out
    have q3 : wc.cell? ⟨g, 3, none⟩ = some vh := by rw [cell_of_blk hb 3]; rfl
    have HH := Lib.hid hh
    clear hb hl hh
    go_upto_if 89 with (go_at_call 61; refine (has_contains B vh (r.begin at_).has i kv2 wc HH.out HK.out HNH.out).mono ?_; rintro e w' ⟨rfl, rfl⟩)
    clear q3
    go_cut [] (fun wx => RdAt B g (if hasB (r.begin at_).has i = true then (r.begin at_).wrong at_ 4 else (r.begin at_)) wx ∧ Fr B g W wx)
    case first =>
      cases hc : hasB (r.begin at_).has i with
      | true =>
        exact absurd hc (by simp [hasB, S.Rd.begin])
      | false =>
        have HC := Lib.hid hc
        go_wp2
        go_meet
        exact ⟨by rw [if_neg (by rw [HC.out]; exact Bool.false_ne_true)]; exact HR3.out, HF3.out⟩
    case rest =>
      clear HR3 HF3 HH
      obtain ⟨hr5, hf5⟩ := hcut
      have HBW5 : Hid (B ≤ wc.heap.size) := Lib.hid (Nat.le_trans hBW hf5.size)
      obtain ⟨R1, hR1⟩ : ∃ R1, R1 = (if hasB (r.begin at_).has i = true then (r.begin at_).wrong at_ 4 else (r.begin at_)) := ⟨_, rfl⟩
      rw [← hR1] at hr5
      have HR1e := Lib.hid hR1
      have HR5 := Lib.hid hr5
      have HF5 := Lib.hid hf5
      clear hr5 hf5 hR1
      go_upto_region 16 with (fail)
      go_cut [105] (fun s wx => s = .bool (decide ((i = 0 ∨ i = 4) ∧ S.right vv2.data.toList = false)) ∧ RdAt B g R1 wx ∧ Fr B g W wx)
      case first =>
        obtain ⟨k1, k2⟩ := kv_root i kv2 HK.out
        by_cases i0 : i = 0
        · have e1 : (kv2.toList == [114, 111, 111, 116]) = true := by rw [k1]; simp [i0]
          clear k1 k2
          have HV : Hid (decide ((i = 0 ∨ i = 4) ∧ S.right vv2.data.toList = false) = !S.right vv2.data.toList) := Lib.hid (by rw [i0]; cases S.right vv2.data.toList <;> rfl)
          clear i0
          go_wp2_with (go_at_call 62; refine (path_Right vv2 _ (by have := HVS.out; omega)).mono ?_; rintro e w' ⟨rfl, n9, rfl⟩)
          go_meet
          exact ⟨by rw [HV.out], HR5.out, HF5.out.drewN _⟩
        · by_cases i4 : i = 4
          · have e1 : (kv2.toList == [114, 111, 111, 116]) = false := by rw [k1]; simp [i0]
            have e2 : (kv2.toList == [115, 111, 117, 114, 99, 101]) = true := by rw [k2]; simp [i4]
            clear k1 k2
            have HV : Hid (decide ((i = 0 ∨ i = 4) ∧ S.right vv2.data.toList = false) = !S.right vv2.data.toList) := Lib.hid (by rw [i4]; cases S.right vv2.data.toList <;> rfl)
            clear i0 i4
            go_wp2_with (go_at_call 62; refine (path_Right vv2 _ (by have := HVS.out; omega)).mono ?_; rintro e w' ⟨rfl, n9, rfl⟩)
            go_meet
            exact ⟨by rw [HV.out], HR5.out, HF5.out.drewN _⟩
          · have e1 : (kv2.toList == [114, 111, 111, 116]) = false := by rw [k1]; simp [i0]
            have e2 : (kv2.toList == [115, 111, 117, 114, 99, 101]) = false := by rw [k2]; simp [i4]
            clear k1 k2
            have HV : Hid (decide ((i = 0 ∨ i = 4) ∧ S.right vv2.data.toList = false) = false) := Lib.hid (by simp [i0, i4])
            clear i0 i4
            go_wp2
            go_meet
            exact ⟨by rw [HV.out], HR5.out, HF5.out⟩
      case rest =>
        clear HR5 HF5
        obtain ⟨rfl, hr6, hf6⟩ := hcut
        have HR6 := Lib.hid hr6
        have HF6 := Lib.hid hf6
        clear hr6 hf6
        go_upto_if 105 with (fail)
        go_cut [] (fun wx => RdAt B g (if (i = 0 ∨ i = 4) ∧ S.right vv2.data.toList = false then R1.wrong at_ 7 else R1) wx ∧ Fr B g W wx)
        case first =>
          by_cases hp : (i = 0 ∨ i = 4) ∧ S.right vv2.data.toList = false
          · have e1 : decide ((i = 0 ∨ i = 4) ∧ S.right vv2.data.toList = false) = true := decide_eq_true hp
            have HP := Lib.hid hp
            clear hp
            rw [e1]
            go_wp2_with fail
            refine (dent_wrong B g R1 at_ 7 _ HR6.out).mono ?_
            rintro e w4 ⟨rfl, hr4, hf4⟩
            go_wp2
            go_meet
            exact ⟨by rw [if_pos HP.out]; exact hr4, HF6.out.trans hf4⟩
          · have e1 : decide ((i = 0 ∨ i = 4) ∧ S.right vv2.data.toList = false) = false := decide_eq_false hp
            have HP := Lib.hid hp
            clear hp
            rw [e1]
            go_wp2
            go_meet
            exact ⟨by rw [if_neg HP.out]; exact HR6.out, HF6.out⟩
        case rest =>
          clear HR6 HF6
          obtain ⟨hr7, hf7⟩ := hcut
          have HBW7 : Hid (B ≤ wc.heap.size) := Lib.hid (Nat.le_trans hBW hf7.size)
          obtain ⟨R2, hR2⟩ : ∃ R2, R2 = (if (i = 0 ∨ i = 4) ∧ S.right vv2.data.toList = false then R1.wrong at_ 7 else R1) := ⟨_, rfl⟩
          rw [← hR2] at hr7
          have HR2e := Lib.hid hR2
          have HR7 := Lib.hid hr7
          have HF7 := Lib.hid hf7
          have HN2 : Hid (R2.has.length ≤ 100000) := Lib.hid (by rw [hR2, ite_wrong_has, HR1e.out, ite_wrong_has]; exact HNH.out)
          have HL2 : Hid (R2.l = (r.begin at_).l) := Lib.hid (by rw [hR2, ite_wrong_l, HR1e.out, ite_wrong_l])
          clear hr7 hf7 hR2
          go_upto_region 18 with (fail)
          go_cut [] (fun wx => RdAt B g { R2 with has := R2.has ++ [i] } wx ∧ Fr B g W wx)
          case first =>
            obtain ⟨vl, vh, hb, hl, hh⟩ := HR7.out
            have q3 : wc.cell? ⟨g, 3, none⟩ = some vh := by rw [cell_of_blk hb 3]; rfl
            have HB7 := Lib.hid hb
            have HL7 := Lib.hid hl
            have HH7 : Hid (wc.ownsRow B 9 1 vh (R2.has.map keyVal).length (R2.has.map keyVal)) := Lib.hid (by rw [List.length_map]; exact hh)
            clear hb hl hh
            go_wp2_with (at_builtin; (refine print_append (w0 := wc) (W := wc) B rfl _ _ 36 9 _ 16 rfl Tryz.underlying36 info_string rfl (by decide) vh (R2.has.map keyVal) (.string kv2) rfl rfl rfl HH7.out (Below.refl _ _) HBW7.out (by rw [List.length_map]; have := HN2.out; omega) ?_); intro vh1 W5 hown hbel hgr hat; obtain ⟨A1, cap1, rfl⟩ := own_slice hown; (have hb5 := grown_blk HH7.out hgr HB7.out (by decide)); (have hl5 := own_grown HL7.out hgr (fun k c hk hc cs f he => by obtain ⟨_, cs', h3⟩ := own_blk HH7.out k hk; rw [h3] at hc; injection hc with hc; rw [← hc] at he; injection he with _ h4; exact absurd h4 (by decide))); (have hF5 : Fr B g W W5 := HF7.out.grown_own HH7.out hgr tch_string); (have p3 : W5.cell? ⟨g, 3, none⟩ = some vh := by rw [cell_of_blk hb5 3]; rfl); (have f3 := frozen_blk hb5 3); (have HO := Lib.hid hown); (have HG5 := Lib.hid hb5); (clear hown hgr))
            try go_wp2
            go_meet
            have hlen : (List.map keyVal R2.has ++ [Value.string kv2]).length = R2.has.length + 1 := by simp
            have h7 := HO.out
            rw [hlen] at h7
            have e1 := blk_set' HG5.out 3 (.slice A1 (R2.has.length + 1) cap1)
            refine ⟨⟨vl, .slice A1 (R2.has.length + 1) cap1, ?_, ?_, ?_⟩, hF5.setG _ _⟩
            · rw [e1]; rfl
            · exact own_set hl5 HG5.out (by decide) (i := 3) _
            · have h6 := own_set h7 HG5.out (by decide) (i := 3) (.slice A1 (R2.has.length + 1) cap1)
              have hkv : keyVal i = .string kv2 := by simp only [keyVal, List.getD_eq_getElem?_getD, HK.out]; rfl
              simp only [List.map_append, List.map_cons, List.map_nil, hkv, List.length_append, List.length_singleton]
              exact h6
          case rest =>
            clear HR7 HF7
            obtain ⟨hr8, hf8⟩ := hcut
            have HR8 := Lib.hid hr8
            have HBW8 : Hid (B ≤ wc.heap.size) := Lib.hid (Nat.le_trans hBW hf8.size)
            have HF8 := Lib.hid hf8
            clear hr8 hf8
            obtain ⟨vl, vh, hb, hl, hh⟩ := HR8.out
            have hne : ({ R2 with has := R2.has ++ [i] } : S.Rd).l ≠ [] := by show R2.l ≠ []; rw [HL2.out]; exact HNE.out
            obtain ⟨gl, cap, rfl, hgB2, hgl⟩ := own_form hl hne
            have q2 : wc.cell? ⟨g, 2, none⟩ = some (.slice (some ⟨gl, 0, none⟩) R2.l.length cap) := by rw [cell_of_blk hb 2]; rfl
            have HNL : Hid (1 ≤ R2.l.length ∧ R2.l.length ≤ 100001 ∧ R2.l.length ≤ cap) := own_room hl hne (by show R2.l.length ≤ _; rw [HL2.out]; exact HNL0.out)
            obtain ⟨k, hk1⟩ : ∃ k, R2.l.length = k + 1 := ⟨R2.l.length - 1, by have := HNL.out.1; omega⟩
            have n2 : k + 1 ≤ 100001 := by have := HNL.out.2.1; omega
            have n3 : k + 1 ≤ cap := by have := HNL.out.2.2; omega
            rw [hk1] at q2
            have HK1 := Lib.hid hk1
            clear hk1
            have w1 : IntKind.i64.wrap (k : Int) = (k : Int) := IntWalk.i64_in _ (by omega)
            have HB8 := Lib.hid hb
            have HL8 := Lib.hid hl
            have HH8 := Lib.hid hh
            clear hb hl hh hne
            go_upto_region 19 with (fail)
            go_cut [13, 14] (fun s13 s14 wx => ∃ b1 b2 : Nat, s13 = .slice (some ⟨b1, 0, none⟩) 5 5 ∧ s14 = .slice (some ⟨b2, 0, none⟩) 5 5 ∧ wx.heap[b1]? = some (.cells (keyNames.map Value.string).toArray 9 (0, 0)) ∧ wx.heap[b2]? = some (.cells #[.pointer (some ⟨gl, k * 5, none⟩), .pointer (some ⟨gl, k * 5 + 1, none⟩), .pointer (some ⟨gl, k * 5 + 2, none⟩), .pointer (some ⟨gl, k * 5 + 3, none⟩), .pointer (some ⟨gl, k * 5 + 4, none⟩)] 56 (0, 0)) ∧ Below wc.heap.size wc wx)
            case first =>
              go_region_with (go_at_call 23; refine (dent_fields gl (k * 5) _).mono ?_; rintro e w4 ⟨b1, b2, rfl, h1, h2, h3, h4, hb4⟩)
              all_goals go_wp2_with fail
              all_goals go_meet
              all_goals exact ⟨b1, b2, rfl, rfl, h3, h4, ((Below.refl wc.heap.size wc).drew).trans hb4⟩
            case rest =>
              obtain ⟨b1, b2, rfl, rfl, hb1, hb2, hbel⟩ := hcut
              have pc : wc.cell? ⟨b2, i, none⟩ = some (.pointer (some ⟨gl, k * 5 + i, none⟩)) := by
                rw [cell_of_blk hb2 i]
                have hi := HI5.out
                rcases i with _ | _ | _ | _ | _ | i
                all_goals first | rfl | omega
              have HNAMES := Lib.hid hb1
              have hb2lt : b2 < wc.heap.size := (Array.getElem?_eq_some_iff.1 hb2).1
              have hi5' := HI5.out
              have HRW : Hid (RdAt B g { R2 with has := R2.has ++ [i] } wc) := Lib.hid (HR8.out.below hbel)
              obtain ⟨vl8, vh8, hb8, hl8, hh8⟩ := HRW.out
              obtain ⟨gl2, cap2, rfl, _, _⟩ := own_form hl8 (by show R2.l ≠ []; rw [HL2.out]; exact HNE.out)
              have HSAME : Hid (gl2 = gl) := by
                have h1 := (hbel.block g (Array.getElem?_eq_some_iff.1 HB8.out).1).trans HB8.out
                rw [hb8] at h1
                simp at h1
                exact Lib.hid h1.1.1
              have hcc : wc.cell? ⟨gl2, k * 5 + i, none⟩ = (lkCells R2.l)[k * 5 + i]? := hl8.cellAt (k * 5 + i) (by show k * 5 + i < R2.l.length * 5; rw [HK1.out]; omega)
              have hff : wc.frozen? ⟨gl2, k * 5 + i, none⟩ = false := hl8.frozenAt (k * 5 + i)
              rw [HSAME.out] at hcc hff
              obtain ⟨vold, hvold⟩ : ∃ v, (lkCells R2.l)[k * 5 + i]? = some v := ⟨_, List.getElem?_eq_getElem (by rw [lkCells_length, HK1.out]; omega)⟩
              rw [hvold] at hcc
              have hgl2 : gl < wc.heap.size := World.block_lt_of_cell? wc _ hcc
              have HBL8 := Lib.hid hbel
              have HGW8 : Hid (g < wc.heap.size) := Lib.hid (Array.getElem?_eq_some_iff.1 hb8).1
              have HS8 : Hid (wc.cell? ⟨g, 2, none⟩ = some (.slice (some ⟨gl, 0, none⟩) (k + 1) cap)) := Lib.hid ((hbel.cell (p := ⟨g, 2, none⟩) (Array.getElem?_eq_some_iff.1 HB8.out).1).trans q2)
              have HF9 : Hid (Fr B g W wc) := Lib.hid (HF8.out.trans (Fr.of_below hbel))
              have HBW9 : Hid (B ≤ wc.heap.size) := Lib.hid (Nat.le_trans HBW8.out hbel.size)
              clear hb8 hl8 hh8 hvold hb1 hb2 hbel
              go_upto_region 20 with (fail)
              go_region_with (first | (go_at_call 64; refine (names_index b1 i kv2 _ (by exact HNAMES.out) HK.out).mono ?_; rintro e w4 ⟨rfl, rfl⟩) | (go_at_call 63; refine (strings_Clone vv2 _ (by have := HVS.out; omega) (by have := HVS.out; omega)).mono ?_; rintro e w5 ⟨rfl, hcl⟩; (have hc5 : w5.cell? ⟨gl, k * 5 + i, none⟩ = some vold := (hcl.cell (p := ⟨gl, k * 5 + i, none⟩) hgl2).trans hcc); (have hf5 : w5.frozen? ⟨gl, k * 5 + i, none⟩ = false := (hcl.frozen (p := ⟨gl, k * 5 + i, none⟩) hgl2).trans hff); (have pc5 : w5.cell? ⟨b2, i, none⟩ = some (.pointer (some ⟨gl, k * 5 + i, none⟩)) := (hcl.cell (p := ⟨b2, i, none⟩) hb2lt).trans pc)))
              all_goals go_wp2_with fail
              all_goals go_end0
              all_goals
                have hB9 : Below wc.heap.size wc w5 := ((Below.refl wc.heap.size wc).drew).trans hcl
                have hRW9 := HRW.out.below hB9
                have hs9 : w5.cell? ⟨g, 2, none⟩ = some (.slice (some ⟨gl, 0, none⟩) (k + 1) cap) := (hB9.cell (p := ⟨g, 2, none⟩) HGW8.out).trans HS8.out
                obtain ⟨hr10, hf10⟩ := RdAt.setField hRW9 hs9 HK1.out HI5.out vv2.data.toList
                rw [show bstr vv2.data.toList = Value.string vv2 by simp only [bstr, str_back]] at hr10 hf10
                have hF : Fr B g W w5 := HF9.out.trans (Fr.of_below hB9)
                have hfin : (r.begin at_).field at_ i vv2.data.toList = { R2 with has := R2.has ++ [i], l := S.setLast R2.l i vv2.data.toList } := by
                  simp only [S.Rd.field]
                  rw [show (r.begin at_).has.contains i = hasB (r.begin at_).has i from rfl, ← HR1e.out, ← HR2e.out]
                rw [hfin]
                first
                  | exact ⟨rfl, hr10, hF.trans hf10⟩
                  | exact ⟨rfl, hr10.below (by exact below_dN (Below.refl _ _) _), (hF.trans hf10).drewN _⟩
    
end Go.Proofs.YtpcmkjimdhlhiaaGreatDoor.G
