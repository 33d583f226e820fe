import Derived.Test.YtpcmkjimdhlhiaaGreatDoorPx0
import Derived.Test.YtpcmkjimdhlhiaaGreatDoorGlob
import Derived.Test.YtpcmkjimdhlhiaaGreatDoorGB
namespace Go.Proofs.YtpcmkjimdhlhiaaGreatDoor.P
open Go.RowKit Go.Proofs.YtpcmkjimdhlhiaaGreatDoorW.PrintWords
open G (placeL placeC placeV lkCells lkVals bstr LocksOut)
/-- A lock, as the printed texts hold it. -/
def lkOf (x : S.Lk) : S43 := ⟨⟨x.root.toArray⟩, ⟨x.ver.toArray⟩, ⟨x.rev.toArray⟩, ⟨x.within.toArray⟩, ⟨x.src.toArray⟩⟩
def locksRes (a0 : ByteArray) (r : S.Rd) : List S43 × Int × Int × Int := if r.ec = 0 then (r.l.map lkOf, 0, 0, 0) else ([], placeL a0 r.wh, placeC a0 r.wh, (r.ec : Int))
def dent_Locks.g (a0 : ByteArray) : List S43 × Int × Int × Int := if 8000 < a0.size then ([], placeL a0 0, placeC a0 0, 2) else locksRes a0 (S.finish a0.data.toList)
def dent_Locks.f (a0 : ByteArray) : Option (List (S43) × Int × Int × Int) := if a0.size ≤ 10000000 then some (dent_Locks.g a0) else none
theorem lkCells_drop : ∀ (l : List S.Lk) (j : Nat) (x : S.Lk), l[j]? = some x → ((lkCells l).drop (j * 5)).take 5 = lkVals x
  | [], j, x, h => by simp at h
  | y :: r, 0, x, h => by
    simp only [List.getElem?_cons_zero, Option.some.injEq] at h
    subst h
    rfl
  | y :: r, j + 1, x, h => by
    rw [List.getElem?_cons_succ] at h
    have ih := lkCells_drop r j x h
    have e : (lkCells (y :: r)).drop ((j + 1) * 5) = (lkCells r).drop (j * 5) := by
      rw [show (j + 1) * 5 = 5 + j * 5 from by omega, ← List.drop_drop]
      rfl
    rw [e, ih]
theorem reps_locks (w : World) (base : Nat) (ok : Nat → Prop) (l : List S.Lk) : Reps (k43.M w base ok) 5 (l.map lkOf) (lkCells l) := by
  refine ⟨by rw [G.lkCells_length, List.length_map], fun j p hj => ?_⟩
  rw [List.getElem?_map] at hj
  obtain ⟨x, hx, rfl⟩ := Option.map_eq_some_iff.1 hj
  rw [lkCells_drop l j x hx]
  exact k43_mkM w base ok (lkOf x)
theorem rows_locks {w : World} {base : Nat} {v : Value} {l : List S.Lk} (h : w.ownsRow base 43 5 v l.length (lkCells l)) : Kd.R k43 43 w base (fun _ => True) v (l.map lkOf) :=
  ⟨fun _ _ => trivial, lkCells l, by rw [List.length_map]; exact h, reps_locks _ _ _ _⟩
theorem dent_Locks.calls (a0 : ByteArray) (r1 : List (S43)) (r2 : Int) (r3 : Int) (r4 : Int) (w : World) (hG : GlobOk w) (h : dent_Locks.f a0 = some (r1, r2, r3, r4)) :
    Calls Tryz.prog 13 #[.string a0] w fun e w' => ∃ v0_ : Value, e = .returned (.tuple #[v0_, .agg #[.int .i64 r2, .int .i64 r3], .int .i64 r4]) ∧ Kd.R k43 43 w' w.heap.size (fun _ => True) v0_ r1 ∧ Below w.heap.size w w' := by
  unfold dent_Locks.f at h
  split at h
  · rename_i hs
    have hg := Option.some.inj h
    obtain ⟨m, hm⟩ := hG.out
    refine (G.dent_Locks a0 w hs m hm).mono fun e w' ho => ?_
    obtain ⟨v, c, he, hc, hr, hb⟩ := ho
    refine ⟨v, ?_, ?_, hb⟩
    · rw [he]
      unfold dent_Locks.g at hg
      by_cases h8 : 8000 < a0.size
      · rw [if_pos h8] at hg hc
        subst hc
        simp only [Prod.mk.injEq] at hg
        obtain ⟨rfl, rfl, rfl, rfl⟩ := hg
        rw [if_neg (by omega), if_pos h8]
        rfl
      · rw [if_neg h8] at hg hc
        unfold locksRes at hg
        by_cases hz : (S.finish a0.data.toList).ec = 0
        · rw [if_pos hz] at hg
          rw [hz] at hc
          subst hc
          simp only [Prod.mk.injEq] at hg
          obtain ⟨rfl, rfl, rfl, rfl⟩ := hg
          rw [if_pos rfl]
          rfl
        · rw [if_neg hz] at hg
          simp only [Prod.mk.injEq] at hg
          obtain ⟨rfl, rfl, rfl, rfl⟩ := hg
          rw [hc, if_neg hz, if_neg h8]
          rfl
    · unfold dent_Locks.g at hg
      by_cases h8 : 8000 < a0.size
      · rw [if_pos h8] at hg hc
        subst hc
        simp only [Prod.mk.injEq] at hg
        obtain ⟨rfl, rfl, rfl, rfl⟩ := hg
        rw [if_neg (by omega)] at hr
        exact rows_locks (l := []) hr
      · rw [if_neg h8] at hg hc
        unfold locksRes at hg
        by_cases hz : (S.finish a0.data.toList).ec = 0
        · rw [if_pos hz] at hg
          rw [hz] at hc
          subst hc
          simp only [Prod.mk.injEq] at hg
          obtain ⟨rfl, rfl, rfl, rfl⟩ := hg
          rw [if_pos rfl] at hr
          exact rows_locks hr
        · rw [if_neg hz] at hg
          simp only [Prod.mk.injEq] at hg
          obtain ⟨rfl, rfl, rfl, rfl⟩ := hg
          rw [if_neg (by rw [hc]; exact hz)] at hr
          exact rows_locks (l := []) hr
  · cases h
end Go.Proofs.YtpcmkjimdhlhiaaGreatDoor.P
