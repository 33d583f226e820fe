import Derived.Test.YtpcmkjimdhlhiaaGreatDoorPuGen
import Derived.Test.YtpcmkjimdhlhiaaGreatDoorPuDig
import Derived.Test.YtpcmkjimdhlhiaaGreatDoorPuVer
import Derived.Test.YtpcmkjimdhlhiaaGreatDoorPx14
import Derived.Test.YtpcmkjimdhlhiaaGreatDoorPx15
import Derived.Test.YtpcmkjimdhlhiaaGreatDoorGv2
set_option linter.unusedVariables false
set_option linter.unusedSimpArgs false
namespace Go.Proofs.YtpcmkjimdhlhiaaGreatDoor.Pure
open Go.RowKit Go.Proofs.YtpcmkjimdhlhiaaGreatDoor.P Go.Proofs.YtpcmkjimdhlhiaaGreatDoorW.PrintWords
open S (Bs plainS plainB right rightW Lk)
/-! The law's locks: each may be written, no root is there twice. -/
/-- A lock that may be written. -/
structure LkOk (x : Lk) : Prop where
  root : right x.root = true
  src : x.src = [] ∨ right x.src = true
  some : x.ver ≠ [] ∨ x.rev ≠ []
  pr : plainS x.root = true
  pv : plainS x.ver = true
  pe : plainS x.rev = true
  pw : plainS x.within = true
  ps : plainS x.src = true
  size : x.root.length ≤ 70 ∧ x.ver.length ≤ 70 ∧ x.rev.length ≤ 70 ∧ x.within.length ≤ 70 ∧ x.src.length ≤ 70
def tup (r : ByteArray × ByteArray × ByteArray × ByteArray × ByteArray) : Lk := ⟨r.1.data.toList, r.2.1.data.toList, r.2.2.1.data.toList, r.2.2.2.1.data.toList, r.2.2.2.2.data.toList⟩
def revB : ByteArray := ⟨#[48, 49, 50, 51, 52, 53, 54, 55, 56, 57, 97, 98, 99, 100, 101, 102, 48, 49, 50, 51, 52, 53, 54, 55]⟩
theorem rev_ok : ∀ n : Fin 13, plainS (revB.extract 0 (12 + n.val)).data.toList = true ∧ (revB.extract 0 (12 + n.val)).data.toList ≠ [] ∧ (revB.extract 0 (12 + n.val)).data.toList.length ≤ 70 := by decide +kernel
theorem len_size (a : ByteArray) (n : Nat) (h : a.size ≤ n) : a.data.toList.length ≤ n := by rw [← size_list]; exact h
theorem ne_of_size (a : ByteArray) (h : 1 ≤ a.size) : a.data.toList ≠ [] := by
  intro e
  rw [size_list, e] at h
  exact absurd h (by decide)
theorem w5_eq (a n : Int) : transhumancelaw5_within.f a n = wth a n := rfl
theorem lock_j1 (x1 x7 : Int) (x2 : List Int) (hx : x2.length ≤ 140737488351232) (r v e : ByteArray) (h7 : 0 ≤ x7) (h72 : x7 < 1099511627776) (hr : NameOk r) (hv : plainS v.data.toList = true ∧ v.size ≤ 70) (he : plainS e.data.toList = true ∧ e.data.toList.length ≤ 70) (hs : v.data.toList ≠ [] ∨ e.data.toList ≠ []) :
    Ev (fun k => transhumancelaw5_Lock.j1 k x1 x2 x7 r v e (⟨#[]⟩ : ByteArray) (⟨#[]⟩ : ByteArray)) (fun t => LkOk (tup t)) := by
  have mk : ∀ (w s : ByteArray), plainS w.data.toList = true → w.size ≤ 70 → (s = ⟨#[]⟩ ∨ NameOk s) → LkOk (tup (r, v, e, w, s)) := fun w s hw hw2 hsr => by
    obtain ⟨r1, r2, r3⟩ := hr
    refine ⟨r1, ?_, hs, r2, hv.1, he.1, hw, ?_, len_size _ _ (Nat.le_trans r3 (by decide)), len_size _ _ hv.2, he.2, len_size _ _ hw2, ?_⟩
    · rcases hsr with rfl | h
      · exact .inl rfl
      · exact .inr h.1
    · rcases hsr with rfl | h
      · rfl
      · exact h.2.1
    · rcases hsr with rfl | h
      · exact Nat.zero_le _
      · exact len_size _ _ (Nat.le_trans h.2.2 (by decide))
  by_cases c1 : (Int.tmod (wrap64 (Int.tdiv x7 36)) 3) = 0
  · refine Ev.succ (g := fun k => (transhumancelaw1_Plain.f k x2 20).bind fun t169 => (if (Int.tmod (wrap64 (Int.tdiv x7 108)) 4) = 0 then ((transhumancelaw4_Make.f k x1).bind fun t170 => (some (r, v, e, t169, t170))) else (some (r, v, e, t169, (⟨#[]⟩ : ByteArray))))) ?_ (fun k => by rw [transhumancelaw5_Lock.j1, if_pos c1])
    refine Ev.bind (plain_ev x2 20 (by omega) hx) (fun w hw => ?_)
    by_cases c2 : (Int.tmod (wrap64 (Int.tdiv x7 108)) 4) = 0
    · simp only [if_pos c2]
      exact Ev.bind (make4_ev x1) (fun s hs2 => Ev.pure (mk w s hw.1 (by omega) (.inr hs2)))
    · simp only [if_neg c2]
      exact Ev.pure (mk w _ hw.1 (by omega) (.inl rfl))
  · by_cases c2 : (Int.tmod (wrap64 (Int.tdiv x7 108)) 4) = 0
    · refine Ev.succ (g := fun k => (transhumancelaw4_Make.f k x1).bind fun t171 => (some (r, v, e, (⟨#[]⟩ : ByteArray), t171))) ?_ (fun k => by rw [transhumancelaw5_Lock.j1, if_neg c1, if_pos c2])
      exact Ev.bind (make4_ev x1) (fun s hs2 => Ev.pure (mk _ s rfl (by decide) (.inr hs2)))
    · refine Ev.succ (g := fun k => some (r, v, e, (⟨#[]⟩ : ByteArray), (⟨#[]⟩ : ByteArray))) ?_ (fun k => by rw [transhumancelaw5_Lock.j1, if_neg c1, if_neg c2])
      exact Ev.pure (mk _ _ rfl (by decide) (.inl rfl))
theorem o10 (x : Int) (a : 0 ≤ x) (b : x < 12) : wrap64 (12 + x) = 12 + x ∧ 0 ≤ 12 + x ∧ 12 + x ≤ 24 := by unfold wrap64; omega
theorem lock_j0 (x1 x7 : Int) (x2 : List Int) (hx : x2.length ≤ 140737488351232) (r v : ByteArray) (h7 : 0 ≤ x7) (h72 : x7 < 1099511627776) (hr : NameOk r) (hv : plainS v.data.toList = true ∧ v.size ≤ 70) (hs : Int.tmod x7 3 = 1 → v.data.toList ≠ []) :
    Ev (fun k => transhumancelaw5_Lock.j0 k x1 x2 x7 r v (⟨#[]⟩ : ByteArray) (⟨#[]⟩ : ByteArray) (⟨#[]⟩ : ByteArray)) (fun t => LkOk (tup t)) := by
  by_cases c : Int.tmod x7 3 = 1
  · exact Ev.succ (lock_j1 x1 x7 x2 hx r v ⟨#[]⟩ h7 h72 hr hv ⟨rfl, Nat.zero_le _⟩ (.inl (hs c))) (fun k => by rw [transhumancelaw5_Lock.j0, if_pos c])
  · obtain ⟨e1, e2, e3⟩ := tdiv_in x7 3 h7 (by omega) (by omega)
    obtain ⟨m1, m2, _⟩ := tmod_in (x7 / 3) 12 e2 (by omega)
    obtain ⟨n, hn⟩ := Int.eq_ofNat_of_zero_le m1
    obtain ⟨q1, q2, q3⟩ := o10 _ m1 m2
    rw [hn] at q1 q2 q3 m2
    have hlt : n < 13 := by clear e1 e2 e3 hn q1 q2 q3; omega
    obtain ⟨p1, p2, p3⟩ := rev_ok ⟨n, hlt⟩
    refine Ev.succ (lock_j1 x1 x7 x2 hx r v (revB.extract 0 (12 + n)) h7 h72 hr hv ⟨p1, p3⟩ (.inr p2)) (fun k => ?_)
    rw [transhumancelaw5_Lock.j0, if_neg c, e1, hn, q1, if_pos q2, if_pos q3]
    have : (12 + (n : Int)).toNat = 12 + n := by clear e1 e2 e3 hn q1 q2 q3; omega
    rw [this]
    rfl
theorem lock_ev (a0 a1 : Int) (l2 : List Int) (hx : l2.length ≤ 140737488351232) : Ev (fun k => transhumancelaw5_Lock.f k a0 a1 l2) (fun t => LkOk (tup t)) := by
  obtain ⟨t, ht, h0, h1⟩ := wth_some a0 1099511627776 (by omega) (by omega)
  refine Ev.eq (g := fun k => (transhumancelaw4_Make.f k t).bind fun t162 => (if (Int.tmod t 3) > 0 then ((transhumancelaw2_Make.f k a1 a0).bind fun bt164 => ((transhumanceref2_Text.f k bt164.1 bt164.2.1 bt164.2.2.1 bt164.2.2.2).bind fun t168 => (transhumancelaw5_Lock.j0 k a1 l2 t t162 t168 (⟨#[]⟩ : ByteArray) (⟨#[]⟩ : ByteArray) (⟨#[]⟩ : ByteArray)))) else (transhumancelaw5_Lock.j0 k a1 l2 t t162 (⟨#[]⟩ : ByteArray) (⟨#[]⟩ : ByteArray) (⟨#[]⟩ : ByteArray) (⟨#[]⟩ : ByteArray)))) ?_ (fun k => by unfold transhumancelaw5_Lock.f; rw [w5_eq, ht, Option.bind_some])
  refine Ev.bind (make4_ev t) (fun r hr => ?_)
  by_cases c : Int.tmod t 3 > 0
  · simp only [if_pos c]
    refine Ev.bind (make2_ev a1 a0) (fun v hv => ?_)
    obtain ⟨⟨a1, a2⟩, ⟨b1, b2⟩, ⟨c1, c2⟩, p, s⟩ := hv
    obtain ⟨va, vb, vc, vp⟩ := v
    obtain ⟨va, rfl⟩ := Int.eq_ofNat_of_zero_le a1
    obtain ⟨vb, rfl⟩ := Int.eq_ofNat_of_zero_le b1
    obtain ⟨vc, rfl⟩ := Int.eq_ofNat_of_zero_le c1
    refine Ev.bind (text2_ev va vb vc vp (Int.ofNat_lt.1 a2) (Int.ofNat_lt.1 b2) (Int.ofNat_lt.1 c2) p s) (fun w hw => ?_)
    exact lock_j0 _ t l2 hx r w h0 h1 hr ⟨hw.1, hw.2.2⟩ (fun _ => ne_of_size w hw.2.1)
  · simp only [if_neg c]
    exact lock_j0 _ t l2 hx r _ h0 h1 hr ⟨rfl, by decide⟩ (fun h => absurd h (by omega))
/-! the row of locks -/
abbrev SL := S43
def toLk (x : SL) : Lk := ⟨x.f0.data.toList, x.f1.data.toList, x.f2.data.toList, x.f3.data.toList, x.f4.data.toList⟩
theorem lkOf_toLk (x : SL) : lkOf (toLk x) = x := by cases x; rfl
theorem toLk_lkOf (x : Lk) : toLk (lkOf x) = x := by cases x; rfl
def samef (r0 : ByteArray) (y : SL) : Bool := y.f0.toList == r0.toList
theorem take_any (f : SL → Bool) (l : List SL) (i : Nat) (h : i < l.length) : (l.take (i + 1)).any f = ((l.take i).any f || f (l.getD i z43)) := by
  rw [List.take_succ_eq_append_getElem h, List.any_append, List.getD_eq_getElem?_getD, List.getElem?_eq_getElem h]
  simp
theorem locks_l1 (x0 x1 : List Int) (x2 x8 : Int) (x7 : List SL) (r0 r1 r2 r3 r4 : ByteArray) (P : List SL → Prop) (hlen : x7.length < 1759218604441)
    (h1 : x7.any (samef r0) = true → Ev (fun k => transhumancelaw5_Locks.l0 k x0 x1 x2 x7 (wrap64 (x8 + 1))) P)
    (h2 : x7.any (samef r0) = false → Ev (fun k => transhumancelaw5_Locks.l0 k x0 x1 x2 (x7 ++ [(⟨r0, r1, r2, r3, r4⟩ : SL)]) (wrap64 (x8 + 1))) P) (d : Nat) :
    ∀ (i : Nat) (b : Bool), i ≤ x7.length → x7.length - i = d → b = (x7.take i).any (samef r0) → Ev (fun k => transhumancelaw5_Locks.l1 k x0 x1 x2 x7 x8 b (i : Int) r0 r1 r2 r3 r4) P := by
  induction d with
  | zero =>
    intro i b hi hd hb
    obtain rfl : i = x7.length := by omega
    rw [List.take_length] at hb
    cases hc : x7.any (samef r0) with
    | true =>
      rw [hc] at hb
      subst hb
      exact Ev.succ (h1 hc) (fun k => by rw [transhumancelaw5_Locks.l1, if_neg (by omega), if_pos rfl])
    | false =>
      rw [hc] at hb
      subst hb
      exact Ev.succ (h2 hc) (fun k => by rw [transhumancelaw5_Locks.l1, if_neg (by omega), if_neg (by simp), if_pos hlen])
  | succ d ih =>
    intro i b hi hd hb
    have hw : wrap64 ((i : Int) + 1) = ((i + 1 : Nat) : Int) := by unfold wrap64; omega
    have ht := take_any (samef r0) x7 i (by omega)
    cases b with
    | true =>
      rw [← hb, Bool.true_or] at ht
      exact Ev.succ (ih (i + 1) true (by omega) (by omega) ht.symm) (fun k => by rw [transhumancelaw5_Locks.l1, if_pos (by omega), if_pos rfl, hw])
    | false =>
      rw [← hb, Bool.false_or] at ht
      refine Ev.succ (ih (i + 1) _ (by omega) (by omega) ht.symm) (fun k => ?_)
      rw [transhumancelaw5_Locks.l1, if_pos (by omega), if_neg (by simp), if_pos (by omega), hw]
      rfl
structure AllOk (n : Nat) (L : List SL) : Prop where
  ok : ∀ x ∈ L, LkOk (toLk x)
  nodup : (L.map (·.f0)).Nodup
  len : L.length ≤ n
theorem any_same (r0 : ByteArray) (L : List SL) (h : L.any (samef r0) = false) : r0 ∉ L.map (·.f0) := by
  intro hm
  obtain ⟨x, hx, rfl⟩ := List.mem_map.1 hm
  have := List.any_eq_false.1 h x hx
  exact this (by simp [samef])
theorem locks_go (x0 x1 : List Int) (most : Nat) (hx : x1.length ≤ 140737488351232) (h0 : x0.length ≤ 140737488351232) (hm : most ≤ 1000) (d : Nat) : ∀ (i : Nat) (x7 : List SL), i ≤ x0.length → x0.length - i = d → AllOk (min i most) x7 →
    Ev (fun k => transhumancelaw5_Locks.l0 k x0 x1 (most : Int) x7 (i : Int)) (AllOk most) := by
  have stop : ∀ (i : Nat) (x7 : List SL), ¬ ((i : Int) < (x0.length : Int) ∧ (i : Int) < (most : Int)) → AllOk most x7 → Ev (fun k => transhumancelaw5_Locks.l0 k x0 x1 (most : Int) x7 (i : Int)) (AllOk most) := fun i x7 hn ha => by
    refine Ev.of ha 2 (fun k hk => ?_)
    obtain ⟨k, rfl⟩ : ∃ m, k = m + 2 := ⟨k - 2, by omega⟩
    have hj : transhumancelaw5_Locks.j1 (k + 1) x0 x1 (most : Int) x7 (i : Int) false = some x7 := by rw [transhumancelaw5_Locks.j1, if_neg (by simp)]
    show transhumancelaw5_Locks.l0 (k + 1 + 1) _ _ _ _ _ = _
    rw [transhumancelaw5_Locks.l0]
    split
    · rename_i h1
      have : decide ((i : Int) < (most : Int)) = false := decide_eq_false (fun h => hn ⟨h1, h⟩)
      rw [this, hj]
    · exact hj
  induction d with
  | zero =>
    intro i x7 hi hd ha
    exact stop i x7 (by omega) ⟨ha.ok, ha.nodup, Nat.le_trans ha.len (Nat.min_le_right _ _)⟩
  | succ d ih =>
    intro i x7 hi hd ha
    have hlen := ha.len
    by_cases hlt : i < most
    · have hw : wrap64 ((i : Int) + 1) = ((i + 1 : Nat) : Int) := by unfold wrap64; omega
      refine Ev.succ (g := fun k => transhumancelaw5_Locks.j1 k x0 x1 (most : Int) x7 (i : Int) true) ?_ (fun k => by rw [transhumancelaw5_Locks.l0, if_pos (by omega), decide_eq_true (by omega)])
      refine Ev.succ (g := fun k => (transhumancelaw5_Lock.f k (rd x0 (i : Int)) (wrap64 (Int.tdiv (rd x0 (i : Int)) 7)) x1).bind fun bt174 => (transhumancelaw5_Locks.l1 k x0 x1 (most : Int) x7 (i : Int) false 0 bt174.1 bt174.2.1 bt174.2.2.1 bt174.2.2.2.1 bt174.2.2.2.2)) ?_ (fun k => by rw [transhumancelaw5_Locks.j1, if_pos rfl, if_pos (by omega), if_pos (by omega)])
      refine Ev.bind (lock_ev _ _ x1 hx) (fun t ht => ?_)
      refine locks_l1 x0 x1 most i x7 _ _ _ _ _ (AllOk most) (by omega) (fun _ => ?_) (fun hn => ?_) x7.length 0 false (Nat.zero_le _) (by omega) (by simp)
      · rw [hw]
        exact ih (i + 1) x7 (by omega) (by omega) ⟨ha.ok, ha.nodup, by omega⟩
      · rw [hw]
        refine ih (i + 1) _ (by omega) (by omega) ⟨fun x hx2 => ?_, ?_, ?_⟩
        · rcases List.mem_append.1 hx2 with h | h
          · exact ha.ok x h
          · rw [List.mem_singleton.1 h]; exact ht
        · rw [List.map_append, List.map_singleton, List.nodup_append]
          refine ⟨ha.nodup, by simp, fun a h b hb => ?_⟩
          rw [List.mem_singleton.1 hb]
          rintro rfl
          exact any_same _ _ hn h
        · rw [List.length_append, List.length_singleton]; omega
    · exact stop i x7 (by omega) ⟨ha.ok, ha.nodup, Nat.le_trans ha.len (Nat.min_le_right _ _)⟩
theorem locks_ev (ns s : List Int) (most : Nat) (hx : s.length ≤ 140737488351232) (h0 : ns.length ≤ 140737488351232) (hm : most ≤ 1000) : Ev (fun k => transhumancelaw5_Locks.f k ns s (most : Int)) (AllOk most) :=
  locks_go ns s most hx h0 hm ns.length 0 [] (Nat.zero_le _) (by omega) ⟨fun _ h => by (cases h), List.nodup_nil, Nat.zero_le _⟩
/-- Each head of the row is without an error. -/
theorem check_ok (n : Nat) (L : List SL) (h : AllOk n L) (k : Nat) : S.check ((L.take k).map toLk) = 0 := by
  rcases List.eq_nil_or_concat (L.take k) with he | ⟨l, x, he⟩
  · rw [he]; rfl
  · rw [List.concat_eq_append] at he
    rw [he, List.map_append]
    unfold S.check
    simp only [List.map_cons, List.map_nil, List.reverse_append, List.reverse_cons, List.reverse_nil, List.nil_append, List.singleton_append]
    have hx : x ∈ L := List.mem_of_mem_take (by rw [he]; simp : x ∈ L.take k)
    have hok := h.ok x hx
    have hr : (toLk x).root ≠ [] := by
      intro e
      have := hok.root
      rw [e] at this
      exact absurd this (by decide)
    rw [if_neg (by rintro (h1 | ⟨h1, h2⟩); exact hr h1; rcases hok.some with h3 | h3; exact h3 h2; exact h3 h1), if_neg]
    rw [Bool.not_eq_true, List.any_eq_false]
    intro y hy he2
    rw [List.mem_reverse, List.mem_map] at hy
    obtain ⟨y, hy, rfl⟩ := hy
    have hnd : ((L.take k).map (·.f0)).Nodup := by rw [List.map_take]; exact h.nodup.sublist (List.take_sublist _ _)
    rw [he, List.map_append, List.map_singleton, List.nodup_append] at hnd
    have h2 := hnd.2.2 y.f0 (List.mem_map.2 ⟨y, hy, rfl⟩) x.f0 (by simp)
    apply h2
    exact list_ext_bytes (eq_of_beq he2)
end Go.Proofs.YtpcmkjimdhlhiaaGreatDoor.Pure
