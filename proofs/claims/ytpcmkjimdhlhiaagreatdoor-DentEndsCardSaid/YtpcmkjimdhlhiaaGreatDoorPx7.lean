-- written by wip/myprint.sh of this session (the kit's print with functions that are given by hand)
import Derived.Test.YtpcmkjimdhlhiaaGreatDoorPx0
namespace Go.Proofs.YtpcmkjimdhlhiaaGreatDoor.P
open Go.RowKit Go.Proofs.YtpcmkjimdhlhiaaGreatDoorW.PrintWords Go.Proofs.YtpcmkjimdhlhiaaGreatDoorW.PrintLast Go.Proofs.YtpcmkjimdhlhiaaGreatDoorW.PrintMore
attribute [local go_sem] max2_int min2_int max_two min_two max_three min_three max_four min_four   -- for this text's walks alone
set_option linter.unusedVariables false
set_option linter.unusedSimpArgs false

/-! ### transhumanceref1_Digits: function 73 -/
def transhumanceref1_Digits.f : Nat → Int → Option (ByteArray)
  | 0, _ => none
  | k + 1, a0 => if a0 ≥ 10 then ((transhumanceref1_Digits.f k (wrap64 (Int.tdiv a0 10))).bind fun t130 => ((transhumanceref1_Digits.f k (Int.tmod a0 10)).bind fun t131 => (if t130.size + t131.size ≤ 9223372036854775807 then (some (t130 ++ t131)) else (none)))) else (some (strOfNums (([(wrap64 (48 + a0)) % 256] : List Int))))
theorem transhumanceref1_Digits.mono_l : ∀ k, (∀ y0, LeO (transhumanceref1_Digits.f k y0) (transhumanceref1_Digits.f (k + 1) y0))
  | 0 => fun _ r h => by simp [transhumanceref1_Digits.f] at h
  | k + 1 => by
    have ih0 := transhumanceref1_Digits.mono_l k
    · intro y0
      unfold transhumanceref1_Digits.f
      repeat' first
      | (with_reducible exact ih0 _)
      | (with_reducible exact LeO.refl _)
      | (with_reducible exact LeO.none _)
      | (with_reducible refine LeO.ite ?_ ?_)
      | (with_reducible refine LeO.bind ?_ (fun _ => ?_))
      | exact ih0 _
      | exact LeO.none _
      | refine LeO.ite ?_ ?_
      | refine LeO.bind ?_ (fun _ => ?_)
theorem transhumanceref1_Digits.mono : ∀ a0 k, LeO (transhumanceref1_Digits.f k a0) (transhumanceref1_Digits.f (k + 1) a0) := by
  intro a0 k
  have ih0 := transhumanceref1_Digits.mono_l k
  exact ih0 a0
set_option maxHeartbeats 8000000 in
set_option maxRecDepth 100000 in
theorem transhumanceref1_Digits.calls (k : Nat) : ∀ (a0 : Int) (r : ByteArray) (w : World) (h : transhumanceref1_Digits.f k a0 = some r),
    Calls Tryz.prog 73 #[.int .i64 a0] w fun e w' => e = .returned (.string r) ∧ Below w.heap.size w w' := by
  induction k using Nat.strongRecOn with
  | _ k ih =>
  intro a0 r w h
  cases k with
  | zero => exact absurd h (by simp [transhumanceref1_Digits.f])
  | succ k =>
  simp only [transhumanceref1_Digits.f] at h
  have HB := Aside0.mk (Below.refl w.heap.size w)
  have H : (if a0 ≥ 10 then ((transhumanceref1_Digits.f k (wrap64 (Int.tdiv a0 10))).bind fun t130 => ((transhumanceref1_Digits.f k (Int.tmod a0 10)).bind fun t131 => (if t130.size + t131.size ≤ 9223372036854775807 then (some (t130 ++ t131)) else (none)))) else (some (strOfNums (([(wrap64 (48 + a0)) % 256] : List Int))))) = some r := h
  clear h
  by_cases c2 : a0 ≥ 10
  · rw [if_pos c2] at H
    have c2b0 : decide (10 ≤ a0) = true := decide_eq_true c2
    clear c2
    replace H := Option.bind_eq_some_iff.mp H
    obtain ⟨t130, A30, H⟩ := H
    replace H : ((transhumanceref1_Digits.f k (Int.tmod a0 10)).bind fun t131 => (if t130.size + t131.size ≤ 9223372036854775807 then (some (t130 ++ t131)) else (none))) = some r := H
    have A3 := Aside0.mk A30
    clear A30
    replace H := Option.bind_eq_some_iff.mp H
    obtain ⟨t131, A40, H⟩ := H
    replace H : (if t130.size + t131.size ≤ 9223372036854775807 then (some (t130 ++ t131)) else (none)) = some r := H
    have A4 := Aside0.mk A40
    clear A40
    by_cases c5 : t130.size + t131.size ≤ 9223372036854775807
    · rw [if_pos c5] at H
      have c5b0 := eq_true c5
      have c5b1 : decide (t130.size + t131.size ≤ 9223372036854775807) = true := decide_eq_true c5
      try have c5b2 : (9223372036854775807 < t130.size + t131.size) = False := eq_false (Nat.not_lt.2 c5)
      obtain rfl := Option.some.inj H
      go_enter Tryz.func73, Tryz.ntmps73
      go_wp2_with (first | ((with_reducible refine gate_callee (f := 73) rfl ?_); refine goesL_ (some 7) rfl rfl Tryz.func73 (by kernel_rfl) rfl #[.int .i64 (wrap64 (Int.tdiv a0 10))] rfl (by (try simp only [List.map_toArray, List.map_cons, List.map_nil]); first | done | rfl | (simp only [List.length_drop, List.length_take]; rfl) | (simp only [ByteArray.size_append, Int.natCast_add]; rfl) | (rw [ByteArray.size_append]; rfl) | (rw [ByteArray.size_append, Int.natCast_add]; rfl) | (rw [Int.add_comm]; rfl)) ?_; (with_reducible refine (ih k (by omega) (wrap64 (Int.tdiv a0 10)) t130 _ A3.out).mono ?_); rintro e w6 ⟨rfl, hb⟩; refine ⟨_, rfl, ?_⟩; have n0_ := Aside0.mk (below_step (by repeat (first | (with_reducible first | exact HB.out | apply below_alloc | apply pw_below_drewN | apply below_drew1) | exact HB.out)) hb); clear HB; have HB := n0_; clear n0_; (try clear hb); (try clear hb2); (try clear hk); (try clear hi)) | ((with_reducible refine gate_callee (f := 73) rfl ?_); refine goesL_ (some 10) rfl rfl Tryz.func73 (by kernel_rfl) rfl #[.int .i64 (Int.tmod a0 10)] rfl (by (try simp only [List.map_toArray, List.map_cons, List.map_nil]); first | done | rfl | (simp only [List.length_drop, List.length_take]; rfl) | (simp only [ByteArray.size_append, Int.natCast_add]; rfl) | (rw [ByteArray.size_append]; rfl) | (rw [ByteArray.size_append, Int.natCast_add]; rfl) | (rw [Int.add_comm]; rfl)) ?_; (with_reducible refine (ih k (by omega) (Int.tmod a0 10) t131 _ A4.out).mono ?_); rintro e w7 ⟨rfl, hb⟩; refine ⟨_, rfl, ?_⟩; have n0_ := Aside0.mk (below_step (by repeat (first | (with_reducible first | exact HB.out | apply below_alloc | apply pw_below_drewN | apply below_drew1) | exact HB.out)) hb); clear HB; have HB := n0_; clear n0_; (try clear hb); (try clear hb2); (try clear hk); (try clear hi)))
      go_ret
      exact ⟨by first | rfl | (simp [errW_none, errW_some] <;> rfl) | (simp [*, errW_none, errW_some] <;> rfl), by repeat (first | (with_reducible first | exact HB.out | apply below_alloc | apply pw_below_drewN | apply below_drew1) | exact HB.out)⟩
    · rw [if_neg c5] at H
      exact absurd H (by simp)
  · rw [if_neg c2] at H
    have c2b0 : decide (10 ≤ a0) = false := decide_eq_false c2
    clear c2
    obtain ⟨y132, hy132⟩ : ∃ y_ : List Int, y_ = (([(wrap64 (48 + a0)) % 256] : List Int)) := ⟨_, rfl⟩
    replace H : (some (strOfNums y132)) = some r := by first | (rw [hy132]; with_reducible exact H) | (have H2_ := (Option.bind_some _ _).symm.trans H; rw [hy132]; with_reducible exact H2_) | (have H2_ := (Option.bind_some _ _).symm.trans H; with_reducible exact H2_) | with_reducible exact H | (rw [hy132]; exact H) | exact H
    have Ny132 := Aside0.mk hy132
    clear hy132
    obtain rfl := Option.some.inj H
    go_enter Tryz.func73, Tryz.ntmps73
    go_wp2_with (first | ((with_reducible refine gate_dst (N := 15) rfl ?_); refine Kd.R_lit (Kd.int .u8) _ 5 ?hg (N := 15) ?hd (xs := ([(wrap64 (48 + a0)) % 256] : List Int)) (inner := [.int .u8 ((wrap64 (48 + a0)) % 256)]) (ok := fun _ => True) (okp := fun _ => True) ?hr ?hp (fun _ hk => hk) trivial (Below.refl _ _) (Nat.le_refl _) (by simp) ?_; (case hd => rfl); (case hg => rfl); (case hr => first | (go_simp; done) | (go_simp; rfl)); (case hp => exact (Reps.one (show Kd.M (Kd.int .u8) _ _ _ ((wrap64 (48 + a0)) % 256) [.int .u8 ((wrap64 (48 + a0)) % 256)] from rfl) (Reps.none _ _))); intro v133 w8 ho9 hb hg_ hnew_; clear hg_ hnew_; (first | rw [← Ny132.out] at ho9 | (simp only [Int.reduceToNat] at ho9; rw [← Ny132.out] at ho9)); have n0_ := Aside0.mk (Kd.R_lower ho9 (below_size (by repeat (first | (with_reducible first | exact HB.out | apply below_alloc | apply pw_below_drewN | apply below_drew1) | exact HB.out)))); have n1_ := Aside0.mk (below_step (by repeat (first | (with_reducible first | exact HB.out | apply below_alloc | apply pw_below_drewN | apply below_drew1) | exact HB.out)) hb); clear HB; have HO134 := n0_; have HB := n1_; clear n0_ n1_; clear hb ho9; have hcv10 := own_string (P := Tryz.prog) Tryz.underlying23 Tryz.underlying5 Tryz.underlying9 (Kd.own_of_R HO134.out)))
    go_ret
    exact ⟨by first | rfl | (simp [errW_none, errW_some] <;> rfl) | (simp [*, errW_none, errW_some] <;> rfl), by repeat (first | (with_reducible first | exact HB.out | apply below_alloc | apply pw_below_drewN | apply below_drew1) | exact HB.out)⟩

end Go.Proofs.YtpcmkjimdhlhiaaGreatDoor.P
