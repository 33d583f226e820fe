-- written by wip/myprint.sh of this session (the kit's print with functions that are given by hand)
import Derived.Test.YtpcmkjimdhlhiaaGreatDoorPx0
import Derived.Test.YtpcmkjimdhlhiaaGreatDoorPx5
namespace Go.Proofs.YtpcmkjimdhlhiaaGreatDoor.P
open Go.RowKit Go.Proofs.YtpcmkjimdhlhiaaGreatDoorW.PrintWords Go.Proofs.YtpcmkjimdhlhiaaGreatDoorW.PrintLast Go.Proofs.YtpcmkjimdhlhiaaGreatDoorW.PrintMore
attribute [local go_sem] max2_int min2_int max_two min_two max_three min_three max_four min_four   -- for this text's walks alone
set_option linter.unusedVariables false
set_option linter.unusedSimpArgs false

/-! ### transhumancelaw4_Make: function 43 -/
def transhumancelaw4_Make.l0 : Nat → Int → List ByteArray → ByteArray → Int → Option (ByteArray)
  | 0, _, _, _, _ => none
  | k + 1, x3, x4, x5, x6 => if x6 > 0 then (if x5.size + 1 ≤ 9223372036854775807 then (if 0 ≤ (Int.tmod (wrap64 (Int.tdiv x3 4)) 11) then (if (Int.tmod (wrap64 (Int.tdiv x3 4)) 11) < (x4.length : Int) then (if x5.size + 1 + (rdOf ByteArray.empty x4 (Int.tmod (wrap64 (Int.tdiv x3 4)) 11)).size ≤ 9223372036854775807 then (transhumancelaw4_Make.l0 k (wrap64 (Int.tdiv x3 4)) x4 ((x5 ++ (⟨#[47]⟩ : ByteArray)) ++ (rdOf ByteArray.empty x4 (Int.tmod (wrap64 (Int.tdiv x3 4)) 11))) (wrap64 (x6 - 1))) else (none)) else (none)) else (none)) else (none)) else (if (x5.size : Int) > 40 then (some (⟨#[97, 47, 98]⟩ : ByteArray)) else (some x5))
def transhumancelaw4_Make.f (k : Nat) (a0 : Int) : Option (ByteArray) := (transhumancelaw4_within.f a0 1099511627776).bind fun t124 => ((some (([(⟨#[97]⟩ : ByteArray), (⟨#[98]⟩ : ByteArray), (⟨#[97, 46, 98]⟩ : ByteArray), (⟨#[99, 45, 100]⟩ : ByteArray), (⟨#[118, 50]⟩ : ByteArray), (⟨#[118, 51]⟩ : ByteArray), (⟨#[118, 49]⟩ : ByteArray), (⟨#[118, 48, 50]⟩ : ByteArray), (⟨#[95]⟩ : ByteArray), (⟨#[108, 105, 98]⟩ : ByteArray), (⟨#[118, 50, 48]⟩ : ByteArray)] : List ByteArray) : List ByteArray)).bind fun y125 => (if 0 ≤ (Int.tmod t124 11) then (if (Int.tmod t124 11) < (y125.length : Int) then (transhumancelaw4_Make.l0 k (wrap64 (Int.tdiv t124 11)) y125 (rdOf ByteArray.empty y125 (Int.tmod t124 11)) (Int.tmod (wrap64 (Int.tdiv t124 11)) 4)) else (none)) else (none)))
theorem transhumancelaw4_Make.mono_l : ∀ k, (∀ y0 y1 y2 y3, LeO (transhumancelaw4_Make.l0 k y0 y1 y2 y3) (transhumancelaw4_Make.l0 (k + 1) y0 y1 y2 y3))
  | 0 => fun _ _ _ _ r h => by simp [transhumancelaw4_Make.l0] at h
  | k + 1 => by
    have ih0 := transhumancelaw4_Make.mono_l k
    · intro y0 y1 y2 y3
      unfold transhumancelaw4_Make.l0
      repeat' first
      | (with_reducible exact ih0 _ _ _ _)
      | (with_reducible exact LeO.refl _)
      | (with_reducible exact LeO.none _)
      | (with_reducible refine LeO.ite ?_ ?_)
      | (with_reducible refine LeO.bind ?_ (fun _ => ?_))
      | exact ih0 _ _ _ _
      | exact LeO.none _
      | refine LeO.ite ?_ ?_
      | refine LeO.bind ?_ (fun _ => ?_)
theorem transhumancelaw4_Make.mono : ∀ a0 k, LeO (transhumancelaw4_Make.f k a0) (transhumancelaw4_Make.f (k + 1) a0) := by
  intro a0 k
  have ih0 := transhumancelaw4_Make.mono_l k
  unfold transhumancelaw4_Make.f
  repeat' first
      | (with_reducible exact ih0 _ _ _ _)
      | (with_reducible exact LeO.refl _)
      | (with_reducible exact LeO.none _)
      | (with_reducible refine LeO.ite ?_ ?_)
      | (with_reducible refine LeO.bind ?_ (fun _ => ?_))
      | exact ih0 _ _ _ _
      | exact LeO.none _
      | refine LeO.ite ?_ ?_
      | refine LeO.bind ?_ (fun _ => ?_)
set_option maxHeartbeats 8000000 in
set_option maxRecDepth 100000 in
theorem transhumancelaw4_Make.calls (k : Nat) (a0 : Int) (r : ByteArray) (w : World) (h : transhumancelaw4_Make.f k a0 = some r) :
    Calls Tryz.prog 43 #[.int .i64 a0] w fun e w' => e = .returned (.string r) ∧ Below w.heap.size w w' := by
  have HB := Aside0.mk (Below.refl w.heap.size w)
  have H : ((transhumancelaw4_within.f a0 1099511627776).bind fun t124 => ((some (([(⟨#[97]⟩ : ByteArray), (⟨#[98]⟩ : ByteArray), (⟨#[97, 46, 98]⟩ : ByteArray), (⟨#[99, 45, 100]⟩ : ByteArray), (⟨#[118, 50]⟩ : ByteArray), (⟨#[118, 51]⟩ : ByteArray), (⟨#[118, 49]⟩ : ByteArray), (⟨#[118, 48, 50]⟩ : ByteArray), (⟨#[95]⟩ : ByteArray), (⟨#[108, 105, 98]⟩ : ByteArray), (⟨#[118, 50, 48]⟩ : ByteArray)] : List ByteArray) : List ByteArray)).bind fun y125 => (if 0 ≤ (Int.tmod t124 11) then (if (Int.tmod t124 11) < (y125.length : Int) then (transhumancelaw4_Make.l0 k (wrap64 (Int.tdiv t124 11)) y125 (rdOf ByteArray.empty y125 (Int.tmod t124 11)) (Int.tmod (wrap64 (Int.tdiv t124 11)) 4)) else (none)) else (none)))) = some r := h
  clear h
  replace H := Option.bind_eq_some_iff.mp H
  obtain ⟨t124, A20, H⟩ := H
  replace H : ((some (([(⟨#[97]⟩ : ByteArray), (⟨#[98]⟩ : ByteArray), (⟨#[97, 46, 98]⟩ : ByteArray), (⟨#[99, 45, 100]⟩ : ByteArray), (⟨#[118, 50]⟩ : ByteArray), (⟨#[118, 51]⟩ : ByteArray), (⟨#[118, 49]⟩ : ByteArray), (⟨#[118, 48, 50]⟩ : ByteArray), (⟨#[95]⟩ : ByteArray), (⟨#[108, 105, 98]⟩ : ByteArray), (⟨#[118, 50, 48]⟩ : ByteArray)] : List ByteArray) : List ByteArray)).bind fun y125 => (if 0 ≤ (Int.tmod t124 11) then (if (Int.tmod t124 11) < (y125.length : Int) then (transhumancelaw4_Make.l0 k (wrap64 (Int.tdiv t124 11)) y125 (rdOf ByteArray.empty y125 (Int.tmod t124 11)) (Int.tmod (wrap64 (Int.tdiv t124 11)) 4)) else (none)) else (none))) = some r := H
  have A2 := Aside0.mk A20
  clear A20
  obtain ⟨y125, hy125⟩ : ∃ y_ : List ByteArray, y_ = (([(⟨#[97]⟩ : ByteArray), (⟨#[98]⟩ : ByteArray), (⟨#[97, 46, 98]⟩ : ByteArray), (⟨#[99, 45, 100]⟩ : ByteArray), (⟨#[118, 50]⟩ : ByteArray), (⟨#[118, 51]⟩ : ByteArray), (⟨#[118, 49]⟩ : ByteArray), (⟨#[118, 48, 50]⟩ : ByteArray), (⟨#[95]⟩ : ByteArray), (⟨#[108, 105, 98]⟩ : ByteArray), (⟨#[118, 50, 48]⟩ : ByteArray)] : List ByteArray)) := ⟨_, rfl⟩
  replace H : (if 0 ≤ (Int.tmod t124 11) then (if (Int.tmod t124 11) < (y125.length : Int) then (transhumancelaw4_Make.l0 k (wrap64 (Int.tdiv t124 11)) y125 (rdOf ByteArray.empty y125 (Int.tmod t124 11)) (Int.tmod (wrap64 (Int.tdiv t124 11)) 4)) else (none)) else (none)) = some r := by first | (rw [hy125]; with_reducible exact H) | (have H2_ := (Option.bind_some _ _).symm.trans H; rw [hy125]; with_reducible exact H2_) | (have H2_ := (Option.bind_some _ _).symm.trans H; with_reducible exact H2_) | with_reducible exact H | (rw [hy125]; exact H) | exact H
  have Ny125 := Aside0.mk hy125
  clear hy125
  obtain ⟨ji3, hji3⟩ : ∃ j_ : Int, (Int.tmod t124 11) = j_ := ⟨_, rfl⟩
  replace H : (if 0 ≤ (ji3) then (if (ji3) < (y125.length : Int) then (transhumancelaw4_Make.l0 k (wrap64 (Int.tdiv t124 11)) y125 (rdOf ByteArray.empty y125 (ji3)) (Int.tmod (wrap64 (Int.tdiv t124 11)) 4)) else (none)) else (none)) = some r := by first | (rw [hji3] at H; exact H) | (simp only [hji3] at H ⊢; exact H)
  (try rw [hji3] at A2)
  by_cases c4 : 0 ≤ (ji3)
  · rw [if_pos c4] at H
    have c4b0 : decide (0 ≤ (ji3)) = true := decide_eq_true c4
    clear c4
    by_cases c5 : (ji3) < (y125.length : Int)
    · rw [if_pos c5] at H
      have c5b0 : decide ((ji3) < (y125.length : Int)) = true := decide_eq_true c5
      clear c5
      have H' := Aside0.mk H
      clear H
      go_enter Tryz.func43, Tryz.ntmps43
      go_wp2_with (first | ((with_reducible refine gate_callee (f := 72) rfl ?_); refine goesL_ (some 8) rfl rfl Tryz.func72 (by kernel_rfl) rfl #[.int .i64 a0, .int .i64 1099511627776] rfl (by (try simp only [List.map_toArray, List.map_cons, List.map_nil]); first | done | rfl | (simp only [List.length_drop, List.length_take]; rfl) | (simp only [ByteArray.size_append, Int.natCast_add]; rfl) | (rw [ByteArray.size_append]; rfl) | (rw [ByteArray.size_append, Int.natCast_add]; rfl) | (rw [Int.add_comm]; rfl)) ?_; (with_reducible refine (transhumancelaw4_within.calls a0 1099511627776 t124 _ A2.out).mono ?_); rintro e w' ⟨rfl, ⟨nd, rfl⟩⟩; refine ⟨_, rfl, ?_⟩) | ((with_reducible refine gate_dst (N := 9) rfl ?_); refine Kd.R_lit Kd.string _ 9 ?hg (N := 9) ?hd (xs := ([(⟨#[97]⟩ : ByteArray), (⟨#[98]⟩ : ByteArray), (⟨#[97, 46, 98]⟩ : ByteArray), (⟨#[99, 45, 100]⟩ : ByteArray), (⟨#[118, 50]⟩ : ByteArray), (⟨#[118, 51]⟩ : ByteArray), (⟨#[118, 49]⟩ : ByteArray), (⟨#[118, 48, 50]⟩ : ByteArray), (⟨#[95]⟩ : ByteArray), (⟨#[108, 105, 98]⟩ : ByteArray), (⟨#[118, 50, 48]⟩ : ByteArray)] : List ByteArray)) (inner := [.string (⟨#[97]⟩ : ByteArray), .string (⟨#[98]⟩ : ByteArray), .string (⟨#[97, 46, 98]⟩ : ByteArray), .string (⟨#[99, 45, 100]⟩ : ByteArray), .string (⟨#[118, 50]⟩ : ByteArray), .string (⟨#[118, 51]⟩ : ByteArray), .string (⟨#[118, 49]⟩ : ByteArray), .string (⟨#[118, 48, 50]⟩ : ByteArray), .string (⟨#[95]⟩ : ByteArray), .string (⟨#[108, 105, 98]⟩ : ByteArray), .string (⟨#[118, 50, 48]⟩ : ByteArray)]) (ok := fun _ => True) (okp := fun _ => True) ?hr ?hp (fun _ hk => hk) trivial (Below.refl _ _) (Nat.le_refl _) (by simp) ?_; (case hd => rfl); (case hg => rfl); (case hr => first | (go_simp; done) | (go_simp; rfl)); (case hp => exact (Reps.one (show Kd.M Kd.string _ _ _ (⟨#[97]⟩ : ByteArray) [.string (⟨#[97]⟩ : ByteArray)] from rfl) (Reps.one (show Kd.M Kd.string _ _ _ (⟨#[98]⟩ : ByteArray) [.string (⟨#[98]⟩ : ByteArray)] from rfl) (Reps.one (show Kd.M Kd.string _ _ _ (⟨#[97, 46, 98]⟩ : ByteArray) [.string (⟨#[97, 46, 98]⟩ : ByteArray)] from rfl) (Reps.one (show Kd.M Kd.string _ _ _ (⟨#[99, 45, 100]⟩ : ByteArray) [.string (⟨#[99, 45, 100]⟩ : ByteArray)] from rfl) (Reps.one (show Kd.M Kd.string _ _ _ (⟨#[118, 50]⟩ : ByteArray) [.string (⟨#[118, 50]⟩ : ByteArray)] from rfl) (Reps.one (show Kd.M Kd.string _ _ _ (⟨#[118, 51]⟩ : ByteArray) [.string (⟨#[118, 51]⟩ : ByteArray)] from rfl) (Reps.one (show Kd.M Kd.string _ _ _ (⟨#[118, 49]⟩ : ByteArray) [.string (⟨#[118, 49]⟩ : ByteArray)] from rfl) (Reps.one (show Kd.M Kd.string _ _ _ (⟨#[118, 48, 50]⟩ : ByteArray) [.string (⟨#[118, 48, 50]⟩ : ByteArray)] from rfl) (Reps.one (show Kd.M Kd.string _ _ _ (⟨#[95]⟩ : ByteArray) [.string (⟨#[95]⟩ : ByteArray)] from rfl) (Reps.one (show Kd.M Kd.string _ _ _ (⟨#[108, 105, 98]⟩ : ByteArray) [.string (⟨#[108, 105, 98]⟩ : ByteArray)] from rfl) (Reps.one (show Kd.M Kd.string _ _ _ (⟨#[118, 50, 48]⟩ : ByteArray) [.string (⟨#[118, 50, 48]⟩ : ByteArray)] from rfl) (Reps.none _ _))))))))))))); intro v126 w6 ho7 hb hg_ hnew_; clear hg_ hnew_; (first | rw [← Ny125.out] at ho7 | (simp only [Int.reduceToNat] at ho7; rw [← Ny125.out] at ho7)); have n0_ := Aside0.mk (Kd.R_lower ho7 (below_size (by repeat (first | (with_reducible first | exact HB.out | apply below_alloc | apply pw_below_drewN | apply below_drew1) | exact HB.out)))); have n1_ := Aside0.mk (below_step (by repeat (first | (with_reducible first | exact HB.out | apply below_alloc | apply pw_below_drewN | apply below_drew1) | exact HB.out)) hb); clear HB; have HO127 := n0_; have HB := n1_; clear n0_ n1_; clear hb ho7; obtain ⟨Ao8, co8, eo8⟩ := Kd.R_slice HO127.out; subst eo8; have p128 : 0 ≤ ((ji3) : Int) := of_decide_eq_true (by first | (with_reducible assumption) | assumption); have q128 : (ji3) < (y125.length : Int) := of_decide_eq_true (by first | (with_reducible assumption) | assumption); obtain ⟨ad128, e128, hx128_0⟩ := Kd.at_string (Kd.R_reads' HO127.out).2.2 (ji3) p128 q128; cases e128; replace p128 := eq_true p128; replace q128 := eq_true q128))
      go_loopg [3, 5, 6] k (fun kq v3 v5 v6 w' => ∃ (x3_1 : Int) (x5_1 : ByteArray) (x6_1 : Int), v3 = .int .i64 x3_1 ∧ v5 = .string x5_1 ∧ v6 = .int .i64 x6_1 ∧ Aside0 (transhumancelaw4_Make.l0 kq x3_1 y125 x5_1 x6_1 = some r) ∧ Aside0 (kq ≤ k) ∧ Aside0 (Kd.R Kd.string 9 w' w.heap.size (fun _ => True) (.slice (some ad128) y125.length co8) y125) ∧ Aside0 (Below w.heap.size w w'))
      case atStart => exact ⟨(wrap64 (Int.tdiv t124 11)), (rdOf ByteArray.empty y125 (ji3)), (Int.tmod (wrap64 (Int.tdiv t124 11)) 4), (by first | rfl | (simp; done) | (simp [*]; done)), (by first | rfl | (simp; done) | (simp only [← hji3] <;> (first | rfl | simp)) | (simp [*]; done)), (by first | rfl | (simp; done) | (simp [*]; done)), H', ⟨Nat.le_refl _⟩, ⟨by (with_reducible repeat (first | apply Kd.R_alloc | apply Kd.R_drewN | apply Kd.R_drew)); exact HO127.out⟩, ⟨by repeat (first | (with_reducible first | exact HB.out | apply below_alloc | apply pw_below_drewN | apply below_drew1) | exact HB.out)⟩⟩
      case round =>
        clear H'
        try clear p1
        try clear q1
        try clear hx1
        try clear p2
        try clear c4
        try clear c4b0
        try clear c5
        try clear c5b0
        try clear p6
        try clear c7
        try clear hx128_0
        try clear p128
        try clear q128
        obtain ⟨x3_1, x5_1, x6_1, rfl, rfl, rfl, HA, HK1, HO_4, HB⟩ := hrel
        cases gk with
        | zero => exact absurd HA.out (by simp [transhumancelaw4_Make.l0])
        | succ k1 =>
          have H := HA.out
          clear HA
          simp only [transhumancelaw4_Make.l0] at H
          by_cases c9 : x6_1 > 0
          · rw [if_pos c9] at H
            have c9b0 : decide (0 < x6_1) = true := decide_eq_true c9
            clear c9
            by_cases c10 : x5_1.size + 1 ≤ 9223372036854775807
            · rw [if_pos c10] at H
              have c10b0 := eq_true c10
              have c10b1 : decide (x5_1.size + 1 ≤ 9223372036854775807) = true := decide_eq_true c10
              try have c10b2 : (9223372036854775807 < x5_1.size + 1) = False := eq_false (Nat.not_lt.2 c10)
              obtain ⟨ji11, hji11⟩ : ∃ j_ : Int, (Int.tmod (wrap64 (Int.tdiv x3_1 4)) 11) = j_ := ⟨_, rfl⟩
              replace H : (if 0 ≤ (ji11) then (if (ji11) < (y125.length : Int) then (if x5_1.size + 1 + (rdOf ByteArray.empty y125 (ji11)).size ≤ 9223372036854775807 then (transhumancelaw4_Make.l0 k1 (wrap64 (Int.tdiv x3_1 4)) y125 ((x5_1 ++ (⟨#[47]⟩ : ByteArray)) ++ (rdOf ByteArray.empty y125 (ji11))) (wrap64 (x6_1 - 1))) else (none)) else (none)) else (none)) = some r := by first | (rw [hji11] at H; exact H) | (simp only [hji11] at H ⊢; exact H)
              by_cases c12 : 0 ≤ (ji11)
              · rw [if_pos c12] at H
                have c12b0 : decide (0 ≤ (ji11)) = true := decide_eq_true c12
                clear c12
                by_cases c13 : (ji11) < (y125.length : Int)
                · rw [if_pos c13] at H
                  have c13b0 : decide ((ji11) < (y125.length : Int)) = true := decide_eq_true c13
                  clear c13
                  by_cases c14 : x5_1.size + 1 + (rdOf ByteArray.empty y125 (ji11)).size ≤ 9223372036854775807
                  · rw [if_pos c14] at H
                    have c14b0 := eq_true c14
                    have c14b1 : decide (x5_1.size + 1 + (rdOf ByteArray.empty y125 (ji11)).size ≤ 9223372036854775807) = true := decide_eq_true c14
                    try have c14b2 : (9223372036854775807 < x5_1.size + 1 + (rdOf ByteArray.empty y125 (ji11)).size) = False := eq_false (Nat.not_lt.2 c14)
                    have H' := Aside0.mk H
                    clear H
                    have p129 : 0 ≤ ((ji11) : Int) := of_decide_eq_true (by first | (with_reducible assumption) | assumption)
                    have q129 : (ji11) < (y125.length : Int) := of_decide_eq_true (by first | (with_reducible assumption) | assumption)
                    obtain ⟨ad129, e129, hx129_0⟩ := Kd.at_string (Kd.R_reads' HO_4.out).2.2 (ji11) p129 q129
                    obtain rfl : ad128 = ad129 := (by injection e129)
                    replace p129 := eq_true p129
                    replace q129 := eq_true q129
                    go_wp2
                    go_roundg k1
                    case measure => have := HK1.out; omega
                    case rel => exact ⟨(wrap64 (Int.tdiv x3_1 4)), ((x5_1 ++ (⟨#[47]⟩ : ByteArray)) ++ (rdOf ByteArray.empty y125 (ji11))), (wrap64 (x6_1 - 1)), (by first | rfl | (simp; done) | (simp [*]; done)), (by first | rfl | (simp; done) | (simp only [← hji11] <;> (first | rfl | simp)) | (simp [*]; done)), (by first | rfl | (simp; done) | (simp [*]; done)), H', ⟨by have := HK1.out; omega⟩, ⟨by (with_reducible repeat (first | apply Kd.R_alloc | apply Kd.R_drewN | apply Kd.R_drew)); exact HO_4.out⟩, ⟨by repeat (first | (with_reducible first | exact HB.out | apply below_alloc | apply pw_below_drewN | apply below_drew1) | exact HB.out)⟩⟩
                  · rw [if_neg c14] at H
                    exact absurd H (by simp)
                · rw [if_neg c13] at H
                  exact absurd H (by simp)
              · rw [if_neg c12] at H
                exact absurd H (by simp)
            · rw [if_neg c10] at H
              exact absurd H (by simp)
          · rw [if_neg c9] at H
            have c9b0 : decide (0 < x6_1) = false := decide_eq_false c9
            clear c9
            by_cases c15 : (x5_1.size : Int) > 40
            · rw [if_pos c15] at H
              have c15b0 : decide (40 < (x5_1.size : Int)) = true := decide_eq_true c15
              have c15b1 : decide (40 < x5_1.size) = true := decide_eq_true (by omega)
              clear c15
              obtain rfl := Option.some.inj H
              go_wp2
              go_ret
              exact ⟨by first | rfl | (simp [errW_none, errW_some] <;> rfl) | (simp only [← hji3]; first | rfl | (simp [errW_none, errW_some] <;> rfl)) | (simp [*, errW_none, errW_some] <;> rfl), by repeat (first | (with_reducible first | exact HB.out | apply below_alloc | apply pw_below_drewN | apply below_drew1) | exact HB.out)⟩
            · rw [if_neg c15] at H
              have c15b0 : decide (40 < (x5_1.size : Int)) = false := decide_eq_false c15
              have c15b1 : decide (40 < x5_1.size) = false := decide_eq_false (by omega)
              clear c15
              obtain rfl := Option.some.inj H
              go_wp2
              go_ret
              exact ⟨by first | rfl | (simp [errW_none, errW_some] <;> rfl) | (simp only [← hji3]; first | rfl | (simp [errW_none, errW_some] <;> rfl)) | (simp [*, errW_none, errW_some] <;> rfl), by repeat (first | (with_reducible first | exact HB.out | apply below_alloc | apply pw_below_drewN | apply below_drew1) | exact HB.out)⟩
    · rw [if_neg c5] at H
      exact absurd H (by simp)
  · rw [if_neg c4] at H
    exact absurd H (by simp)

end Go.Proofs.YtpcmkjimdhlhiaaGreatDoor.P
