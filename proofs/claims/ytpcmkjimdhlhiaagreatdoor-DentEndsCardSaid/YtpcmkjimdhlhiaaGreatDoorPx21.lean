-- written by wip/myprint.sh of this session (the kit's print with functions that are given by hand)
import Derived.Test.YtpcmkjimdhlhiaaGreatDoorPx0
import Derived.Test.YtpcmkjimdhlhiaaGreatDoorPx16
import Derived.Test.YtpcmkjimdhlhiaaGreatDoorPx17
import Derived.Test.YtpcmkjimdhlhiaaGreatDoorPx20
namespace Go.Proofs.YtpcmkjimdhlhiaaGreatDoor.P
open Go.RowKit Go.Proofs.YtpcmkjimdhlhiaaGreatDoorW.PrintWords Go.Proofs.YtpcmkjimdhlhiaaGreatDoorW.PrintLast Go.Proofs.YtpcmkjimdhlhiaaGreatDoorW.PrintMore
attribute [local go_sem] max2_int min2_int max_two min_two max_three min_three max_four min_four   -- for this text's walks alone
set_option linter.unusedVariables false
set_option linter.unusedSimpArgs false

/-! ### transhumanceref7_Write: function 14 -/
mutual
def transhumanceref7_Write.l0 : Nat → List (S43) → ByteArray → Int → Option (ByteArray)
  | 0, _, _, _ => none
  | k + 1, x0, x3, x4 => if x4 < (x0.length : Int) then (if 0 ≤ x4 then ((transhumanceref6_Fields.f ((rd_T43 x0 x4).f0) ((rd_T43 x0 x4).f1) ((rd_T43 x0 x4).f2) ((rd_T43 x0 x4).f3) ((rd_T43 x0 x4).f4)).bind fun bt194 => (transhumanceref7_Write.l1 k x0 x3 x4 bt194.1 bt194.2 (⟨#[45, 32]⟩ : ByteArray) 0)) else (none)) else (some x3)
def transhumanceref7_Write.l1 : Nat → List (S43) → ByteArray → Int → List ByteArray → List ByteArray → ByteArray → Int → Option (ByteArray)
  | 0, _, _, _, _, _, _, _ => none
  | k + 1, x0, x3, x4, x5, x6, x7, x8 => if x8 < 5 then (if 0 ≤ x8 then (if x8 < (x5.length : Int) then (if (rdOf ByteArray.empty x5 x8).toList = ([] : List UInt8) then (transhumanceref7_Write.l1 k x0 x3 x4 x5 x6 x7 (wrap64 (x8 + 1))) else ((transhumanceref7_plain.f k (rdOf ByteArray.empty x5 x8)).bind fun t202 => (if t202 = true then (if x3.size + x7.size ≤ 9223372036854775807 then (if x8 < (x6.length : Int) then (if x3.size + x7.size + (rdOf ByteArray.empty x6 x8).size ≤ 9223372036854775807 then (if x3.size + x7.size + (rdOf ByteArray.empty x6 x8).size + 2 ≤ 9223372036854775807 then (if x3.size + x7.size + (rdOf ByteArray.empty x6 x8).size + 2 + (rdOf ByteArray.empty x5 x8).size ≤ 9223372036854775807 then (if x3.size + x7.size + (rdOf ByteArray.empty x6 x8).size + 2 + (rdOf ByteArray.empty x5 x8).size + 1 ≤ 9223372036854775807 then (transhumanceref7_Write.l1 k x0 (((((x3 ++ x7) ++ (rdOf ByteArray.empty x6 x8)) ++ (⟨#[58, 32]⟩ : ByteArray)) ++ (rdOf ByteArray.empty x5 x8)) ++ (⟨#[10]⟩ : ByteArray)) x4 x5 x6 (⟨#[32, 32]⟩ : ByteArray) (wrap64 (x8 + 1))) else (none)) else (none)) else (none)) else (none)) else (none)) else (none)) else ((transhumanceref1_Quote.f k (rdOf ByteArray.empty x5 x8)).bind fun t204 => (if x3.size + x7.size ≤ 9223372036854775807 then (if x8 < (x6.length : Int) then (if x3.size + x7.size + (rdOf ByteArray.empty x6 x8).size ≤ 9223372036854775807 then (if x3.size + x7.size + (rdOf ByteArray.empty x6 x8).size + 2 ≤ 9223372036854775807 then (if x3.size + x7.size + (rdOf ByteArray.empty x6 x8).size + 2 + t204.size ≤ 9223372036854775807 then (if x3.size + x7.size + (rdOf ByteArray.empty x6 x8).size + 2 + t204.size + 1 ≤ 9223372036854775807 then (transhumanceref7_Write.l1 k x0 (((((x3 ++ x7) ++ (rdOf ByteArray.empty x6 x8)) ++ (⟨#[58, 32]⟩ : ByteArray)) ++ t204) ++ (⟨#[10]⟩ : ByteArray)) x4 x5 x6 (⟨#[32, 32]⟩ : ByteArray) (wrap64 (x8 + 1))) else (none)) else (none)) else (none)) else (none)) else (none)) else (none)))))) else (none)) else (none)) else (transhumanceref7_Write.l0 k x0 x3 (wrap64 (x4 + 1)))
end
def transhumanceref7_Write.f (k : Nat) (l0 : List (S43)) : Option (ByteArray) := if (l0.length : Int) = 0 then (some (⟨#[]⟩ : ByteArray)) else (transhumanceref7_Write.l0 k l0 (⟨#[108, 111, 99, 107, 115, 58, 10]⟩ : ByteArray) 0)
theorem transhumanceref7_Write.mono_l : ∀ k, (∀ y0 y1 y2, LeO (transhumanceref7_Write.l0 k y0 y1 y2) (transhumanceref7_Write.l0 (k + 1) y0 y1 y2)) ∧ (∀ y0 y1 y2 y3 y4 y5 y6, LeO (transhumanceref7_Write.l1 k y0 y1 y2 y3 y4 y5 y6) (transhumanceref7_Write.l1 (k + 1) y0 y1 y2 y3 y4 y5 y6))
  | 0 => ⟨fun _ _ _ r h => by simp [transhumanceref7_Write.l0] at h, fun _ _ _ _ _ _ _ r h => by simp [transhumanceref7_Write.l1] at h⟩
  | k + 1 => by
    obtain ⟨ih0, ih1⟩ := transhumanceref7_Write.mono_l k
    refine ⟨?_, ?_⟩
    · intro y0 y1 y2
      unfold transhumanceref7_Write.l0
      repeat' first
      | (with_reducible exact ih0 _ _ _)
      | (with_reducible exact ih1 _ _ _ _ _ _ _)
      | (with_reducible exact transhumanceref1_Quote.mono _ _)
      | (with_reducible exact transhumanceref7_plain.mono _ _)
      | (with_reducible exact LeO.refl _)
      | (with_reducible exact LeO.none _)
      | (with_reducible refine LeO.ite ?_ ?_)
      | (with_reducible refine LeO.bind ?_ (fun _ => ?_))
      | exact ih0 _ _ _
      | exact ih1 _ _ _ _ _ _ _
      | exact transhumanceref1_Quote.mono _ _
      | exact transhumanceref7_plain.mono _ _
      | exact LeO.none _
      | refine LeO.ite ?_ ?_
      | refine LeO.bind ?_ (fun _ => ?_)
    · intro y0 y1 y2 y3 y4 y5 y6
      unfold transhumanceref7_Write.l1
      repeat' first
      | (with_reducible exact ih0 _ _ _)
      | (with_reducible exact ih1 _ _ _ _ _ _ _)
      | (with_reducible exact transhumanceref1_Quote.mono _ _)
      | (with_reducible exact transhumanceref7_plain.mono _ _)
      | (with_reducible exact LeO.refl _)
      | (with_reducible exact LeO.none _)
      | (with_reducible refine LeO.ite ?_ ?_)
      | (with_reducible refine LeO.bind ?_ (fun _ => ?_))
      | exact ih0 _ _ _
      | exact ih1 _ _ _ _ _ _ _
      | exact transhumanceref1_Quote.mono _ _
      | exact transhumanceref7_plain.mono _ _
      | exact LeO.none _
      | refine LeO.ite ?_ ?_
      | refine LeO.bind ?_ (fun _ => ?_)
theorem transhumanceref7_Write.mono : ∀ a0 k, LeO (transhumanceref7_Write.f k a0) (transhumanceref7_Write.f (k + 1) a0) := by
  intro a0 k
  obtain ⟨ih0, ih1⟩ := transhumanceref7_Write.mono_l k
  unfold transhumanceref7_Write.f
  repeat' first
      | (with_reducible exact ih0 _ _ _)
      | (with_reducible exact ih1 _ _ _ _ _ _ _)
      | (with_reducible exact transhumanceref1_Quote.mono _ _)
      | (with_reducible exact transhumanceref7_plain.mono _ _)
      | (with_reducible exact LeO.refl _)
      | (with_reducible exact LeO.none _)
      | (with_reducible refine LeO.ite ?_ ?_)
      | (with_reducible refine LeO.bind ?_ (fun _ => ?_))
      | exact ih0 _ _ _
      | exact ih1 _ _ _ _ _ _ _
      | exact transhumanceref1_Quote.mono _ _
      | exact transhumanceref7_plain.mono _ _
      | exact LeO.none _
      | refine LeO.ite ?_ ?_
      | refine LeO.bind ?_ (fun _ => ?_)
set_option maxHeartbeats 8000000 in
set_option maxRecDepth 100000 in
theorem transhumanceref7_Write.calls (k : Nat) (A0 : Option Addr) (c0 : Nat) (l0 : List (S43)) (r : ByteArray) (w : World) (hr0 : Kd.C k43 w A0 l0.length l0) (hc0 : l0.length ≤ c0) (h : transhumanceref7_Write.f k l0 = some r) :
    Calls Tryz.prog 14 #[.slice A0 l0.length c0] w fun e w' => e = .returned (.string r) ∧ Below w.heap.size w w' := by
  have hu43 := Tryz.underlying43
  have HR0 := Aside0.mk hr0
  have HC0 := Aside0.mk hc0
  clear hr0 hc0
  have HB := Aside0.mk (Below.refl w.heap.size w)
  have H : (if (l0.length : Int) = 0 then (some (⟨#[]⟩ : ByteArray)) else (transhumanceref7_Write.l0 k l0 (⟨#[108, 111, 99, 107, 115, 58, 10]⟩ : ByteArray) 0)) = some r := h
  clear h
  by_cases c2 : (l0.length : Int) = 0
  · rw [if_pos c2] at H
    have c2b0 : ((l0.length : Int) == 0) = true := beq_iff_eq.mpr c2
    have c2b1 : ((l0.length : Int) != 0) = false := bne_eq_false_iff_eq.mpr c2
    clear c2
    obtain rfl := Option.some.inj H
    go_enter Tryz.func14, Tryz.ntmps14
    go_wp2
    go_ret
    exact ⟨by first | rfl | (simp [errW_none, errW_some] <;> rfl) | (simp [*, errW_none, errW_some] <;> rfl), by repeat (first | (with_reducible first | exact HB.out | apply below_alloc | apply pw_below_drewN | apply below_drew1) | exact HB.out)⟩
  · rw [if_neg c2] at H
    have c2b0 : ((l0.length : Int) == 0) = false := beq_eq_false_iff_ne.mpr c2
    have c2b1 : ((l0.length : Int) != 0) = true := bne_iff_ne.mpr c2
    have c2b2 : ¬ (l0 = []) := fun h_ => c2 (by rw [h_]; rfl)
    have H' := Aside0.mk H
    clear H
    go_enter Tryz.func14, Tryz.ntmps14
    go_wp2
    go_loopg [3, 4] k (fun kq v3 v4 w' => ∃ (x3_1 : ByteArray) (x4_1 : Int), v3 = .string x3_1 ∧ v4 = .int .i64 x4_1 ∧ Aside0 (transhumanceref7_Write.l0 kq l0 x3_1 x4_1 = some r) ∧ Aside0 (kq ≤ k) ∧ Aside0 (Below w.heap.size w w'))
    case atStart => exact ⟨((⟨#[108, 111, 99, 107, 115, 58, 10]⟩ : ByteArray)), (0), (by first | rfl | (simp; done) | (simp [*]; done)), (by first | rfl | (simp; done) | (simp [*]; done)), H', ⟨Nat.le_refl _⟩, ⟨by repeat (first | (with_reducible first | exact HB.out | apply below_alloc | apply pw_below_drewN | apply below_drew1) | exact HB.out)⟩⟩
    case round =>
      clear H'
      try clear c1
      try clear c2
      try clear c2b0
      try clear c2b1
      try clear c2b2
      try clear p2
      obtain ⟨x3_1, x4_1, rfl, rfl, HA, HK1, HB⟩ := hrel
      cases gk with
      | zero => exact absurd HA.out (by simp [transhumanceref7_Write.l0])
      | succ k1 =>
        have H := HA.out
        clear HA
        simp only [transhumanceref7_Write.l0] at H
        by_cases c3 : x4_1 < (l0.length : Int)
        · rw [if_pos c3] at H
          have c3b0 : decide (x4_1 < (l0.length : Int)) = true := decide_eq_true c3
          clear c3
          by_cases c4 : 0 ≤ x4_1
          · rw [if_pos c4] at H
            have c4b0 : decide (0 ≤ x4_1) = true := decide_eq_true c4
            clear c4
            replace H := Option.bind_eq_some_iff.mp H
            obtain ⟨⟨t194, t197⟩, A50, H⟩ := H
            replace H : (transhumanceref7_Write.l1 k1 l0 x3_1 x4_1 t194 t197 (⟨#[45, 32]⟩ : ByteArray) 0) = some r := H
            have A5 := Aside0.mk A50
            clear A50
            have H' := Aside0.mk H
            clear H
            have p193 : 0 ≤ (x4_1 : Int) := of_decide_eq_true (by first | (with_reducible assumption) | assumption)
            have q193 : x4_1 < (l0.length : Int) := of_decide_eq_true (by first | (with_reducible assumption) | assumption)
            obtain ⟨ad193, e193, hx193_0, hx193_1, hx193_2, hx193_3, hx193_4⟩ := at_T43 HR0.out x4_1 p193 q193
            cases e193
            replace hx193_0 := (HB.out.cell (World.block_lt_of_cell? w _ hx193_0)).trans hx193_0
            replace hx193_1 := (HB.out.cell (World.block_lt_of_cell? w _ hx193_1)).trans hx193_1
            replace hx193_2 := (HB.out.cell (World.block_lt_of_cell? w _ hx193_2)).trans hx193_2
            replace hx193_3 := (HB.out.cell (World.block_lt_of_cell? w _ hx193_3)).trans hx193_3
            replace hx193_4 := (HB.out.cell (World.block_lt_of_cell? w _ hx193_4)).trans hx193_4
            replace p193 := eq_true p193
            replace q193 := eq_true q193
            go_wp2_with (first | ((with_reducible refine gate_callee (f := 36) rfl ?_); refine goesL_ (some 24) rfl rfl Tryz.func36 (by kernel_rfl) rfl #[.agg #[.string ((rd_T43 l0 x4_1).f0), .string ((rd_T43 l0 x4_1).f1), .string ((rd_T43 l0 x4_1).f2), .string ((rd_T43 l0 x4_1).f3), .string ((rd_T43 l0 x4_1).f4)]] rfl (by (try simp only [List.map_toArray, List.map_cons, List.map_nil]); first | done | rfl | (simp only [List.length_drop, List.length_take]; rfl) | (simp only [ByteArray.size_append, Int.natCast_add]; rfl) | (rw [ByteArray.size_append]; rfl) | (rw [ByteArray.size_append, Int.natCast_add]; rfl) | (rw [Int.add_comm]; rfl)) ?_; (with_reducible refine (transhumanceref6_Fields.calls ((rd_T43 l0 x4_1).f0) ((rd_T43 l0 x4_1).f1) ((rd_T43 l0 x4_1).f2) ((rd_T43 l0 x4_1).f3) ((rd_T43 l0 x4_1).f4) t194 t197 _ A5.out).mono ?_); rintro e w6 ⟨v195, v198, rfl, ho0, ho1, hb⟩; refine ⟨_, rfl, ?_⟩; have n0_ := Aside0.mk (Kd.R_lower ho0 (below_size (by repeat (first | (with_reducible first | exact HB.out | apply below_alloc | apply pw_below_drewN | apply below_drew1) | exact HB.out)))); have n1_ := Aside0.mk (Kd.R_lower ho1 (below_size (by repeat (first | (with_reducible first | exact HB.out | apply below_alloc | apply pw_below_drewN | apply below_drew1) | exact HB.out)))); have n2_ := Aside0.mk (below_step (by repeat (first | (with_reducible first | exact HB.out | apply below_alloc | apply pw_below_drewN | apply below_drew1) | exact HB.out)) hb); clear HB; have HO196 := n0_; have HO199 := n1_; have HB := n2_; clear n0_ n1_ n2_; (try clear hb); (try clear hb2); (try clear hk); (try clear hi); (try clear ho0); (try clear ho1)))
            go_loopg [3, 7, 8] k1 (fun kq v3 v7 v8 w' => ∃ (x3_2 : ByteArray) (x7_2 : ByteArray) (x8_2 : Int), v3 = .string x3_2 ∧ v7 = .string x7_2 ∧ v8 = .int .i64 x8_2 ∧ Aside0 (transhumanceref7_Write.l1 kq l0 x3_2 x4_1 t194 t197 x7_2 x8_2 = some r) ∧ Aside0 (kq ≤ k1) ∧ Aside0 (Kd.R Kd.string 9 w' w.heap.size (fun k_ => some k_ ≠ (v198 : Value).ownBlock) v195 t194) ∧ Aside0 (Kd.R Kd.string 9 w' w.heap.size (fun k_ => some k_ ≠ (v195 : Value).ownBlock) v198 t197) ∧ Aside0 (Below w.heap.size w w'))
            case atStart => exact ⟨(x3_1), ((⟨#[45, 32]⟩ : ByteArray)), (0), (by first | rfl | (simp; done) | (simp [*]; done)), (by first | rfl | (simp; done) | (simp [*]; done)), (by first | rfl | (simp; done) | (simp [*]; done)), H', ⟨Nat.le_refl _⟩, ⟨by (with_reducible repeat (first | apply Kd.R_alloc | apply Kd.R_drewN | apply Kd.R_drew)); exact HO196.out⟩, ⟨by (with_reducible repeat (first | apply Kd.R_alloc | apply Kd.R_drewN | apply Kd.R_drew)); exact HO199.out⟩, ⟨by repeat (first | (with_reducible first | exact HB.out | apply below_alloc | apply pw_below_drewN | apply below_drew1) | exact HB.out)⟩⟩
            case round =>
              clear H'
              try clear c1
              try clear p1
              try clear q1
              try clear hx1
              try clear c2
              try clear c2b0
              try clear c2b1
              try clear c2b2
              try clear p2
              try clear c3
              try clear c3b0
              try clear c4
              try clear c4b0
              try clear hx193_0
              try clear hx193_1
              try clear hx193_2
              try clear hx193_3
              try clear hx193_4
              try clear p193
              try clear p2
              try clear q193
              obtain ⟨x3_2, x7_2, x8_2, rfl, rfl, rfl, HA, HK2, HO_5, HO_6, HB⟩ := hrel
              cases gk with
              | zero => exact absurd HA.out (by simp [transhumanceref7_Write.l1])
              | succ k2 =>
                have H := HA.out
                clear HA
                simp only [transhumanceref7_Write.l1] at H
                by_cases c7 : x8_2 < 5
                · rw [if_pos c7] at H
                  have c7b0 : decide (x8_2 < 5) = true := decide_eq_true c7
                  clear c7
                  by_cases c8 : 0 ≤ x8_2
                  · rw [if_pos c8] at H
                    have c8b0 : decide (0 ≤ x8_2) = true := decide_eq_true c8
                    clear c8
                    by_cases c9 : x8_2 < (t194.length : Int)
                    · rw [if_pos c9] at H
                      have c9b0 : decide (x8_2 < (t194.length : Int)) = true := decide_eq_true c9
                      clear c9
                      by_cases c10 : (rdOf ByteArray.empty t194 x8_2).toList = ([] : List UInt8)
                      · rw [if_pos c10] at H
                        have c10b0 : ((rdOf ByteArray.empty t194 x8_2).toList == ([] : List UInt8)) = true := beq_iff_eq.mpr c10
                        have c10b1 : ((rdOf ByteArray.empty t194 x8_2).toList != ([] : List UInt8)) = false := bne_eq_false_iff_eq.mpr c10
                        clear c10
                        have H' := Aside0.mk H
                        clear H
                        obtain ⟨Ao11, co11, eo11⟩ := Kd.R_slice HO_5.out
                        subst eo11
                        have p200 : 0 ≤ (x8_2 : Int) := of_decide_eq_true (by first | (with_reducible assumption) | assumption)
                        have q200 : x8_2 < (t194.length : Int) := of_decide_eq_true (by first | (with_reducible assumption) | assumption)
                        obtain ⟨ad200, e200, hx200_0⟩ := Kd.at_string (Kd.R_reads' HO_5.out).2.2 x8_2 p200 q200
                        cases e200
                        replace p200 := eq_true p200
                        replace q200 := eq_true q200
                        go_wp2
                        go_roundg k2
                        case measure => have := HK1.out; have := HK2.out; omega
                        case rel => exact ⟨(x3_2), (x7_2), (wrap64 (x8_2 + 1)), (by first | rfl | (simp; done) | (simp [*]; done)), (by first | rfl | (simp; done) | (simp [*]; done)), (by first | rfl | (simp; done) | (simp [*]; done)), H', ⟨by have := HK1.out; have := HK2.out; omega⟩, ⟨by (with_reducible repeat (first | apply Kd.R_alloc | apply Kd.R_drewN | apply Kd.R_drew)); exact HO_5.out⟩, ⟨by (with_reducible repeat (first | apply Kd.R_alloc | apply Kd.R_drewN | apply Kd.R_drew)); exact HO_6.out⟩, ⟨by repeat (first | (with_reducible first | exact HB.out | apply below_alloc | apply pw_below_drewN | apply below_drew1) | exact HB.out)⟩⟩
                      · rw [if_neg c10] at H
                        have c10b0 : ((rdOf ByteArray.empty t194 x8_2).toList == ([] : List UInt8)) = false := beq_eq_false_iff_ne.mpr c10
                        have c10b1 : ((rdOf ByteArray.empty t194 x8_2).toList != ([] : List UInt8)) = true := bne_iff_ne.mpr c10
                        replace H := Option.bind_eq_some_iff.mp H
                        obtain ⟨t202, A120, H⟩ := H
                        replace H : (if t202 = true then (if x3_2.size + x7_2.size ≤ 9223372036854775807 then (if x8_2 < (t197.length : Int) then (if x3_2.size + x7_2.size + (rdOf ByteArray.empty t197 x8_2).size ≤ 9223372036854775807 then (if x3_2.size + x7_2.size + (rdOf ByteArray.empty t197 x8_2).size + 2 ≤ 9223372036854775807 then (if x3_2.size + x7_2.size + (rdOf ByteArray.empty t197 x8_2).size + 2 + (rdOf ByteArray.empty t194 x8_2).size ≤ 9223372036854775807 then (if x3_2.size + x7_2.size + (rdOf ByteArray.empty t197 x8_2).size + 2 + (rdOf ByteArray.empty t194 x8_2).size + 1 ≤ 9223372036854775807 then (transhumanceref7_Write.l1 k2 l0 (((((x3_2 ++ x7_2) ++ (rdOf ByteArray.empty t197 x8_2)) ++ (⟨#[58, 32]⟩ : ByteArray)) ++ (rdOf ByteArray.empty t194 x8_2)) ++ (⟨#[10]⟩ : ByteArray)) x4_1 t194 t197 (⟨#[32, 32]⟩ : ByteArray) (wrap64 (x8_2 + 1))) else (none)) else (none)) else (none)) else (none)) else (none)) else (none)) else ((transhumanceref1_Quote.f k2 (rdOf ByteArray.empty t194 x8_2)).bind fun t204 => (if x3_2.size + x7_2.size ≤ 9223372036854775807 then (if x8_2 < (t197.length : Int) then (if x3_2.size + x7_2.size + (rdOf ByteArray.empty t197 x8_2).size ≤ 9223372036854775807 then (if x3_2.size + x7_2.size + (rdOf ByteArray.empty t197 x8_2).size + 2 ≤ 9223372036854775807 then (if x3_2.size + x7_2.size + (rdOf ByteArray.empty t197 x8_2).size + 2 + t204.size ≤ 9223372036854775807 then (if x3_2.size + x7_2.size + (rdOf ByteArray.empty t197 x8_2).size + 2 + t204.size + 1 ≤ 9223372036854775807 then (transhumanceref7_Write.l1 k2 l0 (((((x3_2 ++ x7_2) ++ (rdOf ByteArray.empty t197 x8_2)) ++ (⟨#[58, 32]⟩ : ByteArray)) ++ t204) ++ (⟨#[10]⟩ : ByteArray)) x4_1 t194 t197 (⟨#[32, 32]⟩ : ByteArray) (wrap64 (x8_2 + 1))) else (none)) else (none)) else (none)) else (none)) else (none)) else (none)))) = some r := H
                        have A12 := Aside0.mk A120
                        clear A120
                        by_cases c13 : t202 = true
                        · subst c13
                          have H1 : (if x3_2.size + x7_2.size ≤ 9223372036854775807 then (if x8_2 < (t197.length : Int) then (if x3_2.size + x7_2.size + (rdOf ByteArray.empty t197 x8_2).size ≤ 9223372036854775807 then (if x3_2.size + x7_2.size + (rdOf ByteArray.empty t197 x8_2).size + 2 ≤ 9223372036854775807 then (if x3_2.size + x7_2.size + (rdOf ByteArray.empty t197 x8_2).size + 2 + (rdOf ByteArray.empty t194 x8_2).size ≤ 9223372036854775807 then (if x3_2.size + x7_2.size + (rdOf ByteArray.empty t197 x8_2).size + 2 + (rdOf ByteArray.empty t194 x8_2).size + 1 ≤ 9223372036854775807 then (transhumanceref7_Write.l1 k2 l0 (((((x3_2 ++ x7_2) ++ (rdOf ByteArray.empty t197 x8_2)) ++ (⟨#[58, 32]⟩ : ByteArray)) ++ (rdOf ByteArray.empty t194 x8_2)) ++ (⟨#[10]⟩ : ByteArray)) x4_1 t194 t197 (⟨#[32, 32]⟩ : ByteArray) (wrap64 (x8_2 + 1))) else (none)) else (none)) else (none)) else (none)) else (none)) else (none)) = some r := by rw [if_pos rfl] at H; exact H
                          clear H
                          have H := H1
                          clear H1
                          by_cases c14 : x3_2.size + x7_2.size ≤ 9223372036854775807
                          · rw [if_pos c14] at H
                            have c14b0 := eq_true c14
                            have c14b1 : decide (x3_2.size + x7_2.size ≤ 9223372036854775807) = true := decide_eq_true c14
                            try have c14b2 : (9223372036854775807 < x3_2.size + x7_2.size) = False := eq_false (Nat.not_lt.2 c14)
                            by_cases c15 : x8_2 < (t197.length : Int)
                            · rw [if_pos c15] at H
                              have c15b0 : decide (x8_2 < (t197.length : Int)) = true := decide_eq_true c15
                              clear c15
                              by_cases c16 : x3_2.size + x7_2.size + (rdOf ByteArray.empty t197 x8_2).size ≤ 9223372036854775807
                              · rw [if_pos c16] at H
                                have c16b0 := eq_true c16
                                have c16b1 : decide (x3_2.size + x7_2.size + (rdOf ByteArray.empty t197 x8_2).size ≤ 9223372036854775807) = true := decide_eq_true c16
                                try have c16b2 : (9223372036854775807 < x3_2.size + x7_2.size + (rdOf ByteArray.empty t197 x8_2).size) = False := eq_false (Nat.not_lt.2 c16)
                                by_cases c17 : x3_2.size + x7_2.size + (rdOf ByteArray.empty t197 x8_2).size + 2 ≤ 9223372036854775807
                                · rw [if_pos c17] at H
                                  have c17b0 := eq_true c17
                                  have c17b1 : decide (x3_2.size + x7_2.size + (rdOf ByteArray.empty t197 x8_2).size + 2 ≤ 9223372036854775807) = true := decide_eq_true c17
                                  try have c17b2 : (9223372036854775807 < x3_2.size + x7_2.size + (rdOf ByteArray.empty t197 x8_2).size + 2) = False := eq_false (Nat.not_lt.2 c17)
                                  by_cases c18 : x3_2.size + x7_2.size + (rdOf ByteArray.empty t197 x8_2).size + 2 + (rdOf ByteArray.empty t194 x8_2).size ≤ 9223372036854775807
                                  · rw [if_pos c18] at H
                                    have c18b0 := eq_true c18
                                    have c18b1 : decide (x3_2.size + x7_2.size + (rdOf ByteArray.empty t197 x8_2).size + 2 + (rdOf ByteArray.empty t194 x8_2).size ≤ 9223372036854775807) = true := decide_eq_true c18
                                    try have c18b2 : (9223372036854775807 < x3_2.size + x7_2.size + (rdOf ByteArray.empty t197 x8_2).size + 2 + (rdOf ByteArray.empty t194 x8_2).size) = False := eq_false (Nat.not_lt.2 c18)
                                    by_cases c19 : x3_2.size + x7_2.size + (rdOf ByteArray.empty t197 x8_2).size + 2 + (rdOf ByteArray.empty t194 x8_2).size + 1 ≤ 9223372036854775807
                                    · rw [if_pos c19] at H
                                      have c19b0 := eq_true c19
                                      have c19b1 : decide (x3_2.size + x7_2.size + (rdOf ByteArray.empty t197 x8_2).size + 2 + (rdOf ByteArray.empty t194 x8_2).size + 1 ≤ 9223372036854775807) = true := decide_eq_true c19
                                      try have c19b2 : (9223372036854775807 < x3_2.size + x7_2.size + (rdOf ByteArray.empty t197 x8_2).size + 2 + (rdOf ByteArray.empty t194 x8_2).size + 1) = False := eq_false (Nat.not_lt.2 c19)
                                      have H' := Aside0.mk H
                                      clear H
                                      obtain ⟨Ao20, co20, eo20⟩ := Kd.R_slice HO_5.out
                                      subst eo20
                                      have p200 : 0 ≤ (x8_2 : Int) := of_decide_eq_true (by first | (with_reducible assumption) | assumption)
                                      have q200 : x8_2 < (t194.length : Int) := of_decide_eq_true (by first | (with_reducible assumption) | assumption)
                                      obtain ⟨ad200, e200, hx200_0⟩ := Kd.at_string (Kd.R_reads' HO_5.out).2.2 x8_2 p200 q200
                                      cases e200
                                      replace p200 := eq_true p200
                                      replace q200 := eq_true q200
                                      have p201 : 0 ≤ (x8_2 : Int) := of_decide_eq_true (by first | (with_reducible assumption) | assumption)
                                      have q201 : x8_2 < (t194.length : Int) := of_decide_eq_true (by first | (with_reducible assumption) | assumption)
                                      obtain ⟨ad201, e201, hx201_0⟩ := Kd.at_string (Kd.R_reads' HO_5.out).2.2 x8_2 p201 q201
                                      obtain rfl : ad200 = ad201 := (by injection e201)
                                      replace p201 := eq_true p201
                                      replace q201 := eq_true q201
                                      go_wp2_with (first | ((with_reducible refine gate_callee (f := 37) rfl ?_); refine goesL_ (some 41) rfl rfl Tryz.func37 (by kernel_rfl) rfl #[.string (rdOf ByteArray.empty t194 x8_2)] rfl (by (try simp only [List.map_toArray, List.map_cons, List.map_nil]); first | done | rfl | (simp only [List.length_drop, List.length_take]; rfl) | (simp only [ByteArray.size_append, Int.natCast_add]; rfl) | (rw [ByteArray.size_append]; rfl) | (rw [ByteArray.size_append, Int.natCast_add]; rfl) | (rw [Int.add_comm]; rfl)) ?_; (with_reducible refine (transhumanceref7_plain.calls k2 (rdOf ByteArray.empty t194 x8_2) true _ A12.out).mono ?_); rintro e w' ⟨rfl, ⟨nd, rfl⟩⟩; refine ⟨_, rfl, ?_⟩; obtain ⟨Ao21, co21, eo21⟩ := Kd.R_slice HO_6.out; subst eo21; have p203 : 0 ≤ (x8_2 : Int) := of_decide_eq_true (by first | (with_reducible assumption) | assumption); have q203 : x8_2 < (t197.length : Int) := of_decide_eq_true (by first | (with_reducible assumption) | assumption); obtain ⟨ad203, e203, hx203_0⟩ := Kd.at_string (Kd.R_reads' HO_6.out).2.2 x8_2 p203 q203; cases e203; replace p203 := eq_true p203; replace q203 := eq_true q203))
                                      go_roundg k2
                                      case measure => have := HK1.out; have := HK2.out; omega
                                      case rel => exact ⟨(((((x3_2 ++ x7_2) ++ (rdOf ByteArray.empty t197 x8_2)) ++ (⟨#[58, 32]⟩ : ByteArray)) ++ (rdOf ByteArray.empty t194 x8_2)) ++ (⟨#[10]⟩ : ByteArray)), ((⟨#[32, 32]⟩ : ByteArray)), (wrap64 (x8_2 + 1)), (by first | rfl | (simp; done) | (simp [*]; done)), (by first | rfl | (simp; done) | (simp [*]; done)), (by first | rfl | (simp; done) | (simp [*]; done)), H', ⟨by have := HK1.out; have := HK2.out; omega⟩, ⟨by (with_reducible repeat (first | apply Kd.R_alloc | apply Kd.R_drewN | apply Kd.R_drew)); exact HO_5.out⟩, ⟨by (with_reducible repeat (first | apply Kd.R_alloc | apply Kd.R_drewN | apply Kd.R_drew)); exact HO_6.out⟩, ⟨by repeat (first | (with_reducible first | exact HB.out | apply below_alloc | apply pw_below_drewN | apply below_drew1) | exact HB.out)⟩⟩
                                    · rw [if_neg c19] at H
                                      exact absurd H (by simp)
                                  · rw [if_neg c18] at H
                                    exact absurd H (by simp)
                                · rw [if_neg c17] at H
                                  exact absurd H (by simp)
                              · rw [if_neg c16] at H
                                exact absurd H (by simp)
                            · rw [if_neg c15] at H
                              exact absurd H (by simp)
                          · rw [if_neg c14] at H
                            exact absurd H (by simp)
                        · replace c13 := Bool.eq_false_iff.mpr c13
                          subst c13
                          have H1 : ((transhumanceref1_Quote.f k2 (rdOf ByteArray.empty t194 x8_2)).bind fun t204 => (if x3_2.size + x7_2.size ≤ 9223372036854775807 then (if x8_2 < (t197.length : Int) then (if x3_2.size + x7_2.size + (rdOf ByteArray.empty t197 x8_2).size ≤ 9223372036854775807 then (if x3_2.size + x7_2.size + (rdOf ByteArray.empty t197 x8_2).size + 2 ≤ 9223372036854775807 then (if x3_2.size + x7_2.size + (rdOf ByteArray.empty t197 x8_2).size + 2 + t204.size ≤ 9223372036854775807 then (if x3_2.size + x7_2.size + (rdOf ByteArray.empty t197 x8_2).size + 2 + t204.size + 1 ≤ 9223372036854775807 then (transhumanceref7_Write.l1 k2 l0 (((((x3_2 ++ x7_2) ++ (rdOf ByteArray.empty t197 x8_2)) ++ (⟨#[58, 32]⟩ : ByteArray)) ++ t204) ++ (⟨#[10]⟩ : ByteArray)) x4_1 t194 t197 (⟨#[32, 32]⟩ : ByteArray) (wrap64 (x8_2 + 1))) else (none)) else (none)) else (none)) else (none)) else (none)) else (none))) = some r := by rw [if_neg (show ¬ (false = true) by decide)] at H; exact H
                          clear H
                          have H := H1
                          clear H1
                          replace H := Option.bind_eq_some_iff.mp H
                          obtain ⟨t204, A220, H⟩ := H
                          replace H : (if x3_2.size + x7_2.size ≤ 9223372036854775807 then (if x8_2 < (t197.length : Int) then (if x3_2.size + x7_2.size + (rdOf ByteArray.empty t197 x8_2).size ≤ 9223372036854775807 then (if x3_2.size + x7_2.size + (rdOf ByteArray.empty t197 x8_2).size + 2 ≤ 9223372036854775807 then (if x3_2.size + x7_2.size + (rdOf ByteArray.empty t197 x8_2).size + 2 + t204.size ≤ 9223372036854775807 then (if x3_2.size + x7_2.size + (rdOf ByteArray.empty t197 x8_2).size + 2 + t204.size + 1 ≤ 9223372036854775807 then (transhumanceref7_Write.l1 k2 l0 (((((x3_2 ++ x7_2) ++ (rdOf ByteArray.empty t197 x8_2)) ++ (⟨#[58, 32]⟩ : ByteArray)) ++ t204) ++ (⟨#[10]⟩ : ByteArray)) x4_1 t194 t197 (⟨#[32, 32]⟩ : ByteArray) (wrap64 (x8_2 + 1))) else (none)) else (none)) else (none)) else (none)) else (none)) else (none)) = some r := H
                          have A22 := Aside0.mk A220
                          clear A220
                          by_cases c23 : x3_2.size + x7_2.size ≤ 9223372036854775807
                          · rw [if_pos c23] at H
                            have c23b0 := eq_true c23
                            have c23b1 : decide (x3_2.size + x7_2.size ≤ 9223372036854775807) = true := decide_eq_true c23
                            try have c23b2 : (9223372036854775807 < x3_2.size + x7_2.size) = False := eq_false (Nat.not_lt.2 c23)
                            by_cases c24 : x8_2 < (t197.length : Int)
                            · rw [if_pos c24] at H
                              have c24b0 : decide (x8_2 < (t197.length : Int)) = true := decide_eq_true c24
                              clear c24
                              by_cases c25 : x3_2.size + x7_2.size + (rdOf ByteArray.empty t197 x8_2).size ≤ 9223372036854775807
                              · rw [if_pos c25] at H
                                have c25b0 := eq_true c25
                                have c25b1 : decide (x3_2.size + x7_2.size + (rdOf ByteArray.empty t197 x8_2).size ≤ 9223372036854775807) = true := decide_eq_true c25
                                try have c25b2 : (9223372036854775807 < x3_2.size + x7_2.size + (rdOf ByteArray.empty t197 x8_2).size) = False := eq_false (Nat.not_lt.2 c25)
                                by_cases c26 : x3_2.size + x7_2.size + (rdOf ByteArray.empty t197 x8_2).size + 2 ≤ 9223372036854775807
                                · rw [if_pos c26] at H
                                  have c26b0 := eq_true c26
                                  have c26b1 : decide (x3_2.size + x7_2.size + (rdOf ByteArray.empty t197 x8_2).size + 2 ≤ 9223372036854775807) = true := decide_eq_true c26
                                  try have c26b2 : (9223372036854775807 < x3_2.size + x7_2.size + (rdOf ByteArray.empty t197 x8_2).size + 2) = False := eq_false (Nat.not_lt.2 c26)
                                  by_cases c27 : x3_2.size + x7_2.size + (rdOf ByteArray.empty t197 x8_2).size + 2 + t204.size ≤ 9223372036854775807
                                  · rw [if_pos c27] at H
                                    have c27b0 := eq_true c27
                                    have c27b1 : decide (x3_2.size + x7_2.size + (rdOf ByteArray.empty t197 x8_2).size + 2 + t204.size ≤ 9223372036854775807) = true := decide_eq_true c27
                                    try have c27b2 : (9223372036854775807 < x3_2.size + x7_2.size + (rdOf ByteArray.empty t197 x8_2).size + 2 + t204.size) = False := eq_false (Nat.not_lt.2 c27)
                                    by_cases c28 : x3_2.size + x7_2.size + (rdOf ByteArray.empty t197 x8_2).size + 2 + t204.size + 1 ≤ 9223372036854775807
                                    · rw [if_pos c28] at H
                                      have c28b0 := eq_true c28
                                      have c28b1 : decide (x3_2.size + x7_2.size + (rdOf ByteArray.empty t197 x8_2).size + 2 + t204.size + 1 ≤ 9223372036854775807) = true := decide_eq_true c28
                                      try have c28b2 : (9223372036854775807 < x3_2.size + x7_2.size + (rdOf ByteArray.empty t197 x8_2).size + 2 + t204.size + 1) = False := eq_false (Nat.not_lt.2 c28)
                                      have H' := Aside0.mk H
                                      clear H
                                      obtain ⟨Ao29, co29, eo29⟩ := Kd.R_slice HO_5.out
                                      subst eo29
                                      have p200 : 0 ≤ (x8_2 : Int) := of_decide_eq_true (by first | (with_reducible assumption) | assumption)
                                      have q200 : x8_2 < (t194.length : Int) := of_decide_eq_true (by first | (with_reducible assumption) | assumption)
                                      obtain ⟨ad200, e200, hx200_0⟩ := Kd.at_string (Kd.R_reads' HO_5.out).2.2 x8_2 p200 q200
                                      cases e200
                                      replace p200 := eq_true p200
                                      replace q200 := eq_true q200
                                      have p201 : 0 ≤ (x8_2 : Int) := of_decide_eq_true (by first | (with_reducible assumption) | assumption)
                                      have q201 : x8_2 < (t194.length : Int) := of_decide_eq_true (by first | (with_reducible assumption) | assumption)
                                      obtain ⟨ad201, e201, hx201_0⟩ := Kd.at_string (Kd.R_reads' HO_5.out).2.2 x8_2 p201 q201
                                      obtain rfl : ad200 = ad201 := (by injection e201)
                                      replace p201 := eq_true p201
                                      replace q201 := eq_true q201
                                      go_wp2_with (first | ((with_reducible refine gate_callee (f := 37) rfl ?_); refine goesL_ (some 41) rfl rfl Tryz.func37 (by kernel_rfl) rfl #[.string (rdOf ByteArray.empty t194 x8_2)] rfl (by (try simp only [List.map_toArray, List.map_cons, List.map_nil]); first | done | rfl | (simp only [List.length_drop, List.length_take]; rfl) | (simp only [ByteArray.size_append, Int.natCast_add]; rfl) | (rw [ByteArray.size_append]; rfl) | (rw [ByteArray.size_append, Int.natCast_add]; rfl) | (rw [Int.add_comm]; rfl)) ?_; (with_reducible refine (transhumanceref7_plain.calls k2 (rdOf ByteArray.empty t194 x8_2) false _ A12.out).mono ?_); rintro e w' ⟨rfl, ⟨nd, rfl⟩⟩; refine ⟨_, rfl, ?_⟩) | ((with_reducible refine gate_callee (f := 19) rfl ?_); refine goesL_ (some 44) rfl rfl Tryz.func19 (by kernel_rfl) rfl #[.string (rdOf ByteArray.empty t194 x8_2)] rfl (by (try simp only [List.map_toArray, List.map_cons, List.map_nil]); first | done | rfl | (simp only [List.length_drop, List.length_take]; rfl) | (simp only [ByteArray.size_append, Int.natCast_add]; rfl) | (rw [ByteArray.size_append]; rfl) | (rw [ByteArray.size_append, Int.natCast_add]; rfl) | (rw [Int.add_comm]; rfl)) ?_; (with_reducible refine (transhumanceref1_Quote.calls k2 (rdOf ByteArray.empty t194 x8_2) t204 _ A22.out).mono ?_); rintro e w' ⟨rfl, ⟨nd, rfl⟩⟩; refine ⟨_, rfl, ?_⟩; obtain ⟨Ao30, co30, eo30⟩ := Kd.R_slice HO_6.out; subst eo30; have p205 : 0 ≤ (x8_2 : Int) := of_decide_eq_true (by first | (with_reducible assumption) | assumption); have q205 : x8_2 < (t197.length : Int) := of_decide_eq_true (by first | (with_reducible assumption) | assumption); obtain ⟨ad205, e205, hx205_0⟩ := Kd.at_string (Kd.R_reads' HO_6.out).2.2 x8_2 p205 q205; cases e205; replace p205 := eq_true p205; replace q205 := eq_true q205))
                                      go_roundg k2
                                      case measure => have := HK1.out; have := HK2.out; omega
                                      case rel => exact ⟨(((((x3_2 ++ x7_2) ++ (rdOf ByteArray.empty t197 x8_2)) ++ (⟨#[58, 32]⟩ : ByteArray)) ++ t204) ++ (⟨#[10]⟩ : ByteArray)), ((⟨#[32, 32]⟩ : ByteArray)), (wrap64 (x8_2 + 1)), (by first | rfl | (simp; done) | (simp [*]; done)), (by first | rfl | (simp; done) | (simp [*]; done)), (by first | rfl | (simp; done) | (simp [*]; done)), H', ⟨by have := HK1.out; have := HK2.out; omega⟩, ⟨by (with_reducible repeat (first | apply Kd.R_alloc | apply Kd.R_drewN | apply Kd.R_drew)); exact HO_5.out⟩, ⟨by (with_reducible repeat (first | apply Kd.R_alloc | apply Kd.R_drewN | apply Kd.R_drew)); exact HO_6.out⟩, ⟨by repeat (first | (with_reducible first | exact HB.out | apply below_alloc | apply pw_below_drewN | apply below_drew1) | exact HB.out)⟩⟩
                                    · rw [if_neg c28] at H
                                      exact absurd H (by simp)
                                  · rw [if_neg c27] at H
                                    exact absurd H (by simp)
                                · rw [if_neg c26] at H
                                  exact absurd H (by simp)
                              · rw [if_neg c25] at H
                                exact absurd H (by simp)
                            · rw [if_neg c24] at H
                              exact absurd H (by simp)
                          · rw [if_neg c23] at H
                            exact absurd H (by simp)
                    · rw [if_neg c9] at H
                      exact absurd H (by simp)
                  · rw [if_neg c8] at H
                    exact absurd H (by simp)
                · rw [if_neg c7] at H
                  have c7b0 : decide (x8_2 < 5) = false := decide_eq_false c7
                  clear c7
                  have H' := Aside0.mk H
                  clear H
                  go_wp2
                  go_roundg k2
                  case measure => have := HK1.out; have := HK2.out; omega
                  case rel => exact ⟨(x3_2), (wrap64 (x4_1 + 1)), (by first | rfl | (simp; done) | (simp [*]; done)), (by first | rfl | (simp; done) | (simp [*]; done)), H', ⟨by have := HK1.out; have := HK2.out; omega⟩, ⟨by repeat (first | (with_reducible first | exact HB.out | apply below_alloc | apply pw_below_drewN | apply below_drew1) | exact HB.out)⟩⟩
          · rw [if_neg c4] at H
            exact absurd H (by simp)
        · rw [if_neg c3] at H
          have c3b0 : decide (x4_1 < (l0.length : Int)) = false := decide_eq_false c3
          clear c3
          obtain rfl := Option.some.inj H
          go_wp2
          go_ret
          exact ⟨by first | rfl | (simp [errW_none, errW_some] <;> rfl) | (simp [*, errW_none, errW_some] <;> rfl), by repeat (first | (with_reducible first | exact HB.out | apply below_alloc | apply pw_below_drewN | apply below_drew1) | exact HB.out)⟩

end Go.Proofs.YtpcmkjimdhlhiaaGreatDoor.P
