import Derived.Test.YtpcmkjimdhlhiaaGreatDoorGA
import Derived.Deep.DeepCutAuto
import Derived.StillTailTactics
import Derived.IntWalk
import Derived.Test.YtpcmkjimdhlhiaaGreatDoorWE
import Derived.RangeFuncNested
import Derived.RangeFuncBound
import Derived.RangeFuncCalls
import Derived.RangeFuncLeaves
import Derived.Shelf.Abstract
import Derived.Shelf.RegionOpen
import Derived.WalkKit
import Derived.OwnWalkIn
import Derived.TacticsInMore
import Derived.LoopNIn
import Derived.LoopIn
import Derived.RangeFuncFrom
import Derived.WalkSpells
import Derived.Shelf.Slices.Clone
import Derived.Test.YtpcmkjimdhlhiaaGreatDoorShE
set_option linter.unusedVariables false
set_option linter.unusedSimpArgs false
-- part G17
namespace Go.Proofs.YtpcmkjimdhlhiaaGreatDoor.G
open Go.RowKit Go.Proofs.YtpcmkjimdhlhiaaGreatDoorW.PrintWords

set_option maxRecDepth 100000 in
set_option maxHeartbeats 4000000 in
/-- (*reader).line: a line of the lock that is last. -/
theorem dent_line_c (B g : Nat) (r : S.Rd) (s vv : ByteArray) (at_ i : Nat) (m : Int) (W : World) (h : RdAt B g r W) (hBW : B ≤ W.heap.size) (hn : r.l.length ≤ 100000) (hnh : r.has.length ≤ 100000) (hs : s.size ≤ 100000) (hvs : vv.size ≤ 100000) (hm : W.cell? ⟨0, 0, none⟩ = some (.int .i64 m))
    (hp : Lib.hasPrefix s.data.toList [45, 32] = false) (hp2 : Lib.hasPrefix s.data.toList [32, 32] = true) (hne : r.l ≠ []) (hpr : S.pair (s.data.toList.drop 2) = some (i, vv.data.toList)) :
    Calls Tryz.prog 33 #[.pointer (some ⟨g, 0, none⟩), .string s, .int .i64 at_] W fun e W' => e = .returned (.tuple #[]) ∧ RdAt B g (r.field at_ i vv.data.toList) W' ∧ Fr B g W W' := by
  have HR := Lib.hid h
  have HM := Lib.hid hm
  have HPR := Lib.hid hpr
  have HT := Lib.hid (trim_two s [32, 32] rfl hp2)
  obtain ⟨vl0, vh0, hb0, hl0, hh0⟩ := h
  obtain ⟨gl0, cap0, rfl, _, _⟩ := own_form hl0 hne
  have hpos : 1 ≤ r.l.length := by
    rcases Nat.eq_zero_or_pos r.l.length with h0 | h0
    · exact absurd (List.eq_nil_of_length_eq_zero h0) hne
    · exact h0
  have q0 : W.cell? ⟨g, 2, none⟩ = some (.slice (some ⟨gl0, 0, none⟩) r.l.length cap0) := by rw [cell_of_blk hb0 2]; rfl
  have HNE := Lib.hid hne
  have HNL0 : Hid (r.l.length ≤ 100001) := Lib.hid (by omega)
  have HNH := Lib.hid hnh
  clear hm hpr hb0 hl0 hh0 hne
  go_enter Tryz.func33, Tryz.ntmps33
  go_wp2_with fail
  refine (Tryz.strings_CutPrefix s ⟨#[45, 32]⟩ W).mono ?_
  rintro e W0 ⟨rfl, rfl⟩
  rw [show ((⟨#[45, 32]⟩ : ByteArray).data.toList) = [45, 32] from rfl, hp]
  go_wp2_with fail
  refine (Tryz.strings_CutPrefix s ⟨#[32, 32]⟩ W0).mono ?_
  rintro e W ⟨rfl, rfl⟩
  rw [show ((⟨#[32, 32]⟩ : ByteArray).data.toList) = [32, 32] from rfl, hp2, HT.out]
  go_wp2_with fail
  refine (dent_pair ⟨(List.drop 2 s.data.toList).toArray⟩ m W ?sz HM.out).mono ?_
  case sz => rw [size_mk, List.length_drop]; have : s.data.toList.length = s.size := by simp
             omega
  rintro e W1 ⟨⟨kv2, vv2, rfl, hkv⟩, hb1⟩
  rw [show (⟨(List.drop 2 s.data.toList).toArray⟩ : ByteArray).data.toList = List.drop 2 s.data.toList from rfl] at hkv ⊢
  rw [HPR.out] at hkv ⊢
  obtain ⟨hi5, hk, hv⟩ := hkv _ _ rfl
  obtain rfl := bytes_eq hv
  clear hkv q0
  simp only [Option.isSome_some]
  have hF1 : Fr B g W W1 := Fr.of_below hb1
  have HR1 := Lib.hid (HR.out.below hb1)
  have HK := Lib.hid hk
  have HI5 := Lib.hid hi5
  have HVS : Hid (vv2.size ≤ 100000) := Lib.hid hvs
  have hcut : RdAt B g r W1 ∧ Fr B g W W1 := ⟨HR1.out, hF1⟩
  clear hk hb1 hp hp2 hvs hF1 HR1
  revert hcut
  generalize W1 = wc
  intro hcut
  obtain ⟨hr3, hf3⟩ := hcut
  have HBW3 : Hid (B ≤ wc.heap.size) := Lib.hid (Nat.le_trans hBW hf3.size)
  have HR3 := Lib.hid hr3
  have HF3 := Lib.hid hf3
  clear hr3 hf3
  obtain ⟨vl, vh, hb, hl, hh⟩ := HR3.out
  have q3 : wc.cell? ⟨g, 3, none⟩ = some vh := by rw [cell_of_blk hb 3]; rfl
  have HH := Lib.hid hh
  clear hb hl hh
  go_upto_if 89 with (go_at_call 61; refine (has_contains B vh (r).has i kv2 wc HH.out HK.out HNH.out).mono ?_; rintro e w' ⟨rfl, rfl⟩)
  clear q3
  go_cut [] (fun wx => RdAt B g (if hasB (r).has i = true then (r).wrong at_ 4 else (r)) wx ∧ Fr B g W wx)
  case first =>
    cases hc : hasB (r).has i with
    | true =>
      have HC := Lib.hid hc
      go_wp2_with fail
      refine (dent_wrong B g (r) at_ 4 wc HR3.out).mono ?_
      rintro e w4 ⟨rfl, hr4, hf4⟩
      go_wp2
      go_meet
      exact ⟨by rw [if_pos HC.out]; exact hr4, HF3.out.trans hf4⟩
    | false =>
      have HC := Lib.hid hc
      go_wp2
      go_meet
      exact ⟨by rw [if_neg (by rw [HC.out]; exact Bool.false_ne_true)]; exact HR3.out, HF3.out⟩
  case rest =>
    clear HR3 HF3 HH
    obtain ⟨hr5, hf5⟩ := hcut
    have HBW5 : Hid (B ≤ wc.heap.size) := Lib.hid (Nat.le_trans hBW hf5.size)
    obtain ⟨R1, hR1⟩ : ∃ R1, R1 = (if hasB (r).has i = true then (r).wrong at_ 4 else (r)) := ⟨_, rfl⟩
    rw [← hR1] at hr5
    have HR1e := Lib.hid hR1
    have HR5 := Lib.hid hr5
    have HF5 := Lib.hid hf5
    clear hr5 hf5 hR1
    go_upto_region 16 with (fail)
    go_cut [105] (fun s wx => s = .bool (decide ((i = 0 ∨ i = 4) ∧ S.right vv2.data.toList = false)) ∧ RdAt B g R1 wx ∧ Fr B g W wx)
    case first =>
      obtain ⟨k1, k2⟩ := kv_root i kv2 HK.out
      by_cases i0 : i = 0
      · have e1 : (kv2.toList == [114, 111, 111, 116]) = true := by rw [k1]; simp [i0]
        clear k1 k2
        have HV : Hid (decide ((i = 0 ∨ i = 4) ∧ S.right vv2.data.toList = false) = !S.right vv2.data.toList) := Lib.hid (by rw [i0]; cases S.right vv2.data.toList <;> rfl)
        clear i0
        go_wp2_with (go_at_call 62; refine (path_Right vv2 _ (by have := HVS.out; omega)).mono ?_; rintro e w' ⟨rfl, n9, rfl⟩)
        go_meet
        exact ⟨by rw [HV.out], HR5.out, HF5.out.drewN _⟩
      · by_cases i4 : i = 4
        · have e1 : (kv2.toList == [114, 111, 111, 116]) = false := by rw [k1]; simp [i0]
          have e2 : (kv2.toList == [115, 111, 117, 114, 99, 101]) = true := by rw [k2]; simp [i4]
          clear k1 k2
          have HV : Hid (decide ((i = 0 ∨ i = 4) ∧ S.right vv2.data.toList = false) = !S.right vv2.data.toList) := Lib.hid (by rw [i4]; cases S.right vv2.data.toList <;> rfl)
          clear i0 i4
          go_wp2_with (go_at_call 62; refine (path_Right vv2 _ (by have := HVS.out; omega)).mono ?_; rintro e w' ⟨rfl, n9, rfl⟩)
          go_meet
          exact ⟨by rw [HV.out], HR5.out, HF5.out.drewN _⟩
        · have e1 : (kv2.toList == [114, 111, 111, 116]) = false := by rw [k1]; simp [i0]
          have e2 : (kv2.toList == [115, 111, 117, 114, 99, 101]) = false := by rw [k2]; simp [i4]
          clear k1 k2
          have HV : Hid (decide ((i = 0 ∨ i = 4) ∧ S.right vv2.data.toList = false) = false) := Lib.hid (by simp [i0, i4])
          clear i0 i4
          go_wp2
          go_meet
          exact ⟨by rw [HV.out], HR5.out, HF5.out⟩
    case rest =>
      clear HR5 HF5
      obtain ⟨rfl, hr6, hf6⟩ := hcut
      have HR6 := Lib.hid hr6
      have HF6 := Lib.hid hf6
      clear hr6 hf6
      go_upto_if 105 with (fail)
      go_cut [] (fun wx => RdAt B g (if (i = 0 ∨ i = 4) ∧ S.right vv2.data.toList = false then R1.wrong at_ 7 else R1) wx ∧ Fr B g W wx)
      case first =>
        by_cases hp : (i = 0 ∨ i = 4) ∧ S.right vv2.data.toList = false
        · have e1 : decide ((i = 0 ∨ i = 4) ∧ S.right vv2.data.toList = false) = true := decide_eq_true hp
          have HP := Lib.hid hp
          clear hp
          rw [e1]
          go_wp2_with fail
          refine (dent_wrong B g R1 at_ 7 _ HR6.out).mono ?_
          rintro e w4 ⟨rfl, hr4, hf4⟩
          go_wp2
          go_meet
          exact ⟨by rw [if_pos HP.out]; exact hr4, HF6.out.trans hf4⟩
        · have e1 : decide ((i = 0 ∨ i = 4) ∧ S.right vv2.data.toList = false) = false := decide_eq_false hp
          have HP := Lib.hid hp
          clear hp
          rw [e1]
          go_wp2
          go_meet
          exact ⟨by rw [if_neg HP.out]; exact HR6.out, HF6.out⟩
      case rest =>
        clear HR6 HF6
        obtain ⟨hr7, hf7⟩ := hcut
        have HBW7 : Hid (B ≤ wc.heap.size) := Lib.hid (Nat.le_trans hBW hf7.size)
        obtain ⟨R2, hR2⟩ : ∃ R2, R2 = (if (i = 0 ∨ i = 4) ∧ S.right vv2.data.toList = false then R1.wrong at_ 7 else R1) := ⟨_, rfl⟩
        rw [← hR2] at hr7
        have HR2e := Lib.hid hR2
        have HR7 := Lib.hid hr7
        have HF7 := Lib.hid hf7
        have HN2 : Hid (R2.has.length ≤ 100000) := Lib.hid (by rw [hR2, ite_wrong_has, HR1e.out, ite_wrong_has]; exact HNH.out)
        have HL2 : Hid (R2.l = (r).l) := Lib.hid (by rw [hR2, ite_wrong_l, HR1e.out, ite_wrong_l])
        clear hr7 hf7 hR2
        go_upto_region 18 with (fail)
        go_cut [] (fun wx => RdAt B g { R2 with has := R2.has ++ [i] } wx ∧ Fr B g W wx)
        case first =>
          obtain ⟨vl, vh, hb, hl, hh⟩ := HR7.out
          have q3 : wc.cell? ⟨g, 3, none⟩ = some vh := by rw [cell_of_blk hb 3]; rfl
          have HB7 := Lib.hid hb
          have HL7 := Lib.hid hl
          have HH7 : Hid (wc.ownsRow B 9 1 vh (R2.has.map keyVal).length (R2.has.map keyVal)) := Lib.hid (by rw [List.length_map]; exact hh)
          clear hb hl hh
          go_wp2_with (at_builtin; (refine print_append (w0 := wc) (W := wc) B rfl _ _ 36 9 _ 16 rfl Tryz.underlying36 info_string rfl (by decide) vh (R2.has.map keyVal) (.string kv2) rfl rfl rfl HH7.out (Below.refl _ _) HBW7.out (by rw [List.length_map]; have := HN2.out; omega) ?_); intro vh1 W5 hown hbel hgr hat; obtain ⟨A1, cap1, rfl⟩ := own_slice hown; (have hb5 := grown_blk HH7.out hgr HB7.out (by decide)); (have hl5 := own_grown HL7.out hgr (fun k c hk hc cs f he => by obtain ⟨_, cs', h3⟩ := own_blk HH7.out k hk; rw [h3] at hc; injection hc with hc; rw [← hc] at he; injection he with _ h4; exact absurd h4 (by decide))); (have hF5 : Fr B g W W5 := HF7.out.grown_own HH7.out hgr tch_string); (have p3 : W5.cell? ⟨g, 3, none⟩ = some vh := by rw [cell_of_blk hb5 3]; rfl); (have f3 := frozen_blk hb5 3); (have HO := Lib.hid hown); (have HG5 := Lib.hid hb5); (clear hown hgr))
          try go_wp2
          go_meet
          have hlen : (List.map keyVal R2.has ++ [Value.string kv2]).length = R2.has.length + 1 := by simp
          have h7 := HO.out
          rw [hlen] at h7
          have e1 := blk_set' HG5.out 3 (.slice A1 (R2.has.length + 1) cap1)
          refine ⟨⟨vl, .slice A1 (R2.has.length + 1) cap1, ?_, ?_, ?_⟩, hF5.setG _ _⟩
          · rw [e1]; rfl
          · exact own_set hl5 HG5.out (by decide) (i := 3) _
          · have h6 := own_set h7 HG5.out (by decide) (i := 3) (.slice A1 (R2.has.length + 1) cap1)
            have hkv : keyVal i = .string kv2 := by simp only [keyVal, List.getD_eq_getElem?_getD, HK.out]; rfl
            simp only [List.map_append, List.map_cons, List.map_nil, hkv, List.length_append, List.length_singleton]
            exact h6
        case rest =>
          clear HR7 HF7
          obtain ⟨hr8, hf8⟩ := hcut
          have HR8 := Lib.hid hr8
          have HBW8 : Hid (B ≤ wc.heap.size) := Lib.hid (Nat.le_trans hBW hf8.size)
          have HF8 := Lib.hid hf8
          clear hr8 hf8
          obtain ⟨vl, vh, hb, hl, hh⟩ := HR8.out
          have hne : ({ R2 with has := R2.has ++ [i] } : S.Rd).l ≠ [] := by show R2.l ≠ []; rw [HL2.out]; exact HNE.out
          obtain ⟨gl, cap, rfl, hgB2, hgl⟩ := own_form hl hne
          have q2 : wc.cell? ⟨g, 2, none⟩ = some (.slice (some ⟨gl, 0, none⟩) R2.l.length cap) := by rw [cell_of_blk hb 2]; rfl
          have HNL : Hid (1 ≤ R2.l.length ∧ R2.l.length ≤ 100001 ∧ R2.l.length ≤ cap) := own_room hl hne (by show R2.l.length ≤ _; rw [HL2.out]; exact HNL0.out)
          obtain ⟨k, hk1⟩ : ∃ k, R2.l.length = k + 1 := ⟨R2.l.length - 1, by have := HNL.out.1; omega⟩
          have n2 : k + 1 ≤ 100001 := by have := HNL.out.2.1; omega
          have n3 : k + 1 ≤ cap := by have := HNL.out.2.2; omega
          rw [hk1] at q2
          have HK1 := Lib.hid hk1
          clear hk1
          have w1 : IntKind.i64.wrap (k : Int) = (k : Int) := IntWalk.i64_in _ (by omega)
          have HB8 := Lib.hid hb
          have HL8 := Lib.hid hl
          have HH8 := Lib.hid hh
          clear hb hl hh hne
          go_upto_region 19 with (fail)
          go_cut [13, 14] (fun s13 s14 wx => ∃ b1 b2 : Nat, s13 = .slice (some ⟨b1, 0, none⟩) 5 5 ∧ s14 = .slice (some ⟨b2, 0, none⟩) 5 5 ∧ wx.heap[b1]? = some (.cells (keyNames.map Value.string).toArray 9 (0, 0)) ∧ wx.heap[b2]? = some (.cells #[.pointer (some ⟨gl, k * 5, none⟩), .pointer (some ⟨gl, k * 5 + 1, none⟩), .pointer (some ⟨gl, k * 5 + 2, none⟩), .pointer (some ⟨gl, k * 5 + 3, none⟩), .pointer (some ⟨gl, k * 5 + 4, none⟩)] 56 (0, 0)) ∧ Below wc.heap.size wc wx)
          case first =>
            go_region_with (go_at_call 23; refine (dent_fields gl (k * 5) _).mono ?_; rintro e w4 ⟨b1, b2, rfl, h1, h2, h3, h4, hb4⟩)
            all_goals go_wp2_with fail
            all_goals go_meet
            all_goals exact ⟨b1, b2, rfl, rfl, h3, h4, ((Below.refl wc.heap.size wc).drew).trans hb4⟩
          case rest =>
            obtain ⟨b1, b2, rfl, rfl, hb1, hb2, hbel⟩ := hcut
            have pc : wc.cell? ⟨b2, i, none⟩ = some (.pointer (some ⟨gl, k * 5 + i, none⟩)) := by
              rw [cell_of_blk hb2 i]
              have hi := HI5.out
              rcases i with _ | _ | _ | _ | _ | i
              all_goals first | rfl | omega
            have HNAMES := Lib.hid hb1
            have hb2lt : b2 < wc.heap.size := (Array.getElem?_eq_some_iff.1 hb2).1
            have hi5' := HI5.out
            have HRW : Hid (RdAt B g { R2 with has := R2.has ++ [i] } wc) := Lib.hid (HR8.out.below hbel)
            obtain ⟨vl8, vh8, hb8, hl8, hh8⟩ := HRW.out
            obtain ⟨gl2, cap2, rfl, _, _⟩ := own_form hl8 (by show R2.l ≠ []; rw [HL2.out]; exact HNE.out)
            have HSAME : Hid (gl2 = gl) := by
              have h1 := (hbel.block g (Array.getElem?_eq_some_iff.1 HB8.out).1).trans HB8.out
              rw [hb8] at h1
              simp at h1
              exact Lib.hid h1.1.1
            have hcc : wc.cell? ⟨gl2, k * 5 + i, none⟩ = (lkCells R2.l)[k * 5 + i]? := hl8.cellAt (k * 5 + i) (by show k * 5 + i < R2.l.length * 5; rw [HK1.out]; omega)
            have hff : wc.frozen? ⟨gl2, k * 5 + i, none⟩ = false := hl8.frozenAt (k * 5 + i)
            rw [HSAME.out] at hcc hff
            obtain ⟨vold, hvold⟩ : ∃ v, (lkCells R2.l)[k * 5 + i]? = some v := ⟨_, List.getElem?_eq_getElem (by rw [lkCells_length, HK1.out]; omega)⟩
            rw [hvold] at hcc
            have hgl2 : gl < wc.heap.size := World.block_lt_of_cell? wc _ hcc
            have HBL8 := Lib.hid hbel
            have HGW8 : Hid (g < wc.heap.size) := Lib.hid (Array.getElem?_eq_some_iff.1 hb8).1
            have HS8 : Hid (wc.cell? ⟨g, 2, none⟩ = some (.slice (some ⟨gl, 0, none⟩) (k + 1) cap)) := Lib.hid ((hbel.cell (p := ⟨g, 2, none⟩) (Array.getElem?_eq_some_iff.1 HB8.out).1).trans q2)
            have HF9 : Hid (Fr B g W wc) := Lib.hid (HF8.out.trans (Fr.of_below hbel))
            have HBW9 : Hid (B ≤ wc.heap.size) := Lib.hid (Nat.le_trans HBW8.out hbel.size)
            clear hb8 hl8 hh8 hvold hb1 hb2 hbel
            go_upto_region 20 with (fail)
            go_region_with (first | (go_at_call 64; refine (names_index b1 i kv2 _ (by exact HNAMES.out) HK.out).mono ?_; rintro e w4 ⟨rfl, rfl⟩) | (go_at_call 63; refine (strings_Clone vv2 _ (by have := HVS.out; omega) (by have := HVS.out; omega)).mono ?_; rintro e w5 ⟨rfl, hcl⟩; (have hc5 : w5.cell? ⟨gl, k * 5 + i, none⟩ = some vold := (hcl.cell (p := ⟨gl, k * 5 + i, none⟩) hgl2).trans hcc); (have hf5 : w5.frozen? ⟨gl, k * 5 + i, none⟩ = false := (hcl.frozen (p := ⟨gl, k * 5 + i, none⟩) hgl2).trans hff); (have pc5 : w5.cell? ⟨b2, i, none⟩ = some (.pointer (some ⟨gl, k * 5 + i, none⟩)) := (hcl.cell (p := ⟨b2, i, none⟩) hb2lt).trans pc)))
            all_goals go_wp2_with fail
            all_goals go_end0
            all_goals
              have hB9 : Below wc.heap.size wc w5 := ((Below.refl wc.heap.size wc).drew).trans hcl
              have hRW9 := HRW.out.below hB9
              have hs9 : w5.cell? ⟨g, 2, none⟩ = some (.slice (some ⟨gl, 0, none⟩) (k + 1) cap) := (hB9.cell (p := ⟨g, 2, none⟩) HGW8.out).trans HS8.out
              obtain ⟨hr10, hf10⟩ := RdAt.setField hRW9 hs9 HK1.out HI5.out vv2.data.toList
              rw [show bstr vv2.data.toList = Value.string vv2 by simp only [bstr, str_back]] at hr10 hf10
              have hF : Fr B g W w5 := HF9.out.trans (Fr.of_below hB9)
              have hfin : (r).field at_ i vv2.data.toList = { R2 with has := R2.has ++ [i], l := S.setLast R2.l i vv2.data.toList } := by
                simp only [S.Rd.field]
                rw [show (r).has.contains i = hasB (r).has i from rfl, ← HR1e.out, ← HR2e.out]
              rw [hfin]
              first
                | exact ⟨rfl, hr10, hF.trans hf10⟩
                | exact ⟨rfl, hr10.below (by exact below_dN (Below.refl _ _) _), (hF.trans hf10).drewN _⟩
  

end Go.Proofs.YtpcmkjimdhlhiaaGreatDoor.G
-- part G18
namespace Go.Proofs.YtpcmkjimdhlhiaaGreatDoor.G
open Go.RowKit

set_option maxRecDepth 100000 in
set_option maxHeartbeats 4000000 in
theorem dent_line_n1 (B g : Nat) (r : S.Rd) (s : ByteArray) (at_ : Nat) (m : Int) (W : World) (h : RdAt B g r W) (hs : s.size ≤ 100000) (hm : W.cell? ⟨0, 0, none⟩ = some (.int .i64 m)) (hp : Lib.hasPrefix s.data.toList [45, 32] = true) (hpr : S.pair (s.data.toList.drop 2) = none) :
    Calls Tryz.prog 33 #[.pointer (some ⟨g, 0, none⟩), .string s, .int .i64 at_] W fun e W' => e = .returned (.tuple #[]) ∧ RdAt B g (r.wrong at_ 1) W' ∧ Fr B g W W' := by
  have HR := Lib.hid h
  have HM := Lib.hid hm
  have HPR := Lib.hid hpr
  have HT := Lib.hid (trim_two s [45, 32] rfl hp)
  clear h hm hpr
  go_enter Tryz.func33, Tryz.ntmps33
  go_wp2_with fail
  refine (Tryz.strings_CutPrefix s ⟨#[45, 32]⟩ W).mono ?_
  rintro e W0 ⟨rfl, rfl⟩
  rw [show ((⟨#[45, 32]⟩ : ByteArray).data.toList) = [45, 32] from rfl, hp, HT.out]
  go_wp2_with fail
  refine (Tryz.strings_CutPrefix s ⟨#[32, 32]⟩ W0).mono ?_
  rintro e W ⟨rfl, rfl⟩
  rw [show ((⟨#[32, 32]⟩ : ByteArray).data.toList) = [32, 32] from rfl]
  go_wp2_with fail
  refine (dent_pair ⟨(List.drop 2 s.data.toList).toArray⟩ m W ?sz HM.out).mono ?_
  case sz => rw [size_mk, List.length_drop]; have : s.data.toList.length = s.size := by simp
             omega
  rintro e W1 ⟨⟨kv2, vv2, rfl, hkv⟩, hb1⟩
  rw [show (⟨(List.drop 2 s.data.toList).toArray⟩ : ByteArray).data.toList = List.drop 2 s.data.toList from rfl, HPR.out] at *
  clear hkv
  simp only [Option.isSome_none]
  go_wp2_with fail
  refine (dent_wrong B g r at_ 1 _ (HR.out.below hb1)).mono ?_
  rintro e W2 ⟨rfl, hr2, hf2⟩
  go_wp2
  first | (refine bodyPost_ret (results_none rfl _ _ _) rfl ?_) | go_end0
  exact ⟨rfl, hr2, (Fr.of_below hb1).trans hf2⟩

set_option maxRecDepth 100000 in
set_option maxHeartbeats 4000000 in
theorem dent_line_n2 (B g : Nat) (r : S.Rd) (s : ByteArray) (at_ : Nat) (m : Int) (W : World) (h : RdAt B g r W) (hs : s.size ≤ 100000) (hm : W.cell? ⟨0, 0, none⟩ = some (.int .i64 m)) (hp : Lib.hasPrefix s.data.toList [45, 32] = false) (hp2 : Lib.hasPrefix s.data.toList [32, 32] = true) (hne : r.l ≠ []) (hn : r.l.length ≤ 100000) (hpr : S.pair (s.data.toList.drop 2) = none) :
    Calls Tryz.prog 33 #[.pointer (some ⟨g, 0, none⟩), .string s, .int .i64 at_] W fun e W' => e = .returned (.tuple #[]) ∧ RdAt B g (r.wrong at_ 1) W' ∧ Fr B g W W' := by
  have HR := Lib.hid h
  have HM := Lib.hid hm
  have HPR := Lib.hid hpr
  have HT := Lib.hid (trim_two s [32, 32] rfl hp2)
  obtain ⟨vl0, vh0, hb0, hl0, hh0⟩ := h
  obtain ⟨gl0, cap0, rfl, _, _⟩ := own_form hl0 hne
  have hpos : 1 ≤ r.l.length := by
    rcases Nat.eq_zero_or_pos r.l.length with h0 | h0
    · exact absurd (List.eq_nil_of_length_eq_zero h0) hne
    · exact h0
  have q0 : W.cell? ⟨g, 2, none⟩ = some (.slice (some ⟨gl0, 0, none⟩) r.l.length cap0) := by rw [cell_of_blk hb0 2]; rfl
  clear hm hpr hb0 hl0 hh0 hne
  go_enter Tryz.func33, Tryz.ntmps33
  go_wp2_with fail
  refine (Tryz.strings_CutPrefix s ⟨#[45, 32]⟩ W).mono ?_
  rintro e W0 ⟨rfl, rfl⟩
  rw [show ((⟨#[45, 32]⟩ : ByteArray).data.toList) = [45, 32] from rfl, hp]
  go_wp2_with fail
  refine (Tryz.strings_CutPrefix s ⟨#[32, 32]⟩ W0).mono ?_
  rintro e W ⟨rfl, rfl⟩
  rw [show ((⟨#[32, 32]⟩ : ByteArray).data.toList) = [32, 32] from rfl, hp2, HT.out]
  go_wp2_with fail
  refine (dent_pair ⟨(List.drop 2 s.data.toList).toArray⟩ m W ?sz HM.out).mono ?_
  case sz => rw [size_mk, List.length_drop]; have : s.data.toList.length = s.size := by simp
             omega
  rintro e W1 ⟨⟨kv2, vv2, rfl, hkv⟩, hb1⟩
  rw [show (⟨(List.drop 2 s.data.toList).toArray⟩ : ByteArray).data.toList = List.drop 2 s.data.toList from rfl, HPR.out] at *
  clear hkv q0
  simp only [Option.isSome_none]
  go_wp2_with fail
  refine (dent_wrong B g r at_ 1 _ (HR.out.below hb1)).mono ?_
  rintro e W2 ⟨rfl, hr2, hf2⟩
  go_wp2
  first | (refine bodyPost_ret (results_none rfl _ _ _) rfl ?_) | go_end0
  exact ⟨rfl, hr2, (Fr.of_below hb1).trans hf2⟩

set_option maxRecDepth 100000 in
set_option maxHeartbeats 4000000 in
theorem dent_line_n3 (B g : Nat) (r : S.Rd) (s : ByteArray) (at_ : Nat) (m : Int) (W : World) (h : RdAt B g r W) (hs : s.size ≤ 100000) (hm : W.cell? ⟨0, 0, none⟩ = some (.int .i64 m)) (hp : Lib.hasPrefix s.data.toList [45, 32] = false) (hp2 : Lib.hasPrefix s.data.toList [32, 32] = false) :
    Calls Tryz.prog 33 #[.pointer (some ⟨g, 0, none⟩), .string s, .int .i64 at_] W fun e W' => e = .returned (.tuple #[]) ∧ RdAt B g (r.wrong at_ 1) W' ∧ Fr B g W W' := by
  have HR := Lib.hid h
  clear h hm
  go_enter Tryz.func33, Tryz.ntmps33
  go_wp2_with fail
  refine (Tryz.strings_CutPrefix s ⟨#[45, 32]⟩ W).mono ?_
  rintro e W0 ⟨rfl, rfl⟩
  rw [show ((⟨#[45, 32]⟩ : ByteArray).data.toList) = [45, 32] from rfl, hp]
  go_wp2_with fail
  refine (Tryz.strings_CutPrefix s ⟨#[32, 32]⟩ W0).mono ?_
  rintro e W ⟨rfl, rfl⟩
  rw [show ((⟨#[32, 32]⟩ : ByteArray).data.toList) = [32, 32] from rfl, hp2]
  go_wp2_with fail
  refine (dent_wrong B g r at_ 1 _ HR.out).mono ?_
  rintro e W2 ⟨rfl, hr2, hf2⟩
  go_wp2
  first | (refine bodyPost_ret (results_none rfl _ _ _) rfl ?_) | go_end0
  exact ⟨rfl, hr2, hf2⟩

set_option maxRecDepth 100000 in
set_option maxHeartbeats 4000000 in
theorem dent_line_n4 (B g : Nat) (r : S.Rd) (s : ByteArray) (at_ : Nat) (m : Int) (W : World) (h : RdAt B g r W) (hs : s.size ≤ 100000) (hm : W.cell? ⟨0, 0, none⟩ = some (.int .i64 m)) (hp : Lib.hasPrefix s.data.toList [45, 32] = false) (hp2 : Lib.hasPrefix s.data.toList [32, 32] = true) (hz : r.l = []) :
    Calls Tryz.prog 33 #[.pointer (some ⟨g, 0, none⟩), .string s, .int .i64 at_] W fun e W' => e = .returned (.tuple #[]) ∧ RdAt B g (r.wrong at_ 1) W' ∧ Fr B g W W' := by
  have HR := Lib.hid h
  obtain ⟨vl0, vh0, hb0, hl0, hh0⟩ := h
  obtain ⟨a, c, rfl⟩ : ∃ a c, vl0 = .slice a 0 c := by
    rcases hl0.2 with ⟨h1, _⟩ | ⟨g', cap, cur, h1, _⟩
    · exact ⟨none, 0, h1⟩
    · exact ⟨_, cap, by rw [h1, hz]; rfl⟩
  have q0 : W.cell? ⟨g, 2, none⟩ = some (.slice a 0 c) := by rw [cell_of_blk hb0 2]; rfl
  clear hm hb0 hl0 hh0 hz
  go_enter Tryz.func33, Tryz.ntmps33
  go_wp2_with fail
  refine (Tryz.strings_CutPrefix s ⟨#[45, 32]⟩ W).mono ?_
  rintro e W0 ⟨rfl, rfl⟩
  rw [show ((⟨#[45, 32]⟩ : ByteArray).data.toList) = [45, 32] from rfl, hp]
  go_wp2_with fail
  refine (Tryz.strings_CutPrefix s ⟨#[32, 32]⟩ W0).mono ?_
  rintro e W ⟨rfl, rfl⟩
  rw [show ((⟨#[32, 32]⟩ : ByteArray).data.toList) = [32, 32] from rfl, hp2]
  go_wp2_with fail
  refine (dent_wrong B g r at_ 1 _ HR.out).mono ?_
  rintro e W2 ⟨rfl, hr2, hf2⟩
  go_wp2
  first | (refine bodyPost_ret (results_none rfl _ _ _) rfl ?_) | go_end0
  exact ⟨rfl, hr2, hf2⟩

theorem unqGo_len (n : Nat) : ∀ (r acc : S.Bs) (p : Nat) (o : S.Bs) (k : Nat), r.length ≤ n → S.unqGo r acc p = some (o, k) → o.length ≤ acc.length + r.length := by
  induction n with
  | zero =>
    intro r acc p o k hr h
    obtain rfl : r = [] := List.eq_nil_of_length_eq_zero (by omega)
    rw [S.unqGo.eq_def] at h
    cases h
  | succ n ih =>
    intro r acc p o k hr h
    rw [S.unqGo.eq_def] at h
    cases r with
    | nil => cases h
    | cons x r =>
      simp only at h
      split at h
      · cases h
      · split at h
        · injection h with h; injection h with h1 h2; subst h1; simp
        · split at h
          · cases r with
            | nil => cases h
            | cons y r' =>
              simp only at h
              split at h
              · cases h
              · have := ih r' _ _ _ _ (by simp at hr; omega) h
                simp at this ⊢
                omega
          · have := ih r _ _ _ _ (by simp at hr; omega) h
            simp at this ⊢
            omega
theorem value_len (b : S.Bs) : (S.value b).1.length ≤ b.length := by
  unfold S.value
  split
  · rename_i o n h
    split
    · cases b with
      | nil => simp [S.unquote] at h
      | cons x r =>
        simp only [S.unquote] at h
        split at h
        · have := unqGo_len r.length r [] 1 o n (Nat.le_refl _) h
          simp at this ⊢
          omega
        · cases h
    · exact Nat.le_refl _
  · exact Nat.le_refl _
theorem pair_size {l : S.Bs} {i : Nat} {v : S.Bs} (h : S.pair l = some (i, v)) : v.length ≤ l.length := by
  unfold S.pair at h
  split at h
  · split at h
    · injection h with h
      injection h with h1 h2
      have h3 := value_len (Lib.cut l [58, 32]).2.1
      rw [h2] at h3
      refine Nat.le_trans h3 ?_
      unfold Lib.cut
      split
      · simp
      · simp
    · cases h
  · cases h
/-- (*reader).line is the document's. -/
theorem dent_line (B g : Nat) (r : S.Rd) (s : ByteArray) (at_ : Nat) (m : Int) (W : World) (h : RdAt B g r W) (hBW : B ≤ W.heap.size) (hn : r.l.length ≤ 100000) (hnh : r.has.length ≤ 100000) (hs : s.size ≤ 100000) (hm : W.cell? ⟨0, 0, none⟩ = some (.int .i64 m)) :
    Calls Tryz.prog 33 #[.pointer (some ⟨g, 0, none⟩), .string s, .int .i64 at_] W fun e W' => e = .returned (.tuple #[]) ∧ RdAt B g (r.line s.data.toList at_) W' ∧ Fr B g W W' := by
  have hsl : s.data.toList.length = s.size := by simp
  cases hp : Lib.hasPrefix s.data.toList [45, 32] with
  | true =>
    cases hpr : S.pair (s.data.toList.drop 2) with
    | none =>
      have e1 : r.line s.data.toList at_ = r.wrong at_ 1 := by simp only [S.Rd.line, S.lineP, hp, if_true, hpr]
      rw [e1]
      exact dent_line_n1 B g r s at_ m W h hs hm hp hpr
    | some q =>
      obtain ⟨i, v⟩ := q
      have hv : v.length ≤ 100000 := by have := pair_size hpr; rw [List.length_drop] at this; omega
      have e1 : r.line s.data.toList at_ = (r.begin at_).field at_ i v := by simp only [S.Rd.line, S.lineP, hp, if_true, hpr]
      rw [e1]
      exact dent_line_b B g r s ⟨#[]⟩ ⟨v.toArray⟩ at_ i m W h hBW hn hnh hs (by rw [size_mk]; exact hv) hm hp hpr
  | false =>
    cases hp2 : Lib.hasPrefix s.data.toList [32, 32] with
    | false =>
      have e1 : r.line s.data.toList at_ = r.wrong at_ 1 := by simp [S.Rd.line, S.lineP, hp, hp2]
      rw [e1]
      exact dent_line_n3 B g r s at_ m W h hs hm hp hp2
    | true =>
      by_cases hz : r.l = []
      · have e1 : r.line s.data.toList at_ = r.wrong at_ 1 := by simp [S.Rd.line, S.lineP, hp, hp2, hz]
        rw [e1]
        exact dent_line_n4 B g r s at_ m W h hs hm hp hp2 hz
      · cases hpr : S.pair (s.data.toList.drop 2) with
        | none =>
          have e1 : r.line s.data.toList at_ = r.wrong at_ 1 := by simp [S.Rd.line, S.lineP, hp, hp2, hz, hpr]
          rw [e1]
          exact dent_line_n2 B g r s at_ m W h hs hm hp hp2 hz hn hpr
        | some q =>
          obtain ⟨i, v⟩ := q
          have hv : v.length ≤ 100000 := by have := pair_size hpr; rw [List.length_drop] at this; omega
          have e1 : r.line s.data.toList at_ = r.field at_ i v := by simp [S.Rd.line, S.lineP, hp, hp2, hz, hpr]
          rw [e1]
          exact dent_line_c B g r s ⟨v.toArray⟩ at_ i m W h hBW hn hnh hs (by rw [size_mk]; exact hv) hm hp hp2 hz hpr
end Go.Proofs.YtpcmkjimdhlhiaaGreatDoor.G
-- part S3
namespace Go.Proofs.YtpcmkjimdhlhiaaGreatDoor.S
/-- A text in pieces: each ends behind a line's end; the last one is what is left. -/
def pieces : Nat → Bs → List Bs
  | 0, l => [l]
  | n + 1, l => if 0 ≤ Lib.indexByte l 10 then l.take ((Lib.indexByte l 10).toNat + 1) :: pieces n (l.drop ((Lib.indexByte l 10).toNat + 1)) else [l]
def plainB (c : UInt8) : Bool := decide ((c.toNat : Int) = 9 ∨ (c.toNat : Int) = 10 ∨ (32 ≤ (c.toNat : Int) ∧ (c.toNat : Int) ≤ 126))
def plainS (l : Bs) : Bool := l.all plainB
/-- Where the first bad byte is; below 0: there is none. -/
def badAt (l : Bs) : Int := if plainS l then -1 else (l.findIdx (fun c => !plainB c) : Int)
end Go.Proofs.YtpcmkjimdhlhiaaGreatDoor.S
-- part G19
namespace Go.Proofs.YtpcmkjimdhlhiaaGreatDoor.G
open Go.RowKit Go.Shelf
attribute [local go_sem] Oper.semAt_some

def strAt (w : World) (b : Nat) : S.Bs := match w.cell? ⟨b, 0, none⟩ with
  | some (.string s) => s.data.toList
  | _ => []
/-- The iterator's own three boxes. -/
def Boxes (bs : Nat) (r : ByteArray) (W : World) : Prop :=
  W.heap[bs]? = some (.cells #[.string r] 9 (0, 0)) ∧ W.heap[bs + 1]? = some (.cells #[.string ⟨#[10]⟩] 9 (0, 0)) ∧ W.heap[bs + 2]? = some (.cells #[.int .i64 1] 3 (0, 0))
/-- strings.SplitAfterSeq(s, a line's end), ranged over: each piece comes, in order. What lies in its own box is turned between two rounds. -/
theorem split_gives (l bs : Nat) (J : Nat → World → Prop) (s : ByteArray) (hs : s.size ≤ 9000)
    (hS : ∀ k r W v, J k W → Boxes bs r W → J k (W.setCell ⟨bs, 0, none⟩ v)) (hD : ∀ k W n, J k W → J k (W.drewN n))
    (hY : ∀ (k : Nat) (x : ByteArray) (r : ByteArray) W1, J k W1 → Boxes bs r W1 → (S.pieces s.size s.data.toList)[k]? = some x.data.toList → YieldAt Fence.wide 1 Tryz.prog l #[.string x] W1 fun e W' => e = .returned (.bool true) ∧ J (k + 1) W' ∧ Boxes bs r W')
    (W : World) (hb : Boxes bs s W) (h0 : J 0 W) :
    CallsIn Fence.wide 2 Tryz.prog 86 #[.func (.yield l) #[] #[], .pointer (some ⟨bs + 1, 0, none⟩), .pointer (some ⟨bs, 0, none⟩), .pointer (some ⟨bs + 2, 0, none⟩)] W fun e W' => (∃ v, e = .returned v) ∧ J (S.pieces s.size s.data.toList).length W' := by
  have HS := Lib.hid hS
  have HD := Lib.hid hD
  have HY := Lib.hid hY
  have HB := Lib.hid hb
  have H0 := Lib.hid h0
  have c0 : W.cell? ⟨bs, 0, none⟩ = some (.string s) := by rw [cell_of_blk hb.1 0]; rfl
  have c1 : W.cell? ⟨bs + 1, 0, none⟩ = some (.string ⟨#[10]⟩) := by rw [cell_of_blk hb.2.1 0]; rfl
  clear hS hD hY hb h0
  refine callsIn_of_wp Tryz.func86 rfl trivial ?_ rfl
  simp only [Tryz.ntmps86, List.size_toArray, List.length_cons, List.length_nil, Nat.reduceAdd, Nat.reduceSub, Array.replicate_succ, Array.replicate_zero, List.push_toArray, List.append_toArray, List.nil_append, List.cons_append]
  gi_wp2
  gi_loopw [7] (fun i wr => ∃ (k : Nat) (r : ByteArray), Boxes bs r wr ∧ J k wr ∧ r.size ≤ s.size ∧ (∃ m, r.size ≤ m ∧ (S.pieces s.size s.data.toList).drop k = S.pieces m r.data.toList)) (fun i wr => (strAt wr bs).length)
  case atStart => exact ⟨0, s, HB.out, H0.out, Nat.le_refl _, s.size, Nat.le_refl _, rfl⟩
  case round =>
    obtain ⟨k, r, hbx, hj, hrs, m, hm, hp⟩ := hrel
    have d0 : wr.cell? ⟨bs, 0, none⟩ = some (.string r) := by rw [cell_of_blk hbx.1 0]; rfl
    have d1 : wr.cell? ⟨bs + 1, 0, none⟩ = some (.string ⟨#[10]⟩) := by rw [cell_of_blk hbx.2.1 0]; rfl
    have d2 : wr.cell? ⟨bs + 2, 0, none⟩ = some (.int .i64 1) := by rw [cell_of_blk hbx.2.2 0]; rfl
    have HBX := Lib.hid hbx
    have HJ := Lib.hid hj
    have HP := Lib.hid hp
    clear hbx hj hp c0 c1
    have hge := Lib.indexByte_ge r.data.toList 10
    have hrl : r.data.toList.length = r.size := by simp
    by_cases hx : Lib.indexByte r.data.toList 10 = -1
    · have hone : S.pieces m r.data.toList = [r.data.toList] := by
        cases m with
        | zero => rfl
        | succ m => rw [S.pieces, if_neg (by omega)]
      have hk : (S.pieces s.size s.data.toList)[k]? = some r.data.toList := by
        have h := HP.out
        rw [hone] at h
        have h2 := congrArg (fun l => l[0]?) h
        simpa using h2
      have HLEN : Hid ((S.pieces s.size s.data.toList).length = k + 1) := by
        have h := HP.out
        rw [hone] at h
        have h2 := congrArg List.length h
        simp at h2
        have h3 := (List.getElem?_eq_some_iff.1 hk).1
        exact Lib.hid (by omega)
      obtain ⟨fn, tmps, assign, body, hy, hR⟩ := HY.out k r r wr HJ.out HBX.out hk
      have HX := Lib.hid hx
      clear hone hk hge hrl hx
      gi_wp2_with (refine ⟨trivial, ?_⟩; gi_at_call 78; refine (callsIn_wide.2 (Tryz.strings_Index_one r 10 _)).mono ?_; rintro e w' ⟨rfl, rfl⟩; rw [HX.out])
      refine hR.mono ?_
      rintro e W' ⟨rfl, hj', hb'⟩
      clear hy hb'
      gi_wp2
      first | go_end0 | refine bodyPost_ret (results_none rfl _ _ _) rfl ?_
      exact ⟨⟨_, rfl⟩, by rw [HLEN.out]; exact hj'⟩
    · obtain ⟨j, hj⟩ : ∃ j : Nat, Lib.indexByte r.data.toList 10 = (j : Int) := ⟨(Lib.indexByte r.data.toList 10).toNat, by omega⟩
      have hjb := index_bound hj
      obtain ⟨m, rfl⟩ : ∃ m', m = m' + 1 := ⟨m - 1, by omega⟩
      have hcons : S.pieces (m + 1) r.data.toList = (r.extract 0 (j + 1)).data.toList :: S.pieces m (r.extract (j + 1) r.size).data.toList := by
        rw [S.pieces, if_pos (by omega), hj]
        simp only [extract_data, List.drop_zero, Nat.sub_zero, Int.toNat_natCast]
        rw [List.take_of_length_le (l := List.drop (j + 1) r.data.toList) (by simp)]
      have hk : (S.pieces s.size s.data.toList)[k]? = some (r.extract 0 (j + 1)).data.toList := by
        have h := HP.out
        rw [hcons] at h
        have h2 := congrArg (fun l => l[0]?) h
        simpa using h2
      have HNEXT : Hid ((S.pieces s.size s.data.toList).drop (k + 1) = S.pieces m (r.extract (j + 1) r.size).data.toList) := by
        have h := HP.out
        rw [hcons] at h
        have h2 := congrArg List.tail h
        rw [List.tail_drop] at h2
        exact Lib.hid h2
      obtain ⟨fn, tmps, assign, body, hy, hR⟩ := HY.out k (r.extract 0 (j + 1)) r wr HJ.out HBX.out hk
      have HX := Lib.hid hj
      clear hcons hk hge hrl hx hj
      gi_wp2_with (refine ⟨trivial, ?_⟩; gi_at_call 78; refine (callsIn_wide.2 (Tryz.strings_Index_one r 10 _)).mono ?_; rintro e w' ⟨rfl, rfl⟩; rw [HX.out])
      refine hR.mono ?_
      rintro e W' ⟨rfl, hj', hb'⟩
      have g0 : W'.cell? ⟨bs, 0, none⟩ = some (.string r) := by rw [cell_of_blk hb'.1 0]; rfl
      have g1 : W'.cell? ⟨bs + 1, 0, none⟩ = some (.string ⟨#[10]⟩) := by rw [cell_of_blk hb'.2.1 0]; rfl
      have gf : W'.frozen? ⟨bs, 0, none⟩ = false := frozen_blk hb'.1 0
      have HB2 := Lib.hid hb'
      have HJ2 := Lib.hid hj'
      clear hy hb' hj' d0 d1 d2
      gi_wp2
      go_roundw
      case rel =>
        refine ⟨k + 1, r.extract (j + 1) r.size, ⟨?_, ?_, ?_⟩, HS.out (k + 1) r W' _ HJ2.out HB2.out, by simp; omega, m, by simp; omega, HNEXT.out⟩
        · exact blk_set' HB2.out.1 0 _
        · exact (Below.heap_setCell W' ⟨bs, 0, none⟩ _ (bs + 1) (by simp)).trans HB2.out.2.1
        · exact (Below.heap_setCell W' ⟨bs, 0, none⟩ _ (bs + 2) (by simp)).trans HB2.out.2.2
      case measure =>
        have e1 : strAt (W'.setCell ⟨bs, 0, none⟩ (.string (r.extract (j + 1) r.size))) bs = (r.extract (j + 1) r.size).data.toList := by
          unfold strAt; rw [cell_of_blk (blk_set' HB2.out.1 0 _) 0]; rfl
        have e2 : strAt w' bs = r.data.toList := by
          unfold strAt; rw [cell_of_blk HBX.out.1 0]; rfl
        rw [e1, e2]
        simp
        omega
end Go.Proofs.YtpcmkjimdhlhiaaGreatDoor.G
-- part G20
namespace Go.Proofs.YtpcmkjimdhlhiaaGreatDoor.G
open Go.RowKit Go.Shelf

/-- A RANGE OVER strings.SplitAfterSeq(s, a line's end), whose body never leaves early: the caller's invariant I is led from piece to piece. -/
theorem range_split {F : Fence} {p : Tmp} {g : Operand} {assign body : Code} {Q : Exit → Act → World → Prop} {a : Act} {w : World} {bs : Nat} (s : ByteArray) (hs : s.size ≤ 9000) (hF : F = Fence.wide)
    (hg : a.eval g = .func (.func 86) #[] #[.pointer (some ⟨bs + 1, 0, none⟩), .pointer (some ⟨bs, 0, none⟩), .pointer (some ⟨bs + 2, 0, none⟩)])
    (hb : Boxes bs s w)
    (I : Nat → World → Prop) (h0 : I 0 w)
    (hIA : ∀ k W o, I k W → o.isCells = false → w.heap.size ≤ W.heap.size → I k (W.alloc o))
    (hIS : ∀ k r W v, I k W → Boxes bs r W → I k (W.setCell ⟨bs, 0, none⟩ v))
    (hID : ∀ k W n, I k W → I k (W.drewN n))
    (hIP : ∀ k W l o o', I k W → w.heap.size ≤ l → W.heap[l]? = some o → o.isCells = false → I k (W.putObj l o'))
    (a₁ : ByteArray → Act)
    (hassign : ∀ (l : Nat) (x : ByteArray) (W : World) (K : Act → World → Prop), K (a₁ x) W →
      assign.wpIn (Fence.wide.inRound l) 1 Tryz.prog (Exit.then K (fun _ _ _ => False)) { tmps := a.tmps.setIfInBounds p (.string x), defers := [] } W)
    (hbody : ∀ (l k : Nat) (x r : ByteArray) (W : World), I k W → Boxes bs r W → (S.pieces s.size s.data.toList)[k]? = some x.data.toList →
      body.wpIn (Fence.wide.inRound l) 1 Tryz.prog (fun e _ W' => e = .normal ∧ KeepsOthers W W' ∧ I (k + 1) W' ∧ Boxes bs r W') (a₁ x) W)
    (hdone : ∀ (W : World), I (S.pieces s.size s.data.toList).length W → W.heap[w.heap.size]? = some (.deferred (some [])) → Q .normal { a with defers := { target := .collected w.heap.size, args := #[] } :: a.defers } W) :
    (Code.rangeFunc g #[p] assign body).wpIn F 3 Tryz.prog Q a w := by
  subst hF
  refine wpIn_rangeFunc ?_
  intro fn hfn
  obtain ⟨rec, hrec⟩ : ∃ rec : LoopState → Loop, rec = fun st => { state := st, pending := none, fn, tmps := a.tmps, params := #[p], assign, body, defers := w.heap.size } := ⟨_, rfl⟩
  obtain ⟨W1, hW1⟩ : ∃ W1, (w.alloc (.deferred (some []))).alloc (.loop (rec .ready)) = W1 := ⟨_, rfl⟩
  have hL1 : W1.heap[w.heap.size + 1]? = some (.loop (rec .ready)) := by
    rw [← hW1]; have := World.alloc_heap_new (w.alloc (.deferred (some []))) (.loop (rec .ready)); rwa [World.size_alloc] at this
  have hK1 : W1.heap[w.heap.size]? = some (.deferred (some [])) := by
    rw [← hW1]; exact (Below.heap_alloc _ _ _ (by simp)).trans (World.alloc_heap_new w _)
  have hI1 : I 0 W1 := by rw [← hW1]; exact hIA _ _ _ (hIA _ _ _ h0 rfl (Nat.le_refl _)) rfl (by simp)
  have hbl : ∀ k, k < w.heap.size → W1.heap[k]? = w.heap[k]? := fun k hk => by
    rw [← hW1, Below.heap_alloc _ _ _ (by simp; omega), Below.heap_alloc _ _ _ hk]
  have hlt : ∀ {k : Nat} {o : Obj}, w.heap[k]? = some o → k < w.heap.size := fun h => (Array.getElem?_eq_some_iff.1 h).1
  have hB1 : Boxes bs s W1 := ⟨(hbl _ (hlt hb.1)).trans hb.1, (hbl _ (hlt hb.2.1)).trans hb.2.1, (hbl _ (hlt hb.2.2)).trans hb.2.2⟩
  have hbs : bs < w.heap.size := hlt hb.1
  have hbs1 : bs + 1 < w.heap.size := hlt hb.2.1
  have hbs2 : bs + 2 < w.heap.size := hlt hb.2.2
  refine ⟨w.heap.size + 1, [{ target := .collected w.heap.size, args := #[] }], W1, { target := .fn (.func 86) #[.pointer (some ⟨bs + 1, 0, none⟩), .pointer (some ⟨bs, 0, none⟩), .pointer (some ⟨bs + 2, 0, none⟩)], args := #[.func (.yield (w.heap.size + 1)) #[] #[]] }, W1, 86,
    #[.func (.yield (w.heap.size + 1)) #[] #[]] ++ #[.pointer (some ⟨bs + 1, 0, none⟩), .pointer (some ⟨bs, 0, none⟩), .pointer (some ⟨bs + 2, 0, none⟩)], W1, ?_, ?_, ?_, ?_, fun _ => by decide, ?_⟩
  · rw [← hW1, hrec]; exact run_enterLoop_outer _ _ _ _ _
  · simp only [resolve, hg]
    simp [go_sem]
  · intro f' hf'; simp [Target.leads] at hf'; subst hf'; trivial
  · simp [invoke, go_sem]
  · refine (split_gives (w.heap.size + 1) bs
      (fun k W => I k W ∧ W.heap[w.heap.size + 1]? = some (.loop (rec .ready)) ∧ W.heap[w.heap.size]? = some (.deferred (some []))) s hs ?_ ?_ ?_ W1 hB1 ⟨hI1, hL1, hK1⟩).mono ?_
    · rintro k r W v ⟨hi, hl, hk⟩ hbx
      exact ⟨hIS k r W v hi hbx, (Below.heap_setCell W ⟨bs, 0, none⟩ v _ (by show _ ≠ bs; omega)).trans hl, (Below.heap_setCell W ⟨bs, 0, none⟩ v _ (by show _ ≠ bs; omega)).trans hk⟩
    · rintro k W n ⟨hi, hl, hk⟩
      exact ⟨hID k W n hi, hl, hk⟩
    · rintro k x r W ⟨hi, hl, hk⟩ hbx hx
      have hlt : w.heap.size + 1 < W.heap.size := (Array.getElem?_eq_some_iff.1 hl).1
      have hy := run_yield (P := Tryz.prog) (args := #[.string x]) hl (by rw [hrec]; rfl)
      rw [hrec] at hy
      replace hy : (Instr.yield (w.heap.size + 1) #[.string x]).run Tryz.prog W = .ok (.round (w.heap.size + 1) fn (a.tmps.setIfInBounds p (.string x)) assign body) W := by rw [hy]; simp
      refine ⟨fn, _, assign, body, hy, roundIn_of_wpIn hfn (hassign _ x W _ (Exists.intro _ (And.intro (run_beginRound hl (by rw [hrec])) ?_)))⟩
      have hl2 : (W.putObj (w.heap.size + 1) (.loop { rec .ready with state := .busy })).heap[w.heap.size + 1]? = some (.loop { rec .ready with state := .busy }) := World.putObj_heap_same hlt
      have hk2 : (W.putObj (w.heap.size + 1) (.loop { rec .ready with state := .busy })).heap[w.heap.size]? = some (.deferred (some [])) := (World.putObj_heap_other (by omega)).trans hk
      have hbx2 : Boxes bs r (W.putObj (w.heap.size + 1) (.loop { rec .ready with state := .busy })) := ⟨(World.putObj_heap_other (by omega)).trans hbx.1, (World.putObj_heap_other (by omega)).trans hbx.2.1, (World.putObj_heap_other (by omega)).trans hbx.2.2⟩
      refine wpIn_mono (hbody _ k x r _ (hIP _ _ _ _ _ hi (by omega) hl rfl) hbx2 hx) ?_
      rintro e a3 W3 ⟨rfl, hk3, hi3, hb3⟩
      have hl3 := hk3.same _ _ hl2 rfl
      have hr := run_endRound (P := Tryz.prog) none hl3
      refine ⟨_, _, hr, rfl, ⟨hIP _ _ _ _ _ hi3 (by omega) hl3 rfl, ?_, (World.putObj_heap_other (by omega)).trans (hk3.same _ _ hk2 rfl)⟩, (World.putObj_heap_other (by omega)).trans hb3.1, (World.putObj_heap_other (by omega)).trans hb3.2.1, (World.putObj_heap_other (by omega)).trans hb3.2.2⟩
      rw [World.putObj_heap_same (Array.getElem?_eq_some_iff.1 hl3).1, hrec]
      rfl
    · rintro e W3 ⟨⟨v, rfl⟩, hi, hl, hk⟩
      have hne := run_endLoop (P := Tryz.prog) hl (by rw [hrec]; simp)
      rw [show (rec .ready).pending = none by rw [hrec]] at hne
      refine ⟨none, _, hne, ?_⟩
      exact hdone _ (hIP _ _ _ _ _ hi (by omega) hl rfl) ((World.putObj_heap_other (by omega)).trans hk)
end Go.Proofs.YtpcmkjimdhlhiaaGreatDoor.G
-- part G21
namespace Go.Proofs.YtpcmkjimdhlhiaaGreatDoor.G
open Go.RowKit Go.Shelf

def placeL (s : ByteArray) (at_ : Nat) : Int := wrap64 (1 + ((Lib.countByte (s.data.toList.take (min at_ s.size)) 10 : Nat) : Int))
def placeC (s : ByteArray) (at_ : Nat) : Int := wrap64 (((min at_ s.size : Nat) : Int) - Lib.lastIndexByte (s.extract 0 (min at_ s.size)) 10)
def placeV (s : ByteArray) (at_ : Nat) : Value := .agg #[.int .i64 (placeL s at_), .int .i64 (placeC s at_)]
theorem text_Place (s : ByteArray) (at_ : Nat) (hs : s.size ≤ 10000000) (w : World) :
    Calls Tryz.prog 27 #[.string s, .int .i64 at_] w fun e w' => e = .returned (placeV s at_) ∧ Below w.heap.size w w' := by
  have hn : (max 0 (min (at_ : Int) (s.size : Int))).toNat = min at_ s.size := by omega
  go_enter Tryz.func27, Tryz.ntmps27
  go_wp2_with fail
  refine (Tryz.strings_Count_one _ 10 _).mono ?_
  rintro e w1 ⟨rfl, rfl⟩
  go_wp2_with fail
  refine (Tryz.strings_LastIndexByte _ 10 (by simp; omega) _).mono ?_
  rintro e w1 ⟨rfl, rfl⟩
  go_wp2_with fail
  refine bodyPost_ret (by simp [results, Tryz.f27, go_sem, placeV, placeL, placeC]; rfl) rfl ?_
  exact ⟨rfl, (Below.refl _ w).alloc (Nat.le_refl _) _⟩
theorem text_plain (c : UInt8) (w : World) :
    Calls Tryz.prog 85 #[.int .u8 (c.toNat : Int)] w fun e w' => e = .returned (.bool (S.plainB c)) ∧ w = w' := by
  have hx := c.toNat_lt
  have HD : Hid (S.plainB c = decide ((c.toNat : Int) = 9 ∨ (c.toNat : Int) = 10 ∨ (32 ≤ (c.toNat : Int) ∧ (c.toNat : Int) ≤ 126))) := Lib.hid rfl
  go_enter Tryz.func85, Tryz.ntmps85
  by_cases h1 : (c.toNat : Int) = 9
  · have hd : S.plainB c = true := by rw [HD.out]; exact decide_eq_true (.inl h1)
    have b1 : ((c.toNat : Int) == 9) = true := beq_iff_eq.2 h1
    go_wp2
    go_ret
    first | exact ⟨rfl, rfl⟩ | exact ⟨by rw [hd]; rfl, rfl⟩
  have b1 : ((c.toNat : Int) == 9) = false := beq_eq_false_iff_ne.2 h1
  by_cases h2 : (c.toNat : Int) = 10
  · have hd : S.plainB c = true := by rw [HD.out]; exact decide_eq_true (.inr (.inl h2))
    have b2 : ((c.toNat : Int) == 10) = true := beq_iff_eq.2 h2
    go_wp2
    go_ret
    first | exact ⟨rfl, rfl⟩ | exact ⟨by rw [hd]; rfl, rfl⟩
  have b2 : ((c.toNat : Int) == 10) = false := beq_eq_false_iff_ne.2 h2
  by_cases h3 : 32 ≤ (c.toNat : Int)
  · by_cases h4 : (c.toNat : Int) ≤ 126
    · have hd : S.plainB c = true := by rw [HD.out]; exact decide_eq_true (.inr (.inr ⟨h3, h4⟩))
      go_wp2
      go_ret
      first | exact ⟨rfl, rfl⟩ | exact ⟨by rw [hd]; rfl, rfl⟩
    · have hd : S.plainB c = false := by rw [HD.out]; exact decide_eq_false (by omega)
      have d4 : decide ((c.toNat : Int) ≤ 126) = false := decide_eq_false h4
      go_wp2
      go_ret
      first | exact ⟨rfl, rfl⟩ | exact ⟨by rw [hd]; rfl, rfl⟩
  · have hd : S.plainB c = false := by rw [HD.out]; exact decide_eq_false (by omega)
    have d3 : decide (32 ≤ (c.toNat : Int)) = false := decide_eq_false h3
    go_wp2
    go_ret
    first | exact ⟨rfl, rfl⟩ | exact ⟨by rw [hd]; rfl, rfl⟩
set_option maxRecDepth 100000 in
set_option maxHeartbeats 4000000 in
theorem text_Plain (s : ByteArray) (w : World) (hs : s.size ≤ 9223372036854775807) :
    Calls Tryz.prog 52 #[.string s] w fun e w' => e = .returned (.bool (S.plainS s.data.toList)) ∧ w = w' := by
  go_enter Tryz.func52, Tryz.ntmps52
  go_wp2
  go_loop [6] (fun i => ∃ k : Nat, k ≤ s.size ∧ i = .int .i64 k ∧ S.plainS (s.data.toList.take k) = true) (fun i => s.size - (intOf i).toNat)
  case atStart => exact ⟨0, Nat.zero_le _, rfl, rfl⟩
  case round =>
    obtain ⟨k, hk, rfl, ha⟩ := hrel
    have Ha := Lib.hid ha
    clear ha
    by_cases hlt : k < s.size
    · have HS := Lib.hid (take_snoc_b s k hlt)
      cases hc : S.plainB (s[k]'hlt) with
      | true =>
        have HR : Hid (S.plainS (s.data.toList.take (k + 1)) = true) := by rw [HS.out]; unfold S.plainS; rw [List.all_append]; have := Ha.out; unfold S.plainS at this; rw [this]; exact Lib.hid (by simp [hc])
        have HC := Lib.hid hc
        clear hc
        go_wp2_with fail
        refine (text_plain _ _).mono ?_
        rintro e w1 ⟨rfl, rfl⟩
        rw [HC.out]
        go_wp2
        go_round
        case rel => exact ⟨k + 1, by omega, by go_num, HR.out⟩
        case measure => simp [intOf]; omega
      | false =>
        have HR : Hid (S.plainS s.data.toList = false) := Lib.hid (by
          unfold S.plainS
          rw [List.all_eq_false]
          exact ⟨s[k], by have := List.getElem_mem (l := s.data.toList) (n := k) (by simpa using hlt); exact this, by simp [hc]⟩)
        have HC := Lib.hid hc
        clear hc
        go_wp2_with fail
        refine (text_plain _ _).mono ?_
        rintro e w1 ⟨rfl, rfl⟩
        rw [HC.out]
        go_wp2
        go_ret
        first | exact ⟨rfl, rfl⟩ | exact ⟨by rw [HR.out]; rfl, rfl⟩
    · go_wp2
      go_ret
      have h1 : s.data.toList.take k = s.data.toList := List.take_of_length_le (by simp; omega)
      have h2 := Ha.out
      rw [h1] at h2
      first | exact ⟨rfl, rfl⟩ | exact ⟨by rw [h2]; rfl, rfl⟩
theorem extract_one (s : ByteArray) (k : Nat) (h : k < s.size) : (s.extract k (k + 1)).data.toList = [s[k]] := by
  have h1 : (s.extract k (k + 1)).data.toList = (s.data.toList.drop k).take 1 := by simp
  rw [h1, List.drop_eq_getElem_cons (by simpa using h)]
  rfl
theorem badAt_none (s : ByteArray) (h : S.plainS s.data.toList = true) : S.badAt s.data.toList = -1 := by unfold S.badAt; rw [h]; rfl
theorem badAt_some (s : ByteArray) (k : Nat) (h : k < s.size) (ha : S.plainS (s.data.toList.take k) = true) (hc : S.plainB s[k] = false) : S.badAt s.data.toList = (k : Int) := by
  have hn : S.plainS s.data.toList = false := by
    unfold S.plainS
    rw [List.all_eq_false]
    exact ⟨s[k], by have := List.getElem_mem (l := s.data.toList) (n := k) (by simpa using h); exact this, by simp [hc]⟩
  unfold S.badAt
  rw [hn]
  have e : s.data.toList.findIdx (fun c => !S.plainB c) = k := by
    rw [List.findIdx_eq (by simpa using h)]
    refine ⟨by show (!S.plainB s[k]) = true; rw [hc]; rfl, fun j hj => ?_⟩
    unfold S.plainS at ha
    rw [List.all_eq_true] at ha
    have h2 := ha (s.data.toList[j]'(by simp; omega)) (by
      rw [List.mem_take_iff_getElem]
      exact ⟨j, by simp; omega, rfl⟩)
    rw [h2]; rfl
  rw [e]
  rfl
set_option maxRecDepth 100000 in
set_option maxHeartbeats 4000000 in
theorem dent_bad (s : ByteArray) (w : World) (hs : s.size ≤ 9223372036854775800) :
    Calls Tryz.prog 28 #[.string s] w fun e w' => e = .returned (.int .i64 (S.badAt s.data.toList)) ∧ w = w' := by
  go_enter Tryz.func28, Tryz.ntmps28
  go_wp2
  go_loop [6] (fun i => ∃ k : Nat, k ≤ s.size ∧ i = .int .i64 k ∧ S.plainS (s.data.toList.take k) = true) (fun i => s.size - (intOf i).toNat)
  case atStart => exact ⟨0, Nat.zero_le _, rfl, rfl⟩
  case round =>
    obtain ⟨k, hk, rfl, ha⟩ := hrel
    have Ha := Lib.hid ha
    clear ha
    by_cases hlt : k < s.size
    · have HS := Lib.hid (take_snoc_b s k hlt)
      have q1 : (k : Int) ≤ (k : Int) + 1 := by omega
      have q2 : (0 : Int) ≤ (k : Int) + 1 := by omega
      have q3 : (k : Int) + 1 ≤ (s.size : Int) := by omega
      have q4 : ((k : Int) + 1).toNat = k + 1 := by omega
      have q5 : k + 1 ≤ s.size := by omega
      have HE : Hid (S.plainS (s.extract k (k + 1)).data.toList = S.plainB (s[k]'hlt)) := by rw [extract_one s k hlt]; unfold S.plainS; exact Lib.hid (by simp)
      cases hc : S.plainB (s[k]'hlt) with
      | true =>
        have HR : Hid (S.plainS (s.data.toList.take (k + 1)) = true) := by rw [HS.out]; unfold S.plainS; rw [List.all_append]; have := Ha.out; unfold S.plainS at this; rw [this]; exact Lib.hid (by simp [hc])
        have HC := Lib.hid hc
        clear hc
        go_wp2_with fail
        refine (text_Plain (s.extract k (k + 1)) _ (by simp; omega)).mono ?_
        rintro e w1 ⟨rfl, rfl⟩
        rw [HE.out, HC.out]
        go_wp2
        go_round
        case rel => exact ⟨k + 1, by omega, by go_num, HR.out⟩
        case measure => simp [intOf]; omega
      | false =>
        have HR : Hid (S.badAt s.data.toList = (k : Int)) := Lib.hid (badAt_some s k hlt Ha.out hc)
        have HC := Lib.hid hc
        clear hc
        go_wp2_with fail
        refine (text_Plain (s.extract k (k + 1)) _ (by simp; omega)).mono ?_
        rintro e w1 ⟨rfl, rfl⟩
        rw [HE.out, HC.out]
        go_wp2
        go_ret
        exact ⟨by rw [HR.out]; rfl, rfl⟩
    · go_wp2
      go_ret
      have h1 : s.data.toList.take k = s.data.toList := List.take_of_length_le (by simp; omega)
      have h2 := Ha.out
      rw [h1] at h2
      exact ⟨by rw [badAt_none s h2]; rfl, rfl⟩
end Go.Proofs.YtpcmkjimdhlhiaaGreatDoor.G
-- part G22
namespace Go.Proofs.YtpcmkjimdhlhiaaGreatDoor.G
open Go.RowKit Go.Shelf

def splitFn (bs : Nat) : Value := .func (.func 86) #[] #[.pointer (some ⟨bs + 1, 0, none⟩), .pointer (some ⟨bs, 0, none⟩), .pointer (some ⟨bs + 2, 0, none⟩)]
theorem splitSeq_at (s : ByteArray) (w : World) :
    Calls Tryz.prog 53 #[.string s, .string ⟨#[10]⟩, .int .i64 1] w fun e w' => e = .returned (splitFn w.heap.size) ∧ Boxes w.heap.size s w' ∧ Below w.heap.size w w' ∧ w'.heap.size = w.heap.size + 3 := by
  go_enter Tryz.func53, Tryz.ntmps53
  go_wp2_with fail
  refine bodyPost_ret (results_tmp rfl _ _ _) rfl ?_
  refine ⟨?_, ⟨?_, ?_, ?_⟩, (((Below.refl _ w).alloc (Nat.le_refl _) _).alloc (by simp) _).alloc (by simp; omega) _, by simp⟩
  · simp [splitFn]
  · exact (Below.heap_alloc _ _ _ (by simp; omega)).trans ((Below.heap_alloc _ _ _ (by simp)).trans (World.alloc_heap_new w _))
  · refine (Below.heap_alloc _ _ _ (by simp)).trans ?_
    have := World.alloc_heap_new (w.alloc (.cells #[.string s] 9)) (.cells #[.string ⟨#[10]⟩] 9)
    rwa [World.size_alloc] at this
  · have := World.alloc_heap_new ((w.alloc (.cells #[.string s] 9)).alloc (.cells #[.string ⟨#[10]⟩] 9)) (.cells #[.int .i64 1] 3)
    rwa [World.size_alloc, World.size_alloc] at this
theorem splitAfterSeq_at (s : ByteArray) (w : World) :
    Calls Tryz.prog 30 #[.string s, .string ⟨#[10]⟩] w fun e w' => e = .returned (splitFn w.heap.size) ∧ Boxes w.heap.size s w' ∧ Below w.heap.size w w' ∧ w'.heap.size = w.heap.size + 3 := by
  go_enter Tryz.func30, Tryz.ntmps30
  go_wp2_with fail
  refine (splitSeq_at s w).mono ?_
  rintro e w1 ⟨rfl, h1, h2, h3⟩
  go_wp2_with fail
  refine bodyPost_ret (results_tmp rfl _ _ _) rfl ?_
  exact ⟨rfl, h1, h2, h3⟩
end Go.Proofs.YtpcmkjimdhlhiaaGreatDoor.G
-- part G23
namespace Go.Proofs.YtpcmkjimdhlhiaaGreatDoor.G
open Go.RowKit Go.Shelf Go.Proofs.YtpcmkjimdhlhiaaGreatDoorW.PrintWords

set_option maxRecDepth 100000 in
set_option maxHeartbeats 4000000 in
theorem slices_Clone (B : Nat) (vl : Value) (l : List S.Lk) (w : World) (h : w.ownsRow B 43 5 vl l.length (lkCells l)) (hn : l.length ≤ 1000000) :
    Calls Tryz.prog 35 #[vl] w fun e w' => (∃ v, e = .returned v ∧ w'.ownsRow w.heap.size 43 5 v l.length (lkCells l)) ∧ Below w.heap.size w w' := by
  have q25 : ∀ (w : World) (a : Option Addr) (n c n' c' : Nat), (binOp .eql 25 (.slice a n c) (.slice none n' c')).run Tryz.prog w = .ok (.bool a.isNone) w := fun w a n c n' c' => Lib.run_eql_slice_nil w _ _ a n c n' c' Tryz.underlying25
  obtain ⟨i0, hi, hz0, hz1, hz2⟩ := info_parts info_lock
  obtain ⟨hl, h2⟩ := h
  rcases h2 with ⟨rfl, hz⟩ | ⟨g, cap, cur, rfl, hb, hh, hrest⟩
  · go_enter Tryz.func35, Tryz.ntmps35
    go_wp2
    go_ret
    exact ⟨⟨_, rfl, hl, .inl ⟨rfl, hz⟩⟩, Below.refl _ _⟩
  · have HR := Lib.hid hrest
    have HL := Lib.hid hl
    clear hrest hl
    have hgs : g < w.heap.size := (Array.getElem?_eq_some_iff.1 hh).1
    have HC : Hid (∀ j u, (lkCells l)[j]? = some u → w.cell? ⟨g, j, none⟩ = some u) := Lib.hid (fun j u hj => by
      obtain ⟨h1, h2, h3, h4⟩ := HR.out
      have hjl := (List.getElem?_eq_some_iff.1 hj).1
      rw [HL.out] at hjl
      rw [cell_of_blk hh j]
      rw [← h4, List.getElem?_take_of_lt hjl] at hj
      simpa using hj)
    go_enter Tryz.func35, Tryz.ntmps35
    go_wp2_with (at_builtin; refine wpList_append_own _ rfl _ _ 25 rfl w.heap.size 43 i0 _ 5 80 Tryz.underlying25 hi hz0 hz1 hz2 rfl (by decide) _ _ _ rfl (World.ownsRow_made w #[] 0 (Nat.le_refl _) (Nat.zero_le _) rfl) ⟨g, 0, none⟩ l.length cap (lkCells l) rfl ?qc1 ?qc2 ?qc3 ?qc4 ?qc5 ?qc6 ?_)
    case qc1 => exact HL.out
    case qc2 =>
      intro j u hj
      rw [Addr.add_lit]
      refine Lib.cell?_alloc_some _ ?_
      rw [Nat.zero_add]
      exact HC.out j u hj
    case qc3 =>
      intro u hu
      obtain ⟨x, _, hx⟩ := List.mem_flatMap.1 hu
      simp [lkVals, bstr] at hx
      rcases hx with rfl | rfl | rfl | rfl | rfl <;> rfl
    case qc4 => unfold maxLen; omega
    case qc5 => omega
    case qc6 => simp
    intro v' w1 hown hgrow hnil
    go_wp2
    go_ret
    refine ⟨⟨v', rfl, by simpa using hown⟩, ?_⟩
    exact ((Below.refl _ w).alloc (Nat.le_refl _) _).grown hgrow (by simp) (by intro k hk; simp [Value.ownBlock] at hk; omega)
end Go.Proofs.YtpcmkjimdhlhiaaGreatDoor.G
-- part S4
namespace Go.Proofs.YtpcmkjimdhlhiaaGreatDoor.S
/-- The reader between two lines. -/
structure St where
  rd : Rd
  at_ : Nat
  begun : Bool
def chomp (l : Bs) : Bs := Lib.trimSuffix l [10]
def bare (l : Bs) : Bs := Lib.trimLeftB l 32
def skips (ec : Nat) (word : Bs) : Bool := decide (ec ≠ 0) || decide (word = []) || decide (word.head? = some 35)
def locksWord : Bs := [108, 111, 99, 107, 115, 58]
def St.step (x : St) (piece : Bs) : St :=
  if skips x.rd.ec (bare (chomp piece)) then { x with at_ := x.at_ + piece.length }
  else if x.begun then { x with rd := x.rd.line (chomp piece) (x.at_ + (chomp piece).length - (bare (chomp piece)).length), at_ := x.at_ + piece.length }
  else if chomp piece = locksWord then { rd := x.rd, at_ := x.at_ + piece.length, begun := true }
  else { rd := x.rd.wrong (x.at_ + (chomp piece).length - (bare (chomp piece)).length) 1, at_ := x.at_ + piece.length, begun := false }
def Rd.zero : Rd := { wh := 0, ec := 0, l := [], has := [] }
def start (s : Bs) : St := { rd := if badAt s < 0 then Rd.zero else Rd.zero.wrong (badAt s).toNat 1, at_ := 0, begun := false }
def after (s : Bs) (k : Nat) : St := ((pieces s.length s).take k).foldl St.step (start s)
def finish (s : Bs) : Rd :=
  let r := (after s (pieces s.length s).length).rd
  if r.ec = 0 then r.ended s.length else r
theorem after_succ (s : Bs) (k : Nat) (x : Bs) (h : (pieces s.length s)[k]? = some x) : after s (k + 1) = (after s k).step x := by
  unfold after
  have hk := (List.getElem?_eq_some_iff.1 h).1
  rw [List.take_succ_eq_append_getElem hk, List.foldl_append]
  have : (pieces s.length s)[k] = x := (List.getElem?_eq_some_iff.1 h).2
  rw [this]
  rfl
theorem wrong_l' (r : Rd) (a e : Nat) : (r.wrong a e).l = r.l := by unfold Rd.wrong; split <;> rfl
theorem wrong_has' (r : Rd) (a e : Nat) : (r.wrong a e).has = r.has := by unfold Rd.wrong; split <;> rfl
theorem ended_l' (r : Rd) (a : Nat) : (r.ended a).l = r.l := by
  unfold Rd.ended; split
  · rfl
  · exact wrong_l' _ _ _
theorem begin_l' (r : Rd) (a : Nat) : (r.begin a).l.length = r.l.length + 1 := by
  simp only [Rd.begin, List.length_append, List.length_singleton]
  split <;> simp [wrong_l', ended_l']
theorem begin_has' (r : Rd) (a : Nat) : (r.begin a).has = [] := rfl
theorem field_l' (r : Rd) (a i : Nat) (v : Bs) (n : Nat) (h : r.l.length ≤ n) (hn : 1 ≤ n) : (r.field a i v).l.length ≤ n := by
  unfold Rd.field setLast
  simp only [List.length_append, List.length_dropLast, List.length_singleton]
  split <;> split <;> (try simp only [wrong_l']) <;> omega
theorem field_has' (r : Rd) (a i : Nat) (v : Bs) : (r.field a i v).has.length = r.has.length + 1 := by
  unfold Rd.field
  simp only [List.length_append, List.length_singleton]
  split <;> split <;> (try simp only [wrong_has'])
theorem line_l (r : Rd) (l : Bs) (a n : Nat) (h : r.l.length ≤ n) : (r.line l a).l.length ≤ n + 1 := by
  unfold Rd.line
  split
  · rw [wrong_l']; omega
  · refine field_l' _ _ _ _ _ ?_ (by omega)
    split
    · rw [begin_l']; omega
    · omega
theorem line_has (r : Rd) (l : Bs) (a n : Nat) (h : r.has.length ≤ n) : (r.line l a).has.length ≤ n + 1 := by
  unfold Rd.line
  split
  · rw [wrong_has']; omega
  · rw [field_has']
    split
    · rw [begin_has']; simp
    · omega
theorem step_le (x : St) (p : Bs) (n : Nat) (h : x.rd.l.length ≤ n ∧ x.rd.has.length ≤ n) : (x.step p).rd.l.length ≤ n + 1 ∧ (x.step p).rd.has.length ≤ n + 1 := by
  unfold St.step
  split
  · exact ⟨by show x.rd.l.length ≤ _; omega, by show x.rd.has.length ≤ _; omega⟩
  split
  · exact ⟨line_l _ _ _ _ h.1, line_has _ _ _ _ h.2⟩
  split
  · exact ⟨by show x.rd.l.length ≤ _; omega, by show x.rd.has.length ≤ _; omega⟩
  · exact ⟨by rw [wrong_l']; omega, by rw [wrong_has']; omega⟩
theorem step_at (x : St) (p : Bs) : (x.step p).at_ = x.at_ + p.length := by
  unfold St.step
  split
  · rfl
  split
  · rfl
  split <;> rfl
theorem start_le (s : Bs) : (start s).rd.l.length ≤ 0 ∧ (start s).rd.has.length ≤ 0 := by
  unfold start
  simp only
  split
  · exact ⟨Nat.le_refl _, Nat.le_refl _⟩
  · rw [wrong_l', wrong_has']; exact ⟨Nat.le_refl _, Nat.le_refl _⟩
theorem after_le (s : Bs) (k : Nat) (hk : k ≤ (pieces s.length s).length) : (after s k).rd.l.length ≤ k ∧ (after s k).rd.has.length ≤ k ∧ (after s k).at_ = (((pieces s.length s).take k).map List.length).sum := by
  induction k with
  | zero => exact ⟨(start_le s).1, (start_le s).2, rfl⟩
  | succ k ih =>
    have h := after_succ s k _ (List.getElem?_eq_getElem (by omega : k < (pieces s.length s).length))
    obtain ⟨h1, h2, h3⟩ := ih (by omega)
    rw [h]
    obtain ⟨g1, g2⟩ := step_le (after s k) ((pieces s.length s)[k]'(by omega)) k ⟨h1, h2⟩
    refine ⟨g1, g2, ?_⟩
    rw [step_at, h3, List.take_succ_eq_append_getElem (by omega), List.map_append, List.sum_append]
    simp only [List.map_cons, List.map_nil, List.sum_cons, List.sum_nil, Nat.add_zero]
theorem pieces_sum (n : Nat) (l : Bs) : ((pieces n l).map List.length).sum = l.length := by
  induction n generalizing l with
  | zero => simp [pieces]
  | succ n ih =>
    rw [pieces]
    split
    · rw [List.map_cons, List.sum_cons, ih]
      simp
      omega
    · simp
theorem pieces_len (n : Nat) (l : Bs) : (pieces n l).length ≤ n + 1 := by
  induction n generalizing l with
  | zero => simp [pieces]
  | succ n ih =>
    rw [pieces]
    split
    · have := ih (l.drop ((Lib.indexByte l 10).toNat + 1)); simp; omega
    · simp
theorem sum_take_le (l : List Nat) (k : Nat) (x : Nat) (h : l[k]? = some x) : (l.take k).sum + x ≤ l.sum := by
  induction l generalizing k with
  | nil => simp at h
  | cons y r ih =>
    cases k with
    | zero => simp at h; subst h; simp
    | succ k => simp at h; have := ih k h; simp; omega
theorem after_at (s : Bs) (k : Nat) (x : Bs) (h : (pieces s.length s)[k]? = some x) : (after s k).at_ + x.length ≤ s.length := by
  have hk := (List.getElem?_eq_some_iff.1 h).1
  rw [(after_le s k (by omega)).2.2]
  have := sum_take_le ((pieces s.length s).map List.length) k x.length (by rw [List.getElem?_map, h]; rfl)
  rw [pieces_sum] at this
  rw [List.map_take]
  exact this
end Go.Proofs.YtpcmkjimdhlhiaaGreatDoor.S
-- part G24
namespace Go.Proofs.YtpcmkjimdhlhiaaGreatDoor.G
open Go.RowKit Go.Shelf

/-- dent.Locks's own boxes: the reader's pointer, where a line begins, whether the locks have begun, the place. -/
def LkBlks (rb fb bb pb g at_ : Nat) (begun : Bool) (W : World) : Prop :=
  W.heap[rb]? = some (.cells #[.pointer (some ⟨g, 0, none⟩)] 59 (0, 0)) ∧
  W.heap[fb]? = some (.cells #[.int .i64 at_] 3 (0, 0)) ∧
  W.heap[bb]? = some (.cells #[.bool begun] 4 (0, 0)) ∧
  W.heap[pb]? = some (.cells #[.int .i64 0, .int .i64 0] 29 (0, 0))
theorem LkBlks.keep {rb fb bb pb g at_ : Nat} {begun : Bool} {W W' : World} (h : LkBlks rb fb bb pb g at_ begun W)
    (hk : ∀ (k : Nat) (cs : Array Value) (t : TypeId) (f : Nat × Nat), W.heap[k]? = some (Obj.cells cs t f) → t ≠ 43 → t ≠ 9 → t ≠ 63 → W'.heap[k]? = some (Obj.cells cs t f)) : LkBlks rb fb bb pb g at_ begun W' :=
  ⟨hk _ _ _ _ h.1 (by decide) (by decide) (by decide), hk _ _ _ _ h.2.1 (by decide) (by decide) (by decide), hk _ _ _ _ h.2.2.1 (by decide) (by decide) (by decide), hk _ _ _ _ h.2.2.2 (by decide) (by decide) (by decide)⟩
def LkAt (s : S.Bs) (n0 B g rb fb bb pb : Nat) (w0 : World) (k : Nat) (W : World) : Prop :=
  RdAt B g (S.after s k).rd W ∧ LkBlks rb fb bb pb g (S.after s k).at_ (S.after s k).begun W ∧ Below n0 w0 W ∧ B ≤ W.heap.size
theorem RdAt.blk {B g : Nat} {r : S.Rd} {W : World} (h : RdAt B g r W) : ∃ cs, W.heap[g]? = some (.cells cs 63 (0, 0)) := by
  obtain ⟨vl, vh, hg, _⟩ := h
  exact ⟨_, hg⟩
theorem LkAt.below {s : S.Bs} {n0 B g rb fb bb pb k : Nat} {w0 W W' : World} (h : LkAt s n0 B g rb fb bb pb w0 k W) (hb : Below W.heap.size W W') (hn : n0 ≤ W.heap.size) : LkAt s n0 B g rb fb bb pb w0 k W' :=
  ⟨h.1.below hb, h.2.1.keep (fun k cs t f hk _ _ _ => (hb.block k (Array.getElem?_eq_some_iff.1 hk).1).trans hk), h.2.2.1.trans (hb.mono hn), Nat.le_trans h.2.2.2 hb.size⟩
theorem RdAt.putObj {B g : Nat} {r : S.Rd} {W : World} (h : RdAt B g r W) {l : Nat} {o o' : Obj} (ho : W.heap[l]? = some o) (hc : o.isCells = false) : RdAt B g r (W.putObj l o') := by
  obtain ⟨vl, vh, hg, hl, hh⟩ := h
  have hne : ∀ k c, some l = some k → W.heap[k]? = some c → ∀ (e : Nat) cs f, c ≠ .cells cs e f := by
    rintro k c hk hcc e cs f rfl
    injection hk with hk
    subst hk
    rw [ho] at hcc
    injection hcc with hcc
    subst hcc
    simp [Obj.isCells] at hc
  refine ⟨vl, vh, ?_, own_grown hl (grownBy_putObj' W l o') (fun k c a b => hne k c a b _), own_grown hh (grownBy_putObj' W l o') (fun k c a b => hne k c a b _)⟩
  rw [World.putObj_heap_other]
  · exact hg
  · rintro rfl
    exact hne g _ rfl hg _ _ _ rfl
theorem LkAt.putObj {s : S.Bs} {n0 B g rb fb bb pb k : Nat} {w0 W : World} (h : LkAt s n0 B g rb fb bb pb w0 k W) {l : Nat} {o o' : Obj} (ho : W.heap[l]? = some o) (hc : o.isCells = false) (hn : n0 ≤ l) (hnW : n0 ≤ W.heap.size) : LkAt s n0 B g rb fb bb pb w0 k (W.putObj l o') := by
  refine ⟨h.1.putObj ho hc, h.2.1.keep (fun k cs t f hk _ _ _ => ?_), h.2.2.1.grown (grownBy_putObj' W l o') hnW (fun k hk => by injection hk with hk; omega), by rw [World.putObj_size]; exact h.2.2.2⟩
  rw [World.putObj_heap_other]
  · exact hk
  · rintro rfl
    rw [ho] at hk
    injection hk with hk
    subst hk
    simp [Obj.isCells] at hc
theorem LkAt.setS {s : S.Bs} {n0 B g rb fb bb pb k bs : Nat} {w0 W : World} (h : LkAt s n0 B g rb fb bb pb w0 k W) {r : ByteArray} (hb : Boxes bs r W) (hB : bs < B) (hn : n0 ≤ bs) (v : Value) : LkAt s n0 B g rb fb bb pb w0 k (W.setCell ⟨bs, 0, none⟩ v) := by
  have hkeep : ∀ j, j ≠ bs → (W.setCell ⟨bs, 0, none⟩ v).heap[j]? = W.heap[j]? := fun j hj => Below.heap_setCell W ⟨bs, 0, none⟩ v j hj
  obtain ⟨h1, h2, h3, h4⟩ := h
  refine ⟨?_, h2.keep (fun j cs t f hk _ ht _ => ?_), h3.setCell (p := ⟨bs, 0, none⟩) hn v, by simpa [World.setCell] using h4⟩
  · obtain ⟨vl, vh, hg, hl, hh⟩ := h1
    refine ⟨vl, vh, ?_, own_keep hl (fun j hj _ => hkeep j (by omega)), own_keep hh (fun j hj _ => hkeep j (by omega))⟩
    rw [hkeep]
    · exact hg
    · rintro rfl
      rw [hb.1] at hg
      injection hg with hg
      injection hg with _ h5
      exact absurd h5 (by decide)
  · rw [hkeep]
    · exact hk
    · rintro rfl
      rw [hb.1] at hk
      injection hk with hk
      injection hk with _ h5
      exact ht h5.symm
theorem Fr.keeps {B g : Nat} {W W' : World} (h : Fr B g W W') {cs : Array Value} {t : TypeId} {f : Nat × Nat} (hg : W.heap[g]? = some (.cells cs t f)) : KeepsOthers W W' :=
  ⟨h.size, fun k o hk ho => h.2 k o hk (by rintro rfl; rw [hg] at hk; injection hk with hk; subst hk; simp [Obj.isCells] at ho) (.inr (by rintro ⟨c, f, t, rfl, _⟩; simp [Obj.isCells] at ho))⟩
theorem Fr.blks {B g : Nat} {W W' : World} (h : Fr B g W W') {cs0 : Array Value} {f0 : Nat × Nat} (hg : W.heap[g]? = some (.cells cs0 63 f0)) {rb fb bb pb at_ : Nat} {begun : Bool} (hb : LkBlks rb fb bb pb g at_ begun W) : LkBlks rb fb bb pb g at_ begun W' :=
  hb.keep (fun k cs t f hk h1 h2 h3 => h.2 k _ hk (by rintro rfl; rw [hg] at hk; injection hk with hk; injection hk with _ h5; exact h3 h5.symm) (.inr (by rintro ⟨c, f, t, h4, h5⟩; injection h4 with _ h6; subst h6; rcases h5 with h5 | h5; exact h1 h5; exact h2 h5)))
theorem Fr.boxes {B g : Nat} {W W' : World} (h : Fr B g W W') {bs : Nat} {r : ByteArray} (hb : Boxes bs r W) (hB : bs + 2 < B) (hg : g < bs) : Boxes bs r W' :=
  ⟨h.2 _ _ hb.1 (by omega) (.inl (by omega)), h.2 _ _ hb.2.1 (by omega) (.inl (by omega)), h.2 _ _ hb.2.2 (by omega) (.inl (by omega))⟩
theorem set_heap_other (W : World) (b : Nat) (v : Value) (k : Nat) (o : Option Obj) (h : W.heap[k]? = o) (hne : k ≠ b) : (W.setCell ⟨b, 0, none⟩ v).heap[k]? = o := (Below.heap_setCell W ⟨b, 0, none⟩ v k hne).trans h
theorem LkBlks.setF {n a a' : Nat} {b : Bool} {W : World} (h : LkBlks (n + 2) (n + 3) (n + 4) n (n + 1) a b W) : LkBlks (n + 2) (n + 3) (n + 4) n (n + 1) a' b (W.setCell ⟨n + 3, 0, none⟩ (.int .i64 (a' : Nat))) :=
  ⟨set_heap_other _ _ _ _ _ h.1 (by omega), blk_set' h.2.1 0 _, set_heap_other _ _ _ _ _ h.2.2.1 (by omega), set_heap_other _ _ _ _ _ h.2.2.2 (by omega)⟩
theorem LkBlks.setB {n a : Nat} {b b' : Bool} {W : World} (h : LkBlks (n + 2) (n + 3) (n + 4) n (n + 1) a b W) : LkBlks (n + 2) (n + 3) (n + 4) n (n + 1) a b' (W.setCell ⟨n + 4, 0, none⟩ (.bool b')) :=
  ⟨set_heap_other _ _ _ _ _ h.1 (by omega), set_heap_other _ _ _ _ _ h.2.1 (by omega), blk_set' h.2.2.1 0 _, set_heap_other _ _ _ _ _ h.2.2.2 (by omega)⟩
theorem RdAt.setN {B g : Nat} {r : S.Rd} {W : World} (h : RdAt B g r W) {b : Nat} {cs : Array Value} {t : TypeId} {f : Nat × Nat} (hb : W.heap[b]? = some (.cells cs t f)) (h1 : 43 ≠ t) (h2 : 9 ≠ t) (h3 : g ≠ b) (v : Value) : RdAt B g r (W.setCell ⟨b, 0, none⟩ v) := by
  obtain ⟨vl, vh, hg, hl, hh⟩ := h
  exact ⟨vl, vh, set_heap_other _ _ _ _ _ hg h3, own_set hl hb h1 v, own_set hh hb h2 v⟩
theorem Boxes.set {bs : Nat} {r : ByteArray} {W : World} (h : Boxes bs r W) {b : Nat} (hb : b < bs) (v : Value) : Boxes bs r (W.setCell ⟨b, 0, none⟩ v) :=
  ⟨set_heap_other _ _ _ _ _ h.1 (by omega), set_heap_other _ _ _ _ _ h.2.1 (by omega), set_heap_other _ _ _ _ _ h.2.2 (by omega)⟩
theorem size_setCell (W : World) (p : Addr) (v : Value) : (W.setCell p v).heap.size = W.heap.size := by simp [World.setCell]
/-- After the line's length has been added. -/
theorem moved {n B a a' bs : Nat} {b : Bool} {r : ByteArray} {rd : S.Rd} {w0 W : World} (hrd : RdAt B (n + 1) rd W) (hbk : LkBlks (n + 2) (n + 3) (n + 4) n (n + 1) a b W) (hbw : Below n w0 W) (hB : B ≤ W.heap.size) (hbx : Boxes bs r W) (hbs : n + 5 ≤ bs) :
    RdAt B (n + 1) rd (W.setCell ⟨n + 3, 0, none⟩ (.int .i64 (a' : Nat))) ∧ LkBlks (n + 2) (n + 3) (n + 4) n (n + 1) a' b (W.setCell ⟨n + 3, 0, none⟩ (.int .i64 (a' : Nat))) ∧ Below n w0 (W.setCell ⟨n + 3, 0, none⟩ (.int .i64 (a' : Nat))) ∧ B ≤ (W.setCell ⟨n + 3, 0, none⟩ (.int .i64 (a' : Nat))).heap.size ∧ Boxes bs r (W.setCell ⟨n + 3, 0, none⟩ (.int .i64 (a' : Nat))) ∧ KeepsOthers W (W.setCell ⟨n + 3, 0, none⟩ (.int .i64 (a' : Nat))) :=
  ⟨hrd.setN hbk.2.1 (by decide) (by decide) (by omega) _, hbk.setF, hbw.setCell (p := ⟨n + 3, 0, none⟩) (by show n ≤ n + 3; omega) _, by rw [size_setCell]; exact hB, hbx.set (by omega) _, KeepsOthers.setCell _ _ _⟩
theorem begunSet {n B a bs : Nat} {b b' : Bool} {r : ByteArray} {rd : S.Rd} {w0 W : World} (hrd : RdAt B (n + 1) rd W) (hbk : LkBlks (n + 2) (n + 3) (n + 4) n (n + 1) a b W) (hbw : Below n w0 W) (hB : B ≤ W.heap.size) (hbx : Boxes bs r W) (hbs : n + 5 ≤ bs) :
    RdAt B (n + 1) rd (W.setCell ⟨n + 4, 0, none⟩ (.bool b')) ∧ LkBlks (n + 2) (n + 3) (n + 4) n (n + 1) a b' (W.setCell ⟨n + 4, 0, none⟩ (.bool b')) ∧ Below n w0 (W.setCell ⟨n + 4, 0, none⟩ (.bool b')) ∧ B ≤ (W.setCell ⟨n + 4, 0, none⟩ (.bool b')).heap.size ∧ Boxes bs r (W.setCell ⟨n + 4, 0, none⟩ (.bool b')) ∧ KeepsOthers W (W.setCell ⟨n + 4, 0, none⟩ (.bool b')) :=
  ⟨hrd.setN hbk.2.2.1 (by decide) (by decide) (by omega) _, hbk.setB, hbw.setCell (p := ⟨n + 4, 0, none⟩) (by show n ≤ n + 4; omega) _, by rw [size_setCell]; exact hB, hbx.set (by omega) _, KeepsOthers.setCell _ _ _⟩
end Go.Proofs.YtpcmkjimdhlhiaaGreatDoor.G
-- part G24b
namespace Go.Proofs.YtpcmkjimdhlhiaaGreatDoor.G
open Go.RowKit Go.Shelf
attribute [local go_sem] Oper.semAt_some

def LocksOut (s : ByteArray) (w : World) (e : Ending) (w' : World) : Prop :=
  ∃ v c, e = .returned (.tuple #[v, (if c = 0 then .agg #[.int .i64 0, .int .i64 0] else placeV s (if 8000 < s.size then 0 else (S.finish s.data.toList).wh)), .int .i64 ((c : Nat) : Int)]) ∧
    c = (if 8000 < s.size then 2 else (S.finish s.data.toList).ec) ∧
    w'.ownsRow w.heap.size 43 5 v (if c = 0 then (S.finish s.data.toList).l else []).length (lkCells (if c = 0 then (S.finish s.data.toList).l else [])) ∧ Below w.heap.size w w'
theorem chomp_at (x : ByteArray) (w : World) (hx : x.size ≤ 100000) :
    Calls Tryz.prog 31 #[.string x, .string ⟨#[10]⟩] w fun e w' => (∃ y : ByteArray, e = .returned (.string y) ∧ y.data.toList = S.chomp x.data.toList) ∧ w = w' :=
  (Tryz.strings_TrimSuffix x ⟨#[10]⟩ w (by omega)).mono fun e w' h => ⟨⟨_, h.1, rfl⟩, h.2.symm⟩
theorem bare_at (x : ByteArray) (w : World) :
    Calls Tryz.prog 32 #[.string x, .string ⟨#[32]⟩] w fun e w' => (∃ y : ByteArray, e = .returned (.string y) ∧ y.data.toList = S.bare x.data.toList) ∧ w = w' :=
  (Tryz.strings_TrimLeft_one x 32 (by decide) w).mono fun e w' h => ⟨⟨_, h.1, rfl⟩, h.2.symm⟩
theorem chomp_le (l : S.Bs) : (S.chomp l).length ≤ l.length := by unfold S.chomp Lib.trimSuffix; split <;> simp
theorem bare_le (l : S.Bs) : (S.bare l).length ≤ l.length := by unfold S.bare Lib.trimLeftB; exact (List.dropWhile_sublist _).length_le
theorem own_mono {w : World} {base base' : Nat} {e : TypeId} {size n : Nat} {v : Value} {xs : List Value} (h : w.ownsRow base e size v n xs) (hb : base' ≤ base) : w.ownsRow base' e size v n xs := by
  obtain ⟨h1, h2⟩ := h
  refine ⟨h1, ?_⟩
  rcases h2 with h2 | ⟨g, cap, cur, rfl, hg, r⟩
  · exact .inl h2
  · exact .inr ⟨g, cap, cur, rfl, Nat.le_trans hb hg, r⟩
theorem heap_alloc_at (w : World) (o : Obj) (k : Nat) : (w.alloc o).heap[k]? = if k = w.heap.size then some o else w.heap[k]? := by
  show (w.heap.push o)[k]? = _
  exact Array.getElem?_push
theorem blk_new5 (w : World) (o0 o1 o2 o3 o4 : Obj) : ((((( w.alloc o0).alloc o1).alloc o2).alloc o3).alloc o4).heap[w.heap.size]? = some o0 ∧ (((((w.alloc o0).alloc o1).alloc o2).alloc o3).alloc o4).heap[w.heap.size + 1]? = some o1 ∧ (((((w.alloc o0).alloc o1).alloc o2).alloc o3).alloc o4).heap[w.heap.size + 1 + 1]? = some o2 ∧ (((((w.alloc o0).alloc o1).alloc o2).alloc o3).alloc o4).heap[w.heap.size + 1 + 1 + 1]? = some o3 ∧ (((((w.alloc o0).alloc o1).alloc o2).alloc o3).alloc o4).heap[w.heap.size + 1 + 1 + 1 + 1]? = some o4 := by
  refine ⟨?_, ?_, ?_, ?_, ?_⟩ <;> (repeat rw [heap_alloc_at]) <;> (repeat rw [World.size_alloc]) <;> (repeat' split) <;> first | rfl | (exfalso; omega)
theorem rd_zero (B g : Nat) (W : World) (h : W.heap[g]? = some (.cells #[.int .i64 0, .int .i64 0, .slice none 0 0, .slice none 0 0] 63 (0, 0))) : RdAt B g S.Rd.zero W :=
  ⟨_, _, h, World.ownsRow_nil _ _ _ _, World.ownsRow_nil _ _ _ _⟩
theorem after_zero_ok (s : S.Bs) (h : S.badAt s < 0) : (S.after s 0).rd = S.Rd.zero ∧ (S.after s 0).at_ = 0 ∧ (S.after s 0).begun = false := by
  refine ⟨?_, rfl, rfl⟩
  show (S.start s).rd = _
  unfold S.start
  simp only
  rw [if_pos h]
end Go.Proofs.YtpcmkjimdhlhiaaGreatDoor.G
-- part G25
namespace Go.Proofs.YtpcmkjimdhlhiaaGreatDoor.G
open Go.RowKit Go.Shelf
attribute [local go_sem] Oper.semAt_some

set_option maxRecDepth 100000 in
set_option maxHeartbeats 8000000 in
theorem dent_Locks_neg (s : ByteArray) (w : World) (h : s.size ≤ 8000) (m : Int) (hm : w.cell? ⟨0, 0, none⟩ = some (.int .i64 m)) (hb0 : S.badAt s.data.toList < 0) :
    CallsIn Fence.wide 3 Tryz.prog 13 #[.string s] w (LocksOut s w) := by
  have d1 : (s.size : Int) ≤ 8000 := by omega
  have d2 : ¬ 8000 < (s.size : Int) := by omega
  have HM := Lib.hid hm
  clear hm
  refine callsIn_of_wp_marks Tryz.func13 rfl trivial ?_ rfl
  simp only [Tryz.ntmps13, List.size_toArray, List.length_cons, List.length_nil, Nat.reduceAdd, Nat.reduceSub, Array.replicate_succ, Array.replicate_zero, List.push_toArray, List.append_toArray, List.nil_append, List.cons_append]
  have hb1 : ¬ 0 ≤ S.badAt s.data.toList := by omega
  gi_wp2_with (first | (refine ⟨trivial, ?_⟩; gi_at_call 28; refine (callsIn_wide.2 (dent_bad s _ (by omega))).mono ?_; rintro e w' ⟨rfl, rfl⟩) | (refine ⟨trivial, ?_⟩; gi_at_call 30; refine (callsIn_wide.2 (splitAfterSeq_at s _)).mono ?_; rintro e w' ⟨rfl, hbx, hbl, hsz⟩))
  have hN := blk_new5 w (.cells #[.int .i64 0, .int .i64 0] 29 (0, 0)) (.cells #[.int .i64 0, .int .i64 0, .slice none 0 0, .slice none 0 0] 63 (0, 0)) (.cells #[.pointer (some ⟨w.heap.size + 1, 0, none⟩)] 59 (0, 0)) (.cells #[.int .i64 0] 3 (0, 0)) (.cells #[.bool false] 4 (0, 0))
  simp only [World.size_alloc] at hbx hsz hbl
  have hk : ∀ (j : Nat) (o : Obj), j < w.heap.size + 1 + 1 + 1 + 1 + 1 → _ → w'.heap[j]? = some o := fun j o hj ho => (hbl.block j hj).trans ho
  have HST : Hid (LkAt s.data.toList w.heap.size (w.heap.size + 8) (w.heap.size + 1) (w.heap.size + 2) (w.heap.size + 3) (w.heap.size + 4) w.heap.size w 0 w') := by
    obtain ⟨q1, q2, q3⟩ := after_zero_ok s.data.toList hb0
    refine Lib.hid ⟨?_, ⟨?_, ?_, ?_, ?_⟩, ?_, by omega⟩
    · rw [q1]; exact rd_zero _ _ _ (hk _ _ (by omega) hN.2.1)
    · exact hk _ _ (by omega) hN.2.2.1
    · rw [q2]; exact hk _ _ (by omega) hN.2.2.2.1
    · rw [q3]; exact hk _ _ (by omega) hN.2.2.2.2
    · exact hk _ _ (by omega) hN.1
    · exact (((((Below.refl _ w).alloc (Nat.le_refl _) _).alloc (by simp) _).alloc (by simp; omega) _).alloc (by simp; omega) _).alloc (by simp; omega) _ |>.trans (hbl.mono (by omega))
  have HBX := Lib.hid hbx
  have HSZ := Lib.hid hsz
  clear hN hk hbx hbl hsz
  refine range_split s (by omega) rfl rfl HBX.out (fun k W => LkAt s.data.toList w.heap.size (w.heap.size + 8) (w.heap.size + 1) (w.heap.size + 2) (w.heap.size + 3) (w.heap.size + 4) w.heap.size w k W) HST.out ?hIA ?hIS ?hID ?hIP ?a1 ?hassign ?hbody ?hdone
  case hIA =>
    intro k W o hi ho hW
    exact hi.below ((Below.refl _ W).alloc (Nat.le_refl _) _) hi.2.2.1.size
  case hIS =>
    intro k r W v hi hb
    exact hi.setS hb (by omega) (by omega) v
  case hID =>
    intro k W n hi
    exact hi.below (below_dN (Below.refl _ W) n) hi.2.2.1.size
  case hIP =>
    intro k W l o o' hi hl ho hc
    exact hi.putObj ho hc (by have := HSZ.out; omega) hi.2.2.1.size
  case hassign =>
    intro l x W K hK
    gi_wp2
    exact hK
  case hbody =>
    intro l k x r W hi hbx hx
    have HXL : Hid ((S.after s.data.toList k).at_ + x.size ≤ s.size) := Lib.hid (by have := S.after_at s.data.toList k x.data.toList (by simpa using hx); simpa using this)
    have HKL : Hid (k ≤ 8000) := Lib.hid (by
      have h1 := (List.getElem?_eq_some_iff.1 hx).1
      have h2 := S.pieces_len s.size s.data.toList
      omega)
    have HSU : Hid (S.after s.data.toList (k + 1) = (S.after s.data.toList k).step x.data.toList) := Lib.hid (S.after_succ _ _ _ (by simpa using hx))
    obtain ⟨hle1, hle2, _⟩ := S.after_le s.data.toList k (by have h1 := (List.getElem?_eq_some_iff.1 hx).1; have : s.data.toList.length = s.size := by simp
                                                             rw [this]; omega)
    have HLE := Lib.hid (And.intro hle1 hle2)
    clear hle1 hle2 hx
    obtain ⟨hrd, hbk, hbw, hBW⟩ := hi
    obtain ⟨vl, vh, hg, hol, hoh⟩ := hrd
    have HRD : Hid (RdAt (w.heap.size + 8) (w.heap.size + 1) (S.after s.data.toList k).rd W) := Lib.hid ⟨vl, vh, hg, hol, hoh⟩
    have HBK := Lib.hid hbk
    have HBW := Lib.hid hbw
    have HBB := Lib.hid hBW
    have HBX2 := Lib.hid hbx
    have c_r : W.cell? ⟨w.heap.size + 1 + 1, 0, none⟩ = some (.pointer (some ⟨w.heap.size + 1, 0, none⟩)) := by rw [cell_of_blk hbk.1 0]; rfl
    have c_f : W.cell? ⟨w.heap.size + 1 + 1 + 1, 0, none⟩ = some (.int .i64 (S.after s.data.toList k).at_) := by rw [cell_of_blk hbk.2.1 0]; rfl
    have c_b : W.cell? ⟨w.heap.size + 1 + 1 + 1 + 1, 0, none⟩ = some (.bool (S.after s.data.toList k).begun) := by rw [cell_of_blk hbk.2.2.1 0]; rfl
    have f_f : W.frozen? ⟨w.heap.size + 1 + 1 + 1, 0, none⟩ = false := frozen_blk hbk.2.1 0
    have f_b : W.frozen? ⟨w.heap.size + 1 + 1 + 1 + 1, 0, none⟩ = false := frozen_blk hbk.2.2.1 0
    have c_e : W.cell? ⟨w.heap.size + 1, 1, none⟩ = some (.int .i64 (S.after s.data.toList k).rd.ec) := by rw [cell_of_blk hg 1]; rfl
    clear hg hol hoh hbk hbw hBW hbx
    obtain ⟨A, hA⟩ : ∃ A, A = S.after s.data.toList k := ⟨_, rfl⟩
    rw [← hA] at c_f c_b c_e HRD HBK
    have HA := Lib.hid hA
    clear hA
    have hax : A.at_ + x.size ≤ 8000 := by have := HXL.out; rw [← HA.out] at this; omega
    gi_wp2_with (refine ⟨trivial, ?_⟩; gi_at_call 31; refine (CallsIn.inRound l (callsIn_wide.2 (chomp_at x W (by omega)))).mono ?_; rintro e w2 ⟨⟨y, rfl, hy⟩, rfl⟩)
    refine ⟨trivial, ?_⟩
    gi_at_call 32
    refine (CallsIn.inRound l (callsIn_wide.2 (bare_at y W))).mono ?_
    rintro e w2 ⟨⟨z, rfl, hz⟩, rfl⟩
    have hyx : y.size ≤ x.size := by
      have h1 := chomp_le x.data.toList
      rw [← hy] at h1; simpa using h1
    have hzy : z.size ≤ y.size := by
      have h1 := bare_le y.data.toList
      rw [← hz] at h1; simpa using h1
    have hzl : z.data.toList.length = z.size := by simp
    have HY := Lib.hid hy
    have HZ := Lib.hid hz
    have HZL := Lib.hid hzl
    clear hy hz hzl
    have e12 : (A.at_ : Int) + (y.size : Int) - (z.size : Int) = ((A.at_ + y.size - z.size : Nat) : Int) := by omega
    have HMV := Lib.hid (moved (a' := A.at_ + x.size) HRD.out HBK.out HBW.out HBB.out HBX2.out (Nat.le_refl _))
    have hskip : ∀ (hs : S.skips A.rd.ec z.data.toList = true), Hid (S.after s.data.toList (k + 1) = { A with at_ := A.at_ + x.size }) := fun hs => Lib.hid (by
      rw [HSU.out, ← HA.out]
      unfold S.St.step
      rw [← HY.out, ← HZ.out, if_pos hs]
      simp)
    have hgo : ∀ (hs : S.skips A.rd.ec z.data.toList = false), Hid (S.after s.data.toList (k + 1) = (if A.begun then { A with rd := A.rd.line y.data.toList (A.at_ + y.size - z.size), at_ := A.at_ + x.size } else if y.data.toList = S.locksWord then { rd := A.rd, at_ := A.at_ + x.size, begun := true } else { rd := A.rd.wrong (A.at_ + y.size - z.size) 1, at_ := A.at_ + x.size, begun := false })) := fun hs => Lib.hid (by
      rw [HSU.out, ← HA.out]
      unfold S.St.step
      rw [← HY.out, ← HZ.out, hs]
      simp)
    simp only [Int.natCast_add] at HMV
    have HSKIP := Lib.hid hskip
    have HGO := Lib.hid hgo
    clear hskip hgo
    by_cases he : A.rd.ec = 0
    · have b1 : ((A.rd.ec : Int) == 0) = true := beq_iff_eq.2 (by omega)
      have b2 : ((A.rd.ec : Int) != 0) = false := by simp [bne, b1]
      by_cases hzs : z.size = 0
      · have hz0 : z = ⟨#[]⟩ := ByteArray.ext (Array.eq_empty_of_size_eq_zero hzs)
        subst hz0
        have HS2 := HSKIP.out (by unfold S.skips; simp [he])
        gi_wp2
        obtain ⟨m1, m2, m3, m4, m5, m6⟩ := HMV.out
        exact ⟨m6, ⟨by rw [HS2.out]; exact m1, by rw [HS2.out]; exact m2, m3, m4⟩, m5⟩
      · have hzp : 0 < z.size := by omega
        have hne : ¬ z = ⟨#[]⟩ := by
          rintro rfl
          exact hzs rfl
        have hnl : z.data.toList ≠ [] := by
          intro h0
          have h1 := HZL.out
          rw [h0] at h1
          exact hzs h1.symm
        have hhd : z.data.toList.head? = some (z[0]'hzp) := by
          rw [List.head?_eq_getElem?]
          rw [List.getElem?_eq_getElem (by simpa using hzp)]
          rfl
        have hie : z.toList.isEmpty = false := by
          rw [ByteArray.toList_eq]
          cases hh : z.data.toList with
          | nil => exact absurd hh hnl
          | cons _ _ => rfl
        by_cases h35 : ((z[0]'hzp).toNat : Int) = 35
        · have h36 : z[0]'hzp = 35 := UInt8.toNat_inj.1 (show (z[0]'hzp).toNat = 35 by omega)
          have b35 : (((z[0]'hzp).toNat : Int) == 35) = true := beq_iff_eq.2 h35
          have HS2 := HSKIP.out (by unfold S.skips; rw [hhd, h36]; simp)
          clear hnl hhd h36
          gi_wp2
          all_goals try (exfalso; omega)
          obtain ⟨m1, m2, m3, m4, m5, m6⟩ := HMV.out
          exact ⟨m6, ⟨by rw [HS2.out]; exact m1, by rw [HS2.out]; exact m2, m3, m4⟩, m5⟩
        · have h36 : z[0]'hzp ≠ 35 := by intro h0; apply h35; rw [h0]; rfl
          have b35 : (((z[0]'hzp).toNat : Int) == 35) = false := beq_eq_false_iff_ne.2 h35
          have HG2 := HGO.out (by unfold S.skips; rw [hhd]; simp [he, h36]; first | done | exact hnl | (intro h0; first | exact hnl (by rw [h0]) | exact hnl h0 | exact hnl (by rw [h0]; rfl)))
          clear hnl hhd h36
          have hmW : Hid ((W.setCell ⟨w.heap.size + 3, 0, none⟩ (.int .i64 ((A.at_ : Int) + (x.size : Int)))).cell? ⟨0, 0, none⟩ = some (.int .i64 m)) := by
            have hlt : (0 : Nat) < w.heap.size := by
              have h1 := HM.out
              simp only [World.cell?] at h1
              by_cases h2 : (0 : Nat) < w.heap.size
              · exact h2
              · rw [Array.getElem?_eq_none (by omega)] at h1
                simp at h1
            exact Lib.hid ((HMV.out.2.2.1.cell (p := ⟨0, 0, none⟩) hlt).trans HM.out)
          cases hbeg : A.begun with
          | true =>
            have HG3 : Hid (S.after s.data.toList (k + 1) = { A with rd := A.rd.line y.data.toList (A.at_ + y.size - z.size), at_ := A.at_ + x.size }) := Lib.hid (by rw [HG2.out, if_pos hbeg])
            rw [hbeg] at c_b
            gi_wp2_with (refine ⟨trivial, ?_⟩; gi_at_call 33; refine (CallsIn.inRound l (callsIn_wide.2 (dent_line (w.heap.size + 8) (w.heap.size + 1) A.rd y (A.at_ + y.size - z.size) m _ HMV.out.1 HMV.out.2.2.2.1 (by have h1 := HLE.out.1; rw [← HA.out] at h1; have h2 := HKL.out; omega) (by have h1 := HLE.out.2; rw [← HA.out] at h1; have h2 := HKL.out; omega) (by omega) hmW.out))).mono ?_; rintro e w3 ⟨rfl, hr3, hf3⟩)
            all_goals try (exfalso; omega)
            obtain ⟨m1, m2, m3, m4, m5, m6⟩ := HMV.out
            obtain ⟨cs, hgc⟩ := m1.blk
            exact ⟨m6.trans (hf3.keeps hgc), ⟨by rw [HG3.out]; exact hr3, by rw [HG3.out]; exact hf3.blks hgc m2, m3.trans (hf3.below (by omega) (by omega) m3.size), Nat.le_trans m4 hf3.size⟩, hf3.boxes m5 (by omega) (by omega)⟩
          | false =>
            rw [hbeg] at c_b
            by_cases hlk : y = ⟨#[108, 111, 99, 107, 115, 58]⟩
            · have HG3 : Hid (S.after s.data.toList (k + 1) = { rd := A.rd, at_ := A.at_ + x.size, begun := true }) := Lib.hid (by rw [HG2.out, if_neg (by rw [hbeg]; simp), if_pos (by rw [hlk]; rfl)])
              gi_wp2
              all_goals try (exfalso; omega)
              obtain ⟨m1, m2, m3, m4, m5, m6⟩ := HMV.out
              obtain ⟨p1, p2, p3, p4, p5, p6⟩ := begunSet (b' := true) m1 m2 m3 m4 m5 (Nat.le_refl _)
              exact ⟨m6.trans p6, ⟨by rw [HG3.out]; exact p1, by rw [HG3.out]; exact p2, p3, p4⟩, p5⟩
            · have hlk2 : ¬ y.data.toList = S.locksWord := by
                intro h0
                apply hlk
                apply ByteArray.ext
                exact Array.toList_inj.1 h0
              have HG3 : Hid (S.after s.data.toList (k + 1) = { rd := A.rd.wrong (A.at_ + y.size - z.size) 1, at_ := A.at_ + x.size, begun := false }) := Lib.hid (by rw [HG2.out, if_neg (by rw [hbeg]; simp), if_neg hlk2])
              have hyb : (y.toList == [108, 111, 99, 107, 115, 58]) = false := by
                rw [ByteArray.toList_eq, beq_eq_false_iff_ne]
                exact hlk2
              have HP := Lib.hid (begunSet (b' := false) HMV.out.1 HMV.out.2.1 HMV.out.2.2.1 HMV.out.2.2.2.1 HMV.out.2.2.2.2.1 (Nat.le_refl _))
              gi_wp2_with (refine ⟨trivial, ?_⟩; gi_at_call 29; refine (CallsIn.inRound l (callsIn_wide.2 (dent_wrong (w.heap.size + 8) (w.heap.size + 1) A.rd (A.at_ + y.size - z.size) 1 _ HP.out.1))).mono ?_; rintro e w3 ⟨rfl, hr3, hf3⟩)
              all_goals try (exfalso; omega)
              obtain ⟨m1, m2, m3, m4, m5, m6⟩ := HMV.out
              obtain ⟨p1, p2, p3, p4, p5, p6⟩ := HP.out
              obtain ⟨cs, hgc⟩ := p1.blk
              exact ⟨(m6.trans p6).trans (hf3.keeps hgc), ⟨by rw [HG3.out]; exact hr3, by rw [HG3.out]; exact hf3.blks hgc p2, p3.trans (hf3.below (by omega) (by omega) p3.size), Nat.le_trans p4 hf3.size⟩, hf3.boxes p5 (by omega) (by omega)⟩
    · have b1 : ((A.rd.ec : Int) == 0) = false := beq_eq_false_iff_ne.2 (by omega)
      have b2 : ((A.rd.ec : Int) != 0) = true := by simp [bne, b1]
      have HS2 := HSKIP.out (by unfold S.skips; simp [he])
      gi_wp2
      obtain ⟨m1, m2, m3, m4, m5, m6⟩ := HMV.out
      exact ⟨m6, ⟨by rw [HS2.out]; exact m1, by rw [HS2.out]; exact m2, m3, m4⟩, m5⟩
  case hdone =>
    intro W hi hK
    obtain ⟨hrd, hbk, hbw, hBW⟩ := hi
    obtain ⟨R, hR⟩ : ∃ R, R = (S.after s.data.toList (S.pieces s.size s.data.toList).length).rd := ⟨_, rfl⟩
    rw [← hR] at hrd
    have HFIN : Hid (S.finish s.data.toList = if R.ec = 0 then R.ended s.size else R) := Lib.hid (by
      unfold S.finish
      have e : s.data.toList.length = s.size := by simp
      rw [e, ← hR])
    have HRL : Hid (R.l.length ≤ 8001) := Lib.hid (by
      have h1 := (S.after_le s.data.toList (S.pieces s.size s.data.toList).length (by have e : s.data.toList.length = s.size := by simp
                                                                                      rw [e]; omega)).1
      rw [← hR] at h1
      have h2 := S.pieces_len s.size s.data.toList
      omega)
    have HK := Lib.hid hK
    have HRD := Lib.hid hrd
    have HBK := Lib.hid hbk
    have HBW := Lib.hid hbw
    have HBB := Lib.hid hBW
    have c_r : W.cell? ⟨w.heap.size + 1 + 1, 0, none⟩ = some (.pointer (some ⟨w.heap.size + 1, 0, none⟩)) := by rw [cell_of_blk hbk.1 0]; rfl
    have c_e : W.cell? ⟨w.heap.size + 1, 1, none⟩ = some (.int .i64 R.ec) := by obtain ⟨vl, vh, hg, _⟩ := hrd; rw [cell_of_blk hg 1]; rfl
    clear hrd hbk hbw hBW hK hR
    by_cases he : R.ec = 0
    · have b1 : ((R.ec : Int) == 0) = true := beq_iff_eq.2 (by omega)
      by_cases he3 : (R.ended s.size).ec = 0
      · have b3 : (((R.ended s.size).ec : Int) == 0) = true := beq_iff_eq.2 (by omega)
        have b4 : (((R.ended s.size).ec : Int) != 0) = false := by simp [bne, b3]
        gi_wp2_with (first | (refine ⟨trivial, ?_⟩; gi_at_call 34; refine (callsIn_wide.2 (dent_ended (w.heap.size + 8) (w.heap.size + 1) R s.size W HRD.out HBB.out (by have := HRL.out; omega))).mono ?_; rintro e w3 ⟨rfl, hr3, hf3⟩; (obtain ⟨cs3, hg3⟩ := HRD.out.blk); (have hbk3 := hf3.blks hg3 HBK.out); (have d_r : w3.cell? ⟨w.heap.size + 1 + 1, 0, none⟩ = some (.pointer (some ⟨w.heap.size + 1, 0, none⟩)) := by rw [cell_of_blk hbk3.1 0]; rfl); (obtain ⟨vl, vh, hg4, hl4, hh4⟩ := hr3); (have d_e : w3.cell? ⟨w.heap.size + 1, 1, none⟩ = some (.int .i64 (R.ended s.size).ec) := by rw [cell_of_blk hg4 1]; rfl); (have d_w : w3.cell? ⟨w.heap.size + 1, 0, none⟩ = some (.int .i64 (R.ended s.size).wh) := by rw [cell_of_blk hg4 0]; rfl); (have d_l : w3.cell? ⟨w.heap.size + 1, 2, none⟩ = some vl := by rw [cell_of_blk hg4 2]; rfl); (have p_f : w3.frozen? ⟨w.heap.size, 0, none⟩ = false := frozen_blk hbk3.2.2.2 0); (have p_g : w3.frozen? ⟨w.heap.size, 1, none⟩ = false := frozen_blk hbk3.2.2.2 1); (have p_0 : w3.cell? ⟨w.heap.size, 0, none⟩ = some (.int .i64 0) := by rw [cell_of_blk hbk3.2.2.2 0]; rfl); (have p_1 : w3.cell? ⟨w.heap.size, 1, none⟩ = some (.int .i64 0) := by rw [cell_of_blk hbk3.2.2.2 1]; rfl); (have HL4 := Lib.hid hl4); (have HG4 := Lib.hid hg4); (have HBK3 := Lib.hid hbk3); (have HD3 := Lib.hid ((hf3.keeps hg3).same _ _ HK.out rfl)); (have HBW3 : Hid (Below w.heap.size w w3) := Lib.hid (HBW.out.trans (hf3.below (by omega) (by omega) HBW.out.size))); (have HL3 : Hid ((R.ended s.size).l.length ≤ 8001) := by rw [ended_l]; exact HRL); clear hf3 hbk3 hg3 hl4 hh4 hg4) | (refine ⟨trivial, ?_⟩; gi_at_call 35; refine (callsIn_wide.2 (slices_Clone (w.heap.size + 8) vl (R.ended s.size).l w3 HL4.out (by have := HL3.out; omega))).mono ?_; rintro e w4 ⟨⟨v4, rfl, ho4⟩, hb4⟩; (have hpb := (hb4.block w.heap.size (Array.getElem?_eq_some_iff.1 HBK3.out.2.2.2).1).trans HBK3.out.2.2.2); (have r_f := frozen_blk hpb 0); (have r_g := frozen_blk hpb 1); (have r_0 : w4.cell? ⟨w.heap.size, 0, none⟩ = some (.int .i64 0) := by rw [cell_of_blk hpb 0]; rfl); (have r_1 : w4.cell? ⟨w.heap.size, 1, none⟩ = some (.int .i64 0) := by rw [cell_of_blk hpb 1]; rfl)))
        have hDs : w.heap.size + 8 ≤ w'.heap.size := by have := HSZ.out; omega
        have hD4 : ((w4.setCell ⟨w.heap.size, 0, none⟩ (.int .i64 0)).setCell ⟨w.heap.size, 1, none⟩ (.int .i64 0)).heap[w'.heap.size]? = some (.deferred (some [])) := (Below.heap_setCell _ _ _ _ (by show w'.heap.size ≠ w.heap.size; omega)).trans ((Below.heap_setCell _ _ _ _ (by show w'.heap.size ≠ w.heap.size; omega)).trans ((hb4.block _ (Array.getElem?_eq_some_iff.1 HD3.out).1).trans HD3.out))
        refine ⟨by simp, .inl ⟨_, _, rfl, run_takeDeferred hD4, ?_⟩⟩
        have q0 := blk_set' (blk_set' hpb 0 (.int .i64 0)) 1 (.int .i64 0)
        have q1 := (World.putObj_heap_other (w := (w4.setCell ⟨w.heap.size, 0, none⟩ (.int .i64 0)).setCell ⟨w.heap.size, 1, none⟩ (.int .i64 0)) (o := .deferred none) (r := w'.heap.size) (k := w.heap.size) (by omega)).trans q0
        have z0 := cell_of_blk q1 0
        have z1 := cell_of_blk q1 1
        simp at z0 z1
        refine ⟨.tuple #[v4, .agg #[.int .i64 0, .int .i64 0], .int .i64 0], ?_, ?_⟩
        · simp [results, Tryz.f13, go_sem, z0, z1]
        · have hfe : (S.finish s.data.toList) = R.ended s.size := by rw [HFIN.out, if_pos he]
          refine ⟨v4, 0, rfl, ?_, ?_, ?_⟩
          · rw [if_neg (by omega), hfe, he3]
          · rw [if_pos rfl, hfe]
            exact own_grown (own_mono (own_set (own_set ho4 hpb (by decide) _) (blk_set' hpb 0 (.int .i64 0)) (by decide) _) HBW3.out.size) (grownBy_putObj' _ w'.heap.size _) (fun k c hk hc cs f he' => by injection hk with hk; subst hk; rw [hD4] at hc; injection hc with hc; rw [← hc] at he'; cases he')
          · exact (((HBW3.out.trans (hb4.mono HBW3.out.size)).setCell (p := ⟨w.heap.size, 0, none⟩) (Nat.le_refl _) _).setCell (p := ⟨w.heap.size, 1, none⟩) (Nat.le_refl _) _).grown (grownBy_putObj' _ w'.heap.size _) (by rw [size_setCell, size_setCell]; exact Nat.le_trans HBW3.out.size hb4.size) (fun k hk => by injection hk with hk; omega)
      · have b3 : (((R.ended s.size).ec : Int) == 0) = false := beq_eq_false_iff_ne.2 (by omega)
        have b4 : (((R.ended s.size).ec : Int) != 0) = true := by simp [bne, b3]
        gi_wp2_with (refine ⟨trivial, ?_⟩; gi_at_call 34; refine (callsIn_wide.2 (dent_ended (w.heap.size + 8) (w.heap.size + 1) R s.size W HRD.out HBB.out (by have := HRL.out; omega))).mono ?_; rintro e w3 ⟨rfl, hr3, hf3⟩; (obtain ⟨cs3, hg3⟩ := HRD.out.blk); (have hbk3 := hf3.blks hg3 HBK.out); (have d_r : w3.cell? ⟨w.heap.size + 1 + 1, 0, none⟩ = some (.pointer (some ⟨w.heap.size + 1, 0, none⟩)) := by rw [cell_of_blk hbk3.1 0]; rfl); (obtain ⟨vl, vh, hg4, hl4, hh4⟩ := hr3); (have d_e : w3.cell? ⟨w.heap.size + 1, 1, none⟩ = some (.int .i64 (R.ended s.size).ec) := by rw [cell_of_blk hg4 1]; rfl); (have d_w : w3.cell? ⟨w.heap.size + 1, 0, none⟩ = some (.int .i64 (R.ended s.size).wh) := by rw [cell_of_blk hg4 0]; rfl); (have d_l : w3.cell? ⟨w.heap.size + 1, 2, none⟩ = some vl := by rw [cell_of_blk hg4 2]; rfl); (have p_f : w3.frozen? ⟨w.heap.size, 0, none⟩ = false := frozen_blk hbk3.2.2.2 0); (have p_g : w3.frozen? ⟨w.heap.size, 1, none⟩ = false := frozen_blk hbk3.2.2.2 1); (have p_0 : w3.cell? ⟨w.heap.size, 0, none⟩ = some (.int .i64 0) := by rw [cell_of_blk hbk3.2.2.2 0]; rfl); (have p_1 : w3.cell? ⟨w.heap.size, 1, none⟩ = some (.int .i64 0) := by rw [cell_of_blk hbk3.2.2.2 1]; rfl); (have HL4 := Lib.hid hl4); (have HG4 := Lib.hid hg4); (have HBK3 := Lib.hid hbk3); (have HD3 := Lib.hid ((hf3.keeps hg3).same _ _ HK.out rfl)); (have HBW3 : Hid (Below w.heap.size w w3) := Lib.hid (HBW.out.trans (hf3.below (by omega) (by omega) HBW.out.size))); (have HL3 : Hid ((R.ended s.size).l.length ≤ 8001) := by rw [ended_l]; exact HRL); clear hf3 hbk3 hg3 hl4 hh4 hg4)
        refine wpIn_mono (Q := Exit.then ?KK (fun _ _ _ => False)) ?reg ?mono
        case mono =>
          intro e a w5 hq
          cases e <;> first | exact hq | exact False.elim hq
        gi_region_with (refine ⟨trivial, ?_⟩; gi_at_call 27; refine (callsIn_wide.2 (text_Place s (R.ended s.size).wh (by omega) _)).mono ?_; rintro e w4 ⟨hev, hb4⟩; (rw [show placeV s (R.ended s.size).wh = .agg #[.int .i64 (placeL s (R.ended s.size).wh), .int .i64 (placeC s (R.ended s.size).wh)] from rfl] at hev); subst hev; (have hpb := (hb4.block w.heap.size (Array.getElem?_eq_some_iff.1 HBK3.out.2.2.2).1).trans HBK3.out.2.2.2); (have hrb := (hb4.block _ (Array.getElem?_eq_some_iff.1 HBK3.out.1).1).trans HBK3.out.1); (have hgb := (hb4.block _ (Array.getElem?_eq_some_iff.1 HG4.out).1).trans HG4.out); (have r_f := frozen_blk hpb 0); (have r_g := frozen_blk hpb 1); (have r_0 : w4.cell? ⟨w.heap.size, 0, none⟩ = some (.int .i64 0) := by rw [cell_of_blk hpb 0]; rfl); (have r_1 : w4.cell? ⟨w.heap.size, 1, none⟩ = some (.int .i64 0) := by rw [cell_of_blk hpb 1]; rfl); (have r_r : w4.cell? ⟨w.heap.size + 1 + 1, 0, none⟩ = some (.pointer (some ⟨w.heap.size + 1, 0, none⟩)) := by rw [cell_of_blk hrb 0]; rfl); (have r_e : w4.cell? ⟨w.heap.size + 1, 1, none⟩ = some (.int .i64 (R.ended s.size).ec) := by rw [cell_of_blk hgb 1]; rfl))
        all_goals simp only [Exit.then]
        all_goals gi_wp2
        all_goals
          have hDs : w.heap.size + 8 ≤ w'.heap.size := by have := HSZ.out; omega
          have hD4 : ((w4.setCell ⟨w.heap.size, 0, none⟩ (.int .i64 (placeL s (R.ended s.size).wh))).setCell ⟨w.heap.size, 1, none⟩ (.int .i64 (placeC s (R.ended s.size).wh))).heap[w'.heap.size]? = some (.deferred (some [])) := (Below.heap_setCell _ _ _ _ (by show w'.heap.size ≠ w.heap.size; omega)).trans ((Below.heap_setCell _ _ _ _ (by show w'.heap.size ≠ w.heap.size; omega)).trans ((hb4.block _ (Array.getElem?_eq_some_iff.1 HD3.out).1).trans HD3.out))
          refine ⟨by simp, .inl ⟨_, _, rfl, run_takeDeferred hD4, ?_⟩⟩
          have q0 := blk_set' (blk_set' hpb 0 (.int .i64 (placeL s (R.ended s.size).wh))) 1 (.int .i64 (placeC s (R.ended s.size).wh))
          have q1 := (World.putObj_heap_other (w := (w4.setCell ⟨w.heap.size, 0, none⟩ (.int .i64 (placeL s (R.ended s.size).wh))).setCell ⟨w.heap.size, 1, none⟩ (.int .i64 (placeC s (R.ended s.size).wh))) (o := .deferred none) (r := w'.heap.size) (k := w.heap.size) (by omega)).trans q0
          have z0 := cell_of_blk q1 0
          have z1 := cell_of_blk q1 1
          simp at z0 z1
          have hfe : (S.finish s.data.toList) = R.ended s.size := by rw [HFIN.out, if_pos he]
          refine ⟨.tuple #[.slice none 0 0, .agg #[.int .i64 (placeL s (R.ended s.size).wh), .int .i64 (placeC s (R.ended s.size).wh)], .int .i64 (R.ended s.size).ec], ?_, ?_⟩
          · simp [results, Tryz.f13, go_sem, z0, z1]
          · refine ⟨.slice none 0 0, (R.ended s.size).ec, ?_, ?_, ?_, ?_⟩
            · rw [if_neg he3, if_neg (by omega), hfe]; rfl
            · rw [if_neg (by omega), hfe]
            · rw [if_neg he3]; exact World.ownsRow_nil _ _ _ _
            · exact (((HBW3.out.trans ((below_dN (Below.refl _ _) 1).trans (hb4.mono HBW3.out.size))).setCell (p := ⟨w.heap.size, 0, none⟩) (Nat.le_refl _) _).setCell (p := ⟨w.heap.size, 1, none⟩) (Nat.le_refl _) _).grown (grownBy_putObj' _ w'.heap.size _) (by rw [size_setCell, size_setCell]; exact Nat.le_trans HBW3.out.size hb4.size) (fun k hk => by injection hk with hk; omega)
    · have b3 : ((R.ec : Int) == 0) = false := beq_eq_false_iff_ne.2 (by omega)
      have b4 : ((R.ec : Int) != 0) = true := by simp [bne, b3]
      obtain ⟨vl, vh, hg4, _⟩ := HRD.out
      have HG4 := Lib.hid hg4
      have d_w : W.cell? ⟨w.heap.size + 1, 0, none⟩ = some (.int .i64 R.wh) := by rw [cell_of_blk hg4 0]; rfl
      have p_f : W.frozen? ⟨w.heap.size, 0, none⟩ = false := frozen_blk HBK.out.2.2.2 0
      have p_g : W.frozen? ⟨w.heap.size, 1, none⟩ = false := frozen_blk HBK.out.2.2.2 1
      have p_0 : W.cell? ⟨w.heap.size, 0, none⟩ = some (.int .i64 0) := by rw [cell_of_blk HBK.out.2.2.2 0]; rfl
      have p_1 : W.cell? ⟨w.heap.size, 1, none⟩ = some (.int .i64 0) := by rw [cell_of_blk HBK.out.2.2.2 1]; rfl
      clear hg4
      gi_wp2
      refine wpIn_mono (Q := Exit.then ?KK2 (fun _ _ _ => False)) ?reg2 ?mono2
      case mono2 =>
        intro e a w5 hq
        cases e <;> first | exact hq | exact False.elim hq
      gi_region_with (refine ⟨trivial, ?_⟩; gi_at_call 27; refine (callsIn_wide.2 (text_Place s R.wh (by omega) _)).mono ?_; rintro e w4 ⟨hev, hb4⟩; (rw [show placeV s R.wh = .agg #[.int .i64 (placeL s R.wh), .int .i64 (placeC s R.wh)] from rfl] at hev); subst hev; (have hpb := (hb4.block w.heap.size (Array.getElem?_eq_some_iff.1 HBK.out.2.2.2).1).trans HBK.out.2.2.2); (have hrb := (hb4.block _ (Array.getElem?_eq_some_iff.1 HBK.out.1).1).trans HBK.out.1); (have hgb := (hb4.block _ (Array.getElem?_eq_some_iff.1 HG4.out).1).trans HG4.out); (have r_f := frozen_blk hpb 0); (have r_g := frozen_blk hpb 1); (have r_0 : w4.cell? ⟨w.heap.size, 0, none⟩ = some (.int .i64 0) := by rw [cell_of_blk hpb 0]; rfl); (have r_1 : w4.cell? ⟨w.heap.size, 1, none⟩ = some (.int .i64 0) := by rw [cell_of_blk hpb 1]; rfl); (have r_r : w4.cell? ⟨w.heap.size + 1 + 1, 0, none⟩ = some (.pointer (some ⟨w.heap.size + 1, 0, none⟩)) := by rw [cell_of_blk hrb 0]; rfl); (have r_e : w4.cell? ⟨w.heap.size + 1, 1, none⟩ = some (.int .i64 R.ec) := by rw [cell_of_blk hgb 1]; rfl))
      all_goals simp only [Exit.then]
      all_goals gi_wp2
      all_goals
        have hDs : w.heap.size + 8 ≤ w'.heap.size := by have := HSZ.out; omega
        have hD4 : ((w4.setCell ⟨w.heap.size, 0, none⟩ (.int .i64 (placeL s R.wh))).setCell ⟨w.heap.size, 1, none⟩ (.int .i64 (placeC s R.wh))).heap[w'.heap.size]? = some (.deferred (some [])) := (Below.heap_setCell _ _ _ _ (by show w'.heap.size ≠ w.heap.size; omega)).trans ((Below.heap_setCell _ _ _ _ (by show w'.heap.size ≠ w.heap.size; omega)).trans ((hb4.block _ (Array.getElem?_eq_some_iff.1 HK.out).1).trans HK.out))
        refine ⟨by simp, .inl ⟨_, _, rfl, run_takeDeferred hD4, ?_⟩⟩
        have q0 := blk_set' (blk_set' hpb 0 (.int .i64 (placeL s R.wh))) 1 (.int .i64 (placeC s R.wh))
        have q1 := (World.putObj_heap_other (w := (w4.setCell ⟨w.heap.size, 0, none⟩ (.int .i64 (placeL s R.wh))).setCell ⟨w.heap.size, 1, none⟩ (.int .i64 (placeC s R.wh))) (o := .deferred none) (r := w'.heap.size) (k := w.heap.size) (by omega)).trans q0
        have z0 := cell_of_blk q1 0
        have z1 := cell_of_blk q1 1
        simp at z0 z1
        have hfe : (S.finish s.data.toList) = R := by rw [HFIN.out, if_neg he]
        refine ⟨.tuple #[.slice none 0 0, .agg #[.int .i64 (placeL s R.wh), .int .i64 (placeC s R.wh)], .int .i64 R.ec], ?_, ?_⟩
        · simp [results, Tryz.f13, go_sem, z0, z1]
        · refine ⟨.slice none 0 0, R.ec, ?_, ?_, ?_, ?_⟩
          · rw [if_neg he, if_neg (by omega), hfe]; rfl
          · rw [if_neg (by omega), hfe]
          · rw [if_neg he]; exact World.ownsRow_nil _ _ _ _
          · exact (((HBW.out.trans ((below_dN (Below.refl _ _) 1).trans (hb4.mono HBW.out.size))).setCell (p := ⟨w.heap.size, 0, none⟩) (Nat.le_refl _) _).setCell (p := ⟨w.heap.size, 1, none⟩) (Nat.le_refl _) _).grown (grownBy_putObj' _ w'.heap.size _) (by rw [size_setCell, size_setCell]; exact Nat.le_trans HBW.out.size hb4.size) (fun k hk => by injection hk with hk; omega)
end Go.Proofs.YtpcmkjimdhlhiaaGreatDoor.G
-- part G26
namespace Go.Proofs.YtpcmkjimdhlhiaaGreatDoor.G
open Go.RowKit Go.Shelf
set_option maxRecDepth 100000 in
set_option maxHeartbeats 4000000 in
theorem dent_Locks_long (s : ByteArray) (w : World) (h : 8000 < s.size) (hs : s.size ≤ 10000000) :
    Calls Tryz.prog 13 #[.string s] w fun e w' => e = .returned (.tuple #[.slice none 0 0, placeV s 0, .int .i64 2]) ∧ Below w.heap.size w w' := by
  have d2 : 8000 < (s.size : Int) := by omega
  go_enter Tryz.func13, Tryz.ntmps13
  go_wp2_with fail
  refine (text_Place s 0 hs _).mono ?_
  rintro e w1 ⟨hev, hb⟩
  rw [show placeV s 0 = .agg #[.int .i64 (placeL s 0), .int .i64 (placeC s 0)] from rfl] at hev
  subst hev
  have hpb := (hb.block w.heap.size (by simp)).trans (World.alloc_heap_new w (.cells #[.int .i64 0, .int .i64 0] 29 (0, 0)))
  have r_f := frozen_blk hpb 0
  have r_g := frozen_blk hpb 1
  have r_0 : w1.cell? ⟨w.heap.size, 0, none⟩ = some (.int .i64 0) := by rw [cell_of_blk hpb 0]; rfl
  have r_1 : w1.cell? ⟨w.heap.size, 1, none⟩ = some (.int .i64 0) := by rw [cell_of_blk hpb 1]; rfl
  go_wp2
  have q0 := blk_set' (blk_set' hpb 0 (.int .i64 (placeL s 0))) 1 (.int .i64 (placeC s 0))
  have z0 := cell_of_blk q0 0
  have z1 := cell_of_blk q0 1
  simp at z0 z1
  refine bodyPost_ret (v := .tuple #[.slice none 0 0, .agg #[.int .i64 (placeL s 0), .int .i64 (placeC s 0)], .int .i64 2]) (by simp [results, Tryz.f13, go_sem, z0, z1]) rfl ?_
  refine ⟨rfl, ?_⟩
  have hb0 : Below w.heap.size w w1 := ((Below.refl _ w).alloc (Nat.le_refl _) _).trans (hb.mono (by simp))
  exact (hb0.setCell (p := ⟨w.heap.size, 0, none⟩) (Nat.le_refl _) _).setCell (p := ⟨w.heap.size, 1, none⟩) (Nat.le_refl _) _
end Go.Proofs.YtpcmkjimdhlhiaaGreatDoor.G
-- part G27
namespace Go.Proofs.YtpcmkjimdhlhiaaGreatDoor.G
open Go.RowKit Go.Shelf
attribute [local go_sem] Oper.semAt_some
theorem blk_new3 (w : World) (o0 o1 o2 : Obj) : (((w.alloc o0).alloc o1).alloc o2).heap[w.heap.size]? = some o0 ∧ (((w.alloc o0).alloc o1).alloc o2).heap[w.heap.size + 1]? = some o1 ∧ (((w.alloc o0).alloc o1).alloc o2).heap[w.heap.size + 1 + 1]? = some o2 := by
  refine ⟨?_, ?_, ?_⟩ <;> (repeat rw [heap_alloc_at]) <;> (repeat rw [World.size_alloc]) <;> (repeat' split) <;> first | rfl | (exfalso; omega)
theorem after_zero_bad (s : S.Bs) (bn : Nat) (h : S.badAt s = (bn : Int)) : (S.after s 0).rd = { wh := bn, ec := 1, l := [], has := [] } := by
  show (S.start s).rd = _
  unfold S.start
  simp only
  rw [if_neg (by omega), h]
  rfl
set_option maxRecDepth 100000 in
set_option maxHeartbeats 8000000 in
theorem dent_Locks_pos (s : ByteArray) (w : World) (h : s.size ≤ 8000) (m : Int) (hm : w.cell? ⟨0, 0, none⟩ = some (.int .i64 m)) (hb0 : 0 ≤ S.badAt s.data.toList) :
    CallsIn Fence.wide 3 Tryz.prog 13 #[.string s] w (LocksOut s w) := by
  have d1 : (s.size : Int) ≤ 8000 := by omega
  have d2 : ¬ 8000 < (s.size : Int) := by omega
  have HM := Lib.hid hm
  clear hm
  refine callsIn_of_wp_marks Tryz.func13 rfl trivial ?_ rfl
  simp only [Tryz.ntmps13, List.size_toArray, List.length_cons, List.length_nil, Nat.reduceAdd, Nat.reduceSub, Array.replicate_succ, Array.replicate_zero, List.push_toArray, List.append_toArray, List.nil_append, List.cons_append]
  have hb1 : ¬ S.badAt s.data.toList < 0 := by omega
  obtain ⟨bn, hbn⟩ : ∃ bn : Nat, S.badAt s.data.toList = (bn : Int) := ⟨(S.badAt s.data.toList).toNat, by omega⟩
  have HBN := Lib.hid hbn
  clear hbn hb0 hb1
  have HN := Lib.hid (blk_new3 w (.cells #[.int .i64 0, .int .i64 0] 29 (0, 0)) (.cells #[.int .i64 0, .int .i64 0, .slice none 0 0, .slice none 0 0] 63 (0, 0)) (.cells #[.pointer (some ⟨w.heap.size + 1, 0, none⟩)] 59 (0, 0)))
  gi_wp2_with (refine ⟨trivial, ?_⟩; gi_at_call 28; refine (callsIn_wide.2 (dent_bad s _ (by omega))).mono ?_; rintro e w' ⟨rfl, rfl⟩; rw [HBN.out])
  refine ⟨trivial, ?_⟩
  gi_at_call 29
  refine (callsIn_wide.2 (dent_wrong_first (w.heap.size + 1) bn 1 0 _ (by rw [cell_of_blk HN.out.2.1 0]; rfl) (by rw [cell_of_blk HN.out.2.1 1]; rfl) (frozen_blk HN.out.2.1 0) (frozen_blk HN.out.2.1 1))).mono ?_
  rintro e w2 ⟨rfl, rfl⟩
  gi_wp2_with (refine ⟨trivial, ?_⟩; gi_at_call 30; refine (callsIn_wide.2 (splitAfterSeq_at s _)).mono ?_; rintro e w' ⟨rfl, hbx, hbl, hsz⟩)
  have hN := blk_new5 w (.cells #[.int .i64 0, .int .i64 0] 29 (0, 0)) (.cells #[.int .i64 bn, .int .i64 1, .slice none 0 0, .slice none 0 0] 63 (0, 0)) (.cells #[.pointer (some ⟨w.heap.size + 1, 0, none⟩)] 59 (0, 0)) (.cells #[.int .i64 0] 3 (0, 0)) (.cells #[.bool false] 4 (0, 0))
  simp only [World.size_alloc] at hbx hsz hbl
  have hk : ∀ (j : Nat) (o : Obj), j < w.heap.size + 1 + 1 + 1 + 1 + 1 → _ → w'.heap[j]? = some o := fun j o hj ho => (hbl.block j hj).trans ho
  have HST : Hid (LkAt s.data.toList w.heap.size (w.heap.size + 8) (w.heap.size + 1) (w.heap.size + 2) (w.heap.size + 3) (w.heap.size + 4) w.heap.size w 0 w') := by
    have q1 : (S.after s.data.toList 0).rd = { wh := bn, ec := 1, l := [], has := [] } := after_zero_bad s.data.toList bn HBN.out
    refine Lib.hid ⟨?_, ⟨?_, ?_, ?_, ?_⟩, ?_, by omega⟩
    · rw [q1]; exact ⟨_, _, hk _ _ (by omega) hN.2.1, World.ownsRow_nil _ _ _ _, World.ownsRow_nil _ _ _ _⟩
    · exact hk _ _ (by omega) hN.2.2.1
    · exact hk _ _ (by omega) hN.2.2.2.1
    · exact hk _ _ (by omega) hN.2.2.2.2
    · exact hk _ _ (by omega) hN.1
    · exact (((((Below.refl _ w).alloc (Nat.le_refl _) _).alloc (by simp) _).alloc (by simp; omega) _).alloc (by simp; omega) _).alloc (by simp; omega) _ |>.trans (hbl.mono (by omega))
  have HBX := Lib.hid hbx
  have HSZ := Lib.hid hsz
  clear hN hk hbx hbl hsz
  refine range_split s (by omega) rfl rfl HBX.out (fun k W => LkAt s.data.toList w.heap.size (w.heap.size + 8) (w.heap.size + 1) (w.heap.size + 2) (w.heap.size + 3) (w.heap.size + 4) w.heap.size w k W) HST.out ?hIA ?hIS ?hID ?hIP ?a1 ?hassign ?hbody ?hdone
  case hIA =>
    intro k W o hi ho hW
    exact hi.below ((Below.refl _ W).alloc (Nat.le_refl _) _) hi.2.2.1.size
  case hIS =>
    intro k r W v hi hb
    exact hi.setS hb (by omega) (by omega) v
  case hID =>
    intro k W n hi
    exact hi.below (below_dN (Below.refl _ W) n) hi.2.2.1.size
  case hIP =>
    intro k W l o o' hi hl ho hc
    exact hi.putObj ho hc (by have := HSZ.out; omega) hi.2.2.1.size
  case hassign =>
    intro l x W K hK
    gi_wp2
    exact hK
  case hbody =>
    intro l k x r W hi hbx hx
    have HXL : Hid ((S.after s.data.toList k).at_ + x.size ≤ s.size) := Lib.hid (by have := S.after_at s.data.toList k x.data.toList (by simpa using hx); simpa using this)
    have HKL : Hid (k ≤ 8000) := Lib.hid (by
      have h1 := (List.getElem?_eq_some_iff.1 hx).1
      have h2 := S.pieces_len s.size s.data.toList
      omega)
    have HSU : Hid (S.after s.data.toList (k + 1) = (S.after s.data.toList k).step x.data.toList) := Lib.hid (S.after_succ _ _ _ (by simpa using hx))
    obtain ⟨hle1, hle2, _⟩ := S.after_le s.data.toList k (by have h1 := (List.getElem?_eq_some_iff.1 hx).1; have : s.data.toList.length = s.size := by simp
                                                             rw [this]; omega)
    have HLE := Lib.hid (And.intro hle1 hle2)
    clear hle1 hle2 hx
    obtain ⟨hrd, hbk, hbw, hBW⟩ := hi
    obtain ⟨vl, vh, hg, hol, hoh⟩ := hrd
    have HRD : Hid (RdAt (w.heap.size + 8) (w.heap.size + 1) (S.after s.data.toList k).rd W) := Lib.hid ⟨vl, vh, hg, hol, hoh⟩
    have HBK := Lib.hid hbk
    have HBW := Lib.hid hbw
    have HBB := Lib.hid hBW
    have HBX2 := Lib.hid hbx
    have c_r : W.cell? ⟨w.heap.size + 1 + 1, 0, none⟩ = some (.pointer (some ⟨w.heap.size + 1, 0, none⟩)) := by rw [cell_of_blk hbk.1 0]; rfl
    have c_f : W.cell? ⟨w.heap.size + 1 + 1 + 1, 0, none⟩ = some (.int .i64 (S.after s.data.toList k).at_) := by rw [cell_of_blk hbk.2.1 0]; rfl
    have c_b : W.cell? ⟨w.heap.size + 1 + 1 + 1 + 1, 0, none⟩ = some (.bool (S.after s.data.toList k).begun) := by rw [cell_of_blk hbk.2.2.1 0]; rfl
    have f_f : W.frozen? ⟨w.heap.size + 1 + 1 + 1, 0, none⟩ = false := frozen_blk hbk.2.1 0
    have f_b : W.frozen? ⟨w.heap.size + 1 + 1 + 1 + 1, 0, none⟩ = false := frozen_blk hbk.2.2.1 0
    have c_e : W.cell? ⟨w.heap.size + 1, 1, none⟩ = some (.int .i64 (S.after s.data.toList k).rd.ec) := by rw [cell_of_blk hg 1]; rfl
    clear hg hol hoh hbk hbw hBW hbx
    obtain ⟨A, hA⟩ : ∃ A, A = S.after s.data.toList k := ⟨_, rfl⟩
    rw [← hA] at c_f c_b c_e HRD HBK
    have HA := Lib.hid hA
    clear hA
    have hax : A.at_ + x.size ≤ 8000 := by have := HXL.out; rw [← HA.out] at this; omega
    gi_wp2_with (refine ⟨trivial, ?_⟩; gi_at_call 31; refine (CallsIn.inRound l (callsIn_wide.2 (chomp_at x W (by omega)))).mono ?_; rintro e w2 ⟨⟨y, rfl, hy⟩, rfl⟩)
    refine ⟨trivial, ?_⟩
    gi_at_call 32
    refine (CallsIn.inRound l (callsIn_wide.2 (bare_at y W))).mono ?_
    rintro e w2 ⟨⟨z, rfl, hz⟩, rfl⟩
    have hyx : y.size ≤ x.size := by
      have h1 := chomp_le x.data.toList
      rw [← hy] at h1; simpa using h1
    have hzy : z.size ≤ y.size := by
      have h1 := bare_le y.data.toList
      rw [← hz] at h1; simpa using h1
    have hzl : z.data.toList.length = z.size := by simp
    have HY := Lib.hid hy
    have HZ := Lib.hid hz
    have HZL := Lib.hid hzl
    clear hy hz hzl
    have e12 : (A.at_ : Int) + (y.size : Int) - (z.size : Int) = ((A.at_ + y.size - z.size : Nat) : Int) := by omega
    have HMV := Lib.hid (moved (a' := A.at_ + x.size) HRD.out HBK.out HBW.out HBB.out HBX2.out (Nat.le_refl _))
    have hskip : ∀ (hs : S.skips A.rd.ec z.data.toList = true), Hid (S.after s.data.toList (k + 1) = { A with at_ := A.at_ + x.size }) := fun hs => Lib.hid (by
      rw [HSU.out, ← HA.out]
      unfold S.St.step
      rw [← HY.out, ← HZ.out, if_pos hs]
      simp)
    have hgo : ∀ (hs : S.skips A.rd.ec z.data.toList = false), Hid (S.after s.data.toList (k + 1) = (if A.begun then { A with rd := A.rd.line y.data.toList (A.at_ + y.size - z.size), at_ := A.at_ + x.size } else if y.data.toList = S.locksWord then { rd := A.rd, at_ := A.at_ + x.size, begun := true } else { rd := A.rd.wrong (A.at_ + y.size - z.size) 1, at_ := A.at_ + x.size, begun := false })) := fun hs => Lib.hid (by
      rw [HSU.out, ← HA.out]
      unfold S.St.step
      rw [← HY.out, ← HZ.out, hs]
      simp)
    simp only [Int.natCast_add] at HMV
    have HSKIP := Lib.hid hskip
    have HGO := Lib.hid hgo
    clear hskip hgo
    by_cases he : A.rd.ec = 0
    · have b1 : ((A.rd.ec : Int) == 0) = true := beq_iff_eq.2 (by omega)
      have b2 : ((A.rd.ec : Int) != 0) = false := by simp [bne, b1]
      by_cases hzs : z.size = 0
      · have hz0 : z = ⟨#[]⟩ := ByteArray.ext (Array.eq_empty_of_size_eq_zero hzs)
        subst hz0
        have HS2 := HSKIP.out (by unfold S.skips; simp [he])
        gi_wp2
        obtain ⟨m1, m2, m3, m4, m5, m6⟩ := HMV.out
        exact ⟨m6, ⟨by rw [HS2.out]; exact m1, by rw [HS2.out]; exact m2, m3, m4⟩, m5⟩
      · have hzp : 0 < z.size := by omega
        have hne : ¬ z = ⟨#[]⟩ := by
          rintro rfl
          exact hzs rfl
        have hnl : z.data.toList ≠ [] := by
          intro h0
          have h1 := HZL.out
          rw [h0] at h1
          exact hzs h1.symm
        have hhd : z.data.toList.head? = some (z[0]'hzp) := by
          rw [List.head?_eq_getElem?]
          rw [List.getElem?_eq_getElem (by simpa using hzp)]
          rfl
        have hie : z.toList.isEmpty = false := by
          rw [ByteArray.toList_eq]
          cases hh : z.data.toList with
          | nil => exact absurd hh hnl
          | cons _ _ => rfl
        by_cases h35 : ((z[0]'hzp).toNat : Int) = 35
        · have h36 : z[0]'hzp = 35 := UInt8.toNat_inj.1 (show (z[0]'hzp).toNat = 35 by omega)
          have b35 : (((z[0]'hzp).toNat : Int) == 35) = true := beq_iff_eq.2 h35
          have HS2 := HSKIP.out (by unfold S.skips; rw [hhd, h36]; simp)
          clear hnl hhd h36
          gi_wp2
          all_goals try (exfalso; omega)
          obtain ⟨m1, m2, m3, m4, m5, m6⟩ := HMV.out
          exact ⟨m6, ⟨by rw [HS2.out]; exact m1, by rw [HS2.out]; exact m2, m3, m4⟩, m5⟩
        · have h36 : z[0]'hzp ≠ 35 := by intro h0; apply h35; rw [h0]; rfl
          have b35 : (((z[0]'hzp).toNat : Int) == 35) = false := beq_eq_false_iff_ne.2 h35
          have HG2 := HGO.out (by unfold S.skips; rw [hhd]; simp [he, h36]; first | done | exact hnl | (intro h0; first | exact hnl (by rw [h0]) | exact hnl h0 | exact hnl (by rw [h0]; rfl)))
          clear hnl hhd h36
          have hmW : Hid ((W.setCell ⟨w.heap.size + 3, 0, none⟩ (.int .i64 ((A.at_ : Int) + (x.size : Int)))).cell? ⟨0, 0, none⟩ = some (.int .i64 m)) := by
            have hlt : (0 : Nat) < w.heap.size := by
              have h1 := HM.out
              simp only [World.cell?] at h1
              by_cases h2 : (0 : Nat) < w.heap.size
              · exact h2
              · rw [Array.getElem?_eq_none (by omega)] at h1
                simp at h1
            exact Lib.hid ((HMV.out.2.2.1.cell (p := ⟨0, 0, none⟩) hlt).trans HM.out)
          cases hbeg : A.begun with
          | true =>
            have HG3 : Hid (S.after s.data.toList (k + 1) = { A with rd := A.rd.line y.data.toList (A.at_ + y.size - z.size), at_ := A.at_ + x.size }) := Lib.hid (by rw [HG2.out, if_pos hbeg])
            rw [hbeg] at c_b
            gi_wp2_with (refine ⟨trivial, ?_⟩; gi_at_call 33; refine (CallsIn.inRound l (callsIn_wide.2 (dent_line (w.heap.size + 8) (w.heap.size + 1) A.rd y (A.at_ + y.size - z.size) m _ HMV.out.1 HMV.out.2.2.2.1 (by have h1 := HLE.out.1; rw [← HA.out] at h1; have h2 := HKL.out; omega) (by have h1 := HLE.out.2; rw [← HA.out] at h1; have h2 := HKL.out; omega) (by omega) hmW.out))).mono ?_; rintro e w3 ⟨rfl, hr3, hf3⟩)
            all_goals try (exfalso; omega)
            obtain ⟨m1, m2, m3, m4, m5, m6⟩ := HMV.out
            obtain ⟨cs, hgc⟩ := m1.blk
            exact ⟨m6.trans (hf3.keeps hgc), ⟨by rw [HG3.out]; exact hr3, by rw [HG3.out]; exact hf3.blks hgc m2, m3.trans (hf3.below (by omega) (by omega) m3.size), Nat.le_trans m4 hf3.size⟩, hf3.boxes m5 (by omega) (by omega)⟩
          | false =>
            rw [hbeg] at c_b
            by_cases hlk : y = ⟨#[108, 111, 99, 107, 115, 58]⟩
            · have HG3 : Hid (S.after s.data.toList (k + 1) = { rd := A.rd, at_ := A.at_ + x.size, begun := true }) := Lib.hid (by rw [HG2.out, if_neg (by rw [hbeg]; simp), if_pos (by rw [hlk]; rfl)])
              gi_wp2
              all_goals try (exfalso; omega)
              obtain ⟨m1, m2, m3, m4, m5, m6⟩ := HMV.out
              obtain ⟨p1, p2, p3, p4, p5, p6⟩ := begunSet (b' := true) m1 m2 m3 m4 m5 (Nat.le_refl _)
              exact ⟨m6.trans p6, ⟨by rw [HG3.out]; exact p1, by rw [HG3.out]; exact p2, p3, p4⟩, p5⟩
            · have hlk2 : ¬ y.data.toList = S.locksWord := by
                intro h0
                apply hlk
                apply ByteArray.ext
                exact Array.toList_inj.1 h0
              have HG3 : Hid (S.after s.data.toList (k + 1) = { rd := A.rd.wrong (A.at_ + y.size - z.size) 1, at_ := A.at_ + x.size, begun := false }) := Lib.hid (by rw [HG2.out, if_neg (by rw [hbeg]; simp), if_neg hlk2])
              have hyb : (y.toList == [108, 111, 99, 107, 115, 58]) = false := by
                rw [ByteArray.toList_eq, beq_eq_false_iff_ne]
                exact hlk2
              have HP := Lib.hid (begunSet (b' := false) HMV.out.1 HMV.out.2.1 HMV.out.2.2.1 HMV.out.2.2.2.1 HMV.out.2.2.2.2.1 (Nat.le_refl _))
              gi_wp2_with (refine ⟨trivial, ?_⟩; gi_at_call 29; refine (CallsIn.inRound l (callsIn_wide.2 (dent_wrong (w.heap.size + 8) (w.heap.size + 1) A.rd (A.at_ + y.size - z.size) 1 _ HP.out.1))).mono ?_; rintro e w3 ⟨rfl, hr3, hf3⟩)
              all_goals try (exfalso; omega)
              obtain ⟨m1, m2, m3, m4, m5, m6⟩ := HMV.out
              obtain ⟨p1, p2, p3, p4, p5, p6⟩ := HP.out
              obtain ⟨cs, hgc⟩ := p1.blk
              exact ⟨(m6.trans p6).trans (hf3.keeps hgc), ⟨by rw [HG3.out]; exact hr3, by rw [HG3.out]; exact hf3.blks hgc p2, p3.trans (hf3.below (by omega) (by omega) p3.size), Nat.le_trans p4 hf3.size⟩, hf3.boxes p5 (by omega) (by omega)⟩
    · have b1 : ((A.rd.ec : Int) == 0) = false := beq_eq_false_iff_ne.2 (by omega)
      have b2 : ((A.rd.ec : Int) != 0) = true := by simp [bne, b1]
      have HS2 := HSKIP.out (by unfold S.skips; simp [he])
      gi_wp2
      obtain ⟨m1, m2, m3, m4, m5, m6⟩ := HMV.out
      exact ⟨m6, ⟨by rw [HS2.out]; exact m1, by rw [HS2.out]; exact m2, m3, m4⟩, m5⟩
  case hdone =>
    intro W hi hK
    obtain ⟨hrd, hbk, hbw, hBW⟩ := hi
    obtain ⟨R, hR⟩ : ∃ R, R = (S.after s.data.toList (S.pieces s.size s.data.toList).length).rd := ⟨_, rfl⟩
    rw [← hR] at hrd
    have HFIN : Hid (S.finish s.data.toList = if R.ec = 0 then R.ended s.size else R) := Lib.hid (by
      unfold S.finish
      have e : s.data.toList.length = s.size := by simp
      rw [e, ← hR])
    have HRL : Hid (R.l.length ≤ 8001) := Lib.hid (by
      have h1 := (S.after_le s.data.toList (S.pieces s.size s.data.toList).length (by have e : s.data.toList.length = s.size := by simp
                                                                                      rw [e]; omega)).1
      rw [← hR] at h1
      have h2 := S.pieces_len s.size s.data.toList
      omega)
    have HK := Lib.hid hK
    have HRD := Lib.hid hrd
    have HBK := Lib.hid hbk
    have HBW := Lib.hid hbw
    have HBB := Lib.hid hBW
    have c_r : W.cell? ⟨w.heap.size + 1 + 1, 0, none⟩ = some (.pointer (some ⟨w.heap.size + 1, 0, none⟩)) := by rw [cell_of_blk hbk.1 0]; rfl
    have c_e : W.cell? ⟨w.heap.size + 1, 1, none⟩ = some (.int .i64 R.ec) := by obtain ⟨vl, vh, hg, _⟩ := hrd; rw [cell_of_blk hg 1]; rfl
    clear hrd hbk hbw hBW hK hR
    by_cases he : R.ec = 0
    · have b1 : ((R.ec : Int) == 0) = true := beq_iff_eq.2 (by omega)
      by_cases he3 : (R.ended s.size).ec = 0
      · have b3 : (((R.ended s.size).ec : Int) == 0) = true := beq_iff_eq.2 (by omega)
        have b4 : (((R.ended s.size).ec : Int) != 0) = false := by simp [bne, b3]
        gi_wp2_with (first | (refine ⟨trivial, ?_⟩; gi_at_call 34; refine (callsIn_wide.2 (dent_ended (w.heap.size + 8) (w.heap.size + 1) R s.size W HRD.out HBB.out (by have := HRL.out; omega))).mono ?_; rintro e w3 ⟨rfl, hr3, hf3⟩; (obtain ⟨cs3, hg3⟩ := HRD.out.blk); (have hbk3 := hf3.blks hg3 HBK.out); (have d_r : w3.cell? ⟨w.heap.size + 1 + 1, 0, none⟩ = some (.pointer (some ⟨w.heap.size + 1, 0, none⟩)) := by rw [cell_of_blk hbk3.1 0]; rfl); (obtain ⟨vl, vh, hg4, hl4, hh4⟩ := hr3); (have d_e : w3.cell? ⟨w.heap.size + 1, 1, none⟩ = some (.int .i64 (R.ended s.size).ec) := by rw [cell_of_blk hg4 1]; rfl); (have d_w : w3.cell? ⟨w.heap.size + 1, 0, none⟩ = some (.int .i64 (R.ended s.size).wh) := by rw [cell_of_blk hg4 0]; rfl); (have d_l : w3.cell? ⟨w.heap.size + 1, 2, none⟩ = some vl := by rw [cell_of_blk hg4 2]; rfl); (have p_f : w3.frozen? ⟨w.heap.size, 0, none⟩ = false := frozen_blk hbk3.2.2.2 0); (have p_g : w3.frozen? ⟨w.heap.size, 1, none⟩ = false := frozen_blk hbk3.2.2.2 1); (have p_0 : w3.cell? ⟨w.heap.size, 0, none⟩ = some (.int .i64 0) := by rw [cell_of_blk hbk3.2.2.2 0]; rfl); (have p_1 : w3.cell? ⟨w.heap.size, 1, none⟩ = some (.int .i64 0) := by rw [cell_of_blk hbk3.2.2.2 1]; rfl); (have HL4 := Lib.hid hl4); (have HG4 := Lib.hid hg4); (have HBK3 := Lib.hid hbk3); (have HD3 := Lib.hid ((hf3.keeps hg3).same _ _ HK.out rfl)); (have HBW3 : Hid (Below w.heap.size w w3) := Lib.hid (HBW.out.trans (hf3.below (by omega) (by omega) HBW.out.size))); (have HL3 : Hid ((R.ended s.size).l.length ≤ 8001) := by rw [ended_l]; exact HRL); clear hf3 hbk3 hg3 hl4 hh4 hg4) | (refine ⟨trivial, ?_⟩; gi_at_call 35; refine (callsIn_wide.2 (slices_Clone (w.heap.size + 8) vl (R.ended s.size).l w3 HL4.out (by have := HL3.out; omega))).mono ?_; rintro e w4 ⟨⟨v4, rfl, ho4⟩, hb4⟩; (have hpb := (hb4.block w.heap.size (Array.getElem?_eq_some_iff.1 HBK3.out.2.2.2).1).trans HBK3.out.2.2.2); (have r_f := frozen_blk hpb 0); (have r_g := frozen_blk hpb 1); (have r_0 : w4.cell? ⟨w.heap.size, 0, none⟩ = some (.int .i64 0) := by rw [cell_of_blk hpb 0]; rfl); (have r_1 : w4.cell? ⟨w.heap.size, 1, none⟩ = some (.int .i64 0) := by rw [cell_of_blk hpb 1]; rfl)))
        have hDs : w.heap.size + 8 ≤ w'.heap.size := by have := HSZ.out; omega
        have hD4 : ((w4.setCell ⟨w.heap.size, 0, none⟩ (.int .i64 0)).setCell ⟨w.heap.size, 1, none⟩ (.int .i64 0)).heap[w'.heap.size]? = some (.deferred (some [])) := (Below.heap_setCell _ _ _ _ (by show w'.heap.size ≠ w.heap.size; omega)).trans ((Below.heap_setCell _ _ _ _ (by show w'.heap.size ≠ w.heap.size; omega)).trans ((hb4.block _ (Array.getElem?_eq_some_iff.1 HD3.out).1).trans HD3.out))
        refine ⟨by simp, .inl ⟨_, _, rfl, run_takeDeferred hD4, ?_⟩⟩
        have q0 := blk_set' (blk_set' hpb 0 (.int .i64 0)) 1 (.int .i64 0)
        have q1 := (World.putObj_heap_other (w := (w4.setCell ⟨w.heap.size, 0, none⟩ (.int .i64 0)).setCell ⟨w.heap.size, 1, none⟩ (.int .i64 0)) (o := .deferred none) (r := w'.heap.size) (k := w.heap.size) (by omega)).trans q0
        have z0 := cell_of_blk q1 0
        have z1 := cell_of_blk q1 1
        simp at z0 z1
        refine ⟨.tuple #[v4, .agg #[.int .i64 0, .int .i64 0], .int .i64 0], ?_, ?_⟩
        · simp [results, Tryz.f13, go_sem, z0, z1]
        · have hfe : (S.finish s.data.toList) = R.ended s.size := by rw [HFIN.out, if_pos he]
          refine ⟨v4, 0, rfl, ?_, ?_, ?_⟩
          · rw [if_neg (by omega), hfe, he3]
          · rw [if_pos rfl, hfe]
            exact own_grown (own_mono (own_set (own_set ho4 hpb (by decide) _) (blk_set' hpb 0 (.int .i64 0)) (by decide) _) HBW3.out.size) (grownBy_putObj' _ w'.heap.size _) (fun k c hk hc cs f he' => by injection hk with hk; subst hk; rw [hD4] at hc; injection hc with hc; rw [← hc] at he'; cases he')
          · exact (((HBW3.out.trans (hb4.mono HBW3.out.size)).setCell (p := ⟨w.heap.size, 0, none⟩) (Nat.le_refl _) _).setCell (p := ⟨w.heap.size, 1, none⟩) (Nat.le_refl _) _).grown (grownBy_putObj' _ w'.heap.size _) (by rw [size_setCell, size_setCell]; exact Nat.le_trans HBW3.out.size hb4.size) (fun k hk => by injection hk with hk; omega)
      · have b3 : (((R.ended s.size).ec : Int) == 0) = false := beq_eq_false_iff_ne.2 (by omega)
        have b4 : (((R.ended s.size).ec : Int) != 0) = true := by simp [bne, b3]
        gi_wp2_with (refine ⟨trivial, ?_⟩; gi_at_call 34; refine (callsIn_wide.2 (dent_ended (w.heap.size + 8) (w.heap.size + 1) R s.size W HRD.out HBB.out (by have := HRL.out; omega))).mono ?_; rintro e w3 ⟨rfl, hr3, hf3⟩; (obtain ⟨cs3, hg3⟩ := HRD.out.blk); (have hbk3 := hf3.blks hg3 HBK.out); (have d_r : w3.cell? ⟨w.heap.size + 1 + 1, 0, none⟩ = some (.pointer (some ⟨w.heap.size + 1, 0, none⟩)) := by rw [cell_of_blk hbk3.1 0]; rfl); (obtain ⟨vl, vh, hg4, hl4, hh4⟩ := hr3); (have d_e : w3.cell? ⟨w.heap.size + 1, 1, none⟩ = some (.int .i64 (R.ended s.size).ec) := by rw [cell_of_blk hg4 1]; rfl); (have d_w : w3.cell? ⟨w.heap.size + 1, 0, none⟩ = some (.int .i64 (R.ended s.size).wh) := by rw [cell_of_blk hg4 0]; rfl); (have d_l : w3.cell? ⟨w.heap.size + 1, 2, none⟩ = some vl := by rw [cell_of_blk hg4 2]; rfl); (have p_f : w3.frozen? ⟨w.heap.size, 0, none⟩ = false := frozen_blk hbk3.2.2.2 0); (have p_g : w3.frozen? ⟨w.heap.size, 1, none⟩ = false := frozen_blk hbk3.2.2.2 1); (have p_0 : w3.cell? ⟨w.heap.size, 0, none⟩ = some (.int .i64 0) := by rw [cell_of_blk hbk3.2.2.2 0]; rfl); (have p_1 : w3.cell? ⟨w.heap.size, 1, none⟩ = some (.int .i64 0) := by rw [cell_of_blk hbk3.2.2.2 1]; rfl); (have HL4 := Lib.hid hl4); (have HG4 := Lib.hid hg4); (have HBK3 := Lib.hid hbk3); (have HD3 := Lib.hid ((hf3.keeps hg3).same _ _ HK.out rfl)); (have HBW3 : Hid (Below w.heap.size w w3) := Lib.hid (HBW.out.trans (hf3.below (by omega) (by omega) HBW.out.size))); (have HL3 : Hid ((R.ended s.size).l.length ≤ 8001) := by rw [ended_l]; exact HRL); clear hf3 hbk3 hg3 hl4 hh4 hg4)
        refine wpIn_mono (Q := Exit.then ?KK (fun _ _ _ => False)) ?reg ?mono
        case mono =>
          intro e a w5 hq
          cases e <;> first | exact hq | exact False.elim hq
        gi_region_with (refine ⟨trivial, ?_⟩; gi_at_call 27; refine (callsIn_wide.2 (text_Place s (R.ended s.size).wh (by omega) _)).mono ?_; rintro e w4 ⟨hev, hb4⟩; (rw [show placeV s (R.ended s.size).wh = .agg #[.int .i64 (placeL s (R.ended s.size).wh), .int .i64 (placeC s (R.ended s.size).wh)] from rfl] at hev); subst hev; (have hpb := (hb4.block w.heap.size (Array.getElem?_eq_some_iff.1 HBK3.out.2.2.2).1).trans HBK3.out.2.2.2); (have hrb := (hb4.block _ (Array.getElem?_eq_some_iff.1 HBK3.out.1).1).trans HBK3.out.1); (have hgb := (hb4.block _ (Array.getElem?_eq_some_iff.1 HG4.out).1).trans HG4.out); (have r_f := frozen_blk hpb 0); (have r_g := frozen_blk hpb 1); (have r_0 : w4.cell? ⟨w.heap.size, 0, none⟩ = some (.int .i64 0) := by rw [cell_of_blk hpb 0]; rfl); (have r_1 : w4.cell? ⟨w.heap.size, 1, none⟩ = some (.int .i64 0) := by rw [cell_of_blk hpb 1]; rfl); (have r_r : w4.cell? ⟨w.heap.size + 1 + 1, 0, none⟩ = some (.pointer (some ⟨w.heap.size + 1, 0, none⟩)) := by rw [cell_of_blk hrb 0]; rfl); (have r_e : w4.cell? ⟨w.heap.size + 1, 1, none⟩ = some (.int .i64 (R.ended s.size).ec) := by rw [cell_of_blk hgb 1]; rfl))
        all_goals simp only [Exit.then]
        all_goals gi_wp2
        all_goals
          have hDs : w.heap.size + 8 ≤ w'.heap.size := by have := HSZ.out; omega
          have hD4 : ((w4.setCell ⟨w.heap.size, 0, none⟩ (.int .i64 (placeL s (R.ended s.size).wh))).setCell ⟨w.heap.size, 1, none⟩ (.int .i64 (placeC s (R.ended s.size).wh))).heap[w'.heap.size]? = some (.deferred (some [])) := (Below.heap_setCell _ _ _ _ (by show w'.heap.size ≠ w.heap.size; omega)).trans ((Below.heap_setCell _ _ _ _ (by show w'.heap.size ≠ w.heap.size; omega)).trans ((hb4.block _ (Array.getElem?_eq_some_iff.1 HD3.out).1).trans HD3.out))
          refine ⟨by simp, .inl ⟨_, _, rfl, run_takeDeferred hD4, ?_⟩⟩
          have q0 := blk_set' (blk_set' hpb 0 (.int .i64 (placeL s (R.ended s.size).wh))) 1 (.int .i64 (placeC s (R.ended s.size).wh))
          have q1 := (World.putObj_heap_other (w := (w4.setCell ⟨w.heap.size, 0, none⟩ (.int .i64 (placeL s (R.ended s.size).wh))).setCell ⟨w.heap.size, 1, none⟩ (.int .i64 (placeC s (R.ended s.size).wh))) (o := .deferred none) (r := w'.heap.size) (k := w.heap.size) (by omega)).trans q0
          have z0 := cell_of_blk q1 0
          have z1 := cell_of_blk q1 1
          simp at z0 z1
          have hfe : (S.finish s.data.toList) = R.ended s.size := by rw [HFIN.out, if_pos he]
          refine ⟨.tuple #[.slice none 0 0, .agg #[.int .i64 (placeL s (R.ended s.size).wh), .int .i64 (placeC s (R.ended s.size).wh)], .int .i64 (R.ended s.size).ec], ?_, ?_⟩
          · simp [results, Tryz.f13, go_sem, z0, z1]
          · refine ⟨.slice none 0 0, (R.ended s.size).ec, ?_, ?_, ?_, ?_⟩
            · rw [if_neg he3, if_neg (by omega), hfe]; rfl
            · rw [if_neg (by omega), hfe]
            · rw [if_neg he3]; exact World.ownsRow_nil _ _ _ _
            · exact (((HBW3.out.trans ((below_dN (Below.refl _ _) 1).trans (hb4.mono HBW3.out.size))).setCell (p := ⟨w.heap.size, 0, none⟩) (Nat.le_refl _) _).setCell (p := ⟨w.heap.size, 1, none⟩) (Nat.le_refl _) _).grown (grownBy_putObj' _ w'.heap.size _) (by rw [size_setCell, size_setCell]; exact Nat.le_trans HBW3.out.size hb4.size) (fun k hk => by injection hk with hk; omega)
    · have b3 : ((R.ec : Int) == 0) = false := beq_eq_false_iff_ne.2 (by omega)
      have b4 : ((R.ec : Int) != 0) = true := by simp [bne, b3]
      obtain ⟨vl, vh, hg4, _⟩ := HRD.out
      have HG4 := Lib.hid hg4
      have d_w : W.cell? ⟨w.heap.size + 1, 0, none⟩ = some (.int .i64 R.wh) := by rw [cell_of_blk hg4 0]; rfl
      have p_f : W.frozen? ⟨w.heap.size, 0, none⟩ = false := frozen_blk HBK.out.2.2.2 0
      have p_g : W.frozen? ⟨w.heap.size, 1, none⟩ = false := frozen_blk HBK.out.2.2.2 1
      have p_0 : W.cell? ⟨w.heap.size, 0, none⟩ = some (.int .i64 0) := by rw [cell_of_blk HBK.out.2.2.2 0]; rfl
      have p_1 : W.cell? ⟨w.heap.size, 1, none⟩ = some (.int .i64 0) := by rw [cell_of_blk HBK.out.2.2.2 1]; rfl
      clear hg4
      gi_wp2
      refine wpIn_mono (Q := Exit.then ?KK2 (fun _ _ _ => False)) ?reg2 ?mono2
      case mono2 =>
        intro e a w5 hq
        cases e <;> first | exact hq | exact False.elim hq
      gi_region_with (refine ⟨trivial, ?_⟩; gi_at_call 27; refine (callsIn_wide.2 (text_Place s R.wh (by omega) _)).mono ?_; rintro e w4 ⟨hev, hb4⟩; (rw [show placeV s R.wh = .agg #[.int .i64 (placeL s R.wh), .int .i64 (placeC s R.wh)] from rfl] at hev); subst hev; (have hpb := (hb4.block w.heap.size (Array.getElem?_eq_some_iff.1 HBK.out.2.2.2).1).trans HBK.out.2.2.2); (have hrb := (hb4.block _ (Array.getElem?_eq_some_iff.1 HBK.out.1).1).trans HBK.out.1); (have hgb := (hb4.block _ (Array.getElem?_eq_some_iff.1 HG4.out).1).trans HG4.out); (have r_f := frozen_blk hpb 0); (have r_g := frozen_blk hpb 1); (have r_0 : w4.cell? ⟨w.heap.size, 0, none⟩ = some (.int .i64 0) := by rw [cell_of_blk hpb 0]; rfl); (have r_1 : w4.cell? ⟨w.heap.size, 1, none⟩ = some (.int .i64 0) := by rw [cell_of_blk hpb 1]; rfl); (have r_r : w4.cell? ⟨w.heap.size + 1 + 1, 0, none⟩ = some (.pointer (some ⟨w.heap.size + 1, 0, none⟩)) := by rw [cell_of_blk hrb 0]; rfl); (have r_e : w4.cell? ⟨w.heap.size + 1, 1, none⟩ = some (.int .i64 R.ec) := by rw [cell_of_blk hgb 1]; rfl))
      all_goals simp only [Exit.then]
      all_goals gi_wp2
      all_goals
        have hDs : w.heap.size + 8 ≤ w'.heap.size := by have := HSZ.out; omega
        have hD4 : ((w4.setCell ⟨w.heap.size, 0, none⟩ (.int .i64 (placeL s R.wh))).setCell ⟨w.heap.size, 1, none⟩ (.int .i64 (placeC s R.wh))).heap[w'.heap.size]? = some (.deferred (some [])) := (Below.heap_setCell _ _ _ _ (by show w'.heap.size ≠ w.heap.size; omega)).trans ((Below.heap_setCell _ _ _ _ (by show w'.heap.size ≠ w.heap.size; omega)).trans ((hb4.block _ (Array.getElem?_eq_some_iff.1 HK.out).1).trans HK.out))
        refine ⟨by simp, .inl ⟨_, _, rfl, run_takeDeferred hD4, ?_⟩⟩
        have q0 := blk_set' (blk_set' hpb 0 (.int .i64 (placeL s R.wh))) 1 (.int .i64 (placeC s R.wh))
        have q1 := (World.putObj_heap_other (w := (w4.setCell ⟨w.heap.size, 0, none⟩ (.int .i64 (placeL s R.wh))).setCell ⟨w.heap.size, 1, none⟩ (.int .i64 (placeC s R.wh))) (o := .deferred none) (r := w'.heap.size) (k := w.heap.size) (by omega)).trans q0
        have z0 := cell_of_blk q1 0
        have z1 := cell_of_blk q1 1
        simp at z0 z1
        have hfe : (S.finish s.data.toList) = R := by rw [HFIN.out, if_neg he]
        refine ⟨.tuple #[.slice none 0 0, .agg #[.int .i64 (placeL s R.wh), .int .i64 (placeC s R.wh)], .int .i64 R.ec], ?_, ?_⟩
        · simp [results, Tryz.f13, go_sem, z0, z1]
        · refine ⟨.slice none 0 0, R.ec, ?_, ?_, ?_, ?_⟩
          · rw [if_neg he, if_neg (by omega), hfe]; rfl
          · rw [if_neg (by omega), hfe]
          · rw [if_neg he]; exact World.ownsRow_nil _ _ _ _
          · exact (((HBW.out.trans ((below_dN (Below.refl _ _) 1).trans (hb4.mono HBW.out.size))).setCell (p := ⟨w.heap.size, 0, none⟩) (Nat.le_refl _) _).setCell (p := ⟨w.heap.size, 1, none⟩) (Nat.le_refl _) _).grown (grownBy_putObj' _ w'.heap.size _) (by rw [size_setCell, size_setCell]; exact Nat.le_trans HBW.out.size hb4.size) (fun k hk => by injection hk with hk; omega)
end Go.Proofs.YtpcmkjimdhlhiaaGreatDoor.G
-- part G28
namespace Go.Proofs.YtpcmkjimdhlhiaaGreatDoor.G
open Go.RowKit Go.Shelf
/-- dent.Locks, whole: what it answers is S.finish's word. -/
theorem dent_Locks (s : ByteArray) (w : World) (hs : s.size ≤ 10000000) (m : Int) (hm : w.cell? ⟨0, 0, none⟩ = some (.int .i64 m)) :
    Calls Tryz.prog 13 #[.string s] w (LocksOut s w) := by
  by_cases h : 8000 < s.size
  · refine (dent_Locks_long s w h hs).mono fun e w' ⟨he, hb⟩ => ?_
    refine ⟨.slice none 0 0, 2, ?_, ?_, ?_, hb⟩
    · rw [he, if_neg (by omega), if_pos h]; rfl
    · rw [if_pos h]
    · rw [if_neg (by omega)]; exact World.ownsRow_nil _ _ _ _
  · by_cases hb : S.badAt s.data.toList < 0
    · exact (callsIn_wide (n := 3)).1 (dent_Locks_neg s w (by omega) m hm hb)
    · exact (callsIn_wide (n := 3)).1 (dent_Locks_pos s w (by omega) m hm (by omega))
end Go.Proofs.YtpcmkjimdhlhiaaGreatDoor.G
