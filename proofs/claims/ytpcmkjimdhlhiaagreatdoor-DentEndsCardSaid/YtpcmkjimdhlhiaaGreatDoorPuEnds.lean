import Derived.Test.YtpcmkjimdhlhiaaGreatDoorPuWr2
import Derived.Test.YtpcmkjimdhlhiaaGreatDoorPuBase
import Derived.Test.YtpcmkjimdhlhiaaGreatDoorPx32
set_option linter.unusedVariables false
set_option linter.unusedSimpArgs false
namespace Go.Proofs.YtpcmkjimdhlhiaaGreatDoor.Pure
open Go.RowKit Go.Proofs.YtpcmkjimdhlhiaaGreatDoor.P Go.Proofs.YtpcmkjimdhlhiaaGreatDoorW.PrintWords
open S (Bs plainS plainB right rightW Lk quoteC quote Run fieldLine fieldLines FieldOk setAll lined value keyB may enc)
theorem emap_back (L : List SL) : (L.map toLk).map lkOf = L := by
  rw [List.map_map]
  conv => rhs; rw [← List.map_id L]
  exact List.map_congr_left (fun x _ => lkOf_toLk x)
/-- Whatever pieces the written lines come in: what they say. -/
theorem run_pieces (X : List SL) (n : Nat) (hn : n ≤ 40) (hok : AllOk n X) : ∀ i, i ≤ X.length → ∀ P : List Bs, P.map S.chomp = wlines (X.take i) → ∃ has, Run P [] [] false ((X.take i).map toLk) has true := by
  intro i
  induction i with
  | zero =>
    intro _ P hP
    have e : wlines (X.take 0) = [S.locksWord] := rfl
    rw [e] at hP
    cases P with
    | nil => simp at hP
    | cons p P =>
      cases P with
      | nil => exact ⟨_, Run.begins (by simpa using hP)⟩
      | cons q P => simp at hP
  | succ i ih =>
    intro hi P hP
    have hlt : i < X.length := hi
    rw [List.take_succ_eq_append_getElem hlt, wlines_snoc] at hP
    obtain ⟨P1, P2, rfl, h1, h2⟩ := List.map_eq_append_iff.1 hP
    obtain ⟨has, r⟩ := ih (by omega) P1 h1
    have hxo : LkOk (toLk (X[i]'hlt)) := hok.ok _ (List.getElem_mem hlt)
    obtain ⟨ia, ib⟩ := all5_all
    have hlen := hok.len
    have r2 := Run.lock P2 (ordL enc (toLk (X[i]'hlt)) all5) ((X.take i).map toLk) has h2 (ordL_ok enc S.value_enc _ hxo all5 (fun j hj => (ia j).1 hj)) (ib.sublist (ordL_sub enc _ all5)) (ordL_ne enc _ all5 0 ((ia 0).2 (by omega)) (root_ne _ hxo)) (check_ok n X hok i) (by rw [List.length_map, List.length_take]; omega)
    rw [setAll_all enc _ all5 ia] at r2
    refine ⟨(ordL enc (toLk (X[i]'hlt)) all5).map (·.1), ?_⟩
    rw [List.take_succ_eq_append_getElem hlt, List.map_append]
    exact r.app r2
theorem check_whole (n : Nat) (X : List SL) (hok : AllOk n X) : S.check (X.map toLk) = 0 := by
  have := check_ok n X hok X.length
  rwa [List.take_length] at this
theorem f_of_finish (y : ByteArray) (X : List SL) (has : List Nat) (hs : y.size ≤ 8000) (h : S.finish y.data.toList = ⟨0, 0, X.map toLk, has⟩) : dent_Locks.f y = some (X, 0, 0, 0) := by
  unfold dent_Locks.f
  rw [if_pos (by omega)]
  unfold dent_Locks.g
  rw [if_neg (by omega), h]
  unfold locksRes
  rw [if_pos rfl, emap_back]
/-- A written text without its last byte. -/
theorem cut_reads (X : List SL) (n : Nat) (hn : n ≤ 40) (hok : AllOk n X) (y : ByteArray) (hy : y.data.toList = lined (wlines X)) (hs : y.size ≤ 8000) : dent_Locks.f (y.extract 0 (y.size - 1)) = some (X, 0, 0, 0) := by
  have hne : wlines X ≠ [] := by simp [wlines]
  obtain ⟨L, l, hL⟩ : ∃ L l, wlines X = L ++ [l] := ⟨_, _, (List.dropLast_concat_getLast hne).symm⟩
  have hc := clean_wlines X n hok
  rw [hL] at hc
  have hcL : ∀ x ∈ L, clean x = true := fun x hx => hc x (by simp [hx])
  have hcl : clean l = true := hc l (by simp)
  have hd : (y.extract 0 (y.size - 1)).data.toList = lined L ++ l := by
    rw [ByteArray.data_extract, Array.toList_extract, List.extract_eq_take_drop, List.drop_zero, hy, hL, size_list, hy, hL]
    have e : lined (L ++ [l]) = (lined L ++ l) ++ [10] := by simp [S.lined]
    rw [e]
    have e2 : ((lined L ++ l) ++ [(10 : UInt8)]).length - 1 - 0 = (lined L ++ l).length := by rw [List.length_append]; simp
    rw [e2, List.take_left]
  obtain ⟨h1, h2⟩ := lined_plain2 L hcL
  obtain ⟨h3, h4⟩ := clean_plain l hcl
  obtain ⟨has, r⟩ := run_pieces X n hn hok X.length (Nat.le_refl _) (L.map (· ++ [10]) ++ [l]) (by
    rw [List.map_append, S.chomp_map, List.take_length, hL]
    simp [S.chomp_none l h4])
  rw [List.take_length] at r
  have hf := S.finish_run L l _ has true h2 h4 (by rw [plainS_app, h1, h3]; rfl) r (check_whole n X hok)
  rw [← hd] at hf
  refine f_of_finish _ X has ?_ hf
  have := ByteArray.size_extract (a := y) (b := 0) (e := y.size - 1)
  omega
/-- A written text with a remark behind it. -/
theorem more_reads (X : List SL) (n : Nat) (hn : n ≤ 40) (hok : AllOk n X) (y : ByteArray) (hy : y.data.toList = lined (wlines X)) (hs : y.size ≤ 7990) : dent_Locks.f (y ++ (⟨#[32, 32, 35, 32, 120]⟩ : ByteArray)) = some (X, 0, 0, 0) := by
  have hc := clean_wlines X n hok
  obtain ⟨h1, h2⟩ := lined_plain2 (wlines X) hc
  obtain ⟨has, r⟩ := run_wlines X n hn hok X.length (Nat.le_refl _)
  rw [List.take_length] at r
  have hf := S.finish_run (wlines X) [32, 32, 35, 32, 120] _ has true h2 (by decide) (by rw [plainS_app, h1]; rfl) (r.app (Run.skip (by decide) _ _ _)) (check_whole n X hok)
  have hd : (y ++ (⟨#[32, 32, 35, 32, 120]⟩ : ByteArray)).data.toList = lined (wlines X) ++ [32, 32, 35, 32, 120] := by rw [app_list, hy]
  rw [← hd] at hf
  refine f_of_finish _ X has ?_ hf
  rw [ByteArray.size_append, show (⟨#[32, 32, 35, 32, 120]⟩ : ByteArray).size = 5 from rfl]
  omega
def six : List ByteArray := [(⟨#[108, 111, 99, 107, 115, 58]⟩ : ByteArray), (⟨#[108, 111, 99, 107, 115, 58, 10]⟩ : ByteArray), (⟨#[35, 32, 120]⟩ : ByteArray), (⟨#[32, 32, 32]⟩ : ByteArray), (⟨#[10, 10]⟩ : ByteArray), (⟨#[32, 35, 32, 120, 10, 108, 111, 99, 107, 115, 58, 10, 35]⟩ : ByteArray)]
theorem six_fin : ∀ i : Fin 6, (S.finish (six.getD i.val ByteArray.empty).data.toList).ec = 0 ∧ (S.finish (six.getD i.val ByteArray.empty).data.toList).l = [] ∧ (six.getD i.val ByteArray.empty).size ≤ 8000 := by decide +kernel
theorem six_at (t : Nat) (h : t < 6) : dent_Locks.f (rdOf ByteArray.empty six (t : Int)) = some ([], 0, 0, 0) := by
  obtain ⟨h1, h2, h30⟩ := six_fin ⟨t, h⟩
  have h3 : (six.getD t ByteArray.empty).size ≤ 8000 := h30
  clear h30
  have e : rdOf ByteArray.empty six (t : Int) = six.getD t ByteArray.empty := by unfold rdOf; rw [Int.toNat_natCast]
  rw [e]
  unfold dent_Locks.f
  rw [if_pos (by omega)]
  unfold dent_Locks.g
  rw [if_neg (by omega)]
  unfold locksRes
  rw [if_pos h1, h2]
  rfl
theorem ends_j (a2 : Int) (t : Nat) (ht : transhumancelaw7_within.f a2 6 = some (t : Int)) (htl : t < 6) (X : List SL) (n : Nat) (hn : n ≤ 40) (hok : AllOk n X) (y : ByteArray) (hy : y.data.toList = lined (wlines X)) (hs : y.size ≤ 7000) (h0 : 1 ≤ y.size) : Ev (fun k => transhumancelaw7_DentEnds.j0 k a2 X y false) (fun r => r = true) := by
  have hw : wrap64 ((y.size : Int) - 1) = ((y.size - 1 : Nat) : Int) := by unfold wrap64; omega
  have g1 := cut_reads X n hn hok y hy (by omega)
  have g2 := more_reads X n hn hok y hy (by omega)
  have g3 := six_at t htl
  have hl := hok.len
  have b6 : (t : Int) < (six.length : Int) := by show (t : Int) < 6; omega
  refine Ev.succ (g := fun k => (transhumanceref5_Rows.f k X X).bind fun t435 => (if t435 = true then ((transhumanceref5_Rows.f k X X).bind fun t436 => (if t436 = true then (some true) else (some false))) else (some false))) ?_ (fun k => ?_)
  · refine Ev.bind (rows_ev X (by omega)) (fun r hr => ?_)
    subst hr
    simp only [if_true]
    refine Ev.bind (rows_ev X (by omega)) (fun r hr => ?_)
    subst hr
    simp only [if_true]
    exact Ev.pure rfl
  · rw [transhumancelaw7_DentEnds.j0, if_neg (by simp), hw, if_pos (by omega), if_pos (by omega), Int.toNat_natCast, g1, Option.bind_some, if_pos (by omega), g2, Option.bind_some]
    show (transhumancelaw7_within.f a2 6).bind (fun t426 => (if 0 ≤ t426 then (if t426 < (six.length : Int) then ((dent_Locks.f (rdOf ByteArray.empty six t426)).bind fun bt428 => _) else none) else none)) = _
    rw [ht, Option.bind_some, if_pos (by omega), if_pos b6, g3]
    rfl
theorem DentEnds : transhumancelaw7_DentEnds.Pure := by
  intro l0 l1 a2 h1 h2 h3 h4 h5 h6 h7
  obtain ⟨t, ht, h0, hlt⟩ := within_some a2 6 (by omega) (by omega)
  obtain ⟨t, rfl⟩ := Int.eq_ofNat_of_zero_le h0
  refine Ev.at (Ev.eq (g := fun k => if (l1.length : Int) > 60 then (some true) else ((transhumancelaw5_Locks.f k l0 l1 ((8 : Nat) : Int)).bind fun t405 => ((transhumanceref7_Write.f k t405).bind fun t408 => (if (t408.size : Int) = 0 then (transhumancelaw7_DentEnds.j0 k a2 t405 t408 true) else (transhumancelaw7_DentEnds.j0 k a2 t405 t408 (decide ((t408.size : Int) > 7000))))))) ?_ (fun k => ?_))
  · by_cases c : (l1.length : Int) > 60
    · simp only [if_pos c]
      exact Ev.pure rfl
    · simp only [if_neg c]
      refine Ev.bind (locks_ev l0 l1 8 (by omega) (by omega) (by omega)) (fun X hX => ?_)
      have stop : ∀ y, Ev (fun k => transhumancelaw7_DentEnds.j0 k a2 X y true) (fun r => r = true) := fun y => Ev.succ (g := fun _ => some true) (Ev.pure rfl) (fun k => by rw [transhumancelaw7_DentEnds.j0, if_pos rfl])
      by_cases hz : X = []
      · subst hz
        refine Ev.bind (P := fun r => r = (⟨#[]⟩ : ByteArray)) (Ev.of rfl 0 (fun k _ => by unfold transhumanceref7_Write.f; simp)) (fun r hr => ?_)
        subst hr
        exact (stop _).eq (fun k => if_pos rfl)
      · refine Ev.bind (write_ev X 8 (by omega) hX hz) (fun y hy => ?_)
        obtain ⟨hy1, hy2⟩ := hy
        by_cases h0 : (y.size : Int) = 0
        · exact (stop _).eq (fun k => if_pos h0)
        · simp only [if_neg h0]
          by_cases h7 : (y.size : Int) > 7000
          · rw [decide_eq_true h7]; exact stop _
          · rw [decide_eq_false h7]
            exact ends_j a2 t ht (by omega) X 8 (by omega) hX y hy1 (by omega) (by omega)
  · unfold transhumancelaw7_DentEnds.f
    rw [known_ok, Option.bind_some, if_pos rfl]
    rfl
end Go.Proofs.YtpcmkjimdhlhiaaGreatDoor.Pure
