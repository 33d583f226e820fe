import Derived.Test.YtpcmkjimdhlhiaaGreatDoorPuWrite
set_option linter.unusedVariables false
set_option linter.unusedSimpArgs false
namespace Go.Proofs.YtpcmkjimdhlhiaaGreatDoor.Pure
open Go.RowKit Go.Proofs.YtpcmkjimdhlhiaaGreatDoor.P Go.Proofs.YtpcmkjimdhlhiaaGreatDoorW.PrintWords
open S (Bs plainS plainB right rightW Lk quoteC quote Run fieldLine fieldLines FieldOk setAll lined value keyB may enc)
/-! The reference's Write, as lines. -/
def wfl (x : SL) : List ByteArray := [x.f0, x.f1, x.f2, x.f3, x.f4]
def wnm : List ByteArray := [(⟨#[114, 111, 111, 116]⟩ : ByteArray), (⟨#[118, 101, 114, 115, 105, 111, 110]⟩ : ByteArray), (⟨#[114, 101, 118, 105, 115, 105, 111, 110]⟩ : ByteArray), (⟨#[119, 105, 116, 104, 105, 110]⟩ : ByteArray), (⟨#[115, 111, 117, 114, 99, 101]⟩ : ByteArray)]
def wmk (first : Bool) : ByteArray := if first then (⟨#[45, 32]⟩ : ByteArray) else (⟨#[32, 32]⟩ : ByteArray)
theorem wfl_at (x : SL) (j : Nat) (hj : j < 5) : (rdOf ByteArray.empty (wfl x) (j : Int)).data.toList = fld (toLk x) j := by
  rcases five j hj with rfl | rfl | rfl | rfl | rfl <;> rfl
theorem wnm_at (j : Nat) (hj : j < 5) : (rdOf ByteArray.empty wnm (j : Int)).data.toList = keyB j ∧ (rdOf ByteArray.empty wnm (j : Int)).size ≤ 8 := by
  rcases five j hj with rfl | rfl | rfl | rfl | rfl <;> exact ⟨rfl, by decide⟩
theorem wquote_len (l : Bs) : (quote l).length ≤ 2 + 2 * l.length := by
  have h : (l.flatMap quoteC).length ≤ 2 * l.length := by
    induction l with
    | nil => exact Nat.le_refl _
    | cons c l ih =>
      have : (quoteC c).length ≤ 2 := by unfold S.quoteC; (repeat' split) <;> simp
      rw [List.flatMap_cons, List.length_append, List.length_cons]
      omega
  simp only [S.quote, List.length_cons, List.length_append, List.length_nil]
  omega
theorem enc_len (l : Bs) (h : l.length ≤ 70) : (enc l).length ≤ 142 := by
  unfold S.enc
  split
  · omega
  · exact Nat.le_trans (wquote_len l) (by omega)
theorem w20 (y m n r : Nat) (hy : y ≤ 1000000) (hm : m = 2) (hn : n ≤ 8) (hr : r ≤ 142) : y + m ≤ 9223372036854775807 ∧ y + m + n ≤ 9223372036854775807 ∧ y + m + n + 2 ≤ 9223372036854775807 ∧ y + m + n + 2 + r ≤ 9223372036854775807 ∧ y + m + n + 2 + r + 1 ≤ 9223372036854775807 ∧ y + m + n + 2 + r + 1 ≤ y + 200 := by omega
theorem w21 (a b i : Nat) (h : a ≤ b + 1000) (h2 : b ≤ 7 + 1000 * i) : a ≤ 7 + 1000 * (i + 1) := by
  rw [Nat.mul_add, Nat.mul_one, ← Nat.add_assoc]
  exact Nat.le_trans h (Nat.add_le_add_right h2 1000)
theorem wlined_snoc (L : List Bs) (l : Bs) : lined (L ++ [l]) = lined L ++ (l ++ [10]) := by simp [S.lined]
theorem wmk_size (b : Bool) : (wmk b).size = 2 := by cases b <;> rfl
theorem wmk_list (b : Bool) : (wmk b).data.toList = if b then [45, 32] else [32, 32] := by cases b <;> rfl
def all5 : List Nat := [0, 1, 2, 3, 4]
theorem all5_drop (k : Nat) (h : k < 5) : all5.drop k = k :: all5.drop (k + 1) := by
  rcases five k h with rfl | rfl | rfl | rfl | rfl <;> rfl
theorem all5_all : (∀ j, j ∈ all5 ↔ j < 5) ∧ all5.Nodup := ⟨fun j => by simp [all5]; omega, by decide⟩
theorem write_l1 (x0 : List SL) (i : Nat) (hi : i ≤ 1000) (x : SL) (hx : LkOk (toLk x)) (P : ByteArray → Prop) (d : Nat) :
    ∀ (k : Nat) (y : ByteArray) (first : Bool) (L : List Bs), k ≤ 5 → 5 - k = d → y.data.toList = lined L → y.size + 200 * d ≤ 1000000 →
    (∀ y' : ByteArray, y'.data.toList = lined (L ++ fieldLines first (ordL enc (toLk x) (all5.drop k))) → y'.size ≤ y.size + 200 * d → Ev (fun k => transhumanceref7_Write.l0 k x0 y' (wrap64 ((i : Int) + 1))) P) →
    Ev (fun kk => transhumanceref7_Write.l1 kk x0 y (i : Int) (wfl x) wnm (wmk first) (k : Int)) P := by
  induction d with
  | zero =>
    intro k y first L hk hd hy hs hP
    obtain rfl : k = 5 := by omega
    exact Ev.succ (hP y (by simpa [all5, ordL, S.fieldLines] using hy) (by omega)) (fun k => by rw [transhumanceref7_Write.l1, if_neg (by omega)])
  | succ d ih =>
    intro k y first L hk hd hy hs hP
    have hk5 : k < 5 := by omega
    have hw : wrap64 ((k : Int) + 1) = ((k + 1 : Nat) : Int) := by unfold wrap64; omega
    rw [all5_drop k hk5] at hP
    have hf := wfl_at x k hk5
    obtain ⟨hn1, hn2⟩ := wnm_at k hk5
    obtain ⟨fp, fs⟩ := fld_plain (toLk x) hx k hk5
    have b1 : (k : Int) < ((wfl x).length : Int) := by show (k : Int) < 5; omega
    have b2 : (k : Int) < (wnm.length : Int) := by show (k : Int) < 5; omega
    have tl : (rdOf ByteArray.empty (wfl x) (k : Int)).toList = fld (toLk x) k := by rw [ByteArray.toList_eq, hf]
    by_cases he : fld (toLk x) k = []
    · rw [ordL, if_pos he] at hP
      refine Ev.succ (ih (k + 1) y first L (by omega) (by omega) hy (by omega) (fun y' h1 h2 => hP y' h1 (by omega))) (fun kk => ?_)
      rw [transhumanceref7_Write.l1, if_pos (by omega), if_pos (by omega), if_pos b1, if_pos (by rw [tl, he]), hw]
    · rw [ordL, if_neg he] at hP
      have hvs : (rdOf ByteArray.empty (wfl x) (k : Int)).size ≤ 70 := by rw [size_list, hf]; exact fs
      have hm := wmk_size first
      have next : ∀ (v : ByteArray), v.data.toList = enc (fld (toLk x) k) → Ev (fun kk => transhumanceref7_Write.l1 kk x0 (((((y ++ (wmk first)) ++ (rdOf ByteArray.empty wnm (k : Int))) ++ (⟨#[58, 32]⟩ : ByteArray)) ++ v) ++ (⟨#[10]⟩ : ByteArray)) (i : Int) (wfl x) wnm (wmk false) ((k + 1 : Nat) : Int)) P := fun v hv => by
        have hrs : v.size ≤ 142 := by rw [size_list, hv]; exact enc_len _ fs
        obtain ⟨z1, z2, z3, z4, z5, z6⟩ := w20 y.size (wmk first).size (rdOf ByteArray.empty wnm (k : Int)).size v.size (by omega) hm hn2 hrs
        have hsz : (((((y ++ (wmk first)) ++ (rdOf ByteArray.empty wnm (k : Int))) ++ (⟨#[58, 32]⟩ : ByteArray)) ++ v) ++ (⟨#[10]⟩ : ByteArray)).size ≤ y.size + 200 := by
          rw [ByteArray.size_append, ByteArray.size_append, ByteArray.size_append, ByteArray.size_append, ByteArray.size_append, show (⟨#[58, 32]⟩ : ByteArray).size = 2 from rfl, show (⟨#[10]⟩ : ByteArray).size = 1 from rfl]
          exact z6
        refine ih (k + 1) _ false (L ++ [fieldLine first k (enc (fld (toLk x) k))]) (by omega) (by omega) ?_ (by omega) (fun y' h1 h2 => hP y' ?_ (by omega))
        · rw [wlined_snoc, ← hy]
          simp only [app_list, hv, hn1, wmk_list, S.fieldLine, List.append_assoc, List.cons_append, List.nil_append]
        · rw [h1]
          simp only [S.fieldLines, List.append_assoc, List.singleton_append]
      have zz := fun (v : ByteArray) (h : v.size ≤ 142) => w20 y.size (wmk first).size (rdOf ByteArray.empty wnm (k : Int)).size v.size (by omega) hm hn2 h
      refine Ev.succ (g := fun kk => (transhumanceref7_plain.f kk (rdOf ByteArray.empty (wfl x) (k : Int))).bind fun t202 => (if t202 = true then (if y.size + (wmk first).size ≤ 9223372036854775807 then (if (k : Int) < (wnm.length : Int) then (if y.size + (wmk first).size + (rdOf ByteArray.empty wnm (k : Int)).size ≤ 9223372036854775807 then (if y.size + (wmk first).size + (rdOf ByteArray.empty wnm (k : Int)).size + 2 ≤ 9223372036854775807 then (if y.size + (wmk first).size + (rdOf ByteArray.empty wnm (k : Int)).size + 2 + (rdOf ByteArray.empty (wfl x) (k : Int)).size ≤ 9223372036854775807 then (if y.size + (wmk first).size + (rdOf ByteArray.empty wnm (k : Int)).size + 2 + (rdOf ByteArray.empty (wfl x) (k : Int)).size + 1 ≤ 9223372036854775807 then (transhumanceref7_Write.l1 kk x0 (((((y ++ (wmk first)) ++ (rdOf ByteArray.empty wnm (k : Int))) ++ (⟨#[58, 32]⟩ : ByteArray)) ++ (rdOf ByteArray.empty (wfl x) (k : Int))) ++ (⟨#[10]⟩ : ByteArray)) (i : Int) (wfl x) wnm (wmk false) ((k + 1 : Nat) : Int)) else (none)) else (none)) else (none)) else (none)) else (none)) else (none)) else ((transhumanceref1_Quote.f kk (rdOf ByteArray.empty (wfl x) (k : Int))).bind fun t204 => (if y.size + (wmk first).size ≤ 9223372036854775807 then (if (k : Int) < (wnm.length : Int) then (if y.size + (wmk first).size + (rdOf ByteArray.empty wnm (k : Int)).size ≤ 9223372036854775807 then (if y.size + (wmk first).size + (rdOf ByteArray.empty wnm (k : Int)).size + 2 ≤ 9223372036854775807 then (if y.size + (wmk first).size + (rdOf ByteArray.empty wnm (k : Int)).size + 2 + t204.size ≤ 9223372036854775807 then (if y.size + (wmk first).size + (rdOf ByteArray.empty wnm (k : Int)).size + 2 + t204.size + 1 ≤ 9223372036854775807 then (transhumanceref7_Write.l1 kk x0 (((((y ++ (wmk first)) ++ (rdOf ByteArray.empty wnm (k : Int))) ++ (⟨#[58, 32]⟩ : ByteArray)) ++ t204) ++ (⟨#[10]⟩ : ByteArray)) (i : Int) (wfl x) wnm (wmk false) ((k + 1 : Nat) : Int)) else (none)) else (none)) else (none)) else (none)) else (none)) else (none))))) ?_ (fun kk => ?_)
      · refine Ev.bind (plain7_ev _ (by omega) (by rw [hf]; exact fp)) (fun r hr => ?_)
        rw [hf] at hr
        cases r with
        | true =>
          have hv : (rdOf ByteArray.empty (wfl x) (k : Int)).data.toList = enc (fld (toLk x) k) := by rw [hf]; unfold S.enc; rw [if_pos hr.symm]
          obtain ⟨z1, z2, z3, z4, z5, _⟩ := zz (rdOf ByteArray.empty (wfl x) (k : Int)) (by omega)
          simp only [if_true, if_pos z1, if_pos b2, if_pos z2, if_pos z3, if_pos z4, if_pos z5]
          exact next _ hv
        | false =>
          simp only [Bool.false_eq_true, if_false]
          refine Ev.bind (quote_ev _ (by omega)) (fun q hq => ?_)
          rw [hf] at hq
          have hv : q.data.toList = enc (fld (toLk x) k) := by rw [hq]; unfold S.enc; rw [if_neg (by rw [← hr]; simp)]
          obtain ⟨z1, z2, z3, z4, z5, _⟩ := zz q (by rw [size_list, hv]; exact enc_len _ fs)
          simp only [if_pos z1, if_pos b2, if_pos z2, if_pos z3, if_pos z4, if_pos z5]
          exact next _ hv
      · rw [transhumanceref7_Write.l1, if_pos (by omega), if_pos (by omega), if_pos b1, if_neg (by rw [tl]; exact he), hw]
        rfl
/-- The lines of written locks. -/
def wlines (X : List SL) : List Bs := S.locksWord :: X.flatMap (fun x => fieldLines true (ordL enc (toLk x) all5))
theorem wlines_snoc (X : List SL) (x : SL) : wlines (X ++ [x]) = wlines X ++ fieldLines true (ordL enc (toLk x) all5) := by simp [wlines]
def WOk (X : List SL) (r : ByteArray) : Prop := r.data.toList = lined (wlines X) ∧ r.size ≤ 7 + 1000 * X.length
theorem write_l0 (X : List SL) (n : Nat) (hn : n ≤ 40) (hok : AllOk n X) (d : Nat) : ∀ (i : Nat) (y : ByteArray), i ≤ X.length → X.length - i = d → y.data.toList = lined (wlines (X.take i)) → y.size ≤ 7 + 1000 * i → Ev (fun k => transhumanceref7_Write.l0 k X y (i : Int)) (WOk X) := by
  have hlen := hok.len
  induction d with
  | zero =>
    intro i y hi hd hy hs
    obtain rfl : i = X.length := by omega
    rw [List.take_length] at hy
    exact Ev.succ (g := fun _ => some y) (Ev.pure ⟨hy, hs⟩) (fun k => by rw [transhumanceref7_Write.l0, if_neg (by omega)])
  | succ d ih =>
    intro i y hi hd hy hs
    have hlt : i < X.length := by omega
    have hg : rd_T43 X (i : Int) = X[i]'hlt := by
      unfold rd_T43
      rw [Int.toNat_natCast, List.getD_eq_getElem?_getD, List.getElem?_eq_getElem hlt]
      rfl
    have hxo : LkOk (toLk (X[i]'hlt)) := hok.ok _ (List.getElem_mem hlt)
    have htk : X.take (i + 1) = X.take i ++ [X[i]'hlt] := List.take_succ_eq_append_getElem hlt
    have hw : wrap64 ((i : Int) + 1) = ((i + 1 : Nat) : Int) := by unfold wrap64; omega
    refine Ev.succ (write_l1 X i (by omega) (X[i]'hlt) hxo (WOk X) 5 0 y true (wlines (X.take i)) (by omega) (by omega) hy (by omega) (fun y' h1 h2 => ?_)) (fun k => ?_)
    · rw [hw]
      exact ih (i + 1) y' (by omega) (by omega) (by rw [h1, htk, wlines_snoc, List.drop_zero]) (w21 _ y.size i h2 hs)
    · rw [transhumanceref7_Write.l0, if_pos (by omega), if_pos (by omega), hg]
      rfl
theorem write_ev (X : List SL) (n : Nat) (hn : n ≤ 40) (hok : AllOk n X) (hne : X ≠ []) : Ev (fun k => transhumanceref7_Write.f k X) (WOk X) := by
  have hl : ¬ (X.length : Int) = 0 := by
    intro h
    exact hne (List.eq_nil_of_length_eq_zero (by omega))
  refine (write_l0 X n hn hok X.length 0 (⟨#[108, 111, 99, 107, 115, 58, 10]⟩ : ByteArray) (Nat.zero_le _) (by omega) rfl (Nat.le_refl 7)).eq (fun k => ?_)
  unfold transhumanceref7_Write.f
  rw [if_neg hl]
  rfl
/-- What the written lines say. -/
theorem run_wlines (X : List SL) (n : Nat) (hn : n ≤ 40) (hok : AllOk n X) : ∀ i, i ≤ X.length → ∃ has, Run ((wlines (X.take i)).map (· ++ [10])) [] [] false ((X.take i).map toLk) has true := by
  intro i
  induction i with
  | zero => intro _; exact ⟨_, Run.begins (S.chomp_end _)⟩
  | succ i ih =>
    intro hi
    have hlt : i < X.length := hi
    obtain ⟨has, r⟩ := ih (by omega)
    have hxo : LkOk (toLk (X[i]'hlt)) := hok.ok _ (List.getElem_mem hlt)
    obtain ⟨ia, ib⟩ := all5_all
    have hlen := hok.len
    obtain ⟨has', r2⟩ := run_lock enc S.value_enc (toLk (X[i]'hlt)) hxo all5 ia ib ((X.take i).map toLk) has (check_ok n X hok i) (by rw [List.length_map, List.length_take]; omega)
    refine ⟨has', ?_⟩
    rw [List.take_succ_eq_append_getElem hlt, wlines_snoc, List.map_append, List.map_append]
    exact r.app r2
theorem clean_enc (v : Bs) (h : plainS v = true) : clean (enc v) = true := by
  unfold S.enc
  split
  · rename_i hm
    have h10 : ∀ c ∈ v, c ≠ 10 := by
      have hx := indexByte_iff v
      unfold S.may at hm
      simp only [Bool.and_eq_true, Bool.not_eq_true', decide_eq_false_iff_not] at hm
      have := hm.2
      rw [hx] at this
      exact Classical.not_not.1 this
    unfold clean
    rw [List.all_eq_true]
    intro c hc
    rw [Bool.and_eq_true]
    exact ⟨List.all_eq_true.1 (show v.all plainB = true from h) c hc, by simpa using h10 c hc⟩
  · exact clean_quote v h
theorem clean_wlines (X : List SL) (n : Nat) (hok : AllOk n X) : ∀ l ∈ wlines X, clean l = true := by
  intro l hl
  simp only [wlines, List.mem_cons, List.mem_flatMap] at hl
  rcases hl with rfl | ⟨x, hx, h⟩
  · decide
  · exact clean_lock enc clean_enc (toLk x) (hok.ok x hx) all5 (fun j hj => (all5_all.1 j).1 hj) true l h
end Go.Proofs.YtpcmkjimdhlhiaaGreatDoor.Pure
