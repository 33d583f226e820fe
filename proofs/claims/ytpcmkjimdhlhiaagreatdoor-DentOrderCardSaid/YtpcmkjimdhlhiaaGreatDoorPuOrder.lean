import Derived.Test.YtpcmkjimdhlhiaaGreatDoorPuLines
import Derived.Test.YtpcmkjimdhlhiaaGreatDoorPuBase
import Derived.Test.YtpcmkjimdhlhiaaGreatDoorPx31
set_option linter.unusedVariables false
set_option linter.unusedSimpArgs false
namespace Go.Proofs.YtpcmkjimdhlhiaaGreatDoor.Pure
open Go.RowKit Go.Proofs.YtpcmkjimdhlhiaaGreatDoor.P Go.Proofs.YtpcmkjimdhlhiaaGreatDoorW.PrintWords
open S (Bs plainS plainB right rightW Lk quoteC quote Run fieldLine fieldLines FieldOk setAll lined value keyB)
def fl (x : SL) : List ByteArray := [x.f0, x.f1, x.f2, x.f3, x.f4]
def nm : List ByteArray := [(⟨#[114, 111, 111, 116]⟩ : ByteArray), (⟨#[118, 101, 114, 115, 105, 111, 110]⟩ : ByteArray), (⟨#[114, 101, 118, 105, 115, 105, 111, 110]⟩ : ByteArray), (⟨#[119, 105, 116, 104, 105, 110]⟩ : ByteArray), (⟨#[115, 111, 117, 114, 99, 101]⟩ : ByteArray)]
def mk (first : Bool) : ByteArray := if first then (⟨#[45, 32]⟩ : ByteArray) else (⟨#[32, 32]⟩ : ByteArray)
theorem fl_at (x : SL) (j : Nat) (hj : j < 5) : (rdOf ByteArray.empty (fl x) (j : Int)).data.toList = fld (toLk x) j := by
  rcases five j hj with rfl | rfl | rfl | rfl | rfl <;> rfl
theorem nm_at (j : Nat) (hj : j < 5) : (rdOf ByteArray.empty nm (j : Int)).data.toList = keyB j ∧ (rdOf ByteArray.empty nm (j : Int)).size ≤ 8 := by
  rcases five j hj with rfl | rfl | rfl | rfl | rfl <;> exact ⟨rfl, by decide⟩
theorem quote_len (l : Bs) : (quote l).length ≤ 2 + 2 * l.length := by
  have h : (l.flatMap quoteC).length ≤ 2 * l.length := by
    induction l with
    | nil => exact Nat.le_refl _
    | cons c l ih =>
      have : (quoteC c).length ≤ 2 := by unfold S.quoteC; (repeat' split) <;> simp
      rw [List.flatMap_cons, List.length_append, List.length_cons]
      omega
  simp only [S.quote, List.length_cons, List.length_append, List.length_nil]
  omega
def idx (c : Nat) : List Nat := [(0 + c) % 5, (1 + c) % 5, (2 + c) % 5, (3 + c) % 5, (4 + c) % 5]
theorem idx_drop (c k : Nat) (h : k < 5) : (idx c).drop k = ((k + c) % 5) :: (idx c).drop (k + 1) := by
  rcases five k h with rfl | rfl | rfl | rfl | rfl <;> rfl
theorem idx_all (c : Nat) : (∀ j, j ∈ idx c ↔ j < 5) ∧ (idx c).Nodup := by
  have e : idx c = idx (c % 5) := by
    unfold idx
    have h : ∀ k, (k + c) % 5 = (k + c % 5) % 5 := fun k => by omega
    rw [h 0, h 1, h 2, h 3, h 4]
  rw [e]
  have h5 : c % 5 < 5 := Nat.mod_lt _ (by omega)
  generalize c % 5 = r at h5
  refine ⟨fun j => ?_, ?_⟩
  · rcases five r h5 with rfl | rfl | rfl | rfl | rfl <;> simp [idx] <;> omega
  · rcases five r h5 with rfl | rfl | rfl | rfl | rfl <;> decide
theorem oj (k i t : Nat) (h1 : k ≤ 5) (h2 : i ≤ 1000) (h3 : t < 5) : Int.tmod (wrap64 ((wrap64 ((k : Int) + (i : Int))) + (t : Int))) 5 = (((k + (i + t)) % 5 : Nat) : Int) := by
  have e1 : wrap64 ((k : Int) + (i : Int)) = ((k + i : Nat) : Int) := by unfold wrap64; omega
  have e2 : wrap64 (((k + i : Nat) : Int) + (t : Int)) = ((k + (i + t) : Nat) : Int) := by unfold wrap64; omega
  rw [e1, e2, Int.tmod_eq_emod_of_nonneg (by omega)]
  omega
theorem o20 (y m n r : Nat) (hy : y ≤ 1000000) (hm : m = 2) (hn : n ≤ 8) (hr : r ≤ 142) : y + m ≤ 9223372036854775807 ∧ y + m + n ≤ 9223372036854775807 ∧ y + m + n + 2 ≤ 9223372036854775807 ∧ y + m + n + 2 + r ≤ 9223372036854775807 ∧ y + m + n + 2 + r + 1 ≤ 9223372036854775807 ∧ y + m + n + 2 + r + 1 ≤ y + 200 := by omega
theorem lined_snoc (L : List Bs) (l : Bs) : lined (L ++ [l]) = lined L ++ (l ++ [10]) := by simp [S.lined]
theorem mk_size (b : Bool) : (mk b).size = 2 := by cases b <;> rfl
theorem mk_list (b : Bool) : (mk b).data.toList = if b then [45, 32] else [32, 32] := by cases b <;> rfl
theorem order_l1 (x2 : Int) (t : Nat) (ht : transhumancelaw7_within.f x2 5 = some (t : Int)) (htl : t < 5) (x7 : List SL) (i : Nat) (hi : i ≤ 1000) (x : SL) (hx : LkOk (toLk x)) (P : Bool → Prop) (d : Nat) :
    ∀ (k : Nat) (y : ByteArray) (first : Bool) (L : List Bs), k ≤ 5 → 5 - k = d → y.data.toList = lined L → y.size + 200 * d ≤ 1000000 →
    (∀ y' : ByteArray, y'.data.toList = lined (L ++ fieldLines first (ordL quote (toLk x) ((idx (i + t)).drop k))) → y'.size ≤ y.size + 200 * d → Ev (fun k => transhumancelaw7_DentOrder.l0 k x2 x7 y' (wrap64 ((i : Int) + 1))) P) →
    Ev (fun kk => transhumancelaw7_DentOrder.l1 kk x2 x7 y (i : Int) (fl x) nm (mk first) (k : Int)) P := by
  induction d with
  | zero =>
    intro k y first L hk hd hy hs hP
    obtain rfl : k = 5 := by omega
    exact Ev.succ (hP y (by simpa [idx, ordL, S.fieldLines] using hy) (by omega)) (fun k => by rw [transhumancelaw7_DentOrder.l1, if_neg (by omega)])
  | succ d ih =>
    intro k y first L hk hd hy hs hP
    have hk5 : k < 5 := by omega
    have hw : wrap64 ((k : Int) + 1) = ((k + 1 : Nat) : Int) := by unfold wrap64; omega
    have hj := oj k i t hk hi htl
    have hjl : (k + (i + t)) % 5 < 5 := Nat.mod_lt _ (by omega)
    rw [idx_drop (i + t) k hk5] at hP
    generalize (k + (i + t)) % 5 = j at hj hjl hP
    have hf := fl_at x j hjl
    obtain ⟨hn1, hn2⟩ := nm_at j hjl
    obtain ⟨fp, fs⟩ := fld_plain (toLk x) hx j hjl
    have b1 : (j : Int) < ((fl x).length : Int) := by show (j : Int) < 5; omega
    have b2 : (j : Int) < (nm.length : Int) := by show (j : Int) < 5; omega
    have tl : (rdOf ByteArray.empty (fl x) (j : Int)).toList = fld (toLk x) j := by rw [ByteArray.toList_eq, hf]
    by_cases he : fld (toLk x) j = []
    · rw [ordL, if_pos he] at hP
      refine Ev.succ (ih (k + 1) y first L (by omega) (by omega) hy (by omega) (fun y' h1 h2 => hP y' h1 (by omega))) (fun kk => ?_)
      rw [transhumancelaw7_DentOrder.l1, if_pos (by omega), ht, Option.bind_some, hj, if_pos (by omega), if_pos b1, if_pos (by rw [tl, he]), hw]
    · rw [ordL, if_neg he] at hP
      have hvs : (rdOf ByteArray.empty (fl x) (j : Int)).size ≤ 70 := by rw [size_list, hf]; exact fs
      have hm := mk_size first
      refine Ev.succ (g := fun kk => (transhumanceref1_Quote.f kk (rdOf ByteArray.empty (fl x) (j : Int))).bind fun t403 => (if y.size + (mk first).size + (rdOf ByteArray.empty nm (j : Int)).size + 2 + t403.size ≤ 9223372036854775807 then (if y.size + (mk first).size + (rdOf ByteArray.empty nm (j : Int)).size + 2 + t403.size + 1 ≤ 9223372036854775807 then (transhumancelaw7_DentOrder.l1 kk x2 x7 (((((y ++ (mk first)) ++ (rdOf ByteArray.empty nm (j : Int))) ++ (⟨#[58, 32]⟩ : ByteArray)) ++ t403) ++ (⟨#[10]⟩ : ByteArray)) (i : Int) (fl x) nm (mk false) ((k + 1 : Nat) : Int)) else (none)) else (none))) ?_ (fun kk => ?_)
      · refine Ev.bind (quote_ev _ (by omega)) (fun r hr => ?_)
        rw [hf] at hr
        have hrs : r.size ≤ 142 := by rw [size_list, hr]; exact Nat.le_trans (quote_len _) (by omega)
        obtain ⟨z1, z2, z3, z4, z5, z6⟩ := o20 y.size (mk first).size (rdOf ByteArray.empty nm (j : Int)).size r.size (by omega) hm hn2 hrs
        simp only [if_pos z4, if_pos z5]
        have hsz : (((((y ++ (mk first)) ++ (rdOf ByteArray.empty nm (j : Int))) ++ (⟨#[58, 32]⟩ : ByteArray)) ++ r) ++ (⟨#[10]⟩ : ByteArray)).size ≤ y.size + 200 := by
          rw [ByteArray.size_append, ByteArray.size_append, ByteArray.size_append, ByteArray.size_append, ByteArray.size_append, show (⟨#[58, 32]⟩ : ByteArray).size = 2 from rfl, show (⟨#[10]⟩ : ByteArray).size = 1 from rfl]
          exact z6
        refine ih (k + 1) _ false (L ++ [fieldLine first j (quote (fld (toLk x) j))]) (by omega) (by omega) ?_ (by omega) (fun y' h1 h2 => hP y' ?_ (by omega))
        · rw [lined_snoc, ← hy]
          simp only [app_list, hr, hn1, mk_list, S.fieldLine, List.append_assoc, List.cons_append, List.nil_append]
        · rw [h1]
          simp only [S.fieldLines, List.append_assoc, List.singleton_append]
      · obtain ⟨z1, z2, z3, _⟩ := o20 y.size (mk first).size (rdOf ByteArray.empty nm (j : Int)).size 0 (by omega) hm hn2 (by omega)
        rw [transhumancelaw7_DentOrder.l1, if_pos (by omega), ht, Option.bind_some, hj, if_pos (by omega), if_pos b1, if_neg (by rw [tl]; exact he), if_pos z1, if_pos b2, if_pos z2, if_pos z3, hw]
        rfl
theorem map_back (L : List SL) : (L.map toLk).map lkOf = L := by
  rw [List.map_map]
  conv => rhs; rw [← List.map_id L]
  exact List.map_congr_left (fun x _ => lkOf_toLk x)
/-- What dent.Locks answers at a text of lines that says some locks. -/
theorem locks_of_run (y : ByteArray) (L : List Bs) (X : List SL) (has : List Nat) (hy : y.data.toList = lined L) (hs : y.size ≤ 8000) (hc : ∀ l ∈ L, clean l = true) (run : Run (L.map (· ++ [10])) [] [] false (X.map toLk) has true) (hk : S.check (X.map toLk) = 0) : dent_Locks.f y = some (X, 0, 0, 0) := by
  obtain ⟨h1, h2⟩ := lined_plain2 L hc
  have hf := S.finish_run L [] _ has true h2 (by simp) (by rw [List.append_nil]; exact h1) (run.app (Run.skip (by decide) _ _ _)) hk
  rw [List.append_nil, ← hy] at hf
  unfold dent_Locks.f
  rw [if_pos (by omega)]
  unfold dent_Locks.g
  rw [if_neg (by omega), hf]
  unfold locksRes
  rw [if_pos rfl, map_back]
theorem o21 (a b i : Nat) (h : a ≤ b + 1000) (h2 : b ≤ 7 + 1000 * i) : a ≤ 7 + 1000 * (i + 1) := by
  rw [Nat.mul_add, Nat.mul_one, ← Nat.add_assoc]
  exact Nat.le_trans h (Nat.add_le_add_right h2 1000)
theorem order_l0 (x2 : Int) (t : Nat) (ht : transhumancelaw7_within.f x2 5 = some (t : Int)) (htl : t < 5) (x7 : List SL) (n : Nat) (hn : n ≤ 40) (hok : AllOk n x7) (d : Nat) :
    ∀ (i : Nat) (y : ByteArray) (L : List Bs) (has : List Nat), i ≤ x7.length → x7.length - i = d → y.data.toList = lined L → y.size ≤ 7 + 1000 * i → (∀ l ∈ L, clean l = true) → Run (L.map (· ++ [10])) [] [] false ((x7.take i).map toLk) has true →
    Ev (fun k => transhumancelaw7_DentOrder.l0 k x2 x7 y (i : Int)) (fun r => r = true) := by
  have hlen := hok.len
  induction d with
  | zero =>
    intro i y L has hi hd hy hs hc run
    obtain rfl : i = x7.length := by omega
    rw [List.take_length] at run
    by_cases h8 : y.size ≤ 8000
    · have hf := locks_of_run y L x7 has hy h8 hc run (by have := check_ok n x7 hok x7.length; rwa [List.take_length] at this)
      refine Ev.succ (g := fun k => (transhumanceref5_Rows.f k x7 x7).bind fun t387 => (some t387)) (Ev.bind (rows_ev x7 (by omega)) (fun r hr => Ev.pure hr)) (fun k => ?_)
      rw [transhumancelaw7_DentOrder.l0, if_neg (by omega), hf, Option.bind_some, if_neg (by omega), if_pos rfl]
    · refine Ev.succ (g := fun k => some true) (Ev.pure rfl) (fun k => ?_)
      have hf : ∃ g, dent_Locks.f y = some g := ⟨_, by unfold dent_Locks.f; rw [if_pos (by omega)]⟩
      obtain ⟨g, hf⟩ := hf
      rw [transhumancelaw7_DentOrder.l0, if_neg (by omega), hf, Option.bind_some, if_pos (by omega)]
  | succ d ih =>
    intro i y L has hi hd hy hs hc run
    have hlt : i < x7.length := by omega
    have hg : rd_T43 x7 (i : Int) = x7[i]'hlt := by
      unfold rd_T43
      rw [Int.toNat_natCast, List.getD_eq_getElem?_getD, List.getElem?_eq_getElem hlt]
      rfl
    have hxo : LkOk (toLk (x7[i]'hlt)) := hok.ok _ (List.getElem_mem hlt)
    have htk : x7.take (i + 1) = x7.take i ++ [x7[i]'hlt] := List.take_succ_eq_append_getElem hlt
    have hw : wrap64 ((i : Int) + 1) = ((i + 1 : Nat) : Int) := by unfold wrap64; omega
    obtain ⟨ia, ib⟩ := idx_all (i + t)
    obtain ⟨has', r⟩ := run_lock quote S.value_quote (toLk (x7[i]'hlt)) hxo (idx (i + t)) ia ib ((x7.take i).map toLk) has (check_ok n x7 hok i) (by rw [List.length_map, List.length_take]; omega)
    refine Ev.succ (order_l1 x2 t ht htl x7 i (by omega) (x7[i]'hlt) hxo (fun r => r = true) 5 0 y true L (by omega) (by omega) hy (by omega) (fun y' h1 h2 => ?_)) (fun k => ?_)
    · rw [hw]
      refine ih (i + 1) y' (L ++ fieldLines true (ordL quote (toLk (x7[i]'hlt)) (idx (i + t)))) has' (by omega) (by omega) (by rw [h1, List.drop_zero]) (o21 _ y.size i h2 hs) (fun l hl => ?_) ?_
      · rcases List.mem_append.1 hl with h | h
        · exact hc l h
        · exact clean_lock quote clean_quote _ hxo _ (fun j hj => (ia j).1 hj) true l h
      · rw [List.map_append, htk, List.map_append]
        exact run.app r
    · rw [transhumancelaw7_DentOrder.l0, if_pos (by omega), if_pos (by omega), hg]
      rfl
theorem DentOrder : transhumancelaw7_DentOrder.Pure := by
  intro l0 l1 a2 h1 h2 h3 h4 h5 h6 h7
  obtain ⟨t, ht, h0, hlt⟩ := within_some a2 5 (by omega) (by omega)
  obtain ⟨t, rfl⟩ := Int.eq_ofNat_of_zero_le h0
  refine Ev.at (Ev.eq (g := fun k => if (l1.length : Int) > 60 then (some true) else ((transhumancelaw5_Locks.f k l0 l1 ((10 : Nat) : Int)).bind fun t377 => (if (t377.length : Int) = 0 then (some true) else (transhumancelaw7_DentOrder.l0 k a2 t377 (⟨#[108, 111, 99, 107, 115, 58, 10]⟩ : ByteArray) ((0 : Nat) : Int))))) ?_ (fun k => ?_))
  · by_cases c : (l1.length : Int) > 60
    · simp only [if_pos c]
      exact Ev.pure rfl
    · simp only [if_neg c]
      refine Ev.bind (locks_ev l0 l1 10 (by omega) (by omega) (by omega)) (fun L hL => ?_)
      by_cases hz : (L.length : Int) = 0
      · simp only [if_pos hz]
        exact Ev.pure rfl
      · simp only [if_neg hz]
        exact order_l0 a2 t ht (by omega) L 10 (by omega) hL L.length 0 (⟨#[108, 111, 99, 107, 115, 58, 10]⟩ : ByteArray) [S.locksWord] [] (Nat.zero_le _) (by omega) rfl (Nat.le_refl 7) (fun l hl => by rw [List.mem_singleton.1 hl]; decide) (Run.begins (S.chomp_end _))
  · unfold transhumancelaw7_DentOrder.f
    rw [known_ok, Option.bind_some, if_pos rfl]
    exact congrArg (fun z => if (l1.length : Int) > 60 then (some true) else ((transhumancelaw5_Locks.f k l0 l1 z).bind fun t377 => (if (t377.length : Int) = 0 then (some true) else (transhumancelaw7_DentOrder.l0 k a2 t377 (⟨#[108, 111, 99, 107, 115, 58, 10]⟩ : ByteArray) 0)))) (show (10 : Int) = ((10 : Nat) : Int) from rfl)
end Go.Proofs.YtpcmkjimdhlhiaaGreatDoor.Pure
