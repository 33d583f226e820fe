import Derived.Test.YtpcmkjimdhlhiaaGreatDoorPuQuote
import Derived.Test.YtpcmkjimdhlhiaaGreatDoorS6
set_option linter.unusedVariables false
set_option linter.unusedSimpArgs false
namespace Go.Proofs.YtpcmkjimdhlhiaaGreatDoor.Pure
open Go.RowKit Go.Proofs.YtpcmkjimdhlhiaaGreatDoor.P Go.Proofs.YtpcmkjimdhlhiaaGreatDoorW.PrintWords
open S (Bs plainS plainB right rightW Lk quoteC quote Run fieldLine fieldLines FieldOk setAll lined value keyB)
/-! A lock's fields, in any order, as lines. -/
def fld (x : Lk) (j : Nat) : Bs := x.fields.getD j []
/-- The fields that are not empty, in an order, each with how it is written. -/
def ordL (w : Bs → Bs) (x : Lk) : List Nat → List (Nat × Bs × Bs)
  | [] => []
  | j :: r => if fld x j = [] then ordL w x r else (j, fld x j, w (fld x j)) :: ordL w x r
theorem five (i : Nat) (h : i < 5) : i = 0 ∨ i = 1 ∨ i = 2 ∨ i = 3 ∨ i = 4 := by omega
theorem fld_set (y : Lk) (i j : Nat) (v : Bs) (hi : i < 5) (hj : j < 5) : fld (y.set i v) j = if j = i then v else fld y j := by
  rcases five i hi with rfl | rfl | rfl | rfl | rfl <;> rcases five j hj with rfl | rfl | rfl | rfl | rfl <;> rfl
theorem ordL_mem (w : Bs → Bs) (x : Lk) (l : List Nat) : ∀ f ∈ ordL w x l, f.1 ∈ l ∧ fld x f.1 ≠ [] ∧ f.2.1 = fld x f.1 ∧ f.2.2 = w (fld x f.1) := by
  induction l with
  | nil => intro f hf; simp [ordL] at hf
  | cons j r ih =>
    intro f hf
    rw [ordL] at hf
    split at hf
    · obtain ⟨a, b⟩ := ih f hf
      exact ⟨List.mem_cons_of_mem _ a, b⟩
    · rename_i hne
      rcases List.mem_cons.1 hf with rfl | hf
      · exact ⟨List.mem_cons_self, hne, rfl, rfl⟩
      · obtain ⟨a, b⟩ := ih f hf
        exact ⟨List.mem_cons_of_mem _ a, b⟩
theorem ordL_sub (w : Bs → Bs) (x : Lk) (l : List Nat) : ((ordL w x l).map (·.1)).Sublist l := by
  induction l with
  | nil => exact List.Sublist.refl _
  | cons j r ih =>
    rw [ordL]
    split
    · exact ih.cons j
    · rw [List.map_cons]; exact ih.cons_cons j
theorem ordL_ne (w : Bs → Bs) (x : Lk) (l : List Nat) (j : Nat) (hj : j ∈ l) (hx : fld x j ≠ []) : ordL w x l ≠ [] := by
  induction l with
  | nil => simp at hj
  | cons i r ih =>
    rw [ordL]
    split
    · rename_i he
      rcases List.mem_cons.1 hj with rfl | hj
      · exact absurd he hx
      · exact ih hj
    · simp
theorem setAll_fld (w : Bs → Bs) (x : Lk) (l : List Nat) (hl : ∀ j ∈ l, j < 5) : ∀ (y : Lk) (j : Nat), j < 5 → fld (setAll y (ordL w x l)) j = if j ∈ l ∧ fld x j ≠ [] then fld x j else fld y j := by
  induction l with
  | nil => intro y j hj; simp [ordL, setAll]
  | cons i r ih =>
    intro y j hj
    have hi := hl i (by simp)
    have ih2 := ih (fun j h => hl j (by simp [h]))
    rw [ordL]
    by_cases he : fld x i = []
    · rw [if_pos he, ih2 y j hj]
      by_cases hji : j = i
      · subst hji
        rw [if_neg (fun h => h.2 he), if_neg (fun h => h.2 he)]
      · simp [hji]
    · rw [if_neg he]
      have e : setAll y ((i, fld x i, w (fld x i)) :: ordL w x r) = setAll (y.set i (fld x i)) (ordL w x r) := rfl
      rw [e, ih2 _ j hj, fld_set y i j _ hi hj]
      by_cases hji : j = i
      · subst hji
        simp [he]
      · simp [hji]
theorem lk_ext (x y : Lk) (h : ∀ j, j < 5 → fld x j = fld y j) : x = y := by
  obtain ⟨a, b, c, d, e⟩ := x
  obtain ⟨a', b', c', d', e'⟩ := y
  have h0 : a = a' := h 0 (by omega)
  have h1 : b = b' := h 1 (by omega)
  have h2 : c = c' := h 2 (by omega)
  have h3 : d = d' := h 3 (by omega)
  have h4 : e = e' := h 4 (by omega)
  rw [h0, h1, h2, h3, h4]
theorem setAll_all (w : Bs → Bs) (x : Lk) (l : List Nat) (hl : ∀ j, j ∈ l ↔ j < 5) : setAll Lk.zero (ordL w x l) = x := by
  refine lk_ext _ _ (fun j hj => ?_)
  rw [setAll_fld w x l (fun j h => (hl j).1 h) Lk.zero j hj]
  by_cases he : fld x j = []
  · rw [if_neg (fun h => h.2 he), he]
    rcases five j hj with rfl | rfl | rfl | rfl | rfl <;> rfl
  · rw [if_pos ⟨(hl j).2 hj, he⟩]
theorem fld_plain (x : Lk) (h : LkOk x) (j : Nat) (hj : j < 5) : plainS (fld x j) = true ∧ (fld x j).length ≤ 70 := by
  obtain ⟨s1, s2, s3, s4, s5⟩ := h.size
  rcases five j hj with rfl | rfl | rfl | rfl | rfl
  · exact ⟨h.pr, s1⟩
  · exact ⟨h.pv, s2⟩
  · exact ⟨h.pe, s3⟩
  · exact ⟨h.pw, s4⟩
  · exact ⟨h.ps, s5⟩
theorem root_ne (x : Lk) (h : LkOk x) : fld x 0 ≠ [] := by
  intro e
  have hr := h.root
  have : x.root = [] := e
  rw [this] at hr
  exact absurd hr (by decide)
theorem ordL_ok (w : Bs → Bs) (hw : ∀ v, plainS v = true → value (w v) = (v, true)) (x : Lk) (h : LkOk x) (l : List Nat) (hl : ∀ j ∈ l, j < 5) : ∀ f ∈ ordL w x l, FieldOk f := by
  intro f hf
  obtain ⟨a, b, c, d⟩ := ordL_mem w x l f hf
  have h5 := hl _ a
  refine ⟨h5, ?_, fun h04 => ?_⟩
  · rw [d, c]; exact hw _ (fld_plain x h _ h5).1
  · rw [c]
    rcases h04 with h0 | h4
    · rw [h0]; exact h.root
    · rw [h4] at b ⊢
      rcases h.src with e | e
      · exact absurd e b
      · exact e
/-- A lock whole, in any order of its fields. -/
theorem run_lock (w : Bs → Bs) (hw : ∀ v, plainS v = true → value (w v) = (v, true)) (x : Lk) (h : LkOk x) (l : List Nat) (hl : ∀ j, j ∈ l ↔ j < 5) (hn : l.Nodup) (pre : List Lk) (has : List Nat) (hk : S.check pre = 0) (hp : pre.length < 40) :
    ∃ has', Run ((fieldLines true (ordL w x l)).map (· ++ [10])) pre has true (pre ++ [x]) has' true := by
  have r := Run.lock ((fieldLines true (ordL w x l)).map (· ++ [10])) (ordL w x l) pre has (S.chomp_map _) (ordL_ok w hw x h l (fun j hj => (hl j).1 hj)) (hn.sublist (ordL_sub w x l)) (ordL_ne w x l 0 ((hl 0).2 (by omega)) (root_ne x h)) hk hp
  rw [setAll_all w x l hl] at r
  exact ⟨_, r⟩
/-! What is written is plain, and no line's end is in it. -/
def clean (l : Bs) : Bool := l.all (fun c => plainB c && (c != 10))
theorem clean_app (a b : Bs) : clean (a ++ b) = (clean a && clean b) := by simp [clean]
theorem clean_plain (l : Bs) (h : clean l = true) : plainS l = true ∧ ∀ c ∈ l, c ≠ 10 := by
  unfold clean at h
  rw [List.all_eq_true] at h
  refine ⟨?_, fun c hc => ?_⟩
  · unfold S.plainS
    rw [List.all_eq_true]
    exact fun c hc => (Bool.and_eq_true_iff.1 (h c hc)).1
  · have := (Bool.and_eq_true_iff.1 (h c hc)).2
    simpa using this
theorem clean_quoteC (c : UInt8) (h : plainB c = true) : clean (quoteC c) = true := by
  unfold S.quoteC
  split
  · decide
  split
  · decide
  split
  · decide
  split
  · decide
  · rename_i h1 h2 h3 h4
    simp [clean, h, h3]
theorem clean_quote (l : Bs) (h : plainS l = true) : clean (quote l) = true := by
  have hf : ∀ l, plainS l = true → clean (l.flatMap quoteC) = true := by
    intro l
    induction l with
    | nil => intro _; rfl
    | cons x l ih =>
      intro h
      obtain ⟨h1, h2⟩ := S.plainS_cons h
      rw [List.flatMap_cons, clean_app, clean_quoteC x h1, ih h2]; rfl
  show clean ([34] ++ (l.flatMap quoteC ++ [34])) = true
  rw [clean_app, clean_app, hf l h]
  rfl
theorem clean_key : ∀ i, i < 5 → clean (keyB i) = true := by decide
theorem clean_line (b : Bool) (i : Nat) (hi : i < 5) (v : Bs) (hv : clean v = true) : clean (fieldLine b i v) = true := by
  unfold S.fieldLine
  rw [show (keyB i ++ 58 :: 32 :: v) = keyB i ++ ([58, 32] ++ v) from rfl, clean_app, clean_app, clean_app, clean_key i hi, hv]
  cases b <;> rfl
theorem clean_lines (F : List (Nat × Bs × Bs)) (hF : ∀ f ∈ F, f.1 < 5 ∧ clean f.2.2 = true) : ∀ b, ∀ l ∈ fieldLines b F, clean l = true := by
  induction F with
  | nil => intro b l hl; simp [S.fieldLines] at hl
  | cons f F ih =>
    intro b l hl
    obtain ⟨i, v, e⟩ := f
    simp only [S.fieldLines, List.mem_cons] at hl
    obtain ⟨h1, h2⟩ := hF (i, v, e) (by simp)
    rcases hl with rfl | hl
    · exact clean_line _ _ h1 _ h2
    · exact ih (fun f hf => hF f (by simp [hf])) false l hl
theorem clean_lock (w : Bs → Bs) (hw : ∀ v, plainS v = true → clean (w v) = true) (x : Lk) (h : LkOk x) (l : List Nat) (hl : ∀ j ∈ l, j < 5) (b : Bool) : ∀ s ∈ fieldLines b (ordL w x l), clean s = true :=
  clean_lines _ (fun f hf => by
    obtain ⟨a, _, _, d⟩ := ordL_mem w x l f hf
    exact ⟨hl _ a, by rw [d]; exact hw _ (fld_plain x h _ (hl _ a)).1⟩) b
theorem lined_plain2 (L : List Bs) (h : ∀ l ∈ L, clean l = true) : plainS (lined L) = true ∧ ∀ l ∈ L, ∀ c ∈ l, c ≠ 10 := by
  refine ⟨?_, fun l hl => (clean_plain l (h l hl)).2⟩
  induction L with
  | nil => rfl
  | cons l L ih =>
    have e : lined (l :: L) = l ++ ([10] ++ lined L) := by simp [S.lined]
    rw [e, plainS_app, plainS_app, (clean_plain l (h l (by simp))).1, ih (fun x hx => h x (by simp [hx]))]
    rfl
end Go.Proofs.YtpcmkjimdhlhiaaGreatDoor.Pure
