import Derived.Test.YtpcmkjimdhlhiaaGreatDoorS5
set_option linter.unusedVariables false
set_option linter.unusedSimpArgs false
namespace Go.Proofs.YtpcmkjimdhlhiaaGreatDoor.S
/-! Texts that are refused. -/
theorem fold_err (Q : List Bs) (x : St) (h : x.rd.ec ≠ 0) : (Q.foldl St.step x).rd = x.rd := by
  induction Q generalizing x with
  | nil => rfl
  | cons q Q ih =>
    have e : (x.step q).rd = x.rd := by
      unfold St.step
      rw [if_pos]
      simp [skips, h]
    rw [List.foldl_cons, ih (x.step q) (by rw [e]; exact h), e]
theorem fold_at (P : List Bs) (x : St) : (P.foldl St.step x).at_ = x.at_ + (P.map List.length).sum := by
  induction P generalizing x with
  | nil => simp
  | cons p P ih =>
    rw [List.foldl_cons, ih, step_at]
    simp only [List.map_cons, List.sum_cons]
    omega
theorem lined_sum (L : List Bs) : ((L.map (· ++ [10])).map List.length).sum = (lined L).length := by
  induction L with
  | nil => rfl
  | cons l L ih =>
    have : (lined (l :: L)).length = (l ++ [10]).length + (lined L).length := by simp only [lined, List.flatMap_cons, List.length_append]
    rw [List.map_cons, List.map_cons, List.sum_cons, ih, this]
theorem lined_app (L M : List Bs) : lined (L ++ M) = lined L ++ lined M := by simp [lined]
/-- What a text says whose line ln, behind the lines L, is the first wrong one. -/
theorem finish_bad (L M : List Bs) (ln r : Bs) (l : List Lk) (has : List Nat) (b : Bool) (e d : Nat) (h : ∀ x ∈ L ++ ln :: M, ∀ c ∈ x, c ≠ 10) (hr : ∀ c ∈ r, c ≠ 10) (hp : plainS (lined (L ++ ln :: M) ++ r) = true)
    (run : Run (L.map (· ++ [10])) [] [] false l has b) (he : e ≠ 0) (hst : ∀ x, Good x l has b → (x.step (ln ++ [10])).rd.ec = e ∧ (x.step (ln ++ [10])).rd.wh = x.at_ + d) :
    (finish (lined (L ++ ln :: M) ++ r)).ec = e ∧ (finish (lined (L ++ ln :: M) ++ r)).wh = (lined L).length + d := by
  have hpc := pieces_lined (L ++ ln :: M) r h hr (lined (L ++ ln :: M) ++ r).length (by have := lined_len (L ++ ln :: M); simp only [List.length_append] at this ⊢; omega)
  have hg : Good (start (lined (L ++ ln :: M) ++ r)) [] [] false := by
    refine ⟨?_, rfl⟩
    unfold start badAt
    rw [if_pos hp]
    simp [Rd.zero]
  have h1 := run _ hg
  obtain ⟨h2, h3⟩ := hst _ h1
  have hat : ((L.map (· ++ [10])).foldl St.step (start (lined (L ++ ln :: M) ++ r))).at_ = (lined L).length := by
    rw [fold_at, lined_sum]
    show 0 + _ = _
    omega
  rw [hat] at h3
  have hf : (after (lined (L ++ ln :: M) ++ r) (pieces (lined (L ++ ln :: M) ++ r).length (lined (L ++ ln :: M) ++ r)).length).rd = (((L.map (· ++ [10])).foldl St.step (start (lined (L ++ ln :: M) ++ r))).step (ln ++ [10])).rd := by
    unfold after
    rw [hpc, List.take_length, List.map_append, List.map_cons, List.append_assoc, List.foldl_append, List.cons_append, List.foldl_cons]
    exact fold_err _ _ (by rw [h2]; exact he)
  unfold finish
  simp only [hf]
  rw [if_neg (by rw [h2]; exact he)]
  exact ⟨h2, h3⟩
theorem begin_full (l : List Lk) (has : List Nat) (at_ : Nat) (hk : check l = 0) (hn : 40 ≤ l.length) : Rd.begin ⟨0, 0, l, has⟩ at_ = ⟨at_, 2, l ++ [Lk.zero], []⟩ := by
  unfold Rd.begin Rd.ended
  simp only [if_pos hk]
  rw [if_pos hn]
  rfl
theorem field_later (r : Rd) (at_ i : Nat) (w : Bs) (h : r.ec ≠ 0) : (r.field at_ i w).ec = r.ec ∧ (r.field at_ i w).wh = r.wh := by
  unfold Rd.field
  simp only
  have hw : ∀ (e : Nat), r.wrong at_ e = r := fun e => by unfold Rd.wrong; rw [if_neg h]
  split <;> split <;> simp only [hw, and_self]
/-- One lock too many. -/
theorem step_full (l : List Lk) (has : List Nat) (i : Nat) (hi : i < 5) (v w : Bs) (hv : value v = (w, true)) (hk : check l = 0) (hn : 40 ≤ l.length) (x : St) (hx : Good x l has true) :
    (x.step (fieldLine true i v ++ [10])).rd.ec = 2 ∧ (x.step (fieldLine true i v ++ [10])).rd.wh = x.at_ + 0 := by
  unfold St.step
  have hs : skips x.rd.ec (bare (chomp (fieldLine true i v ++ [10]))) = false := by rw [hx.rd, chomp_end]; exact skips_first i v
  rw [if_neg (by rw [hs]; simp), if_pos hx.begun, chomp_end, bare_first, hx.rd]
  simp only [Nat.add_sub_cancel]
  unfold Rd.line
  rw [lineP_first _ i hi v w hv]
  have h3 : Lib.hasPrefix (fieldLine true i v) [45, 32] = true := by simp [fieldLine, Lib.hasPrefix, List.isPrefixOf]
  simp only [if_pos h3]
  rw [begin_full _ _ _ hk hn]
  exact ⟨(field_later _ _ _ _ (by simp)).1, (field_later _ _ _ _ (by simp)).2⟩
end Go.Proofs.YtpcmkjimdhlhiaaGreatDoor.S
