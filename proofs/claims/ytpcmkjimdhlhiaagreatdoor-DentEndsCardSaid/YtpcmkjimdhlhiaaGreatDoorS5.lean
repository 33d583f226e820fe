import Derived.Test.YtpcmkjimdhlhiaaGreatDoorGB
set_option linter.unusedVariables false
set_option linter.unusedSimpArgs false
namespace Go.Proofs.YtpcmkjimdhlhiaaGreatDoor.S
/-! Written locks, read again: plain words on lists of bytes. -/
theorem u8_iff {a b : UInt8} : a = b ↔ a.toNat = b.toNat := UInt8.toNat_inj.symm
def quoteC (c : UInt8) : Bs := if c = 34 then [92, 34] else if c = 92 then [92, 92] else if c = 10 then [92, 110] else if c = 9 then [92, 116] else [c]
def quote (l : Bs) : Bs := 34 :: (l.flatMap quoteC ++ [34])
theorem plainB_cases {c : UInt8} (h : plainB c = true) : c = 9 ∨ c = 10 ∨ (32 ≤ c ∧ c ≤ 126) := by
  unfold plainB at h
  rw [decide_eq_true_iff] at h
  rcases h with h | h | h
  · exact .inl (u8_iff.2 (by show c.toNat = 9; omega))
  · exact .inr (.inl (u8_iff.2 (by show c.toNat = 10; omega)))
  · exact .inr (.inr ⟨UInt8.le_iff_toNat_le.2 (by show 32 ≤ c.toNat; omega), UInt8.le_iff_toNat_le.2 (by show c.toNat ≤ 126; omega)⟩)
theorem unq_step (x : UInt8) (h : plainB x = true) (r acc : Bs) (p : Nat) : unqGo (quoteC x ++ r) acc p = unqGo r (acc ++ [x]) (p + (quoteC x).length) := by
  unfold quoteC
  by_cases h1 : x = 34
  · subst h1; rfl
  by_cases h2 : x = 92
  · subst h2; rfl
  by_cases h3 : x = 10
  · subst h3; rfl
  by_cases h4 : x = 9
  · subst h4; rfl
  rw [if_neg h1, if_neg h2, if_neg h3, if_neg h4]
  have h5 : ¬ (x < 32 ∨ 126 < x) := by
    rcases plainB_cases h with h | h | ⟨ha, hb⟩
    · exact absurd h h4
    · exact absurd h h3
    · rintro (hc | hc)
      · exact absurd ha (by rw [UInt8.le_iff_toNat_le]; rw [UInt8.lt_iff_toNat_lt] at hc; omega)
      · exact absurd hb (by rw [UInt8.le_iff_toNat_le]; rw [UInt8.lt_iff_toNat_lt] at hc; omega)
  show unqGo (x :: r) acc p = _
  rw [unqGo.eq_def]
  simp only [if_neg h5, if_neg h1, if_neg h2]
  rfl
theorem plainS_cons {x : UInt8} {l : Bs} (h : plainS (x :: l) = true) : plainB x = true ∧ plainS l = true := by
  simp only [plainS, List.all_cons, Bool.and_eq_true] at h
  exact h
theorem unqGo_quote (l r : Bs) (h : plainS l = true) : ∀ acc p, unqGo (l.flatMap quoteC ++ 34 :: r) acc p = some (acc ++ l, p + (l.flatMap quoteC).length + 1) := by
  induction l with
  | nil =>
    intro acc p
    show unqGo (34 :: r) acc p = _
    rw [unqGo.eq_def]
    simp
  | cons x l ih =>
    intro acc p
    obtain ⟨hx, hl⟩ := plainS_cons h
    rw [List.flatMap_cons, List.append_assoc, unq_step x hx, ih hl]
    simp only [List.append_assoc, List.singleton_append, List.length_append]
    rw [Nat.add_assoc p]
theorem unquote_quote (l : Bs) (h : plainS l = true) : unquote (quote l) = some (l, (quote l).length) := by
  show unqGo (l.flatMap quoteC ++ [34]) [] 1 = _
  rw [unqGo_quote l [] h]
  simp only [List.nil_append, quote, List.length_cons, List.length_append, List.length_nil]
  congr 2
  omega
theorem value_quote (l : Bs) (h : plainS l = true) : value (quote l) = (l, true) := by
  unfold value
  rw [unquote_quote l h]
  simp
theorem may_ne {l : Bs} (h : may l = true) : l ≠ [] := by
  rintro rfl
  simp [may] at h
theorem may_unquote {l : Bs} (h : may l = true) : unquote l = none := by
  cases l with
  | nil => rfl
  | cons x r =>
    by_cases hx : x = 34
    · subst hx
      simp [may, Lib.indexByte] at h
    · simp only [unquote, if_neg hx]
theorem value_may {l : Bs} (h : may l = true) : value l = (l, true) := by
  unfold value
  rw [may_unquote h]
  simp [h]
/-- A value as it is written. -/
def enc (l : Bs) : Bs := if may l = true then l else quote l
theorem value_enc (l : Bs) (h : plainS l = true) : value (enc l) = (l, true) := by
  unfold enc
  split
  · rename_i hm; exact value_may hm
  · exact value_quote l h
def keyB (i : Nat) : Bs := keys.getD i []
theorem index_key (k v : Bs) (h : ∀ c ∈ k, c ≠ 58) : Lib.index (k ++ 58 :: 32 :: v) [58, 32] = (k.length : Int) := by
  induction k with
  | nil => simp [Lib.index, List.isPrefixOf]
  | cons c k ih =>
    have hc : c ≠ 58 := h c (by simp)
    have hn : ([58, 32] : Bs).isPrefixOf (c :: (k ++ 58 :: 32 :: v)) = false := by
      simp [List.isPrefixOf, Ne.symm hc]
    rw [List.cons_append, Lib.index, hn, ih (fun x hx => h x (by simp [hx]))]
    have : ¬ ((k.length : Int) == -1) = true := by rw [beq_iff_eq]; omega
    simp only [Bool.false_eq_true, if_false, if_neg this, List.length_cons]
    omega
theorem key_colon : ∀ i, i < 5 → ∀ c ∈ keyB i, c ≠ 58 := by decide
theorem key_in : ∀ i, i < 5 → keys.contains (keyB i) = true ∧ keys.idxOf (keyB i) = i := by decide
theorem cut_key (i : Nat) (hi : i < 5) (v : Bs) : Lib.cut (keyB i ++ 58 :: 32 :: v) [58, 32] = (keyB i, v, true) := by
  unfold Lib.cut
  rw [index_key _ _ (key_colon i hi)]
  rw [if_pos (by omega)]
  simp only [Int.toNat_natCast, List.length_cons, List.length_nil, Nat.zero_add, Nat.reduceAdd]
  rw [List.take_left, ← List.drop_drop, List.drop_left]
  rfl
theorem pair_key (i : Nat) (hi : i < 5) (v w : Bs) (hv : value v = (w, true)) : pair (keyB i ++ 58 :: 32 :: v) = some (i, w) := by
  unfold pair
  rw [cut_key i hi v]
  simp only [hv, if_true]
  rw [if_pos ⟨trivial, (key_in i hi).1⟩, (key_in i hi).2]
/-- A field's line. -/
def fieldLine (first : Bool) (i : Nat) (v : Bs) : Bs := (if first then [45, 32] else [32, 32]) ++ (keyB i ++ 58 :: 32 :: v)
theorem lineP_first (r : Rd) (i : Nat) (hi : i < 5) (v w : Bs) (hv : value v = (w, true)) : lineP r (fieldLine true i v) = some (i, w) := by
  unfold lineP fieldLine
  have h1 : Lib.hasPrefix ([45, 32] ++ (keyB i ++ 58 :: 32 :: v)) [45, 32] = true := by simp [Lib.hasPrefix, List.isPrefixOf]
  rw [if_pos rfl, if_pos h1]
  exact pair_key i hi v w hv
theorem not_first (x : Bs) : Lib.hasPrefix ([32, 32] ++ x) [45, 32] = false := by simp [Lib.hasPrefix, List.isPrefixOf]
theorem lineP_more (r : Rd) (hr : r.l ≠ []) (i : Nat) (hi : i < 5) (v w : Bs) (hv : value v = (w, true)) : lineP r (fieldLine false i v) = some (i, w) := by
  unfold lineP fieldLine
  rw [if_neg (by simp : ¬ (false = true)), if_neg (by rw [not_first]; simp), if_pos ⟨by simp [Lib.hasPrefix, List.isPrefixOf], hr⟩]
  exact pair_key i hi v w hv
/-- The reader between two lines, nothing wrong yet. -/
structure Good (x : St) (l : List Lk) (has : List Nat) (b : Bool) : Prop where
  rd : x.rd = ⟨0, 0, l, has⟩
  begun : x.begun = b
/-- From one state of the reader to another one, by pieces. -/
def Run (P : List Bs) (l : List Lk) (has : List Nat) (b : Bool) (l' : List Lk) (has' : List Nat) (b' : Bool) : Prop := ∀ x, Good x l has b → Good (P.foldl St.step x) l' has' b'
theorem Run.nil (l : List Lk) (has : List Nat) (b : Bool) : Run [] l has b l has b := fun _ h => h
theorem Run.app {P Q : List Bs} {l l1 l2 : List Lk} {h h1 h2 : List Nat} {b b1 b2 : Bool} (p : Run P l h b l1 h1 b1) (q : Run Q l1 h1 b1 l2 h2 b2) : Run (P ++ Q) l h b l2 h2 b2 := fun x hx => by
  rw [List.foldl_append]; exact q _ (p x hx)
/-- A piece that says nothing. -/
def idle (p : Bs) : Bool := skips 0 (bare (chomp p))
theorem Run.skip {p : Bs} (hp : idle p = true) (l : List Lk) (has : List Nat) (b : Bool) : Run [p] l has b l has b := fun x hx => by
  show Good (x.step p) _ _ _
  unfold St.step
  have : skips x.rd.ec (bare (chomp p)) = true := by rw [hx.rd]; exact hp
  rw [if_pos this]
  exact ⟨hx.rd, hx.begun⟩
theorem Run.idles {P : List Bs} (hp : ∀ p ∈ P, idle p = true) (l : List Lk) (has : List Nat) (b : Bool) : Run P l has b l has b := by
  induction P with
  | nil => exact Run.nil _ _ _
  | cons p P ih => exact Run.app (P := [p]) (Run.skip (hp p (by simp)) l has b) (ih (fun q hq => hp q (by simp [hq])))
theorem Run.begins {p : Bs} (hc : chomp p = locksWord) : Run [p] [] [] false [] [] true := fun x hx => by
  show Good (x.step p) _ _ _
  unfold St.step
  have : skips x.rd.ec (bare (chomp p)) = false := by rw [hx.rd, hc]; decide
  rw [if_neg (by rw [this]; simp), if_neg (by rw [hx.begun]; simp), if_pos hc]
  exact ⟨hx.rd, rfl⟩
theorem bare_first (i : Nat) (v : Bs) : bare (fieldLine true i v) = fieldLine true i v := rfl
theorem key_head : ∀ i, i < 5 → keyB i ≠ [] ∧ (keyB i).head? ≠ some 35 ∧ (keyB i).head? ≠ some 32 := by decide
theorem bare_more (i : Nat) (hi : i < 5) (v : Bs) : bare (fieldLine false i v) = keyB i ++ 58 :: 32 :: v := by
  obtain ⟨h1, h2, h3⟩ := key_head i hi
  unfold bare Lib.trimLeftB fieldLine
  cases hk : keyB i with
  | nil => exact absurd hk h1
  | cons c k =>
    rw [hk] at h3
    have hc : (c == 32) = false := by
      rw [beq_eq_false_iff_ne]
      rintro rfl
      simp at h3
    simp [hc]
theorem skips_first (i : Nat) (v : Bs) : skips 0 (bare (fieldLine true i v)) = false := by
  rw [bare_first]; simp [skips, fieldLine]
theorem skips_more (i : Nat) (hi : i < 5) (v : Bs) : skips 0 (bare (fieldLine false i v)) = false := by
  obtain ⟨h1, h2, h3⟩ := key_head i hi
  rw [bare_more i hi]
  cases hk : keyB i with
  | nil => exact absurd hk h1
  | cons c k =>
    rw [hk] at h2
    simp only [List.head?_cons, ne_eq, Option.some.injEq] at h2
    simp [skips, h2]
theorem step_line {x : St} {l : List Lk} {has : List Nat} (hx : Good x l has true) (p ln : Bs) (hc : chomp p = ln) (hs : skips 0 (bare ln) = false) :
    ∃ at_, (x.step p).rd = Rd.line ⟨0, 0, l, has⟩ ln at_ ∧ (x.step p).begun = true := by
  refine ⟨x.at_ + ln.length - (bare ln).length, ?_⟩
  unfold St.step
  have : skips x.rd.ec (bare (chomp p)) = false := by rw [hx.rd, hc]; exact hs
  rw [if_neg (by rw [this]; simp), if_pos hx.begun, hc, hx.rd]
  exact ⟨rfl, hx.begun⟩
theorem field_good (l : List Lk) (has : List Nat) (at_ i : Nat) (w : Bs) (hh : has.contains i = false) (hr : i = 0 ∨ i = 4 → right w = true) : Rd.field ⟨0, 0, l, has⟩ at_ i w = ⟨0, 0, setLast l i w, has ++ [i]⟩ := by
  unfold Rd.field
  simp only
  rw [hh]
  have : ¬ ((i = 0 ∨ i = 4) ∧ right w = false) := by
    rintro ⟨h1, h2⟩
    rw [hr h1] at h2
    cases h2
  simp only [Bool.false_eq_true, if_false, if_neg this]
theorem Run.more {p : Bs} (l : List Lk) (y : Lk) (has : List Nat) (i : Nat) (hi : i < 5) (v w : Bs) (hv : value v = (w, true)) (hc : chomp p = fieldLine false i v) (hh : has.contains i = false) (hr : i = 0 ∨ i = 4 → right w = true) :
    Run [p] (l ++ [y]) has true (l ++ [y.set i w]) (has ++ [i]) true := fun x hx => by
  show Good (x.step p) _ _ _
  obtain ⟨a, h1, h2⟩ := step_line hx p _ hc (skips_more i hi v)
  refine ⟨?_, h2⟩
  rw [h1]
  unfold Rd.line
  rw [lineP_more _ (by simp) i hi v w hv]
  have h4 : ¬ Lib.hasPrefix (fieldLine false i v) [45, 32] = true := by
    have := not_first (keyB i ++ 58 :: 32 :: v)
    rw [show fieldLine false i v = [32, 32] ++ (keyB i ++ 58 :: 32 :: v) from rfl, this]
    simp
  simp only [if_neg h4]
  rw [field_good _ _ _ _ _ hh hr]
  simp [setLast]
theorem begin_good (l : List Lk) (has : List Nat) (at_ : Nat) (hk : check l = 0) (hn : l.length < 40) : Rd.begin ⟨0, 0, l, has⟩ at_ = ⟨0, 0, l ++ [Lk.zero], []⟩ := by
  unfold Rd.begin Rd.ended
  simp only [if_pos hk]
  rw [if_neg (by omega)]
theorem Run.first {p : Bs} (l : List Lk) (has : List Nat) (i : Nat) (hi : i < 5) (v w : Bs) (hv : value v = (w, true)) (hc : chomp p = fieldLine true i v) (hk : check l = 0) (hn : l.length < 40) (hr : i = 0 ∨ i = 4 → right w = true) :
    Run [p] l has true (l ++ [Lk.zero.set i w]) [i] true := fun x hx => by
  show Good (x.step p) _ _ _
  obtain ⟨a, h1, h2⟩ := step_line hx p _ hc (skips_first i v)
  refine ⟨?_, h2⟩
  rw [h1]
  unfold Rd.line
  rw [lineP_first _ i hi v w hv]
  have h3 : Lib.hasPrefix (fieldLine true i v) [45, 32] = true := by simp [fieldLine, Lib.hasPrefix, List.isPrefixOf]
  simp only [if_pos h3]
  rw [begin_good _ _ _ hk hn, field_good _ _ _ _ _ rfl hr]
  simp [setLast]
/-- A lock's fields as lines: the first one begins it. Each: its key, its value, its value as written. -/
def fieldLines : Bool → List (Nat × Bs × Bs) → List Bs
  | _, [] => []
  | f, (i, _, v) :: r => fieldLine f i v :: fieldLines false r
def setAll (y : Lk) (F : List (Nat × Bs × Bs)) : Lk := F.foldl (fun y f => y.set f.1 f.2.1) y
def FieldOk (f : Nat × Bs × Bs) : Prop := f.1 < 5 ∧ value f.2.2 = (f.2.1, true) ∧ (f.1 = 0 ∨ f.1 = 4 → right f.2.1 = true)
theorem Run.mores (P : List Bs) (F : List (Nat × Bs × Bs)) (l : List Lk) (y : Lk) (has : List Nat) (hP : P.map chomp = fieldLines false F) (hF : ∀ f ∈ F, FieldOk f) (hd : (F.map (·.1)).Nodup) (hh : ∀ f ∈ F, has.contains f.1 = false) :
    Run P (l ++ [y]) has true (l ++ [setAll y F]) (has ++ F.map (·.1)) true := by
  induction F generalizing P y has with
  | nil =>
    cases P with
    | nil => simpa [setAll] using Run.nil _ _ _
    | cons p P => simp [fieldLines] at hP
  | cons f F ih =>
    obtain ⟨i, w, v⟩ := f
    cases P with
    | nil => simp [fieldLines] at hP
    | cons p P =>
      simp only [List.map_cons, fieldLines, List.cons.injEq] at hP
      obtain ⟨h1, h2, h3⟩ := hF (i, w, v) (by simp)
      simp only [List.map_cons, List.nodup_cons] at hd
      have r1 := Run.more l y has i h1 v w h2 hP.1 (hh (i, w, v) (by simp)) h3
      have r2 := ih P (y.set i w) (has ++ [i]) hP.2 (fun f hf => hF f (by simp [hf])) hd.2 (fun f hf => by
        have a1 := hh f (by simp [hf])
        have a2 : f.1 ≠ i := by
          rintro e
          exact hd.1 (List.mem_map.2 ⟨f, hf, e⟩)
        rw [List.contains_eq_mem, decide_eq_false_iff_not] at a1 ⊢
        simp [a1, a2])
      have := Run.app (P := [p]) r1 r2
      simpa [setAll] using this
theorem Run.lock (P : List Bs) (F : List (Nat × Bs × Bs)) (l : List Lk) (has : List Nat) (hP : P.map chomp = fieldLines true F) (hF : ∀ f ∈ F, FieldOk f) (hd : (F.map (·.1)).Nodup) (hne : F ≠ []) (hk : check l = 0) (hn : l.length < 40) :
    Run P l has true (l ++ [setAll Lk.zero F]) (F.map (·.1)) true := by
  cases F with
  | nil => exact absurd rfl hne
  | cons f F =>
    obtain ⟨i, w, v⟩ := f
    cases P with
    | nil => simp [fieldLines] at hP
    | cons p P =>
      simp only [List.map_cons, fieldLines, List.cons.injEq] at hP
      obtain ⟨h1, h2, h3⟩ := hF (i, w, v) (by simp)
      simp only [List.map_cons, List.nodup_cons] at hd
      have r1 := Run.first l has i h1 v w h2 hP.1 hk hn h3
      have r2 := Run.mores P F l (Lk.zero.set i w) [i] hP.2 (fun f hf => hF f (by simp [hf])) hd.2 (fun f hf => by
        have a2 : f.1 ≠ i := by
          rintro e
          exact hd.1 (List.mem_map.2 ⟨f, hf, e⟩)
        rw [List.contains_eq_mem, decide_eq_false_iff_not]
        simp [a2])
      have := Run.app (P := [p]) r1 r2
      simpa [setAll] using this
/-- Pieces of a text of lines. -/
theorem indexByte_end (l r : Bs) (h : ∀ c ∈ l, c ≠ 10) : Lib.indexByte (l ++ 10 :: r) 10 = (l.length : Int) := by
  induction l with
  | nil => simp [Lib.indexByte]
  | cons c l ih =>
    have hc : (c == 10) = false := by rw [beq_eq_false_iff_ne]; exact h c (by simp)
    rw [List.cons_append, Lib.indexByte, hc, ih (fun x hx => h x (by simp [hx]))]
    have : ¬ ((l.length : Int) == -1) = true := by rw [beq_iff_eq]; omega
    simp only [Bool.false_eq_true, if_false, if_neg this, List.length_cons]
    omega
theorem indexByte_not (l : Bs) (h : ∀ c ∈ l, c ≠ 10) : Lib.indexByte l 10 = -1 := by
  induction l with
  | nil => rfl
  | cons c l ih =>
    have hc : (c == 10) = false := by rw [beq_eq_false_iff_ne]; exact h c (by simp)
    rw [Lib.indexByte, hc, ih (fun x hx => h x (by simp [hx]))]
    simp
def lined (L : List Bs) : Bs := L.flatMap (· ++ [10])
theorem pieces_lined (L : List Bs) (r : Bs) (h : ∀ l ∈ L, ∀ c ∈ l, c ≠ 10) (hr : ∀ c ∈ r, c ≠ 10) : ∀ n, L.length ≤ n → pieces n (lined L ++ r) = L.map (· ++ [10]) ++ [r] := by
  induction L with
  | nil =>
    intro n _
    show pieces n r = [r]
    cases n with
    | zero => rfl
    | succ n =>
      rw [pieces, indexByte_not r hr]
      simp
  | cons l L ih =>
    intro n hn
    cases n with
    | zero => simp at hn
    | succ n =>
      have e : lined (l :: L) ++ r = l ++ 10 :: (lined L ++ r) := by simp [lined]
      rw [e, pieces, indexByte_end l _ (h l (by simp))]
      rw [if_pos (by omega)]
      simp only [Int.toNat_natCast]
      have e1 : (l ++ 10 :: (lined L ++ r)).take (l.length + 1) = l ++ [10] := by
        rw [List.take_append]
        simp [List.take_of_length_le]
      have e2 : (l ++ 10 :: (lined L ++ r)).drop (l.length + 1) = lined L ++ r := by
        rw [← List.drop_drop, List.drop_left]
        rfl
      rw [e1, e2, ih (fun x hx => h x (by simp [hx])) n (by simpa using hn)]
      rfl
theorem lined_len (L : List Bs) : L.length ≤ (lined L).length := by
  induction L with
  | nil => simp
  | cons l L ih =>
    have : (lined (l :: L)).length = l.length + 1 + (lined L).length := by simp only [lined, List.flatMap_cons, List.length_append, List.length_singleton]
    simp only [List.length_cons]
    omega
theorem chomp_end (l : Bs) : chomp (l ++ [10]) = l := by
  unfold chomp Lib.trimSuffix
  have : Lib.hasSuffix (l ++ [10]) [10] = true := by simp [Lib.hasSuffix]
  rw [if_pos this]
  simp
theorem chomp_none (l : Bs) (h : ∀ c ∈ l, c ≠ 10) : chomp l = l := by
  unfold chomp Lib.trimSuffix
  rw [if_neg]
  simp only [Lib.hasSuffix, Bool.not_eq_true]
  rw [Bool.eq_false_iff]
  intro hs
  rw [List.isSuffixOf_iff_suffix] at hs
  obtain ⟨t, rfl⟩ := hs
  exact h 10 (by simp) rfl
theorem chomp_map (L : List Bs) : (L.map (· ++ [10])).map chomp = L := by
  rw [List.map_map]
  conv => rhs; rw [← List.map_id L]
  exact List.map_congr_left (fun l _ => chomp_end l)
/-- What a text of lines says. -/
theorem finish_run (L : List Bs) (r : Bs) (l : List Lk) (has : List Nat) (b : Bool) (h : ∀ x ∈ L, ∀ c ∈ x, c ≠ 10) (hr : ∀ c ∈ r, c ≠ 10) (hp : plainS (lined L ++ r) = true)
    (run : Run (L.map (· ++ [10]) ++ [r]) [] [] false l has b) (hk : check l = 0) : finish (lined L ++ r) = ⟨0, 0, l, has⟩ := by
  have hpc := pieces_lined L r h hr (lined L ++ r).length (by have := lined_len L; simp only [List.length_append]; omega)
  unfold finish after
  rw [hpc, List.take_length]
  have hg : Good (start (lined L ++ r)) [] [] false := by
    refine ⟨?_, rfl⟩
    unfold start badAt
    rw [if_pos hp]
    simp [Rd.zero]
  have := run _ hg
  simp only [this.rd, if_true]
  unfold Rd.ended
  rw [if_pos hk]
end Go.Proofs.YtpcmkjimdhlhiaaGreatDoor.S
