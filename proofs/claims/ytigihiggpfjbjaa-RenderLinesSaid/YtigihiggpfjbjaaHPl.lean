/- Plain: lines of a layout of texts with lines between. -/
import Derived.Test.YtigihiggpfjbjaaHLG
import Derived.Test.YtigihiggpfjbjaaPRxc
namespace Go.Proofs.Ytigihiggpfjbjaa.PR
open Go.RowKit Go.Proofs.YtigihiggpfjbjaaW.PrintWords Go.Proofs.YtigihiggpfjbjaaW.PrintLast Go.Proofs.YtigihiggpfjbjaaW.PrintMore
set_option linter.unusedVariables false
set_option linter.unusedSimpArgs false
/-- Behind each newline stand n blanks, and something else; ahead of it no blank. -/
def LineOK (n : Nat) (o : List Int) : Prop := ∀ p : Nat, o[p]? = some 10 → (∃ q c, p = q + 1 ∧ o[q]? = some c ∧ c ≠ 32) ∧ (∀ j : Nat, j < n → o[p + 1 + j]? = some 32) ∧ ∃ d, o[p + 1 + n]? = some d ∧ d ≠ 32
/-- A text's bytes. -/
def inkB (b : Int) : Prop := 32 < b ∧ b ≤ 126
def ink (l : List Int) : Prop := l ≠ [] ∧ ∀ b ∈ l, inkB b
structure J (n : Nat) (o : List Int) : Prop where
  ok : LineOK n o
  last : ∃ c, o.getLast? = some c ∧ c ≠ 32
theorem getLast_ink {l : List Int} (h : ink l) : ∃ c, l.getLast? = some c ∧ c ≠ 32 := by
  refine ⟨l.getLast h.1, List.getLast?_eq_some_getLast h.1, ?_⟩
  have := (h.2 _ (List.getLast_mem h.1)).1
  omega
theorem J.start {n : Nat} {l : List Int} (h : ink l) : J n l := ⟨fun p hp => by
  have := h.2 _ (List.mem_of_getElem? hp)
  unfold inkB at this
  omega, getLast_ink h⟩
theorem LineOK.app {n : Nat} {o t : List Int} (h : LineOK n o) (ht : ∀ b ∈ t, b ≠ 10) : LineOK n (o ++ t) := fun p hp => by
  rcases Nat.lt_or_ge p o.length with hl | hl
  · rw [List.getElem?_append_left hl] at hp
    obtain ⟨⟨q, c, e, hq, hc⟩, h2, d, hd, hd2⟩ := h p hp
    have lt : ∀ {i : Nat} {v : Int}, o[i]? = some v → (o ++ t)[i]? = some v := fun {i v} hi => by
      rw [List.getElem?_append_left (List.getElem?_eq_some_iff.1 hi).1]
      exact hi
    exact ⟨⟨q, c, e, lt hq, hc⟩, fun j hj => lt (h2 j hj), d, lt hd, hd2⟩
  · rw [List.getElem?_append_right hl] at hp
    exact absurd rfl (ht _ (List.mem_of_getElem? hp))
/-- A text behind, with a blank between, or none. -/
theorem J.text {n : Nat} {o l : List Int} (h : J n o) (k : Nat) (hl : ink l) : J n (o ++ List.replicate k 32 ++ l) := by
  refine ⟨LineOK.app (LineOK.app h.ok (fun b hb => by rw [List.eq_of_mem_replicate hb]; omega)) (fun b hb => by have := hl.2 b hb; unfold inkB at this; omega), ?_⟩
  obtain ⟨c, hc, hc2⟩ := getLast_ink hl
  exact ⟨c, by rw [List.getLast?_append, hc]; rfl, hc2⟩
/-- A line behind, and a text. -/
theorem J.line {n : Nat} {o l : List Int} (h : J n o) (hl : ink l) : J n (o ++ [10] ++ List.replicate n 32 ++ l) := by
  obtain ⟨c, hc, hc2⟩ := getLast_ink hl
  refine ⟨fun p hp => ?_, c, by rw [List.getLast?_append, hc]; rfl, hc2⟩
  have hbl : ∀ b ∈ List.replicate n (32 : Int) ++ l, b ≠ 10 := fun b hb => by
    rcases List.mem_append.1 hb with hb | hb
    · rw [List.eq_of_mem_replicate hb]; omega
    · have := hl.2 b hb; unfold inkB at this; omega
  have e : o ++ [10] ++ List.replicate n 32 ++ l = o ++ (10 :: (List.replicate n 32 ++ l)) := by simp
  rw [e] at hp ⊢
  rcases Nat.lt_trichotomy p o.length with hp1 | hp1 | hp1
  · rw [List.getElem?_append_left hp1] at hp
    obtain ⟨⟨q, c, e, hq, hc⟩, h2, d, hd, hd2⟩ := h.ok p hp
    have lt : ∀ {i : Nat} {v : Int}, o[i]? = some v → (o ++ (10 :: (List.replicate n 32 ++ l)))[i]? = some v := fun {i v} hi => by
      rw [List.getElem?_append_left (List.getElem?_eq_some_iff.1 hi).1]
      exact hi
    exact ⟨⟨q, c, e, lt hq, hc⟩, fun j hj => lt (h2 j hj), d, lt hd, hd2⟩
  · subst hp1
    obtain ⟨c0, h0, h02⟩ := h.last
    have hne : o ≠ [] := fun e => by rw [e] at h0; cases h0
    have hlen : 0 < o.length := List.length_pos_iff.2 hne
    rw [List.getLast?_eq_getElem?] at h0
    refine ⟨⟨o.length - 1, c0, by omega, ?_, h02⟩, fun j hj => ?_, l.head hl.1, ?_, ?_⟩
    · rw [List.getElem?_append_left (by omega)]
      exact h0
    · rw [List.getElem?_append_right (by omega), show o.length + 1 + j - o.length = j + 1 by omega, List.getElem?_cons_succ, List.getElem?_append_left (by simpa using hj)]
      simp [hj]
    · rw [List.getElem?_append_right (by omega), show o.length + 1 + n - o.length = n + 1 by omega, List.getElem?_cons_succ, List.getElem?_append_right (by simp)]
      simp only [List.length_replicate, Nat.sub_self]
      rw [← List.head?_eq_getElem?, List.head?_eq_some_head hl.1]
    · have := (hl.2 _ (List.head_mem hl.1)).1
      omega
  · rw [List.getElem?_append_right (by omega)] at hp
    obtain ⟨m, hm⟩ : ∃ m, p - o.length = m + 1 := ⟨p - o.length - 1, by omega⟩
    rw [hm, List.getElem?_cons_succ] at hp
    exact absurd rfl (hbl _ (List.mem_of_getElem? hp))
/-- The row: a text, then for each item what stands between, and a text. -/
def T1 (s : ByteArray) : S24 := ⟨1, 0, s, []⟩
def K1 (k : Int) : S24 := ⟨k, 0, ⟨#[]⟩, []⟩
def rowD : List (Int × ByteArray) → List S24
  | [] => []
  | (k, s) :: r => K1 k :: T1 s :: rowD r
def okIt (it : Int × ByteArray) : Prop := (it.1 = 2 ∨ it.1 = 3 ∨ it.1 = 4) ∧ ink (bytesOf it.2) ∧ it.2.size ≤ 20
theorem ink_ne {s : ByteArray} (h : ink (bytesOf s)) : s.toList.isEmpty = false := by
  cases he : s.toList.isEmpty
  · rfl
  · exfalso
    apply h.1
    rw [emp_of_isEmpty he, bytesOf_nil]
theorem row_J (wd : Int) (n : Nat) (f : Bool) : ∀ (r : List (Int × ByteArray)) (fr : Int) (S : St), (∀ it ∈ r, okIt it) → S.pen = 0 → J n S.out → J n (rendL wd (rowD r) (n : Int) f fr S).out
  | [], _, S, _, _, h => h
  | (k, s) :: r, fr, S, hr, hp, h => by
    obtain ⟨hk, hi, hsz⟩ := hr (k, s) List.mem_cons_self
    have hr2 := fun it hit => hr it (List.mem_cons_of_mem _ hit)
    simp only at hk hi
    have hne := ink_ne hi
    rw [rowD, rendL, rendL]
    refine row_J wd n f r fr _ hr2 ?_ ?_
    · unfold T1
      rw [rend, if_pos rfl]
      unfold textP
      rw [hne, if_neg (by decide)]
    · have e1 : rend wd (K1 k) (n : Int) f (frL (T1 s :: rowD r) fr) S = if f = false ∨ k = 4 then lineP (n : Int) S else if k = 2 then textP (⟨#[32]⟩ : ByteArray) 1 S else S := by
        unfold K1
        rw [rend, if_neg (by omega), if_pos hk]
      have e2 : ∀ S : St, (rend wd (T1 s) (n : Int) f (frL (rowD r) fr) S).out = S.out ++ List.replicate S.pen 32 ++ bytesOf s := fun S => by
        unfold T1
        rw [rend, if_pos rfl]
        unfold textP
        rw [hne, if_neg (by decide)]
      rw [e2, e1]
      split
      · unfold lineP
        simp only [Int.toNat_natCast]
        exact h.line hi
      · split
        · unfold textP
          rw [blank_toList, if_neg (by decide)]
          simp only [hp, List.replicate_zero, List.append_nil]
          rw [show bytesOf (⟨#[32]⟩ : ByteArray) = List.replicate 1 32 from rfl]
          exact h.text 1 hi
        · rw [hp]
          exact h.text 0 hi
/-- What RenderLines lays out. -/
def linD (n : Nat) (s : ByteArray) (r : List (Int × ByteArray)) : S24 := ⟨7, 0, ⟨#[]⟩, [⟨6, (n : Int), ⟨#[]⟩, T1 s :: rowD r⟩]⟩
theorem lin_J (wd : Int) (n : Nat) (s : ByteArray) (r : List (Int × ByteArray)) (hs : ink (bytesOf s)) (hr : ∀ it ∈ r, okIt it) : J n (renS (linD n s r) wd).out := by
  unfold renS linD
  have e : ∀ (f : Bool) (fr : Int) (S : St), rendL wd [⟨6, (n : Int), ⟨#[]⟩, T1 s :: rowD r⟩] 0 f fr S = rendL wd (T1 s :: rowD r) (n : Int) f (frL [] fr) S := fun f fr S => by
    rw [rendL, rendL, rend, if_neg (by decide), if_neg (by decide), if_neg (by decide), Int.zero_add]
  rw [rend, if_neg (show ¬ ((7 : Int) = 1) by decide), if_neg (show ¬ ((7 : Int) = 2 ∨ (7 : Int) = 3 ∨ (7 : Int) = 4) by decide), if_pos rfl, e, rendL]
  have hne := ink_ne hs
  refine row_J wd n _ r _ _ hr ?_ ?_
  · unfold T1
    rw [rend, if_pos rfl]
    unfold textP
    rw [hne, if_neg (by decide)]
  · unfold T1
    rw [rend, if_pos rfl]
    unfold textP
    rw [hne, if_neg (by decide)]
    exact J.start hs
theorem ink_has {s : ByteArray} (h : ink (bytesOf s)) : has10 s = false := by
  unfold has10
  cases hc : s.data.toList.contains 10
  · rfl
  · exfalso
    have h1 := List.contains_iff_mem.1 hc
    have h2 : (10 : Int) ∈ bytesOf s := List.mem_map.2 ⟨10, h1, rfl⟩
    have := h.2 _ h2
    unfold inkB at this
    omega
theorem row_own : ∀ (r : List (Int × ByteArray)), (∀ it ∈ r, okIt it) → allOwnL (rowD r) = true ∧ finDL (rowD r) ∧ cntL (rowD r) = 2 * r.length ∧ depL (rowD r) ≤ 1 ∧ (rowD r).length = 2 * r.length
  | [], _ => ⟨rfl, trivial, rfl, Nat.zero_le _, rfl⟩
  | (k, s) :: r, hr => by
    obtain ⟨hk, hi, hsz⟩ := hr (k, s) List.mem_cons_self
    simp only at hk hi hsz
    obtain ⟨a, b, c, d, e⟩ := row_own r (fun it hit => hr it (List.mem_cons_of_mem _ hit))
    refine ⟨?_, ⟨⟨by show 0 ≤ 100; omega, by show 0 ≤ 500; omega, trivial⟩, ⟨by show s.size ≤ 100; omega, by show 0 ≤ 500; omega, trivial⟩, b⟩, ?_, ?_, ?_⟩
    · rw [rowD, allOwnL, allOwnL, a, Bool.and_true, Bool.and_eq_true, allOwn_eq, allOwn_eq]
      refine ⟨?_, ?_⟩
      · rcases hk with rfl | rfl | rfl <;> simp [K1, ownB, allOwnL, emp_toList]
      · simp [T1, ownB, allOwnL, ink_has hi]
    · rw [rowD, cntL, cntL, c]
      simp only [cnt, K1, T1, cntL, List.length_cons]
      omega
    · rw [rowD, depL, depL]
      simp only [dep, K1, T1, depL]
      omega
    · rw [rowD]
      simp only [List.length_cons, e]
      omega
theorem lin_may (n : Nat) (s : ByteArray) (r : List (Int × ByteArray)) (hn : n ≤ 20) (hl : r.length ≤ 20) (hs : ink (bytesOf s)) (hsz : s.size ≤ 20) (hr : ∀ it ∈ r, okIt it) : mayB (linD n s r) = true ∧ finD (linD n s r) ∧ cnt (linD n s r) ≤ 100 := by
  obtain ⟨a, b, c, d, e⟩ := row_own r hr
  have hc : cnt (linD n s r) = 3 + 2 * r.length := by
    rw [cnt_eq, linD]
    simp only [cntL, cnt, T1, c]
    omega
  refine ⟨?_, ⟨by show 0 ≤ 100; omega, by show 1 ≤ 500; omega, ⟨by show 0 ≤ 100; omega, by show (T1 s :: rowD r).length ≤ 500; rw [List.length_cons, e]; omega, ⟨by show s.size ≤ 100; omega, by show 0 ≤ 500; omega, trivial⟩, b⟩, trivial⟩, by omega⟩
  unfold mayB
  rw [Bool.and_eq_true, Bool.and_eq_true, decide_eq_true_eq, decide_eq_true_eq]
  refine ⟨⟨?_, ?_⟩, by omega⟩
  · rw [linD]
    simp only [allOwn, allOwnL, a, Bool.and_true]
    simp [ownB, emp_toList, T1, allOwn, allOwnL, ink_has hs]
    omega
  · rw [dep_eq, linD]
    simp only [depL, dep, T1]
    omega
/-! ### where lines begin -/
def posL : List Int → Nat → List Int
  | [], _ => []
  | b :: r, i => if b = 10 then ((i + 1 : Nat) : Int) :: posL r (i + 1) else posL r (i + 1)
theorem posL_len : ∀ (l : List Int) (i : Nat), (posL l i).length ≤ l.length
  | [], _ => Nat.le_refl _
  | b :: r, i => by
    have h := posL_len r (i + 1)
    unfold posL
    split <;> simp only [List.length_cons] <;> omega
theorem posL_mem : ∀ (l : List Int) (i : Nat) (x : Int), x ∈ posL l i → ∃ p : Nat, x = ((i + p + 1 : Nat) : Int) ∧ l[p]? = some 10
  | [], _, x, h => by cases h
  | b :: r, i, x, h => by
    unfold posL at h
    split at h
    · rename_i hb
      rcases List.mem_cons.1 h with rfl | h
      · exact ⟨0, rfl, by rw [hb]; rfl⟩
      · obtain ⟨p, e, hp⟩ := posL_mem r (i + 1) x h
        exact ⟨p + 1, by rw [e]; congr 1; omega, hp⟩
    · obtain ⟨p, e, hp⟩ := posL_mem r (i + 1) x h
      exact ⟨p + 1, by rw [e]; congr 1; omega, hp⟩
theorem linesR (s : ByteArray) (hs : s.size ≤ 10000000000) : Ev (fun k => galleyref1_Lines.f k s) (0 :: posL (bytesOf s) 0) := by
  have hlen : (bytesOf s).length = s.size := bytesOf_length s
  have loop : ∀ d i : Nat, ∀ acc : List Int, s.size - i = d → i ≤ s.size → acc.length ≤ i + 1 → Ev (fun k => galleyref1_Lines.l0 k s acc (i : Int)) (acc ++ posL ((bytesOf s).drop i) i) := by
    intro d
    induction d with
    | zero =>
      intro i acc hd hi ha
      rw [List.drop_eq_nil_of_le (by omega), posL, List.append_nil]
      exact Ev.step (f := fun _ => some acc) (fun k => by simp only [galleyref1_Lines.l0]; rw [if_neg (by omega)]) (Ev.now _)
    | succ d ihd =>
      intro i acc hd hi ha
      have hil : i < s.size := by omega
      have hl : i < (bytesOf s).length := by omega
      have e : (bytesOf s)[i] = bt s (i : Int) := by
        rw [← rd_bytesOf]
        simp [rd, List.getD_eq_getElem?_getD, hl]
      rw [List.drop_eq_getElem_cons hl, posL, e]
      have hw : wrap64 ((i : Int) + 1) = ((i + 1 : Nat) : Int) := by unfold wrap64; omega
      by_cases hb : bt s (i : Int) = 10
      · rw [if_pos hb]
        have h := ihd (i + 1) (acc ++ [((i + 1 : Nat) : Int)]) (by omega) (by omega) (by rw [List.length_append]; simp only [List.length_cons, List.length_nil]; omega)
        rw [List.append_assoc] at h
        exact Ev.step (fun k => by simp only [galleyref1_Lines.l0]; rw [if_pos (by omega), if_pos (by omega), if_pos hb, if_pos (by omega), hw]) h
      · rw [if_neg hb]
        exact Ev.step (fun k => by simp only [galleyref1_Lines.l0]; rw [if_pos (by omega), if_pos (by omega), if_neg hb, hw]) (ihd (i + 1) acc (by omega) (by omega) (by omega))
  have h := loop s.size 0 [0] (by omega) (by omega) (by simp)
  rw [List.drop_zero] at h
  exact h
/-! ### the row, as it grows -/
def docsV (sF : Nat → ByteArray) (kF : Nat → Int) : Nat → List S24
  | 0 => []
  | i + 1 => docsV sF kF i ++ (if i = 0 then [T1 (sF i)] else [K1 (kF i), T1 (sF i)])
def itemsV (sF : Nat → ByteArray) (kF : Nat → Int) : Nat → List (Int × ByteArray)
  | 0 => []
  | i + 1 => itemsV sF kF i ++ [(kF (i + 1), sF (i + 1))]
theorem rowD_append : ∀ (a b : List (Int × ByteArray)), rowD (a ++ b) = rowD a ++ rowD b
  | [], _ => rfl
  | (k, s) :: r, b => by rw [List.cons_append, rowD, rowD, rowD_append r b]; rfl
theorem docsV_items (sF : Nat → ByteArray) (kF : Nat → Int) : ∀ i, docsV sF kF (i + 1) = T1 (sF 0) :: rowD (itemsV sF kF i)
  | 0 => rfl
  | i + 1 => by
    rw [docsV, docsV_items sF kF i, itemsV, rowD_append, if_neg (by omega)]
    rfl
theorem itemsV_ok {sF : Nat → ByteArray} {kF : Nat → Int} {n : Nat} (hs : ∀ i, i < n → ink (bytesOf (sF i)) ∧ (sF i).size ≤ 20) (hk : ∀ i, kF i = 2 ∨ kF i = 3 ∨ kF i = 4) : ∀ i, i + 1 ≤ n → (∀ it ∈ itemsV sF kF i, okIt it) ∧ (itemsV sF kF i).length = i
  | 0, _ => ⟨fun it h => (by cases h), rfl⟩
  | i + 1, hi => by
    obtain ⟨a, b⟩ := itemsV_ok hs hk i (by omega)
    refine ⟨fun it h => ?_, by rw [itemsV, List.length_append, b]; rfl⟩
    rcases List.mem_append.1 h with h | h
    · exact a it h
    · rw [List.mem_singleton.1 h]
      exact ⟨hk _, (hs (i + 1) (by omega)).1, (hs (i + 1) (by omega)).2⟩
theorem docsV_len (sF : Nat → ByteArray) (kF : Nat → Int) : ∀ i, (docsV sF kF i).length ≤ 2 * i
  | 0 => Nat.le_refl _
  | i + 1 => by
    have h := docsV_len sF kF i
    rw [docsV, List.length_append]
    split <;> simp only [List.length_cons, List.length_nil] <;> omega
theorem ink_of (s : ByteArray) (h0 : 0 < s.size) (h : ∀ i : Nat, i < s.size → 32 < bt s (i : Int) ∧ bt s (i : Int) ≤ 126) : ink (bytesOf s) := by
  refine ⟨fun e => ?_, fun b hb => ?_⟩
  · have := bytesOf_length s
    rw [e] at this
    simp at this
    omega
  · obtain ⟨i, hi, rfl⟩ := List.getElem_of_mem hb
    have hl : i < s.size := by rw [← bytesOf_length]; exact hi
    have e : (bytesOf s)[i] = bt s (i : Int) := by
      rw [← rd_bytesOf]
      simp [rd, List.getD_eq_getElem?_getD, hi]
    rw [e]
    exact h i hl
theorem bt_get (s : ByteArray) (i : Nat) (b : Int) (h : (bytesOf s)[i]? = some b) : i < s.size ∧ bt s (i : Int) = b := by
  obtain ⟨hi, e⟩ := List.getElem?_eq_some_iff.1 h
  refine ⟨by rw [← bytesOf_length]; exact hi, ?_⟩
  rw [← e, ← rd_bytesOf]
  simp [rd, List.getD_eq_getElem?_getD, hi]
/-- A leaf's cells in a row of our own. -/
theorem leaf_row {w : World} {g : Nat} {y : S24} (hb : w.heap[g]? = some (.cells #[.int .i64 y.f0, .int .i64 y.f1, .string y.f2, .slice none 0 0] 24 (0, 0))) : ReadsRow (fun (x : S24) (cs : List Value) => x = y ∧ cs = [.int .i64 y.f0, .int .i64 y.f1, .string y.f2, .slice none 0 0]) 4 w (some ⟨g, 0, none⟩) 1 [y] := by
  refine ⟨rfl, by decide, fun _ => ⟨⟨g, 0, none⟩, rfl, fun j p hj => ?_⟩⟩
  have hj0 : j = 0 := by have := (List.getElem?_eq_some_iff.1 hj).1; simp at this; exact this
  subst hj0
  obtain rfl : y = p := by simpa using hj
  refine ⟨_, rfl, ⟨rfl, rfl⟩, fun i u hu => ?_⟩
  rw [add_plain, blk_cell hb]
  simpa using hu
theorem leaf_M {w : World} {base : Nat} {okp : Nat → Prop} {y : S24} (hy : y.f3 = []) : ∀ (x : S24) (cs : List Value), (x = y ∧ cs = [.int .i64 y.f0, .int .i64 y.f1, .string y.f2, .slice none 0 0]) → k24.M w base okp x cs := fun x cs h => by
  obtain ⟨rfl, rfl⟩ := h
  exact k24_mkM w base okp x (by rw [hy]; exact Kd.R_nil _ _ _ _ _)
theorem info24 : (Try.prog.info? 24).map (fun i => (i.zero, i.size, i.bytes)) = some (some (.agg #[.int .i64 0, .int .i64 0, .string (⟨#[]⟩ : ByteArray), .slice none 0 0]), 4, 56) := by kernel_rfl
theorem row_start {w : World} {g B : Nat} {ok : Nat → Prop} (hb : w.heap[g]? = some (.cells #[] 24 (0, 0))) (hB : B ≤ g) (hok : ok g) : k24.R 24 w B ok (.slice (some ⟨g, 0, none⟩) 0 0) [] :=
  ⟨fun k hk => (by cases hk; exact hok), [], ⟨rfl, Or.inr ⟨g, 0, #[], rfl, hB, hb, Nat.le_refl _, by decide, by rfl, rfl⟩⟩, rfl, fun j p hj => by simp at hj⟩
theorem text_at {w : World} {A : Option Addr} {l : List ByteArray} (h : Kd.C Kd.string w A l.length l) (i : Nat) (hi : i < l.length) : ∃ ad, A = some ad ∧ w.cell? (ad.add i) = some (.string l[i]) := by
  obtain ⟨_, _, h3⟩ := h
  obtain ⟨ad, e, h4⟩ := h3 (by omega)
  obtain ⟨cs, h5, h6, h7⟩ := h4 i l[i] (by simp [hi])
  obtain rfl : cs = [.string l[i]] := h6
  exact ⟨ad, e, by simpa [Kd.string, Kd.scalar] using h7 0 _ rfl⟩
theorem int_at {w : World} {A : Option Addr} {l : List Int} {n : Nat} (h : Kd.C (Kd.int .i64) w A n l) (i : Nat) (hi : i < l.length) : ∃ ad, A = some ad ∧ w.cell? (ad.add i) = some (.int .i64 l[i]) := by
  obtain ⟨e0, _, h3⟩ := h
  obtain ⟨ad, e, h4⟩ := h3 (by omega)
  obtain ⟨cs, h5, h6, h7⟩ := h4 i l[i] (by simp [hi])
  obtain rfl : cs = [.int .i64 l[i]] := h6
  exact ⟨ad, e, by simpa [Kd.int, Kd.scalar] using h7 0 _ rfl⟩
end Go.Proofs.Ytigihiggpfjbjaa.PR
