/- The plain law of pools: keys are one just where trees are like. -/
import Derived.Test.YtjlnlonioknkhaaDoorHD4
import Derived.Lib.ItoaMem
namespace Go.Proofs.YtjlnlonioknkhaaDoor.PL
open Go.RowKit Go.Proofs.YtjlnlonioknkhaaDoorW.PrintWords Go.Proofs.YtjlnlonioknkhaaDoorW.PrintLast Go.Proofs.YtjlnlonioknkhaaDoorW.PrintMore
set_option linter.unusedVariables false
set_option linter.unusedSimpArgs false

/-! ### numerals -/
def isDig (b : UInt8) : Bool := decide (48 ≤ b.toNat) && decide (b.toNat ≤ 57)
theorem dig_one (k : Nat) (h : k < 10) : (UInt8.ofNat (48 + k)).toNat = 48 + k := by
  rw [UInt8.toNat_ofNat']; omega
theorem dec_eq (u : Nat) : Lib.decDigits u = if u < 10 then [UInt8.ofNat (48 + u)] else Lib.decDigits (u / 10) ++ [UInt8.ofNat (48 + u % 10)] := by
  rw [Lib.decDigits]; split <;> rfl
theorem dec_dig (u : Nat) : ∀ b ∈ Lib.decDigits u, isDig b = true := by
  induction u using Nat.strongRecOn with
  | _ u ih =>
  intro b hb
  rw [dec_eq] at hb
  by_cases h : u < 10
  · rw [if_pos h] at hb
    rw [List.mem_singleton.1 hb, isDig, dig_one u h]
    simp; omega
  · rw [if_neg h] at hb
    rcases List.mem_append.1 hb with hb | hb
    · exact ih (u / 10) (by omega) b hb
    · rw [List.mem_singleton.1 hb, isDig, dig_one (u % 10) (by omega)]
      simp; omega
def decVal (l : List UInt8) : Nat := l.foldl (fun a b => a * 10 + (b.toNat - 48)) 0
theorem dec_val (u : Nat) : decVal (Lib.decDigits u) = u := by
  induction u using Nat.strongRecOn with
  | _ u ih =>
  rw [dec_eq]
  by_cases h : u < 10
  · rw [if_pos h]
    simp only [decVal, List.foldl_cons, List.foldl_nil, dig_one u h]
    omega
  · rw [if_neg h]
    have := ih (u / 10) (by omega)
    unfold decVal at this ⊢
    rw [List.foldl_append, this]
    simp only [List.foldl_cons, List.foldl_nil, dig_one (u % 10) (by omega)]
    omega
theorem dec_inj {a b : Nat} (h : Lib.decDigits a = Lib.decDigits b) : a = b := by rw [← dec_val a, h, dec_val]
theorem dec_ne (u : Nat) : ∃ b r, Lib.decDigits u = b :: r ∧ isDig b = true := by
  cases h : Lib.decDigits u with
  | nil =>
    rw [dec_eq] at h
    by_cases h10 : u < 10
    · rw [if_pos h10] at h; cases h
    · rw [if_neg h10] at h; simp at h
  | cons b r => exact ⟨b, r, rfl, dec_dig u b (by rw [h]; exact List.mem_cons_self)⟩
theorem dig_split : ∀ (a b : List UInt8) (c d : UInt8) (r s : List UInt8), (∀ x ∈ a, isDig x = true) → (∀ x ∈ b, isDig x = true) → isDig c = false → isDig d = false → a ++ c :: r = b ++ d :: s → a = b ∧ c = d ∧ r = s
  | [], [], c, d, r, s, _, _, _, _, h => by simpa using h
  | [], y :: b, c, d, r, s, _, hb, hc, _, h => by
    have h1 : c = y := by simpa using (List.cons.inj h).1
    have := hb y List.mem_cons_self
    rw [← h1, hc] at this; cases this
  | x :: a, [], c, d, r, s, ha, _, _, hd, h => by
    have h1 : x = d := by simpa using (List.cons.inj h).1
    have := ha x List.mem_cons_self
    rw [h1, hd] at this; cases this
  | x :: a, y :: b, c, d, r, s, ha, hb, hc, hd, h => by
    obtain ⟨h1, h2⟩ := List.cons.inj h
    obtain ⟨h3, h4, h5⟩ := dig_split a b c d r s (fun z hz => ha z (List.mem_cons_of_mem _ hz)) (fun z hz => hb z (List.mem_cons_of_mem _ hz)) hc hd h2
    exact ⟨by rw [h1, h3], h4, h5⟩
/-! ### texts as one -/
def tl : List ByteArray → List UInt8
  | [] => []
  | s :: r => Lib.decDigits s.size ++ 58 :: (s.data.toList ++ tl r)
theorem data_append (a b : ByteArray) : (a ++ b).data.toList = a.data.toList ++ b.data.toList := by simp
theorem itoaB_list (n : Nat) : (itoaB (n : Int)).data.toList = Lib.decDigits n := by
  show (Lib.itoa (n : Int)).toArray.toList = _
  rw [Lib.itoa_nonneg]
theorem textsF_list : ∀ (l : List ByteArray) (o : ByteArray), (textsF l o).data.toList = o.data.toList ++ tl l
  | [], o => by simp [textsF, tl]
  | s :: r, o => by
    rw [textsF, textsF_list r]
    rw [data_append, data_append, data_append, itoaB_list]
    simp [tl]
theorem ba_ext {a b : ByteArray} (h : a.data.toList = b.data.toList) : a = b := by
  obtain ⟨⟨x⟩⟩ := a
  obtain ⟨⟨y⟩⟩ := b
  simp only at h
  rw [h]
theorem tl_inj : ∀ (l m : List ByteArray) (r s : List UInt8), (r = [] ∨ ∃ t, r = 59 :: t) → (s = [] ∨ ∃ t, s = 59 :: t) → tl l ++ r = tl m ++ s → l = m ∧ r = s
  | [], [], r, s, _, _, h => ⟨rfl, by simpa [tl] using h⟩
  | [], y :: m, r, s, hr, _, h => by
    obtain ⟨b, q, e, hb⟩ := dec_ne y.size
    simp only [tl, List.nil_append, e, List.cons_append] at h
    rcases hr with rfl | ⟨t, rfl⟩
    · cases h
    · have := (List.cons.inj h).1
      rw [← this] at hb; simp [isDig] at hb
  | x :: l, [], r, s, _, hs, h => by
    obtain ⟨b, q, e, hb⟩ := dec_ne x.size
    simp only [tl, List.nil_append, e, List.cons_append] at h
    rcases hs with rfl | ⟨t, rfl⟩
    · cases h
    · have := (List.cons.inj h).1
      rw [this] at hb; simp [isDig] at hb
  | x :: l, y :: m, r, s, hr, hs, h => by
    simp only [tl, List.append_assoc, List.cons_append] at h
    obtain ⟨h1, _, h2⟩ := dig_split _ _ 58 58 _ _ (dec_dig x.size) (dec_dig y.size) (by decide) (by decide) h
    have hsz := dec_inj h1
    have hlen : x.data.toList.length = y.data.toList.length := by simpa using hsz
    obtain ⟨h3, h4⟩ := List.append_inj h2 hlen
    obtain ⟨h5, h6⟩ := tl_inj l m r s hr hs h4
    exact ⟨by rw [ba_ext h3, h5], h6⟩
theorem notes_inj {a b c d : List ByteArray} (h : (textsF a E0 ++ (⟨#[59]⟩ : ByteArray)) ++ textsF b E0 = (textsF c E0 ++ (⟨#[59]⟩ : ByteArray)) ++ textsF d E0) : a = c ∧ b = d := by
  have h1 := congrArg (fun s => s.data.toList) h
  simp only [data_append, textsF_list] at h1
  have e : E0.data.toList = [] := rfl
  have e2 : (⟨#[59]⟩ : ByteArray).data.toList = [59] := rfl
  simp only [List.nil_append, List.append_assoc, List.singleton_append] at h1
  obtain ⟨h2, h3⟩ := tl_inj a c _ _ (Or.inr ⟨_, rfl⟩) (Or.inr ⟨_, rfl⟩) h1
  have h4 := (List.cons.inj h3).2
  obtain ⟨h5, _⟩ := tl_inj b d [] [] (Or.inl rfl) (Or.inl rfl) (by simpa using h4)
  exact ⟨h2, h5⟩
/-! ### numbers as one -/
def nl : List Nat → List UInt8
  | [] => []
  | n :: r => Lib.decDigits n ++ 44 :: nl r
theorem nl_inj : ∀ (l m : List Nat), nl l = nl m → l = m
  | [], [], _ => rfl
  | [], y :: m, h => by obtain ⟨b, q, e, hb⟩ := dec_ne y; simp [nl, e] at h
  | x :: l, [], h => by obtain ⟨b, q, e, hb⟩ := dec_ne x; simp [nl, e] at h
  | x :: l, y :: m, h => by
    simp only [nl] at h
    obtain ⟨h1, _, h2⟩ := dig_split _ _ 44 44 _ _ (dec_dig x) (dec_dig y) (by decide) (by decide) h
    rw [dec_inj h1, nl_inj l m h2]
def lstN : List Nat → ByteArray → ByteArray
  | [], o => o
  | n :: r, o => lstN r ((o ++ itoaB (n : Int)) ++ (⟨#[44]⟩ : ByteArray))
theorem lstN_list : ∀ (l : List Nat) (o : ByteArray), (lstN l o).data.toList = o.data.toList ++ nl l
  | [], o => by simp [lstN, nl]
  | n :: r, o => by
    rw [lstN, lstN_list r, data_append, data_append, itoaB_list]
    simp [nl]
theorem lstN_inj {l m : List Nat} (h : lstN l E0 = lstN m E0) : l = m := by
  have h1 := congrArg (fun s => s.data.toList) h
  simp only [lstN_list] at h1
  exact nl_inj l m (by simpa using h1)
/-! ### likeness: one without the breaks -/
mutual
def cn : S32 → S32
  | ⟨a, b, l, _, d, e, f⟩ => ⟨a, b, cnL l, false, d, e, f⟩
def cnL : List S32 → List S32
  | [] => []
  | x :: r => cn x :: cnL r
end
theorem cn_eq (x : S32) : cn x = ⟨x.f0, x.f1, cnL x.f2, false, x.f4, x.f5, x.f6⟩ := by cases x; rfl
theorem sEq_iff : ∀ l m : List ByteArray, sEq l m = true ↔ l = m
  | [], [] => by simp [sEq]
  | [], _ :: _ => by simp [sEq]
  | _ :: _, [] => by simp [sEq]
  | a :: r, b :: s => by
    simp only [sEq, Bool.and_eq_true, beq_iff_eq, sEq_iff r s, List.cons.injEq]
    exact ⟨fun ⟨h1, h2⟩ => ⟨toList_inj h1, h2⟩, fun ⟨h1, h2⟩ => ⟨by rw [h1], h2⟩⟩
mutual
theorem like_iff : ∀ x y : S32, likeB false x y = true ↔ cn x = cn y
  | ⟨a, b, l, c, d, e, f⟩, y => by
    rw [likeB_eq, cn_eq, cn_eq y]
    simp only [Bool.and_eq_true, beq_iff_eq, sEq_iff, likeL_iff l y.f2, Bool.not_false, Bool.true_or, S32.mk.injEq, true_and]
    constructor
    · rintro ⟨⟨⟨⟨⟨⟨h1, h2⟩, h3⟩, _⟩, h4⟩, h5⟩, h6⟩
      exact ⟨h1, toList_inj h2, h6, h3, h4, h5⟩
    · rintro ⟨h1, h2, h6, h3, h4, h5⟩
      exact ⟨⟨⟨⟨⟨⟨h1, by rw [h2]⟩, h3⟩, trivial⟩, h4⟩, h5⟩, h6⟩
theorem likeL_iff : ∀ l m : List S32, likeL false l m = true ↔ cnL l = cnL m
  | [], [] => by simp [likeL, cnL]
  | [], _ :: _ => by simp [likeL, cnL]
  | _ :: _, [] => by simp [likeL, cnL]
  | x :: r, y :: s => by
    simp only [likeL, cnL, Bool.and_eq_true, like_iff x y, likeL_iff r s, List.cons.injEq]
end
mutual
theorem cn_count : ∀ x : S32, (pre (cn x)).length = (pre x).length
  | ⟨a, b, l, c, d, e, f⟩ => by
    rw [cn_eq, pre_eq, pre_eq]
    simp only [List.length_cons, cnL_count l]
theorem cnL_count : ∀ l : List S32, (preL (cnL l)).length = (preL l).length
  | [] => rfl
  | x :: r => by simp only [cnL, preL, List.length_append, cn_count x, cnL_count r]
end
theorem like_count {x y : S32} (h : likeB false x y = true) : (pre x).length = (pre y).length := by
  rw [← cn_count x, (like_iff x y).1 h, cn_count]
theorem cnL_eq (l : List S32) : cnL l = l.map cn := by
  induction l with
  | nil => rfl
  | cons x r ih => simp [cnL, ih]
/-! ### the document's pool -/
/-- The first one that is like it. -/
def refIdx (x : S32) : List S32 → Nat → Option Nat
  | [], _ => none
  | r :: all, i => if likeB false r x then some i else refIdx x all (i + 1)
theorem refIdx_cn {x y : S32} (h : cn x = cn y) : ∀ (all : List S32) (i : Nat), refIdx x all i = refIdx y all i
  | [], _ => rfl
  | r :: all, i => by
    have e : likeB false r x = likeB false r y := by rw [Bool.eq_iff_iff, like_iff, like_iff, h]
    unfold refIdx
    rw [e, refIdx_cn h all (i + 1)]
theorem refIdx_some (x : S32) : ∀ (all : List S32) (i j : Nat), refIdx x all i = some j → ∃ r, i ≤ j ∧ all[j - i]? = some r ∧ cn r = cn x
  | [], i, j, h => by simp [refIdx] at h
  | r :: all, i, j, h => by
    unfold refIdx at h
    by_cases hl : likeB false r x = true
    · rw [if_pos hl] at h
      obtain rfl : i = j := by simpa using h
      exact ⟨r, Nat.le_refl _, by simp, (like_iff _ _).1 hl⟩
    · rw [if_neg hl] at h
      obtain ⟨q, h1, h2, h3⟩ := refIdx_some x all (i + 1) j h
      refine ⟨q, by omega, ?_, h3⟩
      rw [show j - i = (j - (i + 1)) + 1 by omega, List.getElem?_cons_succ]
      exact h2
theorem refIdx_lt {x : S32} {all : List S32} {j : Nat} (h : refIdx x all 0 = some j) : j < all.length := by
  obtain ⟨r, _, h2, _⟩ := refIdx_some x all 0 j h
  exact (List.getElem?_eq_some_iff.1 h2).1
theorem refIdx_inj {x y : S32} {all : List S32} {j : Nat} (h : refIdx x all 0 = some j) (k : refIdx y all 0 = some j) : cn x = cn y := by
  obtain ⟨r, _, h2, h3⟩ := refIdx_some x all 0 j h
  obtain ⟨q, _, k2, k3⟩ := refIdx_some y all 0 j k
  rw [h2] at k2
  obtain rfl : r = q := by simpa using k2
  rw [← h3, ← k3]
theorem refIdx_append (x : S32) (ext : List S32) : ∀ (all : List S32) (i j : Nat), refIdx x all i = some j → refIdx x (all ++ ext) i = some j
  | [], i, j, h => by simp [refIdx] at h
  | r :: all, i, j, h => by
    unfold refIdx at h
    rw [List.cons_append]
    unfold refIdx
    by_cases hl : likeB false r x = true
    · rw [if_pos hl] at h ⊢; exact h
    · rw [if_neg hl] at h ⊢; exact refIdx_append x ext all (i + 1) j h
theorem refIdx_new (x : S32) : ∀ (all : List S32) (i : Nat), refIdx x all i = none → refIdx x (all ++ [x]) i = some (i + all.length)
  | [], i, _ => by
    have : likeB false x x = true := likeB_refl false x
    simp [refIdx, this]
  | r :: all, i, h => by
    unfold refIdx at h
    rw [List.cons_append]
    unfold refIdx
    by_cases hl : likeB false r x = true
    · rw [if_pos hl] at h; cases h
    · rw [if_neg hl] at h ⊢
      rw [refIdx_new x all (i + 1) h]
      simp only [List.length_cons]; congr 1; omega
/-- A node's number in a row of nodes: from 1 on. -/
def num (all : List S32) (x : S32) : Nat := match refIdx x all 0 with | some j => j + 1 | none => 0
theorem num_of {all : List S32} {x : S32} {j : Nat} (h : refIdx x all 0 = some j) : num all x = j + 1 := by unfold num; rw [h]
def Has (all : List S32) (x : S32) : Prop := ∃ j, refIdx x all 0 = some j
theorem Has.append {all : List S32} {x : S32} (h : Has all x) (ext : List S32) : Has (all ++ ext) x ∧ num (all ++ ext) x = num all x := by
  obtain ⟨j, hj⟩ := h
  have := refIdx_append x ext all 0 j hj
  exact ⟨⟨j, this⟩, by rw [num_of this, num_of hj]⟩
theorem num_inj {all : List S32} {x y : S32} (hx : Has all x) (hy : Has all y) : num all x = num all y ↔ cn x = cn y := by
  obtain ⟨j, hj⟩ := hx
  obtain ⟨k, hk⟩ := hy
  rw [num_of hj, num_of hk]
  constructor
  · intro h
    obtain rfl : j = k := by omega
    exact refIdx_inj hj hk
  · intro h
    rw [refIdx_cn h, hk] at hj
    have : k = j := by simpa using hj
    omega
/-- A node's key, its parts by their numbers. -/
def keyN (all : List S32) (x : S32) : K5 := keyV x (lstN (x.f2.map (num all)) E0)
theorem keyN_eq {all : List S32} {x y : S32} (hx : ∀ c ∈ x.f2, Has all c) (hy : ∀ c ∈ y.f2, Has all c) : keyN all x = keyN all y ↔ cn x = cn y := by
  unfold keyN keyV
  rw [K5.mk.injEq, cn_eq x, cn_eq y, S32.mk.injEq]
  constructor
  · rintro ⟨h0, h4, h1, hl, hn⟩
    obtain ⟨h5, h6⟩ := notes_inj hn
    refine ⟨h0, h1, ?_, rfl, h4, h5, h6⟩
    have h2 := lstN_inj hl
    rw [cnL_eq, cnL_eq]
    apply List.ext_getElem?
    intro i
    have h3 := congrArg (fun l => l[i]?) h2
    simp only [List.getElem?_map] at h3 ⊢
    cases ex : x.f2[i]? with
    | none =>
      rw [ex] at h3
      cases ey : y.f2[i]? with
      | none => rfl
      | some b => rw [ey] at h3; simp at h3
    | some a =>
      rw [ex] at h3
      cases ey : y.f2[i]? with
      | none => rw [ey] at h3; simp at h3
      | some b =>
        rw [ey] at h3
        have h7 : num all a = num all b := by simpa using h3
        have := (num_inj (hx a (List.mem_of_getElem? ex)) (hy b (List.mem_of_getElem? ey))).1 h7
        simp [this]
  · rintro ⟨h0, h1, h2, _, h4, h5, h6⟩
    refine ⟨h0, h4, h1, ?_, by rw [h5, h6]⟩
    congr 1
    rw [cnL_eq, cnL_eq] at h2
    apply List.ext_getElem?
    intro i
    have h3 := congrArg (fun l => l[i]?) h2
    simp only [List.getElem?_map] at h3 ⊢
    cases ex : x.f2[i]? with
    | none =>
      rw [ex] at h3
      cases ey : y.f2[i]? with
      | none => rfl
      | some b => rw [ey] at h3; simp at h3
    | some a =>
      rw [ex] at h3
      cases ey : y.f2[i]? with
      | none => rw [ey] at h3; simp at h3
      | some b =>
        rw [ey] at h3
        have h7 : cn a = cn b := by simpa using h3
        have := (num_inj (hx a (List.mem_of_getElem? ex)) (hy b (List.mem_of_getElem? ey))).2 h7
        simp [this]
/-- What the document's Put comes to. -/
def refEnd (x : S32) (all : List S32) : Nat × List S32 := match refIdx x all 0 with | some j => (j + 1, all) | none => (all.length + 1, all ++ [x])
mutual
def refV : S32 → List S32 → Nat × List S32
  | ⟨a, b, l, c, d, e, f⟩, all => refEnd ⟨a, b, l, c, d, e, f⟩ (refL l all)
def refL : List S32 → List S32 → List S32
  | [], all => all
  | x :: r, all => refL r (refV x all).2
end
theorem refV_eq (x : S32) (all : List S32) : refV x all = refEnd x (refL x.f2 all) := by cases x; rfl
/-- What stands in a pool stands with all its parts, each once. -/
structure Full (all : List S32) : Prop where
  parts : ∀ x ∈ all, ∀ c ∈ x.f2, Has all c
  once : ∀ (i : Nat) (x : S32), all[i]? = some x → refIdx x all 0 = some i
  low : ∀ (i : Nat) (x : S32), all[i]? = some x → ∀ c ∈ x.f2, num all c ≤ i
theorem Full.nil : Full [] := ⟨fun x h => by simp at h, fun i x h => by simp at h, fun i x h => by simp at h⟩
theorem num_le {all : List S32} {x : S32} (h : Has all x) : 1 ≤ num all x ∧ num all x ≤ all.length := by
  obtain ⟨j, hj⟩ := h
  have := refIdx_lt hj
  rw [num_of hj]; omega
theorem refEnd_has (x : S32) (all : List S32) : ∃ ext, (refEnd x all).2 = all ++ ext ∧ ext.length ≤ 1 ∧ refIdx x (refEnd x all).2 0 = some ((refEnd x all).1 - 1) ∧ 1 ≤ (refEnd x all).1 := by
  unfold refEnd
  cases h : refIdx x all 0 with
  | some j => exact ⟨[], by simp, by simp, by simpa using h, by simp⟩
  | none => exact ⟨[x], rfl, by simp, by simpa using refIdx_new x all 0 h, by simp⟩
theorem refEnd_full (x : S32) (all : List S32) (hf : Full all) (hc : ∀ c ∈ x.f2, Has all c) : Full (refEnd x all).2 := by
  unfold refEnd
  cases h : refIdx x all 0 with
  | some j => exact hf
  | none =>
    refine ⟨fun y hy c hcy => ?_, fun i y hy => ?_, fun i y hy c hcy => ?_⟩
    · rcases List.mem_append.1 hy with hy | hy
      · exact ((hf.parts y hy c hcy).append [x]).1
      · rw [List.mem_singleton.1 hy] at hcy
        exact ((hc c hcy).append [x]).1
    · show refIdx y (all ++ [x]) 0 = some i
      have hy' : (all ++ [x])[i]? = some y := hy
      by_cases hi : i < all.length
      · rw [List.getElem?_append_left hi] at hy'
        exact refIdx_append y [x] all 0 i (hf.once i y hy')
      · rw [List.getElem?_append_right (by omega)] at hy'
        have h0 : i - all.length = 0 := by have := (List.getElem?_eq_some_iff.1 hy').1; simp at this; omega
        rw [h0] at hy'
        obtain rfl : x = y := by simpa using hy'
        rw [refIdx_new x all 0 h]
        congr 1; omega
    · show num (all ++ [x]) c ≤ i
      have hy' : (all ++ [x])[i]? = some y := hy
      by_cases hi : i < all.length
      · rw [List.getElem?_append_left hi] at hy'
        rw [((hf.parts y (List.mem_of_getElem? hy') c hcy).append [x]).2]
        exact hf.low i y hy' c hcy
      · rw [List.getElem?_append_right (by omega)] at hy'
        have h0 : i - all.length = 0 := by have := (List.getElem?_eq_some_iff.1 hy').1; simp at this; omega
        rw [h0] at hy'
        obtain rfl : x = y := by simpa using hy'
        rw [((hc c hcy).append [x]).2]
        have := (num_le (hc c hcy)).2
        omega
mutual
theorem refV_full : ∀ (x : S32) (all : List S32), Full all → Full (refV x all).2 ∧ (∃ ext, (refV x all).2 = all ++ ext ∧ ext.length ≤ (pre x).length) ∧ refIdx x (refV x all).2 0 = some ((refV x all).1 - 1) ∧ 1 ≤ (refV x all).1
  | ⟨a, b, l, c, d, e, f⟩, all, h => by
    obtain ⟨h1, ⟨ext, h2, h3⟩, h4⟩ := refL_full l all h
    rw [refV_eq, pre_eq]
    obtain ⟨ext2, k1, k2, k3, k4⟩ := refEnd_has ⟨a, b, l, c, d, e, f⟩ (refL l all)
    refine ⟨refEnd_full _ _ h1 h4, ⟨ext ++ ext2, ?_, ?_⟩, k3, k4⟩
    · show (refEnd _ (refL l all)).2 = _
      rw [k1, h2, List.append_assoc]
    · simp only [List.length_append, List.length_cons]; omega
theorem refL_full : ∀ (l : List S32) (all : List S32), Full all → Full (refL l all) ∧ (∃ ext, refL l all = all ++ ext ∧ ext.length ≤ (preL l).length) ∧ ∀ c ∈ l, Has (refL l all) c
  | [], all, h => ⟨h, ⟨[], by simp [refL], by simp⟩, fun c hc => by simp at hc⟩
  | x :: r, all, h => by
    obtain ⟨h1, ⟨ext, h2, h3⟩, h4, _⟩ := refV_full x all h
    obtain ⟨k1, ⟨ext2, k2, k3⟩, k4⟩ := refL_full r (refV x all).2 h1
    refine ⟨k1, ⟨ext ++ ext2, ?_, ?_⟩, fun c hc => ?_⟩
    · rw [refL, k2, h2, List.append_assoc]
    · simp only [preL, List.length_append]; omega
    · rcases List.mem_cons.1 hc with rfl | hc
      · rw [refL, k2]
        exact (Has.append ⟨_, h4⟩ ext2).1
      · exact k4 c hc
end
/-- A pool's raw state is that of a row of nodes. -/
structure St (all : List S32) (ks : List K5) (zs : List Int) : Prop where
  full : Full all
  keys : ks = all.map (keyN all)
  sizes : zs = all.map fun x => ((pre x).length : Int)
theorem St.nil : St [] [] [] := ⟨Full.nil, rfl, rfl⟩
theorem keyN_append {all : List S32} {x : S32} (h : ∀ c ∈ x.f2, Has all c) (ext : List S32) : keyN (all ++ ext) x = keyN all x := by
  unfold keyN
  congr 2
  exact List.map_congr_left fun c hc => ((h c hc).append ext).2
theorem idx_key (all : List S32) (x : S32) (hx : ∀ c ∈ x.f2, Has all c) : ∀ (l : List S32), (∀ r ∈ l, ∀ c ∈ r.f2, Has all c) → ∀ i, idxOf (keyN all x) (l.map (keyN all)) i = refIdx x l i
  | [], _, i => rfl
  | r :: l, h, i => by
    have e : (keyN all x).same (keyN all r) = likeB false r x := by
      rw [Bool.eq_iff_iff, K5.same_iff, like_iff, keyN_eq hx (h r List.mem_cons_self)]
      exact ⟨fun h => h.symm, fun h => h.symm⟩
    rw [List.map_cons, idxOf, refIdx, e, idx_key all x hx l (fun q hq => h q (List.mem_cons_of_mem _ hq)) (i + 1)]
theorem lstN_append (a b : List Nat) : ∀ o, lstN (a ++ b) o = lstN b (lstN a o) := by
  induction a with
  | nil => intro o; rfl
  | cons n r ih => intro o; simp [lstN, ih]
/-- The end of Put, and the document's. -/
theorem putEnd_ref (x : S32) (all : List S32) (q : PS) (h : St all q.ks q.zs) (hc : ∀ c ∈ x.f2, Has all c) (ho : q.o = lstN (x.f2.map (num all)) E0) (hs : q.s = ((pre x).length : Int)) :
    (putEnd x q).1 = ((refEnd x all).1 : Int) ∧ St (refEnd x all).2 (putEnd x q).2.1 (putEnd x q).2.2 := by
  have hk : keyV x q.o = keyN all x := by rw [ho]; rfl
  have hi : idxOf (keyN all x) q.ks 0 = refIdx x all 0 := by rw [h.keys]; exact idx_key all x hc all h.full.parts 0
  have hf := refEnd_full x all h.full hc
  unfold putEnd
  unfold refEnd at hf ⊢
  rw [hk, hi]
  cases hr : refIdx x all 0 with
  | some j =>
    exact ⟨rfl, h⟩
  | none =>
    rw [hr] at hf
    refine ⟨?_, hf, ?_, ?_⟩
    · show ((q.ks.length + 1 : Nat) : Int) = _
      rw [h.keys, List.length_map]
    · show q.ks ++ [keyN all x] = (all ++ [x]).map (keyN (all ++ [x]))
      rw [List.map_append, List.map_cons, List.map_nil, keyN_append hc, h.keys]
      congr 1
      exact List.map_congr_left fun y hy => (keyN_append (h.full.parts y hy) [x]).symm
    · show q.zs ++ [q.s] = (all ++ [x]).map _
      rw [List.map_append, h.sizes, hs]; rfl
mutual
theorem putV_ref : ∀ (x : S32) (all : List S32) (ks : List K5) (zs : List Int), St all ks zs → (pre x).length ≤ 1000000 → (putV x ks zs).1 = ((refV x all).1 : Int) ∧ St (refV x all).2 (putV x ks zs).2.1 (putV x ks zs).2.2
  | ⟨a, b, l, c, d, e, f⟩, all, ks, zs, h, hn => by
    have hp : (pre (⟨a, b, l, c, d, e, f⟩ : S32)).length = (preL l).length + 1 := by rw [pre_eq]; simp
    obtain ⟨h1, h2, h3⟩ := putL_ref l all ⟨E0, 1, ks, zs⟩ h ⟨1, rfl, by omega⟩
    rw [putV_eq, refV_eq]
    refine putEnd_ref _ _ _ h1 (refL_full l all h.full).2.2 h2 ?_
    rw [h3, hp]
    show (((1 + (preL l).length : Nat)) : Int) = _
    omega
theorem putL_ref : ∀ (l : List S32) (all : List S32) (q : PS), St all q.ks q.zs → (hs : ∃ n : Nat, q.s = (n : Int) ∧ n + (preL l).length ≤ 1000000) → St (refL l all) (putL l q).ks (putL l q).zs ∧ (putL l q).o = lstN (l.map (num (refL l all))) q.o ∧ (putL l q).s = (((q.s.toNat + (preL l).length : Nat)) : Int)
  | [], all, q, h, hs => by
    obtain ⟨n, hn, _⟩ := hs
    refine ⟨h, rfl, ?_⟩
    show q.s = _
    simp only [preL, List.length_nil]; omega
  | x :: r, all, q, h, hs => by
    obtain ⟨n, hn, hb⟩ := hs
    simp only [preL, List.length_append] at hb
    obtain ⟨h1, h2⟩ := putV_ref x all q.ks q.zs h (by omega)
    obtain ⟨f1, ⟨ext, f2, f3⟩, f4, f5⟩ := refV_full x all h.full
    have hz : szAt (putV x q.ks q.zs).2.2 (putV x q.ks q.zs).1 = ((pre x).length : Int) := by
      obtain ⟨y, _, hy, hyc⟩ := refIdx_some x _ 0 _ f4
      rw [szAt, h1, h2.sizes, List.getD_eq_getElem?_getD, List.getElem?_map]
      have e : (((refV x all).1 : Int) - 1).toNat = (refV x all).1 - 1 - 0 := by omega
      rw [e, hy]
      have e2 : (pre y).length = (pre x).length := by rw [← cn_count y, hyc, cn_count]
      simp [e2]
    have hs' : (putS x q).s = (((n + (pre x).length : Nat)) : Int) := by
      show wrap64 (q.s + szAt _ _) = _
      rw [hz, hn]
      unfold wrap64; omega
    obtain ⟨g1, ⟨ext2, g2, g3⟩, g4⟩ := refL_full r (refV x all).2 f1
    obtain ⟨k1, k2, k3⟩ := putL_ref r (refV x all).2 (putS x q) h2 ⟨n + (pre x).length, hs', by omega⟩
    rw [putL_cons]
    refine ⟨k1, ?_, ?_⟩
    · rw [k2, List.map_cons, lstN]
      show lstN _ ((q.o ++ itoaB (putV x q.ks q.zs).1) ++ _) = _
      rw [h1]
      have e3 : num (refL (x :: r) all) x = (refV x all).1 := by
        rw [refL, g2, (Has.append ⟨_, f4⟩ ext2).2, num_of f4]; omega
      rw [e3]
      rfl
    · rw [k3, hs', hn]
      simp only [preL, List.length_append]
      omega
end
theorem parts_has {all : List S32} {x : S32} (hf : Full all) (h : Has all x) : ∀ c ∈ x.f2, Has all c := by
  obtain ⟨j, hj⟩ := h
  obtain ⟨r, _, hr, hc⟩ := refIdx_some x all 0 j hj
  intro c hcx
  rw [cn_eq r, cn_eq x, S32.mk.injEq] at hc
  have h2 := hc.2.2.1
  rw [cnL_eq, cnL_eq] at h2
  obtain ⟨i, hi, hic⟩ := List.mem_iff_getElem.1 hcx
  have h3 := congrArg (fun l => l[i]?) h2
  simp only [List.getElem?_map] at h3
  have h4 : x.f2[i]? = some c := by rw [List.getElem?_eq_getElem hi, hic]
  rw [h4] at h3
  cases er : r.f2[i]? with
  | none => rw [er] at h3; simp at h3
  | some c' =>
    rw [er] at h3
    have h5 : cn c' = cn c := by simpa using h3
    obtain ⟨k, hk⟩ := hf.parts r (List.mem_of_getElem? hr) c' (List.mem_of_getElem? er)
    exact ⟨k, by rw [← refIdx_cn h5]; exact hk⟩
mutual
/-- Once more: the number stays, and so does all. -/
theorem refV_again : ∀ (x : S32) (all : List S32) (j : Nat), Full all → refIdx x all 0 = some j → refV x all = (j + 1, all)
  | ⟨a, b, l, c, d, e, f⟩, all, j, hf, h => by
    have h1 := refL_again l all hf (parts_has hf ⟨j, h⟩)
    rw [refV_eq]
    show refEnd _ (refL l all) = _
    rw [h1, refEnd, h]
theorem refL_again : ∀ (l : List S32) (all : List S32), Full all → (∀ c ∈ l, Has all c) → refL l all = all
  | [], all, _, _ => rfl
  | x :: r, all, hf, h => by
    obtain ⟨j, hj⟩ := h x List.mem_cons_self
    rw [refL, refV_again x all j hf hj]
    exact refL_again r all hf (fun c hc => h c (List.mem_cons_of_mem _ hc))
end
theorem part_low {all : List S32} {x : S32} (hf : Full all) (h : Has all x) : ∀ c ∈ x.f2, num all c < num all x := by
  obtain ⟨j, hj⟩ := h
  obtain ⟨r, _, hr, hc⟩ := refIdx_some x all 0 j hj
  intro c hcx
  rw [num_of hj]
  rw [cn_eq r, cn_eq x, S32.mk.injEq] at hc
  have h2 := hc.2.2.1
  rw [cnL_eq, cnL_eq] at h2
  obtain ⟨i, hi, hic⟩ := List.mem_iff_getElem.1 hcx
  have h3 := congrArg (fun l => l[i]?) h2
  simp only [List.getElem?_map] at h3
  have h4 : x.f2[i]? = some c := by rw [List.getElem?_eq_getElem hi, hic]
  rw [h4] at h3
  cases er : r.f2[i]? with
  | none => rw [er] at h3; simp at h3
  | some c' =>
    rw [er] at h3
    have h5 : cn c' = cn c := by simpa using h3
    have h6 := hf.low j r (by simpa using hr) c' (List.mem_of_getElem? er)
    have h7 : num all c = num all c' := by unfold num; rw [refIdx_cn h5]
    omega
theorem refV_num (x : S32) (all : List S32) (hf : Full all) : (refV x all).1 = num (refV x all).2 x ∧ Has (refV x all).2 x := by
  obtain ⟨_, _, h3, h4⟩ := refV_full x all hf
  exact ⟨by rw [num_of h3]; omega, ⟨_, h3⟩⟩
end Go.Proofs.YtjlnlonioknkhaaDoor.PL
