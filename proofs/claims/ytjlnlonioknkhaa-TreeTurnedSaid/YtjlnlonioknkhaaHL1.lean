/- TreeLits: the trees that the law builds, and what its walk keeps. -/
import Derived.Test.YtjlnlonioknkhaaHT1
namespace Go.Proofs.Ytjlnlonioknkhaa.PA
open Go.RowKit Go.Proofs.YtjlnlonioknkhaaW.PrintWords Go.Proofs.YtjlnlonioknkhaaW.PrintLast Go.Proofs.YtjlnlonioknkhaaW.PrintMore
set_option linter.unusedVariables false
set_option linter.unusedSimpArgs false

def pcB (s : ByteArray) : ByteArray := (⟨#[37]⟩ : ByteArray) ++ s
def xL (s : ByteArray) : S26 := ⟨1, s, [], false, false, [pcB s], []⟩
def mkN (kd : Int) (L : List S26) : S26 := ⟨kd, ⟨#[]⟩, L, false, false, [], []⟩
/-- The tree behind the texts l: nested one in the other, or in a row. -/
def kdL : Bool → List ByteArray → Int
  | true, _ :: _ => 5
  | _, _ => 4
def LL : Bool → List ByteArray → List S26
  | false, l => l.map xL
  | true, [] => []
  | true, s :: r => [xL s, mkN (kdL true r) (LL true r)]
def nT (b : Bool) (l : List ByteArray) : S26 := mkN (kdL b l) (LL b l)
theorem pre_mkN (kd : Int) (L : List S26) : pre (mkN kd L) = mkN kd L :: preL L := by simp [mkN, pre]
theorem lits_mkN (kd : Int) (L : List S26) (h : kd ≠ 1) : lits (pre (mkN kd L)) = lits (preL L) := by rw [pre_mkN, lits_cons, if_neg (by simpa [mkN] using h)]; rfl
theorem nts_mkN (kd : Int) (L : List S26) : nts (mkN kd L) = ntsL L := by rw [nts_eq]; simp [mkN]
theorem pre_xL (s : ByteArray) : pre (xL s) = [xL s] := by simp [xL, pre, preL]
theorem lits_xL (s : ByteArray) : lits (pre (xL s)) = [s] := by rw [pre_xL, lits_cons, if_pos (show (xL s).f0 = 1 from rfl)]; rfl
theorem nts_xL (s : ByteArray) : nts (xL s) = [pcB s] := by rw [nts_eq]; simp [xL, ntsL]
theorem kdL_ne (b : Bool) (l : List ByteArray) : kdL b l ≠ 1 := by
  cases b <;> cases l <;> simp [kdL]
theorem lits_LL : ∀ (b : Bool) (l : List ByteArray), lits (preL (LL b l)) = l
  | false, [] => rfl
  | false, s :: r => by
    have := lits_LL false r
    simp only [LL] at this ⊢
    rw [List.map_cons, preL, lits_append, lits_xL, this]; rfl
  | true, [] => rfl
  | true, s :: r => by
    have := lits_LL true r
    simp only [LL, preL]
    rw [lits_append, lits_xL, List.append_nil, lits_mkN _ _ (kdL_ne true r), this]; rfl
theorem nts_LL : ∀ (b : Bool) (l : List ByteArray), ntsL (LL b l) = l.map pcB
  | false, [] => rfl
  | false, s :: r => by
    have := nts_LL false r
    simp only [LL] at this ⊢
    rw [List.map_cons, ntsL, nts_xL, this]; rfl
  | true, [] => rfl
  | true, s :: r => by
    have := nts_LL true r
    simp only [LL, ntsL]
    rw [nts_xL, List.append_nil, nts_mkN, this]; rfl
theorem lits_nT (b : Bool) (l : List ByteArray) : lits (pre (nT b l)) = l := by rw [nT, lits_mkN _ _ (kdL_ne b l), lits_LL]
theorem nts_nT (b : Bool) (l : List ByteArray) : nts (nT b l) = l.map pcB := by rw [nT, nts_mkN, nts_LL]
def small26 (y : S26) : Prop := y.f2.length ≤ 9223372036854775807 ∧ y.f5.length ≤ 9223372036854775807 ∧ y.f6.length ≤ 9223372036854775807
theorem small_xL (s : ByteArray) : ∀ y ∈ pre (xL s), small26 y := fun y hy => by
  rw [pre_xL] at hy
  rw [List.mem_singleton.1 hy]
  exact ⟨by simp [xL], by simp [xL], by simp [xL]⟩
theorem LL_len : ∀ (b : Bool) (l : List ByteArray), l.length ≤ 12 → (LL b l).length ≤ 12
  | false, l, h => by simpa [LL] using h
  | true, [], h => by simp [LL]
  | true, s :: r, h => by simp [LL]
theorem small_LL : ∀ (b : Bool) (l : List ByteArray), l.length ≤ 12 → ∀ y ∈ preL (LL b l), small26 y
  | false, [], _, y, hy => by simp [LL, preL] at hy
  | false, s :: r, h, y, hy => by
    simp only [LL, List.map_cons, preL, List.mem_append] at hy
    rcases hy with hy | hy
    · exact small_xL s y hy
    · exact small_LL false r (by simp at h; omega) y (by simpa [LL] using hy)
  | true, [], _, y, hy => by simp [LL, preL] at hy
  | true, s :: r, h, y, hy => by
    simp only [LL, preL, List.mem_append, List.append_nil] at hy
    rcases hy with hy | hy
    · exact small_xL s y hy
    · rw [pre_mkN] at hy
      rcases List.mem_cons.1 hy with rfl | hy
      · have := LL_len true r (by simp at h; omega)
        exact ⟨by simp only [mkN]; omega, by simp [mkN], by simp [mkN]⟩
      · exact small_LL true r (by simp at h; omega) y hy
theorem fin_nT (b : Bool) (l : List ByteArray) (h : l.length ≤ 12) : Fin26 (nT b l) := fun y hy => by
  rw [nT, pre_mkN] at hy
  rcases List.mem_cons.1 hy with rfl | hy
  · have := LL_len b l h
    exact ⟨by simp only [mkN]; omega, by simp [mkN], by simp [mkN]⟩
  · exact small_LL b l h y hy
theorem LL_row (s : ByteArray) (r : List ByteArray) : LL false (s :: r) = [xL s] ++ LL false r := by simp [LL]
theorem kd_row (l : List ByteArray) : kdL false l = 4 := by cases l <;> rfl
theorem drop_pred (l : List ByteArray) (j : Nat) (h : j < l.length) : l.drop j = l[j] :: l.drop (j + 1) := List.drop_eq_getElem_cons h

/-! ### what the walk keeps -/
structure IvL (w0 w : World) (gn : Nat) (kd : Int) (L : List S26) (A2 : Option Addr) (c2 : Nat) : Prop where
  hb : Below w0.heap.size w0 w
  bn : w.heap[gn]? = some (.cells #[.int .i64 kd, .string (⟨#[]⟩ : ByteArray), .slice A2 L.length c2, .bool false, .bool false, .slice none 0 0, .slice none 0 0] 26 (0, 0))
  fl : Kd.F k26 w (fun k => k ≠ gn) A2 L.length L
  lc : L.length ≤ c2
  ng : w0.heap.size ≤ gn
section
variable {w0 w w' : World} {gn gs gl gx c2 : Nat} {kd : Int} {L : List S26} {A2 : Option Addr} {s : ByteArray}
theorem IvL.step (h : IvL w0 w gn kd L A2 c2) (k : Below w.heap.size w w') : IvL w0 w' gn kd L A2 c2 := ⟨below_step h.hb k, blk_below h.bn k, Kd.F_below h.fl k, h.lc, h.ng⟩
theorem IvL.nd (h : IvL w0 w gn kd L A2 c2) : Nd w (mkN kd L) A2 c2 none 0 none 0 := ⟨Kd.F_now h.fl, h.lc, Kd.C_nil _ _, Nat.le_refl _, Kd.C_nil _ _, Nat.le_refl _⟩
def SL (gn : Nat) (kd : Int) (L : List S26) (A2 : Option Addr) (c2 : Nat) (w : World) : Prop :=
  w.cell? ⟨gn, 0, none⟩ = some (.int .i64 kd) ∧ w.cell? ⟨gn, 1, none⟩ = some (.string (⟨#[]⟩ : ByteArray)) ∧ w.cell? ⟨gn, 2, none⟩ = some (.slice A2 L.length c2) ∧ w.cell? ⟨gn, 3, none⟩ = some (.bool false) ∧ w.cell? ⟨gn, 4, none⟩ = some (.bool false) ∧ w.cell? ⟨gn, 5, none⟩ = some (.slice none 0 0) ∧ w.cell? ⟨gn, 6, none⟩ = some (.slice none 0 0)
theorem IvL.S (h : IvL w0 w gn kd L A2 c2) : SL gn kd L A2 c2 w := ⟨(blk_cell h.bn 0).trans rfl, (blk_cell h.bn 1).trans rfl, (blk_cell h.bn 2).trans rfl, (blk_cell h.bn 3).trans rfl, (blk_cell h.bn 4).trans rfl, (blk_cell h.bn 5).trans rfl, (blk_cell h.bn 6).trans rfl⟩
/-- The row of one comment, whatever stands in block gn. -/
theorem F_text1 (hb : w.heap[gs]? = some (.cells #[.string s] 9 (0, 0))) (hne : gs ≠ gn) : Kd.F Kd.string w (fun k => k ≠ gn) (some ⟨gs, 0, none⟩) [s].length [s] := fun W' hW =>
  C_of_blk (xs := [s]) (inner := [.string s]) ((hW gs hne (blk_lt hb)).trans hb) ⟨rfl, fun j p hj => by
    cases j with
    | zero => have : s = p := by simpa using hj
              subst this; rfl
    | succ j => simp at hj⟩ (by simp)
theorem FK_xL (hb : w.heap[gs]? = some (.cells #[.string (pcB s)] 9 (0, 0))) (hne : gs ≠ gn) : Kd.FK k26 w (fun k => k ≠ gn) (xL s) [.int .i64 1, .string s, .slice none 0 0, .bool false, .bool false, .slice (some ⟨gs, 0, none⟩) 1 1, .slice none 0 0] :=
  k26_mkF w _ (xL s) (Nat.le_refl _) (Kd.F_nil k26 w _) (Nat.le_refl _) (F_text1 hb hne) (Nat.le_refl _) (Kd.F_nil Kd.string w _)
theorem FK_mkN (h : Kd.F k26 w (fun k => k ≠ gn) A2 L.length L) (hc : L.length ≤ c2) : Kd.FK k26 w (fun k => k ≠ gn) (mkN kd L) [.int .i64 kd, .string (⟨#[]⟩ : ByteArray), .slice A2 L.length c2, .bool false, .bool false, .slice none 0 0, .slice none 0 0] :=
  k26_mkF w _ (mkN kd L) hc h (Nat.le_refl _) (Kd.F_nil Kd.string w _) (Nat.le_refl _) (Kd.F_nil Kd.string w _)
theorem reps_one26 {ok : Nat → Prop} {x : S26} {cs : List Value} (h : Kd.FK k26 w ok x cs) : Reps (Kd.FK k26 w ok) k26.sz [x] cs := by
  have l1 : cs.length = 7 := k26.K_len (Kd.FK_now h)
  refine ⟨by rw [l1]; rfl, fun j p hj => ?_⟩
  cases j with
  | zero =>
    have : x = p := by simpa using hj
    subst this
    have e : (cs.drop (0 * k26.sz)).take k26.sz = cs := by rw [Nat.zero_mul, List.drop_zero, show k26.sz = 7 from rfl, ← l1, List.take_length]
    rw [e]; exact h
  | succ j => simp at hj
/-- The row of two, of a literal. -/
theorem F_two {x y : S26} {cx cy : List Value} (hb : w.heap[gl]? = some (.cells (cx ++ cy).toArray 26 (0, 0))) (hne : gl ≠ gn) (h : Kd.FK k26 w (fun k => k ≠ gn) x cx) (h' : Kd.FK k26 w (fun k => k ≠ gn) y cy) : Kd.F k26 w (fun k => k ≠ gn) (some ⟨gl, 0, none⟩) [x, y].length [x, y] := fun W' hW => by
  have hx := h W' hW
  have hy := h' W' hW
  have l1 : cx.length = 7 := k26.K_len hx
  have l2 : cy.length = 7 := k26.K_len hy
  refine C_of_blk (d := k26) (xs := [x, y]) (inner := cx ++ cy) ((hW gl hne (blk_lt hb)).trans hb) ⟨by rw [List.length_append, l1, l2]; rfl, fun j p hj => ?_⟩ (by simp)
  match j with
  | 0 =>
    have : x = p := by simpa using hj
    subst this
    have e : ((cx ++ cy).drop (0 * k26.sz)).take k26.sz = cx := by
      rw [Nat.zero_mul, List.drop_zero, show k26.sz = 7 from rfl, ← l1, List.take_left]
    rw [e]; exact hx
  | 1 =>
    have : y = p := by simpa using hj
    subst this
    have e : ((cx ++ cy).drop (1 * k26.sz)).take k26.sz = cy := by
      rw [Nat.one_mul, show k26.sz = 7 from rfl, ← l1, List.drop_left, l1, ← l2, List.take_length]
    rw [e]; exact hy
  | j + 2 => simp at hj
/-- Seven stores into one block. -/
def set7 (w : World) (g : Nat) (v0 v1 v2 v3 v4 v5 v6 : Value) : World :=
  ((((((w.setCell ⟨g, 0, none⟩ v0).setCell ⟨g, 1, none⟩ v1).setCell ⟨g, 2, none⟩ v2).setCell ⟨g, 3, none⟩ v3).setCell ⟨g, 4, none⟩ v4).setCell ⟨g, 5, none⟩ v5).setCell ⟨g, 6, none⟩ v6
theorem set7_other {g k : Nat} {v0 v1 v2 v3 v4 v5 v6 : Value} (h : k ≠ g) : (set7 w g v0 v1 v2 v3 v4 v5 v6).heap[k]? = w.heap[k]? := by
  unfold set7
  rw [Below.heap_setCell _ _ _ _ h, Below.heap_setCell _ _ _ _ h, Below.heap_setCell _ _ _ _ h, Below.heap_setCell _ _ _ _ h, Below.heap_setCell _ _ _ _ h, Below.heap_setCell _ _ _ _ h, Below.heap_setCell _ _ _ _ h]
theorem set7_blk {g : Nat} {t : TypeId} {u0 u1 u2 u3 u4 u5 u6 v0 v1 v2 v3 v4 v5 v6 : Value} (h : w.heap[g]? = some (.cells #[u0, u1, u2, u3, u4, u5, u6] t (0, 0))) : (set7 w g v0 v1 v2 v3 v4 v5 v6).heap[g]? = some (.cells #[v0, v1, v2, v3, v4, v5, v6] t (0, 0)) := by
  unfold set7
  refine blk_put (cs := #[v0, v1, v2, v3, v4, v5, u6]) ?_ 6 _ rfl
  refine blk_put (cs := #[v0, v1, v2, v3, v4, u5, u6]) ?_ 5 _ rfl
  refine blk_put (cs := #[v0, v1, v2, v3, u4, u5, u6]) ?_ 4 _ rfl
  refine blk_put (cs := #[v0, v1, v2, u3, u4, u5, u6]) ?_ 3 _ rfl
  refine blk_put (cs := #[v0, v1, u2, u3, u4, u5, u6]) ?_ 2 _ rfl
  refine blk_put (cs := #[v0, u1, u2, u3, u4, u5, u6]) ?_ 1 _ rfl
  refine blk_put (cs := #[u0, u1, u2, u3, u4, u5, u6]) ?_ 0 _ rfl
  exact h
theorem set7_below {g : Nat} {v0 v1 v2 v3 v4 v5 v6 : Value} (h : Below w0.heap.size w0 w) (hg : w0.heap.size ≤ g) : Below w0.heap.size w0 (set7 w g v0 v1 v2 v3 v4 v5 v6) := by
  unfold set7
  exact below_set (below_set (below_set (below_set (below_set (below_set (below_set h hg) hg) hg) hg) hg) hg) hg
/-- The box of x was filled: the tree stays. -/
theorem IvL.fill (h : IvL w0 w gn kd L A2 c2) (fx : Kd.F k26 w (fun k => k ≠ gn ∧ k ≠ gx) A2 L.length L) (hne : gn ≠ gx) (hg : w0.heap.size ≤ gx) {v0 v1 v2 v3 v4 v5 v6 : Value} : IvL w0 (set7 w gx v0 v1 v2 v3 v4 v5 v6) gn kd L A2 c2 :=
  ⟨set7_below h.hb hg, (set7_other hne).trans h.bn, Kd.F_mono (Kd.F_step fx (fun k hk _ => set7_other hk.2)) (fun k hk => hk.1), h.lc, h.ng⟩
/-- The tree's own box was filled anew. -/
theorem IvL.renew (h : IvL w0 w gn kd L A2 c2) {kd' : Int} {L' : List S26} {A' : Option Addr} {c' : Nat} (f : Kd.F k26 w (fun k => k ≠ gn) A' L'.length L') (hc : L'.length ≤ c') :
    IvL w0 (set7 w gn (.int .i64 kd') (.string (⟨#[]⟩ : ByteArray)) (.slice A' L'.length c') (.bool false) (.bool false) (.slice none 0 0) (.slice none 0 0)) gn kd' L' A' c' :=
  ⟨set7_below h.hb h.ng, set7_blk h.bn, Kd.F_step f (fun k hk _ => set7_other hk), hc, h.ng⟩
theorem IvL.renew2 (h : IvL w0 w gn kd L A2 c2) {L' : List S26} {A' : Option Addr} {c' : Nat} (f : Kd.F k26 w (fun k => k ≠ gn) A' L'.length L') (hc : L'.length ≤ c') :
    IvL w0 (w.setCell ⟨gn, 2, none⟩ (.slice A' L'.length c')) gn kd L' A' c' :=
  ⟨below_set h.hb h.ng, blk_put h.bn 2 _ rfl, Kd.F_step f (fun k hk _ => Below.heap_setCell w ⟨gn, 2, none⟩ _ k hk), hc, h.ng⟩
theorem IvL.grown (h : IvL w0 w gn kd L A2 c2) {row : Option Nat} (hg : w.grownBy w' row) (hb : Below w0.heap.size w0 w') (hr : some gn ≠ row) (hf : Kd.F k26 w (fun k => k ≠ gn ∧ some k ≠ row) A2 L.length L) : IvL w0 w' gn kd L A2 c2 :=
  ⟨hb, blk_grown h.bn hg hr, Kd.F_mono (Kd.F_grown hf hg (fun k hk => hk.2)) (fun k hk => hk.1), h.lc, h.ng⟩
theorem IvL.grown0 (h : IvL w0 w gn kd L A2 c2) (hg : w.grownBy w' none) (hb : Below w0.heap.size w0 w') : IvL w0 w' gn kd L A2 c2 :=
  h.grown hg hb (by simp) (Kd.F_mono h.fl (fun k hk => ⟨hk, by simp⟩))
theorem IvL.apart (h : IvL w0 w gn kd L A2 c2) (hg : w.grownBy w' none) {v : Value} (hat : ∃ b, v.ownBlock = some b ∧ w.heap.size ≤ b) : some gn ≠ v.ownBlock ∧ Kd.F k26 w' (fun k => k ≠ gn ∧ some k ≠ v.ownBlock) A2 L.length L := by
  obtain ⟨b, e, hb⟩ := hat
  have hlt := blk_lt h.bn
  refine ⟨by rw [e]; intro h1; injection h1; omega, Kd.F_mono (Kd.F_grown (Kd.F_bound h.fl) hg (fun k _ => by simp)) (fun k hk => ⟨hk.1, by rw [e]; intro h1; injection h1 with h1; have := hk.2; omega⟩)⟩
theorem lits10c_of {x : S26} {A2 : Option Addr} {c2 : Nat} {A5 : Option Addr} {c5 : Nat} {A6 : Option Addr} {c6 : Nat} {l : List ByteArray} (h : Nd w x A2 c2 A5 c5 A6 c6) (hb : lits (pre x) = l) (hn : l.length ≤ 8796093022208) : Calls Try.prog 12 #[.agg #[.int .i64 x.f0, .string x.f1, .slice A2 x.f2.length c2, .bool x.f3, .bool x.f4, .slice A5 x.f5.length c5, .slice A6 x.f6.length c6]] w fun e w' => ∃ (A : Option Addr) (c : Nat), e = .returned (.slice A l.length c) ∧ Kd.C Kd.string w' A l.length l ∧ Below w.heap.size w w' := by
  subst hb
  refine (lits_calls x _ _ _ _ _ _ w h.g2 hn).mono ?_
  rintro e w' ⟨v, rfl, hr, hb⟩
  obtain ⟨A, c, rfl⟩ := Kd.R_slice hr
  exact ⟨A, c, rfl, (Kd.R_reads' hr).2.2, hb⟩
theorem nts10c_of {x : S26} {A2 : Option Addr} {c2 : Nat} {A5 : Option Addr} {c5 : Nat} {A6 : Option Addr} {c6 : Nat} {l : List ByteArray} (h : Nd w x A2 c2 A5 c5 A6 c6) (hx : Fin26 x) (hb : nts x = l.map pcB) (hn : l.length < 8796093022208) : Calls Try.prog 13 #[.agg #[.int .i64 x.f0, .string x.f1, .slice A2 x.f2.length c2, .bool x.f3, .bool x.f4, .slice A5 x.f5.length c5, .slice A6 x.f6.length c6]] w fun e w' => ∃ (A : Option Addr) (c : Nat), e = .returned (.slice A l.length c) ∧ Kd.C Kd.string w' A (l.map pcB).length (l.map pcB) ∧ Below w.heap.size w w' := by
  refine (nts10_of l.length h hx (by rw [hb, List.length_map]) hn).mono ?_
  rintro e w' ⟨A, c, rfl, ⟨g, q⟩, hb'⟩
  rw [hb] at g
  exact ⟨A, c, rfl, g, hb'⟩
end
end Go.Proofs.Ytjlnlonioknkhaa.PA
