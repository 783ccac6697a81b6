/- doc.May: a document may be just if all its parts may be by themselves, it is not too deep and has not too many parts. -/
import Derived.Test.YtjlnlonioknkhaaPAx3
import Derived.Test.YtjlnlonioknkhaaHA1
namespace Go.Proofs.Ytjlnlonioknkhaa.PA
open Go.RowKit Go.Proofs.YtjlnlonioknkhaaW.PrintWords Go.Proofs.YtjlnlonioknkhaaW.PrintLast Go.Proofs.YtjlnlonioknkhaaW.PrintMore
set_option linter.unusedVariables false
set_option linter.unusedSimpArgs false

/-- A document's own rows, read. -/
structure Dc (w : World) (x : S40) (A3 : Option Addr) (c3 : Nat) : Prop where
  g3 : Kd.C k40 w A3 x.f3.length x.f3
  l3 : x.f3.length ≤ c3
theorem Dc.below {w w' : World} {x : S40} {A3 : Option Addr} {c3 : Nat} (h : Dc w x A3 c3) (hb : Below w.heap.size w w') : Dc w' x A3 c3 := ⟨Kd.C_below h.g3 hb, h.l3⟩
theorem rd40 (l : List S40) (k : Nat) (h : k < l.length) : rd_T40 l (k : Int) = l[k] := by simp [rd_T40, List.getD_eq_getElem?_getD, h]
theorem Dc.at_ {w : World} {A : Option Addr} {l : List S40} (h : Kd.C k40 w A l.length l) (i : Nat) (hi : i < l.length) :
    ∃ ad A3 c3, A = some ad ∧ Dc w l[i] A3 c3 ∧ ∀ w', Below w.heap.size w w' →
      w'.cell? (ad.add (i * 4)) = some (.int .i64 l[i].f0) ∧ w'.cell? ⟨(ad.add (i * 4)).block, (ad.add (i * 4)).off + 1, none⟩ = some (.int .i64 l[i].f1) ∧ w'.cell? ⟨(ad.add (i * 4)).block, (ad.add (i * 4)).off + 2, none⟩ = some (.string l[i].f2) ∧
      w'.cell? ⟨(ad.add (i * 4)).block, (ad.add (i * 4)).off + 3, none⟩ = some (.slice A3 l[i].f3.length c3) := by
  obtain ⟨ad, A3, c3, e0, q0, q1, q2, q3, l3, g3⟩ := at_T40 h (i : Int) (by omega) (by omega)
  rw [rd40 _ _ hi] at q0 q1 q2 q3 l3 g3
  simp only [Int.toNat_natCast] at q0 q1 q2 q3
  exact ⟨ad, A3, c3, e0, ⟨g3, l3⟩, fun w' hb => ⟨(hb.cell (World.block_lt_of_cell? _ _ q0)).trans q0, (hb.cell (World.block_lt_of_cell? _ _ q1)).trans q1, (hb.cell (World.block_lt_of_cell? _ _ q2)).trans q2, (hb.cell (World.block_lt_of_cell? _ _ q3)).trans q3⟩⟩

/-! ### the plain functions -/
def has10 (s : ByteArray) : Bool := s.data.toList.contains 10
theorem index_has (l : List UInt8) (c : UInt8) : decide (0 ≤ Lib.indexByte l c) = l.contains c := by
  induction l with
  | nil => simp [Lib.indexByte]
  | cons b r ih =>
    unfold Lib.indexByte
    by_cases e : b = c
    · subst e; simp
    · have e' : (b == c) = false := beq_eq_false_iff_ne.mpr e
      have e'' : (c == b) = false := beq_eq_false_iff_ne.mpr (Ne.symm e)
      rw [e', List.contains_cons, e'', Bool.false_or, ← ih]
      have hg := Lib.indexByte_ge r c
      by_cases h : Lib.indexByte r c = -1
      · simp [h]
      · have h2 : (Lib.indexByte r c == -1) = false := beq_eq_false_iff_ne.mpr h
        rw [h2]
        simp only [Bool.false_eq_true, if_false]
        by_cases hp : 0 ≤ Lib.indexByte r c
        · rw [decide_eq_true hp, decide_eq_true (by omega)]
        · omega
/-- May a part be by itself? -/
def ownB (x : S40) : Bool :=
  if x.f0 = 1 then decide (x.f1 = 0) && x.f3.isEmpty && !has10 x.f2
  else if x.f0 = 2 ∨ x.f0 = 3 ∨ x.f0 = 4 then x.f2.toList.isEmpty && decide (x.f1 = 0) && x.f3.isEmpty
  else if x.f0 = 5 then x.f2.toList.isEmpty && decide (x.f1 = 0)
  else if x.f0 = 6 then x.f2.toList.isEmpty && decide (0 ≤ x.f1) && decide (x.f1 ≤ 1000)
  else if x.f0 = 7 then x.f2.toList.isEmpty && decide (x.f1 / 2 = 0)
  else false
theorem own_comes (x : S40) : doc_own.f 1 x.f0 x.f1 x.f2 x.f3 = some (ownB x) := by
  have hlen : ∀ l : List S40, ((l.length : Int) == 0) = l.isEmpty := fun l => by cases l <;> simp; omega
  have hlen2 : ∀ l : List S40, ((l.length : Int) = 0) ↔ l.isEmpty = true := fun l => by cases l <;> simp; omega
  have hs : ∀ s : ByteArray, (s.toList = ([] : List UInt8)) ↔ s.toList.isEmpty = true := fun s => by rw [List.isEmpty_iff]
  unfold doc_own.f ownB has10
  by_cases c1 : x.f0 = 1
  · rw [if_pos c1, if_pos c1]
    by_cases c2 : x.f1 = 0
    · rw [if_pos c2]
      by_cases c3 : (x.f3.length : Int) = 0
      · rw [if_pos c3, (hlen2 x.f3).mp c3]
        simp [strings_Contains.f, index_has, c2]
      · rw [if_neg c3]
        have : x.f3.isEmpty = false := by rw [hlen2] at c3; simpa using c3
        rw [this]; simp
    · rw [if_neg c2]; simp [c2]
  · rw [if_neg c1, if_neg c1]
    have key : ∀ b : Bool, (b = true ↔ (x.f0 = 2 ∨ x.f0 = 3 ∨ x.f0 = 4)) → doc_own.j0 1 x.f0 b x.f0 x.f1 x.f2 x.f3 = some (if x.f0 = 2 ∨ x.f0 = 3 ∨ x.f0 = 4 then x.f2.toList.isEmpty && decide (x.f1 = 0) && x.f3.isEmpty
        else if x.f0 = 5 then x.f2.toList.isEmpty && decide (x.f1 = 0)
        else if x.f0 = 6 then x.f2.toList.isEmpty && decide (0 ≤ x.f1) && decide (x.f1 ≤ 1000)
        else if x.f0 = 7 then x.f2.toList.isEmpty && decide (x.f1 / 2 = 0) else false) := by
      intro b hb
      simp only [doc_own.j0]
      have e0 : ∀ z : Int, (z == 0) = decide (z = 0) := fun z => by by_cases h : z = 0 <;> simp [h]
      by_cases c2 : x.f0 = 2 ∨ x.f0 = 3 ∨ x.f0 = 4
      · rw [if_pos (hb.mpr c2), if_pos c2, hlen]
        cases hsx : x.f2.toList.isEmpty
        · rw [if_neg (by rw [hs]; simp [hsx])]; simp
        · rw [if_pos ((hs _).mpr hsx)]
          by_cases c3 : x.f1 = 0
          · rw [if_pos c3]; simp [c3]
          · rw [if_neg c3]; simp [c3]
      · rw [if_neg (fun h => c2 (hb.mp h)), if_neg c2, e0, e0]
        cases hsx : x.f2.toList.isEmpty
        · have hne : ¬ (x.f2.toList = ([] : List UInt8)) := by rw [hs]; simp [hsx]
          rw [if_neg hne, if_neg hne, if_neg hne]
          simp
        · have he := (hs _).mpr hsx
          rw [if_pos he, if_pos he, if_pos he]
          by_cases c5 : x.f0 = 5
          · rw [if_pos c5, if_pos c5]; simp
          · rw [if_neg c5, if_neg c5]
            by_cases c6 : x.f0 = 6
            · rw [if_pos c6, if_pos c6]
              by_cases c7 : x.f1 ≥ 0
              · rw [if_pos c7]; simp [show 0 ≤ x.f1 from c7]
              · rw [if_neg c7]; simp [show ¬ 0 ≤ x.f1 from c7]
            · rw [if_neg c6, if_neg c6]
              by_cases c7 : x.f0 = 7
              · rw [if_pos c7, if_pos c7]; simp
              · rw [if_neg c7, if_neg c7]
    by_cases c2 : x.f0 = 2
    · rw [if_pos c2]; exact key _ (by simp [c2])
    · rw [if_neg c2]
      by_cases c3 : x.f0 = 3
      · rw [if_pos c3]; exact key _ (by simp [c3])
      · rw [if_neg c3]; exact key _ (by simp [c2, c3])
theorem own_calls (x : S40) (A3 : Option Addr) (c3 : Nat) (w : World) (h : Dc w x A3 c3) :
    Calls Try.prog 57 #[.agg #[.int .i64 x.f0, .int .i64 x.f1, .string x.f2, .slice A3 x.f3.length c3]] w fun e w' => e = .returned (.bool (ownB x)) ∧ Below w.heap.size w w' :=
  doc_own.calls 1 x.f0 x.f1 x.f2 A3 c3 x.f3 _ w h.g3 h.l3 (own_comes x)

/-! ### a document's parts, how deep it is, whether all of it may be -/
mutual
def cnt : S40 → Nat
  | ⟨_, _, _, l⟩ => 1 + cntL l
def cntL : List S40 → Nat
  | [] => 0
  | x :: r => cnt x + cntL r
end
mutual
def dep : S40 → Nat
  | ⟨_, _, _, l⟩ => 1 + depL l
def depL : List S40 → Nat
  | [] => 0
  | x :: r => max (dep x) (depL r)
end
mutual
def allOwn : S40 → Bool
  | ⟨a, b, c, l⟩ => ownB ⟨a, b, c, l⟩ && allOwnL l
def allOwnL : List S40 → Bool
  | [] => true
  | x :: r => allOwn x && allOwnL r
end
mutual
def mayS : S40 → Nat → Nat → Bool × Nat
  | ⟨a, b, s, l⟩, d, c => if 2000000 < c + 1 then (false, c + 1) else if 200000 < d then (false, c + 1) else if ownB ⟨a, b, s, l⟩ = false then (false, c + 1) else mayL l (d + 1) (c + 1)
def mayL : List S40 → Nat → Nat → Bool × Nat
  | [], _, c => (true, c)
  | x :: r, d, c => if (mayS x d c).1 = false then (false, (mayS x d c).2) else mayL r d (mayS x d c).2
end
theorem cnt_eq (x : S40) : cnt x = 1 + cntL x.f3 := by cases x; rfl
theorem cntL_append (a b : List S40) : cntL (a ++ b) = cntL a + cntL b := by
  induction a with
  | nil => simp [cntL]
  | cons x r ih => simp [cntL, ih]; omega
theorem cnt_lt (x : S40) (i : Nat) (h : i < x.f3.length) : cnt x.f3[i] < cnt x := by
  have h1 : x.f3 = x.f3.take i ++ (x.f3[i] :: x.f3.drop (i + 1)) := by rw [← List.drop_eq_getElem_cons h, List.take_append_drop]
  have h2 : cntL x.f3 = cntL (x.f3.take i) + (cnt x.f3[i] + cntL (x.f3.drop (i + 1))) := by
    conv => lhs; rw [h1]
    rw [cntL_append]; rfl
  rw [cnt_eq x, h2]; omega
theorem mayS_eq (x : S40) (d c : Nat) : mayS x d c = if 2000000 < c + 1 then (false, c + 1) else if 200000 < d then (false, c + 1) else if ownB x = false then (false, c + 1) else mayL x.f3 (d + 1) (c + 1) := by cases x; rfl
mutual
theorem mayS_spec : ∀ (x : S40) (d c : Nat), c ≤ 2000000 → (mayS x d c).1 = (allOwn x && decide (d + dep x ≤ 200001) && decide (c + cnt x ≤ 2000000)) ∧ ((mayS x d c).1 = true → (mayS x d c).2 = c + cnt x)
  | ⟨a, b, s, l⟩, d, c, hc => by
    unfold mayS allOwn dep cnt
    by_cases h1 : 2000000 < c + 1
    · rw [if_pos h1, decide_eq_false (show ¬ c + (1 + cntL l) ≤ 2000000 by omega)]; simp
    rw [if_neg h1]
    by_cases h2 : 200000 < d
    · rw [if_pos h2, decide_eq_false (show ¬ d + (1 + depL l) ≤ 200001 by omega)]; simp
    rw [if_neg h2]
    cases h3 : ownB ⟨a, b, s, l⟩
    · simp
    · simp only [Bool.true_eq_false, if_false, Bool.true_and]
      obtain ⟨e1, e2⟩ := mayL_spec l (d + 1) (c + 1) (by omega) (by omega)
      rw [e1]
      have a1 : (d + 1 + depL l ≤ 200001) ↔ (d + (1 + depL l) ≤ 200001) := by omega
      have a2 : (c + 1 + cntL l ≤ 2000000) ↔ (c + (1 + cntL l) ≤ 2000000) := by omega
      refine ⟨by simp only [a1, a2], fun h => ?_⟩
      rw [e2 (by rw [e1]; exact h)]; omega
theorem mayL_spec : ∀ (l : List S40) (d c : Nat), c ≤ 2000000 → d ≤ 200001 → (mayL l d c).1 = (allOwnL l && decide (d + depL l ≤ 200001) && decide (c + cntL l ≤ 2000000)) ∧ ((mayL l d c).1 = true → (mayL l d c).2 = c + cntL l)
  | [], d, c, hc, hd => by simp [mayL, allOwnL, cntL, depL, hc, hd]
  | x :: r, d, c, hc, hd => by
    obtain ⟨e1, e2⟩ := mayS_spec x d c hc
    unfold mayL allOwnL depL cntL
    cases h : (mayS x d c).1
    · rw [h] at e1
      simp only [if_true, Bool.false_eq_true, false_implies, and_true]
      symm
      cases h1 : allOwn x
      · simp
      · rw [h1, Bool.true_and] at e1
        have h2 := e1.symm
        rw [Bool.and_eq_false_iff, decide_eq_false_iff_not, decide_eq_false_iff_not] at h2
        rw [Bool.and_eq_false_iff, Bool.and_eq_false_iff, decide_eq_false_iff_not, decide_eq_false_iff_not]
        rcases h2 with h2 | h2
        · exact .inl (.inr (by omega))
        · exact .inr (by omega)
    · rw [h] at e1
      have h2 := e1.symm
      rw [Bool.and_eq_true, Bool.and_eq_true, decide_eq_true_eq, decide_eq_true_eq] at h2
      obtain ⟨⟨h3, h4⟩, h5⟩ := h2
      obtain ⟨f1, f2⟩ := mayL_spec r d (c + cnt x) h5 hd
      simp only [Bool.true_eq_false, if_false, e2 h]
      rw [f1, h3]
      have a1 : (d + depL r ≤ 200001) ↔ (d + max (dep x) (depL r) ≤ 200001) := by omega
      have a2 : (c + cnt x + cntL r ≤ 2000000) ↔ (c + (cnt x + cntL r) ≤ 2000000) := by omega
      refine ⟨by simp only [a1, a2, Bool.true_and], fun h => ?_⟩
      rw [f2 (by rw [f1]; simpa using h)]; omega
end
/-- May a document be? -/
def mayB (x : S40) : Bool := allOwn x && decide (dep x ≤ 200000) && decide (cnt x ≤ 2000000)
theorem mayS_may (x : S40) : (mayS x 1 0).1 = mayB x := by
  rw [(mayS_spec x 1 0 (by omega)).1, mayB]
  have a1 : (1 + dep x ≤ 200001) ↔ (dep x ≤ 200000) := by omega
  simp only [a1, Nat.zero_add]
theorem mayS_le (x : S40) (d c : Nat) (hc : c ≤ 2000000) : (mayS x d c).1 = true → (mayS x d c).2 ≤ 2000000 := fun h => by
  rw [(mayS_spec x d c hc).2 h]
  rw [(mayS_spec x d c hc).1, Bool.and_eq_true, decide_eq_true_eq] at h
  exact h.2
theorem mayL_drop (l : List S40) (d c : Nat) (i : Nat) (h : i < l.length) : mayL (l.drop i) d c = if (mayS l[i] d c).1 = false then (false, (mayS l[i] d c).2) else mayL (l.drop (i + 1)) d (mayS l[i] d c).2 := by
  rw [List.drop_eq_getElem_cons h]; rfl

/-- What a call of may comes to. -/
def MayAt (g : Nat) (w0 : World) (x : S40) (A3 : Option Addr) (c3 : Nat) (d c : Nat) (w : World) : Prop :=
  Calls Try.prog 50 #[.agg #[.int .i64 x.f0, .int .i64 x.f1, .string x.f2, .slice A3 x.f3.length c3], .int .i64 d, .pointer (some ⟨g, 0, none⟩)] w fun e w' => e = .returned (.bool (mayS x d c).1) ∧ Below w0.heap.size w0 w' ∧ Keeps w w' ∧ w'.heap[g]? = some (.cells #[.int .i64 (mayS x d c).2] 3 (0, 0))
set_option maxHeartbeats 4000000 in
set_option maxRecDepth 100000 in
theorem may_many (g : Nat) (w0 : World) (hgB : w0.heap.size ≤ g) (x : S40) (A3 : Option Addr) (c3 : Nat) (d c : Nat) (w : World) (hd : d ≤ 200001) (hc : c ≤ 2000000) (hx : Dc w0 x A3 c3) (hb : Below w0.heap.size w0 w) (hg : w.heap[g]? = some (.cells #[.int .i64 c] 3 (0, 0))) (h1 : c = 2000000) :
    MayAt g w0 x A3 c3 d c w := by
  have hu40 := Try.underlying40
  have HX := Aside0.mk hx
  have HB := Aside0.mk hb
  have HG := Aside0.mk hg
  have HGB := Aside0.mk hgB
  clear hx hb hg hgB
  unfold MayAt
  have HM : Aside0 (mayS x d c = (false, c + 1)) := ⟨by rw [mayS_eq, if_pos (by omega)]⟩
  have h1b : decide ((2000000 : Int) < (c : Int) + 1) = true := decide_eq_true (by omega)
  have hb0 : 0 ≤ (c : Int) := by omega
  have hb1 : (c : Int) ≤ 10000000 := by omega
  clear h1 hc hd
  go_enter Try.func50, Try.ntmps50
  go_wp2_with (first | ((with_reducible refine gate_dst (N := 3) rfl ?_); (try (refine gate_guard (by rfl) ?_; dsimp only)); refine box_event ?hg (N := 3) ?hd (cs := #[.int .i64 x.f0, .int .i64 x.f1, .string x.f2, .slice A3 x.f3.length c3]) (t := 40) ?hr ?_; (case hd => rfl); (case hg => rfl); (case hr => first | (go_simp; done) | (go_simp; rfl)); intro gb hg w1 hbox hb; have HB1 := Aside0.mk (below_step HB.out hb); have HG1 := Aside0.mk (blk_below HG.out hb); have HKP1 := Aside0.mk ((Keeps.refl w).below hb); have HX1 := Aside0.mk (HX.out.below HB1.out); have hc1 : w1.cell? ⟨g, 0, none⟩ = some (.int .i64 c) := (blk_cell HG1.out 0).trans rfl; have hf1 : w1.frozen? ⟨g, 0, none⟩ = false := blk_frozen HG1.out 0; have HBX := Aside0.mk hbox; clear hb hbox hg))
  go_ret
  have e : ((c : Int) + 1) = ((c + 1 : Nat) : Int) := by omega
  refine ⟨by rw [HM.out]; rfl, HB1.out.setCell (by have := HGB.out; exact this) _, HKP1.out.set HG1.out (by decide) 0 _, ?_⟩
  rw [HM.out, e]
  exact blk_set HG1.out 0 _
set_option maxHeartbeats 4000000 in
set_option maxRecDepth 100000 in
theorem may_deep (g : Nat) (w0 : World) (hgB : w0.heap.size ≤ g) (x : S40) (A3 : Option Addr) (c3 : Nat) (d c : Nat) (w : World) (hd : d ≤ 200001) (hc : c ≤ 2000000) (hx : Dc w0 x A3 c3) (hb : Below w0.heap.size w0 w) (hg : w.heap[g]? = some (.cells #[.int .i64 c] 3 (0, 0))) (h1 : c < 2000000) (h2 : d = 200001) :
    MayAt g w0 x A3 c3 d c w := by
  have hu40 := Try.underlying40
  have HX := Aside0.mk hx
  have HB := Aside0.mk hb
  have HG := Aside0.mk hg
  have HGB := Aside0.mk hgB
  clear hx hb hg hgB
  unfold MayAt
  have HM : Aside0 (mayS x d c = (false, c + 1)) := ⟨by rw [mayS_eq, if_neg (by omega), if_pos (by omega)]⟩
  have h1b : decide ((2000000 : Int) < (c : Int) + 1) = false := decide_eq_false (by omega)
  have h2b : decide ((200000 : Int) < (d : Int)) = true := decide_eq_true (by omega)
  have hb0 : 0 ≤ (c : Int) := by omega
  have hb1 : (c : Int) ≤ 10000000 := by omega
  clear h1 h2 hc hd
  go_enter Try.func50, Try.ntmps50
  go_wp2_with (first | ((with_reducible refine gate_dst (N := 3) rfl ?_); (try (refine gate_guard (by rfl) ?_; dsimp only)); refine box_event ?hg (N := 3) ?hd (cs := #[.int .i64 x.f0, .int .i64 x.f1, .string x.f2, .slice A3 x.f3.length c3]) (t := 40) ?hr ?_; (case hd => rfl); (case hg => rfl); (case hr => first | (go_simp; done) | (go_simp; rfl)); intro gb hg w1 hbox hb; have HB1 := Aside0.mk (below_step HB.out hb); have HG1 := Aside0.mk (blk_below HG.out hb); have HKP1 := Aside0.mk ((Keeps.refl w).below hb); have HX1 := Aside0.mk (HX.out.below HB1.out); have hc1 : w1.cell? ⟨g, 0, none⟩ = some (.int .i64 c) := (blk_cell HG1.out 0).trans rfl; have hf1 : w1.frozen? ⟨g, 0, none⟩ = false := blk_frozen HG1.out 0; have HBX := Aside0.mk hbox; clear hb hbox hg))
  go_ret
  have e : ((c : Int) + 1) = ((c + 1 : Nat) : Int) := by omega
  refine ⟨by rw [HM.out]; rfl, HB1.out.setCell (by have := HGB.out; exact this) _, HKP1.out.set HG1.out (by decide) 0 _, ?_⟩
  rw [HM.out, e]
  exact blk_set HG1.out 0 _
theorem below_set0 {w0 w1 : World} (h : Below w0.heap.size w0 w1) {g : Nat} (hg : w0.heap.size ≤ g) (u : Value) : Below w0.heap.size w0 (w1.setCell ⟨g, 0, none⟩ u) := h.setCell hg u
set_option maxHeartbeats 4000000 in
set_option maxRecDepth 100000 in
theorem may_own (g : Nat) (w0 : World) (hgB : w0.heap.size ≤ g) (x : S40) (A3 : Option Addr) (c3 : Nat) (d c : Nat) (w : World) (hd : d ≤ 200001) (hc : c ≤ 2000000) (hx : Dc w0 x A3 c3) (hb : Below w0.heap.size w0 w) (hg : w.heap[g]? = some (.cells #[.int .i64 c] 3 (0, 0))) (h1 : c < 2000000) (h2 : d < 200001) (h3 : ownB x = false) :
    MayAt g w0 x A3 c3 d c w := by
  have hu40 := Try.underlying40
  have HX := Aside0.mk hx
  have HB := Aside0.mk hb
  have HG := Aside0.mk hg
  have HGB := Aside0.mk hgB
  clear hx hb hg hgB
  unfold MayAt
  have HM : Aside0 (mayS x d c = (false, c + 1)) := ⟨by rw [mayS_eq, if_neg (by omega), if_neg (by omega), if_pos h3]⟩
  have h1b : decide ((2000000 : Int) < (c : Int) + 1) = false := decide_eq_false (by omega)
  have h2b : decide ((200000 : Int) < (d : Int)) = false := decide_eq_false (by omega)
  have hb0 : 0 ≤ (c : Int) := by omega
  have hb1 : (c : Int) ≤ 10000000 := by omega
  have hd0 : 0 ≤ (d : Int) := by omega
  have hd1' : (d : Int) ≤ 10000000 := by omega
  have H1 := Aside0.mk h1
  have H2 := Aside0.mk h2
  clear h1 h2 hc hd
  have H3 := Aside0.mk h3
  clear h3
  go_enter Try.func50, Try.ntmps50
  go_wp2_with (first | ((with_reducible refine gate_dst (N := 3) rfl ?_); (try (refine gate_guard (by rfl) ?_; dsimp only)); refine box_event ?hg (N := 3) ?hd (cs := #[.int .i64 x.f0, .int .i64 x.f1, .string x.f2, .slice A3 x.f3.length c3]) (t := 40) ?hr ?_; (case hd => rfl); (case hg => rfl); (case hr => first | (go_simp; done) | (go_simp; rfl)); intro gb hg w1 hbox hb; have HB1 := Aside0.mk (below_step HB.out hb); have HG1 := Aside0.mk (blk_below HG.out hb); have HKP1 := Aside0.mk ((Keeps.refl w).below hb); have HX1 := Aside0.mk (HX.out.below HB1.out); have hc1 : w1.cell? ⟨g, 0, none⟩ = some (.int .i64 c) := (blk_cell HG1.out 0).trans rfl; have hf1 : w1.frozen? ⟨g, 0, none⟩ = false := blk_frozen HG1.out 0; have HBX := Aside0.mk hbox; have hbf := fun u => blk_far HBX.out (p := ⟨g, 0, none⟩) (blk_ne HBX.out HG1.out (by decide)) u; have z0 : ∀ u, (w1.setCell ⟨g, 0, none⟩ u).cell? ⟨gb, 0, none⟩ = some (.int .i64 x.f0) := fun u => (blk_cell (hbf u) 0).trans rfl; have z1 : ∀ u, (w1.setCell ⟨g, 0, none⟩ u).cell? ⟨gb, 1, none⟩ = some (.int .i64 x.f1) := fun u => (blk_cell (hbf u) 1).trans rfl; have z2 : ∀ u, (w1.setCell ⟨g, 0, none⟩ u).cell? ⟨gb, 2, none⟩ = some (.string x.f2) := fun u => (blk_cell (hbf u) 2).trans rfl; have z3 : ∀ u, (w1.setCell ⟨g, 0, none⟩ u).cell? ⟨gb, 3, none⟩ = some (.slice A3 x.f3.length c3) := fun u => (blk_cell (hbf u) 3).trans rfl; clear hbf hb hbox hg))
  have hd1 : Dc (w1.setCell ⟨g, 0, none⟩ (.int .i64 ((c : Int) + 1))) x A3 c3 := HX.out.below (below_set0 HB1.out HGB.out _)
  refine (own_calls x A3 c3 _ hd1).mono ?_
  rintro e w2 ⟨rfl, hb2⟩
  rw [H3.out]
  have HG2 := Aside0.mk (blk_below (blk_set HG1.out 0 (.int .i64 ((c : Int) + 1))) hb2)
  have HB2 := Aside0.mk (below_step (below_set0 HB1.out HGB.out (.int .i64 ((c : Int) + 1))) hb2)
  have HK2 := Aside0.mk ((HKP1.out.set HG1.out (by decide) 0 (.int .i64 ((c : Int) + 1))).below hb2)
  clear hb2 hd1
  go_wp2_with fail
  go_ret
  have e : ((c : Int) + 1) = ((c + 1 : Nat) : Int) := by omega
  refine ⟨by rw [HM.out]; rfl, HB2.out, HK2.out, ?_⟩
  rw [HM.out, ← e]
  exact HG2.out
set_option maxHeartbeats 4000000 in
set_option maxRecDepth 100000 in
theorem may_all (g : Nat) (w0 : World) (hgB : w0.heap.size ≤ g) (x : S40) (A3 : Option Addr) (c3 : Nat) (d c : Nat) (w : World) (hd : d ≤ 200001) (hc : c ≤ 2000000) (hx : Dc w0 x A3 c3) (hb : Below w0.heap.size w0 w) (hg : w.heap[g]? = some (.cells #[.int .i64 c] 3 (0, 0))) (h1 : c < 2000000) (h2 : d < 200001) (h3 : ownB x = true) (ih : ∀ (i : Nat) (h : i < x.f3.length) (c' : Nat) (B3 : Option Addr) (d3 : Nat) (w' : World), c' ≤ 2000000 → Dc w0 x.f3[i] B3 d3 → Below w0.heap.size w0 w' → w'.heap[g]? = some (.cells #[.int .i64 c'] 3 (0, 0)) → MayAt g w0 x.f3[i] B3 d3 (d + 1) c' w') :
    MayAt g w0 x A3 c3 d c w := by
  have hu40 := Try.underlying40
  have HX := Aside0.mk hx
  have HB := Aside0.mk hb
  have HG := Aside0.mk hg
  have HGB := Aside0.mk hgB
  clear hx hb hg hgB
  unfold MayAt
  have HM : Aside0 (mayS x d c = mayL x.f3 (d + 1) (c + 1)) := ⟨by rw [mayS_eq, if_neg (by omega), if_neg (by omega), if_neg (by simp [h3])]⟩
  have h1b : decide ((2000000 : Int) < (c : Int) + 1) = false := decide_eq_false (by omega)
  have h2b : decide ((200000 : Int) < (d : Int)) = false := decide_eq_false (by omega)
  have hb0 : 0 ≤ (c : Int) := by omega
  have hb1 : (c : Int) ≤ 10000000 := by omega
  have hd0 : 0 ≤ (d : Int) := by omega
  have hd1' : (d : Int) ≤ 10000000 := by omega
  have H1 := Aside0.mk h1
  have H2 := Aside0.mk h2
  clear h1 h2 hc hd
  have H3 := Aside0.mk h3
  have IH := Aside0.mk ih
  clear h3 ih
  go_enter Try.func50, Try.ntmps50
  go_wp2_with (first | ((with_reducible refine gate_dst (N := 3) rfl ?_); (try (refine gate_guard (by rfl) ?_; dsimp only)); refine box_event ?hg (N := 3) ?hd (cs := #[.int .i64 x.f0, .int .i64 x.f1, .string x.f2, .slice A3 x.f3.length c3]) (t := 40) ?hr ?_; (case hd => rfl); (case hg => rfl); (case hr => first | (go_simp; done) | (go_simp; rfl)); intro gb hg w1 hbox hb; have HB1 := Aside0.mk (below_step HB.out hb); have HG1 := Aside0.mk (blk_below HG.out hb); have HKP1 := Aside0.mk ((Keeps.refl w).below hb); have HX1 := Aside0.mk (HX.out.below HB1.out); have hc1 : w1.cell? ⟨g, 0, none⟩ = some (.int .i64 c) := (blk_cell HG1.out 0).trans rfl; have hf1 : w1.frozen? ⟨g, 0, none⟩ = false := blk_frozen HG1.out 0; have HBX := Aside0.mk hbox; have hbf := fun u => blk_far HBX.out (p := ⟨g, 0, none⟩) (blk_ne HBX.out HG1.out (by decide)) u; have z0 : ∀ u, (w1.setCell ⟨g, 0, none⟩ u).cell? ⟨gb, 0, none⟩ = some (.int .i64 x.f0) := fun u => (blk_cell (hbf u) 0).trans rfl; have z1 : ∀ u, (w1.setCell ⟨g, 0, none⟩ u).cell? ⟨gb, 1, none⟩ = some (.int .i64 x.f1) := fun u => (blk_cell (hbf u) 1).trans rfl; have z2 : ∀ u, (w1.setCell ⟨g, 0, none⟩ u).cell? ⟨gb, 2, none⟩ = some (.string x.f2) := fun u => (blk_cell (hbf u) 2).trans rfl; have z3 : ∀ u, (w1.setCell ⟨g, 0, none⟩ u).cell? ⟨gb, 3, none⟩ = some (.slice A3 x.f3.length c3) := fun u => (blk_cell (hbf u) 3).trans rfl; clear hbf hb hbox hg))
  have hd1 : Dc (w1.setCell ⟨g, 0, none⟩ (.int .i64 ((c : Int) + 1))) x A3 c3 := HX.out.below (below_set0 HB1.out HGB.out _)
  refine (own_calls x A3 c3 _ hd1).mono ?_
  rintro e w2 ⟨rfl, hb2⟩
  rw [H3.out]
  have HG2 : Aside0 (w2.heap[g]? = some (.cells #[.int .i64 ((c + 1 : Nat) : Int)] 3 (0, 0))) := ⟨by
    have e : ((c : Int) + 1) = ((c + 1 : Nat) : Int) := by omega
    rw [← e]
    exact blk_below (blk_set HG1.out 0 (.int .i64 ((c : Int) + 1))) hb2⟩
  have HB2 := Aside0.mk (below_step (below_set0 HB1.out HGB.out (.int .i64 ((c : Int) + 1))) hb2)
  have HK2 := Aside0.mk ((HKP1.out.set HG1.out (by decide) 0 (.int .i64 ((c : Int) + 1))).below hb2)
  have HBX2 := Aside0.mk (blk_below (blk_far HBX.out (p := ⟨g, 0, none⟩) (blk_ne HBX.out HG1.out (by decide)) (.int .i64 ((c : Int) + 1))) hb2)
  clear hb2 hd1 HBX HKP1 HB1 HG1 HX1 hc1 hf1 z0 z1 z2 z3
  have hl3 : w2.cell? ⟨gb, 3, none⟩ = some (.slice A3 x.f3.length c3) := (blk_cell HBX2.out 3).trans rfl
  go_wp2_with fail
  have hm : x.f3.length ≤ 9223372036854775807 := HX.out.g3.2.1
  go_loopg [6, 8, 30] x.f3.length (fun k' v6 v8 v30 wr => ∃ (i c' : Nat), v30 = .int .i64 i ∧ v6 = .bool false ∧ i ≤ x.f3.length ∧ Aside0 (k' + i = x.f3.length) ∧ Aside0 (c' ≤ 2000000) ∧ Aside0 (mayS x d c = mayL (x.f3.drop i) (d + 1) c') ∧ Aside0 (Below w0.heap.size w0 wr) ∧ Aside0 (Keeps w wr) ∧ Aside0 (wr.heap[gb]? = some (.cells #[.int .i64 x.f0, .int .i64 x.f1, .string x.f2, .slice A3 x.f3.length c3] 40 (0, 0))) ∧ Aside0 (wr.heap[g]? = some (.cells #[.int .i64 c'] 3 (0, 0))))
  case atStart => exact ⟨0, c + 1, rfl, rfl, Nat.zero_le _, ⟨rfl⟩, ⟨by have := H1.out; omega⟩, ⟨HM.out⟩, HB2, HK2, HBX2, HG2⟩
  case round =>
    clear HB2 HK2 HBX2 HG2 hl3
    obtain ⟨i, c', rfl, rfl, hi, HKI, HC, HE, HBR, HKR, HXR, HGR⟩ := hrel
    by_cases hlt : i < x.f3.length
    · obtain ⟨ad, B3, d3, e0, ny, qy⟩ := Dc.at_ HX.out.g3 i hlt
      cases e0
      obtain ⟨q0, q1, q2, q3⟩ := qy _ HBR.out
      have NY := Aside0.mk ny
      have HT := Aside0.mk (mayL_drop x.f3 (d + 1) c' i hlt)
      have IHI := Aside0.mk (IH.out i hlt)
      have HSP := Aside0.mk (mayS_le x.f3[i] (d + 1) c' HC.out)
      clear qy ny
      obtain ⟨y, hy⟩ : ∃ y, y = x.f3[i] := ⟨_, rfl⟩
      rw [← hy] at q0 q1 q2 q3 NY HT IHI HSP
      clear hy
      go_wp2_with fail
      have ed : ((d : Int) + 1) = ((d + 1 : Nat) : Int) := by omega
      rw [ed]
      clear ed
      refine (IHI.out c' B3 d3 _ HC.out NY.out (HBR.out.alloc HBR.out.size _) (blk_alloc HGR.out _)).mono ?_
      rintro e w3 ⟨rfl, hb3, hk3, hg3⟩
      have NB := Aside0.mk hb3
      have NK := Aside0.mk ((HKR.out.alloc _).trans hk3)
      have NX := Aside0.mk (hk3.keep _ _ _ (.inr rfl) (blk_alloc HXR.out _))
      have NG := Aside0.mk hg3
      clear hb3 hk3 hg3 q0 q1 q2 q3
      cases hm1 : (mayS y (d + 1) c').1
      · have HM1 := Aside0.mk hm1
        clear hm1
        go_wp2_with fail
        go_ret
        have e1 : mayS x d c = (false, (mayS y (d + 1) c').2) := by rw [HE.out, HT.out, HM1.out]; rfl
        exact ⟨by rw [e1]; rfl, NB.out, NK.out, by rw [e1]; exact NG.out⟩
      · have HM1 := Aside0.mk hm1
        clear hm1
        go_wp2_with fail
        go_roundg (gk - 1)
        case measure => have := HKI.out; omega
        case rel => exact ⟨i + 1, (mayS y (d + 1) c').2, by go_num, rfl, by omega, ⟨by have := HKI.out; omega⟩, ⟨HSP.out HM1.out⟩, ⟨by rw [HE.out, HT.out, HM1.out]; rfl⟩, NB, NK, NX, NG⟩
    · go_wp2_with fail
      go_ret
      have e1 : mayS x d c = (true, c') := by rw [HE.out, List.drop_eq_nil_of_le (by omega)]; rfl
      exact ⟨by rw [e1]; rfl, HBR.out, HKR.out, by rw [e1]; exact HGR.out⟩

theorem may_calls (g : Nat) (w0 : World) (hgB : w0.heap.size ≤ g) (k : Nat) : ∀ (x : S40) (A3 : Option Addr) (c3 : Nat) (d c : Nat) (w : World) (hk : cnt x ≤ k) (hd : d ≤ 200001) (hc : c ≤ 2000000) (hx : Dc w0 x A3 c3) (hb : Below w0.heap.size w0 w) (hg : w.heap[g]? = some (.cells #[.int .i64 c] 3 (0, 0))), MayAt g w0 x A3 c3 d c w := by
  induction k using Nat.strongRecOn with
  | _ k ih =>
  intro x A3 c3 d c w hk hd hc hx hb hg
  by_cases h1 : c = 2000000
  · exact may_many g w0 hgB x A3 c3 d c w hd hc hx hb hg h1
  by_cases h2 : d = 200001
  · exact may_deep g w0 hgB x A3 c3 d c w hd hc hx hb hg (by omega) h2
  cases h3 : ownB x
  · exact may_own g w0 hgB x A3 c3 d c w hd hc hx hb hg (by omega) (by omega) h3
  · exact may_all g w0 hgB x A3 c3 d c w hd hc hx hb hg (by omega) (by omega) h3 fun i hi c' B3 d3 w' hc' hx' hb' hg' =>
      ih (cnt x.f3[i]) (Nat.lt_of_lt_of_le (cnt_lt x i hi) hk) x.f3[i] B3 d3 (d + 1) c' w' (Nat.le_refl _) (by omega) hc' hx' hb' hg'

set_option maxHeartbeats 2000000 in
theorem May_calls (x : S40) (A3 : Option Addr) (c3 : Nat) (w : World) (hx : Dc w x A3 c3) :
    Calls Try.prog 29 #[.agg #[.int .i64 x.f0, .int .i64 x.f1, .string x.f2, .slice A3 x.f3.length c3]] w fun e w' => e = .returned (.bool (mayB x)) ∧ Below w.heap.size w w' := by
  have hu40 := Try.underlying40
  have HX := Aside0.mk hx
  clear hx
  go_enter Try.func29, Try.ntmps29
  go_wp2_with fail
  obtain ⟨o1, ho1⟩ : ∃ o1, o1 = (Obj.cells #[.int .i64 x.f0, .int .i64 x.f1, .string x.f2, .slice A3 x.f3.length c3] 40) := ⟨_, rfl⟩
  rw [← ho1]
  have hl : (w.alloc o1).heap.size = w.heap.size + 1 := by simp
  have hb1 := (((Below.refl w.heap.size w).alloc (Nat.le_refl _) o1).alloc (by simp) (.cells #[.int .i64 0] 3))
  have hg1 := blk_new (w.alloc o1) (.cells #[.int .i64 0] 3)
  rw [hl] at hg1
  refine (may_calls (w.heap.size + 1) w (by omega) (cnt x) x A3 c3 1 0 _ (Nat.le_refl _) (by decide) (by decide) HX.out hb1 hg1).mono ?_
  rintro e w' ⟨rfl, hb, hk, hI⟩
  have HBW := Aside0.mk hb
  clear hb hk hI hb1 hg1 ho1
  go_wp2_with fail
  go_ret
  exact ⟨by rw [← mayS_may]; rfl, HBW.out⟩
end Go.Proofs.Ytjlnlonioknkhaa.PA
