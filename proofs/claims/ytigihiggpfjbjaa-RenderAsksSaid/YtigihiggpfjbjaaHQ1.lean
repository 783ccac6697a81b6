/- doc.May: a document may be just if all its parts may be by themselves, it is not too deep and has not too many parts. -/
import Derived.Test.YtigihiggpfjbjaaPRx9
import Derived.Test.YtigihiggpfjbjaaHEv
import Derived.Test.YtigihiggpfjbjaaPRx1
import Derived.Test.YtigihiggpfjbjaaPRx2
import Derived.Test.YtigihiggpfjbjaaPRx3
namespace Go.Proofs.Ytigihiggpfjbjaa.PR
open Go.RowKit Go.Proofs.YtigihiggpfjbjaaW.PrintWords Go.Proofs.YtigihiggpfjbjaaW.PrintLast Go.Proofs.YtigihiggpfjbjaaW.PrintMore
set_option linter.unusedVariables false
set_option linter.unusedSimpArgs false

/-- Blocks of nodes and documents stay as they are. -/
structure Keeps (w w' : World) : Prop where
  size : w.heap.size ≤ w'.heap.size
  keep : ∀ (i : Nat) (cs : Array Value) (t : TypeId), (t = 57 ∨ t = 24) → w.heap[i]? = some (.cells cs t (0, 0)) → w'.heap[i]? = some (.cells cs t (0, 0))
theorem Keeps.refl (w : World) : Keeps w w := ⟨Nat.le_refl _, fun _ _ _ _ h => h⟩
theorem Keeps.trans {a b c : World} (h : Keeps a b) (k : Keeps b c) : Keeps a c := ⟨Nat.le_trans h.size k.size, fun i cs t ht hc => k.keep i cs t ht (h.keep i cs t ht hc)⟩
theorem Keeps.alloc {a b : World} (h : Keeps a b) (o : Obj) : Keeps a (b.alloc o) := ⟨Nat.le_trans h.size (by simp), fun i cs t ht hc => blk_alloc (h.keep i cs t ht hc) o⟩
theorem Keeps.drewN {a b : World} (h : Keeps a b) (n : Nat) : Keeps a (b.drewN n) := ⟨h.size, fun i cs t ht hc => h.keep i cs t ht hc⟩
theorem Keeps.below {a b c : World} (h : Keeps a b) (hb : Below b.heap.size b c) : Keeps a c := ⟨Nat.le_trans h.size hb.size, fun i cs t ht hc => blk_below (h.keep i cs t ht hc) hb⟩
theorem Keeps.set {a b : World} (h : Keeps a b) {g : Nat} {cs : Array Value} {t : TypeId} (hg : b.heap[g]? = some (.cells cs t (0, 0))) (ht : t ≠ 57 ∧ t ≠ 24) (j : Nat) (u : Value) : Keeps a (b.setCell ⟨g, j, none⟩ u) :=
  ⟨Nat.le_trans h.size (by simp [World.setCell]), fun i cs' t' ht' hc => by
    have h1 := h.keep i cs' t' ht' hc
    refine blk_far h1 (p := ⟨g, j, none⟩) (blk_ne h1 hg ?_) u
    rcases ht' with rfl | rfl
    · exact fun e => ht.1 e.symm
    · exact fun e => ht.2 e.symm⟩

/-- A document's own rows, read. -/
structure Dc (w : World) (x : S24) (A3 : Option Addr) (c3 : Nat) : Prop where
  g3 : Kd.C k24 w A3 x.f3.length x.f3
  l3 : x.f3.length ≤ c3
theorem Dc.below {w w' : World} {x : S24} {A3 : Option Addr} {c3 : Nat} (h : Dc w x A3 c3) (hb : Below w.heap.size w w') : Dc w' x A3 c3 := ⟨Kd.C_below h.g3 hb, h.l3⟩
theorem rd24 (l : List S24) (k : Nat) (h : k < l.length) : rd_T24 l (k : Int) = l[k] := by simp [rd_T24, List.getD_eq_getElem?_getD, h]
theorem Dc.at_ {w : World} {A : Option Addr} {l : List S24} (h : Kd.C k24 w A l.length l) (i : Nat) (hi : i < l.length) :
    ∃ ad A3 c3, A = some ad ∧ Dc w l[i] A3 c3 ∧ ∀ w', Below w.heap.size w w' →
      w'.cell? (ad.add (i * 4)) = some (.int .i64 l[i].f0) ∧ w'.cell? ⟨(ad.add (i * 4)).block, (ad.add (i * 4)).off + 1, none⟩ = some (.int .i64 l[i].f1) ∧ w'.cell? ⟨(ad.add (i * 4)).block, (ad.add (i * 4)).off + 2, none⟩ = some (.string l[i].f2) ∧
      w'.cell? ⟨(ad.add (i * 4)).block, (ad.add (i * 4)).off + 3, none⟩ = some (.slice A3 l[i].f3.length c3) := by
  obtain ⟨ad, A3, c3, e0, q0, q1, q2, q3, l3, g3⟩ := at_T24 h (i : Int) (by omega) (by omega)
  rw [rd24 _ _ hi] at q0 q1 q2 q3 l3 g3
  simp only [Int.toNat_natCast] at q0 q1 q2 q3
  exact ⟨ad, A3, c3, e0, ⟨g3, l3⟩, fun w' hb => ⟨(hb.cell (World.block_lt_of_cell? _ _ q0)).trans q0, (hb.cell (World.block_lt_of_cell? _ _ q1)).trans q1, (hb.cell (World.block_lt_of_cell? _ _ q2)).trans q2, (hb.cell (World.block_lt_of_cell? _ _ q3)).trans q3⟩⟩

/-! ### the plain functions -/
def has10 (s : ByteArray) : Bool := s.data.toList.contains 10
theorem index_has (l : List UInt8) (c : UInt8) : decide (0 ≤ Lib.indexByte l c) = l.contains c := by
  induction l with
  | nil => simp [Lib.indexByte]
  | cons b r ih =>
    unfold Lib.indexByte
    by_cases e : b = c
    · subst e; simp
    · have e' : (b == c) = false := beq_eq_false_iff_ne.mpr e
      have e'' : (c == b) = false := beq_eq_false_iff_ne.mpr (Ne.symm e)
      rw [e', List.contains_cons, e'', Bool.false_or, ← ih]
      have hg := Lib.indexByte_ge r c
      by_cases h : Lib.indexByte r c = -1
      · simp [h]
      · have h2 : (Lib.indexByte r c == -1) = false := beq_eq_false_iff_ne.mpr h
        rw [h2]
        simp only [Bool.false_eq_true, if_false]
        by_cases hp : 0 ≤ Lib.indexByte r c
        · rw [decide_eq_true hp, decide_eq_true (by omega)]
        · omega
/-- May a part be by itself? -/
def ownB (x : S24) : Bool :=
  if x.f0 = 1 then decide (x.f1 = 0) && x.f3.isEmpty && !has10 x.f2
  else if x.f0 = 2 ∨ x.f0 = 3 ∨ x.f0 = 4 then x.f2.toList.isEmpty && decide (x.f1 = 0) && x.f3.isEmpty
  else if x.f0 = 5 then x.f2.toList.isEmpty && decide (x.f1 = 0)
  else if x.f0 = 6 then x.f2.toList.isEmpty && decide (0 ≤ x.f1) && decide (x.f1 ≤ 1000)
  else if x.f0 = 7 then x.f2.toList.isEmpty && decide (x.f1 / 2 = 0)
  else false
theorem own_comes (x : S24) : doc_own.f 1 x.f0 x.f1 x.f2 x.f3 = some (ownB x) := by
  have hlen : ∀ l : List S24, ((l.length : Int) == 0) = l.isEmpty := fun l => by cases l <;> simp; omega
  have hlen2 : ∀ l : List S24, ((l.length : Int) = 0) ↔ l.isEmpty = true := fun l => by cases l <;> simp; omega
  have hs : ∀ s : ByteArray, (s.toList = ([] : List UInt8)) ↔ s.toList.isEmpty = true := fun s => by rw [List.isEmpty_iff]
  unfold doc_own.f ownB has10
  by_cases c1 : x.f0 = 1
  · rw [if_pos c1, if_pos c1]
    by_cases c2 : x.f1 = 0
    · rw [if_pos c2]
      by_cases c3 : (x.f3.length : Int) = 0
      · rw [if_pos c3, (hlen2 x.f3).mp c3]
        simp [strings_Contains.f, index_has, c2]
      · rw [if_neg c3]
        have : x.f3.isEmpty = false := by rw [hlen2] at c3; simpa using c3
        rw [this]; simp
    · rw [if_neg c2]; simp [c2]
  · rw [if_neg c1, if_neg c1]
    have key : ∀ b : Bool, (b = true ↔ (x.f0 = 2 ∨ x.f0 = 3 ∨ x.f0 = 4)) → doc_own.j0 1 x.f0 b x.f0 x.f1 x.f2 x.f3 = some (if x.f0 = 2 ∨ x.f0 = 3 ∨ x.f0 = 4 then x.f2.toList.isEmpty && decide (x.f1 = 0) && x.f3.isEmpty
        else if x.f0 = 5 then x.f2.toList.isEmpty && decide (x.f1 = 0)
        else if x.f0 = 6 then x.f2.toList.isEmpty && decide (0 ≤ x.f1) && decide (x.f1 ≤ 1000)
        else if x.f0 = 7 then x.f2.toList.isEmpty && decide (x.f1 / 2 = 0) else false) := by
      intro b hb
      simp only [doc_own.j0]
      have e0 : ∀ z : Int, (z == 0) = decide (z = 0) := fun z => by by_cases h : z = 0 <;> simp [h]
      by_cases c2 : x.f0 = 2 ∨ x.f0 = 3 ∨ x.f0 = 4
      · rw [if_pos (hb.mpr c2), if_pos c2, hlen]
        cases hsx : x.f2.toList.isEmpty
        · rw [if_neg (by rw [hs]; simp [hsx])]; simp
        · rw [if_pos ((hs _).mpr hsx)]
          by_cases c3 : x.f1 = 0
          · rw [if_pos c3]; simp [c3]
          · rw [if_neg c3]; simp [c3]
      · rw [if_neg (fun h => c2 (hb.mp h)), if_neg c2, e0, e0]
        cases hsx : x.f2.toList.isEmpty
        · have hne : ¬ (x.f2.toList = ([] : List UInt8)) := by rw [hs]; simp [hsx]
          rw [if_neg hne, if_neg hne, if_neg hne]
          simp
        · have he := (hs _).mpr hsx
          rw [if_pos he, if_pos he, if_pos he]
          by_cases c5 : x.f0 = 5
          · rw [if_pos c5, if_pos c5]; simp
          · rw [if_neg c5, if_neg c5]
            by_cases c6 : x.f0 = 6
            · rw [if_pos c6, if_pos c6]
              by_cases c7 : x.f1 ≥ 0
              · rw [if_pos c7]; simp [show 0 ≤ x.f1 from c7]
              · rw [if_neg c7]; simp [show ¬ 0 ≤ x.f1 from c7]
            · rw [if_neg c6, if_neg c6]
              by_cases c7 : x.f0 = 7
              · rw [if_pos c7, if_pos c7]; simp
              · rw [if_neg c7, if_neg c7]
    by_cases c2 : x.f0 = 2
    · rw [if_pos c2]; exact key _ (by simp [c2])
    · rw [if_neg c2]
      by_cases c3 : x.f0 = 3
      · rw [if_pos c3]; exact key _ (by simp [c3])
      · rw [if_neg c3]; exact key _ (by simp [c2, c3])
theorem own_calls (x : S24) (A3 : Option Addr) (c3 : Nat) (w : World) (h : Dc w x A3 c3) :
    Calls Try.prog 46 #[.agg #[.int .i64 x.f0, .int .i64 x.f1, .string x.f2, .slice A3 x.f3.length c3]] w fun e w' => e = .returned (.bool (ownB x)) ∧ Below w.heap.size w w' :=
  doc_own.calls 1 x.f0 x.f1 x.f2 A3 c3 x.f3 _ w h.g3 h.l3 (own_comes x)

/-! ### a document's parts, how deep it is, whether all of it may be -/
mutual
def cnt : S24 → Nat
  | ⟨_, _, _, l⟩ => 1 + cntL l
def cntL : List S24 → Nat
  | [] => 0
  | x :: r => cnt x + cntL r
end
mutual
def dep : S24 → Nat
  | ⟨_, _, _, l⟩ => 1 + depL l
def depL : List S24 → Nat
  | [] => 0
  | x :: r => max (dep x) (depL r)
end
mutual
def allOwn : S24 → Bool
  | ⟨a, b, c, l⟩ => ownB ⟨a, b, c, l⟩ && allOwnL l
def allOwnL : List S24 → Bool
  | [] => true
  | x :: r => allOwn x && allOwnL r
end
mutual
def mayS : S24 → Nat → Nat → Bool × Nat
  | ⟨a, b, s, l⟩, d, c => if 2000000 < c + 1 then (false, c + 1) else if 200000 < d then (false, c + 1) else if ownB ⟨a, b, s, l⟩ = false then (false, c + 1) else mayL l (d + 1) (c + 1)
def mayL : List S24 → Nat → Nat → Bool × Nat
  | [], _, c => (true, c)
  | x :: r, d, c => if (mayS x d c).1 = false then (false, (mayS x d c).2) else mayL r d (mayS x d c).2
end
theorem cnt_eq (x : S24) : cnt x = 1 + cntL x.f3 := by cases x; rfl
theorem cntL_append (a b : List S24) : cntL (a ++ b) = cntL a + cntL b := by
  induction a with
  | nil => simp [cntL]
  | cons x r ih => simp [cntL, ih]; omega
theorem cnt_lt (x : S24) (i : Nat) (h : i < x.f3.length) : cnt x.f3[i] < cnt x := by
  have h1 : x.f3 = x.f3.take i ++ (x.f3[i] :: x.f3.drop (i + 1)) := by rw [← List.drop_eq_getElem_cons h, List.take_append_drop]
  have h2 : cntL x.f3 = cntL (x.f3.take i) + (cnt x.f3[i] + cntL (x.f3.drop (i + 1))) := by
    conv => lhs; rw [h1]
    rw [cntL_append]; rfl
  rw [cnt_eq x, h2]; omega
theorem mayS_eq (x : S24) (d c : Nat) : mayS x d c = if 2000000 < c + 1 then (false, c + 1) else if 200000 < d then (false, c + 1) else if ownB x = false then (false, c + 1) else mayL x.f3 (d + 1) (c + 1) := by cases x; rfl
mutual
theorem mayS_spec : ∀ (x : S24) (d c : Nat), c ≤ 2000000 → (mayS x d c).1 = (allOwn x && decide (d + dep x ≤ 200001) && decide (c + cnt x ≤ 2000000)) ∧ ((mayS x d c).1 = true → (mayS x d c).2 = c + cnt x)
  | ⟨a, b, s, l⟩, d, c, hc => by
    unfold mayS allOwn dep cnt
    by_cases h1 : 2000000 < c + 1
    · rw [if_pos h1, decide_eq_false (show ¬ c + (1 + cntL l) ≤ 2000000 by omega)]; simp
    rw [if_neg h1]
    by_cases h2 : 200000 < d
    · rw [if_pos h2, decide_eq_false (show ¬ d + (1 + depL l) ≤ 200001 by omega)]; simp
    rw [if_neg h2]
    cases h3 : ownB ⟨a, b, s, l⟩
    · simp
    · simp only [Bool.true_eq_false, if_false, Bool.true_and]
      obtain ⟨e1, e2⟩ := mayL_spec l (d + 1) (c + 1) (by omega) (by omega)
      rw [e1]
      have a1 : (d + 1 + depL l ≤ 200001) ↔ (d + (1 + depL l) ≤ 200001) := by omega
      have a2 : (c + 1 + cntL l ≤ 2000000) ↔ (c + (1 + cntL l) ≤ 2000000) := by omega
      refine ⟨by simp only [a1, a2], fun h => ?_⟩
      rw [e2 (by rw [e1]; exact h)]; omega
theorem mayL_spec : ∀ (l : List S24) (d c : Nat), c ≤ 2000000 → d ≤ 200001 → (mayL l d c).1 = (allOwnL l && decide (d + depL l ≤ 200001) && decide (c + cntL l ≤ 2000000)) ∧ ((mayL l d c).1 = true → (mayL l d c).2 = c + cntL l)
  | [], d, c, hc, hd => by simp [mayL, allOwnL, cntL, depL, hc, hd]
  | x :: r, d, c, hc, hd => by
    obtain ⟨e1, e2⟩ := mayS_spec x d c hc
    unfold mayL allOwnL depL cntL
    cases h : (mayS x d c).1
    · rw [h] at e1
      simp only [if_true, Bool.false_eq_true, false_implies, and_true]
      symm
      cases h1 : allOwn x
      · simp
      · rw [h1, Bool.true_and] at e1
        have h2 := e1.symm
        rw [Bool.and_eq_false_iff, decide_eq_false_iff_not, decide_eq_false_iff_not] at h2
        rw [Bool.and_eq_false_iff, Bool.and_eq_false_iff, decide_eq_false_iff_not, decide_eq_false_iff_not]
        rcases h2 with h2 | h2
        · exact .inl (.inr (by omega))
        · exact .inr (by omega)
    · rw [h] at e1
      have h2 := e1.symm
      rw [Bool.and_eq_true, Bool.and_eq_true, decide_eq_true_eq, decide_eq_true_eq] at h2
      obtain ⟨⟨h3, h4⟩, h5⟩ := h2
      obtain ⟨f1, f2⟩ := mayL_spec r d (c + cnt x) h5 hd
      simp only [Bool.true_eq_false, if_false, e2 h]
      rw [f1, h3]
      have a1 : (d + depL r ≤ 200001) ↔ (d + max (dep x) (depL r) ≤ 200001) := by omega
      have a2 : (c + cnt x + cntL r ≤ 2000000) ↔ (c + (cnt x + cntL r) ≤ 2000000) := by omega
      refine ⟨by simp only [a1, a2, Bool.true_and], fun h => ?_⟩
      rw [f2 (by rw [f1]; simpa using h)]; omega
end
/-- May a document be? -/
def mayB (x : S24) : Bool := allOwn x && decide (dep x ≤ 200000) && decide (cnt x ≤ 2000000)
theorem mayS_may (x : S24) : (mayS x 1 0).1 = mayB x := by
  rw [(mayS_spec x 1 0 (by omega)).1, mayB]
  have a1 : (1 + dep x ≤ 200001) ↔ (dep x ≤ 200000) := by omega
  simp only [a1, Nat.zero_add]
theorem mayS_le (x : S24) (d c : Nat) (hc : c ≤ 2000000) : (mayS x d c).1 = true → (mayS x d c).2 ≤ 2000000 := fun h => by
  rw [(mayS_spec x d c hc).2 h]
  rw [(mayS_spec x d c hc).1, Bool.and_eq_true, decide_eq_true_eq] at h
  exact h.2
theorem mayL_drop (l : List S24) (d c : Nat) (i : Nat) (h : i < l.length) : mayL (l.drop i) d c = if (mayS l[i] d c).1 = false then (false, (mayS l[i] d c).2) else mayL (l.drop (i + 1)) d (mayS l[i] d c).2 := by
  rw [List.drop_eq_getElem_cons h]; rfl

/-- What a call of may comes to. -/
def MayAt (g : Nat) (w0 : World) (x : S24) (A3 : Option Addr) (c3 : Nat) (d c : Nat) (w : World) : Prop :=
  Calls Try.prog 39 #[.agg #[.int .i64 x.f0, .int .i64 x.f1, .string x.f2, .slice A3 x.f3.length c3], .int .i64 d, .pointer (some ⟨g, 0, none⟩)] w fun e w' => e = .returned (.bool (mayS x d c).1) ∧ Below w0.heap.size w0 w' ∧ Keeps w w' ∧ w'.heap[g]? = some (.cells #[.int .i64 (mayS x d c).2] 3 (0, 0))
set_option maxHeartbeats 4000000 in
set_option maxRecDepth 100000 in
theorem may_many (g : Nat) (w0 : World) (hgB : w0.heap.size ≤ g) (x : S24) (A3 : Option Addr) (c3 : Nat) (d c : Nat) (w : World) (hd : d ≤ 200001) (hc : c ≤ 2000000) (hx : Dc w0 x A3 c3) (hb : Below w0.heap.size w0 w) (hg : w.heap[g]? = some (.cells #[.int .i64 c] 3 (0, 0))) (h1 : c = 2000000) :
    MayAt g w0 x A3 c3 d c w := by
  have hu24 := Try.underlying24
  have HX := Aside0.mk hx
  have HB := Aside0.mk hb
  have HG := Aside0.mk hg
  have HGB := Aside0.mk hgB
  clear hx hb hg hgB
  unfold MayAt
  have HM : Aside0 (mayS x d c = (false, c + 1)) := ⟨by rw [mayS_eq, if_pos (by omega)]⟩
  have h1b : decide ((2000000 : Int) < (c : Int) + 1) = true := decide_eq_true (by omega)
  have hb0 : 0 ≤ (c : Int) := by omega
  have hb1 : (c : Int) ≤ 10000000 := by omega
  clear h1 hc hd
  go_enter Try.func39, Try.ntmps39
  go_wp2_with (first | ((with_reducible refine gate_dst (N := 3) rfl ?_); (try (refine gate_guard (by rfl) ?_; dsimp only)); refine box_event ?hg (N := 3) ?hd (cs := #[.int .i64 x.f0, .int .i64 x.f1, .string x.f2, .slice A3 x.f3.length c3]) (t := 24) ?hr ?_; (case hd => rfl); (case hg => rfl); (case hr => first | (go_simp; done) | (go_simp; rfl)); intro gb hg w1 hbox hb; have HB1 := Aside0.mk (below_step HB.out hb); have HG1 := Aside0.mk (blk_below HG.out hb); have HKP1 := Aside0.mk ((Keeps.refl w).below hb); have HX1 := Aside0.mk (HX.out.below HB1.out); have hc1 : w1.cell? ⟨g, 0, none⟩ = some (.int .i64 c) := (blk_cell HG1.out 0).trans rfl; have hf1 : w1.frozen? ⟨g, 0, none⟩ = false := blk_frozen HG1.out 0; have HBX := Aside0.mk hbox; clear hb hbox hg))
  go_ret
  have e : ((c : Int) + 1) = ((c + 1 : Nat) : Int) := by omega
  refine ⟨by rw [HM.out]; rfl, HB1.out.setCell (by have := HGB.out; exact this) _, HKP1.out.set HG1.out (by decide) 0 _, ?_⟩
  rw [HM.out, e]
  exact blk_set HG1.out 0 _
set_option maxHeartbeats 4000000 in
set_option maxRecDepth 100000 in
theorem may_deep (g : Nat) (w0 : World) (hgB : w0.heap.size ≤ g) (x : S24) (A3 : Option Addr) (c3 : Nat) (d c : Nat) (w : World) (hd : d ≤ 200001) (hc : c ≤ 2000000) (hx : Dc w0 x A3 c3) (hb : Below w0.heap.size w0 w) (hg : w.heap[g]? = some (.cells #[.int .i64 c] 3 (0, 0))) (h1 : c < 2000000) (h2 : d = 200001) :
    MayAt g w0 x A3 c3 d c w := by
  have hu24 := Try.underlying24
  have HX := Aside0.mk hx
  have HB := Aside0.mk hb
  have HG := Aside0.mk hg
  have HGB := Aside0.mk hgB
  clear hx hb hg hgB
  unfold MayAt
  have HM : Aside0 (mayS x d c = (false, c + 1)) := ⟨by rw [mayS_eq, if_neg (by omega), if_pos (by omega)]⟩
  have h1b : decide ((2000000 : Int) < (c : Int) + 1) = false := decide_eq_false (by omega)
  have h2b : decide ((200000 : Int) < (d : Int)) = true := decide_eq_true (by omega)
  have hb0 : 0 ≤ (c : Int) := by omega
  have hb1 : (c : Int) ≤ 10000000 := by omega
  clear h1 h2 hc hd
  go_enter Try.func39, Try.ntmps39
  go_wp2_with (first | ((with_reducible refine gate_dst (N := 3) rfl ?_); (try (refine gate_guard (by rfl) ?_; dsimp only)); refine box_event ?hg (N := 3) ?hd (cs := #[.int .i64 x.f0, .int .i64 x.f1, .string x.f2, .slice A3 x.f3.length c3]) (t := 24) ?hr ?_; (case hd => rfl); (case hg => rfl); (case hr => first | (go_simp; done) | (go_simp; rfl)); intro gb hg w1 hbox hb; have HB1 := Aside0.mk (below_step HB.out hb); have HG1 := Aside0.mk (blk_below HG.out hb); have HKP1 := Aside0.mk ((Keeps.refl w).below hb); have HX1 := Aside0.mk (HX.out.below HB1.out); have hc1 : w1.cell? ⟨g, 0, none⟩ = some (.int .i64 c) := (blk_cell HG1.out 0).trans rfl; have hf1 : w1.frozen? ⟨g, 0, none⟩ = false := blk_frozen HG1.out 0; have HBX := Aside0.mk hbox; clear hb hbox hg))
  go_ret
  have e : ((c : Int) + 1) = ((c + 1 : Nat) : Int) := by omega
  refine ⟨by rw [HM.out]; rfl, HB1.out.setCell (by have := HGB.out; exact this) _, HKP1.out.set HG1.out (by decide) 0 _, ?_⟩
  rw [HM.out, e]
  exact blk_set HG1.out 0 _
theorem below_set0 {w0 w1 : World} (h : Below w0.heap.size w0 w1) {g : Nat} (hg : w0.heap.size ≤ g) (u : Value) : Below w0.heap.size w0 (w1.setCell ⟨g, 0, none⟩ u) := h.setCell hg u
set_option maxHeartbeats 4000000 in
set_option maxRecDepth 100000 in
theorem may_own (g : Nat) (w0 : World) (hgB : w0.heap.size ≤ g) (x : S24) (A3 : Option Addr) (c3 : Nat) (d c : Nat) (w : World) (hd : d ≤ 200001) (hc : c ≤ 2000000) (hx : Dc w0 x A3 c3) (hb : Below w0.heap.size w0 w) (hg : w.heap[g]? = some (.cells #[.int .i64 c] 3 (0, 0))) (h1 : c < 2000000) (h2 : d < 200001) (h3 : ownB x = false) :
    MayAt g w0 x A3 c3 d c w := by
  have hu24 := Try.underlying24
  have HX := Aside0.mk hx
  have HB := Aside0.mk hb
  have HG := Aside0.mk hg
  have HGB := Aside0.mk hgB
  clear hx hb hg hgB
  unfold MayAt
  have HM : Aside0 (mayS x d c = (false, c + 1)) := ⟨by rw [mayS_eq, if_neg (by omega), if_neg (by omega), if_pos h3]⟩
  have h1b : decide ((2000000 : Int) < (c : Int) + 1) = false := decide_eq_false (by omega)
  have h2b : decide ((200000 : Int) < (d : Int)) = false := decide_eq_false (by omega)
  have hb0 : 0 ≤ (c : Int) := by omega
  have hb1 : (c : Int) ≤ 10000000 := by omega
  have hd0 : 0 ≤ (d : Int) := by omega
  have hd1' : (d : Int) ≤ 10000000 := by omega
  have H1 := Aside0.mk h1
  have H2 := Aside0.mk h2
  clear h1 h2 hc hd
  have H3 := Aside0.mk h3
  clear h3
  go_enter Try.func39, Try.ntmps39
  go_wp2_with (first | ((with_reducible refine gate_dst (N := 3) rfl ?_); (try (refine gate_guard (by rfl) ?_; dsimp only)); refine box_event ?hg (N := 3) ?hd (cs := #[.int .i64 x.f0, .int .i64 x.f1, .string x.f2, .slice A3 x.f3.length c3]) (t := 24) ?hr ?_; (case hd => rfl); (case hg => rfl); (case hr => first | (go_simp; done) | (go_simp; rfl)); intro gb hg w1 hbox hb; have HB1 := Aside0.mk (below_step HB.out hb); have HG1 := Aside0.mk (blk_below HG.out hb); have HKP1 := Aside0.mk ((Keeps.refl w).below hb); have HX1 := Aside0.mk (HX.out.below HB1.out); have hc1 : w1.cell? ⟨g, 0, none⟩ = some (.int .i64 c) := (blk_cell HG1.out 0).trans rfl; have hf1 : w1.frozen? ⟨g, 0, none⟩ = false := blk_frozen HG1.out 0; have HBX := Aside0.mk hbox; have hbf := fun u => blk_far HBX.out (p := ⟨g, 0, none⟩) (blk_ne HBX.out HG1.out (by decide)) u; have z0 : ∀ u, (w1.setCell ⟨g, 0, none⟩ u).cell? ⟨gb, 0, none⟩ = some (.int .i64 x.f0) := fun u => (blk_cell (hbf u) 0).trans rfl; have z1 : ∀ u, (w1.setCell ⟨g, 0, none⟩ u).cell? ⟨gb, 1, none⟩ = some (.int .i64 x.f1) := fun u => (blk_cell (hbf u) 1).trans rfl; have z2 : ∀ u, (w1.setCell ⟨g, 0, none⟩ u).cell? ⟨gb, 2, none⟩ = some (.string x.f2) := fun u => (blk_cell (hbf u) 2).trans rfl; have z3 : ∀ u, (w1.setCell ⟨g, 0, none⟩ u).cell? ⟨gb, 3, none⟩ = some (.slice A3 x.f3.length c3) := fun u => (blk_cell (hbf u) 3).trans rfl; clear hbf hb hbox hg))
  have hd1 : Dc (w1.setCell ⟨g, 0, none⟩ (.int .i64 ((c : Int) + 1))) x A3 c3 := HX.out.below (below_set0 HB1.out HGB.out _)
  refine (own_calls x A3 c3 _ hd1).mono ?_
  rintro e w2 ⟨rfl, hb2⟩
  rw [H3.out]
  have HG2 := Aside0.mk (blk_below (blk_set HG1.out 0 (.int .i64 ((c : Int) + 1))) hb2)
  have HB2 := Aside0.mk (below_step (below_set0 HB1.out HGB.out (.int .i64 ((c : Int) + 1))) hb2)
  have HK2 := Aside0.mk ((HKP1.out.set HG1.out (by decide) 0 (.int .i64 ((c : Int) + 1))).below hb2)
  clear hb2 hd1
  go_wp2_with fail
  go_ret
  have e : ((c : Int) + 1) = ((c + 1 : Nat) : Int) := by omega
  refine ⟨by rw [HM.out]; rfl, HB2.out, HK2.out, ?_⟩
  rw [HM.out, ← e]
  exact HG2.out
set_option maxHeartbeats 4000000 in
set_option maxRecDepth 100000 in
theorem may_all (g : Nat) (w0 : World) (hgB : w0.heap.size ≤ g) (x : S24) (A3 : Option Addr) (c3 : Nat) (d c : Nat) (w : World) (hd : d ≤ 200001) (hc : c ≤ 2000000) (hx : Dc w0 x A3 c3) (hb : Below w0.heap.size w0 w) (hg : w.heap[g]? = some (.cells #[.int .i64 c] 3 (0, 0))) (h1 : c < 2000000) (h2 : d < 200001) (h3 : ownB x = true) (ih : ∀ (i : Nat) (h : i < x.f3.length) (c' : Nat) (B3 : Option Addr) (d3 : Nat) (w' : World), c' ≤ 2000000 → Dc w0 x.f3[i] B3 d3 → Below w0.heap.size w0 w' → w'.heap[g]? = some (.cells #[.int .i64 c'] 3 (0, 0)) → MayAt g w0 x.f3[i] B3 d3 (d + 1) c' w') :
    MayAt g w0 x A3 c3 d c w := by
  have hu24 := Try.underlying24
  have HX := Aside0.mk hx
  have HB := Aside0.mk hb
  have HG := Aside0.mk hg
  have HGB := Aside0.mk hgB
  clear hx hb hg hgB
  unfold MayAt
  have HM : Aside0 (mayS x d c = mayL x.f3 (d + 1) (c + 1)) := ⟨by rw [mayS_eq, if_neg (by omega), if_neg (by omega), if_neg (by simp [h3])]⟩
  have h1b : decide ((2000000 : Int) < (c : Int) + 1) = false := decide_eq_false (by omega)
  have h2b : decide ((200000 : Int) < (d : Int)) = false := decide_eq_false (by omega)
  have hb0 : 0 ≤ (c : Int) := by omega
  have hb1 : (c : Int) ≤ 10000000 := by omega
  have hd0 : 0 ≤ (d : Int) := by omega
  have hd1' : (d : Int) ≤ 10000000 := by omega
  have H1 := Aside0.mk h1
  have H2 := Aside0.mk h2
  clear h1 h2 hc hd
  have H3 := Aside0.mk h3
  have IH := Aside0.mk ih
  clear h3 ih
  go_enter Try.func39, Try.ntmps39
  go_wp2_with (first | ((with_reducible refine gate_dst (N := 3) rfl ?_); (try (refine gate_guard (by rfl) ?_; dsimp only)); refine box_event ?hg (N := 3) ?hd (cs := #[.int .i64 x.f0, .int .i64 x.f1, .string x.f2, .slice A3 x.f3.length c3]) (t := 24) ?hr ?_; (case hd => rfl); (case hg => rfl); (case hr => first | (go_simp; done) | (go_simp; rfl)); intro gb hg w1 hbox hb; have HB1 := Aside0.mk (below_step HB.out hb); have HG1 := Aside0.mk (blk_below HG.out hb); have HKP1 := Aside0.mk ((Keeps.refl w).below hb); have HX1 := Aside0.mk (HX.out.below HB1.out); have hc1 : w1.cell? ⟨g, 0, none⟩ = some (.int .i64 c) := (blk_cell HG1.out 0).trans rfl; have hf1 : w1.frozen? ⟨g, 0, none⟩ = false := blk_frozen HG1.out 0; have HBX := Aside0.mk hbox; have hbf := fun u => blk_far HBX.out (p := ⟨g, 0, none⟩) (blk_ne HBX.out HG1.out (by decide)) u; have z0 : ∀ u, (w1.setCell ⟨g, 0, none⟩ u).cell? ⟨gb, 0, none⟩ = some (.int .i64 x.f0) := fun u => (blk_cell (hbf u) 0).trans rfl; have z1 : ∀ u, (w1.setCell ⟨g, 0, none⟩ u).cell? ⟨gb, 1, none⟩ = some (.int .i64 x.f1) := fun u => (blk_cell (hbf u) 1).trans rfl; have z2 : ∀ u, (w1.setCell ⟨g, 0, none⟩ u).cell? ⟨gb, 2, none⟩ = some (.string x.f2) := fun u => (blk_cell (hbf u) 2).trans rfl; have z3 : ∀ u, (w1.setCell ⟨g, 0, none⟩ u).cell? ⟨gb, 3, none⟩ = some (.slice A3 x.f3.length c3) := fun u => (blk_cell (hbf u) 3).trans rfl; clear hbf hb hbox hg))
  have hd1 : Dc (w1.setCell ⟨g, 0, none⟩ (.int .i64 ((c : Int) + 1))) x A3 c3 := HX.out.below (below_set0 HB1.out HGB.out _)
  refine (own_calls x A3 c3 _ hd1).mono ?_
  rintro e w2 ⟨rfl, hb2⟩
  rw [H3.out]
  have HG2 : Aside0 (w2.heap[g]? = some (.cells #[.int .i64 ((c + 1 : Nat) : Int)] 3 (0, 0))) := ⟨by
    have e : ((c : Int) + 1) = ((c + 1 : Nat) : Int) := by omega
    rw [← e]
    exact blk_below (blk_set HG1.out 0 (.int .i64 ((c : Int) + 1))) hb2⟩
  have HB2 := Aside0.mk (below_step (below_set0 HB1.out HGB.out (.int .i64 ((c : Int) + 1))) hb2)
  have HK2 := Aside0.mk ((HKP1.out.set HG1.out (by decide) 0 (.int .i64 ((c : Int) + 1))).below hb2)
  have HBX2 := Aside0.mk (blk_below (blk_far HBX.out (p := ⟨g, 0, none⟩) (blk_ne HBX.out HG1.out (by decide)) (.int .i64 ((c : Int) + 1))) hb2)
  clear hb2 hd1 HBX HKP1 HB1 HG1 HX1 hc1 hf1 z0 z1 z2 z3
  have hl3 : w2.cell? ⟨gb, 3, none⟩ = some (.slice A3 x.f3.length c3) := (blk_cell HBX2.out 3).trans rfl
  go_wp2_with fail
  have hm : x.f3.length ≤ 9223372036854775807 := HX.out.g3.2.1
  go_loopg [6, 8, 30] x.f3.length (fun k' v6 v8 v30 wr => ∃ (i c' : Nat), v30 = .int .i64 i ∧ v6 = .bool false ∧ i ≤ x.f3.length ∧ Aside0 (k' + i = x.f3.length) ∧ Aside0 (c' ≤ 2000000) ∧ Aside0 (mayS x d c = mayL (x.f3.drop i) (d + 1) c') ∧ Aside0 (Below w0.heap.size w0 wr) ∧ Aside0 (Keeps w wr) ∧ Aside0 (wr.heap[gb]? = some (.cells #[.int .i64 x.f0, .int .i64 x.f1, .string x.f2, .slice A3 x.f3.length c3] 24 (0, 0))) ∧ Aside0 (wr.heap[g]? = some (.cells #[.int .i64 c'] 3 (0, 0))))
  case atStart => exact ⟨0, c + 1, rfl, rfl, Nat.zero_le _, ⟨rfl⟩, ⟨by have := H1.out; omega⟩, ⟨HM.out⟩, HB2, HK2, HBX2, HG2⟩
  case round =>
    clear HB2 HK2 HBX2 HG2 hl3
    obtain ⟨i, c', rfl, rfl, hi, HKI, HC, HE, HBR, HKR, HXR, HGR⟩ := hrel
    by_cases hlt : i < x.f3.length
    · obtain ⟨ad, B3, d3, e0, ny, qy⟩ := Dc.at_ HX.out.g3 i hlt
      cases e0
      obtain ⟨q0, q1, q2, q3⟩ := qy _ HBR.out
      have NY := Aside0.mk ny
      have HT := Aside0.mk (mayL_drop x.f3 (d + 1) c' i hlt)
      have IHI := Aside0.mk (IH.out i hlt)
      have HSP := Aside0.mk (mayS_le x.f3[i] (d + 1) c' HC.out)
      clear qy ny
      obtain ⟨y, hy⟩ : ∃ y, y = x.f3[i] := ⟨_, rfl⟩
      rw [← hy] at q0 q1 q2 q3 NY HT IHI HSP
      clear hy
      go_wp2_with fail
      have ed : ((d : Int) + 1) = ((d + 1 : Nat) : Int) := by omega
      rw [ed]
      clear ed
      refine (IHI.out c' B3 d3 _ HC.out NY.out (HBR.out.alloc HBR.out.size _) (blk_alloc HGR.out _)).mono ?_
      rintro e w3 ⟨rfl, hb3, hk3, hg3⟩
      have NB := Aside0.mk hb3
      have NK := Aside0.mk ((HKR.out.alloc _).trans hk3)
      have NX := Aside0.mk (hk3.keep _ _ _ (.inr rfl) (blk_alloc HXR.out _))
      have NG := Aside0.mk hg3
      clear hb3 hk3 hg3 q0 q1 q2 q3
      cases hm1 : (mayS y (d + 1) c').1
      · have HM1 := Aside0.mk hm1
        clear hm1
        go_wp2_with fail
        go_ret
        have e1 : mayS x d c = (false, (mayS y (d + 1) c').2) := by rw [HE.out, HT.out, HM1.out]; rfl
        exact ⟨by rw [e1]; rfl, NB.out, NK.out, by rw [e1]; exact NG.out⟩
      · have HM1 := Aside0.mk hm1
        clear hm1
        go_wp2_with fail
        go_roundg (gk - 1)
        case measure => have := HKI.out; omega
        case rel => exact ⟨i + 1, (mayS y (d + 1) c').2, by go_num, rfl, by omega, ⟨by have := HKI.out; omega⟩, ⟨HSP.out HM1.out⟩, ⟨by rw [HE.out, HT.out, HM1.out]; rfl⟩, NB, NK, NX, NG⟩
    · go_wp2_with fail
      go_ret
      have e1 : mayS x d c = (true, c') := by rw [HE.out, List.drop_eq_nil_of_le (by omega)]; rfl
      exact ⟨by rw [e1]; rfl, HBR.out, HKR.out, by rw [e1]; exact HGR.out⟩

theorem may_calls (g : Nat) (w0 : World) (hgB : w0.heap.size ≤ g) (k : Nat) : ∀ (x : S24) (A3 : Option Addr) (c3 : Nat) (d c : Nat) (w : World) (hk : cnt x ≤ k) (hd : d ≤ 200001) (hc : c ≤ 2000000) (hx : Dc w0 x A3 c3) (hb : Below w0.heap.size w0 w) (hg : w.heap[g]? = some (.cells #[.int .i64 c] 3 (0, 0))), MayAt g w0 x A3 c3 d c w := by
  induction k using Nat.strongRecOn with
  | _ k ih =>
  intro x A3 c3 d c w hk hd hc hx hb hg
  by_cases h1 : c = 2000000
  · exact may_many g w0 hgB x A3 c3 d c w hd hc hx hb hg h1
  by_cases h2 : d = 200001
  · exact may_deep g w0 hgB x A3 c3 d c w hd hc hx hb hg (by omega) h2
  cases h3 : ownB x
  · exact may_own g w0 hgB x A3 c3 d c w hd hc hx hb hg (by omega) (by omega) h3
  · exact may_all g w0 hgB x A3 c3 d c w hd hc hx hb hg (by omega) (by omega) h3 fun i hi c' B3 d3 w' hc' hx' hb' hg' =>
      ih (cnt x.f3[i]) (Nat.lt_of_lt_of_le (cnt_lt x i hi) hk) x.f3[i] B3 d3 (d + 1) c' w' (Nat.le_refl _) (by omega) hc' hx' hb' hg'

set_option maxHeartbeats 2000000 in
theorem May_calls (x : S24) (A3 : Option Addr) (c3 : Nat) (w : World) (hx : Dc w x A3 c3) :
    Calls Try.prog 32 #[.agg #[.int .i64 x.f0, .int .i64 x.f1, .string x.f2, .slice A3 x.f3.length c3]] w fun e w' => e = .returned (.bool (mayB x)) ∧ Below w.heap.size w w' := by
  have hu24 := Try.underlying24
  have HX := Aside0.mk hx
  clear hx
  go_enter Try.func32, Try.ntmps32
  go_wp2_with fail
  obtain ⟨o1, ho1⟩ : ∃ o1, o1 = (Obj.cells #[.int .i64 x.f0, .int .i64 x.f1, .string x.f2, .slice A3 x.f3.length c3] 24) := ⟨_, rfl⟩
  rw [← ho1]
  have hl : (w.alloc o1).heap.size = w.heap.size + 1 := by simp
  have hb1 := (((Below.refl w.heap.size w).alloc (Nat.le_refl _) o1).alloc (by simp) (.cells #[.int .i64 0] 3))
  have hg1 := blk_new (w.alloc o1) (.cells #[.int .i64 0] 3)
  rw [hl] at hg1
  refine (may_calls (w.heap.size + 1) w (by omega) (cnt x) x A3 c3 1 0 _ (Nat.le_refl _) (by decide) (by decide) HX.out hb1 hg1).mono ?_
  rintro e w' ⟨rfl, hb, hk, hI⟩
  have HBW := Aside0.mk hb
  clear hb hk hI hb1 hg1 ho1
  go_wp2_with fail
  go_ret
  exact ⟨by rw [← mayS_may]; rfl, HBW.out⟩
end Go.Proofs.Ytigihiggpfjbjaa.PR

/- Plain: what the document's answers for documents come to; DocAsks answers true. -/
namespace Go.Proofs.Ytigihiggpfjbjaa.PR
open Go.RowKit Go.Proofs.YtigihiggpfjbjaaW.PrintWords Go.Proofs.YtigihiggpfjbjaaW.PrintLast Go.Proofs.YtigihiggpfjbjaaW.PrintMore
set_option linter.unusedVariables false
set_option linter.unusedSimpArgs false

/-! ### sizes -/
mutual
def finD : S24 → Prop
  | ⟨_, _, s, l⟩ => s.size ≤ 100 ∧ l.length ≤ 500 ∧ finDL l
def finDL : List S24 → Prop
  | [] => True
  | x :: r => finD x ∧ finDL r
end
theorem finD_eq (x : S24) : finD x ↔ x.f2.size ≤ 100 ∧ x.f3.length ≤ 500 ∧ finDL x.f3 := by cases x; rfl
theorem finDL_get : ∀ (l : List S24), finDL l → ∀ i (h : i < l.length), finD l[i]
  | [], _, i, h => by simp at h
  | x :: r, hl, 0, h => hl.1
  | x :: r, hl, i + 1, h => finDL_get r hl.2 i (by simpa using h)
theorem finD_child {x : S24} (h : finD x) (i : Nat) (hi : i < x.f3.length) : finD x.f3[i] := finDL_get _ ((finD_eq x).1 h).2.2 i hi
theorem dep_eq (x : S24) : dep x = 1 + depL x.f3 := by cases x; rfl
theorem dep_get : ∀ (l : List S24) (i : Nat) (h : i < l.length), dep l[i] ≤ depL l
  | [], i, h => by simp at h
  | x :: r, 0, h => by simp only [depL, List.getElem_cons_zero]; omega
  | x :: r, i + 1, h => by
    have := dep_get r i (by simpa using h)
    simp only [depL, List.getElem_cons_succ]; omega
theorem cntL_drop (l : List S24) (i : Nat) (h : i < l.length) : cntL (l.drop i) = cnt l[i] + cntL (l.drop (i + 1)) := by rw [List.drop_eq_getElem_cons h]; rfl
theorem depL_drop (l : List S24) (i : Nat) (h : i < l.length) : depL (l.drop i) = max (dep l[i]) (depL (l.drop (i + 1))) := by rw [List.drop_eq_getElem_cons h]; rfl
theorem cnt_pos (x : S24) : 1 ≤ cnt x := by rw [cnt_eq]; omega
theorem depL_drop_le (l : List S24) (i : Nat) : depL (l.drop i) ≤ depL l := by
  induction l generalizing i with
  | nil => simp
  | cons x r ih =>
    cases i with
    | zero => simp
    | succ i => have := ih i; simp only [List.drop_succ_cons, depL]; omega

/-! ### few -/
mutual
def fewD : S24 → Nat → Nat
  | ⟨_, _, _, _⟩, 0 => 1000
  | ⟨_, _, s, l⟩, d + 1 => if 100 < s.size then 1000 else if 500 < l.length then 1000 else fewDL l d 1
def fewDL : List S24 → Nat → Nat → Nat
  | [], _, k => k
  | x :: r, d, k => if k < 1000 then fewDL r d (k + fewD x d) else k
end
theorem fewD_zero (x : S24) : fewD x 0 = 1000 := by cases x; rfl
theorem fewD_succ (x : S24) (d : Nat) : fewD x (d + 1) = if 100 < x.f2.size then 1000 else if 500 < x.f3.length then 1000 else fewDL x.f3 d 1 := by cases x; rfl
mutual
theorem fewD_le : ∀ (x : S24) (d : Nat), fewD x d ≤ 1000 * (d + 1)
  | ⟨_, _, _, _⟩, 0 => by simp [fewD]
  | ⟨_, _, s, l⟩, d + 1 => by
    unfold fewD
    repeat' split
    all_goals first | omega | (have := fewDL_le l d 1; omega)
theorem fewDL_le : ∀ (l : List S24) (d k : Nat), fewDL l d k ≤ max k (1000 + 1000 * (d + 1))
  | [], d, k => by simp [fewDL]; omega
  | x :: r, d, k => by
    unfold fewDL
    split
    · have h1 := fewD_le x d
      have h2 := fewDL_le r d (k + fewD x d)
      omega
    · omega
end
mutual
theorem fewD_small : ∀ (x : S24) (d : Nat), fewD x d ≤ 500 → fewD x d = cnt x ∧ dep x ≤ d ∧ finD x
  | ⟨_, _, _, _⟩, 0, h => by simp [fewD] at h
  | ⟨a, b, s, l⟩, d + 1, h => by
    unfold fewD at h ⊢
    split at h
    · omega
    split at h
    · omega
    rename_i h1 h2
    rw [if_neg h1, if_neg h2]
    obtain ⟨h5, h6, h7⟩ := fewDL_small l d 1 h
    refine ⟨by rw [h5]; rfl, by simp only [dep]; omega, ?_⟩
    exact ⟨by omega, by omega, h7⟩
theorem fewDL_small : ∀ (l : List S24) (d k : Nat), fewDL l d k ≤ 500 → fewDL l d k = k + cntL l ∧ depL l ≤ d ∧ finDL l
  | [], d, k, h => by simp [fewDL, cntL, depL, finDL]
  | x :: r, d, k, h => by
    unfold fewDL at h ⊢
    split at h
    · rename_i hk
      rw [if_pos hk]
      obtain ⟨h1, h2, h3⟩ := fewDL_small r d (k + fewD x d) h
      obtain ⟨h4, h5, h6⟩ := fewD_small x d (by omega)
      exact ⟨by rw [h1, h4]; simp only [cntL]; omega, by simp only [depL]; omega, h6, h3⟩
    · omega
end
theorem few15 (n : Nat) : ∀ (x : S24) (d : Nat), cnt x ≤ n → d ≤ 60 → Ev (fun k => galleylaw15_few.f k x.f0 x.f1 x.f2 x.f3 (d : Int)) (fewD x d : Int) := by
  induction n using Nat.strongRecOn with
  | _ n ih =>
  intro x d hn hd
  have jt : Ev (fun k => galleylaw15_few.j0 k (d : Int) true x.f0 x.f1 x.f2 x.f3) (1000 : Int) := Ev.step (f := fun _ => some 1000) (fun k => by simp only [galleylaw15_few.j0, if_true]) (Ev.now _)
  cases d with
  | zero =>
    rw [fewD_zero]
    exact Ev.step (fun k => by simp only [galleylaw15_few.f]; rw [if_pos (by omega)]) jt
  | succ d =>
    rw [fewD_succ]
    have hne : ¬ ((d + 1 : Nat) : Int) = 0 := by omega
    by_cases h1 : 100 < x.f2.size
    · rw [if_pos h1]
      exact Ev.step (fun k => by simp only [galleylaw15_few.f]; rw [if_neg hne, if_pos (by omega)]) jt
    rw [if_neg h1]
    refine Ev.step (f := fun k => galleylaw15_few.j0 k ((d + 1 : Nat) : Int) (decide ((x.f3.length : Int) > 500)) x.f0 x.f1 x.f2 x.f3) (fun k => by simp only [galleylaw15_few.f]; rw [if_neg hne, if_neg (by omega)]) ?_
    by_cases h4 : 500 < x.f3.length
    · rw [if_pos h4, decide_eq_true (show (x.f3.length : Int) > 500 by omega)]
      exact jt
    rw [if_neg h4, decide_eq_false (show ¬ (x.f3.length : Int) > 500 by omega)]
    have loop : ∀ m i : Nat, ∀ a : Nat, a ≤ 1000 * 62 → x.f3.length - i = m → i ≤ x.f3.length → Ev (fun k => galleylaw15_few.l0 k ((d + 1 : Nat) : Int) (a : Int) (i : Int) x.f0 x.f1 x.f2 x.f3) (fewDL (x.f3.drop i) d a : Int) := by
      intro m
      induction m with
      | zero =>
        intro i a ha hm hi
        refine Ev.step (f := fun _ => some (a : Int)) (fun k => by simp only [galleylaw15_few.l0]; rw [if_neg (by omega)]) ?_
        rw [List.drop_eq_nil_of_le (by omega)]
        exact Ev.now _
      | succ m ihm =>
        intro i a ha hm hi
        have hil : i < x.f3.length := by omega
        rw [List.drop_eq_getElem_cons hil]
        unfold fewDL
        by_cases hk : a < 1000
        · rw [if_pos hk]
          have hv := fewD_le x.f3[i] d
          refine Ev.step (f := fun k => (galleylaw15_few.f k x.f3[i].f0 x.f3[i].f1 x.f3[i].f2 x.f3[i].f3 (d : Int)).bind fun t => galleylaw15_few.l0 k ((d + 1 : Nat) : Int) (wrap64 ((a : Int) + t)) ((i + 1 : Nat) : Int) x.f0 x.f1 x.f2 x.f3)
            (fun k => by simp only [galleylaw15_few.l0]; rw [if_pos (by omega), if_pos (by omega), if_pos (by omega), rd24 _ _ hil, wrap_next hil (by omega), show wrap64 (((d + 1 : Nat) : Int) - 1) = (d : Int) by unfold wrap64; omega]) ?_
          refine Ev.bind (ih (cnt x.f3[i]) (Nat.lt_of_lt_of_le (cnt_lt x i hil) hn) x.f3[i] d (Nat.le_refl _) (by omega)) ?_
          rw [show wrap64 ((a : Int) + (fewD x.f3[i] d : Int)) = ((a + fewD x.f3[i] d : Nat) : Int) by unfold wrap64; omega]
          exact ihm (i + 1) (a + fewD x.f3[i] d) (by omega) (by omega) (by omega)
        · rw [if_neg hk]
          exact Ev.step (f := fun _ => some (a : Int)) (fun k => by simp only [galleylaw15_few.l0]; rw [if_pos (by omega), if_neg (by omega)]) (Ev.now _)
    exact Ev.step (f := fun k => galleylaw15_few.l0 k ((d + 1 : Nat) : Int) ((1 : Nat) : Int) ((0 : Nat) : Int) x.f0 x.f1 x.f2 x.f3) (fun k => by simp only [galleylaw15_few.j0]; rw [if_neg (by decide)]; rfl) (loop x.f3.length 0 1 (by omega) (by omega) (by omega))
theorem Few15 (x : S24) : Ev (fun k => galleylaw15_Few.f k x.f0 x.f1 x.f2 x.f3) (decide (fewD x 60 ≤ 500)) := by
  refine Ev.bind (few15 _ x 60 (Nat.le_refl _) (Nat.le_refl _)) ?_
  have : decide ((fewD x 60 : Int) ≤ 500) = decide (fewD x 60 ≤ 500) := by
    by_cases h : fewD x 60 ≤ 500
    · rw [decide_eq_true h, decide_eq_true (by omega)]
    · rw [decide_eq_false h, decide_eq_false (by omega)]
  rw [← this]
  exact Ev.now _

/-! ### forced -/
mutual
def frcB : S24 → Bool
  | ⟨a, b, _, l⟩ => if a = 4 then true else if a = 7 ∧ b = 1 then true else frcL l
def frcL : List S24 → Bool
  | [] => false
  | x :: r => frcB x || frcL r
end
theorem frcB_eq (x : S24) : frcB x = if x.f0 = 4 then true else if x.f0 = 7 ∧ x.f1 = 1 then true else frcL x.f3 := by cases x; rfl
theorem frcL_drop (l : List S24) (i : Nat) (h : i < l.length) : frcL (l.drop i) = (frcB l[i] || frcL (l.drop (i + 1))) := by rw [List.drop_eq_getElem_cons h]; rfl
theorem frcR (n : Nat) : ∀ x : S24, cnt x ≤ n → finD x → Ev (fun k => galleyref15_Forced.f k x.f0 x.f1 x.f2 x.f3) (frcB x) := by
  induction n using Nat.strongRecOn with
  | _ n ih =>
  intro x hn hx
  obtain ⟨_, hm, _⟩ := (finD_eq x).1 hx
  have loop : ∀ d i : Nat, x.f3.length - i = d → i ≤ x.f3.length → Ev (fun k => galleyref15_Forced.l0 k (i : Int) x.f0 x.f1 x.f2 x.f3) (frcL (x.f3.drop i)) := by
    intro d
    induction d with
    | zero =>
      intro i hd hi
      refine Ev.step (f := fun _ => some false) (fun k => by simp only [galleyref15_Forced.l0]; rw [if_neg (by omega)]) ?_
      rw [List.drop_eq_nil_of_le (by omega)]
      exact Ev.now _
    | succ d ihd =>
      intro i hd hi
      have hil : i < x.f3.length := by omega
      refine Ev.step (f := fun k => (galleyref15_Forced.f k x.f3[i].f0 x.f3[i].f1 x.f3[i].f2 x.f3[i].f3).bind fun t => if t = true then some true else galleyref15_Forced.l0 k ((i + 1 : Nat) : Int) x.f0 x.f1 x.f2 x.f3)
        (fun k => by simp only [galleyref15_Forced.l0]; rw [if_pos (by omega), if_pos (by omega), rd24 _ _ hil, wrap_next hil (by omega)]) ?_
      refine Ev.bind (ih (cnt x.f3[i]) (Nat.lt_of_lt_of_le (cnt_lt x i hil) hn) x.f3[i] (Nat.le_refl _) (finD_child hx i hil)) ?_
      rw [frcL_drop x.f3 i hil]
      cases frcB x.f3[i]
      · exact ihd (i + 1) (by omega) (by omega)
      · exact Ev.now _
  have jt : Ev (fun k => galleyref15_Forced.j0 k true x.f0 x.f1 x.f2 x.f3) true := Ev.step (f := fun _ => some true) (fun k => by simp only [galleyref15_Forced.j0, if_true]) (Ev.now _)
  have jf : Ev (fun k => galleyref15_Forced.j0 k false x.f0 x.f1 x.f2 x.f3) (frcL x.f3) := Ev.step (f := fun k => galleyref15_Forced.l0 k ((0 : Nat) : Int) x.f0 x.f1 x.f2 x.f3) (fun k => by simp only [galleyref15_Forced.j0]; rw [if_neg (by decide)]; rfl) (loop x.f3.length 0 (by omega) (by omega))
  rw [frcB_eq]
  by_cases c0 : x.f0 = 4
  · rw [if_pos c0]; exact Ev.step (fun k => by simp only [galleyref15_Forced.f]; rw [if_pos c0]) jt
  rw [if_neg c0]
  by_cases c1 : x.f0 = 7
  · refine Ev.step (f := fun k => galleyref15_Forced.j0 k (x.f1 == 1) x.f0 x.f1 x.f2 x.f3) (fun k => by simp only [galleyref15_Forced.f]; rw [if_neg c0, if_pos c1]) ?_
    by_cases c2 : x.f1 = 1
    · rw [if_pos ⟨c1, c2⟩, beq_iff_eq.mpr c2]; exact jt
    · rw [if_neg (fun h => c2 h.2), beq_eq_false_iff_ne.mpr c2]; exact jf
  · rw [if_neg (fun h => c1 h.1)]
    exact Ev.step (fun k => by simp only [galleyref15_Forced.f]; rw [if_neg c0, if_neg c1]) jf

/-! ### count -/
theorem cntR (n : Nat) : ∀ x : S24, cnt x ≤ n → finD x → Ev (fun k => galleyref15_Count.f k x.f0 x.f1 x.f2 x.f3) (wrap64 (cnt x)) := by
  induction n using Nat.strongRecOn with
  | _ n ih =>
  intro x hn hx
  obtain ⟨_, hm, _⟩ := (finD_eq x).1 hx
  have loop : ∀ d i : Nat, ∀ a : Int, x.f3.length - i = d → i ≤ x.f3.length → Ev (fun k => galleyref15_Count.l0 k (wrap64 a) (i : Int) x.f0 x.f1 x.f2 x.f3) (wrap64 (a + cntL (x.f3.drop i))) := by
    intro d
    induction d with
    | zero =>
      intro i a hd hi
      refine Ev.step (f := fun _ => some (wrap64 a)) (fun k => by simp only [galleyref15_Count.l0]; rw [if_neg (by omega)]) ?_
      rw [List.drop_eq_nil_of_le (by omega)]
      simpa [cntL] using Ev.now (wrap64 a)
    | succ d ihd =>
      intro i a hd hi
      have hil : i < x.f3.length := by omega
      refine Ev.step (f := fun k => (galleyref15_Count.f k x.f3[i].f0 x.f3[i].f1 x.f3[i].f2 x.f3[i].f3).bind fun t => galleyref15_Count.l0 k (wrap64 (wrap64 a + t)) ((i + 1 : Nat) : Int) x.f0 x.f1 x.f2 x.f3)
        (fun k => by simp only [galleyref15_Count.l0]; rw [if_pos (by omega), if_pos (by omega), rd24 _ _ hil, wrap_next hil (by omega)]) ?_
      refine Ev.bind (ih (cnt x.f3[i]) (Nat.lt_of_lt_of_le (cnt_lt x i hil) hn) x.f3[i] (Nat.le_refl _) (finD_child hx i hil)) ?_
      have h := ihd (i + 1) (a + cnt x.f3[i]) (by omega) (by omega)
      rw [wrap_add, cntL_drop x.f3 i hil]
      have e : a + ((cnt x.f3[i] + cntL (x.f3.drop (i + 1)) : Nat) : Int) = a + cnt x.f3[i] + cntL (x.f3.drop (i + 1)) := by omega
      rw [e]
      exact h
  have h := loop x.f3.length 0 1 (by omega) (by omega)
  refine Ev.step (f := fun k => galleyref15_Count.l0 k 1 0 x.f0 x.f1 x.f2 x.f3) (fun k => by simp only [galleyref15_Count.f]) ?_
  have e1 : wrap64 1 = 1 := by unfold wrap64; omega
  rw [e1, List.drop_zero] at h
  have e : ((cnt x : Nat) : Int) = 1 + (cntL x.f3 : Int) := by rw [cnt_eq]; omega
  rw [e]
  exact h

/-! ### deep -/
theorem deepR (n : Nat) : ∀ (x : S24) (m : Nat), cnt x ≤ n → finD x → dep x ≤ m + 1 → m ≤ 1000000 → Ev (fun k => galleyref15_deep.f k x.f0 x.f1 x.f2 x.f3 (m : Int)) (dep x : Int) := by
  induction n using Nat.strongRecOn with
  | _ n ih =>
  intro x m hn hx hm hb
  obtain ⟨_, hl, _⟩ := (finD_eq x).1 hx
  rw [dep_eq] at hm ⊢
  have loop : ∀ d i : Nat, ∀ a : Nat, a ≤ 1000000 → x.f3.length - i = d → i ≤ x.f3.length → Ev (fun k => galleyref15_deep.l0 k (m : Int) (a : Int) (i : Int) x.f0 x.f1 x.f2 x.f3) ((1 + max a (depL (x.f3.drop i)) : Nat) : Int) := by
    intro d
    induction d with
    | zero =>
      intro i a ha hd hi
      refine Ev.step (f := fun _ => some ((1 + a : Nat) : Int)) (fun k => by simp only [galleyref15_deep.l0]; rw [if_neg (by omega)]; rw [show wrap64 ((a : Int) + 1) = ((1 + a : Nat) : Int) by unfold wrap64; omega]) ?_
      rw [List.drop_eq_nil_of_le (by omega)]
      simpa [depL] using Ev.now ((1 + a : Nat) : Int)
    | succ d ihd =>
      intro i a ha hd hi
      have hil : i < x.f3.length := by omega
      have h1 := depL_drop_le x.f3 i
      rw [depL_drop x.f3 i hil] at h1
      have hp : 1 ≤ dep x.f3[i] := by rw [dep_eq]; omega
      obtain ⟨m', rfl⟩ : ∃ m', m = m' + 1 := ⟨m - 1, by omega⟩
      refine Ev.step (f := fun k => (galleyref15_deep.f k x.f3[i].f0 x.f3[i].f1 x.f3[i].f2 x.f3[i].f3 (m' : Int)).bind fun t => galleyref15_deep.l0 k ((m' + 1 : Nat) : Int) (mx (a : Int) t) ((i + 1 : Nat) : Int) x.f0 x.f1 x.f2 x.f3)
        (fun k => by simp only [galleyref15_deep.l0]; rw [if_pos (by omega), if_pos (by omega), if_pos (by omega), rd24 _ _ hil, wrap_next hil (by omega), show wrap64 (((m' + 1 : Nat) : Int) - 1) = (m' : Int) by unfold wrap64; omega]) ?_
      refine Ev.bind (ih (cnt x.f3[i]) (Nat.lt_of_lt_of_le (cnt_lt x i hil) hn) x.f3[i] m' (Nat.le_refl _) (finD_child hx i hil) (by omega) (by omega)) ?_
      have e : mx (a : Int) (dep x.f3[i] : Int) = ((max a (dep x.f3[i]) : Nat) : Int) := by unfold mx; split <;> omega
      rw [e, depL_drop x.f3 i hil, ← Nat.max_assoc]
      exact ihd (i + 1) (max a (dep x.f3[i])) (by omega) (by omega) (by omega)
  have h := loop x.f3.length 0 0 (by omega) (by omega) (by omega)
  rw [List.drop_zero, Nat.zero_max] at h
  exact Ev.step (f := fun k => galleyref15_deep.l0 k (m : Int) ((0 : Nat) : Int) ((0 : Nat) : Int) x.f0 x.f1 x.f2 x.f3) (fun k => by simp only [galleyref15_deep.f]; rfl) h

/-! ### right -/
theorem allOwn_eq (x : S24) : allOwn x = (ownB x && allOwnL x.f3) := by cases x; rfl
theorem allOwnL_drop (l : List S24) (i : Nat) (h : i < l.length) : allOwnL (l.drop i) = (allOwn l[i] && allOwnL (l.drop (i + 1))) := by rw [List.drop_eq_getElem_cons h]; rfl
theorem bt_nat (s : ByteArray) (i : Nat) (h : i < s.data.toList.length) : bt s (i : Int) = (s.data.toList[i].toNat : Int) := by
  have h' : i < s.size := by simpa using h
  unfold bt
  rw [dif_pos (by simpa using h')]
  simp [ByteArray.getElem_eq_getElem_data]
theorem has10_drop (s : ByteArray) (i : Nat) (h : i < s.data.toList.length) : (s.data.toList.drop i).contains 10 = (decide (s.data.toList[i] = 10) || (s.data.toList.drop (i + 1)).contains 10) := by
  rw [List.drop_eq_getElem_cons h, List.contains_cons]
  congr 1
  by_cases h : s.data.toList[i] = 10
  · rw [decide_eq_true h, h]; rfl
  · rw [decide_eq_false h]; exact beq_eq_false_iff_ne.mpr (fun e => h e.symm)
theorem rightR (n : Nat) : ∀ x : S24, cnt x ≤ n → finD x → Ev (fun k => galleyref15_right.f k x.f0 x.f1 x.f2 x.f3) (allOwn x) := by
  induction n using Nat.strongRecOn with
  | _ n ih =>
  intro x hn hx
  obtain ⟨hs, hm, _⟩ := (finD_eq x).1 hx
  have hlen2 : ∀ l : List S24, ((l.length : Int) = 0) ↔ l.isEmpty = true := fun l => by cases l <;> simp; omega
  have hsz : x.f2.size = x.f2.data.toList.length := by rw [Array.length_toList]; rfl
  have e0 : ∀ z : Int, (z == 0) = decide (z = 0) := fun z => by by_cases h : z = 0 <;> simp [h]
  have hst : ∀ s : ByteArray, (s.toList = ([] : List UInt8)) ↔ s.toList.isEmpty = true := fun s => by rw [List.isEmpty_iff]
  have hbe : (x.f2.toList == ([] : List UInt8)) = x.f2.toList.isEmpty := by cases x.f2.toList <;> rfl
  have loop1 : ∀ d i : Nat, x.f3.length - i = d → i ≤ x.f3.length → Ev (fun k => galleyref15_right.l1 k (i : Int) x.f0 x.f1 x.f2 x.f3) (allOwnL (x.f3.drop i) && x.f2.toList.isEmpty) := by
    intro d
    induction d with
    | zero =>
      intro i hd hi
      refine Ev.step (f := fun _ => some x.f2.toList.isEmpty) (fun k => by simp only [galleyref15_right.l1]; rw [if_neg (by omega), hbe]) ?_
      rw [List.drop_eq_nil_of_le (by omega)]
      exact Ev.now _
    | succ d ihd =>
      intro i hd hi
      have hil : i < x.f3.length := by omega
      refine Ev.step (f := fun k => (galleyref15_right.f k x.f3[i].f0 x.f3[i].f1 x.f3[i].f2 x.f3[i].f3).bind fun t => if t = true then galleyref15_right.l1 k ((i + 1 : Nat) : Int) x.f0 x.f1 x.f2 x.f3 else some false)
        (fun k => by simp only [galleyref15_right.l1]; rw [if_pos (by omega), if_pos (by omega), rd24 _ _ hil, wrap_next hil (by omega)]) ?_
      refine Ev.bind (ih (cnt x.f3[i]) (Nat.lt_of_lt_of_le (cnt_lt x i hil) hn) x.f3[i] (Nat.le_refl _) (finD_child hx i hil)) ?_
      rw [allOwnL_drop x.f3 i hil]
      cases allOwn x.f3[i]
      · exact Ev.now _
      · exact ihd (i + 1) (by omega) (by omega)
  have j2 : Ev (fun k => galleyref15_right.j2 k x.f0 x.f1 x.f2 x.f3) (x.f2.toList.isEmpty && allOwnL x.f3) := by
    rw [Bool.and_comm]
    exact Ev.step (f := fun k => galleyref15_right.l1 k ((0 : Nat) : Int) x.f0 x.f1 x.f2 x.f3) (fun k => by simp only [galleyref15_right.j2]; rfl) (loop1 x.f3.length 0 (by omega) (by omega))
  have loop0 : ∀ d i : Nat, x.f2.data.toList.length - i = d → i ≤ x.f2.data.toList.length → Ev (fun k => galleyref15_right.l0 k (i : Int) x.f0 x.f1 x.f2 x.f3) (!((x.f2.data.toList.drop i).contains 10) && x.f3.isEmpty && decide (x.f1 = 0)) := by
    intro d
    induction d with
    | zero =>
      intro i hd hi
      rw [List.drop_eq_nil_of_le (by omega)]
      refine Ev.step (f := fun _ => some (x.f3.isEmpty && decide (x.f1 = 0))) (fun k => ?_) (by simpa using Ev.now _)
      simp only [galleyref15_right.l0]
      rw [if_neg (by omega), e0]
      cases h : x.f3.isEmpty
      · rw [if_neg (by rw [hlen2]; simp [h])]; rfl
      · rw [if_pos ((hlen2 _).2 h)]; rfl
    | succ d ihd =>
      intro i hd hi
      have hil : i < x.f2.data.toList.length := by omega
      rw [has10_drop x.f2 i hil]
      by_cases hc : x.f2.data.toList[i] = 10
      · rw [decide_eq_true hc]
        exact Ev.step (f := fun _ => some false) (fun k => by simp only [galleyref15_right.l0]; rw [if_pos (by omega), if_pos (by omega), bt_nat _ _ hil, if_pos (by rw [hc]; rfl)]) (Ev.now _)
      · rw [decide_eq_false hc, Bool.false_or]
        have hc' : ¬ ((x.f2.data.toList[i].toNat : Int) = 10) := by
          intro h
          apply hc
          apply UInt8.toNat_inj.1
          have h3 : x.f2.data.toList[i].toNat = 10 := by omega
          rw [h3]
          rfl
        refine Ev.step (f := fun k => galleyref15_right.l0 k ((i + 1 : Nat) : Int) x.f0 x.f1 x.f2 x.f3) (fun k => by simp only [galleyref15_right.l0]; rw [if_pos (by omega), if_pos (by omega), bt_nat _ _ hil, if_neg hc', wrap_next hil (by omega)]) ?_
        exact ihd (i + 1) (by omega) (by omega)
  have j1t : Ev (fun k => galleyref15_right.j1 k x.f0 true x.f0 x.f1 x.f2 x.f3) (x.f2.toList.isEmpty && decide (x.f1 = 0) && x.f3.isEmpty) := by
    refine Ev.step (f := fun _ => some (x.f2.toList.isEmpty && decide (x.f1 = 0) && x.f3.isEmpty)) (fun k => ?_) (Ev.now _)
    simp only [galleyref15_right.j1, if_true, e0]
    cases h1 : x.f2.toList.isEmpty
    · rw [if_neg (by rw [hst]; simp [h1])]; simp
    · rw [if_pos ((hst _).2 h1)]
      cases h : x.f3.isEmpty
      · rw [if_neg (by rw [hlen2]; simp [h])]; simp
      · rw [if_pos ((hlen2 _).2 h)]; simp
  have nl : x.f3.isEmpty = true → allOwnL x.f3 = true := fun h => by rw [List.isEmpty_iff.1 h]; rfl
  rw [allOwn_eq]
  unfold ownB
  by_cases c1 : x.f0 = 1
  · rw [if_pos c1]
    have e : (decide (x.f1 = 0) && x.f3.isEmpty && !has10 x.f2 && allOwnL x.f3) = (!((x.f2.data.toList.drop 0).contains 10) && x.f3.isEmpty && decide (x.f1 = 0)) := by
      rw [List.drop_zero]
      unfold has10
      cases h : x.f3.isEmpty
      · simp
      · rw [nl h]; cases x.f2.data.toList.contains 10 <;> simp
    rw [e]
    exact Ev.step (f := fun k => galleyref15_right.l0 k ((0 : Nat) : Int) x.f0 x.f1 x.f2 x.f3) (fun k => by simp only [galleyref15_right.f]; rw [if_pos c1]; rfl) (loop0 x.f2.data.toList.length 0 (by omega) (by omega))
  rw [if_neg c1]
  by_cases c2 : x.f0 = 2 ∨ x.f0 = 3 ∨ x.f0 = 4
  · rw [if_pos c2]
    have e : (x.f2.toList.isEmpty && decide (x.f1 = 0) && x.f3.isEmpty && allOwnL x.f3) = (x.f2.toList.isEmpty && decide (x.f1 = 0) && x.f3.isEmpty) := by
      cases h : x.f3.isEmpty
      · simp
      · rw [nl h]; simp
    rw [e]
    refine Ev.step (f := fun k => galleyref15_right.j1 k x.f0 true x.f0 x.f1 x.f2 x.f3) (fun k => ?_) j1t
    simp only [galleyref15_right.f]
    rw [if_neg c1]
    rcases c2 with h | h | h
    · rw [if_pos h, h]; rfl
    · rw [if_neg (by omega), if_pos h, h]; rfl
    · rw [if_neg (by omega), if_neg (by omega), h]; rfl
  rw [if_neg c2]
  have c2a : ¬ x.f0 = 2 := fun h => c2 (Or.inl h)
  have c2b : ¬ x.f0 = 3 := fun h => c2 (Or.inr (Or.inl h))
  have c2c : ¬ x.f0 = 4 := fun h => c2 (Or.inr (Or.inr h))
  refine Ev.step (f := fun k => galleyref15_right.j1 k x.f0 false x.f0 x.f1 x.f2 x.f3) (fun k => by simp only [galleyref15_right.f]; rw [if_neg c1, if_neg c2a, if_neg c2b, beq_eq_false_iff_ne.mpr c2c]) ?_
  have cut : ∀ (b c : Bool), (c && b && allOwnL x.f3) = if b then (c && allOwnL x.f3) else false := fun b c => by cases b <;> simp
  by_cases c5 : x.f0 = 5
  · rw [if_pos c5, cut]
    by_cases h : x.f1 = 0
    · rw [decide_eq_true h, if_pos rfl]
      exact Ev.step (fun k => by simp only [galleyref15_right.j1]; rw [if_neg (by decide), if_pos c5, if_pos h]) j2
    · rw [decide_eq_false h, if_neg (by decide)]
      exact Ev.step (f := fun _ => some false) (fun k => by simp only [galleyref15_right.j1]; rw [if_neg (by decide), if_pos c5, if_neg h]) (Ev.now _)
  rw [if_neg c5]
  by_cases c6 : x.f0 = 6
  · rw [if_pos c6, Bool.and_assoc x.f2.toList.isEmpty, cut]
    by_cases h : x.f1 < 0
    · rw [show (decide (0 ≤ x.f1) && decide (x.f1 ≤ 1000)) = false by rw [decide_eq_false (show ¬ 0 ≤ x.f1 by omega)]; rfl, if_neg (by decide)]
      exact Ev.step (f := fun _ => some false) (fun k => by simp only [galleyref15_right.j1]; rw [if_neg (by decide), if_neg c5, if_pos c6, if_pos h]) (Ev.now _)
    · by_cases h2 : x.f1 > 1000
      · rw [show (decide (0 ≤ x.f1) && decide (x.f1 ≤ 1000)) = false by rw [decide_eq_false (show ¬ x.f1 ≤ 1000 by omega), Bool.and_false], if_neg (by decide)]
        exact Ev.step (f := fun _ => some false) (fun k => by simp only [galleyref15_right.j1]; rw [if_neg (by decide), if_neg c5, if_pos c6, if_neg h, if_pos h2]) (Ev.now _)
      · rw [show (decide (0 ≤ x.f1) && decide (x.f1 ≤ 1000)) = true by rw [decide_eq_true (show 0 ≤ x.f1 by omega), decide_eq_true (show x.f1 ≤ 1000 by omega)]; rfl, if_pos rfl]
        exact Ev.step (fun k => by simp only [galleyref15_right.j1]; rw [if_neg (by decide), if_neg c5, if_pos c6, if_neg h, if_neg h2]) j2
  rw [if_neg c6]
  by_cases c7 : x.f0 = 7
  · rw [if_pos c7, cut]
    by_cases h : x.f1 = 0
    · rw [decide_eq_true (show x.f1 / 2 = 0 by omega), if_pos rfl]
      exact Ev.step (fun k => by simp only [galleyref15_right.j1]; rw [if_neg (by decide), if_neg c5, if_neg c6, if_pos c7, if_pos h]) j2
    · by_cases h2 : x.f1 = 1
      · rw [decide_eq_true (show x.f1 / 2 = 0 by omega), if_pos rfl]
        exact Ev.step (fun k => by simp only [galleyref15_right.j1]; rw [if_neg (by decide), if_neg c5, if_neg c6, if_pos c7, if_neg h, if_pos h2]) j2
      · rw [decide_eq_false (show ¬ x.f1 / 2 = 0 by omega), if_neg (by decide)]
        exact Ev.step (f := fun _ => some false) (fun k => by simp only [galleyref15_right.j1]; rw [if_neg (by decide), if_neg c5, if_neg c6, if_pos c7, if_neg h, if_neg h2]) (Ev.now _)
  rw [if_neg c7]
  exact Ev.step (f := fun _ => some false) (fun k => by simp only [galleyref15_right.j1]; rw [if_neg (by decide), if_neg c5, if_neg c6, if_neg c7]) (Ev.now _)

theorem mayR (x : S24) (hx : finD x) (hc : cnt x ≤ 500) (hd : dep x ≤ 60) : Ev (fun k => galleyref15_May.f k x.f0 x.f1 x.f2 x.f3) (mayB x) := by
  refine Ev.bind (deepR _ x 200001 (Nat.le_refl _) hx (by omega) (by omega)) ?_
  refine Ev.yes (by omega) ?_
  refine Ev.bind (rightR _ x (Nat.le_refl _) hx) ?_
  unfold mayB
  rw [decide_eq_true (show dep x ≤ 200000 by omega), decide_eq_true (show cnt x ≤ 2000000 by omega)]
  cases allOwn x
  · exact Ev.no (by decide) (Ev.now _)
  · refine Ev.yes rfl ?_
    refine Ev.bind (cntR _ x (Nat.le_refl _) hx) ?_
    have e : decide (wrap64 (cnt x : Int) ≤ 2000000) = true := decide_eq_true (by unfold wrap64; omega)
    rw [e]
    exact Ev.now _
theorem few_of (x : S24) (A : Option Addr) (c : Nat) (b : Bool) (w : World) (h : Dc w x A c) (e : decide (fewD x 60 ≤ 500) = b) : Calls Try.prog 9 #[.agg #[.int .i64 x.f0, .int .i64 x.f1, .string x.f2, .slice A x.f3.length c]] w fun e w' => e = .returned (.bool b) ∧ Below w.heap.size w w' := by
  subst e
  obtain ⟨k, hk⟩ := (Few15 x).rounds
  exact galleylaw15_Few.calls k _ _ _ _ _ _ _ w h.g3 h.l3 hk
theorem frc_of (x : S24) (A : Option Addr) (c : Nat) (b : Bool) (w : World) (h : Dc w x A c) (hf : finD x) (e : frcB x = b) : Calls Try.prog 17 #[.agg #[.int .i64 x.f0, .int .i64 x.f1, .string x.f2, .slice A x.f3.length c]] w fun e w' => e = .returned (.bool b) ∧ Below w.heap.size w w' := by
  subst e
  obtain ⟨k, hk⟩ := (frcR _ x (Nat.le_refl _) hf).rounds
  exact galleyref15_Forced.calls k _ _ _ _ _ _ _ w h.g3 h.l3 hk
theorem may_of (x : S24) (A : Option Addr) (c : Nat) (b : Bool) (w : World) (h : Dc w x A c) (hx : finD x) (hc : cnt x ≤ 500) (hd : dep x ≤ 60) (e : mayB x = b) : Calls Try.prog 15 #[.agg #[.int .i64 x.f0, .int .i64 x.f1, .string x.f2, .slice A x.f3.length c]] w fun e w' => e = .returned (.bool b) ∧ Below w.heap.size w w' := by
  subst e
  obtain ⟨k, hk⟩ := (mayR x hx hc hd).rounds
  exact galleyref15_May.calls k _ _ _ _ _ _ _ w h.g3 h.l3 hk
end Go.Proofs.Ytigihiggpfjbjaa.PR

/- Plain: how many code points a text has; what is known of a document's parts: widths, leads, ends. -/
namespace Go.Proofs.Ytigihiggpfjbjaa.PR
open Go.RowKit Go.Proofs.YtigihiggpfjbjaaW.PrintWords Go.Proofs.YtigihiggpfjbjaaW.PrintLast Go.Proofs.YtigihiggpfjbjaaW.PrintMore
set_option linter.unusedVariables false
set_option linter.unusedSimpArgs false
def lim (n : Nat) : Int := if n = 1 then 0 else if n = 2 then 128 else if n = 3 then 2048 else 65536
/-- The code point is right: no shorter one, and one. -/
def okCp (n : Nat) (c : Int) : Bool := decide (lim n ≤ c) && decide (c ≤ 1114111) && !(decide (55296 ≤ c) && decide (c ≤ 57343))
/-- The bytes from j on (n in all) go on with c: how many bytes it has. -/
def tailN (s : ByteArray) (i n : Nat) : Nat → Nat → Int → Nat
  | 0, _, c => if okCp n c = true then n else 1
  | m + 1, j, c => if 128 ≤ bt s ((i + j : Nat) : Int) ∧ bt s ((i + j : Nat) : Int) < 192 then tailN s i n m (j + 1) (c * 64 + bt s ((i + j : Nat) : Int) % 64) else 1
theorem tailN_pos (s : ByteArray) (i n : Nat) (hn : 1 ≤ n ∧ n ≤ 4) : ∀ m j c, 1 ≤ tailN s i n m j c ∧ tailN s i n m j c ≤ 4
  | 0, j, c => by
    unfold tailN
    split <;> omega
  | m + 1, j, c => by
    unfold tailN
    split
    · exact tailN_pos s i n hn m _ _
    · omega
/-- How many bytes the code point at i has (one, if there is none). -/
def nx (s : ByteArray) (i : Nat) : Nat :=
  if bt s (i : Int) < 128 then 1
  else if 192 ≤ bt s (i : Int) ∧ bt s (i : Int) < 224 then (if i + 2 ≤ s.size then tailN s i 2 1 1 (bt s (i : Int) % 32) else 1)
  else if 224 ≤ bt s (i : Int) ∧ bt s (i : Int) < 240 then (if i + 3 ≤ s.size then tailN s i 3 2 1 (bt s (i : Int) % 16) else 1)
  else if 240 ≤ bt s (i : Int) ∧ bt s (i : Int) < 248 then (if i + 4 ≤ s.size then tailN s i 4 3 1 (bt s (i : Int) % 8) else 1)
  else 1
theorem nx_pos (s : ByteArray) (i : Nat) : 1 ≤ nx s i ∧ nx s i ≤ 4 := by
  unfold nx
  repeat' split
  all_goals first | omega | exact tailN_pos s i _ (by omega) _ _ _
def cwF (s : ByteArray) : Nat → Nat → Nat
  | 0, _ => 0
  | k + 1, i => if i < s.size then 1 + cwF s k (i + nx s i) else 0
/-- How many code points a text has. -/
def cw (s : ByteArray) : Nat := cwF s s.size 0
theorem cwF_le (s : ByteArray) : ∀ k i, cwF s k i ≤ k
  | 0, _ => Nat.le_refl _
  | k + 1, i => by
    unfold cwF
    have := cwF_le s k (i + nx s i)
    split <;> omega
theorem cw_le (s : ByteArray) : cw s ≤ s.size := cwF_le s _ _
/-- What a part's own width is. -/
def own1 (k : Int) (s : ByteArray) : Int := if k = 1 then (cw s : Int) else if k = 2 then 1 else 0
mutual
/-- A part's width on one line. -/
def wdV : S24 → Int
  | ⟨k, _, s, l⟩ => own1 k s + wdL l
def wdL : List S24 → Int
  | [] => 0
  | x :: r => wdV x + wdL r
end
def lead0 (k : Int) (s : ByteArray) : Int × Bool := if k = 1 then ((cw s : Int), false) else if k = 2 then (0, true) else if k = 3 then (0, true) else if k = 4 then (0, true) else (0, false)
mutual
/-- A part's width up to the first place where a line may end; is there one? -/
def ldV : S24 → Int × Bool
  | ⟨k, _, s, l⟩ => ldL l (lead0 k s)
def ldL : List S24 → Int × Bool → Int × Bool
  | [], p => p
  | x :: r, p => ldL r (if p.2 = true then p else (p.1 + (ldV x).1, (ldV x).2))
end
theorem wdV_eq (x : S24) : wdV x = own1 x.f0 x.f2 + wdL x.f3 := by cases x; rfl
theorem ldV_eq (x : S24) : ldV x = ldL x.f3 (lead0 x.f0 x.f2) := by cases x; rfl
theorem wdL_append (a b : List S24) : wdL (a ++ b) = wdL a + wdL b := by
  induction a with
  | nil => simp [wdL]
  | cons x r ih => simp only [List.cons_append, wdL, ih]; omega
theorem ldL_append (a b : List S24) : ∀ p, ldL (a ++ b) p = ldL b (ldL a p) := by
  induction a with
  | nil => intro p; rfl
  | cons x r ih => intro p; simp only [List.cons_append, ldL, ih]
theorem wdL_take (l : List S24) (i : Nat) (h : i < l.length) : wdL (l.take (i + 1)) = wdL (l.take i) + wdV l[i] := by
  rw [List.take_succ_eq_append_getElem h, wdL_append]; simp [wdL]
theorem ldL_take (l : List S24) (i : Nat) (h : i < l.length) (p : Int × Bool) : ldL (l.take (i + 1)) p = (if (ldL (l.take i) p).2 = true then ldL (l.take i) p else ((ldL (l.take i) p).1 + (ldV l[i]).1, (ldV l[i]).2)) := by
  rw [List.take_succ_eq_append_getElem h, ldL_append]; rfl
/-- Texts are at most 100 bytes. -/
def txt (x : S24) : Prop := finD x
mutual
theorem wdV_le : ∀ (x : S24), finD x → 0 ≤ wdV x ∧ wdV x ≤ 101 * cnt x
  | ⟨k, n, s, l⟩, h => by
    have h1 := wdL_le l h.2.2
    have h2 := cw_le s
    have h3 : s.size ≤ 100 := h.1
    simp only [wdV, cnt, own1]
    split
    · omega
    · split <;> omega
theorem wdL_le : ∀ (l : List S24), finDL l → 0 ≤ wdL l ∧ wdL l ≤ 101 * cntL l
  | [], _ => by simp [wdL, cntL]
  | x :: r, h => by
    have h1 := wdV_le x h.1
    have h2 := wdL_le r h.2
    simp only [wdL, cntL]
    omega
end
mutual
theorem ldV_le : ∀ (x : S24), finD x → 0 ≤ (ldV x).1 ∧ (ldV x).1 ≤ 101 * cnt x
  | ⟨k, n, s, l⟩, h => by
    have h2 := cw_le s
    have h3 : s.size ≤ 100 := h.1
    have h4 : 0 ≤ (lead0 k s).1 ∧ (lead0 k s).1 ≤ 100 := by
      unfold lead0
      repeat' split
      all_goals simp only
      all_goals omega
    have h1 := ldL_le l h.2.2 (lead0 k s) h4.1
    simp only [ldV, cnt]
    omega
theorem ldL_le : ∀ (l : List S24), finDL l → ∀ p : Int × Bool, 0 ≤ p.1 → 0 ≤ (ldL l p).1 ∧ (ldL l p).1 ≤ p.1 + 101 * cntL l
  | [], _, p, hp => by simp only [ldL, cntL]; omega
  | x :: r, h, p, hp => by
    have h1 := ldV_le x h.1
    simp only [ldL, cntL]
    split
    · have h2 := ldL_le r h.2 p hp
      omega
    · have h2 := ldL_le r h.2 (p.1 + (ldV x).1, (ldV x).2) (by simp only; omega)
      simp only at h2
      omega
end
end Go.Proofs.Ytigihiggpfjbjaa.PR
