/- The pool and the document's pool, side by side. -/
import Derived.Test.YtjlnlonioknkhaaDoorHD9
import Derived.Test.YtjlnlonioknkhaaDoorHR
namespace Go.Proofs.YtjlnlonioknkhaaDoor.PL
open Go.RowKit Go.Proofs.YtjlnlonioknkhaaDoorW.PrintWords Go.Proofs.YtjlnlonioknkhaaDoorW.PrintLast Go.Proofs.YtjlnlonioknkhaaDoorW.PrintMore
set_option linter.unusedVariables false
set_option linter.unusedSimpArgs false
section
variable {P : Program} {ops : Array Oper} {Q : Exit → Act → World → Prop} {md : Region.Mode} {S S' : World → Prop} {ds ds' : List Nat}
theorem restart_all : ∀ (fuel : Nat) (l : Array Bool) (a : Act) (w : World), (∀ i, l.getD i true = false → i < ops.size → i ∈ ds) → wpAnyLast P md ops Q S' ds' fuel l a w → wpAnyLast P md ops Q S ds fuel l a w
  | 0, l, a, w, _, h => h
  | fuel + 1, l, a, w, hc, h => by
    refine ⟨h.1, fun i hi => ?_⟩
    obtain ⟨hun, o, ho, _⟩ := mem_ready.1 hi
    refine wpOp_mono (fun a' w' h' => ⟨fun hn => absurd (hc i hun (Array.getElem?_eq_some_iff.1 ho).1) hn, restart_all fuel _ a' w' (fun j hj hjs => hc j ?_ hjs) h'.2⟩) (h.2 i hi)
    by_cases hij : i = j
    · subst hij; exact hun
    · rw [getD_set_ne true hij] at hj; exact hj
/-- From here on another S holds, and another ds: all that has still to come up is of the old ds. -/
theorem restart_ (S' : World → Prop) (ds' : List Nat) {fuel : Nat} {l : Array Bool} {a : Act} {w : World} (hc : ((List.range ops.size).all fun i => l.getD i true || ds.contains i) = true) (h : wpAnyLast P md ops Q S' ds' fuel l a w) : wpAnyLast P md ops Q S ds fuel l a w :=
  restart_all fuel l a w (fun i hi hs => by
    have := List.all_eq_true.1 hc i (List.mem_range.2 hs)
    rw [hi] at this
    simpa using this) h
end
/-- A tree's cells where they stand in a row. -/
def SE (ad : Addr) (i : Nat) (y : S32) (Y2 : Option Addr) (e2 : Nat) (Y5 : Option Addr) (e5 : Nat) (Y6 : Option Addr) (e6 : Nat) (w : World) : Prop :=
  w.cell? (ad.add (i * 7)) = some (.int .i64 y.f0) ∧ w.cell? ⟨(ad.add (i * 7)).block, (ad.add (i * 7)).off + 1, none⟩ = some (.string y.f1) ∧ w.cell? ⟨(ad.add (i * 7)).block, (ad.add (i * 7)).off + 2, none⟩ = some (.slice Y2 y.f2.length e2) ∧ w.cell? ⟨(ad.add (i * 7)).block, (ad.add (i * 7)).off + 3, none⟩ = some (.bool y.f3) ∧ w.cell? ⟨(ad.add (i * 7)).block, (ad.add (i * 7)).off + 4, none⟩ = some (.bool y.f4) ∧ w.cell? ⟨(ad.add (i * 7)).block, (ad.add (i * 7)).off + 5, none⟩ = some (.slice Y5 y.f5.length e5) ∧ w.cell? ⟨(ad.add (i * 7)).block, (ad.add (i * 7)).off + 6, none⟩ = some (.slice Y6 y.f6.length e6)
theorem SE.below {ad : Addr} {i : Nat} {y : S32} {Y2 : Option Addr} {e2 : Nat} {Y5 : Option Addr} {e5 : Nat} {Y6 : Option Addr} {e6 : Nat} {w w' : World} (h : SE ad i y Y2 e2 Y5 e5 Y6 e6 w) (hb : Below w.heap.size w w') : SE ad i y Y2 e2 Y5 e5 Y6 e6 w' := by
  obtain ⟨h0, h1, h2, h3, h4, h5, h6⟩ := h
  exact ⟨bc hb h0, bc hb h1, bc hb h2, bc hb h3, bc hb h4, bc hb h5, bc hb h6⟩
theorem elemS {w : World} {A : Option Addr} {n : Nat} {xs : List S32} (h : Kd.C k32 w A n xs) (i : Nat) (y : S32) (hi : xs[i]? = some y) :
    ∃ ad Y2 e2 Y5 e5 Y6 e6, A = some ad ∧ NF w (fun k => k < w.heap.size) y Y2 e2 Y5 e5 Y6 e6 ∧ SE ad i y Y2 e2 Y5 e5 Y6 e6 w := elemF (F_all k32_heap h) i y hi
/-- The two pools. -/
structure AskW (w : World) (base ga gm gb : Nat) (v : Value) (allP allR : List S32) : Prop where
  pw : ∃ (pv : Value) (ks : List K5) (zs : List Int), PoolAt w base ga gm pv ks zs ∧ St allP ks zs
  rp : RefAt w base gb v allR
section
variable {w w' : World} {base ga gm gb : Nat} {v : Value} {allP allR all' : List S32}
theorem AskW.below (h : AskW w base ga gm gb v allP allR) (hb : Below w.heap.size w w') : AskW w' base ga gm gb v allP allR := by
  obtain ⟨⟨pv, ks, zs, hp, hs⟩, hr⟩ := h
  exact ⟨⟨pv, ks, zs, hp.below hb, hs⟩, hr.below hb⟩
theorem AskW.toPW (h : AskW w base ga gm gb v allP allR) : PW w base ga gm allP := h.pw
theorem AskW.full (h : AskW w base ga gm gb v allP allR) : Full allP := h.toPW.full
theorem AskW.base_le (h : AskW w base ga gm gb v allP allR) : base ≤ w.heap.size := h.rp.base_le
theorem AskW.start (h : PW w base ga gm []) (hb : Below w.heap.size w w') (hbox : w'.heap[gb]? = some (.cells #[.slice none 0 0] 28 (0, 0))) (hg : w.heap.size ≤ gb) : AskW w' base ga gm gb (.slice none 0 0) [] [] :=
  ⟨h.below hb, hbox, ⟨[], rfl, Kd.R_nil _ _ _ _ _, fun j x c hx => by simp at hx⟩, Nat.le_trans h.base_le hg⟩
theorem ask_put {x : S32} {A2 : Option Addr} {c2 : Nat} {A5 : Option Addr} {c5 : Nat} {A6 : Option Addr} {c6 : Nat} {n : Nat} (h : AskW w base ga gm gb v allP allR) (hT : Tab base w) (hx : NF w (fun k => k < base) x A2 c2 A5 c5 A6 c6)
    (hok : okT x) (hn : allP.length + (pre x).length ≤ 1000000) (e : refV x allP = (n, all')) :
    Calls Tryd.prog 10 #[.pointer (some ⟨ga, 0, none⟩), .agg #[.int .i64 x.f0, .string x.f1, .slice A2 x.f2.length c2, .bool x.f3, .bool x.f4, .slice A5 x.f5.length c5, .slice A6 x.f6.length c6]] w fun e w' => e = .returned (.int .i64 (n : Int)) ∧ AskW w' base ga gm gb v all' allR ∧ Below base w w' ∧ ∀ k, RefS gb v k → w'.heap[k]? = w.heap[k]? := by
  obtain ⟨⟨pv, ks, zs, hp, hs⟩, hr⟩ := h
  have hl : ks.length = allP.length := by rw [hs.keys, List.length_map]
  have h1 := put_all base ga gm _ x (Nat.le_refl _) hok A2 c2 A5 c5 A6 c6 pv ks zs _ w hx (fun k hk => ⟨Nat.lt_of_lt_of_le hk hp.base_le, fun hS => by have := hp.S_base k hS; omega⟩) hp hT (by omega)
  obtain ⟨r1, r2⟩ := putV_ref x allP ks zs hs (by omega)
  rw [e] at r1 r2
  unfold PutAt at h1
  refine h1.mono ?_
  rintro e1 w' ⟨v', rfl, p1, p2, p3⟩
  refine ⟨by rw [r1], ⟨⟨v', _, _, p1, r2⟩, hr.turned hp p2⟩, p2.below hp.base_le hp.S_base, fun k hk => ?_⟩
  rcases hk with rfl | hk
  · exact p2.block _ (blk_lt hr.ra) (hp.away hr.ra (by decide) (by decide))
  · obtain ⟨cells, hc⟩ := hr.typed k hk.symm
    exact p2.block _ (blk_lt hc) (hp.away hc (by decide) (by decide))
theorem ask_ref {x : S32} {A2 : Option Addr} {c2 : Nat} {A5 : Option Addr} {c5 : Nat} {A6 : Option Addr} {c6 : Nat} {n : Nat} (h : AskW w base ga gm gb v allP allR) (hx : NF w (fun k => k < base) x A2 c2 A5 c5 A6 c6)
    (hfx : Fin32 x) (hfa : ∀ r ∈ allR, Fin32 r) (hn : allR.length + (pre x).length ≤ 1000000) (e : refV x allR = (n, all')) :
    Calls Tryd.prog 11 #[.pointer (some ⟨gb, 0, none⟩), .agg #[.int .i64 x.f0, .string x.f1, .slice A2 x.f2.length c2, .bool x.f3, .bool x.f4, .slice A5 x.f5.length c5, .slice A6 x.f6.length c6]] w fun e w' => ∃ v', e = .returned (.int .i64 (n : Int)) ∧ AskW w' base ga gm gb v' allP all' ∧ Below base w w' := by
  obtain ⟨⟨pv, ks, zs, hp, hs⟩, hr⟩ := h
  refine (refC_of (ref_all base gb _ x (Nat.le_refl _) hfx A2 c2 A5 c5 A6 c6 v allR w hx hr hfa hn) e).mono ?_
  rintro e1 w' ⟨v', rfl, p1, p2, p3⟩
  exact ⟨v', rfl, ⟨⟨pv, ks, zs, hp.turned hr p2, hs⟩, p1⟩, p2.below hr.base_le hr.S_base⟩
end
/-! ### the plain law -/
theorem wrap_small (n : Int) (h0 : -9223372036854775808 ≤ n) (h1 : n ≤ 9223372036854775807) : wrap64 n = n := by unfold wrap64; omega
theorem cnt_at (all : List S32) (i : Nat) (y : S32) (hy : all[i]? = some y) : cntOf all (((i + 1 : Nat) : Int)) = ((pre y).length : Int) := by
  have hl := (List.getElem?_eq_some_iff.1 hy).1
  unfold cntOf
  rw [if_pos (by omega)]
  have e : (((i + 1 : Nat) : Int)).toNat - 1 = i := by omega
  rw [e, List.getD_eq_getElem?_getD, List.getElem?_map, hy]
  rfl
theorem cnt_0 (all : List S32) : cntOf all 0 = 0 := by unfold cntOf; rw [if_neg (by omega)]
theorem cnt_over (all : List S32) (n : Int) (h : (all.length : Int) < n) : cntOf all n = 0 := by unfold cntOf; rw [if_neg (by omega)]
theorem again_at {all : List S32} (h : Full all) (i : Nat) (y : S32) (hy : all[i]? = some y) : refV y all = (i + 1, all) := refV_again y all i h (h.once i y hy)
theorem okT_part {x r : S32} (h : okT x) (hr : r ∈ pre x) : okT r := fun q hq => h q (mem_pre_trans hr hq)
theorem fin_part {x r : S32} (h : Fin32 x) (hr : r ∈ pre x) : Fin32 r := fun q hq => h q (mem_pre_trans hr hq)
mutual
theorem pre_part : ∀ (x : S32), ∀ r ∈ pre x, (pre r).length ≤ (pre x).length
  | ⟨a, b, l, c, d, e, f⟩, r, h => by
    rw [pre_eq] at h
    rcases List.mem_cons.1 h with rfl | h
    · exact Nat.le_refl _
    · have h1 := preL_part l r h
      have h2 : (pre (⟨a, b, l, c, d, e, f⟩ : S32)).length = (preL l).length + 1 := by simp [pre]
      omega
theorem preL_part : ∀ (l : List S32), ∀ r ∈ preL l, (pre r).length ≤ (preL l).length
  | [], r, h => by simp [preL] at h
  | x :: m, r, h => by
    simp only [preL, List.mem_append] at h
    simp only [preL, List.length_append]
    rcases h with h | h
    · have := pre_part x r h; omega
    · have := preL_part m r h; omega
end
/-- What a few trees' nodes are. -/
structure Goods (n : Nat) (all : List S32) : Prop where
  each : ∀ r ∈ all, Fin32 r ∧ okT r ∧ (pre r).length ≤ 1000
  len : all.length ≤ n
theorem Goods.nil : Goods 0 [] := ⟨(fun r h => by cases h), Nat.le_refl _⟩
theorem Goods.put {n : Nat} {all : List S32} (h : Goods n all) {x : S32} (hf : Fin32 x) (ho : okT x) (hl : (pre x).length ≤ 1000) : Goods (n + (pre x).length) (refV x all).2 := by
  refine ⟨fun r hr => ?_, ?_⟩
  · rcases refV_mem x all r hr with hr | hr
    · exact h.each r hr
    · exact ⟨fin_part hf hr, okT_part ho hr, Nat.le_trans (pre_part x r hr) hl⟩
  · have := (refV_len x all).2
    have := h.len
    omega
end Go.Proofs.YtjlnlonioknkhaaDoor.PL
