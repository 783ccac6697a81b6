/- Put for all trees; the document's pool as it lies. -/
import Derived.Test.YtjlnlonioknkhaaDoorHD5
import Derived.Test.YtjlnlonioknkhaaDoorHD6
namespace Go.Proofs.YtjlnlonioknkhaaDoor.PL
open Go.RowKit Go.Proofs.YtjlnlonioknkhaaDoorW.PrintWords Go.Proofs.YtjlnlonioknkhaaDoorW.PrintLast Go.Proofs.YtjlnlonioknkhaaDoorW.PrintMore
set_option linter.unusedVariables false
set_option linter.unusedSimpArgs false

theorem len_le_pre (l : List S32) : l.length ≤ (preL l).length := by
  induction l with
  | nil => simp [preL]
  | cons x r ih => simp only [preL, List.length_cons, List.length_append, pre_eq x]; omega
theorem put_all (base ga gm : Nat) : ∀ (N : Nat) (x : S32), (pre x).length ≤ N → okT x → ∀ (A2 : Option Addr) (c2 : Nat) (A5 : Option Addr) (c5 : Nat) (A6 : Option Addr) (c6 : Nat) (v : Value) (ks : List K5) (zs : List Int) (ok : Nat → Prop) (w : World), NF w ok x A2 c2 A5 c5 A6 c6 → (∀ k, ok k → k < w.heap.size ∧ ¬ PoolS ga gm v k) → PoolAt w base ga gm v ks zs → Tab base w → ks.length + (pre x).length ≤ 1000000 → PutAt x A2 c2 A5 c5 A6 c6 base ga gm v ks zs w := by
  intro N
  induction N with
  | zero => intro x h; rw [pre_eq] at h; simp at h
  | succ N ih =>
    intro x hN hok A2 c2 A5 c5 A6 c6 v ks zs ok w hx hos hp hT hn
    have e : (pre x).length = (preL x.f2).length + 1 := by rw [pre_eq]; simp
    have hl := len_le_pre x.f2
    refine put_walk x _ _ _ _ _ _ base ga gm v ks zs w ok hx hos hp hT hok hn (by omega) (fun y hy A2 c2 A5 c5 A6 c6 v ks zs w hy2 hos hp hT hn => ?_)
    have h1 := parts_lt hy
    exact ih y (by omega) (fun q hq => hok q (mem_parts hy hq)) _ _ _ _ _ _ v ks zs ok w hy2 hos hp hT hn
theorem mem_of_preL (l : List S32) (r : S32) (h : r ∈ preL l) : ∃ y ∈ l, r ∈ pre y := by
  induction l with
  | nil => simp [preL] at h
  | cons x q ih =>
    simp only [preL, List.mem_append] at h
    rcases h with h | h
    · exact ⟨x, List.mem_cons_self, h⟩
    · obtain ⟨y, hy, hr⟩ := ih h
      exact ⟨y, List.mem_cons_of_mem _ hy, hr⟩
mutual
theorem mem_pre_trans : ∀ {x r q : S32}, r ∈ pre x → q ∈ pre r → q ∈ pre x
  | ⟨a, b, l, c, d, e, f⟩, r, q, h, k => by
    rw [pre_eq] at h ⊢
    rcases List.mem_cons.1 h with rfl | h
    · rw [pre_eq] at k; exact k
    · exact List.mem_cons_of_mem _ (mem_preL_trans h k)
theorem mem_preL_trans : ∀ {l : List S32} {r q : S32}, r ∈ preL l → q ∈ pre r → q ∈ preL l
  | [], r, q, h, k => by simp [preL] at h
  | x :: m, r, q, h, k => by
    simp only [preL, List.mem_append] at h ⊢
    rcases h with h | h
    · exact Or.inl (mem_pre_trans h k)
    · exact Or.inr (mem_preL_trans h k)
end
/-! ### the document's pool -/
structure RefAt (w : World) (base gb : Nat) (v : Value) (all : List S32) : Prop where
  ra : w.heap[gb]? = some (.cells #[v] 28 (0, 0))
  rr : ∃ rows : List (List Value), rows.length = all.length ∧ (Kd.raw 7).R 32 w base (fun k => base ≤ k) v rows ∧ ∀ (j : Nat) (x : S32) (c : List Value), all[j]? = some x → rows[j]? = some c → Kd.FK k32 w (fun k => k < base) x c
  bb : base ≤ gb
def RefS (gb : Nat) (v : Value) (k : Nat) : Prop := k = gb ∨ some k = v.ownBlock
section
variable {w wr wr' : World} {base gb : Nat} {v v0 v' : Value} {all all' : List S32}
theorem RefAt.own_base (h : RefAt w base gb v all) : ∀ k, v.ownBlock = some k → base ≤ k ∧ k < w.heap.size := by
  obtain ⟨rows, _, hR, _⟩ := h.rr
  exact fun k hk => ⟨Kd.R_base hR k hk, Kd.R_lt hR k hk⟩
theorem RefAt.S_base (h : RefAt w base gb v all) : ∀ k, RefS gb v k → base ≤ k := by
  rintro k (rfl | hk)
  · exact h.bb
  · exact (h.own_base k hk.symm).1
theorem RefAt.base_le (h : RefAt w base gb v all) : base ≤ w.heap.size := Nat.le_trans h.bb (Nat.le_of_lt (blk_lt h.ra))
theorem RefAt.typed (h : RefAt w base gb v all) : ∀ k, v.ownBlock = some k → ∃ cells, w.heap[k]? = some (.cells cells 32 (0, 0)) := by
  obtain ⟨rows, _, hR, _⟩ := h.rr
  exact Kd.R_typed hR
/-- It stands while its own blocks and those below do. -/
theorem RefAt.step (h : RefAt w base gb v all) (hs : ∀ k, k < base → wr.heap[k]? = w.heap[k]?) (hk : ∀ k, RefS gb v k → wr.heap[k]? = w.heap[k]?) : RefAt wr base gb v all := by
  obtain ⟨rows, h1, h2, h3⟩ := h.rr
  refine ⟨(hk gb (Or.inl rfl)).trans h.ra, ⟨rows, h1, Kd.R_reok rfl (Kd.R_step (Kd.R_tight rfl h2) (fun k hk' _ => hk k (Or.inr hk'))) (fun k hk => Kd.R_base h2 k hk), fun j x c hx hc => Kd.FK_step (h3 j x c hx hc) (fun k hk _ => hs k hk)⟩, h.bb⟩
theorem RefAt.below (h : RefAt w base gb v all) (hb : Below w.heap.size w wr) : RefAt wr base gb v all :=
  h.step (fun k hk => hb.block k (Nat.lt_of_lt_of_le hk h.base_le)) (fun k hk => hb.block k (hk.elim (fun e => by rw [e]; exact blk_lt h.ra) (fun e => (h.own_base k e.symm).2)))
/-- What a pool's Put turns is none of the document's pool. -/
theorem RefAt.turned {ga gm : Nat} {pv : Value} {ks : List K5} {zs : List Int} (h : RefAt w base gb v all) (hp : PoolAt w base ga gm pv ks zs) (ht : Turned w wr (PoolS ga gm pv)) : RefAt wr base gb v all := by
  refine h.step (fun k hk => ht.block k (Nat.lt_of_lt_of_le hk h.base_le) (fun hs => by have := hp.S_base k hs; omega)) (fun k hk => ?_)
  rcases hk with rfl | hk
  · exact ht.block _ (blk_lt h.ra) (hp.away h.ra (by decide) (by decide))
  · obtain ⟨cells, hc⟩ := h.typed k hk.symm
    exact ht.block _ (blk_lt hc) (hp.away hc (by decide) (by decide))
theorem PoolAt.turned {ga gm : Nat} {pv : Value} {ks : List K5} {zs : List Int} (hp : PoolAt w base ga gm pv ks zs) (h : RefAt w base gb v all) (ht : Turned w wr (RefS gb v)) : PoolAt wr base ga gm pv ks zs := by
  have away : ∀ {g : Nat} {cs : Array Value} {t : TypeId}, w.heap[g]? = some (.cells cs t (0, 0)) → t ≠ 28 → t ≠ 32 → ¬ RefS gb v g := by
    intro g cs t hb h1 h2 hs
    rcases hs with rfl | hs
    · exact blk_ne hb h.ra h1 rfl
    · obtain ⟨cells, hc⟩ := h.typed g hs.symm
      exact blk_ne hb hc h2 rfl
  refine ⟨(ht.block ga (blk_lt hp.pa) (away hp.pa (by decide) (by decide))).trans hp.pa, hp.pm.below (ht.block gm hp.pm.lt (fun hs => ?_)), ?_, hp.hl, hp.ba, hp.bm⟩
  · obtain ⟨es, c, hg, _⟩ := hp.pm
    rcases hs with rfl | hs
    · rw [h.ra] at hg; cases hg
    · obtain ⟨cells, hc⟩ := h.typed gm hs.symm
      rw [hc] at hg; cases hg
  · refine Kd.R_reok rfl (Kd.R_step (Kd.R_tight rfl hp.pz) (fun k hk hlt => ht.block k hlt (fun hs => ?_))) (fun k hk => Kd.R_base hp.pz k hk)
    obtain ⟨cells, hc⟩ := Kd.R_typed hp.pz k hk.symm
    exact away hc (by decide) (by decide) hs
/-- Element i, where it stands. -/
theorem RefAt.elem (h : RefAt w base gb v all) (i : Nat) (y : S32) (hi : all[i]? = some y) :
    ∃ g cap Y2 e2 Y5 e5 Y6 e6, v = .slice (some ⟨g, 0, none⟩) all.length cap ∧ NF w (fun k => k < base) y Y2 e2 Y5 e5 Y6 e6 ∧ w.cell? ⟨g, i * 7, none⟩ = some (.int .i64 y.f0) ∧ w.cell? ⟨g, i * 7 + 1, none⟩ = some (.string y.f1) ∧ w.cell? ⟨g, i * 7 + 2, none⟩ = some (.slice Y2 y.f2.length e2) ∧ w.cell? ⟨g, i * 7 + 3, none⟩ = some (.bool y.f3) ∧ w.cell? ⟨g, i * 7 + 4, none⟩ = some (.bool y.f4) ∧ w.cell? ⟨g, i * 7 + 5, none⟩ = some (.slice Y5 y.f5.length e5) ∧ w.cell? ⟨g, i * 7 + 6, none⟩ = some (.slice Y6 y.f6.length e6) := by
  obtain ⟨rows, h1, hR, h3⟩ := h.rr
  have hl := (List.getElem?_eq_some_iff.1 hi).1
  obtain ⟨g, cap, hv, _, _, _⟩ := Kd.R_form hR (by omega)
  subst hv
  obtain ⟨cs, hcl, hM, hcc, _⟩ := Kd.R_elem hR [] (i : Int) (by omega) (by omega)
  have hri : rows[i]? = some cs := by
    have := hM.1
    rw [List.getD_eq_getElem?_getD, Int.toNat_natCast] at this
    rw [List.getElem?_eq_getElem (by omega)] at this ⊢
    rw [this]; rfl
  obtain ⟨Y2, e2, Y5, e5, Y6, e6, rfl, l2, g2, l5, g5, l6, g6⟩ := k32_openF (h3 i y cs hi hri)
  rw [Int.toNat_natCast] at hcc
  exact ⟨g, cap, Y2, e2, Y5, e5, Y6, e6, by rw [h1], ⟨g2, l2, g5, l5, g6, l6⟩, hcc 0 _ rfl, hcc 1 _ rfl, hcc 2 _ rfl, hcc 3 _ rfl, hcc 4 _ rfl, hcc 5 _ rfl, hcc 6 _ rfl⟩
theorem RefAt.slice (h : RefAt w base gb v all) : ∃ A c, v = .slice A all.length c := by
  obtain ⟨rows, h1, hR, _⟩ := h.rr
  obtain ⟨A, c, hv⟩ := Kd.R_slice hR
  exact ⟨A, c, by rw [hv, h1]⟩
structure RI (w wr : World) (base gb : Nat) (v0 v : Value) (all : List S32) : Prop where
  hp : RefAt wr base gb v all
  ht : Turned w wr (RefS gb v0)
  ho : v.ownBlock = v0.ownBlock ∨ ∃ b, v.ownBlock = some b ∧ w.heap.size ≤ b
theorem RI.start (h : RefAt w base gb v0 all) : RI w w base gb v0 v0 all := ⟨h, Turned.of_below (Below.refl _ _), Or.inl rfl⟩
theorem RI.below (h : RI w wr base gb v0 v all) (hb : Below wr.heap.size wr wr') : RI w wr' base gb v0 v all :=
  ⟨h.hp.below hb, h.ht.trans (S' := fun _ => False) (Turned.of_below hb) (fun _ _ h => h.elim), h.ho⟩
theorem RI.call (h : RI w wr base gb v0 v all) (hp : RefAt wr' base gb v' all') (ht : Turned wr wr' (RefS gb v)) (ho : v'.ownBlock = v.ownBlock ∨ ∃ b, v'.ownBlock = some b ∧ wr.heap.size ≤ b) : RI w wr' base gb v0 v' all' := by
  refine ⟨hp, h.ht.trans ht (fun i hi hs => ?_), ?_⟩
  · rcases hs with rfl | hs
    · exact Or.inl rfl
    · rcases h.ho with e | ⟨b, e, hb⟩
      · rw [e] at hs; exact Or.inr hs
      · rw [e] at hs; injection hs with hs; omega
  · rcases ho with e | ⟨b, e, hb⟩
    · rw [e]; exact h.ho
    · exact Or.inr ⟨b, e, Nat.le_trans h.ht.size hb⟩
theorem RI.base_below (h : RI w wr base gb v0 v all) (h0 : RefAt w base gb v0 all') : Below base w wr := h.ht.below h0.base_le h0.S_base
/-- A block that is none of the pool's stays. -/
theorem ref_blk {g : Nat} {cs : Array Value} {t : TypeId} (hb : wr.heap[g]? = some (.cells cs t (0, 0))) (hp : RefAt wr base gb v all) (ht : Turned wr wr' (RefS gb v)) (h1 : t ≠ 28) (h2 : some g ≠ v.ownBlock) : wr'.heap[g]? = some (.cells cs t (0, 0)) :=
  (ht.block g (blk_lt hb) (fun hs => hs.elim (fun e => by subst e; exact blk_ne hb hp.ra h1 rfl) h2)).trans hb
end
theorem refL_append (a b : List S32) : ∀ all, refL (a ++ b) all = refL b (refL a all) := by
  induction a with
  | nil => intro all; rfl
  | cons x r ih => intro all; rw [List.cons_append, refL, refL, ih]
theorem refL_take (l : List S32) (i : Nat) (h : i < l.length) (all : List S32) : refL (l.take (i + 1)) all = (refV l[i] (refL (l.take i) all)).2 := by
  rw [List.take_succ_eq_append_getElem h, refL_append]; rfl
theorem refEnd_mem (x : S32) (all : List S32) (r : S32) (hr : r ∈ (refEnd x all).2) : r ∈ all ∨ r = x := by
  unfold refEnd at hr
  cases hi : refIdx x all 0 with
  | some j => rw [hi] at hr; exact Or.inl hr
  | none =>
    rw [hi] at hr
    rcases List.mem_append.1 hr with h | h
    · exact Or.inl h
    · exact Or.inr (List.mem_singleton.1 h)
mutual
theorem refV_mem : ∀ (x : S32) (all : List S32), ∀ r ∈ (refV x all).2, r ∈ all ∨ r ∈ pre x
  | ⟨a, b, l, c, d, e, f⟩, all, r, hr => by
    rw [refV_eq] at hr
    rw [pre_eq]
    rcases refEnd_mem _ _ r hr with h2 | h2
    · rcases refL_mem l all r h2 with h | h
      · exact Or.inl h
      · exact Or.inr (List.mem_cons_of_mem _ h)
    · rw [h2]; exact Or.inr List.mem_cons_self
theorem refL_mem : ∀ (l : List S32) (all : List S32), ∀ r ∈ refL l all, r ∈ all ∨ r ∈ preL l
  | [], all, r, hr => Or.inl hr
  | x :: q, all, r, hr => by
    rw [refL] at hr
    simp only [preL, List.mem_append]
    rcases refL_mem q _ r hr with h | h
    · rcases refV_mem x all r h with h | h
      · exact Or.inl h
      · exact Or.inr (Or.inl h)
    · exact Or.inr (Or.inr h)
end
mutual
theorem refV_len : ∀ (x : S32) (all : List S32), all.length ≤ (refV x all).2.length ∧ (refV x all).2.length ≤ all.length + (pre x).length
  | ⟨a, b, l, c, d, e, f⟩, all => by
    have h := refL_len l all
    rw [refV_eq, pre_eq]
    obtain ⟨ext, h2, h3, _⟩ := refEnd_has ⟨a, b, l, c, d, e, f⟩ (refL l all)
    have h4 : (refEnd (⟨a, b, l, c, d, e, f⟩ : S32) (refL l all)).2.length = (refL l all).length + ext.length := by rw [h2, List.length_append]
    show all.length ≤ (refEnd _ (refL l all)).2.length ∧ (refEnd _ (refL l all)).2.length ≤ _
    simp only [List.length_cons]
    omega
theorem refL_len : ∀ (l : List S32) (all : List S32), all.length ≤ (refL l all).length ∧ (refL l all).length ≤ all.length + (preL l).length
  | [], all => ⟨Nat.le_refl _, Nat.le_add_right _ _⟩
  | x :: r, all => by
    have h1 := refV_len x all
    have h2 := refL_len r (refV x all).2
    rw [refL]
    simp only [preL, List.length_append]
    omega
end
theorem refIdx_drop (x : S32) : ∀ (all : List S32) (i k : Nat) (r : S32), all[i]? = some r → refIdx x (all.drop i) k = if likeB false r x then some k else refIdx x (all.drop (i + 1)) (k + 1) := by
  intro all i k r h
  obtain ⟨hl, hr⟩ := List.getElem?_eq_some_iff.1 h
  rw [List.drop_eq_getElem_cons hl, hr]; rfl
/-- What a call of the document's Put comes to. -/
def RefPut (x : S32) (A2 : Option Addr) (c2 : Nat) (A5 : Option Addr) (c5 : Nat) (A6 : Option Addr) (c6 : Nat) (base gb : Nat) (v : Value) (all : List S32) (w : World) : Prop :=
  Calls Tryd.prog 11 #[.pointer (some ⟨gb, 0, none⟩), .agg #[.int .i64 x.f0, .string x.f1, .slice A2 x.f2.length c2, .bool x.f3, .bool x.f4, .slice A5 x.f5.length c5, .slice A6 x.f6.length c6]] w fun e w' => ∃ v', e = .returned (.int .i64 ((refV x all).1 : Int)) ∧
    RefAt w' base gb v' (refV x all).2 ∧ Turned w w' (RefS gb v) ∧ (v'.ownBlock = v.ownBlock ∨ ∃ b, v'.ownBlock = some b ∧ w.heap.size ≤ b)
theorem refC_of {x : S32} {A2 : Option Addr} {c2 : Nat} {A5 : Option Addr} {c5 : Nat} {A6 : Option Addr} {c6 : Nat} {base gb : Nat} {v : Value} {all all1 : List S32} {n : Nat} {w : World} (h : RefPut x A2 c2 A5 c5 A6 c6 base gb v all w) (e : refV x all = (n, all1)) :
    Calls Tryd.prog 11 #[.pointer (some ⟨gb, 0, none⟩), .agg #[.int .i64 x.f0, .string x.f1, .slice A2 x.f2.length c2, .bool x.f3, .bool x.f4, .slice A5 x.f5.length c5, .slice A6 x.f6.length c6]] w fun e w' => ∃ v', e = .returned (.int .i64 (n : Int)) ∧ RefAt w' base gb v' all1 ∧ Turned w w' (RefS gb v) ∧ (v'.ownBlock = v.ownBlock ∨ ∃ b, v'.ownBlock = some b ∧ w.heap.size ≤ b) := by
  unfold RefPut at h
  rw [e] at h
  exact h
theorem like9_of {w : World} {x y : S32} {A2 : Option Addr} {c2 : Nat} {A5 : Option Addr} {c5 : Nat} {A6 : Option Addr} {c6 : Nat} {B2 : Option Addr} {d2 : Nat} {B5 : Option Addr} {d5 : Nat} {B6 : Option Addr} {d6 : Nat} (b : Bool) (h : Nd w x A2 c2 A5 c5 A6 c6) (h' : Nd w y B2 d2 B5 d5 B6 d6) (hx : Fin32 x) (e : likeB false x y = b) : Calls Tryd.prog 14 #[.agg #[.int .i64 x.f0, .string x.f1, .slice A2 x.f2.length c2, .bool x.f3, .bool x.f4, .slice A5 x.f5.length c5, .slice A6 x.f6.length c6], .agg #[.int .i64 y.f0, .string y.f1, .slice B2 y.f2.length d2, .bool y.f3, .bool y.f4, .slice B5 y.f5.length d5, .slice B6 y.f6.length d6]] w fun e w' => e = .returned (.bool b) ∧ Below w.heap.size w w' := by
  subst e
  obtain ⟨k, hk⟩ := (Like9 x y hx).rounds
  exact galleyref9_Like.calls k _ _ _ _ _ _ _ _ _ _ _ _ _ _ _ _ _ _ _ _ _ _ _ _ _ _ _ w h.g2 h.l2 h.g5 h.l5 h.g6 h.l6 h'.g2 h'.l2 h'.g5 h'.l5 h'.g6 h'.l6 hk
theorem cnt9_of {w : World} {x : S32} {A2 : Option Addr} {c2 : Nat} {A5 : Option Addr} {c5 : Nat} {A6 : Option Addr} {c6 : Nat} (n : Int) (h : Nd w x A2 c2 A5 c5 A6 c6) (hx : Fin32 x) (e : wrap64 (pre x).length = n) : Calls Tryd.prog 9 #[.agg #[.int .i64 x.f0, .string x.f1, .slice A2 x.f2.length c2, .bool x.f3, .bool x.f4, .slice A5 x.f5.length c5, .slice A6 x.f6.length c6]] w fun e w' => e = .returned (.int .i64 n) ∧ Below w.heap.size w w' := by
  subst e
  obtain ⟨k, hk⟩ := (count9 _ x (Nat.le_refl _) hx).rounds
  exact galleyref9_Count.calls k _ _ _ _ _ _ _ _ _ _ _ _ _ _ w h.g2 h.l2 h.g5 h.l5 h.g6 h.l6 hk
theorem few10_of {w : World} {x : S32} {A2 : Option Addr} {c2 : Nat} {A5 : Option Addr} {c5 : Nat} {A6 : Option Addr} {c6 : Nat} (b : Bool) (h : Nd w x A2 c2 A5 c5 A6 c6) (e : decide (fewV x 40 ≤ 400) = b) : Calls Tryd.prog 8 #[.agg #[.int .i64 x.f0, .string x.f1, .slice A2 x.f2.length c2, .bool x.f3, .bool x.f4, .slice A5 x.f5.length c5, .slice A6 x.f6.length c6]] w fun e w' => e = .returned (.bool b) ∧ Below w.heap.size w w' := by
  subst e
  obtain ⟨k, hk⟩ := (Few10 x).rounds
  exact galleylaw10_Few.calls k _ _ _ _ _ _ _ _ _ _ _ _ _ _ w h.g2 h.l2 h.g5 h.l5 h.g6 h.l6 hk
end Go.Proofs.YtjlnlonioknkhaaDoor.PL
