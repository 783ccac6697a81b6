/- Put: the walk. -/
import Derived.Test.YtjlnlonioknkhaaDoorHD4
namespace Go.Proofs.YtjlnlonioknkhaaDoor.PL
open Go.RowKit Go.Proofs.YtjlnlonioknkhaaDoorW.PrintWords Go.Proofs.YtjlnlonioknkhaaDoorW.PrintLast Go.Proofs.YtjlnlonioknkhaaDoorW.PrintMore
set_option linter.unusedVariables false
set_option linter.unusedSimpArgs false
theorem F10tab3 : rtab .any (opsOf Tryd.f10 3) = (true, [([], []), ([0], [0]), ([], []), ([2], [2]), ([], []), ([4], [4]), ([], []), ([6], [6]), ([7], [7]), ([8], [8]), ([], []), ([10], [10]), ([11, 8], [11]), ([9, 12], [9, 12]), ([1, 3, 5, 13], [1, 3, 5, 13]), ([], []), ([15, 14, 12, 0, 1, 2, 3, 4, 5, 6, 7, 8, 9, 10, 11, 12, 13, 14, 15], [14, 15])]) := by kernel_rfl
theorem F10tab9 : rtab .any (opsOf Tryd.f10 9) = (true, [([], []), ([0], [0]), ([], []), ([2], [2]), ([1, 3], [1, 3]), ([4], [4]), ([0, 1, 2, 3, 4, 5], []), ([6, 5, 3, 0, 1, 2, 3, 4, 5], [5, 6])]) := by kernel_rfl
theorem F10tab12 : rtab .any (opsOf Tryd.f10 12) = (true, [([], []), ([0], [0]), ([1], [1]), ([2], [2]), ([], []), ([3, 4], [3, 4]), ([5], [5]), ([6], [6]), ([6], [6]), ([7, 0, 1, 2, 3, 4, 5, 6, 7], [7]), ([8, 9, 0, 1, 2, 3, 4, 5, 6, 7, 8, 9], [8])]) := by kernel_rfl
theorem F10tab16 : rtab .any (opsOf Tryd.f10 16) = (true, [([], []), ([0], [0]), ([1], [1]), ([2], [2]), ([], []), ([], []), ([3, 4, 5, 0, 1, 2, 3, 4, 5], [3, 4, 5])]) := by kernel_rfl
theorem info3 : (Tryd.prog.info? 3).map (fun i => (i.zero, i.size, i.bytes)) = some (some (.int .i64 0), 1, 8) := by kernel_rfl
/-- A struct of five cells, of seven, is written. -/
def set5 (w : World) (g : Nat) (v0 v1 v2 v3 v4 : Value) : World := ((((w.setCell ⟨g, 0, none⟩ v0).setCell ⟨g, 1, none⟩ v1).setCell ⟨g, 2, none⟩ v2).setCell ⟨g, 3, none⟩ v3).setCell ⟨g, 4, none⟩ v4
theorem set5_other {w : World} {g k : Nat} {v0 v1 v2 v3 v4 : Value} (h : k ≠ g) : (set5 w g v0 v1 v2 v3 v4).heap[k]? = w.heap[k]? := by
  unfold set5
  rw [Below.heap_setCell _ _ _ _ h, Below.heap_setCell _ _ _ _ h, Below.heap_setCell _ _ _ _ h, Below.heap_setCell _ _ _ _ h, Below.heap_setCell _ _ _ _ h]
theorem set5_blk {w : World} {g : Nat} {t : TypeId} {u0 u1 u2 u3 u4 v0 v1 v2 v3 v4 : Value} (h : w.heap[g]? = some (.cells #[u0, u1, u2, u3, u4] t (0, 0))) : (set5 w g v0 v1 v2 v3 v4).heap[g]? = some (.cells #[v0, v1, v2, v3, v4] t (0, 0)) := by
  unfold set5
  refine blk_put (cs := #[v0, v1, v2, v3, u4]) ?_ 4 _ rfl
  refine blk_put (cs := #[v0, v1, v2, u3, u4]) ?_ 3 _ rfl
  refine blk_put (cs := #[v0, v1, u2, u3, u4]) ?_ 2 _ rfl
  refine blk_put (cs := #[v0, u1, u2, u3, u4]) ?_ 1 _ rfl
  exact blk_put h 0 _ rfl
theorem setCell_turned {w : World} {S : Nat → Prop} {g j : Nat} {u : Value} (hS : S g) : Turned w (w.setCell ⟨g, j, none⟩ u) S :=
  ⟨rfl, rfl, rfl, by simp [World.setCell], fun k hk hn => Below.heap_setCell w ⟨g, j, none⟩ u k (fun e => hn (e ▸ hS))⟩
theorem set5_turned {w : World} {S : Nat → Prop} {g : Nat} {v0 v1 v2 v3 v4 : Value} (hS : S g) : Turned w (set5 w g v0 v1 v2 v3 v4) S := by
  unfold set5
  exact ((((setCell_turned hS).trans (setCell_turned hS) (fun _ _ h => h)).trans (setCell_turned hS) (fun _ _ h => h)).trans (setCell_turned hS) (fun _ _ h => h)).trans (setCell_turned hS) (fun _ _ h => h)
def set7 (w : World) (g : Nat) (v0 v1 v2 v3 v4 v5 v6 : Value) : World := (set5 w g v0 v1 v2 v3 v4).setCell ⟨g, 5, none⟩ v5 |>.setCell ⟨g, 6, none⟩ v6
theorem set7_blk {w : World} {g : Nat} {t : TypeId} {u0 u1 u2 u3 u4 u5 u6 v0 v1 v2 v3 v4 v5 v6 : Value} (h : w.heap[g]? = some (.cells #[u0, u1, u2, u3, u4, u5, u6] t (0, 0))) : (set7 w g v0 v1 v2 v3 v4 v5 v6).heap[g]? = some (.cells #[v0, v1, v2, v3, v4, v5, v6] t (0, 0)) := by
  unfold set7 set5
  refine blk_put (cs := #[v0, v1, v2, v3, v4, v5, u6]) ?_ 6 _ rfl
  refine blk_put (cs := #[v0, v1, v2, v3, v4, u5, u6]) ?_ 5 _ rfl
  refine blk_put (cs := #[v0, v1, v2, v3, u4, u5, u6]) ?_ 4 _ rfl
  refine blk_put (cs := #[v0, v1, v2, u3, u4, u5, u6]) ?_ 3 _ rfl
  refine blk_put (cs := #[v0, v1, u2, u3, u4, u5, u6]) ?_ 2 _ rfl
  refine blk_put (cs := #[v0, u1, u2, u3, u4, u5, u6]) ?_ 1 _ rfl
  exact blk_put h 0 _ rfl
theorem set7_turned {w : World} {S : Nat → Prop} {g : Nat} {v0 v1 v2 v3 v4 v5 v6 : Value} (hS : S g) : Turned w (set7 w g v0 v1 v2 v3 v4 v5 v6) S := by
  unfold set7
  exact ((set5_turned hS).trans (setCell_turned hS) (fun _ _ h => h)).trans (setCell_turned hS) (fun _ _ h => h)
/-- A write into a block that is none of the pool's. -/
theorem PI.write {w wr wr' : World} {base ga gm : Nat} {v0 v : Value} {ks : List K5} {zs : List Int} (h : PI w wr base ga gm v0 v ks zs) {g : Nat} (ht : Turned wr wr' (fun k => k = g)) (hg : w.heap.size ≤ g) (hn : ¬ PoolS ga gm v g) : PI w wr' base ga gm v0 v ks zs := by
  refine ⟨⟨?_, ?_, ?_, h.hp.hl, h.hp.ba, h.hp.bm⟩, h.ht.trans ht (fun i hi hs => by omega), h.ho⟩
  · exact (ht.block ga (blk_lt h.hp.pa) (fun e => hn (Or.inl e.symm))).trans h.hp.pa
  · exact h.hp.pm.below (ht.block gm h.hp.pm.lt (fun e => hn (Or.inr (Or.inl e.symm))))
  · have hl := Kd.R_lt h.hp.pz
    exact Kd.R_reok rfl (Kd.R_step (Kd.R_tight rfl h.hp.pz) (fun k hk hlt => ht.block k hlt (fun e => hn (Or.inr (Or.inr (by rw [← e]; exact hk)))))) (fun k hk => Kd.R_base h.hp.pz k hk)
theorem elemF {ok : Nat → Prop} {w : World} {A : Option Addr} {n : Nat} {xs : List S32} (h : Kd.F k32 w ok A n xs) (i : Nat) (y : S32) (hi : xs[i]? = some y) :
    ∃ ad Y2 e2 Y5 e5 Y6 e6, A = some ad ∧ NF w ok y Y2 e2 Y5 e5 Y6 e6 ∧ w.cell? (ad.add (i * 7)) = some (.int .i64 y.f0) ∧ w.cell? ⟨(ad.add (i * 7)).block, (ad.add (i * 7)).off + 1, none⟩ = some (.string y.f1) ∧ w.cell? ⟨(ad.add (i * 7)).block, (ad.add (i * 7)).off + 2, none⟩ = some (.slice Y2 y.f2.length e2) ∧ w.cell? ⟨(ad.add (i * 7)).block, (ad.add (i * 7)).off + 3, none⟩ = some (.bool y.f3) ∧ w.cell? ⟨(ad.add (i * 7)).block, (ad.add (i * 7)).off + 4, none⟩ = some (.bool y.f4) ∧ w.cell? ⟨(ad.add (i * 7)).block, (ad.add (i * 7)).off + 5, none⟩ = some (.slice Y5 y.f5.length e5) ∧ w.cell? ⟨(ad.add (i * 7)).block, (ad.add (i * 7)).off + 6, none⟩ = some (.slice Y6 y.f6.length e6) := by
  have hn := Kd.F_len h
  obtain ⟨hl, hy⟩ := List.getElem?_eq_some_iff.1 hi
  obtain ⟨ad, cs, e, _, hF, hc, _⟩ := Kd.F_get h y (i : Int) (by omega) (by omega)
  rw [Int.toNat_natCast, List.getD_eq_getElem?_getD, hi] at hF
  obtain ⟨Y2, e2, Y5, e5, Y6, e6, rfl, l2, g2, l5, g5, l6, g6⟩ := k32_openF hF
  rw [Int.toNat_natCast] at hc
  refine ⟨ad, Y2, e2, Y5, e5, Y6, e6, e, ⟨g2, l2, g5, l5, g6, l6⟩, hc 0 _ rfl, ?_, ?_, ?_, ?_, ?_, ?_⟩
  · have := hc 1 _ rfl; rwa [add_field _ _ 1 (by omega)] at this
  · have := hc 2 _ rfl; rwa [add_field _ _ 2 (by omega)] at this
  · have := hc 3 _ rfl; rwa [add_field _ _ 3 (by omega)] at this
  · have := hc 4 _ rfl; rwa [add_field _ _ 4 (by omega)] at this
  · have := hc 5 _ rfl; rwa [add_field _ _ 5 (by omega)] at this
  · have := hc 6 _ rfl; rwa [add_field _ _ 6 (by omega)] at this
theorem part_bounds (x : S32) (i : Nat) (hlt : i < x.f2.length) (ks : List K5) (zs : List Int) (h : ks.length = zs.length) (hn : ks.length + (pre x).length ≤ 1000000) (hl2 : x.f2.length ≤ 1000000) (o1 : ByteArray) (s1 : Int) (ks1 : List K5) (zs1 : List Int)
    (PL : putL (x.f2.take i) ⟨E0, 1, ks, zs⟩ = ⟨o1, s1, ks1, zs1⟩) (y : S32) (hy : y = x.f2[i]) (id : Int) (ks2 : List K5) (zs2 : List Int) (PV : putV y ks1 zs1 = (id, ks2, zs2)) :
    ks1.length + (pre y).length ≤ 1000000 ∧ o1.size ≤ 22000000 ∧ ks2.length = zs2.length ∧ 1 ≤ id ∧ id ≤ ks2.length ∧ ks2.length ≤ 1000000 ∧ (itoaB id).size ≤ 21 ∧
    putL (x.f2.take (i + 1)) ⟨E0, 1, ks, zs⟩ = ⟨(o1 ++ itoaB id) ++ (⟨#[44]⟩ : ByteArray), wrap64 (s1 + szAt zs2 id), ks2, zs2⟩ := by
  have g1 := putL_good (x.f2.take i) ⟨E0, 1, ks, zs⟩ h
  rw [PL] at g1
  have h1 : (preL (x.f2.take (i + 1))).length = (preL (x.f2.take i)).length + (pre y).length := by rw [preL_take x.f2 i hlt, List.length_append, hy]
  have h2 : (preL (x.f2.take (i + 1))).length ≤ (preL x.f2).length := by
    have h1 : preL x.f2 = preL (x.f2.take (i + 1)) ++ preL (x.f2.drop (i + 1)) := by rw [← preL_append, List.take_append_drop]
    rw [h1, List.length_append]; omega
  have h3 : (pre x).length = (preL x.f2).length + 1 := by rw [pre_eq]; simp
  obtain ⟨g11, g12, g13⟩ := g1
  have g13' : ks1.length ≤ ks.length + (preL (x.f2.take i)).length := g13
  have g2 := putV_good y ks1 zs1 g11
  rw [PV] at g2
  obtain ⟨g21, g22, g23, g24, g25⟩ := g2
  have g23' : ks2.length ≤ ks1.length + (pre y).length := g23
  have g24' : 1 ≤ id := g24
  have g25' : id ≤ ks2.length := g25
  have o := putL_o (x.f2.take i) ⟨E0, 1, ks, zs⟩ h (by show ks.length + _ ≤ _; omega)
  rw [PL] at o
  have o' : o1.size ≤ 0 + 22 * (x.f2.take i).length := o
  have h4 : (x.f2.take i).length ≤ 1000000 := by simp; omega
  refine ⟨by omega, by omega, g21, g24', g25', by omega, itoa_size id (by omega) (by omega), ?_⟩
  rw [putL_take x.f2 i hlt, PL, ← hy]
  show PS.mk _ _ _ _ = _
  rw [PV]
theorem szAt_eq {zs : List Int} {id z : Int} {j : Nat} (hj : id = (j : Int) + 1) (hl : j < zs.length) (hz : z = zs[j]) : szAt zs id = z := by
  have h1 : (id - 1).toNat = j := by omega
  rw [szAt, h1, List.getD_eq_getElem?_getD, List.getElem?_eq_getElem hl, hz]; rfl
theorem setBlock_turned {w : World} {g : Nat} {o : Obj} {S : Nat → Prop} (hg : g < w.heap.size) (hS : S g) : Turned w (ChangeMaps.setBlock w g o) S :=
  ⟨rfl, rfl, rfl, by simp [ChangeMaps.setBlock], fun k hk hn => by
    show (w.heap.setIfInBounds g o)[k]? = w.heap[k]?
    rw [Array.getElem?_setIfInBounds_ne]
    intro e; subst e; exact hn hS⟩
theorem putC_of {x : S32} {A2 : Option Addr} {c2 : Nat} {A5 : Option Addr} {c5 : Nat} {A6 : Option Addr} {c6 : Nat} {base ga gm : Nat} {v : Value} {ks ks1 : List K5} {zs zs1 : List Int} {id : Int} {w : World} (h : PutAt x A2 c2 A5 c5 A6 c6 base ga gm v ks zs w) (e : putV x ks zs = (id, ks1, zs1)) :
    Calls Tryd.prog 10 #[.pointer (some ⟨ga, 0, none⟩), .agg #[.int .i64 x.f0, .string x.f1, .slice A2 x.f2.length c2, .bool x.f3, .bool x.f4, .slice A5 x.f5.length c5, .slice A6 x.f6.length c6]] w fun e w' => ∃ v', e = .returned (.int .i64 id) ∧ PoolAt w' base ga gm v' ks1 zs1 ∧ Turned w w' (PoolS ga gm v) ∧ (v'.ownBlock = v.ownBlock ∨ ∃ b, v'.ownBlock = some b ∧ w.heap.size ≤ b) := by
  unfold PutAt at h
  rw [e] at h
  exact h
set_option maxHeartbeats 8000000 in
set_option maxRecDepth 100000 in
theorem put_walk (x : S32) (A2 : Option Addr) (c2 : Nat) (A5 : Option Addr) (c5 : Nat) (A6 : Option Addr) (c6 : Nat) (base ga gm : Nat) (v : Value) (ks : List K5) (zs : List Int) (w : World) (ok : Nat → Prop) (hx : NF w ok x A2 c2 A5 c5 A6 c6) (hos : ∀ k, ok k → k < w.heap.size ∧ ¬ PoolS ga gm v k) (hp : PoolAt w base ga gm v ks zs) (hT : Tab base w) (hok : okT x) (hn : ks.length + (pre x).length ≤ 1000000) (hl2 : x.f2.length ≤ 1000000)
    (ih : ∀ y ∈ x.f2, ∀ (A2 : Option Addr) (c2 : Nat) (A5 : Option Addr) (c5 : Nat) (A6 : Option Addr) (c6 : Nat) (v : Value) (ks : List K5) (zs : List Int) (w : World), NF w ok y A2 c2 A5 c5 A6 c6 → (∀ k, ok k → k < w.heap.size ∧ ¬ PoolS ga gm v k) → PoolAt w base ga gm v ks zs → Tab base w → ks.length + (pre y).length ≤ 1000000 → PutAt y A2 c2 A5 c5 A6 c6 base ga gm v ks zs w) :
    PutAt x A2 c2 A5 c5 A6 c6 base ga gm v ks zs w := by
  have hu32 := Tryd.underlying32
  have hu45 := Tryd.underlying45
  have hu41 := Tryd.underlying41
  have HX := Aside0.mk hx
  have HOS := Aside0.mk hos
  have HP := Aside0.mk hp
  have HT := Aside0.mk hT
  have HOK := Aside0.mk (hok x (mem_self x))
  have HN := Aside0.mk hn
  have HL2 := Aside0.mk hl2
  have IH := Aside0.mk ih
  have IV := Aside0.mk (PI.start hp)
  unfold PutAt
  obtain ⟨t5, ht5⟩ : ∃ t, t = textsF x.f5 E0 := ⟨_, rfl⟩
  obtain ⟨t6, ht6⟩ : ∃ t, t = textsF x.f6 E0 := ⟨_, rfl⟩
  have z5 := textsF_size x.f5 E0 (fun s hs => by have := mem_tsz x.f5 s hs; have := HOK.out; omega)
  have z6 := textsF_size x.f6 E0 (fun s hs => by have := mem_tsz x.f6 s hs; have := HOK.out; omega)
  rw [← ht5] at z5
  rw [← ht6] at z6
  have hz0 : E0.size = 0 := rfl
  have CA : Aside0 (¬ (9223372036854775807 < t5.size + 1)) := ⟨by have := HOK.out; omega⟩
  have CB : Aside0 (¬ (9223372036854775807 < t5.size + 1 + t6.size)) := ⟨by have := HOK.out; omega⟩
  have T5 := Aside0.mk ht5
  have T6 := Aside0.mk ht6
  obtain ⟨nt, hnt⟩ : ∃ t, t = (t5 ++ (⟨#[59]⟩ : ByteArray)) ++ t6 := ⟨_, rfl⟩
  have NT := Aside0.mk hnt
  clear hx hos hp hT hok hn hl2 ih ht5 ht6 z5 z6 hz0 hnt
  go_enter Tryd.func10, Tryd.ntmps10
  go_upto_region 3 with (first | ((with_reducible refine gate_dst (N := 3) rfl ?_); (try (refine gate_guard (by rfl) ?_; dsimp only)); refine box_event ?hg (N := 3) ?hd (cs := #[.int .i64 x.f0, .string x.f1, .slice A2 x.f2.length c2, .bool x.f3, .bool x.f4, .slice A5 x.f5.length c5, .slice A6 x.f6.length c6]) (t := 32) ?hr ?_; (case hd => rfl); (case hg => rfl); (case hr => first | (go_simp; done) | (go_simp; rfl)); intro gx hg w1 hbox hb; have n0 := Aside0.mk (IV.out.below hb); have BX := Aside0.mk hbox; have GX := Aside0.mk (Nat.le_of_eq hg.symm); clear IV; have IV := n0; clear n0 hb hg hbox; have hx0 : w1.cell? ⟨gx, 0, none⟩ = some (.int .i64 x.f0) := (blk_cell BX.out 0).trans rfl; have fx0 := blk_frozen BX.out 0; have hx1 : w1.cell? ⟨gx, 1, none⟩ = some (.string x.f1) := (blk_cell BX.out 1).trans rfl; have fx1 := blk_frozen BX.out 1; have hx2 : w1.cell? ⟨gx, 2, none⟩ = some (.slice A2 x.f2.length c2) := (blk_cell BX.out 2).trans rfl; have fx2 := blk_frozen BX.out 2; have hx3 : w1.cell? ⟨gx, 3, none⟩ = some (.bool x.f3) := (blk_cell BX.out 3).trans rfl; have fx3 := blk_frozen BX.out 3; have hx4 : w1.cell? ⟨gx, 4, none⟩ = some (.bool x.f4) := (blk_cell BX.out 4).trans rfl; have fx4 := blk_frozen BX.out 4; have hx5 : w1.cell? ⟨gx, 5, none⟩ = some (.slice A5 x.f5.length c5) := (blk_cell BX.out 5).trans rfl; have fx5 := blk_frozen BX.out 5; have hx6 : w1.cell? ⟨gx, 6, none⟩ = some (.slice A6 x.f6.length c6) := (blk_cell BX.out 6).trans rfl; have fx6 := blk_frozen BX.out 6))
  go_cut [5] (fun s5 wx => ∃ gq : Nat, s5 = .pointer (some ⟨gq, 0, none⟩) ∧ Aside0 (w.heap.size ≤ gq) ∧ Aside0 (wx.heap[gq]? = some (.cells #[.int .i64 x.f0, .bool x.f4, .string x.f1, .string (⟨#[]⟩ : ByteArray), .string nt] 45 (0, 0))) ∧ Aside0 (wx.heap[gx]? = some (.cells #[.int .i64 x.f0, .string x.f1, .slice A2 x.f2.length c2, .bool x.f3, .bool x.f4, .slice A5 x.f5.length c5, .slice A6 x.f6.length c6] 32 (0, 0))) ∧ Aside0 (PI w wx base ga gm v v ks zs))
  case first =>
    clear hx0 fx0 hx1 fx1 hx2 fx2 hx3 fx3 hx4 fx4 hx5 fx5 hx6 fx6
    have n0 := Aside0.mk (IV.out.below (below_drew1 (Below.refl _ _)))
    have n1 := Aside0.mk (blk_below BX.out (below_drew1 (Below.refl _ _)))
    clear IV BX
    have IV := n0
    have BX := n1
    clear n0 n1
    refine start_ (n := 17) (S := fun w' => w'.cell? ⟨gx, 0, none⟩ = some (.int .i64 x.f0) ∧ w'.cell? ⟨gx, 4, none⟩ = some (.bool x.f4) ∧ w'.cell? ⟨gx, 1, none⟩ = some (.string x.f1) ∧ w'.cell? ⟨gx, 5, none⟩ = some (.slice A5 x.f5.length c5) ∧ w'.cell? ⟨gx, 6, none⟩ = some (.slice A6 x.f6.length c6) ∧ True) (ds := [16]) #[false, false, false, false, false, false, false, false, false, false, false, false, false, false, false, false, false] (by kernel_rfl) rfl rfl (⟨(blk_cell BX.out 0).trans rfl, (blk_cell BX.out 4).trans rfl, (blk_cell BX.out 1).trans rfl, (blk_cell BX.out 5).trans rfl, (blk_cell BX.out 6).trans rfl, trivial⟩) (fun hHeld => ?_)
    generalize World.drew _ = w500 at IV BX hHeld ⊢
    refine pure_ (i := 0) (N := some 14) (v := ?_) (a' := ?_) #[true, false, false, false, false, false, false, false, false, false, false, false, false, false, false, false, false] rfl rfl (any_of (md := .any) (ops := opsOf Tryd.f10 3) F10tab3 (by kernel_rfl)) (fun _ _ _ h => h) (Or.inl ⟨by rfl, ?_⟩) ?_ ?_
    rotate_left
    · intro w'
      go_simp
      with_reducible rfl
    rotate_left
    · simp only [Act.put, List.setIfInBounds_toArray, List.set_cons_zero, List.set_cons_succ, i64_w, i32_w]
      rfl
    refine take_ (i := 1) (N := some 15) (v := ?_) (a' := ?_) #[true, true, false, false, false, false, false, false, false, false, false, false, false, false, false, false, false] rfl rfl (take_of (md := .any) (ops := opsOf Tryd.f10 3) F10tab3 (by kernel_rfl)) (fun _ _ _ h => h) (Or.inl ⟨by rfl, ?_⟩) hHeld ?_ ?_
    rotate_left
    · rintro w' ⟨s0, s1, s2, s3, s4, s5⟩
      go_simp
      with_reducible rfl
    rotate_left
    · simp only [Act.put, List.setIfInBounds_toArray, List.set_cons_zero, List.set_cons_succ, i64_w, i32_w]
      rfl
    refine pure_ (i := 2) (N := some 16) (v := ?_) (a' := ?_) #[true, true, true, false, false, false, false, false, false, false, false, false, false, false, false, false, false] rfl rfl (any_of (md := .any) (ops := opsOf Tryd.f10 3) F10tab3 (by kernel_rfl)) (fun _ _ _ h => h) (Or.inl ⟨by rfl, ?_⟩) ?_ ?_
    rotate_left
    · intro w'
      go_simp
      with_reducible rfl
    rotate_left
    · simp only [Act.put, List.setIfInBounds_toArray, List.set_cons_zero, List.set_cons_succ, i64_w, i32_w]
      rfl
    refine take_ (i := 3) (N := some 17) (v := ?_) (a' := ?_) #[true, true, true, true, false, false, false, false, false, false, false, false, false, false, false, false, false] rfl rfl (take_of (md := .any) (ops := opsOf Tryd.f10 3) F10tab3 (by kernel_rfl)) (fun _ _ _ h => h) (Or.inl ⟨by rfl, ?_⟩) hHeld ?_ ?_
    rotate_left
    · rintro w' ⟨s0, s1, s2, s3, s4, s5⟩
      go_simp
      with_reducible rfl
    rotate_left
    · simp only [Act.put, List.setIfInBounds_toArray, List.set_cons_zero, List.set_cons_succ, i64_w, i32_w]
      rfl
    refine pure_ (i := 4) (N := some 18) (v := ?_) (a' := ?_) #[true, true, true, true, true, false, false, false, false, false, false, false, false, false, false, false, false] rfl rfl (any_of (md := .any) (ops := opsOf Tryd.f10 3) F10tab3 (by kernel_rfl)) (fun _ _ _ h => h) (Or.inl ⟨by rfl, ?_⟩) ?_ ?_
    rotate_left
    · intro w'
      go_simp
      with_reducible rfl
    rotate_left
    · simp only [Act.put, List.setIfInBounds_toArray, List.set_cons_zero, List.set_cons_succ, i64_w, i32_w]
      rfl
    refine take_ (i := 5) (N := some 19) (v := ?_) (a' := ?_) #[true, true, true, true, true, true, false, false, false, false, false, false, false, false, false, false, false] rfl rfl (take_of (md := .any) (ops := opsOf Tryd.f10 3) F10tab3 (by kernel_rfl)) (fun _ _ _ h => h) (Or.inl ⟨by rfl, ?_⟩) hHeld ?_ ?_
    rotate_left
    · rintro w' ⟨s0, s1, s2, s3, s4, s5⟩
      go_simp
      with_reducible rfl
    rotate_left
    · simp only [Act.put, List.setIfInBounds_toArray, List.set_cons_zero, List.set_cons_succ, i64_w, i32_w]
      rfl
    refine pure_ (i := 6) (N := some 20) (v := ?_) (a' := ?_) #[true, true, true, true, true, true, true, false, false, false, false, false, false, false, false, false, false] rfl rfl (any_of (md := .any) (ops := opsOf Tryd.f10 3) F10tab3 (by kernel_rfl)) (fun _ _ _ h => h) (Or.inl ⟨by rfl, ?_⟩) ?_ ?_
    rotate_left
    · intro w'
      go_simp
      with_reducible rfl
    rotate_left
    · simp only [Act.put, List.setIfInBounds_toArray, List.set_cons_zero, List.set_cons_succ, i64_w, i32_w]
      rfl
    refine take_ (i := 7) (N := some 21) (v := ?_) (a' := ?_) #[true, true, true, true, true, true, true, true, false, false, false, false, false, false, false, false, false] rfl rfl (take_of (md := .any) (ops := opsOf Tryd.f10 3) F10tab3 (by kernel_rfl)) (fun _ _ _ h => h) (Or.inl ⟨by rfl, ?_⟩) hHeld ?_ ?_
    rotate_left
    · rintro w' ⟨s0, s1, s2, s3, s4, s5⟩
      go_simp
      with_reducible rfl
    rotate_left
    · simp only [Act.put, List.setIfInBounds_toArray, List.set_cons_zero, List.set_cons_succ, i64_w, i32_w]
      rfl
    refine pure_ (i := 10) (N := some 24) (v := ?_) (a' := ?_) #[true, true, true, true, true, true, true, true, false, false, true, false, false, false, false, false, false] rfl rfl (any_of (md := .any) (ops := opsOf Tryd.f10 3) F10tab3 (by kernel_rfl)) (fun _ _ _ h => h) (Or.inl ⟨by rfl, ?_⟩) ?_ ?_
    rotate_left
    · intro w'
      go_simp
      with_reducible rfl
    rotate_left
    · simp only [Act.put, List.setIfInBounds_toArray, List.set_cons_zero, List.set_cons_succ, i64_w, i32_w]
      rfl
    refine take_ (i := 11) (N := some 25) (v := ?_) (a' := ?_) #[true, true, true, true, true, true, true, true, false, false, true, true, false, false, false, false, false] rfl rfl (take_of (md := .any) (ops := opsOf Tryd.f10 3) F10tab3 (by kernel_rfl)) (fun _ _ _ h => h) (Or.inl ⟨by rfl, ?_⟩) hHeld ?_ ?_
    rotate_left
    · rintro w' ⟨s0, s1, s2, s3, s4, s5⟩
      go_simp
      with_reducible rfl
    rotate_left
    · simp only [Act.put, List.setIfInBounds_toArray, List.set_cons_zero, List.set_cons_succ, i64_w, i32_w]
      rfl
    refine two_ (i := 8) (j := 15) (Ni := some 22) (Nj := some 5) #[true, true, true, true, true, true, true, true, true, false, true, true, false, false, false, false, false] #[true, true, true, true, true, true, true, true, false, false, true, true, false, false, false, true, false] rfl rfl rfl rfl (two_of (md := .any) (ops := opsOf Tryd.f10 3) F10tab3 (by kernel_rfl)) (by decide) (by decide) (fun K hK => ?_) (fun K hK => ?_)
    · refine goes_ Tryd.func16 (by kernel_rfl) rfl #[.slice A5 x.f5.length c5] (by rfl) rfl rfl (by (try simp only [List.map_toArray, List.map_cons, List.map_nil]); first | done | rfl) ?_
      refine (texts_calls base x.f5 A5 c5 _ (Kd.F_now (HX.out.turn IV.out.ht HOS.out).g5) IV.out.hp.base_le (HT.out.on (IV.out.base_below HP.out)) HOK.out.1).mono ?_
      rintro e w501 ⟨rfl, hb⟩
      refine ⟨_, rfl, ?_⟩
      rw [← T5.out]; have n0 := Aside0.mk (IV.out.below hb); have n1 := Aside0.mk (blk_below BX.out hb); clear IV BX; have IV := n0; have BX := n1; clear n0 n1; clear hb
      refine hK.out _ _ (⟨(blk_cell BX.out 0).trans rfl, (blk_cell BX.out 4).trans rfl, (blk_cell BX.out 1).trans rfl, (blk_cell BX.out 5).trans rfl, (blk_cell BX.out 6).trans rfl, trivial⟩) (fun hHeld => ?_)
      clear hK K
      refine norm_ (a' := ?_) ?_ ?_
      rotate_left
      · show Act.put _ (some 22) _ = _
        simp only [Act.put, List.setIfInBounds_toArray, List.set_cons_zero, List.set_cons_succ, i64_w, i32_w]
        rfl
      refine pure_ (i := 9) (N := some 23) (v := ?_) (a' := ?_) #[true, true, true, true, true, true, true, true, true, true, true, true, false, false, false, false, false] rfl rfl (any_of (md := .any) (ops := opsOf Tryd.f10 3) F10tab3 (by kernel_rfl)) (fun _ _ _ h => h) (Or.inl ⟨by rfl, ?_⟩) ?_ ?_
      rotate_left
      · intro w'
        go_simp
        rw [if_neg CA.out]
      rotate_left
      · simp only [Act.put, List.setIfInBounds_toArray, List.set_cons_zero, List.set_cons_succ, i64_w, i32_w]
        rfl
      refine two_ (i := 12) (j := 15) (Ni := some 26) (Nj := some 5) #[true, true, true, true, true, true, true, true, true, true, true, true, true, false, false, false, false] #[true, true, true, true, true, true, true, true, true, true, true, true, false, false, false, true, false] rfl rfl rfl rfl (two_of (md := .any) (ops := opsOf Tryd.f10 3) F10tab3 (by kernel_rfl)) (by decide) (by decide) (fun K hK => ?_) (fun K hK => ?_)
      · refine goes_ Tryd.func16 (by kernel_rfl) rfl #[.slice A6 x.f6.length c6] (by rfl) rfl rfl (by (try simp only [List.map_toArray, List.map_cons, List.map_nil]); first | done | rfl) ?_
        refine (texts_calls base x.f6 A6 c6 _ (Kd.F_now (HX.out.turn IV.out.ht HOS.out).g6) IV.out.hp.base_le (HT.out.on (IV.out.base_below HP.out)) HOK.out.2).mono ?_
        rintro e w502 ⟨rfl, hb⟩
        refine ⟨_, rfl, ?_⟩
        rw [← T6.out]; have n0 := Aside0.mk (IV.out.below hb); have n1 := Aside0.mk (blk_below BX.out hb); clear IV BX; have IV := n0; have BX := n1; clear n0 n1; clear hb
        refine hK.out _ _ (⟨(blk_cell BX.out 0).trans rfl, (blk_cell BX.out 4).trans rfl, (blk_cell BX.out 1).trans rfl, (blk_cell BX.out 5).trans rfl, (blk_cell BX.out 6).trans rfl, trivial⟩) (fun hHeld => ?_)
        clear hK K
        refine norm_ (a' := ?_) ?_ ?_
        rotate_left
        · show Act.put _ (some 26) _ = _
          simp only [Act.put, List.setIfInBounds_toArray, List.set_cons_zero, List.set_cons_succ, i64_w, i32_w]
          rfl
        refine pure_ (i := 13) (N := some 27) (v := ?_) (a' := ?_) #[true, true, true, true, true, true, true, true, true, true, true, true, true, true, false, false, false] rfl rfl (any_of (md := .any) (ops := opsOf Tryd.f10 3) F10tab3 (by kernel_rfl)) (fun _ _ _ h => h) (Or.inl ⟨by rfl, ?_⟩) ?_ ?_
        rotate_left
        · intro w'
          go_simp
          rw [if_neg CB.out]
        rotate_left
        · simp only [Act.put, List.setIfInBounds_toArray, List.set_cons_zero, List.set_cons_succ, i64_w, i32_w]
          rfl
        refine pure_ (i := 14) (N := some 28) (v := ?_) (a' := ?_) #[true, true, true, true, true, true, true, true, true, true, true, true, true, true, true, false, false] rfl rfl (any_of (md := .any) (ops := opsOf Tryd.f10 3) F10tab3 (by kernel_rfl)) (fun _ _ _ h => h) (Or.inl ⟨by rfl, ?_⟩) ?_ ?_
        rotate_left
        · intro w'
          go_simp
          with_reducible rfl
        rotate_left
        · simp only [Act.put, List.setIfInBounds_toArray, List.set_cons_zero, List.set_cons_succ, i64_w, i32_w]
          rfl
        refine one_ (i := 15) (N := some 5) #[true, true, true, true, true, true, true, true, true, true, true, true, true, true, true, true, false] rfl rfl (one_of (md := .any) (ops := opsOf Tryd.f10 3) F10tab3 (by kernel_rfl)) (by decide) (fun K hK => ?_)
        refine box_step (by rfl) (N := 5) rfl (cs := #[.int .i64 0, .bool false, .string (⟨#[]⟩ : ByteArray), .string (⟨#[]⟩ : ByteArray), .string (⟨#[]⟩ : ByteArray)]) (t := 45) ?hrun ?_
        case hrun => first | (go_simp; done) | (go_simp; rfl)
        intro gq hg w503 hbox hb
        have GQ := Aside0.mk (show w.heap.size ≤ gq from by rw [hg]; exact IV.out.ht.size); have BK := Aside0.mk hbox; have n0 := Aside0.mk (IV.out.below hb); have n1 := Aside0.mk (blk_below BX.out hb); clear IV BX; have IV := n0; have BX := n1; clear n0 n1; clear hb
        clear hbox hg
        refine hK.out _ _ (⟨(blk_cell BX.out 0).trans rfl, (blk_cell BX.out 4).trans rfl, (blk_cell BX.out 1).trans rfl, (blk_cell BX.out 5).trans rfl, (blk_cell BX.out 6).trans rfl, trivial⟩) (fun hHeld => ?_)
        clear hK K
        refine norm_ (a' := ?_) ?_ ?_
        rotate_left
        · show Act.put _ (some 5) _ = _
          simp only [Act.put, List.setIfInBounds_toArray, List.set_cons_zero, List.set_cons_succ, i64_w, i32_w]
          rfl
        refine last_ (i := 16) (N := none) #[true, true, true, true, true, true, true, true, true, true, true, true, true, true, true, true, true] rfl rfl (one_of (md := .any) (ops := opsOf Tryd.f10 3) F10tab3 (by kernel_rfl)) (by decide) (fun K hK => ?_)
        have k0 : w503.cell? ⟨gq, 0, none⟩ = some (.int .i64 0) := (blk_cell BK.out 0).trans rfl
        have k1 : w503.cell? ⟨gq, 1, none⟩ = some (.bool false) := (blk_cell BK.out 1).trans rfl
        have k2 : w503.cell? ⟨gq, 2, none⟩ = some (.string (⟨#[]⟩ : ByteArray)) := (blk_cell BK.out 2).trans rfl
        have k3 : w503.cell? ⟨gq, 3, none⟩ = some (.string (⟨#[]⟩ : ByteArray)) := (blk_cell BK.out 3).trans rfl
        have k4 : w503.cell? ⟨gq, 4, none⟩ = some (.string (⟨#[]⟩ : ByteArray)) := (blk_cell BK.out 4).trans rfl
        have kf0 := blk_frozen BK.out 0
        have kf1 := blk_frozen BK.out 1
        have kf2 := blk_frozen BK.out 2
        have kf3 := blk_frozen BK.out 3
        have kf4 := blk_frozen BK.out 4
        refine skip_ (w1 := set5 w503 gq (.int .i64 x.f0) (.bool x.f4) (.string x.f1) (.string (⟨#[]⟩ : ByteArray)) (.string ((t5 ++ (⟨#[59]⟩ : ByteArray)) ++ t6))) rfl rfl ?hrun ?_
        case hrun => first | (go_simp; done) | (go_simp; rfl)
        refine hK.out _ _ (done_ (done_of (md := .any) (ops := opsOf Tryd.f10 3) F10tab3 (by kernel_rfl)) ?_)
        go_wp2_with fail
        go_meet
        rw [← NT.out]
        exact ⟨gq, rfl, GQ, ⟨set5_blk BK.out⟩, ⟨(set5_other (blk_ne BX.out BK.out (by decide))).trans BX.out⟩, ⟨IV.out.write (set5_turned rfl) GQ.out (IV.out.hp.away BK.out (by decide) (by decide))⟩⟩
      · refine box_step (by rfl) (N := 5) rfl (cs := #[.int .i64 0, .bool false, .string (⟨#[]⟩ : ByteArray), .string (⟨#[]⟩ : ByteArray), .string (⟨#[]⟩ : ByteArray)]) (t := 45) ?hrun ?_
        case hrun => first | (go_simp; done) | (go_simp; rfl)
        intro gq hg w502 hbox hb
        have GQ := Aside0.mk (show w.heap.size ≤ gq from by rw [hg]; exact IV.out.ht.size); have BK := Aside0.mk hbox; have n0 := Aside0.mk (IV.out.below hb); have n1 := Aside0.mk (blk_below BX.out hb); clear IV BX; have IV := n0; have BX := n1; clear n0 n1; clear hb
        clear hbox hg
        refine hK.out _ _ (⟨(blk_cell BX.out 0).trans rfl, (blk_cell BX.out 4).trans rfl, (blk_cell BX.out 1).trans rfl, (blk_cell BX.out 5).trans rfl, (blk_cell BX.out 6).trans rfl, trivial⟩) (fun hHeld => ?_)
        clear hK K
        refine norm_ (a' := ?_) ?_ ?_
        rotate_left
        · show Act.put _ (some 5) _ = _
          simp only [Act.put, List.setIfInBounds_toArray, List.set_cons_zero, List.set_cons_succ, i64_w, i32_w]
          rfl
        refine one_ (i := 12) (N := some 26) #[true, true, true, true, true, true, true, true, true, true, true, true, true, false, false, true, false] rfl rfl (one_of (md := .any) (ops := opsOf Tryd.f10 3) F10tab3 (by kernel_rfl)) (by decide) (fun K hK => ?_)
        refine goes_ Tryd.func16 (by kernel_rfl) rfl #[.slice A6 x.f6.length c6] (by rfl) rfl rfl (by (try simp only [List.map_toArray, List.map_cons, List.map_nil]); first | done | rfl) ?_
        refine (texts_calls base x.f6 A6 c6 _ (Kd.F_now (HX.out.turn IV.out.ht HOS.out).g6) IV.out.hp.base_le (HT.out.on (IV.out.base_below HP.out)) HOK.out.2).mono ?_
        rintro e w503 ⟨rfl, hb⟩
        refine ⟨_, rfl, ?_⟩
        rw [← T6.out]; have n0 := Aside0.mk (IV.out.below hb); have n1 := Aside0.mk (blk_below BX.out hb); clear IV BX; have IV := n0; have BX := n1; clear n0 n1; have n2 := Aside0.mk (blk_below BK.out hb); clear BK; have BK := n2; clear n2; clear hb
        refine hK.out _ _ (⟨(blk_cell BX.out 0).trans rfl, (blk_cell BX.out 4).trans rfl, (blk_cell BX.out 1).trans rfl, (blk_cell BX.out 5).trans rfl, (blk_cell BX.out 6).trans rfl, trivial⟩) (fun hHeld => ?_)
        clear hK K
        refine norm_ (a' := ?_) ?_ ?_
        rotate_left
        · show Act.put _ (some 26) _ = _
          simp only [Act.put, List.setIfInBounds_toArray, List.set_cons_zero, List.set_cons_succ, i64_w, i32_w]
          rfl
        refine pure_ (i := 13) (N := some 27) (v := ?_) (a' := ?_) #[true, true, true, true, true, true, true, true, true, true, true, true, true, true, false, true, false] rfl rfl (any_of (md := .any) (ops := opsOf Tryd.f10 3) F10tab3 (by kernel_rfl)) (fun _ _ _ h => h) (Or.inl ⟨by rfl, ?_⟩) ?_ ?_
        rotate_left
        · intro w'
          go_simp
          rw [if_neg CB.out]
        rotate_left
        · simp only [Act.put, List.setIfInBounds_toArray, List.set_cons_zero, List.set_cons_succ, i64_w, i32_w]
          rfl
        refine pure_ (i := 14) (N := some 28) (v := ?_) (a' := ?_) #[true, true, true, true, true, true, true, true, true, true, true, true, true, true, true, true, false] rfl rfl (any_of (md := .any) (ops := opsOf Tryd.f10 3) F10tab3 (by kernel_rfl)) (fun _ _ _ h => h) (Or.inl ⟨by rfl, ?_⟩) ?_ ?_
        rotate_left
        · intro w'
          go_simp
          with_reducible rfl
        rotate_left
        · simp only [Act.put, List.setIfInBounds_toArray, List.set_cons_zero, List.set_cons_succ, i64_w, i32_w]
          rfl
        refine last_ (i := 16) (N := none) #[true, true, true, true, true, true, true, true, true, true, true, true, true, true, true, true, true] rfl rfl (one_of (md := .any) (ops := opsOf Tryd.f10 3) F10tab3 (by kernel_rfl)) (by decide) (fun K hK => ?_)
        have k0 : w503.cell? ⟨gq, 0, none⟩ = some (.int .i64 0) := (blk_cell BK.out 0).trans rfl
        have k1 : w503.cell? ⟨gq, 1, none⟩ = some (.bool false) := (blk_cell BK.out 1).trans rfl
        have k2 : w503.cell? ⟨gq, 2, none⟩ = some (.string (⟨#[]⟩ : ByteArray)) := (blk_cell BK.out 2).trans rfl
        have k3 : w503.cell? ⟨gq, 3, none⟩ = some (.string (⟨#[]⟩ : ByteArray)) := (blk_cell BK.out 3).trans rfl
        have k4 : w503.cell? ⟨gq, 4, none⟩ = some (.string (⟨#[]⟩ : ByteArray)) := (blk_cell BK.out 4).trans rfl
        have kf0 := blk_frozen BK.out 0
        have kf1 := blk_frozen BK.out 1
        have kf2 := blk_frozen BK.out 2
        have kf3 := blk_frozen BK.out 3
        have kf4 := blk_frozen BK.out 4
        refine skip_ (w1 := set5 w503 gq (.int .i64 x.f0) (.bool x.f4) (.string x.f1) (.string (⟨#[]⟩ : ByteArray)) (.string ((t5 ++ (⟨#[59]⟩ : ByteArray)) ++ t6))) rfl rfl ?hrun ?_
        case hrun => first | (go_simp; done) | (go_simp; rfl)
        refine hK.out _ _ (done_ (done_of (md := .any) (ops := opsOf Tryd.f10 3) F10tab3 (by kernel_rfl)) ?_)
        go_wp2_with fail
        go_meet
        rw [← NT.out]
        exact ⟨gq, rfl, GQ, ⟨set5_blk BK.out⟩, ⟨(set5_other (blk_ne BX.out BK.out (by decide))).trans BX.out⟩, ⟨IV.out.write (set5_turned rfl) GQ.out (IV.out.hp.away BK.out (by decide) (by decide))⟩⟩
    · refine box_step (by rfl) (N := 5) rfl (cs := #[.int .i64 0, .bool false, .string (⟨#[]⟩ : ByteArray), .string (⟨#[]⟩ : ByteArray), .string (⟨#[]⟩ : ByteArray)]) (t := 45) ?hrun ?_
      case hrun => first | (go_simp; done) | (go_simp; rfl)
      intro gq hg w501 hbox hb
      have GQ := Aside0.mk (show w.heap.size ≤ gq from by rw [hg]; exact IV.out.ht.size); have BK := Aside0.mk hbox; have n0 := Aside0.mk (IV.out.below hb); have n1 := Aside0.mk (blk_below BX.out hb); clear IV BX; have IV := n0; have BX := n1; clear n0 n1; clear hb
      clear hbox hg
      refine hK.out _ _ (⟨(blk_cell BX.out 0).trans rfl, (blk_cell BX.out 4).trans rfl, (blk_cell BX.out 1).trans rfl, (blk_cell BX.out 5).trans rfl, (blk_cell BX.out 6).trans rfl, trivial⟩) (fun hHeld => ?_)
      clear hK K
      refine norm_ (a' := ?_) ?_ ?_
      rotate_left
      · show Act.put _ (some 5) _ = _
        simp only [Act.put, List.setIfInBounds_toArray, List.set_cons_zero, List.set_cons_succ, i64_w, i32_w]
        rfl
      refine one_ (i := 8) (N := some 22) #[true, true, true, true, true, true, true, true, true, false, true, true, false, false, false, true, false] rfl rfl (one_of (md := .any) (ops := opsOf Tryd.f10 3) F10tab3 (by kernel_rfl)) (by decide) (fun K hK => ?_)
      refine goes_ Tryd.func16 (by kernel_rfl) rfl #[.slice A5 x.f5.length c5] (by rfl) rfl rfl (by (try simp only [List.map_toArray, List.map_cons, List.map_nil]); first | done | rfl) ?_
      refine (texts_calls base x.f5 A5 c5 _ (Kd.F_now (HX.out.turn IV.out.ht HOS.out).g5) IV.out.hp.base_le (HT.out.on (IV.out.base_below HP.out)) HOK.out.1).mono ?_
      rintro e w502 ⟨rfl, hb⟩
      refine ⟨_, rfl, ?_⟩
      rw [← T5.out]; have n0 := Aside0.mk (IV.out.below hb); have n1 := Aside0.mk (blk_below BX.out hb); clear IV BX; have IV := n0; have BX := n1; clear n0 n1; have n2 := Aside0.mk (blk_below BK.out hb); clear BK; have BK := n2; clear n2; clear hb
      refine hK.out _ _ (⟨(blk_cell BX.out 0).trans rfl, (blk_cell BX.out 4).trans rfl, (blk_cell BX.out 1).trans rfl, (blk_cell BX.out 5).trans rfl, (blk_cell BX.out 6).trans rfl, trivial⟩) (fun hHeld => ?_)
      clear hK K
      refine norm_ (a' := ?_) ?_ ?_
      rotate_left
      · show Act.put _ (some 22) _ = _
        simp only [Act.put, List.setIfInBounds_toArray, List.set_cons_zero, List.set_cons_succ, i64_w, i32_w]
        rfl
      refine pure_ (i := 9) (N := some 23) (v := ?_) (a' := ?_) #[true, true, true, true, true, true, true, true, true, true, true, true, false, false, false, true, false] rfl rfl (any_of (md := .any) (ops := opsOf Tryd.f10 3) F10tab3 (by kernel_rfl)) (fun _ _ _ h => h) (Or.inl ⟨by rfl, ?_⟩) ?_ ?_
      rotate_left
      · intro w'
        go_simp
        rw [if_neg CA.out]
      rotate_left
      · simp only [Act.put, List.setIfInBounds_toArray, List.set_cons_zero, List.set_cons_succ, i64_w, i32_w]
        rfl
      refine one_ (i := 12) (N := some 26) #[true, true, true, true, true, true, true, true, true, true, true, true, true, false, false, true, false] rfl rfl (one_of (md := .any) (ops := opsOf Tryd.f10 3) F10tab3 (by kernel_rfl)) (by decide) (fun K hK => ?_)
      refine goes_ Tryd.func16 (by kernel_rfl) rfl #[.slice A6 x.f6.length c6] (by rfl) rfl rfl (by (try simp only [List.map_toArray, List.map_cons, List.map_nil]); first | done | rfl) ?_
      refine (texts_calls base x.f6 A6 c6 _ (Kd.F_now (HX.out.turn IV.out.ht HOS.out).g6) IV.out.hp.base_le (HT.out.on (IV.out.base_below HP.out)) HOK.out.2).mono ?_
      rintro e w503 ⟨rfl, hb⟩
      refine ⟨_, rfl, ?_⟩
      rw [← T6.out]; have n0 := Aside0.mk (IV.out.below hb); have n1 := Aside0.mk (blk_below BX.out hb); clear IV BX; have IV := n0; have BX := n1; clear n0 n1; have n2 := Aside0.mk (blk_below BK.out hb); clear BK; have BK := n2; clear n2; clear hb
      refine hK.out _ _ (⟨(blk_cell BX.out 0).trans rfl, (blk_cell BX.out 4).trans rfl, (blk_cell BX.out 1).trans rfl, (blk_cell BX.out 5).trans rfl, (blk_cell BX.out 6).trans rfl, trivial⟩) (fun hHeld => ?_)
      clear hK K
      refine norm_ (a' := ?_) ?_ ?_
      rotate_left
      · show Act.put _ (some 26) _ = _
        simp only [Act.put, List.setIfInBounds_toArray, List.set_cons_zero, List.set_cons_succ, i64_w, i32_w]
        rfl
      refine pure_ (i := 13) (N := some 27) (v := ?_) (a' := ?_) #[true, true, true, true, true, true, true, true, true, true, true, true, true, true, false, true, false] rfl rfl (any_of (md := .any) (ops := opsOf Tryd.f10 3) F10tab3 (by kernel_rfl)) (fun _ _ _ h => h) (Or.inl ⟨by rfl, ?_⟩) ?_ ?_
      rotate_left
      · intro w'
        go_simp
        rw [if_neg CB.out]
      rotate_left
      · simp only [Act.put, List.setIfInBounds_toArray, List.set_cons_zero, List.set_cons_succ, i64_w, i32_w]
        rfl
      refine pure_ (i := 14) (N := some 28) (v := ?_) (a' := ?_) #[true, true, true, true, true, true, true, true, true, true, true, true, true, true, true, true, false] rfl rfl (any_of (md := .any) (ops := opsOf Tryd.f10 3) F10tab3 (by kernel_rfl)) (fun _ _ _ h => h) (Or.inl ⟨by rfl, ?_⟩) ?_ ?_
      rotate_left
      · intro w'
        go_simp
        with_reducible rfl
      rotate_left
      · simp only [Act.put, List.setIfInBounds_toArray, List.set_cons_zero, List.set_cons_succ, i64_w, i32_w]
        rfl
      refine last_ (i := 16) (N := none) #[true, true, true, true, true, true, true, true, true, true, true, true, true, true, true, true, true] rfl rfl (one_of (md := .any) (ops := opsOf Tryd.f10 3) F10tab3 (by kernel_rfl)) (by decide) (fun K hK => ?_)
      have k0 : w503.cell? ⟨gq, 0, none⟩ = some (.int .i64 0) := (blk_cell BK.out 0).trans rfl
      have k1 : w503.cell? ⟨gq, 1, none⟩ = some (.bool false) := (blk_cell BK.out 1).trans rfl
      have k2 : w503.cell? ⟨gq, 2, none⟩ = some (.string (⟨#[]⟩ : ByteArray)) := (blk_cell BK.out 2).trans rfl
      have k3 : w503.cell? ⟨gq, 3, none⟩ = some (.string (⟨#[]⟩ : ByteArray)) := (blk_cell BK.out 3).trans rfl
      have k4 : w503.cell? ⟨gq, 4, none⟩ = some (.string (⟨#[]⟩ : ByteArray)) := (blk_cell BK.out 4).trans rfl
      have kf0 := blk_frozen BK.out 0
      have kf1 := blk_frozen BK.out 1
      have kf2 := blk_frozen BK.out 2
      have kf3 := blk_frozen BK.out 3
      have kf4 := blk_frozen BK.out 4
      refine skip_ (w1 := set5 w503 gq (.int .i64 x.f0) (.bool x.f4) (.string x.f1) (.string (⟨#[]⟩ : ByteArray)) (.string ((t5 ++ (⟨#[59]⟩ : ByteArray)) ++ t6))) rfl rfl ?hrun ?_
      case hrun => first | (go_simp; done) | (go_simp; rfl)
      refine hK.out _ _ (done_ (done_of (md := .any) (ops := opsOf Tryd.f10 3) F10tab3 (by kernel_rfl)) ?_)
      go_wp2_with fail
      go_meet
      rw [← NT.out]
      exact ⟨gq, rfl, GQ, ⟨set5_blk BK.out⟩, ⟨(set5_other (blk_ne BX.out BK.out (by decide))).trans BX.out⟩, ⟨IV.out.write (set5_turned rfl) GQ.out (IV.out.hp.away BK.out (by decide) (by decide))⟩⟩
  case rest =>
    clear IV BX hx0 fx0 hx1 fx1 hx2 fx2 hx3 fx3 hx4 fx4 hx5 fx5 hx6 fx6
    obtain ⟨gq, rfl, GQ, BK, BX, IV⟩ := hcut
    have hx2 : wc.cell? ⟨gx, 2, none⟩ = some (.slice A2 x.f2.length c2) := (blk_cell BX.out 2).trans rfl
    have hlb : (x.f2.length : Int) ≤ 1000000 := by have := HL2.out; omega
    go_wp2_with fail
    clear hx2
    go_loopg [6, 32] x.f2.length (fun k' v6 v32 wr => ∃ (i : Nat) (o1 : ByteArray) (s1 : Int) (ks1 : List K5) (zs1 : List Int) (v1 : Value), v6 = .int .i64 s1 ∧ v32 = .int .i64 i ∧ i ≤ x.f2.length ∧ Aside0 (k' + i = x.f2.length) ∧ Aside0 (putL (x.f2.take i) ⟨E0, 1, ks, zs⟩ = ⟨o1, s1, ks1, zs1⟩) ∧ Aside0 (wr.heap[gq]? = some (.cells #[.int .i64 x.f0, .bool x.f4, .string x.f1, .string o1, .string nt] 45 (0, 0))) ∧ Aside0 (wr.heap[gx]? = some (.cells #[.int .i64 x.f0, .string x.f1, .slice A2 x.f2.length c2, .bool x.f3, .bool x.f4, .slice A5 x.f5.length c5, .slice A6 x.f6.length c6] 32 (0, 0))) ∧ Aside0 (PI w wr base ga gm v v1 ks1 zs1))
    case atStart => exact ⟨0, E0, 1, ks, zs, v, rfl, rfl, Nat.zero_le _, ⟨rfl⟩, ⟨rfl⟩, BK, BX, IV⟩
    case round =>
      clear IV BX BK
      obtain ⟨i, o1, s1, ks1, zs1, v1, rfl, rfl, hi, HK, PL, BK, BX, IV⟩ := hrel
      by_cases hlt : i < x.f2.length
      · obtain ⟨y, hy⟩ : ∃ y, y = x.f2[i] := ⟨_, rfl⟩
        have YM : Aside0 (y ∈ x.f2) := ⟨by rw [hy]; exact List.getElem_mem hlt⟩
        obtain ⟨ad, Y2, e2, Y5, e5, Y6, e6, eA, ny, hy0, hy1, hy2, hy3, hy4, hy5, hy6⟩ := elemF (HX.out.turn IV.out.ht HOS.out).g2 i y (by rw [hy, List.getElem?_eq_getElem hlt])
        subst eA
        have NY := Aside0.mk ny
        obtain ⟨⟨id, ks2, zs2⟩, hpv⟩ : ∃ r, putV y ks1 zs1 = r := ⟨_, rfl⟩
        have PV := Aside0.mk hpv
        have PB := Aside0.mk (part_bounds x i hlt ks zs HP.out.hl HN.out HL2.out o1 s1 ks1 zs1 PL.out y hy id ks2 zs2 hpv)
        have NB := Aside0.mk PB.out.1
        obtain ⟨u, hu⟩ : ∃ u, u = itoaB id := ⟨_, rfl⟩
        have HU := Aside0.mk hu
        have CC : Aside0 (¬ (9223372036854775807 < o1.size + u.size)) := ⟨by have := PB.out; rw [← hu] at this; omega⟩
        have CD : Aside0 (¬ (9223372036854775807 < o1.size + u.size + 1)) := ⟨by have := PB.out; rw [← hu] at this; omega⟩
        have HI : Aside0 (-9223372036854775808 ≤ id ∧ id ≤ 9223372036854775807) := ⟨by have := PB.out; omega⟩
        have HW : Aside0 (wrap64 ((i : Int) + 1) = (i : Int) + 1) := ⟨by have := HL2.out; unfold wrap64; omega⟩
        clear ny hpv hu hy
        go_upto_region 9 with (first | ((with_reducible refine gate_dst (N := 8) rfl ?_); (try (refine gate_guard (by rfl) ?_; dsimp only)); refine box_event ?hg (N := 8) ?hd (cs := #[.int .i64 0, .string (⟨#[]⟩ : ByteArray), .slice none 0 0, .bool false, .bool false, .slice none 0 0, .slice none 0 0]) (t := 32) ?hr ?_; (case hd => rfl); (case hg => rfl); (case hr => first | (go_simp; done) | (go_simp; rfl)); intro gy hg w7 hbox hb; have n0 := Aside0.mk (IV.out.below hb); have n1 := Aside0.mk (blk_below BK.out hb); have n2 := Aside0.mk (blk_below BX.out hb); have n3 := Aside0.mk (NY.out.below hb); have BY := Aside0.mk hbox; have GY := Aside0.mk (show w.heap.size ≤ gy from by rw [hg]; exact IV.out.ht.size); have XY := Aside0.mk (show gx ≠ gy from by rw [hg]; exact Nat.ne_of_lt (blk_lt BX.out)); clear IV BK BX NY; have IV := n0; have BK := n1; have BX := n2; have NY := n3; clear n0 n1 n2 n3 hb hg hbox; clear hy0 hy1 hy2 hy3 hy4 hy5 hy6; have hz0 : w7.cell? ⟨gy, 0, none⟩ = some (.int .i64 0) := (blk_cell BY.out 0).trans rfl; have fz0 := blk_frozen BY.out 0; have hz1 : w7.cell? ⟨gy, 1, none⟩ = some (.string (⟨#[]⟩ : ByteArray)) := (blk_cell BY.out 1).trans rfl; have fz1 := blk_frozen BY.out 1; have hz2 : w7.cell? ⟨gy, 2, none⟩ = some (.slice none 0 0) := (blk_cell BY.out 2).trans rfl; have fz2 := blk_frozen BY.out 2; have hz3 : w7.cell? ⟨gy, 3, none⟩ = some (.bool false) := (blk_cell BY.out 3).trans rfl; have fz3 := blk_frozen BY.out 3; have hz4 : w7.cell? ⟨gy, 4, none⟩ = some (.bool false) := (blk_cell BY.out 4).trans rfl; have fz4 := blk_frozen BY.out 4; have hz5 : w7.cell? ⟨gy, 5, none⟩ = some (.slice none 0 0) := (blk_cell BY.out 5).trans rfl; have fz5 := blk_frozen BY.out 5; have hz6 : w7.cell? ⟨gy, 6, none⟩ = some (.slice none 0 0) := (blk_cell BY.out 6).trans rfl; have fz6 := blk_frozen BY.out 6) | ((with_reducible refine gate_store (t := 32) (p := 8) rfl ?_); refine store_event (t := 32) (p := 8) (v := ?vo) (w1 := set7 w7 gy (.int .i64 y.f0) (.string y.f1) (.slice Y2 y.f2.length e2) (.bool y.f3) (.bool y.f4) (.slice Y5 y.f5.length e5) (.slice Y6 y.f6.length e6)) ?hg ?ho ?hn ?hr ?_; (case ho => rfl); (case hg => rfl); (case hn => rfl); (case hr => first | (go_simp; done) | (go_simp; rfl)); intro w8 hw; have tt := Aside0.mk (show Turned w7 w8 (fun k => k = gy) from by rw [hw]; exact set7_turned rfl); have n0 := Aside0.mk (IV.out.write tt.out GY.out (IV.out.hp.away BY.out (by decide) (by decide))); have n1 := Aside0.mk ((tt.out.block gq (blk_lt BK.out) (blk_ne BK.out BY.out (by decide))).trans BK.out); have n2 := Aside0.mk ((tt.out.block gx (blk_lt BX.out) XY.out).trans BX.out); have n3 := Aside0.mk (NY.out.step (fun k hk => tt.out.block k (IV.out.okS HOS.out k hk).1 (fun e => by have h1 := (HOS.out k hk).1; rw [e] at h1; have h2 := GY.out; omega))); have n4 := Aside0.mk (show w8.heap[gy]? = some (.cells #[.int .i64 y.f0, .string y.f1, .slice Y2 y.f2.length e2, .bool y.f3, .bool y.f4, .slice Y5 y.f5.length e5, .slice Y6 y.f6.length e6] 32 (0, 0)) from by rw [hw]; exact set7_blk BY.out); clear IV BK BX NY BY tt hw hz0 fz0 hz1 fz1 hz2 fz2 hz3 fz3 hz4 fz4 hz5 fz5 hz6 fz6; have IV := n0; have BK := n1; have BX := n2; have NY := n3; have BY := n4; clear n0 n1 n2 n3 n4; have hy0 : w8.cell? ⟨gy, 0, none⟩ = some (.int .i64 y.f0) := (blk_cell BY.out 0).trans rfl; have fy0 := blk_frozen BY.out 0; have hy1 : w8.cell? ⟨gy, 1, none⟩ = some (.string y.f1) := (blk_cell BY.out 1).trans rfl; have fy1 := blk_frozen BY.out 1; have hy2 : w8.cell? ⟨gy, 2, none⟩ = some (.slice Y2 y.f2.length e2) := (blk_cell BY.out 2).trans rfl; have fy2 := blk_frozen BY.out 2; have hy3 : w8.cell? ⟨gy, 3, none⟩ = some (.bool y.f3) := (blk_cell BY.out 3).trans rfl; have fy3 := blk_frozen BY.out 3; have hy4 : w8.cell? ⟨gy, 4, none⟩ = some (.bool y.f4) := (blk_cell BY.out 4).trans rfl; have fy4 := blk_frozen BY.out 4; have hy5 : w8.cell? ⟨gy, 5, none⟩ = some (.slice Y5 y.f5.length e5) := (blk_cell BY.out 5).trans rfl; have fy5 := blk_frozen BY.out 5; have hy6 : w8.cell? ⟨gy, 6, none⟩ = some (.slice Y6 y.f6.length e6) := (blk_cell BY.out 6).trans rfl; have fy6 := blk_frozen BY.out 6) | ((with_reducible refine gate_dst (N := 38) rfl ?_); refine goesL_ (some 38) rfl rfl Tryd.func10 (by kernel_rfl) rfl #[.pointer (some ⟨ga, 0, none⟩), .agg #[.int .i64 y.f0, .string y.f1, .slice Y2 y.f2.length e2, .bool y.f3, .bool y.f4, .slice Y5 y.f5.length e5, .slice Y6 y.f6.length e6]] rfl (by (try simp only [List.map_toArray, List.map_cons, List.map_nil]); first | done | rfl) ?_; (refine (putC_of (IH.out y YM.out _ _ _ _ _ _ v1 ks1 zs1 _ NY.out (IV.out.okS HOS.out) IV.out.hp (HT.out.on (IV.out.base_below HP.out)) NB.out) PV.out).mono ?_); (rintro e w9 ⟨v2, rfl, hp2, ht2, ho2⟩; refine ⟨_, rfl, ?_⟩; have n1 := Aside0.mk (turned_blk BK.out IV.out.hp ht2 (by decide) (by decide)); have n2 := Aside0.mk (turned_blk BX.out IV.out.hp ht2 (by decide) (by decide)); have n0 := Aside0.mk (IV.out.call hp2 ht2 ho2); clear IV BK BX NY BY hp2 ht2 ho2 hy0 hy1 hy2 hy3 hy4 hy5 hy6 fy0 fy1 fy2 fy3 fy4 fy5 fy6; have IV := n0; have BK := n1; have BX := n2; clear n0 n1 n2)))
        have n0 := Aside0.mk (IV.out.below (below_drew1 (Below.refl _ _)))
        have n1 := Aside0.mk (blk_below BX.out (below_drew1 (Below.refl _ _)))
        have n2 := Aside0.mk (blk_below BK.out (below_drew1 (Below.refl _ _)))
        clear IV BX BK
        have IV := n0
        have BX := n1
        have BK := n2
        clear n0 n1 n2
        refine start_ (n := 8) (S := fun w' => w'.cell? ⟨gq, 3, none⟩ = some (.string o1) ∧ True) (ds := [7]) #[false, false, false, false, false, false, false, false] (by kernel_rfl) rfl rfl (⟨(blk_cell BK.out 3).trans rfl, trivial⟩) (fun hHeld => ?_)
        generalize World.drew _ = w600 at IV BX BK hHeld ⊢
        refine pure_ (i := 0) (N := some 39) (v := ?_) (a' := ?_) #[true, false, false, false, false, false, false, false] rfl rfl (any_of (md := .any) (ops := opsOf Tryd.f10 9) F10tab9 (by kernel_rfl)) (fun _ _ _ h => h) (Or.inl ⟨by rfl, ?_⟩) ?_ ?_
        rotate_left
        · intro w'
          go_simp
          with_reducible rfl
        rotate_left
        · simp only [Act.put, List.setIfInBounds_toArray, List.set_cons_zero, List.set_cons_succ, i64_w, i32_w]
          rfl
        refine take_ (i := 1) (N := some 40) (v := ?_) (a' := ?_) #[true, true, false, false, false, false, false, false] rfl rfl (take_of (md := .any) (ops := opsOf Tryd.f10 9) F10tab9 (by kernel_rfl)) (fun _ _ _ h => h) (Or.inl ⟨by rfl, ?_⟩) hHeld ?_ ?_
        rotate_left
        · rintro w' ⟨s0, s1⟩
          go_simp
          with_reducible rfl
        rotate_left
        · simp only [Act.put, List.setIfInBounds_toArray, List.set_cons_zero, List.set_cons_succ, i64_w, i32_w]
          rfl
        refine pure_ (i := 2) (N := some 41) (v := ?_) (a' := ?_) #[true, true, true, false, false, false, false, false] rfl rfl (any_of (md := .any) (ops := opsOf Tryd.f10 9) F10tab9 (by kernel_rfl)) (fun _ _ _ h => h) (Or.inl ⟨by rfl, ?_⟩) ?_ ?_
        rotate_left
        · intro w'
          go_simp
          with_reducible rfl
        rotate_left
        · simp only [Act.put, List.setIfInBounds_toArray, List.set_cons_zero, List.set_cons_succ, i64_w, i32_w]
          rfl
        refine one_ (i := 3) (N := some 42) #[true, true, true, true, false, false, false, false] rfl rfl (one_of (md := .any) (ops := opsOf Tryd.f10 9) F10tab9 (by kernel_rfl)) (by decide) (fun K hK => ?_)
        refine goes_ Tryd.func17 (by kernel_rfl) rfl #[.int .i64 id] (by rfl) rfl rfl (by (try simp only [List.map_toArray, List.map_cons, List.map_nil]); first | done | rfl) ?_
        refine ((HT.out.on (IV.out.base_below HP.out)).here id HI.out.1 HI.out.2).mono ?_
        rintro e w601 ⟨rfl, hb⟩
        refine ⟨_, rfl, ?_⟩
        rw [← HU.out]; have n0 := Aside0.mk (IV.out.below hb); have n1 := Aside0.mk (blk_below BX.out hb); clear IV BX; have IV := n0; have BX := n1; clear n0 n1; have n2 := Aside0.mk (blk_below BK.out hb); clear BK; have BK := n2; clear n2; clear hb
        refine hK.out _ _ (⟨(blk_cell BK.out 3).trans rfl, trivial⟩) (fun hHeld => ?_)
        clear hK K
        refine norm_ (a' := ?_) ?_ ?_
        rotate_left
        · show Act.put _ (some 42) _ = _
          simp only [Act.put, List.setIfInBounds_toArray, List.set_cons_zero, List.set_cons_succ, i64_w, i32_w]
          rfl
        refine pure_ (i := 4) (N := some 43) (v := ?_) (a' := ?_) #[true, true, true, true, true, false, false, false] rfl rfl (any_of (md := .any) (ops := opsOf Tryd.f10 9) F10tab9 (by kernel_rfl)) (fun _ _ _ h => h) (Or.inl ⟨by rfl, ?_⟩) ?_ ?_
        rotate_left
        · intro w'
          go_simp
          rw [if_neg CC.out]
        rotate_left
        · simp only [Act.put, List.setIfInBounds_toArray, List.set_cons_zero, List.set_cons_succ, i64_w, i32_w]
          rfl
        refine pure_ (i := 5) (N := some 44) (v := ?_) (a' := ?_) #[true, true, true, true, true, true, false, false] rfl rfl (any_of (md := .any) (ops := opsOf Tryd.f10 9) F10tab9 (by kernel_rfl)) (fun _ _ _ h => h) (Or.inl ⟨by rfl, ?_⟩) ?_ ?_
        rotate_left
        · intro w'
          go_simp
          rw [if_neg CD.out]
        rotate_left
        · simp only [Act.put, List.setIfInBounds_toArray, List.set_cons_zero, List.set_cons_succ, i64_w, i32_w]
          rfl
        refine pure_ (i := 6) (N := some 45) (v := ?_) (a' := ?_) #[true, true, true, true, true, true, true, false] rfl rfl (any_of (md := .any) (ops := opsOf Tryd.f10 9) F10tab9 (by kernel_rfl)) (fun _ _ _ h => h) (Or.inl ⟨by rfl, ?_⟩) ?_ ?_
        rotate_left
        · intro w'
          go_simp
          with_reducible rfl
        rotate_left
        · simp only [Act.put, List.setIfInBounds_toArray, List.set_cons_zero, List.set_cons_succ, i64_w, i32_w]
          rfl
        refine last_ (i := 7) (N := none) #[true, true, true, true, true, true, true, true] rfl rfl (one_of (md := .any) (ops := opsOf Tryd.f10 9) F10tab9 (by kernel_rfl)) (by decide) (fun K hK => ?_)
        have k3 : w601.cell? ⟨gq, 3, none⟩ = some (.string o1) := (blk_cell BK.out 3).trans rfl
        have kf3 := blk_frozen BK.out 3
        refine skip_ (w1 := w601.setCell ⟨gq, 3, none⟩ (.string ((o1 ++ u) ++ (⟨#[44]⟩ : ByteArray)))) rfl rfl ?hrun ?_
        case hrun => first | (go_simp; done) | (go_simp; rfl)
        refine hK.out _ _ (done_ (done_of (md := .any) (ops := opsOf Tryd.f10 9) F10tab9 (by kernel_rfl)) ?_)
        have n0 := Aside0.mk (IV.out.write (setCell_turned (g := gq) (j := 3) (u := .string ((o1 ++ u) ++ (⟨#[44]⟩ : ByteArray))) rfl) GQ.out (IV.out.hp.away BK.out (by decide) (by decide)))
        have n1 := Aside0.mk (blk_put BK.out 3 (.string ((o1 ++ u) ++ (⟨#[44]⟩ : ByteArray))) (cs' := #[.int .i64 x.f0, .bool x.f4, .string x.f1, .string ((o1 ++ u) ++ (⟨#[44]⟩ : ByteArray)), .string nt]) rfl)
        have n2 := Aside0.mk (blk_far BX.out (p := ⟨gq, 3, none⟩) (blk_ne BX.out BK.out (by decide)) (.string ((o1 ++ u) ++ (⟨#[44]⟩ : ByteArray))))
        clear IV BK BX k3 kf3 hHeld hK K
        have IV := n0
        have BK := n1
        have BX := n2
        clear n0 n1 n2
        generalize World.setCell _ _ _ = w700 at IV BK BX ⊢
        obtain ⟨A7, c7, ev7⟩ := Kd.R_slice IV.out.hp.pz
        have hpa7 := IV.out.hp.pa
        have hpz7 := IV.out.hp.pz
        rw [ev7] at hpa7 hpz7
        have q7 : w700.cell? ⟨ga, 1, none⟩ = some (.slice A7 zs2.length c7) := (blk_cell hpa7 1).trans rfl
        obtain ⟨j, hj⟩ : ∃ j : Nat, id = (j : Int) + 1 := ⟨(id - 1).toNat, by have := PB.out; omega⟩
        have hjl : j < zs2.length := by have := PB.out; omega
        obtain ⟨ad7, ea7, hc7⟩ := int_at (Kd.R_reads' hpz7).2.2 j hjl
        subst ea7
        have hw7 : wrap64 (id - 1) = (j : Int) := by have := PB.out; unfold wrap64; omega
        obtain ⟨z7, hz7⟩ : ∃ z, z = zs2[j] := ⟨_, rfl⟩
        rw [← hz7] at hc7
        have SZ := Aside0.mk (szAt_eq hj hjl hz7)
        have HWo := HW.out
        clear ev7 hpa7 hpz7 hj hz7
        go_wp2_with fail
        go_roundg (x.f2.length - (i + 1))
        case measure => have := HK.out; omega
        case rel => exact ⟨i + 1, ((o1 ++ u) ++ (⟨#[44]⟩ : ByteArray)), wrap64 (s1 + z7), ks2, zs2, v2, rfl, by simp, by omega, ⟨by have := HK.out; omega⟩, ⟨by rw [PB.out.2.2.2.2.2.2.2, SZ.out, HU.out]⟩, BK, BX, IV⟩
      · obtain rfl : i = x.f2.length := by omega
        rw [List.take_length] at PL
        obtain ⟨kk, hkk⟩ : ∃ k, k = keyV x o1 := ⟨_, rfl⟩
        have KKE := Aside0.mk (show kk = (⟨x.f0, x.f4, x.f1, o1, nt⟩ : K5) from by rw [hkk, NT.out, T5.out, T6.out]; rfl)
        go_upto_region 12 with (fail)
        have n0 := Aside0.mk (IV.out.below (below_drew1 (Below.refl _ _)))
        have n2 := Aside0.mk (blk_below BK.out (below_drew1 (Below.refl _ _)))
        clear IV BX BK
        have IV := n0
        have BK := n2
        clear n0 n2
        cases hix : idxOf kk ks1 0 with
        | some j =>
          have PE := Aside0.mk (show putV x ks zs = (((j + 1 : Nat) : Int), ks1, zs1) from by rw [putV_eq, PL.out]; show putEnd x ⟨o1, s1, ks1, zs1⟩ = _; unfold putEnd; simp only; rw [← hkk, hix])
          have LK : Aside0 (∀ w', MapAt w' gm ks1 → (Instr.lookup 38 (.map (some gm)) (.agg #[.int .i64 x.f0, .bool x.f4, .string x.f1, .string o1, .string nt]) true).run Tryd.prog w' = .ok (.tuple #[.int .i64 ((j + 1 : Nat) : Int), .bool true]) w') := ⟨fun w' h => by have h1 := run_look h kk; rw [KKE.out] at h1; have h2 : lookV ⟨x.f0, x.f4, x.f1, o1, nt⟩ ks1 = .tuple #[.int .i64 ((j + 1 : Nat) : Int), .bool true] := (by rw [← KKE.out]; unfold lookV; rw [hix]); rw [h2] at h1; exact h1⟩
          clear hkk hix
          refine start_ (n := 11) (S := fun w' => w'.cell? ⟨ga, 0, none⟩ = some (.map (some gm)) ∧ w'.cell? ⟨gq, 0, none⟩ = some (.int .i64 x.f0) ∧ w'.cell? ⟨gq, 1, none⟩ = some (.bool x.f4) ∧ w'.cell? ⟨gq, 2, none⟩ = some (.string x.f1) ∧ w'.cell? ⟨gq, 3, none⟩ = some (.string o1) ∧ w'.cell? ⟨gq, 4, none⟩ = some (.string nt) ∧ (Instr.lookup 38 (.map (some gm)) (.agg #[.int .i64 x.f0, .bool x.f4, .string x.f1, .string o1, .string nt]) true).run Tryd.prog w' = .ok (.tuple #[.int .i64 ((j + 1 : Nat) : Int), .bool true]) w' ∧ True) (ds := []) #[false, false, false, false, false, false, false, false, false, false, false] (by kernel_rfl) rfl rfl (⟨(blk_cell IV.out.hp.pa 0).trans rfl, (blk_cell BK.out 0).trans rfl, (blk_cell BK.out 1).trans rfl, (blk_cell BK.out 2).trans rfl, (blk_cell BK.out 3).trans rfl, (blk_cell BK.out 4).trans rfl, LK.out _ IV.out.hp.pm, trivial⟩) (fun hHeld => ?_)
          generalize World.drew _ = w800 at IV BK hHeld ⊢
          refine pure_ (i := 0) (N := some 58) (v := ?_) (a' := ?_) #[true, false, false, false, false, false, false, false, false, false, false] rfl rfl (any_of (md := .any) (ops := opsOf Tryd.f10 12) F10tab12 (by kernel_rfl)) (fun _ _ _ h => h) (Or.inl ⟨by rfl, ?_⟩) ?_ ?_
          rotate_left
          · intro w'
            go_simp
            with_reducible rfl
          rotate_left
          · simp only [Act.put, List.setIfInBounds_toArray, List.set_cons_zero, List.set_cons_succ, i64_w, i32_w]
            rfl
          refine pure_ (i := 1) (N := some 59) (v := ?_) (a' := ?_) #[true, true, false, false, false, false, false, false, false, false, false] rfl rfl (any_of (md := .any) (ops := opsOf Tryd.f10 12) F10tab12 (by kernel_rfl)) (fun _ _ _ h => h) (Or.inl ⟨by rfl, ?_⟩) ?_ ?_
          rotate_left
          · intro w'
            go_simp
            with_reducible rfl
          rotate_left
          · simp only [Act.put, List.setIfInBounds_toArray, List.set_cons_zero, List.set_cons_succ, i64_w, i32_w]
            rfl
          refine pure_ (i := 2) (N := some 60) (v := ?_) (a' := ?_) #[true, true, true, false, false, false, false, false, false, false, false] rfl rfl (any_of (md := .any) (ops := opsOf Tryd.f10 12) F10tab12 (by kernel_rfl)) (fun _ _ _ h => h) (Or.inl ⟨by rfl, ?_⟩) ?_ ?_
          rotate_left
          · intro w'
            go_simp
            with_reducible rfl
          rotate_left
          · simp only [Act.put, List.setIfInBounds_toArray, List.set_cons_zero, List.set_cons_succ, i64_w, i32_w]
            rfl
          refine take_ (i := 3) (N := some 61) (v := ?_) (a' := ?_) #[true, true, true, true, false, false, false, false, false, false, false] rfl rfl (take_of (md := .any) (ops := opsOf Tryd.f10 12) F10tab12 (by kernel_rfl)) (fun _ _ _ h => h) (Or.inl ⟨by rfl, ?_⟩) hHeld ?_ ?_
          rotate_left
          · rintro w' ⟨s0, s1, s2, s3, s4, s5, s6, s7⟩
            go_simp
            with_reducible rfl
          rotate_left
          · simp only [Act.put, List.setIfInBounds_toArray, List.set_cons_zero, List.set_cons_succ, i64_w, i32_w]
            rfl
          refine take_ (i := 4) (N := some 62) (v := ?_) (a' := ?_) #[true, true, true, true, true, false, false, false, false, false, false] rfl rfl (take_of (md := .any) (ops := opsOf Tryd.f10 12) F10tab12 (by kernel_rfl)) (fun _ _ _ h => h) (Or.inl ⟨by rfl, ?_⟩) hHeld ?_ ?_
          rotate_left
          · rintro w' ⟨s0, s1, s2, s3, s4, s5, s6, s7⟩
            go_simp
            with_reducible rfl
          rotate_left
          · simp only [Act.put, List.setIfInBounds_toArray, List.set_cons_zero, List.set_cons_succ, i64_w, i32_w]
            rfl
          refine take_ (i := 5) (N := some 63) (v := ?_) (a' := ?_) #[true, true, true, true, true, true, false, false, false, false, false] rfl rfl (take_of (md := .any) (ops := opsOf Tryd.f10 12) F10tab12 (by kernel_rfl)) (fun _ _ _ h => h) (Or.inl ⟨by rfl, ?_⟩) hHeld ?_ ?_
          rotate_left
          · rintro w' ⟨s0, s1, s2, s3, s4, s5, s6, s7⟩
            go_simp
            with_reducible rfl
          rotate_left
          · simp only [Act.put, List.setIfInBounds_toArray, List.set_cons_zero, List.set_cons_succ, i64_w, i32_w]
            rfl
          refine pure_ (i := 6) (N := some 57) (v := ?_) (a' := ?_) #[true, true, true, true, true, true, true, false, false, false, false] rfl rfl (any_of (md := .any) (ops := opsOf Tryd.f10 12) F10tab12 (by kernel_rfl)) (fun _ _ _ h => h) (Or.inl ⟨by rfl, ?_⟩) ?_ ?_
          rotate_left
          · intro w'
            go_simp
            with_reducible rfl
          rotate_left
          · simp only [Act.put, List.setIfInBounds_toArray, List.set_cons_zero, List.set_cons_succ, i64_w, i32_w]
            rfl
          refine pure_ (i := 7) (N := some 64) (v := ?_) (a' := ?_) #[true, true, true, true, true, true, true, true, false, false, false] rfl rfl (any_of (md := .any) (ops := opsOf Tryd.f10 12) F10tab12 (by kernel_rfl)) (fun _ _ _ h => h) (Or.inl ⟨by rfl, ?_⟩) ?_ ?_
          rotate_left
          · intro w'
            go_simp
            with_reducible rfl
          rotate_left
          · simp only [Act.put, List.setIfInBounds_toArray, List.set_cons_zero, List.set_cons_succ, i64_w, i32_w]
            rfl
          refine pure_ (i := 8) (N := some 65) (v := ?_) (a' := ?_) #[true, true, true, true, true, true, true, true, true, false, false] rfl rfl (any_of (md := .any) (ops := opsOf Tryd.f10 12) F10tab12 (by kernel_rfl)) (fun _ _ _ h => h) (Or.inl ⟨by rfl, ?_⟩) ?_ ?_
          rotate_left
          · intro w'
            go_simp
            with_reducible rfl
          rotate_left
          · simp only [Act.put, List.setIfInBounds_toArray, List.set_cons_zero, List.set_cons_succ, i64_w, i32_w]
            rfl
          refine pure_ (i := 9) (N := some 10) (v := ?_) (a' := ?_) #[true, true, true, true, true, true, true, true, true, true, false] rfl rfl (any_of (md := .any) (ops := opsOf Tryd.f10 12) F10tab12 (by kernel_rfl)) (fun _ _ _ h => h) (Or.inl ⟨by rfl, ?_⟩) ?_ ?_
          rotate_left
          · intro w'
            go_simp
            with_reducible rfl
          rotate_left
          · simp only [Act.put, List.setIfInBounds_toArray, List.set_cons_zero, List.set_cons_succ, i64_w, i32_w]
            rfl
          refine pure_ (i := 10) (N := some 11) (v := ?_) (a' := ?_) #[true, true, true, true, true, true, true, true, true, true, true] rfl rfl (any_of (md := .any) (ops := opsOf Tryd.f10 12) F10tab12 (by kernel_rfl)) (fun _ _ _ h => h) (Or.inl ⟨by rfl, ?_⟩) ?_ ?_
          rotate_left
          · intro w'
            go_simp
            with_reducible rfl
          rotate_left
          · simp only [Act.put, List.setIfInBounds_toArray, List.set_cons_zero, List.set_cons_succ, i64_w, i32_w]
            rfl
          refine done_ (done_of (md := .any) (ops := opsOf Tryd.f10 12) F10tab12 (by kernel_rfl)) ?_
          clear hHeld
          go_wp2_with fail
          go_ret
          exact ⟨v1, by rw [PE.out]; rfl, by rw [PE.out]; exact IV.out.hp, IV.out.ht, IV.out.ho⟩
        | none =>
          have PE := Aside0.mk (show putV x ks zs = (((ks1.length + 1 : Nat) : Int), ks1 ++ [kk], zs1 ++ [s1]) from by rw [putV_eq, PL.out]; show putEnd x ⟨o1, s1, ks1, zs1⟩ = _; unfold putEnd; simp only; rw [← hkk, hix])
          have LK : Aside0 (∀ w', MapAt w' gm ks1 → (Instr.lookup 38 (.map (some gm)) (.agg #[.int .i64 x.f0, .bool x.f4, .string x.f1, .string o1, .string nt]) true).run Tryd.prog w' = .ok (.tuple #[.int .i64 0, .bool false]) w') := ⟨fun w' h => by have h1 := run_look h kk; rw [KKE.out] at h1; have h2 : lookV ⟨x.f0, x.f4, x.f1, o1, nt⟩ ks1 = .tuple #[.int .i64 0, .bool false] := (by rw [← KKE.out]; unfold lookV; rw [hix]); rw [h2] at h1; exact h1⟩
          have NX := Aside0.mk hix
          have GL := Aside0.mk (putL_good x.f2 ⟨E0, 1, ks, zs⟩ HP.out.hl)
          rw [PL.out] at GL
          clear hkk hix
          refine start_ (n := 11) (S := fun w' => w'.cell? ⟨ga, 0, none⟩ = some (.map (some gm)) ∧ w'.cell? ⟨gq, 0, none⟩ = some (.int .i64 x.f0) ∧ w'.cell? ⟨gq, 1, none⟩ = some (.bool x.f4) ∧ w'.cell? ⟨gq, 2, none⟩ = some (.string x.f1) ∧ w'.cell? ⟨gq, 3, none⟩ = some (.string o1) ∧ w'.cell? ⟨gq, 4, none⟩ = some (.string nt) ∧ (Instr.lookup 38 (.map (some gm)) (.agg #[.int .i64 x.f0, .bool x.f4, .string x.f1, .string o1, .string nt]) true).run Tryd.prog w' = .ok (.tuple #[.int .i64 0, .bool false]) w' ∧ True) (ds := []) #[false, false, false, false, false, false, false, false, false, false, false] (by kernel_rfl) rfl rfl (⟨(blk_cell IV.out.hp.pa 0).trans rfl, (blk_cell BK.out 0).trans rfl, (blk_cell BK.out 1).trans rfl, (blk_cell BK.out 2).trans rfl, (blk_cell BK.out 3).trans rfl, (blk_cell BK.out 4).trans rfl, LK.out _ IV.out.hp.pm, trivial⟩) (fun hHeld => ?_)
          generalize World.drew _ = w800 at IV BK hHeld ⊢
          refine pure_ (i := 0) (N := some 58) (v := ?_) (a' := ?_) #[true, false, false, false, false, false, false, false, false, false, false] rfl rfl (any_of (md := .any) (ops := opsOf Tryd.f10 12) F10tab12 (by kernel_rfl)) (fun _ _ _ h => h) (Or.inl ⟨by rfl, ?_⟩) ?_ ?_
          rotate_left
          · intro w'
            go_simp
            with_reducible rfl
          rotate_left
          · simp only [Act.put, List.setIfInBounds_toArray, List.set_cons_zero, List.set_cons_succ, i64_w, i32_w]
            rfl
          refine pure_ (i := 1) (N := some 59) (v := ?_) (a' := ?_) #[true, true, false, false, false, false, false, false, false, false, false] rfl rfl (any_of (md := .any) (ops := opsOf Tryd.f10 12) F10tab12 (by kernel_rfl)) (fun _ _ _ h => h) (Or.inl ⟨by rfl, ?_⟩) ?_ ?_
          rotate_left
          · intro w'
            go_simp
            with_reducible rfl
          rotate_left
          · simp only [Act.put, List.setIfInBounds_toArray, List.set_cons_zero, List.set_cons_succ, i64_w, i32_w]
            rfl
          refine pure_ (i := 2) (N := some 60) (v := ?_) (a' := ?_) #[true, true, true, false, false, false, false, false, false, false, false] rfl rfl (any_of (md := .any) (ops := opsOf Tryd.f10 12) F10tab12 (by kernel_rfl)) (fun _ _ _ h => h) (Or.inl ⟨by rfl, ?_⟩) ?_ ?_
          rotate_left
          · intro w'
            go_simp
            with_reducible rfl
          rotate_left
          · simp only [Act.put, List.setIfInBounds_toArray, List.set_cons_zero, List.set_cons_succ, i64_w, i32_w]
            rfl
          refine take_ (i := 3) (N := some 61) (v := ?_) (a' := ?_) #[true, true, true, true, false, false, false, false, false, false, false] rfl rfl (take_of (md := .any) (ops := opsOf Tryd.f10 12) F10tab12 (by kernel_rfl)) (fun _ _ _ h => h) (Or.inl ⟨by rfl, ?_⟩) hHeld ?_ ?_
          rotate_left
          · rintro w' ⟨s0, s1, s2, s3, s4, s5, s6, s7⟩
            go_simp
            with_reducible rfl
          rotate_left
          · simp only [Act.put, List.setIfInBounds_toArray, List.set_cons_zero, List.set_cons_succ, i64_w, i32_w]
            rfl
          refine take_ (i := 4) (N := some 62) (v := ?_) (a' := ?_) #[true, true, true, true, true, false, false, false, false, false, false] rfl rfl (take_of (md := .any) (ops := opsOf Tryd.f10 12) F10tab12 (by kernel_rfl)) (fun _ _ _ h => h) (Or.inl ⟨by rfl, ?_⟩) hHeld ?_ ?_
          rotate_left
          · rintro w' ⟨s0, s1, s2, s3, s4, s5, s6, s7⟩
            go_simp
            with_reducible rfl
          rotate_left
          · simp only [Act.put, List.setIfInBounds_toArray, List.set_cons_zero, List.set_cons_succ, i64_w, i32_w]
            rfl
          refine take_ (i := 5) (N := some 63) (v := ?_) (a' := ?_) #[true, true, true, true, true, true, false, false, false, false, false] rfl rfl (take_of (md := .any) (ops := opsOf Tryd.f10 12) F10tab12 (by kernel_rfl)) (fun _ _ _ h => h) (Or.inl ⟨by rfl, ?_⟩) hHeld ?_ ?_
          rotate_left
          · rintro w' ⟨s0, s1, s2, s3, s4, s5, s6, s7⟩
            go_simp
            with_reducible rfl
          rotate_left
          · simp only [Act.put, List.setIfInBounds_toArray, List.set_cons_zero, List.set_cons_succ, i64_w, i32_w]
            rfl
          refine pure_ (i := 6) (N := some 57) (v := ?_) (a' := ?_) #[true, true, true, true, true, true, true, false, false, false, false] rfl rfl (any_of (md := .any) (ops := opsOf Tryd.f10 12) F10tab12 (by kernel_rfl)) (fun _ _ _ h => h) (Or.inl ⟨by rfl, ?_⟩) ?_ ?_
          rotate_left
          · intro w'
            go_simp
            with_reducible rfl
          rotate_left
          · simp only [Act.put, List.setIfInBounds_toArray, List.set_cons_zero, List.set_cons_succ, i64_w, i32_w]
            rfl
          refine pure_ (i := 7) (N := some 64) (v := ?_) (a' := ?_) #[true, true, true, true, true, true, true, true, false, false, false] rfl rfl (any_of (md := .any) (ops := opsOf Tryd.f10 12) F10tab12 (by kernel_rfl)) (fun _ _ _ h => h) (Or.inl ⟨by rfl, ?_⟩) ?_ ?_
          rotate_left
          · intro w'
            go_simp
            with_reducible rfl
          rotate_left
          · simp only [Act.put, List.setIfInBounds_toArray, List.set_cons_zero, List.set_cons_succ, i64_w, i32_w]
            rfl
          refine pure_ (i := 8) (N := some 65) (v := ?_) (a' := ?_) #[true, true, true, true, true, true, true, true, true, false, false] rfl rfl (any_of (md := .any) (ops := opsOf Tryd.f10 12) F10tab12 (by kernel_rfl)) (fun _ _ _ h => h) (Or.inl ⟨by rfl, ?_⟩) ?_ ?_
          rotate_left
          · intro w'
            go_simp
            with_reducible rfl
          rotate_left
          · simp only [Act.put, List.setIfInBounds_toArray, List.set_cons_zero, List.set_cons_succ, i64_w, i32_w]
            rfl
          refine pure_ (i := 9) (N := some 10) (v := ?_) (a' := ?_) #[true, true, true, true, true, true, true, true, true, true, false] rfl rfl (any_of (md := .any) (ops := opsOf Tryd.f10 12) F10tab12 (by kernel_rfl)) (fun _ _ _ h => h) (Or.inl ⟨by rfl, ?_⟩) ?_ ?_
          rotate_left
          · intro w'
            go_simp
            with_reducible rfl
          rotate_left
          · simp only [Act.put, List.setIfInBounds_toArray, List.set_cons_zero, List.set_cons_succ, i64_w, i32_w]
            rfl
          refine pure_ (i := 10) (N := some 11) (v := ?_) (a' := ?_) #[true, true, true, true, true, true, true, true, true, true, true] rfl rfl (any_of (md := .any) (ops := opsOf Tryd.f10 12) F10tab12 (by kernel_rfl)) (fun _ _ _ h => h) (Or.inl ⟨by rfl, ?_⟩) ?_ ?_
          rotate_left
          · intro w'
            go_simp
            with_reducible rfl
          rotate_left
          · simp only [Act.put, List.setIfInBounds_toArray, List.set_cons_zero, List.set_cons_succ, i64_w, i32_w]
            rfl
          refine done_ (done_of (md := .any) (ops := opsOf Tryd.f10 12) F10tab12 (by kernel_rfl)) ?_
          clear hHeld
          obtain ⟨A7, c7, ev7⟩ := Kd.R_slice IV.out.hp.pz
          subst ev7
          have PA := Aside0.mk IV.out.hp.pa
          have PM := Aside0.mk IV.out.hp.pm
          have PZ := Aside0.mk IV.out.hp.pz
          have TU := Aside0.mk IV.out.ht
          have HO := Aside0.mk IV.out.ho
          have HBB := Aside0.mk (IV.out.base_below HP.out)
          have HBS := Aside0.mk IV.out.hp.base_le
          have LZ : Aside0 (zs1.length ≤ 1000000) := ⟨by have h1 := GL.out; have h2 := HN.out; have h3 : (pre x).length = (preL x.f2).length + 1 := (by rw [pre_eq]; simp); simp only at h1; omega⟩
          have LKZ := Aside0.mk IV.out.hp.hl
          clear IV
          have q1 : w800.cell? ⟨ga, 1, none⟩ = some (.slice A7 zs1.length c7) := (blk_cell PA.out 1).trans rfl
          have f1 := blk_frozen PA.out 1
          go_upto_region 15 with (first | ((with_reducible refine gate_dst (N := 74) rfl ?_); refine Kd.R_lit (Kd.int .i64) (w0 := w) base 3 ?hg (N := 74) ?hd (xs := [s1]) (inner := [.int .i64 s1]) (ok := (fun k_ => base ≤ k_)) (okp := fun _ => False) ?hr ?hp (fun _ hk => hk.elim) ?hfr HBB.out HBS.out (by simp) ?_; (case hd => rfl); (case hg => rfl); (case hr => first | (go_simp; done) | (go_simp; rfl)); (case hp => exact Reps.one (show Kd.M (Kd.int .i64) _ _ _ s1 [.int .i64 s1] from rfl) (Reps.none _ _)); (case hfr => exact HBS.out); intro v74 w74 hr_ hb_ hgr hat; have R74 := Aside0.mk hr_; obtain ⟨A74, c74, e74⟩ := Kd.R_slice hr_; subst e74; have n0 := Aside0.mk (blk_grown PA.out hgr (by simp)); have n1 := Aside0.mk (PM.out.below (hgr.block gm PM.out.lt (by simp))); have n4 := Aside0.mk (blk_grown BK.out hgr (by simp)); have n2 := Aside0.mk (Kd.R_grown PZ.out hgr (fun _ _ => by simp)); have n3 := Aside0.mk (TU.out.trans (S' := fun _ => False) (Turned.of_below ⟨hgr.os, hgr.tape, hgr.output, hgr.size, fun k hk => hgr.block k hk (by simp)⟩) (fun _ _ h => h.elim)); have n5 := Aside0.mk (Nat.le_trans HBS.out hgr.size); clear PA PM PZ TU BK HBB HBS q1 f1 hr_ hat hgr; have PA := n0; have PM := n1; have PZ := n2; have TU := n3; have BK := n4; have HBB := Aside0.mk hb_; have HBS := n5; clear n0 n1 n2 n3 n4 n5 hb_; have q1 : w74.cell? ⟨ga, 1, none⟩ = some (.slice A7 zs1.length c7) := (blk_cell PA.out 1).trans rfl; have f1 := blk_frozen PA.out 1) | ((with_reducible refine gate_dst (N := 75) rfl ?_); refine Kd.R_append_rows (Kd.int .i64) (w0 := w) base rfl (.tmp 72) (.tmp 74) 39 3 (.int .i64 0) 8 rfl Tryd.underlying39 info3 rfl (by decide) (by omega) (.slice A7 zs1.length c7) zs1 [s1] A74 _ c74 (fun k_ => base ≤ k_) (fun _ => False) rfl rfl PZ.out (Kd.R_reads' R74.out).2.2 (fun _ _ h => h) (fun _ h => h.elim) ?fr HBB.out HBS.out ?ln ?_; (case fr => exact fun k_ hk => Nat.le_trans HBS.out hk); (case ln => have hl_ := LZ.out; simp only [List.length_cons, List.length_nil]; omega); intro v75 w75 hr_ hb_ hgr hat; have PZ8 := Aside0.mk hr_; obtain ⟨A8, c8, e8⟩ := Kd.R_slice hr_; subst e8; have n0 := Aside0.mk (blk_grown PA.out hgr (Kd.R_ne PZ.out PA.out (by decide))); have n1 := Aside0.mk (PM.out.below (hgr.block gm PM.out.lt (fun e => by obtain ⟨es_, c_, hg_, _⟩ := PM.out; obtain ⟨cl_, hc_⟩ := Kd.R_typed PZ.out gm e.symm; rw [hg_] at hc_; cases hc_))); have n4 := Aside0.mk (blk_grown BK.out hgr (Kd.R_ne PZ.out BK.out (by decide))); have NGM := Aside0.mk (show ga ≠ gm from fun e => by obtain ⟨es_, c_, hg_, _⟩ := PM.out; have hp_ := PA.out; rw [e, hg_] at hp_; cases hp_); have n3 := Aside0.mk (TU.out.trans (S' := fun k => some k = (Value.slice A7 zs1.length c7).ownBlock) ⟨hgr.os, hgr.tape, hgr.output, hgr.size, fun k hk hn => hgr.block k hk hn⟩ (fun i_ hi_ hs_ => HO.out.elim (fun e => Or.inr (Or.inr (by rw [← e]; exact hs_))) (fun ⟨b, e, hb⟩ => by rw [e] at hs_; injection hs_ with hs_; omega))); have HO8 := Aside0.mk (show (Value.slice A8 (zs1 ++ [s1]).length c8).ownBlock = v.ownBlock ∨ ∃ b, (Value.slice A8 (zs1 ++ [s1]).length c8).ownBlock = some b ∧ w.heap.size ≤ b from hat.elim (fun e => by rw [e]; exact HO.out) (fun ⟨b, e, hb⟩ => Or.inr ⟨b, e, Nat.le_trans TU.out.size hb⟩)); obtain ⟨m8, hm8⟩ : ∃ m, m = (zs1 ++ [s1]).length := ⟨_, rfl⟩; rw [← hm8] at PZ8 HO8; have M8 := Aside0.mk (show m8 = zs1.length + 1 from by rw [hm8]; simp); clear PA PM PZ TU BK HBB HBS q1 f1 hr_ hat hgr hb_ R74; have PA := n0; have PM := n1; have TU := n3; have BK := n4; clear n0 n1 n3 n4; have q1 : w75.cell? ⟨ga, 1, none⟩ = some (.slice A7 zs1.length c7) := (blk_cell PA.out 1).trans rfl; have f1 := blk_frozen PA.out 1; rw [← hm8]; clear hm8))
          have n0 := Aside0.mk (blk_put PA.out 1 (.slice A8 m8 c8) (cs' := #[.map (some gm), .slice A8 m8 c8]) rfl)
          have n1 := Aside0.mk (PM.out.below (Below.heap_setCell _ ⟨ga, 1, none⟩ (.slice A8 m8 c8) gm (fun e => NGM.out e.symm)))
          have n2 := Aside0.mk (Kd.R_reok (ok := fun k => base ≤ k) rfl (Kd.R_far (Kd.R_tight rfl PZ8.out) (p := ⟨ga, 1, none⟩) (fun k hk => by have h := Kd.R_ne PZ8.out PA.out (by decide); intro e; subst e; exact h hk) (.slice A8 m8 c8)) (fun k hk => Kd.R_base PZ8.out k hk))
          have n3 := Aside0.mk (TU.out.trans (setCell_turned (g := ga) (j := 1) (u := .slice A8 m8 c8) (S := PoolS ga gm v) (Or.inl rfl)) (fun _ _ h => h))
          have n4 := Aside0.mk (blk_far BK.out (p := ⟨ga, 1, none⟩) (blk_ne BK.out PA.out (by decide)) (.slice A8 m8 c8))
          clear PA PM PZ8 TU BK q1 f1
          have PA := n0
          have PM := n1
          have PZ := n2
          have TU := n3
          have BK := n4
          clear n0 n1 n2 n3 n4
          generalize World.setCell _ _ _ = w820 at PA PM PZ TU BK ⊢
          have q1 : w820.cell? ⟨ga, 1, none⟩ = some (.slice A8 m8 c8) := (blk_cell PA.out 1).trans rfl
          go_upto_region 16 with (fail)
          clear q1
          have n0 := Aside0.mk (blk_below PA.out (below_drew1 (Below.refl _ _)))
          have n1 := Aside0.mk (PM.out.below (w' := World.drew w820) rfl)
          have n2 := Aside0.mk (Kd.R_below PZ.out (below_drew1 (Below.refl _ _)))
          have n3 := Aside0.mk (TU.out.trans (S' := fun _ => False) (Turned.of_below (below_drew1 (Below.refl _ _))) (fun _ _ h => h.elim))
          have n4 := Aside0.mk (blk_below BK.out (below_drew1 (Below.refl _ _)))
          clear PA PM PZ TU BK
          have PA := n0
          have PM := n1
          have PZ := n2
          have TU := n3
          have BK := n4
          clear n0 n1 n2 n3 n4
          refine start_ (n := 7) (S := fun w' => w'.cell? ⟨ga, 0, none⟩ = some (.map (some gm)) ∧ w'.cell? ⟨gq, 0, none⟩ = some (.int .i64 x.f0) ∧ w'.cell? ⟨gq, 1, none⟩ = some (.bool x.f4) ∧ w'.cell? ⟨gq, 2, none⟩ = some (.string x.f1) ∧ w'.cell? ⟨gq, 3, none⟩ = some (.string o1) ∧ w'.cell? ⟨gq, 4, none⟩ = some (.string nt) ∧ True) (ds := [6]) #[false, false, false, false, false, false, false] (by kernel_rfl) rfl rfl (⟨(blk_cell PA.out 0).trans rfl, (blk_cell BK.out 0).trans rfl, (blk_cell BK.out 1).trans rfl, (blk_cell BK.out 2).trans rfl, (blk_cell BK.out 3).trans rfl, (blk_cell BK.out 4).trans rfl, trivial⟩) (fun hHeld => ?_)
          generalize World.drew _ = w830 at PA PM PZ TU BK hHeld ⊢
          refine pure_ (i := 0) (N := some 83) (v := ?_) (a' := ?_) #[true, false, false, false, false, false, false] rfl rfl (any_of (md := .any) (ops := opsOf Tryd.f10 16) F10tab16 (by kernel_rfl)) (fun _ _ _ h => h) (Or.inl ⟨by rfl, ?_⟩) ?_ ?_
          rotate_left
          · intro w'
            go_simp
            with_reducible rfl
          rotate_left
          · simp only [Act.put, List.setIfInBounds_toArray, List.set_cons_zero, List.set_cons_succ, i64_w, i32_w]
            rfl
          refine pure_ (i := 1) (N := some 84) (v := ?_) (a' := ?_) #[true, true, false, false, false, false, false] rfl rfl (any_of (md := .any) (ops := opsOf Tryd.f10 16) F10tab16 (by kernel_rfl)) (fun _ _ _ h => h) (Or.inl ⟨by rfl, ?_⟩) ?_ ?_
          rotate_left
          · intro w'
            go_simp
            with_reducible rfl
          rotate_left
          · simp only [Act.put, List.setIfInBounds_toArray, List.set_cons_zero, List.set_cons_succ, i64_w, i32_w]
            rfl
          refine pure_ (i := 2) (N := some 85) (v := ?_) (a' := ?_) #[true, true, true, false, false, false, false] rfl rfl (any_of (md := .any) (ops := opsOf Tryd.f10 16) F10tab16 (by kernel_rfl)) (fun _ _ _ h => h) (Or.inl ⟨by rfl, ?_⟩) ?_ ?_
          rotate_left
          · intro w'
            go_simp
            with_reducible rfl
          rotate_left
          · simp only [Act.put, List.setIfInBounds_toArray, List.set_cons_zero, List.set_cons_succ, i64_w, i32_w]
            rfl
          refine take_ (i := 3) (N := some 86) (v := ?_) (a' := ?_) #[true, true, true, true, false, false, false] rfl rfl (take_of (md := .any) (ops := opsOf Tryd.f10 16) F10tab16 (by kernel_rfl)) (fun _ _ _ h => h) (Or.inl ⟨by rfl, ?_⟩) hHeld ?_ ?_
          rotate_left
          · rintro w' ⟨s0, s1, s2, s3, s4, s5, s6⟩
            go_simp
            with_reducible rfl
          rotate_left
          · simp only [Act.put, List.setIfInBounds_toArray, List.set_cons_zero, List.set_cons_succ, i64_w, i32_w]
            rfl
          refine take_ (i := 4) (N := some 87) (v := ?_) (a' := ?_) #[true, true, true, true, true, false, false] rfl rfl (take_of (md := .any) (ops := opsOf Tryd.f10 16) F10tab16 (by kernel_rfl)) (fun _ _ _ h => h) (Or.inl ⟨by rfl, ?_⟩) hHeld ?_ ?_
          rotate_left
          · rintro w' ⟨s0, s1, s2, s3, s4, s5, s6⟩
            go_simp
            with_reducible rfl
          rotate_left
          · simp only [Act.put, List.setIfInBounds_toArray, List.set_cons_zero, List.set_cons_succ, i64_w, i32_w]
            rfl
          refine pure_ (i := 5) (N := some 88) (v := ?_) (a' := ?_) #[true, true, true, true, true, true, false] rfl rfl (any_of (md := .any) (ops := opsOf Tryd.f10 16) F10tab16 (by kernel_rfl)) (fun _ _ _ h => h) (Or.inl ⟨by rfl, ?_⟩) ?_ ?_
          rotate_left
          · intro w'
            go_simp
            with_reducible rfl
          rotate_left
          · simp only [Act.put, List.setIfInBounds_toArray, List.set_cons_zero, List.set_cons_succ, i64_w, i32_w]
            rfl
          refine last_ (i := 6) (N := none) #[true, true, true, true, true, true, true] rfl rfl (one_of (md := .any) (ops := opsOf Tryd.f10 16) F10tab16 (by kernel_rfl)) (by decide) (fun K hK => ?_)
          obtain ⟨ob, hput, hmap⟩ := run_put PM.out kk NX.out
          have hput2 : (Instr.mapUpdate 38 (.map (some gm)) (.agg #[.int .i64 x.f0, .bool x.f4, .string x.f1, .string o1, .string nt]) (.int .i64 (m8 : Int))).run Tryd.prog w830 = .ok () (ChangeMaps.setBlock w830 gm ob) := by
            have e8 : ((ks1.length + 1 : Nat) : Int) = (m8 : Int) := by have := M8.out; have := LKZ.out; omega
            rw [← e8]
            have h1 := hput
            rw [KKE.out] at h1
            exact h1
          refine skip_ (w1 := ChangeMaps.setBlock w830 gm ob) rfl rfl ?hrun ?_
          case hrun => first | (go_simp; done) | (go_simp; rfl)
          refine hK.out _ _ (done_ (done_of (md := .any) (ops := opsOf Tryd.f10 16) F10tab16 (by kernel_rfl)) ?_)
          have TB := Aside0.mk (setBlock_turned (w := w830) (o := ob) (S := fun k => k = gm) PM.out.lt rfl)
          have n0 := Aside0.mk ((TB.out.block ga (blk_lt PA.out) NGM.out).trans PA.out)
          have n1 := Aside0.mk hmap
          have n2 := Aside0.mk (Kd.R_reok (ok := fun k => base ≤ k) rfl (Kd.R_step (Kd.R_tight rfl PZ.out) (fun k hk hlt => TB.out.block k hlt (fun e => by obtain ⟨es_, c_, hg_, _⟩ := PM.out; obtain ⟨cl_, hc_⟩ := Kd.R_typed PZ.out k hk.symm; rw [e, hg_] at hc_; cases hc_))) (fun k hk => Kd.R_base PZ.out k hk))
          have n3 := Aside0.mk (TU.out.trans TB.out (fun _ _ h => Or.inr (Or.inl h)))
          clear hput hput2 hmap hHeld hK K PA PM PZ TU TB BK
          have PA := n0
          have PM := n1
          have PZ := n2
          have TU := n3
          clear n0 n1 n2 n3
          generalize ChangeMaps.setBlock _ _ _ = w840 at PA PM PZ TU ⊢
          go_wp2_with fail
          go_ret
          have hm8 := M8.out
          refine ⟨?_, .slice A8 m8 c8, ?_, TU.out, HO8.out⟩
          · rw [PE.out]
            have e8 : ((ks1.length + 1 : Nat) : Int) = (m8 : Int) := by have := LKZ.out; omega
            show _ = Ending.returned (.int .i64 ((ks1.length + 1 : Nat) : Int))
            rw [e8]
            rfl
          · rw [PE.out]
            exact ⟨PA.out, PM.out, PZ.out, by simp only [List.length_append, List.length_cons, List.length_nil]; have := LKZ.out; omega, HP.out.ba, HP.out.bm⟩
end Go.Proofs.YtjlnlonioknkhaaDoor.PL
