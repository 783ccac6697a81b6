/- Words and walks that the law leans on: HP5, HP6, HP7. Conditions: none. -/
import Derived.Test.YthipodffpkglfaaGreatDoorJ18
import Derived.Lib.ItoaMem
namespace Go.Proofs.YthipodffpkglfaaGreatDoor.PQ
open Go.RowKit Go.Proofs.YthipodffpkglfaaGreatDoorW.PrintWords Go.Proofs.YthipodffpkglfaaGreatDoorW.PrintLast Go.Proofs.YthipodffpkglfaaGreatDoorW.PrintMore Go.Proofs.YthipodffpkglfaaGreatDoor.PS
set_option linter.unusedVariables false
set_option linter.unusedSimpArgs false
theorem F10tab3 : rtab .any (opsOf Tryz.f21 3) = (true, [([], []), ([0], [0]), ([], []), ([2], [2]), ([], []), ([4], [4]), ([], []), ([6], [6]), ([7], [7]), ([8], [8]), ([], []), ([10], [10]), ([11, 8], [11]), ([9, 12], [9, 12]), ([1, 3, 5, 13], [1, 3, 5, 13]), ([], []), ([15, 14, 12, 0, 1, 2, 3, 4, 5, 6, 7, 8, 9, 10, 11, 12, 13, 14, 15], [14, 15])]) := by kernel_rfl
theorem F10tab9 : rtab .any (opsOf Tryz.f21 9) = (true, [([], []), ([0], [0]), ([], []), ([2], [2]), ([1, 3], [1, 3]), ([4], [4]), ([0, 1, 2, 3, 4, 5], []), ([6, 5, 3, 0, 1, 2, 3, 4, 5], [5, 6])]) := by kernel_rfl
theorem F10tab12 : rtab .any (opsOf Tryz.f21 12) = (true, [([], []), ([0], [0]), ([1], [1]), ([2], [2]), ([], []), ([3, 4], [3, 4]), ([5], [5]), ([6], [6]), ([6], [6]), ([7, 0, 1, 2, 3, 4, 5, 6, 7], [7]), ([8, 9, 0, 1, 2, 3, 4, 5, 6, 7, 8, 9], [8])]) := by kernel_rfl
theorem F10tab16 : rtab .any (opsOf Tryz.f21 16) = (true, [([], []), ([0], [0]), ([1], [1]), ([2], [2]), ([], []), ([], []), ([3, 4, 5, 0, 1, 2, 3, 4, 5], [3, 4, 5])]) := by kernel_rfl
theorem info3 : (Tryz.prog.info? 3).map (fun i => (i.zero, i.size, i.bytes)) = some (some (.int .i64 0), 1, 8) := by kernel_rfl
/-- A struct of five cells, of seven, is written. -/
def set5 (w : World) (g : Nat) (v0 v1 v2 v3 v4 : Value) : World := ((((w.setCell ⟨g, 0, none⟩ v0).setCell ⟨g, 1, none⟩ v1).setCell ⟨g, 2, none⟩ v2).setCell ⟨g, 3, none⟩ v3).setCell ⟨g, 4, none⟩ v4
theorem set5_other {w : World} {g k : Nat} {v0 v1 v2 v3 v4 : Value} (h : k ≠ g) : (set5 w g v0 v1 v2 v3 v4).heap[k]? = w.heap[k]? := by
  unfold set5
  rw [Below.heap_setCell _ _ _ _ h, Below.heap_setCell _ _ _ _ h, Below.heap_setCell _ _ _ _ h, Below.heap_setCell _ _ _ _ h, Below.heap_setCell _ _ _ _ h]
theorem set5_blk {w : World} {g : Nat} {t : TypeId} {u0 u1 u2 u3 u4 v0 v1 v2 v3 v4 : Value} (h : w.heap[g]? = some (.cells #[u0, u1, u2, u3, u4] t (0, 0))) : (set5 w g v0 v1 v2 v3 v4).heap[g]? = some (.cells #[v0, v1, v2, v3, v4] t (0, 0)) := by
  unfold set5
  refine blk_put (cs := #[v0, v1, v2, v3, u4]) ?_ 4 _ rfl
  refine blk_put (cs := #[v0, v1, v2, u3, u4]) ?_ 3 _ rfl
  refine blk_put (cs := #[v0, v1, u2, u3, u4]) ?_ 2 _ rfl
  refine blk_put (cs := #[v0, u1, u2, u3, u4]) ?_ 1 _ rfl
  exact blk_put h 0 _ rfl
theorem setCell_turned {w : World} {S : Nat → Prop} {g j : Nat} {u : Value} (hS : S g) : Turned w (w.setCell ⟨g, j, none⟩ u) S :=
  ⟨rfl, rfl, rfl, by simp [World.setCell], fun k hk hn => Below.heap_setCell w ⟨g, j, none⟩ u k (fun e => hn (e ▸ hS))⟩
theorem set5_turned {w : World} {S : Nat → Prop} {g : Nat} {v0 v1 v2 v3 v4 : Value} (hS : S g) : Turned w (set5 w g v0 v1 v2 v3 v4) S := by
  unfold set5
  exact ((((setCell_turned hS).trans (setCell_turned hS) (fun _ _ h => h)).trans (setCell_turned hS) (fun _ _ h => h)).trans (setCell_turned hS) (fun _ _ h => h)).trans (setCell_turned hS) (fun _ _ h => h)
def set7 (w : World) (g : Nat) (v0 v1 v2 v3 v4 v5 v6 : Value) : World := (set5 w g v0 v1 v2 v3 v4).setCell ⟨g, 5, none⟩ v5 |>.setCell ⟨g, 6, none⟩ v6
theorem set7_blk {w : World} {g : Nat} {t : TypeId} {u0 u1 u2 u3 u4 u5 u6 v0 v1 v2 v3 v4 v5 v6 : Value} (h : w.heap[g]? = some (.cells #[u0, u1, u2, u3, u4, u5, u6] t (0, 0))) : (set7 w g v0 v1 v2 v3 v4 v5 v6).heap[g]? = some (.cells #[v0, v1, v2, v3, v4, v5, v6] t (0, 0)) := by
  unfold set7 set5
  refine blk_put (cs := #[v0, v1, v2, v3, v4, v5, u6]) ?_ 6 _ rfl
  refine blk_put (cs := #[v0, v1, v2, v3, v4, u5, u6]) ?_ 5 _ rfl
  refine blk_put (cs := #[v0, v1, v2, v3, u4, u5, u6]) ?_ 4 _ rfl
  refine blk_put (cs := #[v0, v1, v2, u3, u4, u5, u6]) ?_ 3 _ rfl
  refine blk_put (cs := #[v0, v1, u2, u3, u4, u5, u6]) ?_ 2 _ rfl
  refine blk_put (cs := #[v0, u1, u2, u3, u4, u5, u6]) ?_ 1 _ rfl
  exact blk_put h 0 _ rfl
theorem set7_turned {w : World} {S : Nat → Prop} {g : Nat} {v0 v1 v2 v3 v4 v5 v6 : Value} (hS : S g) : Turned w (set7 w g v0 v1 v2 v3 v4 v5 v6) S := by
  unfold set7
  exact ((set5_turned hS).trans (setCell_turned hS) (fun _ _ h => h)).trans (setCell_turned hS) (fun _ _ h => h)
/-- A write into a block that is none of the pool's. -/
theorem PI.write {w wr wr' : World} {base ga gm : Nat} {v0 v : Value} {ks : List K5} {zs : List Int} (h : PI w wr base ga gm v0 v ks zs) {g : Nat} (ht : Turned wr wr' (fun k => k = g)) (hg : w.heap.size ≤ g) (hn : ¬ PoolS ga gm v g) : PI w wr' base ga gm v0 v ks zs := by
  refine ⟨⟨?_, ?_, ?_, h.hp.hl, h.hp.ba, h.hp.bm⟩, h.ht.trans ht (fun i hi hs => by omega), h.ho⟩
  · exact (ht.block ga (blk_lt h.hp.pa) (fun e => hn (Or.inl e.symm))).trans h.hp.pa
  · exact h.hp.pm.below (ht.block gm h.hp.pm.lt (fun e => hn (Or.inr (Or.inl e.symm))))
  · have hl := Kd.R_lt h.hp.pz
    exact Kd.R_reok rfl (Kd.R_step (Kd.R_tight rfl h.hp.pz) (fun k hk hlt => ht.block k hlt (fun e => hn (Or.inr (Or.inr (by rw [← e]; exact hk)))))) (fun k hk => Kd.R_base h.hp.pz k hk)
theorem elemF {ok : Nat → Prop} {w : World} {A : Option Addr} {n : Nat} {xs : List S45} (h : Kd.F k45 w ok A n xs) (i : Nat) (y : S45) (hi : xs[i]? = some y) :
    ∃ ad Y2 e2 Y5 e5 Y6 e6, A = some ad ∧ NF w ok y Y2 e2 Y5 e5 Y6 e6 ∧ w.cell? (ad.add (i * 7)) = some (.int .i64 y.f0) ∧ w.cell? ⟨(ad.add (i * 7)).block, (ad.add (i * 7)).off + 1, none⟩ = some (.string y.f1) ∧ w.cell? ⟨(ad.add (i * 7)).block, (ad.add (i * 7)).off + 2, none⟩ = some (.slice Y2 y.f2.length e2) ∧ w.cell? ⟨(ad.add (i * 7)).block, (ad.add (i * 7)).off + 3, none⟩ = some (.bool y.f3) ∧ w.cell? ⟨(ad.add (i * 7)).block, (ad.add (i * 7)).off + 4, none⟩ = some (.bool y.f4) ∧ w.cell? ⟨(ad.add (i * 7)).block, (ad.add (i * 7)).off + 5, none⟩ = some (.slice Y5 y.f5.length e5) ∧ w.cell? ⟨(ad.add (i * 7)).block, (ad.add (i * 7)).off + 6, none⟩ = some (.slice Y6 y.f6.length e6) := by
  have hn := Kd.F_len h
  obtain ⟨hl, hy⟩ := List.getElem?_eq_some_iff.1 hi
  obtain ⟨ad, cs, e, _, hF, hc, _⟩ := Kd.F_get h y (i : Int) (by omega) (by omega)
  rw [Int.toNat_natCast, List.getD_eq_getElem?_getD, hi] at hF
  obtain ⟨Y2, e2, Y5, e5, Y6, e6, rfl, l2, g2, l5, g5, l6, g6⟩ := k45_openF hF
  rw [Int.toNat_natCast] at hc
  refine ⟨ad, Y2, e2, Y5, e5, Y6, e6, e, ⟨g2, l2, g5, l5, g6, l6⟩, hc 0 _ rfl, ?_, ?_, ?_, ?_, ?_, ?_⟩
  · have := hc 1 _ rfl; rwa [add_field _ _ 1 (by omega)] at this
  · have := hc 2 _ rfl; rwa [add_field _ _ 2 (by omega)] at this
  · have := hc 3 _ rfl; rwa [add_field _ _ 3 (by omega)] at this
  · have := hc 4 _ rfl; rwa [add_field _ _ 4 (by omega)] at this
  · have := hc 5 _ rfl; rwa [add_field _ _ 5 (by omega)] at this
  · have := hc 6 _ rfl; rwa [add_field _ _ 6 (by omega)] at this
theorem part_bounds (x : S45) (i : Nat) (hlt : i < x.f2.length) (ks : List K5) (zs : List Int) (h : ks.length = zs.length) (hn : ks.length + (pre x).length ≤ 1000000) (hl2 : x.f2.length ≤ 1000000) (o1 : ByteArray) (s1 : Int) (ks1 : List K5) (zs1 : List Int)
    (PL : putL (x.f2.take i) ⟨E0, 1, ks, zs⟩ = ⟨o1, s1, ks1, zs1⟩) (y : S45) (hy : y = x.f2[i]) (id : Int) (ks2 : List K5) (zs2 : List Int) (PV : putV y ks1 zs1 = (id, ks2, zs2)) :
    ks1.length + (pre y).length ≤ 1000000 ∧ o1.size ≤ 22000000 ∧ ks2.length = zs2.length ∧ 1 ≤ id ∧ id ≤ ks2.length ∧ ks2.length ≤ 1000000 ∧ (itoaB id).size ≤ 21 ∧
    putL (x.f2.take (i + 1)) ⟨E0, 1, ks, zs⟩ = ⟨(o1 ++ itoaB id) ++ (⟨#[44]⟩ : ByteArray), wrap64 (s1 + szAt zs2 id), ks2, zs2⟩ := by
  have g1 := putL_good (x.f2.take i) ⟨E0, 1, ks, zs⟩ h
  rw [PL] at g1
  have h1 : (preL (x.f2.take (i + 1))).length = (preL (x.f2.take i)).length + (pre y).length := by rw [preL_take x.f2 i hlt, List.length_append, hy]
  have h2 : (preL (x.f2.take (i + 1))).length ≤ (preL x.f2).length := by
    have h1 : preL x.f2 = preL (x.f2.take (i + 1)) ++ preL (x.f2.drop (i + 1)) := by rw [← preL_append, List.take_append_drop]
    rw [h1, List.length_append]; omega
  have h3 : (pre x).length = (preL x.f2).length + 1 := by rw [pre_eq]; simp
  obtain ⟨g11, g12, g13⟩ := g1
  have g13' : ks1.length ≤ ks.length + (preL (x.f2.take i)).length := g13
  have g2 := putV_good y ks1 zs1 g11
  rw [PV] at g2
  obtain ⟨g21, g22, g23, g24, g25⟩ := g2
  have g23' : ks2.length ≤ ks1.length + (pre y).length := g23
  have g24' : 1 ≤ id := g24
  have g25' : id ≤ ks2.length := g25
  have o := putL_o (x.f2.take i) ⟨E0, 1, ks, zs⟩ h (by show ks.length + _ ≤ _; omega)
  rw [PL] at o
  have o' : o1.size ≤ 0 + 22 * (x.f2.take i).length := o
  have h4 : (x.f2.take i).length ≤ 1000000 := by simp; omega
  refine ⟨by omega, by omega, g21, g24', g25', by omega, itoa_size id (by omega) (by omega), ?_⟩
  rw [putL_take x.f2 i hlt, PL, ← hy]
  show PS.mk _ _ _ _ = _
  rw [PV]
theorem szAt_eq {zs : List Int} {id z : Int} {j : Nat} (hj : id = (j : Int) + 1) (hl : j < zs.length) (hz : z = zs[j]) : szAt zs id = z := by
  have h1 : (id - 1).toNat = j := by omega
  rw [szAt, h1, List.getD_eq_getElem?_getD, List.getElem?_eq_getElem hl, hz]; rfl
theorem setBlock_turned {w : World} {g : Nat} {o : Obj} {S : Nat → Prop} (hg : g < w.heap.size) (hS : S g) : Turned w (ChangeMaps.setBlock w g o) S :=
  ⟨rfl, rfl, rfl, by simp [ChangeMaps.setBlock], fun k hk hn => by
    show (w.heap.setIfInBounds g o)[k]? = w.heap[k]?
    rw [Array.getElem?_setIfInBounds_ne]
    intro e; subst e; exact hn hS⟩
theorem putC_of {x : S45} {A2 : Option Addr} {c2 : Nat} {A5 : Option Addr} {c5 : Nat} {A6 : Option Addr} {c6 : Nat} {base ga gm : Nat} {v : Value} {ks ks1 : List K5} {zs zs1 : List Int} {id : Int} {w : World} (h : PutAt x A2 c2 A5 c5 A6 c6 base ga gm v ks zs w) (e : putV x ks zs = (id, ks1, zs1)) :
    Calls Tryz.prog 21 #[.pointer (some ⟨ga, 0, none⟩), .agg #[.int .i64 x.f0, .string x.f1, .slice A2 x.f2.length c2, .bool x.f3, .bool x.f4, .slice A5 x.f5.length c5, .slice A6 x.f6.length c6]] w fun e w' => ∃ v', e = .returned (.int .i64 id) ∧ PoolAt w' base ga gm v' ks1 zs1 ∧ Turned w w' (PoolS ga gm v) ∧ (v'.ownBlock = v.ownBlock ∨ ∃ b, v'.ownBlock = some b ∧ w.heap.size ≤ b) := by
  unfold PutAt at h
  rw [e] at h
  exact h
set_option maxHeartbeats 8000000 in
set_option maxRecDepth 100000 in
theorem put_walk (x : S45) (A2 : Option Addr) (c2 : Nat) (A5 : Option Addr) (c5 : Nat) (A6 : Option Addr) (c6 : Nat) (base ga gm : Nat) (v : Value) (ks : List K5) (zs : List Int) (w : World) (ok : Nat → Prop) (hx : NF w ok x A2 c2 A5 c5 A6 c6) (hos : ∀ k, ok k → k < w.heap.size ∧ ¬ PoolS ga gm v k) (hp : PoolAt w base ga gm v ks zs) (hT : Tab base w) (hok : okT x) (hn : ks.length + (pre x).length ≤ 1000000) (hl2 : x.f2.length ≤ 1000000)
    (ih : ∀ y ∈ x.f2, ∀ (A2 : Option Addr) (c2 : Nat) (A5 : Option Addr) (c5 : Nat) (A6 : Option Addr) (c6 : Nat) (v : Value) (ks : List K5) (zs : List Int) (w : World), NF w ok y A2 c2 A5 c5 A6 c6 → (∀ k, ok k → k < w.heap.size ∧ ¬ PoolS ga gm v k) → PoolAt w base ga gm v ks zs → Tab base w → ks.length + (pre y).length ≤ 1000000 → PutAt y A2 c2 A5 c5 A6 c6 base ga gm v ks zs w) :
    PutAt x A2 c2 A5 c5 A6 c6 base ga gm v ks zs w := by
  have hu45 := Tryz.underlying45
  have hu70 := Tryz.underlying70
  have hu67 := Tryz.underlying67
  have HX := Aside0.mk hx
  have HOS := Aside0.mk hos
  have HP := Aside0.mk hp
  have HT := Aside0.mk hT
  have HOK := Aside0.mk (hok x (mem_self x))
  have HN := Aside0.mk hn
  have HL2 := Aside0.mk hl2
  have IH := Aside0.mk ih
  have IV := Aside0.mk (PI.start hp)
  unfold PutAt
  obtain ⟨t5, ht5⟩ : ∃ t, t = textsF x.f5 E0 := ⟨_, rfl⟩
  obtain ⟨t6, ht6⟩ : ∃ t, t = textsF x.f6 E0 := ⟨_, rfl⟩
  have z5 := textsF_size x.f5 E0 (fun s hs => by have := mem_tsz x.f5 s hs; have := HOK.out; omega)
  have z6 := textsF_size x.f6 E0 (fun s hs => by have := mem_tsz x.f6 s hs; have := HOK.out; omega)
  rw [← ht5] at z5
  rw [← ht6] at z6
  have hz0 : E0.size = 0 := rfl
  have CA : Aside0 (¬ (9223372036854775807 < t5.size + 1)) := ⟨by have := HOK.out; omega⟩
  have CB : Aside0 (¬ (9223372036854775807 < t5.size + 1 + t6.size)) := ⟨by have := HOK.out; omega⟩
  have T5 := Aside0.mk ht5
  have T6 := Aside0.mk ht6
  obtain ⟨nt, hnt⟩ : ∃ t, t = (t5 ++ (⟨#[59]⟩ : ByteArray)) ++ t6 := ⟨_, rfl⟩
  have NT := Aside0.mk hnt
  clear hx hos hp hT hok hn hl2 ih ht5 ht6 z5 z6 hz0 hnt
  go_enter Tryz.func21, Tryz.ntmps21
  go_upto_region 3 with (first | ((with_reducible refine gate_dst (N := 3) rfl ?_); (try (refine gate_guard (by rfl) ?_; dsimp only)); refine box_event ?hg (N := 3) ?hd (cs := #[.int .i64 x.f0, .string x.f1, .slice A2 x.f2.length c2, .bool x.f3, .bool x.f4, .slice A5 x.f5.length c5, .slice A6 x.f6.length c6]) (t := 45) ?hr ?_; (case hd => rfl); (case hg => rfl); (case hr => first | (go_simp; done) | (go_simp; rfl)); intro gx hg w1 hbox hb; have n0 := Aside0.mk (IV.out.below hb); have BX := Aside0.mk hbox; have GX := Aside0.mk (Nat.le_of_eq hg.symm); clear IV; have IV := n0; clear n0 hb hg hbox; have hx0 : w1.cell? ⟨gx, 0, none⟩ = some (.int .i64 x.f0) := (blk_cell BX.out 0).trans rfl; have fx0 := blk_frozen BX.out 0; have hx1 : w1.cell? ⟨gx, 1, none⟩ = some (.string x.f1) := (blk_cell BX.out 1).trans rfl; have fx1 := blk_frozen BX.out 1; have hx2 : w1.cell? ⟨gx, 2, none⟩ = some (.slice A2 x.f2.length c2) := (blk_cell BX.out 2).trans rfl; have fx2 := blk_frozen BX.out 2; have hx3 : w1.cell? ⟨gx, 3, none⟩ = some (.bool x.f3) := (blk_cell BX.out 3).trans rfl; have fx3 := blk_frozen BX.out 3; have hx4 : w1.cell? ⟨gx, 4, none⟩ = some (.bool x.f4) := (blk_cell BX.out 4).trans rfl; have fx4 := blk_frozen BX.out 4; have hx5 : w1.cell? ⟨gx, 5, none⟩ = some (.slice A5 x.f5.length c5) := (blk_cell BX.out 5).trans rfl; have fx5 := blk_frozen BX.out 5; have hx6 : w1.cell? ⟨gx, 6, none⟩ = some (.slice A6 x.f6.length c6) := (blk_cell BX.out 6).trans rfl; have fx6 := blk_frozen BX.out 6))
  go_cut [5] (fun s5 wx => ∃ gq : Nat, s5 = .pointer (some ⟨gq, 0, none⟩) ∧ Aside0 (w.heap.size ≤ gq) ∧ Aside0 (wx.heap[gq]? = some (.cells #[.int .i64 x.f0, .bool x.f4, .string x.f1, .string (⟨#[]⟩ : ByteArray), .string nt] 70 (0, 0))) ∧ Aside0 (wx.heap[gx]? = some (.cells #[.int .i64 x.f0, .string x.f1, .slice A2 x.f2.length c2, .bool x.f3, .bool x.f4, .slice A5 x.f5.length c5, .slice A6 x.f6.length c6] 45 (0, 0))) ∧ Aside0 (PI w wx base ga gm v v ks zs))
  case first =>
    clear hx0 fx0 hx1 fx1 hx2 fx2 hx3 fx3 hx4 fx4 hx5 fx5 hx6 fx6
    have n0 := Aside0.mk (IV.out.below (below_drew1 (Below.refl _ _)))
    have n1 := Aside0.mk (blk_below BX.out (below_drew1 (Below.refl _ _)))
    clear IV BX
    have IV := n0
    have BX := n1
    clear n0 n1
    refine start_ (n := 17) (S := fun w' => w'.cell? ⟨gx, 0, none⟩ = some (.int .i64 x.f0) ∧ w'.cell? ⟨gx, 4, none⟩ = some (.bool x.f4) ∧ w'.cell? ⟨gx, 1, none⟩ = some (.string x.f1) ∧ w'.cell? ⟨gx, 5, none⟩ = some (.slice A5 x.f5.length c5) ∧ w'.cell? ⟨gx, 6, none⟩ = some (.slice A6 x.f6.length c6) ∧ True) (ds := [16]) #[false, false, false, false, false, false, false, false, false, false, false, false, false, false, false, false, false] (by kernel_rfl) rfl rfl (⟨(blk_cell BX.out 0).trans rfl, (blk_cell BX.out 4).trans rfl, (blk_cell BX.out 1).trans rfl, (blk_cell BX.out 5).trans rfl, (blk_cell BX.out 6).trans rfl, trivial⟩) (fun hHeld => ?_)
    generalize World.drew _ = w500 at IV BX hHeld ⊢
    refine pure_ (i := 0) (N := some 14) (v := ?_) (a' := ?_) #[true, false, false, false, false, false, false, false, false, false, false, false, false, false, false, false, false] rfl rfl (any_of (md := .any) (ops := opsOf Tryz.f21 3) F10tab3 (by kernel_rfl)) (fun _ _ _ h => h) (Or.inl ⟨by rfl, ?_⟩) ?_ ?_
    rotate_left
    · intro w'
      go_simp
      with_reducible rfl
    rotate_left
    · simp only [Act.put, List.setIfInBounds_toArray, List.set_cons_zero, List.set_cons_succ, i64_w, i32_w]
      rfl
    refine take_ (i := 1) (N := some 15) (v := ?_) (a' := ?_) #[true, true, false, false, false, false, false, false, false, false, false, false, false, false, false, false, false] rfl rfl (take_of (md := .any) (ops := opsOf Tryz.f21 3) F10tab3 (by kernel_rfl)) (fun _ _ _ h => h) (Or.inl ⟨by rfl, ?_⟩) hHeld ?_ ?_
    rotate_left
    · rintro w' ⟨s0, s1, s2, s3, s4, s5⟩
      go_simp
      with_reducible rfl
    rotate_left
    · simp only [Act.put, List.setIfInBounds_toArray, List.set_cons_zero, List.set_cons_succ, i64_w, i32_w]
      rfl
    refine pure_ (i := 2) (N := some 16) (v := ?_) (a' := ?_) #[true, true, true, false, false, false, false, false, false, false, false, false, false, false, false, false, false] rfl rfl (any_of (md := .any) (ops := opsOf Tryz.f21 3) F10tab3 (by kernel_rfl)) (fun _ _ _ h => h) (Or.inl ⟨by rfl, ?_⟩) ?_ ?_
    rotate_left
    · intro w'
      go_simp
      with_reducible rfl
    rotate_left
    · simp only [Act.put, List.setIfInBounds_toArray, List.set_cons_zero, List.set_cons_succ, i64_w, i32_w]
      rfl
    refine take_ (i := 3) (N := some 17) (v := ?_) (a' := ?_) #[true, true, true, true, false, false, false, false, false, false, false, false, false, false, false, false, false] rfl rfl (take_of (md := .any) (ops := opsOf Tryz.f21 3) F10tab3 (by kernel_rfl)) (fun _ _ _ h => h) (Or.inl ⟨by rfl, ?_⟩) hHeld ?_ ?_
    rotate_left
    · rintro w' ⟨s0, s1, s2, s3, s4, s5⟩
      go_simp
      with_reducible rfl
    rotate_left
    · simp only [Act.put, List.setIfInBounds_toArray, List.set_cons_zero, List.set_cons_succ, i64_w, i32_w]
      rfl
    refine pure_ (i := 4) (N := some 18) (v := ?_) (a' := ?_) #[true, true, true, true, true, false, false, false, false, false, false, false, false, false, false, false, false] rfl rfl (any_of (md := .any) (ops := opsOf Tryz.f21 3) F10tab3 (by kernel_rfl)) (fun _ _ _ h => h) (Or.inl ⟨by rfl, ?_⟩) ?_ ?_
    rotate_left
    · intro w'
      go_simp
      with_reducible rfl
    rotate_left
    · simp only [Act.put, List.setIfInBounds_toArray, List.set_cons_zero, List.set_cons_succ, i64_w, i32_w]
      rfl
    refine take_ (i := 5) (N := some 19) (v := ?_) (a' := ?_) #[true, true, true, true, true, true, false, false, false, false, false, false, false, false, false, false, false] rfl rfl (take_of (md := .any) (ops := opsOf Tryz.f21 3) F10tab3 (by kernel_rfl)) (fun _ _ _ h => h) (Or.inl ⟨by rfl, ?_⟩) hHeld ?_ ?_
    rotate_left
    · rintro w' ⟨s0, s1, s2, s3, s4, s5⟩
      go_simp
      with_reducible rfl
    rotate_left
    · simp only [Act.put, List.setIfInBounds_toArray, List.set_cons_zero, List.set_cons_succ, i64_w, i32_w]
      rfl
    refine pure_ (i := 6) (N := some 20) (v := ?_) (a' := ?_) #[true, true, true, true, true, true, true, false, false, false, false, false, false, false, false, false, false] rfl rfl (any_of (md := .any) (ops := opsOf Tryz.f21 3) F10tab3 (by kernel_rfl)) (fun _ _ _ h => h) (Or.inl ⟨by rfl, ?_⟩) ?_ ?_
    rotate_left
    · intro w'
      go_simp
      with_reducible rfl
    rotate_left
    · simp only [Act.put, List.setIfInBounds_toArray, List.set_cons_zero, List.set_cons_succ, i64_w, i32_w]
      rfl
    refine take_ (i := 7) (N := some 21) (v := ?_) (a' := ?_) #[true, true, true, true, true, true, true, true, false, false, false, false, false, false, false, false, false] rfl rfl (take_of (md := .any) (ops := opsOf Tryz.f21 3) F10tab3 (by kernel_rfl)) (fun _ _ _ h => h) (Or.inl ⟨by rfl, ?_⟩) hHeld ?_ ?_
    rotate_left
    · rintro w' ⟨s0, s1, s2, s3, s4, s5⟩
      go_simp
      with_reducible rfl
    rotate_left
    · simp only [Act.put, List.setIfInBounds_toArray, List.set_cons_zero, List.set_cons_succ, i64_w, i32_w]
      rfl
    refine pure_ (i := 10) (N := some 24) (v := ?_) (a' := ?_) #[true, true, true, true, true, true, true, true, false, false, true, false, false, false, false, false, false] rfl rfl (any_of (md := .any) (ops := opsOf Tryz.f21 3) F10tab3 (by kernel_rfl)) (fun _ _ _ h => h) (Or.inl ⟨by rfl, ?_⟩) ?_ ?_
    rotate_left
    · intro w'
      go_simp
      with_reducible rfl
    rotate_left
    · simp only [Act.put, List.setIfInBounds_toArray, List.set_cons_zero, List.set_cons_succ, i64_w, i32_w]
      rfl
    refine take_ (i := 11) (N := some 25) (v := ?_) (a' := ?_) #[true, true, true, true, true, true, true, true, false, false, true, true, false, false, false, false, false] rfl rfl (take_of (md := .any) (ops := opsOf Tryz.f21 3) F10tab3 (by kernel_rfl)) (fun _ _ _ h => h) (Or.inl ⟨by rfl, ?_⟩) hHeld ?_ ?_
    rotate_left
    · rintro w' ⟨s0, s1, s2, s3, s4, s5⟩
      go_simp
      with_reducible rfl
    rotate_left
    · simp only [Act.put, List.setIfInBounds_toArray, List.set_cons_zero, List.set_cons_succ, i64_w, i32_w]
      rfl
    refine two_ (i := 8) (j := 15) (Ni := some 22) (Nj := some 5) #[true, true, true, true, true, true, true, true, true, false, true, true, false, false, false, false, false] #[true, true, true, true, true, true, true, true, false, false, true, true, false, false, false, true, false] rfl rfl rfl rfl (two_of (md := .any) (ops := opsOf Tryz.f21 3) F10tab3 (by kernel_rfl)) (by decide) (by decide) (fun K hK => ?_) (fun K hK => ?_)
    · refine goes_ Tryz.func31 (by kernel_rfl) rfl #[.slice A5 x.f5.length c5] (by rfl) rfl rfl (by (try simp only [List.map_toArray, List.map_cons, List.map_nil]); first | done | rfl) ?_
      refine (texts_calls base x.f5 A5 c5 _ (Kd.F_now (HX.out.turn IV.out.ht HOS.out).g5) IV.out.hp.base_le (HT.out.on (IV.out.base_below HP.out)) HOK.out.1).mono ?_
      rintro e w501 ⟨rfl, hb⟩
      refine ⟨_, rfl, ?_⟩
      rw [← T5.out]; have n0 := Aside0.mk (IV.out.below hb); have n1 := Aside0.mk (blk_below BX.out hb); clear IV BX; have IV := n0; have BX := n1; clear n0 n1; clear hb
      refine hK.out _ _ (⟨(blk_cell BX.out 0).trans rfl, (blk_cell BX.out 4).trans rfl, (blk_cell BX.out 1).trans rfl, (blk_cell BX.out 5).trans rfl, (blk_cell BX.out 6).trans rfl, trivial⟩) (fun hHeld => ?_)
      clear hK K
      refine norm_ (a' := ?_) ?_ ?_
      rotate_left
      · show Act.put _ (some 22) _ = _
        simp only [Act.put, List.setIfInBounds_toArray, List.set_cons_zero, List.set_cons_succ, i64_w, i32_w]
        rfl
      refine pure_ (i := 9) (N := some 23) (v := ?_) (a' := ?_) #[true, true, true, true, true, true, true, true, true, true, true, true, false, false, false, false, false] rfl rfl (any_of (md := .any) (ops := opsOf Tryz.f21 3) F10tab3 (by kernel_rfl)) (fun _ _ _ h => h) (Or.inl ⟨by rfl, ?_⟩) ?_ ?_
      rotate_left
      · intro w'
        go_simp
        rw [if_neg CA.out]
      rotate_left
      · simp only [Act.put, List.setIfInBounds_toArray, List.set_cons_zero, List.set_cons_succ, i64_w, i32_w]
        rfl
      refine two_ (i := 12) (j := 15) (Ni := some 26) (Nj := some 5) #[true, true, true, true, true, true, true, true, true, true, true, true, true, false, false, false, false] #[true, true, true, true, true, true, true, true, true, true, true, true, false, false, false, true, false] rfl rfl rfl rfl (two_of (md := .any) (ops := opsOf Tryz.f21 3) F10tab3 (by kernel_rfl)) (by decide) (by decide) (fun K hK => ?_) (fun K hK => ?_)
      · refine goes_ Tryz.func31 (by kernel_rfl) rfl #[.slice A6 x.f6.length c6] (by rfl) rfl rfl (by (try simp only [List.map_toArray, List.map_cons, List.map_nil]); first | done | rfl) ?_
        refine (texts_calls base x.f6 A6 c6 _ (Kd.F_now (HX.out.turn IV.out.ht HOS.out).g6) IV.out.hp.base_le (HT.out.on (IV.out.base_below HP.out)) HOK.out.2).mono ?_
        rintro e w502 ⟨rfl, hb⟩
        refine ⟨_, rfl, ?_⟩
        rw [← T6.out]; have n0 := Aside0.mk (IV.out.below hb); have n1 := Aside0.mk (blk_below BX.out hb); clear IV BX; have IV := n0; have BX := n1; clear n0 n1; clear hb
        refine hK.out _ _ (⟨(blk_cell BX.out 0).trans rfl, (blk_cell BX.out 4).trans rfl, (blk_cell BX.out 1).trans rfl, (blk_cell BX.out 5).trans rfl, (blk_cell BX.out 6).trans rfl, trivial⟩) (fun hHeld => ?_)
        clear hK K
        refine norm_ (a' := ?_) ?_ ?_
        rotate_left
        · show Act.put _ (some 26) _ = _
          simp only [Act.put, List.setIfInBounds_toArray, List.set_cons_zero, List.set_cons_succ, i64_w, i32_w]
          rfl
        refine pure_ (i := 13) (N := some 27) (v := ?_) (a' := ?_) #[true, true, true, true, true, true, true, true, true, true, true, true, true, true, false, false, false] rfl rfl (any_of (md := .any) (ops := opsOf Tryz.f21 3) F10tab3 (by kernel_rfl)) (fun _ _ _ h => h) (Or.inl ⟨by rfl, ?_⟩) ?_ ?_
        rotate_left
        · intro w'
          go_simp
          rw [if_neg CB.out]
        rotate_left
        · simp only [Act.put, List.setIfInBounds_toArray, List.set_cons_zero, List.set_cons_succ, i64_w, i32_w]
          rfl
        refine pure_ (i := 14) (N := some 28) (v := ?_) (a' := ?_) #[true, true, true, true, true, true, true, true, true, true, true, true, true, true, true, false, false] rfl rfl (any_of (md := .any) (ops := opsOf Tryz.f21 3) F10tab3 (by kernel_rfl)) (fun _ _ _ h => h) (Or.inl ⟨by rfl, ?_⟩) ?_ ?_
        rotate_left
        · intro w'
          go_simp
          with_reducible rfl
        rotate_left
        · simp only [Act.put, List.setIfInBounds_toArray, List.set_cons_zero, List.set_cons_succ, i64_w, i32_w]
          rfl
        refine one_ (i := 15) (N := some 5) #[true, true, true, true, true, true, true, true, true, true, true, true, true, true, true, true, false] rfl rfl (one_of (md := .any) (ops := opsOf Tryz.f21 3) F10tab3 (by kernel_rfl)) (by decide) (fun K hK => ?_)
        refine box_step (by rfl) (N := 5) rfl (cs := #[.int .i64 0, .bool false, .string (⟨#[]⟩ : ByteArray), .string (⟨#[]⟩ : ByteArray), .string (⟨#[]⟩ : ByteArray)]) (t := 70) ?hrun ?_
        case hrun => first | (go_simp; done) | (go_simp; rfl)
        intro gq hg w503 hbox hb
        have GQ := Aside0.mk (show w.heap.size ≤ gq from by rw [hg]; exact IV.out.ht.size); have BK := Aside0.mk hbox; have n0 := Aside0.mk (IV.out.below hb); have n1 := Aside0.mk (blk_below BX.out hb); clear IV BX; have IV := n0; have BX := n1; clear n0 n1; clear hb
        clear hbox hg
        refine hK.out _ _ (⟨(blk_cell BX.out 0).trans rfl, (blk_cell BX.out 4).trans rfl, (blk_cell BX.out 1).trans rfl, (blk_cell BX.out 5).trans rfl, (blk_cell BX.out 6).trans rfl, trivial⟩) (fun hHeld => ?_)
        clear hK K
        refine norm_ (a' := ?_) ?_ ?_
        rotate_left
        · show Act.put _ (some 5) _ = _
          simp only [Act.put, List.setIfInBounds_toArray, List.set_cons_zero, List.set_cons_succ, i64_w, i32_w]
          rfl
        refine last_ (i := 16) (N := none) #[true, true, true, true, true, true, true, true, true, true, true, true, true, true, true, true, true] rfl rfl (one_of (md := .any) (ops := opsOf Tryz.f21 3) F10tab3 (by kernel_rfl)) (by decide) (fun K hK => ?_)
        have k0 : w503.cell? ⟨gq, 0, none⟩ = some (.int .i64 0) := (blk_cell BK.out 0).trans rfl
        have k1 : w503.cell? ⟨gq, 1, none⟩ = some (.bool false) := (blk_cell BK.out 1).trans rfl
        have k2 : w503.cell? ⟨gq, 2, none⟩ = some (.string (⟨#[]⟩ : ByteArray)) := (blk_cell BK.out 2).trans rfl
        have k3 : w503.cell? ⟨gq, 3, none⟩ = some (.string (⟨#[]⟩ : ByteArray)) := (blk_cell BK.out 3).trans rfl
        have k4 : w503.cell? ⟨gq, 4, none⟩ = some (.string (⟨#[]⟩ : ByteArray)) := (blk_cell BK.out 4).trans rfl
        have kf0 := blk_frozen BK.out 0
        have kf1 := blk_frozen BK.out 1
        have kf2 := blk_frozen BK.out 2
        have kf3 := blk_frozen BK.out 3
        have kf4 := blk_frozen BK.out 4
        refine skip_ (w1 := set5 w503 gq (.int .i64 x.f0) (.bool x.f4) (.string x.f1) (.string (⟨#[]⟩ : ByteArray)) (.string ((t5 ++ (⟨#[59]⟩ : ByteArray)) ++ t6))) rfl rfl ?hrun ?_
        case hrun => first | (go_simp; done) | (go_simp; rfl)
        refine hK.out _ _ (done_ (done_of (md := .any) (ops := opsOf Tryz.f21 3) F10tab3 (by kernel_rfl)) ?_)
        go_wp2_with fail
        go_meet
        rw [← NT.out]
        exact ⟨gq, rfl, GQ, ⟨set5_blk BK.out⟩, ⟨(set5_other (blk_ne BX.out BK.out (by decide))).trans BX.out⟩, ⟨IV.out.write (set5_turned rfl) GQ.out (IV.out.hp.away BK.out (by decide) (by decide))⟩⟩
      · refine box_step (by rfl) (N := 5) rfl (cs := #[.int .i64 0, .bool false, .string (⟨#[]⟩ : ByteArray), .string (⟨#[]⟩ : ByteArray), .string (⟨#[]⟩ : ByteArray)]) (t := 70) ?hrun ?_
        case hrun => first | (go_simp; done) | (go_simp; rfl)
        intro gq hg w502 hbox hb
        have GQ := Aside0.mk (show w.heap.size ≤ gq from by rw [hg]; exact IV.out.ht.size); have BK := Aside0.mk hbox; have n0 := Aside0.mk (IV.out.below hb); have n1 := Aside0.mk (blk_below BX.out hb); clear IV BX; have IV := n0; have BX := n1; clear n0 n1; clear hb
        clear hbox hg
        refine hK.out _ _ (⟨(blk_cell BX.out 0).trans rfl, (blk_cell BX.out 4).trans rfl, (blk_cell BX.out 1).trans rfl, (blk_cell BX.out 5).trans rfl, (blk_cell BX.out 6).trans rfl, trivial⟩) (fun hHeld => ?_)
        clear hK K
        refine norm_ (a' := ?_) ?_ ?_
        rotate_left
        · show Act.put _ (some 5) _ = _
          simp only [Act.put, List.setIfInBounds_toArray, List.set_cons_zero, List.set_cons_succ, i64_w, i32_w]
          rfl
        refine one_ (i := 12) (N := some 26) #[true, true, true, true, true, true, true, true, true, true, true, true, true, false, false, true, false] rfl rfl (one_of (md := .any) (ops := opsOf Tryz.f21 3) F10tab3 (by kernel_rfl)) (by decide) (fun K hK => ?_)
        refine goes_ Tryz.func31 (by kernel_rfl) rfl #[.slice A6 x.f6.length c6] (by rfl) rfl rfl (by (try simp only [List.map_toArray, List.map_cons, List.map_nil]); first | done | rfl) ?_
        refine (texts_calls base x.f6 A6 c6 _ (Kd.F_now (HX.out.turn IV.out.ht HOS.out).g6) IV.out.hp.base_le (HT.out.on (IV.out.base_below HP.out)) HOK.out.2).mono ?_
        rintro e w503 ⟨rfl, hb⟩
        refine ⟨_, rfl, ?_⟩
        rw [← T6.out]; have n0 := Aside0.mk (IV.out.below hb); have n1 := Aside0.mk (blk_below BX.out hb); clear IV BX; have IV := n0; have BX := n1; clear n0 n1; have n2 := Aside0.mk (blk_below BK.out hb); clear BK; have BK := n2; clear n2; clear hb
        refine hK.out _ _ (⟨(blk_cell BX.out 0).trans rfl, (blk_cell BX.out 4).trans rfl, (blk_cell BX.out 1).trans rfl, (blk_cell BX.out 5).trans rfl, (blk_cell BX.out 6).trans rfl, trivial⟩) (fun hHeld => ?_)
        clear hK K
        refine norm_ (a' := ?_) ?_ ?_
        rotate_left
        · show Act.put _ (some 26) _ = _
          simp only [Act.put, List.setIfInBounds_toArray, List.set_cons_zero, List.set_cons_succ, i64_w, i32_w]
          rfl
        refine pure_ (i := 13) (N := some 27) (v := ?_) (a' := ?_) #[true, true, true, true, true, true, true, true, true, true, true, true, true, true, false, true, false] rfl rfl (any_of (md := .any) (ops := opsOf Tryz.f21 3) F10tab3 (by kernel_rfl)) (fun _ _ _ h => h) (Or.inl ⟨by rfl, ?_⟩) ?_ ?_
        rotate_left
        · intro w'
          go_simp
          rw [if_neg CB.out]
        rotate_left
        · simp only [Act.put, List.setIfInBounds_toArray, List.set_cons_zero, List.set_cons_succ, i64_w, i32_w]
          rfl
        refine pure_ (i := 14) (N := some 28) (v := ?_) (a' := ?_) #[true, true, true, true, true, true, true, true, true, true, true, true, true, true, true, true, false] rfl rfl (any_of (md := .any) (ops := opsOf Tryz.f21 3) F10tab3 (by kernel_rfl)) (fun _ _ _ h => h) (Or.inl ⟨by rfl, ?_⟩) ?_ ?_
        rotate_left
        · intro w'
          go_simp
          with_reducible rfl
        rotate_left
        · simp only [Act.put, List.setIfInBounds_toArray, List.set_cons_zero, List.set_cons_succ, i64_w, i32_w]
          rfl
        refine last_ (i := 16) (N := none) #[true, true, true, true, true, true, true, true, true, true, true, true, true, true, true, true, true] rfl rfl (one_of (md := .any) (ops := opsOf Tryz.f21 3) F10tab3 (by kernel_rfl)) (by decide) (fun K hK => ?_)
        have k0 : w503.cell? ⟨gq, 0, none⟩ = some (.int .i64 0) := (blk_cell BK.out 0).trans rfl
        have k1 : w503.cell? ⟨gq, 1, none⟩ = some (.bool false) := (blk_cell BK.out 1).trans rfl
        have k2 : w503.cell? ⟨gq, 2, none⟩ = some (.string (⟨#[]⟩ : ByteArray)) := (blk_cell BK.out 2).trans rfl
        have k3 : w503.cell? ⟨gq, 3, none⟩ = some (.string (⟨#[]⟩ : ByteArray)) := (blk_cell BK.out 3).trans rfl
        have k4 : w503.cell? ⟨gq, 4, none⟩ = some (.string (⟨#[]⟩ : ByteArray)) := (blk_cell BK.out 4).trans rfl
        have kf0 := blk_frozen BK.out 0
        have kf1 := blk_frozen BK.out 1
        have kf2 := blk_frozen BK.out 2
        have kf3 := blk_frozen BK.out 3
        have kf4 := blk_frozen BK.out 4
        refine skip_ (w1 := set5 w503 gq (.int .i64 x.f0) (.bool x.f4) (.string x.f1) (.string (⟨#[]⟩ : ByteArray)) (.string ((t5 ++ (⟨#[59]⟩ : ByteArray)) ++ t6))) rfl rfl ?hrun ?_
        case hrun => first | (go_simp; done) | (go_simp; rfl)
        refine hK.out _ _ (done_ (done_of (md := .any) (ops := opsOf Tryz.f21 3) F10tab3 (by kernel_rfl)) ?_)
        go_wp2_with fail
        go_meet
        rw [← NT.out]
        exact ⟨gq, rfl, GQ, ⟨set5_blk BK.out⟩, ⟨(set5_other (blk_ne BX.out BK.out (by decide))).trans BX.out⟩, ⟨IV.out.write (set5_turned rfl) GQ.out (IV.out.hp.away BK.out (by decide) (by decide))⟩⟩
    · refine box_step (by rfl) (N := 5) rfl (cs := #[.int .i64 0, .bool false, .string (⟨#[]⟩ : ByteArray), .string (⟨#[]⟩ : ByteArray), .string (⟨#[]⟩ : ByteArray)]) (t := 70) ?hrun ?_
      case hrun => first | (go_simp; done) | (go_simp; rfl)
      intro gq hg w501 hbox hb
      have GQ := Aside0.mk (show w.heap.size ≤ gq from by rw [hg]; exact IV.out.ht.size); have BK := Aside0.mk hbox; have n0 := Aside0.mk (IV.out.below hb); have n1 := Aside0.mk (blk_below BX.out hb); clear IV BX; have IV := n0; have BX := n1; clear n0 n1; clear hb
      clear hbox hg
      refine hK.out _ _ (⟨(blk_cell BX.out 0).trans rfl, (blk_cell BX.out 4).trans rfl, (blk_cell BX.out 1).trans rfl, (blk_cell BX.out 5).trans rfl, (blk_cell BX.out 6).trans rfl, trivial⟩) (fun hHeld => ?_)
      clear hK K
      refine norm_ (a' := ?_) ?_ ?_
      rotate_left
      · show Act.put _ (some 5) _ = _
        simp only [Act.put, List.setIfInBounds_toArray, List.set_cons_zero, List.set_cons_succ, i64_w, i32_w]
        rfl
      refine one_ (i := 8) (N := some 22) #[true, true, true, true, true, true, true, true, true, false, true, true, false, false, false, true, false] rfl rfl (one_of (md := .any) (ops := opsOf Tryz.f21 3) F10tab3 (by kernel_rfl)) (by decide) (fun K hK => ?_)
      refine goes_ Tryz.func31 (by kernel_rfl) rfl #[.slice A5 x.f5.length c5] (by rfl) rfl rfl (by (try simp only [List.map_toArray, List.map_cons, List.map_nil]); first | done | rfl) ?_
      refine (texts_calls base x.f5 A5 c5 _ (Kd.F_now (HX.out.turn IV.out.ht HOS.out).g5) IV.out.hp.base_le (HT.out.on (IV.out.base_below HP.out)) HOK.out.1).mono ?_
      rintro e w502 ⟨rfl, hb⟩
      refine ⟨_, rfl, ?_⟩
      rw [← T5.out]; have n0 := Aside0.mk (IV.out.below hb); have n1 := Aside0.mk (blk_below BX.out hb); clear IV BX; have IV := n0; have BX := n1; clear n0 n1; have n2 := Aside0.mk (blk_below BK.out hb); clear BK; have BK := n2; clear n2; clear hb
      refine hK.out _ _ (⟨(blk_cell BX.out 0).trans rfl, (blk_cell BX.out 4).trans rfl, (blk_cell BX.out 1).trans rfl, (blk_cell BX.out 5).trans rfl, (blk_cell BX.out 6).trans rfl, trivial⟩) (fun hHeld => ?_)
      clear hK K
      refine norm_ (a' := ?_) ?_ ?_
      rotate_left
      · show Act.put _ (some 22) _ = _
        simp only [Act.put, List.setIfInBounds_toArray, List.set_cons_zero, List.set_cons_succ, i64_w, i32_w]
        rfl
      refine pure_ (i := 9) (N := some 23) (v := ?_) (a' := ?_) #[true, true, true, true, true, true, true, true, true, true, true, true, false, false, false, true, false] rfl rfl (any_of (md := .any) (ops := opsOf Tryz.f21 3) F10tab3 (by kernel_rfl)) (fun _ _ _ h => h) (Or.inl ⟨by rfl, ?_⟩) ?_ ?_
      rotate_left
      · intro w'
        go_simp
        rw [if_neg CA.out]
      rotate_left
      · simp only [Act.put, List.setIfInBounds_toArray, List.set_cons_zero, List.set_cons_succ, i64_w, i32_w]
        rfl
      refine one_ (i := 12) (N := some 26) #[true, true, true, true, true, true, true, true, true, true, true, true, true, false, false, true, false] rfl rfl (one_of (md := .any) (ops := opsOf Tryz.f21 3) F10tab3 (by kernel_rfl)) (by decide) (fun K hK => ?_)
      refine goes_ Tryz.func31 (by kernel_rfl) rfl #[.slice A6 x.f6.length c6] (by rfl) rfl rfl (by (try simp only [List.map_toArray, List.map_cons, List.map_nil]); first | done | rfl) ?_
      refine (texts_calls base x.f6 A6 c6 _ (Kd.F_now (HX.out.turn IV.out.ht HOS.out).g6) IV.out.hp.base_le (HT.out.on (IV.out.base_below HP.out)) HOK.out.2).mono ?_
      rintro e w503 ⟨rfl, hb⟩
      refine ⟨_, rfl, ?_⟩
      rw [← T6.out]; have n0 := Aside0.mk (IV.out.below hb); have n1 := Aside0.mk (blk_below BX.out hb); clear IV BX; have IV := n0; have BX := n1; clear n0 n1; have n2 := Aside0.mk (blk_below BK.out hb); clear BK; have BK := n2; clear n2; clear hb
      refine hK.out _ _ (⟨(blk_cell BX.out 0).trans rfl, (blk_cell BX.out 4).trans rfl, (blk_cell BX.out 1).trans rfl, (blk_cell BX.out 5).trans rfl, (blk_cell BX.out 6).trans rfl, trivial⟩) (fun hHeld => ?_)
      clear hK K
      refine norm_ (a' := ?_) ?_ ?_
      rotate_left
      · show Act.put _ (some 26) _ = _
        simp only [Act.put, List.setIfInBounds_toArray, List.set_cons_zero, List.set_cons_succ, i64_w, i32_w]
        rfl
      refine pure_ (i := 13) (N := some 27) (v := ?_) (a' := ?_) #[true, true, true, true, true, true, true, true, true, true, true, true, true, true, false, true, false] rfl rfl (any_of (md := .any) (ops := opsOf Tryz.f21 3) F10tab3 (by kernel_rfl)) (fun _ _ _ h => h) (Or.inl ⟨by rfl, ?_⟩) ?_ ?_
      rotate_left
      · intro w'
        go_simp
        rw [if_neg CB.out]
      rotate_left
      · simp only [Act.put, List.setIfInBounds_toArray, List.set_cons_zero, List.set_cons_succ, i64_w, i32_w]
        rfl
      refine pure_ (i := 14) (N := some 28) (v := ?_) (a' := ?_) #[true, true, true, true, true, true, true, true, true, true, true, true, true, true, true, true, false] rfl rfl (any_of (md := .any) (ops := opsOf Tryz.f21 3) F10tab3 (by kernel_rfl)) (fun _ _ _ h => h) (Or.inl ⟨by rfl, ?_⟩) ?_ ?_
      rotate_left
      · intro w'
        go_simp
        with_reducible rfl
      rotate_left
      · simp only [Act.put, List.setIfInBounds_toArray, List.set_cons_zero, List.set_cons_succ, i64_w, i32_w]
        rfl
      refine last_ (i := 16) (N := none) #[true, true, true, true, true, true, true, true, true, true, true, true, true, true, true, true, true] rfl rfl (one_of (md := .any) (ops := opsOf Tryz.f21 3) F10tab3 (by kernel_rfl)) (by decide) (fun K hK => ?_)
      have k0 : w503.cell? ⟨gq, 0, none⟩ = some (.int .i64 0) := (blk_cell BK.out 0).trans rfl
      have k1 : w503.cell? ⟨gq, 1, none⟩ = some (.bool false) := (blk_cell BK.out 1).trans rfl
      have k2 : w503.cell? ⟨gq, 2, none⟩ = some (.string (⟨#[]⟩ : ByteArray)) := (blk_cell BK.out 2).trans rfl
      have k3 : w503.cell? ⟨gq, 3, none⟩ = some (.string (⟨#[]⟩ : ByteArray)) := (blk_cell BK.out 3).trans rfl
      have k4 : w503.cell? ⟨gq, 4, none⟩ = some (.string (⟨#[]⟩ : ByteArray)) := (blk_cell BK.out 4).trans rfl
      have kf0 := blk_frozen BK.out 0
      have kf1 := blk_frozen BK.out 1
      have kf2 := blk_frozen BK.out 2
      have kf3 := blk_frozen BK.out 3
      have kf4 := blk_frozen BK.out 4
      refine skip_ (w1 := set5 w503 gq (.int .i64 x.f0) (.bool x.f4) (.string x.f1) (.string (⟨#[]⟩ : ByteArray)) (.string ((t5 ++ (⟨#[59]⟩ : ByteArray)) ++ t6))) rfl rfl ?hrun ?_
      case hrun => first | (go_simp; done) | (go_simp; rfl)
      refine hK.out _ _ (done_ (done_of (md := .any) (ops := opsOf Tryz.f21 3) F10tab3 (by kernel_rfl)) ?_)
      go_wp2_with fail
      go_meet
      rw [← NT.out]
      exact ⟨gq, rfl, GQ, ⟨set5_blk BK.out⟩, ⟨(set5_other (blk_ne BX.out BK.out (by decide))).trans BX.out⟩, ⟨IV.out.write (set5_turned rfl) GQ.out (IV.out.hp.away BK.out (by decide) (by decide))⟩⟩
  case rest =>
    clear IV BX hx0 fx0 hx1 fx1 hx2 fx2 hx3 fx3 hx4 fx4 hx5 fx5 hx6 fx6
    obtain ⟨gq, rfl, GQ, BK, BX, IV⟩ := hcut
    have hx2 : wc.cell? ⟨gx, 2, none⟩ = some (.slice A2 x.f2.length c2) := (blk_cell BX.out 2).trans rfl
    have hlb : (x.f2.length : Int) ≤ 1000000 := by have := HL2.out; omega
    go_wp2_with fail
    clear hx2
    go_loopg [6, 32] x.f2.length (fun k' v6 v32 wr => ∃ (i : Nat) (o1 : ByteArray) (s1 : Int) (ks1 : List K5) (zs1 : List Int) (v1 : Value), v6 = .int .i64 s1 ∧ v32 = .int .i64 i ∧ i ≤ x.f2.length ∧ Aside0 (k' + i = x.f2.length) ∧ Aside0 (putL (x.f2.take i) ⟨E0, 1, ks, zs⟩ = ⟨o1, s1, ks1, zs1⟩) ∧ Aside0 (wr.heap[gq]? = some (.cells #[.int .i64 x.f0, .bool x.f4, .string x.f1, .string o1, .string nt] 70 (0, 0))) ∧ Aside0 (wr.heap[gx]? = some (.cells #[.int .i64 x.f0, .string x.f1, .slice A2 x.f2.length c2, .bool x.f3, .bool x.f4, .slice A5 x.f5.length c5, .slice A6 x.f6.length c6] 45 (0, 0))) ∧ Aside0 (PI w wr base ga gm v v1 ks1 zs1))
    case atStart => exact ⟨0, E0, 1, ks, zs, v, rfl, rfl, Nat.zero_le _, ⟨rfl⟩, ⟨rfl⟩, BK, BX, IV⟩
    case round =>
      clear IV BX BK
      obtain ⟨i, o1, s1, ks1, zs1, v1, rfl, rfl, hi, HK, PL, BK, BX, IV⟩ := hrel
      by_cases hlt : i < x.f2.length
      · obtain ⟨y, hy⟩ : ∃ y, y = x.f2[i] := ⟨_, rfl⟩
        have YM : Aside0 (y ∈ x.f2) := ⟨by rw [hy]; exact List.getElem_mem hlt⟩
        obtain ⟨ad, Y2, e2, Y5, e5, Y6, e6, eA, ny, hy0, hy1, hy2, hy3, hy4, hy5, hy6⟩ := elemF (HX.out.turn IV.out.ht HOS.out).g2 i y (by rw [hy, List.getElem?_eq_getElem hlt])
        subst eA
        have NY := Aside0.mk ny
        obtain ⟨⟨id, ks2, zs2⟩, hpv⟩ : ∃ r, putV y ks1 zs1 = r := ⟨_, rfl⟩
        have PV := Aside0.mk hpv
        have PB := Aside0.mk (part_bounds x i hlt ks zs HP.out.hl HN.out HL2.out o1 s1 ks1 zs1 PL.out y hy id ks2 zs2 hpv)
        have NB := Aside0.mk PB.out.1
        obtain ⟨u, hu⟩ : ∃ u, u = itoaB id := ⟨_, rfl⟩
        have HU := Aside0.mk hu
        have CC : Aside0 (¬ (9223372036854775807 < o1.size + u.size)) := ⟨by have := PB.out; rw [← hu] at this; omega⟩
        have CD : Aside0 (¬ (9223372036854775807 < o1.size + u.size + 1)) := ⟨by have := PB.out; rw [← hu] at this; omega⟩
        have HI : Aside0 (-9223372036854775808 ≤ id ∧ id ≤ 9223372036854775807) := ⟨by have := PB.out; omega⟩
        have HW : Aside0 (wrap64 ((i : Int) + 1) = (i : Int) + 1) := ⟨by have := HL2.out; unfold wrap64; omega⟩
        clear ny hpv hu hy
        go_upto_region 9 with (first | ((with_reducible refine gate_dst (N := 8) rfl ?_); (try (refine gate_guard (by rfl) ?_; dsimp only)); refine box_event ?hg (N := 8) ?hd (cs := #[.int .i64 0, .string (⟨#[]⟩ : ByteArray), .slice none 0 0, .bool false, .bool false, .slice none 0 0, .slice none 0 0]) (t := 45) ?hr ?_; (case hd => rfl); (case hg => rfl); (case hr => first | (go_simp; done) | (go_simp; rfl)); intro gy hg w7 hbox hb; have n0 := Aside0.mk (IV.out.below hb); have n1 := Aside0.mk (blk_below BK.out hb); have n2 := Aside0.mk (blk_below BX.out hb); have n3 := Aside0.mk (NY.out.below hb); have BY := Aside0.mk hbox; have GY := Aside0.mk (show w.heap.size ≤ gy from by rw [hg]; exact IV.out.ht.size); have XY := Aside0.mk (show gx ≠ gy from by rw [hg]; exact Nat.ne_of_lt (blk_lt BX.out)); clear IV BK BX NY; have IV := n0; have BK := n1; have BX := n2; have NY := n3; clear n0 n1 n2 n3 hb hg hbox; clear hy0 hy1 hy2 hy3 hy4 hy5 hy6; have hz0 : w7.cell? ⟨gy, 0, none⟩ = some (.int .i64 0) := (blk_cell BY.out 0).trans rfl; have fz0 := blk_frozen BY.out 0; have hz1 : w7.cell? ⟨gy, 1, none⟩ = some (.string (⟨#[]⟩ : ByteArray)) := (blk_cell BY.out 1).trans rfl; have fz1 := blk_frozen BY.out 1; have hz2 : w7.cell? ⟨gy, 2, none⟩ = some (.slice none 0 0) := (blk_cell BY.out 2).trans rfl; have fz2 := blk_frozen BY.out 2; have hz3 : w7.cell? ⟨gy, 3, none⟩ = some (.bool false) := (blk_cell BY.out 3).trans rfl; have fz3 := blk_frozen BY.out 3; have hz4 : w7.cell? ⟨gy, 4, none⟩ = some (.bool false) := (blk_cell BY.out 4).trans rfl; have fz4 := blk_frozen BY.out 4; have hz5 : w7.cell? ⟨gy, 5, none⟩ = some (.slice none 0 0) := (blk_cell BY.out 5).trans rfl; have fz5 := blk_frozen BY.out 5; have hz6 : w7.cell? ⟨gy, 6, none⟩ = some (.slice none 0 0) := (blk_cell BY.out 6).trans rfl; have fz6 := blk_frozen BY.out 6) | ((with_reducible refine gate_store (t := 45) (p := 8) rfl ?_); refine store_event (t := 45) (p := 8) (v := ?vo) (w1 := set7 w7 gy (.int .i64 y.f0) (.string y.f1) (.slice Y2 y.f2.length e2) (.bool y.f3) (.bool y.f4) (.slice Y5 y.f5.length e5) (.slice Y6 y.f6.length e6)) ?hg ?ho ?hn ?hr ?_; (case ho => rfl); (case hg => rfl); (case hn => rfl); (case hr => first | (go_simp; done) | (go_simp; rfl)); intro w8 hw; have tt := Aside0.mk (show Turned w7 w8 (fun k => k = gy) from by rw [hw]; exact set7_turned rfl); have n0 := Aside0.mk (IV.out.write tt.out GY.out (IV.out.hp.away BY.out (by decide) (by decide))); have n1 := Aside0.mk ((tt.out.block gq (blk_lt BK.out) (blk_ne BK.out BY.out (by decide))).trans BK.out); have n2 := Aside0.mk ((tt.out.block gx (blk_lt BX.out) XY.out).trans BX.out); have n3 := Aside0.mk (NY.out.step (fun k hk => tt.out.block k (IV.out.okS HOS.out k hk).1 (fun e => by have h1 := (HOS.out k hk).1; rw [e] at h1; have h2 := GY.out; omega))); have n4 := Aside0.mk (show w8.heap[gy]? = some (.cells #[.int .i64 y.f0, .string y.f1, .slice Y2 y.f2.length e2, .bool y.f3, .bool y.f4, .slice Y5 y.f5.length e5, .slice Y6 y.f6.length e6] 45 (0, 0)) from by rw [hw]; exact set7_blk BY.out); clear IV BK BX NY BY tt hw hz0 fz0 hz1 fz1 hz2 fz2 hz3 fz3 hz4 fz4 hz5 fz5 hz6 fz6; have IV := n0; have BK := n1; have BX := n2; have NY := n3; have BY := n4; clear n0 n1 n2 n3 n4; have hy0 : w8.cell? ⟨gy, 0, none⟩ = some (.int .i64 y.f0) := (blk_cell BY.out 0).trans rfl; have fy0 := blk_frozen BY.out 0; have hy1 : w8.cell? ⟨gy, 1, none⟩ = some (.string y.f1) := (blk_cell BY.out 1).trans rfl; have fy1 := blk_frozen BY.out 1; have hy2 : w8.cell? ⟨gy, 2, none⟩ = some (.slice Y2 y.f2.length e2) := (blk_cell BY.out 2).trans rfl; have fy2 := blk_frozen BY.out 2; have hy3 : w8.cell? ⟨gy, 3, none⟩ = some (.bool y.f3) := (blk_cell BY.out 3).trans rfl; have fy3 := blk_frozen BY.out 3; have hy4 : w8.cell? ⟨gy, 4, none⟩ = some (.bool y.f4) := (blk_cell BY.out 4).trans rfl; have fy4 := blk_frozen BY.out 4; have hy5 : w8.cell? ⟨gy, 5, none⟩ = some (.slice Y5 y.f5.length e5) := (blk_cell BY.out 5).trans rfl; have fy5 := blk_frozen BY.out 5; have hy6 : w8.cell? ⟨gy, 6, none⟩ = some (.slice Y6 y.f6.length e6) := (blk_cell BY.out 6).trans rfl; have fy6 := blk_frozen BY.out 6) | ((with_reducible refine gate_dst (N := 38) rfl ?_); refine goesL_ (some 38) rfl rfl Tryz.func21 (by kernel_rfl) rfl #[.pointer (some ⟨ga, 0, none⟩), .agg #[.int .i64 y.f0, .string y.f1, .slice Y2 y.f2.length e2, .bool y.f3, .bool y.f4, .slice Y5 y.f5.length e5, .slice Y6 y.f6.length e6]] rfl (by (try simp only [List.map_toArray, List.map_cons, List.map_nil]); first | done | rfl) ?_; (refine (putC_of (IH.out y YM.out _ _ _ _ _ _ v1 ks1 zs1 _ NY.out (IV.out.okS HOS.out) IV.out.hp (HT.out.on (IV.out.base_below HP.out)) NB.out) PV.out).mono ?_); (rintro e w9 ⟨v2, rfl, hp2, ht2, ho2⟩; refine ⟨_, rfl, ?_⟩; have n1 := Aside0.mk (turned_blk BK.out IV.out.hp ht2 (by decide) (by decide)); have n2 := Aside0.mk (turned_blk BX.out IV.out.hp ht2 (by decide) (by decide)); have n0 := Aside0.mk (IV.out.call hp2 ht2 ho2); clear IV BK BX NY BY hp2 ht2 ho2 hy0 hy1 hy2 hy3 hy4 hy5 hy6 fy0 fy1 fy2 fy3 fy4 fy5 fy6; have IV := n0; have BK := n1; have BX := n2; clear n0 n1 n2)))
        have n0 := Aside0.mk (IV.out.below (below_drew1 (Below.refl _ _)))
        have n1 := Aside0.mk (blk_below BX.out (below_drew1 (Below.refl _ _)))
        have n2 := Aside0.mk (blk_below BK.out (below_drew1 (Below.refl _ _)))
        clear IV BX BK
        have IV := n0
        have BX := n1
        have BK := n2
        clear n0 n1 n2
        refine start_ (n := 8) (S := fun w' => w'.cell? ⟨gq, 3, none⟩ = some (.string o1) ∧ True) (ds := [7]) #[false, false, false, false, false, false, false, false] (by kernel_rfl) rfl rfl (⟨(blk_cell BK.out 3).trans rfl, trivial⟩) (fun hHeld => ?_)
        generalize World.drew _ = w600 at IV BX BK hHeld ⊢
        refine pure_ (i := 0) (N := some 39) (v := ?_) (a' := ?_) #[true, false, false, false, false, false, false, false] rfl rfl (any_of (md := .any) (ops := opsOf Tryz.f21 9) F10tab9 (by kernel_rfl)) (fun _ _ _ h => h) (Or.inl ⟨by rfl, ?_⟩) ?_ ?_
        rotate_left
        · intro w'
          go_simp
          with_reducible rfl
        rotate_left
        · simp only [Act.put, List.setIfInBounds_toArray, List.set_cons_zero, List.set_cons_succ, i64_w, i32_w]
          rfl
        refine take_ (i := 1) (N := some 40) (v := ?_) (a' := ?_) #[true, true, false, false, false, false, false, false] rfl rfl (take_of (md := .any) (ops := opsOf Tryz.f21 9) F10tab9 (by kernel_rfl)) (fun _ _ _ h => h) (Or.inl ⟨by rfl, ?_⟩) hHeld ?_ ?_
        rotate_left
        · rintro w' ⟨s0, s1⟩
          go_simp
          with_reducible rfl
        rotate_left
        · simp only [Act.put, List.setIfInBounds_toArray, List.set_cons_zero, List.set_cons_succ, i64_w, i32_w]
          rfl
        refine pure_ (i := 2) (N := some 41) (v := ?_) (a' := ?_) #[true, true, true, false, false, false, false, false] rfl rfl (any_of (md := .any) (ops := opsOf Tryz.f21 9) F10tab9 (by kernel_rfl)) (fun _ _ _ h => h) (Or.inl ⟨by rfl, ?_⟩) ?_ ?_
        rotate_left
        · intro w'
          go_simp
          with_reducible rfl
        rotate_left
        · simp only [Act.put, List.setIfInBounds_toArray, List.set_cons_zero, List.set_cons_succ, i64_w, i32_w]
          rfl
        refine one_ (i := 3) (N := some 42) #[true, true, true, true, false, false, false, false] rfl rfl (one_of (md := .any) (ops := opsOf Tryz.f21 9) F10tab9 (by kernel_rfl)) (by decide) (fun K hK => ?_)
        refine goes_ Tryz.func32 (by kernel_rfl) rfl #[.int .i64 id] (by rfl) rfl rfl (by (try simp only [List.map_toArray, List.map_cons, List.map_nil]); first | done | rfl) ?_
        refine ((HT.out.on (IV.out.base_below HP.out)).here id HI.out.1 HI.out.2).mono ?_
        rintro e w601 ⟨rfl, hb⟩
        refine ⟨_, rfl, ?_⟩
        rw [← HU.out]; have n0 := Aside0.mk (IV.out.below hb); have n1 := Aside0.mk (blk_below BX.out hb); clear IV BX; have IV := n0; have BX := n1; clear n0 n1; have n2 := Aside0.mk (blk_below BK.out hb); clear BK; have BK := n2; clear n2; clear hb
        refine hK.out _ _ (⟨(blk_cell BK.out 3).trans rfl, trivial⟩) (fun hHeld => ?_)
        clear hK K
        refine norm_ (a' := ?_) ?_ ?_
        rotate_left
        · show Act.put _ (some 42) _ = _
          simp only [Act.put, List.setIfInBounds_toArray, List.set_cons_zero, List.set_cons_succ, i64_w, i32_w]
          rfl
        refine pure_ (i := 4) (N := some 43) (v := ?_) (a' := ?_) #[true, true, true, true, true, false, false, false] rfl rfl (any_of (md := .any) (ops := opsOf Tryz.f21 9) F10tab9 (by kernel_rfl)) (fun _ _ _ h => h) (Or.inl ⟨by rfl, ?_⟩) ?_ ?_
        rotate_left
        · intro w'
          go_simp
          rw [if_neg CC.out]
        rotate_left
        · simp only [Act.put, List.setIfInBounds_toArray, List.set_cons_zero, List.set_cons_succ, i64_w, i32_w]
          rfl
        refine pure_ (i := 5) (N := some 44) (v := ?_) (a' := ?_) #[true, true, true, true, true, true, false, false] rfl rfl (any_of (md := .any) (ops := opsOf Tryz.f21 9) F10tab9 (by kernel_rfl)) (fun _ _ _ h => h) (Or.inl ⟨by rfl, ?_⟩) ?_ ?_
        rotate_left
        · intro w'
          go_simp
          rw [if_neg CD.out]
        rotate_left
        · simp only [Act.put, List.setIfInBounds_toArray, List.set_cons_zero, List.set_cons_succ, i64_w, i32_w]
          rfl
        refine pure_ (i := 6) (N := some 45) (v := ?_) (a' := ?_) #[true, true, true, true, true, true, true, false] rfl rfl (any_of (md := .any) (ops := opsOf Tryz.f21 9) F10tab9 (by kernel_rfl)) (fun _ _ _ h => h) (Or.inl ⟨by rfl, ?_⟩) ?_ ?_
        rotate_left
        · intro w'
          go_simp
          with_reducible rfl
        rotate_left
        · simp only [Act.put, List.setIfInBounds_toArray, List.set_cons_zero, List.set_cons_succ, i64_w, i32_w]
          rfl
        refine last_ (i := 7) (N := none) #[true, true, true, true, true, true, true, true] rfl rfl (one_of (md := .any) (ops := opsOf Tryz.f21 9) F10tab9 (by kernel_rfl)) (by decide) (fun K hK => ?_)
        have k3 : w601.cell? ⟨gq, 3, none⟩ = some (.string o1) := (blk_cell BK.out 3).trans rfl
        have kf3 := blk_frozen BK.out 3
        refine skip_ (w1 := w601.setCell ⟨gq, 3, none⟩ (.string ((o1 ++ u) ++ (⟨#[44]⟩ : ByteArray)))) rfl rfl ?hrun ?_
        case hrun => first | (go_simp; done) | (go_simp; rfl)
        refine hK.out _ _ (done_ (done_of (md := .any) (ops := opsOf Tryz.f21 9) F10tab9 (by kernel_rfl)) ?_)
        have n0 := Aside0.mk (IV.out.write (setCell_turned (g := gq) (j := 3) (u := .string ((o1 ++ u) ++ (⟨#[44]⟩ : ByteArray))) rfl) GQ.out (IV.out.hp.away BK.out (by decide) (by decide)))
        have n1 := Aside0.mk (blk_put BK.out 3 (.string ((o1 ++ u) ++ (⟨#[44]⟩ : ByteArray))) (cs' := #[.int .i64 x.f0, .bool x.f4, .string x.f1, .string ((o1 ++ u) ++ (⟨#[44]⟩ : ByteArray)), .string nt]) rfl)
        have n2 := Aside0.mk (blk_far BX.out (p := ⟨gq, 3, none⟩) (blk_ne BX.out BK.out (by decide)) (.string ((o1 ++ u) ++ (⟨#[44]⟩ : ByteArray))))
        clear IV BK BX k3 kf3 hHeld hK K
        have IV := n0
        have BK := n1
        have BX := n2
        clear n0 n1 n2
        generalize World.setCell _ _ _ = w700 at IV BK BX ⊢
        obtain ⟨A7, c7, ev7⟩ := Kd.R_slice IV.out.hp.pz
        have hpa7 := IV.out.hp.pa
        have hpz7 := IV.out.hp.pz
        rw [ev7] at hpa7 hpz7
        have q7 : w700.cell? ⟨ga, 1, none⟩ = some (.slice A7 zs2.length c7) := (blk_cell hpa7 1).trans rfl
        obtain ⟨j, hj⟩ : ∃ j : Nat, id = (j : Int) + 1 := ⟨(id - 1).toNat, by have := PB.out; omega⟩
        have hjl : j < zs2.length := by have := PB.out; omega
        obtain ⟨ad7, ea7, hc7⟩ := int_at (Kd.R_reads' hpz7).2.2 j hjl
        subst ea7
        have hw7 : wrap64 (id - 1) = (j : Int) := by have := PB.out; unfold wrap64; omega
        obtain ⟨z7, hz7⟩ : ∃ z, z = zs2[j] := ⟨_, rfl⟩
        rw [← hz7] at hc7
        have SZ := Aside0.mk (szAt_eq hj hjl hz7)
        have HWo := HW.out
        clear ev7 hpa7 hpz7 hj hz7
        go_wp2_with fail
        go_roundg (x.f2.length - (i + 1))
        case measure => have := HK.out; omega
        case rel => exact ⟨i + 1, ((o1 ++ u) ++ (⟨#[44]⟩ : ByteArray)), wrap64 (s1 + z7), ks2, zs2, v2, rfl, by simp, by omega, ⟨by have := HK.out; omega⟩, ⟨by rw [PB.out.2.2.2.2.2.2.2, SZ.out, HU.out]⟩, BK, BX, IV⟩
      · obtain rfl : i = x.f2.length := by omega
        rw [List.take_length] at PL
        obtain ⟨kk, hkk⟩ : ∃ k, k = keyV x o1 := ⟨_, rfl⟩
        have KKE := Aside0.mk (show kk = (⟨x.f0, x.f4, x.f1, o1, nt⟩ : K5) from by rw [hkk, NT.out, T5.out, T6.out]; rfl)
        go_upto_region 12 with (fail)
        have n0 := Aside0.mk (IV.out.below (below_drew1 (Below.refl _ _)))
        have n2 := Aside0.mk (blk_below BK.out (below_drew1 (Below.refl _ _)))
        clear IV BX BK
        have IV := n0
        have BK := n2
        clear n0 n2
        cases hix : idxOf kk ks1 0 with
        | some j =>
          have PE := Aside0.mk (show putV x ks zs = (((j + 1 : Nat) : Int), ks1, zs1) from by rw [putV_eq, PL.out]; show putEnd x ⟨o1, s1, ks1, zs1⟩ = _; unfold putEnd; simp only; rw [← hkk, hix])
          have LK : Aside0 (∀ w', MapAt w' gm ks1 → (Instr.lookup 65 (.map (some gm)) (.agg #[.int .i64 x.f0, .bool x.f4, .string x.f1, .string o1, .string nt]) true).run Tryz.prog w' = .ok (.tuple #[.int .i64 ((j + 1 : Nat) : Int), .bool true]) w') := ⟨fun w' h => by have h1 := run_look h kk; rw [KKE.out] at h1; have h2 : lookV ⟨x.f0, x.f4, x.f1, o1, nt⟩ ks1 = .tuple #[.int .i64 ((j + 1 : Nat) : Int), .bool true] := (by rw [← KKE.out]; unfold lookV; rw [hix]); rw [h2] at h1; exact h1⟩
          clear hkk hix
          refine start_ (n := 11) (S := fun w' => w'.cell? ⟨ga, 0, none⟩ = some (.map (some gm)) ∧ w'.cell? ⟨gq, 0, none⟩ = some (.int .i64 x.f0) ∧ w'.cell? ⟨gq, 1, none⟩ = some (.bool x.f4) ∧ w'.cell? ⟨gq, 2, none⟩ = some (.string x.f1) ∧ w'.cell? ⟨gq, 3, none⟩ = some (.string o1) ∧ w'.cell? ⟨gq, 4, none⟩ = some (.string nt) ∧ (Instr.lookup 65 (.map (some gm)) (.agg #[.int .i64 x.f0, .bool x.f4, .string x.f1, .string o1, .string nt]) true).run Tryz.prog w' = .ok (.tuple #[.int .i64 ((j + 1 : Nat) : Int), .bool true]) w' ∧ True) (ds := []) #[false, false, false, false, false, false, false, false, false, false, false] (by kernel_rfl) rfl rfl (⟨(blk_cell IV.out.hp.pa 0).trans rfl, (blk_cell BK.out 0).trans rfl, (blk_cell BK.out 1).trans rfl, (blk_cell BK.out 2).trans rfl, (blk_cell BK.out 3).trans rfl, (blk_cell BK.out 4).trans rfl, LK.out _ IV.out.hp.pm, trivial⟩) (fun hHeld => ?_)
          generalize World.drew _ = w800 at IV BK hHeld ⊢
          refine pure_ (i := 0) (N := some 58) (v := ?_) (a' := ?_) #[true, false, false, false, false, false, false, false, false, false, false] rfl rfl (any_of (md := .any) (ops := opsOf Tryz.f21 12) F10tab12 (by kernel_rfl)) (fun _ _ _ h => h) (Or.inl ⟨by rfl, ?_⟩) ?_ ?_
          rotate_left
          · intro w'
            go_simp
            with_reducible rfl
          rotate_left
          · simp only [Act.put, List.setIfInBounds_toArray, List.set_cons_zero, List.set_cons_succ, i64_w, i32_w]
            rfl
          refine pure_ (i := 1) (N := some 59) (v := ?_) (a' := ?_) #[true, true, false, false, false, false, false, false, false, false, false] rfl rfl (any_of (md := .any) (ops := opsOf Tryz.f21 12) F10tab12 (by kernel_rfl)) (fun _ _ _ h => h) (Or.inl ⟨by rfl, ?_⟩) ?_ ?_
          rotate_left
          · intro w'
            go_simp
            with_reducible rfl
          rotate_left
          · simp only [Act.put, List.setIfInBounds_toArray, List.set_cons_zero, List.set_cons_succ, i64_w, i32_w]
            rfl
          refine pure_ (i := 2) (N := some 60) (v := ?_) (a' := ?_) #[true, true, true, false, false, false, false, false, false, false, false] rfl rfl (any_of (md := .any) (ops := opsOf Tryz.f21 12) F10tab12 (by kernel_rfl)) (fun _ _ _ h => h) (Or.inl ⟨by rfl, ?_⟩) ?_ ?_
          rotate_left
          · intro w'
            go_simp
            with_reducible rfl
          rotate_left
          · simp only [Act.put, List.setIfInBounds_toArray, List.set_cons_zero, List.set_cons_succ, i64_w, i32_w]
            rfl
          refine take_ (i := 3) (N := some 61) (v := ?_) (a' := ?_) #[true, true, true, true, false, false, false, false, false, false, false] rfl rfl (take_of (md := .any) (ops := opsOf Tryz.f21 12) F10tab12 (by kernel_rfl)) (fun _ _ _ h => h) (Or.inl ⟨by rfl, ?_⟩) hHeld ?_ ?_
          rotate_left
          · rintro w' ⟨s0, s1, s2, s3, s4, s5, s6, s7⟩
            go_simp
            with_reducible rfl
          rotate_left
          · simp only [Act.put, List.setIfInBounds_toArray, List.set_cons_zero, List.set_cons_succ, i64_w, i32_w]
            rfl
          refine take_ (i := 4) (N := some 62) (v := ?_) (a' := ?_) #[true, true, true, true, true, false, false, false, false, false, false] rfl rfl (take_of (md := .any) (ops := opsOf Tryz.f21 12) F10tab12 (by kernel_rfl)) (fun _ _ _ h => h) (Or.inl ⟨by rfl, ?_⟩) hHeld ?_ ?_
          rotate_left
          · rintro w' ⟨s0, s1, s2, s3, s4, s5, s6, s7⟩
            go_simp
            with_reducible rfl
          rotate_left
          · simp only [Act.put, List.setIfInBounds_toArray, List.set_cons_zero, List.set_cons_succ, i64_w, i32_w]
            rfl
          refine take_ (i := 5) (N := some 63) (v := ?_) (a' := ?_) #[true, true, true, true, true, true, false, false, false, false, false] rfl rfl (take_of (md := .any) (ops := opsOf Tryz.f21 12) F10tab12 (by kernel_rfl)) (fun _ _ _ h => h) (Or.inl ⟨by rfl, ?_⟩) hHeld ?_ ?_
          rotate_left
          · rintro w' ⟨s0, s1, s2, s3, s4, s5, s6, s7⟩
            go_simp
            with_reducible rfl
          rotate_left
          · simp only [Act.put, List.setIfInBounds_toArray, List.set_cons_zero, List.set_cons_succ, i64_w, i32_w]
            rfl
          refine pure_ (i := 6) (N := some 57) (v := ?_) (a' := ?_) #[true, true, true, true, true, true, true, false, false, false, false] rfl rfl (any_of (md := .any) (ops := opsOf Tryz.f21 12) F10tab12 (by kernel_rfl)) (fun _ _ _ h => h) (Or.inl ⟨by rfl, ?_⟩) ?_ ?_
          rotate_left
          · intro w'
            go_simp
            with_reducible rfl
          rotate_left
          · simp only [Act.put, List.setIfInBounds_toArray, List.set_cons_zero, List.set_cons_succ, i64_w, i32_w]
            rfl
          refine pure_ (i := 7) (N := some 64) (v := ?_) (a' := ?_) #[true, true, true, true, true, true, true, true, false, false, false] rfl rfl (any_of (md := .any) (ops := opsOf Tryz.f21 12) F10tab12 (by kernel_rfl)) (fun _ _ _ h => h) (Or.inl ⟨by rfl, ?_⟩) ?_ ?_
          rotate_left
          · intro w'
            go_simp
            with_reducible rfl
          rotate_left
          · simp only [Act.put, List.setIfInBounds_toArray, List.set_cons_zero, List.set_cons_succ, i64_w, i32_w]
            rfl
          refine pure_ (i := 8) (N := some 65) (v := ?_) (a' := ?_) #[true, true, true, true, true, true, true, true, true, false, false] rfl rfl (any_of (md := .any) (ops := opsOf Tryz.f21 12) F10tab12 (by kernel_rfl)) (fun _ _ _ h => h) (Or.inl ⟨by rfl, ?_⟩) ?_ ?_
          rotate_left
          · intro w'
            go_simp
            with_reducible rfl
          rotate_left
          · simp only [Act.put, List.setIfInBounds_toArray, List.set_cons_zero, List.set_cons_succ, i64_w, i32_w]
            rfl
          refine pure_ (i := 9) (N := some 10) (v := ?_) (a' := ?_) #[true, true, true, true, true, true, true, true, true, true, false] rfl rfl (any_of (md := .any) (ops := opsOf Tryz.f21 12) F10tab12 (by kernel_rfl)) (fun _ _ _ h => h) (Or.inl ⟨by rfl, ?_⟩) ?_ ?_
          rotate_left
          · intro w'
            go_simp
            with_reducible rfl
          rotate_left
          · simp only [Act.put, List.setIfInBounds_toArray, List.set_cons_zero, List.set_cons_succ, i64_w, i32_w]
            rfl
          refine pure_ (i := 10) (N := some 11) (v := ?_) (a' := ?_) #[true, true, true, true, true, true, true, true, true, true, true] rfl rfl (any_of (md := .any) (ops := opsOf Tryz.f21 12) F10tab12 (by kernel_rfl)) (fun _ _ _ h => h) (Or.inl ⟨by rfl, ?_⟩) ?_ ?_
          rotate_left
          · intro w'
            go_simp
            with_reducible rfl
          rotate_left
          · simp only [Act.put, List.setIfInBounds_toArray, List.set_cons_zero, List.set_cons_succ, i64_w, i32_w]
            rfl
          refine done_ (done_of (md := .any) (ops := opsOf Tryz.f21 12) F10tab12 (by kernel_rfl)) ?_
          clear hHeld
          go_wp2_with fail
          go_ret
          exact ⟨v1, by rw [PE.out]; rfl, by rw [PE.out]; exact IV.out.hp, IV.out.ht, IV.out.ho⟩
        | none =>
          have PE := Aside0.mk (show putV x ks zs = (((ks1.length + 1 : Nat) : Int), ks1 ++ [kk], zs1 ++ [s1]) from by rw [putV_eq, PL.out]; show putEnd x ⟨o1, s1, ks1, zs1⟩ = _; unfold putEnd; simp only; rw [← hkk, hix])
          have LK : Aside0 (∀ w', MapAt w' gm ks1 → (Instr.lookup 65 (.map (some gm)) (.agg #[.int .i64 x.f0, .bool x.f4, .string x.f1, .string o1, .string nt]) true).run Tryz.prog w' = .ok (.tuple #[.int .i64 0, .bool false]) w') := ⟨fun w' h => by have h1 := run_look h kk; rw [KKE.out] at h1; have h2 : lookV ⟨x.f0, x.f4, x.f1, o1, nt⟩ ks1 = .tuple #[.int .i64 0, .bool false] := (by rw [← KKE.out]; unfold lookV; rw [hix]); rw [h2] at h1; exact h1⟩
          have NX := Aside0.mk hix
          have GL := Aside0.mk (putL_good x.f2 ⟨E0, 1, ks, zs⟩ HP.out.hl)
          rw [PL.out] at GL
          clear hkk hix
          refine start_ (n := 11) (S := fun w' => w'.cell? ⟨ga, 0, none⟩ = some (.map (some gm)) ∧ w'.cell? ⟨gq, 0, none⟩ = some (.int .i64 x.f0) ∧ w'.cell? ⟨gq, 1, none⟩ = some (.bool x.f4) ∧ w'.cell? ⟨gq, 2, none⟩ = some (.string x.f1) ∧ w'.cell? ⟨gq, 3, none⟩ = some (.string o1) ∧ w'.cell? ⟨gq, 4, none⟩ = some (.string nt) ∧ (Instr.lookup 65 (.map (some gm)) (.agg #[.int .i64 x.f0, .bool x.f4, .string x.f1, .string o1, .string nt]) true).run Tryz.prog w' = .ok (.tuple #[.int .i64 0, .bool false]) w' ∧ True) (ds := []) #[false, false, false, false, false, false, false, false, false, false, false] (by kernel_rfl) rfl rfl (⟨(blk_cell IV.out.hp.pa 0).trans rfl, (blk_cell BK.out 0).trans rfl, (blk_cell BK.out 1).trans rfl, (blk_cell BK.out 2).trans rfl, (blk_cell BK.out 3).trans rfl, (blk_cell BK.out 4).trans rfl, LK.out _ IV.out.hp.pm, trivial⟩) (fun hHeld => ?_)
          generalize World.drew _ = w800 at IV BK hHeld ⊢
          refine pure_ (i := 0) (N := some 58) (v := ?_) (a' := ?_) #[true, false, false, false, false, false, false, false, false, false, false] rfl rfl (any_of (md := .any) (ops := opsOf Tryz.f21 12) F10tab12 (by kernel_rfl)) (fun _ _ _ h => h) (Or.inl ⟨by rfl, ?_⟩) ?_ ?_
          rotate_left
          · intro w'
            go_simp
            with_reducible rfl
          rotate_left
          · simp only [Act.put, List.setIfInBounds_toArray, List.set_cons_zero, List.set_cons_succ, i64_w, i32_w]
            rfl
          refine pure_ (i := 1) (N := some 59) (v := ?_) (a' := ?_) #[true, true, false, false, false, false, false, false, false, false, false] rfl rfl (any_of (md := .any) (ops := opsOf Tryz.f21 12) F10tab12 (by kernel_rfl)) (fun _ _ _ h => h) (Or.inl ⟨by rfl, ?_⟩) ?_ ?_
          rotate_left
          · intro w'
            go_simp
            with_reducible rfl
          rotate_left
          · simp only [Act.put, List.setIfInBounds_toArray, List.set_cons_zero, List.set_cons_succ, i64_w, i32_w]
            rfl
          refine pure_ (i := 2) (N := some 60) (v := ?_) (a' := ?_) #[true, true, true, false, false, false, false, false, false, false, false] rfl rfl (any_of (md := .any) (ops := opsOf Tryz.f21 12) F10tab12 (by kernel_rfl)) (fun _ _ _ h => h) (Or.inl ⟨by rfl, ?_⟩) ?_ ?_
          rotate_left
          · intro w'
            go_simp
            with_reducible rfl
          rotate_left
          · simp only [Act.put, List.setIfInBounds_toArray, List.set_cons_zero, List.set_cons_succ, i64_w, i32_w]
            rfl
          refine take_ (i := 3) (N := some 61) (v := ?_) (a' := ?_) #[true, true, true, true, false, false, false, false, false, false, false] rfl rfl (take_of (md := .any) (ops := opsOf Tryz.f21 12) F10tab12 (by kernel_rfl)) (fun _ _ _ h => h) (Or.inl ⟨by rfl, ?_⟩) hHeld ?_ ?_
          rotate_left
          · rintro w' ⟨s0, s1, s2, s3, s4, s5, s6, s7⟩
            go_simp
            with_reducible rfl
          rotate_left
          · simp only [Act.put, List.setIfInBounds_toArray, List.set_cons_zero, List.set_cons_succ, i64_w, i32_w]
            rfl
          refine take_ (i := 4) (N := some 62) (v := ?_) (a' := ?_) #[true, true, true, true, true, false, false, false, false, false, false] rfl rfl (take_of (md := .any) (ops := opsOf Tryz.f21 12) F10tab12 (by kernel_rfl)) (fun _ _ _ h => h) (Or.inl ⟨by rfl, ?_⟩) hHeld ?_ ?_
          rotate_left
          · rintro w' ⟨s0, s1, s2, s3, s4, s5, s6, s7⟩
            go_simp
            with_reducible rfl
          rotate_left
          · simp only [Act.put, List.setIfInBounds_toArray, List.set_cons_zero, List.set_cons_succ, i64_w, i32_w]
            rfl
          refine take_ (i := 5) (N := some 63) (v := ?_) (a' := ?_) #[true, true, true, true, true, true, false, false, false, false, false] rfl rfl (take_of (md := .any) (ops := opsOf Tryz.f21 12) F10tab12 (by kernel_rfl)) (fun _ _ _ h => h) (Or.inl ⟨by rfl, ?_⟩) hHeld ?_ ?_
          rotate_left
          · rintro w' ⟨s0, s1, s2, s3, s4, s5, s6, s7⟩
            go_simp
            with_reducible rfl
          rotate_left
          · simp only [Act.put, List.setIfInBounds_toArray, List.set_cons_zero, List.set_cons_succ, i64_w, i32_w]
            rfl
          refine pure_ (i := 6) (N := some 57) (v := ?_) (a' := ?_) #[true, true, true, true, true, true, true, false, false, false, false] rfl rfl (any_of (md := .any) (ops := opsOf Tryz.f21 12) F10tab12 (by kernel_rfl)) (fun _ _ _ h => h) (Or.inl ⟨by rfl, ?_⟩) ?_ ?_
          rotate_left
          · intro w'
            go_simp
            with_reducible rfl
          rotate_left
          · simp only [Act.put, List.setIfInBounds_toArray, List.set_cons_zero, List.set_cons_succ, i64_w, i32_w]
            rfl
          refine pure_ (i := 7) (N := some 64) (v := ?_) (a' := ?_) #[true, true, true, true, true, true, true, true, false, false, false] rfl rfl (any_of (md := .any) (ops := opsOf Tryz.f21 12) F10tab12 (by kernel_rfl)) (fun _ _ _ h => h) (Or.inl ⟨by rfl, ?_⟩) ?_ ?_
          rotate_left
          · intro w'
            go_simp
            with_reducible rfl
          rotate_left
          · simp only [Act.put, List.setIfInBounds_toArray, List.set_cons_zero, List.set_cons_succ, i64_w, i32_w]
            rfl
          refine pure_ (i := 8) (N := some 65) (v := ?_) (a' := ?_) #[true, true, true, true, true, true, true, true, true, false, false] rfl rfl (any_of (md := .any) (ops := opsOf Tryz.f21 12) F10tab12 (by kernel_rfl)) (fun _ _ _ h => h) (Or.inl ⟨by rfl, ?_⟩) ?_ ?_
          rotate_left
          · intro w'
            go_simp
            with_reducible rfl
          rotate_left
          · simp only [Act.put, List.setIfInBounds_toArray, List.set_cons_zero, List.set_cons_succ, i64_w, i32_w]
            rfl
          refine pure_ (i := 9) (N := some 10) (v := ?_) (a' := ?_) #[true, true, true, true, true, true, true, true, true, true, false] rfl rfl (any_of (md := .any) (ops := opsOf Tryz.f21 12) F10tab12 (by kernel_rfl)) (fun _ _ _ h => h) (Or.inl ⟨by rfl, ?_⟩) ?_ ?_
          rotate_left
          · intro w'
            go_simp
            with_reducible rfl
          rotate_left
          · simp only [Act.put, List.setIfInBounds_toArray, List.set_cons_zero, List.set_cons_succ, i64_w, i32_w]
            rfl
          refine pure_ (i := 10) (N := some 11) (v := ?_) (a' := ?_) #[true, true, true, true, true, true, true, true, true, true, true] rfl rfl (any_of (md := .any) (ops := opsOf Tryz.f21 12) F10tab12 (by kernel_rfl)) (fun _ _ _ h => h) (Or.inl ⟨by rfl, ?_⟩) ?_ ?_
          rotate_left
          · intro w'
            go_simp
            with_reducible rfl
          rotate_left
          · simp only [Act.put, List.setIfInBounds_toArray, List.set_cons_zero, List.set_cons_succ, i64_w, i32_w]
            rfl
          refine done_ (done_of (md := .any) (ops := opsOf Tryz.f21 12) F10tab12 (by kernel_rfl)) ?_
          clear hHeld
          obtain ⟨A7, c7, ev7⟩ := Kd.R_slice IV.out.hp.pz
          subst ev7
          have PA := Aside0.mk IV.out.hp.pa
          have PM := Aside0.mk IV.out.hp.pm
          have PZ := Aside0.mk IV.out.hp.pz
          have TU := Aside0.mk IV.out.ht
          have HO := Aside0.mk IV.out.ho
          have HBB := Aside0.mk (IV.out.base_below HP.out)
          have HBS := Aside0.mk IV.out.hp.base_le
          have LZ : Aside0 (zs1.length ≤ 1000000) := ⟨by have h1 := GL.out; have h2 := HN.out; have h3 : (pre x).length = (preL x.f2).length + 1 := (by rw [pre_eq]; simp); simp only at h1; omega⟩
          have LKZ := Aside0.mk IV.out.hp.hl
          clear IV
          have q1 : w800.cell? ⟨ga, 1, none⟩ = some (.slice A7 zs1.length c7) := (blk_cell PA.out 1).trans rfl
          have f1 := blk_frozen PA.out 1
          go_upto_region 15 with (first | ((with_reducible refine gate_dst (N := 74) rfl ?_); refine Kd.R_lit (Kd.int .i64) (w0 := w) base 3 ?hg (N := 74) ?hd (xs := [s1]) (inner := [.int .i64 s1]) (ok := (fun k_ => base ≤ k_)) (okp := fun _ => False) ?hr ?hp (fun _ hk => hk.elim) ?hfr HBB.out HBS.out (by simp) ?_; (case hd => rfl); (case hg => rfl); (case hr => first | (go_simp; done) | (go_simp; rfl)); (case hp => exact Reps.one (show Kd.M (Kd.int .i64) _ _ _ s1 [.int .i64 s1] from rfl) (Reps.none _ _)); (case hfr => exact HBS.out); intro v74 w74 hr_ hb_ hgr hat; have R74 := Aside0.mk hr_; obtain ⟨A74, c74, e74⟩ := Kd.R_slice hr_; subst e74; have n0 := Aside0.mk (blk_grown PA.out hgr (by simp)); have n1 := Aside0.mk (PM.out.below (hgr.block gm PM.out.lt (by simp))); have n4 := Aside0.mk (blk_grown BK.out hgr (by simp)); have n2 := Aside0.mk (Kd.R_grown PZ.out hgr (fun _ _ => by simp)); have n3 := Aside0.mk (TU.out.trans (S' := fun _ => False) (Turned.of_below ⟨hgr.os, hgr.tape, hgr.output, hgr.size, fun k hk => hgr.block k hk (by simp)⟩) (fun _ _ h => h.elim)); have n5 := Aside0.mk (Nat.le_trans HBS.out hgr.size); clear PA PM PZ TU BK HBB HBS q1 f1 hr_ hat hgr; have PA := n0; have PM := n1; have PZ := n2; have TU := n3; have BK := n4; have HBB := Aside0.mk hb_; have HBS := n5; clear n0 n1 n2 n3 n4 n5 hb_; have q1 : w74.cell? ⟨ga, 1, none⟩ = some (.slice A7 zs1.length c7) := (blk_cell PA.out 1).trans rfl; have f1 := blk_frozen PA.out 1) | ((with_reducible refine gate_dst (N := 75) rfl ?_); refine Kd.R_append_rows (Kd.int .i64) (w0 := w) base rfl (.tmp 72) (.tmp 74) 22 3 (.int .i64 0) 8 rfl Tryz.underlying22 info3 rfl (by decide) (by omega) (.slice A7 zs1.length c7) zs1 [s1] A74 _ c74 (fun k_ => base ≤ k_) (fun _ => False) rfl rfl PZ.out (Kd.R_reads' R74.out).2.2 (fun _ _ h => h) (fun _ h => h.elim) ?fr HBB.out HBS.out ?ln ?_; (case fr => exact fun k_ hk => Nat.le_trans HBS.out hk); (case ln => have hl_ := LZ.out; simp only [List.length_cons, List.length_nil]; omega); intro v75 w75 hr_ hb_ hgr hat; have PZ8 := Aside0.mk hr_; obtain ⟨A8, c8, e8⟩ := Kd.R_slice hr_; subst e8; have n0 := Aside0.mk (blk_grown PA.out hgr (Kd.R_ne PZ.out PA.out (by decide))); have n1 := Aside0.mk (PM.out.below (hgr.block gm PM.out.lt (fun e => by obtain ⟨es_, c_, hg_, _⟩ := PM.out; obtain ⟨cl_, hc_⟩ := Kd.R_typed PZ.out gm e.symm; rw [hg_] at hc_; cases hc_))); have n4 := Aside0.mk (blk_grown BK.out hgr (Kd.R_ne PZ.out BK.out (by decide))); have NGM := Aside0.mk (show ga ≠ gm from fun e => by obtain ⟨es_, c_, hg_, _⟩ := PM.out; have hp_ := PA.out; rw [e, hg_] at hp_; cases hp_); have n3 := Aside0.mk (TU.out.trans (S' := fun k => some k = (Value.slice A7 zs1.length c7).ownBlock) ⟨hgr.os, hgr.tape, hgr.output, hgr.size, fun k hk hn => hgr.block k hk hn⟩ (fun i_ hi_ hs_ => HO.out.elim (fun e => Or.inr (Or.inr (by rw [← e]; exact hs_))) (fun ⟨b, e, hb⟩ => by rw [e] at hs_; injection hs_ with hs_; omega))); have HO8 := Aside0.mk (show (Value.slice A8 (zs1 ++ [s1]).length c8).ownBlock = v.ownBlock ∨ ∃ b, (Value.slice A8 (zs1 ++ [s1]).length c8).ownBlock = some b ∧ w.heap.size ≤ b from hat.elim (fun e => by rw [e]; exact HO.out) (fun ⟨b, e, hb⟩ => Or.inr ⟨b, e, Nat.le_trans TU.out.size hb⟩)); obtain ⟨m8, hm8⟩ : ∃ m, m = (zs1 ++ [s1]).length := ⟨_, rfl⟩; rw [← hm8] at PZ8 HO8; have M8 := Aside0.mk (show m8 = zs1.length + 1 from by rw [hm8]; simp); clear PA PM PZ TU BK HBB HBS q1 f1 hr_ hat hgr hb_ R74; have PA := n0; have PM := n1; have TU := n3; have BK := n4; clear n0 n1 n3 n4; have q1 : w75.cell? ⟨ga, 1, none⟩ = some (.slice A7 zs1.length c7) := (blk_cell PA.out 1).trans rfl; have f1 := blk_frozen PA.out 1; rw [← hm8]; clear hm8))
          have n0 := Aside0.mk (blk_put PA.out 1 (.slice A8 m8 c8) (cs' := #[.map (some gm), .slice A8 m8 c8]) rfl)
          have n1 := Aside0.mk (PM.out.below (Below.heap_setCell _ ⟨ga, 1, none⟩ (.slice A8 m8 c8) gm (fun e => NGM.out e.symm)))
          have n2 := Aside0.mk (Kd.R_reok (ok := fun k => base ≤ k) rfl (Kd.R_far (Kd.R_tight rfl PZ8.out) (p := ⟨ga, 1, none⟩) (fun k hk => by have h := Kd.R_ne PZ8.out PA.out (by decide); intro e; subst e; exact h hk) (.slice A8 m8 c8)) (fun k hk => Kd.R_base PZ8.out k hk))
          have n3 := Aside0.mk (TU.out.trans (setCell_turned (g := ga) (j := 1) (u := .slice A8 m8 c8) (S := PoolS ga gm v) (Or.inl rfl)) (fun _ _ h => h))
          have n4 := Aside0.mk (blk_far BK.out (p := ⟨ga, 1, none⟩) (blk_ne BK.out PA.out (by decide)) (.slice A8 m8 c8))
          clear PA PM PZ8 TU BK q1 f1
          have PA := n0
          have PM := n1
          have PZ := n2
          have TU := n3
          have BK := n4
          clear n0 n1 n2 n3 n4
          generalize World.setCell _ _ _ = w820 at PA PM PZ TU BK ⊢
          have q1 : w820.cell? ⟨ga, 1, none⟩ = some (.slice A8 m8 c8) := (blk_cell PA.out 1).trans rfl
          go_upto_region 16 with (fail)
          clear q1
          have n0 := Aside0.mk (blk_below PA.out (below_drew1 (Below.refl _ _)))
          have n1 := Aside0.mk (PM.out.below (w' := World.drew w820) rfl)
          have n2 := Aside0.mk (Kd.R_below PZ.out (below_drew1 (Below.refl _ _)))
          have n3 := Aside0.mk (TU.out.trans (S' := fun _ => False) (Turned.of_below (below_drew1 (Below.refl _ _))) (fun _ _ h => h.elim))
          have n4 := Aside0.mk (blk_below BK.out (below_drew1 (Below.refl _ _)))
          clear PA PM PZ TU BK
          have PA := n0
          have PM := n1
          have PZ := n2
          have TU := n3
          have BK := n4
          clear n0 n1 n2 n3 n4
          refine start_ (n := 7) (S := fun w' => w'.cell? ⟨ga, 0, none⟩ = some (.map (some gm)) ∧ w'.cell? ⟨gq, 0, none⟩ = some (.int .i64 x.f0) ∧ w'.cell? ⟨gq, 1, none⟩ = some (.bool x.f4) ∧ w'.cell? ⟨gq, 2, none⟩ = some (.string x.f1) ∧ w'.cell? ⟨gq, 3, none⟩ = some (.string o1) ∧ w'.cell? ⟨gq, 4, none⟩ = some (.string nt) ∧ True) (ds := [6]) #[false, false, false, false, false, false, false] (by kernel_rfl) rfl rfl (⟨(blk_cell PA.out 0).trans rfl, (blk_cell BK.out 0).trans rfl, (blk_cell BK.out 1).trans rfl, (blk_cell BK.out 2).trans rfl, (blk_cell BK.out 3).trans rfl, (blk_cell BK.out 4).trans rfl, trivial⟩) (fun hHeld => ?_)
          generalize World.drew _ = w830 at PA PM PZ TU BK hHeld ⊢
          refine pure_ (i := 0) (N := some 83) (v := ?_) (a' := ?_) #[true, false, false, false, false, false, false] rfl rfl (any_of (md := .any) (ops := opsOf Tryz.f21 16) F10tab16 (by kernel_rfl)) (fun _ _ _ h => h) (Or.inl ⟨by rfl, ?_⟩) ?_ ?_
          rotate_left
          · intro w'
            go_simp
            with_reducible rfl
          rotate_left
          · simp only [Act.put, List.setIfInBounds_toArray, List.set_cons_zero, List.set_cons_succ, i64_w, i32_w]
            rfl
          refine pure_ (i := 1) (N := some 84) (v := ?_) (a' := ?_) #[true, true, false, false, false, false, false] rfl rfl (any_of (md := .any) (ops := opsOf Tryz.f21 16) F10tab16 (by kernel_rfl)) (fun _ _ _ h => h) (Or.inl ⟨by rfl, ?_⟩) ?_ ?_
          rotate_left
          · intro w'
            go_simp
            with_reducible rfl
          rotate_left
          · simp only [Act.put, List.setIfInBounds_toArray, List.set_cons_zero, List.set_cons_succ, i64_w, i32_w]
            rfl
          refine pure_ (i := 2) (N := some 85) (v := ?_) (a' := ?_) #[true, true, true, false, false, false, false] rfl rfl (any_of (md := .any) (ops := opsOf Tryz.f21 16) F10tab16 (by kernel_rfl)) (fun _ _ _ h => h) (Or.inl ⟨by rfl, ?_⟩) ?_ ?_
          rotate_left
          · intro w'
            go_simp
            with_reducible rfl
          rotate_left
          · simp only [Act.put, List.setIfInBounds_toArray, List.set_cons_zero, List.set_cons_succ, i64_w, i32_w]
            rfl
          refine take_ (i := 3) (N := some 86) (v := ?_) (a' := ?_) #[true, true, true, true, false, false, false] rfl rfl (take_of (md := .any) (ops := opsOf Tryz.f21 16) F10tab16 (by kernel_rfl)) (fun _ _ _ h => h) (Or.inl ⟨by rfl, ?_⟩) hHeld ?_ ?_
          rotate_left
          · rintro w' ⟨s0, s1, s2, s3, s4, s5, s6⟩
            go_simp
            with_reducible rfl
          rotate_left
          · simp only [Act.put, List.setIfInBounds_toArray, List.set_cons_zero, List.set_cons_succ, i64_w, i32_w]
            rfl
          refine take_ (i := 4) (N := some 87) (v := ?_) (a' := ?_) #[true, true, true, true, true, false, false] rfl rfl (take_of (md := .any) (ops := opsOf Tryz.f21 16) F10tab16 (by kernel_rfl)) (fun _ _ _ h => h) (Or.inl ⟨by rfl, ?_⟩) hHeld ?_ ?_
          rotate_left
          · rintro w' ⟨s0, s1, s2, s3, s4, s5, s6⟩
            go_simp
            with_reducible rfl
          rotate_left
          · simp only [Act.put, List.setIfInBounds_toArray, List.set_cons_zero, List.set_cons_succ, i64_w, i32_w]
            rfl
          refine pure_ (i := 5) (N := some 88) (v := ?_) (a' := ?_) #[true, true, true, true, true, true, false] rfl rfl (any_of (md := .any) (ops := opsOf Tryz.f21 16) F10tab16 (by kernel_rfl)) (fun _ _ _ h => h) (Or.inl ⟨by rfl, ?_⟩) ?_ ?_
          rotate_left
          · intro w'
            go_simp
            with_reducible rfl
          rotate_left
          · simp only [Act.put, List.setIfInBounds_toArray, List.set_cons_zero, List.set_cons_succ, i64_w, i32_w]
            rfl
          refine last_ (i := 6) (N := none) #[true, true, true, true, true, true, true] rfl rfl (one_of (md := .any) (ops := opsOf Tryz.f21 16) F10tab16 (by kernel_rfl)) (by decide) (fun K hK => ?_)
          obtain ⟨ob, hput, hmap⟩ := run_put PM.out kk NX.out
          have hput2 : (Instr.mapUpdate 65 (.map (some gm)) (.agg #[.int .i64 x.f0, .bool x.f4, .string x.f1, .string o1, .string nt]) (.int .i64 (m8 : Int))).run Tryz.prog w830 = .ok () (ChangeMaps.setBlock w830 gm ob) := by
            have e8 : ((ks1.length + 1 : Nat) : Int) = (m8 : Int) := by have := M8.out; have := LKZ.out; omega
            rw [← e8]
            have h1 := hput
            rw [KKE.out] at h1
            exact h1
          refine skip_ (w1 := ChangeMaps.setBlock w830 gm ob) rfl rfl ?hrun ?_
          case hrun => first | (go_simp; done) | (go_simp; rfl)
          refine hK.out _ _ (done_ (done_of (md := .any) (ops := opsOf Tryz.f21 16) F10tab16 (by kernel_rfl)) ?_)
          have TB := Aside0.mk (setBlock_turned (w := w830) (o := ob) (S := fun k => k = gm) PM.out.lt rfl)
          have n0 := Aside0.mk ((TB.out.block ga (blk_lt PA.out) NGM.out).trans PA.out)
          have n1 := Aside0.mk hmap
          have n2 := Aside0.mk (Kd.R_reok (ok := fun k => base ≤ k) rfl (Kd.R_step (Kd.R_tight rfl PZ.out) (fun k hk hlt => TB.out.block k hlt (fun e => by obtain ⟨es_, c_, hg_, _⟩ := PM.out; obtain ⟨cl_, hc_⟩ := Kd.R_typed PZ.out k hk.symm; rw [e, hg_] at hc_; cases hc_))) (fun k hk => Kd.R_base PZ.out k hk))
          have n3 := Aside0.mk (TU.out.trans TB.out (fun _ _ h => Or.inr (Or.inl h)))
          clear hput hput2 hmap hHeld hK K PA PM PZ TU TB BK
          have PA := n0
          have PM := n1
          have PZ := n2
          have TU := n3
          clear n0 n1 n2 n3
          generalize ChangeMaps.setBlock _ _ _ = w840 at PA PM PZ TU ⊢
          go_wp2_with fail
          go_ret
          have hm8 := M8.out
          refine ⟨?_, .slice A8 m8 c8, ?_, TU.out, HO8.out⟩
          · rw [PE.out]
            have e8 : ((ks1.length + 1 : Nat) : Int) = (m8 : Int) := by have := LKZ.out; omega
            show _ = Ending.returned (.int .i64 ((ks1.length + 1 : Nat) : Int))
            rw [e8]
            rfl
          · rw [PE.out]
            exact ⟨PA.out, PM.out, PZ.out, by simp only [List.length_append, List.length_cons, List.length_nil]; have := LKZ.out; omega, HP.out.ba, HP.out.bm⟩
end Go.Proofs.YthipodffpkglfaaGreatDoor.PQ
namespace Go.Proofs.YthipodffpkglfaaGreatDoor.PQ
open Go.RowKit Go.Proofs.YthipodffpkglfaaGreatDoorW.PrintWords Go.Proofs.YthipodffpkglfaaGreatDoorW.PrintLast Go.Proofs.YthipodffpkglfaaGreatDoorW.PrintMore Go.Proofs.YthipodffpkglfaaGreatDoor.PS
set_option linter.unusedVariables false
set_option linter.unusedSimpArgs false
def isDig (b : UInt8) : Bool := decide (48 ≤ b.toNat) && decide (b.toNat ≤ 57)
theorem dig_one (k : Nat) (h : k < 10) : (UInt8.ofNat (48 + k)).toNat = 48 + k := by
  rw [UInt8.toNat_ofNat']; omega
theorem dec_eq (u : Nat) : Lib.decDigits u = if u < 10 then [UInt8.ofNat (48 + u)] else Lib.decDigits (u / 10) ++ [UInt8.ofNat (48 + u % 10)] := by
  rw [Lib.decDigits]; split <;> rfl
theorem dec_dig (u : Nat) : ∀ b ∈ Lib.decDigits u, isDig b = true := by
  induction u using Nat.strongRecOn with
  | _ u ih =>
  intro b hb
  rw [dec_eq] at hb
  by_cases h : u < 10
  · rw [if_pos h] at hb
    rw [List.mem_singleton.1 hb, isDig, dig_one u h]
    simp; omega
  · rw [if_neg h] at hb
    rcases List.mem_append.1 hb with hb | hb
    · exact ih (u / 10) (by omega) b hb
    · rw [List.mem_singleton.1 hb, isDig, dig_one (u % 10) (by omega)]
      simp; omega
def decVal (l : List UInt8) : Nat := l.foldl (fun a b => a * 10 + (b.toNat - 48)) 0
theorem dec_val (u : Nat) : decVal (Lib.decDigits u) = u := by
  induction u using Nat.strongRecOn with
  | _ u ih =>
  rw [dec_eq]
  by_cases h : u < 10
  · rw [if_pos h]
    simp only [decVal, List.foldl_cons, List.foldl_nil, dig_one u h]
    omega
  · rw [if_neg h]
    have := ih (u / 10) (by omega)
    unfold decVal at this ⊢
    rw [List.foldl_append, this]
    simp only [List.foldl_cons, List.foldl_nil, dig_one (u % 10) (by omega)]
    omega
theorem dec_inj {a b : Nat} (h : Lib.decDigits a = Lib.decDigits b) : a = b := by rw [← dec_val a, h, dec_val]
theorem dec_ne (u : Nat) : ∃ b r, Lib.decDigits u = b :: r ∧ isDig b = true := by
  cases h : Lib.decDigits u with
  | nil =>
    rw [dec_eq] at h
    by_cases h10 : u < 10
    · rw [if_pos h10] at h; cases h
    · rw [if_neg h10] at h; simp at h
  | cons b r => exact ⟨b, r, rfl, dec_dig u b (by rw [h]; exact List.mem_cons_self)⟩
theorem dig_split : ∀ (a b : List UInt8) (c d : UInt8) (r s : List UInt8), (∀ x ∈ a, isDig x = true) → (∀ x ∈ b, isDig x = true) → isDig c = false → isDig d = false → a ++ c :: r = b ++ d :: s → a = b ∧ c = d ∧ r = s
  | [], [], c, d, r, s, _, _, _, _, h => by simpa using h
  | [], y :: b, c, d, r, s, _, hb, hc, _, h => by
    have h1 : c = y := by simpa using (List.cons.inj h).1
    have := hb y List.mem_cons_self
    rw [← h1, hc] at this; cases this
  | x :: a, [], c, d, r, s, ha, _, _, hd, h => by
    have h1 : x = d := by simpa using (List.cons.inj h).1
    have := ha x List.mem_cons_self
    rw [h1, hd] at this; cases this
  | x :: a, y :: b, c, d, r, s, ha, hb, hc, hd, h => by
    obtain ⟨h1, h2⟩ := List.cons.inj h
    obtain ⟨h3, h4, h5⟩ := dig_split a b c d r s (fun z hz => ha z (List.mem_cons_of_mem _ hz)) (fun z hz => hb z (List.mem_cons_of_mem _ hz)) hc hd h2
    exact ⟨by rw [h1, h3], h4, h5⟩
def tl : List ByteArray → List UInt8
  | [] => []
  | s :: r => Lib.decDigits s.size ++ 58 :: (s.data.toList ++ tl r)
theorem data_append (a b : ByteArray) : (a ++ b).data.toList = a.data.toList ++ b.data.toList := by simp
theorem itoaB_list (n : Nat) : (itoaB (n : Int)).data.toList = Lib.decDigits n := by
  show (Lib.itoa (n : Int)).toArray.toList = _
  rw [Lib.itoa_nonneg]
theorem textsF_list : ∀ (l : List ByteArray) (o : ByteArray), (textsF l o).data.toList = o.data.toList ++ tl l
  | [], o => by simp [textsF, tl]
  | s :: r, o => by
    rw [textsF, textsF_list r]
    rw [data_append, data_append, data_append, itoaB_list]
    simp [tl]
theorem ba_ext {a b : ByteArray} (h : a.data.toList = b.data.toList) : a = b := by
  obtain ⟨⟨x⟩⟩ := a
  obtain ⟨⟨y⟩⟩ := b
  simp only at h
  rw [h]
theorem tl_inj : ∀ (l m : List ByteArray) (r s : List UInt8), (r = [] ∨ ∃ t, r = 59 :: t) → (s = [] ∨ ∃ t, s = 59 :: t) → tl l ++ r = tl m ++ s → l = m ∧ r = s
  | [], [], r, s, _, _, h => ⟨rfl, by simpa [tl] using h⟩
  | [], y :: m, r, s, hr, _, h => by
    obtain ⟨b, q, e, hb⟩ := dec_ne y.size
    simp only [tl, List.nil_append, e, List.cons_append] at h
    rcases hr with rfl | ⟨t, rfl⟩
    · cases h
    · have := (List.cons.inj h).1
      rw [← this] at hb; simp [isDig] at hb
  | x :: l, [], r, s, _, hs, h => by
    obtain ⟨b, q, e, hb⟩ := dec_ne x.size
    simp only [tl, List.nil_append, e, List.cons_append] at h
    rcases hs with rfl | ⟨t, rfl⟩
    · cases h
    · have := (List.cons.inj h).1
      rw [this] at hb; simp [isDig] at hb
  | x :: l, y :: m, r, s, hr, hs, h => by
    simp only [tl, List.append_assoc, List.cons_append] at h
    obtain ⟨h1, _, h2⟩ := dig_split _ _ 58 58 _ _ (dec_dig x.size) (dec_dig y.size) (by decide) (by decide) h
    have hsz := dec_inj h1
    have hlen : x.data.toList.length = y.data.toList.length := by simpa using hsz
    obtain ⟨h3, h4⟩ := List.append_inj h2 hlen
    obtain ⟨h5, h6⟩ := tl_inj l m r s hr hs h4
    exact ⟨by rw [ba_ext h3, h5], h6⟩
theorem notes_inj {a b c d : List ByteArray} (h : (textsF a E0 ++ (⟨#[59]⟩ : ByteArray)) ++ textsF b E0 = (textsF c E0 ++ (⟨#[59]⟩ : ByteArray)) ++ textsF d E0) : a = c ∧ b = d := by
  have h1 := congrArg (fun s => s.data.toList) h
  simp only [data_append, textsF_list] at h1
  have e : E0.data.toList = [] := rfl
  have e2 : (⟨#[59]⟩ : ByteArray).data.toList = [59] := rfl
  simp only [List.nil_append, List.append_assoc, List.singleton_append] at h1
  obtain ⟨h2, h3⟩ := tl_inj a c _ _ (Or.inr ⟨_, rfl⟩) (Or.inr ⟨_, rfl⟩) h1
  have h4 := (List.cons.inj h3).2
  obtain ⟨h5, _⟩ := tl_inj b d [] [] (Or.inl rfl) (Or.inl rfl) (by simpa using h4)
  exact ⟨h2, h5⟩
def nl : List Nat → List UInt8
  | [] => []
  | n :: r => Lib.decDigits n ++ 44 :: nl r
theorem nl_inj : ∀ (l m : List Nat), nl l = nl m → l = m
  | [], [], _ => rfl
  | [], y :: m, h => by obtain ⟨b, q, e, hb⟩ := dec_ne y; simp [nl, e] at h
  | x :: l, [], h => by obtain ⟨b, q, e, hb⟩ := dec_ne x; simp [nl, e] at h
  | x :: l, y :: m, h => by
    simp only [nl] at h
    obtain ⟨h1, _, h2⟩ := dig_split _ _ 44 44 _ _ (dec_dig x) (dec_dig y) (by decide) (by decide) h
    rw [dec_inj h1, nl_inj l m h2]
def lstN : List Nat → ByteArray → ByteArray
  | [], o => o
  | n :: r, o => lstN r ((o ++ itoaB (n : Int)) ++ (⟨#[44]⟩ : ByteArray))
theorem lstN_list : ∀ (l : List Nat) (o : ByteArray), (lstN l o).data.toList = o.data.toList ++ nl l
  | [], o => by simp [lstN, nl]
  | n :: r, o => by
    rw [lstN, lstN_list r, data_append, data_append, itoaB_list]
    simp [nl]
theorem lstN_inj {l m : List Nat} (h : lstN l E0 = lstN m E0) : l = m := by
  have h1 := congrArg (fun s => s.data.toList) h
  simp only [lstN_list] at h1
  exact nl_inj l m (by simpa using h1)
mutual
def cn : S45 → S45
  | ⟨a, b, l, _, d, e, f⟩ => ⟨a, b, cnL l, false, d, e, f⟩
def cnL : List S45 → List S45
  | [] => []
  | x :: r => cn x :: cnL r
end
theorem cn_eq (x : S45) : cn x = ⟨x.f0, x.f1, cnL x.f2, false, x.f4, x.f5, x.f6⟩ := by cases x; rfl
theorem sEq_iff : ∀ l m : List ByteArray, sEq l m = true ↔ l = m
  | [], [] => by simp [sEq]
  | [], _ :: _ => by simp [sEq]
  | _ :: _, [] => by simp [sEq]
  | a :: r, b :: s => by
    simp only [sEq, Bool.and_eq_true, beq_iff_eq, sEq_iff r s, List.cons.injEq]
    exact ⟨fun ⟨h1, h2⟩ => ⟨toList_inj h1, h2⟩, fun ⟨h1, h2⟩ => ⟨by rw [h1], h2⟩⟩
mutual
theorem like_iff : ∀ x y : S45, likeB false x y = true ↔ cn x = cn y
  | ⟨a, b, l, c, d, e, f⟩, y => by
    rw [likeB_eq, cn_eq, cn_eq y]
    simp only [Bool.and_eq_true, beq_iff_eq, sEq_iff, likeL_iff l y.f2, Bool.not_false, Bool.true_or, S45.mk.injEq, true_and]
    constructor
    · rintro ⟨⟨⟨⟨⟨⟨h1, h2⟩, h3⟩, _⟩, h4⟩, h5⟩, h6⟩
      exact ⟨h1, toList_inj h2, h6, h3, h4, h5⟩
    · rintro ⟨h1, h2, h6, h3, h4, h5⟩
      exact ⟨⟨⟨⟨⟨⟨h1, by rw [h2]⟩, h3⟩, trivial⟩, h4⟩, h5⟩, h6⟩
theorem likeL_iff : ∀ l m : List S45, likeL false l m = true ↔ cnL l = cnL m
  | [], [] => by simp [likeL, cnL]
  | [], _ :: _ => by simp [likeL, cnL]
  | _ :: _, [] => by simp [likeL, cnL]
  | x :: r, y :: s => by
    simp only [likeL, cnL, Bool.and_eq_true, like_iff x y, likeL_iff r s, List.cons.injEq]
end
mutual
theorem cn_count : ∀ x : S45, (pre (cn x)).length = (pre x).length
  | ⟨a, b, l, c, d, e, f⟩ => by
    rw [cn_eq, pre_eq, pre_eq]
    simp only [List.length_cons, cnL_count l]
theorem cnL_count : ∀ l : List S45, (preL (cnL l)).length = (preL l).length
  | [] => rfl
  | x :: r => by simp only [cnL, preL, List.length_append, cn_count x, cnL_count r]
end
theorem cnL_eq (l : List S45) : cnL l = l.map cn := by
  induction l with
  | nil => rfl
  | cons x r ih => simp [cnL, ih]
/-- The first one that is like it. -/
def refIdx (x : S45) : List S45 → Nat → Option Nat
  | [], _ => none
  | r :: all, i => if likeB false r x then some i else refIdx x all (i + 1)
theorem refIdx_cn {x y : S45} (h : cn x = cn y) : ∀ (all : List S45) (i : Nat), refIdx x all i = refIdx y all i
  | [], _ => rfl
  | r :: all, i => by
    have e : likeB false r x = likeB false r y := by rw [Bool.eq_iff_iff, like_iff, like_iff, h]
    unfold refIdx
    rw [e, refIdx_cn h all (i + 1)]
theorem refIdx_some (x : S45) : ∀ (all : List S45) (i j : Nat), refIdx x all i = some j → ∃ r, i ≤ j ∧ all[j - i]? = some r ∧ cn r = cn x
  | [], i, j, h => by simp [refIdx] at h
  | r :: all, i, j, h => by
    unfold refIdx at h
    by_cases hl : likeB false r x = true
    · rw [if_pos hl] at h
      obtain rfl : i = j := by simpa using h
      exact ⟨r, Nat.le_refl _, by simp, (like_iff _ _).1 hl⟩
    · rw [if_neg hl] at h
      obtain ⟨q, h1, h2, h3⟩ := refIdx_some x all (i + 1) j h
      refine ⟨q, by omega, ?_, h3⟩
      rw [show j - i = (j - (i + 1)) + 1 by omega, List.getElem?_cons_succ]
      exact h2
theorem refIdx_lt {x : S45} {all : List S45} {j : Nat} (h : refIdx x all 0 = some j) : j < all.length := by
  obtain ⟨r, _, h2, _⟩ := refIdx_some x all 0 j h
  exact (List.getElem?_eq_some_iff.1 h2).1
theorem refIdx_inj {x y : S45} {all : List S45} {j : Nat} (h : refIdx x all 0 = some j) (k : refIdx y all 0 = some j) : cn x = cn y := by
  obtain ⟨r, _, h2, h3⟩ := refIdx_some x all 0 j h
  obtain ⟨q, _, k2, k3⟩ := refIdx_some y all 0 j k
  rw [h2] at k2
  obtain rfl : r = q := by simpa using k2
  rw [← h3, ← k3]
theorem refIdx_append (x : S45) (ext : List S45) : ∀ (all : List S45) (i j : Nat), refIdx x all i = some j → refIdx x (all ++ ext) i = some j
  | [], i, j, h => by simp [refIdx] at h
  | r :: all, i, j, h => by
    unfold refIdx at h
    rw [List.cons_append]
    unfold refIdx
    by_cases hl : likeB false r x = true
    · rw [if_pos hl] at h ⊢; exact h
    · rw [if_neg hl] at h ⊢; exact refIdx_append x ext all (i + 1) j h
theorem refIdx_new (x : S45) : ∀ (all : List S45) (i : Nat), refIdx x all i = none → refIdx x (all ++ [x]) i = some (i + all.length)
  | [], i, _ => by
    have : likeB false x x = true := likeB_refl false x
    simp [refIdx, this]
  | r :: all, i, h => by
    unfold refIdx at h
    rw [List.cons_append]
    unfold refIdx
    by_cases hl : likeB false r x = true
    · rw [if_pos hl] at h; cases h
    · rw [if_neg hl] at h ⊢
      rw [refIdx_new x all (i + 1) h]
      simp only [List.length_cons]; congr 1; omega
/-- A node's number in a row of nodes: from 1 on. -/
def num (all : List S45) (x : S45) : Nat := match refIdx x all 0 with | some j => j + 1 | none => 0
theorem num_of {all : List S45} {x : S45} {j : Nat} (h : refIdx x all 0 = some j) : num all x = j + 1 := by unfold num; rw [h]
def Has (all : List S45) (x : S45) : Prop := ∃ j, refIdx x all 0 = some j
theorem Has.append {all : List S45} {x : S45} (h : Has all x) (ext : List S45) : Has (all ++ ext) x ∧ num (all ++ ext) x = num all x := by
  obtain ⟨j, hj⟩ := h
  have := refIdx_append x ext all 0 j hj
  exact ⟨⟨j, this⟩, by rw [num_of this, num_of hj]⟩
theorem num_inj {all : List S45} {x y : S45} (hx : Has all x) (hy : Has all y) : num all x = num all y ↔ cn x = cn y := by
  obtain ⟨j, hj⟩ := hx
  obtain ⟨k, hk⟩ := hy
  rw [num_of hj, num_of hk]
  constructor
  · intro h
    obtain rfl : j = k := by omega
    exact refIdx_inj hj hk
  · intro h
    rw [refIdx_cn h, hk] at hj
    have : k = j := by simpa using hj
    omega
/-- A node's key, its parts by their numbers. -/
def keyN (all : List S45) (x : S45) : K5 := keyV x (lstN (x.f2.map (num all)) E0)
theorem keyN_eq {all : List S45} {x y : S45} (hx : ∀ c ∈ x.f2, Has all c) (hy : ∀ c ∈ y.f2, Has all c) : keyN all x = keyN all y ↔ cn x = cn y := by
  unfold keyN keyV
  rw [K5.mk.injEq, cn_eq x, cn_eq y, S45.mk.injEq]
  constructor
  · rintro ⟨h0, h4, h1, hl, hn⟩
    obtain ⟨h5, h6⟩ := notes_inj hn
    refine ⟨h0, h1, ?_, rfl, h4, h5, h6⟩
    have h2 := lstN_inj hl
    rw [cnL_eq, cnL_eq]
    apply List.ext_getElem?
    intro i
    have h3 := congrArg (fun l => l[i]?) h2
    simp only [List.getElem?_map] at h3 ⊢
    cases ex : x.f2[i]? with
    | none =>
      rw [ex] at h3
      cases ey : y.f2[i]? with
      | none => rfl
      | some b => rw [ey] at h3; simp at h3
    | some a =>
      rw [ex] at h3
      cases ey : y.f2[i]? with
      | none => rw [ey] at h3; simp at h3
      | some b =>
        rw [ey] at h3
        have h7 : num all a = num all b := by simpa using h3
        have := (num_inj (hx a (List.mem_of_getElem? ex)) (hy b (List.mem_of_getElem? ey))).1 h7
        simp [this]
  · rintro ⟨h0, h1, h2, _, h4, h5, h6⟩
    refine ⟨h0, h4, h1, ?_, by rw [h5, h6]⟩
    congr 1
    rw [cnL_eq, cnL_eq] at h2
    apply List.ext_getElem?
    intro i
    have h3 := congrArg (fun l => l[i]?) h2
    simp only [List.getElem?_map] at h3 ⊢
    cases ex : x.f2[i]? with
    | none =>
      rw [ex] at h3
      cases ey : y.f2[i]? with
      | none => rfl
      | some b => rw [ey] at h3; simp at h3
    | some a =>
      rw [ex] at h3
      cases ey : y.f2[i]? with
      | none => rw [ey] at h3; simp at h3
      | some b =>
        rw [ey] at h3
        have h7 : cn a = cn b := by simpa using h3
        have := (num_inj (hx a (List.mem_of_getElem? ex)) (hy b (List.mem_of_getElem? ey))).2 h7
        simp [this]
/-- What the document's Put comes to. -/
def refEnd (x : S45) (all : List S45) : Nat × List S45 := match refIdx x all 0 with | some j => (j + 1, all) | none => (all.length + 1, all ++ [x])
mutual
def refV : S45 → List S45 → Nat × List S45
  | ⟨a, b, l, c, d, e, f⟩, all => refEnd ⟨a, b, l, c, d, e, f⟩ (refL l all)
def refL : List S45 → List S45 → List S45
  | [], all => all
  | x :: r, all => refL r (refV x all).2
end
theorem refV_eq (x : S45) (all : List S45) : refV x all = refEnd x (refL x.f2 all) := by cases x; rfl
/-- What stands in a pool stands with all its parts, each once. -/
structure Full (all : List S45) : Prop where
  parts : ∀ x ∈ all, ∀ c ∈ x.f2, Has all c
  once : ∀ (i : Nat) (x : S45), all[i]? = some x → refIdx x all 0 = some i
  low : ∀ (i : Nat) (x : S45), all[i]? = some x → ∀ c ∈ x.f2, num all c ≤ i
theorem Full.nil : Full [] := ⟨fun x h => by simp at h, fun i x h => by simp at h, fun i x h => by simp at h⟩
theorem num_le {all : List S45} {x : S45} (h : Has all x) : 1 ≤ num all x ∧ num all x ≤ all.length := by
  obtain ⟨j, hj⟩ := h
  have := refIdx_lt hj
  rw [num_of hj]; omega
theorem refEnd_has (x : S45) (all : List S45) : ∃ ext, (refEnd x all).2 = all ++ ext ∧ ext.length ≤ 1 ∧ refIdx x (refEnd x all).2 0 = some ((refEnd x all).1 - 1) ∧ 1 ≤ (refEnd x all).1 := by
  unfold refEnd
  cases h : refIdx x all 0 with
  | some j => exact ⟨[], by simp, by simp, by simpa using h, by simp⟩
  | none => exact ⟨[x], rfl, by simp, by simpa using refIdx_new x all 0 h, by simp⟩
theorem refEnd_full (x : S45) (all : List S45) (hf : Full all) (hc : ∀ c ∈ x.f2, Has all c) : Full (refEnd x all).2 := by
  unfold refEnd
  cases h : refIdx x all 0 with
  | some j => exact hf
  | none =>
    refine ⟨fun y hy c hcy => ?_, fun i y hy => ?_, fun i y hy c hcy => ?_⟩
    · rcases List.mem_append.1 hy with hy | hy
      · exact ((hf.parts y hy c hcy).append [x]).1
      · rw [List.mem_singleton.1 hy] at hcy
        exact ((hc c hcy).append [x]).1
    · show refIdx y (all ++ [x]) 0 = some i
      have hy' : (all ++ [x])[i]? = some y := hy
      by_cases hi : i < all.length
      · rw [List.getElem?_append_left hi] at hy'
        exact refIdx_append y [x] all 0 i (hf.once i y hy')
      · rw [List.getElem?_append_right (by omega)] at hy'
        have h0 : i - all.length = 0 := by have := (List.getElem?_eq_some_iff.1 hy').1; simp at this; omega
        rw [h0] at hy'
        obtain rfl : x = y := by simpa using hy'
        rw [refIdx_new x all 0 h]
        congr 1; omega
    · show num (all ++ [x]) c ≤ i
      have hy' : (all ++ [x])[i]? = some y := hy
      by_cases hi : i < all.length
      · rw [List.getElem?_append_left hi] at hy'
        rw [((hf.parts y (List.mem_of_getElem? hy') c hcy).append [x]).2]
        exact hf.low i y hy' c hcy
      · rw [List.getElem?_append_right (by omega)] at hy'
        have h0 : i - all.length = 0 := by have := (List.getElem?_eq_some_iff.1 hy').1; simp at this; omega
        rw [h0] at hy'
        obtain rfl : x = y := by simpa using hy'
        rw [((hc c hcy).append [x]).2]
        have := (num_le (hc c hcy)).2
        omega
mutual
theorem refV_full : ∀ (x : S45) (all : List S45), Full all → Full (refV x all).2 ∧ (∃ ext, (refV x all).2 = all ++ ext ∧ ext.length ≤ (pre x).length) ∧ refIdx x (refV x all).2 0 = some ((refV x all).1 - 1) ∧ 1 ≤ (refV x all).1
  | ⟨a, b, l, c, d, e, f⟩, all, h => by
    obtain ⟨h1, ⟨ext, h2, h3⟩, h4⟩ := refL_full l all h
    rw [refV_eq, pre_eq]
    obtain ⟨ext2, k1, k2, k3, k4⟩ := refEnd_has ⟨a, b, l, c, d, e, f⟩ (refL l all)
    refine ⟨refEnd_full _ _ h1 h4, ⟨ext ++ ext2, ?_, ?_⟩, k3, k4⟩
    · show (refEnd _ (refL l all)).2 = _
      rw [k1, h2, List.append_assoc]
    · simp only [List.length_append, List.length_cons]; omega
theorem refL_full : ∀ (l : List S45) (all : List S45), Full all → Full (refL l all) ∧ (∃ ext, refL l all = all ++ ext ∧ ext.length ≤ (preL l).length) ∧ ∀ c ∈ l, Has (refL l all) c
  | [], all, h => ⟨h, ⟨[], by simp [refL], by simp⟩, fun c hc => by simp at hc⟩
  | x :: r, all, h => by
    obtain ⟨h1, ⟨ext, h2, h3⟩, h4, _⟩ := refV_full x all h
    obtain ⟨k1, ⟨ext2, k2, k3⟩, k4⟩ := refL_full r (refV x all).2 h1
    refine ⟨k1, ⟨ext ++ ext2, ?_, ?_⟩, fun c hc => ?_⟩
    · rw [refL, k2, h2, List.append_assoc]
    · simp only [preL, List.length_append]; omega
    · rcases List.mem_cons.1 hc with rfl | hc
      · rw [refL, k2]
        exact (Has.append ⟨_, h4⟩ ext2).1
      · exact k4 c hc
end
/-- A pool's raw state is that of a row of nodes. -/
structure St (all : List S45) (ks : List K5) (zs : List Int) : Prop where
  full : Full all
  keys : ks = all.map (keyN all)
  sizes : zs = all.map fun x => ((pre x).length : Int)
theorem St.nil : St [] [] [] := ⟨Full.nil, rfl, rfl⟩
theorem keyN_append {all : List S45} {x : S45} (h : ∀ c ∈ x.f2, Has all c) (ext : List S45) : keyN (all ++ ext) x = keyN all x := by
  unfold keyN
  congr 2
  exact List.map_congr_left fun c hc => ((h c hc).append ext).2
theorem idx_key (all : List S45) (x : S45) (hx : ∀ c ∈ x.f2, Has all c) : ∀ (l : List S45), (∀ r ∈ l, ∀ c ∈ r.f2, Has all c) → ∀ i, idxOf (keyN all x) (l.map (keyN all)) i = refIdx x l i
  | [], _, i => rfl
  | r :: l, h, i => by
    have e : (keyN all x).same (keyN all r) = likeB false r x := by
      rw [Bool.eq_iff_iff, K5.same_iff, like_iff, keyN_eq hx (h r List.mem_cons_self)]
      exact ⟨fun h => h.symm, fun h => h.symm⟩
    rw [List.map_cons, idxOf, refIdx, e, idx_key all x hx l (fun q hq => h q (List.mem_cons_of_mem _ hq)) (i + 1)]
/-- The end of Put, and the document's. -/
theorem putEnd_ref (x : S45) (all : List S45) (q : PS) (h : St all q.ks q.zs) (hc : ∀ c ∈ x.f2, Has all c) (ho : q.o = lstN (x.f2.map (num all)) E0) (hs : q.s = ((pre x).length : Int)) :
    (putEnd x q).1 = ((refEnd x all).1 : Int) ∧ St (refEnd x all).2 (putEnd x q).2.1 (putEnd x q).2.2 := by
  have hk : keyV x q.o = keyN all x := by rw [ho]; rfl
  have hi : idxOf (keyN all x) q.ks 0 = refIdx x all 0 := by rw [h.keys]; exact idx_key all x hc all h.full.parts 0
  have hf := refEnd_full x all h.full hc
  unfold putEnd
  unfold refEnd at hf ⊢
  rw [hk, hi]
  cases hr : refIdx x all 0 with
  | some j =>
    exact ⟨rfl, h⟩
  | none =>
    rw [hr] at hf
    refine ⟨?_, hf, ?_, ?_⟩
    · show ((q.ks.length + 1 : Nat) : Int) = _
      rw [h.keys, List.length_map]
    · show q.ks ++ [keyN all x] = (all ++ [x]).map (keyN (all ++ [x]))
      rw [List.map_append, List.map_cons, List.map_nil, keyN_append hc, h.keys]
      congr 1
      exact List.map_congr_left fun y hy => (keyN_append (h.full.parts y hy) [x]).symm
    · show q.zs ++ [q.s] = (all ++ [x]).map _
      rw [List.map_append, h.sizes, hs]; rfl
mutual
theorem putV_ref : ∀ (x : S45) (all : List S45) (ks : List K5) (zs : List Int), St all ks zs → (pre x).length ≤ 1000000 → (putV x ks zs).1 = ((refV x all).1 : Int) ∧ St (refV x all).2 (putV x ks zs).2.1 (putV x ks zs).2.2
  | ⟨a, b, l, c, d, e, f⟩, all, ks, zs, h, hn => by
    have hp : (pre (⟨a, b, l, c, d, e, f⟩ : S45)).length = (preL l).length + 1 := by rw [pre_eq]; simp
    obtain ⟨h1, h2, h3⟩ := putL_ref l all ⟨E0, 1, ks, zs⟩ h ⟨1, rfl, by omega⟩
    rw [putV_eq, refV_eq]
    refine putEnd_ref _ _ _ h1 (refL_full l all h.full).2.2 h2 ?_
    rw [h3, hp]
    show (((1 + (preL l).length : Nat)) : Int) = _
    omega
theorem putL_ref : ∀ (l : List S45) (all : List S45) (q : PS), St all q.ks q.zs → (hs : ∃ n : Nat, q.s = (n : Int) ∧ n + (preL l).length ≤ 1000000) → St (refL l all) (putL l q).ks (putL l q).zs ∧ (putL l q).o = lstN (l.map (num (refL l all))) q.o ∧ (putL l q).s = (((q.s.toNat + (preL l).length : Nat)) : Int)
  | [], all, q, h, hs => by
    obtain ⟨n, hn, _⟩ := hs
    refine ⟨h, rfl, ?_⟩
    show q.s = _
    simp only [preL, List.length_nil]; omega
  | x :: r, all, q, h, hs => by
    obtain ⟨n, hn, hb⟩ := hs
    simp only [preL, List.length_append] at hb
    obtain ⟨h1, h2⟩ := putV_ref x all q.ks q.zs h (by omega)
    obtain ⟨f1, ⟨ext, f2, f3⟩, f4, f5⟩ := refV_full x all h.full
    have hz : szAt (putV x q.ks q.zs).2.2 (putV x q.ks q.zs).1 = ((pre x).length : Int) := by
      obtain ⟨y, _, hy, hyc⟩ := refIdx_some x _ 0 _ f4
      rw [szAt, h1, h2.sizes, List.getD_eq_getElem?_getD, List.getElem?_map]
      have e : (((refV x all).1 : Int) - 1).toNat = (refV x all).1 - 1 - 0 := by omega
      rw [e, hy]
      have e2 : (pre y).length = (pre x).length := by rw [← cn_count y, hyc, cn_count]
      simp [e2]
    have hs' : (putS x q).s = (((n + (pre x).length : Nat)) : Int) := by
      show wrap64 (q.s + szAt _ _) = _
      rw [hz, hn]
      unfold wrap64; omega
    obtain ⟨g1, ⟨ext2, g2, g3⟩, g4⟩ := refL_full r (refV x all).2 f1
    obtain ⟨k1, k2, k3⟩ := putL_ref r (refV x all).2 (putS x q) h2 ⟨n + (pre x).length, hs', by omega⟩
    rw [putL_cons]
    refine ⟨k1, ?_, ?_⟩
    · rw [k2, List.map_cons, lstN]
      show lstN _ ((q.o ++ itoaB (putV x q.ks q.zs).1) ++ _) = _
      rw [h1]
      have e3 : num (refL (x :: r) all) x = (refV x all).1 := by
        rw [refL, g2, (Has.append ⟨_, f4⟩ ext2).2, num_of f4]; omega
      rw [e3]
      rfl
    · rw [k3, hs', hn]
      simp only [preL, List.length_append]
      omega
end
end Go.Proofs.YthipodffpkglfaaGreatDoor.PQ
namespace Go.Proofs.YthipodffpkglfaaGreatDoor.PQ
open Go.RowKit Go.Proofs.YthipodffpkglfaaGreatDoorW.PrintWords Go.Proofs.YthipodffpkglfaaGreatDoorW.PrintLast Go.Proofs.YthipodffpkglfaaGreatDoorW.PrintMore Go.Proofs.YthipodffpkglfaaGreatDoor.PS
set_option linter.unusedVariables false
set_option linter.unusedSimpArgs false
theorem len_le_pre (l : List S45) : l.length ≤ (preL l).length := by
  induction l with
  | nil => simp [preL]
  | cons x r ih => simp only [preL, List.length_cons, List.length_append, pre_eq x]; omega
theorem put_all (base ga gm : Nat) : ∀ (N : Nat) (x : S45), (pre x).length ≤ N → okT x → ∀ (A2 : Option Addr) (c2 : Nat) (A5 : Option Addr) (c5 : Nat) (A6 : Option Addr) (c6 : Nat) (v : Value) (ks : List K5) (zs : List Int) (ok : Nat → Prop) (w : World), NF w ok x A2 c2 A5 c5 A6 c6 → (∀ k, ok k → k < w.heap.size ∧ ¬ PoolS ga gm v k) → PoolAt w base ga gm v ks zs → Tab base w → ks.length + (pre x).length ≤ 1000000 → PutAt x A2 c2 A5 c5 A6 c6 base ga gm v ks zs w := by
  intro N
  induction N with
  | zero => intro x h; rw [pre_eq] at h; simp at h
  | succ N ih =>
    intro x hN hok A2 c2 A5 c5 A6 c6 v ks zs ok w hx hos hp hT hn
    have e : (pre x).length = (preL x.f2).length + 1 := by rw [pre_eq]; simp
    have hl := len_le_pre x.f2
    refine put_walk x _ _ _ _ _ _ base ga gm v ks zs w ok hx hos hp hT hok hn (by omega) (fun y hy A2 c2 A5 c5 A6 c6 v ks zs w hy2 hos hp hT hn => ?_)
    have h1 := parts_lt hy
    exact ih y (by omega) (fun q hq => hok q (mem_parts hy hq)) _ _ _ _ _ _ v ks zs ok w hy2 hos hp hT hn
/-- A pool that holds the nodes of a row. -/
def PW (w : World) (base ga gm : Nat) (all : List S45) : Prop := ∃ v ks zs, PoolAt w base ga gm v ks zs ∧ St all ks zs
/-- What a law sees of a call that turns a pool. -/
structure Frame (base : Nat) (w w' : World) : Prop where
  below : Below base w w'
  cells : ∀ (g : Nat) (cs : Array Value) (t : TypeId), t ≠ 67 → t ≠ 3 → w.heap[g]? = some (.cells cs t (0, 0)) → w'.heap[g]? = some (.cells cs t (0, 0))
theorem PW.below {w w' : World} {base ga gm : Nat} {all : List S45} (h : PW w base ga gm all) (hb : Below w.heap.size w w') : PW w' base ga gm all := by
  obtain ⟨v, ks, zs, hp, hs⟩ := h
  exact ⟨v, ks, zs, hp.below hb, hs⟩
theorem PW.full {w : World} {base ga gm : Nat} {all : List S45} (h : PW w base ga gm all) : Full all := by
  obtain ⟨v, ks, zs, hp, hs⟩ := h
  exact hs.full
theorem Tab.mono {B B' : Nat} {w : World} (h : Tab B w) (hb : B ≤ B') : Tab B' w := fun w' h' => h w' (h'.mono hb)
/-- Put, as a law uses it. -/
theorem put_law {x : S45} {A2 : Option Addr} {c2 : Nat} {A5 : Option Addr} {c5 : Nat} {A6 : Option Addr} {c6 : Nat} {base ga gm : Nat} {all all' : List S45} {n : Nat} {ok : Nat → Prop} {w : World} (h : PW w base ga gm all) (hT : Tab base w) (hx : NF w ok x A2 c2 A5 c5 A6 c6)
    (hos : ∀ k, ok k → k < base ∨ ∃ cs t, t ≠ 67 ∧ t ≠ 3 ∧ w.heap[k]? = some (.cells cs t (0, 0))) (hok : okT x) (hn : all.length + (pre x).length ≤ 1000000) (e : refV x all = (n, all')) :
    Calls Tryz.prog 21 #[.pointer (some ⟨ga, 0, none⟩), .agg #[.int .i64 x.f0, .string x.f1, .slice A2 x.f2.length c2, .bool x.f3, .bool x.f4, .slice A5 x.f5.length c5, .slice A6 x.f6.length c6]] w fun e w' => e = .returned (.int .i64 (n : Int)) ∧ PW w' base ga gm all' ∧ Frame base w w' := by
  obtain ⟨v, ks, zs, hp, hs⟩ := h
  have hl : ks.length = all.length := by rw [hs.keys, List.length_map]
  have h1 := put_all base ga gm _ x (Nat.le_refl _) hok A2 c2 A5 c5 A6 c6 v ks zs ok w hx (fun k hk => by
    rcases hos k hk with h | ⟨cs, t, h1, h2, h3⟩
    · exact ⟨Nat.lt_of_lt_of_le h hp.base_le, fun hS => by have := hp.S_base k hS; omega⟩
    · exact ⟨blk_lt h3, hp.away h3 h1 h2⟩) hp hT (by omega)
  obtain ⟨r1, r2⟩ := putV_ref x all ks zs hs (by omega)
  rw [e] at r1 r2
  unfold PutAt at h1
  refine h1.mono ?_
  rintro e1 w' ⟨v', rfl, p1, p2, p3⟩
  refine ⟨by rw [r1], ⟨v', _, _, p1, r2⟩, p2.below hp.base_le hp.S_base, fun g cs t h1 h2 hg => (p2.block g (blk_lt hg) (hp.away hg h1 h2)).trans hg⟩
theorem len_law {base ga gm : Nat} {all : List S45} {w : World} (n : Int) (h : PW w base ga gm all) (e : (all.length : Int) = n) : Calls Tryz.prog 22 #[.pointer (some ⟨ga, 0, none⟩)] w fun e w' => e = .returned (.int .i64 n) ∧ w = w' := by
  obtain ⟨v, ks, zs, hp, hs⟩ := h
  exact len_calls n hp (by rw [← e, hs.sizes, List.length_map])
/-- The size that a number has in a row of nodes. -/
def cntOf (all : List S45) (id : Int) : Int := if 1 ≤ id ∧ id ≤ all.length then ((all.map fun x => ((pre x).length : Int)).getD (id.toNat - 1) 0) else 0
theorem size_law {base ga gm : Nat} {all : List S45} {w : World} (id n : Int) (h : PW w base ga gm all) (hl : all.length ≤ 1000000) (e : cntOf all id = n) : Calls Tryz.prog 20 #[.pointer (some ⟨ga, 0, none⟩), .int .i64 id] w fun e w' => e = .returned (.int .i64 n) ∧ w = w' := by
  obtain ⟨v, ks, zs, hp, hs⟩ := h
  have hz : zs.length = all.length := by rw [hs.sizes, List.length_map]
  exact size_calls id n hp (by omega) (by rw [← e, sizeOfId, cntOf, hz, hs.sizes])
theorem new_law (B : Nat) (w : World) (hB : B ≤ w.heap.size) : Calls Tryz.prog 19 #[] w fun e w' => ∃ ga gm, e = .returned (.pointer (some ⟨ga, 0, none⟩)) ∧ PW w' B ga gm [] ∧ Below w.heap.size w w' :=
  (new_calls B w hB).mono fun e w' ⟨ga, gm, h1, h2, h3⟩ => ⟨ga, gm, h1, ⟨_, _, _, h2, St.nil⟩, h3⟩
end Go.Proofs.YthipodffpkglfaaGreatDoor.PQ
