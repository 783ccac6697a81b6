/- The document's R: step. -/
import Derived.Test.YtigihiggpfjbjaaHR2
namespace Go.Proofs.Ytigihiggpfjbjaa.PR
open Go.RowKit Go.Proofs.YtigihiggpfjbjaaW.PrintWords Go.Proofs.YtigihiggpfjbjaaW.PrintLast Go.Proofs.YtigihiggpfjbjaaW.PrintMore
set_option linter.unusedVariables false
set_option linter.unusedSimpArgs false
theorem F25tab0 : rtab .any (opsOf Try.f25 0) = (true, [([], []), ([0], [0]), ([1], [1]), ([2], [2]), ([], []), ([4], [4]), ([5], [5]), ([6], [6]), ([7], [7]), ([8], [8]), ([3, 9], [3, 9]), ([10], [10]), ([], []), ([12, 11, 0, 1, 2, 3, 4, 5, 6, 7, 8, 9, 10, 11, 12], [11, 12])]) := by kernel_rfl
theorem F25tab1 : rtab .any (opsOf Try.f25 1) = (true, [([], []), ([], []), ([1], [1]), ([2], [2]), ([3], [3]), ([], []), ([5], [5]), ([6], [6]), ([7], [7]), ([8], [8]), ([9], [9]), ([4, 10], [4, 10]), ([0, 0, 1, 2, 3, 4, 5, 6, 7, 8, 9, 10, 11], [0]), ([12, 0, 1, 2, 3, 4, 5, 6, 7, 8, 9, 10, 11], [12]), ([13, 11, 0, 1, 2, 3, 4, 5, 6, 7, 8, 9, 10, 11], [11, 13])]) := by kernel_rfl
theorem F25tab11 : rtab .any (opsOf Try.f25 11) = (true, [([], []), ([], []), ([], []), ([2], [2]), ([], []), ([4], [4]), ([0, 0, 2, 3], [0]), ([6, 0, 2, 3], [6]), ([7, 3, 0, 2, 3], [3, 7]), ([1, 0, 1, 2, 3, 4, 5, 6, 7, 8], [1]), ([9, 0, 1, 2, 3, 4, 5, 6, 7, 8], [9]), ([10, 5, 8, 0, 1, 2, 3, 4, 5, 6, 7, 8], [5, 10])]) := by kernel_rfl
theorem F25tab19 : rtab .any (opsOf Try.f25 19) = (true, [([], []), ([0], [0]), ([1], [1]), ([2], [2]), ([3, 2], [2, 3]), ([4, 2, 2], [2, 4]), ([5, 2], [2, 5]), ([6, 5, 2], [2, 6]), ([7], [7]), ([8, 7], [7, 8]), ([9, 7], [7, 9]), ([10, 7], [7, 10]), ([7], [7]), ([12, 7], [7, 12]), ([13, 7, 7], [7, 13]), ([11, 14, 7], [7, 11, 14]), ([7], [7]), ([16, 14, 7], [7, 16]), ([15, 17, 7], [7, 15, 17]), ([7], [7]), ([19, 7], [7, 19]), ([20, 7], [7, 20]), ([21, 7], [7, 21]), ([18, 22, 7], [7, 18, 22]), ([7, 23, 2], [2, 7, 23]), ([2, 24], [2, 24]), ([25, 17, 0, 1, 2, 3, 4, 5, 6, 7, 8, 9, 10, 11, 12, 13, 14, 15, 16, 17, 18, 19, 20, 21, 22, 23, 24, 25], [25])]) := by kernel_rfl
def DX (x : S24) (A : Option Addr) (c : Nat) : Value := .agg #[.int .i64 x.f0, .int .i64 x.f1, .string x.f2, .slice A x.f3.length c]
def pcs6 (x : S24) (A : Option Addr) (c : Nat) (n : Int) (f : Bool) : Array Value := #[.int .i64 x.f0, .int .i64 x.f1, .string x.f2, .slice A x.f3.length c, .int .i64 n, .bool f]
def set6at (w : World) (g : Nat) (v0 v1 v2 v3 v4 v5 : Value) : World := (((((w.setCell ⟨g, 0, none⟩ v0).setCell ⟨g, 1, none⟩ v1).setCell ⟨g, 2, none⟩ v2).setCell ⟨g, 3, none⟩ v3).setCell ⟨g, 4, none⟩ v4).setCell ⟨g, 5, none⟩ v5
theorem set6at_blk {w : World} {g : Nat} {a b c d e f v0 v1 v2 v3 v4 v5 : Value} {t : TypeId} (h : w.heap[g]? = some (.cells #[a, b, c, d, e, f] t (0, 0))) : (set6at w g v0 v1 v2 v3 v4 v5).heap[g]? = some (.cells #[v0, v1, v2, v3, v4, v5] t (0, 0)) :=
  blk_put (blk_put (blk_put (blk_put (blk_put (blk_put h 0 v0 rfl) 1 v1 rfl) 2 v2 rfl) 3 v3 rfl) 4 v4 rfl) 5 v5 rfl
theorem set6at_below {w : World} {g B : Nat} (h : B ≤ g) (v0 v1 v2 v3 v4 v5 : Value) : Below B w (set6at w g v0 v1 v2 v3 v4 v5) := ((((((Below.refl B w).setCell h v0).setCell h v1).setCell h v2).setCell h v3).setCell h v4).setCell h v5
def rS0 (gw g j len c : Nat) (r : Ir) (w' : World) : Prop := w'.cell? ⟨gw, 1, none⟩ = some (.slice (some ⟨g, 0, none⟩) len c) ∧ w'.cell? ⟨g, j * 6, none⟩ = some (.int .i64 r.x.f0) ∧ w'.cell? ⟨g, j * 6 + 1, none⟩ = some (.int .i64 r.x.f1) ∧ w'.cell? ⟨g, j * 6 + 2, none⟩ = some (.string r.x.f2) ∧ w'.cell? ⟨g, j * 6 + 3, none⟩ = some (.slice r.A r.x.f3.length r.c) ∧ w'.cell? ⟨g, j * 6 + 4, none⟩ = some (.int .i64 r.n) ∧ w'.cell? ⟨g, j * 6 + 5, none⟩ = some (.bool r.f) ∧ True
def rS1 (gw g len c : Nat) (w' : World) : Prop := w'.cell? ⟨gw, 1, none⟩ = some (.slice (some ⟨g, 0, none⟩) len c) ∧ True
theorem own_cat {x : S24} (h : ownB x = true) (hk : x.f0 = 5) : x.f1 = 0 := by
  unfold ownB at h
  rw [if_neg (by omega), if_neg (by omega), if_pos hk] at h
  simp only [Bool.and_eq_true, decide_eq_true_eq] at h
  exact h.2
def rS19 (gx gw : Nat) (r : Ir) (fl : Bool) (col wd : Int) (w' : World) : Prop := w'.cell? ⟨gx, 0, none⟩ = some (.int .i64 r.x.f0) ∧ w'.cell? ⟨gx, 1, none⟩ = some (.int .i64 r.x.f1) ∧ w'.cell? ⟨gx, 2, none⟩ = some (.string r.x.f2) ∧ w'.cell? ⟨gx, 3, none⟩ = some (.slice r.A r.x.f3.length r.c) ∧ w'.cell? ⟨gx, 5, none⟩ = some (.bool fl) ∧ w'.cell? ⟨gw, 3, none⟩ = some (.int .i64 col) ∧ w'.cell? ⟨gw, 0, none⟩ = some (.int .i64 wd) ∧ True
theorem wid_of2 (x : S24) (A : Option Addr) (c : Nat) (n : Int) (w : World) (h : Dc w x A c) (hx : finD x) (hc : cnt x ≤ 500) (ho : allOwn x = true) (e : wdV x = n) : Calls Try.prog 19 #[.agg #[.int .i64 x.f0, .int .i64 x.f1, .string x.f2, .slice A x.f3.length c]] w fun e w' => e = .returned (.int .i64 n) ∧ Below w.heap.size w w' := by
  subst e
  exact wid_of x A c w h hx hc ho
theorem rest_calls2 {wD w : World} {B gw : Nat} {wd : Int} {S : St} {its : List Ir} (n : Int) (e : frV (its.reverse.map Ir.it) = n) (hD : Below wD.heap.size wD w) (h : RS w B gw wd S its) (hi : ∀ r ∈ its, OkI wD r) (hn : its.length ≤ 1100) :
    Calls Try.prog 37 #[.pointer (some ⟨gw, 0, none⟩)] w fun e w' => e = .returned (.int .i64 n) ∧ Below w.heap.size w w' := by
  subst e
  exact rest_calls hD h hi hn
def rS11 (gx : Nat) (n : Int) (w' : World) : Prop := w'.cell? ⟨gx, 4, none⟩ = some (.int .i64 n) ∧ True
section
variable {wD w w' : World} {gw : Nat} {wd : Int} {S : St} {its : List Ir} {it : Ir}
/-- The top is taken off. -/
theorem RS.pop {B n c g0 : Nat} (h : RS w B gw wd S (its ++ [it])) (h1 : w.cell? ⟨gw, 1, none⟩ = some (.slice (some ⟨g0, 0, none⟩) n c)) (hn : n = its.length + 1) : RS (w.setCell ⟨gw, 1, none⟩ (.slice (some ⟨g0, 0, none⟩) its.length c)) B gw wd S its := by
  obtain ⟨vr, vo, vm, h0⟩ := h
  have e1 : w.cell? ⟨gw, 1, none⟩ = some vr := (blk_cell h0.wa 1).trans rfl
  rw [e1] at h1
  obtain rfl := Option.some.inj h1
  have hr := h0.hr
  rw [List.map_append] at hr
  have hp := R_pop hr
  subst hn
  refine ⟨.slice (some ⟨g0, 0, none⟩) its.length c, vo, vm, ?_⟩
  have h1 : Rr0 w B gw (rcs wd (.slice (some ⟨g0, 0, none⟩) (its.length + 1) c) vo S.col (S.pen : Int) vm) (.slice (some ⟨g0, 0, none⟩) its.length c) vo vm S.out (its.map irc) S.modes := ⟨h0.wa, h0.hb, hp, h0.hm, h0.bw⟩
  exact h1.set 1 _ rfl
/-- What is pushed. -/
def ComeR (wD : World) (K : List Ir) (l : List S24) (n : Int) (f : Bool) : Prop := K.map Ir.x = l ∧ ∀ r ∈ K, r.n = n ∧ r.f = f ∧ Dc wD r.x r.A r.c
theorem ComeR.nil (wD : World) (n : Int) (f : Bool) : ComeR wD [] [] n f := ⟨rfl, fun r h => by cases h⟩
def StepTo (wD w' : World) (gw : Nat) (wd : Int) (its : List Ir) (t : St × List S24 × Int × Bool) : Prop := (∃ K, ComeR wD K t.2.1 t.2.2.1 t.2.2.2 ∧ RS w' wD.heap.size gw wd t.1 (its ++ K.reverse)) ∧ Below wD.heap.size wD w'
set_option maxHeartbeats 8000000 in
set_option maxRecDepth 100000 in
theorem step_calls {d : Nat} (hD : Below wD.heap.size wD w) (h : RS w wD.heap.size gw wd S (its ++ [it])) (hi : ∀ r ∈ its ++ [it], OkI wD r) (hg : Good d ((its ++ [it]).map Ir.it) S) :
    Calls Try.prog 25 #[.pointer (some ⟨gw, 0, none⟩)] w fun e w' => e = .returned (.tuple #[]) ∧ StepTo wD w' gw wd its (takeP wd it.x it.n it.f (frV (its.reverse.map Ir.it)) S) := by
  have hu37 := Try.underlying37
  have hu34 := Try.underlying34
  have hu60 := Try.underlying60
  have hu24 := Try.underlying24
  have hu22 := Try.underlying22
  have hu35 := Try.underlying35
  have hu30 := Try.underlying30
  have HW := Aside0.mk h
  have HI := Aside0.mk hi
  have HG := Aside0.mk hg
  have HD := Aside0.mk hD
  have HL := Aside0.mk (show (its ++ [it]).length = its.length + 1 by simp)
  have hlen : its.length < 1100 := by have h1 := hg.sum; have h2 := cntI_len ((its ++ [it]).map Ir.it); have := HL.out; rw [List.length_map] at h2; omega
  obtain ⟨g, cap, hcap, q1, r0, r1, r2, r3, r4, r5⟩ := h.item its.length it (by simp)
  rw [HL.out] at q1 hcap
  have HCAP := Aside0.mk hcap
  obtain ⟨n0, hn0⟩ : ∃ n, its.length = n := ⟨_, rfl⟩
  rw [hn0] at q1 r0 r1 r2 r3 r4 r5 HCAP hlen
  have HN := Aside0.mk hn0
  have hw0 : IntKind.i64.wrap (n0 : Int) = (n0 : Int) := by clear hn0; rw [i64_w]; unfold wrap64; omega
  clear h hi hg hD hcap hn0
  go_enter Try.func25, Try.ntmps25
  go_upto_region 0 with (fail)
  have hs_ : rS0 gw g n0 (n0 + 1) cap it w.drew := ⟨bc (below_drew1 (Below.refl _ _)) q1, bc (below_drew1 (Below.refl _ _)) r0, bc (below_drew1 (Below.refl _ _)) r1, bc (below_drew1 (Below.refl _ _)) r2, bc (below_drew1 (Below.refl _ _)) r3, bc (below_drew1 (Below.refl _ _)) r4, bc (below_drew1 (Below.refl _ _)) r5, trivial⟩
  have m0 := Aside0.mk (HW.out.below (below_drew1 (Below.refl _ _)))
  have m1 := Aside0.mk (HD.out.trans (((below_drew1 (Below.refl _ _))).mono HW.out.base_le))
  clear HW HD
  have HW := m0
  have HD := m1
  clear m0 m1
  clear q1 r0 r1 r2 r3 r4 r5
  refine start_ (n := 14) (S := rS0 gw g n0 (n0 + 1) cap it) (ds := [13]) #[false, false, false, false, false, false, false, false, false, false, false, false, false, false] (by kernel_rfl) rfl rfl (hs_) (fun hHeld => ?_)
  clear hs_
  generalize World.drew _ = w5 at HW HD hHeld ⊢
  refine pure_ (i := 0) (N := some 4) (bt 14 1) rfl rfl (any_of F25tab0 (by kernel_rfl)) (fun _ _ _ h => h) (Or.inl ⟨by rfl, by intro w'; go_simp; with_reducible rfl⟩) (by simp only [Act.put, pset]; rfl) ?_
  refine pure_ (i := 1) (N := some 5) (bt 14 3) rfl rfl (any_of F25tab0 (by kernel_rfl)) (fun _ _ _ h => h) (Or.inl ⟨by rfl, by intro w'; go_simp; with_reducible rfl⟩) (by simp only [Act.put, pset]; rfl) ?_
  refine pure_ (i := 2) (N := some 6) (bt 14 7) rfl rfl (any_of F25tab0 (by kernel_rfl)) (fun _ _ _ h => h) (Or.inl ⟨by rfl, by intro w'; go_simp; with_reducible rfl⟩) (by simp only [Act.put, pset]; rfl) ?_
  refine take_ (i := 3) (N := some 7) (bt 14 15) rfl rfl (take_of F25tab0 (by kernel_rfl)) (fun _ _ _ h => h) (Or.inl ⟨by rfl, by rintro w' ⟨s0, s1, s2, s3, s4, s5, s6, s7⟩; go_simp; with_reducible rfl⟩) hHeld (by simp only [Act.put, pset]; rfl) ?_
  refine pure_ (i := 4) (N := some 8) (bt 14 31) rfl rfl (any_of F25tab0 (by kernel_rfl)) (fun _ _ _ h => h) (Or.inl ⟨by rfl, by intro w'; go_simp; with_reducible rfl⟩) (by simp only [Act.put, pset]; rfl) ?_
  refine pure_ (i := 5) (N := some 9) (bt 14 63) rfl rfl (any_of F25tab0 (by kernel_rfl)) (fun _ _ _ h => h) (Or.inl ⟨by rfl, by intro w'; go_simp; with_reducible rfl⟩) (by simp only [Act.put, pset]; rfl) ?_
  refine pure_ (i := 6) (N := some 10) (bt 14 127) rfl rfl (any_of F25tab0 (by kernel_rfl)) (fun _ _ _ h => h) (Or.inl ⟨by rfl, by intro w'; go_simp; with_reducible rfl⟩) (by simp only [Act.put, pset]; rfl) ?_
  refine take_ (i := 7) (N := some 11) (bt 14 255) rfl rfl (take_of F25tab0 (by kernel_rfl)) (fun _ _ _ h => h) (Or.inl ⟨by rfl, by rintro w' ⟨s0, s1, s2, s3, s4, s5, s6, s7⟩; go_simp; with_reducible rfl⟩) hHeld (by simp only [Act.put, pset]; rfl) ?_
  refine pure_ (i := 8) (N := some 12) (bt 14 511) rfl rfl (any_of F25tab0 (by kernel_rfl)) (fun _ _ _ h => h) (Or.inl ⟨by rfl, by intro w'; go_simp; with_reducible rfl⟩) (by simp only [Act.put, pset]; rfl) ?_
  refine pure_ (i := 9) (N := some 13) (bt 14 1023) rfl rfl (any_of F25tab0 (by kernel_rfl)) (fun _ _ _ h => h) (Or.inl ⟨by rfl, by intro w'; go_simp; with_reducible rfl⟩) (by simp only [Act.put, pset]; rfl) ?_
  refine pure_ (i := 10) (N := some 14) (bt 14 2047) rfl rfl (any_of F25tab0 (by kernel_rfl)) (fun _ _ _ h => h) (Or.inl ⟨by rfl, by intro w'; go_simp; rw [if_pos (by omega)]⟩) (by simp only [Act.put, pset]; rfl) ?_
  refine take_ (i := 11) (N := some 15) (bt 14 4095) rfl rfl (take_of F25tab0 (by kernel_rfl)) (fun _ _ _ h => h) (Or.inl ⟨by rfl, by rintro w' ⟨s0, s1, s2, s3, s4, s5, s6, s7⟩; go_simp; with_reducible rfl⟩) hHeld (by simp only [Act.put, pset]; rfl) ?_
  refine one_ (i := 12) (N := some 2) (bt 14 8191) rfl rfl (one_of F25tab0 (by kernel_rfl)) (by decide) (fun K hK => ?_)
  refine box_step (by rfl) (N := 2) rfl (cs := #[.int .i64 0, .int .i64 0, .string (⟨#[]⟩ : ByteArray), .slice none 0 0, .int .i64 0, .bool false]) (t := 60) ?hrun ?_
  case hrun => first | (go_simp; done) | (go_simp; rfl)
  intro gx hg w501 hbox hb
  have BX := Aside0.mk hbox; have HGX := Aside0.mk (show w5.heap.size ≤ gx from hg ▸ Nat.le_refl _); have HBX := Aside0.mk hb
  clear hbox hg
  refine hK.out _ _ (⟨bc hb hHeld.1, bc hb hHeld.2.1, bc hb hHeld.2.2.1, bc hb hHeld.2.2.2.1, bc hb hHeld.2.2.2.2.1, bc hb hHeld.2.2.2.2.2.1, bc hb hHeld.2.2.2.2.2.2.1, trivial⟩) (fun hHeld => ?_)
  clear hK K
  refine norm_ (show Act.put _ (some 2) _ = _ from (by simp only [Act.put, pset]; rfl)) ?_
  clear hb
  have z0 : w501.cell? ⟨gx, 0, none⟩ = some (.int .i64 0) := (blk_cell BX.out 0).trans rfl
  have z1 : w501.cell? ⟨gx, 1, none⟩ = some (.int .i64 0) := (blk_cell BX.out 1).trans rfl
  have z2 : w501.cell? ⟨gx, 2, none⟩ = some (.string (⟨#[]⟩ : ByteArray)) := (blk_cell BX.out 2).trans rfl
  have z3 : w501.cell? ⟨gx, 3, none⟩ = some (.slice none 0 0) := (blk_cell BX.out 3).trans rfl
  have z4 : w501.cell? ⟨gx, 4, none⟩ = some (.int .i64 0) := (blk_cell BX.out 4).trans rfl
  have z5 : w501.cell? ⟨gx, 5, none⟩ = some (.bool false) := (blk_cell BX.out 5).trans rfl
  have y0 := blk_frozen BX.out 0
  have y1 := blk_frozen BX.out 1
  have y2 := blk_frozen BX.out 2
  have y3 := blk_frozen BX.out 3
  have y4 := blk_frozen BX.out 4
  have y5 := blk_frozen BX.out 5
  refine last_ (i := 13) (N := none) (bt 14 16383) rfl rfl (one_of F25tab0 (by kernel_rfl)) (by decide) (fun K hK => ?_)
  refine skip_ (w1 := set6at w501 gx (.int .i64 it.x.f0) (.int .i64 it.x.f1) (.string it.x.f2) (.slice it.A it.x.f3.length it.c) (.int .i64 it.n) (.bool it.f)) rfl rfl ?hrun ?_
  case hrun => first | (go_simp; done) | (go_simp; rfl)
  refine hK.out _ _ (done_ (done_of F25tab0 (by kernel_rfl)) ?_)
  clear hHeld hK K z0 z1 z2 z3 z4 z5 y0 y1 y2 y3 y4 y5
  have hb6 := HBX.out.trans (set6at_below HGX.out (.int .i64 it.x.f0) (.int .i64 it.x.f1) (.string it.x.f2) (.slice it.A it.x.f3.length it.c) (.int .i64 it.n) (.bool it.f))
  have BX6 : Aside0 ((set6at w501 gx (.int .i64 it.x.f0) (.int .i64 it.x.f1) (.string it.x.f2) (.slice it.A it.x.f3.length it.c) (.int .i64 it.n) (.bool it.f)).heap[gx]? = some (.cells (pcs6 it.x it.A it.c it.n it.f) 60 (0, 0))) := ⟨set6at_blk BX.out⟩
  have NE := Aside0.mk (show gx ≠ gw from by have h1 := HW.out.lt; have h2 := HGX.out; omega)
  have GB := Aside0.mk (show wD.heap.size ≤ gx from Nat.le_trans HW.out.base_le HGX.out)
  have m0 := Aside0.mk (HW.out.below hb6)
  have m1 := Aside0.mk (HD.out.trans ((hb6).mono HW.out.base_le))
  clear HW HD
  have HW := m0
  have HD := m1
  clear m0 m1
  clear BX HGX HBX hb6
  generalize set6at w501 gx _ _ _ _ _ _ = w6 at HW HD BX6 ⊢
  obtain ⟨g6, cap6, hc6, q6, _⟩ := HW.out.item its.length it (by simp)
  rw [HL.out] at q6 hc6
  rw [HN.out] at q6 hc6
  have HC6 := Aside0.mk hc6
  clear hc6
  go_upto_region 1 with (fail)
  have hs_ : rS1 gw g6 (n0 + 1) cap6 w6.drew := ⟨bc (below_drew1 (Below.refl _ _)) q6, trivial⟩
  have m3 := Aside0.mk (blk_below BX6.out (below_drew1 (Below.refl _ _)))
  clear BX6
  have BX6 := m3
  clear m3
  have m0 := Aside0.mk (HW.out.below (below_drew1 (Below.refl _ _)))
  have m1 := Aside0.mk (HD.out.trans (((below_drew1 (Below.refl _ _))).mono HW.out.base_le))
  clear HW HD
  have HW := m0
  have HD := m1
  clear m0 m1
  clear q6
  refine start_ (n := 15) (S := rS1 gw g6 (n0 + 1) cap6) (ds := [14]) #[false, false, false, false, false, false, false, false, false, false, false, false, false, false, false] (by kernel_rfl) rfl rfl (hs_) (fun hHeld => ?_)
  generalize World.drew _ = w7 at HW HD BX6 hHeld hs_ ⊢
  have q6 := hs_.1
  clear hs_
  have f6 := HW.out.frozen 1
  have hcap : n0 ≤ cap6 := by have := HC6.out; omega
  refine pure_ (i := 0) (N := some 16) (bt 15 1) rfl rfl (any_of F25tab1 (by kernel_rfl)) (fun _ _ _ h => h) (Or.inl ⟨by rfl, by intro w'; go_simp; with_reducible rfl⟩) (by simp only [Act.put, pset]; rfl) ?_
  refine pure_ (i := 1) (N := some 17) (bt 15 3) rfl rfl (any_of F25tab1 (by kernel_rfl)) (fun _ _ _ h => h) (Or.inl ⟨by rfl, by intro w'; go_simp; with_reducible rfl⟩) (by simp only [Act.put, pset]; rfl) ?_
  refine pure_ (i := 2) (N := some 18) (bt 15 7) rfl rfl (any_of F25tab1 (by kernel_rfl)) (fun _ _ _ h => h) (Or.inl ⟨by rfl, by intro w'; go_simp; with_reducible rfl⟩) (by simp only [Act.put, pset]; rfl) ?_
  refine pure_ (i := 3) (N := some 19) (bt 15 15) rfl rfl (any_of F25tab1 (by kernel_rfl)) (fun _ _ _ h => h) (Or.inl ⟨by rfl, by intro w'; go_simp; with_reducible rfl⟩) (by simp only [Act.put, pset]; rfl) ?_
  refine take_ (i := 4) (N := some 20) (bt 15 31) rfl rfl (take_of F25tab1 (by kernel_rfl)) (fun _ _ _ h => h) (Or.inl ⟨by rfl, by rintro w' ⟨s0, s1⟩; go_simp; with_reducible rfl⟩) hHeld (by simp only [Act.put, pset]; rfl) ?_
  refine pure_ (i := 5) (N := some 21) (bt 15 63) rfl rfl (any_of F25tab1 (by kernel_rfl)) (fun _ _ _ h => h) (Or.inl ⟨by rfl, by intro w'; go_simp; with_reducible rfl⟩) (by simp only [Act.put, pset]; rfl) ?_
  refine pure_ (i := 6) (N := some 22) (bt 15 127) rfl rfl (any_of F25tab1 (by kernel_rfl)) (fun _ _ _ h => h) (Or.inl ⟨by rfl, by intro w'; go_simp; with_reducible rfl⟩) (by simp only [Act.put, pset]; rfl) ?_
  refine pure_ (i := 7) (N := some 23) (bt 15 255) rfl rfl (any_of F25tab1 (by kernel_rfl)) (fun _ _ _ h => h) (Or.inl ⟨by rfl, by intro w'; go_simp; with_reducible rfl⟩) (by simp only [Act.put, pset]; rfl) ?_
  refine take_ (i := 8) (N := some 24) (bt 15 511) rfl rfl (take_of F25tab1 (by kernel_rfl)) (fun _ _ _ h => h) (Or.inl ⟨by rfl, by rintro w' ⟨s0, s1⟩; go_simp; with_reducible rfl⟩) hHeld (by simp only [Act.put, pset]; rfl) ?_
  refine pure_ (i := 9) (N := some 25) (bt 15 1023) rfl rfl (any_of F25tab1 (by kernel_rfl)) (fun _ _ _ h => h) (Or.inl ⟨by rfl, by intro w'; go_simp; with_reducible rfl⟩) (by simp only [Act.put, pset]; rfl) ?_
  refine pure_ (i := 10) (N := some 26) (bt 15 2047) rfl rfl (any_of F25tab1 (by kernel_rfl)) (fun _ _ _ h => h) (Or.inl ⟨by rfl, by intro w'; go_simp; with_reducible rfl⟩) (by simp only [Act.put, pset]; rfl) ?_
  refine pure_ (i := 11) (N := some 27) (bt 15 4095) rfl rfl (any_of F25tab1 (by kernel_rfl)) (fun _ _ _ h => h) (Or.inl ⟨by rfl, by intro w'; go_simp; with_reducible rfl⟩) (by simp only [Act.put, pset]; rfl) ?_
  refine pure_ (i := 12) (N := some 28) (bt 15 8191) rfl rfl (any_of F25tab1 (by kernel_rfl)) (fun _ _ _ h => h) (Or.inl ⟨by rfl, by intro w'; go_simp; with_reducible rfl⟩) (by simp only [Act.put, pset]; rfl) ?_
  refine pure_ (i := 13) (N := some 29) (bt 15 16383) rfl rfl (any_of F25tab1 (by kernel_rfl)) (fun _ _ _ h => h) (Or.inl ⟨by rfl, by intro w'; go_simp; with_reducible rfl⟩) (by simp only [Act.put, pset]; rfl) ?_
  refine last_ (i := 14) (N := none) (bt 15 32767) rfl rfl (one_of F25tab1 (by kernel_rfl)) (by decide) (fun K hK => ?_)
  refine skip_ (w1 := w7.setCell ⟨gw, 1, none⟩ (.slice (some ⟨g6, 0, none⟩) n0 cap6)) rfl rfl ?hrun ?_
  case hrun => first | (go_simp; done) | (go_simp; rfl)
  refine hK.out _ _ (done_ (done_of F25tab1 (by kernel_rfl)) ?_)
  clear hHeld hK K f6
  have m0 := Aside0.mk (show RS (w7.setCell ⟨gw, 1, none⟩ (.slice (some ⟨g6, 0, none⟩) n0 cap6)) wD.heap.size gw wd S its from HN.out ▸ RS.pop HW.out q6 (by rw [HN.out]))
  have m1 := Aside0.mk (HD.out.trans (HW.out.set_below 1 (.slice (some ⟨g6, 0, none⟩) n0 cap6)))
  have m3 := Aside0.mk (blk_far BX6.out (p := ⟨gw, 1, none⟩) NE.out (.slice (some ⟨g6, 0, none⟩) n0 cap6))
  clear HW HD BX6 q6
  have HW := m0
  have HD := m1
  have BX6 := m3
  clear m0 m1 m3 HC6 HCAP
  generalize World.setCell _ _ _ = w8 at HW HD BX6 ⊢
  have HO := Aside0.mk (HI.out it (by simp))
  have HGI := Aside0.mk (HG.out.it it.it (by simp))
  have HIS := Aside0.mk (fun r hr => HI.out r (List.mem_append.2 (Or.inl hr)))
  have FR := Aside0.mk (show its.length ≤ 1000000 by rw [HN.out]; omega)
  have z0 : w8.cell? ⟨gx, 0, none⟩ = some (.int .i64 it.x.f0) := (blk_cell BX6.out 0).trans rfl
  have z1 : w8.cell? ⟨gx, 1, none⟩ = some (.int .i64 it.x.f1) := (blk_cell BX6.out 1).trans rfl
  have z2 : w8.cell? ⟨gx, 2, none⟩ = some (.string it.x.f2) := (blk_cell BX6.out 2).trans rfl
  have z3 : w8.cell? ⟨gx, 3, none⟩ = some (.slice it.A it.x.f3.length it.c) := (blk_cell BX6.out 3).trans rfl
  have z4 : w8.cell? ⟨gx, 4, none⟩ = some (.int .i64 it.n) := (blk_cell BX6.out 4).trans rfl
  have z5 : w8.cell? ⟨gx, 5, none⟩ = some (.bool it.f) := (blk_cell BX6.out 5).trans rfl
  have OK := Aside0.mk (allOwn_own HO.out.own)
  rcases own_kinds OK.out.1 with hk | hk | hk | hk | hk | hk | hk
  · have HK := Aside0.mk hk
    rw [hk] at z0
    have HS := Aside0.mk ((finD_eq _).1 HO.out.fin).1
    have EW := Aside0.mk (leaf_wd OK.out.1 (Or.inl hk))
    clear hk
    cases he : it.x.f2.toList.isEmpty
    · have HE := Aside0.mk he
      go_wp2_with (first | ((with_reducible refine gate_dst (N := 43) rfl ?_); refine goesL_ (some 43) rfl rfl Try.func35 (by kernel_rfl) rfl #[.pointer (some ⟨gw, 0, none⟩), .string it.x.f2] rfl (by (try simp only [List.map_toArray, List.map_cons, List.map_nil]); first | done | rfl) ?_; (refine (rwrite_calls it.x.f2 (wdV it.x) HD.out HW.out (by have := HS.out; omega) (by rw [EW.out, if_pos HK.out]) (by have h1 := HG.out.sum; have h2 := HG.out.pen; omega) (by have h1 := HG.out.sum; have h2 := HG.out.pen; have h3 := HG.out.out; have h4 := HS.out; omega)).mono ?_); (rintro e w143 ⟨rfl, hr, hb⟩; refine ⟨_, rfl, ?_⟩; have HR := Aside0.mk hr; clear HD HW hr; have HD := Aside0.mk hb; clear hb z0 z1 z2 z3 z4 z5)))
      go_end0
      have et : takeP wd it.x it.n it.f (frV (its.reverse.map Ir.it)) S = (textP it.x.f2 (wdV it.x) S, [], 0, false) := by rw [takeP, if_pos HK.out]
      have e2 : wrap64 (S.col + wdV it.x) = S.col + wdV it.x := by have h1 := HG.out.col0; have h2 := HG.out.col1; have h3 := HG.out.sum; have h4 := wdV_le _ HO.out.fin; have h5 := HO.out.few; unfold wrap64; omega
      rw [et]
      unfold textP
      rw [if_neg (by rw [HE.out]; decide), ← e2]
      exact ⟨rfl, ⟨[], ComeR.nil _ _ _, by rw [List.reverse_nil, List.append_nil]; exact HR.out⟩, HD.out⟩
    · have HE := Aside0.mk he
      have hem := emp_of_isEmpty he
      rw [hem] at z2
      clear he hem
      go_wp2_with fail
      go_end0
      have et : takeP wd it.x it.n it.f (frV (its.reverse.map Ir.it)) S = (textP it.x.f2 (wdV it.x) S, [], 0, false) := by rw [takeP, if_pos HK.out]
      rw [et]
      unfold textP
      rw [if_pos HE.out]
      exact ⟨rfl, ⟨[], ComeR.nil _ _ _, by rw [List.reverse_nil, List.append_nil]; exact HW.out⟩, HD.out⟩
  · have HK := Aside0.mk hk
    rw [hk] at z0
    clear hk
    cases hf : it.f
    · have HF := Aside0.mk hf
      rw [hf] at z5
      clear hf
      obtain ⟨vr, vo, vm, hw, q0, q1, q2, q3, q4, q5⟩ := HW.out.open_
      have HR := Aside0.mk hw
      clear hw
      go_upto_region 11 with (first | ((with_reducible refine gate_dst (N := 64) rfl ?_); refine print_append_num (w0 := wD) wD.heap.size rfl (.tmp 62) (.tmp 63) 35 5 .u8 1 rfl Try.underlying35 infoU8 (by decide) vo S.out 10 rfl rfl HR.out.hb HD.out HR.out.base_le (by have h1 := HG.out.sum; have h3 := HG.out.out; omega) ?_; intro v1 w2 hown hbl hg hat; obtain ⟨A1, k1, ev1⟩ := own_slice hown; obtain ⟨n1, hn1⟩ : ∃ n, (S.out ++ [(10 : Int)]).length = n := ⟨_, rfl⟩; rw [hn1] at ev1; clear hn1; subst ev1; have G := Aside0.mk (HR.out.grow_b hown hg); have BX7 := Aside0.mk (blk_grown BX6.out hg (own_ne_blk HR.out.hb BX6.out (by decide)).symm); clear HR HW HD BX6 hown hg hat q0 q1 q2 q3 q4 q5 z0 z1 z2 z3 z4 z5; have HD := Aside0.mk hbl; clear hbl; have c2 : w2.cell? ⟨gw, 2, none⟩ = some vo := (blk_cell G.out.wa 2).trans rfl; have f2 := blk_frozen G.out.wa 2))
      have G2 := Aside0.mk (G.out.set 2 (.slice A1 n1 k1) (cs' := rcs wd vr (.slice A1 n1 k1) S.col (S.pen : Int) vm) rfl)
      have n2 := Aside0.mk (HD.out.trans (G.out.set_below 2 (.slice A1 n1 k1)))
      have n3 := Aside0.mk (blk_far BX7.out (p := ⟨gw, 2, none⟩) NE.out (.slice A1 n1 k1))
      clear G HD BX7 c2 f2
      have HD := n2
      have BX6 := n3
      clear n2 n3
      generalize World.setCell _ _ _ = w3 at G2 HD BX6 ⊢
      have n1 := Aside0.mk (G2.out.below (below_drew1 (Below.refl _ _)))
      have n2 := Aside0.mk (HD.out.trans (((below_drew1 (Below.refl _ _))).mono G2.out.base_le))
      have n3 := Aside0.mk (blk_below BX6.out (below_drew1 (Below.refl _ _)))
      clear G2 HD BX6
      have G2 := n1
      have HD := n2
      have BX6 := n3
      clear n1 n2 n3
      have hs_ : rS11 gx it.n w3.drew := ⟨(blk_cell BX6.out 4).trans rfl, trivial⟩
      refine start_ (n := 12) (S := rS11 gx it.n) (ds := [11]) #[false, false, false, false, false, false, false, false, false, false, false, false] (by kernel_rfl) rfl rfl (hs_) (fun hHeld => ?_)
      clear hs_
      generalize World.drew _ = w500 at G2 HD BX6 hHeld ⊢
      refine pure_ (i := 0) (N := some 67) (bt 12 1) rfl rfl (any_of F25tab11 (by kernel_rfl)) (fun _ _ _ h => h) (Or.inl ⟨by rfl, by intro w'; go_simp; with_reducible rfl⟩) (by simp only [Act.put, pset]; rfl) ?_
      refine pure_ (i := 1) (N := some 68) (bt 12 3) rfl rfl (any_of F25tab11 (by kernel_rfl)) (fun _ _ _ h => h) (Or.inl ⟨by rfl, by intro w'; go_simp; with_reducible rfl⟩) (by simp only [Act.put, pset]; rfl) ?_
      refine pure_ (i := 2) (N := some 69) (bt 12 7) rfl rfl (any_of F25tab11 (by kernel_rfl)) (fun _ _ _ h => h) (Or.inl ⟨by rfl, by intro w'; go_simp; with_reducible rfl⟩) (by simp only [Act.put, pset]; rfl) ?_
      refine take_ (i := 3) (N := some 70) (bt 12 15) rfl rfl (take_of F25tab11 (by kernel_rfl)) (fun _ _ _ h => h) (Or.inl ⟨by rfl, by rintro w' ⟨s0, s1⟩; go_simp; with_reducible rfl⟩) hHeld (by simp only [Act.put, pset]; rfl) ?_
      refine pure_ (i := 4) (N := some 71) (bt 12 31) rfl rfl (any_of F25tab11 (by kernel_rfl)) (fun _ _ _ h => h) (Or.inl ⟨by rfl, by intro w'; go_simp; with_reducible rfl⟩) (by simp only [Act.put, pset]; rfl) ?_
      refine take_ (i := 5) (N := some 72) (bt 12 63) rfl rfl (take_of F25tab11 (by kernel_rfl)) (fun _ _ _ h => h) (Or.inl ⟨by rfl, by rintro w' ⟨s0, s1⟩; go_simp; with_reducible rfl⟩) hHeld (by simp only [Act.put, pset]; rfl) ?_
      refine pure_ (i := 6) (N := some 73) (bt 12 127) rfl rfl (any_of F25tab11 (by kernel_rfl)) (fun _ _ _ h => h) (Or.inl ⟨by rfl, by intro w'; go_simp; with_reducible rfl⟩) (by simp only [Act.put, pset]; rfl) ?_
      refine pure_ (i := 7) (N := some 74) (bt 12 255) rfl rfl (any_of F25tab11 (by kernel_rfl)) (fun _ _ _ h => h) (Or.inl ⟨by rfl, by intro w'; go_simp; with_reducible rfl⟩) (by simp only [Act.put, pset]; rfl) ?_
      have f3 := blk_frozen G2.out.wa 3
      have c3 : w500.cell? ⟨gw, 3, none⟩ = some (.int .i64 S.col) := (blk_cell G2.out.wa 3).trans rfl
      refine one_ (i := 8) (N := none) (bt 12 511) rfl rfl (one_of F25tab11 (by kernel_rfl)) (by decide) (fun K hK => ?_)
      refine skip_ (w1 := w500.setCell ⟨gw, 3, none⟩ (.int .i64 it.n)) rfl rfl ?hrun ?_
      case hrun => first | (go_simp; done) | (go_simp; rfl)
      have n3 := Aside0.mk (blk_far BX6.out (p := ⟨gw, 3, none⟩) NE.out (.int .i64 it.n))
      refine hK.out _ _ (⟨(blk_cell n3.out 4).trans rfl, trivial⟩) (fun hHeld => ?_)
      clear hK K f3 c3
      have n1 := Aside0.mk (G2.out.set 3 (.int .i64 it.n) (cs' := rcs wd vr (.slice A1 n1 k1) it.n (S.pen : Int) vm) rfl)
      have n2 := Aside0.mk (HD.out.trans (G2.out.set_below 3 (.int .i64 it.n)))
      clear G2 HD BX6 n3
      have G2 := n1
      have HD := n2
      clear n1 n2
      generalize World.setCell _ _ _ = w501 at G2 HD hHeld ⊢
      have f4 := blk_frozen G2.out.wa 4
      have c4 : w501.cell? ⟨gw, 4, none⟩ = some (.int .i64 (S.pen : Int)) := (blk_cell G2.out.wa 4).trans rfl
      refine pure_ (i := 9) (N := some 75) (bt 12 1023) rfl rfl (any_of F25tab11 (by kernel_rfl)) (fun _ _ _ h => h) (Or.inl ⟨by rfl, by intro w'; go_simp; with_reducible rfl⟩) (by simp only [Act.put, pset]; rfl) ?_
      refine pure_ (i := 10) (N := some 76) (bt 12 2047) rfl rfl (any_of F25tab11 (by kernel_rfl)) (fun _ _ _ h => h) (Or.inl ⟨by rfl, by intro w'; go_simp; with_reducible rfl⟩) (by simp only [Act.put, pset]; rfl) ?_
      refine last_ (i := 11) (N := none) (bt 12 4095) rfl rfl (one_of F25tab11 (by kernel_rfl)) (by decide) (fun K hK => ?_)
      refine skip_ (w1 := w501.setCell ⟨gw, 4, none⟩ (.int .i64 it.n)) rfl rfl ?hrun ?_
      case hrun => first | (go_simp; done) | (go_simp; rfl)
      refine hK.out _ _ (done_ (done_of F25tab11 (by kernel_rfl)) ?_)
      clear hHeld hK K f4 c4
      have HR : Aside0 (RS (w501.setCell ⟨gw, 4, none⟩ (.int .i64 it.n)) wD.heap.size gw wd (lineP it.n S) its) := ⟨⟨vr, (.slice A1 n1 k1), vm, by have q := G2.out.set 4 (.int .i64 it.n) (cs' := rcs wd vr (.slice A1 n1 k1) it.n it.n vm) rfl; have e : ((it.n.toNat : Nat) : Int) = it.n := Int.toNat_of_nonneg HGI.out.n0; unfold lineP; simp only; rw [e]; exact q⟩⟩
      have n2 := Aside0.mk (HD.out.trans (G2.out.set_below 4 (.int .i64 it.n)))
      clear G2 HD
      have HD := n2
      clear n2
      generalize World.setCell _ _ _ = w9 at HR HD ⊢
      go_wp2_with fail
      go_end0
      have et : takeP wd it.x it.n it.f (frV (its.reverse.map Ir.it)) S = (lineP it.n S, [], 0, false) := by rw [takeP, if_neg (by rw [HK.out]; decide), if_pos (by rw [HK.out]; decide)]; rw [if_pos (Or.inl HF.out)]
      try rw [HF.out] at et
      try rw [HF.out]
      rw [et]
      exact ⟨rfl, ⟨[], ComeR.nil _ _ _, by rw [List.reverse_nil, List.append_nil]; exact HR.out⟩, HD.out⟩
    · have HF := Aside0.mk hf
      rw [hf] at z5
      clear hf
      go_wp2_with (first | ((with_reducible refine gate_dst (N := 83) rfl ?_); refine goesL_ (some 83) rfl rfl Try.func35 (by kernel_rfl) rfl #[.pointer (some ⟨gw, 0, none⟩), .string ⟨#[32]⟩] rfl (by (try simp only [List.map_toArray, List.map_cons, List.map_nil]); first | done | rfl) ?_; (refine (rwrite_calls (⟨#[32]⟩ : ByteArray) 1 HD.out HW.out (by decide) (by decide +kernel) (by have h1 := HG.out.sum; have h2 := HG.out.pen; omega) (by have h1 := HG.out.sum; have h2 := HG.out.pen; have h3 := HG.out.out; have h4 : (⟨#[32]⟩ : ByteArray).size = 1 := rfl; omega)).mono ?_); (rintro e w183 ⟨rfl, hr, hb⟩; refine ⟨_, rfl, ?_⟩; have HR := Aside0.mk hr; clear HD HW hr; have HD := Aside0.mk hb; clear hb z0 z1 z2 z3 z4 z5)))
      go_end0
      have et : takeP wd it.x it.n it.f (frV (its.reverse.map Ir.it)) S = (textP (⟨#[32]⟩ : ByteArray) 1 S, [], 0, false) := by rw [takeP, if_neg (by rw [HK.out]; decide), if_pos (by rw [HK.out]; decide)]; rw [if_neg (by rw [HK.out, HF.out]; decide), if_pos HK.out]
      have e2 : wrap64 (S.col + 1) = S.col + 1 := by have h1 := HG.out.col0; have h2 := HG.out.col1; have h3 := HG.out.sum; unfold wrap64; omega
      try rw [HF.out] at et
      try rw [HF.out]
      rw [et]
      unfold textP
      rw [if_neg (by rw [blank_toList]; decide), ← e2]
      exact ⟨rfl, ⟨[], ComeR.nil _ _ _, by rw [List.reverse_nil, List.append_nil]; exact HR.out⟩, HD.out⟩
  · have HK := Aside0.mk hk
    rw [hk] at z0
    clear hk
    cases hf : it.f
    · have HF := Aside0.mk hf
      rw [hf] at z5
      clear hf
      obtain ⟨vr, vo, vm, hw, q0, q1, q2, q3, q4, q5⟩ := HW.out.open_
      have HR := Aside0.mk hw
      clear hw
      go_upto_region 11 with (first | ((with_reducible refine gate_dst (N := 64) rfl ?_); refine print_append_num (w0 := wD) wD.heap.size rfl (.tmp 62) (.tmp 63) 35 5 .u8 1 rfl Try.underlying35 infoU8 (by decide) vo S.out 10 rfl rfl HR.out.hb HD.out HR.out.base_le (by have h1 := HG.out.sum; have h3 := HG.out.out; omega) ?_; intro v1 w2 hown hbl hg hat; obtain ⟨A1, k1, ev1⟩ := own_slice hown; obtain ⟨n1, hn1⟩ : ∃ n, (S.out ++ [(10 : Int)]).length = n := ⟨_, rfl⟩; rw [hn1] at ev1; clear hn1; subst ev1; have G := Aside0.mk (HR.out.grow_b hown hg); have BX7 := Aside0.mk (blk_grown BX6.out hg (own_ne_blk HR.out.hb BX6.out (by decide)).symm); clear HR HW HD BX6 hown hg hat q0 q1 q2 q3 q4 q5 z0 z1 z2 z3 z4 z5; have HD := Aside0.mk hbl; clear hbl; have c2 : w2.cell? ⟨gw, 2, none⟩ = some vo := (blk_cell G.out.wa 2).trans rfl; have f2 := blk_frozen G.out.wa 2))
      have G2 := Aside0.mk (G.out.set 2 (.slice A1 n1 k1) (cs' := rcs wd vr (.slice A1 n1 k1) S.col (S.pen : Int) vm) rfl)
      have n2 := Aside0.mk (HD.out.trans (G.out.set_below 2 (.slice A1 n1 k1)))
      have n3 := Aside0.mk (blk_far BX7.out (p := ⟨gw, 2, none⟩) NE.out (.slice A1 n1 k1))
      clear G HD BX7 c2 f2
      have HD := n2
      have BX6 := n3
      clear n2 n3
      generalize World.setCell _ _ _ = w3 at G2 HD BX6 ⊢
      have n1 := Aside0.mk (G2.out.below (below_drew1 (Below.refl _ _)))
      have n2 := Aside0.mk (HD.out.trans (((below_drew1 (Below.refl _ _))).mono G2.out.base_le))
      have n3 := Aside0.mk (blk_below BX6.out (below_drew1 (Below.refl _ _)))
      clear G2 HD BX6
      have G2 := n1
      have HD := n2
      have BX6 := n3
      clear n1 n2 n3
      have hs_ : rS11 gx it.n w3.drew := ⟨(blk_cell BX6.out 4).trans rfl, trivial⟩
      refine start_ (n := 12) (S := rS11 gx it.n) (ds := [11]) #[false, false, false, false, false, false, false, false, false, false, false, false] (by kernel_rfl) rfl rfl (hs_) (fun hHeld => ?_)
      clear hs_
      generalize World.drew _ = w500 at G2 HD BX6 hHeld ⊢
      refine pure_ (i := 0) (N := some 67) (bt 12 1) rfl rfl (any_of F25tab11 (by kernel_rfl)) (fun _ _ _ h => h) (Or.inl ⟨by rfl, by intro w'; go_simp; with_reducible rfl⟩) (by simp only [Act.put, pset]; rfl) ?_
      refine pure_ (i := 1) (N := some 68) (bt 12 3) rfl rfl (any_of F25tab11 (by kernel_rfl)) (fun _ _ _ h => h) (Or.inl ⟨by rfl, by intro w'; go_simp; with_reducible rfl⟩) (by simp only [Act.put, pset]; rfl) ?_
      refine pure_ (i := 2) (N := some 69) (bt 12 7) rfl rfl (any_of F25tab11 (by kernel_rfl)) (fun _ _ _ h => h) (Or.inl ⟨by rfl, by intro w'; go_simp; with_reducible rfl⟩) (by simp only [Act.put, pset]; rfl) ?_
      refine take_ (i := 3) (N := some 70) (bt 12 15) rfl rfl (take_of F25tab11 (by kernel_rfl)) (fun _ _ _ h => h) (Or.inl ⟨by rfl, by rintro w' ⟨s0, s1⟩; go_simp; with_reducible rfl⟩) hHeld (by simp only [Act.put, pset]; rfl) ?_
      refine pure_ (i := 4) (N := some 71) (bt 12 31) rfl rfl (any_of F25tab11 (by kernel_rfl)) (fun _ _ _ h => h) (Or.inl ⟨by rfl, by intro w'; go_simp; with_reducible rfl⟩) (by simp only [Act.put, pset]; rfl) ?_
      refine take_ (i := 5) (N := some 72) (bt 12 63) rfl rfl (take_of F25tab11 (by kernel_rfl)) (fun _ _ _ h => h) (Or.inl ⟨by rfl, by rintro w' ⟨s0, s1⟩; go_simp; with_reducible rfl⟩) hHeld (by simp only [Act.put, pset]; rfl) ?_
      refine pure_ (i := 6) (N := some 73) (bt 12 127) rfl rfl (any_of F25tab11 (by kernel_rfl)) (fun _ _ _ h => h) (Or.inl ⟨by rfl, by intro w'; go_simp; with_reducible rfl⟩) (by simp only [Act.put, pset]; rfl) ?_
      refine pure_ (i := 7) (N := some 74) (bt 12 255) rfl rfl (any_of F25tab11 (by kernel_rfl)) (fun _ _ _ h => h) (Or.inl ⟨by rfl, by intro w'; go_simp; with_reducible rfl⟩) (by simp only [Act.put, pset]; rfl) ?_
      have f3 := blk_frozen G2.out.wa 3
      have c3 : w500.cell? ⟨gw, 3, none⟩ = some (.int .i64 S.col) := (blk_cell G2.out.wa 3).trans rfl
      refine one_ (i := 8) (N := none) (bt 12 511) rfl rfl (one_of F25tab11 (by kernel_rfl)) (by decide) (fun K hK => ?_)
      refine skip_ (w1 := w500.setCell ⟨gw, 3, none⟩ (.int .i64 it.n)) rfl rfl ?hrun ?_
      case hrun => first | (go_simp; done) | (go_simp; rfl)
      have n3 := Aside0.mk (blk_far BX6.out (p := ⟨gw, 3, none⟩) NE.out (.int .i64 it.n))
      refine hK.out _ _ (⟨(blk_cell n3.out 4).trans rfl, trivial⟩) (fun hHeld => ?_)
      clear hK K f3 c3
      have n1 := Aside0.mk (G2.out.set 3 (.int .i64 it.n) (cs' := rcs wd vr (.slice A1 n1 k1) it.n (S.pen : Int) vm) rfl)
      have n2 := Aside0.mk (HD.out.trans (G2.out.set_below 3 (.int .i64 it.n)))
      clear G2 HD BX6 n3
      have G2 := n1
      have HD := n2
      clear n1 n2
      generalize World.setCell _ _ _ = w501 at G2 HD hHeld ⊢
      have f4 := blk_frozen G2.out.wa 4
      have c4 : w501.cell? ⟨gw, 4, none⟩ = some (.int .i64 (S.pen : Int)) := (blk_cell G2.out.wa 4).trans rfl
      refine pure_ (i := 9) (N := some 75) (bt 12 1023) rfl rfl (any_of F25tab11 (by kernel_rfl)) (fun _ _ _ h => h) (Or.inl ⟨by rfl, by intro w'; go_simp; with_reducible rfl⟩) (by simp only [Act.put, pset]; rfl) ?_
      refine pure_ (i := 10) (N := some 76) (bt 12 2047) rfl rfl (any_of F25tab11 (by kernel_rfl)) (fun _ _ _ h => h) (Or.inl ⟨by rfl, by intro w'; go_simp; with_reducible rfl⟩) (by simp only [Act.put, pset]; rfl) ?_
      refine last_ (i := 11) (N := none) (bt 12 4095) rfl rfl (one_of F25tab11 (by kernel_rfl)) (by decide) (fun K hK => ?_)
      refine skip_ (w1 := w501.setCell ⟨gw, 4, none⟩ (.int .i64 it.n)) rfl rfl ?hrun ?_
      case hrun => first | (go_simp; done) | (go_simp; rfl)
      refine hK.out _ _ (done_ (done_of F25tab11 (by kernel_rfl)) ?_)
      clear hHeld hK K f4 c4
      have HR : Aside0 (RS (w501.setCell ⟨gw, 4, none⟩ (.int .i64 it.n)) wD.heap.size gw wd (lineP it.n S) its) := ⟨⟨vr, (.slice A1 n1 k1), vm, by have q := G2.out.set 4 (.int .i64 it.n) (cs' := rcs wd vr (.slice A1 n1 k1) it.n it.n vm) rfl; have e : ((it.n.toNat : Nat) : Int) = it.n := Int.toNat_of_nonneg HGI.out.n0; unfold lineP; simp only; rw [e]; exact q⟩⟩
      have n2 := Aside0.mk (HD.out.trans (G2.out.set_below 4 (.int .i64 it.n)))
      clear G2 HD
      have HD := n2
      clear n2
      generalize World.setCell _ _ _ = w9 at HR HD ⊢
      go_wp2_with fail
      go_end0
      have et : takeP wd it.x it.n it.f (frV (its.reverse.map Ir.it)) S = (lineP it.n S, [], 0, false) := by rw [takeP, if_neg (by rw [HK.out]; decide), if_pos (by rw [HK.out]; decide)]; rw [if_pos (Or.inl HF.out)]
      try rw [HF.out] at et
      try rw [HF.out]
      rw [et]
      exact ⟨rfl, ⟨[], ComeR.nil _ _ _, by rw [List.reverse_nil, List.append_nil]; exact HR.out⟩, HD.out⟩
    · have HF := Aside0.mk hf
      rw [hf] at z5
      clear hf
      go_wp2_with fail
      go_end0
      have et : takeP wd it.x it.n it.f (frV (its.reverse.map Ir.it)) S = (S, [], 0, false) := by rw [takeP, if_neg (by rw [HK.out]; decide), if_pos (by rw [HK.out]; decide)]; rw [if_neg (by rw [HK.out, HF.out]; decide), if_neg (by rw [HK.out]; decide)]
      try rw [HF.out] at et
      try rw [HF.out]
      rw [et]
      exact ⟨rfl, ⟨[], ComeR.nil _ _ _, by rw [List.reverse_nil, List.append_nil]; exact HW.out⟩, HD.out⟩
  · have HK := Aside0.mk hk
    rw [hk] at z0
    clear hk
    cases hf : it.f
    · have HF := Aside0.mk hf
      rw [hf] at z5
      clear hf
      obtain ⟨vr, vo, vm, hw, q0, q1, q2, q3, q4, q5⟩ := HW.out.open_
      have HR := Aside0.mk hw
      clear hw
      go_upto_region 11 with (first | ((with_reducible refine gate_dst (N := 64) rfl ?_); refine print_append_num (w0 := wD) wD.heap.size rfl (.tmp 62) (.tmp 63) 35 5 .u8 1 rfl Try.underlying35 infoU8 (by decide) vo S.out 10 rfl rfl HR.out.hb HD.out HR.out.base_le (by have h1 := HG.out.sum; have h3 := HG.out.out; omega) ?_; intro v1 w2 hown hbl hg hat; obtain ⟨A1, k1, ev1⟩ := own_slice hown; obtain ⟨n1, hn1⟩ : ∃ n, (S.out ++ [(10 : Int)]).length = n := ⟨_, rfl⟩; rw [hn1] at ev1; clear hn1; subst ev1; have G := Aside0.mk (HR.out.grow_b hown hg); have BX7 := Aside0.mk (blk_grown BX6.out hg (own_ne_blk HR.out.hb BX6.out (by decide)).symm); clear HR HW HD BX6 hown hg hat q0 q1 q2 q3 q4 q5 z0 z1 z2 z3 z4 z5; have HD := Aside0.mk hbl; clear hbl; have c2 : w2.cell? ⟨gw, 2, none⟩ = some vo := (blk_cell G.out.wa 2).trans rfl; have f2 := blk_frozen G.out.wa 2))
      have G2 := Aside0.mk (G.out.set 2 (.slice A1 n1 k1) (cs' := rcs wd vr (.slice A1 n1 k1) S.col (S.pen : Int) vm) rfl)
      have n2 := Aside0.mk (HD.out.trans (G.out.set_below 2 (.slice A1 n1 k1)))
      have n3 := Aside0.mk (blk_far BX7.out (p := ⟨gw, 2, none⟩) NE.out (.slice A1 n1 k1))
      clear G HD BX7 c2 f2
      have HD := n2
      have BX6 := n3
      clear n2 n3
      generalize World.setCell _ _ _ = w3 at G2 HD BX6 ⊢
      have n1 := Aside0.mk (G2.out.below (below_drew1 (Below.refl _ _)))
      have n2 := Aside0.mk (HD.out.trans (((below_drew1 (Below.refl _ _))).mono G2.out.base_le))
      have n3 := Aside0.mk (blk_below BX6.out (below_drew1 (Below.refl _ _)))
      clear G2 HD BX6
      have G2 := n1
      have HD := n2
      have BX6 := n3
      clear n1 n2 n3
      have hs_ : rS11 gx it.n w3.drew := ⟨(blk_cell BX6.out 4).trans rfl, trivial⟩
      refine start_ (n := 12) (S := rS11 gx it.n) (ds := [11]) #[false, false, false, false, false, false, false, false, false, false, false, false] (by kernel_rfl) rfl rfl (hs_) (fun hHeld => ?_)
      clear hs_
      generalize World.drew _ = w500 at G2 HD BX6 hHeld ⊢
      refine pure_ (i := 0) (N := some 67) (bt 12 1) rfl rfl (any_of F25tab11 (by kernel_rfl)) (fun _ _ _ h => h) (Or.inl ⟨by rfl, by intro w'; go_simp; with_reducible rfl⟩) (by simp only [Act.put, pset]; rfl) ?_
      refine pure_ (i := 1) (N := some 68) (bt 12 3) rfl rfl (any_of F25tab11 (by kernel_rfl)) (fun _ _ _ h => h) (Or.inl ⟨by rfl, by intro w'; go_simp; with_reducible rfl⟩) (by simp only [Act.put, pset]; rfl) ?_
      refine pure_ (i := 2) (N := some 69) (bt 12 7) rfl rfl (any_of F25tab11 (by kernel_rfl)) (fun _ _ _ h => h) (Or.inl ⟨by rfl, by intro w'; go_simp; with_reducible rfl⟩) (by simp only [Act.put, pset]; rfl) ?_
      refine take_ (i := 3) (N := some 70) (bt 12 15) rfl rfl (take_of F25tab11 (by kernel_rfl)) (fun _ _ _ h => h) (Or.inl ⟨by rfl, by rintro w' ⟨s0, s1⟩; go_simp; with_reducible rfl⟩) hHeld (by simp only [Act.put, pset]; rfl) ?_
      refine pure_ (i := 4) (N := some 71) (bt 12 31) rfl rfl (any_of F25tab11 (by kernel_rfl)) (fun _ _ _ h => h) (Or.inl ⟨by rfl, by intro w'; go_simp; with_reducible rfl⟩) (by simp only [Act.put, pset]; rfl) ?_
      refine take_ (i := 5) (N := some 72) (bt 12 63) rfl rfl (take_of F25tab11 (by kernel_rfl)) (fun _ _ _ h => h) (Or.inl ⟨by rfl, by rintro w' ⟨s0, s1⟩; go_simp; with_reducible rfl⟩) hHeld (by simp only [Act.put, pset]; rfl) ?_
      refine pure_ (i := 6) (N := some 73) (bt 12 127) rfl rfl (any_of F25tab11 (by kernel_rfl)) (fun _ _ _ h => h) (Or.inl ⟨by rfl, by intro w'; go_simp; with_reducible rfl⟩) (by simp only [Act.put, pset]; rfl) ?_
      refine pure_ (i := 7) (N := some 74) (bt 12 255) rfl rfl (any_of F25tab11 (by kernel_rfl)) (fun _ _ _ h => h) (Or.inl ⟨by rfl, by intro w'; go_simp; with_reducible rfl⟩) (by simp only [Act.put, pset]; rfl) ?_
      have f3 := blk_frozen G2.out.wa 3
      have c3 : w500.cell? ⟨gw, 3, none⟩ = some (.int .i64 S.col) := (blk_cell G2.out.wa 3).trans rfl
      refine one_ (i := 8) (N := none) (bt 12 511) rfl rfl (one_of F25tab11 (by kernel_rfl)) (by decide) (fun K hK => ?_)
      refine skip_ (w1 := w500.setCell ⟨gw, 3, none⟩ (.int .i64 it.n)) rfl rfl ?hrun ?_
      case hrun => first | (go_simp; done) | (go_simp; rfl)
      have n3 := Aside0.mk (blk_far BX6.out (p := ⟨gw, 3, none⟩) NE.out (.int .i64 it.n))
      refine hK.out _ _ (⟨(blk_cell n3.out 4).trans rfl, trivial⟩) (fun hHeld => ?_)
      clear hK K f3 c3
      have n1 := Aside0.mk (G2.out.set 3 (.int .i64 it.n) (cs' := rcs wd vr (.slice A1 n1 k1) it.n (S.pen : Int) vm) rfl)
      have n2 := Aside0.mk (HD.out.trans (G2.out.set_below 3 (.int .i64 it.n)))
      clear G2 HD BX6 n3
      have G2 := n1
      have HD := n2
      clear n1 n2
      generalize World.setCell _ _ _ = w501 at G2 HD hHeld ⊢
      have f4 := blk_frozen G2.out.wa 4
      have c4 : w501.cell? ⟨gw, 4, none⟩ = some (.int .i64 (S.pen : Int)) := (blk_cell G2.out.wa 4).trans rfl
      refine pure_ (i := 9) (N := some 75) (bt 12 1023) rfl rfl (any_of F25tab11 (by kernel_rfl)) (fun _ _ _ h => h) (Or.inl ⟨by rfl, by intro w'; go_simp; with_reducible rfl⟩) (by simp only [Act.put, pset]; rfl) ?_
      refine pure_ (i := 10) (N := some 76) (bt 12 2047) rfl rfl (any_of F25tab11 (by kernel_rfl)) (fun _ _ _ h => h) (Or.inl ⟨by rfl, by intro w'; go_simp; with_reducible rfl⟩) (by simp only [Act.put, pset]; rfl) ?_
      refine last_ (i := 11) (N := none) (bt 12 4095) rfl rfl (one_of F25tab11 (by kernel_rfl)) (by decide) (fun K hK => ?_)
      refine skip_ (w1 := w501.setCell ⟨gw, 4, none⟩ (.int .i64 it.n)) rfl rfl ?hrun ?_
      case hrun => first | (go_simp; done) | (go_simp; rfl)
      refine hK.out _ _ (done_ (done_of F25tab11 (by kernel_rfl)) ?_)
      clear hHeld hK K f4 c4
      have HR : Aside0 (RS (w501.setCell ⟨gw, 4, none⟩ (.int .i64 it.n)) wD.heap.size gw wd (lineP it.n S) its) := ⟨⟨vr, (.slice A1 n1 k1), vm, by have q := G2.out.set 4 (.int .i64 it.n) (cs' := rcs wd vr (.slice A1 n1 k1) it.n it.n vm) rfl; have e : ((it.n.toNat : Nat) : Int) = it.n := Int.toNat_of_nonneg HGI.out.n0; unfold lineP; simp only; rw [e]; exact q⟩⟩
      have n2 := Aside0.mk (HD.out.trans (G2.out.set_below 4 (.int .i64 it.n)))
      clear G2 HD
      have HD := n2
      clear n2
      generalize World.setCell _ _ _ = w9 at HR HD ⊢
      go_wp2_with fail
      go_end0
      have et : takeP wd it.x it.n it.f (frV (its.reverse.map Ir.it)) S = (lineP it.n S, [], 0, false) := by rw [takeP, if_neg (by rw [HK.out]; decide), if_pos (by rw [HK.out]; decide)]; rw [if_pos (Or.inl HF.out)]
      try rw [HF.out] at et
      try rw [HF.out]
      rw [et]
      exact ⟨rfl, ⟨[], ComeR.nil _ _ _, by rw [List.reverse_nil, List.append_nil]; exact HR.out⟩, HD.out⟩
    · have HF := Aside0.mk hf
      rw [hf] at z5
      clear hf
      obtain ⟨vr, vo, vm, hw, q0, q1, q2, q3, q4, q5⟩ := HW.out.open_
      have HR := Aside0.mk hw
      clear hw
      go_upto_region 11 with (first | ((with_reducible refine gate_dst (N := 64) rfl ?_); refine print_append_num (w0 := wD) wD.heap.size rfl (.tmp 62) (.tmp 63) 35 5 .u8 1 rfl Try.underlying35 infoU8 (by decide) vo S.out 10 rfl rfl HR.out.hb HD.out HR.out.base_le (by have h1 := HG.out.sum; have h3 := HG.out.out; omega) ?_; intro v1 w2 hown hbl hg hat; obtain ⟨A1, k1, ev1⟩ := own_slice hown; obtain ⟨n1, hn1⟩ : ∃ n, (S.out ++ [(10 : Int)]).length = n := ⟨_, rfl⟩; rw [hn1] at ev1; clear hn1; subst ev1; have G := Aside0.mk (HR.out.grow_b hown hg); have BX7 := Aside0.mk (blk_grown BX6.out hg (own_ne_blk HR.out.hb BX6.out (by decide)).symm); clear HR HW HD BX6 hown hg hat q0 q1 q2 q3 q4 q5 z0 z1 z2 z3 z4 z5; have HD := Aside0.mk hbl; clear hbl; have c2 : w2.cell? ⟨gw, 2, none⟩ = some vo := (blk_cell G.out.wa 2).trans rfl; have f2 := blk_frozen G.out.wa 2))
      have G2 := Aside0.mk (G.out.set 2 (.slice A1 n1 k1) (cs' := rcs wd vr (.slice A1 n1 k1) S.col (S.pen : Int) vm) rfl)
      have n2 := Aside0.mk (HD.out.trans (G.out.set_below 2 (.slice A1 n1 k1)))
      have n3 := Aside0.mk (blk_far BX7.out (p := ⟨gw, 2, none⟩) NE.out (.slice A1 n1 k1))
      clear G HD BX7 c2 f2
      have HD := n2
      have BX6 := n3
      clear n2 n3
      generalize World.setCell _ _ _ = w3 at G2 HD BX6 ⊢
      have n1 := Aside0.mk (G2.out.below (below_drew1 (Below.refl _ _)))
      have n2 := Aside0.mk (HD.out.trans (((below_drew1 (Below.refl _ _))).mono G2.out.base_le))
      have n3 := Aside0.mk (blk_below BX6.out (below_drew1 (Below.refl _ _)))
      clear G2 HD BX6
      have G2 := n1
      have HD := n2
      have BX6 := n3
      clear n1 n2 n3
      have hs_ : rS11 gx it.n w3.drew := ⟨(blk_cell BX6.out 4).trans rfl, trivial⟩
      refine start_ (n := 12) (S := rS11 gx it.n) (ds := [11]) #[false, false, false, false, false, false, false, false, false, false, false, false] (by kernel_rfl) rfl rfl (hs_) (fun hHeld => ?_)
      clear hs_
      generalize World.drew _ = w500 at G2 HD BX6 hHeld ⊢
      refine pure_ (i := 0) (N := some 67) (bt 12 1) rfl rfl (any_of F25tab11 (by kernel_rfl)) (fun _ _ _ h => h) (Or.inl ⟨by rfl, by intro w'; go_simp; with_reducible rfl⟩) (by simp only [Act.put, pset]; rfl) ?_
      refine pure_ (i := 1) (N := some 68) (bt 12 3) rfl rfl (any_of F25tab11 (by kernel_rfl)) (fun _ _ _ h => h) (Or.inl ⟨by rfl, by intro w'; go_simp; with_reducible rfl⟩) (by simp only [Act.put, pset]; rfl) ?_
      refine pure_ (i := 2) (N := some 69) (bt 12 7) rfl rfl (any_of F25tab11 (by kernel_rfl)) (fun _ _ _ h => h) (Or.inl ⟨by rfl, by intro w'; go_simp; with_reducible rfl⟩) (by simp only [Act.put, pset]; rfl) ?_
      refine take_ (i := 3) (N := some 70) (bt 12 15) rfl rfl (take_of F25tab11 (by kernel_rfl)) (fun _ _ _ h => h) (Or.inl ⟨by rfl, by rintro w' ⟨s0, s1⟩; go_simp; with_reducible rfl⟩) hHeld (by simp only [Act.put, pset]; rfl) ?_
      refine pure_ (i := 4) (N := some 71) (bt 12 31) rfl rfl (any_of F25tab11 (by kernel_rfl)) (fun _ _ _ h => h) (Or.inl ⟨by rfl, by intro w'; go_simp; with_reducible rfl⟩) (by simp only [Act.put, pset]; rfl) ?_
      refine take_ (i := 5) (N := some 72) (bt 12 63) rfl rfl (take_of F25tab11 (by kernel_rfl)) (fun _ _ _ h => h) (Or.inl ⟨by rfl, by rintro w' ⟨s0, s1⟩; go_simp; with_reducible rfl⟩) hHeld (by simp only [Act.put, pset]; rfl) ?_
      refine pure_ (i := 6) (N := some 73) (bt 12 127) rfl rfl (any_of F25tab11 (by kernel_rfl)) (fun _ _ _ h => h) (Or.inl ⟨by rfl, by intro w'; go_simp; with_reducible rfl⟩) (by simp only [Act.put, pset]; rfl) ?_
      refine pure_ (i := 7) (N := some 74) (bt 12 255) rfl rfl (any_of F25tab11 (by kernel_rfl)) (fun _ _ _ h => h) (Or.inl ⟨by rfl, by intro w'; go_simp; with_reducible rfl⟩) (by simp only [Act.put, pset]; rfl) ?_
      have f3 := blk_frozen G2.out.wa 3
      have c3 : w500.cell? ⟨gw, 3, none⟩ = some (.int .i64 S.col) := (blk_cell G2.out.wa 3).trans rfl
      refine one_ (i := 8) (N := none) (bt 12 511) rfl rfl (one_of F25tab11 (by kernel_rfl)) (by decide) (fun K hK => ?_)
      refine skip_ (w1 := w500.setCell ⟨gw, 3, none⟩ (.int .i64 it.n)) rfl rfl ?hrun ?_
      case hrun => first | (go_simp; done) | (go_simp; rfl)
      have n3 := Aside0.mk (blk_far BX6.out (p := ⟨gw, 3, none⟩) NE.out (.int .i64 it.n))
      refine hK.out _ _ (⟨(blk_cell n3.out 4).trans rfl, trivial⟩) (fun hHeld => ?_)
      clear hK K f3 c3
      have n1 := Aside0.mk (G2.out.set 3 (.int .i64 it.n) (cs' := rcs wd vr (.slice A1 n1 k1) it.n (S.pen : Int) vm) rfl)
      have n2 := Aside0.mk (HD.out.trans (G2.out.set_below 3 (.int .i64 it.n)))
      clear G2 HD BX6 n3
      have G2 := n1
      have HD := n2
      clear n1 n2
      generalize World.setCell _ _ _ = w501 at G2 HD hHeld ⊢
      have f4 := blk_frozen G2.out.wa 4
      have c4 : w501.cell? ⟨gw, 4, none⟩ = some (.int .i64 (S.pen : Int)) := (blk_cell G2.out.wa 4).trans rfl
      refine pure_ (i := 9) (N := some 75) (bt 12 1023) rfl rfl (any_of F25tab11 (by kernel_rfl)) (fun _ _ _ h => h) (Or.inl ⟨by rfl, by intro w'; go_simp; with_reducible rfl⟩) (by simp only [Act.put, pset]; rfl) ?_
      refine pure_ (i := 10) (N := some 76) (bt 12 2047) rfl rfl (any_of F25tab11 (by kernel_rfl)) (fun _ _ _ h => h) (Or.inl ⟨by rfl, by intro w'; go_simp; with_reducible rfl⟩) (by simp only [Act.put, pset]; rfl) ?_
      refine last_ (i := 11) (N := none) (bt 12 4095) rfl rfl (one_of F25tab11 (by kernel_rfl)) (by decide) (fun K hK => ?_)
      refine skip_ (w1 := w501.setCell ⟨gw, 4, none⟩ (.int .i64 it.n)) rfl rfl ?hrun ?_
      case hrun => first | (go_simp; done) | (go_simp; rfl)
      refine hK.out _ _ (done_ (done_of F25tab11 (by kernel_rfl)) ?_)
      clear hHeld hK K f4 c4
      have HR : Aside0 (RS (w501.setCell ⟨gw, 4, none⟩ (.int .i64 it.n)) wD.heap.size gw wd (lineP it.n S) its) := ⟨⟨vr, (.slice A1 n1 k1), vm, by have q := G2.out.set 4 (.int .i64 it.n) (cs' := rcs wd vr (.slice A1 n1 k1) it.n it.n vm) rfl; have e : ((it.n.toNat : Nat) : Int) = it.n := Int.toNat_of_nonneg HGI.out.n0; unfold lineP; simp only; rw [e]; exact q⟩⟩
      have n2 := Aside0.mk (HD.out.trans (G2.out.set_below 4 (.int .i64 it.n)))
      clear G2 HD
      have HD := n2
      clear n2
      generalize World.setCell _ _ _ = w9 at HR HD ⊢
      go_wp2_with fail
      go_end0
      have et : takeP wd it.x it.n it.f (frV (its.reverse.map Ir.it)) S = (lineP it.n S, [], 0, false) := by rw [takeP, if_neg (by rw [HK.out]; decide), if_pos (by rw [HK.out]; decide)]; rw [if_pos (Or.inr HK.out)]
      try rw [HF.out] at et
      try rw [HF.out]
      rw [et]
      exact ⟨rfl, ⟨[], ComeR.nil _ _ _, by rw [List.reverse_nil, List.append_nil]; exact HR.out⟩, HD.out⟩
  · have HK := Aside0.mk hk
    rw [hk] at z0
    have E1 := Aside0.mk (show it.x.f1 = 0 from own_cat OK.out.1 hk)
    clear hk
    obtain ⟨ks, k1, k2, k3, k4⟩ := kids_of HO.out.dx it.n it.f
    have K1 := Aside0.mk k1
    have K2 := Aside0.mk k2
    have K3 := Aside0.mk k3
    have K4 := Aside0.mk k4
    clear k1 k2 k3 k4
    go_wp2_with (first | ((with_reducible refine gate_dst (N := 94) rfl ?_); refine goesL_ (some 94) rfl rfl Try.func36 (by kernel_rfl) rfl #[.pointer (some ⟨gw, 0, none⟩), .slice it.A it.x.f3.length it.c, .int .i64 it.n, .bool it.f] rfl (by (try simp only [List.map_toArray, List.map_cons, List.map_nil]); first | done | rfl) ?_; (refine (rpush_calls it.n it.f HD.out HW.out K1.out K4.out (by have h1 := HO.out.few; have h2 := cnt_eq it.x; have h3 := len_cntL it.x.f3; have h4 := HN.out; omega)).mono ?_); (rintro e w194 ⟨rfl, hr, hb⟩; refine ⟨_, rfl, ?_⟩; have HR := Aside0.mk hr; clear HD HW hr; have HD := Aside0.mk hb; clear hb z0 z1 z2 z3 z4 z5)))
    go_end0
    have et : takeP wd it.x it.n it.f (frV (its.reverse.map Ir.it)) S = (S, it.x.f3, it.n, it.f) := by rw [takeP, if_neg (by rw [HK.out]; decide), if_neg (by rw [HK.out]; decide), if_neg (by rw [HK.out]; decide)]; rw [E1.out, Int.add_zero]
    rw [et]
    exact ⟨rfl, ⟨ks, ⟨K2.out, K3.out⟩, HR.out⟩, HD.out⟩
  · have HK := Aside0.mk hk
    rw [hk] at z0
    have E1 := Aside0.mk (own_nest OK.out.1 (Or.inr hk))
    have EN : Aside0 (wrap64 (it.n + it.x.f1) = it.n + it.x.f1) := ⟨by have h1 := E1.out; have h2 := HGI.out.n0; have h3 := HGI.out.n1; have h4 := HG.out.sum; have h5 : it.it.n = it.n := rfl; unfold wrap64; omega⟩
    clear hk
    obtain ⟨ks, k1, k2, k3, k4⟩ := kids_of HO.out.dx (wrap64 (it.n + it.x.f1)) it.f
    have K1 := Aside0.mk k1
    have K2 := Aside0.mk k2
    have K3 := Aside0.mk k3
    have K4 := Aside0.mk k4
    clear k1 k2 k3 k4
    go_wp2_with (first | ((with_reducible refine gate_dst (N := 109) rfl ?_); refine goesL_ (some 109) rfl rfl Try.func36 (by kernel_rfl) rfl #[.pointer (some ⟨gw, 0, none⟩), .slice it.A it.x.f3.length it.c, .int .i64 (wrap64 (it.n + it.x.f1)), .bool it.f] rfl (by (try simp only [List.map_toArray, List.map_cons, List.map_nil]); first | done | rfl) ?_; (refine (rpush_calls (wrap64 (it.n + it.x.f1)) it.f HD.out HW.out K1.out K4.out (by have h1 := HO.out.few; have h2 := cnt_eq it.x; have h3 := len_cntL it.x.f3; have h4 := HN.out; omega)).mono ?_); (rintro e w209 ⟨rfl, hr, hb⟩; refine ⟨_, rfl, ?_⟩; have HR := Aside0.mk hr; clear HD HW hr; have HD := Aside0.mk hb; clear hb z0 z1 z2 z3 z4 z5)))
    go_end0
    have et : takeP wd it.x it.n it.f (frV (its.reverse.map Ir.it)) S = (S, it.x.f3, (it.n + it.x.f1), it.f) := by rw [takeP, if_neg (by rw [HK.out]; decide), if_neg (by rw [HK.out]; decide), if_neg (by rw [HK.out]; decide)]
    rw [et]
    exact ⟨rfl, ⟨ks, ⟨K2.out, by have q := K3.out; rw [EN.out] at q; exact q⟩, HR.out⟩, HD.out⟩
  · have HK := Aside0.mk hk
    rw [hk] at z0
    clear hk
    obtain ⟨wdx, hwx⟩ : ∃ u : Int, wdV it.x = u := ⟨_, rfl⟩
    obtain ⟨fr, hfr⟩ : ∃ u : Int, frV (its.reverse.map Ir.it) = u := ⟨_, rfl⟩
    have HWX := Aside0.mk hwx
    have HFR := Aside0.mk hfr
    clear hwx hfr
    have EFB : Aside0 (frcB it.x = false → decide (wrap64 (wrap64 (S.col + wdx) + fr) ≤ wd) = fitB it.x wd S.col fr) := ⟨fun hf => by
      have hn0 := HG.out.sum
      have hL := FR.out
      have hN := HN.out
      have hb1 : ∀ y ∈ its.reverse.map Ir.it, 0 ≤ (ldV y.x).1 ∧ (ldV y.x).1 ≤ 100000000 := fun y hy => by
        obtain ⟨r, hr, rfl⟩ := List.mem_map.1 hy
        have q := HIS.out r (List.mem_reverse.1 hr)
        have q1 := ldV_le _ q.fin
        have q2 := q.few
        show 0 ≤ (ldV r.x).1 ∧ (ldV r.x).1 ≤ 100000000
        omega
      have f0 := frV_nonneg _ (fun y hy => (hb1 y hy).1)
      have f2 := frV_le _ (fun y hy => (hb1 y hy).2) (fun y hy => (hb1 y hy).1)
      rw [List.length_map, List.length_reverse] at f2
      rw [HFR.out] at f0 f2
      have h1 := HG.out.col0
      have h2 := HG.out.col1
      have h4 := wdV_le _ HO.out.fin
      have h5 := HO.out.few
      rw [HWX.out] at h4
      have e := fit_of (its := its.map Ir.it) (wd := wd) (col := S.col) wdx HWX.out hf fr (Or.inl (by rw [← List.map_reverse]; exact HFR.out.symm)) h1 (by omega) (by omega) f0 (by omega)
      rw [← List.map_reverse, HFR.out] at e
      exact e⟩
    cases hf : it.f
    · have HF := Aside0.mk hf
      clear hf
      cases hfc : frcB it.x
      · have HFC := Aside0.mk hfc
        clear hfc
        have HFV : Aside0 (some (Value.bool it.f) = some (Value.bool false)) := ⟨by rw [HF.out]⟩
        go_upto_region 19 with (fail)
        clear z0 z1 z2 z3 z4 z5
        have n1 := Aside0.mk (HW.out.below (below_drew1 (Below.refl _ _)))
        have n2 := Aside0.mk (HD.out.trans (((below_drew1 (Below.refl _ _))).mono HW.out.base_le))
        have n3 := Aside0.mk (blk_below BX6.out (below_drew1 (Below.refl _ _)))
        clear HW HD BX6
        have HW := n1
        have HD := n2
        have BX6 := n3
        clear n1 n2 n3
        have hs_ : rS19 gx gw it false S.col wd w8.drew := ⟨(blk_cell BX6.out 0).trans rfl, (blk_cell BX6.out 1).trans rfl, (blk_cell BX6.out 2).trans rfl, (blk_cell BX6.out 3).trans rfl, (blk_cell BX6.out 5).trans HFV.out, HW.out.c3, HW.out.c0, trivial⟩
        refine start_ (n := 27) (S := rS19 gx gw it false S.col wd) (ds := []) #[false, false, false, false, false, false, false, false, false, false, false, false, false, false, false, false, false, false, false, false, false, false, false, false, false, false, false] (by kernel_rfl) rfl rfl (hs_) (fun hHeld => ?_)
        clear hs_
        generalize World.drew _ = w500 at HW HD BX6 hHeld ⊢
        refine pure_ (i := 0) (N := some 112) (bt 27 1) rfl rfl (any_of F25tab19 (by kernel_rfl)) (fun _ _ _ h => h) (Or.inl ⟨by rfl, by intro w'; go_simp; with_reducible rfl⟩) (by simp only [Act.put, pset]; rfl) ?_
        refine take_ (i := 1) (N := some 113) (bt 27 3) rfl rfl (take_of F25tab19 (by kernel_rfl)) (fun _ _ _ h => h) (Or.inl ⟨by rfl, by rintro w' ⟨s0, s1, s2, s3, s4, s5, s6, s7⟩; go_simp; with_reducible rfl⟩) hHeld (by simp only [Act.put, pset]; rfl) ?_
        refine pure_ (i := 2) (N := some 114) (bt 27 7) rfl rfl (any_of F25tab19 (by kernel_rfl)) (fun _ _ _ h => h) (Or.inl ⟨by rfl, by intro w'; go_simp; with_reducible rfl⟩) (by simp only [Act.put, pset]; rfl) ?_
        refine pure_ (i := 3) (N := some 115) (bt 27 15) rfl rfl (any_of F25tab19 (by kernel_rfl)) (fun _ _ _ h => h) (Or.inl ⟨by rfl, by intro w'; go_simp; with_reducible rfl⟩) (by simp only [Act.put, pset]; rfl) ?_
        refine take_ (i := 4) (N := some 116) (bt 27 31) rfl rfl (take_of F25tab19 (by kernel_rfl)) (fun _ _ _ h => h) (Or.inl ⟨by rfl, by rintro w' ⟨s0, s1, s2, s3, s4, s5, s6, s7⟩; go_simp; with_reducible rfl⟩) hHeld (by simp only [Act.put, pset]; rfl) ?_
        refine one_ (i := 5) (N := some 117) (bt 27 63) rfl rfl (one_of F25tab19 (by kernel_rfl)) (by decide) (fun K hK => ?_)
        refine goes_ Try.func17 (by kernel_rfl) rfl #[.agg #[.int .i64 it.x.f0, .int .i64 it.x.f1, .string it.x.f2, .slice it.A it.x.f3.length it.c]] (by rfl) rfl rfl (by (try simp only [List.map_toArray, List.map_cons, List.map_nil]); first | done | rfl) ?_
        refine (frc_of it.x it.A it.c false _ (Dc.below HO.out.dx HD.out) HO.out.fin HFC.out).mono ?_
        rintro e w501 ⟨rfl, hb⟩
        refine ⟨_, rfl, ?_⟩
        have n1 := Aside0.mk (HW.out.below hb); have n2 := Aside0.mk (HD.out.trans ((hb).mono HW.out.base_le)); have n3 := Aside0.mk (blk_below BX6.out hb); clear HW HD BX6; have HW := n1; have HD := n2; have BX6 := n3; clear n1 n2 n3
        refine hK.out _ _ (⟨bc hb hHeld.1, bc hb hHeld.2.1, bc hb hHeld.2.2.1, bc hb hHeld.2.2.2.1, bc hb hHeld.2.2.2.2.1, bc hb hHeld.2.2.2.2.2.1, bc hb hHeld.2.2.2.2.2.2.1, trivial⟩) (fun hHeld => ?_)
        clear hK K
        refine norm_ (show Act.put _ (some 117) _ = _ from (by simp only [Act.put, pset]; rfl)) ?_
        refine pure_ (i := 6) (N := some 118) (bt 27 127) rfl rfl (any_of F25tab19 (by kernel_rfl)) (fun _ _ _ h => h) (Or.inl ⟨by rfl, by intro w'; go_simp; with_reducible rfl⟩) (by simp only [Act.put, pset]; rfl) ?_
        refine pure_ (i := 7) (N := some 119) (bt 27 255) rfl rfl (any_of F25tab19 (by kernel_rfl)) (fun _ _ _ h => h) (Or.inl ⟨by rfl, by intro w'; go_simp; with_reducible rfl⟩) (by simp only [Act.put, pset]; rfl) ?_
        refine pure_ (i := 8) (N := some 120) (bt 27 511) rfl rfl (any_of F25tab19 (by kernel_rfl)) (fun _ _ _ h => h) (Or.inl ⟨by rfl, by intro w'; go_simp; with_reducible rfl⟩) (by simp only [Act.put, pset]; rfl) ?_
        refine pure_ (i := 9) (N := some 121) (bt 27 1023) rfl rfl (any_of F25tab19 (by kernel_rfl)) (fun _ _ _ h => h) (Or.inl ⟨by rfl, by intro w'; go_simp; with_reducible rfl⟩) (by simp only [Act.put, pset]; rfl) ?_
        refine pure_ (i := 10) (N := some 122) (bt 27 2047) rfl rfl (any_of F25tab19 (by kernel_rfl)) (fun _ _ _ h => h) (Or.inl ⟨by rfl, by intro w'; go_simp; with_reducible rfl⟩) (by simp only [Act.put, pset]; rfl) ?_
        refine take_ (i := 11) (N := some 123) (bt 27 4095) rfl rfl (take_of F25tab19 (by kernel_rfl)) (fun _ _ _ h => h) (Or.inl ⟨by rfl, by rintro w' ⟨s0, s1, s2, s3, s4, s5, s6, s7⟩; go_simp; with_reducible rfl⟩) hHeld (by simp only [Act.put, pset]; rfl) ?_
        refine pure_ (i := 12) (N := some 124) (bt 27 8191) rfl rfl (any_of F25tab19 (by kernel_rfl)) (fun _ _ _ h => h) (Or.inl ⟨by rfl, by intro w'; go_simp; with_reducible rfl⟩) (by simp only [Act.put, pset]; rfl) ?_
        refine take_ (i := 13) (N := some 125) (bt 27 16383) rfl rfl (take_of F25tab19 (by kernel_rfl)) (fun _ _ _ h => h) (Or.inl ⟨by rfl, by rintro w' ⟨s0, s1, s2, s3, s4, s5, s6, s7⟩; go_simp; with_reducible rfl⟩) hHeld (by simp only [Act.put, pset]; rfl) ?_
        refine pure_ (i := 16) (N := some 128) (bt 27 81919) rfl rfl (any_of F25tab19 (by kernel_rfl)) (fun _ _ _ h => h) (Or.inl ⟨by rfl, by intro w'; go_simp; with_reducible rfl⟩) (by simp only [Act.put, pset]; rfl) ?_
        refine pure_ (i := 19) (N := some 131) (bt 27 606207) rfl rfl (any_of F25tab19 (by kernel_rfl)) (fun _ _ _ h => h) (Or.inl ⟨by rfl, by intro w'; go_simp; with_reducible rfl⟩) (by simp only [Act.put, pset]; rfl) ?_
        refine pure_ (i := 20) (N := some 132) (bt 27 1654783) rfl rfl (any_of F25tab19 (by kernel_rfl)) (fun _ _ _ h => h) (Or.inl ⟨by rfl, by intro w'; go_simp; with_reducible rfl⟩) (by simp only [Act.put, pset]; rfl) ?_
        refine pure_ (i := 21) (N := some 133) (bt 27 3751935) rfl rfl (any_of F25tab19 (by kernel_rfl)) (fun _ _ _ h => h) (Or.inl ⟨by rfl, by intro w'; go_simp; with_reducible rfl⟩) (by simp only [Act.put, pset]; rfl) ?_
        refine take_ (i := 22) (N := some 134) (bt 27 7946239) rfl rfl (take_of F25tab19 (by kernel_rfl)) (fun _ _ _ h => h) (Or.inl ⟨by rfl, by rintro w' ⟨s0, s1, s2, s3, s4, s5, s6, s7⟩; go_simp; with_reducible rfl⟩) hHeld (by simp only [Act.put, pset]; rfl) ?_
        refine one_ (i := 14) (N := some 126) (bt 27 7962623) rfl rfl (one_of F25tab19 (by kernel_rfl)) (by decide) (fun K hK => ?_)
        refine goes_ Try.func19 (by kernel_rfl) rfl #[.agg #[.int .i64 it.x.f0, .int .i64 it.x.f1, .string it.x.f2, .slice it.A it.x.f3.length it.c]] (by rfl) rfl rfl (by (try simp only [List.map_toArray, List.map_cons, List.map_nil]); first | done | rfl) ?_
        refine (wid_of2 it.x it.A it.c wdx _ (Dc.below HO.out.dx HD.out) HO.out.fin HO.out.few HO.out.own HWX.out).mono ?_
        rintro e w502 ⟨rfl, hb⟩
        refine ⟨_, rfl, ?_⟩
        have n1 := Aside0.mk (HW.out.below hb); have n2 := Aside0.mk (HD.out.trans ((hb).mono HW.out.base_le)); have n3 := Aside0.mk (blk_below BX6.out hb); clear HW HD BX6; have HW := n1; have HD := n2; have BX6 := n3; clear n1 n2 n3
        refine hK.out _ _ (⟨bc hb hHeld.1, bc hb hHeld.2.1, bc hb hHeld.2.2.1, bc hb hHeld.2.2.2.1, bc hb hHeld.2.2.2.2.1, bc hb hHeld.2.2.2.2.2.1, bc hb hHeld.2.2.2.2.2.2.1, trivial⟩) (fun hHeld => ?_)
        clear hK K
        refine norm_ (show Act.put _ (some 126) _ = _ from (by simp only [Act.put, pset]; rfl)) ?_
        refine pure_ (i := 15) (N := some 127) (bt 27 7995391) rfl rfl (any_of F25tab19 (by kernel_rfl)) (fun _ _ _ h => h) (Or.inl ⟨by rfl, by intro w'; go_simp; with_reducible rfl⟩) (by simp only [Act.put, pset]; rfl) ?_
        refine one_ (i := 17) (N := some 129) (bt 27 8126463) rfl rfl (one_of F25tab19 (by kernel_rfl)) (by decide) (fun K hK => ?_)
        refine goes_ Try.func37 (by kernel_rfl) rfl #[.pointer (some ⟨gw, 0, none⟩)] (by rfl) rfl rfl (by (try simp only [List.map_toArray, List.map_cons, List.map_nil]); first | done | rfl) ?_
        refine (rest_calls2 fr HFR.out HD.out HW.out HIS.out (by rw [HN.out]; omega)).mono ?_
        rintro e w503 ⟨rfl, hb⟩
        refine ⟨_, rfl, ?_⟩
        have n1 := Aside0.mk (HW.out.below hb); have n2 := Aside0.mk (HD.out.trans ((hb).mono HW.out.base_le)); have n3 := Aside0.mk (blk_below BX6.out hb); clear HW HD BX6; have HW := n1; have HD := n2; have BX6 := n3; clear n1 n2 n3
        refine hK.out _ _ (⟨bc hb hHeld.1, bc hb hHeld.2.1, bc hb hHeld.2.2.1, bc hb hHeld.2.2.2.1, bc hb hHeld.2.2.2.2.1, bc hb hHeld.2.2.2.2.2.1, bc hb hHeld.2.2.2.2.2.2.1, trivial⟩) (fun hHeld => ?_)
        clear hK K
        refine norm_ (show Act.put _ (some 129) _ = _ from (by simp only [Act.put, pset]; rfl)) ?_
        refine pure_ (i := 18) (N := some 130) (bt 27 8388607) rfl rfl (any_of F25tab19 (by kernel_rfl)) (fun _ _ _ h => h) (Or.inl ⟨by rfl, by intro w'; go_simp; with_reducible rfl⟩) (by simp only [Act.put, pset]; rfl) ?_
        refine pure_ (i := 23) (N := some 135) (bt 27 16777215) rfl rfl (any_of F25tab19 (by kernel_rfl)) (fun _ _ _ h => h) (Or.inl ⟨by rfl, by intro w'; go_simp; with_reducible rfl⟩) (by simp only [Act.put, pset]; rfl) ?_
        refine pure_ (i := 24) (N := some 136) (bt 27 33554431) rfl rfl (any_of F25tab19 (by kernel_rfl)) (fun _ _ _ h => h) (Or.inl ⟨by rfl, by intro w'; go_simp; with_reducible rfl⟩) (by simp only [Act.put, pset]; rfl) ?_
        refine pure_ (i := 25) (N := some 137) (bt 27 67108863) rfl rfl (any_of F25tab19 (by kernel_rfl)) (fun _ _ _ h => h) (Or.inl ⟨by rfl, by intro w'; go_simp; with_reducible rfl⟩) (by simp only [Act.put, pset]; rfl) ?_
        refine pure_ (i := 26) (N := some 3) (bt 27 134217727) rfl rfl (any_of F25tab19 (by kernel_rfl)) (fun _ _ _ h => h) (Or.inl ⟨by rfl, by intro w'; go_simp; with_reducible rfl⟩) (by simp only [Act.put, pset]; rfl) ?_
        refine done_ (done_of F25tab19 (by kernel_rfl)) ?_
        clear hHeld
        obtain ⟨wn, hwn⟩ : ∃ v : World, v = w503 := ⟨_, rfl⟩
        rw [← hwn] at HW HD BX6 ⊢
        clear hwn
        obtain ⟨vr, vo, vm, hw, q0, q1, q2, q3, q4, q5⟩ := HW.out.open_
        have HR := Aside0.mk hw
        clear hw
        go_upto_region 21 with (first | ((with_reducible refine gate_dst (N := 145) rfl ?_); refine print_append (w0 := wD) wD.heap.size rfl (.tmp 142) (.tmp 144) 30 4 (.bool false) 1 rfl Try.underlying30 infoBool rfl (by decide) vm (S.modes.map Value.bool) (.bool (decide (wrap64 (wrap64 (S.col + wdx) + fr) ≤ wd))) rfl rfl rfl HR.out.hm HD.out HR.out.base_le (by have h1 := HG.out.sum; have h2 := HG.out.modes; rw [List.length_map]; omega) ?_; intro v1 w2 hown hbl hg hat; obtain ⟨A1, k1, ev1⟩ := own_slice hown; obtain ⟨n1, hn1⟩ : ∃ n, (S.modes.map Value.bool ++ [Value.bool (decide (wrap64 (wrap64 (S.col + wdx) + fr) ≤ wd))]).length = n := ⟨_, rfl⟩; rw [hn1] at ev1; clear hn1; subst ev1; have G := Aside0.mk (HR.out.grow_m (modes' := S.modes ++ [(decide (wrap64 (wrap64 (S.col + wdx) + fr) ≤ wd))]) (by rw [List.map_append]; exact hown) hg); have BX7 := Aside0.mk (blk_grown BX6.out hg (own_ne_blk HR.out.hm BX6.out (by decide)).symm); clear HR HW HD BX6 hown hg hat q0 q1 q2 q3 q4 q5; have HD := Aside0.mk hbl; clear hbl; have c5 : w2.cell? ⟨gw, 5, none⟩ = some vm := (blk_cell G.out.wa 5).trans rfl; have f5 := blk_frozen G.out.wa 5))
        have HR : Aside0 (RS (w2.setCell ⟨gw, 5, none⟩ (.slice A1 n1 k1)) wD.heap.size gw wd { S with modes := S.modes ++ [(decide (wrap64 (wrap64 (S.col + wdx) + fr) ≤ wd))] } its) := ⟨⟨vr, vo, (.slice A1 n1 k1), G.out.set 5 (.slice A1 n1 k1) rfl⟩⟩
        have n2 := Aside0.mk (HD.out.trans (G.out.set_below 5 (.slice A1 n1 k1)))
        have n3 := Aside0.mk (blk_far BX7.out (p := ⟨gw, 5, none⟩) NE.out (.slice A1 n1 k1))
        clear G HD BX7 c5 f5
        have HD := n2
        have BX6 := n3
        clear n2 n3
        generalize World.setCell _ _ _ = w7 at HR HD BX6 ⊢
        have z3 : w7.cell? ⟨gx, 3, none⟩ = some (.slice it.A it.x.f3.length it.c) := (blk_cell BX6.out 3).trans rfl
        have z4 : w7.cell? ⟨gx, 4, none⟩ = some (.int .i64 it.n) := (blk_cell BX6.out 4).trans rfl
        obtain ⟨ks, k1, k2, k3, k4⟩ := kids_of HO.out.dx it.n (decide (wrap64 (wrap64 (S.col + wdx) + fr) ≤ wd))
        have K1 := Aside0.mk k1
        have K2 := Aside0.mk k2
        have K3 := Aside0.mk k3
        have K4 := Aside0.mk k4
        clear k1 k2 k3 k4
        go_wp2_with (first | ((with_reducible refine gate_dst (N := 155) rfl ?_); refine goesL_ (some 155) rfl rfl Try.func36 (by kernel_rfl) rfl #[.pointer (some ⟨gw, 0, none⟩), .slice it.A it.x.f3.length it.c, .int .i64 it.n, .bool (decide (wrap64 (wrap64 (S.col + wdx) + fr) ≤ wd))] rfl (by (try simp only [List.map_toArray, List.map_cons, List.map_nil]); first | done | rfl) ?_; (refine (rpush_calls it.n (decide (wrap64 (wrap64 (S.col + wdx) + fr) ≤ wd)) HD.out HR.out K1.out K4.out (by have h1 := HO.out.few; have h2 := cnt_eq it.x; have h3 := len_cntL it.x.f3; have h4 := HN.out; omega)).mono ?_); (rintro e w255 ⟨rfl, hr, hb⟩; refine ⟨_, rfl, ?_⟩; have HR2 := Aside0.mk hr; clear HD HR hr; have HD := Aside0.mk hb; clear hb z3 z4)))
        go_end0
        have et : takeP wd it.x it.n it.f fr S = ({ S with modes := S.modes ++ [(decide (wrap64 (wrap64 (S.col + wdx) + fr) ≤ wd))] }, it.x.f3, it.n, (decide (wrap64 (wrap64 (S.col + wdx) + fr) ≤ wd))) := by rw [takeP, if_neg (by rw [HK.out]; decide), if_neg (by rw [HK.out]; decide), if_pos HK.out]; rw [HF.out]; rw [Bool.false_or, ← EFB.out HFC.out]
        rw [HFR.out, et]
        exact ⟨rfl, ⟨ks, ⟨K2.out, K3.out⟩, HR2.out⟩, HD.out⟩
      · have HFC := Aside0.mk hfc
        clear hfc
        have HFV : Aside0 (some (Value.bool it.f) = some (Value.bool false)) := ⟨by rw [HF.out]⟩
        go_upto_region 19 with (fail)
        clear z0 z1 z2 z3 z4 z5
        have n1 := Aside0.mk (HW.out.below (below_drew1 (Below.refl _ _)))
        have n2 := Aside0.mk (HD.out.trans (((below_drew1 (Below.refl _ _))).mono HW.out.base_le))
        have n3 := Aside0.mk (blk_below BX6.out (below_drew1 (Below.refl _ _)))
        clear HW HD BX6
        have HW := n1
        have HD := n2
        have BX6 := n3
        clear n1 n2 n3
        have hs_ : rS19 gx gw it false S.col wd w8.drew := ⟨(blk_cell BX6.out 0).trans rfl, (blk_cell BX6.out 1).trans rfl, (blk_cell BX6.out 2).trans rfl, (blk_cell BX6.out 3).trans rfl, (blk_cell BX6.out 5).trans HFV.out, HW.out.c3, HW.out.c0, trivial⟩
        refine start_ (n := 27) (S := rS19 gx gw it false S.col wd) (ds := []) #[false, false, false, false, false, false, false, false, false, false, false, false, false, false, false, false, false, false, false, false, false, false, false, false, false, false, false] (by kernel_rfl) rfl rfl (hs_) (fun hHeld => ?_)
        clear hs_
        generalize World.drew _ = w500 at HW HD BX6 hHeld ⊢
        refine pure_ (i := 0) (N := some 112) (bt 27 1) rfl rfl (any_of F25tab19 (by kernel_rfl)) (fun _ _ _ h => h) (Or.inl ⟨by rfl, by intro w'; go_simp; with_reducible rfl⟩) (by simp only [Act.put, pset]; rfl) ?_
        refine take_ (i := 1) (N := some 113) (bt 27 3) rfl rfl (take_of F25tab19 (by kernel_rfl)) (fun _ _ _ h => h) (Or.inl ⟨by rfl, by rintro w' ⟨s0, s1, s2, s3, s4, s5, s6, s7⟩; go_simp; with_reducible rfl⟩) hHeld (by simp only [Act.put, pset]; rfl) ?_
        refine pure_ (i := 2) (N := some 114) (bt 27 7) rfl rfl (any_of F25tab19 (by kernel_rfl)) (fun _ _ _ h => h) (Or.inl ⟨by rfl, by intro w'; go_simp; with_reducible rfl⟩) (by simp only [Act.put, pset]; rfl) ?_
        refine pure_ (i := 3) (N := some 115) (bt 27 15) rfl rfl (any_of F25tab19 (by kernel_rfl)) (fun _ _ _ h => h) (Or.inl ⟨by rfl, by intro w'; go_simp; with_reducible rfl⟩) (by simp only [Act.put, pset]; rfl) ?_
        refine take_ (i := 4) (N := some 116) (bt 27 31) rfl rfl (take_of F25tab19 (by kernel_rfl)) (fun _ _ _ h => h) (Or.inl ⟨by rfl, by rintro w' ⟨s0, s1, s2, s3, s4, s5, s6, s7⟩; go_simp; with_reducible rfl⟩) hHeld (by simp only [Act.put, pset]; rfl) ?_
        refine one_ (i := 5) (N := some 117) (bt 27 63) rfl rfl (one_of F25tab19 (by kernel_rfl)) (by decide) (fun K hK => ?_)
        refine goes_ Try.func17 (by kernel_rfl) rfl #[.agg #[.int .i64 it.x.f0, .int .i64 it.x.f1, .string it.x.f2, .slice it.A it.x.f3.length it.c]] (by rfl) rfl rfl (by (try simp only [List.map_toArray, List.map_cons, List.map_nil]); first | done | rfl) ?_
        refine (frc_of it.x it.A it.c true _ (Dc.below HO.out.dx HD.out) HO.out.fin HFC.out).mono ?_
        rintro e w501 ⟨rfl, hb⟩
        refine ⟨_, rfl, ?_⟩
        have n1 := Aside0.mk (HW.out.below hb); have n2 := Aside0.mk (HD.out.trans ((hb).mono HW.out.base_le)); have n3 := Aside0.mk (blk_below BX6.out hb); clear HW HD BX6; have HW := n1; have HD := n2; have BX6 := n3; clear n1 n2 n3
        refine hK.out _ _ (⟨bc hb hHeld.1, bc hb hHeld.2.1, bc hb hHeld.2.2.1, bc hb hHeld.2.2.2.1, bc hb hHeld.2.2.2.2.1, bc hb hHeld.2.2.2.2.2.1, bc hb hHeld.2.2.2.2.2.2.1, trivial⟩) (fun hHeld => ?_)
        clear hK K
        refine norm_ (show Act.put _ (some 117) _ = _ from (by simp only [Act.put, pset]; rfl)) ?_
        refine pure_ (i := 6) (N := some 118) (bt 27 127) rfl rfl (any_of F25tab19 (by kernel_rfl)) (fun _ _ _ h => h) (Or.inl ⟨by rfl, by intro w'; go_simp; with_reducible rfl⟩) (by simp only [Act.put, pset]; rfl) ?_
        refine pure_ (i := 7) (N := some 119) (bt 27 255) rfl rfl (any_of F25tab19 (by kernel_rfl)) (fun _ _ _ h => h) (Or.inl ⟨by rfl, by intro w'; go_simp; with_reducible rfl⟩) (by simp only [Act.put, pset]; rfl) ?_
        refine pure_ (i := 8) (N := some 120) (v := undef) (bt 27 511) rfl rfl (any_of F25tab19 (by kernel_rfl)) (fun _ _ _ h => h) (Or.inr ⟨by rfl, rfl⟩) (by simp only [Act.put, pset]; rfl) ?_
        refine pure_ (i := 9) (N := some 121) (v := undef) (bt 27 1023) rfl rfl (any_of F25tab19 (by kernel_rfl)) (fun _ _ _ h => h) (Or.inr ⟨by rfl, rfl⟩) (by simp only [Act.put, pset]; rfl) ?_
        refine pure_ (i := 10) (N := some 122) (v := undef) (bt 27 2047) rfl rfl (any_of F25tab19 (by kernel_rfl)) (fun _ _ _ h => h) (Or.inr ⟨by rfl, rfl⟩) (by simp only [Act.put, pset]; rfl) ?_
        refine pure_ (i := 11) (N := some 123) (v := undef) (bt 27 4095) rfl rfl (any_of F25tab19 (by kernel_rfl)) (fun _ _ _ h => h) (Or.inr ⟨by rfl, rfl⟩) (by simp only [Act.put, pset]; rfl) ?_
        refine pure_ (i := 12) (N := some 124) (v := undef) (bt 27 8191) rfl rfl (any_of F25tab19 (by kernel_rfl)) (fun _ _ _ h => h) (Or.inr ⟨by rfl, rfl⟩) (by simp only [Act.put, pset]; rfl) ?_
        refine pure_ (i := 13) (N := some 125) (v := undef) (bt 27 16383) rfl rfl (any_of F25tab19 (by kernel_rfl)) (fun _ _ _ h => h) (Or.inr ⟨by rfl, rfl⟩) (by simp only [Act.put, pset]; rfl) ?_
        refine pure_ (i := 14) (N := some 126) (v := undef) (bt 27 32767) rfl rfl (any_of F25tab19 (by kernel_rfl)) (fun _ _ _ h => h) (Or.inr ⟨by rfl, rfl⟩) (by simp only [Act.put, pset]; rfl) ?_
        refine pure_ (i := 15) (N := some 127) (v := undef) (bt 27 65535) rfl rfl (any_of F25tab19 (by kernel_rfl)) (fun _ _ _ h => h) (Or.inr ⟨by rfl, rfl⟩) (by simp only [Act.put, pset]; rfl) ?_
        refine pure_ (i := 16) (N := some 128) (v := undef) (bt 27 131071) rfl rfl (any_of F25tab19 (by kernel_rfl)) (fun _ _ _ h => h) (Or.inr ⟨by rfl, rfl⟩) (by simp only [Act.put, pset]; rfl) ?_
        refine pure_ (i := 17) (N := some 129) (v := undef) (bt 27 262143) rfl rfl (any_of F25tab19 (by kernel_rfl)) (fun _ _ _ h => h) (Or.inr ⟨by rfl, rfl⟩) (by simp only [Act.put, pset]; rfl) ?_
        refine pure_ (i := 18) (N := some 130) (v := undef) (bt 27 524287) rfl rfl (any_of F25tab19 (by kernel_rfl)) (fun _ _ _ h => h) (Or.inr ⟨by rfl, rfl⟩) (by simp only [Act.put, pset]; rfl) ?_
        refine pure_ (i := 19) (N := some 131) (v := undef) (bt 27 1048575) rfl rfl (any_of F25tab19 (by kernel_rfl)) (fun _ _ _ h => h) (Or.inr ⟨by rfl, rfl⟩) (by simp only [Act.put, pset]; rfl) ?_
        refine pure_ (i := 20) (N := some 132) (v := undef) (bt 27 2097151) rfl rfl (any_of F25tab19 (by kernel_rfl)) (fun _ _ _ h => h) (Or.inr ⟨by rfl, rfl⟩) (by simp only [Act.put, pset]; rfl) ?_
        refine pure_ (i := 21) (N := some 133) (v := undef) (bt 27 4194303) rfl rfl (any_of F25tab19 (by kernel_rfl)) (fun _ _ _ h => h) (Or.inr ⟨by rfl, rfl⟩) (by simp only [Act.put, pset]; rfl) ?_
        refine pure_ (i := 22) (N := some 134) (v := undef) (bt 27 8388607) rfl rfl (any_of F25tab19 (by kernel_rfl)) (fun _ _ _ h => h) (Or.inr ⟨by rfl, rfl⟩) (by simp only [Act.put, pset]; rfl) ?_
        refine pure_ (i := 23) (N := some 135) (v := undef) (bt 27 16777215) rfl rfl (any_of F25tab19 (by kernel_rfl)) (fun _ _ _ h => h) (Or.inr ⟨by rfl, rfl⟩) (by simp only [Act.put, pset]; rfl) ?_
        refine pure_ (i := 24) (N := some 136) (bt 27 33554431) rfl rfl (any_of F25tab19 (by kernel_rfl)) (fun _ _ _ h => h) (Or.inl ⟨by rfl, by intro w'; go_simp; with_reducible rfl⟩) (by simp only [Act.put, pset]; rfl) ?_
        refine pure_ (i := 25) (N := some 137) (bt 27 67108863) rfl rfl (any_of F25tab19 (by kernel_rfl)) (fun _ _ _ h => h) (Or.inl ⟨by rfl, by intro w'; go_simp; with_reducible rfl⟩) (by simp only [Act.put, pset]; rfl) ?_
        refine pure_ (i := 26) (N := some 3) (bt 27 134217727) rfl rfl (any_of F25tab19 (by kernel_rfl)) (fun _ _ _ h => h) (Or.inl ⟨by rfl, by intro w'; go_simp; with_reducible rfl⟩) (by simp only [Act.put, pset]; rfl) ?_
        refine done_ (done_of F25tab19 (by kernel_rfl)) ?_
        clear hHeld
        obtain ⟨wn, hwn⟩ : ∃ v : World, v = w501 := ⟨_, rfl⟩
        rw [← hwn] at HW HD BX6 ⊢
        clear hwn
        obtain ⟨vr, vo, vm, hw, q0, q1, q2, q3, q4, q5⟩ := HW.out.open_
        have HR := Aside0.mk hw
        clear hw
        go_upto_region 21 with (first | ((with_reducible refine gate_dst (N := 145) rfl ?_); refine print_append (w0 := wD) wD.heap.size rfl (.tmp 142) (.tmp 144) 30 4 (.bool false) 1 rfl Try.underlying30 infoBool rfl (by decide) vm (S.modes.map Value.bool) (.bool false) rfl rfl rfl HR.out.hm HD.out HR.out.base_le (by have h1 := HG.out.sum; have h2 := HG.out.modes; rw [List.length_map]; omega) ?_; intro v1 w2 hown hbl hg hat; obtain ⟨A1, k1, ev1⟩ := own_slice hown; obtain ⟨n1, hn1⟩ : ∃ n, (S.modes.map Value.bool ++ [Value.bool false]).length = n := ⟨_, rfl⟩; rw [hn1] at ev1; clear hn1; subst ev1; have G := Aside0.mk (HR.out.grow_m (modes' := S.modes ++ [false]) (by rw [List.map_append]; exact hown) hg); have BX7 := Aside0.mk (blk_grown BX6.out hg (own_ne_blk HR.out.hm BX6.out (by decide)).symm); clear HR HW HD BX6 hown hg hat q0 q1 q2 q3 q4 q5; have HD := Aside0.mk hbl; clear hbl; have c5 : w2.cell? ⟨gw, 5, none⟩ = some vm := (blk_cell G.out.wa 5).trans rfl; have f5 := blk_frozen G.out.wa 5))
        have HR : Aside0 (RS (w2.setCell ⟨gw, 5, none⟩ (.slice A1 n1 k1)) wD.heap.size gw wd { S with modes := S.modes ++ [false] } its) := ⟨⟨vr, vo, (.slice A1 n1 k1), G.out.set 5 (.slice A1 n1 k1) rfl⟩⟩
        have n2 := Aside0.mk (HD.out.trans (G.out.set_below 5 (.slice A1 n1 k1)))
        have n3 := Aside0.mk (blk_far BX7.out (p := ⟨gw, 5, none⟩) NE.out (.slice A1 n1 k1))
        clear G HD BX7 c5 f5
        have HD := n2
        have BX6 := n3
        clear n2 n3
        generalize World.setCell _ _ _ = w7 at HR HD BX6 ⊢
        have z3 : w7.cell? ⟨gx, 3, none⟩ = some (.slice it.A it.x.f3.length it.c) := (blk_cell BX6.out 3).trans rfl
        have z4 : w7.cell? ⟨gx, 4, none⟩ = some (.int .i64 it.n) := (blk_cell BX6.out 4).trans rfl
        obtain ⟨ks, k1, k2, k3, k4⟩ := kids_of HO.out.dx it.n false
        have K1 := Aside0.mk k1
        have K2 := Aside0.mk k2
        have K3 := Aside0.mk k3
        have K4 := Aside0.mk k4
        clear k1 k2 k3 k4
        go_wp2_with (first | ((with_reducible refine gate_dst (N := 155) rfl ?_); refine goesL_ (some 155) rfl rfl Try.func36 (by kernel_rfl) rfl #[.pointer (some ⟨gw, 0, none⟩), .slice it.A it.x.f3.length it.c, .int .i64 it.n, .bool false] rfl (by (try simp only [List.map_toArray, List.map_cons, List.map_nil]); first | done | rfl) ?_; (refine (rpush_calls it.n false HD.out HR.out K1.out K4.out (by have h1 := HO.out.few; have h2 := cnt_eq it.x; have h3 := len_cntL it.x.f3; have h4 := HN.out; omega)).mono ?_); (rintro e w255 ⟨rfl, hr, hb⟩; refine ⟨_, rfl, ?_⟩; have HR2 := Aside0.mk hr; clear HD HR hr; have HD := Aside0.mk hb; clear hb z3 z4)))
        go_end0
        have et : takeP wd it.x it.n it.f fr S = ({ S with modes := S.modes ++ [false] }, it.x.f3, it.n, false) := by rw [takeP, if_neg (by rw [HK.out]; decide), if_neg (by rw [HK.out]; decide), if_pos HK.out]; rw [HF.out]; rw [Bool.false_or, show fitB it.x wd S.col fr = false by unfold fitB; rw [HFC.out]; rfl]
        rw [HFR.out, et]
        exact ⟨rfl, ⟨ks, ⟨K2.out, K3.out⟩, HR2.out⟩, HD.out⟩
    · have HF := Aside0.mk hf
      clear hf
      have HFV : Aside0 (some (Value.bool it.f) = some (Value.bool true)) := ⟨by rw [HF.out]⟩
      go_upto_region 19 with (fail)
      clear z0 z1 z2 z3 z4 z5
      have n1 := Aside0.mk (HW.out.below (below_drew1 (Below.refl _ _)))
      have n2 := Aside0.mk (HD.out.trans (((below_drew1 (Below.refl _ _))).mono HW.out.base_le))
      have n3 := Aside0.mk (blk_below BX6.out (below_drew1 (Below.refl _ _)))
      clear HW HD BX6
      have HW := n1
      have HD := n2
      have BX6 := n3
      clear n1 n2 n3
      have hs_ : rS19 gx gw it true S.col wd w8.drew := ⟨(blk_cell BX6.out 0).trans rfl, (blk_cell BX6.out 1).trans rfl, (blk_cell BX6.out 2).trans rfl, (blk_cell BX6.out 3).trans rfl, (blk_cell BX6.out 5).trans HFV.out, HW.out.c3, HW.out.c0, trivial⟩
      refine start_ (n := 27) (S := rS19 gx gw it true S.col wd) (ds := []) #[false, false, false, false, false, false, false, false, false, false, false, false, false, false, false, false, false, false, false, false, false, false, false, false, false, false, false] (by kernel_rfl) rfl rfl (hs_) (fun hHeld => ?_)
      clear hs_
      generalize World.drew _ = w500 at HW HD BX6 hHeld ⊢
      refine pure_ (i := 0) (N := some 112) (bt 27 1) rfl rfl (any_of F25tab19 (by kernel_rfl)) (fun _ _ _ h => h) (Or.inl ⟨by rfl, by intro w'; go_simp; with_reducible rfl⟩) (by simp only [Act.put, pset]; rfl) ?_
      refine take_ (i := 1) (N := some 113) (bt 27 3) rfl rfl (take_of F25tab19 (by kernel_rfl)) (fun _ _ _ h => h) (Or.inl ⟨by rfl, by rintro w' ⟨s0, s1, s2, s3, s4, s5, s6, s7⟩; go_simp; with_reducible rfl⟩) hHeld (by simp only [Act.put, pset]; rfl) ?_
      refine pure_ (i := 2) (N := some 114) (bt 27 7) rfl rfl (any_of F25tab19 (by kernel_rfl)) (fun _ _ _ h => h) (Or.inl ⟨by rfl, by intro w'; go_simp; with_reducible rfl⟩) (by simp only [Act.put, pset]; rfl) ?_
      refine pure_ (i := 3) (N := some 115) (v := undef) (bt 27 15) rfl rfl (any_of F25tab19 (by kernel_rfl)) (fun _ _ _ h => h) (Or.inr ⟨by rfl, rfl⟩) (by simp only [Act.put, pset]; rfl) ?_
      refine pure_ (i := 4) (N := some 116) (v := undef) (bt 27 31) rfl rfl (any_of F25tab19 (by kernel_rfl)) (fun _ _ _ h => h) (Or.inr ⟨by rfl, rfl⟩) (by simp only [Act.put, pset]; rfl) ?_
      refine pure_ (i := 5) (N := some 117) (v := undef) (bt 27 63) rfl rfl (any_of F25tab19 (by kernel_rfl)) (fun _ _ _ h => h) (Or.inr ⟨by rfl, rfl⟩) (by simp only [Act.put, pset]; rfl) ?_
      refine pure_ (i := 6) (N := some 118) (v := undef) (bt 27 127) rfl rfl (any_of F25tab19 (by kernel_rfl)) (fun _ _ _ h => h) (Or.inr ⟨by rfl, rfl⟩) (by simp only [Act.put, pset]; rfl) ?_
      refine pure_ (i := 7) (N := some 119) (v := undef) (bt 27 255) rfl rfl (any_of F25tab19 (by kernel_rfl)) (fun _ _ _ h => h) (Or.inr ⟨by rfl, rfl⟩) (by simp only [Act.put, pset]; rfl) ?_
      refine pure_ (i := 8) (N := some 120) (v := undef) (bt 27 511) rfl rfl (any_of F25tab19 (by kernel_rfl)) (fun _ _ _ h => h) (Or.inr ⟨by rfl, rfl⟩) (by simp only [Act.put, pset]; rfl) ?_
      refine pure_ (i := 9) (N := some 121) (v := undef) (bt 27 1023) rfl rfl (any_of F25tab19 (by kernel_rfl)) (fun _ _ _ h => h) (Or.inr ⟨by rfl, rfl⟩) (by simp only [Act.put, pset]; rfl) ?_
      refine pure_ (i := 10) (N := some 122) (v := undef) (bt 27 2047) rfl rfl (any_of F25tab19 (by kernel_rfl)) (fun _ _ _ h => h) (Or.inr ⟨by rfl, rfl⟩) (by simp only [Act.put, pset]; rfl) ?_
      refine pure_ (i := 11) (N := some 123) (v := undef) (bt 27 4095) rfl rfl (any_of F25tab19 (by kernel_rfl)) (fun _ _ _ h => h) (Or.inr ⟨by rfl, rfl⟩) (by simp only [Act.put, pset]; rfl) ?_
      refine pure_ (i := 12) (N := some 124) (v := undef) (bt 27 8191) rfl rfl (any_of F25tab19 (by kernel_rfl)) (fun _ _ _ h => h) (Or.inr ⟨by rfl, rfl⟩) (by simp only [Act.put, pset]; rfl) ?_
      refine pure_ (i := 13) (N := some 125) (v := undef) (bt 27 16383) rfl rfl (any_of F25tab19 (by kernel_rfl)) (fun _ _ _ h => h) (Or.inr ⟨by rfl, rfl⟩) (by simp only [Act.put, pset]; rfl) ?_
      refine pure_ (i := 14) (N := some 126) (v := undef) (bt 27 32767) rfl rfl (any_of F25tab19 (by kernel_rfl)) (fun _ _ _ h => h) (Or.inr ⟨by rfl, rfl⟩) (by simp only [Act.put, pset]; rfl) ?_
      refine pure_ (i := 15) (N := some 127) (v := undef) (bt 27 65535) rfl rfl (any_of F25tab19 (by kernel_rfl)) (fun _ _ _ h => h) (Or.inr ⟨by rfl, rfl⟩) (by simp only [Act.put, pset]; rfl) ?_
      refine pure_ (i := 16) (N := some 128) (v := undef) (bt 27 131071) rfl rfl (any_of F25tab19 (by kernel_rfl)) (fun _ _ _ h => h) (Or.inr ⟨by rfl, rfl⟩) (by simp only [Act.put, pset]; rfl) ?_
      refine pure_ (i := 17) (N := some 129) (v := undef) (bt 27 262143) rfl rfl (any_of F25tab19 (by kernel_rfl)) (fun _ _ _ h => h) (Or.inr ⟨by rfl, rfl⟩) (by simp only [Act.put, pset]; rfl) ?_
      refine pure_ (i := 18) (N := some 130) (v := undef) (bt 27 524287) rfl rfl (any_of F25tab19 (by kernel_rfl)) (fun _ _ _ h => h) (Or.inr ⟨by rfl, rfl⟩) (by simp only [Act.put, pset]; rfl) ?_
      refine pure_ (i := 19) (N := some 131) (v := undef) (bt 27 1048575) rfl rfl (any_of F25tab19 (by kernel_rfl)) (fun _ _ _ h => h) (Or.inr ⟨by rfl, rfl⟩) (by simp only [Act.put, pset]; rfl) ?_
      refine pure_ (i := 20) (N := some 132) (v := undef) (bt 27 2097151) rfl rfl (any_of F25tab19 (by kernel_rfl)) (fun _ _ _ h => h) (Or.inr ⟨by rfl, rfl⟩) (by simp only [Act.put, pset]; rfl) ?_
      refine pure_ (i := 21) (N := some 133) (v := undef) (bt 27 4194303) rfl rfl (any_of F25tab19 (by kernel_rfl)) (fun _ _ _ h => h) (Or.inr ⟨by rfl, rfl⟩) (by simp only [Act.put, pset]; rfl) ?_
      refine pure_ (i := 22) (N := some 134) (v := undef) (bt 27 8388607) rfl rfl (any_of F25tab19 (by kernel_rfl)) (fun _ _ _ h => h) (Or.inr ⟨by rfl, rfl⟩) (by simp only [Act.put, pset]; rfl) ?_
      refine pure_ (i := 23) (N := some 135) (v := undef) (bt 27 16777215) rfl rfl (any_of F25tab19 (by kernel_rfl)) (fun _ _ _ h => h) (Or.inr ⟨by rfl, rfl⟩) (by simp only [Act.put, pset]; rfl) ?_
      refine pure_ (i := 24) (N := some 136) (v := undef) (bt 27 33554431) rfl rfl (any_of F25tab19 (by kernel_rfl)) (fun _ _ _ h => h) (Or.inr ⟨by rfl, rfl⟩) (by simp only [Act.put, pset]; rfl) ?_
      refine pure_ (i := 25) (N := some 137) (bt 27 67108863) rfl rfl (any_of F25tab19 (by kernel_rfl)) (fun _ _ _ h => h) (Or.inl ⟨by rfl, by intro w'; go_simp; with_reducible rfl⟩) (by simp only [Act.put, pset]; rfl) ?_
      refine pure_ (i := 26) (N := some 3) (bt 27 134217727) rfl rfl (any_of F25tab19 (by kernel_rfl)) (fun _ _ _ h => h) (Or.inl ⟨by rfl, by intro w'; go_simp; with_reducible rfl⟩) (by simp only [Act.put, pset]; rfl) ?_
      refine done_ (done_of F25tab19 (by kernel_rfl)) ?_
      clear hHeld
      obtain ⟨wn, hwn⟩ : ∃ v : World, v = w500 := ⟨_, rfl⟩
      rw [← hwn] at HW HD BX6 ⊢
      clear hwn
      obtain ⟨vr, vo, vm, hw, q0, q1, q2, q3, q4, q5⟩ := HW.out.open_
      have HR := Aside0.mk hw
      clear hw
      go_upto_region 21 with (first | ((with_reducible refine gate_dst (N := 145) rfl ?_); refine print_append (w0 := wD) wD.heap.size rfl (.tmp 142) (.tmp 144) 30 4 (.bool false) 1 rfl Try.underlying30 infoBool rfl (by decide) vm (S.modes.map Value.bool) (.bool true) rfl rfl rfl HR.out.hm HD.out HR.out.base_le (by have h1 := HG.out.sum; have h2 := HG.out.modes; rw [List.length_map]; omega) ?_; intro v1 w2 hown hbl hg hat; obtain ⟨A1, k1, ev1⟩ := own_slice hown; obtain ⟨n1, hn1⟩ : ∃ n, (S.modes.map Value.bool ++ [Value.bool true]).length = n := ⟨_, rfl⟩; rw [hn1] at ev1; clear hn1; subst ev1; have G := Aside0.mk (HR.out.grow_m (modes' := S.modes ++ [true]) (by rw [List.map_append]; exact hown) hg); have BX7 := Aside0.mk (blk_grown BX6.out hg (own_ne_blk HR.out.hm BX6.out (by decide)).symm); clear HR HW HD BX6 hown hg hat q0 q1 q2 q3 q4 q5; have HD := Aside0.mk hbl; clear hbl; have c5 : w2.cell? ⟨gw, 5, none⟩ = some vm := (blk_cell G.out.wa 5).trans rfl; have f5 := blk_frozen G.out.wa 5))
      have HR : Aside0 (RS (w2.setCell ⟨gw, 5, none⟩ (.slice A1 n1 k1)) wD.heap.size gw wd { S with modes := S.modes ++ [true] } its) := ⟨⟨vr, vo, (.slice A1 n1 k1), G.out.set 5 (.slice A1 n1 k1) rfl⟩⟩
      have n2 := Aside0.mk (HD.out.trans (G.out.set_below 5 (.slice A1 n1 k1)))
      have n3 := Aside0.mk (blk_far BX7.out (p := ⟨gw, 5, none⟩) NE.out (.slice A1 n1 k1))
      clear G HD BX7 c5 f5
      have HD := n2
      have BX6 := n3
      clear n2 n3
      generalize World.setCell _ _ _ = w7 at HR HD BX6 ⊢
      have z3 : w7.cell? ⟨gx, 3, none⟩ = some (.slice it.A it.x.f3.length it.c) := (blk_cell BX6.out 3).trans rfl
      have z4 : w7.cell? ⟨gx, 4, none⟩ = some (.int .i64 it.n) := (blk_cell BX6.out 4).trans rfl
      obtain ⟨ks, k1, k2, k3, k4⟩ := kids_of HO.out.dx it.n true
      have K1 := Aside0.mk k1
      have K2 := Aside0.mk k2
      have K3 := Aside0.mk k3
      have K4 := Aside0.mk k4
      clear k1 k2 k3 k4
      go_wp2_with (first | ((with_reducible refine gate_dst (N := 155) rfl ?_); refine goesL_ (some 155) rfl rfl Try.func36 (by kernel_rfl) rfl #[.pointer (some ⟨gw, 0, none⟩), .slice it.A it.x.f3.length it.c, .int .i64 it.n, .bool true] rfl (by (try simp only [List.map_toArray, List.map_cons, List.map_nil]); first | done | rfl) ?_; (refine (rpush_calls it.n true HD.out HR.out K1.out K4.out (by have h1 := HO.out.few; have h2 := cnt_eq it.x; have h3 := len_cntL it.x.f3; have h4 := HN.out; omega)).mono ?_); (rintro e w255 ⟨rfl, hr, hb⟩; refine ⟨_, rfl, ?_⟩; have HR2 := Aside0.mk hr; clear HD HR hr; have HD := Aside0.mk hb; clear hb z3 z4)))
      go_end0
      have et : takeP wd it.x it.n it.f fr S = ({ S with modes := S.modes ++ [true] }, it.x.f3, it.n, true) := by rw [takeP, if_neg (by rw [HK.out]; decide), if_neg (by rw [HK.out]; decide), if_pos HK.out]; rw [HF.out]; rw [Bool.true_or]
      rw [HFR.out, et]
      exact ⟨rfl, ⟨ks, ⟨K2.out, K3.out⟩, HR2.out⟩, HD.out⟩
end
end Go.Proofs.Ytigihiggpfjbjaa.PR
