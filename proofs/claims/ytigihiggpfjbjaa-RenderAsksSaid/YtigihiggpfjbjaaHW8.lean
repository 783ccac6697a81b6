/- The writer's take. -/
import Derived.Test.YtigihiggpfjbjaaHW6
namespace Go.Proofs.Ytigihiggpfjbjaa.PR
open Go.RowKit Go.Proofs.YtigihiggpfjbjaaW.PrintWords Go.Proofs.YtigihiggpfjbjaaW.PrintLast Go.Proofs.YtigihiggpfjbjaaW.PrintMore
set_option linter.unusedVariables false
set_option linter.unusedSimpArgs false
theorem F34tab2 : rtab .any (opsOf Try.f34 2) = (true, [([], []), ([], []), ([1], [1]), ([], []), ([3], [3]), ([], []), ([5], [5]), ([6], [6]), ([7], [7]), ([8], [8]), ([4, 9], [4, 9]), ([], []), ([11], [11]), ([0, 2, 10, 12], [0, 2, 10, 12])]) := by kernel_rfl
theorem F34tab4 : rtab .any (opsOf Try.f34 4) = (true, [([], []), ([], []), ([1], [1]), ([2], [2]), ([3], [3]), ([4], [4]), ([], []), ([6], [6]), ([7], [7]), ([8], [8]), ([9], [9]), ([0, 5, 10], [0, 5, 10])]) := by kernel_rfl
theorem emp_toList : (⟨#[]⟩ : ByteArray).toList.isEmpty = true := by
  unfold ByteArray.toList
  unfold ByteArray.toList.loop
  simp
  intro h
  exact absurd h (by decide)
theorem blank_toList : (⟨#[32]⟩ : ByteArray).toList.isEmpty = false := by
  have h : (⟨#[32]⟩ : ByteArray).toList ≠ [] := fun h => by
    have := congrArg List.length h
    simp at this
  cases hb : (⟨#[32]⟩ : ByteArray).toList.isEmpty
  · rfl
  · exact absurd (List.isEmpty_iff.1 hb) h
/-- What has been written: the text, the column, blanks that go ahead of the next text, which groups are on one line. -/
structure St where
  out : List Int
  col : Int
  pen : Nat
  modes : List Bool
def textP (s : ByteArray) (n : Int) (S : St) : St := if s.toList.isEmpty = true then S else ⟨S.out ++ List.replicate S.pen 32 ++ bytesOf s, S.col + n, 0, S.modes⟩
def lineP (nest : Int) (S : St) : St := ⟨S.out ++ [10], nest, nest.toNat, S.modes⟩
/-- A part is taken: what is written behind it, and what is pushed. -/
def takeP (wd : Int) (x : S24) (nest : Int) (flat : Bool) (fr : Int) (S : St) : St × List S24 × Int × Bool :=
  if x.f0 = 1 then (textP x.f2 (wdV x) S, [], 0, false)
  else if x.f0 = 2 ∨ x.f0 = 3 ∨ x.f0 = 4 then (if flat = false ∨ x.f0 = 4 then lineP nest S else if x.f0 = 2 then textP (⟨#[32]⟩ : ByteArray) 1 S else S, [], 0, false)
  else if x.f0 = 7 then ({ S with modes := S.modes ++ [flat || fitB x wd S.col fr] }, x.f3, nest, flat || fitB x wd S.col fr)
  else (S, x.f3, nest + x.f1, flat)
/-- Items that lie so. -/
def Come (w : World) (B : Nat) (K : List It) (l : List S24) (n : Int) (f : Bool) : Prop := K.map It.x = l ∧ ∀ it ∈ K, it.n = n ∧ it.f = f ∧ PartAt w (fun k => k < B) it.x it.g
def WrS (w : World) (B gw : Nat) (wd : Int) (S : St) (its : List It) : Prop := Wr w B gw wd S.col (S.pen : Int) S.out (its.map itc) S.modes
section
variable {w w' : World} {B gw g : Nat} {wd nest : Int} {flat : Bool} {S : St} {its : List It} {x : S24}
theorem Come.nil (w : World) (B : Nat) (n : Int) (f : Bool) : Come w B [] [] n f := ⟨rfl, fun it h => by cases h⟩
def XA (g : Nat) (nest : Int) (flat : Bool) : Value := .agg #[.pointer (some ⟨g, 0, none⟩), .int .i64 nest, .bool flat]
def takS (gx g : Nat) (nest : Int) (flat : Bool) (x : S24) (wdx : Int) (w' : World) : Prop := w'.cell? ⟨gx, 0, none⟩ = some (.pointer (some ⟨g, 0, none⟩)) ∧ w'.cell? ⟨gx, 1, none⟩ = some (.int .i64 nest) ∧ w'.cell? ⟨gx, 2, none⟩ = some (.bool flat) ∧ w'.cell? ⟨g, 0, none⟩ = some (.int .i64 x.f0) ∧ w'.cell? ⟨g, 1, none⟩ = some (.int .i64 x.f1) ∧ w'.cell? ⟨g, 2, none⟩ = some (.string x.f2) ∧ w'.cell? ⟨g, 3, none⟩ = some (.int .i64 wdx) ∧ True
/-- What a call of take comes to. -/
def TakeAt (w : World) (B gw g : Nat) (wd nest : Int) (flat : Bool) (S : St) (its : List It) (x : S24) : Prop :=
  Calls Try.prog 34 #[.pointer (some ⟨gw, 0, none⟩), XA g nest flat] w fun e w' => e = .returned (.tuple #[]) ∧ (∃ K, Come w' B K (takeP wd x nest flat (frV its.reverse) S).2.1 (takeP wd x nest flat (frV its.reverse) S).2.2.1 (takeP wd x nest flat (frV its.reverse) S).2.2.2 ∧ WrS w' B gw wd (takeP wd x nest flat (frV its.reverse) S).1 (its ++ K.reverse)) ∧ Below B w w'
theorem takS_of {gx : Nat} {A : Option Addr} {c : Nat} (hb : w.heap[gx]? = some (.cells #[.pointer (some ⟨g, 0, none⟩), .int .i64 nest, .bool flat] 68 (0, 0))) (hx : w.heap[g]? = some (.cells (pcs x A c) 80 (0, 0))) : takS gx g nest flat x (wdV x) w :=
  ⟨(blk_cell hb 0).trans rfl, (blk_cell hb 1).trans rfl, (blk_cell hb 2).trans rfl, (blk_cell hx 0).trans rfl, (blk_cell hx 1).trans rfl, (blk_cell hx 2).trans rfl, (blk_cell hx 3).trans rfl, trivial⟩
theorem takS.below {gx : Nat} {wdx : Int} (h : takS gx g nest flat x wdx w) (hb : Below w.heap.size w w') : takS gx g nest flat x wdx w' :=
  ⟨bc hb h.1, bc hb h.2.1, bc hb h.2.2.1, bc hb h.2.2.2.1, bc hb h.2.2.2.2.1, bc hb h.2.2.2.2.2.1, bc hb h.2.2.2.2.2.2.1, trivial⟩
set_option maxHeartbeats 4000000 in
set_option maxRecDepth 100000 in
theorem take_text_nil {A : Option Addr} {c : Nat} {gs : List Nat} (h : WrS w B gw wd S its) (hx : w.heap[g]? = some (.cells (pcs x A c) 80 (0, 0))) (hgB : g < B) (hk : x.f0 = 1) (he : x.f2 = (⟨#[]⟩ : ByteArray)) (hp : S.pen ≤ 1000000000) (hl : S.out.length + S.pen + x.f2.size ≤ 140737488355328) (hc : 0 ≤ S.col ∧ 0 ≤ wdV x ∧ S.col + wdV x ≤ 1000000000000) : TakeAt w B gw g wd nest flat S its x := by
  have hu57 := Try.underlying57
  have hu80 := Try.underlying80
  have hu68 := Try.underlying68
  have H := Aside0.mk (show Wr w B gw wd S.col (S.pen : Int) S.out (its.map itc) S.modes from h)
  have HX := Aside0.mk hx
  have HGB := Aside0.mk hgB
  clear h hx hgB
  have HK := Aside0.mk hk
  have HE := Aside0.mk he
  have HP := Aside0.mk hp
  have HL := Aside0.mk hl
  have HC := Aside0.mk hc
  clear hk he hp hl hc
  unfold TakeAt XA
  go_enter Try.func34, Try.ntmps34
  go_upto_region 4 with (first | ((with_reducible refine gate_dst (N := 3) rfl ?_); (try (refine gate_guard (by rfl) ?_; dsimp only)); refine box_event ?hg (N := 3) ?hd (cs := #[.pointer (some ⟨g, 0, none⟩), .int .i64 nest, .bool flat]) (t := 68) ?hr ?_; (case hd => rfl); (case hg => rfl); (case hr => first | (go_simp; done) | (go_simp; rfl)); intro gx hg w3 hbox hb; have TS := Aside0.mk (takS_of hbox (blk_below HX.out hb)); have n0 := Aside0.mk (H.out.below hb); have HB := Aside0.mk (hb.mono H.out.base_le); have HX3 := Aside0.mk (blk_below HX.out hb); have BX := Aside0.mk hbox; clear H HX hb hg hbox; have H := n0; have HX := HX3; clear n0 HX3; obtain ⟨t0, t1, t2, t3, t4, t5, t6, _⟩ := TS.out; rw [HK.out] at t3))
  have n0 := Aside0.mk (H.out.below (below_drew1 (Below.refl _ _)))
  have n1 := Aside0.mk (TS.out.below (below_drew1 (Below.refl _ _)))
  have n2 := Aside0.mk (HB.out.trans (((below_drew1 (Below.refl _ _))).mono H.out.base_le))
  clear H TS HB t0 t1 t2 t3 t4 t5 t6
  have H := n0
  have TS := n1
  have HB := n2
  clear n0 n1 n2
  obtain ⟨wdx, hwx⟩ : ∃ u : Int, wdV x = u := ⟨_, rfl⟩
  rw [hwx] at TS HC
  have HWX := Aside0.mk hwx
  clear hwx
  refine start_ (n := 12) (S := takS gx g nest flat x wdx) (ds := [11]) #[false, false, false, false, false, false, false, false, false, false, false, false] (by kernel_rfl) rfl rfl (TS.out) (fun hHeld => ?_)
  generalize World.drew _ = w500 at H HB TS hHeld ⊢
  clear TS
  refine pure_ (i := 0) (N := some 26) (bt 12 1) rfl rfl (any_of F34tab4 (by kernel_rfl)) (fun _ _ _ h => h) (Or.inl ⟨by rfl, by intro w'; go_simp; with_reducible rfl⟩) (by simp only [Act.put, pset]; rfl) ?_
  refine pure_ (i := 1) (N := some 27) (bt 12 3) rfl rfl (any_of F34tab4 (by kernel_rfl)) (fun _ _ _ h => h) (Or.inl ⟨by rfl, by intro w'; go_simp; with_reducible rfl⟩) (by simp only [Act.put, pset]; rfl) ?_
  refine take_ (i := 2) (N := some 28) (bt 12 7) rfl rfl (take_of F34tab4 (by kernel_rfl)) (fun _ _ _ h => h) (Or.inl ⟨by rfl, by rintro w' ⟨s0, s1, s2, s3, s4, s5, s6, s7⟩; go_simp; with_reducible rfl⟩) hHeld (by simp only [Act.put, pset]; rfl) ?_
  refine pure_ (i := 3) (N := some 29) (bt 12 15) rfl rfl (any_of F34tab4 (by kernel_rfl)) (fun _ _ _ h => h) (Or.inl ⟨by rfl, by intro w'; go_simp; with_reducible rfl⟩) (by simp only [Act.put, pset]; rfl) ?_
  refine pure_ (i := 4) (N := some 30) (bt 12 31) rfl rfl (any_of F34tab4 (by kernel_rfl)) (fun _ _ _ h => h) (Or.inl ⟨by rfl, by intro w'; go_simp; with_reducible rfl⟩) (by simp only [Act.put, pset]; rfl) ?_
  refine take_ (i := 5) (N := some 31) (bt 12 63) rfl rfl (take_of F34tab4 (by kernel_rfl)) (fun _ _ _ h => h) (Or.inl ⟨by rfl, by rintro w' ⟨s0, s1, s2, s3, s4, s5, s6, s7⟩; go_simp; with_reducible rfl⟩) hHeld (by simp only [Act.put, pset]; rfl) ?_
  refine pure_ (i := 6) (N := some 32) (bt 12 127) rfl rfl (any_of F34tab4 (by kernel_rfl)) (fun _ _ _ h => h) (Or.inl ⟨by rfl, by intro w'; go_simp; with_reducible rfl⟩) (by simp only [Act.put, pset]; rfl) ?_
  refine take_ (i := 7) (N := some 33) (bt 12 255) rfl rfl (take_of F34tab4 (by kernel_rfl)) (fun _ _ _ h => h) (Or.inl ⟨by rfl, by rintro w' ⟨s0, s1, s2, s3, s4, s5, s6, s7⟩; go_simp; with_reducible rfl⟩) hHeld (by simp only [Act.put, pset]; rfl) ?_
  refine pure_ (i := 8) (N := some 34) (bt 12 511) rfl rfl (any_of F34tab4 (by kernel_rfl)) (fun _ _ _ h => h) (Or.inl ⟨by rfl, by intro w'; go_simp; with_reducible rfl⟩) (by simp only [Act.put, pset]; rfl) ?_
  refine pure_ (i := 9) (N := some 35) (bt 12 1023) rfl rfl (any_of F34tab4 (by kernel_rfl)) (fun _ _ _ h => h) (Or.inl ⟨by rfl, by intro w'; go_simp; with_reducible rfl⟩) (by simp only [Act.put, pset]; rfl) ?_
  refine take_ (i := 10) (N := some 36) (bt 12 2047) rfl rfl (take_of F34tab4 (by kernel_rfl)) (fun _ _ _ h => h) (Or.inl ⟨by rfl, by rintro w' ⟨s0, s1, s2, s3, s4, s5, s6, s7⟩; go_simp; with_reducible rfl⟩) hHeld (by simp only [Act.put, pset]; rfl) ?_
  refine last_ (i := 11) (N := some 37) (bt 12 4095) rfl rfl (one_of F34tab4 (by kernel_rfl)) (by decide) (fun K hK => ?_)
  refine goes_ Try.func41 (by kernel_rfl) rfl #[.pointer (some ⟨gw, 0, none⟩), .string x.f2, .int .i64 wdx] (by rfl) rfl rfl (by (try simp only [List.map_toArray, List.map_cons, List.map_nil]); first | done | rfl) ?_
  refine (text_nil x.f2 wdx HE.out H.out).mono ?_
  rintro e w501 ⟨rfl, rfl⟩
  refine ⟨_, rfl, ?_⟩
  skip
  refine hK.out _ _ ?_
  clear hK K
  refine norm_ (show Act.put _ (some 37) _ = _ from (by simp only [Act.put, pset]; rfl)) ?_
  refine done_ (done_of F34tab4 (by kernel_rfl)) ?_
  clear hHeld
  go_wp2_with fail
  go_end0
  have et : takeP wd x nest flat (frV its.reverse) S = (S, [], 0, false) := by rw [takeP, if_pos HK.out, textP, if_pos (by rw [HE.out]; exact emp_toList)]
  rw [et]
  exact ⟨rfl, ⟨[], Come.nil _ _ _ _, by rw [List.reverse_nil, List.append_nil]; exact H.out⟩, HB.out⟩
set_option maxHeartbeats 4000000 in
set_option maxRecDepth 100000 in
theorem take_text_some {A : Option Addr} {c : Nat} {gs : List Nat} (h : WrS w B gw wd S its) (hx : w.heap[g]? = some (.cells (pcs x A c) 80 (0, 0))) (hgB : g < B) (hk : x.f0 = 1) (he : x.f2.toList.isEmpty = false) (hp : S.pen ≤ 1000000000) (hl : S.out.length + S.pen + x.f2.size ≤ 140737488355328) (hc : 0 ≤ S.col ∧ 0 ≤ wdV x ∧ S.col + wdV x ≤ 1000000000000) : TakeAt w B gw g wd nest flat S its x := by
  have hu57 := Try.underlying57
  have hu80 := Try.underlying80
  have hu68 := Try.underlying68
  have H := Aside0.mk (show Wr w B gw wd S.col (S.pen : Int) S.out (its.map itc) S.modes from h)
  have HX := Aside0.mk hx
  have HGB := Aside0.mk hgB
  clear h hx hgB
  have HK := Aside0.mk hk
  have HE := Aside0.mk he
  have HP := Aside0.mk hp
  have HL := Aside0.mk hl
  have HC := Aside0.mk hc
  clear hk he hp hl hc
  unfold TakeAt XA
  go_enter Try.func34, Try.ntmps34
  go_upto_region 4 with (first | ((with_reducible refine gate_dst (N := 3) rfl ?_); (try (refine gate_guard (by rfl) ?_; dsimp only)); refine box_event ?hg (N := 3) ?hd (cs := #[.pointer (some ⟨g, 0, none⟩), .int .i64 nest, .bool flat]) (t := 68) ?hr ?_; (case hd => rfl); (case hg => rfl); (case hr => first | (go_simp; done) | (go_simp; rfl)); intro gx hg w3 hbox hb; have TS := Aside0.mk (takS_of hbox (blk_below HX.out hb)); have n0 := Aside0.mk (H.out.below hb); have HB := Aside0.mk (hb.mono H.out.base_le); have HX3 := Aside0.mk (blk_below HX.out hb); have BX := Aside0.mk hbox; clear H HX hb hg hbox; have H := n0; have HX := HX3; clear n0 HX3; obtain ⟨t0, t1, t2, t3, t4, t5, t6, _⟩ := TS.out; rw [HK.out] at t3))
  have n0 := Aside0.mk (H.out.below (below_drew1 (Below.refl _ _)))
  have n1 := Aside0.mk (TS.out.below (below_drew1 (Below.refl _ _)))
  have n2 := Aside0.mk (HB.out.trans (((below_drew1 (Below.refl _ _))).mono H.out.base_le))
  clear H TS HB t0 t1 t2 t3 t4 t5 t6
  have H := n0
  have TS := n1
  have HB := n2
  clear n0 n1 n2
  obtain ⟨wdx, hwx⟩ : ∃ u : Int, wdV x = u := ⟨_, rfl⟩
  rw [hwx] at TS HC
  have HWX := Aside0.mk hwx
  clear hwx
  refine start_ (n := 12) (S := takS gx g nest flat x wdx) (ds := [11]) #[false, false, false, false, false, false, false, false, false, false, false, false] (by kernel_rfl) rfl rfl (TS.out) (fun hHeld => ?_)
  generalize World.drew _ = w500 at H HB TS hHeld ⊢
  clear TS
  refine pure_ (i := 0) (N := some 26) (bt 12 1) rfl rfl (any_of F34tab4 (by kernel_rfl)) (fun _ _ _ h => h) (Or.inl ⟨by rfl, by intro w'; go_simp; with_reducible rfl⟩) (by simp only [Act.put, pset]; rfl) ?_
  refine pure_ (i := 1) (N := some 27) (bt 12 3) rfl rfl (any_of F34tab4 (by kernel_rfl)) (fun _ _ _ h => h) (Or.inl ⟨by rfl, by intro w'; go_simp; with_reducible rfl⟩) (by simp only [Act.put, pset]; rfl) ?_
  refine take_ (i := 2) (N := some 28) (bt 12 7) rfl rfl (take_of F34tab4 (by kernel_rfl)) (fun _ _ _ h => h) (Or.inl ⟨by rfl, by rintro w' ⟨s0, s1, s2, s3, s4, s5, s6, s7⟩; go_simp; with_reducible rfl⟩) hHeld (by simp only [Act.put, pset]; rfl) ?_
  refine pure_ (i := 3) (N := some 29) (bt 12 15) rfl rfl (any_of F34tab4 (by kernel_rfl)) (fun _ _ _ h => h) (Or.inl ⟨by rfl, by intro w'; go_simp; with_reducible rfl⟩) (by simp only [Act.put, pset]; rfl) ?_
  refine pure_ (i := 4) (N := some 30) (bt 12 31) rfl rfl (any_of F34tab4 (by kernel_rfl)) (fun _ _ _ h => h) (Or.inl ⟨by rfl, by intro w'; go_simp; with_reducible rfl⟩) (by simp only [Act.put, pset]; rfl) ?_
  refine take_ (i := 5) (N := some 31) (bt 12 63) rfl rfl (take_of F34tab4 (by kernel_rfl)) (fun _ _ _ h => h) (Or.inl ⟨by rfl, by rintro w' ⟨s0, s1, s2, s3, s4, s5, s6, s7⟩; go_simp; with_reducible rfl⟩) hHeld (by simp only [Act.put, pset]; rfl) ?_
  refine pure_ (i := 6) (N := some 32) (bt 12 127) rfl rfl (any_of F34tab4 (by kernel_rfl)) (fun _ _ _ h => h) (Or.inl ⟨by rfl, by intro w'; go_simp; with_reducible rfl⟩) (by simp only [Act.put, pset]; rfl) ?_
  refine take_ (i := 7) (N := some 33) (bt 12 255) rfl rfl (take_of F34tab4 (by kernel_rfl)) (fun _ _ _ h => h) (Or.inl ⟨by rfl, by rintro w' ⟨s0, s1, s2, s3, s4, s5, s6, s7⟩; go_simp; with_reducible rfl⟩) hHeld (by simp only [Act.put, pset]; rfl) ?_
  refine pure_ (i := 8) (N := some 34) (bt 12 511) rfl rfl (any_of F34tab4 (by kernel_rfl)) (fun _ _ _ h => h) (Or.inl ⟨by rfl, by intro w'; go_simp; with_reducible rfl⟩) (by simp only [Act.put, pset]; rfl) ?_
  refine pure_ (i := 9) (N := some 35) (bt 12 1023) rfl rfl (any_of F34tab4 (by kernel_rfl)) (fun _ _ _ h => h) (Or.inl ⟨by rfl, by intro w'; go_simp; with_reducible rfl⟩) (by simp only [Act.put, pset]; rfl) ?_
  refine take_ (i := 10) (N := some 36) (bt 12 2047) rfl rfl (take_of F34tab4 (by kernel_rfl)) (fun _ _ _ h => h) (Or.inl ⟨by rfl, by rintro w' ⟨s0, s1, s2, s3, s4, s5, s6, s7⟩; go_simp; with_reducible rfl⟩) hHeld (by simp only [Act.put, pset]; rfl) ?_
  refine last_ (i := 11) (N := some 37) (bt 12 4095) rfl rfl (one_of F34tab4 (by kernel_rfl)) (by decide) (fun K hK => ?_)
  refine goes_ Try.func41 (by kernel_rfl) rfl #[.pointer (some ⟨gw, 0, none⟩), .string x.f2, .int .i64 wdx] (by rfl) rfl rfl (by (try simp only [List.map_toArray, List.map_cons, List.map_nil]); first | done | rfl) ?_
  refine (text_calls x.f2 wdx S.pen HE.out H.out HP.out HL.out).mono ?_
  rintro e w501 ⟨rfl, hp, hb⟩
  refine ⟨_, rfl, ?_⟩
  have n2 := Aside0.mk (HB.out.trans hb); have n0 := Aside0.mk hp; clear H HB hp; have H := n0; have HB := n2; clear n0 n2
  refine hK.out _ _ ?_
  clear hK K
  refine norm_ (show Act.put _ (some 37) _ = _ from (by simp only [Act.put, pset]; rfl)) ?_
  refine done_ (done_of F34tab4 (by kernel_rfl)) ?_
  clear hHeld
  go_wp2_with fail
  go_end0
  have et : takeP wd x nest flat (frV its.reverse) S = (⟨S.out ++ List.replicate S.pen 32 ++ bytesOf x.f2, S.col + wdV x, 0, S.modes⟩, [], 0, false) := by rw [takeP, if_pos HK.out, textP, if_neg (by rw [HE.out]; decide)]
  rw [et]
  have ew : wrap64 (S.col + wdx) = S.col + wdx := by have := HC.out; unfold wrap64; omega
  exact ⟨rfl, ⟨[], Come.nil _ _ _ _, by rw [List.reverse_nil, List.append_nil]; have q := H.out; rw [ew] at q; unfold WrS; rw [HWX.out]; exact q⟩, HB.out⟩
set_option maxHeartbeats 4000000 in
set_option maxRecDepth 100000 in
theorem take_2_false {A : Option Addr} {c : Nat} {gs : List Nat} (h : WrS w B gw wd S its) (hx : w.heap[g]? = some (.cells (pcs x A c) 80 (0, 0))) (hgB : g < B) (hk : x.f0 = 2) (hp : S.pen ≤ 1000000000) (hl : S.out.length + S.pen + 1 ≤ 140737488355328) (hc : 0 ≤ S.col ∧ S.col ≤ 1000000000000) (hnn : 0 ≤ nest) : TakeAt w B gw g wd nest false S its x := by
  have hu57 := Try.underlying57
  have hu80 := Try.underlying80
  have hu68 := Try.underlying68
  have H := Aside0.mk (show Wr w B gw wd S.col (S.pen : Int) S.out (its.map itc) S.modes from h)
  have HX := Aside0.mk hx
  have HGB := Aside0.mk hgB
  clear h hx hgB
  have HK := Aside0.mk hk
  have HP := Aside0.mk hp
  have HL : Aside0 (S.out.length + 1 ≤ 140737488355328) := ⟨by omega⟩
  have HLP : Aside0 (S.out.length + S.pen + 1 ≤ 140737488355328) := ⟨hl⟩
  have HC := Aside0.mk hc
  have HNN := Aside0.mk hnn
  clear hk hp hl hc hnn
  unfold TakeAt XA
  go_enter Try.func34, Try.ntmps34
  go_wp2_with (first | ((with_reducible refine gate_dst (N := 3) rfl ?_); (try (refine gate_guard (by rfl) ?_; dsimp only)); refine box_event ?hg (N := 3) ?hd (cs := #[.pointer (some ⟨g, 0, none⟩), .int .i64 nest, .bool false]) (t := 68) ?hr ?_; (case hd => rfl); (case hg => rfl); (case hr => first | (go_simp; done) | (go_simp; rfl)); intro gx hg w3 hbox hb; have TS := Aside0.mk (takS_of hbox (blk_below HX.out hb)); have n0 := Aside0.mk (H.out.below hb); have HB := Aside0.mk (hb.mono H.out.base_le); have HX3 := Aside0.mk (blk_below HX.out hb); have BX := Aside0.mk hbox; clear H HX hb hg hbox; have H := n0; have HX := HX3; clear n0 HX3; obtain ⟨t0, t1, t2, t3, t4, t5, t6, _⟩ := TS.out; rw [HK.out] at t3) | ((with_reducible refine gate_dst (N := 57) rfl ?_); refine goesL_ (some 57) rfl rfl Try.func42 (by kernel_rfl) rfl #[.pointer (some ⟨gw, 0, none⟩), .int .i64 nest] rfl (by (try simp only [List.map_toArray, List.map_cons, List.map_nil]); first | done | rfl) ?_; (refine (line_calls nest H.out (Nat.le_trans HL.out (Nat.le_refl _))).mono ?_); (rintro e w9 ⟨rfl, hp, hb⟩; refine ⟨_, rfl, ?_⟩; have n2 := Aside0.mk (HB.out.trans hb); have n0 := Aside0.mk hp; clear H HB hp hb; have H := n0; have HB := n2; clear n0 n2)))
  go_end0
  have en : ((nest.toNat : Nat) : Int) = nest := by have := HNN.out; omega
  have et : takeP wd x nest false (frV its.reverse) S = (lineP nest S, [], 0, false) := by rw [takeP, if_neg (by rw [HK.out]; decide), if_pos (by rw [HK.out]; decide), if_pos (by exact Or.inl rfl)]
  rw [et]
  exact ⟨rfl, ⟨[], Come.nil _ _ _ _, by rw [List.reverse_nil, List.append_nil]; unfold WrS lineP; simp only; rw [en]; exact H.out⟩, HB.out⟩
set_option maxHeartbeats 4000000 in
set_option maxRecDepth 100000 in
theorem take_3_false {A : Option Addr} {c : Nat} {gs : List Nat} (h : WrS w B gw wd S its) (hx : w.heap[g]? = some (.cells (pcs x A c) 80 (0, 0))) (hgB : g < B) (hk : x.f0 = 3) (hp : S.pen ≤ 1000000000) (hl : S.out.length + S.pen + 1 ≤ 140737488355328) (hc : 0 ≤ S.col ∧ S.col ≤ 1000000000000) (hnn : 0 ≤ nest) : TakeAt w B gw g wd nest false S its x := by
  have hu57 := Try.underlying57
  have hu80 := Try.underlying80
  have hu68 := Try.underlying68
  have H := Aside0.mk (show Wr w B gw wd S.col (S.pen : Int) S.out (its.map itc) S.modes from h)
  have HX := Aside0.mk hx
  have HGB := Aside0.mk hgB
  clear h hx hgB
  have HK := Aside0.mk hk
  have HP := Aside0.mk hp
  have HL : Aside0 (S.out.length + 1 ≤ 140737488355328) := ⟨by omega⟩
  have HLP : Aside0 (S.out.length + S.pen + 1 ≤ 140737488355328) := ⟨hl⟩
  have HC := Aside0.mk hc
  have HNN := Aside0.mk hnn
  clear hk hp hl hc hnn
  unfold TakeAt XA
  go_enter Try.func34, Try.ntmps34
  go_wp2_with (first | ((with_reducible refine gate_dst (N := 3) rfl ?_); (try (refine gate_guard (by rfl) ?_; dsimp only)); refine box_event ?hg (N := 3) ?hd (cs := #[.pointer (some ⟨g, 0, none⟩), .int .i64 nest, .bool false]) (t := 68) ?hr ?_; (case hd => rfl); (case hg => rfl); (case hr => first | (go_simp; done) | (go_simp; rfl)); intro gx hg w3 hbox hb; have TS := Aside0.mk (takS_of hbox (blk_below HX.out hb)); have n0 := Aside0.mk (H.out.below hb); have HB := Aside0.mk (hb.mono H.out.base_le); have HX3 := Aside0.mk (blk_below HX.out hb); have BX := Aside0.mk hbox; clear H HX hb hg hbox; have H := n0; have HX := HX3; clear n0 HX3; obtain ⟨t0, t1, t2, t3, t4, t5, t6, _⟩ := TS.out; rw [HK.out] at t3) | ((with_reducible refine gate_dst (N := 57) rfl ?_); refine goesL_ (some 57) rfl rfl Try.func42 (by kernel_rfl) rfl #[.pointer (some ⟨gw, 0, none⟩), .int .i64 nest] rfl (by (try simp only [List.map_toArray, List.map_cons, List.map_nil]); first | done | rfl) ?_; (refine (line_calls nest H.out (Nat.le_trans HL.out (Nat.le_refl _))).mono ?_); (rintro e w9 ⟨rfl, hp, hb⟩; refine ⟨_, rfl, ?_⟩; have n2 := Aside0.mk (HB.out.trans hb); have n0 := Aside0.mk hp; clear H HB hp hb; have H := n0; have HB := n2; clear n0 n2)))
  go_end0
  have en : ((nest.toNat : Nat) : Int) = nest := by have := HNN.out; omega
  have et : takeP wd x nest false (frV its.reverse) S = (lineP nest S, [], 0, false) := by rw [takeP, if_neg (by rw [HK.out]; decide), if_pos (by rw [HK.out]; decide), if_pos (by exact Or.inl rfl)]
  rw [et]
  exact ⟨rfl, ⟨[], Come.nil _ _ _ _, by rw [List.reverse_nil, List.append_nil]; unfold WrS lineP; simp only; rw [en]; exact H.out⟩, HB.out⟩
set_option maxHeartbeats 4000000 in
set_option maxRecDepth 100000 in
theorem take_4_false {A : Option Addr} {c : Nat} {gs : List Nat} (h : WrS w B gw wd S its) (hx : w.heap[g]? = some (.cells (pcs x A c) 80 (0, 0))) (hgB : g < B) (hk : x.f0 = 4) (hp : S.pen ≤ 1000000000) (hl : S.out.length + S.pen + 1 ≤ 140737488355328) (hc : 0 ≤ S.col ∧ S.col ≤ 1000000000000) (hnn : 0 ≤ nest) : TakeAt w B gw g wd nest false S its x := by
  have hu57 := Try.underlying57
  have hu80 := Try.underlying80
  have hu68 := Try.underlying68
  have H := Aside0.mk (show Wr w B gw wd S.col (S.pen : Int) S.out (its.map itc) S.modes from h)
  have HX := Aside0.mk hx
  have HGB := Aside0.mk hgB
  clear h hx hgB
  have HK := Aside0.mk hk
  have HP := Aside0.mk hp
  have HL : Aside0 (S.out.length + 1 ≤ 140737488355328) := ⟨by omega⟩
  have HLP : Aside0 (S.out.length + S.pen + 1 ≤ 140737488355328) := ⟨hl⟩
  have HC := Aside0.mk hc
  have HNN := Aside0.mk hnn
  clear hk hp hl hc hnn
  unfold TakeAt XA
  go_enter Try.func34, Try.ntmps34
  go_wp2_with (first | ((with_reducible refine gate_dst (N := 3) rfl ?_); (try (refine gate_guard (by rfl) ?_; dsimp only)); refine box_event ?hg (N := 3) ?hd (cs := #[.pointer (some ⟨g, 0, none⟩), .int .i64 nest, .bool false]) (t := 68) ?hr ?_; (case hd => rfl); (case hg => rfl); (case hr => first | (go_simp; done) | (go_simp; rfl)); intro gx hg w3 hbox hb; have TS := Aside0.mk (takS_of hbox (blk_below HX.out hb)); have n0 := Aside0.mk (H.out.below hb); have HB := Aside0.mk (hb.mono H.out.base_le); have HX3 := Aside0.mk (blk_below HX.out hb); have BX := Aside0.mk hbox; clear H HX hb hg hbox; have H := n0; have HX := HX3; clear n0 HX3; obtain ⟨t0, t1, t2, t3, t4, t5, t6, _⟩ := TS.out; rw [HK.out] at t3) | ((with_reducible refine gate_dst (N := 57) rfl ?_); refine goesL_ (some 57) rfl rfl Try.func42 (by kernel_rfl) rfl #[.pointer (some ⟨gw, 0, none⟩), .int .i64 nest] rfl (by (try simp only [List.map_toArray, List.map_cons, List.map_nil]); first | done | rfl) ?_; (refine (line_calls nest H.out (Nat.le_trans HL.out (Nat.le_refl _))).mono ?_); (rintro e w9 ⟨rfl, hp, hb⟩; refine ⟨_, rfl, ?_⟩; have n2 := Aside0.mk (HB.out.trans hb); have n0 := Aside0.mk hp; clear H HB hp hb; have H := n0; have HB := n2; clear n0 n2)))
  go_end0
  have en : ((nest.toNat : Nat) : Int) = nest := by have := HNN.out; omega
  have et : takeP wd x nest false (frV its.reverse) S = (lineP nest S, [], 0, false) := by rw [takeP, if_neg (by rw [HK.out]; decide), if_pos (by rw [HK.out]; decide), if_pos (by exact Or.inr HK.out)]
  rw [et]
  exact ⟨rfl, ⟨[], Come.nil _ _ _ _, by rw [List.reverse_nil, List.append_nil]; unfold WrS lineP; simp only; rw [en]; exact H.out⟩, HB.out⟩
set_option maxHeartbeats 4000000 in
set_option maxRecDepth 100000 in
theorem take_4_true {A : Option Addr} {c : Nat} {gs : List Nat} (h : WrS w B gw wd S its) (hx : w.heap[g]? = some (.cells (pcs x A c) 80 (0, 0))) (hgB : g < B) (hk : x.f0 = 4) (hp : S.pen ≤ 1000000000) (hl : S.out.length + S.pen + 1 ≤ 140737488355328) (hc : 0 ≤ S.col ∧ S.col ≤ 1000000000000) (hnn : 0 ≤ nest) : TakeAt w B gw g wd nest true S its x := by
  have hu57 := Try.underlying57
  have hu80 := Try.underlying80
  have hu68 := Try.underlying68
  have H := Aside0.mk (show Wr w B gw wd S.col (S.pen : Int) S.out (its.map itc) S.modes from h)
  have HX := Aside0.mk hx
  have HGB := Aside0.mk hgB
  clear h hx hgB
  have HK := Aside0.mk hk
  have HP := Aside0.mk hp
  have HL : Aside0 (S.out.length + 1 ≤ 140737488355328) := ⟨by omega⟩
  have HLP : Aside0 (S.out.length + S.pen + 1 ≤ 140737488355328) := ⟨hl⟩
  have HC := Aside0.mk hc
  have HNN := Aside0.mk hnn
  clear hk hp hl hc hnn
  unfold TakeAt XA
  go_enter Try.func34, Try.ntmps34
  go_wp2_with (first | ((with_reducible refine gate_dst (N := 3) rfl ?_); (try (refine gate_guard (by rfl) ?_; dsimp only)); refine box_event ?hg (N := 3) ?hd (cs := #[.pointer (some ⟨g, 0, none⟩), .int .i64 nest, .bool true]) (t := 68) ?hr ?_; (case hd => rfl); (case hg => rfl); (case hr => first | (go_simp; done) | (go_simp; rfl)); intro gx hg w3 hbox hb; have TS := Aside0.mk (takS_of hbox (blk_below HX.out hb)); have n0 := Aside0.mk (H.out.below hb); have HB := Aside0.mk (hb.mono H.out.base_le); have HX3 := Aside0.mk (blk_below HX.out hb); have BX := Aside0.mk hbox; clear H HX hb hg hbox; have H := n0; have HX := HX3; clear n0 HX3; obtain ⟨t0, t1, t2, t3, t4, t5, t6, _⟩ := TS.out; rw [HK.out] at t3) | ((with_reducible refine gate_dst (N := 57) rfl ?_); refine goesL_ (some 57) rfl rfl Try.func42 (by kernel_rfl) rfl #[.pointer (some ⟨gw, 0, none⟩), .int .i64 nest] rfl (by (try simp only [List.map_toArray, List.map_cons, List.map_nil]); first | done | rfl) ?_; (refine (line_calls nest H.out (Nat.le_trans HL.out (Nat.le_refl _))).mono ?_); (rintro e w9 ⟨rfl, hp, hb⟩; refine ⟨_, rfl, ?_⟩; have n2 := Aside0.mk (HB.out.trans hb); have n0 := Aside0.mk hp; clear H HB hp hb; have H := n0; have HB := n2; clear n0 n2)))
  go_end0
  have en : ((nest.toNat : Nat) : Int) = nest := by have := HNN.out; omega
  have et : takeP wd x nest true (frV its.reverse) S = (lineP nest S, [], 0, false) := by rw [takeP, if_neg (by rw [HK.out]; decide), if_pos (by rw [HK.out]; decide), if_pos (by exact Or.inr HK.out)]
  rw [et]
  exact ⟨rfl, ⟨[], Come.nil _ _ _ _, by rw [List.reverse_nil, List.append_nil]; unfold WrS lineP; simp only; rw [en]; exact H.out⟩, HB.out⟩
set_option maxHeartbeats 4000000 in
set_option maxRecDepth 100000 in
theorem take_2_true {A : Option Addr} {c : Nat} {gs : List Nat} (h : WrS w B gw wd S its) (hx : w.heap[g]? = some (.cells (pcs x A c) 80 (0, 0))) (hgB : g < B) (hk : x.f0 = 2) (hp : S.pen ≤ 1000000000) (hl : S.out.length + S.pen + 1 ≤ 140737488355328) (hc : 0 ≤ S.col ∧ S.col ≤ 1000000000000) (hnn : 0 ≤ nest) : TakeAt w B gw g wd nest true S its x := by
  have hu57 := Try.underlying57
  have hu80 := Try.underlying80
  have hu68 := Try.underlying68
  have H := Aside0.mk (show Wr w B gw wd S.col (S.pen : Int) S.out (its.map itc) S.modes from h)
  have HX := Aside0.mk hx
  have HGB := Aside0.mk hgB
  clear h hx hgB
  have HK := Aside0.mk hk
  have HP := Aside0.mk hp
  have HL : Aside0 (S.out.length + 1 ≤ 140737488355328) := ⟨by omega⟩
  have HLP : Aside0 (S.out.length + S.pen + 1 ≤ 140737488355328) := ⟨hl⟩
  have HC := Aside0.mk hc
  have HNN := Aside0.mk hnn
  clear hk hp hl hc hnn
  unfold TakeAt XA
  go_enter Try.func34, Try.ntmps34
  go_wp2_with (first | ((with_reducible refine gate_dst (N := 3) rfl ?_); (try (refine gate_guard (by rfl) ?_; dsimp only)); refine box_event ?hg (N := 3) ?hd (cs := #[.pointer (some ⟨g, 0, none⟩), .int .i64 nest, .bool true]) (t := 68) ?hr ?_; (case hd => rfl); (case hg => rfl); (case hr => first | (go_simp; done) | (go_simp; rfl)); intro gx hg w3 hbox hb; have TS := Aside0.mk (takS_of hbox (blk_below HX.out hb)); have n0 := Aside0.mk (H.out.below hb); have HB := Aside0.mk (hb.mono H.out.base_le); have HX3 := Aside0.mk (blk_below HX.out hb); have BX := Aside0.mk hbox; clear H HX hb hg hbox; have H := n0; have HX := HX3; clear n0 HX3; obtain ⟨t0, t1, t2, t3, t4, t5, t6, _⟩ := TS.out; rw [HK.out] at t3) | ((with_reducible refine gate_dst (N := 66) rfl ?_); refine goesL_ (some 66) rfl rfl Try.func41 (by kernel_rfl) rfl #[.pointer (some ⟨gw, 0, none⟩), .string (⟨#[32]⟩ : ByteArray), .int .i64 1] rfl (by (try simp only [List.map_toArray, List.map_cons, List.map_nil]); first | done | rfl) ?_; (refine (text_calls (⟨#[32]⟩ : ByteArray) 1 S.pen blank_toList H.out HP.out (Nat.le_trans HLP.out (Nat.le_refl _))).mono ?_); (rintro e w9 ⟨rfl, hp, hb⟩; refine ⟨_, rfl, ?_⟩; have n2 := Aside0.mk (HB.out.trans hb); have n0 := Aside0.mk hp; clear H HB hp hb; have H := n0; have HB := n2; clear n0 n2)))
  go_end0
  have ew : wrap64 (S.col + 1) = S.col + 1 := by have := HC.out; unfold wrap64; omega
  have et : takeP wd x nest true (frV its.reverse) S = (⟨S.out ++ List.replicate S.pen 32 ++ bytesOf (⟨#[32]⟩ : ByteArray), S.col + 1, 0, S.modes⟩, [], 0, false) := by rw [takeP, if_neg (by rw [HK.out]; decide), if_pos (by rw [HK.out]; decide), if_neg (by rw [HK.out]; decide), if_pos HK.out, textP, if_neg (by rw [blank_toList]; decide)]
  rw [et]
  exact ⟨rfl, ⟨[], Come.nil _ _ _ _, by rw [List.reverse_nil, List.append_nil]; have q := H.out; rw [ew] at q; exact q⟩, HB.out⟩
set_option maxHeartbeats 4000000 in
set_option maxRecDepth 100000 in
theorem take_3_true {A : Option Addr} {c : Nat} {gs : List Nat} (h : WrS w B gw wd S its) (hx : w.heap[g]? = some (.cells (pcs x A c) 80 (0, 0))) (hgB : g < B) (hk : x.f0 = 3) (hp : S.pen ≤ 1000000000) (hl : S.out.length + S.pen + 1 ≤ 140737488355328) (hc : 0 ≤ S.col ∧ S.col ≤ 1000000000000) (hnn : 0 ≤ nest) : TakeAt w B gw g wd nest true S its x := by
  have hu57 := Try.underlying57
  have hu80 := Try.underlying80
  have hu68 := Try.underlying68
  have H := Aside0.mk (show Wr w B gw wd S.col (S.pen : Int) S.out (its.map itc) S.modes from h)
  have HX := Aside0.mk hx
  have HGB := Aside0.mk hgB
  clear h hx hgB
  have HK := Aside0.mk hk
  have HP := Aside0.mk hp
  have HL : Aside0 (S.out.length + 1 ≤ 140737488355328) := ⟨by omega⟩
  have HLP : Aside0 (S.out.length + S.pen + 1 ≤ 140737488355328) := ⟨hl⟩
  have HC := Aside0.mk hc
  have HNN := Aside0.mk hnn
  clear hk hp hl hc hnn
  unfold TakeAt XA
  go_enter Try.func34, Try.ntmps34
  go_wp2_with (first | ((with_reducible refine gate_dst (N := 3) rfl ?_); (try (refine gate_guard (by rfl) ?_; dsimp only)); refine box_event ?hg (N := 3) ?hd (cs := #[.pointer (some ⟨g, 0, none⟩), .int .i64 nest, .bool true]) (t := 68) ?hr ?_; (case hd => rfl); (case hg => rfl); (case hr => first | (go_simp; done) | (go_simp; rfl)); intro gx hg w3 hbox hb; have TS := Aside0.mk (takS_of hbox (blk_below HX.out hb)); have n0 := Aside0.mk (H.out.below hb); have HB := Aside0.mk (hb.mono H.out.base_le); have HX3 := Aside0.mk (blk_below HX.out hb); have BX := Aside0.mk hbox; clear H HX hb hg hbox; have H := n0; have HX := HX3; clear n0 HX3; obtain ⟨t0, t1, t2, t3, t4, t5, t6, _⟩ := TS.out; rw [HK.out] at t3))
  go_end0
  skip
  have et : takeP wd x nest true (frV its.reverse) S = (S, [], 0, false) := by rw [takeP, if_neg (by rw [HK.out]; decide), if_pos (by rw [HK.out]; decide), if_neg (by rw [HK.out]; decide), if_neg (by rw [HK.out]; decide)]
  rw [et]
  exact ⟨rfl, ⟨[], Come.nil _ _ _ _, by rw [List.reverse_nil, List.append_nil]; exact H.out⟩, HB.out⟩
end
end Go.Proofs.Ytigihiggpfjbjaa.PR

/- Plain: a run of the writer, by structure. -/
namespace Go.Proofs.Ytigihiggpfjbjaa.PR
open Go.RowKit Go.Proofs.YtigihiggpfjbjaaW.PrintWords Go.Proofs.YtigihiggpfjbjaaW.PrintLast Go.Proofs.YtigihiggpfjbjaaW.PrintMore
set_option linter.unusedVariables false
set_option linter.unusedSimpArgs false
/-- What follows, in widths. -/
def frL : List S24 → Int → Int
  | [], fr => fr
  | x :: r, fr => if (ldV x).2 = true then (ldV x).1 else (ldV x).1 + frL r fr
mutual
/-- A part is written; fr: how wide what follows is up to the first place where a line may end. -/
def rend (wd : Int) : S24 → Int → Bool → Int → St → St
  | ⟨k, n, s, l⟩, nest, flat, fr, S =>
    if k = 1 then textP s (wdV ⟨k, n, s, l⟩) S
    else if k = 2 ∨ k = 3 ∨ k = 4 then (if flat = false ∨ k = 4 then lineP nest S else if k = 2 then textP (⟨#[32]⟩ : ByteArray) 1 S else S)
    else if k = 7 then rendL wd l nest (flat || fitB ⟨k, n, s, l⟩ wd S.col fr) fr { S with modes := S.modes ++ [flat || fitB ⟨k, n, s, l⟩ wd S.col fr] }
    else rendL wd l (nest + n) flat fr S
def rendL (wd : Int) : List S24 → Int → Bool → Int → St → St
  | [], _, _, _, S => S
  | x :: r, nest, flat, fr, S => rendL wd r nest flat fr (rend wd x nest flat (frL r fr) S)
end
theorem rend_take (wd : Int) (x : S24) (nest : Int) (flat : Bool) (fr : Int) (S : St) :
    rend wd x nest flat fr S = rendL wd (takeP wd x nest flat fr S).2.1 (takeP wd x nest flat fr S).2.2.1 (takeP wd x nest flat fr S).2.2.2 fr (takeP wd x nest flat fr S).1 := by
  obtain ⟨k, n, s, l⟩ := x
  unfold rend takeP
  simp only
  split
  · rfl
  · split
    · rfl
    · split <;> rfl
theorem frV_append (r : List It) : ∀ (K : List It), frV (K ++ r) = frL (K.map It.x) (frV r)
  | [] => rfl
  | it :: K => by
    simp only [List.cons_append, frV, List.map_cons, frL, frV_append r K]
/-- What is to come is written, the top first. -/
def runIt (wd : Int) : List It → St → St
  | [], S => S
  | it :: r, S => runIt wd r (rend wd it.x it.n it.f (frV r) S)
theorem runIt_append (wd : Int) (n : Int) (f : Bool) (r : List It) : ∀ (K : List It) (S : St), (∀ it ∈ K, it.n = n ∧ it.f = f) → runIt wd (K ++ r) S = runIt wd r (rendL wd (K.map It.x) n f (frV r) S)
  | [], S, _ => rfl
  | it :: K, S, h => by
    obtain ⟨e1, e2⟩ := h it List.mem_cons_self
    rw [List.cons_append, runIt, frV_append, runIt_append wd n f r K _ (fun x hx => h x (List.mem_cons_of_mem _ hx)), e1, e2]
    rfl
/-- One part is taken: the run is the same. -/
theorem runIt_take (wd : Int) (it : It) (r K : List It) (S : St) (hl : K.map It.x = (takeP wd it.x it.n it.f (frV r) S).2.1) (hK : ∀ k ∈ K, k.n = (takeP wd it.x it.n it.f (frV r) S).2.2.1 ∧ k.f = (takeP wd it.x it.n it.f (frV r) S).2.2.2) :
    runIt wd (K ++ r) (takeP wd it.x it.n it.f (frV r) S).1 = runIt wd (it :: r) S := by
  rw [runIt_append wd _ _ r K _ hK, runIt, rend_take, hl]
end Go.Proofs.Ytigihiggpfjbjaa.PR

/- The writer's take: groups, rows, nests. -/
namespace Go.Proofs.Ytigihiggpfjbjaa.PR
open Go.RowKit Go.Proofs.YtigihiggpfjbjaaW.PrintWords Go.Proofs.YtigihiggpfjbjaaW.PrintLast Go.Proofs.YtigihiggpfjbjaaW.PrintMore
set_option linter.unusedVariables false
set_option linter.unusedSimpArgs false
theorem infoBool : (Try.prog.info? 4).map (fun i => (i.zero, i.size, i.bytes)) = some (some (.bool false), 1, 1) := by kernel_rfl
section
variable {w w' : World} {B gw g : Nat} {wd nest : Int} {flat : Bool} {S : St} {its : List It} {x : S24}
theorem parts_below {l : List S24} {gs : List Nat} (h : PartsAt w (fun k => k < B) l gs) (hb : Below B w w') : PartsAt w' (fun k => k < B) l gs := PartsAt.keep (fun k hk hl => ⟨hb.block k hk, hk, Nat.lt_of_lt_of_le hl hb.size⟩) _ _ h
theorem part_below (h : PartAt w (fun k => k < B) x g) (hb : Below B w w') : PartAt w' (fun k => k < B) x g := PartAt.keep (fun k hk hl => ⟨hb.block k hk, hk, Nat.lt_of_lt_of_le hl hb.size⟩) _ _ h
theorem row_below {A : Option Addr} {gs : List Nat} (h : RowP w (fun k => k < B) A gs) (hb : Below B w w') : RowP w' (fun k => k < B) A gs := h.keep (fun k hk hl => ⟨hb.block k hk, hk, Nat.lt_of_lt_of_le hl hb.size⟩)
theorem come_kids (n : Int) (f : Bool) : ∀ (l : List S24) (gs : List Nat), gs.length = l.length → PartsAt w (fun k => k < B) l gs → Come w B (kids gs l n f) l n f
  | [], gs, h, _ => by
    obtain rfl : gs = [] := List.eq_nil_of_length_eq_zero h
    exact Come.nil _ _ _ _
  | x :: r, gs, h, hp => by
    obtain ⟨g, t, rfl, h1, h2⟩ := hp
    obtain ⟨i1, i2⟩ := come_kids n f r t (by simpa using h) h2
    refine ⟨?_, fun it hi => ?_⟩
    · show x :: (kids t r n f).map It.x = x :: r
      rw [i1]
    · rcases List.mem_cons.1 (show it ∈ (⟨g, x, n, f⟩ : It) :: kids t r n f from hi) with rfl | hi
      · exact ⟨rfl, rfl, h1⟩
      · exact i2 it hi
set_option maxHeartbeats 4000000 in
set_option maxRecDepth 100000 in
theorem take_7_false {A : Option Addr} {c : Nat} {gs : List Nat} (h : WrS w B gw wd S its) (hx : w.heap[g]? = some (.cells (pcs x A c) 80 (0, 0))) (hgB : g < B) (hgs : gs.length = x.f3.length) (hrow : RowP w (fun k => k < B) A gs) (hps : PartsAt w (fun k => k < B) x.f3 gs) (hn : its.length + x.f3.length ≤ 2000) (hk : x.f0 = 7) (hpi : ∀ it ∈ its, PartAt w (fun k => k < B) it.x it.g) (hpx : PartAt w (fun k => k < B) x g) (hbd : ∀ it ∈ its, 0 ≤ (ldV it.x).1 ∧ (ldV it.x).1 ≤ 100000000) (hwd : 0 ≤ wd) (hc : 0 ≤ S.col ∧ 0 ≤ wdV x ∧ S.col + wdV x ≤ 1000000000000) (hml : S.modes.length ≤ 1000000) : TakeAt w B gw g wd nest false S its x := by
  have hu78 := Try.underlying78
  have hu30 := Try.underlying30
  have hu57 := Try.underlying57
  have hu80 := Try.underlying80
  have hu68 := Try.underlying68
  have H := Aside0.mk (show Wr w B gw wd S.col (S.pen : Int) S.out (its.map itc) S.modes from h)
  have HX := Aside0.mk hx
  have HGB := Aside0.mk hgB
  have HGS := Aside0.mk hgs
  have HR := Aside0.mk hrow
  have HPS := Aside0.mk hps
  have HN := Aside0.mk hn
  clear h hx hgB hgs hrow hps hn
  have HK := Aside0.mk hk
  have HPI := Aside0.mk hpi
  have HPX := Aside0.mk hpx
  have HBD := Aside0.mk hbd
  have HWD := Aside0.mk hwd
  have HC := Aside0.mk hc
  have HML := Aside0.mk hml
  have HX0 := HX
  obtain ⟨fb, hfb⟩ : ∃ b, fitB x wd S.col (frV its.reverse) = b := ⟨_, rfl⟩
  have HFB := Aside0.mk hfb
  clear hk hpi hpx hbd hwd hc hml hfb
  unfold TakeAt XA
  go_enter Try.func34, Try.ntmps34
  go_upto_region 15 with (first | ((with_reducible refine gate_dst (N := 3) rfl ?_); (try (refine gate_guard (by rfl) ?_; dsimp only)); refine box_event ?hg (N := 3) ?hd (cs := #[.pointer (some ⟨g, 0, none⟩), .int .i64 nest, .bool false]) (t := 68) ?hr ?_; (case hd => rfl); (case hg => rfl); (case hr => first | (go_simp; done) | (go_simp; rfl)); intro gx hg w3 hbox hb; have TS := Aside0.mk (takS_of hbox (blk_below HX.out hb)); have n0 := Aside0.mk (H.out.below hb); have HB := Aside0.mk (hb.mono H.out.base_le); have HX3 := Aside0.mk (blk_below HX.out hb); have BX := Aside0.mk hbox; clear H HX hb hg hbox; have H := n0; have HX := HX3; clear n0 HX3; obtain ⟨t0, t1, t2, t3, t4, t5, t6, _⟩ := TS.out; rw [HK.out] at t3) | ((with_reducible refine gate_dst (N := 75) rfl ?_); (refine gate_guard (by rfl) ?_; dsimp only); refine goesL_ (some 75) rfl rfl Try.func43 (by kernel_rfl) rfl #[.pointer (some ⟨gw, 0, none⟩), .pointer (some ⟨g, 0, none⟩)] rfl (by (try simp only [List.map_toArray, List.map_cons, List.map_nil]); first | done | rfl) ?_; (refine (fits_calls H.out (fun it hi => part_below (HPI.out it hi) HB.out) (part_below HPX.out HB.out) HBD.out (Nat.le_trans (Nat.le_add_right _ _) HN.out) HWD.out HC.out).mono ?_); (rintro e w9 ⟨rfl, hb⟩; refine ⟨_, rfl, ?_⟩; rw [HFB.out]; have n0 := Aside0.mk (H.out.below hb); have n1 := Aside0.mk (TS.out.below hb); have n2 := Aside0.mk (HB.out.trans (hb.mono H.out.base_le)); have n3 := Aside0.mk (blk_below BX.out hb); clear H TS HB BX t0 t1 t2 t3 t4 t5 t6 hb; have H := n0; have TS := n1; have HB := n2; have BX := n3; clear n0 n1 n2 n3; obtain ⟨t0, t1, t2, t3, t4, t5, t6, _⟩ := TS.out; rw [HK.out] at t3; obtain ⟨a6, vb6, vr6, vm6, hw6, _, _, _, _, q6⟩ := H.out.open_; have HW6 := Aside0.mk hw6; clear hw6)) | ((with_reducible refine gate_dst (N := 84) rfl ?_); refine print_append (w0 := w) B rfl (.tmp 81) (.tmp 83) 30 4 (.bool false) 1 rfl Try.underlying30 infoBool rfl (by decide) vm6 (S.modes.map Value.bool) (.bool fb) rfl rfl rfl HW6.out.h0.hm HB.out HW6.out.h0.base_le (by have := HML.out; rw [List.length_map]; omega) ?_; intro v1 w2 hown hbl hg hat; obtain ⟨A1, k1, ev1⟩ := own_slice hown; obtain ⟨n1, hn1⟩ : ∃ n, (S.modes.map Value.bool ++ [Value.bool fb]).length = n := ⟨_, rfl⟩; rw [hn1] at ev1; clear hn1; subst ev1; have G := Aside0.mk (HW6.out.h0.grow_m (modes' := S.modes ++ [fb]) (by rw [List.map_append]; exact hown) hg); have BX2 := Aside0.mk (blk_grown BX.out hg (own_ne_blk HW6.out.h0.hm BX.out (by decide)).symm); have HA := Aside0.mk HW6.out.ha; have NGX := Aside0.mk (blk_ne BX.out HW6.out.h0.wa (by decide)); clear H HW6 HB BX TS q6 t0 t1 t2 t3 t4 t5 t6 hown hg hat; have HB := Aside0.mk hbl; clear hbl; have c6 : w2.cell? ⟨gw, 6, none⟩ = some vm6 := (blk_cell G.out.wa 6).trans rfl; have f6 := blk_frozen G.out.wa 6))
  have FW : Aside0 (Wr (w2.setCell ⟨gw, 6, none⟩ (.slice A1 n1 k1)) B gw wd S.col (S.pen : Int) S.out (its.map itc) (S.modes ++ [fb])) := ⟨⟨a6, vb6, vr6, _, G.out.set 6 _ rfl, HA.out⟩⟩
  have n2 := Aside0.mk (HB.out.trans (G.out.set_below 6 (.slice A1 n1 k1)))
  have n3 := Aside0.mk (blk_far BX2.out (p := ⟨gw, 6, none⟩) NGX.out (.slice A1 n1 k1))
  clear HB G BX2 c6 f6 HX
  have HB := n2
  have BX := n3
  clear n2 n3
  generalize World.setCell _ _ _ = w7 at FW HB BX ⊢
  have x0 : w7.cell? ⟨gx, 0, none⟩ = some (.pointer (some ⟨g, 0, none⟩)) := (blk_cell BX.out 0).trans rfl
  have x1 : w7.cell? ⟨gx, 1, none⟩ = some (.int .i64 nest) := (blk_cell BX.out 1).trans rfl
  go_wp2_with (first | ((with_reducible refine gate_dst (N := 93) rfl ?_); refine goesL_ (some 93) rfl rfl Try.func44 (by kernel_rfl) rfl #[.pointer (some ⟨gw, 0, none⟩), .pointer (some ⟨g, 0, none⟩), .int .i64 nest, .bool fb] rfl (by (try simp only [List.map_toArray, List.map_cons, List.map_nil]); first | done | rfl) ?_; (refine (push_calls nest fb FW.out (((HB.out.block g HGB.out)).trans HX0.out) HGB.out HGS.out (row_below HR.out HB.out) (Nat.le_trans HN.out (by decide))).mono ?_); (rintro e w9 ⟨rfl, hp, hb⟩; refine ⟨_, rfl, ?_⟩; have n0 := Aside0.mk hp; have n2 := Aside0.mk (HB.out.trans hb); clear FW HB hp hb; have H := n0; have HB := n2; clear n0 n2)))
  go_end0
  have et : takeP wd x nest false (frV its.reverse) S = ({ S with modes := S.modes ++ [fb] }, x.f3, nest, fb) := by rw [takeP, if_neg (by rw [HK.out]; decide), if_neg (by rw [HK.out]; decide), if_pos HK.out, HFB.out]; rw [Bool.false_or]
  rw [et]
  exact ⟨rfl, ⟨_, come_kids nest fb x.f3 gs HGS.out (parts_below HPS.out HB.out), H.out⟩, HB.out⟩
set_option maxHeartbeats 4000000 in
set_option maxRecDepth 100000 in
theorem take_7_true {A : Option Addr} {c : Nat} {gs : List Nat} (h : WrS w B gw wd S its) (hx : w.heap[g]? = some (.cells (pcs x A c) 80 (0, 0))) (hgB : g < B) (hgs : gs.length = x.f3.length) (hrow : RowP w (fun k => k < B) A gs) (hps : PartsAt w (fun k => k < B) x.f3 gs) (hn : its.length + x.f3.length ≤ 2000) (hk : x.f0 = 7) (hpi : ∀ it ∈ its, PartAt w (fun k => k < B) it.x it.g) (hpx : PartAt w (fun k => k < B) x g) (hbd : ∀ it ∈ its, 0 ≤ (ldV it.x).1 ∧ (ldV it.x).1 ≤ 100000000) (hwd : 0 ≤ wd) (hc : 0 ≤ S.col ∧ 0 ≤ wdV x ∧ S.col + wdV x ≤ 1000000000000) (hml : S.modes.length ≤ 1000000) : TakeAt w B gw g wd nest true S its x := by
  have hu78 := Try.underlying78
  have hu30 := Try.underlying30
  have hu57 := Try.underlying57
  have hu80 := Try.underlying80
  have hu68 := Try.underlying68
  have H := Aside0.mk (show Wr w B gw wd S.col (S.pen : Int) S.out (its.map itc) S.modes from h)
  have HX := Aside0.mk hx
  have HGB := Aside0.mk hgB
  have HGS := Aside0.mk hgs
  have HR := Aside0.mk hrow
  have HPS := Aside0.mk hps
  have HN := Aside0.mk hn
  clear h hx hgB hgs hrow hps hn
  have HK := Aside0.mk hk
  have HPI := Aside0.mk hpi
  have HPX := Aside0.mk hpx
  have HBD := Aside0.mk hbd
  have HWD := Aside0.mk hwd
  have HC := Aside0.mk hc
  have HML := Aside0.mk hml
  have HX0 := HX
  obtain ⟨fb, hfb⟩ : ∃ b, fitB x wd S.col (frV its.reverse) = b := ⟨_, rfl⟩
  have HFB := Aside0.mk hfb
  clear hk hpi hpx hbd hwd hc hml hfb
  unfold TakeAt XA
  go_enter Try.func34, Try.ntmps34
  go_upto_region 15 with (first | ((with_reducible refine gate_dst (N := 3) rfl ?_); (try (refine gate_guard (by rfl) ?_; dsimp only)); refine box_event ?hg (N := 3) ?hd (cs := #[.pointer (some ⟨g, 0, none⟩), .int .i64 nest, .bool true]) (t := 68) ?hr ?_; (case hd => rfl); (case hg => rfl); (case hr => first | (go_simp; done) | (go_simp; rfl)); intro gx hg w3 hbox hb; have TS := Aside0.mk (takS_of hbox (blk_below HX.out hb)); have n0 := Aside0.mk (H.out.below hb); have HB := Aside0.mk (hb.mono H.out.base_le); have HX3 := Aside0.mk (blk_below HX.out hb); have BX := Aside0.mk hbox; clear H HX hb hg hbox; have H := n0; have HX := HX3; clear n0 HX3; obtain ⟨t0, t1, t2, t3, t4, t5, t6, _⟩ := TS.out; rw [HK.out] at t3; obtain ⟨a6, vb6, vr6, vm6, hw6, _, _, _, _, q6⟩ := H.out.open_; have HW6 := Aside0.mk hw6; clear hw6) | ((with_reducible refine gate_dst (N := 84) rfl ?_); refine print_append (w0 := w) B rfl (.tmp 81) (.tmp 83) 30 4 (.bool false) 1 rfl Try.underlying30 infoBool rfl (by decide) vm6 (S.modes.map Value.bool) (.bool true) rfl rfl rfl HW6.out.h0.hm HB.out HW6.out.h0.base_le (by have := HML.out; rw [List.length_map]; omega) ?_; intro v1 w2 hown hbl hg hat; obtain ⟨A1, k1, ev1⟩ := own_slice hown; obtain ⟨n1, hn1⟩ : ∃ n, (S.modes.map Value.bool ++ [Value.bool true]).length = n := ⟨_, rfl⟩; rw [hn1] at ev1; clear hn1; subst ev1; have G := Aside0.mk (HW6.out.h0.grow_m (modes' := S.modes ++ [true]) (by rw [List.map_append]; exact hown) hg); have BX2 := Aside0.mk (blk_grown BX.out hg (own_ne_blk HW6.out.h0.hm BX.out (by decide)).symm); have HA := Aside0.mk HW6.out.ha; have NGX := Aside0.mk (blk_ne BX.out HW6.out.h0.wa (by decide)); clear H HW6 HB BX TS q6 t0 t1 t2 t3 t4 t5 t6 hown hg hat; have HB := Aside0.mk hbl; clear hbl; have c6 : w2.cell? ⟨gw, 6, none⟩ = some vm6 := (blk_cell G.out.wa 6).trans rfl; have f6 := blk_frozen G.out.wa 6))
  have FW : Aside0 (Wr (w2.setCell ⟨gw, 6, none⟩ (.slice A1 n1 k1)) B gw wd S.col (S.pen : Int) S.out (its.map itc) (S.modes ++ [true])) := ⟨⟨a6, vb6, vr6, _, G.out.set 6 _ rfl, HA.out⟩⟩
  have n2 := Aside0.mk (HB.out.trans (G.out.set_below 6 (.slice A1 n1 k1)))
  have n3 := Aside0.mk (blk_far BX2.out (p := ⟨gw, 6, none⟩) NGX.out (.slice A1 n1 k1))
  clear HB G BX2 c6 f6 HX
  have HB := n2
  have BX := n3
  clear n2 n3
  generalize World.setCell _ _ _ = w7 at FW HB BX ⊢
  have x0 : w7.cell? ⟨gx, 0, none⟩ = some (.pointer (some ⟨g, 0, none⟩)) := (blk_cell BX.out 0).trans rfl
  have x1 : w7.cell? ⟨gx, 1, none⟩ = some (.int .i64 nest) := (blk_cell BX.out 1).trans rfl
  go_wp2_with (first | ((with_reducible refine gate_dst (N := 93) rfl ?_); refine goesL_ (some 93) rfl rfl Try.func44 (by kernel_rfl) rfl #[.pointer (some ⟨gw, 0, none⟩), .pointer (some ⟨g, 0, none⟩), .int .i64 nest, .bool true] rfl (by (try simp only [List.map_toArray, List.map_cons, List.map_nil]); first | done | rfl) ?_; (refine (push_calls nest true FW.out (((HB.out.block g HGB.out)).trans HX0.out) HGB.out HGS.out (row_below HR.out HB.out) (Nat.le_trans HN.out (by decide))).mono ?_); (rintro e w9 ⟨rfl, hp, hb⟩; refine ⟨_, rfl, ?_⟩; have n0 := Aside0.mk hp; have n2 := Aside0.mk (HB.out.trans hb); clear FW HB hp hb; have H := n0; have HB := n2; clear n0 n2)))
  go_end0
  have et : takeP wd x nest true (frV its.reverse) S = ({ S with modes := S.modes ++ [true] }, x.f3, nest, true) := by rw [takeP, if_neg (by rw [HK.out]; decide), if_neg (by rw [HK.out]; decide), if_pos HK.out, HFB.out]; rw [Bool.true_or]
  rw [et]
  exact ⟨rfl, ⟨_, come_kids nest true x.f3 gs HGS.out (parts_below HPS.out HB.out), H.out⟩, HB.out⟩
set_option maxHeartbeats 4000000 in
set_option maxRecDepth 100000 in
theorem take_5 {A : Option Addr} {c : Nat} {gs : List Nat} (h : WrS w B gw wd S its) (hx : w.heap[g]? = some (.cells (pcs x A c) 80 (0, 0))) (hgB : g < B) (hgs : gs.length = x.f3.length) (hrow : RowP w (fun k => k < B) A gs) (hps : PartsAt w (fun k => k < B) x.f3 gs) (hn : its.length + x.f3.length ≤ 2000) (hk : x.f0 = 5) (hnn : 0 ≤ nest + x.f1 ∧ nest + x.f1 ≤ 1000000000) : TakeAt w B gw g wd nest flat S its x := by
  have hu78 := Try.underlying78
  have hu57 := Try.underlying57
  have hu80 := Try.underlying80
  have hu68 := Try.underlying68
  have H := Aside0.mk (show Wr w B gw wd S.col (S.pen : Int) S.out (its.map itc) S.modes from h)
  have HX := Aside0.mk hx
  have HGB := Aside0.mk hgB
  have HGS := Aside0.mk hgs
  have HR := Aside0.mk hrow
  have HPS := Aside0.mk hps
  have HN := Aside0.mk hn
  clear h hx hgB hgs hrow hps hn
  have HK := Aside0.mk hk
  have HX0 := HX
  have EN : Aside0 (wrap64 (nest + x.f1) = nest + x.f1) := ⟨by unfold wrap64; omega⟩
  clear hk hnn
  unfold TakeAt XA
  go_enter Try.func34, Try.ntmps34
  go_upto_region 2 with (first | ((with_reducible refine gate_dst (N := 3) rfl ?_); (try (refine gate_guard (by rfl) ?_; dsimp only)); refine box_event ?hg (N := 3) ?hd (cs := #[.pointer (some ⟨g, 0, none⟩), .int .i64 nest, .bool flat]) (t := 68) ?hr ?_; (case hd => rfl); (case hg => rfl); (case hr => first | (go_simp; done) | (go_simp; rfl)); intro gx hg w3 hbox hb; have TS := Aside0.mk (takS_of hbox (blk_below HX.out hb)); have n0 := Aside0.mk (H.out.below hb); have HB := Aside0.mk (hb.mono H.out.base_le); have HX3 := Aside0.mk (blk_below HX.out hb); have BX := Aside0.mk hbox; clear H HX hb hg hbox; have H := n0; have HX := HX3; clear n0 HX3; obtain ⟨t0, t1, t2, t3, t4, t5, t6, _⟩ := TS.out; rw [HK.out] at t3))
  have n0 := Aside0.mk (H.out.below (below_drew1 (Below.refl _ _)))
  have n1 := Aside0.mk (TS.out.below (below_drew1 (Below.refl _ _)))
  have n2 := Aside0.mk (HB.out.trans (((below_drew1 (Below.refl _ _))).mono H.out.base_le))
  clear H TS HB t0 t1 t2 t3 t4 t5 t6
  have H := n0
  have TS := n1
  have HB := n2
  clear n0 n1 n2
  refine start_ (n := 14) (S := takS gx g nest flat x (wdV x)) (ds := [13]) #[false, false, false, false, false, false, false, false, false, false, false, false, false, false] (by kernel_rfl) rfl rfl (TS.out) (fun hHeld => ?_)
  generalize World.drew _ = w500 at H HB TS hHeld ⊢
  clear TS
  refine pure_ (i := 0) (N := some 10) (bt 14 1) rfl rfl (any_of F34tab2 (by kernel_rfl)) (fun _ _ _ h => h) (Or.inl ⟨by rfl, by intro w'; go_simp; with_reducible rfl⟩) (by simp only [Act.put, pset]; rfl) ?_
  refine pure_ (i := 1) (N := some 11) (bt 14 3) rfl rfl (any_of F34tab2 (by kernel_rfl)) (fun _ _ _ h => h) (Or.inl ⟨by rfl, by intro w'; go_simp; with_reducible rfl⟩) (by simp only [Act.put, pset]; rfl) ?_
  refine take_ (i := 2) (N := some 12) (bt 14 7) rfl rfl (take_of F34tab2 (by kernel_rfl)) (fun _ _ _ h => h) (Or.inl ⟨by rfl, by rintro w' ⟨s0, s1, s2, s3, s4, s5, s6, s7⟩; go_simp; with_reducible rfl⟩) hHeld (by simp only [Act.put, pset]; rfl) ?_
  refine pure_ (i := 3) (N := some 13) (bt 14 15) rfl rfl (any_of F34tab2 (by kernel_rfl)) (fun _ _ _ h => h) (Or.inl ⟨by rfl, by intro w'; go_simp; with_reducible rfl⟩) (by simp only [Act.put, pset]; rfl) ?_
  refine take_ (i := 4) (N := some 14) (bt 14 31) rfl rfl (take_of F34tab2 (by kernel_rfl)) (fun _ _ _ h => h) (Or.inl ⟨by rfl, by rintro w' ⟨s0, s1, s2, s3, s4, s5, s6, s7⟩; go_simp; with_reducible rfl⟩) hHeld (by simp only [Act.put, pset]; rfl) ?_
  refine pure_ (i := 5) (N := some 15) (bt 14 63) rfl rfl (any_of F34tab2 (by kernel_rfl)) (fun _ _ _ h => h) (Or.inl ⟨by rfl, by intro w'; go_simp; with_reducible rfl⟩) (by simp only [Act.put, pset]; rfl) ?_
  refine take_ (i := 6) (N := some 16) (bt 14 127) rfl rfl (take_of F34tab2 (by kernel_rfl)) (fun _ _ _ h => h) (Or.inl ⟨by rfl, by rintro w' ⟨s0, s1, s2, s3, s4, s5, s6, s7⟩; go_simp; with_reducible rfl⟩) hHeld (by simp only [Act.put, pset]; rfl) ?_
  refine pure_ (i := 7) (N := some 17) (bt 14 255) rfl rfl (any_of F34tab2 (by kernel_rfl)) (fun _ _ _ h => h) (Or.inl ⟨by rfl, by intro w'; go_simp; with_reducible rfl⟩) (by simp only [Act.put, pset]; rfl) ?_
  refine pure_ (i := 8) (N := some 18) (bt 14 511) rfl rfl (any_of F34tab2 (by kernel_rfl)) (fun _ _ _ h => h) (Or.inl ⟨by rfl, by intro w'; go_simp; with_reducible rfl⟩) (by simp only [Act.put, pset]; rfl) ?_
  refine take_ (i := 9) (N := some 19) (bt 14 1023) rfl rfl (take_of F34tab2 (by kernel_rfl)) (fun _ _ _ h => h) (Or.inl ⟨by rfl, by rintro w' ⟨s0, s1, s2, s3, s4, s5, s6, s7⟩; go_simp; with_reducible rfl⟩) hHeld (by simp only [Act.put, pset]; rfl) ?_
  refine pure_ (i := 10) (N := some 20) (bt 14 2047) rfl rfl (any_of F34tab2 (by kernel_rfl)) (fun _ _ _ h => h) (Or.inl ⟨by rfl, by intro w'; go_simp; with_reducible rfl⟩) (by simp only [Act.put, pset]; rfl) ?_
  refine pure_ (i := 11) (N := some 21) (bt 14 4095) rfl rfl (any_of F34tab2 (by kernel_rfl)) (fun _ _ _ h => h) (Or.inl ⟨by rfl, by intro w'; go_simp; with_reducible rfl⟩) (by simp only [Act.put, pset]; rfl) ?_
  refine take_ (i := 12) (N := some 22) (bt 14 8191) rfl rfl (take_of F34tab2 (by kernel_rfl)) (fun _ _ _ h => h) (Or.inl ⟨by rfl, by rintro w' ⟨s0, s1, s2, s3, s4, s5, s6, s7⟩; go_simp; with_reducible rfl⟩) hHeld (by simp only [Act.put, pset]; rfl) ?_
  refine last_ (i := 13) (N := some 23) (bt 14 16383) rfl rfl (one_of F34tab2 (by kernel_rfl)) (by decide) (fun K hK => ?_)
  refine goes_ Try.func44 (by kernel_rfl) rfl #[.pointer (some ⟨gw, 0, none⟩), .pointer (some ⟨g, 0, none⟩), .int .i64 (wrap64 (nest + x.f1)), .bool flat] (by rfl) rfl rfl (by (try simp only [List.map_toArray, List.map_cons, List.map_nil]); first | done | rfl) ?_
  refine (push_calls (wrap64 (nest + x.f1)) flat H.out ((HB.out.block g HGB.out).trans HX0.out) HGB.out HGS.out (row_below HR.out HB.out) (Nat.le_trans HN.out (by decide))).mono ?_
  rintro e w501 ⟨rfl, hp, hb⟩
  refine ⟨_, rfl, ?_⟩
  have n0 := Aside0.mk hp; have n2 := Aside0.mk (HB.out.trans hb); clear H HB hp hb; have H := n0; have HB := n2; clear n0 n2
  refine hK.out _ _ ?_
  clear hK K
  refine norm_ (show Act.put _ (some 23) _ = _ from (by simp only [Act.put, pset]; rfl)) ?_
  refine done_ (done_of F34tab2 (by kernel_rfl)) ?_
  clear hHeld
  go_wp2_with fail
  go_end0
  have et : takeP wd x nest flat (frV its.reverse) S = (S, x.f3, nest + x.f1, flat) := by rw [takeP, if_neg (by rw [HK.out]; decide), if_neg (by rw [HK.out]; decide), if_neg (by rw [HK.out]; decide)]
  rw [et, ← EN.out]
  exact ⟨rfl, ⟨_, come_kids (wrap64 (nest + x.f1)) flat x.f3 gs HGS.out (parts_below HPS.out HB.out), H.out⟩, HB.out⟩
set_option maxHeartbeats 4000000 in
set_option maxRecDepth 100000 in
theorem take_6 {A : Option Addr} {c : Nat} {gs : List Nat} (h : WrS w B gw wd S its) (hx : w.heap[g]? = some (.cells (pcs x A c) 80 (0, 0))) (hgB : g < B) (hgs : gs.length = x.f3.length) (hrow : RowP w (fun k => k < B) A gs) (hps : PartsAt w (fun k => k < B) x.f3 gs) (hn : its.length + x.f3.length ≤ 2000) (hk : x.f0 = 6) (hnn : 0 ≤ nest + x.f1 ∧ nest + x.f1 ≤ 1000000000) : TakeAt w B gw g wd nest flat S its x := by
  have hu78 := Try.underlying78
  have hu57 := Try.underlying57
  have hu80 := Try.underlying80
  have hu68 := Try.underlying68
  have H := Aside0.mk (show Wr w B gw wd S.col (S.pen : Int) S.out (its.map itc) S.modes from h)
  have HX := Aside0.mk hx
  have HGB := Aside0.mk hgB
  have HGS := Aside0.mk hgs
  have HR := Aside0.mk hrow
  have HPS := Aside0.mk hps
  have HN := Aside0.mk hn
  clear h hx hgB hgs hrow hps hn
  have HK := Aside0.mk hk
  have HX0 := HX
  have EN : Aside0 (wrap64 (nest + x.f1) = nest + x.f1) := ⟨by unfold wrap64; omega⟩
  clear hk hnn
  unfold TakeAt XA
  go_enter Try.func34, Try.ntmps34
  go_upto_region 2 with (first | ((with_reducible refine gate_dst (N := 3) rfl ?_); (try (refine gate_guard (by rfl) ?_; dsimp only)); refine box_event ?hg (N := 3) ?hd (cs := #[.pointer (some ⟨g, 0, none⟩), .int .i64 nest, .bool flat]) (t := 68) ?hr ?_; (case hd => rfl); (case hg => rfl); (case hr => first | (go_simp; done) | (go_simp; rfl)); intro gx hg w3 hbox hb; have TS := Aside0.mk (takS_of hbox (blk_below HX.out hb)); have n0 := Aside0.mk (H.out.below hb); have HB := Aside0.mk (hb.mono H.out.base_le); have HX3 := Aside0.mk (blk_below HX.out hb); have BX := Aside0.mk hbox; clear H HX hb hg hbox; have H := n0; have HX := HX3; clear n0 HX3; obtain ⟨t0, t1, t2, t3, t4, t5, t6, _⟩ := TS.out; rw [HK.out] at t3))
  have n0 := Aside0.mk (H.out.below (below_drew1 (Below.refl _ _)))
  have n1 := Aside0.mk (TS.out.below (below_drew1 (Below.refl _ _)))
  have n2 := Aside0.mk (HB.out.trans (((below_drew1 (Below.refl _ _))).mono H.out.base_le))
  clear H TS HB t0 t1 t2 t3 t4 t5 t6
  have H := n0
  have TS := n1
  have HB := n2
  clear n0 n1 n2
  refine start_ (n := 14) (S := takS gx g nest flat x (wdV x)) (ds := [13]) #[false, false, false, false, false, false, false, false, false, false, false, false, false, false] (by kernel_rfl) rfl rfl (TS.out) (fun hHeld => ?_)
  generalize World.drew _ = w500 at H HB TS hHeld ⊢
  clear TS
  refine pure_ (i := 0) (N := some 10) (bt 14 1) rfl rfl (any_of F34tab2 (by kernel_rfl)) (fun _ _ _ h => h) (Or.inl ⟨by rfl, by intro w'; go_simp; with_reducible rfl⟩) (by simp only [Act.put, pset]; rfl) ?_
  refine pure_ (i := 1) (N := some 11) (bt 14 3) rfl rfl (any_of F34tab2 (by kernel_rfl)) (fun _ _ _ h => h) (Or.inl ⟨by rfl, by intro w'; go_simp; with_reducible rfl⟩) (by simp only [Act.put, pset]; rfl) ?_
  refine take_ (i := 2) (N := some 12) (bt 14 7) rfl rfl (take_of F34tab2 (by kernel_rfl)) (fun _ _ _ h => h) (Or.inl ⟨by rfl, by rintro w' ⟨s0, s1, s2, s3, s4, s5, s6, s7⟩; go_simp; with_reducible rfl⟩) hHeld (by simp only [Act.put, pset]; rfl) ?_
  refine pure_ (i := 3) (N := some 13) (bt 14 15) rfl rfl (any_of F34tab2 (by kernel_rfl)) (fun _ _ _ h => h) (Or.inl ⟨by rfl, by intro w'; go_simp; with_reducible rfl⟩) (by simp only [Act.put, pset]; rfl) ?_
  refine take_ (i := 4) (N := some 14) (bt 14 31) rfl rfl (take_of F34tab2 (by kernel_rfl)) (fun _ _ _ h => h) (Or.inl ⟨by rfl, by rintro w' ⟨s0, s1, s2, s3, s4, s5, s6, s7⟩; go_simp; with_reducible rfl⟩) hHeld (by simp only [Act.put, pset]; rfl) ?_
  refine pure_ (i := 5) (N := some 15) (bt 14 63) rfl rfl (any_of F34tab2 (by kernel_rfl)) (fun _ _ _ h => h) (Or.inl ⟨by rfl, by intro w'; go_simp; with_reducible rfl⟩) (by simp only [Act.put, pset]; rfl) ?_
  refine take_ (i := 6) (N := some 16) (bt 14 127) rfl rfl (take_of F34tab2 (by kernel_rfl)) (fun _ _ _ h => h) (Or.inl ⟨by rfl, by rintro w' ⟨s0, s1, s2, s3, s4, s5, s6, s7⟩; go_simp; with_reducible rfl⟩) hHeld (by simp only [Act.put, pset]; rfl) ?_
  refine pure_ (i := 7) (N := some 17) (bt 14 255) rfl rfl (any_of F34tab2 (by kernel_rfl)) (fun _ _ _ h => h) (Or.inl ⟨by rfl, by intro w'; go_simp; with_reducible rfl⟩) (by simp only [Act.put, pset]; rfl) ?_
  refine pure_ (i := 8) (N := some 18) (bt 14 511) rfl rfl (any_of F34tab2 (by kernel_rfl)) (fun _ _ _ h => h) (Or.inl ⟨by rfl, by intro w'; go_simp; with_reducible rfl⟩) (by simp only [Act.put, pset]; rfl) ?_
  refine take_ (i := 9) (N := some 19) (bt 14 1023) rfl rfl (take_of F34tab2 (by kernel_rfl)) (fun _ _ _ h => h) (Or.inl ⟨by rfl, by rintro w' ⟨s0, s1, s2, s3, s4, s5, s6, s7⟩; go_simp; with_reducible rfl⟩) hHeld (by simp only [Act.put, pset]; rfl) ?_
  refine pure_ (i := 10) (N := some 20) (bt 14 2047) rfl rfl (any_of F34tab2 (by kernel_rfl)) (fun _ _ _ h => h) (Or.inl ⟨by rfl, by intro w'; go_simp; with_reducible rfl⟩) (by simp only [Act.put, pset]; rfl) ?_
  refine pure_ (i := 11) (N := some 21) (bt 14 4095) rfl rfl (any_of F34tab2 (by kernel_rfl)) (fun _ _ _ h => h) (Or.inl ⟨by rfl, by intro w'; go_simp; with_reducible rfl⟩) (by simp only [Act.put, pset]; rfl) ?_
  refine take_ (i := 12) (N := some 22) (bt 14 8191) rfl rfl (take_of F34tab2 (by kernel_rfl)) (fun _ _ _ h => h) (Or.inl ⟨by rfl, by rintro w' ⟨s0, s1, s2, s3, s4, s5, s6, s7⟩; go_simp; with_reducible rfl⟩) hHeld (by simp only [Act.put, pset]; rfl) ?_
  refine last_ (i := 13) (N := some 23) (bt 14 16383) rfl rfl (one_of F34tab2 (by kernel_rfl)) (by decide) (fun K hK => ?_)
  refine goes_ Try.func44 (by kernel_rfl) rfl #[.pointer (some ⟨gw, 0, none⟩), .pointer (some ⟨g, 0, none⟩), .int .i64 (wrap64 (nest + x.f1)), .bool flat] (by rfl) rfl rfl (by (try simp only [List.map_toArray, List.map_cons, List.map_nil]); first | done | rfl) ?_
  refine (push_calls (wrap64 (nest + x.f1)) flat H.out ((HB.out.block g HGB.out).trans HX0.out) HGB.out HGS.out (row_below HR.out HB.out) (Nat.le_trans HN.out (by decide))).mono ?_
  rintro e w501 ⟨rfl, hp, hb⟩
  refine ⟨_, rfl, ?_⟩
  have n0 := Aside0.mk hp; have n2 := Aside0.mk (HB.out.trans hb); clear H HB hp hb; have H := n0; have HB := n2; clear n0 n2
  refine hK.out _ _ ?_
  clear hK K
  refine norm_ (show Act.put _ (some 23) _ = _ from (by simp only [Act.put, pset]; rfl)) ?_
  refine done_ (done_of F34tab2 (by kernel_rfl)) ?_
  clear hHeld
  go_wp2_with fail
  go_end0
  have et : takeP wd x nest flat (frV its.reverse) S = (S, x.f3, nest + x.f1, flat) := by rw [takeP, if_neg (by rw [HK.out]; decide), if_neg (by rw [HK.out]; decide), if_neg (by rw [HK.out]; decide)]
  rw [et, ← EN.out]
  exact ⟨rfl, ⟨_, come_kids (wrap64 (nest + x.f1)) flat x.f3 gs HGS.out (parts_below HPS.out HB.out), H.out⟩, HB.out⟩
end
end Go.Proofs.Ytigihiggpfjbjaa.PR
