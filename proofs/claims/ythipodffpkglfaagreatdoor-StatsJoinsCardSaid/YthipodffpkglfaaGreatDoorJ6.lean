/- Words and walks that the law leans on: HS4, HS5, HS6, HS7, HS8, HS9, HS10. Conditions: none. -/
import Derived.Test.YthipodffpkglfaaGreatDoorJ4
import Derived.Test.YthipodffpkglfaaGreatDoorJ5
namespace Go.Proofs.YthipodffpkglfaaGreatDoor.PS
open Go.RowKit Go.Proofs.YthipodffpkglfaaGreatDoorW.PrintWords Go.Proofs.YthipodffpkglfaaGreatDoorW.PrintLast Go.Proofs.YthipodffpkglfaaGreatDoorW.PrintMore
set_option linter.unusedVariables false
set_option linter.unusedSimpArgs false
section
variable {w w' : World} {s : ByteArray} {x : Tk}
set_option maxHeartbeats 2000000 in
theorem in_calls (h : inT s x) (hs : s.size ≤ 1000000) : Calls Tryz.prog 129 #[.string s, .agg (tkc x)] w fun e w' => e = .returned (.bool true) ∧ Below w.heap.size w w' := by
  have hu86 := Tryz.underlying86
  obtain ⟨h1, h2⟩ := h
  have b1 : decide (0 ≤ x.a) = true := decide_eq_true h1
  have b2 : x.a ≤ (s.size : Int) := by omega
  have b3 : wrap64 ((s.size : Int) - x.a) = (s.size : Int) - x.a := by unfold wrap64; omega
  have b4 : (x.t.size : Int) ≤ (s.size : Int) - x.a := by omega
  unfold tkc
  go_enter Tryz.func129, Tryz.ntmps129
  go_wp2_with (first | ((with_reducible refine gate_dst (N := 3) rfl ?_); (try (refine gate_guard (by rfl) ?_; dsimp only)); refine box_event ?hg (N := 3) ?hd (cs := #[.int .i64 x.k, .string x.t, .int .i64 x.a]) (t := 86) ?hr ?_; (case hd => rfl); (case hg => rfl); (case hr => first | (go_simp; done) | (go_simp; rfl)); intro gb hg w3 hbox hb; have HB := Aside0.mk hb; have z1 : w3.cell? ⟨gb, 1, none⟩ = some (.string x.t) := (blk_cell hbox 1).trans rfl; have z2 : w3.cell? ⟨gb, 2, none⟩ = some (.int .i64 x.a) := (blk_cell hbox 2).trans rfl; clear hb hbox hg))
  go_ret
  exact ⟨by first | rfl | (simp [*]; done), HB.out⟩
theorem nl_calls (b : Int) (g : Nat) (n : Int) (hb : w.heap[g]? = some (.cells #[.int .i64 n] 3 (0, 0))) : Calls Tryz.prog 130 #[.int .u8 b, .pointer (some ⟨g, 0, none⟩)] w fun e w' => e = .returned (.tuple #[]) ∧ w' = if b = 10 then w.setCell ⟨g, 0, none⟩ (.int .i64 (wrap64 (n + 1))) else w := by
  have c0 : w.cell? ⟨g, 0, none⟩ = some (.int .i64 n) := (blk_cell hb 0).trans rfl
  have f0 := blk_frozen hb 0
  clear hb
  by_cases e : b = 10
  · have e1 : (b == 10) = true := by rw [e]; rfl
    rw [if_pos e]
    clear e
    go_enter Tryz.func130, Tryz.ntmps130
    go_wp2_with fail
    go_end0
    exact ⟨rfl, rfl⟩
  · have e1 : (b == 10) = false := beq_eq_false_iff_ne.2 e
    rw [if_neg e]
    clear e
    go_enter Tryz.func130, Tryz.ntmps130
    go_wp2_with fail
    go_end0
    exact ⟨rfl, rfl⟩
end
end Go.Proofs.YthipodffpkglfaaGreatDoor.PS
namespace Go.Proofs.YthipodffpkglfaaGreatDoor.PS
open Go.RowKit Go.Proofs.YthipodffpkglfaaGreatDoorW.PrintWords Go.Proofs.YthipodffpkglfaaGreatDoorW.PrintLast Go.Proofs.YthipodffpkglfaaGreatDoorW.PrintMore
set_option linter.unusedVariables false
set_option linter.unusedSimpArgs false
theorem F100tab1 : rtab .any (opsOf Tryz.f100 1) = (true, [([], []), ([0], [0]), ([1], [1]), ([2], [2]), ([2], [2]), ([4, 2], [2, 4]), ([3, 5, 2], [2, 3, 5]), ([2, 6], [2, 6]), ([7, 2], [7]), ([8], [8]), ([8], [8]), ([8], [8]), ([11, 8], [8, 11]), ([10, 12, 8], [8, 10, 12]), ([13, 8], [8, 13]), ([9, 14, 8, 8], [8, 9, 14]), ([15, 8], [8, 15]), ([8, 16], [8, 16]), ([17, 15], [17]), ([18], [18]), ([18], [18]), ([18], [18]), ([20, 21, 18], [18, 20, 21]), ([22, 18], [18, 22]), ([19, 23, 18, 18], [18, 19, 23]), ([24, 18], [18, 24]), ([18, 25], [18, 25]), ([26, 24], [26]), ([27], [27]), ([27], [27]), ([29, 27], [27, 29]), ([28, 30, 27], [27, 28, 30]), ([31, 27], [27, 31]), ([32, 27, 27], [27, 32]), ([27], [27]), ([27], [27]), ([34, 35, 27], [27, 34, 35]), ([36, 27], [27, 36]), ([37, 27], [27, 37]), ([33, 38, 27], [27, 33, 38]), ([27, 39], [27, 39])]) := by kernel_rfl
def endS (ad : Addr) (j : Nat) (x y : Tk) (w' : World) : Prop := w'.cell? (ad.add (j * 3)) = some (.int .i64 x.k) ∧ w'.cell? ⟨(ad.add (j * 3)).block, (ad.add (j * 3)).off + 1, none⟩ = some (.string x.t) ∧ w'.cell? ⟨(ad.add (j * 3)).block, (ad.add (j * 3)).off + 2, none⟩ = some (.int .i64 x.a) ∧ w'.cell? (ad.add ((j + 1) * 3)) = some (.int .i64 y.k) ∧ w'.cell? ⟨(ad.add ((j + 1) * 3)).block, (ad.add ((j + 1) * 3)).off + 1, none⟩ = some (.string y.t) ∧ w'.cell? ⟨(ad.add ((j + 1) * 3)).block, (ad.add ((j + 1) * 3)).off + 2, none⟩ = some (.int .i64 y.a) ∧ True
theorem end_of (x : Tk) (e : Int) (w : World) (h : wrap64 (x.a + (x.t.size : Int)) = e) : Calls Tryz.prog 101 #[.agg #[.int .i64 x.k, .string x.t, .int .i64 x.a]] w fun r w' => r = .returned (.int .i64 e) ∧ Below w.heap.size w w' :=
  gap_End.calls x.k x.t x.a e w (by rw [← h]; rfl)
section
variable {wD w w' : World} {s : ByteArray} {A : Option Addr} {l : List Tk} {c : Nat}
set_option maxHeartbeats 4000000 in
set_option maxRecDepth 100000 in
theorem ends_first (n : Nat) : Calls Tryz.prog 100 #[.string s, .slice A n c, .int .i64 0] w fun r w' => r = .returned (.int .i64 0) ∧ Below w.heap.size w w' := by
  have hu56 := Tryz.underlying56
  have hu86 := Tryz.underlying86
  have HB := Aside0.mk (show Below w.heap.size w w.drew from below_drew1 (Below.refl _ _))
  go_enter Tryz.func100, Tryz.ntmps100
  go_upto_region 1 with (fail)
  refine start_ (n := 41) (S := fun _ => True) (ds := []) (bt 41 0) (by kernel_rfl) rfl (by kernel_rfl) (trivial) (fun hHeld => ?_)
  generalize World.drew _ = w500 at HB hHeld ⊢
  refine pure_ (i := 0) (N := some 10) (bt 41 1) rfl rfl (any_of F100tab1 (by kernel_rfl)) (fun _ _ _ h => h) (Or.inl ⟨by rfl, by intro w'; go_simp; with_reducible rfl⟩) (by simp only [Act.put, pset]; rfl) ?_
  refine pure_ (i := 1) (N := some 11) (bt 41 3) rfl rfl (any_of F100tab1 (by kernel_rfl)) (fun _ _ _ h => h) (Or.inl ⟨by rfl, by intro w'; go_simp; with_reducible rfl⟩) (by simp only [Act.put, pset]; rfl) ?_
  refine pure_ (i := 2) (N := some 12) (bt 41 7) rfl rfl (any_of F100tab1 (by kernel_rfl)) (fun _ _ _ h => h) (Or.inl ⟨by rfl, by intro w'; go_simp; with_reducible rfl⟩) (by simp only [Act.put, pset]; rfl) ?_
  refine pure_ (i := 3) (N := some 13) (v := undef) (bt 41 15) rfl rfl (any_of F100tab1 (by kernel_rfl)) (fun _ _ _ h => h) (Or.inr ⟨by rfl, rfl⟩) (by simp only [Act.put, pset]; rfl) ?_
  refine pure_ (i := 4) (N := some 14) (v := undef) (bt 41 31) rfl rfl (any_of F100tab1 (by kernel_rfl)) (fun _ _ _ h => h) (Or.inr ⟨by rfl, rfl⟩) (by simp only [Act.put, pset]; rfl) ?_
  refine pure_ (i := 5) (N := some 15) (v := undef) (bt 41 63) rfl rfl (any_of F100tab1 (by kernel_rfl)) (fun _ _ _ h => h) (Or.inr ⟨by rfl, rfl⟩) (by simp only [Act.put, pset]; rfl) ?_
  refine pure_ (i := 6) (N := some 16) (v := undef) (bt 41 127) rfl rfl (any_of F100tab1 (by kernel_rfl)) (fun _ _ _ h => h) (Or.inr ⟨by rfl, rfl⟩) (by simp only [Act.put, pset]; rfl) ?_
  refine pure_ (i := 7) (N := some 17) (bt 41 255) rfl rfl (any_of F100tab1 (by kernel_rfl)) (fun _ _ _ h => h) (Or.inl ⟨by rfl, by intro w'; go_simp; with_reducible rfl⟩) (by simp only [Act.put, pset]; rfl) ?_
  refine pure_ (i := 8) (N := some 18) (bt 41 511) rfl rfl (any_of F100tab1 (by kernel_rfl)) (fun _ _ _ h => h) (Or.inl ⟨by rfl, by intro w'; go_simp; with_reducible rfl⟩) (by simp only [Act.put, pset]; rfl) ?_
  refine pure_ (i := 9) (N := some 19) (v := undef) (bt 41 1023) rfl rfl (any_of F100tab1 (by kernel_rfl)) (fun _ _ _ h => h) (Or.inr ⟨by rfl, rfl⟩) (by simp only [Act.put, pset]; rfl) ?_
  refine pure_ (i := 10) (N := some 20) (v := undef) (bt 41 2047) rfl rfl (any_of F100tab1 (by kernel_rfl)) (fun _ _ _ h => h) (Or.inr ⟨by rfl, rfl⟩) (by simp only [Act.put, pset]; rfl) ?_
  refine pure_ (i := 11) (N := some 21) (v := undef) (bt 41 4095) rfl rfl (any_of F100tab1 (by kernel_rfl)) (fun _ _ _ h => h) (Or.inr ⟨by rfl, rfl⟩) (by simp only [Act.put, pset]; rfl) ?_
  refine pure_ (i := 12) (N := some 22) (v := undef) (bt 41 8191) rfl rfl (any_of F100tab1 (by kernel_rfl)) (fun _ _ _ h => h) (Or.inr ⟨by rfl, rfl⟩) (by simp only [Act.put, pset]; rfl) ?_
  refine pure_ (i := 13) (N := some 23) (v := undef) (bt 41 16383) rfl rfl (any_of F100tab1 (by kernel_rfl)) (fun _ _ _ h => h) (Or.inr ⟨by rfl, rfl⟩) (by simp only [Act.put, pset]; rfl) ?_
  refine pure_ (i := 14) (N := some 24) (v := undef) (bt 41 32767) rfl rfl (any_of F100tab1 (by kernel_rfl)) (fun _ _ _ h => h) (Or.inr ⟨by rfl, rfl⟩) (by simp only [Act.put, pset]; rfl) ?_
  refine pure_ (i := 15) (N := some 25) (v := undef) (bt 41 65535) rfl rfl (any_of F100tab1 (by kernel_rfl)) (fun _ _ _ h => h) (Or.inr ⟨by rfl, rfl⟩) (by simp only [Act.put, pset]; rfl) ?_
  refine pure_ (i := 16) (N := some 26) (v := undef) (bt 41 131071) rfl rfl (any_of F100tab1 (by kernel_rfl)) (fun _ _ _ h => h) (Or.inr ⟨by rfl, rfl⟩) (by simp only [Act.put, pset]; rfl) ?_
  refine pure_ (i := 17) (N := some 27) (bt 41 262143) rfl rfl (any_of F100tab1 (by kernel_rfl)) (fun _ _ _ h => h) (Or.inl ⟨by rfl, by intro w'; go_simp; with_reducible rfl⟩) (by simp only [Act.put, pset]; rfl) ?_
  refine pure_ (i := 18) (N := some 28) (bt 41 524287) rfl rfl (any_of F100tab1 (by kernel_rfl)) (fun _ _ _ h => h) (Or.inl ⟨by rfl, by intro w'; go_simp; with_reducible rfl⟩) (by simp only [Act.put, pset]; rfl) ?_
  refine pure_ (i := 19) (N := some 29) (v := undef) (bt 41 1048575) rfl rfl (any_of F100tab1 (by kernel_rfl)) (fun _ _ _ h => h) (Or.inr ⟨by rfl, rfl⟩) (by simp only [Act.put, pset]; rfl) ?_
  refine pure_ (i := 20) (N := some 30) (v := undef) (bt 41 2097151) rfl rfl (any_of F100tab1 (by kernel_rfl)) (fun _ _ _ h => h) (Or.inr ⟨by rfl, rfl⟩) (by simp only [Act.put, pset]; rfl) ?_
  refine pure_ (i := 21) (N := some 31) (v := undef) (bt 41 4194303) rfl rfl (any_of F100tab1 (by kernel_rfl)) (fun _ _ _ h => h) (Or.inr ⟨by rfl, rfl⟩) (by simp only [Act.put, pset]; rfl) ?_
  refine pure_ (i := 22) (N := some 32) (v := undef) (bt 41 8388607) rfl rfl (any_of F100tab1 (by kernel_rfl)) (fun _ _ _ h => h) (Or.inr ⟨by rfl, rfl⟩) (by simp only [Act.put, pset]; rfl) ?_
  refine pure_ (i := 23) (N := some 33) (v := undef) (bt 41 16777215) rfl rfl (any_of F100tab1 (by kernel_rfl)) (fun _ _ _ h => h) (Or.inr ⟨by rfl, rfl⟩) (by simp only [Act.put, pset]; rfl) ?_
  refine pure_ (i := 24) (N := some 34) (v := undef) (bt 41 33554431) rfl rfl (any_of F100tab1 (by kernel_rfl)) (fun _ _ _ h => h) (Or.inr ⟨by rfl, rfl⟩) (by simp only [Act.put, pset]; rfl) ?_
  refine pure_ (i := 25) (N := some 35) (v := undef) (bt 41 67108863) rfl rfl (any_of F100tab1 (by kernel_rfl)) (fun _ _ _ h => h) (Or.inr ⟨by rfl, rfl⟩) (by simp only [Act.put, pset]; rfl) ?_
  refine pure_ (i := 26) (N := some 36) (bt 41 134217727) rfl rfl (any_of F100tab1 (by kernel_rfl)) (fun _ _ _ h => h) (Or.inl ⟨by rfl, by intro w'; go_simp; with_reducible rfl⟩) (by simp only [Act.put, pset]; rfl) ?_
  refine pure_ (i := 27) (N := some 37) (bt 41 268435455) rfl rfl (any_of F100tab1 (by kernel_rfl)) (fun _ _ _ h => h) (Or.inl ⟨by rfl, by intro w'; go_simp; with_reducible rfl⟩) (by simp only [Act.put, pset]; rfl) ?_
  refine pure_ (i := 28) (N := some 38) (v := undef) (bt 41 536870911) rfl rfl (any_of F100tab1 (by kernel_rfl)) (fun _ _ _ h => h) (Or.inr ⟨by rfl, rfl⟩) (by simp only [Act.put, pset]; rfl) ?_
  refine pure_ (i := 29) (N := some 39) (v := undef) (bt 41 1073741823) rfl rfl (any_of F100tab1 (by kernel_rfl)) (fun _ _ _ h => h) (Or.inr ⟨by rfl, rfl⟩) (by simp only [Act.put, pset]; rfl) ?_
  refine pure_ (i := 30) (N := some 40) (v := undef) (bt 41 2147483647) rfl rfl (any_of F100tab1 (by kernel_rfl)) (fun _ _ _ h => h) (Or.inr ⟨by rfl, rfl⟩) (by simp only [Act.put, pset]; rfl) ?_
  refine pure_ (i := 31) (N := some 41) (v := undef) (bt 41 4294967295) rfl rfl (any_of F100tab1 (by kernel_rfl)) (fun _ _ _ h => h) (Or.inr ⟨by rfl, rfl⟩) (by simp only [Act.put, pset]; rfl) ?_
  refine pure_ (i := 32) (N := some 42) (v := undef) (bt 41 8589934591) rfl rfl (any_of F100tab1 (by kernel_rfl)) (fun _ _ _ h => h) (Or.inr ⟨by rfl, rfl⟩) (by simp only [Act.put, pset]; rfl) ?_
  refine pure_ (i := 33) (N := some 43) (v := undef) (bt 41 17179869183) rfl rfl (any_of F100tab1 (by kernel_rfl)) (fun _ _ _ h => h) (Or.inr ⟨by rfl, rfl⟩) (by simp only [Act.put, pset]; rfl) ?_
  refine pure_ (i := 34) (N := some 44) (v := undef) (bt 41 34359738367) rfl rfl (any_of F100tab1 (by kernel_rfl)) (fun _ _ _ h => h) (Or.inr ⟨by rfl, rfl⟩) (by simp only [Act.put, pset]; rfl) ?_
  refine pure_ (i := 35) (N := some 45) (v := undef) (bt 41 68719476735) rfl rfl (any_of F100tab1 (by kernel_rfl)) (fun _ _ _ h => h) (Or.inr ⟨by rfl, rfl⟩) (by simp only [Act.put, pset]; rfl) ?_
  refine pure_ (i := 36) (N := some 46) (v := undef) (bt 41 137438953471) rfl rfl (any_of F100tab1 (by kernel_rfl)) (fun _ _ _ h => h) (Or.inr ⟨by rfl, rfl⟩) (by simp only [Act.put, pset]; rfl) ?_
  refine pure_ (i := 37) (N := some 47) (v := undef) (bt 41 274877906943) rfl rfl (any_of F100tab1 (by kernel_rfl)) (fun _ _ _ h => h) (Or.inr ⟨by rfl, rfl⟩) (by simp only [Act.put, pset]; rfl) ?_
  refine pure_ (i := 38) (N := some 48) (v := undef) (bt 41 549755813887) rfl rfl (any_of F100tab1 (by kernel_rfl)) (fun _ _ _ h => h) (Or.inr ⟨by rfl, rfl⟩) (by simp only [Act.put, pset]; rfl) ?_
  refine pure_ (i := 39) (N := some 49) (v := undef) (bt 41 1099511627775) rfl rfl (any_of F100tab1 (by kernel_rfl)) (fun _ _ _ h => h) (Or.inr ⟨by rfl, rfl⟩) (by simp only [Act.put, pset]; rfl) ?_
  refine pure_ (i := 40) (N := some 50) (bt 41 2199023255551) rfl rfl (any_of F100tab1 (by kernel_rfl)) (fun _ _ _ h => h) (Or.inl ⟨by rfl, by intro w'; go_simp; with_reducible rfl⟩) (by simp only [Act.put, pset]; rfl) ?_
  refine done_ (done_of F100tab1 (by kernel_rfl)) ?_
  clear hHeld
  go_wp2_with fail
  go_ret
  exact ⟨rfl, HB.out⟩
set_option maxHeartbeats 8000000 in
set_option maxRecDepth 100000 in
theorem ends_calls (j : Nat) (x y : Tk) (e m : Nat) (ht : TokAt wD A l) (hD : Below wD.heap.size wD w) (hx : l[j]? = some x) (hy : l[j + 1]? = some y) (ix : inT s x) (iy : inT s y) (hs : s.size ≤ 1000000) (hl : l.length ≤ 1000000) (ex : x.a + (x.t.size : Int) = e) (ey : y.a = ((e + m : Nat) : Int)) :
    Calls Tryz.prog 100 #[.string s, .slice A l.length c, .int .i64 ((j + 1 : Nat) : Int)] w fun r w' => r = .returned (.int .i64 (nlF s e m : Nat)) ∧ Below w.heap.size w w' := by
  have hu56 := Tryz.underlying56
  have hu86 := Tryz.underlying86
  obtain ⟨ad, eA, qx⟩ := ht j x hx
  obtain ⟨ad', eA', qy⟩ := ht (j + 1) y hy
  rw [eA] at eA'
  obtain rfl := Option.some.inj eA'
  have QX := Aside0.mk qx
  have QY := Aside0.mk qy
  have IX := Aside0.mk ix
  have IY := Aside0.mk iy
  have SZ := Aside0.mk hs
  have hj : j + 1 < l.length := (List.getElem?_eq_some_iff.1 hy).1
  obtain ⟨n, hn⟩ : ∃ n, l.length = n := ⟨_, rfl⟩
  rw [hn] at hj hl ⊢
  subst eA
  have EX : Aside0 (wrap64 (x.a + (x.t.size : Int)) = (e : Int)) := ⟨by rw [ex]; have := ix.2; unfold wrap64; omega⟩
  have hee : e ≤ 1000000 := by have := ix.2; omega
  have hem : e + m ≤ 1000000 := by have := iy.2; omega
  have HD := Aside0.mk (hD.trans (show Below wD.heap.size w w.drew from below_drew1 (Below.refl _ _)))
  have HB := Aside0.mk (show Below w.heap.size w w.drew from below_drew1 (Below.refl _ _))
  obtain ⟨t0, t1, t2⟩ := qx _ HD.out
  obtain ⟨u0, u1, u2⟩ := qy _ HD.out
  have hs_ : endS ad j x y w.drew := ⟨t0, t1, t2, u0, u1, u2, trivial⟩
  have hw0 : IntKind.i64.wrap (j : Int) = (j : Int) := by rw [i64_w]; unfold wrap64; omega
  have d1 : decide ((n : Int) ≤ (j : Int) + 1) = false := decide_eq_false (by omega)
  have d2 : decide (y.a < (e : Int)) = false := decide_eq_false (by omega)
  clear ht hD hx hy ix iy hs qx qy t0 t1 t2 u0 u1 u2 hn ex
  have EY := Aside0.mk ey
  clear ey
  go_enter Tryz.func100, Tryz.ntmps100
  go_upto_region 1 with (fail)
  refine start_ (n := 41) (S := endS ad j x y) (ds := []) (bt 41 0) (by kernel_rfl) rfl (by kernel_rfl) (hs_) (fun hHeld => ?_)
  clear hs_
  generalize World.drew _ = w500 at HD HB hHeld ⊢
  refine pure_ (i := 0) (N := some 10) (bt 41 1) rfl rfl (any_of F100tab1 (by kernel_rfl)) (fun _ _ _ h => h) (Or.inl ⟨by rfl, by intro w'; go_simp; with_reducible rfl⟩) (by simp only [Act.put, pset]; rfl) ?_
  refine pure_ (i := 1) (N := some 11) (bt 41 3) rfl rfl (any_of F100tab1 (by kernel_rfl)) (fun _ _ _ h => h) (Or.inl ⟨by rfl, by intro w'; go_simp; with_reducible rfl⟩) (by simp only [Act.put, pset]; rfl) ?_
  refine pure_ (i := 2) (N := some 12) (bt 41 7) rfl rfl (any_of F100tab1 (by kernel_rfl)) (fun _ _ _ h => h) (Or.inl ⟨by rfl, by intro w'; go_simp; with_reducible rfl⟩) (by simp only [Act.put, pset]; rfl) ?_
  refine pure_ (i := 3) (N := some 13) (bt 41 15) rfl rfl (any_of F100tab1 (by kernel_rfl)) (fun _ _ _ h => h) (Or.inl ⟨by rfl, by intro w'; go_simp; with_reducible rfl⟩) (by simp only [Act.put, pset]; rfl) ?_
  refine pure_ (i := 4) (N := some 14) (bt 41 31) rfl rfl (any_of F100tab1 (by kernel_rfl)) (fun _ _ _ h => h) (Or.inl ⟨by rfl, by intro w'; go_simp; with_reducible rfl⟩) (by simp only [Act.put, pset]; rfl) ?_
  refine pure_ (i := 5) (N := some 15) (bt 41 63) rfl rfl (any_of F100tab1 (by kernel_rfl)) (fun _ _ _ h => h) (Or.inl ⟨by rfl, by intro w'; go_simp; with_reducible rfl⟩) (by simp only [Act.put, pset]; rfl) ?_
  refine pure_ (i := 6) (N := some 16) (bt 41 127) rfl rfl (any_of F100tab1 (by kernel_rfl)) (fun _ _ _ h => h) (Or.inl ⟨by rfl, by intro w'; go_simp; with_reducible rfl⟩) (by simp only [Act.put, pset]; rfl) ?_
  refine pure_ (i := 7) (N := some 17) (bt 41 255) rfl rfl (any_of F100tab1 (by kernel_rfl)) (fun _ _ _ h => h) (Or.inl ⟨by rfl, by intro w'; go_simp; with_reducible rfl⟩) (by simp only [Act.put, pset]; rfl) ?_
  refine pure_ (i := 8) (N := some 18) (bt 41 511) rfl rfl (any_of F100tab1 (by kernel_rfl)) (fun _ _ _ h => h) (Or.inl ⟨by rfl, by intro w'; go_simp; with_reducible rfl⟩) (by simp only [Act.put, pset]; rfl) ?_
  refine pure_ (i := 9) (N := some 19) (bt 41 1023) rfl rfl (any_of F100tab1 (by kernel_rfl)) (fun _ _ _ h => h) (Or.inl ⟨by rfl, by intro w'; go_simp; with_reducible rfl⟩) (by simp only [Act.put, pset]; rfl) ?_
  refine pure_ (i := 10) (N := some 20) (bt 41 2047) rfl rfl (any_of F100tab1 (by kernel_rfl)) (fun _ _ _ h => h) (Or.inl ⟨by rfl, by intro w'; go_simp; with_reducible rfl⟩) (by simp only [Act.put, pset]; rfl) ?_
  refine pure_ (i := 11) (N := some 21) (bt 41 4095) rfl rfl (any_of F100tab1 (by kernel_rfl)) (fun _ _ _ h => h) (Or.inl ⟨by rfl, by intro w'; go_simp; with_reducible rfl⟩) (by simp only [Act.put, pset]; rfl) ?_
  refine pure_ (i := 12) (N := some 22) (bt 41 8191) rfl rfl (any_of F100tab1 (by kernel_rfl)) (fun _ _ _ h => h) (Or.inl ⟨by rfl, by intro w'; go_simp; with_reducible rfl⟩) (by simp only [Act.put, pset]; rfl) ?_
  refine pure_ (i := 13) (N := some 23) (bt 41 16383) rfl rfl (any_of F100tab1 (by kernel_rfl)) (fun _ _ _ h => h) (Or.inl ⟨by rfl, by intro w'; go_simp; (first | with_reducible rfl | rw [if_pos (by omega)])⟩) (by simp only [Act.put, pset]; rfl) ?_
  refine take_ (i := 14) (N := some 24) (bt 41 32767) rfl rfl (take_of F100tab1 (by kernel_rfl)) (fun _ _ _ h => h) (Or.inl ⟨by rfl, by rintro w' ⟨s0, s1, s2, s3, s4, s5, s6⟩; go_simp; with_reducible rfl⟩) hHeld (by simp only [Act.put, pset]; rfl) ?_
  refine one_ (i := 15) (N := some 25) (bt 41 65535) rfl rfl (one_of F100tab1 (by kernel_rfl)) (by decide) (fun K hK => ?_)
  refine goes_ Tryz.func129 (by kernel_rfl) rfl #[.string s, .agg #[.int .i64 x.k, .string x.t, .int .i64 x.a]] (by rfl) rfl rfl (by (try simp only [List.map_toArray, List.map_cons, List.map_nil]); first | done | rfl) ?_
  refine (in_calls (x := x) IX.out SZ.out).mono ?_
  rintro e w501 ⟨rfl, hb⟩
  refine ⟨_, rfl, ?_⟩
  have n0 := Aside0.mk (HD.out.trans (hb.mono HD.out.size)); have n1 := Aside0.mk (below_step HB.out hb); clear HD HB; have HD := n0; have HB := n1; clear n0 n1
  refine hK.out _ _ (⟨bc hb hHeld.1, bc hb hHeld.2.1, bc hb hHeld.2.2.1, bc hb hHeld.2.2.2.1, bc hb hHeld.2.2.2.2.1, bc hb hHeld.2.2.2.2.2.1, trivial⟩) (fun hHeld => ?_)
  clear hK K
  refine norm_ (show Act.put _ (some 25) _ = _ from (by simp only [Act.put, pset]; rfl)) ?_
  refine pure_ (i := 16) (N := some 26) (bt 41 131071) rfl rfl (any_of F100tab1 (by kernel_rfl)) (fun _ _ _ h => h) (Or.inl ⟨by rfl, by intro w'; go_simp; with_reducible rfl⟩) (by simp only [Act.put, pset]; rfl) ?_
  refine pure_ (i := 17) (N := some 27) (bt 41 262143) rfl rfl (any_of F100tab1 (by kernel_rfl)) (fun _ _ _ h => h) (Or.inl ⟨by rfl, by intro w'; go_simp; with_reducible rfl⟩) (by simp only [Act.put, pset]; rfl) ?_
  refine pure_ (i := 18) (N := some 28) (bt 41 524287) rfl rfl (any_of F100tab1 (by kernel_rfl)) (fun _ _ _ h => h) (Or.inl ⟨by rfl, by intro w'; go_simp; with_reducible rfl⟩) (by simp only [Act.put, pset]; rfl) ?_
  refine pure_ (i := 19) (N := some 29) (bt 41 1048575) rfl rfl (any_of F100tab1 (by kernel_rfl)) (fun _ _ _ h => h) (Or.inl ⟨by rfl, by intro w'; go_simp; with_reducible rfl⟩) (by simp only [Act.put, pset]; rfl) ?_
  refine pure_ (i := 20) (N := some 30) (bt 41 2097151) rfl rfl (any_of F100tab1 (by kernel_rfl)) (fun _ _ _ h => h) (Or.inl ⟨by rfl, by intro w'; go_simp; with_reducible rfl⟩) (by simp only [Act.put, pset]; rfl) ?_
  refine pure_ (i := 21) (N := some 31) (bt 41 4194303) rfl rfl (any_of F100tab1 (by kernel_rfl)) (fun _ _ _ h => h) (Or.inl ⟨by rfl, by intro w'; go_simp; with_reducible rfl⟩) (by simp only [Act.put, pset]; rfl) ?_
  refine pure_ (i := 22) (N := some 32) (bt 41 8388607) rfl rfl (any_of F100tab1 (by kernel_rfl)) (fun _ _ _ h => h) (Or.inl ⟨by rfl, by intro w'; go_simp; (first | with_reducible rfl | rw [if_pos (by omega)])⟩) (by simp only [Act.put, pset]; rfl) ?_
  refine take_ (i := 23) (N := some 33) (bt 41 16777215) rfl rfl (take_of F100tab1 (by kernel_rfl)) (fun _ _ _ h => h) (Or.inl ⟨by rfl, by rintro w' ⟨s0, s1, s2, s3, s4, s5, s6⟩; go_simp; with_reducible rfl⟩) hHeld (by simp only [Act.put, pset]; rfl) ?_
  refine one_ (i := 24) (N := some 34) (bt 41 33554431) rfl rfl (one_of F100tab1 (by kernel_rfl)) (by decide) (fun K hK => ?_)
  refine goes_ Tryz.func129 (by kernel_rfl) rfl #[.string s, .agg #[.int .i64 y.k, .string y.t, .int .i64 y.a]] (by rfl) rfl rfl (by (try simp only [List.map_toArray, List.map_cons, List.map_nil]); first | done | rfl) ?_
  refine (in_calls (x := y) IY.out SZ.out).mono ?_
  rintro e w502 ⟨rfl, hb⟩
  refine ⟨_, rfl, ?_⟩
  have n0 := Aside0.mk (HD.out.trans (hb.mono HD.out.size)); have n1 := Aside0.mk (below_step HB.out hb); clear HD HB; have HD := n0; have HB := n1; clear n0 n1
  refine hK.out _ _ (⟨bc hb hHeld.1, bc hb hHeld.2.1, bc hb hHeld.2.2.1, bc hb hHeld.2.2.2.1, bc hb hHeld.2.2.2.2.1, bc hb hHeld.2.2.2.2.2.1, trivial⟩) (fun hHeld => ?_)
  clear hK K
  refine norm_ (show Act.put _ (some 34) _ = _ from (by simp only [Act.put, pset]; rfl)) ?_
  refine pure_ (i := 25) (N := some 35) (bt 41 67108863) rfl rfl (any_of F100tab1 (by kernel_rfl)) (fun _ _ _ h => h) (Or.inl ⟨by rfl, by intro w'; go_simp; with_reducible rfl⟩) (by simp only [Act.put, pset]; rfl) ?_
  refine pure_ (i := 26) (N := some 36) (bt 41 134217727) rfl rfl (any_of F100tab1 (by kernel_rfl)) (fun _ _ _ h => h) (Or.inl ⟨by rfl, by intro w'; go_simp; with_reducible rfl⟩) (by simp only [Act.put, pset]; rfl) ?_
  refine pure_ (i := 27) (N := some 37) (bt 41 268435455) rfl rfl (any_of F100tab1 (by kernel_rfl)) (fun _ _ _ h => h) (Or.inl ⟨by rfl, by intro w'; go_simp; with_reducible rfl⟩) (by simp only [Act.put, pset]; rfl) ?_
  refine pure_ (i := 28) (N := some 38) (bt 41 536870911) rfl rfl (any_of F100tab1 (by kernel_rfl)) (fun _ _ _ h => h) (Or.inl ⟨by rfl, by intro w'; go_simp; with_reducible rfl⟩) (by simp only [Act.put, pset]; rfl) ?_
  refine pure_ (i := 29) (N := some 39) (bt 41 1073741823) rfl rfl (any_of F100tab1 (by kernel_rfl)) (fun _ _ _ h => h) (Or.inl ⟨by rfl, by intro w'; go_simp; with_reducible rfl⟩) (by simp only [Act.put, pset]; rfl) ?_
  refine pure_ (i := 30) (N := some 40) (bt 41 2147483647) rfl rfl (any_of F100tab1 (by kernel_rfl)) (fun _ _ _ h => h) (Or.inl ⟨by rfl, by intro w'; go_simp; with_reducible rfl⟩) (by simp only [Act.put, pset]; rfl) ?_
  refine pure_ (i := 31) (N := some 41) (bt 41 4294967295) rfl rfl (any_of F100tab1 (by kernel_rfl)) (fun _ _ _ h => h) (Or.inl ⟨by rfl, by intro w'; go_simp; (first | with_reducible rfl | rw [if_pos (by omega)])⟩) (by simp only [Act.put, pset]; rfl) ?_
  refine take_ (i := 32) (N := some 42) (bt 41 8589934591) rfl rfl (take_of F100tab1 (by kernel_rfl)) (fun _ _ _ h => h) (Or.inl ⟨by rfl, by rintro w' ⟨s0, s1, s2, s3, s4, s5, s6⟩; go_simp; with_reducible rfl⟩) hHeld (by simp only [Act.put, pset]; rfl) ?_
  refine pure_ (i := 34) (N := some 44) (bt 41 25769803775) rfl rfl (any_of F100tab1 (by kernel_rfl)) (fun _ _ _ h => h) (Or.inl ⟨by rfl, by intro w'; go_simp; with_reducible rfl⟩) (by simp only [Act.put, pset]; rfl) ?_
  refine pure_ (i := 35) (N := some 45) (bt 41 60129542143) rfl rfl (any_of F100tab1 (by kernel_rfl)) (fun _ _ _ h => h) (Or.inl ⟨by rfl, by intro w'; go_simp; with_reducible rfl⟩) (by simp only [Act.put, pset]; rfl) ?_
  refine pure_ (i := 36) (N := some 46) (bt 41 128849018879) rfl rfl (any_of F100tab1 (by kernel_rfl)) (fun _ _ _ h => h) (Or.inl ⟨by rfl, by intro w'; go_simp; (first | with_reducible rfl | rw [if_pos (by omega)])⟩) (by simp only [Act.put, pset]; rfl) ?_
  refine pure_ (i := 37) (N := some 47) (bt 41 266287972351) rfl rfl (any_of F100tab1 (by kernel_rfl)) (fun _ _ _ h => h) (Or.inl ⟨by rfl, by intro w'; go_simp; with_reducible rfl⟩) (by simp only [Act.put, pset]; rfl) ?_
  refine take_ (i := 38) (N := some 48) (bt 41 541165879295) rfl rfl (take_of F100tab1 (by kernel_rfl)) (fun _ _ _ h => h) (Or.inl ⟨by rfl, by rintro w' ⟨s0, s1, s2, s3, s4, s5, s6⟩; go_simp; with_reducible rfl⟩) hHeld (by simp only [Act.put, pset]; rfl) ?_
  refine one_ (i := 33) (N := some 43) (bt 41 549755813887) rfl rfl (one_of F100tab1 (by kernel_rfl)) (by decide) (fun K hK => ?_)
  refine goes_ Tryz.func101 (by kernel_rfl) rfl #[.agg #[.int .i64 x.k, .string x.t, .int .i64 x.a]] (by rfl) rfl rfl (by (try simp only [List.map_toArray, List.map_cons, List.map_nil]); first | done | rfl) ?_
  refine (end_of x (e : Int) _ EX.out).mono ?_
  rintro e w503 ⟨rfl, hb⟩
  refine ⟨_, rfl, ?_⟩
  have n0 := Aside0.mk (HD.out.trans (hb.mono HD.out.size)); have n1 := Aside0.mk (below_step HB.out hb); clear HD HB; have HD := n0; have HB := n1; clear n0 n1
  refine hK.out _ _ (⟨bc hb hHeld.1, bc hb hHeld.2.1, bc hb hHeld.2.2.1, bc hb hHeld.2.2.2.1, bc hb hHeld.2.2.2.2.1, bc hb hHeld.2.2.2.2.2.1, trivial⟩) (fun hHeld => ?_)
  clear hK K
  refine norm_ (show Act.put _ (some 43) _ = _ from (by simp only [Act.put, pset]; rfl)) ?_
  refine pure_ (i := 39) (N := some 49) (bt 41 1099511627775) rfl rfl (any_of F100tab1 (by kernel_rfl)) (fun _ _ _ h => h) (Or.inl ⟨by rfl, by intro w'; go_simp; with_reducible rfl⟩) (by simp only [Act.put, pset]; rfl) ?_
  refine pure_ (i := 40) (N := some 50) (bt 41 2199023255551) rfl rfl (any_of F100tab1 (by kernel_rfl)) (fun _ _ _ h => h) (Or.inl ⟨by rfl, by intro w'; go_simp; with_reducible rfl⟩) (by simp only [Act.put, pset]; rfl) ?_
  refine done_ (done_of F100tab1 (by kernel_rfl)) ?_
  clear hHeld
  obtain ⟨w1, hw1⟩ : ∃ w1 : World, w1 = w503 := ⟨_, rfl⟩
  rw [← hw1] at HD HB ⊢
  clear hw1
  go_upto_region 5 with (first | ((with_reducible refine gate_dst (N := 7) rfl ?_); (try (refine gate_guard (by rfl) ?_; dsimp only)); refine box_event ?hg (N := 7) ?hd (cs := #[.int .i64 0]) (t := 3) ?hr ?_; (case hd => rfl); (case hg => rfl); (case hr => first | (go_simp; done) | (go_simp; rfl)); intro gc hg w7 hbox hb; have BX := Aside0.mk hbox; have HB7 := Aside0.mk hb; have HG := Aside0.mk (show w1.heap.size ≤ gc from Nat.le_of_eq hg.symm); have y0 := blk_frozen hbox 0; have z0 : w7.cell? ⟨gc, 0, none⟩ = some (.int .i64 0) := (blk_cell hbox 0).trans rfl; clear hb hbox hg))
  have hb8 := HB7.out.trans ((Below.refl w1.heap.size w7).setCell (p := ⟨gc, 0, none⟩) HG.out (.int .i64 0))
  have HD8 := Aside0.mk (HD.out.trans (hb8.mono HD.out.size))
  have HB8 := Aside0.mk (below_step HB.out hb8)
  have BX8 := Aside0.mk (blk_put BX.out 0 (.int .i64 0) rfl)
  have GW := Aside0.mk (Nat.le_trans HB.out.size HG.out)
  have GD := Aside0.mk (Nat.le_trans HD.out.size HG.out)
  clear HD HB BX HB7 HG hb8 y0 z0
  generalize World.setCell _ _ _ = w8 at HD8 HB8 BX8 ⊢
  obtain ⟨t0, t1, t2⟩ := QX.out _ HD8.out
  obtain ⟨_, _, u2⟩ := QY.out _ HD8.out
  rw [EY.out] at u2
  go_wp2_with (first | ((with_reducible refine gate_dst (N := 57) rfl ?_); refine goesL_ (some 57) rfl rfl Tryz.func101 (by kernel_rfl) rfl #[.agg #[.int .i64 x.k, .string x.t, .int .i64 x.a]] rfl (by (try simp only [List.map_toArray, List.map_cons, List.map_nil]); first | done | rfl) ?_; (refine (end_of x (e : Int) _ EX.out).mono ?_); (rintro e w157 ⟨rfl, hb⟩; refine ⟨_, rfl, ?_⟩; have n0 := Aside0.mk (HD8.out.trans (hb.mono HD8.out.size)); have n1 := Aside0.mk (below_step HB8.out hb); have n2 := Aside0.mk (blk_below BX8.out hb); clear HD8 HB8 BX8 t0 t1 t2 u2 hb; have HD8 := n0; have HB8 := n1; have BX8 := n2; clear n0 n1 n2; obtain ⟨_, _, u2⟩ := QY.out _ HD8.out; rw [EY.out] at u2)))
  clear u2
  go_loopg [9] m (fun k' v9 wr => ∃ i q : Nat, v9 = .int .i64 ((e + i : Nat) : Int) ∧ i ≤ m ∧ Aside0 (k' + i = m) ∧ Aside0 (q + nlF s (e + i) (m - i) = nlF s e m) ∧ Aside0 (q ≤ i) ∧ Aside0 (wr.heap[gc]? = some (.cells #[.int .i64 q] 3 (0, 0))) ∧ Aside0 (Below wD.heap.size wD wr) ∧ Aside0 (Below w.heap.size w wr))
  case atStart => exact ⟨0, 0, rfl, Nat.zero_le _, ⟨rfl⟩, ⟨by simp⟩, ⟨Nat.le_refl _⟩, BX8, HD8, HB8⟩
  case round =>
    clear BX8 HD8 HB8
    obtain ⟨i, q, rfl, hi, HK, HQ, HQI, BX8, HD8, HB8⟩ := hrel
    obtain ⟨_, _, u2⟩ := QY.out _ HD8.out
    rw [EY.out] at u2
    by_cases hlt : i < m
    · obtain ⟨b, hb⟩ : ∃ b, (s.data.toList.getD (e + i) 0).toNat = b := ⟨_, rfl⟩
      have hbt : ∀ h : e + i < s.size, ((s[e + i]'h).toNat : Int) = (b : Int) := fun h => by
        rw [← hb]
        congr 1
        rw [List.getD_eq_getElem?_getD, List.getElem?_eq_getElem (by simpa using h)]
        rfl
      have hes : e + i < s.size := by have h1 := IY.out.2; have h2 := EY.out; omega
      have HBT := Aside0.mk hb
      have NS : Aside0 (nlF s (e + i) (m - i) = (if b = 10 then 1 else 0) + nlF s (e + (i + 1)) (m - (i + 1))) := ⟨by
        rw [show m - i = (m - (i + 1)) + 1 from by omega, nlF, hb]
        rfl⟩
      clear hb
      go_wp2_with fail
      refine (nl_calls (b : Int) gc (q : Int) BX8.out).mono ?_
      rintro r w' ⟨rfl, hw'⟩
      by_cases hb10 : b = 10
      · rw [if_pos (by rw [hb10]; rfl)] at hw'
        have BX9 := Aside0.mk (blk_put BX8.out 0 (.int .i64 (wrap64 ((q : Int) + 1))) rfl)
        have n0 := Aside0.mk (HD8.out.trans ((Below.refl wD.heap.size _).setCell (p := ⟨gc, 0, none⟩) GD.out (.int .i64 (wrap64 ((q : Int) + 1)))))
        have n1 := Aside0.mk (HB8.out.trans ((Below.refl w.heap.size _).setCell (p := ⟨gc, 0, none⟩) GW.out (.int .i64 (wrap64 ((q : Int) + 1)))))
        rw [← hw'] at BX9 n0 n1
        have hq : wrap64 ((q : Int) + 1) = ((q + 1 : Nat) : Int) := by have := HQI.out; unfold wrap64; omega
        have HQE := Aside0.mk hq
        clear hw' BX8 HD8 HB8 u2 hbt hq
        go_wp2_with fail
        go_roundg (m - (i + 1))
        case measure => have := HK.out; omega
        case rel => exact ⟨i + 1, q + 1, by go_num, by omega, ⟨by omega⟩, ⟨by have h1 := HQ.out; have h2 := NS.out; rw [if_pos hb10] at h2; omega⟩, ⟨by have := HQI.out; omega⟩, ⟨by have h := BX9.out; rw [HQE.out] at h; exact h⟩, n0, n1⟩
      · rw [if_neg (by omega)] at hw'
        subst hw'
        clear u2 hbt
        go_wp2_with fail
        go_roundg (m - (i + 1))
        case measure => have := HK.out; omega
        case rel => exact ⟨i + 1, q, by go_num, by omega, ⟨by omega⟩, ⟨by have h1 := HQ.out; have h2 := NS.out; rw [if_neg hb10] at h2; omega⟩, ⟨by have := HQI.out; omega⟩, BX8, HD8, HB8⟩
    · obtain rfl : i = m := by omega
      have z0 : wr.cell? ⟨gc, 0, none⟩ = some (.int .i64 q) := (blk_cell BX8.out 0).trans rfl
      have HQ2 : Aside0 (q = nlF s e i) := ⟨by have h1 := HQ.out; rw [Nat.sub_self, nlF] at h1; exact h1⟩
      go_wp2_with fail
      go_ret
      exact ⟨by rw [← HQ2.out]; rfl, HB8.out⟩
theorem gap_broken (j : Nat) (x y : Tk) (e m : Nat) (ht : TokAt wD A l) (hD : Below wD.heap.size wD w) (hx : l[j]? = some x) (hy : l[j + 1]? = some y) (ix : inT s x) (iy : inT s y) (hs : s.size ≤ 1000000) (hl : l.length ≤ 1000000) (ex : x.a + (x.t.size : Int) = e) (ey : y.a = ((e + m : Nat) : Int)) (b : Bool) (hb : decide (0 < nlF s e m) = b) :
    Calls Tryz.prog 201 #[.string s, .slice A l.length c, .int .i64 ((j + 1 : Nat) : Int)] w fun r w' => r = .returned (.bool b) ∧ Below w.heap.size w w' := by
  have H := Aside0.mk (ends_calls (w := w) (c := c) j x y e m ht hD hx hy ix iy hs hl ex ey)
  obtain ⟨q, hq⟩ : ∃ q : Nat, nlF s e m = q := ⟨_, rfl⟩
  rw [hq] at hb H
  have hb2 : decide ((0 : Int) < (q : Int)) = b := by rw [← hb]; congr 1; apply propext; omega
  have HBB := Aside0.mk hb
  clear ht hD hx hy ix iy hs hl ex ey hq hb
  go_enter Tryz.func201, Tryz.ntmps201
  go_wp2_with (first | ((with_reducible refine gate_dst (N := 10) rfl ?_); refine goesL_ (some 10) rfl rfl Tryz.func100 (by kernel_rfl) rfl #[.string s, .slice A l.length c, .int .i64 ((j + 1 : Nat) : Int)] rfl (by (try simp only [List.map_toArray, List.map_cons, List.map_nil]); first | done | rfl) ?_; (refine (H.out).mono ?_); (rintro e w110 ⟨rfl, hb⟩; refine ⟨_, rfl, ?_⟩; have HB := Aside0.mk hb; clear hb)))
  go_ret
  exact ⟨(by first | rfl | (simp [*]; done) | (simp [*]; exact HBB.out)), HB.out⟩
theorem gap_blank (j : Nat) (x y : Tk) (e m : Nat) (ht : TokAt wD A l) (hD : Below wD.heap.size wD w) (hx : l[j]? = some x) (hy : l[j + 1]? = some y) (ix : inT s x) (iy : inT s y) (hs : s.size ≤ 1000000) (hl : l.length ≤ 1000000) (ex : x.a + (x.t.size : Int) = e) (ey : y.a = ((e + m : Nat) : Int)) (b : Bool) (hb : decide (1 < nlF s e m) = b) :
    Calls Tryz.prog 70 #[.string s, .slice A l.length c, .int .i64 ((j + 1 : Nat) : Int)] w fun r w' => r = .returned (.bool b) ∧ Below w.heap.size w w' := by
  have H := Aside0.mk (ends_calls (w := w) (c := c) j x y e m ht hD hx hy ix iy hs hl ex ey)
  obtain ⟨q, hq⟩ : ∃ q : Nat, nlF s e m = q := ⟨_, rfl⟩
  rw [hq] at hb H
  have hb2 : decide ((1 : Int) < (q : Int)) = b := by rw [← hb]; congr 1; apply propext; omega
  have HBB := Aside0.mk hb
  clear ht hD hx hy ix iy hs hl ex ey hq hb
  go_enter Tryz.func70, Tryz.ntmps70
  go_wp2_with (first | ((with_reducible refine gate_dst (N := 10) rfl ?_); refine goesL_ (some 10) rfl rfl Tryz.func100 (by kernel_rfl) rfl #[.string s, .slice A l.length c, .int .i64 ((j + 1 : Nat) : Int)] rfl (by (try simp only [List.map_toArray, List.map_cons, List.map_nil]); first | done | rfl) ?_; (refine (H.out).mono ?_); (rintro e w110 ⟨rfl, hb⟩; refine ⟨_, rfl, ?_⟩; have HB := Aside0.mk hb; clear hb)))
  go_ret
  exact ⟨(by first | rfl | (simp [*]; done) | (simp [*]; exact HBB.out)), HB.out⟩
theorem gap_blank0 (n : Nat) : Calls Tryz.prog 70 #[.string s, .slice A n c, .int .i64 0] w fun r w' => r = .returned (.bool false) ∧ Below w.heap.size w w' := by
  go_enter Tryz.func70, Tryz.ntmps70
  go_wp2_with (first | ((with_reducible refine gate_dst (N := 10) rfl ?_); refine goesL_ (some 10) rfl rfl Tryz.func100 (by kernel_rfl) rfl #[.string s, .slice A n c, .int .i64 0] rfl (by (try simp only [List.map_toArray, List.map_cons, List.map_nil]); first | done | rfl) ?_; (refine (ends_first n).mono ?_); (rintro e w110 ⟨rfl, hb⟩; refine ⟨_, rfl, ?_⟩; have HB := Aside0.mk hb; clear hb)))
  go_ret
  exact ⟨rfl, HB.out⟩
end
end Go.Proofs.YthipodffpkglfaaGreatDoor.PS
namespace Go.Proofs.YthipodffpkglfaaGreatDoor.PS
open Go.RowKit Go.Proofs.YthipodffpkglfaaGreatDoorW.PrintWords Go.Proofs.YthipodffpkglfaaGreatDoorW.PrintLast Go.Proofs.YthipodffpkglfaaGreatDoorW.PrintMore
set_option linter.unusedVariables false
set_option linter.unusedSimpArgs false
theorem F165tab1 : rtab .any (opsOf Tryz.f165 1) = (true, [([], []), ([0], [0]), ([1], [1]), ([2], [2]), ([], []), ([4], [4]), ([5], [5]), ([6], [6]), ([], []), ([8], [8]), ([9], [9]), ([10], [10]), ([3, 7, 11], [3, 7, 11]), ([12, 12, 0, 1, 2, 3, 4, 5, 6, 7, 8, 9, 10, 11, 12], [12])]) := by kernel_rfl
def broS (gp : Nat) (s : ByteArray) (A : Option Addr) (m c i : Nat) (w' : World) : Prop := w'.cell? ⟨gp, 0, none⟩ = some (.string s) ∧ w'.cell? ⟨gp, 1, none⟩ = some (.slice A m c) ∧ w'.cell? ⟨gp, 2, none⟩ = some (.int .i64 i) ∧ True
section
variable {E : Env} {w w' : World} {i : Nat}
theorem nobreak (h : PSt E w i) (h0 : E.fr < i) (h1 : i < E.n) : Calls Tryz.prog 201 #[.string E.s, .slice E.A E.toks.length E.c, .int .i64 (i : Int)] w fun r w' => r = .returned (.bool false) ∧ Below w.heap.size w w' := by
  obtain ⟨j, rfl⟩ : ∃ j, i = j + 1 := ⟨i - 1, by omega⟩
  have hl := h.tl
  obtain ⟨x, hx⟩ : ∃ x, E.toks[j]? = some x := ⟨_, List.getElem?_eq_getElem (by omega)⟩
  obtain ⟨y, hy⟩ : ∃ y, E.toks[j + 1]? = some y := ⟨_, List.getElem?_eq_getElem (by omega)⟩
  obtain ⟨ix, iy, e, m, ex, ey, hn⟩ := h.nb j x y (by omega) h1 hx hy
  exact gap_broken j x y e m h.tk h.hb hx hy ix iy h.s2 h.sz ex ey false (by rw [hn]; rfl)
set_option maxHeartbeats 4000000 in
set_option maxRecDepth 100000 in
theorem broken_calls (h : PSt E w i) (h0 : E.fr < i) (h1 : i < E.n) : Calls Tryz.prog 165 #[.pointer (some ⟨E.gp, 0, none⟩)] w fun e w' => e = .returned (.bool false) ∧ Below w.heap.size w w' := by
  have hu154 := Tryz.underlying154
  have H0 := Aside0.mk h0
  have H1 := Aside0.mk h1
  have HB := Aside0.mk (show Below w.heap.size w w.drew from below_drew1 (Below.refl _ _))
  have HP := Aside0.mk (h.below HB.out)
  have hs_ : broS E.gp E.s E.A E.toks.length E.c i w.drew := ⟨HP.out.c0, HP.out.c1, HP.out.c2, trivial⟩
  clear h h0 h1
  go_enter Tryz.func165, Tryz.ntmps165
  go_upto_region 1 with (fail)
  refine start_ (n := 14) (S := broS E.gp E.s E.A E.toks.length E.c i) (ds := []) (bt 14 0) (by kernel_rfl) rfl (by kernel_rfl) (hs_) (fun hHeld => ?_)
  clear hs_
  generalize World.drew _ = w500 at HP HB hHeld ⊢
  refine pure_ (i := 0) (N := some 3) (bt 14 1) rfl rfl (any_of F165tab1 (by kernel_rfl)) (fun _ _ _ h => h) (Or.inl ⟨by rfl, by intro w'; go_simp; with_reducible rfl⟩) (by simp only [Act.put, pset]; rfl) ?_
  refine pure_ (i := 1) (N := some 4) (bt 14 3) rfl rfl (any_of F165tab1 (by kernel_rfl)) (fun _ _ _ h => h) (Or.inl ⟨by rfl, by intro w'; go_simp; with_reducible rfl⟩) (by simp only [Act.put, pset]; rfl) ?_
  refine pure_ (i := 2) (N := some 5) (bt 14 7) rfl rfl (any_of F165tab1 (by kernel_rfl)) (fun _ _ _ h => h) (Or.inl ⟨by rfl, by intro w'; go_simp; with_reducible rfl⟩) (by simp only [Act.put, pset]; rfl) ?_
  refine take_ (i := 3) (N := some 6) (bt 14 15) rfl rfl (take_of F165tab1 (by kernel_rfl)) (fun _ _ _ h => h) (Or.inl ⟨by rfl, by rintro w' ⟨s0, s1, s2, s3⟩; go_simp; with_reducible rfl⟩) hHeld (by simp only [Act.put, pset]; rfl) ?_
  refine pure_ (i := 4) (N := some 7) (bt 14 31) rfl rfl (any_of F165tab1 (by kernel_rfl)) (fun _ _ _ h => h) (Or.inl ⟨by rfl, by intro w'; go_simp; with_reducible rfl⟩) (by simp only [Act.put, pset]; rfl) ?_
  refine pure_ (i := 5) (N := some 8) (bt 14 63) rfl rfl (any_of F165tab1 (by kernel_rfl)) (fun _ _ _ h => h) (Or.inl ⟨by rfl, by intro w'; go_simp; with_reducible rfl⟩) (by simp only [Act.put, pset]; rfl) ?_
  refine pure_ (i := 6) (N := some 9) (bt 14 127) rfl rfl (any_of F165tab1 (by kernel_rfl)) (fun _ _ _ h => h) (Or.inl ⟨by rfl, by intro w'; go_simp; with_reducible rfl⟩) (by simp only [Act.put, pset]; rfl) ?_
  refine take_ (i := 7) (N := some 10) (bt 14 255) rfl rfl (take_of F165tab1 (by kernel_rfl)) (fun _ _ _ h => h) (Or.inl ⟨by rfl, by rintro w' ⟨s0, s1, s2, s3⟩; go_simp; with_reducible rfl⟩) hHeld (by simp only [Act.put, pset]; rfl) ?_
  refine pure_ (i := 8) (N := some 11) (bt 14 511) rfl rfl (any_of F165tab1 (by kernel_rfl)) (fun _ _ _ h => h) (Or.inl ⟨by rfl, by intro w'; go_simp; with_reducible rfl⟩) (by simp only [Act.put, pset]; rfl) ?_
  refine pure_ (i := 9) (N := some 12) (bt 14 1023) rfl rfl (any_of F165tab1 (by kernel_rfl)) (fun _ _ _ h => h) (Or.inl ⟨by rfl, by intro w'; go_simp; with_reducible rfl⟩) (by simp only [Act.put, pset]; rfl) ?_
  refine pure_ (i := 10) (N := some 13) (bt 14 2047) rfl rfl (any_of F165tab1 (by kernel_rfl)) (fun _ _ _ h => h) (Or.inl ⟨by rfl, by intro w'; go_simp; with_reducible rfl⟩) (by simp only [Act.put, pset]; rfl) ?_
  refine take_ (i := 11) (N := some 14) (bt 14 4095) rfl rfl (take_of F165tab1 (by kernel_rfl)) (fun _ _ _ h => h) (Or.inl ⟨by rfl, by rintro w' ⟨s0, s1, s2, s3⟩; go_simp; with_reducible rfl⟩) hHeld (by simp only [Act.put, pset]; rfl) ?_
  refine one_ (i := 12) (N := some 15) (bt 14 8191) rfl rfl (one_of F165tab1 (by kernel_rfl)) (by decide) (fun K hK => ?_)
  refine goes_ Tryz.func201 (by kernel_rfl) rfl #[.string E.s, .slice E.A E.toks.length E.c, .int .i64 (i : Int)] (by rfl) rfl rfl (by (try simp only [List.map_toArray, List.map_cons, List.map_nil]); first | done | rfl) ?_
  refine (nobreak HP.out H0.out H1.out).mono ?_
  rintro e w501 ⟨rfl, hb⟩
  refine ⟨_, rfl, ?_⟩
  have n1 := Aside0.mk (below_step HB.out hb); clear HB; have HB := n1; clear n1
  refine hK.out _ _ (⟨bc hb hHeld.1, bc hb hHeld.2.1, bc hb hHeld.2.2.1, trivial⟩) (fun hHeld => ?_)
  clear hK K
  refine norm_ (show Act.put _ (some 15) _ = _ from (by simp only [Act.put, pset]; rfl)) ?_
  refine pure_ (i := 13) (N := some 2) (bt 14 16383) rfl rfl (any_of F165tab1 (by kernel_rfl)) (fun _ _ _ h => h) (Or.inl ⟨by rfl, by intro w'; go_simp; with_reducible rfl⟩) (by simp only [Act.put, pset]; rfl) ?_
  refine done_ (done_of F165tab1 (by kernel_rfl)) ?_
  clear hHeld
  go_wp2_with fail
  go_ret
  exact ⟨rfl, HB.out⟩
set_option maxHeartbeats 2000000 in
theorem notes_calls (h : PSt E w i) : Calls Tryz.prog 171 #[.pointer (some ⟨E.gp, 0, none⟩)] w fun e w' => e = .returned (.slice none 0 0) ∧ Below w.heap.size w w' := by
  have HP := Aside0.mk h
  have HB := Aside0.mk (Below.refl w.heap.size w)
  clear h
  go_enter Tryz.func171, Tryz.ntmps171
  go_wp2_with fail
  go_loopg [3] 0 (fun k' v3 wr => v3 = .slice none 0 0 ∧ wr = w)
  case atStart => exact ⟨rfl, rfl⟩
  case round =>
    obtain ⟨rfl, rfl⟩ := hrel
    go_wp2_with (first | ((with_reducible refine gate_dst (N := 5) rfl ?_); refine goesL_ (some 5) rfl rfl Tryz.func206 (by kernel_rfl) rfl #[.pointer (some ⟨E.gp, 0, none⟩)] rfl (by (try simp only [List.map_toArray, List.map_cons, List.map_nil]); first | done | rfl) ?_; (refine (noted_calls HP.out).mono ?_); (rintro e w105 ⟨rfl, hb⟩; refine ⟨_, rfl, ?_⟩; have n0 := Aside0.mk (HP.out.below hb); have n1 := Aside0.mk (below_step HB.out hb); clear HP HB hb; have HP := n0; have HB := n1; clear n0 n1)))
    go_ret
    exact ⟨rfl, HB.out⟩
end
end Go.Proofs.YthipodffpkglfaaGreatDoor.PS
namespace Go.Proofs.YthipodffpkglfaaGreatDoor.PS
open Go.RowKit Go.Proofs.YthipodffpkglfaaGreatDoorW.PrintWords Go.Proofs.YthipodffpkglfaaGreatDoorW.PrintLast Go.Proofs.YthipodffpkglfaaGreatDoorW.PrintMore
set_option linter.unusedVariables false
set_option linter.unusedSimpArgs false
section
variable {E : Env} {w w' : World} {i : Nat}
theorem has_calls (A : Option Addr) (c : Nat) (ks : List Int) (a : Int) (b : Bool) (w : World) (hA : Kd.C (Kd.int .i64) w A ks.length ks) (hc : ks.length ≤ c) (hev : ∃ k, slices_Contains_int_int.f k ks a = some b) : Calls Tryz.prog 176 #[.slice A ks.length c, .int .i64 a] w fun e w' => e = .returned (.bool b) ∧ Below w.heap.size w w' := by
  obtain ⟨k, hk⟩ := hev
  refine (slices_Contains_int_int.calls k A c ks a b w hA hc hk).mono ?_
  rintro e w' ⟨h, hd⟩
  obtain ⟨n, rfl⟩ := hd.out
  exact ⟨h, pw_below_drewN (Below.refl _ _) _⟩
set_option maxHeartbeats 4000000 in
set_option maxRecDepth 100000 in
theorem one_calls (h : PSt E w i) (hi : i < E.n) (A : Option Addr) (c : Nat) (ks : List Int) (hA : Kd.C (Kd.int .i64) w A ks.length ks) (hc : ks.length ≤ c) (hev : ∃ k, slices_Contains_int_int.f k ks (E.cur i).k = some true) : Calls Tryz.prog 139 #[.pointer (some ⟨E.gp, 0, none⟩), .slice A ks.length c] w fun e w' => e = .returned (.string (E.cur i).t) ∧ PSt E w' (i + 1) ∧ KeepBut w w' E.gp none := by
  have hu154 := Tryz.underlying154
  have hu56 := Tryz.underlying56
  have hu86 := Tryz.underlying86
  have H := Aside0.mk h
  have HA := Aside0.mk hA
  have HC := Aside0.mk hc
  have HI := Aside0.mk hi
  have HLT := Aside0.mk h.lt
  obtain ⟨tk, htk⟩ : ∃ tk, E.cur i = tk := ⟨_, rfl⟩
  have TK := Aside0.mk htk
  rw [htk] at hev
  have HE := Aside0.mk hev
  clear h htk hA hc hi hev
  go_enter Tryz.func139, Tryz.ntmps139
  go_upto_region 2 with (first | ((with_reducible refine gate_dst (N := 7) rfl ?_); refine goesL_ (some 7) rfl rfl Tryz.func174 (by kernel_rfl) rfl #[.pointer (some ⟨E.gp, 0, none⟩)] rfl (by (try simp only [List.map_toArray, List.map_cons, List.map_nil]); first | done | rfl) ?_; (refine (cur_calls H.out).mono ?_); (rintro e w107 ⟨rfl, hb⟩; refine ⟨_, rfl, ?_⟩; rw [TK.out, tkc_eq]; have HB := Aside0.mk hb; clear hb)) | ((with_reducible refine gate_dst (N := 5) rfl ?_); (try (refine gate_guard (by rfl) ?_; dsimp only)); refine box_event ?hg (N := 5) ?hd (cs := #[.int .i64 0, .string (⟨#[]⟩ : ByteArray), .int .i64 0]) (t := 86) ?hr ?_; (case hd => rfl); (case hg => rfl); (case hr => first | (go_simp; done) | (go_simp; rfl)); intro gb hg w5 hbox hb; have HB5 := Aside0.mk hb; have HG := Aside0.mk (show w107.heap.size ≤ gb from Nat.le_of_eq hg.symm); have z0 : w5.cell? ⟨gb, 0, none⟩ = some (.int .i64 0) := (blk_cell hbox 0).trans rfl; have z1 : w5.cell? ⟨gb, 1, none⟩ = some (.string (⟨#[]⟩ : ByteArray)) := (blk_cell hbox 1).trans rfl; have z2 : w5.cell? ⟨gb, 2, none⟩ = some (.int .i64 0) := (blk_cell hbox 2).trans rfl; have y0 := blk_frozen hbox 0; have y1 := blk_frozen hbox 1; have y2 := blk_frozen hbox 2; have BX := Aside0.mk hbox; clear hb hbox hg))
  have HS := Aside0.mk (set3at_blk (v0 := .int .i64 tk.k) (v1 := .string tk.t) (v2 := .int .i64 tk.a) BX.out)
  have NE := Aside0.mk (show gb ≠ E.gp from by have h1 := HG.out; have h2 := HB.out.size; have h3 := HLT.out; omega)
  have HB9 : Aside0 (Below w.heap.size w (set3at w5 gb (.int .i64 tk.k) (.string tk.t) (.int .i64 tk.a))) := ⟨(HB.out.trans (HB5.out.mono HB.out.size)).trans (set3at_below (Nat.le_trans HB.out.size HG.out) _ _ _)⟩
  obtain ⟨w9, hw9⟩ : ∃ w9, w9 = set3at w5 gb (.int .i64 tk.k) (.string tk.t) (.int .i64 tk.a) := ⟨_, rfl⟩
  rw [show ((w5.setCell ⟨gb, 0, none⟩ (.int .i64 tk.k)).setCell ⟨gb, 1, none⟩ (.string tk.t)).setCell ⟨gb, 2, none⟩ (.int .i64 tk.a) = w9 from hw9.symm]
  rw [← hw9] at HS HB9
  have BX9 := HS
  clear hw9 HB HB5 HG BX HS z0 z1 z2 y0 y1 y2
  have q0 : w9.cell? ⟨gb, 0, none⟩ = some (.int .i64 tk.k) := (blk_cell BX9.out 0).trans rfl
  have q1 : w9.cell? ⟨gb, 1, none⟩ = some (.string tk.t) := (blk_cell BX9.out 1).trans rfl
  go_wp2_with (first | ((with_reducible refine gate_dst (N := 11) rfl ?_); refine goesL_ (some 11) rfl rfl Tryz.func176 (by kernel_rfl) rfl #[.slice A ks.length c, .int .i64 tk.k] rfl (by (try simp only [List.map_toArray, List.map_cons, List.map_nil]); first | done | rfl) ?_; (refine (has_calls A c ks tk.k true _ (Kd.C_below HA.out HB9.out) HC.out HE.out).mono ?_); (rintro e w111 ⟨rfl, hb⟩; refine ⟨_, rfl, ?_⟩; have n0 := Aside0.mk (below_step HB9.out hb); have n1 := Aside0.mk (blk_below BX9.out hb); clear HB9 BX9 q0 q1 hb; have HB9 := n0; have BX9 := n1; clear n0 n1)) | ((with_reducible refine gate_dst (N := 12) rfl ?_); refine goesL_ (some 12) rfl rfl Tryz.func175 (by kernel_rfl) rfl #[.bool true] rfl (by (try simp only [List.map_toArray, List.map_cons, List.map_nil]); first | done | rfl) ?_; (refine (must_true).mono ?_); (rintro e w112 ⟨rfl, rfl⟩; refine ⟨_, rfl, ?_⟩; have HP9 := Aside0.mk (H.out.below HB9.out))) | ((with_reducible refine gate_dst (N := 14) rfl ?_); refine goesL_ (some 14) rfl rfl Tryz.func177 (by kernel_rfl) rfl #[.pointer (some ⟨E.gp, 0, none⟩)] rfl (by (try simp only [List.map_toArray, List.map_cons, List.map_nil]); first | done | rfl) ?_; (refine (next_calls HP9.out HI.out).mono ?_); (rintro e w114 ⟨rfl, hp, hk⟩; refine ⟨_, rfl, ?_⟩; have HP2 := Aside0.mk hp; have HK := Aside0.mk hk; have q1 : w114.cell? ⟨gb, 1, none⟩ = some (.string tk.t) := (World.cell?_of_block (a := ⟨gb, 1, none⟩) (hk.2 gb (blk_lt BX9.out) NE.out (by simp))).trans ((blk_cell BX9.out 1).trans rfl); clear hp hk)))
  go_ret
  exact ⟨(by rw [TK.out] <;> rfl), HP2.out, (KeepBut.of_below HB9.out E.gp none).trans HK.out (Or.inl rfl)⟩
end
end Go.Proofs.YthipodffpkglfaaGreatDoor.PS
namespace Go.Proofs.YthipodffpkglfaaGreatDoor.PS
open Go.RowKit Go.Proofs.YthipodffpkglfaaGreatDoorW.PrintWords Go.Proofs.YthipodffpkglfaaGreatDoorW.PrintLast Go.Proofs.YthipodffpkglfaaGreatDoorW.PrintMore
set_option linter.unusedVariables false
set_option linter.unusedSimpArgs false
theorem lit_event {P : Program} {ops : Array Oper} {rest : List Oper} {o : Oper} {a : Act} {Q : Exit → Act → World → Prop} {W : World} (hgd : o.guard = none) {N : Tmp} (_hd : o.dst = some N) {m : Nat} {cs : Array Value} {t : TypeId}
    (hrun : (execOp a.eval o).run P W = .ok (.value (.slice (some ⟨W.heap.size, 0, none⟩) m m)) (W.alloc (.cells cs t (0, 0))))
    (h : ∀ g, g = W.heap.size → ∀ w1, w1.heap[g]? = some (.cells cs t (0, 0)) → Below W.heap.size W w1 → wpList P ops Q rest (a.put o.dst (.slice (some ⟨g, 0, none⟩) m m)) w1) : wpList P ops Q (o :: rest) a W :=
  Kd.event_run hgd hrun (h _ rfl _ (blk_new W _) (below_alloc (Below.refl _ _) _))
/-- The operators of each level. -/
def LV : List (List ByteArray) := [[⟨#[58, 58]⟩], [⟨#[124]⟩], [⟨#[61]⟩, ⟨#[33]⟩], [⟨#[111, 114, 101, 108, 115, 101]⟩], [⟨#[97, 110, 100, 97, 108, 115, 111]⟩], [⟨#[61, 61]⟩, ⟨#[47, 61]⟩, ⟨#[61, 60]⟩, ⟨#[60]⟩, ⟨#[62, 61]⟩, ⟨#[62]⟩, ⟨#[61, 58, 61]⟩, ⟨#[61, 47, 61]⟩], [⟨#[43, 43]⟩, ⟨#[45, 45]⟩], [⟨#[43]⟩, ⟨#[45]⟩, ⟨#[98, 111, 114]⟩, ⟨#[98, 120, 111, 114]⟩, ⟨#[98, 115, 108]⟩, ⟨#[98, 115, 114]⟩, ⟨#[111, 114]⟩, ⟨#[120, 111, 114]⟩], [⟨#[42]⟩, ⟨#[47]⟩, ⟨#[100, 105, 118]⟩, ⟨#[114, 101, 109]⟩, ⟨#[98, 97, 110, 100]⟩, ⟨#[97, 110, 100]⟩]]
def strs (l : List ByteArray) : Array Value := (l.map Value.string).toArray
theorem infoLv : (Tryz.prog.info? 172).map (·.size) = some 9 := by kernel_rfl
section
variable {w w' : World}
set_option maxHeartbeats 4000000 in
set_option maxRecDepth 100000 in
theorem levels_calls : Calls Tryz.prog 216 #[] w fun e w' => ∃ g0 g1 g2 g3 g4 g5 g6 g7 g8 : Nat, e = .returned (.agg #[.slice (some ⟨g0, 0, none⟩) 1 1, .slice (some ⟨g1, 0, none⟩) 1 1, .slice (some ⟨g2, 0, none⟩) 2 2, .slice (some ⟨g3, 0, none⟩) 1 1, .slice (some ⟨g4, 0, none⟩) 1 1, .slice (some ⟨g5, 0, none⟩) 8 8, .slice (some ⟨g6, 0, none⟩) 2 2, .slice (some ⟨g7, 0, none⟩) 8 8, .slice (some ⟨g8, 0, none⟩) 6 6]) ∧ (w'.heap[g0]? = some (.cells (strs [⟨#[58, 58]⟩]) 9 (0, 0)) ∧ w'.heap[g1]? = some (.cells (strs [⟨#[124]⟩]) 9 (0, 0)) ∧ w'.heap[g2]? = some (.cells (strs [⟨#[61]⟩, ⟨#[33]⟩]) 9 (0, 0)) ∧ w'.heap[g3]? = some (.cells (strs [⟨#[111, 114, 101, 108, 115, 101]⟩]) 9 (0, 0)) ∧ w'.heap[g4]? = some (.cells (strs [⟨#[97, 110, 100, 97, 108, 115, 111]⟩]) 9 (0, 0)) ∧ w'.heap[g5]? = some (.cells (strs [⟨#[61, 61]⟩, ⟨#[47, 61]⟩, ⟨#[61, 60]⟩, ⟨#[60]⟩, ⟨#[62, 61]⟩, ⟨#[62]⟩, ⟨#[61, 58, 61]⟩, ⟨#[61, 47, 61]⟩]) 9 (0, 0)) ∧ w'.heap[g6]? = some (.cells (strs [⟨#[43, 43]⟩, ⟨#[45, 45]⟩]) 9 (0, 0)) ∧ w'.heap[g7]? = some (.cells (strs [⟨#[43]⟩, ⟨#[45]⟩, ⟨#[98, 111, 114]⟩, ⟨#[98, 120, 111, 114]⟩, ⟨#[98, 115, 108]⟩, ⟨#[98, 115, 114]⟩, ⟨#[111, 114]⟩, ⟨#[120, 111, 114]⟩]) 9 (0, 0)) ∧ w'.heap[g8]? = some (.cells (strs [⟨#[42]⟩, ⟨#[47]⟩, ⟨#[100, 105, 118]⟩, ⟨#[114, 101, 109]⟩, ⟨#[98, 97, 110, 100]⟩, ⟨#[97, 110, 100]⟩]) 9 (0, 0))) ∧ Below w.heap.size w w' := by
  have hu172 := Tryz.underlying172
  have hu24 := Tryz.underlying24
  go_enter Tryz.func216, Tryz.ntmps216
  go_wp2_with (first | ((with_reducible refine gate_dst (N := 0) rfl ?_); (try (refine gate_guard (by rfl) ?_; dsimp only)); refine box_event ?hg (N := 0) ?hd (cs := #[.slice none 0 0, .slice none 0 0, .slice none 0 0, .slice none 0 0, .slice none 0 0, .slice none 0 0, .slice none 0 0, .slice none 0 0, .slice none 0 0]) (t := 172) ?hr ?_; (case hd => rfl); (case hg => rfl); (case hr => first | (go_simp; done) | (go_simp; rfl)); intro gb hg w0 hbox hb; have BX := Aside0.mk hbox; have HB := Aside0.mk hb; have HG := Aside0.mk (show w.heap.size ≤ gb from Nat.le_of_eq hg.symm); clear hbox hb hg) | ((with_reducible refine gate_dst (N := 1) rfl ?_); refine lit_event ?hg (N := 1) ?hd (m := 1) (cs := #[.string (⟨#[58, 58]⟩ : ByteArray)]) (t := 9) ?hr ?_; (case hd => rfl); (case hg => rfl); (case hr => first | (go_simp; done) | (go_simp; rfl)); intro g0 hg w1 hbox hb; have mb := Aside0.mk (blk_below BX.out hb); clear BX; have BX := mb; clear mb; have mh := Aside0.mk (below_step HB.out hb); clear HB; have HB := mh; clear mh; have B0 := Aside0.mk hbox; clear hbox hb hg) | ((with_reducible refine gate_dst (N := 2) rfl ?_); refine lit_event ?hg (N := 2) ?hd (m := 1) (cs := #[.string (⟨#[124]⟩ : ByteArray)]) (t := 9) ?hr ?_; (case hd => rfl); (case hg => rfl); (case hr => first | (go_simp; done) | (go_simp; rfl)); intro g1 hg w2 hbox hb; have m0 := Aside0.mk (blk_below B0.out hb); clear B0; have B0 := m0; clear m0; have mb := Aside0.mk (blk_below BX.out hb); clear BX; have BX := mb; clear mb; have mh := Aside0.mk (below_step HB.out hb); clear HB; have HB := mh; clear mh; have B1 := Aside0.mk hbox; clear hbox hb hg) | ((with_reducible refine gate_dst (N := 3) rfl ?_); refine lit_event ?hg (N := 3) ?hd (m := 2) (cs := #[.string (⟨#[61]⟩ : ByteArray), .string (⟨#[33]⟩ : ByteArray)]) (t := 9) ?hr ?_; (case hd => rfl); (case hg => rfl); (case hr => first | (go_simp; done) | (go_simp; rfl)); intro g2 hg w3 hbox hb; have m0 := Aside0.mk (blk_below B0.out hb); clear B0; have B0 := m0; clear m0; have m1 := Aside0.mk (blk_below B1.out hb); clear B1; have B1 := m1; clear m1; have mb := Aside0.mk (blk_below BX.out hb); clear BX; have BX := mb; clear mb; have mh := Aside0.mk (below_step HB.out hb); clear HB; have HB := mh; clear mh; have B2 := Aside0.mk hbox; clear hbox hb hg) | ((with_reducible refine gate_dst (N := 4) rfl ?_); refine lit_event ?hg (N := 4) ?hd (m := 1) (cs := #[.string (⟨#[111, 114, 101, 108, 115, 101]⟩ : ByteArray)]) (t := 9) ?hr ?_; (case hd => rfl); (case hg => rfl); (case hr => first | (go_simp; done) | (go_simp; rfl)); intro g3 hg w4 hbox hb; have m0 := Aside0.mk (blk_below B0.out hb); clear B0; have B0 := m0; clear m0; have m1 := Aside0.mk (blk_below B1.out hb); clear B1; have B1 := m1; clear m1; have m2 := Aside0.mk (blk_below B2.out hb); clear B2; have B2 := m2; clear m2; have mb := Aside0.mk (blk_below BX.out hb); clear BX; have BX := mb; clear mb; have mh := Aside0.mk (below_step HB.out hb); clear HB; have HB := mh; clear mh; have B3 := Aside0.mk hbox; clear hbox hb hg) | ((with_reducible refine gate_dst (N := 5) rfl ?_); refine lit_event ?hg (N := 5) ?hd (m := 1) (cs := #[.string (⟨#[97, 110, 100, 97, 108, 115, 111]⟩ : ByteArray)]) (t := 9) ?hr ?_; (case hd => rfl); (case hg => rfl); (case hr => first | (go_simp; done) | (go_simp; rfl)); intro g4 hg w5 hbox hb; have m0 := Aside0.mk (blk_below B0.out hb); clear B0; have B0 := m0; clear m0; have m1 := Aside0.mk (blk_below B1.out hb); clear B1; have B1 := m1; clear m1; have m2 := Aside0.mk (blk_below B2.out hb); clear B2; have B2 := m2; clear m2; have m3 := Aside0.mk (blk_below B3.out hb); clear B3; have B3 := m3; clear m3; have mb := Aside0.mk (blk_below BX.out hb); clear BX; have BX := mb; clear mb; have mh := Aside0.mk (below_step HB.out hb); clear HB; have HB := mh; clear mh; have B4 := Aside0.mk hbox; clear hbox hb hg) | ((with_reducible refine gate_dst (N := 6) rfl ?_); refine lit_event ?hg (N := 6) ?hd (m := 8) (cs := #[.string (⟨#[61, 61]⟩ : ByteArray), .string (⟨#[47, 61]⟩ : ByteArray), .string (⟨#[61, 60]⟩ : ByteArray), .string (⟨#[60]⟩ : ByteArray), .string (⟨#[62, 61]⟩ : ByteArray), .string (⟨#[62]⟩ : ByteArray), .string (⟨#[61, 58, 61]⟩ : ByteArray), .string (⟨#[61, 47, 61]⟩ : ByteArray)]) (t := 9) ?hr ?_; (case hd => rfl); (case hg => rfl); (case hr => first | (go_simp; done) | (go_simp; rfl)); intro g5 hg w6 hbox hb; have m0 := Aside0.mk (blk_below B0.out hb); clear B0; have B0 := m0; clear m0; have m1 := Aside0.mk (blk_below B1.out hb); clear B1; have B1 := m1; clear m1; have m2 := Aside0.mk (blk_below B2.out hb); clear B2; have B2 := m2; clear m2; have m3 := Aside0.mk (blk_below B3.out hb); clear B3; have B3 := m3; clear m3; have m4 := Aside0.mk (blk_below B4.out hb); clear B4; have B4 := m4; clear m4; have mb := Aside0.mk (blk_below BX.out hb); clear BX; have BX := mb; clear mb; have mh := Aside0.mk (below_step HB.out hb); clear HB; have HB := mh; clear mh; have B5 := Aside0.mk hbox; clear hbox hb hg) | ((with_reducible refine gate_dst (N := 7) rfl ?_); refine lit_event ?hg (N := 7) ?hd (m := 2) (cs := #[.string (⟨#[43, 43]⟩ : ByteArray), .string (⟨#[45, 45]⟩ : ByteArray)]) (t := 9) ?hr ?_; (case hd => rfl); (case hg => rfl); (case hr => first | (go_simp; done) | (go_simp; rfl)); intro g6 hg w7 hbox hb; have m0 := Aside0.mk (blk_below B0.out hb); clear B0; have B0 := m0; clear m0; have m1 := Aside0.mk (blk_below B1.out hb); clear B1; have B1 := m1; clear m1; have m2 := Aside0.mk (blk_below B2.out hb); clear B2; have B2 := m2; clear m2; have m3 := Aside0.mk (blk_below B3.out hb); clear B3; have B3 := m3; clear m3; have m4 := Aside0.mk (blk_below B4.out hb); clear B4; have B4 := m4; clear m4; have m5 := Aside0.mk (blk_below B5.out hb); clear B5; have B5 := m5; clear m5; have mb := Aside0.mk (blk_below BX.out hb); clear BX; have BX := mb; clear mb; have mh := Aside0.mk (below_step HB.out hb); clear HB; have HB := mh; clear mh; have B6 := Aside0.mk hbox; clear hbox hb hg) | ((with_reducible refine gate_dst (N := 8) rfl ?_); refine lit_event ?hg (N := 8) ?hd (m := 8) (cs := #[.string (⟨#[43]⟩ : ByteArray), .string (⟨#[45]⟩ : ByteArray), .string (⟨#[98, 111, 114]⟩ : ByteArray), .string (⟨#[98, 120, 111, 114]⟩ : ByteArray), .string (⟨#[98, 115, 108]⟩ : ByteArray), .string (⟨#[98, 115, 114]⟩ : ByteArray), .string (⟨#[111, 114]⟩ : ByteArray), .string (⟨#[120, 111, 114]⟩ : ByteArray)]) (t := 9) ?hr ?_; (case hd => rfl); (case hg => rfl); (case hr => first | (go_simp; done) | (go_simp; rfl)); intro g7 hg w8 hbox hb; have m0 := Aside0.mk (blk_below B0.out hb); clear B0; have B0 := m0; clear m0; have m1 := Aside0.mk (blk_below B1.out hb); clear B1; have B1 := m1; clear m1; have m2 := Aside0.mk (blk_below B2.out hb); clear B2; have B2 := m2; clear m2; have m3 := Aside0.mk (blk_below B3.out hb); clear B3; have B3 := m3; clear m3; have m4 := Aside0.mk (blk_below B4.out hb); clear B4; have B4 := m4; clear m4; have m5 := Aside0.mk (blk_below B5.out hb); clear B5; have B5 := m5; clear m5; have m6 := Aside0.mk (blk_below B6.out hb); clear B6; have B6 := m6; clear m6; have mb := Aside0.mk (blk_below BX.out hb); clear BX; have BX := mb; clear mb; have mh := Aside0.mk (below_step HB.out hb); clear HB; have HB := mh; clear mh; have B7 := Aside0.mk hbox; clear hbox hb hg) | ((with_reducible refine gate_dst (N := 9) rfl ?_); refine lit_event ?hg (N := 9) ?hd (m := 6) (cs := #[.string (⟨#[42]⟩ : ByteArray), .string (⟨#[47]⟩ : ByteArray), .string (⟨#[100, 105, 118]⟩ : ByteArray), .string (⟨#[114, 101, 109]⟩ : ByteArray), .string (⟨#[98, 97, 110, 100]⟩ : ByteArray), .string (⟨#[97, 110, 100]⟩ : ByteArray)]) (t := 9) ?hr ?_; (case hd => rfl); (case hg => rfl); (case hr => first | (go_simp; done) | (go_simp; rfl)); intro g8 hg w9 hbox hb; have m0 := Aside0.mk (blk_below B0.out hb); clear B0; have B0 := m0; clear m0; have m1 := Aside0.mk (blk_below B1.out hb); clear B1; have B1 := m1; clear m1; have m2 := Aside0.mk (blk_below B2.out hb); clear B2; have B2 := m2; clear m2; have m3 := Aside0.mk (blk_below B3.out hb); clear B3; have B3 := m3; clear m3; have m4 := Aside0.mk (blk_below B4.out hb); clear B4; have B4 := m4; clear m4; have m5 := Aside0.mk (blk_below B5.out hb); clear B5; have B5 := m5; clear m5; have m6 := Aside0.mk (blk_below B6.out hb); clear B6; have B6 := m6; clear m6; have m7 := Aside0.mk (blk_below B7.out hb); clear B7; have B7 := m7; clear m7; have mb := Aside0.mk (blk_below BX.out hb); clear BX; have BX := mb; clear mb; have mh := Aside0.mk (below_step HB.out hb); clear HB; have HB := mh; clear mh; have B8 := Aside0.mk hbox; clear hbox hb hg; have z0 : w9.cell? ⟨gb, 0, none⟩ = some (.slice none 0 0) := (blk_cell BX.out 0).trans rfl; have y0 := blk_frozen BX.out 0; have z1 : w9.cell? ⟨gb, 1, none⟩ = some (.slice none 0 0) := (blk_cell BX.out 1).trans rfl; have y1 := blk_frozen BX.out 1; have z2 : w9.cell? ⟨gb, 2, none⟩ = some (.slice none 0 0) := (blk_cell BX.out 2).trans rfl; have y2 := blk_frozen BX.out 2; have z3 : w9.cell? ⟨gb, 3, none⟩ = some (.slice none 0 0) := (blk_cell BX.out 3).trans rfl; have y3 := blk_frozen BX.out 3; have z4 : w9.cell? ⟨gb, 4, none⟩ = some (.slice none 0 0) := (blk_cell BX.out 4).trans rfl; have y4 := blk_frozen BX.out 4; have z5 : w9.cell? ⟨gb, 5, none⟩ = some (.slice none 0 0) := (blk_cell BX.out 5).trans rfl; have y5 := blk_frozen BX.out 5; have z6 : w9.cell? ⟨gb, 6, none⟩ = some (.slice none 0 0) := (blk_cell BX.out 6).trans rfl; have y6 := blk_frozen BX.out 6; have z7 : w9.cell? ⟨gb, 7, none⟩ = some (.slice none 0 0) := (blk_cell BX.out 7).trans rfl; have y7 := blk_frozen BX.out 7; have z8 : w9.cell? ⟨gb, 8, none⟩ = some (.slice none 0 0) := (blk_cell BX.out 8).trans rfl; have y8 := blk_frozen BX.out 8))
  have e0 : g0 ≠ gb := fun h => by have h1 := B0.out; rw [h, BX.out] at h1; simp at h1
  have e1 : g1 ≠ gb := fun h => by have h1 := B1.out; rw [h, BX.out] at h1; simp at h1
  have e2 : g2 ≠ gb := fun h => by have h1 := B2.out; rw [h, BX.out] at h1; simp at h1
  have e3 : g3 ≠ gb := fun h => by have h1 := B3.out; rw [h, BX.out] at h1; simp at h1
  have e4 : g4 ≠ gb := fun h => by have h1 := B4.out; rw [h, BX.out] at h1; simp at h1
  have e5 : g5 ≠ gb := fun h => by have h1 := B5.out; rw [h, BX.out] at h1; simp at h1
  have e6 : g6 ≠ gb := fun h => by have h1 := B6.out; rw [h, BX.out] at h1; simp at h1
  have e7 : g7 ≠ gb := fun h => by have h1 := B7.out; rw [h, BX.out] at h1; simp at h1
  have e8 : g8 ≠ gb := fun h => by have h1 := B8.out; rw [h, BX.out] at h1; simp at h1
  refine bodyPost_ret (results_single rfl (.cell gb 172 #[.slice (some ⟨g0, 0, none⟩) 1 1, .slice (some ⟨g1, 0, none⟩) 1 1, .slice (some ⟨g2, 0, none⟩) 2 2, .slice (some ⟨g3, 0, none⟩) 1 1, .slice (some ⟨g4, 0, none⟩) 1 1, .slice (some ⟨g5, 0, none⟩) 8 8, .slice (some ⟨g6, 0, none⟩) 2 2, .slice (some ⟨g7, 0, none⟩) 8 8, .slice (some ⟨g8, 0, none⟩) 6 6] (0, 0) _ rfl (by
    refine blk_put (cs := #[.slice (some ⟨g0, 0, none⟩) 1 1, .slice (some ⟨g1, 0, none⟩) 1 1, .slice (some ⟨g2, 0, none⟩) 2 2, .slice (some ⟨g3, 0, none⟩) 1 1, .slice (some ⟨g4, 0, none⟩) 1 1, .slice (some ⟨g5, 0, none⟩) 8 8, .slice (some ⟨g6, 0, none⟩) 2 2, .slice (some ⟨g7, 0, none⟩) 8 8, .slice none 0 0]) ?_ 8 _ rfl
    refine blk_put (cs := #[.slice (some ⟨g0, 0, none⟩) 1 1, .slice (some ⟨g1, 0, none⟩) 1 1, .slice (some ⟨g2, 0, none⟩) 2 2, .slice (some ⟨g3, 0, none⟩) 1 1, .slice (some ⟨g4, 0, none⟩) 1 1, .slice (some ⟨g5, 0, none⟩) 8 8, .slice (some ⟨g6, 0, none⟩) 2 2, .slice none 0 0, .slice none 0 0]) ?_ 7 _ rfl
    refine blk_put (cs := #[.slice (some ⟨g0, 0, none⟩) 1 1, .slice (some ⟨g1, 0, none⟩) 1 1, .slice (some ⟨g2, 0, none⟩) 2 2, .slice (some ⟨g3, 0, none⟩) 1 1, .slice (some ⟨g4, 0, none⟩) 1 1, .slice (some ⟨g5, 0, none⟩) 8 8, .slice none 0 0, .slice none 0 0, .slice none 0 0]) ?_ 6 _ rfl
    refine blk_put (cs := #[.slice (some ⟨g0, 0, none⟩) 1 1, .slice (some ⟨g1, 0, none⟩) 1 1, .slice (some ⟨g2, 0, none⟩) 2 2, .slice (some ⟨g3, 0, none⟩) 1 1, .slice (some ⟨g4, 0, none⟩) 1 1, .slice none 0 0, .slice none 0 0, .slice none 0 0, .slice none 0 0]) ?_ 5 _ rfl
    refine blk_put (cs := #[.slice (some ⟨g0, 0, none⟩) 1 1, .slice (some ⟨g1, 0, none⟩) 1 1, .slice (some ⟨g2, 0, none⟩) 2 2, .slice (some ⟨g3, 0, none⟩) 1 1, .slice none 0 0, .slice none 0 0, .slice none 0 0, .slice none 0 0, .slice none 0 0]) ?_ 4 _ rfl
    refine blk_put (cs := #[.slice (some ⟨g0, 0, none⟩) 1 1, .slice (some ⟨g1, 0, none⟩) 1 1, .slice (some ⟨g2, 0, none⟩) 2 2, .slice none 0 0, .slice none 0 0, .slice none 0 0, .slice none 0 0, .slice none 0 0, .slice none 0 0]) ?_ 3 _ rfl
    refine blk_put (cs := #[.slice (some ⟨g0, 0, none⟩) 1 1, .slice (some ⟨g1, 0, none⟩) 1 1, .slice none 0 0, .slice none 0 0, .slice none 0 0, .slice none 0 0, .slice none 0 0, .slice none 0 0, .slice none 0 0]) ?_ 2 _ rfl
    refine blk_put (cs := #[.slice (some ⟨g0, 0, none⟩) 1 1, .slice none 0 0, .slice none 0 0, .slice none 0 0, .slice none 0 0, .slice none 0 0, .slice none 0 0, .slice none 0 0, .slice none 0 0]) ?_ 1 _ rfl
    refine blk_put (cs := #[.slice none 0 0, .slice none 0 0, .slice none 0 0, .slice none 0 0, .slice none 0 0, .slice none 0 0, .slice none 0 0, .slice none 0 0, .slice none 0 0]) ?_ 0 _ rfl
    exact BX.out) hu172 rfl infoLv .nil)) rfl ?_
  refine ⟨g0, g1, g2, g3, g4, g5, g6, g7, g8, rfl, ?_, ?_⟩
  · refine ⟨?_, ?_, ?_, ?_, ?_, ?_, ?_, ?_, ?_⟩
    all_goals (repeat (refine blk_far ?_ (p := ⟨gb, _, none⟩) (by assumption) _))
    · exact B0.out
    · exact B1.out
    · exact B2.out
    · exact B3.out
    · exact B4.out
    · exact B5.out
    · exact B6.out
    · exact B7.out
    · exact B8.out
  · have hg := HG.out
    exact (((((((((HB.out).setCell (by exact hg) _).setCell (by exact hg) _).setCell (by exact hg) _).setCell (by exact hg) _).setCell (by exact hg) _).setCell (by exact hg) _).setCell (by exact hg) _).setCell (by exact hg) _).setCell (by exact hg) _
end
end Go.Proofs.YthipodffpkglfaaGreatDoor.PS
namespace Go.Proofs.YthipodffpkglfaaGreatDoor.PS
open Go.RowKit Go.Proofs.YthipodffpkglfaaGreatDoorW.PrintWords Go.Proofs.YthipodffpkglfaaGreatDoorW.PrintLast Go.Proofs.YthipodffpkglfaaGreatDoorW.PrintMore
set_option linter.unusedVariables false
set_option linter.unusedSimpArgs false
/-- Is a text among some? -/
def amongB : List ByteArray → ByteArray → Bool
  | [], _ => false
  | x :: r, s => (x.toList == s.toList) || amongB r s
def binF : List (List ByteArray) → Int → ByteArray → Int
  | [], _, _ => 0
  | l :: r, i, s => if amongB l s = true then i + 1 else binF r (i + 1) s
/-- An operator's level; 0: it is none. -/
def binL (s : ByteArray) : Int := binF LV 0 s
theorem among_drop (l : List ByteArray) (s : ByteArray) (j : Nat) (h : j < l.length) : amongB (l.drop j) s = ((l[j].toList == s.toList) || amongB (l.drop (j + 1)) s) := by rw [List.drop_eq_getElem_cons h]; rfl
section
variable {w w' : World} {s : ByteArray}
set_option maxHeartbeats 8000000 in
set_option maxRecDepth 100000 in
theorem binary_calls : Calls Tryz.prog 203 #[.string s] w fun e w' => e = .returned (.int .i64 (binL s)) ∧ Below w.heap.size w w' := by
  have hu172 := Tryz.underlying172
  have hu24 := Tryz.underlying24
  go_enter Tryz.func203, Tryz.ntmps203
  go_wp2_with (first | ((with_reducible refine gate_dst (N := 7) rfl ?_); refine goesL_ (some 7) rfl rfl Tryz.func216 (by kernel_rfl) rfl #[] rfl (by (try simp only [List.map_toArray, List.map_cons, List.map_nil]); first | done | rfl) ?_; (refine (levels_calls).mono ?_); (rintro e w107 ⟨g0, g1, g2, g3, g4, g5, g6, g7, g8, rfl, ⟨b0, b1, b2, b3, b4, b5, b6, b7, b8⟩, hb⟩; refine ⟨_, rfl, ?_⟩; have HB := Aside0.mk hb; have B0 := Aside0.mk b0; have B1 := Aside0.mk b1; have B2 := Aside0.mk b2; have B3 := Aside0.mk b3; have B4 := Aside0.mk b4; have B5 := Aside0.mk b5; have B6 := Aside0.mk b6; have B7 := Aside0.mk b7; have B8 := Aside0.mk b8; clear hb b0 b1 b2 b3 b4 b5 b6 b7 b8)))
  go_loopg [8] 9 (fun k' v8 wr => ∃ (i : Nat) (z : Int), v8 = .int .i64 z ∧ Aside0 (z = i) ∧ i ≤ 9 ∧ Aside0 (k' + i = 9) ∧ Aside0 (binF (LV.drop i) i s = binF LV 0 s) ∧ wr = w107)
  case atStart => exact ⟨0, 0, rfl, ⟨rfl⟩, by omega, ⟨rfl⟩, ⟨rfl⟩, rfl⟩
  case round =>
    obtain ⟨i, z, rfl, HZ, hi, HK, HR, rfl⟩ := hrel
    rcases (show i = 0 ∨ i = 1 ∨ i = 2 ∨ i = 3 ∨ i = 4 ∨ i = 5 ∨ i = 6 ∨ i = 7 ∨ i = 8 ∨ i = 9 by omega) with rfl | rfl | rfl | rfl | rfl | rfl | rfl | rfl | rfl | rfl
    · have HL := Aside0.mk (show amongB [(⟨#[58, 58]⟩ : ByteArray)] s = true → binF (LV.drop 0) ((0 : Nat) : Int) s = ((1 : Nat) : Int) from fun h => by show (if amongB _ s = true then _ else _) = _; rw [if_pos h]; rfl)
      have HL2 := Aside0.mk (show amongB [(⟨#[58, 58]⟩ : ByteArray)] s = false → binF (LV.drop 0) ((0 : Nat) : Int) s = binF (LV.drop 1) ((1 : Nat) : Int) s from fun h => by show (if amongB _ s = true then _ else _) = _; rw [if_neg (by rw [h]; decide)]; rfl)
      obtain rfl : z = 0 := by have := HZ.out; omega
      have hix : ∀ W, (Instr.index 172 (.agg #[.slice (some ⟨g0, 0, none⟩) 1 1, .slice (some ⟨g1, 0, none⟩) 1 1, .slice (some ⟨g2, 0, none⟩) 2 2, .slice (some ⟨g3, 0, none⟩) 1 1, .slice (some ⟨g4, 0, none⟩) 1 1, .slice (some ⟨g5, 0, none⟩) 8 8, .slice (some ⟨g6, 0, none⟩) 2 2, .slice (some ⟨g7, 0, none⟩) 8 8, .slice (some ⟨g8, 0, none⟩) 6 6]) (.int .i64 0)).run Tryz.prog W = .ok (.slice (some ⟨g0, 0, none⟩) 1 1) W := fun W => by simp [Instr.index, run_underlying hu172, asIntOf, go_sem]
      go_wp2_with fail
      go_loopg [14] 1 (fun k' v14 wi => ∃ j : Nat, v14 = .int .i64 j ∧ j ≤ 1 ∧ Aside0 (k' + j = 1) ∧ Aside0 (amongB [(⟨#[58, 58]⟩ : ByteArray)] s = amongB (([(⟨#[58, 58]⟩ : ByteArray)] : List ByteArray).drop j) s) ∧ wi = wr)
      case atStart => exact ⟨0, rfl, Nat.zero_le _, ⟨rfl⟩, ⟨rfl⟩, rfl⟩
      case round =>
        obtain ⟨j, rfl, hj, HJ, HA, rfl⟩ := hrel
        by_cases hlt : j < 1
        · obtain ⟨t, ht⟩ : ∃ t, ([(⟨#[58, 58]⟩ : ByteArray)] : List ByteArray)[j]? = some t := ⟨_, List.getElem?_eq_getElem hlt⟩
          have q0 : wr.cell? ⟨g0, j, none⟩ = some (.string t) := (blk_cell B0.out j).trans (by simp only [strs, List.getElem?_toArray, List.getElem?_map, ht, Option.map_some])
          have HD := Aside0.mk (among_drop [(⟨#[58, 58]⟩ : ByteArray)] s j hlt)
          have HT := Aside0.mk ((List.getElem?_eq_some_iff.1 ht).2)
          cases he : (t.toList == s.toList)
          · go_wp2_with fail
            go_roundg (1 - (j + 1))
            case measure => have := HJ.out; omega
            case rel => exact ⟨j + 1, by go_num, by omega, ⟨by omega⟩, ⟨by rw [HA.out, HD.out, HT.out, he, Bool.false_or]⟩, rfl⟩
          · go_wp2_with fail
            go_ret
            exact ⟨(by rw [binL, ← HR.out, HL.out (by rw [HA.out, HD.out, HT.out, he, Bool.true_or])] <;> rfl), HB.out⟩
        · obtain rfl : j = 1 := by omega
          have hno : amongB [(⟨#[58, 58]⟩ : ByteArray)] s = false := by rw [HA.out]; rfl
          go_wp2_with fail
          go_roundg 8
          case measure => have := HK.out; omega
          case rel => exact ⟨1, _, rfl, ⟨by first | rfl | omega⟩, by omega, ⟨by omega⟩, ⟨by rw [← HR.out, HL2.out hno]⟩, rfl⟩
    · have HL := Aside0.mk (show amongB [(⟨#[124]⟩ : ByteArray)] s = true → binF (LV.drop 1) ((1 : Nat) : Int) s = ((2 : Nat) : Int) from fun h => by show (if amongB _ s = true then _ else _) = _; rw [if_pos h]; rfl)
      have HL2 := Aside0.mk (show amongB [(⟨#[124]⟩ : ByteArray)] s = false → binF (LV.drop 1) ((1 : Nat) : Int) s = binF (LV.drop 2) ((2 : Nat) : Int) s from fun h => by show (if amongB _ s = true then _ else _) = _; rw [if_neg (by rw [h]; decide)]; rfl)
      obtain rfl : z = 1 := by have := HZ.out; omega
      have hix : ∀ W, (Instr.index 172 (.agg #[.slice (some ⟨g0, 0, none⟩) 1 1, .slice (some ⟨g1, 0, none⟩) 1 1, .slice (some ⟨g2, 0, none⟩) 2 2, .slice (some ⟨g3, 0, none⟩) 1 1, .slice (some ⟨g4, 0, none⟩) 1 1, .slice (some ⟨g5, 0, none⟩) 8 8, .slice (some ⟨g6, 0, none⟩) 2 2, .slice (some ⟨g7, 0, none⟩) 8 8, .slice (some ⟨g8, 0, none⟩) 6 6]) (.int .i64 1)).run Tryz.prog W = .ok (.slice (some ⟨g1, 0, none⟩) 1 1) W := fun W => by simp [Instr.index, run_underlying hu172, asIntOf, go_sem]
      go_wp2_with fail
      go_loopg [14] 1 (fun k' v14 wi => ∃ j : Nat, v14 = .int .i64 j ∧ j ≤ 1 ∧ Aside0 (k' + j = 1) ∧ Aside0 (amongB [(⟨#[124]⟩ : ByteArray)] s = amongB (([(⟨#[124]⟩ : ByteArray)] : List ByteArray).drop j) s) ∧ wi = wr)
      case atStart => exact ⟨0, rfl, Nat.zero_le _, ⟨rfl⟩, ⟨rfl⟩, rfl⟩
      case round =>
        obtain ⟨j, rfl, hj, HJ, HA, rfl⟩ := hrel
        by_cases hlt : j < 1
        · obtain ⟨t, ht⟩ : ∃ t, ([(⟨#[124]⟩ : ByteArray)] : List ByteArray)[j]? = some t := ⟨_, List.getElem?_eq_getElem hlt⟩
          have q0 : wr.cell? ⟨g1, j, none⟩ = some (.string t) := (blk_cell B1.out j).trans (by simp only [strs, List.getElem?_toArray, List.getElem?_map, ht, Option.map_some])
          have HD := Aside0.mk (among_drop [(⟨#[124]⟩ : ByteArray)] s j hlt)
          have HT := Aside0.mk ((List.getElem?_eq_some_iff.1 ht).2)
          cases he : (t.toList == s.toList)
          · go_wp2_with fail
            go_roundg (1 - (j + 1))
            case measure => have := HJ.out; omega
            case rel => exact ⟨j + 1, by go_num, by omega, ⟨by omega⟩, ⟨by rw [HA.out, HD.out, HT.out, he, Bool.false_or]⟩, rfl⟩
          · go_wp2_with fail
            go_ret
            exact ⟨(by rw [binL, ← HR.out, HL.out (by rw [HA.out, HD.out, HT.out, he, Bool.true_or])] <;> rfl), HB.out⟩
        · obtain rfl : j = 1 := by omega
          have hno : amongB [(⟨#[124]⟩ : ByteArray)] s = false := by rw [HA.out]; rfl
          go_wp2_with fail
          go_roundg 7
          case measure => have := HK.out; omega
          case rel => exact ⟨2, _, rfl, ⟨by first | rfl | omega⟩, by omega, ⟨by omega⟩, ⟨by rw [← HR.out, HL2.out hno]⟩, rfl⟩
    · have HL := Aside0.mk (show amongB [(⟨#[61]⟩ : ByteArray), (⟨#[33]⟩ : ByteArray)] s = true → binF (LV.drop 2) ((2 : Nat) : Int) s = ((3 : Nat) : Int) from fun h => by show (if amongB _ s = true then _ else _) = _; rw [if_pos h]; rfl)
      have HL2 := Aside0.mk (show amongB [(⟨#[61]⟩ : ByteArray), (⟨#[33]⟩ : ByteArray)] s = false → binF (LV.drop 2) ((2 : Nat) : Int) s = binF (LV.drop 3) ((3 : Nat) : Int) s from fun h => by show (if amongB _ s = true then _ else _) = _; rw [if_neg (by rw [h]; decide)]; rfl)
      obtain rfl : z = 2 := by have := HZ.out; omega
      have hix : ∀ W, (Instr.index 172 (.agg #[.slice (some ⟨g0, 0, none⟩) 1 1, .slice (some ⟨g1, 0, none⟩) 1 1, .slice (some ⟨g2, 0, none⟩) 2 2, .slice (some ⟨g3, 0, none⟩) 1 1, .slice (some ⟨g4, 0, none⟩) 1 1, .slice (some ⟨g5, 0, none⟩) 8 8, .slice (some ⟨g6, 0, none⟩) 2 2, .slice (some ⟨g7, 0, none⟩) 8 8, .slice (some ⟨g8, 0, none⟩) 6 6]) (.int .i64 2)).run Tryz.prog W = .ok (.slice (some ⟨g2, 0, none⟩) 2 2) W := fun W => by simp [Instr.index, run_underlying hu172, asIntOf, go_sem]
      go_wp2_with fail
      go_loopg [14] 2 (fun k' v14 wi => ∃ j : Nat, v14 = .int .i64 j ∧ j ≤ 2 ∧ Aside0 (k' + j = 2) ∧ Aside0 (amongB [(⟨#[61]⟩ : ByteArray), (⟨#[33]⟩ : ByteArray)] s = amongB (([(⟨#[61]⟩ : ByteArray), (⟨#[33]⟩ : ByteArray)] : List ByteArray).drop j) s) ∧ wi = wr)
      case atStart => exact ⟨0, rfl, Nat.zero_le _, ⟨rfl⟩, ⟨rfl⟩, rfl⟩
      case round =>
        obtain ⟨j, rfl, hj, HJ, HA, rfl⟩ := hrel
        by_cases hlt : j < 2
        · obtain ⟨t, ht⟩ : ∃ t, ([(⟨#[61]⟩ : ByteArray), (⟨#[33]⟩ : ByteArray)] : List ByteArray)[j]? = some t := ⟨_, List.getElem?_eq_getElem hlt⟩
          have q0 : wr.cell? ⟨g2, j, none⟩ = some (.string t) := (blk_cell B2.out j).trans (by simp only [strs, List.getElem?_toArray, List.getElem?_map, ht, Option.map_some])
          have HD := Aside0.mk (among_drop [(⟨#[61]⟩ : ByteArray), (⟨#[33]⟩ : ByteArray)] s j hlt)
          have HT := Aside0.mk ((List.getElem?_eq_some_iff.1 ht).2)
          cases he : (t.toList == s.toList)
          · go_wp2_with fail
            go_roundg (2 - (j + 1))
            case measure => have := HJ.out; omega
            case rel => exact ⟨j + 1, by go_num, by omega, ⟨by omega⟩, ⟨by rw [HA.out, HD.out, HT.out, he, Bool.false_or]⟩, rfl⟩
          · go_wp2_with fail
            go_ret
            exact ⟨(by rw [binL, ← HR.out, HL.out (by rw [HA.out, HD.out, HT.out, he, Bool.true_or])] <;> rfl), HB.out⟩
        · obtain rfl : j = 2 := by omega
          have hno : amongB [(⟨#[61]⟩ : ByteArray), (⟨#[33]⟩ : ByteArray)] s = false := by rw [HA.out]; rfl
          go_wp2_with fail
          go_roundg 6
          case measure => have := HK.out; omega
          case rel => exact ⟨3, _, rfl, ⟨by first | rfl | omega⟩, by omega, ⟨by omega⟩, ⟨by rw [← HR.out, HL2.out hno]⟩, rfl⟩
    · have HL := Aside0.mk (show amongB [(⟨#[111, 114, 101, 108, 115, 101]⟩ : ByteArray)] s = true → binF (LV.drop 3) ((3 : Nat) : Int) s = ((4 : Nat) : Int) from fun h => by show (if amongB _ s = true then _ else _) = _; rw [if_pos h]; rfl)
      have HL2 := Aside0.mk (show amongB [(⟨#[111, 114, 101, 108, 115, 101]⟩ : ByteArray)] s = false → binF (LV.drop 3) ((3 : Nat) : Int) s = binF (LV.drop 4) ((4 : Nat) : Int) s from fun h => by show (if amongB _ s = true then _ else _) = _; rw [if_neg (by rw [h]; decide)]; rfl)
      obtain rfl : z = 3 := by have := HZ.out; omega
      have hix : ∀ W, (Instr.index 172 (.agg #[.slice (some ⟨g0, 0, none⟩) 1 1, .slice (some ⟨g1, 0, none⟩) 1 1, .slice (some ⟨g2, 0, none⟩) 2 2, .slice (some ⟨g3, 0, none⟩) 1 1, .slice (some ⟨g4, 0, none⟩) 1 1, .slice (some ⟨g5, 0, none⟩) 8 8, .slice (some ⟨g6, 0, none⟩) 2 2, .slice (some ⟨g7, 0, none⟩) 8 8, .slice (some ⟨g8, 0, none⟩) 6 6]) (.int .i64 3)).run Tryz.prog W = .ok (.slice (some ⟨g3, 0, none⟩) 1 1) W := fun W => by simp [Instr.index, run_underlying hu172, asIntOf, go_sem]
      go_wp2_with fail
      go_loopg [14] 1 (fun k' v14 wi => ∃ j : Nat, v14 = .int .i64 j ∧ j ≤ 1 ∧ Aside0 (k' + j = 1) ∧ Aside0 (amongB [(⟨#[111, 114, 101, 108, 115, 101]⟩ : ByteArray)] s = amongB (([(⟨#[111, 114, 101, 108, 115, 101]⟩ : ByteArray)] : List ByteArray).drop j) s) ∧ wi = wr)
      case atStart => exact ⟨0, rfl, Nat.zero_le _, ⟨rfl⟩, ⟨rfl⟩, rfl⟩
      case round =>
        obtain ⟨j, rfl, hj, HJ, HA, rfl⟩ := hrel
        by_cases hlt : j < 1
        · obtain ⟨t, ht⟩ : ∃ t, ([(⟨#[111, 114, 101, 108, 115, 101]⟩ : ByteArray)] : List ByteArray)[j]? = some t := ⟨_, List.getElem?_eq_getElem hlt⟩
          have q0 : wr.cell? ⟨g3, j, none⟩ = some (.string t) := (blk_cell B3.out j).trans (by simp only [strs, List.getElem?_toArray, List.getElem?_map, ht, Option.map_some])
          have HD := Aside0.mk (among_drop [(⟨#[111, 114, 101, 108, 115, 101]⟩ : ByteArray)] s j hlt)
          have HT := Aside0.mk ((List.getElem?_eq_some_iff.1 ht).2)
          cases he : (t.toList == s.toList)
          · go_wp2_with fail
            go_roundg (1 - (j + 1))
            case measure => have := HJ.out; omega
            case rel => exact ⟨j + 1, by go_num, by omega, ⟨by omega⟩, ⟨by rw [HA.out, HD.out, HT.out, he, Bool.false_or]⟩, rfl⟩
          · go_wp2_with fail
            go_ret
            exact ⟨(by rw [binL, ← HR.out, HL.out (by rw [HA.out, HD.out, HT.out, he, Bool.true_or])] <;> rfl), HB.out⟩
        · obtain rfl : j = 1 := by omega
          have hno : amongB [(⟨#[111, 114, 101, 108, 115, 101]⟩ : ByteArray)] s = false := by rw [HA.out]; rfl
          go_wp2_with fail
          go_roundg 5
          case measure => have := HK.out; omega
          case rel => exact ⟨4, _, rfl, ⟨by first | rfl | omega⟩, by omega, ⟨by omega⟩, ⟨by rw [← HR.out, HL2.out hno]⟩, rfl⟩
    · have HL := Aside0.mk (show amongB [(⟨#[97, 110, 100, 97, 108, 115, 111]⟩ : ByteArray)] s = true → binF (LV.drop 4) ((4 : Nat) : Int) s = ((5 : Nat) : Int) from fun h => by show (if amongB _ s = true then _ else _) = _; rw [if_pos h]; rfl)
      have HL2 := Aside0.mk (show amongB [(⟨#[97, 110, 100, 97, 108, 115, 111]⟩ : ByteArray)] s = false → binF (LV.drop 4) ((4 : Nat) : Int) s = binF (LV.drop 5) ((5 : Nat) : Int) s from fun h => by show (if amongB _ s = true then _ else _) = _; rw [if_neg (by rw [h]; decide)]; rfl)
      obtain rfl : z = 4 := by have := HZ.out; omega
      have hix : ∀ W, (Instr.index 172 (.agg #[.slice (some ⟨g0, 0, none⟩) 1 1, .slice (some ⟨g1, 0, none⟩) 1 1, .slice (some ⟨g2, 0, none⟩) 2 2, .slice (some ⟨g3, 0, none⟩) 1 1, .slice (some ⟨g4, 0, none⟩) 1 1, .slice (some ⟨g5, 0, none⟩) 8 8, .slice (some ⟨g6, 0, none⟩) 2 2, .slice (some ⟨g7, 0, none⟩) 8 8, .slice (some ⟨g8, 0, none⟩) 6 6]) (.int .i64 4)).run Tryz.prog W = .ok (.slice (some ⟨g4, 0, none⟩) 1 1) W := fun W => by simp [Instr.index, run_underlying hu172, asIntOf, go_sem]
      go_wp2_with fail
      go_loopg [14] 1 (fun k' v14 wi => ∃ j : Nat, v14 = .int .i64 j ∧ j ≤ 1 ∧ Aside0 (k' + j = 1) ∧ Aside0 (amongB [(⟨#[97, 110, 100, 97, 108, 115, 111]⟩ : ByteArray)] s = amongB (([(⟨#[97, 110, 100, 97, 108, 115, 111]⟩ : ByteArray)] : List ByteArray).drop j) s) ∧ wi = wr)
      case atStart => exact ⟨0, rfl, Nat.zero_le _, ⟨rfl⟩, ⟨rfl⟩, rfl⟩
      case round =>
        obtain ⟨j, rfl, hj, HJ, HA, rfl⟩ := hrel
        by_cases hlt : j < 1
        · obtain ⟨t, ht⟩ : ∃ t, ([(⟨#[97, 110, 100, 97, 108, 115, 111]⟩ : ByteArray)] : List ByteArray)[j]? = some t := ⟨_, List.getElem?_eq_getElem hlt⟩
          have q0 : wr.cell? ⟨g4, j, none⟩ = some (.string t) := (blk_cell B4.out j).trans (by simp only [strs, List.getElem?_toArray, List.getElem?_map, ht, Option.map_some])
          have HD := Aside0.mk (among_drop [(⟨#[97, 110, 100, 97, 108, 115, 111]⟩ : ByteArray)] s j hlt)
          have HT := Aside0.mk ((List.getElem?_eq_some_iff.1 ht).2)
          cases he : (t.toList == s.toList)
          · go_wp2_with fail
            go_roundg (1 - (j + 1))
            case measure => have := HJ.out; omega
            case rel => exact ⟨j + 1, by go_num, by omega, ⟨by omega⟩, ⟨by rw [HA.out, HD.out, HT.out, he, Bool.false_or]⟩, rfl⟩
          · go_wp2_with fail
            go_ret
            exact ⟨(by rw [binL, ← HR.out, HL.out (by rw [HA.out, HD.out, HT.out, he, Bool.true_or])] <;> rfl), HB.out⟩
        · obtain rfl : j = 1 := by omega
          have hno : amongB [(⟨#[97, 110, 100, 97, 108, 115, 111]⟩ : ByteArray)] s = false := by rw [HA.out]; rfl
          go_wp2_with fail
          go_roundg 4
          case measure => have := HK.out; omega
          case rel => exact ⟨5, _, rfl, ⟨by first | rfl | omega⟩, by omega, ⟨by omega⟩, ⟨by rw [← HR.out, HL2.out hno]⟩, rfl⟩
    · have HL := Aside0.mk (show amongB [(⟨#[61, 61]⟩ : ByteArray), (⟨#[47, 61]⟩ : ByteArray), (⟨#[61, 60]⟩ : ByteArray), (⟨#[60]⟩ : ByteArray), (⟨#[62, 61]⟩ : ByteArray), (⟨#[62]⟩ : ByteArray), (⟨#[61, 58, 61]⟩ : ByteArray), (⟨#[61, 47, 61]⟩ : ByteArray)] s = true → binF (LV.drop 5) ((5 : Nat) : Int) s = ((6 : Nat) : Int) from fun h => by show (if amongB _ s = true then _ else _) = _; rw [if_pos h]; rfl)
      have HL2 := Aside0.mk (show amongB [(⟨#[61, 61]⟩ : ByteArray), (⟨#[47, 61]⟩ : ByteArray), (⟨#[61, 60]⟩ : ByteArray), (⟨#[60]⟩ : ByteArray), (⟨#[62, 61]⟩ : ByteArray), (⟨#[62]⟩ : ByteArray), (⟨#[61, 58, 61]⟩ : ByteArray), (⟨#[61, 47, 61]⟩ : ByteArray)] s = false → binF (LV.drop 5) ((5 : Nat) : Int) s = binF (LV.drop 6) ((6 : Nat) : Int) s from fun h => by show (if amongB _ s = true then _ else _) = _; rw [if_neg (by rw [h]; decide)]; rfl)
      obtain rfl : z = 5 := by have := HZ.out; omega
      have hix : ∀ W, (Instr.index 172 (.agg #[.slice (some ⟨g0, 0, none⟩) 1 1, .slice (some ⟨g1, 0, none⟩) 1 1, .slice (some ⟨g2, 0, none⟩) 2 2, .slice (some ⟨g3, 0, none⟩) 1 1, .slice (some ⟨g4, 0, none⟩) 1 1, .slice (some ⟨g5, 0, none⟩) 8 8, .slice (some ⟨g6, 0, none⟩) 2 2, .slice (some ⟨g7, 0, none⟩) 8 8, .slice (some ⟨g8, 0, none⟩) 6 6]) (.int .i64 5)).run Tryz.prog W = .ok (.slice (some ⟨g5, 0, none⟩) 8 8) W := fun W => by simp [Instr.index, run_underlying hu172, asIntOf, go_sem]
      go_wp2_with fail
      go_loopg [14] 8 (fun k' v14 wi => ∃ j : Nat, v14 = .int .i64 j ∧ j ≤ 8 ∧ Aside0 (k' + j = 8) ∧ Aside0 (amongB [(⟨#[61, 61]⟩ : ByteArray), (⟨#[47, 61]⟩ : ByteArray), (⟨#[61, 60]⟩ : ByteArray), (⟨#[60]⟩ : ByteArray), (⟨#[62, 61]⟩ : ByteArray), (⟨#[62]⟩ : ByteArray), (⟨#[61, 58, 61]⟩ : ByteArray), (⟨#[61, 47, 61]⟩ : ByteArray)] s = amongB (([(⟨#[61, 61]⟩ : ByteArray), (⟨#[47, 61]⟩ : ByteArray), (⟨#[61, 60]⟩ : ByteArray), (⟨#[60]⟩ : ByteArray), (⟨#[62, 61]⟩ : ByteArray), (⟨#[62]⟩ : ByteArray), (⟨#[61, 58, 61]⟩ : ByteArray), (⟨#[61, 47, 61]⟩ : ByteArray)] : List ByteArray).drop j) s) ∧ wi = wr)
      case atStart => exact ⟨0, rfl, Nat.zero_le _, ⟨rfl⟩, ⟨rfl⟩, rfl⟩
      case round =>
        obtain ⟨j, rfl, hj, HJ, HA, rfl⟩ := hrel
        by_cases hlt : j < 8
        · obtain ⟨t, ht⟩ : ∃ t, ([(⟨#[61, 61]⟩ : ByteArray), (⟨#[47, 61]⟩ : ByteArray), (⟨#[61, 60]⟩ : ByteArray), (⟨#[60]⟩ : ByteArray), (⟨#[62, 61]⟩ : ByteArray), (⟨#[62]⟩ : ByteArray), (⟨#[61, 58, 61]⟩ : ByteArray), (⟨#[61, 47, 61]⟩ : ByteArray)] : List ByteArray)[j]? = some t := ⟨_, List.getElem?_eq_getElem hlt⟩
          have q0 : wr.cell? ⟨g5, j, none⟩ = some (.string t) := (blk_cell B5.out j).trans (by simp only [strs, List.getElem?_toArray, List.getElem?_map, ht, Option.map_some])
          have HD := Aside0.mk (among_drop [(⟨#[61, 61]⟩ : ByteArray), (⟨#[47, 61]⟩ : ByteArray), (⟨#[61, 60]⟩ : ByteArray), (⟨#[60]⟩ : ByteArray), (⟨#[62, 61]⟩ : ByteArray), (⟨#[62]⟩ : ByteArray), (⟨#[61, 58, 61]⟩ : ByteArray), (⟨#[61, 47, 61]⟩ : ByteArray)] s j hlt)
          have HT := Aside0.mk ((List.getElem?_eq_some_iff.1 ht).2)
          cases he : (t.toList == s.toList)
          · go_wp2_with fail
            go_roundg (8 - (j + 1))
            case measure => have := HJ.out; omega
            case rel => exact ⟨j + 1, by go_num, by omega, ⟨by omega⟩, ⟨by rw [HA.out, HD.out, HT.out, he, Bool.false_or]⟩, rfl⟩
          · go_wp2_with fail
            go_ret
            exact ⟨(by rw [binL, ← HR.out, HL.out (by rw [HA.out, HD.out, HT.out, he, Bool.true_or])] <;> rfl), HB.out⟩
        · obtain rfl : j = 8 := by omega
          have hno : amongB [(⟨#[61, 61]⟩ : ByteArray), (⟨#[47, 61]⟩ : ByteArray), (⟨#[61, 60]⟩ : ByteArray), (⟨#[60]⟩ : ByteArray), (⟨#[62, 61]⟩ : ByteArray), (⟨#[62]⟩ : ByteArray), (⟨#[61, 58, 61]⟩ : ByteArray), (⟨#[61, 47, 61]⟩ : ByteArray)] s = false := by rw [HA.out]; rfl
          go_wp2_with fail
          go_roundg 3
          case measure => have := HK.out; omega
          case rel => exact ⟨6, _, rfl, ⟨by first | rfl | omega⟩, by omega, ⟨by omega⟩, ⟨by rw [← HR.out, HL2.out hno]⟩, rfl⟩
    · have HL := Aside0.mk (show amongB [(⟨#[43, 43]⟩ : ByteArray), (⟨#[45, 45]⟩ : ByteArray)] s = true → binF (LV.drop 6) ((6 : Nat) : Int) s = ((7 : Nat) : Int) from fun h => by show (if amongB _ s = true then _ else _) = _; rw [if_pos h]; rfl)
      have HL2 := Aside0.mk (show amongB [(⟨#[43, 43]⟩ : ByteArray), (⟨#[45, 45]⟩ : ByteArray)] s = false → binF (LV.drop 6) ((6 : Nat) : Int) s = binF (LV.drop 7) ((7 : Nat) : Int) s from fun h => by show (if amongB _ s = true then _ else _) = _; rw [if_neg (by rw [h]; decide)]; rfl)
      obtain rfl : z = 6 := by have := HZ.out; omega
      have hix : ∀ W, (Instr.index 172 (.agg #[.slice (some ⟨g0, 0, none⟩) 1 1, .slice (some ⟨g1, 0, none⟩) 1 1, .slice (some ⟨g2, 0, none⟩) 2 2, .slice (some ⟨g3, 0, none⟩) 1 1, .slice (some ⟨g4, 0, none⟩) 1 1, .slice (some ⟨g5, 0, none⟩) 8 8, .slice (some ⟨g6, 0, none⟩) 2 2, .slice (some ⟨g7, 0, none⟩) 8 8, .slice (some ⟨g8, 0, none⟩) 6 6]) (.int .i64 6)).run Tryz.prog W = .ok (.slice (some ⟨g6, 0, none⟩) 2 2) W := fun W => by simp [Instr.index, run_underlying hu172, asIntOf, go_sem]
      go_wp2_with fail
      go_loopg [14] 2 (fun k' v14 wi => ∃ j : Nat, v14 = .int .i64 j ∧ j ≤ 2 ∧ Aside0 (k' + j = 2) ∧ Aside0 (amongB [(⟨#[43, 43]⟩ : ByteArray), (⟨#[45, 45]⟩ : ByteArray)] s = amongB (([(⟨#[43, 43]⟩ : ByteArray), (⟨#[45, 45]⟩ : ByteArray)] : List ByteArray).drop j) s) ∧ wi = wr)
      case atStart => exact ⟨0, rfl, Nat.zero_le _, ⟨rfl⟩, ⟨rfl⟩, rfl⟩
      case round =>
        obtain ⟨j, rfl, hj, HJ, HA, rfl⟩ := hrel
        by_cases hlt : j < 2
        · obtain ⟨t, ht⟩ : ∃ t, ([(⟨#[43, 43]⟩ : ByteArray), (⟨#[45, 45]⟩ : ByteArray)] : List ByteArray)[j]? = some t := ⟨_, List.getElem?_eq_getElem hlt⟩
          have q0 : wr.cell? ⟨g6, j, none⟩ = some (.string t) := (blk_cell B6.out j).trans (by simp only [strs, List.getElem?_toArray, List.getElem?_map, ht, Option.map_some])
          have HD := Aside0.mk (among_drop [(⟨#[43, 43]⟩ : ByteArray), (⟨#[45, 45]⟩ : ByteArray)] s j hlt)
          have HT := Aside0.mk ((List.getElem?_eq_some_iff.1 ht).2)
          cases he : (t.toList == s.toList)
          · go_wp2_with fail
            go_roundg (2 - (j + 1))
            case measure => have := HJ.out; omega
            case rel => exact ⟨j + 1, by go_num, by omega, ⟨by omega⟩, ⟨by rw [HA.out, HD.out, HT.out, he, Bool.false_or]⟩, rfl⟩
          · go_wp2_with fail
            go_ret
            exact ⟨(by rw [binL, ← HR.out, HL.out (by rw [HA.out, HD.out, HT.out, he, Bool.true_or])] <;> rfl), HB.out⟩
        · obtain rfl : j = 2 := by omega
          have hno : amongB [(⟨#[43, 43]⟩ : ByteArray), (⟨#[45, 45]⟩ : ByteArray)] s = false := by rw [HA.out]; rfl
          go_wp2_with fail
          go_roundg 2
          case measure => have := HK.out; omega
          case rel => exact ⟨7, _, rfl, ⟨by first | rfl | omega⟩, by omega, ⟨by omega⟩, ⟨by rw [← HR.out, HL2.out hno]⟩, rfl⟩
    · have HL := Aside0.mk (show amongB [(⟨#[43]⟩ : ByteArray), (⟨#[45]⟩ : ByteArray), (⟨#[98, 111, 114]⟩ : ByteArray), (⟨#[98, 120, 111, 114]⟩ : ByteArray), (⟨#[98, 115, 108]⟩ : ByteArray), (⟨#[98, 115, 114]⟩ : ByteArray), (⟨#[111, 114]⟩ : ByteArray), (⟨#[120, 111, 114]⟩ : ByteArray)] s = true → binF (LV.drop 7) ((7 : Nat) : Int) s = ((8 : Nat) : Int) from fun h => by show (if amongB _ s = true then _ else _) = _; rw [if_pos h]; rfl)
      have HL2 := Aside0.mk (show amongB [(⟨#[43]⟩ : ByteArray), (⟨#[45]⟩ : ByteArray), (⟨#[98, 111, 114]⟩ : ByteArray), (⟨#[98, 120, 111, 114]⟩ : ByteArray), (⟨#[98, 115, 108]⟩ : ByteArray), (⟨#[98, 115, 114]⟩ : ByteArray), (⟨#[111, 114]⟩ : ByteArray), (⟨#[120, 111, 114]⟩ : ByteArray)] s = false → binF (LV.drop 7) ((7 : Nat) : Int) s = binF (LV.drop 8) ((8 : Nat) : Int) s from fun h => by show (if amongB _ s = true then _ else _) = _; rw [if_neg (by rw [h]; decide)]; rfl)
      obtain rfl : z = 7 := by have := HZ.out; omega
      have hix : ∀ W, (Instr.index 172 (.agg #[.slice (some ⟨g0, 0, none⟩) 1 1, .slice (some ⟨g1, 0, none⟩) 1 1, .slice (some ⟨g2, 0, none⟩) 2 2, .slice (some ⟨g3, 0, none⟩) 1 1, .slice (some ⟨g4, 0, none⟩) 1 1, .slice (some ⟨g5, 0, none⟩) 8 8, .slice (some ⟨g6, 0, none⟩) 2 2, .slice (some ⟨g7, 0, none⟩) 8 8, .slice (some ⟨g8, 0, none⟩) 6 6]) (.int .i64 7)).run Tryz.prog W = .ok (.slice (some ⟨g7, 0, none⟩) 8 8) W := fun W => by simp [Instr.index, run_underlying hu172, asIntOf, go_sem]
      go_wp2_with fail
      go_loopg [14] 8 (fun k' v14 wi => ∃ j : Nat, v14 = .int .i64 j ∧ j ≤ 8 ∧ Aside0 (k' + j = 8) ∧ Aside0 (amongB [(⟨#[43]⟩ : ByteArray), (⟨#[45]⟩ : ByteArray), (⟨#[98, 111, 114]⟩ : ByteArray), (⟨#[98, 120, 111, 114]⟩ : ByteArray), (⟨#[98, 115, 108]⟩ : ByteArray), (⟨#[98, 115, 114]⟩ : ByteArray), (⟨#[111, 114]⟩ : ByteArray), (⟨#[120, 111, 114]⟩ : ByteArray)] s = amongB (([(⟨#[43]⟩ : ByteArray), (⟨#[45]⟩ : ByteArray), (⟨#[98, 111, 114]⟩ : ByteArray), (⟨#[98, 120, 111, 114]⟩ : ByteArray), (⟨#[98, 115, 108]⟩ : ByteArray), (⟨#[98, 115, 114]⟩ : ByteArray), (⟨#[111, 114]⟩ : ByteArray), (⟨#[120, 111, 114]⟩ : ByteArray)] : List ByteArray).drop j) s) ∧ wi = wr)
      case atStart => exact ⟨0, rfl, Nat.zero_le _, ⟨rfl⟩, ⟨rfl⟩, rfl⟩
      case round =>
        obtain ⟨j, rfl, hj, HJ, HA, rfl⟩ := hrel
        by_cases hlt : j < 8
        · obtain ⟨t, ht⟩ : ∃ t, ([(⟨#[43]⟩ : ByteArray), (⟨#[45]⟩ : ByteArray), (⟨#[98, 111, 114]⟩ : ByteArray), (⟨#[98, 120, 111, 114]⟩ : ByteArray), (⟨#[98, 115, 108]⟩ : ByteArray), (⟨#[98, 115, 114]⟩ : ByteArray), (⟨#[111, 114]⟩ : ByteArray), (⟨#[120, 111, 114]⟩ : ByteArray)] : List ByteArray)[j]? = some t := ⟨_, List.getElem?_eq_getElem hlt⟩
          have q0 : wr.cell? ⟨g7, j, none⟩ = some (.string t) := (blk_cell B7.out j).trans (by simp only [strs, List.getElem?_toArray, List.getElem?_map, ht, Option.map_some])
          have HD := Aside0.mk (among_drop [(⟨#[43]⟩ : ByteArray), (⟨#[45]⟩ : ByteArray), (⟨#[98, 111, 114]⟩ : ByteArray), (⟨#[98, 120, 111, 114]⟩ : ByteArray), (⟨#[98, 115, 108]⟩ : ByteArray), (⟨#[98, 115, 114]⟩ : ByteArray), (⟨#[111, 114]⟩ : ByteArray), (⟨#[120, 111, 114]⟩ : ByteArray)] s j hlt)
          have HT := Aside0.mk ((List.getElem?_eq_some_iff.1 ht).2)
          cases he : (t.toList == s.toList)
          · go_wp2_with fail
            go_roundg (8 - (j + 1))
            case measure => have := HJ.out; omega
            case rel => exact ⟨j + 1, by go_num, by omega, ⟨by omega⟩, ⟨by rw [HA.out, HD.out, HT.out, he, Bool.false_or]⟩, rfl⟩
          · go_wp2_with fail
            go_ret
            exact ⟨(by rw [binL, ← HR.out, HL.out (by rw [HA.out, HD.out, HT.out, he, Bool.true_or])] <;> rfl), HB.out⟩
        · obtain rfl : j = 8 := by omega
          have hno : amongB [(⟨#[43]⟩ : ByteArray), (⟨#[45]⟩ : ByteArray), (⟨#[98, 111, 114]⟩ : ByteArray), (⟨#[98, 120, 111, 114]⟩ : ByteArray), (⟨#[98, 115, 108]⟩ : ByteArray), (⟨#[98, 115, 114]⟩ : ByteArray), (⟨#[111, 114]⟩ : ByteArray), (⟨#[120, 111, 114]⟩ : ByteArray)] s = false := by rw [HA.out]; rfl
          go_wp2_with fail
          go_roundg 1
          case measure => have := HK.out; omega
          case rel => exact ⟨8, _, rfl, ⟨by first | rfl | omega⟩, by omega, ⟨by omega⟩, ⟨by rw [← HR.out, HL2.out hno]⟩, rfl⟩
    · have HL := Aside0.mk (show amongB [(⟨#[42]⟩ : ByteArray), (⟨#[47]⟩ : ByteArray), (⟨#[100, 105, 118]⟩ : ByteArray), (⟨#[114, 101, 109]⟩ : ByteArray), (⟨#[98, 97, 110, 100]⟩ : ByteArray), (⟨#[97, 110, 100]⟩ : ByteArray)] s = true → binF (LV.drop 8) ((8 : Nat) : Int) s = ((9 : Nat) : Int) from fun h => by show (if amongB _ s = true then _ else _) = _; rw [if_pos h]; rfl)
      have HL2 := Aside0.mk (show amongB [(⟨#[42]⟩ : ByteArray), (⟨#[47]⟩ : ByteArray), (⟨#[100, 105, 118]⟩ : ByteArray), (⟨#[114, 101, 109]⟩ : ByteArray), (⟨#[98, 97, 110, 100]⟩ : ByteArray), (⟨#[97, 110, 100]⟩ : ByteArray)] s = false → binF (LV.drop 8) ((8 : Nat) : Int) s = binF (LV.drop 9) ((9 : Nat) : Int) s from fun h => by show (if amongB _ s = true then _ else _) = _; rw [if_neg (by rw [h]; decide)]; rfl)
      obtain rfl : z = 8 := by have := HZ.out; omega
      have hix : ∀ W, (Instr.index 172 (.agg #[.slice (some ⟨g0, 0, none⟩) 1 1, .slice (some ⟨g1, 0, none⟩) 1 1, .slice (some ⟨g2, 0, none⟩) 2 2, .slice (some ⟨g3, 0, none⟩) 1 1, .slice (some ⟨g4, 0, none⟩) 1 1, .slice (some ⟨g5, 0, none⟩) 8 8, .slice (some ⟨g6, 0, none⟩) 2 2, .slice (some ⟨g7, 0, none⟩) 8 8, .slice (some ⟨g8, 0, none⟩) 6 6]) (.int .i64 8)).run Tryz.prog W = .ok (.slice (some ⟨g8, 0, none⟩) 6 6) W := fun W => by simp [Instr.index, run_underlying hu172, asIntOf, go_sem]
      go_wp2_with fail
      go_loopg [14] 6 (fun k' v14 wi => ∃ j : Nat, v14 = .int .i64 j ∧ j ≤ 6 ∧ Aside0 (k' + j = 6) ∧ Aside0 (amongB [(⟨#[42]⟩ : ByteArray), (⟨#[47]⟩ : ByteArray), (⟨#[100, 105, 118]⟩ : ByteArray), (⟨#[114, 101, 109]⟩ : ByteArray), (⟨#[98, 97, 110, 100]⟩ : ByteArray), (⟨#[97, 110, 100]⟩ : ByteArray)] s = amongB (([(⟨#[42]⟩ : ByteArray), (⟨#[47]⟩ : ByteArray), (⟨#[100, 105, 118]⟩ : ByteArray), (⟨#[114, 101, 109]⟩ : ByteArray), (⟨#[98, 97, 110, 100]⟩ : ByteArray), (⟨#[97, 110, 100]⟩ : ByteArray)] : List ByteArray).drop j) s) ∧ wi = wr)
      case atStart => exact ⟨0, rfl, Nat.zero_le _, ⟨rfl⟩, ⟨rfl⟩, rfl⟩
      case round =>
        obtain ⟨j, rfl, hj, HJ, HA, rfl⟩ := hrel
        by_cases hlt : j < 6
        · obtain ⟨t, ht⟩ : ∃ t, ([(⟨#[42]⟩ : ByteArray), (⟨#[47]⟩ : ByteArray), (⟨#[100, 105, 118]⟩ : ByteArray), (⟨#[114, 101, 109]⟩ : ByteArray), (⟨#[98, 97, 110, 100]⟩ : ByteArray), (⟨#[97, 110, 100]⟩ : ByteArray)] : List ByteArray)[j]? = some t := ⟨_, List.getElem?_eq_getElem hlt⟩
          have q0 : wr.cell? ⟨g8, j, none⟩ = some (.string t) := (blk_cell B8.out j).trans (by simp only [strs, List.getElem?_toArray, List.getElem?_map, ht, Option.map_some])
          have HD := Aside0.mk (among_drop [(⟨#[42]⟩ : ByteArray), (⟨#[47]⟩ : ByteArray), (⟨#[100, 105, 118]⟩ : ByteArray), (⟨#[114, 101, 109]⟩ : ByteArray), (⟨#[98, 97, 110, 100]⟩ : ByteArray), (⟨#[97, 110, 100]⟩ : ByteArray)] s j hlt)
          have HT := Aside0.mk ((List.getElem?_eq_some_iff.1 ht).2)
          cases he : (t.toList == s.toList)
          · go_wp2_with fail
            go_roundg (6 - (j + 1))
            case measure => have := HJ.out; omega
            case rel => exact ⟨j + 1, by go_num, by omega, ⟨by omega⟩, ⟨by rw [HA.out, HD.out, HT.out, he, Bool.false_or]⟩, rfl⟩
          · go_wp2_with fail
            go_ret
            exact ⟨(by rw [binL, ← HR.out, HL.out (by rw [HA.out, HD.out, HT.out, he, Bool.true_or])] <;> rfl), HB.out⟩
        · obtain rfl : j = 6 := by omega
          have hno : amongB [(⟨#[42]⟩ : ByteArray), (⟨#[47]⟩ : ByteArray), (⟨#[100, 105, 118]⟩ : ByteArray), (⟨#[114, 101, 109]⟩ : ByteArray), (⟨#[98, 97, 110, 100]⟩ : ByteArray), (⟨#[97, 110, 100]⟩ : ByteArray)] s = false := by rw [HA.out]; rfl
          go_wp2_with fail
          go_roundg 0
          case measure => have := HK.out; omega
          case rel => exact ⟨9, _, rfl, ⟨by first | rfl | omega⟩, by omega, ⟨by omega⟩, ⟨by rw [← HR.out, HL2.out hno]⟩, rfl⟩
    · obtain rfl : z = 9 := by have := HZ.out; omega
      go_wp2_with fail
      go_ret
      exact ⟨(by rw [binL, ← HR.out] <;> rfl), HB.out⟩
end
end Go.Proofs.YthipodffpkglfaaGreatDoor.PS
namespace Go.Proofs.YthipodffpkglfaaGreatDoor.PS
open Go.RowKit Go.Proofs.YthipodffpkglfaaGreatDoorW.PrintWords Go.Proofs.YthipodffpkglfaaGreatDoorW.PrintLast Go.Proofs.YthipodffpkglfaaGreatDoorW.PrintMore
set_option linter.unusedVariables false
set_option linter.unusedSimpArgs false
theorem binF_range : ∀ (l : List (List ByteArray)) (i : Int) (s : ByteArray), 0 ≤ i → binF l i s = 0 ∨ (i + 1 ≤ binF l i s ∧ binF l i s ≤ i + l.length)
  | [], i, s, h => Or.inl rfl
  | x :: r, i, s, h => by
    unfold binF
    split
    · right
      simp only [List.length_cons]
      omega
    · rcases binF_range r (i + 1) s (by omega) with h1 | h1
      · exact Or.inl h1
      · right
        simp only [List.length_cons]
        omega
theorem binL_range (s : ByteArray) : 0 ≤ binL s ∧ binL s ≤ 9 := by
  have h := binF_range LV 0 s (Int.le_refl _)
  have e : LV.length = 9 := rfl
  rw [e] at h
  unfold binL
  omega
def sideV (n : Int) : Int := ([0, 2, 1, 2, 2, 2, 3, 2, 1, 1] : List Int).getD n.toNat 0
section
variable {w w' : World} {s : ByteArray}
set_option maxHeartbeats 2000000 in
theorem side_calls : Calls Tryz.prog 217 #[.string s] w fun e w' => e = .returned (.int .i64 (sideV (binL s))) ∧ Below w.heap.size w w' := by
  have hu175 := Tryz.underlying175
  obtain ⟨b, hb⟩ : ∃ b, binL s = b := ⟨_, rfl⟩
  have EB := Aside0.mk hb
  have hr := binL_range s
  rw [hb] at hr ⊢
  have hix : ∀ W, (Instr.index 175 (.agg #[.int .i64 0, .int .i64 2, .int .i64 1, .int .i64 2, .int .i64 2, .int .i64 2, .int .i64 3, .int .i64 2, .int .i64 1, .int .i64 1]) (.int .i64 b)).run Tryz.prog W = .ok (.int .i64 (sideV b)) W := fun W => by
    rcases (show b = 0 ∨ b = 1 ∨ b = 2 ∨ b = 3 ∨ b = 4 ∨ b = 5 ∨ b = 6 ∨ b = 7 ∨ b = 8 ∨ b = 9 by omega) with rfl | rfl | rfl | rfl | rfl | rfl | rfl | rfl | rfl | rfl <;> simp [Instr.index, run_underlying hu175, asIntOf, go_sem, sideV]
  have HB := Aside0.mk (Below.refl w.heap.size w)
  clear hb hr
  go_enter Tryz.func217, Tryz.ntmps217
  go_wp2_with (first | ((with_reducible refine gate_dst (N := 5) rfl ?_); refine goesL_ (some 5) rfl rfl Tryz.func203 (by kernel_rfl) rfl #[.string s] rfl (by (try simp only [List.map_toArray, List.map_cons, List.map_nil]); first | done | rfl) ?_; (refine (binary_calls).mono ?_); (rintro e w105 ⟨rfl, hb⟩; refine ⟨_, rfl, ?_⟩; rw [EB.out]; have n0 := Aside0.mk (below_step HB.out hb); clear HB hb; have HB := n0; clear n0)))
  go_ret
  exact ⟨rfl, HB.out⟩
def leftV (s : ByteArray) : Int := if 1 < sideV (binL s) then binL s + 1 else binL s
set_option maxHeartbeats 2000000 in
theorem left_calls : Calls Tryz.prog 204 #[.string s] w fun e w' => e = .returned (.int .i64 (leftV s)) ∧ Below w.heap.size w w' := by
  obtain ⟨b, hb⟩ : ∃ b, binL s = b := ⟨_, rfl⟩
  obtain ⟨d, hd⟩ : ∃ d, sideV b = d := ⟨_, rfl⟩
  have EB := Aside0.mk hb
  have ES := Aside0.mk (show sideV (binL s) = d by rw [hb]; exact hd)
  have hr := binL_range s
  rw [hb] at hr
  have HB := Aside0.mk (Below.refl w.heap.size w)
  have EW : Aside0 (wrap64 (b + 1) = b + 1) := ⟨by unfold wrap64; omega⟩
  unfold leftV
  rw [hb, hd]
  clear hb hd hr
  by_cases h : 1 < d
  · have h1 : decide (1 < d) = true := decide_eq_true h
    rw [if_pos h]
    clear h
    go_enter Tryz.func204, Tryz.ntmps204
    go_wp2_with (first | ((with_reducible refine gate_dst (N := 4) rfl ?_); refine goesL_ (some 4) rfl rfl Tryz.func217 (by kernel_rfl) rfl #[.string s] rfl (by (try simp only [List.map_toArray, List.map_cons, List.map_nil]); first | done | rfl) ?_; (refine (side_calls).mono ?_); (rintro e w104 ⟨rfl, hb⟩; refine ⟨_, rfl, ?_⟩; rw [ES.out]; have n0 := Aside0.mk (below_step HB.out hb); clear HB hb; have HB := n0; clear n0)) | ((with_reducible refine gate_dst (N := 7) rfl ?_); refine goesL_ (some 7) rfl rfl Tryz.func203 (by kernel_rfl) rfl #[.string s] rfl (by (try simp only [List.map_toArray, List.map_cons, List.map_nil]); first | done | rfl) ?_; (refine (binary_calls).mono ?_); (rintro e w107 ⟨rfl, hb⟩; refine ⟨_, rfl, ?_⟩; rw [EB.out]; have n0 := Aside0.mk (below_step HB.out hb); clear HB hb; have HB := n0; clear n0)))
    go_ret
    exact ⟨(by rw [EW.out] <;> rfl), HB.out⟩
  · have h1 : decide (1 < d) = false := decide_eq_false h
    rw [if_neg h]
    clear h
    go_enter Tryz.func204, Tryz.ntmps204
    go_wp2_with (first | ((with_reducible refine gate_dst (N := 4) rfl ?_); refine goesL_ (some 4) rfl rfl Tryz.func217 (by kernel_rfl) rfl #[.string s] rfl (by (try simp only [List.map_toArray, List.map_cons, List.map_nil]); first | done | rfl) ?_; (refine (side_calls).mono ?_); (rintro e w104 ⟨rfl, hb⟩; refine ⟨_, rfl, ?_⟩; rw [ES.out]; have n0 := Aside0.mk (below_step HB.out hb); clear HB hb; have HB := n0; clear n0)) | ((with_reducible refine gate_dst (N := 10) rfl ?_); refine goesL_ (some 10) rfl rfl Tryz.func203 (by kernel_rfl) rfl #[.string s] rfl (by (try simp only [List.map_toArray, List.map_cons, List.map_nil]); first | done | rfl) ?_; (refine (binary_calls).mono ?_); (rintro e w110 ⟨rfl, hb⟩; refine ⟨_, rfl, ?_⟩; rw [EB.out]; have n0 := Aside0.mk (below_step HB.out hb); clear HB hb; have HB := n0; clear n0)))
    go_ret
    exact ⟨rfl, HB.out⟩
theorem sideV_range (b : Int) (h : 0 ≤ b ∧ b ≤ 9) : sideV b = 0 ∨ sideV b = 1 ∨ sideV b = 2 ∨ sideV b = 3 := by
  rcases (show b = 0 ∨ b = 1 ∨ b = 2 ∨ b = 3 ∨ b = 4 ∨ b = 5 ∨ b = 6 ∨ b = 7 ∨ b = 8 ∨ b = 9 by omega) with rfl | rfl | rfl | rfl | rfl | rfl | rfl | rfl | rfl | rfl <;> simp [sideV]
def rightV (s : ByteArray) : Int := if sideV (binL s) = 1 ∨ sideV (binL s) = 3 then binL s + 1 else binL s
set_option maxHeartbeats 2000000 in
theorem right_calls : Calls Tryz.prog 205 #[.string s] w fun e w' => e = .returned (.int .i64 (rightV s)) ∧ Below w.heap.size w w' := by
  obtain ⟨b, hb⟩ : ∃ b, binL s = b := ⟨_, rfl⟩
  obtain ⟨d, hd⟩ : ∃ d, sideV b = d := ⟨_, rfl⟩
  have EB := Aside0.mk hb
  have ES := Aside0.mk (show sideV (binL s) = d by rw [hb]; exact hd)
  have hr := binL_range s
  rw [hb] at hr
  have hd4 := sideV_range b hr
  have HB := Aside0.mk (Below.refl w.heap.size w)
  have EW : Aside0 (wrap64 (b + 1) = b + 1) := ⟨by unfold wrap64; omega⟩
  unfold rightV
  rw [hb, hd]
  rw [hd] at hd4
  clear hb hd hr
  rcases hd4 with rfl | rfl | rfl | rfl
  · rw [if_neg (by decide)]
    go_enter Tryz.func205, Tryz.ntmps205
    go_wp2_with (first | ((with_reducible refine gate_dst (N := 4) rfl ?_); refine goesL_ (some 4) rfl rfl Tryz.func217 (by kernel_rfl) rfl #[.string s] rfl (by (try simp only [List.map_toArray, List.map_cons, List.map_nil]); first | done | rfl) ?_; (refine (side_calls).mono ?_); (rintro e w104 ⟨rfl, hb⟩; refine ⟨_, rfl, ?_⟩; rw [ES.out]; have n0 := Aside0.mk (below_step HB.out hb); clear HB hb; have HB := n0; clear n0)) | ((with_reducible refine gate_dst (N := 11) rfl ?_); refine goesL_ (some 11) rfl rfl Tryz.func203 (by kernel_rfl) rfl #[.string s] rfl (by (try simp only [List.map_toArray, List.map_cons, List.map_nil]); first | done | rfl) ?_; (refine (binary_calls).mono ?_); (rintro e w111 ⟨rfl, hb⟩; refine ⟨_, rfl, ?_⟩; rw [EB.out]; have n0 := Aside0.mk (below_step HB.out hb); clear HB hb; have HB := n0; clear n0)))
    go_ret
    exact ⟨rfl, HB.out⟩
  · rw [if_pos (by decide)]
    go_enter Tryz.func205, Tryz.ntmps205
    go_wp2_with (first | ((with_reducible refine gate_dst (N := 4) rfl ?_); refine goesL_ (some 4) rfl rfl Tryz.func217 (by kernel_rfl) rfl #[.string s] rfl (by (try simp only [List.map_toArray, List.map_cons, List.map_nil]); first | done | rfl) ?_; (refine (side_calls).mono ?_); (rintro e w104 ⟨rfl, hb⟩; refine ⟨_, rfl, ?_⟩; rw [ES.out]; have n0 := Aside0.mk (below_step HB.out hb); clear HB hb; have HB := n0; clear n0)) | ((with_reducible refine gate_dst (N := 8) rfl ?_); refine goesL_ (some 8) rfl rfl Tryz.func203 (by kernel_rfl) rfl #[.string s] rfl (by (try simp only [List.map_toArray, List.map_cons, List.map_nil]); first | done | rfl) ?_; (refine (binary_calls).mono ?_); (rintro e w108 ⟨rfl, hb⟩; refine ⟨_, rfl, ?_⟩; rw [EB.out]; have n0 := Aside0.mk (below_step HB.out hb); clear HB hb; have HB := n0; clear n0)))
    go_ret
    exact ⟨(by rw [EW.out] <;> rfl), HB.out⟩
  · rw [if_neg (by decide)]
    go_enter Tryz.func205, Tryz.ntmps205
    go_wp2_with (first | ((with_reducible refine gate_dst (N := 4) rfl ?_); refine goesL_ (some 4) rfl rfl Tryz.func217 (by kernel_rfl) rfl #[.string s] rfl (by (try simp only [List.map_toArray, List.map_cons, List.map_nil]); first | done | rfl) ?_; (refine (side_calls).mono ?_); (rintro e w104 ⟨rfl, hb⟩; refine ⟨_, rfl, ?_⟩; rw [ES.out]; have n0 := Aside0.mk (below_step HB.out hb); clear HB hb; have HB := n0; clear n0)) | ((with_reducible refine gate_dst (N := 11) rfl ?_); refine goesL_ (some 11) rfl rfl Tryz.func203 (by kernel_rfl) rfl #[.string s] rfl (by (try simp only [List.map_toArray, List.map_cons, List.map_nil]); first | done | rfl) ?_; (refine (binary_calls).mono ?_); (rintro e w111 ⟨rfl, hb⟩; refine ⟨_, rfl, ?_⟩; rw [EB.out]; have n0 := Aside0.mk (below_step HB.out hb); clear HB hb; have HB := n0; clear n0)))
    go_ret
    exact ⟨rfl, HB.out⟩
  · rw [if_pos (by decide)]
    go_enter Tryz.func205, Tryz.ntmps205
    go_wp2_with (first | ((with_reducible refine gate_dst (N := 4) rfl ?_); refine goesL_ (some 4) rfl rfl Tryz.func217 (by kernel_rfl) rfl #[.string s] rfl (by (try simp only [List.map_toArray, List.map_cons, List.map_nil]); first | done | rfl) ?_; (refine (side_calls).mono ?_); (rintro e w104 ⟨rfl, hb⟩; refine ⟨_, rfl, ?_⟩; rw [ES.out]; have n0 := Aside0.mk (below_step HB.out hb); clear HB hb; have HB := n0; clear n0)) | ((with_reducible refine gate_dst (N := 8) rfl ?_); refine goesL_ (some 8) rfl rfl Tryz.func203 (by kernel_rfl) rfl #[.string s] rfl (by (try simp only [List.map_toArray, List.map_cons, List.map_nil]); first | done | rfl) ?_; (refine (binary_calls).mono ?_); (rintro e w108 ⟨rfl, hb⟩; refine ⟨_, rfl, ?_⟩; rw [EB.out]; have n0 := Aside0.mk (below_step HB.out hb); clear HB hb; have HB := n0; clear n0)))
    go_ret
    exact ⟨(by rw [EW.out] <;> rfl), HB.out⟩
end
end Go.Proofs.YthipodffpkglfaaGreatDoor.PS
