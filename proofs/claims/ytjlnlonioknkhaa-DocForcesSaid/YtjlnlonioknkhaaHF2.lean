/- DocForces: the walk. -/
import Derived.Test.YtjlnlonioknkhaaHF1
import Derived.Test.YtjlnlonioknkhaaPAx21
namespace Go.Proofs.Ytjlnlonioknkhaa.PA
open Go.RowKit Go.Proofs.YtjlnlonioknkhaaW.PrintWords Go.Proofs.YtjlnlonioknkhaaW.PrintLast Go.Proofs.YtjlnlonioknkhaaW.PrintMore
set_option linter.unusedVariables false
set_option linter.unusedSimpArgs false
set_option maxHeartbeats 2000000 in
theorem forces_few1 (x : S40) (A : Option Addr) (c : Nat) (y : S40) (B : Option Addr) (d : Nat) (n : Int) (w : World) (hx : Dc w x A c) (hy : Dc w y B d) (hf : decide (fewD x 60 ≤ 500) = false) : Calls Try.prog 9 #[.agg #[.int .i64 x.f0, .int .i64 x.f1, .string x.f2, .slice A x.f3.length c], .agg #[.int .i64 y.f0, .int .i64 y.f1, .string y.f2, .slice B y.f3.length d], .int .i64 n] w fun e w' => e = .returned (.bool true) ∧ Below w.heap.size w w' := by
  have hu40 := Try.underlying40
  have HX := Aside0.mk hx
  have HY := Aside0.mk hy
  clear hx hy
  go_enter Try.func9, Try.ntmps9
  go_wp2_with (first | ((with_reducible refine gate_dst (N := 3) rfl ?_); (try (refine gate_guard (by rfl) ?_; dsimp only)); refine box_event ?hg (N := 3) ?hd (cs := #[.int .i64 x.f0, .int .i64 x.f1, .string x.f2, .slice A x.f3.length c]) (t := 40) ?hr ?_; (case hd => rfl); (case hg => rfl); (case hr => first | (go_simp; done) | (go_simp; rfl)); intro ga hg w1 hbox hb; have HBa := Aside0.mk hb; have BXA := Aside0.mk hbox; clear hb hg hbox) | ((with_reducible refine gate_dst (N := 4) rfl ?_); (try (refine gate_guard (by rfl) ?_; dsimp only)); refine box_event ?hg (N := 4) ?hd (cs := #[.int .i64 y.f0, .int .i64 y.f1, .string y.f2, .slice B y.f3.length d]) (t := 40) ?hr ?_; (case hd => rfl); (case hg => rfl); (case hr => first | (go_simp; done) | (go_simp; rfl)); intro gb hg w2 hbox hb; have IV := Aside0.mk (IvF.mk (below_step HBa.out hb) (blk_below BXA.out hb) hbox HX.out HY.out); clear HBa BXA hb hg hbox; have hga0 : w2.cell? ⟨ga, 0, none⟩ = some (.int .i64 x.f0) := (blk_cell IV.out.bx 0).trans rfl; have hga1 : w2.cell? ⟨ga, 1, none⟩ = some (.int .i64 x.f1) := (blk_cell IV.out.bx 1).trans rfl; have hga2 : w2.cell? ⟨ga, 2, none⟩ = some (.string x.f2) := (blk_cell IV.out.bx 2).trans rfl; have hga3 : w2.cell? ⟨ga, 3, none⟩ = some (.slice A x.f3.length c) := (blk_cell IV.out.bx 3).trans rfl; have hgb0 : w2.cell? ⟨gb, 0, none⟩ = some (.int .i64 y.f0) := (blk_cell IV.out.by_ 0).trans rfl; have hgb1 : w2.cell? ⟨gb, 1, none⟩ = some (.int .i64 y.f1) := (blk_cell IV.out.by_ 1).trans rfl; have hgb2 : w2.cell? ⟨gb, 2, none⟩ = some (.string y.f2) := (blk_cell IV.out.by_ 2).trans rfl; have hgb3 : w2.cell? ⟨gb, 3, none⟩ = some (.slice B y.f3.length d) := (blk_cell IV.out.by_ 3).trans rfl) | ((with_reducible refine gate_dst (N := 12) rfl ?_); refine goesL_ (some 12) rfl rfl Try.func27 (by kernel_rfl) rfl #[.agg #[.int .i64 x.f0, .int .i64 x.f1, .string x.f2, .slice A x.f3.length c]] rfl (by (try simp only [List.map_toArray, List.map_cons, List.map_nil]); first | done | rfl) ?_; (refine (few_of x A c false _ IV.out.dx hf).mono ?_); (rintro e w101 ⟨rfl, hb⟩; refine ⟨_, rfl, ?_⟩; have n0 := Aside0.mk (IV.out.step hb); clear IV hb; have IV := n0; clear n0; clear hga0 hga1 hga2 hga3 hgb0 hgb1 hgb2 hgb3; have hga0 : w101.cell? ⟨ga, 0, none⟩ = some (.int .i64 x.f0) := (blk_cell IV.out.bx 0).trans rfl; have hga1 : w101.cell? ⟨ga, 1, none⟩ = some (.int .i64 x.f1) := (blk_cell IV.out.bx 1).trans rfl; have hga2 : w101.cell? ⟨ga, 2, none⟩ = some (.string x.f2) := (blk_cell IV.out.bx 2).trans rfl; have hga3 : w101.cell? ⟨ga, 3, none⟩ = some (.slice A x.f3.length c) := (blk_cell IV.out.bx 3).trans rfl; have hgb0 : w101.cell? ⟨gb, 0, none⟩ = some (.int .i64 y.f0) := (blk_cell IV.out.by_ 0).trans rfl; have hgb1 : w101.cell? ⟨gb, 1, none⟩ = some (.int .i64 y.f1) := (blk_cell IV.out.by_ 1).trans rfl; have hgb2 : w101.cell? ⟨gb, 2, none⟩ = some (.string y.f2) := (blk_cell IV.out.by_ 2).trans rfl; have hgb3 : w101.cell? ⟨gb, 3, none⟩ = some (.slice B y.f3.length d) := (blk_cell IV.out.by_ 3).trans rfl)) | ((with_reducible refine gate_dst (N := 19) rfl ?_); refine goesL_ (some 19) rfl rfl Try.func28 (by kernel_rfl) rfl #[] rfl (by (try simp only [List.map_toArray, List.map_cons, List.map_nil]); first | done | rfl) ?_; (refine (galleylaw15_told.calls true _ rfl).mono ?_); (rintro e w102 ⟨rfl, hb⟩; refine ⟨_, rfl, ?_⟩; have n0 := Aside0.mk (IV.out.step hb); clear IV hb; have IV := n0; clear n0; clear hga0 hga1 hga2 hga3 hgb0 hgb1 hgb2 hgb3; have hga0 : w102.cell? ⟨ga, 0, none⟩ = some (.int .i64 x.f0) := (blk_cell IV.out.bx 0).trans rfl; have hga1 : w102.cell? ⟨ga, 1, none⟩ = some (.int .i64 x.f1) := (blk_cell IV.out.bx 1).trans rfl; have hga2 : w102.cell? ⟨ga, 2, none⟩ = some (.string x.f2) := (blk_cell IV.out.bx 2).trans rfl; have hga3 : w102.cell? ⟨ga, 3, none⟩ = some (.slice A x.f3.length c) := (blk_cell IV.out.bx 3).trans rfl; have hgb0 : w102.cell? ⟨gb, 0, none⟩ = some (.int .i64 y.f0) := (blk_cell IV.out.by_ 0).trans rfl; have hgb1 : w102.cell? ⟨gb, 1, none⟩ = some (.int .i64 y.f1) := (blk_cell IV.out.by_ 1).trans rfl; have hgb2 : w102.cell? ⟨gb, 2, none⟩ = some (.string y.f2) := (blk_cell IV.out.by_ 2).trans rfl; have hgb3 : w102.cell? ⟨gb, 3, none⟩ = some (.slice B y.f3.length d) := (blk_cell IV.out.by_ 3).trans rfl)))
  go_ret
  exact ⟨rfl, IV.out.hb⟩
set_option maxHeartbeats 2000000 in
theorem forces_few2 (x : S40) (A : Option Addr) (c : Nat) (y : S40) (B : Option Addr) (d : Nat) (n : Int) (w : World) (hx : Dc w x A c) (hy : Dc w y B d) (hf : decide (fewD x 60 ≤ 500) = true) (hf2 : decide (fewD y 60 ≤ 500) = false) : Calls Try.prog 9 #[.agg #[.int .i64 x.f0, .int .i64 x.f1, .string x.f2, .slice A x.f3.length c], .agg #[.int .i64 y.f0, .int .i64 y.f1, .string y.f2, .slice B y.f3.length d], .int .i64 n] w fun e w' => e = .returned (.bool true) ∧ Below w.heap.size w w' := by
  have hu40 := Try.underlying40
  have HX := Aside0.mk hx
  have HY := Aside0.mk hy
  clear hx hy
  go_enter Try.func9, Try.ntmps9
  go_wp2_with (first | ((with_reducible refine gate_dst (N := 3) rfl ?_); (try (refine gate_guard (by rfl) ?_; dsimp only)); refine box_event ?hg (N := 3) ?hd (cs := #[.int .i64 x.f0, .int .i64 x.f1, .string x.f2, .slice A x.f3.length c]) (t := 40) ?hr ?_; (case hd => rfl); (case hg => rfl); (case hr => first | (go_simp; done) | (go_simp; rfl)); intro ga hg w1 hbox hb; have HBa := Aside0.mk hb; have BXA := Aside0.mk hbox; clear hb hg hbox) | ((with_reducible refine gate_dst (N := 4) rfl ?_); (try (refine gate_guard (by rfl) ?_; dsimp only)); refine box_event ?hg (N := 4) ?hd (cs := #[.int .i64 y.f0, .int .i64 y.f1, .string y.f2, .slice B y.f3.length d]) (t := 40) ?hr ?_; (case hd => rfl); (case hg => rfl); (case hr => first | (go_simp; done) | (go_simp; rfl)); intro gb hg w2 hbox hb; have IV := Aside0.mk (IvF.mk (below_step HBa.out hb) (blk_below BXA.out hb) hbox HX.out HY.out); clear HBa BXA hb hg hbox; have hga0 : w2.cell? ⟨ga, 0, none⟩ = some (.int .i64 x.f0) := (blk_cell IV.out.bx 0).trans rfl; have hga1 : w2.cell? ⟨ga, 1, none⟩ = some (.int .i64 x.f1) := (blk_cell IV.out.bx 1).trans rfl; have hga2 : w2.cell? ⟨ga, 2, none⟩ = some (.string x.f2) := (blk_cell IV.out.bx 2).trans rfl; have hga3 : w2.cell? ⟨ga, 3, none⟩ = some (.slice A x.f3.length c) := (blk_cell IV.out.bx 3).trans rfl; have hgb0 : w2.cell? ⟨gb, 0, none⟩ = some (.int .i64 y.f0) := (blk_cell IV.out.by_ 0).trans rfl; have hgb1 : w2.cell? ⟨gb, 1, none⟩ = some (.int .i64 y.f1) := (blk_cell IV.out.by_ 1).trans rfl; have hgb2 : w2.cell? ⟨gb, 2, none⟩ = some (.string y.f2) := (blk_cell IV.out.by_ 2).trans rfl; have hgb3 : w2.cell? ⟨gb, 3, none⟩ = some (.slice B y.f3.length d) := (blk_cell IV.out.by_ 3).trans rfl) | ((with_reducible refine gate_dst (N := 12) rfl ?_); refine goesL_ (some 12) rfl rfl Try.func27 (by kernel_rfl) rfl #[.agg #[.int .i64 x.f0, .int .i64 x.f1, .string x.f2, .slice A x.f3.length c]] rfl (by (try simp only [List.map_toArray, List.map_cons, List.map_nil]); first | done | rfl) ?_; (refine (few_of x A c true _ IV.out.dx hf).mono ?_); (rintro e w103 ⟨rfl, hb⟩; refine ⟨_, rfl, ?_⟩; have n0 := Aside0.mk (IV.out.step hb); clear IV hb; have IV := n0; clear n0; clear hga0 hga1 hga2 hga3 hgb0 hgb1 hgb2 hgb3; have hga0 : w103.cell? ⟨ga, 0, none⟩ = some (.int .i64 x.f0) := (blk_cell IV.out.bx 0).trans rfl; have hga1 : w103.cell? ⟨ga, 1, none⟩ = some (.int .i64 x.f1) := (blk_cell IV.out.bx 1).trans rfl; have hga2 : w103.cell? ⟨ga, 2, none⟩ = some (.string x.f2) := (blk_cell IV.out.bx 2).trans rfl; have hga3 : w103.cell? ⟨ga, 3, none⟩ = some (.slice A x.f3.length c) := (blk_cell IV.out.bx 3).trans rfl; have hgb0 : w103.cell? ⟨gb, 0, none⟩ = some (.int .i64 y.f0) := (blk_cell IV.out.by_ 0).trans rfl; have hgb1 : w103.cell? ⟨gb, 1, none⟩ = some (.int .i64 y.f1) := (blk_cell IV.out.by_ 1).trans rfl; have hgb2 : w103.cell? ⟨gb, 2, none⟩ = some (.string y.f2) := (blk_cell IV.out.by_ 2).trans rfl; have hgb3 : w103.cell? ⟨gb, 3, none⟩ = some (.slice B y.f3.length d) := (blk_cell IV.out.by_ 3).trans rfl)) | ((with_reducible refine gate_dst (N := 16) rfl ?_); (refine gate_guard (by rfl) ?_; dsimp only); refine goesL_ (some 16) rfl rfl Try.func27 (by kernel_rfl) rfl #[.agg #[.int .i64 y.f0, .int .i64 y.f1, .string y.f2, .slice B y.f3.length d]] rfl (by (try simp only [List.map_toArray, List.map_cons, List.map_nil]); first | done | rfl) ?_; (refine (few_of y B d false _ IV.out.dy hf2).mono ?_); (rintro e w104 ⟨rfl, hb⟩; refine ⟨_, rfl, ?_⟩; have n0 := Aside0.mk (IV.out.step hb); clear IV hb; have IV := n0; clear n0; clear hga0 hga1 hga2 hga3 hgb0 hgb1 hgb2 hgb3; have hga0 : w104.cell? ⟨ga, 0, none⟩ = some (.int .i64 x.f0) := (blk_cell IV.out.bx 0).trans rfl; have hga1 : w104.cell? ⟨ga, 1, none⟩ = some (.int .i64 x.f1) := (blk_cell IV.out.bx 1).trans rfl; have hga2 : w104.cell? ⟨ga, 2, none⟩ = some (.string x.f2) := (blk_cell IV.out.bx 2).trans rfl; have hga3 : w104.cell? ⟨ga, 3, none⟩ = some (.slice A x.f3.length c) := (blk_cell IV.out.bx 3).trans rfl; have hgb0 : w104.cell? ⟨gb, 0, none⟩ = some (.int .i64 y.f0) := (blk_cell IV.out.by_ 0).trans rfl; have hgb1 : w104.cell? ⟨gb, 1, none⟩ = some (.int .i64 y.f1) := (blk_cell IV.out.by_ 1).trans rfl; have hgb2 : w104.cell? ⟨gb, 2, none⟩ = some (.string y.f2) := (blk_cell IV.out.by_ 2).trans rfl; have hgb3 : w104.cell? ⟨gb, 3, none⟩ = some (.slice B y.f3.length d) := (blk_cell IV.out.by_ 3).trans rfl)) | ((with_reducible refine gate_dst (N := 19) rfl ?_); refine goesL_ (some 19) rfl rfl Try.func28 (by kernel_rfl) rfl #[] rfl (by (try simp only [List.map_toArray, List.map_cons, List.map_nil]); first | done | rfl) ?_; (refine (galleylaw15_told.calls true _ rfl).mono ?_); (rintro e w105 ⟨rfl, hb⟩; refine ⟨_, rfl, ?_⟩; have n0 := Aside0.mk (IV.out.step hb); clear IV hb; have IV := n0; clear n0; clear hga0 hga1 hga2 hga3 hgb0 hgb1 hgb2 hgb3; have hga0 : w105.cell? ⟨ga, 0, none⟩ = some (.int .i64 x.f0) := (blk_cell IV.out.bx 0).trans rfl; have hga1 : w105.cell? ⟨ga, 1, none⟩ = some (.int .i64 x.f1) := (blk_cell IV.out.bx 1).trans rfl; have hga2 : w105.cell? ⟨ga, 2, none⟩ = some (.string x.f2) := (blk_cell IV.out.bx 2).trans rfl; have hga3 : w105.cell? ⟨ga, 3, none⟩ = some (.slice A x.f3.length c) := (blk_cell IV.out.bx 3).trans rfl; have hgb0 : w105.cell? ⟨gb, 0, none⟩ = some (.int .i64 y.f0) := (blk_cell IV.out.by_ 0).trans rfl; have hgb1 : w105.cell? ⟨gb, 1, none⟩ = some (.int .i64 y.f1) := (blk_cell IV.out.by_ 1).trans rfl; have hgb2 : w105.cell? ⟨gb, 2, none⟩ = some (.string y.f2) := (blk_cell IV.out.by_ 2).trans rfl; have hgb3 : w105.cell? ⟨gb, 3, none⟩ = some (.slice B y.f3.length d) := (blk_cell IV.out.by_ 3).trans rfl)))
  go_ret
  exact ⟨rfl, IV.out.hb⟩
theorem F9tab3 : rtab .any (opsOf Try.f9 3) = (true, [([], []), ([0], [0]), ([], []), ([2, 1], [2]), ([1, 3, 0, 1], [1]), ([3, 4, 0, 1, 2, 3, 4], [3])]) := by kernel_rfl
theorem F9tab10 : rtab .any (opsOf Try.f9 10) = (true, [([], []), ([], []), ([0, 1], [0, 1]), ([2, 0], [2]), ([3, 3, 0, 1, 2, 3], [3])]) := by kernel_rfl
theorem F9tab11 : rtab .any (opsOf Try.f9 11) = (true, [([], []), ([0, 0], [0]), ([1], [1]), ([2, 1, 1], [1, 2]), ([1, 3], [1, 3]), ([4, 3], [4]), ([5], [5]), ([5], [5]), ([6, 7, 5], [5, 6, 7]), ([8, 5, 5], [5, 8]), ([9, 9, 5], [5, 9]), ([5], [5]), ([11, 10, 5], [5, 11]), ([5], [5]), ([13, 12, 5], [5, 13]), ([12, 14, 5], [5, 12, 14]), ([15, 5], [5, 15]), ([10, 16, 5], [5, 10, 16]), ([5, 17], [5, 17]), ([18, 14, 0, 1, 2, 3, 4, 5, 6, 7, 8, 9, 10, 11, 12, 13, 14, 15, 16, 17, 18], [18])]) := by kernel_rfl
set_option maxHeartbeats 8000000 in
theorem forces_main_false_false (x : S40) (A : Option Addr) (c : Nat) (y : S40) (B : Option Addr) (d : Nat) (n : Int) (w : World) (hx : Dc w x A c) (hy : Dc w y B d) (hf : decide (fewD x 60 ≤ 500) = true) (hf2 : decide (fewD y 60 ≤ 500) = true) (fx : finD x) (fy : finD y) (ex : frcB x = false) (ey : frcB y = false) (cx : cnt x ≤ 500) (cy : cnt y ≤ 500) : Calls Try.prog 9 #[.agg #[.int .i64 x.f0, .int .i64 x.f1, .string x.f2, .slice A x.f3.length c], .agg #[.int .i64 y.f0, .int .i64 y.f1, .string y.f2, .slice B y.f3.length d], .int .i64 n] w fun e w' => e = .returned (.bool true) ∧ Below w.heap.size w w' := by
  have hu40 := Try.underlying40
  have HX := Aside0.mk hx
  have HY := Aside0.mk hy
  clear hx hy
  have FX := Aside0.mk fx
  have FY := Aside0.mk fy
  have EX := Aside0.mk ex
  have EY := Aside0.mk ey
  have CX := Aside0.mk cx
  have CY := Aside0.mk cy
  clear fx fy ex ey cx cy
  go_enter Try.func9, Try.ntmps9
  go_wp2_with (first | ((with_reducible refine gate_dst (N := 3) rfl ?_); (try (refine gate_guard (by rfl) ?_; dsimp only)); refine box_event ?hg (N := 3) ?hd (cs := #[.int .i64 x.f0, .int .i64 x.f1, .string x.f2, .slice A x.f3.length c]) (t := 40) ?hr ?_; (case hd => rfl); (case hg => rfl); (case hr => first | (go_simp; done) | (go_simp; rfl)); intro ga hg w1 hbox hb; have HBa := Aside0.mk hb; have BXA := Aside0.mk hbox; clear hb hg hbox) | ((with_reducible refine gate_dst (N := 4) rfl ?_); (try (refine gate_guard (by rfl) ?_; dsimp only)); refine box_event ?hg (N := 4) ?hd (cs := #[.int .i64 y.f0, .int .i64 y.f1, .string y.f2, .slice B y.f3.length d]) (t := 40) ?hr ?_; (case hd => rfl); (case hg => rfl); (case hr => first | (go_simp; done) | (go_simp; rfl)); intro gb hg w2 hbox hb; have IV := Aside0.mk (IvF.mk (below_step HBa.out hb) (blk_below BXA.out hb) hbox HX.out HY.out); clear HBa BXA hb hg hbox; have hga0 : w2.cell? ⟨ga, 0, none⟩ = some (.int .i64 x.f0) := (blk_cell IV.out.bx 0).trans rfl; have hga1 : w2.cell? ⟨ga, 1, none⟩ = some (.int .i64 x.f1) := (blk_cell IV.out.bx 1).trans rfl; have hga2 : w2.cell? ⟨ga, 2, none⟩ = some (.string x.f2) := (blk_cell IV.out.bx 2).trans rfl; have hga3 : w2.cell? ⟨ga, 3, none⟩ = some (.slice A x.f3.length c) := (blk_cell IV.out.bx 3).trans rfl; have hgb0 : w2.cell? ⟨gb, 0, none⟩ = some (.int .i64 y.f0) := (blk_cell IV.out.by_ 0).trans rfl; have hgb1 : w2.cell? ⟨gb, 1, none⟩ = some (.int .i64 y.f1) := (blk_cell IV.out.by_ 1).trans rfl; have hgb2 : w2.cell? ⟨gb, 2, none⟩ = some (.string y.f2) := (blk_cell IV.out.by_ 2).trans rfl; have hgb3 : w2.cell? ⟨gb, 3, none⟩ = some (.slice B y.f3.length d) := (blk_cell IV.out.by_ 3).trans rfl) | ((with_reducible refine gate_dst (N := 12) rfl ?_); refine goesL_ (some 12) rfl rfl Try.func27 (by kernel_rfl) rfl #[.agg #[.int .i64 x.f0, .int .i64 x.f1, .string x.f2, .slice A x.f3.length c]] rfl (by (try simp only [List.map_toArray, List.map_cons, List.map_nil]); first | done | rfl) ?_; (refine (few_of x A c true _ IV.out.dx hf).mono ?_); (rintro e w101 ⟨rfl, hb⟩; refine ⟨_, rfl, ?_⟩; have n0 := Aside0.mk (IV.out.step hb); clear IV hb; have IV := n0; clear n0; clear hga0 hga1 hga2 hga3 hgb0 hgb1 hgb2 hgb3; have hga0 : w101.cell? ⟨ga, 0, none⟩ = some (.int .i64 x.f0) := (blk_cell IV.out.bx 0).trans rfl; have hga1 : w101.cell? ⟨ga, 1, none⟩ = some (.int .i64 x.f1) := (blk_cell IV.out.bx 1).trans rfl; have hga2 : w101.cell? ⟨ga, 2, none⟩ = some (.string x.f2) := (blk_cell IV.out.bx 2).trans rfl; have hga3 : w101.cell? ⟨ga, 3, none⟩ = some (.slice A x.f3.length c) := (blk_cell IV.out.bx 3).trans rfl; have hgb0 : w101.cell? ⟨gb, 0, none⟩ = some (.int .i64 y.f0) := (blk_cell IV.out.by_ 0).trans rfl; have hgb1 : w101.cell? ⟨gb, 1, none⟩ = some (.int .i64 y.f1) := (blk_cell IV.out.by_ 1).trans rfl; have hgb2 : w101.cell? ⟨gb, 2, none⟩ = some (.string y.f2) := (blk_cell IV.out.by_ 2).trans rfl; have hgb3 : w101.cell? ⟨gb, 3, none⟩ = some (.slice B y.f3.length d) := (blk_cell IV.out.by_ 3).trans rfl)) | ((with_reducible refine gate_dst (N := 16) rfl ?_); (refine gate_guard (by rfl) ?_; dsimp only); refine goesL_ (some 16) rfl rfl Try.func27 (by kernel_rfl) rfl #[.agg #[.int .i64 y.f0, .int .i64 y.f1, .string y.f2, .slice B y.f3.length d]] rfl (by (try simp only [List.map_toArray, List.map_cons, List.map_nil]); first | done | rfl) ?_; (refine (few_of y B d true _ IV.out.dy hf2).mono ?_); (rintro e w102 ⟨rfl, hb⟩; refine ⟨_, rfl, ?_⟩; have n0 := Aside0.mk (IV.out.step hb); clear IV hb; have IV := n0; clear n0; clear hga0 hga1 hga2 hga3 hgb0 hgb1 hgb2 hgb3; have hga0 : w102.cell? ⟨ga, 0, none⟩ = some (.int .i64 x.f0) := (blk_cell IV.out.bx 0).trans rfl; have hga1 : w102.cell? ⟨ga, 1, none⟩ = some (.int .i64 x.f1) := (blk_cell IV.out.bx 1).trans rfl; have hga2 : w102.cell? ⟨ga, 2, none⟩ = some (.string x.f2) := (blk_cell IV.out.bx 2).trans rfl; have hga3 : w102.cell? ⟨ga, 3, none⟩ = some (.slice A x.f3.length c) := (blk_cell IV.out.bx 3).trans rfl; have hgb0 : w102.cell? ⟨gb, 0, none⟩ = some (.int .i64 y.f0) := (blk_cell IV.out.by_ 0).trans rfl; have hgb1 : w102.cell? ⟨gb, 1, none⟩ = some (.int .i64 y.f1) := (blk_cell IV.out.by_ 1).trans rfl; have hgb2 : w102.cell? ⟨gb, 2, none⟩ = some (.string y.f2) := (blk_cell IV.out.by_ 2).trans rfl; have hgb3 : w102.cell? ⟨gb, 3, none⟩ = some (.slice B y.f3.length d) := (blk_cell IV.out.by_ 3).trans rfl)))
  have IV3 := Aside0.mk (IV.out.step (below_drew1 (Below.refl _ _)))
  clear hga0 hga1 hga2 hga3 hgb0 hgb1 hgb2 hgb3
  clear IV
  have IV := IV3
  clear IV3
  refine start_ (n := 6) (S := SF ga gb x y A c B d) (ds := []) #[false, false, false, false, false, false] (by kernel_rfl) rfl rfl (IV.out.S) (fun hHeld => ?_)
  generalize World.drew _ = w200 at IV hHeld ⊢
  refine take_ (i := 0) (N := some 20) (v := ?_) (a' := ?_) #[true, false, false, false, false, false] rfl rfl (take_of (md := .any) (ops := opsOf Try.f9 3) F9tab3 (by kernel_rfl)) (fun _ _ _ h => h) (Or.inl ⟨by rfl, ?_⟩) hHeld ?_ ?_
  rotate_left
  · rintro w' ⟨s0, s1, s2, s3, s4, s5, s6, s7⟩
    go_simp
    with_reducible rfl
  rotate_left
  · simp only [Act.put, List.setIfInBounds_toArray, List.set_cons_zero, List.set_cons_succ, i64_w, i32_w]
    rfl
  refine take_ (i := 2) (N := some 22) (v := ?_) (a' := ?_) #[true, false, true, false, false, false] rfl rfl (take_of (md := .any) (ops := opsOf Try.f9 3) F9tab3 (by kernel_rfl)) (fun _ _ _ h => h) (Or.inl ⟨by rfl, ?_⟩) hHeld ?_ ?_
  rotate_left
  · rintro w' ⟨s0, s1, s2, s3, s4, s5, s6, s7⟩
    go_simp
    with_reducible rfl
  rotate_left
  · simp only [Act.put, List.setIfInBounds_toArray, List.set_cons_zero, List.set_cons_succ, i64_w, i32_w]
    rfl
  refine one_ (i := 1) (N := some 21) #[true, true, true, false, false, false] rfl rfl (one_of (md := .any) (ops := opsOf Try.f9 3) F9tab3 (by kernel_rfl)) (by decide) (fun K hK => ?_)
  refine goes_ Try.func31 (by kernel_rfl) rfl #[.agg #[.int .i64 x.f0, .int .i64 x.f1, .string x.f2, .slice A x.f3.length c]] (by rfl) rfl rfl (by (try simp only [List.map_toArray, List.map_cons, List.map_nil]); first | done | rfl) ?_
  refine (frc_of x A c false _ IV.out.dx FX.out EX.out).mono ?_
  rintro e w501 ⟨rfl, hb⟩
  refine ⟨_, rfl, ?_⟩
  have n0 := Aside0.mk (IV.out.step hb); clear IV hb; have IV := n0; clear n0
  refine hK.out _ _ (IV.out.S) (fun hHeld => ?_)
  clear hK K
  refine norm_ (a' := ?_) ?_ ?_
  rotate_left
  · show Act.put _ (some 21) _ = _
    simp only [Act.put, List.setIfInBounds_toArray, List.set_cons_zero, List.set_cons_succ, i64_w, i32_w]
    rfl
  refine one_ (i := 3) (N := some 23) #[true, true, true, true, false, false] rfl rfl (one_of (md := .any) (ops := opsOf Try.f9 3) F9tab3 (by kernel_rfl)) (by decide) (fun K hK => ?_)
  refine goes_ Try.func31 (by kernel_rfl) rfl #[.agg #[.int .i64 y.f0, .int .i64 y.f1, .string y.f2, .slice B y.f3.length d]] (by rfl) rfl rfl (by (try simp only [List.map_toArray, List.map_cons, List.map_nil]); first | done | rfl) ?_
  refine (frc_of y B d false _ IV.out.dy FY.out EY.out).mono ?_
  rintro e w502 ⟨rfl, hb⟩
  refine ⟨_, rfl, ?_⟩
  have n0 := Aside0.mk (IV.out.step hb); clear IV hb; have IV := n0; clear n0
  refine hK.out _ _ (IV.out.S) (fun hHeld => ?_)
  clear hK K
  refine norm_ (a' := ?_) ?_ ?_
  rotate_left
  · show Act.put _ (some 23) _ = _
    simp only [Act.put, List.setIfInBounds_toArray, List.set_cons_zero, List.set_cons_succ, i64_w, i32_w]
    rfl
  refine pure_ (i := 4) (N := some 7) (v := ?_) (a' := ?_) #[true, true, true, true, true, false] rfl rfl (any_of (md := .any) (ops := opsOf Try.f9 3) F9tab3 (by kernel_rfl)) (fun _ _ _ h => h) (Or.inl ⟨by rfl, ?_⟩) ?_ ?_
  rotate_left
  · intro w'
    go_simp
    with_reducible rfl
  rotate_left
  · simp only [Act.put, List.setIfInBounds_toArray, List.set_cons_zero, List.set_cons_succ, i64_w, i32_w]
    rfl
  refine pure_ (i := 5) (N := some 8) (v := ?_) (a' := ?_) #[true, true, true, true, true, true] rfl rfl (any_of (md := .any) (ops := opsOf Try.f9 3) F9tab3 (by kernel_rfl)) (fun _ _ _ h => h) (Or.inl ⟨by rfl, ?_⟩) ?_ ?_
  rotate_left
  · intro w'
    go_simp
    with_reducible rfl
  rotate_left
  · simp only [Act.put, List.setIfInBounds_toArray, List.set_cons_zero, List.set_cons_succ, i64_w, i32_w]
    rfl
  refine done_ (done_of (md := .any) (ops := opsOf Try.f9 3) F9tab3 (by kernel_rfl)) ?_
  clear hHeld
  have hga0 : w502.cell? ⟨ga, 0, none⟩ = some (.int .i64 x.f0) := (blk_cell IV.out.bx 0).trans rfl; have hga1 : w502.cell? ⟨ga, 1, none⟩ = some (.int .i64 x.f1) := (blk_cell IV.out.bx 1).trans rfl; have hga2 : w502.cell? ⟨ga, 2, none⟩ = some (.string x.f2) := (blk_cell IV.out.bx 2).trans rfl; have hga3 : w502.cell? ⟨ga, 3, none⟩ = some (.slice A x.f3.length c) := (blk_cell IV.out.bx 3).trans rfl; have hgb0 : w502.cell? ⟨gb, 0, none⟩ = some (.int .i64 y.f0) := (blk_cell IV.out.by_ 0).trans rfl; have hgb1 : w502.cell? ⟨gb, 1, none⟩ = some (.int .i64 y.f1) := (blk_cell IV.out.by_ 1).trans rfl; have hgb2 : w502.cell? ⟨gb, 2, none⟩ = some (.string y.f2) := (blk_cell IV.out.by_ 2).trans rfl; have hgb3 : w502.cell? ⟨gb, 3, none⟩ = some (.slice B y.f3.length d) := (blk_cell IV.out.by_ 3).trans rfl
  go_wp2_with (first | ((with_reducible refine gate_dst (N := 26) rfl ?_); refine lit_event ?hg (N := 26) ?hd (m := 2) (cs := #[.int .i64 x.f0, .int .i64 x.f1, .string x.f2, .slice A x.f3.length c, .int .i64 y.f0, .int .i64 y.f1, .string y.f2, .slice B y.f3.length d]) (t := 40) ?hr ?_; (case hd => rfl); (case hg => rfl); (case hr => first | (go_simp; done) | (go_simp; rfl)); intro gs hg w601 hbox hb; have DX := Aside0.mk (Dc_two 5 0 (⟨#[]⟩ : ByteArray) hbox (IV.out.dx.below hb) (IV.out.dy.below hb));  clear hbox hg; have n0 := Aside0.mk (IV.out.step hb); clear IV hb; have IV := n0; clear n0; clear hga0 hga1 hga2 hga3 hgb0 hgb1 hgb2 hgb3; have hga0 : w601.cell? ⟨ga, 0, none⟩ = some (.int .i64 x.f0) := (blk_cell IV.out.bx 0).trans rfl; have hga1 : w601.cell? ⟨ga, 1, none⟩ = some (.int .i64 x.f1) := (blk_cell IV.out.bx 1).trans rfl; have hga2 : w601.cell? ⟨ga, 2, none⟩ = some (.string x.f2) := (blk_cell IV.out.bx 2).trans rfl; have hga3 : w601.cell? ⟨ga, 3, none⟩ = some (.slice A x.f3.length c) := (blk_cell IV.out.bx 3).trans rfl; have hgb0 : w601.cell? ⟨gb, 0, none⟩ = some (.int .i64 y.f0) := (blk_cell IV.out.by_ 0).trans rfl; have hgb1 : w601.cell? ⟨gb, 1, none⟩ = some (.int .i64 y.f1) := (blk_cell IV.out.by_ 1).trans rfl; have hgb2 : w601.cell? ⟨gb, 2, none⟩ = some (.string y.f2) := (blk_cell IV.out.by_ 2).trans rfl; have hgb3 : w601.cell? ⟨gb, 3, none⟩ = some (.slice B y.f3.length d) := (blk_cell IV.out.by_ 3).trans rfl) | ((with_reducible refine gate_dst (N := 27) rfl ?_); refine goesL_ (some 27) rfl rfl Try.func37 (by kernel_rfl) rfl #[.slice (some ⟨gs, 0, none⟩) 2 2] rfl (by (try simp only [List.map_toArray, List.map_cons, List.map_nil]); first | done | rfl) ?_; (refine (mk37 (some ⟨gs, 0, none⟩) 2 2 _).mono ?_); (rintro e w602 ⟨rfl, hb⟩; refine ⟨_, rfl, ?_⟩; have m0 := Aside0.mk (DX.out.below hb); clear DX; have DX := m0; clear m0; have n0 := Aside0.mk (IV.out.step hb); clear IV hb; have IV := n0; clear n0; clear hga0 hga1 hga2 hga3 hgb0 hgb1 hgb2 hgb3; have hga0 : w602.cell? ⟨ga, 0, none⟩ = some (.int .i64 x.f0) := (blk_cell IV.out.bx 0).trans rfl; have hga1 : w602.cell? ⟨ga, 1, none⟩ = some (.int .i64 x.f1) := (blk_cell IV.out.bx 1).trans rfl; have hga2 : w602.cell? ⟨ga, 2, none⟩ = some (.string x.f2) := (blk_cell IV.out.bx 2).trans rfl; have hga3 : w602.cell? ⟨ga, 3, none⟩ = some (.slice A x.f3.length c) := (blk_cell IV.out.bx 3).trans rfl; have hgb0 : w602.cell? ⟨gb, 0, none⟩ = some (.int .i64 y.f0) := (blk_cell IV.out.by_ 0).trans rfl; have hgb1 : w602.cell? ⟨gb, 1, none⟩ = some (.int .i64 y.f1) := (blk_cell IV.out.by_ 1).trans rfl; have hgb2 : w602.cell? ⟨gb, 2, none⟩ = some (.string y.f2) := (blk_cell IV.out.by_ 2).trans rfl; have hgb3 : w602.cell? ⟨gb, 3, none⟩ = some (.slice B y.f3.length d) := (blk_cell IV.out.by_ 3).trans rfl)) | ((with_reducible refine gate_dst (N := 28) rfl ?_); refine goesL_ (some 28) rfl rfl Try.func31 (by kernel_rfl) rfl #[.agg #[.int .i64 5, .int .i64 0, .string (⟨#[]⟩ : ByteArray), .slice (some ⟨gs, 0, none⟩) 2 2]] rfl (by (try simp only [List.map_toArray, List.map_cons, List.map_nil]); first | done | rfl) ?_; (refine (frc_of ⟨5, 0, (⟨#[]⟩ : ByteArray), [x, y]⟩ (some ⟨gs, 0, none⟩) 2 false _ DX.out (fin_two 5 0 (⟨#[]⟩ : ByteArray) (by decide) FX.out FY.out) (by rw [frc_cat2, EX.out, EY.out]; rfl)).mono ?_); (rintro e w603 ⟨rfl, hb⟩; refine ⟨_, rfl, ?_⟩; clear DX; have n0 := Aside0.mk (IV.out.step hb); clear IV hb; have IV := n0; clear n0; clear hga0 hga1 hga2 hga3 hgb0 hgb1 hgb2 hgb3; have hga0 : w603.cell? ⟨ga, 0, none⟩ = some (.int .i64 x.f0) := (blk_cell IV.out.bx 0).trans rfl; have hga1 : w603.cell? ⟨ga, 1, none⟩ = some (.int .i64 x.f1) := (blk_cell IV.out.bx 1).trans rfl; have hga2 : w603.cell? ⟨ga, 2, none⟩ = some (.string x.f2) := (blk_cell IV.out.bx 2).trans rfl; have hga3 : w603.cell? ⟨ga, 3, none⟩ = some (.slice A x.f3.length c) := (blk_cell IV.out.bx 3).trans rfl; have hgb0 : w603.cell? ⟨gb, 0, none⟩ = some (.int .i64 y.f0) := (blk_cell IV.out.by_ 0).trans rfl; have hgb1 : w603.cell? ⟨gb, 1, none⟩ = some (.int .i64 y.f1) := (blk_cell IV.out.by_ 1).trans rfl; have hgb2 : w603.cell? ⟨gb, 2, none⟩ = some (.string y.f2) := (blk_cell IV.out.by_ 2).trans rfl; have hgb3 : w603.cell? ⟨gb, 3, none⟩ = some (.slice B y.f3.length d) := (blk_cell IV.out.by_ 3).trans rfl)) | ((with_reducible refine gate_dst (N := 36) rfl ?_); (refine gate_guard (by rfl) ?_; dsimp only); refine lit_event ?hg (N := 36) ?hd (m := 1) (cs := #[.int .i64 x.f0, .int .i64 x.f1, .string x.f2, .slice A x.f3.length c]) (t := 40) ?hr ?_; (case hd => rfl); (case hg => rfl); (case hr => first | (go_simp; done) | (go_simp; rfl)); intro gs hg w604 hbox hb; have DX := Aside0.mk (Dc_one 6 4 (⟨#[]⟩ : ByteArray) hbox (IV.out.dx.below hb));  clear hbox hg; have n0 := Aside0.mk (IV.out.step hb); clear IV hb; have IV := n0; clear n0; clear hga0 hga1 hga2 hga3 hgb0 hgb1 hgb2 hgb3; have hga0 : w604.cell? ⟨ga, 0, none⟩ = some (.int .i64 x.f0) := (blk_cell IV.out.bx 0).trans rfl; have hga1 : w604.cell? ⟨ga, 1, none⟩ = some (.int .i64 x.f1) := (blk_cell IV.out.bx 1).trans rfl; have hga2 : w604.cell? ⟨ga, 2, none⟩ = some (.string x.f2) := (blk_cell IV.out.bx 2).trans rfl; have hga3 : w604.cell? ⟨ga, 3, none⟩ = some (.slice A x.f3.length c) := (blk_cell IV.out.bx 3).trans rfl; have hgb0 : w604.cell? ⟨gb, 0, none⟩ = some (.int .i64 y.f0) := (blk_cell IV.out.by_ 0).trans rfl; have hgb1 : w604.cell? ⟨gb, 1, none⟩ = some (.int .i64 y.f1) := (blk_cell IV.out.by_ 1).trans rfl; have hgb2 : w604.cell? ⟨gb, 2, none⟩ = some (.string y.f2) := (blk_cell IV.out.by_ 2).trans rfl; have hgb3 : w604.cell? ⟨gb, 3, none⟩ = some (.slice B y.f3.length d) := (blk_cell IV.out.by_ 3).trans rfl) | ((with_reducible refine gate_dst (N := 37) rfl ?_); (refine gate_guard (by rfl) ?_; dsimp only); refine goesL_ (some 37) rfl rfl Try.func38 (by kernel_rfl) rfl #[.int .i64 4, .slice (some ⟨gs, 0, none⟩) 1 1] rfl (by (try simp only [List.map_toArray, List.map_cons, List.map_nil]); first | done | rfl) ?_; (refine (mk38 4 (some ⟨gs, 0, none⟩) 1 1 _).mono ?_); (rintro e w605 ⟨rfl, hb⟩; refine ⟨_, rfl, ?_⟩; have m0 := Aside0.mk (DX.out.below hb); clear DX; have DX := m0; clear m0; have n0 := Aside0.mk (IV.out.step hb); clear IV hb; have IV := n0; clear n0; clear hga0 hga1 hga2 hga3 hgb0 hgb1 hgb2 hgb3; have hga0 : w605.cell? ⟨ga, 0, none⟩ = some (.int .i64 x.f0) := (blk_cell IV.out.bx 0).trans rfl; have hga1 : w605.cell? ⟨ga, 1, none⟩ = some (.int .i64 x.f1) := (blk_cell IV.out.bx 1).trans rfl; have hga2 : w605.cell? ⟨ga, 2, none⟩ = some (.string x.f2) := (blk_cell IV.out.bx 2).trans rfl; have hga3 : w605.cell? ⟨ga, 3, none⟩ = some (.slice A x.f3.length c) := (blk_cell IV.out.bx 3).trans rfl; have hgb0 : w605.cell? ⟨gb, 0, none⟩ = some (.int .i64 y.f0) := (blk_cell IV.out.by_ 0).trans rfl; have hgb1 : w605.cell? ⟨gb, 1, none⟩ = some (.int .i64 y.f1) := (blk_cell IV.out.by_ 1).trans rfl; have hgb2 : w605.cell? ⟨gb, 2, none⟩ = some (.string y.f2) := (blk_cell IV.out.by_ 2).trans rfl; have hgb3 : w605.cell? ⟨gb, 3, none⟩ = some (.slice B y.f3.length d) := (blk_cell IV.out.by_ 3).trans rfl)) | ((with_reducible refine gate_dst (N := 38) rfl ?_); (refine gate_guard (by rfl) ?_; dsimp only); refine goesL_ (some 38) rfl rfl Try.func31 (by kernel_rfl) rfl #[.agg #[.int .i64 6, .int .i64 4, .string (⟨#[]⟩ : ByteArray), .slice (some ⟨gs, 0, none⟩) 1 1]] rfl (by (try simp only [List.map_toArray, List.map_cons, List.map_nil]); first | done | rfl) ?_; (refine (frc_of ⟨6, 4, (⟨#[]⟩ : ByteArray), [x]⟩ (some ⟨gs, 0, none⟩) 1 false _ DX.out (fin_one 6 4 (⟨#[]⟩ : ByteArray) (by decide) FX.out) (by rw [frc_nest1, EX.out])).mono ?_); (rintro e w606 ⟨rfl, hb⟩; refine ⟨_, rfl, ?_⟩; clear DX; have n0 := Aside0.mk (IV.out.step hb); clear IV hb; have IV := n0; clear n0; clear hga0 hga1 hga2 hga3 hgb0 hgb1 hgb2 hgb3; have hga0 : w606.cell? ⟨ga, 0, none⟩ = some (.int .i64 x.f0) := (blk_cell IV.out.bx 0).trans rfl; have hga1 : w606.cell? ⟨ga, 1, none⟩ = some (.int .i64 x.f1) := (blk_cell IV.out.bx 1).trans rfl; have hga2 : w606.cell? ⟨ga, 2, none⟩ = some (.string x.f2) := (blk_cell IV.out.bx 2).trans rfl; have hga3 : w606.cell? ⟨ga, 3, none⟩ = some (.slice A x.f3.length c) := (blk_cell IV.out.bx 3).trans rfl; have hgb0 : w606.cell? ⟨gb, 0, none⟩ = some (.int .i64 y.f0) := (blk_cell IV.out.by_ 0).trans rfl; have hgb1 : w606.cell? ⟨gb, 1, none⟩ = some (.int .i64 y.f1) := (blk_cell IV.out.by_ 1).trans rfl; have hgb2 : w606.cell? ⟨gb, 2, none⟩ = some (.string y.f2) := (blk_cell IV.out.by_ 2).trans rfl; have hgb3 : w606.cell? ⟨gb, 3, none⟩ = some (.slice B y.f3.length d) := (blk_cell IV.out.by_ 3).trans rfl)) | ((with_reducible refine gate_dst (N := 45) rfl ?_); (refine gate_guard (by rfl) ?_; dsimp only); refine lit_event ?hg (N := 45) ?hd (m := 2) (cs := #[.int .i64 x.f0, .int .i64 x.f1, .string x.f2, .slice A x.f3.length c, .int .i64 y.f0, .int .i64 y.f1, .string y.f2, .slice B y.f3.length d]) (t := 40) ?hr ?_; (case hd => rfl); (case hg => rfl); (case hr => first | (go_simp; done) | (go_simp; rfl)); intro gs hg w607 hbox hb; have DX := Aside0.mk (Dc_two 7 0 (⟨#[]⟩ : ByteArray) hbox (IV.out.dx.below hb) (IV.out.dy.below hb));  clear hbox hg; have n0 := Aside0.mk (IV.out.step hb); clear IV hb; have IV := n0; clear n0; clear hga0 hga1 hga2 hga3 hgb0 hgb1 hgb2 hgb3; have hga0 : w607.cell? ⟨ga, 0, none⟩ = some (.int .i64 x.f0) := (blk_cell IV.out.bx 0).trans rfl; have hga1 : w607.cell? ⟨ga, 1, none⟩ = some (.int .i64 x.f1) := (blk_cell IV.out.bx 1).trans rfl; have hga2 : w607.cell? ⟨ga, 2, none⟩ = some (.string x.f2) := (blk_cell IV.out.bx 2).trans rfl; have hga3 : w607.cell? ⟨ga, 3, none⟩ = some (.slice A x.f3.length c) := (blk_cell IV.out.bx 3).trans rfl; have hgb0 : w607.cell? ⟨gb, 0, none⟩ = some (.int .i64 y.f0) := (blk_cell IV.out.by_ 0).trans rfl; have hgb1 : w607.cell? ⟨gb, 1, none⟩ = some (.int .i64 y.f1) := (blk_cell IV.out.by_ 1).trans rfl; have hgb2 : w607.cell? ⟨gb, 2, none⟩ = some (.string y.f2) := (blk_cell IV.out.by_ 2).trans rfl; have hgb3 : w607.cell? ⟨gb, 3, none⟩ = some (.slice B y.f3.length d) := (blk_cell IV.out.by_ 3).trans rfl) | ((with_reducible refine gate_dst (N := 46) rfl ?_); (refine gate_guard (by rfl) ?_; dsimp only); refine goesL_ (some 46) rfl rfl Try.func39 (by kernel_rfl) rfl #[.slice (some ⟨gs, 0, none⟩) 2 2] rfl (by (try simp only [List.map_toArray, List.map_cons, List.map_nil]); first | done | rfl) ?_; (refine (mk39 (some ⟨gs, 0, none⟩) 2 2 _).mono ?_); (rintro e w608 ⟨rfl, hb⟩; refine ⟨_, rfl, ?_⟩; have m0 := Aside0.mk (DX.out.below hb); clear DX; have DX := m0; clear m0; have n0 := Aside0.mk (IV.out.step hb); clear IV hb; have IV := n0; clear n0; clear hga0 hga1 hga2 hga3 hgb0 hgb1 hgb2 hgb3; have hga0 : w608.cell? ⟨ga, 0, none⟩ = some (.int .i64 x.f0) := (blk_cell IV.out.bx 0).trans rfl; have hga1 : w608.cell? ⟨ga, 1, none⟩ = some (.int .i64 x.f1) := (blk_cell IV.out.bx 1).trans rfl; have hga2 : w608.cell? ⟨ga, 2, none⟩ = some (.string x.f2) := (blk_cell IV.out.bx 2).trans rfl; have hga3 : w608.cell? ⟨ga, 3, none⟩ = some (.slice A x.f3.length c) := (blk_cell IV.out.bx 3).trans rfl; have hgb0 : w608.cell? ⟨gb, 0, none⟩ = some (.int .i64 y.f0) := (blk_cell IV.out.by_ 0).trans rfl; have hgb1 : w608.cell? ⟨gb, 1, none⟩ = some (.int .i64 y.f1) := (blk_cell IV.out.by_ 1).trans rfl; have hgb2 : w608.cell? ⟨gb, 2, none⟩ = some (.string y.f2) := (blk_cell IV.out.by_ 2).trans rfl; have hgb3 : w608.cell? ⟨gb, 3, none⟩ = some (.slice B y.f3.length d) := (blk_cell IV.out.by_ 3).trans rfl)) | ((with_reducible refine gate_dst (N := 47) rfl ?_); (refine gate_guard (by rfl) ?_; dsimp only); refine goesL_ (some 47) rfl rfl Try.func31 (by kernel_rfl) rfl #[.agg #[.int .i64 7, .int .i64 0, .string (⟨#[]⟩ : ByteArray), .slice (some ⟨gs, 0, none⟩) 2 2]] rfl (by (try simp only [List.map_toArray, List.map_cons, List.map_nil]); first | done | rfl) ?_; (refine (frc_of ⟨7, 0, (⟨#[]⟩ : ByteArray), [x, y]⟩ (some ⟨gs, 0, none⟩) 2 false _ DX.out (fin_two 7 0 (⟨#[]⟩ : ByteArray) (by decide) FX.out FY.out) (by rw [frc_grp2, EX.out, EY.out]; rfl)).mono ?_); (rintro e w609 ⟨rfl, hb⟩; refine ⟨_, rfl, ?_⟩; clear DX; have n0 := Aside0.mk (IV.out.step hb); clear IV hb; have IV := n0; clear n0; clear hga0 hga1 hga2 hga3 hgb0 hgb1 hgb2 hgb3; have hga0 : w609.cell? ⟨ga, 0, none⟩ = some (.int .i64 x.f0) := (blk_cell IV.out.bx 0).trans rfl; have hga1 : w609.cell? ⟨ga, 1, none⟩ = some (.int .i64 x.f1) := (blk_cell IV.out.bx 1).trans rfl; have hga2 : w609.cell? ⟨ga, 2, none⟩ = some (.string x.f2) := (blk_cell IV.out.bx 2).trans rfl; have hga3 : w609.cell? ⟨ga, 3, none⟩ = some (.slice A x.f3.length c) := (blk_cell IV.out.bx 3).trans rfl; have hgb0 : w609.cell? ⟨gb, 0, none⟩ = some (.int .i64 y.f0) := (blk_cell IV.out.by_ 0).trans rfl; have hgb1 : w609.cell? ⟨gb, 1, none⟩ = some (.int .i64 y.f1) := (blk_cell IV.out.by_ 1).trans rfl; have hgb2 : w609.cell? ⟨gb, 2, none⟩ = some (.string y.f2) := (blk_cell IV.out.by_ 2).trans rfl; have hgb3 : w609.cell? ⟨gb, 3, none⟩ = some (.slice B y.f3.length d) := (blk_cell IV.out.by_ 3).trans rfl)) | ((with_reducible refine gate_dst (N := 56) rfl ?_); (refine gate_guard (by rfl) ?_; dsimp only); refine lit_event ?hg (N := 56) ?hd (m := 1) (cs := #[.int .i64 x.f0, .int .i64 x.f1, .string x.f2, .slice A x.f3.length c]) (t := 40) ?hr ?_; (case hd => rfl); (case hg => rfl); (case hr => first | (go_simp; done) | (go_simp; rfl)); intro gs hg w610 hbox hb; have DX := Aside0.mk (Dc_one 7 1 (⟨#[]⟩ : ByteArray) hbox (IV.out.dx.below hb));  clear hbox hg; have n0 := Aside0.mk (IV.out.step hb); clear IV hb; have IV := n0; clear n0; clear hga0 hga1 hga2 hga3 hgb0 hgb1 hgb2 hgb3; have hga0 : w610.cell? ⟨ga, 0, none⟩ = some (.int .i64 x.f0) := (blk_cell IV.out.bx 0).trans rfl; have hga1 : w610.cell? ⟨ga, 1, none⟩ = some (.int .i64 x.f1) := (blk_cell IV.out.bx 1).trans rfl; have hga2 : w610.cell? ⟨ga, 2, none⟩ = some (.string x.f2) := (blk_cell IV.out.bx 2).trans rfl; have hga3 : w610.cell? ⟨ga, 3, none⟩ = some (.slice A x.f3.length c) := (blk_cell IV.out.bx 3).trans rfl; have hgb0 : w610.cell? ⟨gb, 0, none⟩ = some (.int .i64 y.f0) := (blk_cell IV.out.by_ 0).trans rfl; have hgb1 : w610.cell? ⟨gb, 1, none⟩ = some (.int .i64 y.f1) := (blk_cell IV.out.by_ 1).trans rfl; have hgb2 : w610.cell? ⟨gb, 2, none⟩ = some (.string y.f2) := (blk_cell IV.out.by_ 2).trans rfl; have hgb3 : w610.cell? ⟨gb, 3, none⟩ = some (.slice B y.f3.length d) := (blk_cell IV.out.by_ 3).trans rfl) | ((with_reducible refine gate_dst (N := 57) rfl ?_); (refine gate_guard (by rfl) ?_; dsimp only); refine goesL_ (some 57) rfl rfl Try.func40 (by kernel_rfl) rfl #[.slice (some ⟨gs, 0, none⟩) 1 1] rfl (by (try simp only [List.map_toArray, List.map_cons, List.map_nil]); first | done | rfl) ?_; (refine (mk40 (some ⟨gs, 0, none⟩) 1 1 _).mono ?_); (rintro e w611 ⟨rfl, hb⟩; refine ⟨_, rfl, ?_⟩; have m0 := Aside0.mk (DX.out.below hb); clear DX; have DX := m0; clear m0; have n0 := Aside0.mk (IV.out.step hb); clear IV hb; have IV := n0; clear n0; clear hga0 hga1 hga2 hga3 hgb0 hgb1 hgb2 hgb3; have hga0 : w611.cell? ⟨ga, 0, none⟩ = some (.int .i64 x.f0) := (blk_cell IV.out.bx 0).trans rfl; have hga1 : w611.cell? ⟨ga, 1, none⟩ = some (.int .i64 x.f1) := (blk_cell IV.out.bx 1).trans rfl; have hga2 : w611.cell? ⟨ga, 2, none⟩ = some (.string x.f2) := (blk_cell IV.out.bx 2).trans rfl; have hga3 : w611.cell? ⟨ga, 3, none⟩ = some (.slice A x.f3.length c) := (blk_cell IV.out.bx 3).trans rfl; have hgb0 : w611.cell? ⟨gb, 0, none⟩ = some (.int .i64 y.f0) := (blk_cell IV.out.by_ 0).trans rfl; have hgb1 : w611.cell? ⟨gb, 1, none⟩ = some (.int .i64 y.f1) := (blk_cell IV.out.by_ 1).trans rfl; have hgb2 : w611.cell? ⟨gb, 2, none⟩ = some (.string y.f2) := (blk_cell IV.out.by_ 2).trans rfl; have hgb3 : w611.cell? ⟨gb, 3, none⟩ = some (.slice B y.f3.length d) := (blk_cell IV.out.by_ 3).trans rfl)) | ((with_reducible refine gate_dst (N := 58) rfl ?_); (refine gate_guard (by rfl) ?_; dsimp only); refine goesL_ (some 58) rfl rfl Try.func31 (by kernel_rfl) rfl #[.agg #[.int .i64 7, .int .i64 1, .string (⟨#[]⟩ : ByteArray), .slice (some ⟨gs, 0, none⟩) 1 1]] rfl (by (try simp only [List.map_toArray, List.map_cons, List.map_nil]); first | done | rfl) ?_; (refine (frc_of ⟨7, 1, (⟨#[]⟩ : ByteArray), [x]⟩ (some ⟨gs, 0, none⟩) 1 true _ DX.out (fin_one 7 1 (⟨#[]⟩ : ByteArray) (by decide) FX.out) frc_brk1).mono ?_); (rintro e w612 ⟨rfl, hb⟩; refine ⟨_, rfl, ?_⟩; clear DX; have n0 := Aside0.mk (IV.out.step hb); clear IV hb; have IV := n0; clear n0; clear hga0 hga1 hga2 hga3 hgb0 hgb1 hgb2 hgb3; have hga0 : w612.cell? ⟨ga, 0, none⟩ = some (.int .i64 x.f0) := (blk_cell IV.out.bx 0).trans rfl; have hga1 : w612.cell? ⟨ga, 1, none⟩ = some (.int .i64 x.f1) := (blk_cell IV.out.bx 1).trans rfl; have hga2 : w612.cell? ⟨ga, 2, none⟩ = some (.string x.f2) := (blk_cell IV.out.bx 2).trans rfl; have hga3 : w612.cell? ⟨ga, 3, none⟩ = some (.slice A x.f3.length c) := (blk_cell IV.out.bx 3).trans rfl; have hgb0 : w612.cell? ⟨gb, 0, none⟩ = some (.int .i64 y.f0) := (blk_cell IV.out.by_ 0).trans rfl; have hgb1 : w612.cell? ⟨gb, 1, none⟩ = some (.int .i64 y.f1) := (blk_cell IV.out.by_ 1).trans rfl; have hgb2 : w612.cell? ⟨gb, 2, none⟩ = some (.string y.f2) := (blk_cell IV.out.by_ 2).trans rfl; have hgb3 : w612.cell? ⟨gb, 3, none⟩ = some (.slice B y.f3.length d) := (blk_cell IV.out.by_ 3).trans rfl)) | ((with_reducible refine gate_dst (N := 9) rfl ?_); (try (refine gate_guard (by rfl) ?_; dsimp only)); refine box_event ?hg (N := 9) ?hd (cs := #[.int .i64 0, .int .i64 0, .string (⟨#[]⟩ : ByteArray), .slice none 0 0]) (t := 40) ?hr ?_; (case hd => rfl); (case hg => rfl); (case hr => first | (go_simp; done) | (go_simp; rfl)); intro g9 hg w700 hbox hb; have NA := Aside0.mk (show ga ≠ g9 from by rw [hg]; exact Nat.ne_of_lt (blk_lt IV.out.bx)); have NB := Aside0.mk (show gb ≠ g9 from by rw [hg]; exact Nat.ne_of_lt (blk_lt IV.out.by_)); have N9 := Aside0.mk (show w.heap.size ≤ g9 from by rw [hg]; exact IV.out.hb.size); have BZ := Aside0.mk hbox;  have hz0 : w700.cell? ⟨g9, 0, none⟩ = some (.int .i64 0) := (blk_cell BZ.out 0).trans rfl; have hz1 : w700.cell? ⟨g9, 1, none⟩ = some (.int .i64 0) := (blk_cell BZ.out 1).trans rfl; have hz2 : w700.cell? ⟨g9, 2, none⟩ = some (.string (⟨#[]⟩ : ByteArray)) := (blk_cell BZ.out 2).trans rfl; have hz3 : w700.cell? ⟨g9, 3, none⟩ = some (.slice none 0 0) := (blk_cell BZ.out 3).trans rfl; have yf0 := blk_frozen BZ.out 0; have yf1 := blk_frozen BZ.out 1; have yf2 := blk_frozen BZ.out 2; have yf3 := blk_frozen BZ.out 3; clear hbox hg; have n0 := Aside0.mk (IV.out.step hb); clear IV hb; have IV := n0; clear n0; clear hga0 hga1 hga2 hga3 hgb0 hgb1 hgb2 hgb3))
  have IG := Aside0.mk (show IvG w (((((w700).setCell ⟨g9, 0, none⟩ (.int .i64 4)).setCell ⟨g9, 1, none⟩ (.int .i64 0)).setCell ⟨g9, 2, none⟩ (.string (⟨#[]⟩ : ByteArray))).setCell ⟨g9, 3, none⟩ (.slice none 0 0)) ga gb x y A c B d g9 (dI 0) none 0 from ⟨(((IV.out.set NA.out NB.out N9.out 0 _).set NA.out NB.out N9.out 1 _).set NA.out NB.out N9.out 2 _).set NA.out NB.out N9.out 3 _, (by
    refine blk_put (cs := #[.int .i64 4, .int .i64 0, .string (⟨#[]⟩ : ByteArray), .slice none 0 0]) ?_ 3 _ rfl
    refine blk_put (cs := #[.int .i64 4, .int .i64 0, .string (⟨#[]⟩ : ByteArray), .slice none 0 0]) ?_ 2 _ rfl
    refine blk_put (cs := #[.int .i64 4, .int .i64 0, .string (⟨#[]⟩ : ByteArray), .slice none 0 0]) ?_ 1 _ rfl
    refine blk_put (cs := #[.int .i64 0, .int .i64 0, .string (⟨#[]⟩ : ByteArray), .slice none 0 0]) ?_ 0 _ rfl
    exact BZ.out), D9_zero _, NA.out, NB.out, N9.out⟩)
  clear IV BZ NA NB N9 hz0 hz1 hz2 hz3 yf0 yf1 yf2 yf3 hf hf2
  obtain ⟨m, hm31, hm⟩ := rem31_nat n
  go_loopg [10] m (fun k' v10 wr => ∃ (i : Nat) (Z : Option Addr) (e : Nat), v10 = .int .i64 i ∧ i ≤ m ∧ Aside0 (k' + i = m) ∧ Aside0 (IvG w wr ga gb x y A c B d g9 (dI i) Z e))
  case atStart => exact ⟨0, none, 0, rfl, Nat.zero_le _, ⟨rfl⟩, IG⟩
  case round =>
    clear IG
    obtain ⟨i, Z, e, rfl, hi, HK, IG⟩ := hrel
    by_cases hlt : i < m
    · go_wp2_with fail
      have IG2 := Aside0.mk (IG.out.step (below_drew1 (Below.refl _ _)))
      clear IG
      have IG := IG2
      clear IG2
      refine start_ (n := 5) (S := SZ g9 (dI i) Z e) (ds := [4]) #[false, false, false, false, false] (by kernel_rfl) rfl rfl (IG.out.S) (fun hHeld => ?_)
      generalize World.drew _ = w800 at IG hHeld ⊢
      refine take_ (i := 1) (N := some 71) (v := ?_) (a' := ?_) #[false, true, false, false, false] rfl rfl (take_of (md := .any) (ops := opsOf Try.f9 10) F9tab10 (by kernel_rfl)) (fun _ _ _ h => h) (Or.inl ⟨by rfl, ?_⟩) hHeld ?_ ?_
      rotate_left
      · rintro w' ⟨s0, s1, s2, s3⟩
        go_simp
        with_reducible rfl
      rotate_left
      · simp only [Act.put, List.setIfInBounds_toArray, List.set_cons_zero, List.set_cons_succ, i64_w, i32_w]
        rfl
      refine one_ (i := 0) (N := some 70) #[true, true, false, false, false] rfl rfl (one_of (md := .any) (ops := opsOf Try.f9 10) F9tab10 (by kernel_rfl)) (by decide) (fun K hK => ?_)
      refine goes_ Try.func36 (by kernel_rfl) rfl #[.string (⟨#[116]⟩ : ByteArray)] (by rfl) rfl rfl (by (try simp only [List.map_toArray, List.map_cons, List.map_nil]); first | done | rfl) ?_
      refine (mk36 (⟨#[116]⟩ : ByteArray) _).mono ?_
      rintro e w801 ⟨rfl, hb⟩
      refine ⟨_, rfl, ?_⟩
      have n0 := Aside0.mk (IG.out.step hb); clear IG hb; have IG := n0; clear n0
      refine hK.out _ _ (IG.out.S) (fun hHeld => ?_)
      clear hK K
      refine norm_ (a' := ?_) ?_ ?_
      rotate_left
      · show Act.put _ (some 70) _ = _
        simp only [Act.put, List.setIfInBounds_toArray, List.set_cons_zero, List.set_cons_succ, i64_w, i32_w]
        rfl
      refine one_ (i := 2) (N := some 72) #[true, true, true, false, false] rfl rfl (one_of (md := .any) (ops := opsOf Try.f9 10) F9tab10 (by kernel_rfl)) (by decide) (fun K hK => ?_)
      refine lit_step (m := 2) (cs := #[.int .i64 1, .int .i64 0, .string (⟨#[116]⟩ : ByteArray), .slice none 0 0, .int .i64 (dI i).f0, .int .i64 (dI i).f1, .string (dI i).f2, .slice Z (dI i).f3.length e]) (t := 40) (by rfl) ?hrun ?_
      case hrun => first | (go_simp; done) | (go_simp; rfl)
      intro gs hg w802 hbox hb
      have DZ := Aside0.mk (D9_dI i (by rw [hg]; exact Nat.ne_of_gt (blk_lt IG.out.bz)) hbox (IG.out.dz.step hb)); have n0 := Aside0.mk (IG.out.step hb); clear IG hb; have IG := n0; clear n0
      clear hbox hg
      refine hK.out _ _ (IG.out.S) (fun hHeld => ?_)
      clear hK K
      refine norm_ (a' := ?_) ?_ ?_
      rotate_left
      · show Act.put _ (some 72) _ = _
        simp only [Act.put, List.setIfInBounds_toArray, List.set_cons_zero, List.set_cons_succ, i64_w, i32_w]
        rfl
      refine one_ (i := 3) (N := some 73) #[true, true, true, true, false] rfl rfl (one_of (md := .any) (ops := opsOf Try.f9 10) F9tab10 (by kernel_rfl)) (by decide) (fun K hK => ?_)
      refine goes_ Try.func39 (by kernel_rfl) rfl #[.slice (some ⟨gs, 0, none⟩) 2 2] (by rfl) rfl rfl (by (try simp only [List.map_toArray, List.map_cons, List.map_nil]); first | done | rfl) ?_
      refine (mk39 (some ⟨gs, 0, none⟩) 2 2 _).mono ?_
      rintro e w803 ⟨rfl, hb⟩
      refine ⟨_, rfl, ?_⟩
      have m0 := Aside0.mk (DZ.out.step hb); clear DZ; have DZ := m0; clear m0; have n0 := Aside0.mk (IG.out.step hb); clear IG hb; have IG := n0; clear n0
      refine hK.out _ _ (IG.out.S) (fun hHeld => ?_)
      clear hK K
      refine norm_ (a' := ?_) ?_ ?_
      rotate_left
      · show Act.put _ (some 73) _ = _
        simp only [Act.put, List.setIfInBounds_toArray, List.set_cons_zero, List.set_cons_succ, i64_w, i32_w]
        rfl
      refine last_ (i := 4) (N := none) #[true, true, true, true, true] rfl rfl (one_of (md := .any) (ops := opsOf Try.f9 10) F9tab10 (by kernel_rfl)) (by decide) (fun K hK => ?_)
      obtain ⟨hz0, hz1, hz2, hz3⟩ := IG.out.S
      have yf0 := blk_frozen IG.out.bz 0
      have yf1 := blk_frozen IG.out.bz 1
      have yf2 := blk_frozen IG.out.bz 2
      have yf3 := blk_frozen IG.out.bz 3
      refine skip_ (w1 := ((((w803).setCell ⟨g9, 0, none⟩ (.int .i64 7)).setCell ⟨g9, 1, none⟩ (.int .i64 0)).setCell ⟨g9, 2, none⟩ (.string (⟨#[]⟩ : ByteArray))).setCell ⟨g9, 3, none⟩ (.slice (some ⟨gs, 0, none⟩) 2 2)) rfl rfl ?hrun ?_
      case hrun => first | (go_simp; done) | (go_simp; rfl)
      refine hK.out _ _ (done_ (done_of (md := .any) (ops := opsOf Try.f9 10) F9tab10 (by kernel_rfl)) ?_)
      have IH := Aside0.mk (show IvG w (((((w803).setCell ⟨g9, 0, none⟩ (.int .i64 7)).setCell ⟨g9, 1, none⟩ (.int .i64 0)).setCell ⟨g9, 2, none⟩ (.string (⟨#[]⟩ : ByteArray))).setCell ⟨g9, 3, none⟩ (.slice (some ⟨gs, 0, none⟩) 2 2)) ga gb x y A c B d g9 (dI (i + 1)) (some ⟨gs, 0, none⟩) 2 from ⟨(((IG.out.f.set IG.out.na IG.out.nb IG.out.n9 0 _).set IG.out.na IG.out.nb IG.out.n9 1 _).set IG.out.na IG.out.nb IG.out.n9 2 _).set IG.out.na IG.out.nb IG.out.n9 3 _, (by
        refine blk_put (cs := #[.int .i64 7, .int .i64 0, .string (⟨#[]⟩ : ByteArray), .slice Z (dI i).f3.length e]) ?_ 3 _ rfl
        refine blk_put (cs := #[.int .i64 7, .int .i64 0, .string (dI i).f2, .slice Z (dI i).f3.length e]) ?_ 2 _ rfl
        refine blk_put (cs := #[.int .i64 7, .int .i64 (dI i).f1, .string (dI i).f2, .slice Z (dI i).f3.length e]) ?_ 1 _ rfl
        refine blk_put (cs := #[.int .i64 (dI i).f0, .int .i64 (dI i).f1, .string (dI i).f2, .slice Z (dI i).f3.length e]) ?_ 0 _ rfl
        exact IG.out.bz), (((DZ.out.set 0 _).set 1 _).set 2 _).set 3 _, IG.out.na, IG.out.nb, IG.out.n9⟩)
      clear IG DZ hz0 hz1 hz2 hz3 yf0 yf1 yf2 yf3 hK hHeld
      have hi0 : 0 ≤ (i : Int) := by omega
      have hi1 : (i : Int) ≤ 31 := by omega
      go_wp2_with fail
      go_roundg (m - (i + 1))
      case measure => have := HK.out; omega
      case rel => exact ⟨i + 1, _, _, by simp, by omega, ⟨by have := HK.out; omega⟩, IH⟩
    · obtain rfl : i = m := by omega
      go_wp2_with fail
      have IG2 := Aside0.mk (IG.out.step (below_drew1 (Below.refl _ _)))
      clear IG
      have IG := IG2
      clear IG2
      refine start_ (n := 20) (S := SG ga gb x y A c B d g9 (dI i) Z e) (ds := []) #[false, false, false, false, false, false, false, false, false, false, false, false, false, false, false, false, false, false, false, false] (by kernel_rfl) rfl rfl (IG.out.SS) (fun hHeld => ?_)
      generalize World.drew _ = w900 at IG hHeld ⊢
      refine one_ (i := 0) (N := some 74) #[true, false, false, false, false, false, false, false, false, false, false, false, false, false, false, false, false, false, false, false] rfl rfl (one_of (md := .any) (ops := opsOf Try.f9 11) F9tab11 (by kernel_rfl)) (by decide) (fun K hK => ?_)
      refine goes_ Try.func28 (by kernel_rfl) rfl #[] (by rfl) rfl rfl (by (try simp only [List.map_toArray, List.map_cons, List.map_nil]); first | done | rfl) ?_
      refine (galleylaw15_told.calls true _ rfl).mono ?_
      rintro e w901 ⟨rfl, hb⟩
      refine ⟨_, rfl, ?_⟩
      have n0 := Aside0.mk (IG.out.step hb); clear IG hb; have IG := n0; clear n0
      refine hK.out _ _ (IG.out.SS) (fun hHeld => ?_)
      clear hK K
      refine norm_ (a' := ?_) ?_ ?_
      rotate_left
      · show Act.put _ (some 74) _ = _
        simp only [Act.put, List.setIfInBounds_toArray, List.set_cons_zero, List.set_cons_succ, i64_w, i32_w]
        rfl
      refine pure_ (i := 1) (N := some 75) (v := ?_) (a' := ?_) #[true, true, false, false, false, false, false, false, false, false, false, false, false, false, false, false, false, false, false, false] rfl rfl (any_of (md := .any) (ops := opsOf Try.f9 11) F9tab11 (by kernel_rfl)) (fun _ _ _ h => h) (Or.inl ⟨by rfl, ?_⟩) ?_ ?_
      rotate_left
      · intro w'
        go_simp
        with_reducible rfl
      rotate_left
      · simp only [Act.put, List.setIfInBounds_toArray, List.set_cons_zero, List.set_cons_succ, i64_w, i32_w]
        rfl
      refine take_ (i := 2) (N := some 76) (v := ?_) (a' := ?_) #[true, true, true, false, false, false, false, false, false, false, false, false, false, false, false, false, false, false, false, false] rfl rfl (take_of (md := .any) (ops := opsOf Try.f9 11) F9tab11 (by kernel_rfl)) (fun _ _ _ h => h) (Or.inl ⟨by rfl, ?_⟩) hHeld ?_ ?_
      rotate_left
      · rintro w' ⟨s0, s1, s2, s3, s4, s5, s6, s7, s8, s9, s10, s11⟩
        go_simp
        with_reducible rfl
      rotate_left
      · simp only [Act.put, List.setIfInBounds_toArray, List.set_cons_zero, List.set_cons_succ, i64_w, i32_w]
        rfl
      refine one_ (i := 3) (N := some 77) #[true, true, true, true, false, false, false, false, false, false, false, false, false, false, false, false, false, false, false, false] rfl rfl (one_of (md := .any) (ops := opsOf Try.f9 11) F9tab11 (by kernel_rfl)) (by decide) (fun K hK => ?_)
      refine goes_ Try.func31 (by kernel_rfl) rfl #[.agg #[.int .i64 (dI i).f0, .int .i64 (dI i).f1, .string (dI i).f2, .slice Z (dI i).f3.length e]] (by rfl) rfl rfl (by (try simp only [List.map_toArray, List.map_cons, List.map_nil]); first | done | rfl) ?_
      refine (frc_of (dI i) Z e true _ IG.out.dz.own (dI_fin i) (dI_frc i)).mono ?_
      rintro e w902 ⟨rfl, hb⟩
      refine ⟨_, rfl, ?_⟩
      have n0 := Aside0.mk (IG.out.step hb); clear IG hb; have IG := n0; clear n0
      refine hK.out _ _ (IG.out.SS) (fun hHeld => ?_)
      clear hK K
      refine norm_ (a' := ?_) ?_ ?_
      rotate_left
      · show Act.put _ (some 77) _ = _
        simp only [Act.put, List.setIfInBounds_toArray, List.set_cons_zero, List.set_cons_succ, i64_w, i32_w]
        rfl
      refine pure_ (i := 4) (N := some 78) (v := ?_) (a' := ?_) #[true, true, true, true, true, false, false, false, false, false, false, false, false, false, false, false, false, false, false, false] rfl rfl (any_of (md := .any) (ops := opsOf Try.f9 11) F9tab11 (by kernel_rfl)) (fun _ _ _ h => h) (Or.inl ⟨by rfl, ?_⟩) ?_ ?_
      rotate_left
      · intro w'
        go_simp
        with_reducible rfl
      rotate_left
      · simp only [Act.put, List.setIfInBounds_toArray, List.set_cons_zero, List.set_cons_succ, i64_w, i32_w]
        rfl
      refine pure_ (i := 5) (N := some 79) (v := ?_) (a' := ?_) #[true, true, true, true, true, true, false, false, false, false, false, false, false, false, false, false, false, false, false, false] rfl rfl (any_of (md := .any) (ops := opsOf Try.f9 11) F9tab11 (by kernel_rfl)) (fun _ _ _ h => h) (Or.inl ⟨by rfl, ?_⟩) ?_ ?_
      rotate_left
      · intro w'
        go_simp
        with_reducible rfl
      rotate_left
      · simp only [Act.put, List.setIfInBounds_toArray, List.set_cons_zero, List.set_cons_succ, i64_w, i32_w]
        rfl
      refine take_ (i := 6) (N := some 80) (v := ?_) (a' := ?_) #[true, true, true, true, true, true, true, false, false, false, false, false, false, false, false, false, false, false, false, false] rfl rfl (take_of (md := .any) (ops := opsOf Try.f9 11) F9tab11 (by kernel_rfl)) (fun _ _ _ h => h) (Or.inl ⟨by rfl, ?_⟩) hHeld ?_ ?_
      rotate_left
      · rintro w' ⟨s0, s1, s2, s3, s4, s5, s6, s7, s8, s9, s10, s11⟩
        go_simp
        with_reducible rfl
      rotate_left
      · simp only [Act.put, List.setIfInBounds_toArray, List.set_cons_zero, List.set_cons_succ, i64_w, i32_w]
        rfl
      refine take_ (i := 7) (N := some 81) (v := ?_) (a' := ?_) #[true, true, true, true, true, true, true, true, false, false, false, false, false, false, false, false, false, false, false, false] rfl rfl (take_of (md := .any) (ops := opsOf Try.f9 11) F9tab11 (by kernel_rfl)) (fun _ _ _ h => h) (Or.inl ⟨by rfl, ?_⟩) hHeld ?_ ?_
      rotate_left
      · rintro w' ⟨s0, s1, s2, s3, s4, s5, s6, s7, s8, s9, s10, s11⟩
        go_simp
        with_reducible rfl
      rotate_left
      · simp only [Act.put, List.setIfInBounds_toArray, List.set_cons_zero, List.set_cons_succ, i64_w, i32_w]
        rfl
      refine take_ (i := 11) (N := some 85) (v := ?_) (a' := ?_) #[true, true, true, true, true, true, true, true, false, false, false, true, false, false, false, false, false, false, false, false] rfl rfl (take_of (md := .any) (ops := opsOf Try.f9 11) F9tab11 (by kernel_rfl)) (fun _ _ _ h => h) (Or.inl ⟨by rfl, ?_⟩) hHeld ?_ ?_
      rotate_left
      · rintro w' ⟨s0, s1, s2, s3, s4, s5, s6, s7, s8, s9, s10, s11⟩
        go_simp
        with_reducible rfl
      rotate_left
      · simp only [Act.put, List.setIfInBounds_toArray, List.set_cons_zero, List.set_cons_succ, i64_w, i32_w]
        rfl
      refine take_ (i := 13) (N := some 87) (v := ?_) (a' := ?_) #[true, true, true, true, true, true, true, true, false, false, false, true, false, true, false, false, false, false, false, false] rfl rfl (take_of (md := .any) (ops := opsOf Try.f9 11) F9tab11 (by kernel_rfl)) (fun _ _ _ h => h) (Or.inl ⟨by rfl, ?_⟩) hHeld ?_ ?_
      rotate_left
      · rintro w' ⟨s0, s1, s2, s3, s4, s5, s6, s7, s8, s9, s10, s11⟩
        go_simp
        with_reducible rfl
      rotate_left
      · simp only [Act.put, List.setIfInBounds_toArray, List.set_cons_zero, List.set_cons_succ, i64_w, i32_w]
        rfl
      refine one_ (i := 8) (N := some 82) #[true, true, true, true, true, true, true, true, true, false, false, true, false, true, false, false, false, false, false, false] rfl rfl (one_of (md := .any) (ops := opsOf Try.f9 11) F9tab11 (by kernel_rfl)) (by decide) (fun K hK => ?_)
      refine lit_step (m := 2) (cs := #[.int .i64 x.f0, .int .i64 x.f1, .string x.f2, .slice A x.f3.length c, .int .i64 y.f0, .int .i64 y.f1, .string y.f2, .slice B y.f3.length d]) (t := 40) (by rfl) ?hrun ?_
      case hrun => first | (go_simp; done) | (go_simp; rfl)
      intro gs hg w903 hbox hb
      have DX := Aside0.mk (Dc_two 5 0 (⟨#[]⟩ : ByteArray) hbox (IG.out.f.dx.below hb) (IG.out.f.dy.below hb)); have n0 := Aside0.mk (IG.out.step hb); clear IG hb; have IG := n0; clear n0
      clear hbox hg
      refine hK.out _ _ (IG.out.SS) (fun hHeld => ?_)
      clear hK K
      refine norm_ (a' := ?_) ?_ ?_
      rotate_left
      · show Act.put _ (some 82) _ = _
        simp only [Act.put, List.setIfInBounds_toArray, List.set_cons_zero, List.set_cons_succ, i64_w, i32_w]
        rfl
      refine one_ (i := 9) (N := some 83) #[true, true, true, true, true, true, true, true, true, true, false, true, false, true, false, false, false, false, false, false] rfl rfl (one_of (md := .any) (ops := opsOf Try.f9 11) F9tab11 (by kernel_rfl)) (by decide) (fun K hK => ?_)
      refine goes_ Try.func37 (by kernel_rfl) rfl #[.slice (some ⟨gs, 0, none⟩) 2 2] (by rfl) rfl rfl (by (try simp only [List.map_toArray, List.map_cons, List.map_nil]); first | done | rfl) ?_
      refine (mk37 (some ⟨gs, 0, none⟩) 2 2 _).mono ?_
      rintro e w904 ⟨rfl, hb⟩
      refine ⟨_, rfl, ?_⟩
      have m0 := Aside0.mk (DX.out.below hb); clear DX; have DX := m0; clear m0; have n0 := Aside0.mk (IG.out.step hb); clear IG hb; have IG := n0; clear n0
      refine hK.out _ _ (IG.out.SS) (fun hHeld => ?_)
      clear hK K
      refine norm_ (a' := ?_) ?_ ?_
      rotate_left
      · show Act.put _ (some 83) _ = _
        simp only [Act.put, List.setIfInBounds_toArray, List.set_cons_zero, List.set_cons_succ, i64_w, i32_w]
        rfl
      refine one_ (i := 10) (N := some 84) #[true, true, true, true, true, true, true, true, true, true, true, true, false, true, false, false, false, false, false, false] rfl rfl (one_of (md := .any) (ops := opsOf Try.f9 11) F9tab11 (by kernel_rfl)) (by decide) (fun K hK => ?_)
      refine goes_ Try.func33 (by kernel_rfl) rfl #[.agg #[.int .i64 5, .int .i64 0, .string (⟨#[]⟩ : ByteArray), .slice (some ⟨gs, 0, none⟩) 2 2]] (by rfl) rfl rfl (by (try simp only [List.map_toArray, List.map_cons, List.map_nil]); first | done | rfl) ?_
      refine (cnt_of ⟨5, 0, (⟨#[]⟩ : ByteArray), [x, y]⟩ (some ⟨gs, 0, none⟩) 2 ((1 + (cnt x + cnt y) : Nat) : Int) _ DX.out (fin_two 5 0 (⟨#[]⟩ : ByteArray) (by decide) FX.out FY.out) (by rw [cnt_cat2]; exact wrap_small _ (by have := CX.out; have := CY.out; omega))).mono ?_
      rintro e w905 ⟨rfl, hb⟩
      refine ⟨_, rfl, ?_⟩
      clear DX; have n0 := Aside0.mk (IG.out.step hb); clear IG hb; have IG := n0; clear n0
      refine hK.out _ _ (IG.out.SS) (fun hHeld => ?_)
      clear hK K
      refine norm_ (a' := ?_) ?_ ?_
      rotate_left
      · show Act.put _ (some 84) _ = _
        simp only [Act.put, List.setIfInBounds_toArray, List.set_cons_zero, List.set_cons_succ, i64_w, i32_w]
        rfl
      refine one_ (i := 12) (N := some 86) #[true, true, true, true, true, true, true, true, true, true, true, true, true, true, false, false, false, false, false, false] rfl rfl (one_of (md := .any) (ops := opsOf Try.f9 11) F9tab11 (by kernel_rfl)) (by decide) (fun K hK => ?_)
      refine goes_ Try.func33 (by kernel_rfl) rfl #[.agg #[.int .i64 x.f0, .int .i64 x.f1, .string x.f2, .slice A x.f3.length c]] (by rfl) rfl rfl (by (try simp only [List.map_toArray, List.map_cons, List.map_nil]); first | done | rfl) ?_
      refine (cnt_of x A c ((cnt x : Nat) : Int) _ IG.out.f.dx FX.out (wrap_small _ (by have := CX.out; omega))).mono ?_
      rintro e w906 ⟨rfl, hb⟩
      refine ⟨_, rfl, ?_⟩
      have n0 := Aside0.mk (IG.out.step hb); clear IG hb; have IG := n0; clear n0
      refine hK.out _ _ (IG.out.SS) (fun hHeld => ?_)
      clear hK K
      refine norm_ (a' := ?_) ?_ ?_
      rotate_left
      · show Act.put _ (some 86) _ = _
        simp only [Act.put, List.setIfInBounds_toArray, List.set_cons_zero, List.set_cons_succ, i64_w, i32_w]
        rfl
      refine one_ (i := 14) (N := some 88) #[true, true, true, true, true, true, true, true, true, true, true, true, true, true, true, false, false, false, false, false] rfl rfl (one_of (md := .any) (ops := opsOf Try.f9 11) F9tab11 (by kernel_rfl)) (by decide) (fun K hK => ?_)
      refine goes_ Try.func33 (by kernel_rfl) rfl #[.agg #[.int .i64 y.f0, .int .i64 y.f1, .string y.f2, .slice B y.f3.length d]] (by rfl) rfl rfl (by (try simp only [List.map_toArray, List.map_cons, List.map_nil]); first | done | rfl) ?_
      refine (cnt_of y B d ((cnt y : Nat) : Int) _ IG.out.f.dy FY.out (wrap_small _ (by have := CY.out; omega))).mono ?_
      rintro e w907 ⟨rfl, hb⟩
      refine ⟨_, rfl, ?_⟩
      have n0 := Aside0.mk (IG.out.step hb); clear IG hb; have IG := n0; clear n0
      refine hK.out _ _ (IG.out.SS) (fun hHeld => ?_)
      clear hK K
      refine norm_ (a' := ?_) ?_ ?_
      rotate_left
      · show Act.put _ (some 88) _ = _
        simp only [Act.put, List.setIfInBounds_toArray, List.set_cons_zero, List.set_cons_succ, i64_w, i32_w]
        rfl
      refine pure_ (i := 15) (N := some 89) (v := ?_) (a' := ?_) #[true, true, true, true, true, true, true, true, true, true, true, true, true, true, true, true, false, false, false, false] rfl rfl (any_of (md := .any) (ops := opsOf Try.f9 11) F9tab11 (by kernel_rfl)) (fun _ _ _ h => h) (Or.inl ⟨by rfl, ?_⟩) ?_ ?_
      rotate_left
      · intro w'
        go_simp
        with_reducible rfl
      rotate_left
      · simp only [Act.put, List.setIfInBounds_toArray, List.set_cons_zero, List.set_cons_succ, i64_w, i32_w]
        rfl
      refine pure_ (i := 16) (N := some 90) (v := ?_) (a' := ?_) #[true, true, true, true, true, true, true, true, true, true, true, true, true, true, true, true, true, false, false, false] rfl rfl (any_of (md := .any) (ops := opsOf Try.f9 11) F9tab11 (by kernel_rfl)) (fun _ _ _ h => h) (Or.inl ⟨by rfl, ?_⟩) ?_ ?_
      rotate_left
      · intro w'
        go_simp
        with_reducible rfl
      rotate_left
      · simp only [Act.put, List.setIfInBounds_toArray, List.set_cons_zero, List.set_cons_succ, i64_w, i32_w]
        rfl
      refine pure_ (i := 17) (N := some 91) (v := ?_) (a' := ?_) #[true, true, true, true, true, true, true, true, true, true, true, true, true, true, true, true, true, true, false, false] rfl rfl (any_of (md := .any) (ops := opsOf Try.f9 11) F9tab11 (by kernel_rfl)) (fun _ _ _ h => h) (Or.inl ⟨by rfl, ?_⟩) ?_ ?_
      rotate_left
      · intro w'
        go_simp
        with_reducible rfl
      rotate_left
      · simp only [Act.put, List.setIfInBounds_toArray, List.set_cons_zero, List.set_cons_succ, i64_w, i32_w]
        rfl
      refine pure_ (i := 18) (N := some 92) (v := ?_) (a' := ?_) #[true, true, true, true, true, true, true, true, true, true, true, true, true, true, true, true, true, true, true, false] rfl rfl (any_of (md := .any) (ops := opsOf Try.f9 11) F9tab11 (by kernel_rfl)) (fun _ _ _ h => h) (Or.inl ⟨by rfl, ?_⟩) ?_ ?_
      rotate_left
      · intro w'
        go_simp
        with_reducible rfl
      rotate_left
      · simp only [Act.put, List.setIfInBounds_toArray, List.set_cons_zero, List.set_cons_succ, i64_w, i32_w]
        rfl
      refine pure_ (i := 19) (N := some 6) (v := ?_) (a' := ?_) #[true, true, true, true, true, true, true, true, true, true, true, true, true, true, true, true, true, true, true, true] rfl rfl (any_of (md := .any) (ops := opsOf Try.f9 11) F9tab11 (by kernel_rfl)) (fun _ _ _ h => h) (Or.inl ⟨by rfl, ?_⟩) ?_ ?_
      rotate_left
      · intro w'
        go_simp
        with_reducible rfl
      rotate_left
      · simp only [Act.put, List.setIfInBounds_toArray, List.set_cons_zero, List.set_cons_succ, i64_w, i32_w]
        rfl
      refine done_ (done_of (md := .any) (ops := opsOf Try.f9 11) F9tab11 (by kernel_rfl)) ?_
      go_wp2_with fail
      go_ret
      have e : ((1 + ((cnt x : Int) + (cnt y : Int)) : Int) == wrap64 (wrap64 ((cnt x : Int) + (cnt y : Int)) + 1)) = true := by
        have := CX.out
        have := CY.out
        rw [beq_iff_eq]
        unfold wrap64
        omega
      exact ⟨by show Ending.returned (.bool _) = _; rw [e], IG.out.f.hb⟩
set_option maxHeartbeats 8000000 in
theorem forces_main_false_true (x : S40) (A : Option Addr) (c : Nat) (y : S40) (B : Option Addr) (d : Nat) (n : Int) (w : World) (hx : Dc w x A c) (hy : Dc w y B d) (hf : decide (fewD x 60 ≤ 500) = true) (hf2 : decide (fewD y 60 ≤ 500) = true) (fx : finD x) (fy : finD y) (ex : frcB x = false) (ey : frcB y = true) (cx : cnt x ≤ 500) (cy : cnt y ≤ 500) : Calls Try.prog 9 #[.agg #[.int .i64 x.f0, .int .i64 x.f1, .string x.f2, .slice A x.f3.length c], .agg #[.int .i64 y.f0, .int .i64 y.f1, .string y.f2, .slice B y.f3.length d], .int .i64 n] w fun e w' => e = .returned (.bool true) ∧ Below w.heap.size w w' := by
  have hu40 := Try.underlying40
  have HX := Aside0.mk hx
  have HY := Aside0.mk hy
  clear hx hy
  have FX := Aside0.mk fx
  have FY := Aside0.mk fy
  have EX := Aside0.mk ex
  have EY := Aside0.mk ey
  have CX := Aside0.mk cx
  have CY := Aside0.mk cy
  clear fx fy ex ey cx cy
  go_enter Try.func9, Try.ntmps9
  go_wp2_with (first | ((with_reducible refine gate_dst (N := 3) rfl ?_); (try (refine gate_guard (by rfl) ?_; dsimp only)); refine box_event ?hg (N := 3) ?hd (cs := #[.int .i64 x.f0, .int .i64 x.f1, .string x.f2, .slice A x.f3.length c]) (t := 40) ?hr ?_; (case hd => rfl); (case hg => rfl); (case hr => first | (go_simp; done) | (go_simp; rfl)); intro ga hg w1 hbox hb; have HBa := Aside0.mk hb; have BXA := Aside0.mk hbox; clear hb hg hbox) | ((with_reducible refine gate_dst (N := 4) rfl ?_); (try (refine gate_guard (by rfl) ?_; dsimp only)); refine box_event ?hg (N := 4) ?hd (cs := #[.int .i64 y.f0, .int .i64 y.f1, .string y.f2, .slice B y.f3.length d]) (t := 40) ?hr ?_; (case hd => rfl); (case hg => rfl); (case hr => first | (go_simp; done) | (go_simp; rfl)); intro gb hg w2 hbox hb; have IV := Aside0.mk (IvF.mk (below_step HBa.out hb) (blk_below BXA.out hb) hbox HX.out HY.out); clear HBa BXA hb hg hbox; have hga0 : w2.cell? ⟨ga, 0, none⟩ = some (.int .i64 x.f0) := (blk_cell IV.out.bx 0).trans rfl; have hga1 : w2.cell? ⟨ga, 1, none⟩ = some (.int .i64 x.f1) := (blk_cell IV.out.bx 1).trans rfl; have hga2 : w2.cell? ⟨ga, 2, none⟩ = some (.string x.f2) := (blk_cell IV.out.bx 2).trans rfl; have hga3 : w2.cell? ⟨ga, 3, none⟩ = some (.slice A x.f3.length c) := (blk_cell IV.out.bx 3).trans rfl; have hgb0 : w2.cell? ⟨gb, 0, none⟩ = some (.int .i64 y.f0) := (blk_cell IV.out.by_ 0).trans rfl; have hgb1 : w2.cell? ⟨gb, 1, none⟩ = some (.int .i64 y.f1) := (blk_cell IV.out.by_ 1).trans rfl; have hgb2 : w2.cell? ⟨gb, 2, none⟩ = some (.string y.f2) := (blk_cell IV.out.by_ 2).trans rfl; have hgb3 : w2.cell? ⟨gb, 3, none⟩ = some (.slice B y.f3.length d) := (blk_cell IV.out.by_ 3).trans rfl) | ((with_reducible refine gate_dst (N := 12) rfl ?_); refine goesL_ (some 12) rfl rfl Try.func27 (by kernel_rfl) rfl #[.agg #[.int .i64 x.f0, .int .i64 x.f1, .string x.f2, .slice A x.f3.length c]] rfl (by (try simp only [List.map_toArray, List.map_cons, List.map_nil]); first | done | rfl) ?_; (refine (few_of x A c true _ IV.out.dx hf).mono ?_); (rintro e w101 ⟨rfl, hb⟩; refine ⟨_, rfl, ?_⟩; have n0 := Aside0.mk (IV.out.step hb); clear IV hb; have IV := n0; clear n0; clear hga0 hga1 hga2 hga3 hgb0 hgb1 hgb2 hgb3; have hga0 : w101.cell? ⟨ga, 0, none⟩ = some (.int .i64 x.f0) := (blk_cell IV.out.bx 0).trans rfl; have hga1 : w101.cell? ⟨ga, 1, none⟩ = some (.int .i64 x.f1) := (blk_cell IV.out.bx 1).trans rfl; have hga2 : w101.cell? ⟨ga, 2, none⟩ = some (.string x.f2) := (blk_cell IV.out.bx 2).trans rfl; have hga3 : w101.cell? ⟨ga, 3, none⟩ = some (.slice A x.f3.length c) := (blk_cell IV.out.bx 3).trans rfl; have hgb0 : w101.cell? ⟨gb, 0, none⟩ = some (.int .i64 y.f0) := (blk_cell IV.out.by_ 0).trans rfl; have hgb1 : w101.cell? ⟨gb, 1, none⟩ = some (.int .i64 y.f1) := (blk_cell IV.out.by_ 1).trans rfl; have hgb2 : w101.cell? ⟨gb, 2, none⟩ = some (.string y.f2) := (blk_cell IV.out.by_ 2).trans rfl; have hgb3 : w101.cell? ⟨gb, 3, none⟩ = some (.slice B y.f3.length d) := (blk_cell IV.out.by_ 3).trans rfl)) | ((with_reducible refine gate_dst (N := 16) rfl ?_); (refine gate_guard (by rfl) ?_; dsimp only); refine goesL_ (some 16) rfl rfl Try.func27 (by kernel_rfl) rfl #[.agg #[.int .i64 y.f0, .int .i64 y.f1, .string y.f2, .slice B y.f3.length d]] rfl (by (try simp only [List.map_toArray, List.map_cons, List.map_nil]); first | done | rfl) ?_; (refine (few_of y B d true _ IV.out.dy hf2).mono ?_); (rintro e w102 ⟨rfl, hb⟩; refine ⟨_, rfl, ?_⟩; have n0 := Aside0.mk (IV.out.step hb); clear IV hb; have IV := n0; clear n0; clear hga0 hga1 hga2 hga3 hgb0 hgb1 hgb2 hgb3; have hga0 : w102.cell? ⟨ga, 0, none⟩ = some (.int .i64 x.f0) := (blk_cell IV.out.bx 0).trans rfl; have hga1 : w102.cell? ⟨ga, 1, none⟩ = some (.int .i64 x.f1) := (blk_cell IV.out.bx 1).trans rfl; have hga2 : w102.cell? ⟨ga, 2, none⟩ = some (.string x.f2) := (blk_cell IV.out.bx 2).trans rfl; have hga3 : w102.cell? ⟨ga, 3, none⟩ = some (.slice A x.f3.length c) := (blk_cell IV.out.bx 3).trans rfl; have hgb0 : w102.cell? ⟨gb, 0, none⟩ = some (.int .i64 y.f0) := (blk_cell IV.out.by_ 0).trans rfl; have hgb1 : w102.cell? ⟨gb, 1, none⟩ = some (.int .i64 y.f1) := (blk_cell IV.out.by_ 1).trans rfl; have hgb2 : w102.cell? ⟨gb, 2, none⟩ = some (.string y.f2) := (blk_cell IV.out.by_ 2).trans rfl; have hgb3 : w102.cell? ⟨gb, 3, none⟩ = some (.slice B y.f3.length d) := (blk_cell IV.out.by_ 3).trans rfl)))
  have IV3 := Aside0.mk (IV.out.step (below_drew1 (Below.refl _ _)))
  clear hga0 hga1 hga2 hga3 hgb0 hgb1 hgb2 hgb3
  clear IV
  have IV := IV3
  clear IV3
  refine start_ (n := 6) (S := SF ga gb x y A c B d) (ds := []) #[false, false, false, false, false, false] (by kernel_rfl) rfl rfl (IV.out.S) (fun hHeld => ?_)
  generalize World.drew _ = w200 at IV hHeld ⊢
  refine take_ (i := 0) (N := some 20) (v := ?_) (a' := ?_) #[true, false, false, false, false, false] rfl rfl (take_of (md := .any) (ops := opsOf Try.f9 3) F9tab3 (by kernel_rfl)) (fun _ _ _ h => h) (Or.inl ⟨by rfl, ?_⟩) hHeld ?_ ?_
  rotate_left
  · rintro w' ⟨s0, s1, s2, s3, s4, s5, s6, s7⟩
    go_simp
    with_reducible rfl
  rotate_left
  · simp only [Act.put, List.setIfInBounds_toArray, List.set_cons_zero, List.set_cons_succ, i64_w, i32_w]
    rfl
  refine take_ (i := 2) (N := some 22) (v := ?_) (a' := ?_) #[true, false, true, false, false, false] rfl rfl (take_of (md := .any) (ops := opsOf Try.f9 3) F9tab3 (by kernel_rfl)) (fun _ _ _ h => h) (Or.inl ⟨by rfl, ?_⟩) hHeld ?_ ?_
  rotate_left
  · rintro w' ⟨s0, s1, s2, s3, s4, s5, s6, s7⟩
    go_simp
    with_reducible rfl
  rotate_left
  · simp only [Act.put, List.setIfInBounds_toArray, List.set_cons_zero, List.set_cons_succ, i64_w, i32_w]
    rfl
  refine one_ (i := 1) (N := some 21) #[true, true, true, false, false, false] rfl rfl (one_of (md := .any) (ops := opsOf Try.f9 3) F9tab3 (by kernel_rfl)) (by decide) (fun K hK => ?_)
  refine goes_ Try.func31 (by kernel_rfl) rfl #[.agg #[.int .i64 x.f0, .int .i64 x.f1, .string x.f2, .slice A x.f3.length c]] (by rfl) rfl rfl (by (try simp only [List.map_toArray, List.map_cons, List.map_nil]); first | done | rfl) ?_
  refine (frc_of x A c false _ IV.out.dx FX.out EX.out).mono ?_
  rintro e w501 ⟨rfl, hb⟩
  refine ⟨_, rfl, ?_⟩
  have n0 := Aside0.mk (IV.out.step hb); clear IV hb; have IV := n0; clear n0
  refine hK.out _ _ (IV.out.S) (fun hHeld => ?_)
  clear hK K
  refine norm_ (a' := ?_) ?_ ?_
  rotate_left
  · show Act.put _ (some 21) _ = _
    simp only [Act.put, List.setIfInBounds_toArray, List.set_cons_zero, List.set_cons_succ, i64_w, i32_w]
    rfl
  refine one_ (i := 3) (N := some 23) #[true, true, true, true, false, false] rfl rfl (one_of (md := .any) (ops := opsOf Try.f9 3) F9tab3 (by kernel_rfl)) (by decide) (fun K hK => ?_)
  refine goes_ Try.func31 (by kernel_rfl) rfl #[.agg #[.int .i64 y.f0, .int .i64 y.f1, .string y.f2, .slice B y.f3.length d]] (by rfl) rfl rfl (by (try simp only [List.map_toArray, List.map_cons, List.map_nil]); first | done | rfl) ?_
  refine (frc_of y B d true _ IV.out.dy FY.out EY.out).mono ?_
  rintro e w502 ⟨rfl, hb⟩
  refine ⟨_, rfl, ?_⟩
  have n0 := Aside0.mk (IV.out.step hb); clear IV hb; have IV := n0; clear n0
  refine hK.out _ _ (IV.out.S) (fun hHeld => ?_)
  clear hK K
  refine norm_ (a' := ?_) ?_ ?_
  rotate_left
  · show Act.put _ (some 23) _ = _
    simp only [Act.put, List.setIfInBounds_toArray, List.set_cons_zero, List.set_cons_succ, i64_w, i32_w]
    rfl
  refine pure_ (i := 4) (N := some 7) (v := ?_) (a' := ?_) #[true, true, true, true, true, false] rfl rfl (any_of (md := .any) (ops := opsOf Try.f9 3) F9tab3 (by kernel_rfl)) (fun _ _ _ h => h) (Or.inl ⟨by rfl, ?_⟩) ?_ ?_
  rotate_left
  · intro w'
    go_simp
    with_reducible rfl
  rotate_left
  · simp only [Act.put, List.setIfInBounds_toArray, List.set_cons_zero, List.set_cons_succ, i64_w, i32_w]
    rfl
  refine pure_ (i := 5) (N := some 8) (v := ?_) (a' := ?_) #[true, true, true, true, true, true] rfl rfl (any_of (md := .any) (ops := opsOf Try.f9 3) F9tab3 (by kernel_rfl)) (fun _ _ _ h => h) (Or.inl ⟨by rfl, ?_⟩) ?_ ?_
  rotate_left
  · intro w'
    go_simp
    with_reducible rfl
  rotate_left
  · simp only [Act.put, List.setIfInBounds_toArray, List.set_cons_zero, List.set_cons_succ, i64_w, i32_w]
    rfl
  refine done_ (done_of (md := .any) (ops := opsOf Try.f9 3) F9tab3 (by kernel_rfl)) ?_
  clear hHeld
  have hga0 : w502.cell? ⟨ga, 0, none⟩ = some (.int .i64 x.f0) := (blk_cell IV.out.bx 0).trans rfl; have hga1 : w502.cell? ⟨ga, 1, none⟩ = some (.int .i64 x.f1) := (blk_cell IV.out.bx 1).trans rfl; have hga2 : w502.cell? ⟨ga, 2, none⟩ = some (.string x.f2) := (blk_cell IV.out.bx 2).trans rfl; have hga3 : w502.cell? ⟨ga, 3, none⟩ = some (.slice A x.f3.length c) := (blk_cell IV.out.bx 3).trans rfl; have hgb0 : w502.cell? ⟨gb, 0, none⟩ = some (.int .i64 y.f0) := (blk_cell IV.out.by_ 0).trans rfl; have hgb1 : w502.cell? ⟨gb, 1, none⟩ = some (.int .i64 y.f1) := (blk_cell IV.out.by_ 1).trans rfl; have hgb2 : w502.cell? ⟨gb, 2, none⟩ = some (.string y.f2) := (blk_cell IV.out.by_ 2).trans rfl; have hgb3 : w502.cell? ⟨gb, 3, none⟩ = some (.slice B y.f3.length d) := (blk_cell IV.out.by_ 3).trans rfl
  go_wp2_with (first | ((with_reducible refine gate_dst (N := 26) rfl ?_); refine lit_event ?hg (N := 26) ?hd (m := 2) (cs := #[.int .i64 x.f0, .int .i64 x.f1, .string x.f2, .slice A x.f3.length c, .int .i64 y.f0, .int .i64 y.f1, .string y.f2, .slice B y.f3.length d]) (t := 40) ?hr ?_; (case hd => rfl); (case hg => rfl); (case hr => first | (go_simp; done) | (go_simp; rfl)); intro gs hg w601 hbox hb; have DX := Aside0.mk (Dc_two 5 0 (⟨#[]⟩ : ByteArray) hbox (IV.out.dx.below hb) (IV.out.dy.below hb));  clear hbox hg; have n0 := Aside0.mk (IV.out.step hb); clear IV hb; have IV := n0; clear n0; clear hga0 hga1 hga2 hga3 hgb0 hgb1 hgb2 hgb3; have hga0 : w601.cell? ⟨ga, 0, none⟩ = some (.int .i64 x.f0) := (blk_cell IV.out.bx 0).trans rfl; have hga1 : w601.cell? ⟨ga, 1, none⟩ = some (.int .i64 x.f1) := (blk_cell IV.out.bx 1).trans rfl; have hga2 : w601.cell? ⟨ga, 2, none⟩ = some (.string x.f2) := (blk_cell IV.out.bx 2).trans rfl; have hga3 : w601.cell? ⟨ga, 3, none⟩ = some (.slice A x.f3.length c) := (blk_cell IV.out.bx 3).trans rfl; have hgb0 : w601.cell? ⟨gb, 0, none⟩ = some (.int .i64 y.f0) := (blk_cell IV.out.by_ 0).trans rfl; have hgb1 : w601.cell? ⟨gb, 1, none⟩ = some (.int .i64 y.f1) := (blk_cell IV.out.by_ 1).trans rfl; have hgb2 : w601.cell? ⟨gb, 2, none⟩ = some (.string y.f2) := (blk_cell IV.out.by_ 2).trans rfl; have hgb3 : w601.cell? ⟨gb, 3, none⟩ = some (.slice B y.f3.length d) := (blk_cell IV.out.by_ 3).trans rfl) | ((with_reducible refine gate_dst (N := 27) rfl ?_); refine goesL_ (some 27) rfl rfl Try.func37 (by kernel_rfl) rfl #[.slice (some ⟨gs, 0, none⟩) 2 2] rfl (by (try simp only [List.map_toArray, List.map_cons, List.map_nil]); first | done | rfl) ?_; (refine (mk37 (some ⟨gs, 0, none⟩) 2 2 _).mono ?_); (rintro e w602 ⟨rfl, hb⟩; refine ⟨_, rfl, ?_⟩; have m0 := Aside0.mk (DX.out.below hb); clear DX; have DX := m0; clear m0; have n0 := Aside0.mk (IV.out.step hb); clear IV hb; have IV := n0; clear n0; clear hga0 hga1 hga2 hga3 hgb0 hgb1 hgb2 hgb3; have hga0 : w602.cell? ⟨ga, 0, none⟩ = some (.int .i64 x.f0) := (blk_cell IV.out.bx 0).trans rfl; have hga1 : w602.cell? ⟨ga, 1, none⟩ = some (.int .i64 x.f1) := (blk_cell IV.out.bx 1).trans rfl; have hga2 : w602.cell? ⟨ga, 2, none⟩ = some (.string x.f2) := (blk_cell IV.out.bx 2).trans rfl; have hga3 : w602.cell? ⟨ga, 3, none⟩ = some (.slice A x.f3.length c) := (blk_cell IV.out.bx 3).trans rfl; have hgb0 : w602.cell? ⟨gb, 0, none⟩ = some (.int .i64 y.f0) := (blk_cell IV.out.by_ 0).trans rfl; have hgb1 : w602.cell? ⟨gb, 1, none⟩ = some (.int .i64 y.f1) := (blk_cell IV.out.by_ 1).trans rfl; have hgb2 : w602.cell? ⟨gb, 2, none⟩ = some (.string y.f2) := (blk_cell IV.out.by_ 2).trans rfl; have hgb3 : w602.cell? ⟨gb, 3, none⟩ = some (.slice B y.f3.length d) := (blk_cell IV.out.by_ 3).trans rfl)) | ((with_reducible refine gate_dst (N := 28) rfl ?_); refine goesL_ (some 28) rfl rfl Try.func31 (by kernel_rfl) rfl #[.agg #[.int .i64 5, .int .i64 0, .string (⟨#[]⟩ : ByteArray), .slice (some ⟨gs, 0, none⟩) 2 2]] rfl (by (try simp only [List.map_toArray, List.map_cons, List.map_nil]); first | done | rfl) ?_; (refine (frc_of ⟨5, 0, (⟨#[]⟩ : ByteArray), [x, y]⟩ (some ⟨gs, 0, none⟩) 2 true _ DX.out (fin_two 5 0 (⟨#[]⟩ : ByteArray) (by decide) FX.out FY.out) (by rw [frc_cat2, EX.out, EY.out]; rfl)).mono ?_); (rintro e w603 ⟨rfl, hb⟩; refine ⟨_, rfl, ?_⟩; clear DX; have n0 := Aside0.mk (IV.out.step hb); clear IV hb; have IV := n0; clear n0; clear hga0 hga1 hga2 hga3 hgb0 hgb1 hgb2 hgb3; have hga0 : w603.cell? ⟨ga, 0, none⟩ = some (.int .i64 x.f0) := (blk_cell IV.out.bx 0).trans rfl; have hga1 : w603.cell? ⟨ga, 1, none⟩ = some (.int .i64 x.f1) := (blk_cell IV.out.bx 1).trans rfl; have hga2 : w603.cell? ⟨ga, 2, none⟩ = some (.string x.f2) := (blk_cell IV.out.bx 2).trans rfl; have hga3 : w603.cell? ⟨ga, 3, none⟩ = some (.slice A x.f3.length c) := (blk_cell IV.out.bx 3).trans rfl; have hgb0 : w603.cell? ⟨gb, 0, none⟩ = some (.int .i64 y.f0) := (blk_cell IV.out.by_ 0).trans rfl; have hgb1 : w603.cell? ⟨gb, 1, none⟩ = some (.int .i64 y.f1) := (blk_cell IV.out.by_ 1).trans rfl; have hgb2 : w603.cell? ⟨gb, 2, none⟩ = some (.string y.f2) := (blk_cell IV.out.by_ 2).trans rfl; have hgb3 : w603.cell? ⟨gb, 3, none⟩ = some (.slice B y.f3.length d) := (blk_cell IV.out.by_ 3).trans rfl)) | ((with_reducible refine gate_dst (N := 36) rfl ?_); (refine gate_guard (by rfl) ?_; dsimp only); refine lit_event ?hg (N := 36) ?hd (m := 1) (cs := #[.int .i64 x.f0, .int .i64 x.f1, .string x.f2, .slice A x.f3.length c]) (t := 40) ?hr ?_; (case hd => rfl); (case hg => rfl); (case hr => first | (go_simp; done) | (go_simp; rfl)); intro gs hg w604 hbox hb; have DX := Aside0.mk (Dc_one 6 4 (⟨#[]⟩ : ByteArray) hbox (IV.out.dx.below hb));  clear hbox hg; have n0 := Aside0.mk (IV.out.step hb); clear IV hb; have IV := n0; clear n0; clear hga0 hga1 hga2 hga3 hgb0 hgb1 hgb2 hgb3; have hga0 : w604.cell? ⟨ga, 0, none⟩ = some (.int .i64 x.f0) := (blk_cell IV.out.bx 0).trans rfl; have hga1 : w604.cell? ⟨ga, 1, none⟩ = some (.int .i64 x.f1) := (blk_cell IV.out.bx 1).trans rfl; have hga2 : w604.cell? ⟨ga, 2, none⟩ = some (.string x.f2) := (blk_cell IV.out.bx 2).trans rfl; have hga3 : w604.cell? ⟨ga, 3, none⟩ = some (.slice A x.f3.length c) := (blk_cell IV.out.bx 3).trans rfl; have hgb0 : w604.cell? ⟨gb, 0, none⟩ = some (.int .i64 y.f0) := (blk_cell IV.out.by_ 0).trans rfl; have hgb1 : w604.cell? ⟨gb, 1, none⟩ = some (.int .i64 y.f1) := (blk_cell IV.out.by_ 1).trans rfl; have hgb2 : w604.cell? ⟨gb, 2, none⟩ = some (.string y.f2) := (blk_cell IV.out.by_ 2).trans rfl; have hgb3 : w604.cell? ⟨gb, 3, none⟩ = some (.slice B y.f3.length d) := (blk_cell IV.out.by_ 3).trans rfl) | ((with_reducible refine gate_dst (N := 37) rfl ?_); (refine gate_guard (by rfl) ?_; dsimp only); refine goesL_ (some 37) rfl rfl Try.func38 (by kernel_rfl) rfl #[.int .i64 4, .slice (some ⟨gs, 0, none⟩) 1 1] rfl (by (try simp only [List.map_toArray, List.map_cons, List.map_nil]); first | done | rfl) ?_; (refine (mk38 4 (some ⟨gs, 0, none⟩) 1 1 _).mono ?_); (rintro e w605 ⟨rfl, hb⟩; refine ⟨_, rfl, ?_⟩; have m0 := Aside0.mk (DX.out.below hb); clear DX; have DX := m0; clear m0; have n0 := Aside0.mk (IV.out.step hb); clear IV hb; have IV := n0; clear n0; clear hga0 hga1 hga2 hga3 hgb0 hgb1 hgb2 hgb3; have hga0 : w605.cell? ⟨ga, 0, none⟩ = some (.int .i64 x.f0) := (blk_cell IV.out.bx 0).trans rfl; have hga1 : w605.cell? ⟨ga, 1, none⟩ = some (.int .i64 x.f1) := (blk_cell IV.out.bx 1).trans rfl; have hga2 : w605.cell? ⟨ga, 2, none⟩ = some (.string x.f2) := (blk_cell IV.out.bx 2).trans rfl; have hga3 : w605.cell? ⟨ga, 3, none⟩ = some (.slice A x.f3.length c) := (blk_cell IV.out.bx 3).trans rfl; have hgb0 : w605.cell? ⟨gb, 0, none⟩ = some (.int .i64 y.f0) := (blk_cell IV.out.by_ 0).trans rfl; have hgb1 : w605.cell? ⟨gb, 1, none⟩ = some (.int .i64 y.f1) := (blk_cell IV.out.by_ 1).trans rfl; have hgb2 : w605.cell? ⟨gb, 2, none⟩ = some (.string y.f2) := (blk_cell IV.out.by_ 2).trans rfl; have hgb3 : w605.cell? ⟨gb, 3, none⟩ = some (.slice B y.f3.length d) := (blk_cell IV.out.by_ 3).trans rfl)) | ((with_reducible refine gate_dst (N := 38) rfl ?_); (refine gate_guard (by rfl) ?_; dsimp only); refine goesL_ (some 38) rfl rfl Try.func31 (by kernel_rfl) rfl #[.agg #[.int .i64 6, .int .i64 4, .string (⟨#[]⟩ : ByteArray), .slice (some ⟨gs, 0, none⟩) 1 1]] rfl (by (try simp only [List.map_toArray, List.map_cons, List.map_nil]); first | done | rfl) ?_; (refine (frc_of ⟨6, 4, (⟨#[]⟩ : ByteArray), [x]⟩ (some ⟨gs, 0, none⟩) 1 false _ DX.out (fin_one 6 4 (⟨#[]⟩ : ByteArray) (by decide) FX.out) (by rw [frc_nest1, EX.out])).mono ?_); (rintro e w606 ⟨rfl, hb⟩; refine ⟨_, rfl, ?_⟩; clear DX; have n0 := Aside0.mk (IV.out.step hb); clear IV hb; have IV := n0; clear n0; clear hga0 hga1 hga2 hga3 hgb0 hgb1 hgb2 hgb3; have hga0 : w606.cell? ⟨ga, 0, none⟩ = some (.int .i64 x.f0) := (blk_cell IV.out.bx 0).trans rfl; have hga1 : w606.cell? ⟨ga, 1, none⟩ = some (.int .i64 x.f1) := (blk_cell IV.out.bx 1).trans rfl; have hga2 : w606.cell? ⟨ga, 2, none⟩ = some (.string x.f2) := (blk_cell IV.out.bx 2).trans rfl; have hga3 : w606.cell? ⟨ga, 3, none⟩ = some (.slice A x.f3.length c) := (blk_cell IV.out.bx 3).trans rfl; have hgb0 : w606.cell? ⟨gb, 0, none⟩ = some (.int .i64 y.f0) := (blk_cell IV.out.by_ 0).trans rfl; have hgb1 : w606.cell? ⟨gb, 1, none⟩ = some (.int .i64 y.f1) := (blk_cell IV.out.by_ 1).trans rfl; have hgb2 : w606.cell? ⟨gb, 2, none⟩ = some (.string y.f2) := (blk_cell IV.out.by_ 2).trans rfl; have hgb3 : w606.cell? ⟨gb, 3, none⟩ = some (.slice B y.f3.length d) := (blk_cell IV.out.by_ 3).trans rfl)) | ((with_reducible refine gate_dst (N := 45) rfl ?_); (refine gate_guard (by rfl) ?_; dsimp only); refine lit_event ?hg (N := 45) ?hd (m := 2) (cs := #[.int .i64 x.f0, .int .i64 x.f1, .string x.f2, .slice A x.f3.length c, .int .i64 y.f0, .int .i64 y.f1, .string y.f2, .slice B y.f3.length d]) (t := 40) ?hr ?_; (case hd => rfl); (case hg => rfl); (case hr => first | (go_simp; done) | (go_simp; rfl)); intro gs hg w607 hbox hb; have DX := Aside0.mk (Dc_two 7 0 (⟨#[]⟩ : ByteArray) hbox (IV.out.dx.below hb) (IV.out.dy.below hb));  clear hbox hg; have n0 := Aside0.mk (IV.out.step hb); clear IV hb; have IV := n0; clear n0; clear hga0 hga1 hga2 hga3 hgb0 hgb1 hgb2 hgb3; have hga0 : w607.cell? ⟨ga, 0, none⟩ = some (.int .i64 x.f0) := (blk_cell IV.out.bx 0).trans rfl; have hga1 : w607.cell? ⟨ga, 1, none⟩ = some (.int .i64 x.f1) := (blk_cell IV.out.bx 1).trans rfl; have hga2 : w607.cell? ⟨ga, 2, none⟩ = some (.string x.f2) := (blk_cell IV.out.bx 2).trans rfl; have hga3 : w607.cell? ⟨ga, 3, none⟩ = some (.slice A x.f3.length c) := (blk_cell IV.out.bx 3).trans rfl; have hgb0 : w607.cell? ⟨gb, 0, none⟩ = some (.int .i64 y.f0) := (blk_cell IV.out.by_ 0).trans rfl; have hgb1 : w607.cell? ⟨gb, 1, none⟩ = some (.int .i64 y.f1) := (blk_cell IV.out.by_ 1).trans rfl; have hgb2 : w607.cell? ⟨gb, 2, none⟩ = some (.string y.f2) := (blk_cell IV.out.by_ 2).trans rfl; have hgb3 : w607.cell? ⟨gb, 3, none⟩ = some (.slice B y.f3.length d) := (blk_cell IV.out.by_ 3).trans rfl) | ((with_reducible refine gate_dst (N := 46) rfl ?_); (refine gate_guard (by rfl) ?_; dsimp only); refine goesL_ (some 46) rfl rfl Try.func39 (by kernel_rfl) rfl #[.slice (some ⟨gs, 0, none⟩) 2 2] rfl (by (try simp only [List.map_toArray, List.map_cons, List.map_nil]); first | done | rfl) ?_; (refine (mk39 (some ⟨gs, 0, none⟩) 2 2 _).mono ?_); (rintro e w608 ⟨rfl, hb⟩; refine ⟨_, rfl, ?_⟩; have m0 := Aside0.mk (DX.out.below hb); clear DX; have DX := m0; clear m0; have n0 := Aside0.mk (IV.out.step hb); clear IV hb; have IV := n0; clear n0; clear hga0 hga1 hga2 hga3 hgb0 hgb1 hgb2 hgb3; have hga0 : w608.cell? ⟨ga, 0, none⟩ = some (.int .i64 x.f0) := (blk_cell IV.out.bx 0).trans rfl; have hga1 : w608.cell? ⟨ga, 1, none⟩ = some (.int .i64 x.f1) := (blk_cell IV.out.bx 1).trans rfl; have hga2 : w608.cell? ⟨ga, 2, none⟩ = some (.string x.f2) := (blk_cell IV.out.bx 2).trans rfl; have hga3 : w608.cell? ⟨ga, 3, none⟩ = some (.slice A x.f3.length c) := (blk_cell IV.out.bx 3).trans rfl; have hgb0 : w608.cell? ⟨gb, 0, none⟩ = some (.int .i64 y.f0) := (blk_cell IV.out.by_ 0).trans rfl; have hgb1 : w608.cell? ⟨gb, 1, none⟩ = some (.int .i64 y.f1) := (blk_cell IV.out.by_ 1).trans rfl; have hgb2 : w608.cell? ⟨gb, 2, none⟩ = some (.string y.f2) := (blk_cell IV.out.by_ 2).trans rfl; have hgb3 : w608.cell? ⟨gb, 3, none⟩ = some (.slice B y.f3.length d) := (blk_cell IV.out.by_ 3).trans rfl)) | ((with_reducible refine gate_dst (N := 47) rfl ?_); (refine gate_guard (by rfl) ?_; dsimp only); refine goesL_ (some 47) rfl rfl Try.func31 (by kernel_rfl) rfl #[.agg #[.int .i64 7, .int .i64 0, .string (⟨#[]⟩ : ByteArray), .slice (some ⟨gs, 0, none⟩) 2 2]] rfl (by (try simp only [List.map_toArray, List.map_cons, List.map_nil]); first | done | rfl) ?_; (refine (frc_of ⟨7, 0, (⟨#[]⟩ : ByteArray), [x, y]⟩ (some ⟨gs, 0, none⟩) 2 true _ DX.out (fin_two 7 0 (⟨#[]⟩ : ByteArray) (by decide) FX.out FY.out) (by rw [frc_grp2, EX.out, EY.out]; rfl)).mono ?_); (rintro e w609 ⟨rfl, hb⟩; refine ⟨_, rfl, ?_⟩; clear DX; have n0 := Aside0.mk (IV.out.step hb); clear IV hb; have IV := n0; clear n0; clear hga0 hga1 hga2 hga3 hgb0 hgb1 hgb2 hgb3; have hga0 : w609.cell? ⟨ga, 0, none⟩ = some (.int .i64 x.f0) := (blk_cell IV.out.bx 0).trans rfl; have hga1 : w609.cell? ⟨ga, 1, none⟩ = some (.int .i64 x.f1) := (blk_cell IV.out.bx 1).trans rfl; have hga2 : w609.cell? ⟨ga, 2, none⟩ = some (.string x.f2) := (blk_cell IV.out.bx 2).trans rfl; have hga3 : w609.cell? ⟨ga, 3, none⟩ = some (.slice A x.f3.length c) := (blk_cell IV.out.bx 3).trans rfl; have hgb0 : w609.cell? ⟨gb, 0, none⟩ = some (.int .i64 y.f0) := (blk_cell IV.out.by_ 0).trans rfl; have hgb1 : w609.cell? ⟨gb, 1, none⟩ = some (.int .i64 y.f1) := (blk_cell IV.out.by_ 1).trans rfl; have hgb2 : w609.cell? ⟨gb, 2, none⟩ = some (.string y.f2) := (blk_cell IV.out.by_ 2).trans rfl; have hgb3 : w609.cell? ⟨gb, 3, none⟩ = some (.slice B y.f3.length d) := (blk_cell IV.out.by_ 3).trans rfl)) | ((with_reducible refine gate_dst (N := 56) rfl ?_); (refine gate_guard (by rfl) ?_; dsimp only); refine lit_event ?hg (N := 56) ?hd (m := 1) (cs := #[.int .i64 x.f0, .int .i64 x.f1, .string x.f2, .slice A x.f3.length c]) (t := 40) ?hr ?_; (case hd => rfl); (case hg => rfl); (case hr => first | (go_simp; done) | (go_simp; rfl)); intro gs hg w610 hbox hb; have DX := Aside0.mk (Dc_one 7 1 (⟨#[]⟩ : ByteArray) hbox (IV.out.dx.below hb));  clear hbox hg; have n0 := Aside0.mk (IV.out.step hb); clear IV hb; have IV := n0; clear n0; clear hga0 hga1 hga2 hga3 hgb0 hgb1 hgb2 hgb3; have hga0 : w610.cell? ⟨ga, 0, none⟩ = some (.int .i64 x.f0) := (blk_cell IV.out.bx 0).trans rfl; have hga1 : w610.cell? ⟨ga, 1, none⟩ = some (.int .i64 x.f1) := (blk_cell IV.out.bx 1).trans rfl; have hga2 : w610.cell? ⟨ga, 2, none⟩ = some (.string x.f2) := (blk_cell IV.out.bx 2).trans rfl; have hga3 : w610.cell? ⟨ga, 3, none⟩ = some (.slice A x.f3.length c) := (blk_cell IV.out.bx 3).trans rfl; have hgb0 : w610.cell? ⟨gb, 0, none⟩ = some (.int .i64 y.f0) := (blk_cell IV.out.by_ 0).trans rfl; have hgb1 : w610.cell? ⟨gb, 1, none⟩ = some (.int .i64 y.f1) := (blk_cell IV.out.by_ 1).trans rfl; have hgb2 : w610.cell? ⟨gb, 2, none⟩ = some (.string y.f2) := (blk_cell IV.out.by_ 2).trans rfl; have hgb3 : w610.cell? ⟨gb, 3, none⟩ = some (.slice B y.f3.length d) := (blk_cell IV.out.by_ 3).trans rfl) | ((with_reducible refine gate_dst (N := 57) rfl ?_); (refine gate_guard (by rfl) ?_; dsimp only); refine goesL_ (some 57) rfl rfl Try.func40 (by kernel_rfl) rfl #[.slice (some ⟨gs, 0, none⟩) 1 1] rfl (by (try simp only [List.map_toArray, List.map_cons, List.map_nil]); first | done | rfl) ?_; (refine (mk40 (some ⟨gs, 0, none⟩) 1 1 _).mono ?_); (rintro e w611 ⟨rfl, hb⟩; refine ⟨_, rfl, ?_⟩; have m0 := Aside0.mk (DX.out.below hb); clear DX; have DX := m0; clear m0; have n0 := Aside0.mk (IV.out.step hb); clear IV hb; have IV := n0; clear n0; clear hga0 hga1 hga2 hga3 hgb0 hgb1 hgb2 hgb3; have hga0 : w611.cell? ⟨ga, 0, none⟩ = some (.int .i64 x.f0) := (blk_cell IV.out.bx 0).trans rfl; have hga1 : w611.cell? ⟨ga, 1, none⟩ = some (.int .i64 x.f1) := (blk_cell IV.out.bx 1).trans rfl; have hga2 : w611.cell? ⟨ga, 2, none⟩ = some (.string x.f2) := (blk_cell IV.out.bx 2).trans rfl; have hga3 : w611.cell? ⟨ga, 3, none⟩ = some (.slice A x.f3.length c) := (blk_cell IV.out.bx 3).trans rfl; have hgb0 : w611.cell? ⟨gb, 0, none⟩ = some (.int .i64 y.f0) := (blk_cell IV.out.by_ 0).trans rfl; have hgb1 : w611.cell? ⟨gb, 1, none⟩ = some (.int .i64 y.f1) := (blk_cell IV.out.by_ 1).trans rfl; have hgb2 : w611.cell? ⟨gb, 2, none⟩ = some (.string y.f2) := (blk_cell IV.out.by_ 2).trans rfl; have hgb3 : w611.cell? ⟨gb, 3, none⟩ = some (.slice B y.f3.length d) := (blk_cell IV.out.by_ 3).trans rfl)) | ((with_reducible refine gate_dst (N := 58) rfl ?_); (refine gate_guard (by rfl) ?_; dsimp only); refine goesL_ (some 58) rfl rfl Try.func31 (by kernel_rfl) rfl #[.agg #[.int .i64 7, .int .i64 1, .string (⟨#[]⟩ : ByteArray), .slice (some ⟨gs, 0, none⟩) 1 1]] rfl (by (try simp only [List.map_toArray, List.map_cons, List.map_nil]); first | done | rfl) ?_; (refine (frc_of ⟨7, 1, (⟨#[]⟩ : ByteArray), [x]⟩ (some ⟨gs, 0, none⟩) 1 true _ DX.out (fin_one 7 1 (⟨#[]⟩ : ByteArray) (by decide) FX.out) frc_brk1).mono ?_); (rintro e w612 ⟨rfl, hb⟩; refine ⟨_, rfl, ?_⟩; clear DX; have n0 := Aside0.mk (IV.out.step hb); clear IV hb; have IV := n0; clear n0; clear hga0 hga1 hga2 hga3 hgb0 hgb1 hgb2 hgb3; have hga0 : w612.cell? ⟨ga, 0, none⟩ = some (.int .i64 x.f0) := (blk_cell IV.out.bx 0).trans rfl; have hga1 : w612.cell? ⟨ga, 1, none⟩ = some (.int .i64 x.f1) := (blk_cell IV.out.bx 1).trans rfl; have hga2 : w612.cell? ⟨ga, 2, none⟩ = some (.string x.f2) := (blk_cell IV.out.bx 2).trans rfl; have hga3 : w612.cell? ⟨ga, 3, none⟩ = some (.slice A x.f3.length c) := (blk_cell IV.out.bx 3).trans rfl; have hgb0 : w612.cell? ⟨gb, 0, none⟩ = some (.int .i64 y.f0) := (blk_cell IV.out.by_ 0).trans rfl; have hgb1 : w612.cell? ⟨gb, 1, none⟩ = some (.int .i64 y.f1) := (blk_cell IV.out.by_ 1).trans rfl; have hgb2 : w612.cell? ⟨gb, 2, none⟩ = some (.string y.f2) := (blk_cell IV.out.by_ 2).trans rfl; have hgb3 : w612.cell? ⟨gb, 3, none⟩ = some (.slice B y.f3.length d) := (blk_cell IV.out.by_ 3).trans rfl)) | ((with_reducible refine gate_dst (N := 9) rfl ?_); (try (refine gate_guard (by rfl) ?_; dsimp only)); refine box_event ?hg (N := 9) ?hd (cs := #[.int .i64 0, .int .i64 0, .string (⟨#[]⟩ : ByteArray), .slice none 0 0]) (t := 40) ?hr ?_; (case hd => rfl); (case hg => rfl); (case hr => first | (go_simp; done) | (go_simp; rfl)); intro g9 hg w700 hbox hb; have NA := Aside0.mk (show ga ≠ g9 from by rw [hg]; exact Nat.ne_of_lt (blk_lt IV.out.bx)); have NB := Aside0.mk (show gb ≠ g9 from by rw [hg]; exact Nat.ne_of_lt (blk_lt IV.out.by_)); have N9 := Aside0.mk (show w.heap.size ≤ g9 from by rw [hg]; exact IV.out.hb.size); have BZ := Aside0.mk hbox;  have hz0 : w700.cell? ⟨g9, 0, none⟩ = some (.int .i64 0) := (blk_cell BZ.out 0).trans rfl; have hz1 : w700.cell? ⟨g9, 1, none⟩ = some (.int .i64 0) := (blk_cell BZ.out 1).trans rfl; have hz2 : w700.cell? ⟨g9, 2, none⟩ = some (.string (⟨#[]⟩ : ByteArray)) := (blk_cell BZ.out 2).trans rfl; have hz3 : w700.cell? ⟨g9, 3, none⟩ = some (.slice none 0 0) := (blk_cell BZ.out 3).trans rfl; have yf0 := blk_frozen BZ.out 0; have yf1 := blk_frozen BZ.out 1; have yf2 := blk_frozen BZ.out 2; have yf3 := blk_frozen BZ.out 3; clear hbox hg; have n0 := Aside0.mk (IV.out.step hb); clear IV hb; have IV := n0; clear n0; clear hga0 hga1 hga2 hga3 hgb0 hgb1 hgb2 hgb3))
  have IG := Aside0.mk (show IvG w (((((w700).setCell ⟨g9, 0, none⟩ (.int .i64 4)).setCell ⟨g9, 1, none⟩ (.int .i64 0)).setCell ⟨g9, 2, none⟩ (.string (⟨#[]⟩ : ByteArray))).setCell ⟨g9, 3, none⟩ (.slice none 0 0)) ga gb x y A c B d g9 (dI 0) none 0 from ⟨(((IV.out.set NA.out NB.out N9.out 0 _).set NA.out NB.out N9.out 1 _).set NA.out NB.out N9.out 2 _).set NA.out NB.out N9.out 3 _, (by
    refine blk_put (cs := #[.int .i64 4, .int .i64 0, .string (⟨#[]⟩ : ByteArray), .slice none 0 0]) ?_ 3 _ rfl
    refine blk_put (cs := #[.int .i64 4, .int .i64 0, .string (⟨#[]⟩ : ByteArray), .slice none 0 0]) ?_ 2 _ rfl
    refine blk_put (cs := #[.int .i64 4, .int .i64 0, .string (⟨#[]⟩ : ByteArray), .slice none 0 0]) ?_ 1 _ rfl
    refine blk_put (cs := #[.int .i64 0, .int .i64 0, .string (⟨#[]⟩ : ByteArray), .slice none 0 0]) ?_ 0 _ rfl
    exact BZ.out), D9_zero _, NA.out, NB.out, N9.out⟩)
  clear IV BZ NA NB N9 hz0 hz1 hz2 hz3 yf0 yf1 yf2 yf3 hf hf2
  obtain ⟨m, hm31, hm⟩ := rem31_nat n
  go_loopg [10] m (fun k' v10 wr => ∃ (i : Nat) (Z : Option Addr) (e : Nat), v10 = .int .i64 i ∧ i ≤ m ∧ Aside0 (k' + i = m) ∧ Aside0 (IvG w wr ga gb x y A c B d g9 (dI i) Z e))
  case atStart => exact ⟨0, none, 0, rfl, Nat.zero_le _, ⟨rfl⟩, IG⟩
  case round =>
    clear IG
    obtain ⟨i, Z, e, rfl, hi, HK, IG⟩ := hrel
    by_cases hlt : i < m
    · go_wp2_with fail
      have IG2 := Aside0.mk (IG.out.step (below_drew1 (Below.refl _ _)))
      clear IG
      have IG := IG2
      clear IG2
      refine start_ (n := 5) (S := SZ g9 (dI i) Z e) (ds := [4]) #[false, false, false, false, false] (by kernel_rfl) rfl rfl (IG.out.S) (fun hHeld => ?_)
      generalize World.drew _ = w800 at IG hHeld ⊢
      refine take_ (i := 1) (N := some 71) (v := ?_) (a' := ?_) #[false, true, false, false, false] rfl rfl (take_of (md := .any) (ops := opsOf Try.f9 10) F9tab10 (by kernel_rfl)) (fun _ _ _ h => h) (Or.inl ⟨by rfl, ?_⟩) hHeld ?_ ?_
      rotate_left
      · rintro w' ⟨s0, s1, s2, s3⟩
        go_simp
        with_reducible rfl
      rotate_left
      · simp only [Act.put, List.setIfInBounds_toArray, List.set_cons_zero, List.set_cons_succ, i64_w, i32_w]
        rfl
      refine one_ (i := 0) (N := some 70) #[true, true, false, false, false] rfl rfl (one_of (md := .any) (ops := opsOf Try.f9 10) F9tab10 (by kernel_rfl)) (by decide) (fun K hK => ?_)
      refine goes_ Try.func36 (by kernel_rfl) rfl #[.string (⟨#[116]⟩ : ByteArray)] (by rfl) rfl rfl (by (try simp only [List.map_toArray, List.map_cons, List.map_nil]); first | done | rfl) ?_
      refine (mk36 (⟨#[116]⟩ : ByteArray) _).mono ?_
      rintro e w801 ⟨rfl, hb⟩
      refine ⟨_, rfl, ?_⟩
      have n0 := Aside0.mk (IG.out.step hb); clear IG hb; have IG := n0; clear n0
      refine hK.out _ _ (IG.out.S) (fun hHeld => ?_)
      clear hK K
      refine norm_ (a' := ?_) ?_ ?_
      rotate_left
      · show Act.put _ (some 70) _ = _
        simp only [Act.put, List.setIfInBounds_toArray, List.set_cons_zero, List.set_cons_succ, i64_w, i32_w]
        rfl
      refine one_ (i := 2) (N := some 72) #[true, true, true, false, false] rfl rfl (one_of (md := .any) (ops := opsOf Try.f9 10) F9tab10 (by kernel_rfl)) (by decide) (fun K hK => ?_)
      refine lit_step (m := 2) (cs := #[.int .i64 1, .int .i64 0, .string (⟨#[116]⟩ : ByteArray), .slice none 0 0, .int .i64 (dI i).f0, .int .i64 (dI i).f1, .string (dI i).f2, .slice Z (dI i).f3.length e]) (t := 40) (by rfl) ?hrun ?_
      case hrun => first | (go_simp; done) | (go_simp; rfl)
      intro gs hg w802 hbox hb
      have DZ := Aside0.mk (D9_dI i (by rw [hg]; exact Nat.ne_of_gt (blk_lt IG.out.bz)) hbox (IG.out.dz.step hb)); have n0 := Aside0.mk (IG.out.step hb); clear IG hb; have IG := n0; clear n0
      clear hbox hg
      refine hK.out _ _ (IG.out.S) (fun hHeld => ?_)
      clear hK K
      refine norm_ (a' := ?_) ?_ ?_
      rotate_left
      · show Act.put _ (some 72) _ = _
        simp only [Act.put, List.setIfInBounds_toArray, List.set_cons_zero, List.set_cons_succ, i64_w, i32_w]
        rfl
      refine one_ (i := 3) (N := some 73) #[true, true, true, true, false] rfl rfl (one_of (md := .any) (ops := opsOf Try.f9 10) F9tab10 (by kernel_rfl)) (by decide) (fun K hK => ?_)
      refine goes_ Try.func39 (by kernel_rfl) rfl #[.slice (some ⟨gs, 0, none⟩) 2 2] (by rfl) rfl rfl (by (try simp only [List.map_toArray, List.map_cons, List.map_nil]); first | done | rfl) ?_
      refine (mk39 (some ⟨gs, 0, none⟩) 2 2 _).mono ?_
      rintro e w803 ⟨rfl, hb⟩
      refine ⟨_, rfl, ?_⟩
      have m0 := Aside0.mk (DZ.out.step hb); clear DZ; have DZ := m0; clear m0; have n0 := Aside0.mk (IG.out.step hb); clear IG hb; have IG := n0; clear n0
      refine hK.out _ _ (IG.out.S) (fun hHeld => ?_)
      clear hK K
      refine norm_ (a' := ?_) ?_ ?_
      rotate_left
      · show Act.put _ (some 73) _ = _
        simp only [Act.put, List.setIfInBounds_toArray, List.set_cons_zero, List.set_cons_succ, i64_w, i32_w]
        rfl
      refine last_ (i := 4) (N := none) #[true, true, true, true, true] rfl rfl (one_of (md := .any) (ops := opsOf Try.f9 10) F9tab10 (by kernel_rfl)) (by decide) (fun K hK => ?_)
      obtain ⟨hz0, hz1, hz2, hz3⟩ := IG.out.S
      have yf0 := blk_frozen IG.out.bz 0
      have yf1 := blk_frozen IG.out.bz 1
      have yf2 := blk_frozen IG.out.bz 2
      have yf3 := blk_frozen IG.out.bz 3
      refine skip_ (w1 := ((((w803).setCell ⟨g9, 0, none⟩ (.int .i64 7)).setCell ⟨g9, 1, none⟩ (.int .i64 0)).setCell ⟨g9, 2, none⟩ (.string (⟨#[]⟩ : ByteArray))).setCell ⟨g9, 3, none⟩ (.slice (some ⟨gs, 0, none⟩) 2 2)) rfl rfl ?hrun ?_
      case hrun => first | (go_simp; done) | (go_simp; rfl)
      refine hK.out _ _ (done_ (done_of (md := .any) (ops := opsOf Try.f9 10) F9tab10 (by kernel_rfl)) ?_)
      have IH := Aside0.mk (show IvG w (((((w803).setCell ⟨g9, 0, none⟩ (.int .i64 7)).setCell ⟨g9, 1, none⟩ (.int .i64 0)).setCell ⟨g9, 2, none⟩ (.string (⟨#[]⟩ : ByteArray))).setCell ⟨g9, 3, none⟩ (.slice (some ⟨gs, 0, none⟩) 2 2)) ga gb x y A c B d g9 (dI (i + 1)) (some ⟨gs, 0, none⟩) 2 from ⟨(((IG.out.f.set IG.out.na IG.out.nb IG.out.n9 0 _).set IG.out.na IG.out.nb IG.out.n9 1 _).set IG.out.na IG.out.nb IG.out.n9 2 _).set IG.out.na IG.out.nb IG.out.n9 3 _, (by
        refine blk_put (cs := #[.int .i64 7, .int .i64 0, .string (⟨#[]⟩ : ByteArray), .slice Z (dI i).f3.length e]) ?_ 3 _ rfl
        refine blk_put (cs := #[.int .i64 7, .int .i64 0, .string (dI i).f2, .slice Z (dI i).f3.length e]) ?_ 2 _ rfl
        refine blk_put (cs := #[.int .i64 7, .int .i64 (dI i).f1, .string (dI i).f2, .slice Z (dI i).f3.length e]) ?_ 1 _ rfl
        refine blk_put (cs := #[.int .i64 (dI i).f0, .int .i64 (dI i).f1, .string (dI i).f2, .slice Z (dI i).f3.length e]) ?_ 0 _ rfl
        exact IG.out.bz), (((DZ.out.set 0 _).set 1 _).set 2 _).set 3 _, IG.out.na, IG.out.nb, IG.out.n9⟩)
      clear IG DZ hz0 hz1 hz2 hz3 yf0 yf1 yf2 yf3 hK hHeld
      have hi0 : 0 ≤ (i : Int) := by omega
      have hi1 : (i : Int) ≤ 31 := by omega
      go_wp2_with fail
      go_roundg (m - (i + 1))
      case measure => have := HK.out; omega
      case rel => exact ⟨i + 1, _, _, by simp, by omega, ⟨by have := HK.out; omega⟩, IH⟩
    · obtain rfl : i = m := by omega
      go_wp2_with fail
      have IG2 := Aside0.mk (IG.out.step (below_drew1 (Below.refl _ _)))
      clear IG
      have IG := IG2
      clear IG2
      refine start_ (n := 20) (S := SG ga gb x y A c B d g9 (dI i) Z e) (ds := []) #[false, false, false, false, false, false, false, false, false, false, false, false, false, false, false, false, false, false, false, false] (by kernel_rfl) rfl rfl (IG.out.SS) (fun hHeld => ?_)
      generalize World.drew _ = w900 at IG hHeld ⊢
      refine one_ (i := 0) (N := some 74) #[true, false, false, false, false, false, false, false, false, false, false, false, false, false, false, false, false, false, false, false] rfl rfl (one_of (md := .any) (ops := opsOf Try.f9 11) F9tab11 (by kernel_rfl)) (by decide) (fun K hK => ?_)
      refine goes_ Try.func28 (by kernel_rfl) rfl #[] (by rfl) rfl rfl (by (try simp only [List.map_toArray, List.map_cons, List.map_nil]); first | done | rfl) ?_
      refine (galleylaw15_told.calls true _ rfl).mono ?_
      rintro e w901 ⟨rfl, hb⟩
      refine ⟨_, rfl, ?_⟩
      have n0 := Aside0.mk (IG.out.step hb); clear IG hb; have IG := n0; clear n0
      refine hK.out _ _ (IG.out.SS) (fun hHeld => ?_)
      clear hK K
      refine norm_ (a' := ?_) ?_ ?_
      rotate_left
      · show Act.put _ (some 74) _ = _
        simp only [Act.put, List.setIfInBounds_toArray, List.set_cons_zero, List.set_cons_succ, i64_w, i32_w]
        rfl
      refine pure_ (i := 1) (N := some 75) (v := ?_) (a' := ?_) #[true, true, false, false, false, false, false, false, false, false, false, false, false, false, false, false, false, false, false, false] rfl rfl (any_of (md := .any) (ops := opsOf Try.f9 11) F9tab11 (by kernel_rfl)) (fun _ _ _ h => h) (Or.inl ⟨by rfl, ?_⟩) ?_ ?_
      rotate_left
      · intro w'
        go_simp
        with_reducible rfl
      rotate_left
      · simp only [Act.put, List.setIfInBounds_toArray, List.set_cons_zero, List.set_cons_succ, i64_w, i32_w]
        rfl
      refine take_ (i := 2) (N := some 76) (v := ?_) (a' := ?_) #[true, true, true, false, false, false, false, false, false, false, false, false, false, false, false, false, false, false, false, false] rfl rfl (take_of (md := .any) (ops := opsOf Try.f9 11) F9tab11 (by kernel_rfl)) (fun _ _ _ h => h) (Or.inl ⟨by rfl, ?_⟩) hHeld ?_ ?_
      rotate_left
      · rintro w' ⟨s0, s1, s2, s3, s4, s5, s6, s7, s8, s9, s10, s11⟩
        go_simp
        with_reducible rfl
      rotate_left
      · simp only [Act.put, List.setIfInBounds_toArray, List.set_cons_zero, List.set_cons_succ, i64_w, i32_w]
        rfl
      refine one_ (i := 3) (N := some 77) #[true, true, true, true, false, false, false, false, false, false, false, false, false, false, false, false, false, false, false, false] rfl rfl (one_of (md := .any) (ops := opsOf Try.f9 11) F9tab11 (by kernel_rfl)) (by decide) (fun K hK => ?_)
      refine goes_ Try.func31 (by kernel_rfl) rfl #[.agg #[.int .i64 (dI i).f0, .int .i64 (dI i).f1, .string (dI i).f2, .slice Z (dI i).f3.length e]] (by rfl) rfl rfl (by (try simp only [List.map_toArray, List.map_cons, List.map_nil]); first | done | rfl) ?_
      refine (frc_of (dI i) Z e true _ IG.out.dz.own (dI_fin i) (dI_frc i)).mono ?_
      rintro e w902 ⟨rfl, hb⟩
      refine ⟨_, rfl, ?_⟩
      have n0 := Aside0.mk (IG.out.step hb); clear IG hb; have IG := n0; clear n0
      refine hK.out _ _ (IG.out.SS) (fun hHeld => ?_)
      clear hK K
      refine norm_ (a' := ?_) ?_ ?_
      rotate_left
      · show Act.put _ (some 77) _ = _
        simp only [Act.put, List.setIfInBounds_toArray, List.set_cons_zero, List.set_cons_succ, i64_w, i32_w]
        rfl
      refine pure_ (i := 4) (N := some 78) (v := ?_) (a' := ?_) #[true, true, true, true, true, false, false, false, false, false, false, false, false, false, false, false, false, false, false, false] rfl rfl (any_of (md := .any) (ops := opsOf Try.f9 11) F9tab11 (by kernel_rfl)) (fun _ _ _ h => h) (Or.inl ⟨by rfl, ?_⟩) ?_ ?_
      rotate_left
      · intro w'
        go_simp
        with_reducible rfl
      rotate_left
      · simp only [Act.put, List.setIfInBounds_toArray, List.set_cons_zero, List.set_cons_succ, i64_w, i32_w]
        rfl
      refine pure_ (i := 5) (N := some 79) (v := ?_) (a' := ?_) #[true, true, true, true, true, true, false, false, false, false, false, false, false, false, false, false, false, false, false, false] rfl rfl (any_of (md := .any) (ops := opsOf Try.f9 11) F9tab11 (by kernel_rfl)) (fun _ _ _ h => h) (Or.inl ⟨by rfl, ?_⟩) ?_ ?_
      rotate_left
      · intro w'
        go_simp
        with_reducible rfl
      rotate_left
      · simp only [Act.put, List.setIfInBounds_toArray, List.set_cons_zero, List.set_cons_succ, i64_w, i32_w]
        rfl
      refine take_ (i := 6) (N := some 80) (v := ?_) (a' := ?_) #[true, true, true, true, true, true, true, false, false, false, false, false, false, false, false, false, false, false, false, false] rfl rfl (take_of (md := .any) (ops := opsOf Try.f9 11) F9tab11 (by kernel_rfl)) (fun _ _ _ h => h) (Or.inl ⟨by rfl, ?_⟩) hHeld ?_ ?_
      rotate_left
      · rintro w' ⟨s0, s1, s2, s3, s4, s5, s6, s7, s8, s9, s10, s11⟩
        go_simp
        with_reducible rfl
      rotate_left
      · simp only [Act.put, List.setIfInBounds_toArray, List.set_cons_zero, List.set_cons_succ, i64_w, i32_w]
        rfl
      refine take_ (i := 7) (N := some 81) (v := ?_) (a' := ?_) #[true, true, true, true, true, true, true, true, false, false, false, false, false, false, false, false, false, false, false, false] rfl rfl (take_of (md := .any) (ops := opsOf Try.f9 11) F9tab11 (by kernel_rfl)) (fun _ _ _ h => h) (Or.inl ⟨by rfl, ?_⟩) hHeld ?_ ?_
      rotate_left
      · rintro w' ⟨s0, s1, s2, s3, s4, s5, s6, s7, s8, s9, s10, s11⟩
        go_simp
        with_reducible rfl
      rotate_left
      · simp only [Act.put, List.setIfInBounds_toArray, List.set_cons_zero, List.set_cons_succ, i64_w, i32_w]
        rfl
      refine take_ (i := 11) (N := some 85) (v := ?_) (a' := ?_) #[true, true, true, true, true, true, true, true, false, false, false, true, false, false, false, false, false, false, false, false] rfl rfl (take_of (md := .any) (ops := opsOf Try.f9 11) F9tab11 (by kernel_rfl)) (fun _ _ _ h => h) (Or.inl ⟨by rfl, ?_⟩) hHeld ?_ ?_
      rotate_left
      · rintro w' ⟨s0, s1, s2, s3, s4, s5, s6, s7, s8, s9, s10, s11⟩
        go_simp
        with_reducible rfl
      rotate_left
      · simp only [Act.put, List.setIfInBounds_toArray, List.set_cons_zero, List.set_cons_succ, i64_w, i32_w]
        rfl
      refine take_ (i := 13) (N := some 87) (v := ?_) (a' := ?_) #[true, true, true, true, true, true, true, true, false, false, false, true, false, true, false, false, false, false, false, false] rfl rfl (take_of (md := .any) (ops := opsOf Try.f9 11) F9tab11 (by kernel_rfl)) (fun _ _ _ h => h) (Or.inl ⟨by rfl, ?_⟩) hHeld ?_ ?_
      rotate_left
      · rintro w' ⟨s0, s1, s2, s3, s4, s5, s6, s7, s8, s9, s10, s11⟩
        go_simp
        with_reducible rfl
      rotate_left
      · simp only [Act.put, List.setIfInBounds_toArray, List.set_cons_zero, List.set_cons_succ, i64_w, i32_w]
        rfl
      refine one_ (i := 8) (N := some 82) #[true, true, true, true, true, true, true, true, true, false, false, true, false, true, false, false, false, false, false, false] rfl rfl (one_of (md := .any) (ops := opsOf Try.f9 11) F9tab11 (by kernel_rfl)) (by decide) (fun K hK => ?_)
      refine lit_step (m := 2) (cs := #[.int .i64 x.f0, .int .i64 x.f1, .string x.f2, .slice A x.f3.length c, .int .i64 y.f0, .int .i64 y.f1, .string y.f2, .slice B y.f3.length d]) (t := 40) (by rfl) ?hrun ?_
      case hrun => first | (go_simp; done) | (go_simp; rfl)
      intro gs hg w903 hbox hb
      have DX := Aside0.mk (Dc_two 5 0 (⟨#[]⟩ : ByteArray) hbox (IG.out.f.dx.below hb) (IG.out.f.dy.below hb)); have n0 := Aside0.mk (IG.out.step hb); clear IG hb; have IG := n0; clear n0
      clear hbox hg
      refine hK.out _ _ (IG.out.SS) (fun hHeld => ?_)
      clear hK K
      refine norm_ (a' := ?_) ?_ ?_
      rotate_left
      · show Act.put _ (some 82) _ = _
        simp only [Act.put, List.setIfInBounds_toArray, List.set_cons_zero, List.set_cons_succ, i64_w, i32_w]
        rfl
      refine one_ (i := 9) (N := some 83) #[true, true, true, true, true, true, true, true, true, true, false, true, false, true, false, false, false, false, false, false] rfl rfl (one_of (md := .any) (ops := opsOf Try.f9 11) F9tab11 (by kernel_rfl)) (by decide) (fun K hK => ?_)
      refine goes_ Try.func37 (by kernel_rfl) rfl #[.slice (some ⟨gs, 0, none⟩) 2 2] (by rfl) rfl rfl (by (try simp only [List.map_toArray, List.map_cons, List.map_nil]); first | done | rfl) ?_
      refine (mk37 (some ⟨gs, 0, none⟩) 2 2 _).mono ?_
      rintro e w904 ⟨rfl, hb⟩
      refine ⟨_, rfl, ?_⟩
      have m0 := Aside0.mk (DX.out.below hb); clear DX; have DX := m0; clear m0; have n0 := Aside0.mk (IG.out.step hb); clear IG hb; have IG := n0; clear n0
      refine hK.out _ _ (IG.out.SS) (fun hHeld => ?_)
      clear hK K
      refine norm_ (a' := ?_) ?_ ?_
      rotate_left
      · show Act.put _ (some 83) _ = _
        simp only [Act.put, List.setIfInBounds_toArray, List.set_cons_zero, List.set_cons_succ, i64_w, i32_w]
        rfl
      refine one_ (i := 10) (N := some 84) #[true, true, true, true, true, true, true, true, true, true, true, true, false, true, false, false, false, false, false, false] rfl rfl (one_of (md := .any) (ops := opsOf Try.f9 11) F9tab11 (by kernel_rfl)) (by decide) (fun K hK => ?_)
      refine goes_ Try.func33 (by kernel_rfl) rfl #[.agg #[.int .i64 5, .int .i64 0, .string (⟨#[]⟩ : ByteArray), .slice (some ⟨gs, 0, none⟩) 2 2]] (by rfl) rfl rfl (by (try simp only [List.map_toArray, List.map_cons, List.map_nil]); first | done | rfl) ?_
      refine (cnt_of ⟨5, 0, (⟨#[]⟩ : ByteArray), [x, y]⟩ (some ⟨gs, 0, none⟩) 2 ((1 + (cnt x + cnt y) : Nat) : Int) _ DX.out (fin_two 5 0 (⟨#[]⟩ : ByteArray) (by decide) FX.out FY.out) (by rw [cnt_cat2]; exact wrap_small _ (by have := CX.out; have := CY.out; omega))).mono ?_
      rintro e w905 ⟨rfl, hb⟩
      refine ⟨_, rfl, ?_⟩
      clear DX; have n0 := Aside0.mk (IG.out.step hb); clear IG hb; have IG := n0; clear n0
      refine hK.out _ _ (IG.out.SS) (fun hHeld => ?_)
      clear hK K
      refine norm_ (a' := ?_) ?_ ?_
      rotate_left
      · show Act.put _ (some 84) _ = _
        simp only [Act.put, List.setIfInBounds_toArray, List.set_cons_zero, List.set_cons_succ, i64_w, i32_w]
        rfl
      refine one_ (i := 12) (N := some 86) #[true, true, true, true, true, true, true, true, true, true, true, true, true, true, false, false, false, false, false, false] rfl rfl (one_of (md := .any) (ops := opsOf Try.f9 11) F9tab11 (by kernel_rfl)) (by decide) (fun K hK => ?_)
      refine goes_ Try.func33 (by kernel_rfl) rfl #[.agg #[.int .i64 x.f0, .int .i64 x.f1, .string x.f2, .slice A x.f3.length c]] (by rfl) rfl rfl (by (try simp only [List.map_toArray, List.map_cons, List.map_nil]); first | done | rfl) ?_
      refine (cnt_of x A c ((cnt x : Nat) : Int) _ IG.out.f.dx FX.out (wrap_small _ (by have := CX.out; omega))).mono ?_
      rintro e w906 ⟨rfl, hb⟩
      refine ⟨_, rfl, ?_⟩
      have n0 := Aside0.mk (IG.out.step hb); clear IG hb; have IG := n0; clear n0
      refine hK.out _ _ (IG.out.SS) (fun hHeld => ?_)
      clear hK K
      refine norm_ (a' := ?_) ?_ ?_
      rotate_left
      · show Act.put _ (some 86) _ = _
        simp only [Act.put, List.setIfInBounds_toArray, List.set_cons_zero, List.set_cons_succ, i64_w, i32_w]
        rfl
      refine one_ (i := 14) (N := some 88) #[true, true, true, true, true, true, true, true, true, true, true, true, true, true, true, false, false, false, false, false] rfl rfl (one_of (md := .any) (ops := opsOf Try.f9 11) F9tab11 (by kernel_rfl)) (by decide) (fun K hK => ?_)
      refine goes_ Try.func33 (by kernel_rfl) rfl #[.agg #[.int .i64 y.f0, .int .i64 y.f1, .string y.f2, .slice B y.f3.length d]] (by rfl) rfl rfl (by (try simp only [List.map_toArray, List.map_cons, List.map_nil]); first | done | rfl) ?_
      refine (cnt_of y B d ((cnt y : Nat) : Int) _ IG.out.f.dy FY.out (wrap_small _ (by have := CY.out; omega))).mono ?_
      rintro e w907 ⟨rfl, hb⟩
      refine ⟨_, rfl, ?_⟩
      have n0 := Aside0.mk (IG.out.step hb); clear IG hb; have IG := n0; clear n0
      refine hK.out _ _ (IG.out.SS) (fun hHeld => ?_)
      clear hK K
      refine norm_ (a' := ?_) ?_ ?_
      rotate_left
      · show Act.put _ (some 88) _ = _
        simp only [Act.put, List.setIfInBounds_toArray, List.set_cons_zero, List.set_cons_succ, i64_w, i32_w]
        rfl
      refine pure_ (i := 15) (N := some 89) (v := ?_) (a' := ?_) #[true, true, true, true, true, true, true, true, true, true, true, true, true, true, true, true, false, false, false, false] rfl rfl (any_of (md := .any) (ops := opsOf Try.f9 11) F9tab11 (by kernel_rfl)) (fun _ _ _ h => h) (Or.inl ⟨by rfl, ?_⟩) ?_ ?_
      rotate_left
      · intro w'
        go_simp
        with_reducible rfl
      rotate_left
      · simp only [Act.put, List.setIfInBounds_toArray, List.set_cons_zero, List.set_cons_succ, i64_w, i32_w]
        rfl
      refine pure_ (i := 16) (N := some 90) (v := ?_) (a' := ?_) #[true, true, true, true, true, true, true, true, true, true, true, true, true, true, true, true, true, false, false, false] rfl rfl (any_of (md := .any) (ops := opsOf Try.f9 11) F9tab11 (by kernel_rfl)) (fun _ _ _ h => h) (Or.inl ⟨by rfl, ?_⟩) ?_ ?_
      rotate_left
      · intro w'
        go_simp
        with_reducible rfl
      rotate_left
      · simp only [Act.put, List.setIfInBounds_toArray, List.set_cons_zero, List.set_cons_succ, i64_w, i32_w]
        rfl
      refine pure_ (i := 17) (N := some 91) (v := ?_) (a' := ?_) #[true, true, true, true, true, true, true, true, true, true, true, true, true, true, true, true, true, true, false, false] rfl rfl (any_of (md := .any) (ops := opsOf Try.f9 11) F9tab11 (by kernel_rfl)) (fun _ _ _ h => h) (Or.inl ⟨by rfl, ?_⟩) ?_ ?_
      rotate_left
      · intro w'
        go_simp
        with_reducible rfl
      rotate_left
      · simp only [Act.put, List.setIfInBounds_toArray, List.set_cons_zero, List.set_cons_succ, i64_w, i32_w]
        rfl
      refine pure_ (i := 18) (N := some 92) (v := ?_) (a' := ?_) #[true, true, true, true, true, true, true, true, true, true, true, true, true, true, true, true, true, true, true, false] rfl rfl (any_of (md := .any) (ops := opsOf Try.f9 11) F9tab11 (by kernel_rfl)) (fun _ _ _ h => h) (Or.inl ⟨by rfl, ?_⟩) ?_ ?_
      rotate_left
      · intro w'
        go_simp
        with_reducible rfl
      rotate_left
      · simp only [Act.put, List.setIfInBounds_toArray, List.set_cons_zero, List.set_cons_succ, i64_w, i32_w]
        rfl
      refine pure_ (i := 19) (N := some 6) (v := ?_) (a' := ?_) #[true, true, true, true, true, true, true, true, true, true, true, true, true, true, true, true, true, true, true, true] rfl rfl (any_of (md := .any) (ops := opsOf Try.f9 11) F9tab11 (by kernel_rfl)) (fun _ _ _ h => h) (Or.inl ⟨by rfl, ?_⟩) ?_ ?_
      rotate_left
      · intro w'
        go_simp
        with_reducible rfl
      rotate_left
      · simp only [Act.put, List.setIfInBounds_toArray, List.set_cons_zero, List.set_cons_succ, i64_w, i32_w]
        rfl
      refine done_ (done_of (md := .any) (ops := opsOf Try.f9 11) F9tab11 (by kernel_rfl)) ?_
      go_wp2_with fail
      go_ret
      have e : ((1 + ((cnt x : Int) + (cnt y : Int)) : Int) == wrap64 (wrap64 ((cnt x : Int) + (cnt y : Int)) + 1)) = true := by
        have := CX.out
        have := CY.out
        rw [beq_iff_eq]
        unfold wrap64
        omega
      exact ⟨by show Ending.returned (.bool _) = _; rw [e], IG.out.f.hb⟩
set_option maxHeartbeats 8000000 in
theorem forces_main_true_false (x : S40) (A : Option Addr) (c : Nat) (y : S40) (B : Option Addr) (d : Nat) (n : Int) (w : World) (hx : Dc w x A c) (hy : Dc w y B d) (hf : decide (fewD x 60 ≤ 500) = true) (hf2 : decide (fewD y 60 ≤ 500) = true) (fx : finD x) (fy : finD y) (ex : frcB x = true) (ey : frcB y = false) (cx : cnt x ≤ 500) (cy : cnt y ≤ 500) : Calls Try.prog 9 #[.agg #[.int .i64 x.f0, .int .i64 x.f1, .string x.f2, .slice A x.f3.length c], .agg #[.int .i64 y.f0, .int .i64 y.f1, .string y.f2, .slice B y.f3.length d], .int .i64 n] w fun e w' => e = .returned (.bool true) ∧ Below w.heap.size w w' := by
  have hu40 := Try.underlying40
  have HX := Aside0.mk hx
  have HY := Aside0.mk hy
  clear hx hy
  have FX := Aside0.mk fx
  have FY := Aside0.mk fy
  have EX := Aside0.mk ex
  have EY := Aside0.mk ey
  have CX := Aside0.mk cx
  have CY := Aside0.mk cy
  clear fx fy ex ey cx cy
  go_enter Try.func9, Try.ntmps9
  go_wp2_with (first | ((with_reducible refine gate_dst (N := 3) rfl ?_); (try (refine gate_guard (by rfl) ?_; dsimp only)); refine box_event ?hg (N := 3) ?hd (cs := #[.int .i64 x.f0, .int .i64 x.f1, .string x.f2, .slice A x.f3.length c]) (t := 40) ?hr ?_; (case hd => rfl); (case hg => rfl); (case hr => first | (go_simp; done) | (go_simp; rfl)); intro ga hg w1 hbox hb; have HBa := Aside0.mk hb; have BXA := Aside0.mk hbox; clear hb hg hbox) | ((with_reducible refine gate_dst (N := 4) rfl ?_); (try (refine gate_guard (by rfl) ?_; dsimp only)); refine box_event ?hg (N := 4) ?hd (cs := #[.int .i64 y.f0, .int .i64 y.f1, .string y.f2, .slice B y.f3.length d]) (t := 40) ?hr ?_; (case hd => rfl); (case hg => rfl); (case hr => first | (go_simp; done) | (go_simp; rfl)); intro gb hg w2 hbox hb; have IV := Aside0.mk (IvF.mk (below_step HBa.out hb) (blk_below BXA.out hb) hbox HX.out HY.out); clear HBa BXA hb hg hbox; have hga0 : w2.cell? ⟨ga, 0, none⟩ = some (.int .i64 x.f0) := (blk_cell IV.out.bx 0).trans rfl; have hga1 : w2.cell? ⟨ga, 1, none⟩ = some (.int .i64 x.f1) := (blk_cell IV.out.bx 1).trans rfl; have hga2 : w2.cell? ⟨ga, 2, none⟩ = some (.string x.f2) := (blk_cell IV.out.bx 2).trans rfl; have hga3 : w2.cell? ⟨ga, 3, none⟩ = some (.slice A x.f3.length c) := (blk_cell IV.out.bx 3).trans rfl; have hgb0 : w2.cell? ⟨gb, 0, none⟩ = some (.int .i64 y.f0) := (blk_cell IV.out.by_ 0).trans rfl; have hgb1 : w2.cell? ⟨gb, 1, none⟩ = some (.int .i64 y.f1) := (blk_cell IV.out.by_ 1).trans rfl; have hgb2 : w2.cell? ⟨gb, 2, none⟩ = some (.string y.f2) := (blk_cell IV.out.by_ 2).trans rfl; have hgb3 : w2.cell? ⟨gb, 3, none⟩ = some (.slice B y.f3.length d) := (blk_cell IV.out.by_ 3).trans rfl) | ((with_reducible refine gate_dst (N := 12) rfl ?_); refine goesL_ (some 12) rfl rfl Try.func27 (by kernel_rfl) rfl #[.agg #[.int .i64 x.f0, .int .i64 x.f1, .string x.f2, .slice A x.f3.length c]] rfl (by (try simp only [List.map_toArray, List.map_cons, List.map_nil]); first | done | rfl) ?_; (refine (few_of x A c true _ IV.out.dx hf).mono ?_); (rintro e w101 ⟨rfl, hb⟩; refine ⟨_, rfl, ?_⟩; have n0 := Aside0.mk (IV.out.step hb); clear IV hb; have IV := n0; clear n0; clear hga0 hga1 hga2 hga3 hgb0 hgb1 hgb2 hgb3; have hga0 : w101.cell? ⟨ga, 0, none⟩ = some (.int .i64 x.f0) := (blk_cell IV.out.bx 0).trans rfl; have hga1 : w101.cell? ⟨ga, 1, none⟩ = some (.int .i64 x.f1) := (blk_cell IV.out.bx 1).trans rfl; have hga2 : w101.cell? ⟨ga, 2, none⟩ = some (.string x.f2) := (blk_cell IV.out.bx 2).trans rfl; have hga3 : w101.cell? ⟨ga, 3, none⟩ = some (.slice A x.f3.length c) := (blk_cell IV.out.bx 3).trans rfl; have hgb0 : w101.cell? ⟨gb, 0, none⟩ = some (.int .i64 y.f0) := (blk_cell IV.out.by_ 0).trans rfl; have hgb1 : w101.cell? ⟨gb, 1, none⟩ = some (.int .i64 y.f1) := (blk_cell IV.out.by_ 1).trans rfl; have hgb2 : w101.cell? ⟨gb, 2, none⟩ = some (.string y.f2) := (blk_cell IV.out.by_ 2).trans rfl; have hgb3 : w101.cell? ⟨gb, 3, none⟩ = some (.slice B y.f3.length d) := (blk_cell IV.out.by_ 3).trans rfl)) | ((with_reducible refine gate_dst (N := 16) rfl ?_); (refine gate_guard (by rfl) ?_; dsimp only); refine goesL_ (some 16) rfl rfl Try.func27 (by kernel_rfl) rfl #[.agg #[.int .i64 y.f0, .int .i64 y.f1, .string y.f2, .slice B y.f3.length d]] rfl (by (try simp only [List.map_toArray, List.map_cons, List.map_nil]); first | done | rfl) ?_; (refine (few_of y B d true _ IV.out.dy hf2).mono ?_); (rintro e w102 ⟨rfl, hb⟩; refine ⟨_, rfl, ?_⟩; have n0 := Aside0.mk (IV.out.step hb); clear IV hb; have IV := n0; clear n0; clear hga0 hga1 hga2 hga3 hgb0 hgb1 hgb2 hgb3; have hga0 : w102.cell? ⟨ga, 0, none⟩ = some (.int .i64 x.f0) := (blk_cell IV.out.bx 0).trans rfl; have hga1 : w102.cell? ⟨ga, 1, none⟩ = some (.int .i64 x.f1) := (blk_cell IV.out.bx 1).trans rfl; have hga2 : w102.cell? ⟨ga, 2, none⟩ = some (.string x.f2) := (blk_cell IV.out.bx 2).trans rfl; have hga3 : w102.cell? ⟨ga, 3, none⟩ = some (.slice A x.f3.length c) := (blk_cell IV.out.bx 3).trans rfl; have hgb0 : w102.cell? ⟨gb, 0, none⟩ = some (.int .i64 y.f0) := (blk_cell IV.out.by_ 0).trans rfl; have hgb1 : w102.cell? ⟨gb, 1, none⟩ = some (.int .i64 y.f1) := (blk_cell IV.out.by_ 1).trans rfl; have hgb2 : w102.cell? ⟨gb, 2, none⟩ = some (.string y.f2) := (blk_cell IV.out.by_ 2).trans rfl; have hgb3 : w102.cell? ⟨gb, 3, none⟩ = some (.slice B y.f3.length d) := (blk_cell IV.out.by_ 3).trans rfl)))
  have IV3 := Aside0.mk (IV.out.step (below_drew1 (Below.refl _ _)))
  clear hga0 hga1 hga2 hga3 hgb0 hgb1 hgb2 hgb3
  clear IV
  have IV := IV3
  clear IV3
  refine start_ (n := 6) (S := SF ga gb x y A c B d) (ds := []) #[false, false, false, false, false, false] (by kernel_rfl) rfl rfl (IV.out.S) (fun hHeld => ?_)
  generalize World.drew _ = w200 at IV hHeld ⊢
  refine take_ (i := 0) (N := some 20) (v := ?_) (a' := ?_) #[true, false, false, false, false, false] rfl rfl (take_of (md := .any) (ops := opsOf Try.f9 3) F9tab3 (by kernel_rfl)) (fun _ _ _ h => h) (Or.inl ⟨by rfl, ?_⟩) hHeld ?_ ?_
  rotate_left
  · rintro w' ⟨s0, s1, s2, s3, s4, s5, s6, s7⟩
    go_simp
    with_reducible rfl
  rotate_left
  · simp only [Act.put, List.setIfInBounds_toArray, List.set_cons_zero, List.set_cons_succ, i64_w, i32_w]
    rfl
  refine take_ (i := 2) (N := some 22) (v := ?_) (a' := ?_) #[true, false, true, false, false, false] rfl rfl (take_of (md := .any) (ops := opsOf Try.f9 3) F9tab3 (by kernel_rfl)) (fun _ _ _ h => h) (Or.inl ⟨by rfl, ?_⟩) hHeld ?_ ?_
  rotate_left
  · rintro w' ⟨s0, s1, s2, s3, s4, s5, s6, s7⟩
    go_simp
    with_reducible rfl
  rotate_left
  · simp only [Act.put, List.setIfInBounds_toArray, List.set_cons_zero, List.set_cons_succ, i64_w, i32_w]
    rfl
  refine one_ (i := 1) (N := some 21) #[true, true, true, false, false, false] rfl rfl (one_of (md := .any) (ops := opsOf Try.f9 3) F9tab3 (by kernel_rfl)) (by decide) (fun K hK => ?_)
  refine goes_ Try.func31 (by kernel_rfl) rfl #[.agg #[.int .i64 x.f0, .int .i64 x.f1, .string x.f2, .slice A x.f3.length c]] (by rfl) rfl rfl (by (try simp only [List.map_toArray, List.map_cons, List.map_nil]); first | done | rfl) ?_
  refine (frc_of x A c true _ IV.out.dx FX.out EX.out).mono ?_
  rintro e w501 ⟨rfl, hb⟩
  refine ⟨_, rfl, ?_⟩
  have n0 := Aside0.mk (IV.out.step hb); clear IV hb; have IV := n0; clear n0
  refine hK.out _ _ (IV.out.S) (fun hHeld => ?_)
  clear hK K
  refine norm_ (a' := ?_) ?_ ?_
  rotate_left
  · show Act.put _ (some 21) _ = _
    simp only [Act.put, List.setIfInBounds_toArray, List.set_cons_zero, List.set_cons_succ, i64_w, i32_w]
    rfl
  refine one_ (i := 3) (N := some 23) #[true, true, true, true, false, false] rfl rfl (one_of (md := .any) (ops := opsOf Try.f9 3) F9tab3 (by kernel_rfl)) (by decide) (fun K hK => ?_)
  refine goes_ Try.func31 (by kernel_rfl) rfl #[.agg #[.int .i64 y.f0, .int .i64 y.f1, .string y.f2, .slice B y.f3.length d]] (by rfl) rfl rfl (by (try simp only [List.map_toArray, List.map_cons, List.map_nil]); first | done | rfl) ?_
  refine (frc_of y B d false _ IV.out.dy FY.out EY.out).mono ?_
  rintro e w502 ⟨rfl, hb⟩
  refine ⟨_, rfl, ?_⟩
  have n0 := Aside0.mk (IV.out.step hb); clear IV hb; have IV := n0; clear n0
  refine hK.out _ _ (IV.out.S) (fun hHeld => ?_)
  clear hK K
  refine norm_ (a' := ?_) ?_ ?_
  rotate_left
  · show Act.put _ (some 23) _ = _
    simp only [Act.put, List.setIfInBounds_toArray, List.set_cons_zero, List.set_cons_succ, i64_w, i32_w]
    rfl
  refine pure_ (i := 4) (N := some 7) (v := ?_) (a' := ?_) #[true, true, true, true, true, false] rfl rfl (any_of (md := .any) (ops := opsOf Try.f9 3) F9tab3 (by kernel_rfl)) (fun _ _ _ h => h) (Or.inl ⟨by rfl, ?_⟩) ?_ ?_
  rotate_left
  · intro w'
    go_simp
    with_reducible rfl
  rotate_left
  · simp only [Act.put, List.setIfInBounds_toArray, List.set_cons_zero, List.set_cons_succ, i64_w, i32_w]
    rfl
  refine pure_ (i := 5) (N := some 8) (v := ?_) (a' := ?_) #[true, true, true, true, true, true] rfl rfl (any_of (md := .any) (ops := opsOf Try.f9 3) F9tab3 (by kernel_rfl)) (fun _ _ _ h => h) (Or.inl ⟨by rfl, ?_⟩) ?_ ?_
  rotate_left
  · intro w'
    go_simp
    with_reducible rfl
  rotate_left
  · simp only [Act.put, List.setIfInBounds_toArray, List.set_cons_zero, List.set_cons_succ, i64_w, i32_w]
    rfl
  refine done_ (done_of (md := .any) (ops := opsOf Try.f9 3) F9tab3 (by kernel_rfl)) ?_
  clear hHeld
  have hga0 : w502.cell? ⟨ga, 0, none⟩ = some (.int .i64 x.f0) := (blk_cell IV.out.bx 0).trans rfl; have hga1 : w502.cell? ⟨ga, 1, none⟩ = some (.int .i64 x.f1) := (blk_cell IV.out.bx 1).trans rfl; have hga2 : w502.cell? ⟨ga, 2, none⟩ = some (.string x.f2) := (blk_cell IV.out.bx 2).trans rfl; have hga3 : w502.cell? ⟨ga, 3, none⟩ = some (.slice A x.f3.length c) := (blk_cell IV.out.bx 3).trans rfl; have hgb0 : w502.cell? ⟨gb, 0, none⟩ = some (.int .i64 y.f0) := (blk_cell IV.out.by_ 0).trans rfl; have hgb1 : w502.cell? ⟨gb, 1, none⟩ = some (.int .i64 y.f1) := (blk_cell IV.out.by_ 1).trans rfl; have hgb2 : w502.cell? ⟨gb, 2, none⟩ = some (.string y.f2) := (blk_cell IV.out.by_ 2).trans rfl; have hgb3 : w502.cell? ⟨gb, 3, none⟩ = some (.slice B y.f3.length d) := (blk_cell IV.out.by_ 3).trans rfl
  go_wp2_with (first | ((with_reducible refine gate_dst (N := 26) rfl ?_); refine lit_event ?hg (N := 26) ?hd (m := 2) (cs := #[.int .i64 x.f0, .int .i64 x.f1, .string x.f2, .slice A x.f3.length c, .int .i64 y.f0, .int .i64 y.f1, .string y.f2, .slice B y.f3.length d]) (t := 40) ?hr ?_; (case hd => rfl); (case hg => rfl); (case hr => first | (go_simp; done) | (go_simp; rfl)); intro gs hg w601 hbox hb; have DX := Aside0.mk (Dc_two 5 0 (⟨#[]⟩ : ByteArray) hbox (IV.out.dx.below hb) (IV.out.dy.below hb));  clear hbox hg; have n0 := Aside0.mk (IV.out.step hb); clear IV hb; have IV := n0; clear n0; clear hga0 hga1 hga2 hga3 hgb0 hgb1 hgb2 hgb3; have hga0 : w601.cell? ⟨ga, 0, none⟩ = some (.int .i64 x.f0) := (blk_cell IV.out.bx 0).trans rfl; have hga1 : w601.cell? ⟨ga, 1, none⟩ = some (.int .i64 x.f1) := (blk_cell IV.out.bx 1).trans rfl; have hga2 : w601.cell? ⟨ga, 2, none⟩ = some (.string x.f2) := (blk_cell IV.out.bx 2).trans rfl; have hga3 : w601.cell? ⟨ga, 3, none⟩ = some (.slice A x.f3.length c) := (blk_cell IV.out.bx 3).trans rfl; have hgb0 : w601.cell? ⟨gb, 0, none⟩ = some (.int .i64 y.f0) := (blk_cell IV.out.by_ 0).trans rfl; have hgb1 : w601.cell? ⟨gb, 1, none⟩ = some (.int .i64 y.f1) := (blk_cell IV.out.by_ 1).trans rfl; have hgb2 : w601.cell? ⟨gb, 2, none⟩ = some (.string y.f2) := (blk_cell IV.out.by_ 2).trans rfl; have hgb3 : w601.cell? ⟨gb, 3, none⟩ = some (.slice B y.f3.length d) := (blk_cell IV.out.by_ 3).trans rfl) | ((with_reducible refine gate_dst (N := 27) rfl ?_); refine goesL_ (some 27) rfl rfl Try.func37 (by kernel_rfl) rfl #[.slice (some ⟨gs, 0, none⟩) 2 2] rfl (by (try simp only [List.map_toArray, List.map_cons, List.map_nil]); first | done | rfl) ?_; (refine (mk37 (some ⟨gs, 0, none⟩) 2 2 _).mono ?_); (rintro e w602 ⟨rfl, hb⟩; refine ⟨_, rfl, ?_⟩; have m0 := Aside0.mk (DX.out.below hb); clear DX; have DX := m0; clear m0; have n0 := Aside0.mk (IV.out.step hb); clear IV hb; have IV := n0; clear n0; clear hga0 hga1 hga2 hga3 hgb0 hgb1 hgb2 hgb3; have hga0 : w602.cell? ⟨ga, 0, none⟩ = some (.int .i64 x.f0) := (blk_cell IV.out.bx 0).trans rfl; have hga1 : w602.cell? ⟨ga, 1, none⟩ = some (.int .i64 x.f1) := (blk_cell IV.out.bx 1).trans rfl; have hga2 : w602.cell? ⟨ga, 2, none⟩ = some (.string x.f2) := (blk_cell IV.out.bx 2).trans rfl; have hga3 : w602.cell? ⟨ga, 3, none⟩ = some (.slice A x.f3.length c) := (blk_cell IV.out.bx 3).trans rfl; have hgb0 : w602.cell? ⟨gb, 0, none⟩ = some (.int .i64 y.f0) := (blk_cell IV.out.by_ 0).trans rfl; have hgb1 : w602.cell? ⟨gb, 1, none⟩ = some (.int .i64 y.f1) := (blk_cell IV.out.by_ 1).trans rfl; have hgb2 : w602.cell? ⟨gb, 2, none⟩ = some (.string y.f2) := (blk_cell IV.out.by_ 2).trans rfl; have hgb3 : w602.cell? ⟨gb, 3, none⟩ = some (.slice B y.f3.length d) := (blk_cell IV.out.by_ 3).trans rfl)) | ((with_reducible refine gate_dst (N := 28) rfl ?_); refine goesL_ (some 28) rfl rfl Try.func31 (by kernel_rfl) rfl #[.agg #[.int .i64 5, .int .i64 0, .string (⟨#[]⟩ : ByteArray), .slice (some ⟨gs, 0, none⟩) 2 2]] rfl (by (try simp only [List.map_toArray, List.map_cons, List.map_nil]); first | done | rfl) ?_; (refine (frc_of ⟨5, 0, (⟨#[]⟩ : ByteArray), [x, y]⟩ (some ⟨gs, 0, none⟩) 2 true _ DX.out (fin_two 5 0 (⟨#[]⟩ : ByteArray) (by decide) FX.out FY.out) (by rw [frc_cat2, EX.out, EY.out]; rfl)).mono ?_); (rintro e w603 ⟨rfl, hb⟩; refine ⟨_, rfl, ?_⟩; clear DX; have n0 := Aside0.mk (IV.out.step hb); clear IV hb; have IV := n0; clear n0; clear hga0 hga1 hga2 hga3 hgb0 hgb1 hgb2 hgb3; have hga0 : w603.cell? ⟨ga, 0, none⟩ = some (.int .i64 x.f0) := (blk_cell IV.out.bx 0).trans rfl; have hga1 : w603.cell? ⟨ga, 1, none⟩ = some (.int .i64 x.f1) := (blk_cell IV.out.bx 1).trans rfl; have hga2 : w603.cell? ⟨ga, 2, none⟩ = some (.string x.f2) := (blk_cell IV.out.bx 2).trans rfl; have hga3 : w603.cell? ⟨ga, 3, none⟩ = some (.slice A x.f3.length c) := (blk_cell IV.out.bx 3).trans rfl; have hgb0 : w603.cell? ⟨gb, 0, none⟩ = some (.int .i64 y.f0) := (blk_cell IV.out.by_ 0).trans rfl; have hgb1 : w603.cell? ⟨gb, 1, none⟩ = some (.int .i64 y.f1) := (blk_cell IV.out.by_ 1).trans rfl; have hgb2 : w603.cell? ⟨gb, 2, none⟩ = some (.string y.f2) := (blk_cell IV.out.by_ 2).trans rfl; have hgb3 : w603.cell? ⟨gb, 3, none⟩ = some (.slice B y.f3.length d) := (blk_cell IV.out.by_ 3).trans rfl)) | ((with_reducible refine gate_dst (N := 36) rfl ?_); (refine gate_guard (by rfl) ?_; dsimp only); refine lit_event ?hg (N := 36) ?hd (m := 1) (cs := #[.int .i64 x.f0, .int .i64 x.f1, .string x.f2, .slice A x.f3.length c]) (t := 40) ?hr ?_; (case hd => rfl); (case hg => rfl); (case hr => first | (go_simp; done) | (go_simp; rfl)); intro gs hg w604 hbox hb; have DX := Aside0.mk (Dc_one 6 4 (⟨#[]⟩ : ByteArray) hbox (IV.out.dx.below hb));  clear hbox hg; have n0 := Aside0.mk (IV.out.step hb); clear IV hb; have IV := n0; clear n0; clear hga0 hga1 hga2 hga3 hgb0 hgb1 hgb2 hgb3; have hga0 : w604.cell? ⟨ga, 0, none⟩ = some (.int .i64 x.f0) := (blk_cell IV.out.bx 0).trans rfl; have hga1 : w604.cell? ⟨ga, 1, none⟩ = some (.int .i64 x.f1) := (blk_cell IV.out.bx 1).trans rfl; have hga2 : w604.cell? ⟨ga, 2, none⟩ = some (.string x.f2) := (blk_cell IV.out.bx 2).trans rfl; have hga3 : w604.cell? ⟨ga, 3, none⟩ = some (.slice A x.f3.length c) := (blk_cell IV.out.bx 3).trans rfl; have hgb0 : w604.cell? ⟨gb, 0, none⟩ = some (.int .i64 y.f0) := (blk_cell IV.out.by_ 0).trans rfl; have hgb1 : w604.cell? ⟨gb, 1, none⟩ = some (.int .i64 y.f1) := (blk_cell IV.out.by_ 1).trans rfl; have hgb2 : w604.cell? ⟨gb, 2, none⟩ = some (.string y.f2) := (blk_cell IV.out.by_ 2).trans rfl; have hgb3 : w604.cell? ⟨gb, 3, none⟩ = some (.slice B y.f3.length d) := (blk_cell IV.out.by_ 3).trans rfl) | ((with_reducible refine gate_dst (N := 37) rfl ?_); (refine gate_guard (by rfl) ?_; dsimp only); refine goesL_ (some 37) rfl rfl Try.func38 (by kernel_rfl) rfl #[.int .i64 4, .slice (some ⟨gs, 0, none⟩) 1 1] rfl (by (try simp only [List.map_toArray, List.map_cons, List.map_nil]); first | done | rfl) ?_; (refine (mk38 4 (some ⟨gs, 0, none⟩) 1 1 _).mono ?_); (rintro e w605 ⟨rfl, hb⟩; refine ⟨_, rfl, ?_⟩; have m0 := Aside0.mk (DX.out.below hb); clear DX; have DX := m0; clear m0; have n0 := Aside0.mk (IV.out.step hb); clear IV hb; have IV := n0; clear n0; clear hga0 hga1 hga2 hga3 hgb0 hgb1 hgb2 hgb3; have hga0 : w605.cell? ⟨ga, 0, none⟩ = some (.int .i64 x.f0) := (blk_cell IV.out.bx 0).trans rfl; have hga1 : w605.cell? ⟨ga, 1, none⟩ = some (.int .i64 x.f1) := (blk_cell IV.out.bx 1).trans rfl; have hga2 : w605.cell? ⟨ga, 2, none⟩ = some (.string x.f2) := (blk_cell IV.out.bx 2).trans rfl; have hga3 : w605.cell? ⟨ga, 3, none⟩ = some (.slice A x.f3.length c) := (blk_cell IV.out.bx 3).trans rfl; have hgb0 : w605.cell? ⟨gb, 0, none⟩ = some (.int .i64 y.f0) := (blk_cell IV.out.by_ 0).trans rfl; have hgb1 : w605.cell? ⟨gb, 1, none⟩ = some (.int .i64 y.f1) := (blk_cell IV.out.by_ 1).trans rfl; have hgb2 : w605.cell? ⟨gb, 2, none⟩ = some (.string y.f2) := (blk_cell IV.out.by_ 2).trans rfl; have hgb3 : w605.cell? ⟨gb, 3, none⟩ = some (.slice B y.f3.length d) := (blk_cell IV.out.by_ 3).trans rfl)) | ((with_reducible refine gate_dst (N := 38) rfl ?_); (refine gate_guard (by rfl) ?_; dsimp only); refine goesL_ (some 38) rfl rfl Try.func31 (by kernel_rfl) rfl #[.agg #[.int .i64 6, .int .i64 4, .string (⟨#[]⟩ : ByteArray), .slice (some ⟨gs, 0, none⟩) 1 1]] rfl (by (try simp only [List.map_toArray, List.map_cons, List.map_nil]); first | done | rfl) ?_; (refine (frc_of ⟨6, 4, (⟨#[]⟩ : ByteArray), [x]⟩ (some ⟨gs, 0, none⟩) 1 true _ DX.out (fin_one 6 4 (⟨#[]⟩ : ByteArray) (by decide) FX.out) (by rw [frc_nest1, EX.out])).mono ?_); (rintro e w606 ⟨rfl, hb⟩; refine ⟨_, rfl, ?_⟩; clear DX; have n0 := Aside0.mk (IV.out.step hb); clear IV hb; have IV := n0; clear n0; clear hga0 hga1 hga2 hga3 hgb0 hgb1 hgb2 hgb3; have hga0 : w606.cell? ⟨ga, 0, none⟩ = some (.int .i64 x.f0) := (blk_cell IV.out.bx 0).trans rfl; have hga1 : w606.cell? ⟨ga, 1, none⟩ = some (.int .i64 x.f1) := (blk_cell IV.out.bx 1).trans rfl; have hga2 : w606.cell? ⟨ga, 2, none⟩ = some (.string x.f2) := (blk_cell IV.out.bx 2).trans rfl; have hga3 : w606.cell? ⟨ga, 3, none⟩ = some (.slice A x.f3.length c) := (blk_cell IV.out.bx 3).trans rfl; have hgb0 : w606.cell? ⟨gb, 0, none⟩ = some (.int .i64 y.f0) := (blk_cell IV.out.by_ 0).trans rfl; have hgb1 : w606.cell? ⟨gb, 1, none⟩ = some (.int .i64 y.f1) := (blk_cell IV.out.by_ 1).trans rfl; have hgb2 : w606.cell? ⟨gb, 2, none⟩ = some (.string y.f2) := (blk_cell IV.out.by_ 2).trans rfl; have hgb3 : w606.cell? ⟨gb, 3, none⟩ = some (.slice B y.f3.length d) := (blk_cell IV.out.by_ 3).trans rfl)) | ((with_reducible refine gate_dst (N := 45) rfl ?_); (refine gate_guard (by rfl) ?_; dsimp only); refine lit_event ?hg (N := 45) ?hd (m := 2) (cs := #[.int .i64 x.f0, .int .i64 x.f1, .string x.f2, .slice A x.f3.length c, .int .i64 y.f0, .int .i64 y.f1, .string y.f2, .slice B y.f3.length d]) (t := 40) ?hr ?_; (case hd => rfl); (case hg => rfl); (case hr => first | (go_simp; done) | (go_simp; rfl)); intro gs hg w607 hbox hb; have DX := Aside0.mk (Dc_two 7 0 (⟨#[]⟩ : ByteArray) hbox (IV.out.dx.below hb) (IV.out.dy.below hb));  clear hbox hg; have n0 := Aside0.mk (IV.out.step hb); clear IV hb; have IV := n0; clear n0; clear hga0 hga1 hga2 hga3 hgb0 hgb1 hgb2 hgb3; have hga0 : w607.cell? ⟨ga, 0, none⟩ = some (.int .i64 x.f0) := (blk_cell IV.out.bx 0).trans rfl; have hga1 : w607.cell? ⟨ga, 1, none⟩ = some (.int .i64 x.f1) := (blk_cell IV.out.bx 1).trans rfl; have hga2 : w607.cell? ⟨ga, 2, none⟩ = some (.string x.f2) := (blk_cell IV.out.bx 2).trans rfl; have hga3 : w607.cell? ⟨ga, 3, none⟩ = some (.slice A x.f3.length c) := (blk_cell IV.out.bx 3).trans rfl; have hgb0 : w607.cell? ⟨gb, 0, none⟩ = some (.int .i64 y.f0) := (blk_cell IV.out.by_ 0).trans rfl; have hgb1 : w607.cell? ⟨gb, 1, none⟩ = some (.int .i64 y.f1) := (blk_cell IV.out.by_ 1).trans rfl; have hgb2 : w607.cell? ⟨gb, 2, none⟩ = some (.string y.f2) := (blk_cell IV.out.by_ 2).trans rfl; have hgb3 : w607.cell? ⟨gb, 3, none⟩ = some (.slice B y.f3.length d) := (blk_cell IV.out.by_ 3).trans rfl) | ((with_reducible refine gate_dst (N := 46) rfl ?_); (refine gate_guard (by rfl) ?_; dsimp only); refine goesL_ (some 46) rfl rfl Try.func39 (by kernel_rfl) rfl #[.slice (some ⟨gs, 0, none⟩) 2 2] rfl (by (try simp only [List.map_toArray, List.map_cons, List.map_nil]); first | done | rfl) ?_; (refine (mk39 (some ⟨gs, 0, none⟩) 2 2 _).mono ?_); (rintro e w608 ⟨rfl, hb⟩; refine ⟨_, rfl, ?_⟩; have m0 := Aside0.mk (DX.out.below hb); clear DX; have DX := m0; clear m0; have n0 := Aside0.mk (IV.out.step hb); clear IV hb; have IV := n0; clear n0; clear hga0 hga1 hga2 hga3 hgb0 hgb1 hgb2 hgb3; have hga0 : w608.cell? ⟨ga, 0, none⟩ = some (.int .i64 x.f0) := (blk_cell IV.out.bx 0).trans rfl; have hga1 : w608.cell? ⟨ga, 1, none⟩ = some (.int .i64 x.f1) := (blk_cell IV.out.bx 1).trans rfl; have hga2 : w608.cell? ⟨ga, 2, none⟩ = some (.string x.f2) := (blk_cell IV.out.bx 2).trans rfl; have hga3 : w608.cell? ⟨ga, 3, none⟩ = some (.slice A x.f3.length c) := (blk_cell IV.out.bx 3).trans rfl; have hgb0 : w608.cell? ⟨gb, 0, none⟩ = some (.int .i64 y.f0) := (blk_cell IV.out.by_ 0).trans rfl; have hgb1 : w608.cell? ⟨gb, 1, none⟩ = some (.int .i64 y.f1) := (blk_cell IV.out.by_ 1).trans rfl; have hgb2 : w608.cell? ⟨gb, 2, none⟩ = some (.string y.f2) := (blk_cell IV.out.by_ 2).trans rfl; have hgb3 : w608.cell? ⟨gb, 3, none⟩ = some (.slice B y.f3.length d) := (blk_cell IV.out.by_ 3).trans rfl)) | ((with_reducible refine gate_dst (N := 47) rfl ?_); (refine gate_guard (by rfl) ?_; dsimp only); refine goesL_ (some 47) rfl rfl Try.func31 (by kernel_rfl) rfl #[.agg #[.int .i64 7, .int .i64 0, .string (⟨#[]⟩ : ByteArray), .slice (some ⟨gs, 0, none⟩) 2 2]] rfl (by (try simp only [List.map_toArray, List.map_cons, List.map_nil]); first | done | rfl) ?_; (refine (frc_of ⟨7, 0, (⟨#[]⟩ : ByteArray), [x, y]⟩ (some ⟨gs, 0, none⟩) 2 true _ DX.out (fin_two 7 0 (⟨#[]⟩ : ByteArray) (by decide) FX.out FY.out) (by rw [frc_grp2, EX.out, EY.out]; rfl)).mono ?_); (rintro e w609 ⟨rfl, hb⟩; refine ⟨_, rfl, ?_⟩; clear DX; have n0 := Aside0.mk (IV.out.step hb); clear IV hb; have IV := n0; clear n0; clear hga0 hga1 hga2 hga3 hgb0 hgb1 hgb2 hgb3; have hga0 : w609.cell? ⟨ga, 0, none⟩ = some (.int .i64 x.f0) := (blk_cell IV.out.bx 0).trans rfl; have hga1 : w609.cell? ⟨ga, 1, none⟩ = some (.int .i64 x.f1) := (blk_cell IV.out.bx 1).trans rfl; have hga2 : w609.cell? ⟨ga, 2, none⟩ = some (.string x.f2) := (blk_cell IV.out.bx 2).trans rfl; have hga3 : w609.cell? ⟨ga, 3, none⟩ = some (.slice A x.f3.length c) := (blk_cell IV.out.bx 3).trans rfl; have hgb0 : w609.cell? ⟨gb, 0, none⟩ = some (.int .i64 y.f0) := (blk_cell IV.out.by_ 0).trans rfl; have hgb1 : w609.cell? ⟨gb, 1, none⟩ = some (.int .i64 y.f1) := (blk_cell IV.out.by_ 1).trans rfl; have hgb2 : w609.cell? ⟨gb, 2, none⟩ = some (.string y.f2) := (blk_cell IV.out.by_ 2).trans rfl; have hgb3 : w609.cell? ⟨gb, 3, none⟩ = some (.slice B y.f3.length d) := (blk_cell IV.out.by_ 3).trans rfl)) | ((with_reducible refine gate_dst (N := 56) rfl ?_); (refine gate_guard (by rfl) ?_; dsimp only); refine lit_event ?hg (N := 56) ?hd (m := 1) (cs := #[.int .i64 x.f0, .int .i64 x.f1, .string x.f2, .slice A x.f3.length c]) (t := 40) ?hr ?_; (case hd => rfl); (case hg => rfl); (case hr => first | (go_simp; done) | (go_simp; rfl)); intro gs hg w610 hbox hb; have DX := Aside0.mk (Dc_one 7 1 (⟨#[]⟩ : ByteArray) hbox (IV.out.dx.below hb));  clear hbox hg; have n0 := Aside0.mk (IV.out.step hb); clear IV hb; have IV := n0; clear n0; clear hga0 hga1 hga2 hga3 hgb0 hgb1 hgb2 hgb3; have hga0 : w610.cell? ⟨ga, 0, none⟩ = some (.int .i64 x.f0) := (blk_cell IV.out.bx 0).trans rfl; have hga1 : w610.cell? ⟨ga, 1, none⟩ = some (.int .i64 x.f1) := (blk_cell IV.out.bx 1).trans rfl; have hga2 : w610.cell? ⟨ga, 2, none⟩ = some (.string x.f2) := (blk_cell IV.out.bx 2).trans rfl; have hga3 : w610.cell? ⟨ga, 3, none⟩ = some (.slice A x.f3.length c) := (blk_cell IV.out.bx 3).trans rfl; have hgb0 : w610.cell? ⟨gb, 0, none⟩ = some (.int .i64 y.f0) := (blk_cell IV.out.by_ 0).trans rfl; have hgb1 : w610.cell? ⟨gb, 1, none⟩ = some (.int .i64 y.f1) := (blk_cell IV.out.by_ 1).trans rfl; have hgb2 : w610.cell? ⟨gb, 2, none⟩ = some (.string y.f2) := (blk_cell IV.out.by_ 2).trans rfl; have hgb3 : w610.cell? ⟨gb, 3, none⟩ = some (.slice B y.f3.length d) := (blk_cell IV.out.by_ 3).trans rfl) | ((with_reducible refine gate_dst (N := 57) rfl ?_); (refine gate_guard (by rfl) ?_; dsimp only); refine goesL_ (some 57) rfl rfl Try.func40 (by kernel_rfl) rfl #[.slice (some ⟨gs, 0, none⟩) 1 1] rfl (by (try simp only [List.map_toArray, List.map_cons, List.map_nil]); first | done | rfl) ?_; (refine (mk40 (some ⟨gs, 0, none⟩) 1 1 _).mono ?_); (rintro e w611 ⟨rfl, hb⟩; refine ⟨_, rfl, ?_⟩; have m0 := Aside0.mk (DX.out.below hb); clear DX; have DX := m0; clear m0; have n0 := Aside0.mk (IV.out.step hb); clear IV hb; have IV := n0; clear n0; clear hga0 hga1 hga2 hga3 hgb0 hgb1 hgb2 hgb3; have hga0 : w611.cell? ⟨ga, 0, none⟩ = some (.int .i64 x.f0) := (blk_cell IV.out.bx 0).trans rfl; have hga1 : w611.cell? ⟨ga, 1, none⟩ = some (.int .i64 x.f1) := (blk_cell IV.out.bx 1).trans rfl; have hga2 : w611.cell? ⟨ga, 2, none⟩ = some (.string x.f2) := (blk_cell IV.out.bx 2).trans rfl; have hga3 : w611.cell? ⟨ga, 3, none⟩ = some (.slice A x.f3.length c) := (blk_cell IV.out.bx 3).trans rfl; have hgb0 : w611.cell? ⟨gb, 0, none⟩ = some (.int .i64 y.f0) := (blk_cell IV.out.by_ 0).trans rfl; have hgb1 : w611.cell? ⟨gb, 1, none⟩ = some (.int .i64 y.f1) := (blk_cell IV.out.by_ 1).trans rfl; have hgb2 : w611.cell? ⟨gb, 2, none⟩ = some (.string y.f2) := (blk_cell IV.out.by_ 2).trans rfl; have hgb3 : w611.cell? ⟨gb, 3, none⟩ = some (.slice B y.f3.length d) := (blk_cell IV.out.by_ 3).trans rfl)) | ((with_reducible refine gate_dst (N := 58) rfl ?_); (refine gate_guard (by rfl) ?_; dsimp only); refine goesL_ (some 58) rfl rfl Try.func31 (by kernel_rfl) rfl #[.agg #[.int .i64 7, .int .i64 1, .string (⟨#[]⟩ : ByteArray), .slice (some ⟨gs, 0, none⟩) 1 1]] rfl (by (try simp only [List.map_toArray, List.map_cons, List.map_nil]); first | done | rfl) ?_; (refine (frc_of ⟨7, 1, (⟨#[]⟩ : ByteArray), [x]⟩ (some ⟨gs, 0, none⟩) 1 true _ DX.out (fin_one 7 1 (⟨#[]⟩ : ByteArray) (by decide) FX.out) frc_brk1).mono ?_); (rintro e w612 ⟨rfl, hb⟩; refine ⟨_, rfl, ?_⟩; clear DX; have n0 := Aside0.mk (IV.out.step hb); clear IV hb; have IV := n0; clear n0; clear hga0 hga1 hga2 hga3 hgb0 hgb1 hgb2 hgb3; have hga0 : w612.cell? ⟨ga, 0, none⟩ = some (.int .i64 x.f0) := (blk_cell IV.out.bx 0).trans rfl; have hga1 : w612.cell? ⟨ga, 1, none⟩ = some (.int .i64 x.f1) := (blk_cell IV.out.bx 1).trans rfl; have hga2 : w612.cell? ⟨ga, 2, none⟩ = some (.string x.f2) := (blk_cell IV.out.bx 2).trans rfl; have hga3 : w612.cell? ⟨ga, 3, none⟩ = some (.slice A x.f3.length c) := (blk_cell IV.out.bx 3).trans rfl; have hgb0 : w612.cell? ⟨gb, 0, none⟩ = some (.int .i64 y.f0) := (blk_cell IV.out.by_ 0).trans rfl; have hgb1 : w612.cell? ⟨gb, 1, none⟩ = some (.int .i64 y.f1) := (blk_cell IV.out.by_ 1).trans rfl; have hgb2 : w612.cell? ⟨gb, 2, none⟩ = some (.string y.f2) := (blk_cell IV.out.by_ 2).trans rfl; have hgb3 : w612.cell? ⟨gb, 3, none⟩ = some (.slice B y.f3.length d) := (blk_cell IV.out.by_ 3).trans rfl)) | ((with_reducible refine gate_dst (N := 9) rfl ?_); (try (refine gate_guard (by rfl) ?_; dsimp only)); refine box_event ?hg (N := 9) ?hd (cs := #[.int .i64 0, .int .i64 0, .string (⟨#[]⟩ : ByteArray), .slice none 0 0]) (t := 40) ?hr ?_; (case hd => rfl); (case hg => rfl); (case hr => first | (go_simp; done) | (go_simp; rfl)); intro g9 hg w700 hbox hb; have NA := Aside0.mk (show ga ≠ g9 from by rw [hg]; exact Nat.ne_of_lt (blk_lt IV.out.bx)); have NB := Aside0.mk (show gb ≠ g9 from by rw [hg]; exact Nat.ne_of_lt (blk_lt IV.out.by_)); have N9 := Aside0.mk (show w.heap.size ≤ g9 from by rw [hg]; exact IV.out.hb.size); have BZ := Aside0.mk hbox;  have hz0 : w700.cell? ⟨g9, 0, none⟩ = some (.int .i64 0) := (blk_cell BZ.out 0).trans rfl; have hz1 : w700.cell? ⟨g9, 1, none⟩ = some (.int .i64 0) := (blk_cell BZ.out 1).trans rfl; have hz2 : w700.cell? ⟨g9, 2, none⟩ = some (.string (⟨#[]⟩ : ByteArray)) := (blk_cell BZ.out 2).trans rfl; have hz3 : w700.cell? ⟨g9, 3, none⟩ = some (.slice none 0 0) := (blk_cell BZ.out 3).trans rfl; have yf0 := blk_frozen BZ.out 0; have yf1 := blk_frozen BZ.out 1; have yf2 := blk_frozen BZ.out 2; have yf3 := blk_frozen BZ.out 3; clear hbox hg; have n0 := Aside0.mk (IV.out.step hb); clear IV hb; have IV := n0; clear n0; clear hga0 hga1 hga2 hga3 hgb0 hgb1 hgb2 hgb3))
  have IG := Aside0.mk (show IvG w (((((w700).setCell ⟨g9, 0, none⟩ (.int .i64 4)).setCell ⟨g9, 1, none⟩ (.int .i64 0)).setCell ⟨g9, 2, none⟩ (.string (⟨#[]⟩ : ByteArray))).setCell ⟨g9, 3, none⟩ (.slice none 0 0)) ga gb x y A c B d g9 (dI 0) none 0 from ⟨(((IV.out.set NA.out NB.out N9.out 0 _).set NA.out NB.out N9.out 1 _).set NA.out NB.out N9.out 2 _).set NA.out NB.out N9.out 3 _, (by
    refine blk_put (cs := #[.int .i64 4, .int .i64 0, .string (⟨#[]⟩ : ByteArray), .slice none 0 0]) ?_ 3 _ rfl
    refine blk_put (cs := #[.int .i64 4, .int .i64 0, .string (⟨#[]⟩ : ByteArray), .slice none 0 0]) ?_ 2 _ rfl
    refine blk_put (cs := #[.int .i64 4, .int .i64 0, .string (⟨#[]⟩ : ByteArray), .slice none 0 0]) ?_ 1 _ rfl
    refine blk_put (cs := #[.int .i64 0, .int .i64 0, .string (⟨#[]⟩ : ByteArray), .slice none 0 0]) ?_ 0 _ rfl
    exact BZ.out), D9_zero _, NA.out, NB.out, N9.out⟩)
  clear IV BZ NA NB N9 hz0 hz1 hz2 hz3 yf0 yf1 yf2 yf3 hf hf2
  obtain ⟨m, hm31, hm⟩ := rem31_nat n
  go_loopg [10] m (fun k' v10 wr => ∃ (i : Nat) (Z : Option Addr) (e : Nat), v10 = .int .i64 i ∧ i ≤ m ∧ Aside0 (k' + i = m) ∧ Aside0 (IvG w wr ga gb x y A c B d g9 (dI i) Z e))
  case atStart => exact ⟨0, none, 0, rfl, Nat.zero_le _, ⟨rfl⟩, IG⟩
  case round =>
    clear IG
    obtain ⟨i, Z, e, rfl, hi, HK, IG⟩ := hrel
    by_cases hlt : i < m
    · go_wp2_with fail
      have IG2 := Aside0.mk (IG.out.step (below_drew1 (Below.refl _ _)))
      clear IG
      have IG := IG2
      clear IG2
      refine start_ (n := 5) (S := SZ g9 (dI i) Z e) (ds := [4]) #[false, false, false, false, false] (by kernel_rfl) rfl rfl (IG.out.S) (fun hHeld => ?_)
      generalize World.drew _ = w800 at IG hHeld ⊢
      refine take_ (i := 1) (N := some 71) (v := ?_) (a' := ?_) #[false, true, false, false, false] rfl rfl (take_of (md := .any) (ops := opsOf Try.f9 10) F9tab10 (by kernel_rfl)) (fun _ _ _ h => h) (Or.inl ⟨by rfl, ?_⟩) hHeld ?_ ?_
      rotate_left
      · rintro w' ⟨s0, s1, s2, s3⟩
        go_simp
        with_reducible rfl
      rotate_left
      · simp only [Act.put, List.setIfInBounds_toArray, List.set_cons_zero, List.set_cons_succ, i64_w, i32_w]
        rfl
      refine one_ (i := 0) (N := some 70) #[true, true, false, false, false] rfl rfl (one_of (md := .any) (ops := opsOf Try.f9 10) F9tab10 (by kernel_rfl)) (by decide) (fun K hK => ?_)
      refine goes_ Try.func36 (by kernel_rfl) rfl #[.string (⟨#[116]⟩ : ByteArray)] (by rfl) rfl rfl (by (try simp only [List.map_toArray, List.map_cons, List.map_nil]); first | done | rfl) ?_
      refine (mk36 (⟨#[116]⟩ : ByteArray) _).mono ?_
      rintro e w801 ⟨rfl, hb⟩
      refine ⟨_, rfl, ?_⟩
      have n0 := Aside0.mk (IG.out.step hb); clear IG hb; have IG := n0; clear n0
      refine hK.out _ _ (IG.out.S) (fun hHeld => ?_)
      clear hK K
      refine norm_ (a' := ?_) ?_ ?_
      rotate_left
      · show Act.put _ (some 70) _ = _
        simp only [Act.put, List.setIfInBounds_toArray, List.set_cons_zero, List.set_cons_succ, i64_w, i32_w]
        rfl
      refine one_ (i := 2) (N := some 72) #[true, true, true, false, false] rfl rfl (one_of (md := .any) (ops := opsOf Try.f9 10) F9tab10 (by kernel_rfl)) (by decide) (fun K hK => ?_)
      refine lit_step (m := 2) (cs := #[.int .i64 1, .int .i64 0, .string (⟨#[116]⟩ : ByteArray), .slice none 0 0, .int .i64 (dI i).f0, .int .i64 (dI i).f1, .string (dI i).f2, .slice Z (dI i).f3.length e]) (t := 40) (by rfl) ?hrun ?_
      case hrun => first | (go_simp; done) | (go_simp; rfl)
      intro gs hg w802 hbox hb
      have DZ := Aside0.mk (D9_dI i (by rw [hg]; exact Nat.ne_of_gt (blk_lt IG.out.bz)) hbox (IG.out.dz.step hb)); have n0 := Aside0.mk (IG.out.step hb); clear IG hb; have IG := n0; clear n0
      clear hbox hg
      refine hK.out _ _ (IG.out.S) (fun hHeld => ?_)
      clear hK K
      refine norm_ (a' := ?_) ?_ ?_
      rotate_left
      · show Act.put _ (some 72) _ = _
        simp only [Act.put, List.setIfInBounds_toArray, List.set_cons_zero, List.set_cons_succ, i64_w, i32_w]
        rfl
      refine one_ (i := 3) (N := some 73) #[true, true, true, true, false] rfl rfl (one_of (md := .any) (ops := opsOf Try.f9 10) F9tab10 (by kernel_rfl)) (by decide) (fun K hK => ?_)
      refine goes_ Try.func39 (by kernel_rfl) rfl #[.slice (some ⟨gs, 0, none⟩) 2 2] (by rfl) rfl rfl (by (try simp only [List.map_toArray, List.map_cons, List.map_nil]); first | done | rfl) ?_
      refine (mk39 (some ⟨gs, 0, none⟩) 2 2 _).mono ?_
      rintro e w803 ⟨rfl, hb⟩
      refine ⟨_, rfl, ?_⟩
      have m0 := Aside0.mk (DZ.out.step hb); clear DZ; have DZ := m0; clear m0; have n0 := Aside0.mk (IG.out.step hb); clear IG hb; have IG := n0; clear n0
      refine hK.out _ _ (IG.out.S) (fun hHeld => ?_)
      clear hK K
      refine norm_ (a' := ?_) ?_ ?_
      rotate_left
      · show Act.put _ (some 73) _ = _
        simp only [Act.put, List.setIfInBounds_toArray, List.set_cons_zero, List.set_cons_succ, i64_w, i32_w]
        rfl
      refine last_ (i := 4) (N := none) #[true, true, true, true, true] rfl rfl (one_of (md := .any) (ops := opsOf Try.f9 10) F9tab10 (by kernel_rfl)) (by decide) (fun K hK => ?_)
      obtain ⟨hz0, hz1, hz2, hz3⟩ := IG.out.S
      have yf0 := blk_frozen IG.out.bz 0
      have yf1 := blk_frozen IG.out.bz 1
      have yf2 := blk_frozen IG.out.bz 2
      have yf3 := blk_frozen IG.out.bz 3
      refine skip_ (w1 := ((((w803).setCell ⟨g9, 0, none⟩ (.int .i64 7)).setCell ⟨g9, 1, none⟩ (.int .i64 0)).setCell ⟨g9, 2, none⟩ (.string (⟨#[]⟩ : ByteArray))).setCell ⟨g9, 3, none⟩ (.slice (some ⟨gs, 0, none⟩) 2 2)) rfl rfl ?hrun ?_
      case hrun => first | (go_simp; done) | (go_simp; rfl)
      refine hK.out _ _ (done_ (done_of (md := .any) (ops := opsOf Try.f9 10) F9tab10 (by kernel_rfl)) ?_)
      have IH := Aside0.mk (show IvG w (((((w803).setCell ⟨g9, 0, none⟩ (.int .i64 7)).setCell ⟨g9, 1, none⟩ (.int .i64 0)).setCell ⟨g9, 2, none⟩ (.string (⟨#[]⟩ : ByteArray))).setCell ⟨g9, 3, none⟩ (.slice (some ⟨gs, 0, none⟩) 2 2)) ga gb x y A c B d g9 (dI (i + 1)) (some ⟨gs, 0, none⟩) 2 from ⟨(((IG.out.f.set IG.out.na IG.out.nb IG.out.n9 0 _).set IG.out.na IG.out.nb IG.out.n9 1 _).set IG.out.na IG.out.nb IG.out.n9 2 _).set IG.out.na IG.out.nb IG.out.n9 3 _, (by
        refine blk_put (cs := #[.int .i64 7, .int .i64 0, .string (⟨#[]⟩ : ByteArray), .slice Z (dI i).f3.length e]) ?_ 3 _ rfl
        refine blk_put (cs := #[.int .i64 7, .int .i64 0, .string (dI i).f2, .slice Z (dI i).f3.length e]) ?_ 2 _ rfl
        refine blk_put (cs := #[.int .i64 7, .int .i64 (dI i).f1, .string (dI i).f2, .slice Z (dI i).f3.length e]) ?_ 1 _ rfl
        refine blk_put (cs := #[.int .i64 (dI i).f0, .int .i64 (dI i).f1, .string (dI i).f2, .slice Z (dI i).f3.length e]) ?_ 0 _ rfl
        exact IG.out.bz), (((DZ.out.set 0 _).set 1 _).set 2 _).set 3 _, IG.out.na, IG.out.nb, IG.out.n9⟩)
      clear IG DZ hz0 hz1 hz2 hz3 yf0 yf1 yf2 yf3 hK hHeld
      have hi0 : 0 ≤ (i : Int) := by omega
      have hi1 : (i : Int) ≤ 31 := by omega
      go_wp2_with fail
      go_roundg (m - (i + 1))
      case measure => have := HK.out; omega
      case rel => exact ⟨i + 1, _, _, by simp, by omega, ⟨by have := HK.out; omega⟩, IH⟩
    · obtain rfl : i = m := by omega
      go_wp2_with fail
      have IG2 := Aside0.mk (IG.out.step (below_drew1 (Below.refl _ _)))
      clear IG
      have IG := IG2
      clear IG2
      refine start_ (n := 20) (S := SG ga gb x y A c B d g9 (dI i) Z e) (ds := []) #[false, false, false, false, false, false, false, false, false, false, false, false, false, false, false, false, false, false, false, false] (by kernel_rfl) rfl rfl (IG.out.SS) (fun hHeld => ?_)
      generalize World.drew _ = w900 at IG hHeld ⊢
      refine one_ (i := 0) (N := some 74) #[true, false, false, false, false, false, false, false, false, false, false, false, false, false, false, false, false, false, false, false] rfl rfl (one_of (md := .any) (ops := opsOf Try.f9 11) F9tab11 (by kernel_rfl)) (by decide) (fun K hK => ?_)
      refine goes_ Try.func28 (by kernel_rfl) rfl #[] (by rfl) rfl rfl (by (try simp only [List.map_toArray, List.map_cons, List.map_nil]); first | done | rfl) ?_
      refine (galleylaw15_told.calls true _ rfl).mono ?_
      rintro e w901 ⟨rfl, hb⟩
      refine ⟨_, rfl, ?_⟩
      have n0 := Aside0.mk (IG.out.step hb); clear IG hb; have IG := n0; clear n0
      refine hK.out _ _ (IG.out.SS) (fun hHeld => ?_)
      clear hK K
      refine norm_ (a' := ?_) ?_ ?_
      rotate_left
      · show Act.put _ (some 74) _ = _
        simp only [Act.put, List.setIfInBounds_toArray, List.set_cons_zero, List.set_cons_succ, i64_w, i32_w]
        rfl
      refine pure_ (i := 1) (N := some 75) (v := ?_) (a' := ?_) #[true, true, false, false, false, false, false, false, false, false, false, false, false, false, false, false, false, false, false, false] rfl rfl (any_of (md := .any) (ops := opsOf Try.f9 11) F9tab11 (by kernel_rfl)) (fun _ _ _ h => h) (Or.inl ⟨by rfl, ?_⟩) ?_ ?_
      rotate_left
      · intro w'
        go_simp
        with_reducible rfl
      rotate_left
      · simp only [Act.put, List.setIfInBounds_toArray, List.set_cons_zero, List.set_cons_succ, i64_w, i32_w]
        rfl
      refine take_ (i := 2) (N := some 76) (v := ?_) (a' := ?_) #[true, true, true, false, false, false, false, false, false, false, false, false, false, false, false, false, false, false, false, false] rfl rfl (take_of (md := .any) (ops := opsOf Try.f9 11) F9tab11 (by kernel_rfl)) (fun _ _ _ h => h) (Or.inl ⟨by rfl, ?_⟩) hHeld ?_ ?_
      rotate_left
      · rintro w' ⟨s0, s1, s2, s3, s4, s5, s6, s7, s8, s9, s10, s11⟩
        go_simp
        with_reducible rfl
      rotate_left
      · simp only [Act.put, List.setIfInBounds_toArray, List.set_cons_zero, List.set_cons_succ, i64_w, i32_w]
        rfl
      refine one_ (i := 3) (N := some 77) #[true, true, true, true, false, false, false, false, false, false, false, false, false, false, false, false, false, false, false, false] rfl rfl (one_of (md := .any) (ops := opsOf Try.f9 11) F9tab11 (by kernel_rfl)) (by decide) (fun K hK => ?_)
      refine goes_ Try.func31 (by kernel_rfl) rfl #[.agg #[.int .i64 (dI i).f0, .int .i64 (dI i).f1, .string (dI i).f2, .slice Z (dI i).f3.length e]] (by rfl) rfl rfl (by (try simp only [List.map_toArray, List.map_cons, List.map_nil]); first | done | rfl) ?_
      refine (frc_of (dI i) Z e true _ IG.out.dz.own (dI_fin i) (dI_frc i)).mono ?_
      rintro e w902 ⟨rfl, hb⟩
      refine ⟨_, rfl, ?_⟩
      have n0 := Aside0.mk (IG.out.step hb); clear IG hb; have IG := n0; clear n0
      refine hK.out _ _ (IG.out.SS) (fun hHeld => ?_)
      clear hK K
      refine norm_ (a' := ?_) ?_ ?_
      rotate_left
      · show Act.put _ (some 77) _ = _
        simp only [Act.put, List.setIfInBounds_toArray, List.set_cons_zero, List.set_cons_succ, i64_w, i32_w]
        rfl
      refine pure_ (i := 4) (N := some 78) (v := ?_) (a' := ?_) #[true, true, true, true, true, false, false, false, false, false, false, false, false, false, false, false, false, false, false, false] rfl rfl (any_of (md := .any) (ops := opsOf Try.f9 11) F9tab11 (by kernel_rfl)) (fun _ _ _ h => h) (Or.inl ⟨by rfl, ?_⟩) ?_ ?_
      rotate_left
      · intro w'
        go_simp
        with_reducible rfl
      rotate_left
      · simp only [Act.put, List.setIfInBounds_toArray, List.set_cons_zero, List.set_cons_succ, i64_w, i32_w]
        rfl
      refine pure_ (i := 5) (N := some 79) (v := ?_) (a' := ?_) #[true, true, true, true, true, true, false, false, false, false, false, false, false, false, false, false, false, false, false, false] rfl rfl (any_of (md := .any) (ops := opsOf Try.f9 11) F9tab11 (by kernel_rfl)) (fun _ _ _ h => h) (Or.inl ⟨by rfl, ?_⟩) ?_ ?_
      rotate_left
      · intro w'
        go_simp
        with_reducible rfl
      rotate_left
      · simp only [Act.put, List.setIfInBounds_toArray, List.set_cons_zero, List.set_cons_succ, i64_w, i32_w]
        rfl
      refine take_ (i := 6) (N := some 80) (v := ?_) (a' := ?_) #[true, true, true, true, true, true, true, false, false, false, false, false, false, false, false, false, false, false, false, false] rfl rfl (take_of (md := .any) (ops := opsOf Try.f9 11) F9tab11 (by kernel_rfl)) (fun _ _ _ h => h) (Or.inl ⟨by rfl, ?_⟩) hHeld ?_ ?_
      rotate_left
      · rintro w' ⟨s0, s1, s2, s3, s4, s5, s6, s7, s8, s9, s10, s11⟩
        go_simp
        with_reducible rfl
      rotate_left
      · simp only [Act.put, List.setIfInBounds_toArray, List.set_cons_zero, List.set_cons_succ, i64_w, i32_w]
        rfl
      refine take_ (i := 7) (N := some 81) (v := ?_) (a' := ?_) #[true, true, true, true, true, true, true, true, false, false, false, false, false, false, false, false, false, false, false, false] rfl rfl (take_of (md := .any) (ops := opsOf Try.f9 11) F9tab11 (by kernel_rfl)) (fun _ _ _ h => h) (Or.inl ⟨by rfl, ?_⟩) hHeld ?_ ?_
      rotate_left
      · rintro w' ⟨s0, s1, s2, s3, s4, s5, s6, s7, s8, s9, s10, s11⟩
        go_simp
        with_reducible rfl
      rotate_left
      · simp only [Act.put, List.setIfInBounds_toArray, List.set_cons_zero, List.set_cons_succ, i64_w, i32_w]
        rfl
      refine take_ (i := 11) (N := some 85) (v := ?_) (a' := ?_) #[true, true, true, true, true, true, true, true, false, false, false, true, false, false, false, false, false, false, false, false] rfl rfl (take_of (md := .any) (ops := opsOf Try.f9 11) F9tab11 (by kernel_rfl)) (fun _ _ _ h => h) (Or.inl ⟨by rfl, ?_⟩) hHeld ?_ ?_
      rotate_left
      · rintro w' ⟨s0, s1, s2, s3, s4, s5, s6, s7, s8, s9, s10, s11⟩
        go_simp
        with_reducible rfl
      rotate_left
      · simp only [Act.put, List.setIfInBounds_toArray, List.set_cons_zero, List.set_cons_succ, i64_w, i32_w]
        rfl
      refine take_ (i := 13) (N := some 87) (v := ?_) (a' := ?_) #[true, true, true, true, true, true, true, true, false, false, false, true, false, true, false, false, false, false, false, false] rfl rfl (take_of (md := .any) (ops := opsOf Try.f9 11) F9tab11 (by kernel_rfl)) (fun _ _ _ h => h) (Or.inl ⟨by rfl, ?_⟩) hHeld ?_ ?_
      rotate_left
      · rintro w' ⟨s0, s1, s2, s3, s4, s5, s6, s7, s8, s9, s10, s11⟩
        go_simp
        with_reducible rfl
      rotate_left
      · simp only [Act.put, List.setIfInBounds_toArray, List.set_cons_zero, List.set_cons_succ, i64_w, i32_w]
        rfl
      refine one_ (i := 8) (N := some 82) #[true, true, true, true, true, true, true, true, true, false, false, true, false, true, false, false, false, false, false, false] rfl rfl (one_of (md := .any) (ops := opsOf Try.f9 11) F9tab11 (by kernel_rfl)) (by decide) (fun K hK => ?_)
      refine lit_step (m := 2) (cs := #[.int .i64 x.f0, .int .i64 x.f1, .string x.f2, .slice A x.f3.length c, .int .i64 y.f0, .int .i64 y.f1, .string y.f2, .slice B y.f3.length d]) (t := 40) (by rfl) ?hrun ?_
      case hrun => first | (go_simp; done) | (go_simp; rfl)
      intro gs hg w903 hbox hb
      have DX := Aside0.mk (Dc_two 5 0 (⟨#[]⟩ : ByteArray) hbox (IG.out.f.dx.below hb) (IG.out.f.dy.below hb)); have n0 := Aside0.mk (IG.out.step hb); clear IG hb; have IG := n0; clear n0
      clear hbox hg
      refine hK.out _ _ (IG.out.SS) (fun hHeld => ?_)
      clear hK K
      refine norm_ (a' := ?_) ?_ ?_
      rotate_left
      · show Act.put _ (some 82) _ = _
        simp only [Act.put, List.setIfInBounds_toArray, List.set_cons_zero, List.set_cons_succ, i64_w, i32_w]
        rfl
      refine one_ (i := 9) (N := some 83) #[true, true, true, true, true, true, true, true, true, true, false, true, false, true, false, false, false, false, false, false] rfl rfl (one_of (md := .any) (ops := opsOf Try.f9 11) F9tab11 (by kernel_rfl)) (by decide) (fun K hK => ?_)
      refine goes_ Try.func37 (by kernel_rfl) rfl #[.slice (some ⟨gs, 0, none⟩) 2 2] (by rfl) rfl rfl (by (try simp only [List.map_toArray, List.map_cons, List.map_nil]); first | done | rfl) ?_
      refine (mk37 (some ⟨gs, 0, none⟩) 2 2 _).mono ?_
      rintro e w904 ⟨rfl, hb⟩
      refine ⟨_, rfl, ?_⟩
      have m0 := Aside0.mk (DX.out.below hb); clear DX; have DX := m0; clear m0; have n0 := Aside0.mk (IG.out.step hb); clear IG hb; have IG := n0; clear n0
      refine hK.out _ _ (IG.out.SS) (fun hHeld => ?_)
      clear hK K
      refine norm_ (a' := ?_) ?_ ?_
      rotate_left
      · show Act.put _ (some 83) _ = _
        simp only [Act.put, List.setIfInBounds_toArray, List.set_cons_zero, List.set_cons_succ, i64_w, i32_w]
        rfl
      refine one_ (i := 10) (N := some 84) #[true, true, true, true, true, true, true, true, true, true, true, true, false, true, false, false, false, false, false, false] rfl rfl (one_of (md := .any) (ops := opsOf Try.f9 11) F9tab11 (by kernel_rfl)) (by decide) (fun K hK => ?_)
      refine goes_ Try.func33 (by kernel_rfl) rfl #[.agg #[.int .i64 5, .int .i64 0, .string (⟨#[]⟩ : ByteArray), .slice (some ⟨gs, 0, none⟩) 2 2]] (by rfl) rfl rfl (by (try simp only [List.map_toArray, List.map_cons, List.map_nil]); first | done | rfl) ?_
      refine (cnt_of ⟨5, 0, (⟨#[]⟩ : ByteArray), [x, y]⟩ (some ⟨gs, 0, none⟩) 2 ((1 + (cnt x + cnt y) : Nat) : Int) _ DX.out (fin_two 5 0 (⟨#[]⟩ : ByteArray) (by decide) FX.out FY.out) (by rw [cnt_cat2]; exact wrap_small _ (by have := CX.out; have := CY.out; omega))).mono ?_
      rintro e w905 ⟨rfl, hb⟩
      refine ⟨_, rfl, ?_⟩
      clear DX; have n0 := Aside0.mk (IG.out.step hb); clear IG hb; have IG := n0; clear n0
      refine hK.out _ _ (IG.out.SS) (fun hHeld => ?_)
      clear hK K
      refine norm_ (a' := ?_) ?_ ?_
      rotate_left
      · show Act.put _ (some 84) _ = _
        simp only [Act.put, List.setIfInBounds_toArray, List.set_cons_zero, List.set_cons_succ, i64_w, i32_w]
        rfl
      refine one_ (i := 12) (N := some 86) #[true, true, true, true, true, true, true, true, true, true, true, true, true, true, false, false, false, false, false, false] rfl rfl (one_of (md := .any) (ops := opsOf Try.f9 11) F9tab11 (by kernel_rfl)) (by decide) (fun K hK => ?_)
      refine goes_ Try.func33 (by kernel_rfl) rfl #[.agg #[.int .i64 x.f0, .int .i64 x.f1, .string x.f2, .slice A x.f3.length c]] (by rfl) rfl rfl (by (try simp only [List.map_toArray, List.map_cons, List.map_nil]); first | done | rfl) ?_
      refine (cnt_of x A c ((cnt x : Nat) : Int) _ IG.out.f.dx FX.out (wrap_small _ (by have := CX.out; omega))).mono ?_
      rintro e w906 ⟨rfl, hb⟩
      refine ⟨_, rfl, ?_⟩
      have n0 := Aside0.mk (IG.out.step hb); clear IG hb; have IG := n0; clear n0
      refine hK.out _ _ (IG.out.SS) (fun hHeld => ?_)
      clear hK K
      refine norm_ (a' := ?_) ?_ ?_
      rotate_left
      · show Act.put _ (some 86) _ = _
        simp only [Act.put, List.setIfInBounds_toArray, List.set_cons_zero, List.set_cons_succ, i64_w, i32_w]
        rfl
      refine one_ (i := 14) (N := some 88) #[true, true, true, true, true, true, true, true, true, true, true, true, true, true, true, false, false, false, false, false] rfl rfl (one_of (md := .any) (ops := opsOf Try.f9 11) F9tab11 (by kernel_rfl)) (by decide) (fun K hK => ?_)
      refine goes_ Try.func33 (by kernel_rfl) rfl #[.agg #[.int .i64 y.f0, .int .i64 y.f1, .string y.f2, .slice B y.f3.length d]] (by rfl) rfl rfl (by (try simp only [List.map_toArray, List.map_cons, List.map_nil]); first | done | rfl) ?_
      refine (cnt_of y B d ((cnt y : Nat) : Int) _ IG.out.f.dy FY.out (wrap_small _ (by have := CY.out; omega))).mono ?_
      rintro e w907 ⟨rfl, hb⟩
      refine ⟨_, rfl, ?_⟩
      have n0 := Aside0.mk (IG.out.step hb); clear IG hb; have IG := n0; clear n0
      refine hK.out _ _ (IG.out.SS) (fun hHeld => ?_)
      clear hK K
      refine norm_ (a' := ?_) ?_ ?_
      rotate_left
      · show Act.put _ (some 88) _ = _
        simp only [Act.put, List.setIfInBounds_toArray, List.set_cons_zero, List.set_cons_succ, i64_w, i32_w]
        rfl
      refine pure_ (i := 15) (N := some 89) (v := ?_) (a' := ?_) #[true, true, true, true, true, true, true, true, true, true, true, true, true, true, true, true, false, false, false, false] rfl rfl (any_of (md := .any) (ops := opsOf Try.f9 11) F9tab11 (by kernel_rfl)) (fun _ _ _ h => h) (Or.inl ⟨by rfl, ?_⟩) ?_ ?_
      rotate_left
      · intro w'
        go_simp
        with_reducible rfl
      rotate_left
      · simp only [Act.put, List.setIfInBounds_toArray, List.set_cons_zero, List.set_cons_succ, i64_w, i32_w]
        rfl
      refine pure_ (i := 16) (N := some 90) (v := ?_) (a' := ?_) #[true, true, true, true, true, true, true, true, true, true, true, true, true, true, true, true, true, false, false, false] rfl rfl (any_of (md := .any) (ops := opsOf Try.f9 11) F9tab11 (by kernel_rfl)) (fun _ _ _ h => h) (Or.inl ⟨by rfl, ?_⟩) ?_ ?_
      rotate_left
      · intro w'
        go_simp
        with_reducible rfl
      rotate_left
      · simp only [Act.put, List.setIfInBounds_toArray, List.set_cons_zero, List.set_cons_succ, i64_w, i32_w]
        rfl
      refine pure_ (i := 17) (N := some 91) (v := ?_) (a' := ?_) #[true, true, true, true, true, true, true, true, true, true, true, true, true, true, true, true, true, true, false, false] rfl rfl (any_of (md := .any) (ops := opsOf Try.f9 11) F9tab11 (by kernel_rfl)) (fun _ _ _ h => h) (Or.inl ⟨by rfl, ?_⟩) ?_ ?_
      rotate_left
      · intro w'
        go_simp
        with_reducible rfl
      rotate_left
      · simp only [Act.put, List.setIfInBounds_toArray, List.set_cons_zero, List.set_cons_succ, i64_w, i32_w]
        rfl
      refine pure_ (i := 18) (N := some 92) (v := ?_) (a' := ?_) #[true, true, true, true, true, true, true, true, true, true, true, true, true, true, true, true, true, true, true, false] rfl rfl (any_of (md := .any) (ops := opsOf Try.f9 11) F9tab11 (by kernel_rfl)) (fun _ _ _ h => h) (Or.inl ⟨by rfl, ?_⟩) ?_ ?_
      rotate_left
      · intro w'
        go_simp
        with_reducible rfl
      rotate_left
      · simp only [Act.put, List.setIfInBounds_toArray, List.set_cons_zero, List.set_cons_succ, i64_w, i32_w]
        rfl
      refine pure_ (i := 19) (N := some 6) (v := ?_) (a' := ?_) #[true, true, true, true, true, true, true, true, true, true, true, true, true, true, true, true, true, true, true, true] rfl rfl (any_of (md := .any) (ops := opsOf Try.f9 11) F9tab11 (by kernel_rfl)) (fun _ _ _ h => h) (Or.inl ⟨by rfl, ?_⟩) ?_ ?_
      rotate_left
      · intro w'
        go_simp
        with_reducible rfl
      rotate_left
      · simp only [Act.put, List.setIfInBounds_toArray, List.set_cons_zero, List.set_cons_succ, i64_w, i32_w]
        rfl
      refine done_ (done_of (md := .any) (ops := opsOf Try.f9 11) F9tab11 (by kernel_rfl)) ?_
      go_wp2_with fail
      go_ret
      have e : ((1 + ((cnt x : Int) + (cnt y : Int)) : Int) == wrap64 (wrap64 ((cnt x : Int) + (cnt y : Int)) + 1)) = true := by
        have := CX.out
        have := CY.out
        rw [beq_iff_eq]
        unfold wrap64
        omega
      exact ⟨by show Ending.returned (.bool _) = _; rw [e], IG.out.f.hb⟩
set_option maxHeartbeats 8000000 in
theorem forces_main_true_true (x : S40) (A : Option Addr) (c : Nat) (y : S40) (B : Option Addr) (d : Nat) (n : Int) (w : World) (hx : Dc w x A c) (hy : Dc w y B d) (hf : decide (fewD x 60 ≤ 500) = true) (hf2 : decide (fewD y 60 ≤ 500) = true) (fx : finD x) (fy : finD y) (ex : frcB x = true) (ey : frcB y = true) (cx : cnt x ≤ 500) (cy : cnt y ≤ 500) : Calls Try.prog 9 #[.agg #[.int .i64 x.f0, .int .i64 x.f1, .string x.f2, .slice A x.f3.length c], .agg #[.int .i64 y.f0, .int .i64 y.f1, .string y.f2, .slice B y.f3.length d], .int .i64 n] w fun e w' => e = .returned (.bool true) ∧ Below w.heap.size w w' := by
  have hu40 := Try.underlying40
  have HX := Aside0.mk hx
  have HY := Aside0.mk hy
  clear hx hy
  have FX := Aside0.mk fx
  have FY := Aside0.mk fy
  have EX := Aside0.mk ex
  have EY := Aside0.mk ey
  have CX := Aside0.mk cx
  have CY := Aside0.mk cy
  clear fx fy ex ey cx cy
  go_enter Try.func9, Try.ntmps9
  go_wp2_with (first | ((with_reducible refine gate_dst (N := 3) rfl ?_); (try (refine gate_guard (by rfl) ?_; dsimp only)); refine box_event ?hg (N := 3) ?hd (cs := #[.int .i64 x.f0, .int .i64 x.f1, .string x.f2, .slice A x.f3.length c]) (t := 40) ?hr ?_; (case hd => rfl); (case hg => rfl); (case hr => first | (go_simp; done) | (go_simp; rfl)); intro ga hg w1 hbox hb; have HBa := Aside0.mk hb; have BXA := Aside0.mk hbox; clear hb hg hbox) | ((with_reducible refine gate_dst (N := 4) rfl ?_); (try (refine gate_guard (by rfl) ?_; dsimp only)); refine box_event ?hg (N := 4) ?hd (cs := #[.int .i64 y.f0, .int .i64 y.f1, .string y.f2, .slice B y.f3.length d]) (t := 40) ?hr ?_; (case hd => rfl); (case hg => rfl); (case hr => first | (go_simp; done) | (go_simp; rfl)); intro gb hg w2 hbox hb; have IV := Aside0.mk (IvF.mk (below_step HBa.out hb) (blk_below BXA.out hb) hbox HX.out HY.out); clear HBa BXA hb hg hbox; have hga0 : w2.cell? ⟨ga, 0, none⟩ = some (.int .i64 x.f0) := (blk_cell IV.out.bx 0).trans rfl; have hga1 : w2.cell? ⟨ga, 1, none⟩ = some (.int .i64 x.f1) := (blk_cell IV.out.bx 1).trans rfl; have hga2 : w2.cell? ⟨ga, 2, none⟩ = some (.string x.f2) := (blk_cell IV.out.bx 2).trans rfl; have hga3 : w2.cell? ⟨ga, 3, none⟩ = some (.slice A x.f3.length c) := (blk_cell IV.out.bx 3).trans rfl; have hgb0 : w2.cell? ⟨gb, 0, none⟩ = some (.int .i64 y.f0) := (blk_cell IV.out.by_ 0).trans rfl; have hgb1 : w2.cell? ⟨gb, 1, none⟩ = some (.int .i64 y.f1) := (blk_cell IV.out.by_ 1).trans rfl; have hgb2 : w2.cell? ⟨gb, 2, none⟩ = some (.string y.f2) := (blk_cell IV.out.by_ 2).trans rfl; have hgb3 : w2.cell? ⟨gb, 3, none⟩ = some (.slice B y.f3.length d) := (blk_cell IV.out.by_ 3).trans rfl) | ((with_reducible refine gate_dst (N := 12) rfl ?_); refine goesL_ (some 12) rfl rfl Try.func27 (by kernel_rfl) rfl #[.agg #[.int .i64 x.f0, .int .i64 x.f1, .string x.f2, .slice A x.f3.length c]] rfl (by (try simp only [List.map_toArray, List.map_cons, List.map_nil]); first | done | rfl) ?_; (refine (few_of x A c true _ IV.out.dx hf).mono ?_); (rintro e w101 ⟨rfl, hb⟩; refine ⟨_, rfl, ?_⟩; have n0 := Aside0.mk (IV.out.step hb); clear IV hb; have IV := n0; clear n0; clear hga0 hga1 hga2 hga3 hgb0 hgb1 hgb2 hgb3; have hga0 : w101.cell? ⟨ga, 0, none⟩ = some (.int .i64 x.f0) := (blk_cell IV.out.bx 0).trans rfl; have hga1 : w101.cell? ⟨ga, 1, none⟩ = some (.int .i64 x.f1) := (blk_cell IV.out.bx 1).trans rfl; have hga2 : w101.cell? ⟨ga, 2, none⟩ = some (.string x.f2) := (blk_cell IV.out.bx 2).trans rfl; have hga3 : w101.cell? ⟨ga, 3, none⟩ = some (.slice A x.f3.length c) := (blk_cell IV.out.bx 3).trans rfl; have hgb0 : w101.cell? ⟨gb, 0, none⟩ = some (.int .i64 y.f0) := (blk_cell IV.out.by_ 0).trans rfl; have hgb1 : w101.cell? ⟨gb, 1, none⟩ = some (.int .i64 y.f1) := (blk_cell IV.out.by_ 1).trans rfl; have hgb2 : w101.cell? ⟨gb, 2, none⟩ = some (.string y.f2) := (blk_cell IV.out.by_ 2).trans rfl; have hgb3 : w101.cell? ⟨gb, 3, none⟩ = some (.slice B y.f3.length d) := (blk_cell IV.out.by_ 3).trans rfl)) | ((with_reducible refine gate_dst (N := 16) rfl ?_); (refine gate_guard (by rfl) ?_; dsimp only); refine goesL_ (some 16) rfl rfl Try.func27 (by kernel_rfl) rfl #[.agg #[.int .i64 y.f0, .int .i64 y.f1, .string y.f2, .slice B y.f3.length d]] rfl (by (try simp only [List.map_toArray, List.map_cons, List.map_nil]); first | done | rfl) ?_; (refine (few_of y B d true _ IV.out.dy hf2).mono ?_); (rintro e w102 ⟨rfl, hb⟩; refine ⟨_, rfl, ?_⟩; have n0 := Aside0.mk (IV.out.step hb); clear IV hb; have IV := n0; clear n0; clear hga0 hga1 hga2 hga3 hgb0 hgb1 hgb2 hgb3; have hga0 : w102.cell? ⟨ga, 0, none⟩ = some (.int .i64 x.f0) := (blk_cell IV.out.bx 0).trans rfl; have hga1 : w102.cell? ⟨ga, 1, none⟩ = some (.int .i64 x.f1) := (blk_cell IV.out.bx 1).trans rfl; have hga2 : w102.cell? ⟨ga, 2, none⟩ = some (.string x.f2) := (blk_cell IV.out.bx 2).trans rfl; have hga3 : w102.cell? ⟨ga, 3, none⟩ = some (.slice A x.f3.length c) := (blk_cell IV.out.bx 3).trans rfl; have hgb0 : w102.cell? ⟨gb, 0, none⟩ = some (.int .i64 y.f0) := (blk_cell IV.out.by_ 0).trans rfl; have hgb1 : w102.cell? ⟨gb, 1, none⟩ = some (.int .i64 y.f1) := (blk_cell IV.out.by_ 1).trans rfl; have hgb2 : w102.cell? ⟨gb, 2, none⟩ = some (.string y.f2) := (blk_cell IV.out.by_ 2).trans rfl; have hgb3 : w102.cell? ⟨gb, 3, none⟩ = some (.slice B y.f3.length d) := (blk_cell IV.out.by_ 3).trans rfl)))
  have IV3 := Aside0.mk (IV.out.step (below_drew1 (Below.refl _ _)))
  clear hga0 hga1 hga2 hga3 hgb0 hgb1 hgb2 hgb3
  clear IV
  have IV := IV3
  clear IV3
  refine start_ (n := 6) (S := SF ga gb x y A c B d) (ds := []) #[false, false, false, false, false, false] (by kernel_rfl) rfl rfl (IV.out.S) (fun hHeld => ?_)
  generalize World.drew _ = w200 at IV hHeld ⊢
  refine take_ (i := 0) (N := some 20) (v := ?_) (a' := ?_) #[true, false, false, false, false, false] rfl rfl (take_of (md := .any) (ops := opsOf Try.f9 3) F9tab3 (by kernel_rfl)) (fun _ _ _ h => h) (Or.inl ⟨by rfl, ?_⟩) hHeld ?_ ?_
  rotate_left
  · rintro w' ⟨s0, s1, s2, s3, s4, s5, s6, s7⟩
    go_simp
    with_reducible rfl
  rotate_left
  · simp only [Act.put, List.setIfInBounds_toArray, List.set_cons_zero, List.set_cons_succ, i64_w, i32_w]
    rfl
  refine take_ (i := 2) (N := some 22) (v := ?_) (a' := ?_) #[true, false, true, false, false, false] rfl rfl (take_of (md := .any) (ops := opsOf Try.f9 3) F9tab3 (by kernel_rfl)) (fun _ _ _ h => h) (Or.inl ⟨by rfl, ?_⟩) hHeld ?_ ?_
  rotate_left
  · rintro w' ⟨s0, s1, s2, s3, s4, s5, s6, s7⟩
    go_simp
    with_reducible rfl
  rotate_left
  · simp only [Act.put, List.setIfInBounds_toArray, List.set_cons_zero, List.set_cons_succ, i64_w, i32_w]
    rfl
  refine one_ (i := 1) (N := some 21) #[true, true, true, false, false, false] rfl rfl (one_of (md := .any) (ops := opsOf Try.f9 3) F9tab3 (by kernel_rfl)) (by decide) (fun K hK => ?_)
  refine goes_ Try.func31 (by kernel_rfl) rfl #[.agg #[.int .i64 x.f0, .int .i64 x.f1, .string x.f2, .slice A x.f3.length c]] (by rfl) rfl rfl (by (try simp only [List.map_toArray, List.map_cons, List.map_nil]); first | done | rfl) ?_
  refine (frc_of x A c true _ IV.out.dx FX.out EX.out).mono ?_
  rintro e w501 ⟨rfl, hb⟩
  refine ⟨_, rfl, ?_⟩
  have n0 := Aside0.mk (IV.out.step hb); clear IV hb; have IV := n0; clear n0
  refine hK.out _ _ (IV.out.S) (fun hHeld => ?_)
  clear hK K
  refine norm_ (a' := ?_) ?_ ?_
  rotate_left
  · show Act.put _ (some 21) _ = _
    simp only [Act.put, List.setIfInBounds_toArray, List.set_cons_zero, List.set_cons_succ, i64_w, i32_w]
    rfl
  refine one_ (i := 3) (N := some 23) #[true, true, true, true, false, false] rfl rfl (one_of (md := .any) (ops := opsOf Try.f9 3) F9tab3 (by kernel_rfl)) (by decide) (fun K hK => ?_)
  refine goes_ Try.func31 (by kernel_rfl) rfl #[.agg #[.int .i64 y.f0, .int .i64 y.f1, .string y.f2, .slice B y.f3.length d]] (by rfl) rfl rfl (by (try simp only [List.map_toArray, List.map_cons, List.map_nil]); first | done | rfl) ?_
  refine (frc_of y B d true _ IV.out.dy FY.out EY.out).mono ?_
  rintro e w502 ⟨rfl, hb⟩
  refine ⟨_, rfl, ?_⟩
  have n0 := Aside0.mk (IV.out.step hb); clear IV hb; have IV := n0; clear n0
  refine hK.out _ _ (IV.out.S) (fun hHeld => ?_)
  clear hK K
  refine norm_ (a' := ?_) ?_ ?_
  rotate_left
  · show Act.put _ (some 23) _ = _
    simp only [Act.put, List.setIfInBounds_toArray, List.set_cons_zero, List.set_cons_succ, i64_w, i32_w]
    rfl
  refine pure_ (i := 4) (N := some 7) (v := ?_) (a' := ?_) #[true, true, true, true, true, false] rfl rfl (any_of (md := .any) (ops := opsOf Try.f9 3) F9tab3 (by kernel_rfl)) (fun _ _ _ h => h) (Or.inl ⟨by rfl, ?_⟩) ?_ ?_
  rotate_left
  · intro w'
    go_simp
    with_reducible rfl
  rotate_left
  · simp only [Act.put, List.setIfInBounds_toArray, List.set_cons_zero, List.set_cons_succ, i64_w, i32_w]
    rfl
  refine pure_ (i := 5) (N := some 8) (v := ?_) (a' := ?_) #[true, true, true, true, true, true] rfl rfl (any_of (md := .any) (ops := opsOf Try.f9 3) F9tab3 (by kernel_rfl)) (fun _ _ _ h => h) (Or.inl ⟨by rfl, ?_⟩) ?_ ?_
  rotate_left
  · intro w'
    go_simp
    with_reducible rfl
  rotate_left
  · simp only [Act.put, List.setIfInBounds_toArray, List.set_cons_zero, List.set_cons_succ, i64_w, i32_w]
    rfl
  refine done_ (done_of (md := .any) (ops := opsOf Try.f9 3) F9tab3 (by kernel_rfl)) ?_
  clear hHeld
  have hga0 : w502.cell? ⟨ga, 0, none⟩ = some (.int .i64 x.f0) := (blk_cell IV.out.bx 0).trans rfl; have hga1 : w502.cell? ⟨ga, 1, none⟩ = some (.int .i64 x.f1) := (blk_cell IV.out.bx 1).trans rfl; have hga2 : w502.cell? ⟨ga, 2, none⟩ = some (.string x.f2) := (blk_cell IV.out.bx 2).trans rfl; have hga3 : w502.cell? ⟨ga, 3, none⟩ = some (.slice A x.f3.length c) := (blk_cell IV.out.bx 3).trans rfl; have hgb0 : w502.cell? ⟨gb, 0, none⟩ = some (.int .i64 y.f0) := (blk_cell IV.out.by_ 0).trans rfl; have hgb1 : w502.cell? ⟨gb, 1, none⟩ = some (.int .i64 y.f1) := (blk_cell IV.out.by_ 1).trans rfl; have hgb2 : w502.cell? ⟨gb, 2, none⟩ = some (.string y.f2) := (blk_cell IV.out.by_ 2).trans rfl; have hgb3 : w502.cell? ⟨gb, 3, none⟩ = some (.slice B y.f3.length d) := (blk_cell IV.out.by_ 3).trans rfl
  go_wp2_with (first | ((with_reducible refine gate_dst (N := 26) rfl ?_); refine lit_event ?hg (N := 26) ?hd (m := 2) (cs := #[.int .i64 x.f0, .int .i64 x.f1, .string x.f2, .slice A x.f3.length c, .int .i64 y.f0, .int .i64 y.f1, .string y.f2, .slice B y.f3.length d]) (t := 40) ?hr ?_; (case hd => rfl); (case hg => rfl); (case hr => first | (go_simp; done) | (go_simp; rfl)); intro gs hg w601 hbox hb; have DX := Aside0.mk (Dc_two 5 0 (⟨#[]⟩ : ByteArray) hbox (IV.out.dx.below hb) (IV.out.dy.below hb));  clear hbox hg; have n0 := Aside0.mk (IV.out.step hb); clear IV hb; have IV := n0; clear n0; clear hga0 hga1 hga2 hga3 hgb0 hgb1 hgb2 hgb3; have hga0 : w601.cell? ⟨ga, 0, none⟩ = some (.int .i64 x.f0) := (blk_cell IV.out.bx 0).trans rfl; have hga1 : w601.cell? ⟨ga, 1, none⟩ = some (.int .i64 x.f1) := (blk_cell IV.out.bx 1).trans rfl; have hga2 : w601.cell? ⟨ga, 2, none⟩ = some (.string x.f2) := (blk_cell IV.out.bx 2).trans rfl; have hga3 : w601.cell? ⟨ga, 3, none⟩ = some (.slice A x.f3.length c) := (blk_cell IV.out.bx 3).trans rfl; have hgb0 : w601.cell? ⟨gb, 0, none⟩ = some (.int .i64 y.f0) := (blk_cell IV.out.by_ 0).trans rfl; have hgb1 : w601.cell? ⟨gb, 1, none⟩ = some (.int .i64 y.f1) := (blk_cell IV.out.by_ 1).trans rfl; have hgb2 : w601.cell? ⟨gb, 2, none⟩ = some (.string y.f2) := (blk_cell IV.out.by_ 2).trans rfl; have hgb3 : w601.cell? ⟨gb, 3, none⟩ = some (.slice B y.f3.length d) := (blk_cell IV.out.by_ 3).trans rfl) | ((with_reducible refine gate_dst (N := 27) rfl ?_); refine goesL_ (some 27) rfl rfl Try.func37 (by kernel_rfl) rfl #[.slice (some ⟨gs, 0, none⟩) 2 2] rfl (by (try simp only [List.map_toArray, List.map_cons, List.map_nil]); first | done | rfl) ?_; (refine (mk37 (some ⟨gs, 0, none⟩) 2 2 _).mono ?_); (rintro e w602 ⟨rfl, hb⟩; refine ⟨_, rfl, ?_⟩; have m0 := Aside0.mk (DX.out.below hb); clear DX; have DX := m0; clear m0; have n0 := Aside0.mk (IV.out.step hb); clear IV hb; have IV := n0; clear n0; clear hga0 hga1 hga2 hga3 hgb0 hgb1 hgb2 hgb3; have hga0 : w602.cell? ⟨ga, 0, none⟩ = some (.int .i64 x.f0) := (blk_cell IV.out.bx 0).trans rfl; have hga1 : w602.cell? ⟨ga, 1, none⟩ = some (.int .i64 x.f1) := (blk_cell IV.out.bx 1).trans rfl; have hga2 : w602.cell? ⟨ga, 2, none⟩ = some (.string x.f2) := (blk_cell IV.out.bx 2).trans rfl; have hga3 : w602.cell? ⟨ga, 3, none⟩ = some (.slice A x.f3.length c) := (blk_cell IV.out.bx 3).trans rfl; have hgb0 : w602.cell? ⟨gb, 0, none⟩ = some (.int .i64 y.f0) := (blk_cell IV.out.by_ 0).trans rfl; have hgb1 : w602.cell? ⟨gb, 1, none⟩ = some (.int .i64 y.f1) := (blk_cell IV.out.by_ 1).trans rfl; have hgb2 : w602.cell? ⟨gb, 2, none⟩ = some (.string y.f2) := (blk_cell IV.out.by_ 2).trans rfl; have hgb3 : w602.cell? ⟨gb, 3, none⟩ = some (.slice B y.f3.length d) := (blk_cell IV.out.by_ 3).trans rfl)) | ((with_reducible refine gate_dst (N := 28) rfl ?_); refine goesL_ (some 28) rfl rfl Try.func31 (by kernel_rfl) rfl #[.agg #[.int .i64 5, .int .i64 0, .string (⟨#[]⟩ : ByteArray), .slice (some ⟨gs, 0, none⟩) 2 2]] rfl (by (try simp only [List.map_toArray, List.map_cons, List.map_nil]); first | done | rfl) ?_; (refine (frc_of ⟨5, 0, (⟨#[]⟩ : ByteArray), [x, y]⟩ (some ⟨gs, 0, none⟩) 2 true _ DX.out (fin_two 5 0 (⟨#[]⟩ : ByteArray) (by decide) FX.out FY.out) (by rw [frc_cat2, EX.out, EY.out]; rfl)).mono ?_); (rintro e w603 ⟨rfl, hb⟩; refine ⟨_, rfl, ?_⟩; clear DX; have n0 := Aside0.mk (IV.out.step hb); clear IV hb; have IV := n0; clear n0; clear hga0 hga1 hga2 hga3 hgb0 hgb1 hgb2 hgb3; have hga0 : w603.cell? ⟨ga, 0, none⟩ = some (.int .i64 x.f0) := (blk_cell IV.out.bx 0).trans rfl; have hga1 : w603.cell? ⟨ga, 1, none⟩ = some (.int .i64 x.f1) := (blk_cell IV.out.bx 1).trans rfl; have hga2 : w603.cell? ⟨ga, 2, none⟩ = some (.string x.f2) := (blk_cell IV.out.bx 2).trans rfl; have hga3 : w603.cell? ⟨ga, 3, none⟩ = some (.slice A x.f3.length c) := (blk_cell IV.out.bx 3).trans rfl; have hgb0 : w603.cell? ⟨gb, 0, none⟩ = some (.int .i64 y.f0) := (blk_cell IV.out.by_ 0).trans rfl; have hgb1 : w603.cell? ⟨gb, 1, none⟩ = some (.int .i64 y.f1) := (blk_cell IV.out.by_ 1).trans rfl; have hgb2 : w603.cell? ⟨gb, 2, none⟩ = some (.string y.f2) := (blk_cell IV.out.by_ 2).trans rfl; have hgb3 : w603.cell? ⟨gb, 3, none⟩ = some (.slice B y.f3.length d) := (blk_cell IV.out.by_ 3).trans rfl)) | ((with_reducible refine gate_dst (N := 36) rfl ?_); (refine gate_guard (by rfl) ?_; dsimp only); refine lit_event ?hg (N := 36) ?hd (m := 1) (cs := #[.int .i64 x.f0, .int .i64 x.f1, .string x.f2, .slice A x.f3.length c]) (t := 40) ?hr ?_; (case hd => rfl); (case hg => rfl); (case hr => first | (go_simp; done) | (go_simp; rfl)); intro gs hg w604 hbox hb; have DX := Aside0.mk (Dc_one 6 4 (⟨#[]⟩ : ByteArray) hbox (IV.out.dx.below hb));  clear hbox hg; have n0 := Aside0.mk (IV.out.step hb); clear IV hb; have IV := n0; clear n0; clear hga0 hga1 hga2 hga3 hgb0 hgb1 hgb2 hgb3; have hga0 : w604.cell? ⟨ga, 0, none⟩ = some (.int .i64 x.f0) := (blk_cell IV.out.bx 0).trans rfl; have hga1 : w604.cell? ⟨ga, 1, none⟩ = some (.int .i64 x.f1) := (blk_cell IV.out.bx 1).trans rfl; have hga2 : w604.cell? ⟨ga, 2, none⟩ = some (.string x.f2) := (blk_cell IV.out.bx 2).trans rfl; have hga3 : w604.cell? ⟨ga, 3, none⟩ = some (.slice A x.f3.length c) := (blk_cell IV.out.bx 3).trans rfl; have hgb0 : w604.cell? ⟨gb, 0, none⟩ = some (.int .i64 y.f0) := (blk_cell IV.out.by_ 0).trans rfl; have hgb1 : w604.cell? ⟨gb, 1, none⟩ = some (.int .i64 y.f1) := (blk_cell IV.out.by_ 1).trans rfl; have hgb2 : w604.cell? ⟨gb, 2, none⟩ = some (.string y.f2) := (blk_cell IV.out.by_ 2).trans rfl; have hgb3 : w604.cell? ⟨gb, 3, none⟩ = some (.slice B y.f3.length d) := (blk_cell IV.out.by_ 3).trans rfl) | ((with_reducible refine gate_dst (N := 37) rfl ?_); (refine gate_guard (by rfl) ?_; dsimp only); refine goesL_ (some 37) rfl rfl Try.func38 (by kernel_rfl) rfl #[.int .i64 4, .slice (some ⟨gs, 0, none⟩) 1 1] rfl (by (try simp only [List.map_toArray, List.map_cons, List.map_nil]); first | done | rfl) ?_; (refine (mk38 4 (some ⟨gs, 0, none⟩) 1 1 _).mono ?_); (rintro e w605 ⟨rfl, hb⟩; refine ⟨_, rfl, ?_⟩; have m0 := Aside0.mk (DX.out.below hb); clear DX; have DX := m0; clear m0; have n0 := Aside0.mk (IV.out.step hb); clear IV hb; have IV := n0; clear n0; clear hga0 hga1 hga2 hga3 hgb0 hgb1 hgb2 hgb3; have hga0 : w605.cell? ⟨ga, 0, none⟩ = some (.int .i64 x.f0) := (blk_cell IV.out.bx 0).trans rfl; have hga1 : w605.cell? ⟨ga, 1, none⟩ = some (.int .i64 x.f1) := (blk_cell IV.out.bx 1).trans rfl; have hga2 : w605.cell? ⟨ga, 2, none⟩ = some (.string x.f2) := (blk_cell IV.out.bx 2).trans rfl; have hga3 : w605.cell? ⟨ga, 3, none⟩ = some (.slice A x.f3.length c) := (blk_cell IV.out.bx 3).trans rfl; have hgb0 : w605.cell? ⟨gb, 0, none⟩ = some (.int .i64 y.f0) := (blk_cell IV.out.by_ 0).trans rfl; have hgb1 : w605.cell? ⟨gb, 1, none⟩ = some (.int .i64 y.f1) := (blk_cell IV.out.by_ 1).trans rfl; have hgb2 : w605.cell? ⟨gb, 2, none⟩ = some (.string y.f2) := (blk_cell IV.out.by_ 2).trans rfl; have hgb3 : w605.cell? ⟨gb, 3, none⟩ = some (.slice B y.f3.length d) := (blk_cell IV.out.by_ 3).trans rfl)) | ((with_reducible refine gate_dst (N := 38) rfl ?_); (refine gate_guard (by rfl) ?_; dsimp only); refine goesL_ (some 38) rfl rfl Try.func31 (by kernel_rfl) rfl #[.agg #[.int .i64 6, .int .i64 4, .string (⟨#[]⟩ : ByteArray), .slice (some ⟨gs, 0, none⟩) 1 1]] rfl (by (try simp only [List.map_toArray, List.map_cons, List.map_nil]); first | done | rfl) ?_; (refine (frc_of ⟨6, 4, (⟨#[]⟩ : ByteArray), [x]⟩ (some ⟨gs, 0, none⟩) 1 true _ DX.out (fin_one 6 4 (⟨#[]⟩ : ByteArray) (by decide) FX.out) (by rw [frc_nest1, EX.out])).mono ?_); (rintro e w606 ⟨rfl, hb⟩; refine ⟨_, rfl, ?_⟩; clear DX; have n0 := Aside0.mk (IV.out.step hb); clear IV hb; have IV := n0; clear n0; clear hga0 hga1 hga2 hga3 hgb0 hgb1 hgb2 hgb3; have hga0 : w606.cell? ⟨ga, 0, none⟩ = some (.int .i64 x.f0) := (blk_cell IV.out.bx 0).trans rfl; have hga1 : w606.cell? ⟨ga, 1, none⟩ = some (.int .i64 x.f1) := (blk_cell IV.out.bx 1).trans rfl; have hga2 : w606.cell? ⟨ga, 2, none⟩ = some (.string x.f2) := (blk_cell IV.out.bx 2).trans rfl; have hga3 : w606.cell? ⟨ga, 3, none⟩ = some (.slice A x.f3.length c) := (blk_cell IV.out.bx 3).trans rfl; have hgb0 : w606.cell? ⟨gb, 0, none⟩ = some (.int .i64 y.f0) := (blk_cell IV.out.by_ 0).trans rfl; have hgb1 : w606.cell? ⟨gb, 1, none⟩ = some (.int .i64 y.f1) := (blk_cell IV.out.by_ 1).trans rfl; have hgb2 : w606.cell? ⟨gb, 2, none⟩ = some (.string y.f2) := (blk_cell IV.out.by_ 2).trans rfl; have hgb3 : w606.cell? ⟨gb, 3, none⟩ = some (.slice B y.f3.length d) := (blk_cell IV.out.by_ 3).trans rfl)) | ((with_reducible refine gate_dst (N := 45) rfl ?_); (refine gate_guard (by rfl) ?_; dsimp only); refine lit_event ?hg (N := 45) ?hd (m := 2) (cs := #[.int .i64 x.f0, .int .i64 x.f1, .string x.f2, .slice A x.f3.length c, .int .i64 y.f0, .int .i64 y.f1, .string y.f2, .slice B y.f3.length d]) (t := 40) ?hr ?_; (case hd => rfl); (case hg => rfl); (case hr => first | (go_simp; done) | (go_simp; rfl)); intro gs hg w607 hbox hb; have DX := Aside0.mk (Dc_two 7 0 (⟨#[]⟩ : ByteArray) hbox (IV.out.dx.below hb) (IV.out.dy.below hb));  clear hbox hg; have n0 := Aside0.mk (IV.out.step hb); clear IV hb; have IV := n0; clear n0; clear hga0 hga1 hga2 hga3 hgb0 hgb1 hgb2 hgb3; have hga0 : w607.cell? ⟨ga, 0, none⟩ = some (.int .i64 x.f0) := (blk_cell IV.out.bx 0).trans rfl; have hga1 : w607.cell? ⟨ga, 1, none⟩ = some (.int .i64 x.f1) := (blk_cell IV.out.bx 1).trans rfl; have hga2 : w607.cell? ⟨ga, 2, none⟩ = some (.string x.f2) := (blk_cell IV.out.bx 2).trans rfl; have hga3 : w607.cell? ⟨ga, 3, none⟩ = some (.slice A x.f3.length c) := (blk_cell IV.out.bx 3).trans rfl; have hgb0 : w607.cell? ⟨gb, 0, none⟩ = some (.int .i64 y.f0) := (blk_cell IV.out.by_ 0).trans rfl; have hgb1 : w607.cell? ⟨gb, 1, none⟩ = some (.int .i64 y.f1) := (blk_cell IV.out.by_ 1).trans rfl; have hgb2 : w607.cell? ⟨gb, 2, none⟩ = some (.string y.f2) := (blk_cell IV.out.by_ 2).trans rfl; have hgb3 : w607.cell? ⟨gb, 3, none⟩ = some (.slice B y.f3.length d) := (blk_cell IV.out.by_ 3).trans rfl) | ((with_reducible refine gate_dst (N := 46) rfl ?_); (refine gate_guard (by rfl) ?_; dsimp only); refine goesL_ (some 46) rfl rfl Try.func39 (by kernel_rfl) rfl #[.slice (some ⟨gs, 0, none⟩) 2 2] rfl (by (try simp only [List.map_toArray, List.map_cons, List.map_nil]); first | done | rfl) ?_; (refine (mk39 (some ⟨gs, 0, none⟩) 2 2 _).mono ?_); (rintro e w608 ⟨rfl, hb⟩; refine ⟨_, rfl, ?_⟩; have m0 := Aside0.mk (DX.out.below hb); clear DX; have DX := m0; clear m0; have n0 := Aside0.mk (IV.out.step hb); clear IV hb; have IV := n0; clear n0; clear hga0 hga1 hga2 hga3 hgb0 hgb1 hgb2 hgb3; have hga0 : w608.cell? ⟨ga, 0, none⟩ = some (.int .i64 x.f0) := (blk_cell IV.out.bx 0).trans rfl; have hga1 : w608.cell? ⟨ga, 1, none⟩ = some (.int .i64 x.f1) := (blk_cell IV.out.bx 1).trans rfl; have hga2 : w608.cell? ⟨ga, 2, none⟩ = some (.string x.f2) := (blk_cell IV.out.bx 2).trans rfl; have hga3 : w608.cell? ⟨ga, 3, none⟩ = some (.slice A x.f3.length c) := (blk_cell IV.out.bx 3).trans rfl; have hgb0 : w608.cell? ⟨gb, 0, none⟩ = some (.int .i64 y.f0) := (blk_cell IV.out.by_ 0).trans rfl; have hgb1 : w608.cell? ⟨gb, 1, none⟩ = some (.int .i64 y.f1) := (blk_cell IV.out.by_ 1).trans rfl; have hgb2 : w608.cell? ⟨gb, 2, none⟩ = some (.string y.f2) := (blk_cell IV.out.by_ 2).trans rfl; have hgb3 : w608.cell? ⟨gb, 3, none⟩ = some (.slice B y.f3.length d) := (blk_cell IV.out.by_ 3).trans rfl)) | ((with_reducible refine gate_dst (N := 47) rfl ?_); (refine gate_guard (by rfl) ?_; dsimp only); refine goesL_ (some 47) rfl rfl Try.func31 (by kernel_rfl) rfl #[.agg #[.int .i64 7, .int .i64 0, .string (⟨#[]⟩ : ByteArray), .slice (some ⟨gs, 0, none⟩) 2 2]] rfl (by (try simp only [List.map_toArray, List.map_cons, List.map_nil]); first | done | rfl) ?_; (refine (frc_of ⟨7, 0, (⟨#[]⟩ : ByteArray), [x, y]⟩ (some ⟨gs, 0, none⟩) 2 true _ DX.out (fin_two 7 0 (⟨#[]⟩ : ByteArray) (by decide) FX.out FY.out) (by rw [frc_grp2, EX.out, EY.out]; rfl)).mono ?_); (rintro e w609 ⟨rfl, hb⟩; refine ⟨_, rfl, ?_⟩; clear DX; have n0 := Aside0.mk (IV.out.step hb); clear IV hb; have IV := n0; clear n0; clear hga0 hga1 hga2 hga3 hgb0 hgb1 hgb2 hgb3; have hga0 : w609.cell? ⟨ga, 0, none⟩ = some (.int .i64 x.f0) := (blk_cell IV.out.bx 0).trans rfl; have hga1 : w609.cell? ⟨ga, 1, none⟩ = some (.int .i64 x.f1) := (blk_cell IV.out.bx 1).trans rfl; have hga2 : w609.cell? ⟨ga, 2, none⟩ = some (.string x.f2) := (blk_cell IV.out.bx 2).trans rfl; have hga3 : w609.cell? ⟨ga, 3, none⟩ = some (.slice A x.f3.length c) := (blk_cell IV.out.bx 3).trans rfl; have hgb0 : w609.cell? ⟨gb, 0, none⟩ = some (.int .i64 y.f0) := (blk_cell IV.out.by_ 0).trans rfl; have hgb1 : w609.cell? ⟨gb, 1, none⟩ = some (.int .i64 y.f1) := (blk_cell IV.out.by_ 1).trans rfl; have hgb2 : w609.cell? ⟨gb, 2, none⟩ = some (.string y.f2) := (blk_cell IV.out.by_ 2).trans rfl; have hgb3 : w609.cell? ⟨gb, 3, none⟩ = some (.slice B y.f3.length d) := (blk_cell IV.out.by_ 3).trans rfl)) | ((with_reducible refine gate_dst (N := 56) rfl ?_); (refine gate_guard (by rfl) ?_; dsimp only); refine lit_event ?hg (N := 56) ?hd (m := 1) (cs := #[.int .i64 x.f0, .int .i64 x.f1, .string x.f2, .slice A x.f3.length c]) (t := 40) ?hr ?_; (case hd => rfl); (case hg => rfl); (case hr => first | (go_simp; done) | (go_simp; rfl)); intro gs hg w610 hbox hb; have DX := Aside0.mk (Dc_one 7 1 (⟨#[]⟩ : ByteArray) hbox (IV.out.dx.below hb));  clear hbox hg; have n0 := Aside0.mk (IV.out.step hb); clear IV hb; have IV := n0; clear n0; clear hga0 hga1 hga2 hga3 hgb0 hgb1 hgb2 hgb3; have hga0 : w610.cell? ⟨ga, 0, none⟩ = some (.int .i64 x.f0) := (blk_cell IV.out.bx 0).trans rfl; have hga1 : w610.cell? ⟨ga, 1, none⟩ = some (.int .i64 x.f1) := (blk_cell IV.out.bx 1).trans rfl; have hga2 : w610.cell? ⟨ga, 2, none⟩ = some (.string x.f2) := (blk_cell IV.out.bx 2).trans rfl; have hga3 : w610.cell? ⟨ga, 3, none⟩ = some (.slice A x.f3.length c) := (blk_cell IV.out.bx 3).trans rfl; have hgb0 : w610.cell? ⟨gb, 0, none⟩ = some (.int .i64 y.f0) := (blk_cell IV.out.by_ 0).trans rfl; have hgb1 : w610.cell? ⟨gb, 1, none⟩ = some (.int .i64 y.f1) := (blk_cell IV.out.by_ 1).trans rfl; have hgb2 : w610.cell? ⟨gb, 2, none⟩ = some (.string y.f2) := (blk_cell IV.out.by_ 2).trans rfl; have hgb3 : w610.cell? ⟨gb, 3, none⟩ = some (.slice B y.f3.length d) := (blk_cell IV.out.by_ 3).trans rfl) | ((with_reducible refine gate_dst (N := 57) rfl ?_); (refine gate_guard (by rfl) ?_; dsimp only); refine goesL_ (some 57) rfl rfl Try.func40 (by kernel_rfl) rfl #[.slice (some ⟨gs, 0, none⟩) 1 1] rfl (by (try simp only [List.map_toArray, List.map_cons, List.map_nil]); first | done | rfl) ?_; (refine (mk40 (some ⟨gs, 0, none⟩) 1 1 _).mono ?_); (rintro e w611 ⟨rfl, hb⟩; refine ⟨_, rfl, ?_⟩; have m0 := Aside0.mk (DX.out.below hb); clear DX; have DX := m0; clear m0; have n0 := Aside0.mk (IV.out.step hb); clear IV hb; have IV := n0; clear n0; clear hga0 hga1 hga2 hga3 hgb0 hgb1 hgb2 hgb3; have hga0 : w611.cell? ⟨ga, 0, none⟩ = some (.int .i64 x.f0) := (blk_cell IV.out.bx 0).trans rfl; have hga1 : w611.cell? ⟨ga, 1, none⟩ = some (.int .i64 x.f1) := (blk_cell IV.out.bx 1).trans rfl; have hga2 : w611.cell? ⟨ga, 2, none⟩ = some (.string x.f2) := (blk_cell IV.out.bx 2).trans rfl; have hga3 : w611.cell? ⟨ga, 3, none⟩ = some (.slice A x.f3.length c) := (blk_cell IV.out.bx 3).trans rfl; have hgb0 : w611.cell? ⟨gb, 0, none⟩ = some (.int .i64 y.f0) := (blk_cell IV.out.by_ 0).trans rfl; have hgb1 : w611.cell? ⟨gb, 1, none⟩ = some (.int .i64 y.f1) := (blk_cell IV.out.by_ 1).trans rfl; have hgb2 : w611.cell? ⟨gb, 2, none⟩ = some (.string y.f2) := (blk_cell IV.out.by_ 2).trans rfl; have hgb3 : w611.cell? ⟨gb, 3, none⟩ = some (.slice B y.f3.length d) := (blk_cell IV.out.by_ 3).trans rfl)) | ((with_reducible refine gate_dst (N := 58) rfl ?_); (refine gate_guard (by rfl) ?_; dsimp only); refine goesL_ (some 58) rfl rfl Try.func31 (by kernel_rfl) rfl #[.agg #[.int .i64 7, .int .i64 1, .string (⟨#[]⟩ : ByteArray), .slice (some ⟨gs, 0, none⟩) 1 1]] rfl (by (try simp only [List.map_toArray, List.map_cons, List.map_nil]); first | done | rfl) ?_; (refine (frc_of ⟨7, 1, (⟨#[]⟩ : ByteArray), [x]⟩ (some ⟨gs, 0, none⟩) 1 true _ DX.out (fin_one 7 1 (⟨#[]⟩ : ByteArray) (by decide) FX.out) frc_brk1).mono ?_); (rintro e w612 ⟨rfl, hb⟩; refine ⟨_, rfl, ?_⟩; clear DX; have n0 := Aside0.mk (IV.out.step hb); clear IV hb; have IV := n0; clear n0; clear hga0 hga1 hga2 hga3 hgb0 hgb1 hgb2 hgb3; have hga0 : w612.cell? ⟨ga, 0, none⟩ = some (.int .i64 x.f0) := (blk_cell IV.out.bx 0).trans rfl; have hga1 : w612.cell? ⟨ga, 1, none⟩ = some (.int .i64 x.f1) := (blk_cell IV.out.bx 1).trans rfl; have hga2 : w612.cell? ⟨ga, 2, none⟩ = some (.string x.f2) := (blk_cell IV.out.bx 2).trans rfl; have hga3 : w612.cell? ⟨ga, 3, none⟩ = some (.slice A x.f3.length c) := (blk_cell IV.out.bx 3).trans rfl; have hgb0 : w612.cell? ⟨gb, 0, none⟩ = some (.int .i64 y.f0) := (blk_cell IV.out.by_ 0).trans rfl; have hgb1 : w612.cell? ⟨gb, 1, none⟩ = some (.int .i64 y.f1) := (blk_cell IV.out.by_ 1).trans rfl; have hgb2 : w612.cell? ⟨gb, 2, none⟩ = some (.string y.f2) := (blk_cell IV.out.by_ 2).trans rfl; have hgb3 : w612.cell? ⟨gb, 3, none⟩ = some (.slice B y.f3.length d) := (blk_cell IV.out.by_ 3).trans rfl)) | ((with_reducible refine gate_dst (N := 9) rfl ?_); (try (refine gate_guard (by rfl) ?_; dsimp only)); refine box_event ?hg (N := 9) ?hd (cs := #[.int .i64 0, .int .i64 0, .string (⟨#[]⟩ : ByteArray), .slice none 0 0]) (t := 40) ?hr ?_; (case hd => rfl); (case hg => rfl); (case hr => first | (go_simp; done) | (go_simp; rfl)); intro g9 hg w700 hbox hb; have NA := Aside0.mk (show ga ≠ g9 from by rw [hg]; exact Nat.ne_of_lt (blk_lt IV.out.bx)); have NB := Aside0.mk (show gb ≠ g9 from by rw [hg]; exact Nat.ne_of_lt (blk_lt IV.out.by_)); have N9 := Aside0.mk (show w.heap.size ≤ g9 from by rw [hg]; exact IV.out.hb.size); have BZ := Aside0.mk hbox;  have hz0 : w700.cell? ⟨g9, 0, none⟩ = some (.int .i64 0) := (blk_cell BZ.out 0).trans rfl; have hz1 : w700.cell? ⟨g9, 1, none⟩ = some (.int .i64 0) := (blk_cell BZ.out 1).trans rfl; have hz2 : w700.cell? ⟨g9, 2, none⟩ = some (.string (⟨#[]⟩ : ByteArray)) := (blk_cell BZ.out 2).trans rfl; have hz3 : w700.cell? ⟨g9, 3, none⟩ = some (.slice none 0 0) := (blk_cell BZ.out 3).trans rfl; have yf0 := blk_frozen BZ.out 0; have yf1 := blk_frozen BZ.out 1; have yf2 := blk_frozen BZ.out 2; have yf3 := blk_frozen BZ.out 3; clear hbox hg; have n0 := Aside0.mk (IV.out.step hb); clear IV hb; have IV := n0; clear n0; clear hga0 hga1 hga2 hga3 hgb0 hgb1 hgb2 hgb3))
  have IG := Aside0.mk (show IvG w (((((w700).setCell ⟨g9, 0, none⟩ (.int .i64 4)).setCell ⟨g9, 1, none⟩ (.int .i64 0)).setCell ⟨g9, 2, none⟩ (.string (⟨#[]⟩ : ByteArray))).setCell ⟨g9, 3, none⟩ (.slice none 0 0)) ga gb x y A c B d g9 (dI 0) none 0 from ⟨(((IV.out.set NA.out NB.out N9.out 0 _).set NA.out NB.out N9.out 1 _).set NA.out NB.out N9.out 2 _).set NA.out NB.out N9.out 3 _, (by
    refine blk_put (cs := #[.int .i64 4, .int .i64 0, .string (⟨#[]⟩ : ByteArray), .slice none 0 0]) ?_ 3 _ rfl
    refine blk_put (cs := #[.int .i64 4, .int .i64 0, .string (⟨#[]⟩ : ByteArray), .slice none 0 0]) ?_ 2 _ rfl
    refine blk_put (cs := #[.int .i64 4, .int .i64 0, .string (⟨#[]⟩ : ByteArray), .slice none 0 0]) ?_ 1 _ rfl
    refine blk_put (cs := #[.int .i64 0, .int .i64 0, .string (⟨#[]⟩ : ByteArray), .slice none 0 0]) ?_ 0 _ rfl
    exact BZ.out), D9_zero _, NA.out, NB.out, N9.out⟩)
  clear IV BZ NA NB N9 hz0 hz1 hz2 hz3 yf0 yf1 yf2 yf3 hf hf2
  obtain ⟨m, hm31, hm⟩ := rem31_nat n
  go_loopg [10] m (fun k' v10 wr => ∃ (i : Nat) (Z : Option Addr) (e : Nat), v10 = .int .i64 i ∧ i ≤ m ∧ Aside0 (k' + i = m) ∧ Aside0 (IvG w wr ga gb x y A c B d g9 (dI i) Z e))
  case atStart => exact ⟨0, none, 0, rfl, Nat.zero_le _, ⟨rfl⟩, IG⟩
  case round =>
    clear IG
    obtain ⟨i, Z, e, rfl, hi, HK, IG⟩ := hrel
    by_cases hlt : i < m
    · go_wp2_with fail
      have IG2 := Aside0.mk (IG.out.step (below_drew1 (Below.refl _ _)))
      clear IG
      have IG := IG2
      clear IG2
      refine start_ (n := 5) (S := SZ g9 (dI i) Z e) (ds := [4]) #[false, false, false, false, false] (by kernel_rfl) rfl rfl (IG.out.S) (fun hHeld => ?_)
      generalize World.drew _ = w800 at IG hHeld ⊢
      refine take_ (i := 1) (N := some 71) (v := ?_) (a' := ?_) #[false, true, false, false, false] rfl rfl (take_of (md := .any) (ops := opsOf Try.f9 10) F9tab10 (by kernel_rfl)) (fun _ _ _ h => h) (Or.inl ⟨by rfl, ?_⟩) hHeld ?_ ?_
      rotate_left
      · rintro w' ⟨s0, s1, s2, s3⟩
        go_simp
        with_reducible rfl
      rotate_left
      · simp only [Act.put, List.setIfInBounds_toArray, List.set_cons_zero, List.set_cons_succ, i64_w, i32_w]
        rfl
      refine one_ (i := 0) (N := some 70) #[true, true, false, false, false] rfl rfl (one_of (md := .any) (ops := opsOf Try.f9 10) F9tab10 (by kernel_rfl)) (by decide) (fun K hK => ?_)
      refine goes_ Try.func36 (by kernel_rfl) rfl #[.string (⟨#[116]⟩ : ByteArray)] (by rfl) rfl rfl (by (try simp only [List.map_toArray, List.map_cons, List.map_nil]); first | done | rfl) ?_
      refine (mk36 (⟨#[116]⟩ : ByteArray) _).mono ?_
      rintro e w801 ⟨rfl, hb⟩
      refine ⟨_, rfl, ?_⟩
      have n0 := Aside0.mk (IG.out.step hb); clear IG hb; have IG := n0; clear n0
      refine hK.out _ _ (IG.out.S) (fun hHeld => ?_)
      clear hK K
      refine norm_ (a' := ?_) ?_ ?_
      rotate_left
      · show Act.put _ (some 70) _ = _
        simp only [Act.put, List.setIfInBounds_toArray, List.set_cons_zero, List.set_cons_succ, i64_w, i32_w]
        rfl
      refine one_ (i := 2) (N := some 72) #[true, true, true, false, false] rfl rfl (one_of (md := .any) (ops := opsOf Try.f9 10) F9tab10 (by kernel_rfl)) (by decide) (fun K hK => ?_)
      refine lit_step (m := 2) (cs := #[.int .i64 1, .int .i64 0, .string (⟨#[116]⟩ : ByteArray), .slice none 0 0, .int .i64 (dI i).f0, .int .i64 (dI i).f1, .string (dI i).f2, .slice Z (dI i).f3.length e]) (t := 40) (by rfl) ?hrun ?_
      case hrun => first | (go_simp; done) | (go_simp; rfl)
      intro gs hg w802 hbox hb
      have DZ := Aside0.mk (D9_dI i (by rw [hg]; exact Nat.ne_of_gt (blk_lt IG.out.bz)) hbox (IG.out.dz.step hb)); have n0 := Aside0.mk (IG.out.step hb); clear IG hb; have IG := n0; clear n0
      clear hbox hg
      refine hK.out _ _ (IG.out.S) (fun hHeld => ?_)
      clear hK K
      refine norm_ (a' := ?_) ?_ ?_
      rotate_left
      · show Act.put _ (some 72) _ = _
        simp only [Act.put, List.setIfInBounds_toArray, List.set_cons_zero, List.set_cons_succ, i64_w, i32_w]
        rfl
      refine one_ (i := 3) (N := some 73) #[true, true, true, true, false] rfl rfl (one_of (md := .any) (ops := opsOf Try.f9 10) F9tab10 (by kernel_rfl)) (by decide) (fun K hK => ?_)
      refine goes_ Try.func39 (by kernel_rfl) rfl #[.slice (some ⟨gs, 0, none⟩) 2 2] (by rfl) rfl rfl (by (try simp only [List.map_toArray, List.map_cons, List.map_nil]); first | done | rfl) ?_
      refine (mk39 (some ⟨gs, 0, none⟩) 2 2 _).mono ?_
      rintro e w803 ⟨rfl, hb⟩
      refine ⟨_, rfl, ?_⟩
      have m0 := Aside0.mk (DZ.out.step hb); clear DZ; have DZ := m0; clear m0; have n0 := Aside0.mk (IG.out.step hb); clear IG hb; have IG := n0; clear n0
      refine hK.out _ _ (IG.out.S) (fun hHeld => ?_)
      clear hK K
      refine norm_ (a' := ?_) ?_ ?_
      rotate_left
      · show Act.put _ (some 73) _ = _
        simp only [Act.put, List.setIfInBounds_toArray, List.set_cons_zero, List.set_cons_succ, i64_w, i32_w]
        rfl
      refine last_ (i := 4) (N := none) #[true, true, true, true, true] rfl rfl (one_of (md := .any) (ops := opsOf Try.f9 10) F9tab10 (by kernel_rfl)) (by decide) (fun K hK => ?_)
      obtain ⟨hz0, hz1, hz2, hz3⟩ := IG.out.S
      have yf0 := blk_frozen IG.out.bz 0
      have yf1 := blk_frozen IG.out.bz 1
      have yf2 := blk_frozen IG.out.bz 2
      have yf3 := blk_frozen IG.out.bz 3
      refine skip_ (w1 := ((((w803).setCell ⟨g9, 0, none⟩ (.int .i64 7)).setCell ⟨g9, 1, none⟩ (.int .i64 0)).setCell ⟨g9, 2, none⟩ (.string (⟨#[]⟩ : ByteArray))).setCell ⟨g9, 3, none⟩ (.slice (some ⟨gs, 0, none⟩) 2 2)) rfl rfl ?hrun ?_
      case hrun => first | (go_simp; done) | (go_simp; rfl)
      refine hK.out _ _ (done_ (done_of (md := .any) (ops := opsOf Try.f9 10) F9tab10 (by kernel_rfl)) ?_)
      have IH := Aside0.mk (show IvG w (((((w803).setCell ⟨g9, 0, none⟩ (.int .i64 7)).setCell ⟨g9, 1, none⟩ (.int .i64 0)).setCell ⟨g9, 2, none⟩ (.string (⟨#[]⟩ : ByteArray))).setCell ⟨g9, 3, none⟩ (.slice (some ⟨gs, 0, none⟩) 2 2)) ga gb x y A c B d g9 (dI (i + 1)) (some ⟨gs, 0, none⟩) 2 from ⟨(((IG.out.f.set IG.out.na IG.out.nb IG.out.n9 0 _).set IG.out.na IG.out.nb IG.out.n9 1 _).set IG.out.na IG.out.nb IG.out.n9 2 _).set IG.out.na IG.out.nb IG.out.n9 3 _, (by
        refine blk_put (cs := #[.int .i64 7, .int .i64 0, .string (⟨#[]⟩ : ByteArray), .slice Z (dI i).f3.length e]) ?_ 3 _ rfl
        refine blk_put (cs := #[.int .i64 7, .int .i64 0, .string (dI i).f2, .slice Z (dI i).f3.length e]) ?_ 2 _ rfl
        refine blk_put (cs := #[.int .i64 7, .int .i64 (dI i).f1, .string (dI i).f2, .slice Z (dI i).f3.length e]) ?_ 1 _ rfl
        refine blk_put (cs := #[.int .i64 (dI i).f0, .int .i64 (dI i).f1, .string (dI i).f2, .slice Z (dI i).f3.length e]) ?_ 0 _ rfl
        exact IG.out.bz), (((DZ.out.set 0 _).set 1 _).set 2 _).set 3 _, IG.out.na, IG.out.nb, IG.out.n9⟩)
      clear IG DZ hz0 hz1 hz2 hz3 yf0 yf1 yf2 yf3 hK hHeld
      have hi0 : 0 ≤ (i : Int) := by omega
      have hi1 : (i : Int) ≤ 31 := by omega
      go_wp2_with fail
      go_roundg (m - (i + 1))
      case measure => have := HK.out; omega
      case rel => exact ⟨i + 1, _, _, by simp, by omega, ⟨by have := HK.out; omega⟩, IH⟩
    · obtain rfl : i = m := by omega
      go_wp2_with fail
      have IG2 := Aside0.mk (IG.out.step (below_drew1 (Below.refl _ _)))
      clear IG
      have IG := IG2
      clear IG2
      refine start_ (n := 20) (S := SG ga gb x y A c B d g9 (dI i) Z e) (ds := []) #[false, false, false, false, false, false, false, false, false, false, false, false, false, false, false, false, false, false, false, false] (by kernel_rfl) rfl rfl (IG.out.SS) (fun hHeld => ?_)
      generalize World.drew _ = w900 at IG hHeld ⊢
      refine one_ (i := 0) (N := some 74) #[true, false, false, false, false, false, false, false, false, false, false, false, false, false, false, false, false, false, false, false] rfl rfl (one_of (md := .any) (ops := opsOf Try.f9 11) F9tab11 (by kernel_rfl)) (by decide) (fun K hK => ?_)
      refine goes_ Try.func28 (by kernel_rfl) rfl #[] (by rfl) rfl rfl (by (try simp only [List.map_toArray, List.map_cons, List.map_nil]); first | done | rfl) ?_
      refine (galleylaw15_told.calls true _ rfl).mono ?_
      rintro e w901 ⟨rfl, hb⟩
      refine ⟨_, rfl, ?_⟩
      have n0 := Aside0.mk (IG.out.step hb); clear IG hb; have IG := n0; clear n0
      refine hK.out _ _ (IG.out.SS) (fun hHeld => ?_)
      clear hK K
      refine norm_ (a' := ?_) ?_ ?_
      rotate_left
      · show Act.put _ (some 74) _ = _
        simp only [Act.put, List.setIfInBounds_toArray, List.set_cons_zero, List.set_cons_succ, i64_w, i32_w]
        rfl
      refine pure_ (i := 1) (N := some 75) (v := ?_) (a' := ?_) #[true, true, false, false, false, false, false, false, false, false, false, false, false, false, false, false, false, false, false, false] rfl rfl (any_of (md := .any) (ops := opsOf Try.f9 11) F9tab11 (by kernel_rfl)) (fun _ _ _ h => h) (Or.inl ⟨by rfl, ?_⟩) ?_ ?_
      rotate_left
      · intro w'
        go_simp
        with_reducible rfl
      rotate_left
      · simp only [Act.put, List.setIfInBounds_toArray, List.set_cons_zero, List.set_cons_succ, i64_w, i32_w]
        rfl
      refine take_ (i := 2) (N := some 76) (v := ?_) (a' := ?_) #[true, true, true, false, false, false, false, false, false, false, false, false, false, false, false, false, false, false, false, false] rfl rfl (take_of (md := .any) (ops := opsOf Try.f9 11) F9tab11 (by kernel_rfl)) (fun _ _ _ h => h) (Or.inl ⟨by rfl, ?_⟩) hHeld ?_ ?_
      rotate_left
      · rintro w' ⟨s0, s1, s2, s3, s4, s5, s6, s7, s8, s9, s10, s11⟩
        go_simp
        with_reducible rfl
      rotate_left
      · simp only [Act.put, List.setIfInBounds_toArray, List.set_cons_zero, List.set_cons_succ, i64_w, i32_w]
        rfl
      refine one_ (i := 3) (N := some 77) #[true, true, true, true, false, false, false, false, false, false, false, false, false, false, false, false, false, false, false, false] rfl rfl (one_of (md := .any) (ops := opsOf Try.f9 11) F9tab11 (by kernel_rfl)) (by decide) (fun K hK => ?_)
      refine goes_ Try.func31 (by kernel_rfl) rfl #[.agg #[.int .i64 (dI i).f0, .int .i64 (dI i).f1, .string (dI i).f2, .slice Z (dI i).f3.length e]] (by rfl) rfl rfl (by (try simp only [List.map_toArray, List.map_cons, List.map_nil]); first | done | rfl) ?_
      refine (frc_of (dI i) Z e true _ IG.out.dz.own (dI_fin i) (dI_frc i)).mono ?_
      rintro e w902 ⟨rfl, hb⟩
      refine ⟨_, rfl, ?_⟩
      have n0 := Aside0.mk (IG.out.step hb); clear IG hb; have IG := n0; clear n0
      refine hK.out _ _ (IG.out.SS) (fun hHeld => ?_)
      clear hK K
      refine norm_ (a' := ?_) ?_ ?_
      rotate_left
      · show Act.put _ (some 77) _ = _
        simp only [Act.put, List.setIfInBounds_toArray, List.set_cons_zero, List.set_cons_succ, i64_w, i32_w]
        rfl
      refine pure_ (i := 4) (N := some 78) (v := ?_) (a' := ?_) #[true, true, true, true, true, false, false, false, false, false, false, false, false, false, false, false, false, false, false, false] rfl rfl (any_of (md := .any) (ops := opsOf Try.f9 11) F9tab11 (by kernel_rfl)) (fun _ _ _ h => h) (Or.inl ⟨by rfl, ?_⟩) ?_ ?_
      rotate_left
      · intro w'
        go_simp
        with_reducible rfl
      rotate_left
      · simp only [Act.put, List.setIfInBounds_toArray, List.set_cons_zero, List.set_cons_succ, i64_w, i32_w]
        rfl
      refine pure_ (i := 5) (N := some 79) (v := ?_) (a' := ?_) #[true, true, true, true, true, true, false, false, false, false, false, false, false, false, false, false, false, false, false, false] rfl rfl (any_of (md := .any) (ops := opsOf Try.f9 11) F9tab11 (by kernel_rfl)) (fun _ _ _ h => h) (Or.inl ⟨by rfl, ?_⟩) ?_ ?_
      rotate_left
      · intro w'
        go_simp
        with_reducible rfl
      rotate_left
      · simp only [Act.put, List.setIfInBounds_toArray, List.set_cons_zero, List.set_cons_succ, i64_w, i32_w]
        rfl
      refine take_ (i := 6) (N := some 80) (v := ?_) (a' := ?_) #[true, true, true, true, true, true, true, false, false, false, false, false, false, false, false, false, false, false, false, false] rfl rfl (take_of (md := .any) (ops := opsOf Try.f9 11) F9tab11 (by kernel_rfl)) (fun _ _ _ h => h) (Or.inl ⟨by rfl, ?_⟩) hHeld ?_ ?_
      rotate_left
      · rintro w' ⟨s0, s1, s2, s3, s4, s5, s6, s7, s8, s9, s10, s11⟩
        go_simp
        with_reducible rfl
      rotate_left
      · simp only [Act.put, List.setIfInBounds_toArray, List.set_cons_zero, List.set_cons_succ, i64_w, i32_w]
        rfl
      refine take_ (i := 7) (N := some 81) (v := ?_) (a' := ?_) #[true, true, true, true, true, true, true, true, false, false, false, false, false, false, false, false, false, false, false, false] rfl rfl (take_of (md := .any) (ops := opsOf Try.f9 11) F9tab11 (by kernel_rfl)) (fun _ _ _ h => h) (Or.inl ⟨by rfl, ?_⟩) hHeld ?_ ?_
      rotate_left
      · rintro w' ⟨s0, s1, s2, s3, s4, s5, s6, s7, s8, s9, s10, s11⟩
        go_simp
        with_reducible rfl
      rotate_left
      · simp only [Act.put, List.setIfInBounds_toArray, List.set_cons_zero, List.set_cons_succ, i64_w, i32_w]
        rfl
      refine take_ (i := 11) (N := some 85) (v := ?_) (a' := ?_) #[true, true, true, true, true, true, true, true, false, false, false, true, false, false, false, false, false, false, false, false] rfl rfl (take_of (md := .any) (ops := opsOf Try.f9 11) F9tab11 (by kernel_rfl)) (fun _ _ _ h => h) (Or.inl ⟨by rfl, ?_⟩) hHeld ?_ ?_
      rotate_left
      · rintro w' ⟨s0, s1, s2, s3, s4, s5, s6, s7, s8, s9, s10, s11⟩
        go_simp
        with_reducible rfl
      rotate_left
      · simp only [Act.put, List.setIfInBounds_toArray, List.set_cons_zero, List.set_cons_succ, i64_w, i32_w]
        rfl
      refine take_ (i := 13) (N := some 87) (v := ?_) (a' := ?_) #[true, true, true, true, true, true, true, true, false, false, false, true, false, true, false, false, false, false, false, false] rfl rfl (take_of (md := .any) (ops := opsOf Try.f9 11) F9tab11 (by kernel_rfl)) (fun _ _ _ h => h) (Or.inl ⟨by rfl, ?_⟩) hHeld ?_ ?_
      rotate_left
      · rintro w' ⟨s0, s1, s2, s3, s4, s5, s6, s7, s8, s9, s10, s11⟩
        go_simp
        with_reducible rfl
      rotate_left
      · simp only [Act.put, List.setIfInBounds_toArray, List.set_cons_zero, List.set_cons_succ, i64_w, i32_w]
        rfl
      refine one_ (i := 8) (N := some 82) #[true, true, true, true, true, true, true, true, true, false, false, true, false, true, false, false, false, false, false, false] rfl rfl (one_of (md := .any) (ops := opsOf Try.f9 11) F9tab11 (by kernel_rfl)) (by decide) (fun K hK => ?_)
      refine lit_step (m := 2) (cs := #[.int .i64 x.f0, .int .i64 x.f1, .string x.f2, .slice A x.f3.length c, .int .i64 y.f0, .int .i64 y.f1, .string y.f2, .slice B y.f3.length d]) (t := 40) (by rfl) ?hrun ?_
      case hrun => first | (go_simp; done) | (go_simp; rfl)
      intro gs hg w903 hbox hb
      have DX := Aside0.mk (Dc_two 5 0 (⟨#[]⟩ : ByteArray) hbox (IG.out.f.dx.below hb) (IG.out.f.dy.below hb)); have n0 := Aside0.mk (IG.out.step hb); clear IG hb; have IG := n0; clear n0
      clear hbox hg
      refine hK.out _ _ (IG.out.SS) (fun hHeld => ?_)
      clear hK K
      refine norm_ (a' := ?_) ?_ ?_
      rotate_left
      · show Act.put _ (some 82) _ = _
        simp only [Act.put, List.setIfInBounds_toArray, List.set_cons_zero, List.set_cons_succ, i64_w, i32_w]
        rfl
      refine one_ (i := 9) (N := some 83) #[true, true, true, true, true, true, true, true, true, true, false, true, false, true, false, false, false, false, false, false] rfl rfl (one_of (md := .any) (ops := opsOf Try.f9 11) F9tab11 (by kernel_rfl)) (by decide) (fun K hK => ?_)
      refine goes_ Try.func37 (by kernel_rfl) rfl #[.slice (some ⟨gs, 0, none⟩) 2 2] (by rfl) rfl rfl (by (try simp only [List.map_toArray, List.map_cons, List.map_nil]); first | done | rfl) ?_
      refine (mk37 (some ⟨gs, 0, none⟩) 2 2 _).mono ?_
      rintro e w904 ⟨rfl, hb⟩
      refine ⟨_, rfl, ?_⟩
      have m0 := Aside0.mk (DX.out.below hb); clear DX; have DX := m0; clear m0; have n0 := Aside0.mk (IG.out.step hb); clear IG hb; have IG := n0; clear n0
      refine hK.out _ _ (IG.out.SS) (fun hHeld => ?_)
      clear hK K
      refine norm_ (a' := ?_) ?_ ?_
      rotate_left
      · show Act.put _ (some 83) _ = _
        simp only [Act.put, List.setIfInBounds_toArray, List.set_cons_zero, List.set_cons_succ, i64_w, i32_w]
        rfl
      refine one_ (i := 10) (N := some 84) #[true, true, true, true, true, true, true, true, true, true, true, true, false, true, false, false, false, false, false, false] rfl rfl (one_of (md := .any) (ops := opsOf Try.f9 11) F9tab11 (by kernel_rfl)) (by decide) (fun K hK => ?_)
      refine goes_ Try.func33 (by kernel_rfl) rfl #[.agg #[.int .i64 5, .int .i64 0, .string (⟨#[]⟩ : ByteArray), .slice (some ⟨gs, 0, none⟩) 2 2]] (by rfl) rfl rfl (by (try simp only [List.map_toArray, List.map_cons, List.map_nil]); first | done | rfl) ?_
      refine (cnt_of ⟨5, 0, (⟨#[]⟩ : ByteArray), [x, y]⟩ (some ⟨gs, 0, none⟩) 2 ((1 + (cnt x + cnt y) : Nat) : Int) _ DX.out (fin_two 5 0 (⟨#[]⟩ : ByteArray) (by decide) FX.out FY.out) (by rw [cnt_cat2]; exact wrap_small _ (by have := CX.out; have := CY.out; omega))).mono ?_
      rintro e w905 ⟨rfl, hb⟩
      refine ⟨_, rfl, ?_⟩
      clear DX; have n0 := Aside0.mk (IG.out.step hb); clear IG hb; have IG := n0; clear n0
      refine hK.out _ _ (IG.out.SS) (fun hHeld => ?_)
      clear hK K
      refine norm_ (a' := ?_) ?_ ?_
      rotate_left
      · show Act.put _ (some 84) _ = _
        simp only [Act.put, List.setIfInBounds_toArray, List.set_cons_zero, List.set_cons_succ, i64_w, i32_w]
        rfl
      refine one_ (i := 12) (N := some 86) #[true, true, true, true, true, true, true, true, true, true, true, true, true, true, false, false, false, false, false, false] rfl rfl (one_of (md := .any) (ops := opsOf Try.f9 11) F9tab11 (by kernel_rfl)) (by decide) (fun K hK => ?_)
      refine goes_ Try.func33 (by kernel_rfl) rfl #[.agg #[.int .i64 x.f0, .int .i64 x.f1, .string x.f2, .slice A x.f3.length c]] (by rfl) rfl rfl (by (try simp only [List.map_toArray, List.map_cons, List.map_nil]); first | done | rfl) ?_
      refine (cnt_of x A c ((cnt x : Nat) : Int) _ IG.out.f.dx FX.out (wrap_small _ (by have := CX.out; omega))).mono ?_
      rintro e w906 ⟨rfl, hb⟩
      refine ⟨_, rfl, ?_⟩
      have n0 := Aside0.mk (IG.out.step hb); clear IG hb; have IG := n0; clear n0
      refine hK.out _ _ (IG.out.SS) (fun hHeld => ?_)
      clear hK K
      refine norm_ (a' := ?_) ?_ ?_
      rotate_left
      · show Act.put _ (some 86) _ = _
        simp only [Act.put, List.setIfInBounds_toArray, List.set_cons_zero, List.set_cons_succ, i64_w, i32_w]
        rfl
      refine one_ (i := 14) (N := some 88) #[true, true, true, true, true, true, true, true, true, true, true, true, true, true, true, false, false, false, false, false] rfl rfl (one_of (md := .any) (ops := opsOf Try.f9 11) F9tab11 (by kernel_rfl)) (by decide) (fun K hK => ?_)
      refine goes_ Try.func33 (by kernel_rfl) rfl #[.agg #[.int .i64 y.f0, .int .i64 y.f1, .string y.f2, .slice B y.f3.length d]] (by rfl) rfl rfl (by (try simp only [List.map_toArray, List.map_cons, List.map_nil]); first | done | rfl) ?_
      refine (cnt_of y B d ((cnt y : Nat) : Int) _ IG.out.f.dy FY.out (wrap_small _ (by have := CY.out; omega))).mono ?_
      rintro e w907 ⟨rfl, hb⟩
      refine ⟨_, rfl, ?_⟩
      have n0 := Aside0.mk (IG.out.step hb); clear IG hb; have IG := n0; clear n0
      refine hK.out _ _ (IG.out.SS) (fun hHeld => ?_)
      clear hK K
      refine norm_ (a' := ?_) ?_ ?_
      rotate_left
      · show Act.put _ (some 88) _ = _
        simp only [Act.put, List.setIfInBounds_toArray, List.set_cons_zero, List.set_cons_succ, i64_w, i32_w]
        rfl
      refine pure_ (i := 15) (N := some 89) (v := ?_) (a' := ?_) #[true, true, true, true, true, true, true, true, true, true, true, true, true, true, true, true, false, false, false, false] rfl rfl (any_of (md := .any) (ops := opsOf Try.f9 11) F9tab11 (by kernel_rfl)) (fun _ _ _ h => h) (Or.inl ⟨by rfl, ?_⟩) ?_ ?_
      rotate_left
      · intro w'
        go_simp
        with_reducible rfl
      rotate_left
      · simp only [Act.put, List.setIfInBounds_toArray, List.set_cons_zero, List.set_cons_succ, i64_w, i32_w]
        rfl
      refine pure_ (i := 16) (N := some 90) (v := ?_) (a' := ?_) #[true, true, true, true, true, true, true, true, true, true, true, true, true, true, true, true, true, false, false, false] rfl rfl (any_of (md := .any) (ops := opsOf Try.f9 11) F9tab11 (by kernel_rfl)) (fun _ _ _ h => h) (Or.inl ⟨by rfl, ?_⟩) ?_ ?_
      rotate_left
      · intro w'
        go_simp
        with_reducible rfl
      rotate_left
      · simp only [Act.put, List.setIfInBounds_toArray, List.set_cons_zero, List.set_cons_succ, i64_w, i32_w]
        rfl
      refine pure_ (i := 17) (N := some 91) (v := ?_) (a' := ?_) #[true, true, true, true, true, true, true, true, true, true, true, true, true, true, true, true, true, true, false, false] rfl rfl (any_of (md := .any) (ops := opsOf Try.f9 11) F9tab11 (by kernel_rfl)) (fun _ _ _ h => h) (Or.inl ⟨by rfl, ?_⟩) ?_ ?_
      rotate_left
      · intro w'
        go_simp
        with_reducible rfl
      rotate_left
      · simp only [Act.put, List.setIfInBounds_toArray, List.set_cons_zero, List.set_cons_succ, i64_w, i32_w]
        rfl
      refine pure_ (i := 18) (N := some 92) (v := ?_) (a' := ?_) #[true, true, true, true, true, true, true, true, true, true, true, true, true, true, true, true, true, true, true, false] rfl rfl (any_of (md := .any) (ops := opsOf Try.f9 11) F9tab11 (by kernel_rfl)) (fun _ _ _ h => h) (Or.inl ⟨by rfl, ?_⟩) ?_ ?_
      rotate_left
      · intro w'
        go_simp
        with_reducible rfl
      rotate_left
      · simp only [Act.put, List.setIfInBounds_toArray, List.set_cons_zero, List.set_cons_succ, i64_w, i32_w]
        rfl
      refine pure_ (i := 19) (N := some 6) (v := ?_) (a' := ?_) #[true, true, true, true, true, true, true, true, true, true, true, true, true, true, true, true, true, true, true, true] rfl rfl (any_of (md := .any) (ops := opsOf Try.f9 11) F9tab11 (by kernel_rfl)) (fun _ _ _ h => h) (Or.inl ⟨by rfl, ?_⟩) ?_ ?_
      rotate_left
      · intro w'
        go_simp
        with_reducible rfl
      rotate_left
      · simp only [Act.put, List.setIfInBounds_toArray, List.set_cons_zero, List.set_cons_succ, i64_w, i32_w]
        rfl
      refine done_ (done_of (md := .any) (ops := opsOf Try.f9 11) F9tab11 (by kernel_rfl)) ?_
      go_wp2_with fail
      go_ret
      have e : ((1 + ((cnt x : Int) + (cnt y : Int)) : Int) == wrap64 (wrap64 ((cnt x : Int) + (cnt y : Int)) + 1)) = true := by
        have := CX.out
        have := CY.out
        rw [beq_iff_eq]
        unfold wrap64
        omega
      exact ⟨by show Ending.returned (.bool _) = _; rw [e], IG.out.f.hb⟩
theorem DocForces_walk {w : World} (x : S40) (A : Option Addr) (c : Nat) (hx : Dc w x A c) (y : S40) (B : Option Addr) (d : Nat) (hy : Dc w y B d) (n : Int) (hn : (Lit.int .i64 n).wf = true) :
    Calls Try.prog 9 #[.agg #[.int .i64 x.f0, .int .i64 x.f1, .string x.f2, .slice A x.f3.length c], .agg #[.int .i64 y.f0, .int .i64 y.f1, .string y.f2, .slice B y.f3.length d], .int .i64 n] w fun e w' => e = .returned (.bool true) ∧ Below w.heap.size w w' := by
  cases hf : decide (fewD x 60 ≤ 500)
  · exact forces_few1 x A c y B d n w hx hy hf
  cases hf2 : decide (fewD y 60 ≤ 500)
  · exact forces_few2 x A c y B d n w hx hy hf hf2
  have f1 := fewD_small x 60 (by simpa using hf)
  have f2 := fewD_small y 60 (by simpa using hf2)
  have l1 : fewD x 60 ≤ 500 := by simpa using hf
  have l2 : fewD y 60 ≤ 500 := by simpa using hf2
  cases ex : frcB x <;> cases ey : frcB y
  · exact forces_main_false_false x A c y B d n w hx hy hf hf2 f1.2.2 f2.2.2 ex ey (by omega) (by omega)
  · exact forces_main_false_true x A c y B d n w hx hy hf hf2 f1.2.2 f2.2.2 ex ey (by omega) (by omega)
  · exact forces_main_true_false x A c y B d n w hx hy hf hf2 f1.2.2 f2.2.2 ex ey (by omega) (by omega)
  · exact forces_main_true_true x A c y B d n w hx hy hf hf2 f1.2.2 f2.2.2 ex ey (by omega) (by omega)
end Go.Proofs.Ytjlnlonioknkhaa.PA
