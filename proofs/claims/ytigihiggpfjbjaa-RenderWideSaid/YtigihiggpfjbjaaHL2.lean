/- RenderWide: the walk. -/
import Derived.Test.YtigihiggpfjbjaaHPf
import Derived.Test.YtigihiggpfjbjaaHCd
import Derived.Test.YtigihiggpfjbjaaHLG
namespace Go.Proofs.Ytigihiggpfjbjaa.PR
open Go.RowKit Go.Proofs.YtigihiggpfjbjaaW.PrintWords Go.Proofs.YtigihiggpfjbjaaW.PrintLast Go.Proofs.YtigihiggpfjbjaaW.PrintMore
set_option linter.unusedVariables false
set_option linter.unusedSimpArgs false
attribute [local go_sem] max2_int min2_int max_two min_two max_three min_three max_four min_four   -- for this text alone
section
variable {w : World} {x : S24} {A : Option Addr} {c : Nat}
def WideAt (w : World) (x : S24) (A : Option Addr) (c : Nat) : Prop := Calls Try.prog 5 #[DA x A c] w fun e w' => e = .returned (.bool true) ∧ Below w.heap.size w w'
set_option maxHeartbeats 4000000 in
set_option maxRecDepth 100000 in
theorem wide_few (hx : Dc w x A c) (hf : decide (fewD (grp x) 60 ≤ 500) = false) : WideAt w x A c := by
  have hu24 := Try.underlying24
  have hu22 := Try.underlying22
  have hu30 := Try.underlying30
  have HX_IV := Aside0.mk hx
  clear hx
  have HFW := Aside0.mk hf
  clear hf
  unfold WideAt DA
  go_enter Try.func5, Try.ntmps5
  go_upto_region 2 with (first | ((with_reducible refine gate_dst (N := 1) rfl ?_); (try (refine gate_guard (by rfl) ?_; dsimp only)); refine box_event ?hg (N := 1) ?hd (cs := #[.int .i64 x.f0, .int .i64 x.f1, .string x.f2, .slice A x.f3.length c]) (t := 24) ?hr ?_; (case hd => rfl); (case hg => rfl); (case hr => first | (go_simp; done) | (go_simp; rfl)); intro ga hg w1 hbox hb; have IV := Aside0.mk (IvD.mk hb hbox HX_IV.out); have hx0 := IV.out.c0; have hx1 := IV.out.c1; have hx2 := IV.out.c2; have hx3 := IV.out.c3; clear hb hbox hg))
  have F := grp_world (x := x) (A := A) (c := c) IV.out.dx
  have HB0 := Aside0.mk IV.out.hb
  clear IV hx0 hx1 hx2 hx3
  generalize World.alloc (World.alloc w1 _) _ = w5 at F ⊢
  generalize w1.heap.size + 1 = gg at F ⊢
  generalize hgl : w1.heap.size = gl at F ⊢
  have HB1 := Aside0.mk (below_step HB0.out (hgl ▸ F.1))
  have IG := Aside0.mk F.2
  clear F HB0 hgl
  have hg0 : w5.cell? ⟨gg, 0, none⟩ = some (.int .i64 7) := IG.out.c0
  have hg1 : w5.cell? ⟨gg, 1, none⟩ = some (.int .i64 0) := IG.out.c1
  have hg2 : w5.cell? ⟨gg, 2, none⟩ = some (.string (⟨#[]⟩ : ByteArray)) := IG.out.c2
  have hg3 : w5.cell? ⟨gg, 3, none⟩ = some (.slice (some ⟨gl, 0, none⟩) 1 1) := IG.out.c3
  go_wp2_with (first | ((with_reducible refine gate_dst (N := 17) rfl ?_); refine goesL_ (some 17) rfl rfl Try.func9 (by kernel_rfl) rfl #[.agg #[.int .i64 7, .int .i64 0, .string (⟨#[]⟩ : ByteArray), .slice (some ⟨gl, 0, none⟩) 1 1]] rfl (by (try simp only [List.map_toArray, List.map_cons, List.map_nil]); first | done | rfl) ?_; (refine (few_of (grp x) (some ⟨gl, 0, none⟩) 1 false _ IG.out.dx HFW.out).mono ?_); (rintro e w117 ⟨rfl, hb⟩; refine ⟨_, rfl, ?_⟩; have n_IG := Aside0.mk (IG.out.step hb); clear IG hg0 hg1 hg2 hg3; have IG := n_IG; clear n_IG; have hg0 : w117.cell? ⟨gg, 0, none⟩ = some (.int .i64 7) := IG.out.c0; have hg1 : w117.cell? ⟨gg, 1, none⟩ = some (.int .i64 0) := IG.out.c1; have hg2 : w117.cell? ⟨gg, 2, none⟩ = some (.string (⟨#[]⟩ : ByteArray)) := IG.out.c2; have hg3 : w117.cell? ⟨gg, 3, none⟩ = some (.slice (some ⟨gl, 0, none⟩) 1 1) := IG.out.c3; clear hb)) | ((with_reducible refine gate_dst (N := 28) rfl ?_); refine goesL_ (some 28) rfl rfl Try.func10 (by kernel_rfl) rfl #[] rfl (by (try simp only [List.map_toArray, List.map_cons, List.map_nil]); first | done | rfl) ?_; (refine (told_calls _).mono ?_); (rintro e w128 ⟨rfl, hb⟩; refine ⟨_, rfl, ?_⟩; have n_IG := Aside0.mk (IG.out.step hb); clear IG hg0 hg1 hg2 hg3; have IG := n_IG; clear n_IG; have hg0 : w128.cell? ⟨gg, 0, none⟩ = some (.int .i64 7) := IG.out.c0; have hg1 : w128.cell? ⟨gg, 1, none⟩ = some (.int .i64 0) := IG.out.c1; have hg2 : w128.cell? ⟨gg, 2, none⟩ = some (.string (⟨#[]⟩ : ByteArray)) := IG.out.c2; have hg3 : w128.cell? ⟨gg, 3, none⟩ = some (.slice (some ⟨gl, 0, none⟩) 1 1) := IG.out.c3; clear hb)))
  go_ret
  exact ⟨rfl, below_step HB1.out IG.out.hb⟩
set_option maxHeartbeats 4000000 in
set_option maxRecDepth 100000 in
theorem wide_may (hx : Dc w x A c) (hf : decide (fewD (grp x) 60 ≤ 500) = true) (hm : mayB (grp x) = false) : WideAt w x A c := by
  have hu24 := Try.underlying24
  have hu22 := Try.underlying22
  have hu30 := Try.underlying30
  have HX_IV := Aside0.mk hx
  clear hx
  have HFW := Aside0.mk hf
  have HFI := Aside0.mk (few_small hf)
  have HMY := Aside0.mk hm
  clear hf hm
  unfold WideAt DA
  go_enter Try.func5, Try.ntmps5
  go_upto_region 2 with (first | ((with_reducible refine gate_dst (N := 1) rfl ?_); (try (refine gate_guard (by rfl) ?_; dsimp only)); refine box_event ?hg (N := 1) ?hd (cs := #[.int .i64 x.f0, .int .i64 x.f1, .string x.f2, .slice A x.f3.length c]) (t := 24) ?hr ?_; (case hd => rfl); (case hg => rfl); (case hr => first | (go_simp; done) | (go_simp; rfl)); intro ga hg w1 hbox hb; have IV := Aside0.mk (IvD.mk hb hbox HX_IV.out); have hx0 := IV.out.c0; have hx1 := IV.out.c1; have hx2 := IV.out.c2; have hx3 := IV.out.c3; clear hb hbox hg))
  have F := grp_world (x := x) (A := A) (c := c) IV.out.dx
  have HB0 := Aside0.mk IV.out.hb
  clear IV hx0 hx1 hx2 hx3
  generalize World.alloc (World.alloc w1 _) _ = w5 at F ⊢
  generalize w1.heap.size + 1 = gg at F ⊢
  generalize hgl : w1.heap.size = gl at F ⊢
  have HB1 := Aside0.mk (below_step HB0.out (hgl ▸ F.1))
  have IG := Aside0.mk F.2
  clear F HB0 hgl
  have hg0 : w5.cell? ⟨gg, 0, none⟩ = some (.int .i64 7) := IG.out.c0
  have hg1 : w5.cell? ⟨gg, 1, none⟩ = some (.int .i64 0) := IG.out.c1
  have hg2 : w5.cell? ⟨gg, 2, none⟩ = some (.string (⟨#[]⟩ : ByteArray)) := IG.out.c2
  have hg3 : w5.cell? ⟨gg, 3, none⟩ = some (.slice (some ⟨gl, 0, none⟩) 1 1) := IG.out.c3
  go_wp2_with (first | ((with_reducible refine gate_dst (N := 17) rfl ?_); refine goesL_ (some 17) rfl rfl Try.func9 (by kernel_rfl) rfl #[.agg #[.int .i64 7, .int .i64 0, .string (⟨#[]⟩ : ByteArray), .slice (some ⟨gl, 0, none⟩) 1 1]] rfl (by (try simp only [List.map_toArray, List.map_cons, List.map_nil]); first | done | rfl) ?_; (refine (few_of (grp x) (some ⟨gl, 0, none⟩) 1 true _ IG.out.dx HFW.out).mono ?_); (rintro e w117 ⟨rfl, hb⟩; refine ⟨_, rfl, ?_⟩; have n_IG := Aside0.mk (IG.out.step hb); clear IG hg0 hg1 hg2 hg3; have IG := n_IG; clear n_IG; have hg0 : w117.cell? ⟨gg, 0, none⟩ = some (.int .i64 7) := IG.out.c0; have hg1 : w117.cell? ⟨gg, 1, none⟩ = some (.int .i64 0) := IG.out.c1; have hg2 : w117.cell? ⟨gg, 2, none⟩ = some (.string (⟨#[]⟩ : ByteArray)) := IG.out.c2; have hg3 : w117.cell? ⟨gg, 3, none⟩ = some (.slice (some ⟨gl, 0, none⟩) 1 1) := IG.out.c3; clear hb)) | ((with_reducible refine gate_dst (N := 21) rfl ?_); (refine gate_guard (by rfl) ?_; dsimp only); refine goesL_ (some 21) rfl rfl Try.func15 (by kernel_rfl) rfl #[.agg #[.int .i64 7, .int .i64 0, .string (⟨#[]⟩ : ByteArray), .slice (some ⟨gl, 0, none⟩) 1 1]] rfl (by (try simp only [List.map_toArray, List.map_cons, List.map_nil]); first | done | rfl) ?_; (refine (may_of (grp x) (some ⟨gl, 0, none⟩) 1 false _ IG.out.dx HFI.out.2.2 HFI.out.1 HFI.out.2.1 HMY.out).mono ?_); (rintro e w121 ⟨rfl, hb⟩; refine ⟨_, rfl, ?_⟩; have n_IG := Aside0.mk (IG.out.step hb); clear IG hg0 hg1 hg2 hg3; have IG := n_IG; clear n_IG; have hg0 : w121.cell? ⟨gg, 0, none⟩ = some (.int .i64 7) := IG.out.c0; have hg1 : w121.cell? ⟨gg, 1, none⟩ = some (.int .i64 0) := IG.out.c1; have hg2 : w121.cell? ⟨gg, 2, none⟩ = some (.string (⟨#[]⟩ : ByteArray)) := IG.out.c2; have hg3 : w121.cell? ⟨gg, 3, none⟩ = some (.slice (some ⟨gl, 0, none⟩) 1 1) := IG.out.c3; clear hb)) | ((with_reducible refine gate_dst (N := 28) rfl ?_); refine goesL_ (some 28) rfl rfl Try.func10 (by kernel_rfl) rfl #[] rfl (by (try simp only [List.map_toArray, List.map_cons, List.map_nil]); first | done | rfl) ?_; (refine (told_calls _).mono ?_); (rintro e w128 ⟨rfl, hb⟩; refine ⟨_, rfl, ?_⟩; have n_IG := Aside0.mk (IG.out.step hb); clear IG hg0 hg1 hg2 hg3; have IG := n_IG; clear n_IG; have hg0 : w128.cell? ⟨gg, 0, none⟩ = some (.int .i64 7) := IG.out.c0; have hg1 : w128.cell? ⟨gg, 1, none⟩ = some (.int .i64 0) := IG.out.c1; have hg2 : w128.cell? ⟨gg, 2, none⟩ = some (.string (⟨#[]⟩ : ByteArray)) := IG.out.c2; have hg3 : w128.cell? ⟨gg, 3, none⟩ = some (.slice (some ⟨gl, 0, none⟩) 1 1) := IG.out.c3; clear hb)))
  go_ret
  exact ⟨rfl, below_step HB1.out IG.out.hb⟩
set_option maxHeartbeats 4000000 in
set_option maxRecDepth 100000 in
theorem wide_frc (hx : Dc w x A c) (hf : decide (fewD (grp x) 60 ≤ 500) = true) (hm : mayB (grp x) = true) (hc : frcB (grp x) = true) : WideAt w x A c := by
  have hu24 := Try.underlying24
  have hu22 := Try.underlying22
  have hu30 := Try.underlying30
  have HX_IV := Aside0.mk hx
  clear hx
  have HFW := Aside0.mk hf
  have HFI := Aside0.mk (few_small hf)
  have HMY := Aside0.mk hm
  clear hf hm
  have HFC := Aside0.mk hc
  clear hc
  unfold WideAt DA
  go_enter Try.func5, Try.ntmps5
  go_upto_region 2 with (first | ((with_reducible refine gate_dst (N := 1) rfl ?_); (try (refine gate_guard (by rfl) ?_; dsimp only)); refine box_event ?hg (N := 1) ?hd (cs := #[.int .i64 x.f0, .int .i64 x.f1, .string x.f2, .slice A x.f3.length c]) (t := 24) ?hr ?_; (case hd => rfl); (case hg => rfl); (case hr => first | (go_simp; done) | (go_simp; rfl)); intro ga hg w1 hbox hb; have IV := Aside0.mk (IvD.mk hb hbox HX_IV.out); have hx0 := IV.out.c0; have hx1 := IV.out.c1; have hx2 := IV.out.c2; have hx3 := IV.out.c3; clear hb hbox hg))
  have F := grp_world (x := x) (A := A) (c := c) IV.out.dx
  have HB0 := Aside0.mk IV.out.hb
  clear IV hx0 hx1 hx2 hx3
  generalize World.alloc (World.alloc w1 _) _ = w5 at F ⊢
  generalize w1.heap.size + 1 = gg at F ⊢
  generalize hgl : w1.heap.size = gl at F ⊢
  have HB1 := Aside0.mk (below_step HB0.out (hgl ▸ F.1))
  have IG := Aside0.mk F.2
  clear F HB0 hgl
  have hg0 : w5.cell? ⟨gg, 0, none⟩ = some (.int .i64 7) := IG.out.c0
  have hg1 : w5.cell? ⟨gg, 1, none⟩ = some (.int .i64 0) := IG.out.c1
  have hg2 : w5.cell? ⟨gg, 2, none⟩ = some (.string (⟨#[]⟩ : ByteArray)) := IG.out.c2
  have hg3 : w5.cell? ⟨gg, 3, none⟩ = some (.slice (some ⟨gl, 0, none⟩) 1 1) := IG.out.c3
  go_wp2_with (first | ((with_reducible refine gate_dst (N := 17) rfl ?_); refine goesL_ (some 17) rfl rfl Try.func9 (by kernel_rfl) rfl #[.agg #[.int .i64 7, .int .i64 0, .string (⟨#[]⟩ : ByteArray), .slice (some ⟨gl, 0, none⟩) 1 1]] rfl (by (try simp only [List.map_toArray, List.map_cons, List.map_nil]); first | done | rfl) ?_; (refine (few_of (grp x) (some ⟨gl, 0, none⟩) 1 true _ IG.out.dx HFW.out).mono ?_); (rintro e w117 ⟨rfl, hb⟩; refine ⟨_, rfl, ?_⟩; have n_IG := Aside0.mk (IG.out.step hb); clear IG hg0 hg1 hg2 hg3; have IG := n_IG; clear n_IG; have hg0 : w117.cell? ⟨gg, 0, none⟩ = some (.int .i64 7) := IG.out.c0; have hg1 : w117.cell? ⟨gg, 1, none⟩ = some (.int .i64 0) := IG.out.c1; have hg2 : w117.cell? ⟨gg, 2, none⟩ = some (.string (⟨#[]⟩ : ByteArray)) := IG.out.c2; have hg3 : w117.cell? ⟨gg, 3, none⟩ = some (.slice (some ⟨gl, 0, none⟩) 1 1) := IG.out.c3; clear hb)) | ((with_reducible refine gate_dst (N := 21) rfl ?_); (refine gate_guard (by rfl) ?_; dsimp only); refine goesL_ (some 21) rfl rfl Try.func15 (by kernel_rfl) rfl #[.agg #[.int .i64 7, .int .i64 0, .string (⟨#[]⟩ : ByteArray), .slice (some ⟨gl, 0, none⟩) 1 1]] rfl (by (try simp only [List.map_toArray, List.map_cons, List.map_nil]); first | done | rfl) ?_; (refine (may_of (grp x) (some ⟨gl, 0, none⟩) 1 true _ IG.out.dx HFI.out.2.2 HFI.out.1 HFI.out.2.1 HMY.out).mono ?_); (rintro e w121 ⟨rfl, hb⟩; refine ⟨_, rfl, ?_⟩; have n_IG := Aside0.mk (IG.out.step hb); clear IG hg0 hg1 hg2 hg3; have IG := n_IG; clear n_IG; have hg0 : w121.cell? ⟨gg, 0, none⟩ = some (.int .i64 7) := IG.out.c0; have hg1 : w121.cell? ⟨gg, 1, none⟩ = some (.int .i64 0) := IG.out.c1; have hg2 : w121.cell? ⟨gg, 2, none⟩ = some (.string (⟨#[]⟩ : ByteArray)) := IG.out.c2; have hg3 : w121.cell? ⟨gg, 3, none⟩ = some (.slice (some ⟨gl, 0, none⟩) 1 1) := IG.out.c3; clear hb)) | ((with_reducible refine gate_dst (N := 26) rfl ?_); (refine gate_guard (by rfl) ?_; dsimp only); refine goesL_ (some 26) rfl rfl Try.func17 (by kernel_rfl) rfl #[.agg #[.int .i64 7, .int .i64 0, .string (⟨#[]⟩ : ByteArray), .slice (some ⟨gl, 0, none⟩) 1 1]] rfl (by (try simp only [List.map_toArray, List.map_cons, List.map_nil]); first | done | rfl) ?_; (refine (frc_of (grp x) (some ⟨gl, 0, none⟩) 1 true _ IG.out.dx HFI.out.2.2 HFC.out).mono ?_); (rintro e w126 ⟨rfl, hb⟩; refine ⟨_, rfl, ?_⟩; have n_IG := Aside0.mk (IG.out.step hb); clear IG hg0 hg1 hg2 hg3; have IG := n_IG; clear n_IG; have hg0 : w126.cell? ⟨gg, 0, none⟩ = some (.int .i64 7) := IG.out.c0; have hg1 : w126.cell? ⟨gg, 1, none⟩ = some (.int .i64 0) := IG.out.c1; have hg2 : w126.cell? ⟨gg, 2, none⟩ = some (.string (⟨#[]⟩ : ByteArray)) := IG.out.c2; have hg3 : w126.cell? ⟨gg, 3, none⟩ = some (.slice (some ⟨gl, 0, none⟩) 1 1) := IG.out.c3; clear hb)) | ((with_reducible refine gate_dst (N := 28) rfl ?_); refine goesL_ (some 28) rfl rfl Try.func10 (by kernel_rfl) rfl #[] rfl (by (try simp only [List.map_toArray, List.map_cons, List.map_nil]); first | done | rfl) ?_; (refine (told_calls _).mono ?_); (rintro e w128 ⟨rfl, hb⟩; refine ⟨_, rfl, ?_⟩; have n_IG := Aside0.mk (IG.out.step hb); clear IG hg0 hg1 hg2 hg3; have IG := n_IG; clear n_IG; have hg0 : w128.cell? ⟨gg, 0, none⟩ = some (.int .i64 7) := IG.out.c0; have hg1 : w128.cell? ⟨gg, 1, none⟩ = some (.int .i64 0) := IG.out.c1; have hg2 : w128.cell? ⟨gg, 2, none⟩ = some (.string (⟨#[]⟩ : ByteArray)) := IG.out.c2; have hg3 : w128.cell? ⟨gg, 3, none⟩ = some (.slice (some ⟨gl, 0, none⟩) 1 1) := IG.out.c3; clear hb)))
  go_ret
  exact ⟨rfl, below_step HB1.out IG.out.hb⟩
set_option maxHeartbeats 4000000 in
set_option maxRecDepth 100000 in
theorem wide_big (hx : Dc w x A c) (hf : decide (fewD (grp x) 60 ≤ 500) = true) (hm : mayB (grp x) = true) (hc : frcB (grp x) = false) (hbig : 10000 < wdV (grp x)) : WideAt w x A c := by
  have hu24 := Try.underlying24
  have hu22 := Try.underlying22
  have hu30 := Try.underlying30
  have HX_IV := Aside0.mk hx
  clear hx
  have HFW := Aside0.mk hf
  have HFI := Aside0.mk (few_small hf)
  have HMY := Aside0.mk hm
  clear hf hm
  have HFC := Aside0.mk hc
  have HFL : Aside0 ((if frcB (grp x) = true then ((⟨#[]⟩ : ByteArray), false) else (flatV (grp x), true)) = (flatV x, true)) := ⟨by rw [hc, grp_flat]; rfl⟩
  have HOW := Aside0.mk (mayB_own HMY.out)
  obtain ⟨v, hv⟩ : ∃ v, wdV (grp x) = v := ⟨_, rfl⟩
  have HWV := Aside0.mk hv
  have hv0 : 0 ≤ v := by have := (wdV_le _ HFI.out.2.2).1; omega
  have hvb : decide (10000 < v) = true := decide_eq_true (by omega)
  clear hc hv hbig hv0
  unfold WideAt DA
  go_enter Try.func5, Try.ntmps5
  go_upto_region 2 with (first | ((with_reducible refine gate_dst (N := 1) rfl ?_); (try (refine gate_guard (by rfl) ?_; dsimp only)); refine box_event ?hg (N := 1) ?hd (cs := #[.int .i64 x.f0, .int .i64 x.f1, .string x.f2, .slice A x.f3.length c]) (t := 24) ?hr ?_; (case hd => rfl); (case hg => rfl); (case hr => first | (go_simp; done) | (go_simp; rfl)); intro ga hg w1 hbox hb; have IV := Aside0.mk (IvD.mk hb hbox HX_IV.out); have hx0 := IV.out.c0; have hx1 := IV.out.c1; have hx2 := IV.out.c2; have hx3 := IV.out.c3; clear hb hbox hg))
  have F := grp_world (x := x) (A := A) (c := c) IV.out.dx
  have HB0 := Aside0.mk IV.out.hb
  clear IV hx0 hx1 hx2 hx3
  generalize World.alloc (World.alloc w1 _) _ = w5 at F ⊢
  generalize w1.heap.size + 1 = gg at F ⊢
  generalize hgl : w1.heap.size = gl at F ⊢
  have HB1 := Aside0.mk (below_step HB0.out (hgl ▸ F.1))
  have IG := Aside0.mk F.2
  clear F HB0 hgl
  have hg0 : w5.cell? ⟨gg, 0, none⟩ = some (.int .i64 7) := IG.out.c0
  have hg1 : w5.cell? ⟨gg, 1, none⟩ = some (.int .i64 0) := IG.out.c1
  have hg2 : w5.cell? ⟨gg, 2, none⟩ = some (.string (⟨#[]⟩ : ByteArray)) := IG.out.c2
  have hg3 : w5.cell? ⟨gg, 3, none⟩ = some (.slice (some ⟨gl, 0, none⟩) 1 1) := IG.out.c3
  go_wp2_with (first | ((with_reducible refine gate_dst (N := 17) rfl ?_); refine goesL_ (some 17) rfl rfl Try.func9 (by kernel_rfl) rfl #[.agg #[.int .i64 7, .int .i64 0, .string (⟨#[]⟩ : ByteArray), .slice (some ⟨gl, 0, none⟩) 1 1]] rfl (by (try simp only [List.map_toArray, List.map_cons, List.map_nil]); first | done | rfl) ?_; (refine (few_of (grp x) (some ⟨gl, 0, none⟩) 1 true _ IG.out.dx HFW.out).mono ?_); (rintro e w117 ⟨rfl, hb⟩; refine ⟨_, rfl, ?_⟩; have n_IG := Aside0.mk (IG.out.step hb); clear IG hg0 hg1 hg2 hg3; have IG := n_IG; clear n_IG; have hg0 : w117.cell? ⟨gg, 0, none⟩ = some (.int .i64 7) := IG.out.c0; have hg1 : w117.cell? ⟨gg, 1, none⟩ = some (.int .i64 0) := IG.out.c1; have hg2 : w117.cell? ⟨gg, 2, none⟩ = some (.string (⟨#[]⟩ : ByteArray)) := IG.out.c2; have hg3 : w117.cell? ⟨gg, 3, none⟩ = some (.slice (some ⟨gl, 0, none⟩) 1 1) := IG.out.c3; clear hb)) | ((with_reducible refine gate_dst (N := 21) rfl ?_); (refine gate_guard (by rfl) ?_; dsimp only); refine goesL_ (some 21) rfl rfl Try.func15 (by kernel_rfl) rfl #[.agg #[.int .i64 7, .int .i64 0, .string (⟨#[]⟩ : ByteArray), .slice (some ⟨gl, 0, none⟩) 1 1]] rfl (by (try simp only [List.map_toArray, List.map_cons, List.map_nil]); first | done | rfl) ?_; (refine (may_of (grp x) (some ⟨gl, 0, none⟩) 1 true _ IG.out.dx HFI.out.2.2 HFI.out.1 HFI.out.2.1 HMY.out).mono ?_); (rintro e w121 ⟨rfl, hb⟩; refine ⟨_, rfl, ?_⟩; have n_IG := Aside0.mk (IG.out.step hb); clear IG hg0 hg1 hg2 hg3; have IG := n_IG; clear n_IG; have hg0 : w121.cell? ⟨gg, 0, none⟩ = some (.int .i64 7) := IG.out.c0; have hg1 : w121.cell? ⟨gg, 1, none⟩ = some (.int .i64 0) := IG.out.c1; have hg2 : w121.cell? ⟨gg, 2, none⟩ = some (.string (⟨#[]⟩ : ByteArray)) := IG.out.c2; have hg3 : w121.cell? ⟨gg, 3, none⟩ = some (.slice (some ⟨gl, 0, none⟩) 1 1) := IG.out.c3; clear hb)) | ((with_reducible refine gate_dst (N := 26) rfl ?_); (refine gate_guard (by rfl) ?_; dsimp only); refine goesL_ (some 26) rfl rfl Try.func17 (by kernel_rfl) rfl #[.agg #[.int .i64 7, .int .i64 0, .string (⟨#[]⟩ : ByteArray), .slice (some ⟨gl, 0, none⟩) 1 1]] rfl (by (try simp only [List.map_toArray, List.map_cons, List.map_nil]); first | done | rfl) ?_; (refine (frc_of (grp x) (some ⟨gl, 0, none⟩) 1 false _ IG.out.dx HFI.out.2.2 HFC.out).mono ?_); (rintro e w126 ⟨rfl, hb⟩; refine ⟨_, rfl, ?_⟩; have n_IG := Aside0.mk (IG.out.step hb); clear IG hg0 hg1 hg2 hg3; have IG := n_IG; clear n_IG; have hg0 : w126.cell? ⟨gg, 0, none⟩ = some (.int .i64 7) := IG.out.c0; have hg1 : w126.cell? ⟨gg, 1, none⟩ = some (.int .i64 0) := IG.out.c1; have hg2 : w126.cell? ⟨gg, 2, none⟩ = some (.string (⟨#[]⟩ : ByteArray)) := IG.out.c2; have hg3 : w126.cell? ⟨gg, 3, none⟩ = some (.slice (some ⟨gl, 0, none⟩) 1 1) := IG.out.c3; clear hb)) | ((with_reducible refine gate_dst (N := 31) rfl ?_); refine goesL_ (some 31) rfl rfl Try.func18 (by kernel_rfl) rfl #[.agg #[.int .i64 7, .int .i64 0, .string (⟨#[]⟩ : ByteArray), .slice (some ⟨gl, 0, none⟩) 1 1]] rfl (by (try simp only [List.map_toArray, List.map_cons, List.map_nil]); first | done | rfl) ?_; (refine (flat_of (grp x) (some ⟨gl, 0, none⟩) 1 (flatV x) true _ IG.out.dx HFI.out.2.2 HFI.out.1 HFL.out).mono ?_); (rintro e w131 ⟨rfl, hb⟩; refine ⟨_, rfl, ?_⟩; have n_IG := Aside0.mk (IG.out.step hb); clear IG hg0 hg1 hg2 hg3; have IG := n_IG; clear n_IG; have hg0 : w131.cell? ⟨gg, 0, none⟩ = some (.int .i64 7) := IG.out.c0; have hg1 : w131.cell? ⟨gg, 1, none⟩ = some (.int .i64 0) := IG.out.c1; have hg2 : w131.cell? ⟨gg, 2, none⟩ = some (.string (⟨#[]⟩ : ByteArray)) := IG.out.c2; have hg3 : w131.cell? ⟨gg, 3, none⟩ = some (.slice (some ⟨gl, 0, none⟩) 1 1) := IG.out.c3; clear hb)) | ((with_reducible refine gate_dst (N := 35) rfl ?_); refine goesL_ (some 35) rfl rfl Try.func19 (by kernel_rfl) rfl #[.agg #[.int .i64 7, .int .i64 0, .string (⟨#[]⟩ : ByteArray), .slice (some ⟨gl, 0, none⟩) 1 1]] rfl (by (try simp only [List.map_toArray, List.map_cons, List.map_nil]); first | done | rfl) ?_; (refine (wid_of (grp x) (some ⟨gl, 0, none⟩) 1 _ IG.out.dx HFI.out.2.2 HFI.out.1 HOW.out).mono ?_); (rintro e w135 ⟨rfl, hb⟩; refine ⟨_, rfl, ?_⟩; rw [HWV.out]; have n_IG := Aside0.mk (IG.out.step hb); clear IG hg0 hg1 hg2 hg3; have IG := n_IG; clear n_IG; have hg0 : w135.cell? ⟨gg, 0, none⟩ = some (.int .i64 7) := IG.out.c0; have hg1 : w135.cell? ⟨gg, 1, none⟩ = some (.int .i64 0) := IG.out.c1; have hg2 : w135.cell? ⟨gg, 2, none⟩ = some (.string (⟨#[]⟩ : ByteArray)) := IG.out.c2; have hg3 : w135.cell? ⟨gg, 3, none⟩ = some (.slice (some ⟨gl, 0, none⟩) 1 1) := IG.out.c3; clear hb)) | ((with_reducible refine gate_dst (N := 38) rfl ?_); refine goesL_ (some 38) rfl rfl Try.func10 (by kernel_rfl) rfl #[] rfl (by (try simp only [List.map_toArray, List.map_cons, List.map_nil]); first | done | rfl) ?_; (refine (told_calls _).mono ?_); (rintro e w138 ⟨rfl, hb⟩; refine ⟨_, rfl, ?_⟩; have n_IG := Aside0.mk (IG.out.step hb); clear IG hg0 hg1 hg2 hg3; have IG := n_IG; clear n_IG; have hg0 : w138.cell? ⟨gg, 0, none⟩ = some (.int .i64 7) := IG.out.c0; have hg1 : w138.cell? ⟨gg, 1, none⟩ = some (.int .i64 0) := IG.out.c1; have hg2 : w138.cell? ⟨gg, 2, none⟩ = some (.string (⟨#[]⟩ : ByteArray)) := IG.out.c2; have hg3 : w138.cell? ⟨gg, 3, none⟩ = some (.slice (some ⟨gl, 0, none⟩) 1 1) := IG.out.c3; clear hb)))
  go_ret
  exact ⟨rfl, below_step HB1.out IG.out.hb⟩
set_option maxHeartbeats 4000000 in
set_option maxRecDepth 100000 in
theorem wide_main (hx : Dc w x A c) (hf : decide (fewD (grp x) 60 ≤ 500) = true) (hm : mayB (grp x) = true) (hc : frcB (grp x) = false) (hbig : wdV (grp x) ≤ 10000) : WideAt w x A c := by
  have hu24 := Try.underlying24
  have hu22 := Try.underlying22
  have hu30 := Try.underlying30
  have HX_IV := Aside0.mk hx
  clear hx
  have HFW := Aside0.mk hf
  have HFI := Aside0.mk (few_small hf)
  have HMY := Aside0.mk hm
  clear hf hm
  have HFC := Aside0.mk hc
  have HFL : Aside0 ((if frcB (grp x) = true then ((⟨#[]⟩ : ByteArray), false) else (flatV (grp x), true)) = (flatV x, true)) := ⟨by rw [hc, grp_flat]; rfl⟩
  have HOW := Aside0.mk (mayB_own HMY.out)
  obtain ⟨v, hv⟩ : ∃ v, wdV (grp x) = v := ⟨_, rfl⟩
  have HWV := Aside0.mk hv
  have hv0 : 0 ≤ v := by have := (wdV_le _ HFI.out.2.2).1; omega
  have hvb : decide (10000 < v) = false := decide_eq_false (by omega)
  have hv1 : v ≤ 10000 := by omega
  have hm1 : 1 ≤ mx v 1 ∧ mx v 1 ≤ 10000 ∧ v ≤ mx v 1 := by unfold mx; split <;> omega
  have hm2 : 1 ≤ mx (wrap64 (v - 1)) 1 ∧ mx (wrap64 (v - 1)) 1 ≤ 10000 := by
    have hw : wrap64 (v - 1) = v - 1 := by unfold wrap64; omega
    rw [hw]
    unfold mx
    split <;> omega
  have hov : allOwn x = true := grp_may_of HMY.out
  have hfx : frcB x = false := by rw [← grp_frc]; exact hc
  have hwx : wdV x = v := by rw [← grp_wd]; exact hv
  obtain ⟨o1, o2, k1, o3⟩ := grp_on x (mx v 1) hfx hov (by omega)
  obtain ⟨p1, p2, k2, p3⟩ := grp_on x 10000 hfx hov (by omega)
  obtain ⟨m3, q3⟩ := grp_modes x (mx (wrap64 (v - 1)) 1)
  have T1 := Aside0.mk (show renT (grp x) (mx v 1) = flatV x ∧ renE (grp x) (mx v 1) = 0 ∧ renM (grp x) (mx v 1) = true :: List.replicate k1 true from ren_of (by omega) (by omega) HMY.out o2 (by rw [o3]; rfl))
  have T2 := Aside0.mk (show renT (grp x) 10000 = flatV x ∧ renE (grp x) 10000 = 0 ∧ renM (grp x) 10000 = true :: List.replicate k2 true from ren_of (by omega) (by omega) HMY.out p2 (by rw [p3]; rfl))
  have T3 := Aside0.mk (show renM (grp x) (mx (wrap64 (v - 1)) 1) = decide (v ≤ mx (wrap64 (v - 1)) 1) :: m3 from by
    rw [renM, if_pos ((okR_iff _ _).2 ⟨by omega, by omega, HMY.out⟩), q3, fit_grp, hfx, hwx, Int.zero_add, Int.add_zero]
    rfl)
  obtain ⟨n1, hn1⟩ : ∃ n, (List.replicate k1 true).length + 1 = n := ⟨_, rfl⟩
  obtain ⟨n3, hn3⟩ : ∃ n, m3.length + 1 = n := ⟨_, rfl⟩
  have n1a : ((n1 : Int) == 0) = false := by rw [beq_eq_false_iff_ne]; omega
  have n1b : (0 : Int) < (n1 : Int) := by omega
  have n3a : decide ((0 : Int) < (n3 : Int)) = true := decide_eq_true (by omega)
  have n3b : (0 : Int) < (n3 : Int) := by omega
  have HN1 := Aside0.mk hn1
  have HN3 := Aside0.mk hn3
  obtain ⟨q, hq⟩ : ∃ q, decide (v ≤ mx (wrap64 (v - 1)) 1) = q := ⟨_, rfl⟩
  have HQ := Aside0.mk hq
  have HQ1 : Aside0 (decide (v ≤ 1) = q) := ⟨by
    rw [← hq]
    have hw : wrap64 (v - 1) = v - 1 := by unfold wrap64; omega
    rw [hw]
    unfold mx
    congr 1
    apply propext
    split <;> omega⟩
  have HQ2 : Aside0 (1 ≤ wrap64 (v - 1) → decide (v ≤ wrap64 (v - 1)) = q) := ⟨fun h => by
    rw [← hq]
    unfold mx
    congr 1
    apply propext
    split <;> omega⟩
  clear hc hv hbig hv0 hv1 hm1 hm2 hov hfx hwx o1 o2 o3 p1 p2 p3 q3 hn1 hn3
  unfold WideAt DA
  go_enter Try.func5, Try.ntmps5
  go_upto_region 2 with (first | ((with_reducible refine gate_dst (N := 1) rfl ?_); (try (refine gate_guard (by rfl) ?_; dsimp only)); refine box_event ?hg (N := 1) ?hd (cs := #[.int .i64 x.f0, .int .i64 x.f1, .string x.f2, .slice A x.f3.length c]) (t := 24) ?hr ?_; (case hd => rfl); (case hg => rfl); (case hr => first | (go_simp; done) | (go_simp; rfl)); intro ga hg w1 hbox hb; have IV := Aside0.mk (IvD.mk hb hbox HX_IV.out); have hx0 := IV.out.c0; have hx1 := IV.out.c1; have hx2 := IV.out.c2; have hx3 := IV.out.c3; clear hb hbox hg))
  have F := grp_world (x := x) (A := A) (c := c) IV.out.dx
  have HB0 := Aside0.mk IV.out.hb
  clear IV hx0 hx1 hx2 hx3
  generalize World.alloc (World.alloc w1 _) _ = w5 at F ⊢
  generalize w1.heap.size + 1 = gg at F ⊢
  generalize hgl : w1.heap.size = gl at F ⊢
  have HB1 := Aside0.mk (below_step HB0.out (hgl ▸ F.1))
  have IG := Aside0.mk F.2
  clear F HB0 hgl
  have hg0 : w5.cell? ⟨gg, 0, none⟩ = some (.int .i64 7) := IG.out.c0
  have hg1 : w5.cell? ⟨gg, 1, none⟩ = some (.int .i64 0) := IG.out.c1
  have hg2 : w5.cell? ⟨gg, 2, none⟩ = some (.string (⟨#[]⟩ : ByteArray)) := IG.out.c2
  have hg3 : w5.cell? ⟨gg, 3, none⟩ = some (.slice (some ⟨gl, 0, none⟩) 1 1) := IG.out.c3
  cases q
  · go_wp2_with (first | ((with_reducible refine gate_dst (N := 17) rfl ?_); refine goesL_ (some 17) rfl rfl Try.func9 (by kernel_rfl) rfl #[.agg #[.int .i64 7, .int .i64 0, .string (⟨#[]⟩ : ByteArray), .slice (some ⟨gl, 0, none⟩) 1 1]] rfl (by (try simp only [List.map_toArray, List.map_cons, List.map_nil]); first | done | rfl) ?_; (refine (few_of (grp x) (some ⟨gl, 0, none⟩) 1 true _ IG.out.dx HFW.out).mono ?_); (rintro e w117 ⟨rfl, hb⟩; refine ⟨_, rfl, ?_⟩; have n_IG := Aside0.mk (IG.out.step hb); clear IG hg0 hg1 hg2 hg3; have IG := n_IG; clear n_IG; have hg0 : w117.cell? ⟨gg, 0, none⟩ = some (.int .i64 7) := IG.out.c0; have hg1 : w117.cell? ⟨gg, 1, none⟩ = some (.int .i64 0) := IG.out.c1; have hg2 : w117.cell? ⟨gg, 2, none⟩ = some (.string (⟨#[]⟩ : ByteArray)) := IG.out.c2; have hg3 : w117.cell? ⟨gg, 3, none⟩ = some (.slice (some ⟨gl, 0, none⟩) 1 1) := IG.out.c3; clear hb)) | ((with_reducible refine gate_dst (N := 21) rfl ?_); (refine gate_guard (by rfl) ?_; dsimp only); refine goesL_ (some 21) rfl rfl Try.func15 (by kernel_rfl) rfl #[.agg #[.int .i64 7, .int .i64 0, .string (⟨#[]⟩ : ByteArray), .slice (some ⟨gl, 0, none⟩) 1 1]] rfl (by (try simp only [List.map_toArray, List.map_cons, List.map_nil]); first | done | rfl) ?_; (refine (may_of (grp x) (some ⟨gl, 0, none⟩) 1 true _ IG.out.dx HFI.out.2.2 HFI.out.1 HFI.out.2.1 HMY.out).mono ?_); (rintro e w121 ⟨rfl, hb⟩; refine ⟨_, rfl, ?_⟩; have n_IG := Aside0.mk (IG.out.step hb); clear IG hg0 hg1 hg2 hg3; have IG := n_IG; clear n_IG; have hg0 : w121.cell? ⟨gg, 0, none⟩ = some (.int .i64 7) := IG.out.c0; have hg1 : w121.cell? ⟨gg, 1, none⟩ = some (.int .i64 0) := IG.out.c1; have hg2 : w121.cell? ⟨gg, 2, none⟩ = some (.string (⟨#[]⟩ : ByteArray)) := IG.out.c2; have hg3 : w121.cell? ⟨gg, 3, none⟩ = some (.slice (some ⟨gl, 0, none⟩) 1 1) := IG.out.c3; clear hb)) | ((with_reducible refine gate_dst (N := 26) rfl ?_); (refine gate_guard (by rfl) ?_; dsimp only); refine goesL_ (some 26) rfl rfl Try.func17 (by kernel_rfl) rfl #[.agg #[.int .i64 7, .int .i64 0, .string (⟨#[]⟩ : ByteArray), .slice (some ⟨gl, 0, none⟩) 1 1]] rfl (by (try simp only [List.map_toArray, List.map_cons, List.map_nil]); first | done | rfl) ?_; (refine (frc_of (grp x) (some ⟨gl, 0, none⟩) 1 false _ IG.out.dx HFI.out.2.2 HFC.out).mono ?_); (rintro e w126 ⟨rfl, hb⟩; refine ⟨_, rfl, ?_⟩; have n_IG := Aside0.mk (IG.out.step hb); clear IG hg0 hg1 hg2 hg3; have IG := n_IG; clear n_IG; have hg0 : w126.cell? ⟨gg, 0, none⟩ = some (.int .i64 7) := IG.out.c0; have hg1 : w126.cell? ⟨gg, 1, none⟩ = some (.int .i64 0) := IG.out.c1; have hg2 : w126.cell? ⟨gg, 2, none⟩ = some (.string (⟨#[]⟩ : ByteArray)) := IG.out.c2; have hg3 : w126.cell? ⟨gg, 3, none⟩ = some (.slice (some ⟨gl, 0, none⟩) 1 1) := IG.out.c3; clear hb)) | ((with_reducible refine gate_dst (N := 31) rfl ?_); refine goesL_ (some 31) rfl rfl Try.func18 (by kernel_rfl) rfl #[.agg #[.int .i64 7, .int .i64 0, .string (⟨#[]⟩ : ByteArray), .slice (some ⟨gl, 0, none⟩) 1 1]] rfl (by (try simp only [List.map_toArray, List.map_cons, List.map_nil]); first | done | rfl) ?_; (refine (flat_of (grp x) (some ⟨gl, 0, none⟩) 1 (flatV x) true _ IG.out.dx HFI.out.2.2 HFI.out.1 HFL.out).mono ?_); (rintro e w131 ⟨rfl, hb⟩; refine ⟨_, rfl, ?_⟩; have n_IG := Aside0.mk (IG.out.step hb); clear IG hg0 hg1 hg2 hg3; have IG := n_IG; clear n_IG; have hg0 : w131.cell? ⟨gg, 0, none⟩ = some (.int .i64 7) := IG.out.c0; have hg1 : w131.cell? ⟨gg, 1, none⟩ = some (.int .i64 0) := IG.out.c1; have hg2 : w131.cell? ⟨gg, 2, none⟩ = some (.string (⟨#[]⟩ : ByteArray)) := IG.out.c2; have hg3 : w131.cell? ⟨gg, 3, none⟩ = some (.slice (some ⟨gl, 0, none⟩) 1 1) := IG.out.c3; clear hb)) | ((with_reducible refine gate_dst (N := 35) rfl ?_); refine goesL_ (some 35) rfl rfl Try.func19 (by kernel_rfl) rfl #[.agg #[.int .i64 7, .int .i64 0, .string (⟨#[]⟩ : ByteArray), .slice (some ⟨gl, 0, none⟩) 1 1]] rfl (by (try simp only [List.map_toArray, List.map_cons, List.map_nil]); first | done | rfl) ?_; (refine (wid_of (grp x) (some ⟨gl, 0, none⟩) 1 _ IG.out.dx HFI.out.2.2 HFI.out.1 HOW.out).mono ?_); (rintro e w135 ⟨rfl, hb⟩; refine ⟨_, rfl, ?_⟩; rw [HWV.out]; have n_IG := Aside0.mk (IG.out.step hb); clear IG hg0 hg1 hg2 hg3; have IG := n_IG; clear n_IG; have hg0 : w135.cell? ⟨gg, 0, none⟩ = some (.int .i64 7) := IG.out.c0; have hg1 : w135.cell? ⟨gg, 1, none⟩ = some (.int .i64 0) := IG.out.c1; have hg2 : w135.cell? ⟨gg, 2, none⟩ = some (.string (⟨#[]⟩ : ByteArray)) := IG.out.c2; have hg3 : w135.cell? ⟨gg, 3, none⟩ = some (.slice (some ⟨gl, 0, none⟩) 1 1) := IG.out.c3; clear hb)) | ((with_reducible refine gate_dst (N := 43) rfl ?_); refine goesL_ (some 43) rfl rfl Try.func11 (by kernel_rfl) rfl #[.agg #[.int .i64 7, .int .i64 0, .string (⟨#[]⟩ : ByteArray), .slice (some ⟨gl, 0, none⟩) 1 1], .int .i64 (mx v 1)] rfl (by (try simp only [List.map_toArray, List.map_cons, List.map_nil]); first | done | rfl) ?_; (refine (rend_of (grp x) (some ⟨gl, 0, none⟩) 1 (mx v 1) (flatV x) 0 _ IG.out.dx HFI.out.2.2 (Nat.le_trans HFI.out.1 (by decide)) T1.out.1 T1.out.2.1).mono ?_); (rintro e w143 ⟨rfl, hb⟩; refine ⟨_, rfl, ?_⟩; have n_IG := Aside0.mk (IG.out.step hb); clear IG hg0 hg1 hg2 hg3; have IG := n_IG; clear n_IG; have hg0 : w143.cell? ⟨gg, 0, none⟩ = some (.int .i64 7) := IG.out.c0; have hg1 : w143.cell? ⟨gg, 1, none⟩ = some (.int .i64 0) := IG.out.c1; have hg2 : w143.cell? ⟨gg, 2, none⟩ = some (.string (⟨#[]⟩ : ByteArray)) := IG.out.c2; have hg3 : w143.cell? ⟨gg, 3, none⟩ = some (.slice (some ⟨gl, 0, none⟩) 1 1) := IG.out.c3; clear hb)) | ((with_reducible refine gate_dst (N := 48) rfl ?_); refine goesL_ (some 48) rfl rfl Try.func11 (by kernel_rfl) rfl #[.agg #[.int .i64 7, .int .i64 0, .string (⟨#[]⟩ : ByteArray), .slice (some ⟨gl, 0, none⟩) 1 1], .int .i64 10000] rfl (by (try simp only [List.map_toArray, List.map_cons, List.map_nil]); first | done | rfl) ?_; (refine (rend_of (grp x) (some ⟨gl, 0, none⟩) 1 10000 (flatV x) 0 _ IG.out.dx HFI.out.2.2 (Nat.le_trans HFI.out.1 (by decide)) T2.out.1 T2.out.2.1).mono ?_); (rintro e w148 ⟨rfl, hb⟩; refine ⟨_, rfl, ?_⟩; have n_IG := Aside0.mk (IG.out.step hb); clear IG hg0 hg1 hg2 hg3; have IG := n_IG; clear n_IG; have hg0 : w148.cell? ⟨gg, 0, none⟩ = some (.int .i64 7) := IG.out.c0; have hg1 : w148.cell? ⟨gg, 1, none⟩ = some (.int .i64 0) := IG.out.c1; have hg2 : w148.cell? ⟨gg, 2, none⟩ = some (.string (⟨#[]⟩ : ByteArray)) := IG.out.c2; have hg3 : w148.cell? ⟨gg, 3, none⟩ = some (.slice (some ⟨gl, 0, none⟩) 1 1) := IG.out.c3; clear hb)) | ((with_reducible refine gate_dst (N := 54) rfl ?_); refine goesL_ (some 54) rfl rfl Try.func13 (by kernel_rfl) rfl #[.agg #[.int .i64 7, .int .i64 0, .string (⟨#[]⟩ : ByteArray), .slice (some ⟨gl, 0, none⟩) 1 1], .int .i64 (mx v 1)] rfl (by (try simp only [List.map_toArray, List.map_cons, List.map_nil]); first | done | rfl) ?_; (refine (modes_of (grp x) (some ⟨gl, 0, none⟩) 1 (mx v 1) (true :: List.replicate k1 true) _ IG.out.dx HFI.out.2.2 (Nat.le_trans HFI.out.1 (by decide)) T1.out.2.2).mono ?_); (rintro e w154 ⟨v54, rfl, hown, hb⟩; refine ⟨_, rfl, ?_⟩; obtain ⟨g1, c1, rfl, hcm⟩ := own_head hown HN1.out; have k1c := hcm; clear hown hcm; have n_IG := Aside0.mk (IG.out.step hb); clear IG hg0 hg1 hg2 hg3; have IG := n_IG; clear n_IG; have hg0 : w154.cell? ⟨gg, 0, none⟩ = some (.int .i64 7) := IG.out.c0; have hg1 : w154.cell? ⟨gg, 1, none⟩ = some (.int .i64 0) := IG.out.c1; have hg2 : w154.cell? ⟨gg, 2, none⟩ = some (.string (⟨#[]⟩ : ByteArray)) := IG.out.c2; have hg3 : w154.cell? ⟨gg, 3, none⟩ = some (.slice (some ⟨gl, 0, none⟩) 1 1) := IG.out.c3; clear hb)) | ((with_reducible refine gate_dst (N := 86) rfl ?_); refine goesL_ (some 86) rfl rfl Try.func13 (by kernel_rfl) rfl #[.agg #[.int .i64 7, .int .i64 0, .string (⟨#[]⟩ : ByteArray), .slice (some ⟨gl, 0, none⟩) 1 1], .int .i64 (mx (wrap64 (v - 1)) 1)] rfl (by (try simp only [List.map_toArray, List.map_cons, List.map_nil]); first | done | rfl) ?_; (refine (modes_of (grp x) (some ⟨gl, 0, none⟩) 1 (mx (wrap64 (v - 1)) 1) (decide (v ≤ mx (wrap64 (v - 1)) 1) :: m3) _ IG.out.dx HFI.out.2.2 (Nat.le_trans HFI.out.1 (by decide)) T3.out).mono ?_); (rintro e w186 ⟨v86, rfl, hown, hb⟩; refine ⟨_, rfl, ?_⟩; obtain ⟨g3, c3, rfl, hcm⟩ := own_head hown HN3.out; rw [HQ.out] at hcm; have OW3 := Aside0.mk hcm; clear hown hcm k1c; have n_IG := Aside0.mk (IG.out.step hb); clear IG hg0 hg1 hg2 hg3; have IG := n_IG; clear n_IG; have hg0 : w186.cell? ⟨gg, 0, none⟩ = some (.int .i64 7) := IG.out.c0; have hg1 : w186.cell? ⟨gg, 1, none⟩ = some (.int .i64 0) := IG.out.c1; have hg2 : w186.cell? ⟨gg, 2, none⟩ = some (.string (⟨#[]⟩ : ByteArray)) := IG.out.c2; have hg3 : w186.cell? ⟨gg, 3, none⟩ = some (.slice (some ⟨gl, 0, none⟩) 1 1) := IG.out.c3; clear hb)) | ((with_reducible refine gate_dst (N := 87) rfl ?_); refine goesL_ (some 87) rfl rfl Try.func10 (by kernel_rfl) rfl #[] rfl (by (try simp only [List.map_toArray, List.map_cons, List.map_nil]); first | done | rfl) ?_; (refine (told_calls _).mono ?_); (rintro e w187 ⟨rfl, hb⟩; refine ⟨_, rfl, ?_⟩; have k3c := bc hb OW3.out; have n_IG := Aside0.mk (IG.out.step hb); clear IG hg0 hg1 hg2 hg3; have IG := n_IG; clear n_IG; have hg0 : w187.cell? ⟨gg, 0, none⟩ = some (.int .i64 7) := IG.out.c0; have hg1 : w187.cell? ⟨gg, 1, none⟩ = some (.int .i64 0) := IG.out.c1; have hg2 : w187.cell? ⟨gg, 2, none⟩ = some (.string (⟨#[]⟩ : ByteArray)) := IG.out.c2; have hg3 : w187.cell? ⟨gg, 3, none⟩ = some (.slice (some ⟨gl, 0, none⟩) 1 1) := IG.out.c3; clear hb)))
    all_goals (go_ret; refine ⟨?_, below_step HB1.out IG.out.hb⟩; first | (show Ending.returned (.bool (!decide (v ≤ 1))) = _; rw [HQ1.out] <;> rfl) | (show Ending.returned (.bool (!decide (v ≤ wrap64 (v - 1)))) = _; rw [HQ2.out (by assumption)] <;> rfl))
  · go_wp2_with (first | ((with_reducible refine gate_dst (N := 17) rfl ?_); refine goesL_ (some 17) rfl rfl Try.func9 (by kernel_rfl) rfl #[.agg #[.int .i64 7, .int .i64 0, .string (⟨#[]⟩ : ByteArray), .slice (some ⟨gl, 0, none⟩) 1 1]] rfl (by (try simp only [List.map_toArray, List.map_cons, List.map_nil]); first | done | rfl) ?_; (refine (few_of (grp x) (some ⟨gl, 0, none⟩) 1 true _ IG.out.dx HFW.out).mono ?_); (rintro e w117 ⟨rfl, hb⟩; refine ⟨_, rfl, ?_⟩; have n_IG := Aside0.mk (IG.out.step hb); clear IG hg0 hg1 hg2 hg3; have IG := n_IG; clear n_IG; have hg0 : w117.cell? ⟨gg, 0, none⟩ = some (.int .i64 7) := IG.out.c0; have hg1 : w117.cell? ⟨gg, 1, none⟩ = some (.int .i64 0) := IG.out.c1; have hg2 : w117.cell? ⟨gg, 2, none⟩ = some (.string (⟨#[]⟩ : ByteArray)) := IG.out.c2; have hg3 : w117.cell? ⟨gg, 3, none⟩ = some (.slice (some ⟨gl, 0, none⟩) 1 1) := IG.out.c3; clear hb)) | ((with_reducible refine gate_dst (N := 21) rfl ?_); (refine gate_guard (by rfl) ?_; dsimp only); refine goesL_ (some 21) rfl rfl Try.func15 (by kernel_rfl) rfl #[.agg #[.int .i64 7, .int .i64 0, .string (⟨#[]⟩ : ByteArray), .slice (some ⟨gl, 0, none⟩) 1 1]] rfl (by (try simp only [List.map_toArray, List.map_cons, List.map_nil]); first | done | rfl) ?_; (refine (may_of (grp x) (some ⟨gl, 0, none⟩) 1 true _ IG.out.dx HFI.out.2.2 HFI.out.1 HFI.out.2.1 HMY.out).mono ?_); (rintro e w121 ⟨rfl, hb⟩; refine ⟨_, rfl, ?_⟩; have n_IG := Aside0.mk (IG.out.step hb); clear IG hg0 hg1 hg2 hg3; have IG := n_IG; clear n_IG; have hg0 : w121.cell? ⟨gg, 0, none⟩ = some (.int .i64 7) := IG.out.c0; have hg1 : w121.cell? ⟨gg, 1, none⟩ = some (.int .i64 0) := IG.out.c1; have hg2 : w121.cell? ⟨gg, 2, none⟩ = some (.string (⟨#[]⟩ : ByteArray)) := IG.out.c2; have hg3 : w121.cell? ⟨gg, 3, none⟩ = some (.slice (some ⟨gl, 0, none⟩) 1 1) := IG.out.c3; clear hb)) | ((with_reducible refine gate_dst (N := 26) rfl ?_); (refine gate_guard (by rfl) ?_; dsimp only); refine goesL_ (some 26) rfl rfl Try.func17 (by kernel_rfl) rfl #[.agg #[.int .i64 7, .int .i64 0, .string (⟨#[]⟩ : ByteArray), .slice (some ⟨gl, 0, none⟩) 1 1]] rfl (by (try simp only [List.map_toArray, List.map_cons, List.map_nil]); first | done | rfl) ?_; (refine (frc_of (grp x) (some ⟨gl, 0, none⟩) 1 false _ IG.out.dx HFI.out.2.2 HFC.out).mono ?_); (rintro e w126 ⟨rfl, hb⟩; refine ⟨_, rfl, ?_⟩; have n_IG := Aside0.mk (IG.out.step hb); clear IG hg0 hg1 hg2 hg3; have IG := n_IG; clear n_IG; have hg0 : w126.cell? ⟨gg, 0, none⟩ = some (.int .i64 7) := IG.out.c0; have hg1 : w126.cell? ⟨gg, 1, none⟩ = some (.int .i64 0) := IG.out.c1; have hg2 : w126.cell? ⟨gg, 2, none⟩ = some (.string (⟨#[]⟩ : ByteArray)) := IG.out.c2; have hg3 : w126.cell? ⟨gg, 3, none⟩ = some (.slice (some ⟨gl, 0, none⟩) 1 1) := IG.out.c3; clear hb)) | ((with_reducible refine gate_dst (N := 31) rfl ?_); refine goesL_ (some 31) rfl rfl Try.func18 (by kernel_rfl) rfl #[.agg #[.int .i64 7, .int .i64 0, .string (⟨#[]⟩ : ByteArray), .slice (some ⟨gl, 0, none⟩) 1 1]] rfl (by (try simp only [List.map_toArray, List.map_cons, List.map_nil]); first | done | rfl) ?_; (refine (flat_of (grp x) (some ⟨gl, 0, none⟩) 1 (flatV x) true _ IG.out.dx HFI.out.2.2 HFI.out.1 HFL.out).mono ?_); (rintro e w131 ⟨rfl, hb⟩; refine ⟨_, rfl, ?_⟩; have n_IG := Aside0.mk (IG.out.step hb); clear IG hg0 hg1 hg2 hg3; have IG := n_IG; clear n_IG; have hg0 : w131.cell? ⟨gg, 0, none⟩ = some (.int .i64 7) := IG.out.c0; have hg1 : w131.cell? ⟨gg, 1, none⟩ = some (.int .i64 0) := IG.out.c1; have hg2 : w131.cell? ⟨gg, 2, none⟩ = some (.string (⟨#[]⟩ : ByteArray)) := IG.out.c2; have hg3 : w131.cell? ⟨gg, 3, none⟩ = some (.slice (some ⟨gl, 0, none⟩) 1 1) := IG.out.c3; clear hb)) | ((with_reducible refine gate_dst (N := 35) rfl ?_); refine goesL_ (some 35) rfl rfl Try.func19 (by kernel_rfl) rfl #[.agg #[.int .i64 7, .int .i64 0, .string (⟨#[]⟩ : ByteArray), .slice (some ⟨gl, 0, none⟩) 1 1]] rfl (by (try simp only [List.map_toArray, List.map_cons, List.map_nil]); first | done | rfl) ?_; (refine (wid_of (grp x) (some ⟨gl, 0, none⟩) 1 _ IG.out.dx HFI.out.2.2 HFI.out.1 HOW.out).mono ?_); (rintro e w135 ⟨rfl, hb⟩; refine ⟨_, rfl, ?_⟩; rw [HWV.out]; have n_IG := Aside0.mk (IG.out.step hb); clear IG hg0 hg1 hg2 hg3; have IG := n_IG; clear n_IG; have hg0 : w135.cell? ⟨gg, 0, none⟩ = some (.int .i64 7) := IG.out.c0; have hg1 : w135.cell? ⟨gg, 1, none⟩ = some (.int .i64 0) := IG.out.c1; have hg2 : w135.cell? ⟨gg, 2, none⟩ = some (.string (⟨#[]⟩ : ByteArray)) := IG.out.c2; have hg3 : w135.cell? ⟨gg, 3, none⟩ = some (.slice (some ⟨gl, 0, none⟩) 1 1) := IG.out.c3; clear hb)) | ((with_reducible refine gate_dst (N := 43) rfl ?_); refine goesL_ (some 43) rfl rfl Try.func11 (by kernel_rfl) rfl #[.agg #[.int .i64 7, .int .i64 0, .string (⟨#[]⟩ : ByteArray), .slice (some ⟨gl, 0, none⟩) 1 1], .int .i64 (mx v 1)] rfl (by (try simp only [List.map_toArray, List.map_cons, List.map_nil]); first | done | rfl) ?_; (refine (rend_of (grp x) (some ⟨gl, 0, none⟩) 1 (mx v 1) (flatV x) 0 _ IG.out.dx HFI.out.2.2 (Nat.le_trans HFI.out.1 (by decide)) T1.out.1 T1.out.2.1).mono ?_); (rintro e w143 ⟨rfl, hb⟩; refine ⟨_, rfl, ?_⟩; have n_IG := Aside0.mk (IG.out.step hb); clear IG hg0 hg1 hg2 hg3; have IG := n_IG; clear n_IG; have hg0 : w143.cell? ⟨gg, 0, none⟩ = some (.int .i64 7) := IG.out.c0; have hg1 : w143.cell? ⟨gg, 1, none⟩ = some (.int .i64 0) := IG.out.c1; have hg2 : w143.cell? ⟨gg, 2, none⟩ = some (.string (⟨#[]⟩ : ByteArray)) := IG.out.c2; have hg3 : w143.cell? ⟨gg, 3, none⟩ = some (.slice (some ⟨gl, 0, none⟩) 1 1) := IG.out.c3; clear hb)) | ((with_reducible refine gate_dst (N := 48) rfl ?_); refine goesL_ (some 48) rfl rfl Try.func11 (by kernel_rfl) rfl #[.agg #[.int .i64 7, .int .i64 0, .string (⟨#[]⟩ : ByteArray), .slice (some ⟨gl, 0, none⟩) 1 1], .int .i64 10000] rfl (by (try simp only [List.map_toArray, List.map_cons, List.map_nil]); first | done | rfl) ?_; (refine (rend_of (grp x) (some ⟨gl, 0, none⟩) 1 10000 (flatV x) 0 _ IG.out.dx HFI.out.2.2 (Nat.le_trans HFI.out.1 (by decide)) T2.out.1 T2.out.2.1).mono ?_); (rintro e w148 ⟨rfl, hb⟩; refine ⟨_, rfl, ?_⟩; have n_IG := Aside0.mk (IG.out.step hb); clear IG hg0 hg1 hg2 hg3; have IG := n_IG; clear n_IG; have hg0 : w148.cell? ⟨gg, 0, none⟩ = some (.int .i64 7) := IG.out.c0; have hg1 : w148.cell? ⟨gg, 1, none⟩ = some (.int .i64 0) := IG.out.c1; have hg2 : w148.cell? ⟨gg, 2, none⟩ = some (.string (⟨#[]⟩ : ByteArray)) := IG.out.c2; have hg3 : w148.cell? ⟨gg, 3, none⟩ = some (.slice (some ⟨gl, 0, none⟩) 1 1) := IG.out.c3; clear hb)) | ((with_reducible refine gate_dst (N := 54) rfl ?_); refine goesL_ (some 54) rfl rfl Try.func13 (by kernel_rfl) rfl #[.agg #[.int .i64 7, .int .i64 0, .string (⟨#[]⟩ : ByteArray), .slice (some ⟨gl, 0, none⟩) 1 1], .int .i64 (mx v 1)] rfl (by (try simp only [List.map_toArray, List.map_cons, List.map_nil]); first | done | rfl) ?_; (refine (modes_of (grp x) (some ⟨gl, 0, none⟩) 1 (mx v 1) (true :: List.replicate k1 true) _ IG.out.dx HFI.out.2.2 (Nat.le_trans HFI.out.1 (by decide)) T1.out.2.2).mono ?_); (rintro e w154 ⟨v54, rfl, hown, hb⟩; refine ⟨_, rfl, ?_⟩; obtain ⟨g1, c1, rfl, hcm⟩ := own_head hown HN1.out; have k1c := hcm; clear hown hcm; have n_IG := Aside0.mk (IG.out.step hb); clear IG hg0 hg1 hg2 hg3; have IG := n_IG; clear n_IG; have hg0 : w154.cell? ⟨gg, 0, none⟩ = some (.int .i64 7) := IG.out.c0; have hg1 : w154.cell? ⟨gg, 1, none⟩ = some (.int .i64 0) := IG.out.c1; have hg2 : w154.cell? ⟨gg, 2, none⟩ = some (.string (⟨#[]⟩ : ByteArray)) := IG.out.c2; have hg3 : w154.cell? ⟨gg, 3, none⟩ = some (.slice (some ⟨gl, 0, none⟩) 1 1) := IG.out.c3; clear hb)) | ((with_reducible refine gate_dst (N := 86) rfl ?_); refine goesL_ (some 86) rfl rfl Try.func13 (by kernel_rfl) rfl #[.agg #[.int .i64 7, .int .i64 0, .string (⟨#[]⟩ : ByteArray), .slice (some ⟨gl, 0, none⟩) 1 1], .int .i64 (mx (wrap64 (v - 1)) 1)] rfl (by (try simp only [List.map_toArray, List.map_cons, List.map_nil]); first | done | rfl) ?_; (refine (modes_of (grp x) (some ⟨gl, 0, none⟩) 1 (mx (wrap64 (v - 1)) 1) (decide (v ≤ mx (wrap64 (v - 1)) 1) :: m3) _ IG.out.dx HFI.out.2.2 (Nat.le_trans HFI.out.1 (by decide)) T3.out).mono ?_); (rintro e w186 ⟨v86, rfl, hown, hb⟩; refine ⟨_, rfl, ?_⟩; obtain ⟨g3, c3, rfl, hcm⟩ := own_head hown HN3.out; rw [HQ.out] at hcm; have OW3 := Aside0.mk hcm; clear hown hcm k1c; have n_IG := Aside0.mk (IG.out.step hb); clear IG hg0 hg1 hg2 hg3; have IG := n_IG; clear n_IG; have hg0 : w186.cell? ⟨gg, 0, none⟩ = some (.int .i64 7) := IG.out.c0; have hg1 : w186.cell? ⟨gg, 1, none⟩ = some (.int .i64 0) := IG.out.c1; have hg2 : w186.cell? ⟨gg, 2, none⟩ = some (.string (⟨#[]⟩ : ByteArray)) := IG.out.c2; have hg3 : w186.cell? ⟨gg, 3, none⟩ = some (.slice (some ⟨gl, 0, none⟩) 1 1) := IG.out.c3; clear hb)) | ((with_reducible refine gate_dst (N := 87) rfl ?_); refine goesL_ (some 87) rfl rfl Try.func10 (by kernel_rfl) rfl #[] rfl (by (try simp only [List.map_toArray, List.map_cons, List.map_nil]); first | done | rfl) ?_; (refine (told_calls _).mono ?_); (rintro e w187 ⟨rfl, hb⟩; refine ⟨_, rfl, ?_⟩; have k3c := bc hb OW3.out; have n_IG := Aside0.mk (IG.out.step hb); clear IG hg0 hg1 hg2 hg3; have IG := n_IG; clear n_IG; have hg0 : w187.cell? ⟨gg, 0, none⟩ = some (.int .i64 7) := IG.out.c0; have hg1 : w187.cell? ⟨gg, 1, none⟩ = some (.int .i64 0) := IG.out.c1; have hg2 : w187.cell? ⟨gg, 2, none⟩ = some (.string (⟨#[]⟩ : ByteArray)) := IG.out.c2; have hg3 : w187.cell? ⟨gg, 3, none⟩ = some (.slice (some ⟨gl, 0, none⟩) 1 1) := IG.out.c3; clear hb)))
    all_goals (go_ret; refine ⟨?_, below_step HB1.out IG.out.hb⟩; first | (show Ending.returned (.bool (decide (v ≤ 1))) = _; rw [HQ1.out] <;> rfl) | (show Ending.returned (.bool (decide (v ≤ wrap64 (v - 1)))) = _; rw [HQ2.out (by assumption)] <;> rfl))
theorem RenderWide_walk (x : S24) (A : Option Addr) (c : Nat) (hx : Dc w x A c) : Calls Try.prog 5 #[.agg #[.int .i64 x.f0, .int .i64 x.f1, .string x.f2, .slice A x.f3.length c]] w fun e w' => e = .returned (.bool true) ∧ Below w.heap.size w w' := by
  show WideAt w x A c
  cases hf : decide (fewD (grp x) 60 ≤ 500)
  · exact wide_few hx hf
  cases hm : mayB (grp x)
  · exact wide_may hx hf hm
  cases hc : frcB (grp x)
  · by_cases hb : 10000 < wdV (grp x)
    · exact wide_big hx hf hm hc hb
    · exact wide_main hx hf hm hc (by omega)
  · exact wide_frc hx hf hm hc
end
end Go.Proofs.Ytigihiggpfjbjaa.PR
