/- RenderSame: the walk. -/
import Derived.Test.YtigihiggpfjbjaaHLG
namespace Go.Proofs.Ytigihiggpfjbjaa.PR
open Go.RowKit Go.Proofs.YtigihiggpfjbjaaW.PrintWords Go.Proofs.YtigihiggpfjbjaaW.PrintLast Go.Proofs.YtigihiggpfjbjaaW.PrintMore
set_option linter.unusedVariables false
set_option linter.unusedSimpArgs false
/-- A row of nothing, what came in nested by nothing, a row of nothing. -/
def nst (d : S24) : S24 := ⟨6, 0, ⟨#[]⟩, [d]⟩
def same (d : S24) : S24 := ⟨5, 0, ⟨#[]⟩, [⟨1, 0, ⟨#[]⟩, []⟩, nst d, ⟨5, 0, ⟨#[]⟩, []⟩]⟩
theorem same_fin {d : S24} (h : finD d) : finD (same d) := ⟨by show 0 ≤ 100; omega, by show 3 ≤ 500; omega, ⟨by show 0 ≤ 100; omega, by show 0 ≤ 500; omega, trivial⟩, ⟨by show 0 ≤ 100; omega, by show 1 ≤ 500; omega, h, trivial⟩, ⟨by show 0 ≤ 100; omega, by show 0 ≤ 500; omega, trivial⟩, trivial⟩
theorem same_cnt (d : S24) : cnt (same d) = 4 + cnt d := by
  rw [cnt_eq, same, nst]
  simp only [cntL, cnt]
  omega
theorem same_may {d : S24} (h : mayB d = true) (hc : cnt d ≤ 1000) (hd : dep d ≤ 1000) : mayB (same d) = true := by
  have ho := mayB_own h
  unfold mayB
  rw [Bool.and_eq_true, Bool.and_eq_true, decide_eq_true_eq, decide_eq_true_eq]
  refine ⟨⟨?_, ?_⟩, ?_⟩
  · simp [allOwn, allOwnL, same, nst, ownB, emp_toList, ho, has10]
  · rw [dep_eq, same, nst]
    simp only [depL, dep]
    omega
  · rw [same_cnt]
    omega
theorem same_ren (d : S24) (wd : Int) : renS (same d) wd = renS d wd := by
  unfold renS same nst
  have et : ∀ (n : Int) (f : Bool) (fr : Int) (S : St), rend wd ⟨1, 0, ⟨#[]⟩, []⟩ n f fr S = S := fun n f fr S => by
    unfold rend
    rw [if_pos rfl]
    unfold textP
    rw [if_pos emp_toList]
  have ec : ∀ (n : Int) (f : Bool) (fr : Int) (S : St), rend wd ⟨5, 0, ⟨#[]⟩, []⟩ n f fr S = S := fun n f fr S => by
    unfold rend
    rw [if_neg (by decide), if_neg (by decide), if_neg (by decide)]
    rfl
  have en : ∀ (n : Int) (f : Bool) (fr : Int) (S : St), rend wd ⟨6, 0, ⟨#[]⟩, [d]⟩ n f fr S = rend wd d (n + 0) f fr S := fun n f fr S => by
    rw [rend, if_neg (by decide), if_neg (by decide), if_neg (by decide), rendL, rendL, frL]
  have e0 : frL [(⟨5, 0, ⟨#[]⟩, []⟩ : S24)] 0 = 0 := by decide
  rw [rend, if_neg (by decide), if_neg (by decide), if_neg (by decide), rendL, rendL, rendL, rendL, et, en, ec, e0]
  rfl
theorem same_world {w : World} {x : S24} {A : Option Addr} {c : Nat} (hx : Dc w x A c) :
    Below w.heap.size w (((w.alloc (.cells #[.int .i64 x.f0, .int .i64 x.f1, .string x.f2, .slice A x.f3.length c] 24)).alloc (.cells #[.int .i64 1, .int .i64 0, .string (⟨#[]⟩ : ByteArray), .slice none 0 0, .int .i64 6, .int .i64 0, .string (⟨#[]⟩ : ByteArray), .slice (some ⟨w.heap.size, 0, none⟩) 1 1, .int .i64 5, .int .i64 0, .string (⟨#[]⟩ : ByteArray), .slice none 0 0] 24)).alloc (.cells #[.int .i64 5, .int .i64 0, .string (⟨#[]⟩ : ByteArray), .slice (some ⟨w.heap.size + 1, 0, none⟩) 3 3] 24)) ∧
    IvD (((w.alloc (.cells #[.int .i64 x.f0, .int .i64 x.f1, .string x.f2, .slice A x.f3.length c] 24)).alloc (.cells #[.int .i64 1, .int .i64 0, .string (⟨#[]⟩ : ByteArray), .slice none 0 0, .int .i64 6, .int .i64 0, .string (⟨#[]⟩ : ByteArray), .slice (some ⟨w.heap.size, 0, none⟩) 1 1, .int .i64 5, .int .i64 0, .string (⟨#[]⟩ : ByteArray), .slice none 0 0] 24)).alloc (.cells #[.int .i64 5, .int .i64 0, .string (⟨#[]⟩ : ByteArray), .slice (some ⟨w.heap.size + 1, 0, none⟩) 3 3] 24)) (((w.alloc (.cells #[.int .i64 x.f0, .int .i64 x.f1, .string x.f2, .slice A x.f3.length c] 24)).alloc (.cells #[.int .i64 1, .int .i64 0, .string (⟨#[]⟩ : ByteArray), .slice none 0 0, .int .i64 6, .int .i64 0, .string (⟨#[]⟩ : ByteArray), .slice (some ⟨w.heap.size, 0, none⟩) 1 1, .int .i64 5, .int .i64 0, .string (⟨#[]⟩ : ByteArray), .slice none 0 0] 24)).alloc (.cells #[.int .i64 5, .int .i64 0, .string (⟨#[]⟩ : ByteArray), .slice (some ⟨w.heap.size + 1, 0, none⟩) 3 3] 24)) (w.heap.size + 1 + 1) (same x) (some ⟨w.heap.size + 1, 0, none⟩) 3 := by
  have hb1 : Below w.heap.size w (w.alloc (.cells #[.int .i64 x.f0, .int .i64 x.f1, .string x.f2, .slice A x.f3.length c] 24)) := below_alloc (Below.refl _ _) _
  have hl := blk_new w (.cells #[.int .i64 x.f0, .int .i64 x.f1, .string x.f2, .slice A x.f3.length c] 24)
  have hx1 := hx.below hb1
  have hz := alloc_size w (.cells #[.int .i64 x.f0, .int .i64 x.f1, .string x.f2, .slice A x.f3.length c] 24)
  generalize w.alloc (.cells #[.int .i64 x.f0, .int .i64 x.f1, .string x.f2, .slice A x.f3.length c] 24) = w1 at hb1 hl hx1 hz ⊢
  have hb2 : Below w1.heap.size w1 (w1.alloc (.cells #[.int .i64 1, .int .i64 0, .string (⟨#[]⟩ : ByteArray), .slice none 0 0, .int .i64 6, .int .i64 0, .string (⟨#[]⟩ : ByteArray), .slice (some ⟨w.heap.size, 0, none⟩) 1 1, .int .i64 5, .int .i64 0, .string (⟨#[]⟩ : ByteArray), .slice none 0 0] 24)) := below_alloc (Below.refl _ _) _
  have hg := blk_new w1 (.cells #[.int .i64 1, .int .i64 0, .string (⟨#[]⟩ : ByteArray), .slice none 0 0, .int .i64 6, .int .i64 0, .string (⟨#[]⟩ : ByteArray), .slice (some ⟨w.heap.size, 0, none⟩) 1 1, .int .i64 5, .int .i64 0, .string (⟨#[]⟩ : ByteArray), .slice none 0 0] 24)
  have hz2 := alloc_size w1 (.cells #[.int .i64 1, .int .i64 0, .string (⟨#[]⟩ : ByteArray), .slice none 0 0, .int .i64 6, .int .i64 0, .string (⟨#[]⟩ : ByteArray), .slice (some ⟨w.heap.size, 0, none⟩) 1 1, .int .i64 5, .int .i64 0, .string (⟨#[]⟩ : ByteArray), .slice none 0 0] 24)
  have hl2 := blk_below hl hb2
  have hx2 := hx1.below hb2
  have hb12 := below_step hb1 hb2
  rw [hz] at hg hz2
  generalize w1.alloc (.cells #[.int .i64 1, .int .i64 0, .string (⟨#[]⟩ : ByteArray), .slice none 0 0, .int .i64 6, .int .i64 0, .string (⟨#[]⟩ : ByteArray), .slice (some ⟨w.heap.size, 0, none⟩) 1 1, .int .i64 5, .int .i64 0, .string (⟨#[]⟩ : ByteArray), .slice none 0 0] 24) = w2 at hb12 hg hz2 hl2 hx2 ⊢
  have hb3 : Below w2.heap.size w2 (w2.alloc (.cells #[.int .i64 5, .int .i64 0, .string (⟨#[]⟩ : ByteArray), .slice (some ⟨w.heap.size + 1, 0, none⟩) 3 3] 24)) := below_alloc (Below.refl _ _) _
  have hs := blk_new w2 (.cells #[.int .i64 5, .int .i64 0, .string (⟨#[]⟩ : ByteArray), .slice (some ⟨w.heap.size + 1, 0, none⟩) 3 3] 24)
  rw [hz2] at hs
  refine ⟨below_step hb12 hb3, Below.refl _ _, hs, ?_⟩
  have hx3 := hx2.below hb3
  have hn : Dc (w2.alloc (.cells #[.int .i64 5, .int .i64 0, .string (⟨#[]⟩ : ByteArray), .slice (some ⟨w.heap.size + 1, 0, none⟩) 3 3] 24)) (nst x) (some ⟨w.heap.size, 0, none⟩) 1 := ⟨C24_one (blk_below hl2 hb3) hx3, Nat.le_refl _⟩
  exact ⟨C24_three (x := ⟨1, 0, ⟨#[]⟩, []⟩) (y := nst x) (z := ⟨5, 0, ⟨#[]⟩, []⟩) (A3 := none) (c3 := 0) (B3 := some ⟨w.heap.size, 0, none⟩) (d3 := 1) (D3 := none) (e3 := 0) (blk_below hg hb3) (Dc_nil _ rfl) hn (Dc_nil _ rfl), Nat.le_refl _⟩
theorem grp_on2 {x : S24} {wd : Int} (ho : allOwn x = true) (h : fitB (grp x) wd 0 0 = true) : frcB x = false ∧ strOf (renS (grp x) wd).out = flatV x ∧ ∃ k, (renS (grp x) wd).modes = List.replicate (k + 1) true := by
  rw [fit_grp, Bool.and_eq_true, Bool.not_eq_true', decide_eq_true_eq] at h
  obtain ⟨_, h2, h3⟩ := grp_on x wd h.1 ho (by omega)
  exact ⟨h.1, h2, h3⟩
theorem own_trues {w : World} {B : Nat} {v : Value} {n : Nat} (h : w.ownsRow B 4 1 v ((List.replicate n true).map Value.bool).length ((List.replicate n true).map Value.bool)) (hn : 0 < n) : ∃ g c, v = .slice (some ⟨g, 0, none⟩) n c ∧ ∀ i : Nat, i < n → w.cell? ⟨g, i, none⟩ = some (.bool true) := by
  have hl : ((List.replicate n true).map Value.bool).length = n := by simp
  rcases h.2 with ⟨_, e⟩ | ⟨g, cap, cur, hv, _⟩
  · omega
  · subst hv
    refine ⟨g, cap, by rw [hl], fun i hi => ?_⟩
    have := h.cellAt i (by rw [hl]; omega)
    rw [this]
    simp [hi]
section
variable {w : World} {x : S24} {A : Option Addr} {c : Nat} {wd : Int}
def SameAt (w : World) (x : S24) (A : Option Addr) (c : Nat) (wd : Int) : Prop := Calls Try.prog 7 #[DA x A c, .int .i64 wd] w fun e w' => e = .returned (.bool true) ∧ Below w.heap.size w w'
set_option maxHeartbeats 4000000 in
set_option maxRecDepth 100000 in
theorem same_few (hx : Dc w x A c) (hf : decide (fewD x 60 ≤ 500) = false) : SameAt w x A c wd := by
  have hu24 := Try.underlying24
  have hu22 := Try.underlying22
  have hu30 := Try.underlying30
  have HX_IV := Aside0.mk hx
  clear hx
  have HFW := Aside0.mk hf
  clear hf
  unfold SameAt DA
  go_enter Try.func7, Try.ntmps7
  go_wp2_with (first | ((with_reducible refine gate_dst (N := 2) rfl ?_); (try (refine gate_guard (by rfl) ?_; dsimp only)); refine box_event ?hg (N := 2) ?hd (cs := #[.int .i64 x.f0, .int .i64 x.f1, .string x.f2, .slice A x.f3.length c]) (t := 24) ?hr ?_; (case hd => rfl); (case hg => rfl); (case hr => first | (go_simp; done) | (go_simp; rfl)); intro ga hg w1 hbox hb; have IV := Aside0.mk (IvD.mk hb hbox HX_IV.out); have hx0 := IV.out.c0; have hx1 := IV.out.c1; have hx2 := IV.out.c2; have hx3 := IV.out.c3; clear hb hbox hg) | ((with_reducible refine gate_dst (N := 19) rfl ?_); refine goesL_ (some 19) rfl rfl Try.func9 (by kernel_rfl) rfl #[.agg #[.int .i64 x.f0, .int .i64 x.f1, .string x.f2, .slice A x.f3.length c]] rfl (by (try simp only [List.map_toArray, List.map_cons, List.map_nil]); first | done | rfl) ?_; (refine (few_of x A c false _ IV.out.dx HFW.out).mono ?_); (rintro e w119 ⟨rfl, hb⟩; refine ⟨_, rfl, ?_⟩; have n_IV := Aside0.mk (IV.out.step hb); clear IV hx0 hx1 hx2 hx3; have IV := n_IV; clear n_IV; have hx0 := IV.out.c0; have hx1 := IV.out.c1; have hx2 := IV.out.c2; have hx3 := IV.out.c3; clear hb)) | ((with_reducible refine gate_dst (N := 26) rfl ?_); refine goesL_ (some 26) rfl rfl Try.func10 (by kernel_rfl) rfl #[] rfl (by (try simp only [List.map_toArray, List.map_cons, List.map_nil]); first | done | rfl) ?_; (refine (told_calls _).mono ?_); (rintro e w126 ⟨rfl, hb⟩; refine ⟨_, rfl, ?_⟩; have n_IV := Aside0.mk (IV.out.step hb); clear IV hx0 hx1 hx2 hx3; have IV := n_IV; clear n_IV; have hx0 := IV.out.c0; have hx1 := IV.out.c1; have hx2 := IV.out.c2; have hx3 := IV.out.c3; clear hb)))
  go_ret
  exact ⟨rfl, IV.out.hb⟩
set_option maxHeartbeats 4000000 in
set_option maxRecDepth 100000 in
theorem same_no (hx : Dc w x A c) (hf : decide (fewD x 60 ≤ 500) = true) (hm : mayB x = false) : SameAt w x A c wd := by
  have hu24 := Try.underlying24
  have hu22 := Try.underlying22
  have hu30 := Try.underlying30
  have HX_IV := Aside0.mk hx
  clear hx
  have HFW := Aside0.mk hf
  have HFI := Aside0.mk (few_small hf)
  have HMY := Aside0.mk hm
  clear hf hm
  unfold SameAt DA
  go_enter Try.func7, Try.ntmps7
  go_wp2_with (first | ((with_reducible refine gate_dst (N := 2) rfl ?_); (try (refine gate_guard (by rfl) ?_; dsimp only)); refine box_event ?hg (N := 2) ?hd (cs := #[.int .i64 x.f0, .int .i64 x.f1, .string x.f2, .slice A x.f3.length c]) (t := 24) ?hr ?_; (case hd => rfl); (case hg => rfl); (case hr => first | (go_simp; done) | (go_simp; rfl)); intro ga hg w1 hbox hb; have IV := Aside0.mk (IvD.mk hb hbox HX_IV.out); have hx0 := IV.out.c0; have hx1 := IV.out.c1; have hx2 := IV.out.c2; have hx3 := IV.out.c3; clear hb hbox hg) | ((with_reducible refine gate_dst (N := 19) rfl ?_); refine goesL_ (some 19) rfl rfl Try.func9 (by kernel_rfl) rfl #[.agg #[.int .i64 x.f0, .int .i64 x.f1, .string x.f2, .slice A x.f3.length c]] rfl (by (try simp only [List.map_toArray, List.map_cons, List.map_nil]); first | done | rfl) ?_; (refine (few_of x A c true _ IV.out.dx HFW.out).mono ?_); (rintro e w119 ⟨rfl, hb⟩; refine ⟨_, rfl, ?_⟩; have n_IV := Aside0.mk (IV.out.step hb); clear IV hx0 hx1 hx2 hx3; have IV := n_IV; clear n_IV; have hx0 := IV.out.c0; have hx1 := IV.out.c1; have hx2 := IV.out.c2; have hx3 := IV.out.c3; clear hb)) | ((with_reducible refine gate_dst (N := 23) rfl ?_); (refine gate_guard (by rfl) ?_; dsimp only); refine goesL_ (some 23) rfl rfl Try.func15 (by kernel_rfl) rfl #[.agg #[.int .i64 x.f0, .int .i64 x.f1, .string x.f2, .slice A x.f3.length c]] rfl (by (try simp only [List.map_toArray, List.map_cons, List.map_nil]); first | done | rfl) ?_; (refine (may_of x A c false _ IV.out.dx HFI.out.2.2 HFI.out.1 HFI.out.2.1 HMY.out).mono ?_); (rintro e w123 ⟨rfl, hb⟩; refine ⟨_, rfl, ?_⟩; have n_IV := Aside0.mk (IV.out.step hb); clear IV hx0 hx1 hx2 hx3; have IV := n_IV; clear n_IV; have hx0 := IV.out.c0; have hx1 := IV.out.c1; have hx2 := IV.out.c2; have hx3 := IV.out.c3; clear hb)) | ((with_reducible refine gate_dst (N := 26) rfl ?_); refine goesL_ (some 26) rfl rfl Try.func10 (by kernel_rfl) rfl #[] rfl (by (try simp only [List.map_toArray, List.map_cons, List.map_nil]); first | done | rfl) ?_; (refine (told_calls _).mono ?_); (rintro e w126 ⟨rfl, hb⟩; refine ⟨_, rfl, ?_⟩; have n_IV := Aside0.mk (IV.out.step hb); clear IV hx0 hx1 hx2 hx3; have IV := n_IV; clear n_IV; have hx0 := IV.out.c0; have hx1 := IV.out.c1; have hx2 := IV.out.c2; have hx3 := IV.out.c3; clear hb)))
  go_ret
  exact ⟨rfl, IV.out.hb⟩
set_option maxHeartbeats 4000000 in
set_option maxRecDepth 100000 in
theorem same_off (hx : Dc w x A c) (hf : decide (fewD x 60 ≤ 500) = true) (hm : mayB x = true) (hb : fitB (grp x) (wrap64 (1 + wrap64 ((IntKind.u64.wrap wd).tmod 80))) 0 0 = false) : SameAt w x A c wd := by
  have hu24 := Try.underlying24
  have hu22 := Try.underlying22
  have hu30 := Try.underlying30
  have HX_IV := Aside0.mk hx
  clear hx
  have HFW := Aside0.mk hf
  have HFI := Aside0.mk (few_small hf)
  have HMY := Aside0.mk hm
  clear hf hm
  obtain ⟨hw1, hw2⟩ : 1 ≤ (wrap64 (1 + wrap64 ((IntKind.u64.wrap wd).tmod 80))) ∧ (wrap64 (1 + wrap64 ((IntKind.u64.wrap wd).tmod 80))) ≤ 80 := wdU_range 80 (by decide) (by decide) wd
  have hw3 : (wrap64 (1 + wrap64 ((IntKind.u64.wrap wd).tmod 80))) ≤ 10000 := by omega
  obtain ⟨T, hT⟩ : ∃ T, renT x (wrap64 (1 + wrap64 ((IntKind.u64.wrap wd).tmod 80))) = T := ⟨_, rfl⟩
  have HMG := Aside0.mk (grp_may HMY.out (Nat.le_trans HFI.out.1 (by decide)) (Nat.le_trans HFI.out.2.1 (by decide)))
  have HMS := Aside0.mk (same_may HMY.out (Nat.le_trans HFI.out.1 (by decide)) (Nat.le_trans HFI.out.2.1 (by decide)))
  have HT := Aside0.mk (show renT x (wrap64 (1 + wrap64 ((IntKind.u64.wrap wd).tmod 80))) = T ∧ renE x (wrap64 (1 + wrap64 ((IntKind.u64.wrap wd).tmod 80))) = 0 from ⟨hT, renE_ok hw1 hw3 HMY.out⟩)
  have HT2 := Aside0.mk (show renT (same x) (wrap64 (1 + wrap64 ((IntKind.u64.wrap wd).tmod 80))) = T ∧ renE (same x) (wrap64 (1 + wrap64 ((IntKind.u64.wrap wd).tmod 80))) = 0 from ⟨by rw [← hT, renT, renT, same_ren, if_pos ((okR_iff _ _).2 ⟨hw1, hw3, HMS.out⟩), if_pos ((okR_iff _ _).2 ⟨hw1, hw3, HMY.out⟩)], renE_ok hw1 hw3 HMS.out⟩)
  obtain ⟨m, hmm⟩ := grp_modes x (wrap64 (1 + wrap64 ((IntKind.u64.wrap wd).tmod 80)))
  rw [hb] at hmm
  obtain ⟨U, hU⟩ : ∃ U, renT (grp x) (wrap64 (1 + wrap64 ((IntKind.u64.wrap wd).tmod 80))) = U := ⟨_, rfl⟩
  have HU := Aside0.mk (show renT (grp x) (wrap64 (1 + wrap64 ((IntKind.u64.wrap wd).tmod 80))) = U ∧ renE (grp x) (wrap64 (1 + wrap64 ((IntKind.u64.wrap wd).tmod 80))) = 0 ∧ renM (grp x) (wrap64 (1 + wrap64 ((IntKind.u64.wrap wd).tmod 80))) = false :: m from ⟨hU, renE_ok hw1 hw3 HMG.out, (ren_of hw1 hw3 HMG.out rfl hmm).2.2⟩)
  obtain ⟨n, hn⟩ : ∃ n, m.length + 1 = n := ⟨_, rfl⟩
  have n1a : ((n : Int) == 0) = false := by rw [beq_eq_false_iff_ne]; omega
  have n1b : (0 : Int) < (n : Int) := by omega
  have HN := Aside0.mk hn
  clear hT hw1 hw2 hw3 hmm hU hn hb
  unfold SameAt DA
  go_enter Try.func7, Try.ntmps7
  go_upto_region 6 with (first | ((with_reducible refine gate_dst (N := 2) rfl ?_); (try (refine gate_guard (by rfl) ?_; dsimp only)); refine box_event ?hg (N := 2) ?hd (cs := #[.int .i64 x.f0, .int .i64 x.f1, .string x.f2, .slice A x.f3.length c]) (t := 24) ?hr ?_; (case hd => rfl); (case hg => rfl); (case hr => first | (go_simp; done) | (go_simp; rfl)); intro ga hg w1 hbox hb; have IV := Aside0.mk (IvD.mk hb hbox HX_IV.out); have hx0 := IV.out.c0; have hx1 := IV.out.c1; have hx2 := IV.out.c2; have hx3 := IV.out.c3; clear hb hbox hg) | ((with_reducible refine gate_dst (N := 19) rfl ?_); refine goesL_ (some 19) rfl rfl Try.func9 (by kernel_rfl) rfl #[.agg #[.int .i64 x.f0, .int .i64 x.f1, .string x.f2, .slice A x.f3.length c]] rfl (by (try simp only [List.map_toArray, List.map_cons, List.map_nil]); first | done | rfl) ?_; (refine (few_of x A c true _ IV.out.dx HFW.out).mono ?_); (rintro e w119 ⟨rfl, hb⟩; refine ⟨_, rfl, ?_⟩; have n_IV := Aside0.mk (IV.out.step hb); clear IV hx0 hx1 hx2 hx3; have IV := n_IV; clear n_IV; have hx0 := IV.out.c0; have hx1 := IV.out.c1; have hx2 := IV.out.c2; have hx3 := IV.out.c3; clear hb)) | ((with_reducible refine gate_dst (N := 23) rfl ?_); (refine gate_guard (by rfl) ?_; dsimp only); refine goesL_ (some 23) rfl rfl Try.func15 (by kernel_rfl) rfl #[.agg #[.int .i64 x.f0, .int .i64 x.f1, .string x.f2, .slice A x.f3.length c]] rfl (by (try simp only [List.map_toArray, List.map_cons, List.map_nil]); first | done | rfl) ?_; (refine (may_of x A c true _ IV.out.dx HFI.out.2.2 HFI.out.1 HFI.out.2.1 HMY.out).mono ?_); (rintro e w123 ⟨rfl, hb⟩; refine ⟨_, rfl, ?_⟩; have n_IV := Aside0.mk (IV.out.step hb); clear IV hx0 hx1 hx2 hx3; have IV := n_IV; clear n_IV; have hx0 := IV.out.c0; have hx1 := IV.out.c1; have hx2 := IV.out.c2; have hx3 := IV.out.c3; clear hb)) | ((with_reducible refine gate_dst (N := 35) rfl ?_); refine goesL_ (some 35) rfl rfl Try.func11 (by kernel_rfl) rfl #[.agg #[.int .i64 x.f0, .int .i64 x.f1, .string x.f2, .slice A x.f3.length c], .int .i64 (wrap64 (1 + wrap64 ((IntKind.u64.wrap wd).tmod 80)))] rfl (by (try simp only [List.map_toArray, List.map_cons, List.map_nil]); first | done | rfl) ?_; (refine (rend_of x A c (wrap64 (1 + wrap64 ((IntKind.u64.wrap wd).tmod 80))) T 0 _ IV.out.dx HFI.out.2.2 (Nat.le_trans HFI.out.1 (by decide)) HT.out.1 HT.out.2).mono ?_); (rintro e w135 ⟨rfl, hb⟩; refine ⟨_, rfl, ?_⟩; have n_IV := Aside0.mk (IV.out.step hb); clear IV hx0 hx1 hx2 hx3; have IV := n_IV; clear n_IV; have hx0 := IV.out.c0; have hx1 := IV.out.c1; have hx2 := IV.out.c2; have hx3 := IV.out.c3; clear hb)))
  have F := same_world (x := x) (A := A) (c := c) IV.out.dx
  generalize World.alloc (World.alloc (World.alloc w135 _) _) _ = w6 at F ⊢
  have n_IV := Aside0.mk (IV.out.step F.1)
  generalize w135.heap.size + 1 + 1 = gs at F ⊢
  generalize w135.heap.size + 1 = gt at F ⊢
  have IS := Aside0.mk F.2
  clear F IV hx0 hx1 hx2 hx3
  have IV := n_IV
  clear n_IV
  have hx0 := IV.out.c0
  have hx1 := IV.out.c1
  have hx2 := IV.out.c2
  have hx3 := IV.out.c3
  have hs0 : w6.cell? ⟨gs, 0, none⟩ = some (.int .i64 5) := IS.out.c0
  have hs1 : w6.cell? ⟨gs, 1, none⟩ = some (.int .i64 0) := IS.out.c1
  have hs2 : w6.cell? ⟨gs, 2, none⟩ = some (.string (⟨#[]⟩ : ByteArray)) := IS.out.c2
  have hs3 : w6.cell? ⟨gs, 3, none⟩ = some (.slice (some ⟨gt, 0, none⟩) 3 3) := IS.out.c3
  go_upto_region 8 with (first | ((with_reducible refine gate_dst (N := 48) rfl ?_); refine goesL_ (some 48) rfl rfl Try.func11 (by kernel_rfl) rfl #[.agg #[.int .i64 5, .int .i64 0, .string (⟨#[]⟩ : ByteArray), .slice (some ⟨gt, 0, none⟩) 3 3], .int .i64 (wrap64 (1 + wrap64 ((IntKind.u64.wrap wd).tmod 80)))] rfl (by (try simp only [List.map_toArray, List.map_cons, List.map_nil]); first | done | rfl) ?_; (refine (rend_of (same x) (some ⟨gt, 0, none⟩) 3 (wrap64 (1 + wrap64 ((IntKind.u64.wrap wd).tmod 80))) T 0 _ IS.out.dx (same_fin HFI.out.2.2) (by rw [same_cnt]; have := HFI.out.1; omega) HT2.out.1 HT2.out.2).mono ?_); (rintro e w148 ⟨rfl, hb⟩; refine ⟨_, rfl, ?_⟩; clear IS hs0 hs1 hs2 hs3; have n_IV := Aside0.mk (IV.out.step hb); clear IV hx0 hx1 hx2 hx3; have IV := n_IV; clear n_IV; have hx0 := IV.out.c0; have hx1 := IV.out.c1; have hx2 := IV.out.c2; have hx3 := IV.out.c3; clear hb)))
  have F := grp_world (x := x) (A := A) (c := c) IV.out.dx
  generalize World.alloc (World.alloc w148 _) _ = w7 at F ⊢
  have n_IV := Aside0.mk (IV.out.step F.1)
  generalize w148.heap.size + 1 = gg at F ⊢
  generalize w148.heap.size = gl at F ⊢
  have IG := Aside0.mk F.2
  clear F IV hx0 hx1 hx2 hx3
  have IV := n_IV
  clear n_IV
  have hx0 := IV.out.c0
  have hx1 := IV.out.c1
  have hx2 := IV.out.c2
  have hx3 := IV.out.c3
  have hg0 : w7.cell? ⟨gg, 0, none⟩ = some (.int .i64 7) := IG.out.c0
  have hg1 : w7.cell? ⟨gg, 1, none⟩ = some (.int .i64 0) := IG.out.c1
  have hg2 : w7.cell? ⟨gg, 2, none⟩ = some (.string (⟨#[]⟩ : ByteArray)) := IG.out.c2
  have hg3 : w7.cell? ⟨gg, 3, none⟩ = some (.slice (some ⟨gl, 0, none⟩) 1 1) := IG.out.c3
  go_wp2_with (first | ((with_reducible refine gate_dst (N := 57) rfl ?_); refine goesL_ (some 57) rfl rfl Try.func11 (by kernel_rfl) rfl #[.agg #[.int .i64 7, .int .i64 0, .string (⟨#[]⟩ : ByteArray), .slice (some ⟨gl, 0, none⟩) 1 1], .int .i64 (wrap64 (1 + wrap64 ((IntKind.u64.wrap wd).tmod 80)))] rfl (by (try simp only [List.map_toArray, List.map_cons, List.map_nil]); first | done | rfl) ?_; (refine (rend_of (grp x) (some ⟨gl, 0, none⟩) 1 (wrap64 (1 + wrap64 ((IntKind.u64.wrap wd).tmod 80))) U 0 _ IG.out.dx (grp_fin HFI.out.2.2) (by rw [grp_cnt]; have := HFI.out.1; omega) HU.out.1 HU.out.2.1).mono ?_); (rintro e w157 ⟨rfl, hb⟩; refine ⟨_, rfl, ?_⟩; have n_IV := Aside0.mk (IV.out.step hb); clear IV hx0 hx1 hx2 hx3; have IV := n_IV; clear n_IV; have hx0 := IV.out.c0; have hx1 := IV.out.c1; have hx2 := IV.out.c2; have hx3 := IV.out.c3; have n_IG := Aside0.mk (IG.out.step hb); clear IG hg0 hg1 hg2 hg3; have IG := n_IG; clear n_IG; have hg0 : w157.cell? ⟨gg, 0, none⟩ = some (.int .i64 7) := IG.out.c0; have hg1 : w157.cell? ⟨gg, 1, none⟩ = some (.int .i64 0) := IG.out.c1; have hg2 : w157.cell? ⟨gg, 2, none⟩ = some (.string (⟨#[]⟩ : ByteArray)) := IG.out.c2; have hg3 : w157.cell? ⟨gg, 3, none⟩ = some (.slice (some ⟨gl, 0, none⟩) 1 1) := IG.out.c3; clear hb)) | ((with_reducible refine gate_dst (N := 62) rfl ?_); refine goesL_ (some 62) rfl rfl Try.func13 (by kernel_rfl) rfl #[.agg #[.int .i64 7, .int .i64 0, .string (⟨#[]⟩ : ByteArray), .slice (some ⟨gl, 0, none⟩) 1 1], .int .i64 (wrap64 (1 + wrap64 ((IntKind.u64.wrap wd).tmod 80)))] rfl (by (try simp only [List.map_toArray, List.map_cons, List.map_nil]); first | done | rfl) ?_; (refine (modes_of (grp x) (some ⟨gl, 0, none⟩) 1 (wrap64 (1 + wrap64 ((IntKind.u64.wrap wd).tmod 80))) (false :: m) _ IG.out.dx (grp_fin HFI.out.2.2) (by rw [grp_cnt]; have := HFI.out.1; omega) HU.out.2.2).mono ?_); (rintro e w162 ⟨v62, rfl, hown, hb⟩; refine ⟨_, rfl, ?_⟩; obtain ⟨gm, cm, rfl, hcm⟩ := own_head hown HN.out; have kc := hcm; clear hcm; clear hown; clear IG hg0 hg1 hg2 hg3; have n_IV := Aside0.mk (IV.out.step hb); clear IV hx0 hx1 hx2 hx3; have IV := n_IV; clear n_IV; have hx0 := IV.out.c0; have hx1 := IV.out.c1; have hx2 := IV.out.c2; have hx3 := IV.out.c3; clear hb)) | ((with_reducible refine gate_dst (N := 87) rfl ?_); refine goesL_ (some 87) rfl rfl Try.func10 (by kernel_rfl) rfl #[] rfl (by (try simp only [List.map_toArray, List.map_cons, List.map_nil]); first | done | rfl) ?_; (refine (told_calls _).mono ?_); (rintro e w187 ⟨rfl, hb⟩; refine ⟨_, rfl, ?_⟩; have n_IV := Aside0.mk (IV.out.step hb); clear IV hx0 hx1 hx2 hx3; have IV := n_IV; clear n_IV; have hx0 := IV.out.c0; have hx1 := IV.out.c1; have hx2 := IV.out.c2; have hx3 := IV.out.c3; clear hb)))
  go_ret
  exact ⟨rfl, IV.out.hb⟩
set_option maxHeartbeats 4000000 in
set_option maxRecDepth 100000 in
theorem same_on (hx : Dc w x A c) (hf : decide (fewD x 60 ≤ 500) = true) (hm : mayB x = true) (hb : fitB (grp x) (wrap64 (1 + wrap64 ((IntKind.u64.wrap wd).tmod 80))) 0 0 = true) : SameAt w x A c wd := by
  have hu24 := Try.underlying24
  have hu22 := Try.underlying22
  have hu30 := Try.underlying30
  have HX_IV := Aside0.mk hx
  clear hx
  have HFW := Aside0.mk hf
  have HFI := Aside0.mk (few_small hf)
  have HMY := Aside0.mk hm
  clear hf hm
  obtain ⟨hw1, hw2⟩ : 1 ≤ (wrap64 (1 + wrap64 ((IntKind.u64.wrap wd).tmod 80))) ∧ (wrap64 (1 + wrap64 ((IntKind.u64.wrap wd).tmod 80))) ≤ 80 := wdU_range 80 (by decide) (by decide) wd
  have hw3 : (wrap64 (1 + wrap64 ((IntKind.u64.wrap wd).tmod 80))) ≤ 10000 := by omega
  obtain ⟨T, hT⟩ : ∃ T, renT x (wrap64 (1 + wrap64 ((IntKind.u64.wrap wd).tmod 80))) = T := ⟨_, rfl⟩
  have HMG := Aside0.mk (grp_may HMY.out (Nat.le_trans HFI.out.1 (by decide)) (Nat.le_trans HFI.out.2.1 (by decide)))
  have HMS := Aside0.mk (same_may HMY.out (Nat.le_trans HFI.out.1 (by decide)) (Nat.le_trans HFI.out.2.1 (by decide)))
  have HT := Aside0.mk (show renT x (wrap64 (1 + wrap64 ((IntKind.u64.wrap wd).tmod 80))) = T ∧ renE x (wrap64 (1 + wrap64 ((IntKind.u64.wrap wd).tmod 80))) = 0 from ⟨hT, renE_ok hw1 hw3 HMY.out⟩)
  have HT2 := Aside0.mk (show renT (same x) (wrap64 (1 + wrap64 ((IntKind.u64.wrap wd).tmod 80))) = T ∧ renE (same x) (wrap64 (1 + wrap64 ((IntKind.u64.wrap wd).tmod 80))) = 0 from ⟨by rw [← hT, renT, renT, same_ren, if_pos ((okR_iff _ _).2 ⟨hw1, hw3, HMS.out⟩), if_pos ((okR_iff _ _).2 ⟨hw1, hw3, HMY.out⟩)], renE_ok hw1 hw3 HMS.out⟩)
  obtain ⟨hfx, hu, k, hmm⟩ := grp_on2 (mayB_own HMY.out) hb
  have HU := Aside0.mk (show renT (grp x) (wrap64 (1 + wrap64 ((IntKind.u64.wrap wd).tmod 80))) = flatV x ∧ renE (grp x) (wrap64 (1 + wrap64 ((IntKind.u64.wrap wd).tmod 80))) = 0 ∧ renM (grp x) (wrap64 (1 + wrap64 ((IntKind.u64.wrap wd).tmod 80))) = List.replicate (k + 1) true from ren_of hw1 hw3 HMG.out hu hmm)
  have HFL : Aside0 ((if frcB x = true then ((⟨#[]⟩ : ByteArray), false) else (flatV x, true)) = (flatV x, true)) := ⟨by rw [hfx]; rfl⟩
  obtain ⟨n, hn⟩ : ∃ n, k + 1 = n := ⟨_, rfl⟩
  rw [hn] at HU
  have n1a : ((n : Int) == 0) = false := by rw [beq_eq_false_iff_ne]; omega
  have n1b : (0 : Int) < (n : Int) := by omega
  have HN := Aside0.mk (show 0 < n by omega)
  have HN5 := Aside0.mk (show n ≤ 1100 from by
    have h1 := renM_len (x := grp x) (wrap64 (1 + wrap64 ((IntKind.u64.wrap wd).tmod 80))) (grp_fin HFI.out.2.2) (by rw [grp_cnt]; have := HFI.out.1; omega)
    rw [HU.out.2.2, List.length_replicate] at h1
    exact h1)
  clear hT hw1 hw2 hw3 hmm hu hn hb hfx
  unfold SameAt DA
  go_enter Try.func7, Try.ntmps7
  go_upto_region 6 with (first | ((with_reducible refine gate_dst (N := 2) rfl ?_); (try (refine gate_guard (by rfl) ?_; dsimp only)); refine box_event ?hg (N := 2) ?hd (cs := #[.int .i64 x.f0, .int .i64 x.f1, .string x.f2, .slice A x.f3.length c]) (t := 24) ?hr ?_; (case hd => rfl); (case hg => rfl); (case hr => first | (go_simp; done) | (go_simp; rfl)); intro ga hg w1 hbox hb; have IV := Aside0.mk (IvD.mk hb hbox HX_IV.out); have hx0 := IV.out.c0; have hx1 := IV.out.c1; have hx2 := IV.out.c2; have hx3 := IV.out.c3; clear hb hbox hg) | ((with_reducible refine gate_dst (N := 19) rfl ?_); refine goesL_ (some 19) rfl rfl Try.func9 (by kernel_rfl) rfl #[.agg #[.int .i64 x.f0, .int .i64 x.f1, .string x.f2, .slice A x.f3.length c]] rfl (by (try simp only [List.map_toArray, List.map_cons, List.map_nil]); first | done | rfl) ?_; (refine (few_of x A c true _ IV.out.dx HFW.out).mono ?_); (rintro e w119 ⟨rfl, hb⟩; refine ⟨_, rfl, ?_⟩; have n_IV := Aside0.mk (IV.out.step hb); clear IV hx0 hx1 hx2 hx3; have IV := n_IV; clear n_IV; have hx0 := IV.out.c0; have hx1 := IV.out.c1; have hx2 := IV.out.c2; have hx3 := IV.out.c3; clear hb)) | ((with_reducible refine gate_dst (N := 23) rfl ?_); (refine gate_guard (by rfl) ?_; dsimp only); refine goesL_ (some 23) rfl rfl Try.func15 (by kernel_rfl) rfl #[.agg #[.int .i64 x.f0, .int .i64 x.f1, .string x.f2, .slice A x.f3.length c]] rfl (by (try simp only [List.map_toArray, List.map_cons, List.map_nil]); first | done | rfl) ?_; (refine (may_of x A c true _ IV.out.dx HFI.out.2.2 HFI.out.1 HFI.out.2.1 HMY.out).mono ?_); (rintro e w123 ⟨rfl, hb⟩; refine ⟨_, rfl, ?_⟩; have n_IV := Aside0.mk (IV.out.step hb); clear IV hx0 hx1 hx2 hx3; have IV := n_IV; clear n_IV; have hx0 := IV.out.c0; have hx1 := IV.out.c1; have hx2 := IV.out.c2; have hx3 := IV.out.c3; clear hb)) | ((with_reducible refine gate_dst (N := 35) rfl ?_); refine goesL_ (some 35) rfl rfl Try.func11 (by kernel_rfl) rfl #[.agg #[.int .i64 x.f0, .int .i64 x.f1, .string x.f2, .slice A x.f3.length c], .int .i64 (wrap64 (1 + wrap64 ((IntKind.u64.wrap wd).tmod 80)))] rfl (by (try simp only [List.map_toArray, List.map_cons, List.map_nil]); first | done | rfl) ?_; (refine (rend_of x A c (wrap64 (1 + wrap64 ((IntKind.u64.wrap wd).tmod 80))) T 0 _ IV.out.dx HFI.out.2.2 (Nat.le_trans HFI.out.1 (by decide)) HT.out.1 HT.out.2).mono ?_); (rintro e w135 ⟨rfl, hb⟩; refine ⟨_, rfl, ?_⟩; have n_IV := Aside0.mk (IV.out.step hb); clear IV hx0 hx1 hx2 hx3; have IV := n_IV; clear n_IV; have hx0 := IV.out.c0; have hx1 := IV.out.c1; have hx2 := IV.out.c2; have hx3 := IV.out.c3; clear hb)))
  have F := same_world (x := x) (A := A) (c := c) IV.out.dx
  generalize World.alloc (World.alloc (World.alloc w135 _) _) _ = w6 at F ⊢
  have n_IV := Aside0.mk (IV.out.step F.1)
  generalize w135.heap.size + 1 + 1 = gs at F ⊢
  generalize w135.heap.size + 1 = gt at F ⊢
  have IS := Aside0.mk F.2
  clear F IV hx0 hx1 hx2 hx3
  have IV := n_IV
  clear n_IV
  have hx0 := IV.out.c0
  have hx1 := IV.out.c1
  have hx2 := IV.out.c2
  have hx3 := IV.out.c3
  have hs0 : w6.cell? ⟨gs, 0, none⟩ = some (.int .i64 5) := IS.out.c0
  have hs1 : w6.cell? ⟨gs, 1, none⟩ = some (.int .i64 0) := IS.out.c1
  have hs2 : w6.cell? ⟨gs, 2, none⟩ = some (.string (⟨#[]⟩ : ByteArray)) := IS.out.c2
  have hs3 : w6.cell? ⟨gs, 3, none⟩ = some (.slice (some ⟨gt, 0, none⟩) 3 3) := IS.out.c3
  go_upto_region 8 with (first | ((with_reducible refine gate_dst (N := 48) rfl ?_); refine goesL_ (some 48) rfl rfl Try.func11 (by kernel_rfl) rfl #[.agg #[.int .i64 5, .int .i64 0, .string (⟨#[]⟩ : ByteArray), .slice (some ⟨gt, 0, none⟩) 3 3], .int .i64 (wrap64 (1 + wrap64 ((IntKind.u64.wrap wd).tmod 80)))] rfl (by (try simp only [List.map_toArray, List.map_cons, List.map_nil]); first | done | rfl) ?_; (refine (rend_of (same x) (some ⟨gt, 0, none⟩) 3 (wrap64 (1 + wrap64 ((IntKind.u64.wrap wd).tmod 80))) T 0 _ IS.out.dx (same_fin HFI.out.2.2) (by rw [same_cnt]; have := HFI.out.1; omega) HT2.out.1 HT2.out.2).mono ?_); (rintro e w148 ⟨rfl, hb⟩; refine ⟨_, rfl, ?_⟩; clear IS hs0 hs1 hs2 hs3; have n_IV := Aside0.mk (IV.out.step hb); clear IV hx0 hx1 hx2 hx3; have IV := n_IV; clear n_IV; have hx0 := IV.out.c0; have hx1 := IV.out.c1; have hx2 := IV.out.c2; have hx3 := IV.out.c3; clear hb)))
  have F := grp_world (x := x) (A := A) (c := c) IV.out.dx
  generalize World.alloc (World.alloc w148 _) _ = w7 at F ⊢
  have n_IV := Aside0.mk (IV.out.step F.1)
  generalize w148.heap.size + 1 = gg at F ⊢
  generalize w148.heap.size = gl at F ⊢
  have IG := Aside0.mk F.2
  clear F IV hx0 hx1 hx2 hx3
  have IV := n_IV
  clear n_IV
  have hx0 := IV.out.c0
  have hx1 := IV.out.c1
  have hx2 := IV.out.c2
  have hx3 := IV.out.c3
  have hg0 : w7.cell? ⟨gg, 0, none⟩ = some (.int .i64 7) := IG.out.c0
  have hg1 : w7.cell? ⟨gg, 1, none⟩ = some (.int .i64 0) := IG.out.c1
  have hg2 : w7.cell? ⟨gg, 2, none⟩ = some (.string (⟨#[]⟩ : ByteArray)) := IG.out.c2
  have hg3 : w7.cell? ⟨gg, 3, none⟩ = some (.slice (some ⟨gl, 0, none⟩) 1 1) := IG.out.c3
  go_wp2_with (first | ((with_reducible refine gate_dst (N := 57) rfl ?_); refine goesL_ (some 57) rfl rfl Try.func11 (by kernel_rfl) rfl #[.agg #[.int .i64 7, .int .i64 0, .string (⟨#[]⟩ : ByteArray), .slice (some ⟨gl, 0, none⟩) 1 1], .int .i64 (wrap64 (1 + wrap64 ((IntKind.u64.wrap wd).tmod 80)))] rfl (by (try simp only [List.map_toArray, List.map_cons, List.map_nil]); first | done | rfl) ?_; (refine (rend_of (grp x) (some ⟨gl, 0, none⟩) 1 (wrap64 (1 + wrap64 ((IntKind.u64.wrap wd).tmod 80))) (flatV x) 0 _ IG.out.dx (grp_fin HFI.out.2.2) (by rw [grp_cnt]; have := HFI.out.1; omega) HU.out.1 HU.out.2.1).mono ?_); (rintro e w157 ⟨rfl, hb⟩; refine ⟨_, rfl, ?_⟩; have n_IV := Aside0.mk (IV.out.step hb); clear IV hx0 hx1 hx2 hx3; have IV := n_IV; clear n_IV; have hx0 := IV.out.c0; have hx1 := IV.out.c1; have hx2 := IV.out.c2; have hx3 := IV.out.c3; have n_IG := Aside0.mk (IG.out.step hb); clear IG hg0 hg1 hg2 hg3; have IG := n_IG; clear n_IG; have hg0 : w157.cell? ⟨gg, 0, none⟩ = some (.int .i64 7) := IG.out.c0; have hg1 : w157.cell? ⟨gg, 1, none⟩ = some (.int .i64 0) := IG.out.c1; have hg2 : w157.cell? ⟨gg, 2, none⟩ = some (.string (⟨#[]⟩ : ByteArray)) := IG.out.c2; have hg3 : w157.cell? ⟨gg, 3, none⟩ = some (.slice (some ⟨gl, 0, none⟩) 1 1) := IG.out.c3; clear hb)) | ((with_reducible refine gate_dst (N := 62) rfl ?_); refine goesL_ (some 62) rfl rfl Try.func13 (by kernel_rfl) rfl #[.agg #[.int .i64 7, .int .i64 0, .string (⟨#[]⟩ : ByteArray), .slice (some ⟨gl, 0, none⟩) 1 1], .int .i64 (wrap64 (1 + wrap64 ((IntKind.u64.wrap wd).tmod 80)))] rfl (by (try simp only [List.map_toArray, List.map_cons, List.map_nil]); first | done | rfl) ?_; (refine (modes_of (grp x) (some ⟨gl, 0, none⟩) 1 (wrap64 (1 + wrap64 ((IntKind.u64.wrap wd).tmod 80))) (List.replicate n true) _ IG.out.dx (grp_fin HFI.out.2.2) (by rw [grp_cnt]; have := HFI.out.1; omega) HU.out.2.2).mono ?_); (rintro e w162 ⟨v62, rfl, hown, hb⟩; refine ⟨_, rfl, ?_⟩; obtain ⟨gm, cm, rfl, hcm⟩ := own_trues hown HN.out; have OWT := Aside0.mk hcm; have kc := hcm 0 HN.out; clear hcm; clear hown; clear IG hg0 hg1 hg2 hg3; have n_IV := Aside0.mk (IV.out.step hb); clear IV hx0 hx1 hx2 hx3; have IV := n_IV; clear n_IV; have hx0 := IV.out.c0; have hx1 := IV.out.c1; have hx2 := IV.out.c2; have hx3 := IV.out.c3; clear hb)) | ((with_reducible refine gate_dst (N := 90) rfl ?_); refine goesL_ (some 90) rfl rfl Try.func18 (by kernel_rfl) rfl #[.agg #[.int .i64 x.f0, .int .i64 x.f1, .string x.f2, .slice A x.f3.length c]] rfl (by (try simp only [List.map_toArray, List.map_cons, List.map_nil]); first | done | rfl) ?_; (refine (flat_of x A c (flatV x) true _ IV.out.dx HFI.out.2.2 HFI.out.1 HFL.out).mono ?_); (rintro e w190 ⟨rfl, hb⟩; refine ⟨_, rfl, ?_⟩; have n_k := Aside0.mk (fun i hi => bc hb (OWT.out i hi)); clear OWT kc; have OWT := n_k; clear n_k; have n_IV := Aside0.mk (IV.out.step hb); clear IV hx0 hx1 hx2 hx3; have IV := n_IV; clear n_IV; have hx0 := IV.out.c0; have hx1 := IV.out.c1; have hx2 := IV.out.c2; have hx3 := IV.out.c3; clear hb)))
  go_loopg [17] n (fun k' v17 wr => ∃ (i : Nat), v17 = .int .i64 (i : Int) ∧ i ≤ n ∧ Aside0 (k' + i = n) ∧ Aside0 (IvD w wr ga x A c) ∧ Aside0 (∀ i : Nat, i < n → wr.cell? ⟨gm, i, none⟩ = some (.bool true)))
  case atStart => exact ⟨0, rfl, Nat.zero_le _, ⟨rfl⟩, IV, OWT⟩
  case round =>
    clear IV OWT hx0 hx1 hx2 hx3
    obtain ⟨i, rfl, hi, HK, IV, OWT⟩ := hrel
    have hn5 : n ≤ 1100 := HN5.out
    by_cases hlt : i < n
    · have kc := OWT.out i hlt
      go_wp2_with fail
      go_roundg (gk - 1)
      case measure => have := HK.out; omega
      case rel => exact ⟨i + 1, by go_num, by omega, ⟨by have := HK.out; omega⟩, IV, OWT⟩
    · obtain rfl : i = n := by omega
      go_wp2_with (first | ((with_reducible refine gate_dst (N := 104) rfl ?_); refine goesL_ (some 104) rfl rfl Try.func10 (by kernel_rfl) rfl #[] rfl (by (try simp only [List.map_toArray, List.map_cons, List.map_nil]); first | done | rfl) ?_; (refine (told_calls _).mono ?_); (rintro e w204 ⟨rfl, hb⟩; refine ⟨_, rfl, ?_⟩; have n_ := Aside0.mk (IV.out.step hb); clear IV hb; have IV := n_; clear n_)))
      go_ret
      exact ⟨by simp, IV.out.hb⟩
theorem RenderSame_walk (x : S24) (A : Option Addr) (c : Nat) (hx : Dc w x A c) (wd : Int) (hn : (Lit.int .i64 wd).wf = true) : Calls Try.prog 7 #[.agg #[.int .i64 x.f0, .int .i64 x.f1, .string x.f2, .slice A x.f3.length c], .int .i64 wd] w fun e w' => e = .returned (.bool true) ∧ Below w.heap.size w w' := by
  show SameAt w x A c wd
  cases hf : decide (fewD x 60 ≤ 500)
  · exact same_few hx hf
  cases hm : mayB x
  · exact same_no hx hf hm
  cases hb : fitB (grp x) (wrap64 (1 + wrap64 ((IntKind.u64.wrap wd).tmod 80))) 0 0
  · exact same_off hx hf hm hb
  · exact same_on hx hf hm hb
end
end Go.Proofs.Ytigihiggpfjbjaa.PR
