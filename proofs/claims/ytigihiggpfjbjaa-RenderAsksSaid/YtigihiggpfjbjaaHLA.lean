/- RenderAsks: the walk. -/
import Derived.Test.YtigihiggpfjbjaaHR4
namespace Go.Proofs.Ytigihiggpfjbjaa.PR
open Go.RowKit Go.Proofs.YtigihiggpfjbjaaW.PrintWords Go.Proofs.YtigihiggpfjbjaaW.PrintLast Go.Proofs.YtigihiggpfjbjaaW.PrintMore
set_option linter.unusedVariables false
set_option linter.unusedSimpArgs false
theorem F3tab19 : rtab .any (opsOf Try.f3 19) = (true, [([], []), ([], []), ([0, 1], [0, 1]), ([2], [2]), ([], []), ([4], [4]), ([5], [5]), ([6], [6]), ([], []), ([7, 8], [7, 8]), ([9], [9]), ([3, 10], [3, 10])]) := by kernel_rfl
theorem own_bools {w : World} {B : Nat} {v : Value} {ms : List Bool} (h : w.ownsRow B 4 1 v (ms.map Value.bool).length (ms.map Value.bool)) : ∃ A c, v = .slice A ms.length c ∧ ∀ (i : Nat) (b : Bool), ms[i]? = some b → ∃ g, A = some ⟨g, 0, none⟩ ∧ w.cell? ⟨g, i, none⟩ = some (.bool b) := by
  have hl : (ms.map Value.bool).length = ms.length := by simp
  rcases h.2 with ⟨hv, e⟩ | ⟨g, cap, cur, hv, _⟩
  · refine ⟨none, 0, by rw [hv, ← hl]; simp [e], fun i b hb => ?_⟩
    have := (List.getElem?_eq_some_iff.1 hb).1
    omega
  · subst hv
    refine ⟨some ⟨g, 0, none⟩, cap, by rw [hl], fun i b hb => ⟨g, rfl, ?_⟩⟩
    have hi := (List.getElem?_eq_some_iff.1 hb).1
    have := h.cellAt i (by rw [hl]; omega)
    rw [this, List.getElem?_map, hb]
    rfl
def askS (gw g1 g2 i n c : Nat) (b : Bool) (w' : World) : Prop := w'.cell? ⟨g1, i, none⟩ = some (.bool b) ∧ w'.cell? ⟨gw, 5, none⟩ = some (.slice (some ⟨g2, 0, none⟩) n c) ∧ w'.cell? ⟨g2, i, none⟩ = some (.bool b) ∧ True
section
variable {w : World} {x : S24} {A : Option Addr} {c : Nat} {wd : Int}
def AskAt (w : World) (x : S24) (A : Option Addr) (c : Nat) (wd : Int) : Prop := Calls Try.prog 3 #[DA x A c, .int .i64 wd] w fun e w' => e = .returned (.bool true) ∧ Below w.heap.size w w'
set_option maxHeartbeats 8000000 in
set_option maxRecDepth 100000 in
theorem asks_few (hx : Dc w x A c) (hf : decide (fewD x 60 ≤ 500) = false) : AskAt w x A c wd := by
  have hu24 := Try.underlying24
  have hu30 := Try.underlying30
  have hu37 := Try.underlying37
  have HX_IV := Aside0.mk hx
  clear hx
  have HFW := Aside0.mk hf
  clear hf
  unfold AskAt DA
  go_enter Try.func3, Try.ntmps3
  go_wp2_with (first | ((with_reducible refine gate_dst (N := 2) rfl ?_); (try (refine gate_guard (by rfl) ?_; dsimp only)); refine box_event ?hg (N := 2) ?hd (cs := #[.int .i64 x.f0, .int .i64 x.f1, .string x.f2, .slice A x.f3.length c]) (t := 24) ?hr ?_; (case hd => rfl); (case hg => rfl); (case hr => first | (go_simp; done) | (go_simp; rfl)); intro ga hg w1 hbox hb; have IV := Aside0.mk (IvD.mk hb hbox HX_IV.out); have hx0 := IV.out.c0; have hx1 := IV.out.c1; have hx2 := IV.out.c2; have hx3 := IV.out.c3; clear hb hbox hg) | ((with_reducible refine gate_dst (N := 14) rfl ?_); refine goesL_ (some 14) rfl rfl Try.func9 (by kernel_rfl) rfl #[.agg #[.int .i64 x.f0, .int .i64 x.f1, .string x.f2, .slice A x.f3.length c]] rfl (by (try simp only [List.map_toArray, List.map_cons, List.map_nil]); first | done | rfl) ?_; (refine (few_of x A c false _ IV.out.dx HFW.out).mono ?_); (rintro e w114 ⟨rfl, hb⟩; refine ⟨_, rfl, ?_⟩; have n_IV := Aside0.mk (IV.out.step hb); clear IV hx0 hx1 hx2 hx3; have IV := n_IV; clear n_IV; have hx0 := IV.out.c0; have hx1 := IV.out.c1; have hx2 := IV.out.c2; have hx3 := IV.out.c3)) | ((with_reducible refine gate_dst (N := 16) rfl ?_); refine goesL_ (some 16) rfl rfl Try.func10 (by kernel_rfl) rfl #[] rfl (by (try simp only [List.map_toArray, List.map_cons, List.map_nil]); first | done | rfl) ?_; (refine (told_calls _).mono ?_); (rintro e w116 ⟨rfl, hb⟩; refine ⟨_, rfl, ?_⟩; have n_IV := Aside0.mk (IV.out.step hb); clear IV hx0 hx1 hx2 hx3; have IV := n_IV; clear n_IV; have hx0 := IV.out.c0; have hx1 := IV.out.c1; have hx2 := IV.out.c2; have hx3 := IV.out.c3)))
  go_ret
  exact ⟨rfl, IV.out.hb⟩
set_option maxHeartbeats 8000000 in
set_option maxRecDepth 100000 in
theorem asks_low_no (hx : Dc w x A c) (hf : decide (fewD x 60 ≤ 500) = true) (h1 : wd < -2) (ho : okR x (wrap64 ((IntKind.u64.wrap wd).tmod 60)) = false) : AskAt w x A c wd := by
  have hu24 := Try.underlying24
  have hu30 := Try.underlying30
  have hu37 := Try.underlying37
  have HX_IV := Aside0.mk hx
  clear hx
  have HFW := Aside0.mk hf
  have HFI := Aside0.mk (few_small hf)
  have h1b : decide (wd < -2) = true := decide_eq_true h1
  obtain ⟨s, hs⟩ : ∃ s, renT x (wrap64 ((IntKind.u64.wrap wd).tmod 60)) = s := ⟨_, rfl⟩
  have ES := Aside0.mk hs
  clear hf h1 hs
  have EN : Aside0 (renE x (wrap64 ((IntKind.u64.wrap wd).tmod 60)) = 1) := ⟨by unfold renE; rw [if_neg (by rw [ho]; decide)]⟩
  have EM : Aside0 (renM x (wrap64 ((IntKind.u64.wrap wd).tmod 60)) = []) := ⟨by unfold renM; rw [if_neg (by rw [ho]; decide)]⟩
  clear ho
  unfold AskAt DA
  go_enter Try.func3, Try.ntmps3
  go_wp2_with (first | ((with_reducible refine gate_dst (N := 2) rfl ?_); (try (refine gate_guard (by rfl) ?_; dsimp only)); refine box_event ?hg (N := 2) ?hd (cs := #[.int .i64 x.f0, .int .i64 x.f1, .string x.f2, .slice A x.f3.length c]) (t := 24) ?hr ?_; (case hd => rfl); (case hg => rfl); (case hr => first | (go_simp; done) | (go_simp; rfl)); intro ga hg w1 hbox hb; have IV := Aside0.mk (IvD.mk hb hbox HX_IV.out); have hx0 := IV.out.c0; have hx1 := IV.out.c1; have hx2 := IV.out.c2; have hx3 := IV.out.c3; clear hb hbox hg) | ((with_reducible refine gate_dst (N := 14) rfl ?_); refine goesL_ (some 14) rfl rfl Try.func9 (by kernel_rfl) rfl #[.agg #[.int .i64 x.f0, .int .i64 x.f1, .string x.f2, .slice A x.f3.length c]] rfl (by (try simp only [List.map_toArray, List.map_cons, List.map_nil]); first | done | rfl) ?_; (refine (few_of x A c true _ IV.out.dx HFW.out).mono ?_); (rintro e w114 ⟨rfl, hb⟩; refine ⟨_, rfl, ?_⟩; have n_IV := Aside0.mk (IV.out.step hb); clear IV hx0 hx1 hx2 hx3; have IV := n_IV; clear n_IV; have hx0 := IV.out.c0; have hx1 := IV.out.c1; have hx2 := IV.out.c2; have hx3 := IV.out.c3)) | ((with_reducible refine gate_dst (N := 31) rfl ?_); refine goesL_ (some 31) rfl rfl Try.func11 (by kernel_rfl) rfl #[.agg #[.int .i64 x.f0, .int .i64 x.f1, .string x.f2, .slice A x.f3.length c], .int .i64 (wrap64 ((IntKind.u64.wrap wd).tmod 60))] rfl (by (try simp only [List.map_toArray, List.map_cons, List.map_nil]); first | done | rfl) ?_; (refine (rend_of x A c (wrap64 ((IntKind.u64.wrap wd).tmod 60)) s 1 _ IV.out.dx HFI.out.2.2 (Nat.le_trans HFI.out.1 (by decide)) ES.out EN.out).mono ?_); (rintro e w131 ⟨rfl, hb⟩; refine ⟨_, rfl, ?_⟩; have n_IV := Aside0.mk (IV.out.step hb); clear IV hx0 hx1 hx2 hx3; have IV := n_IV; clear n_IV; have hx0 := IV.out.c0; have hx1 := IV.out.c1; have hx2 := IV.out.c2; have hx3 := IV.out.c3)) | ((with_reducible refine gate_dst (N := 37) rfl ?_); refine goesL_ (some 37) rfl rfl Try.func12 (by kernel_rfl) rfl #[.agg #[.int .i64 x.f0, .int .i64 x.f1, .string x.f2, .slice A x.f3.length c], .int .i64 (wrap64 ((IntKind.u64.wrap wd).tmod 60))] rfl (by (try simp only [List.map_toArray, List.map_cons, List.map_nil]); first | done | rfl) ?_; (refine (rr_calls s 1 IV.out.dx HFI.out.2.2 HFI.out.1 HFI.out.2.1 ES.out EN.out).mono ?_); (rintro e w137 ⟨rfl, hb⟩; refine ⟨_, rfl, ?_⟩; have n_IV := Aside0.mk (IV.out.step hb); clear IV hx0 hx1 hx2 hx3; have IV := n_IV; clear n_IV; have hx0 := IV.out.c0; have hx1 := IV.out.c1; have hx2 := IV.out.c2; have hx3 := IV.out.c3)) | ((with_reducible refine gate_dst (N := 50) rfl ?_); refine goesL_ (some 50) rfl rfl Try.func13 (by kernel_rfl) rfl #[.agg #[.int .i64 x.f0, .int .i64 x.f1, .string x.f2, .slice A x.f3.length c], .int .i64 (wrap64 ((IntKind.u64.wrap wd).tmod 60))] rfl (by (try simp only [List.map_toArray, List.map_cons, List.map_nil]); first | done | rfl) ?_; (refine (modes_of x A c (wrap64 ((IntKind.u64.wrap wd).tmod 60)) [] _ IV.out.dx HFI.out.2.2 (Nat.le_trans HFI.out.1 (by decide)) EM.out).mono ?_); (rintro e w150 ⟨v50, rfl, hown, hb⟩; refine ⟨_, rfl, ?_⟩; obtain ⟨Am, cm, rfl, hcm⟩ := own_bools hown; have CM := Aside0.mk hcm; clear hown hcm; have n_IV := Aside0.mk (IV.out.step hb); clear IV hx0 hx1 hx2 hx3; have IV := n_IV; clear n_IV; have hx0 := IV.out.c0; have hx1 := IV.out.c1; have hx2 := IV.out.c2; have hx3 := IV.out.c3)) | ((with_reducible refine gate_dst (N := 53) rfl ?_); refine goesL_ (some 53) rfl rfl Try.func10 (by kernel_rfl) rfl #[] rfl (by (try simp only [List.map_toArray, List.map_cons, List.map_nil]); first | done | rfl) ?_; (refine (told_calls _).mono ?_); (rintro e w153 ⟨rfl, hb⟩; refine ⟨_, rfl, ?_⟩; have n_IV := Aside0.mk (IV.out.step hb); clear IV hx0 hx1 hx2 hx3; have IV := n_IV; clear n_IV; have hx0 := IV.out.c0; have hx1 := IV.out.c1; have hx2 := IV.out.c2; have hx3 := IV.out.c3)))
  go_ret
  exact ⟨rfl, IV.out.hb⟩
set_option maxHeartbeats 8000000 in
set_option maxRecDepth 100000 in
theorem asks_low_yes (hx : Dc w x A c) (hf : decide (fewD x 60 ≤ 500) = true) (h1 : wd < -2) (ho : okR x (wrap64 ((IntKind.u64.wrap wd).tmod 60)) = true) : AskAt w x A c wd := by
  have hu24 := Try.underlying24
  have hu30 := Try.underlying30
  have hu37 := Try.underlying37
  have HX_IV := Aside0.mk hx
  clear hx
  have HFW := Aside0.mk hf
  have HFI := Aside0.mk (few_small hf)
  have h1b : decide (wd < -2) = true := decide_eq_true h1
  obtain ⟨s, hs⟩ : ∃ s, renT x (wrap64 ((IntKind.u64.wrap wd).tmod 60)) = s := ⟨_, rfl⟩
  have ES := Aside0.mk hs
  clear hf h1 hs
  have EN : Aside0 (renE x (wrap64 ((IntKind.u64.wrap wd).tmod 60)) = 0) := ⟨by unfold renE; rw [if_pos ho]⟩
  have HOW : Aside0 (allOwn x = true) := ⟨by have h := ((okR_iff _ _).1 ho).2.2; unfold mayB at h; rw [Bool.and_eq_true, Bool.and_eq_true] at h; exact h.1.1⟩
  obtain ⟨ms, hms⟩ : ∃ m, (renS x (wrap64 ((IntKind.u64.wrap wd).tmod 60))).modes = m := ⟨_, rfl⟩
  have HMS := Aside0.mk hms
  have EM : Aside0 (renM x (wrap64 ((IntKind.u64.wrap wd).tmod 60)) = ms) := ⟨by unfold renM; rw [if_pos ho]; exact hms⟩
  have HML := Aside0.mk (show ms.length ≤ 1100 from by have q := renM_len (x := x) (wrap64 ((IntKind.u64.wrap wd).tmod 60)) HFI.out.2.2 (Nat.le_trans HFI.out.1 (by decide)); rw [EM.out] at q; exact q)
  obtain ⟨n, hn_⟩ : ∃ n, ms.length = n := ⟨_, rfl⟩
  have HN0 := Aside0.mk hn_
  clear ho hms
  unfold AskAt DA
  go_enter Try.func3, Try.ntmps3
  go_wp2_with (first | ((with_reducible refine gate_dst (N := 2) rfl ?_); (try (refine gate_guard (by rfl) ?_; dsimp only)); refine box_event ?hg (N := 2) ?hd (cs := #[.int .i64 x.f0, .int .i64 x.f1, .string x.f2, .slice A x.f3.length c]) (t := 24) ?hr ?_; (case hd => rfl); (case hg => rfl); (case hr => first | (go_simp; done) | (go_simp; rfl)); intro ga hg w1 hbox hb; have IV := Aside0.mk (IvD.mk hb hbox HX_IV.out); have hx0 := IV.out.c0; have hx1 := IV.out.c1; have hx2 := IV.out.c2; have hx3 := IV.out.c3; clear hb hbox hg) | ((with_reducible refine gate_dst (N := 14) rfl ?_); refine goesL_ (some 14) rfl rfl Try.func9 (by kernel_rfl) rfl #[.agg #[.int .i64 x.f0, .int .i64 x.f1, .string x.f2, .slice A x.f3.length c]] rfl (by (try simp only [List.map_toArray, List.map_cons, List.map_nil]); first | done | rfl) ?_; (refine (few_of x A c true _ IV.out.dx HFW.out).mono ?_); (rintro e w114 ⟨rfl, hb⟩; refine ⟨_, rfl, ?_⟩; have n_IV := Aside0.mk (IV.out.step hb); clear IV hx0 hx1 hx2 hx3; have IV := n_IV; clear n_IV; have hx0 := IV.out.c0; have hx1 := IV.out.c1; have hx2 := IV.out.c2; have hx3 := IV.out.c3)) | ((with_reducible refine gate_dst (N := 31) rfl ?_); refine goesL_ (some 31) rfl rfl Try.func11 (by kernel_rfl) rfl #[.agg #[.int .i64 x.f0, .int .i64 x.f1, .string x.f2, .slice A x.f3.length c], .int .i64 (wrap64 ((IntKind.u64.wrap wd).tmod 60))] rfl (by (try simp only [List.map_toArray, List.map_cons, List.map_nil]); first | done | rfl) ?_; (refine (rend_of x A c (wrap64 ((IntKind.u64.wrap wd).tmod 60)) s 0 _ IV.out.dx HFI.out.2.2 (Nat.le_trans HFI.out.1 (by decide)) ES.out EN.out).mono ?_); (rintro e w131 ⟨rfl, hb⟩; refine ⟨_, rfl, ?_⟩; have n_IV := Aside0.mk (IV.out.step hb); clear IV hx0 hx1 hx2 hx3; have IV := n_IV; clear n_IV; have hx0 := IV.out.c0; have hx1 := IV.out.c1; have hx2 := IV.out.c2; have hx3 := IV.out.c3)) | ((with_reducible refine gate_dst (N := 37) rfl ?_); refine goesL_ (some 37) rfl rfl Try.func12 (by kernel_rfl) rfl #[.agg #[.int .i64 x.f0, .int .i64 x.f1, .string x.f2, .slice A x.f3.length c], .int .i64 (wrap64 ((IntKind.u64.wrap wd).tmod 60))] rfl (by (try simp only [List.map_toArray, List.map_cons, List.map_nil]); first | done | rfl) ?_; (refine (rr_calls s 0 IV.out.dx HFI.out.2.2 HFI.out.1 HFI.out.2.1 ES.out EN.out).mono ?_); (rintro e w137 ⟨rfl, hb⟩; refine ⟨_, rfl, ?_⟩; have n_IV := Aside0.mk (IV.out.step hb); clear IV hx0 hx1 hx2 hx3; have IV := n_IV; clear n_IV; have hx0 := IV.out.c0; have hx1 := IV.out.c1; have hx2 := IV.out.c2; have hx3 := IV.out.c3)) | ((with_reducible refine gate_dst (N := 50) rfl ?_); refine goesL_ (some 50) rfl rfl Try.func13 (by kernel_rfl) rfl #[.agg #[.int .i64 x.f0, .int .i64 x.f1, .string x.f2, .slice A x.f3.length c], .int .i64 (wrap64 ((IntKind.u64.wrap wd).tmod 60))] rfl (by (try simp only [List.map_toArray, List.map_cons, List.map_nil]); first | done | rfl) ?_; (refine (modes_of x A c (wrap64 ((IntKind.u64.wrap wd).tmod 60)) ms _ IV.out.dx HFI.out.2.2 (Nat.le_trans HFI.out.1 (by decide)) EM.out).mono ?_); (rintro e w150 ⟨v50, rfl, hown, hb⟩; refine ⟨_, rfl, ?_⟩; obtain ⟨Am, cm, rfl, hcm⟩ := own_bools hown; have CM := Aside0.mk hcm; have HN_ := Aside0.mk hn_; try rw [hn_]; clear hown hcm; have n_IV := Aside0.mk (IV.out.step hb); clear IV hx0 hx1 hx2 hx3; have IV := n_IV; clear n_IV; have hx0 := IV.out.c0; have hx1 := IV.out.c1; have hx2 := IV.out.c2; have hx3 := IV.out.c3)) | ((with_reducible refine gate_dst (N := 61) rfl ?_); refine goesL_ (some 61) rfl rfl Try.func14 (by kernel_rfl) rfl #[.agg #[.int .i64 x.f0, .int .i64 x.f1, .string x.f2, .slice A x.f3.length c], .int .i64 (wrap64 ((IntKind.u64.wrap wd).tmod 60))] rfl (by (try simp only [List.map_toArray, List.map_cons, List.map_nil]); first | done | rfl) ?_; (refine (show Calls Try.prog 14 #[.agg #[.int .i64 x.f0, .int .i64 x.f1, .string x.f2, .slice A x.f3.length c], .int .i64 (wrap64 ((IntKind.u64.wrap wd).tmod 60))] _ _ from run_calls IV.out.dx HFI.out.2.2 HFI.out.1 HOW.out).mono ?_); (rintro e w161 ⟨gw, B, rfl, hr, hsz, hb⟩; refine ⟨_, rfl, ?_⟩; have n0 := Aside0.mk (below_step IV.out.hb hb); have n1 : Aside0 (∀ (i : Nat) (b : Bool), ms[i]? = some b → ∃ g, Am = some ⟨g, 0, none⟩ ∧ w161.cell? ⟨g, i, none⟩ = some (.bool b)) := ⟨fun i b h => (by obtain ⟨g, h1, h2⟩ := CM.out i b h; exact ⟨g, h1, bc hb h2⟩)⟩; clear IV CM hx0 hx1 hx2 hx3 hb hsz; have HB := n0; have CM := n1; clear n0 n1; obtain ⟨vr, vo, vm, h0, _, _, _, _, _, q5⟩ := hr.open_; have qm := h0.hm; rw [HMS.out] at qm; obtain ⟨Ar, cr, er, hcr⟩ := own_bools qm; subst er; have CR := Aside0.mk hcr; have GW := Aside0.mk q5; rw [HN_.out] at q5; clear hcr h0 hr qm)))
  obtain ⟨w2, hw2⟩ : ∃ w2 : World, w2 = w161 := ⟨_, rfl⟩
  rw [← hw2] at HB CM CR GW ⊢
  clear hw2 q5
  have hnn : n ≤ 1100 := by rw [← HN0.out]; exact HML.out
  go_loopg [12] n (fun k' v12 wr => ∃ i : Nat, v12 = .int .i64 i ∧ i ≤ n ∧ Aside0 (k' + i = n) ∧ Aside0 (Below w2.heap.size w2 wr))
  case atStart => exact ⟨0, rfl, Nat.zero_le _, ⟨rfl⟩, ⟨Below.refl _ _⟩⟩
  case round =>
    obtain ⟨i, rfl, hi, HK, HR⟩ := hrel
    by_cases hlt : i < n
    · obtain ⟨b, hb⟩ : ∃ b, ms[i]? = some b := ⟨_, List.getElem?_eq_getElem (by rw [HN0.out]; exact hlt)⟩
      obtain ⟨g1, e1, c1⟩ := CM.out i b hb
      obtain ⟨g2, e2, c2⟩ := CR.out i b hb
      have C1 := Aside0.mk (bc HR.out c1)
      have C2 := Aside0.mk (bc HR.out c2)
      have C3 := Aside0.mk (bc HR.out GW.out)
      clear hb c1 c2
      cases e1
      cases e2
      rw [HN0.out] at C3
      go_upto_region 19 with (fail)
      have hs_ : askS gw g1 g2 i n cr b wr.drew := ⟨bc (below_drew1 (Below.refl _ _)) C1.out, bc (below_drew1 (Below.refl _ _)) C3.out, bc (below_drew1 (Below.refl _ _)) C2.out, trivial⟩
      have n0 := Aside0.mk (HR.out.trans ((below_drew1 (Below.refl _ _)).mono HR.out.size))
      clear HR C1 C2 C3
      have HR := n0
      clear n0
      refine start_ (n := 12) (S := askS gw g1 g2 i n cr b) (ds := []) #[false, false, false, false, false, false, false, false, false, false, false, false] (by kernel_rfl) rfl rfl (hs_) (fun hHeld => ?_)
      clear hs_
      generalize World.drew _ = w500 at HR hHeld ⊢
      refine pure_ (i := 0) (N := some 76) (bt 12 1) rfl rfl (any_of F3tab19 (by kernel_rfl)) (fun _ _ _ h => h) (Or.inl ⟨by rfl, by intro w'; go_simp; with_reducible rfl⟩) (by simp only [Act.put, pset]; rfl) ?_
      refine pure_ (i := 1) (N := some 77) (bt 12 3) rfl rfl (any_of F3tab19 (by kernel_rfl)) (fun _ _ _ h => h) (Or.inl ⟨by rfl, by intro w'; go_simp; with_reducible rfl⟩) (by simp only [Act.put, pset]; rfl) ?_
      refine pure_ (i := 2) (N := some 78) (bt 12 7) rfl rfl (any_of F3tab19 (by kernel_rfl)) (fun _ _ _ h => h) (Or.inl ⟨by rfl, by intro w'; go_simp; with_reducible rfl⟩) (by simp only [Act.put, pset]; rfl) ?_
      refine take_ (i := 3) (N := some 79) (bt 12 15) rfl rfl (take_of F3tab19 (by kernel_rfl)) (fun _ _ _ h => h) (Or.inl ⟨by rfl, by rintro w' ⟨s0, s1, s2, s3⟩; go_simp; with_reducible rfl⟩) hHeld (by simp only [Act.put, pset]; rfl) ?_
      refine pure_ (i := 4) (N := some 80) (bt 12 31) rfl rfl (any_of F3tab19 (by kernel_rfl)) (fun _ _ _ h => h) (Or.inl ⟨by rfl, by intro w'; go_simp; with_reducible rfl⟩) (by simp only [Act.put, pset]; rfl) ?_
      refine pure_ (i := 5) (N := some 81) (bt 12 63) rfl rfl (any_of F3tab19 (by kernel_rfl)) (fun _ _ _ h => h) (Or.inl ⟨by rfl, by intro w'; go_simp; with_reducible rfl⟩) (by simp only [Act.put, pset]; rfl) ?_
      refine pure_ (i := 6) (N := some 82) (bt 12 127) rfl rfl (any_of F3tab19 (by kernel_rfl)) (fun _ _ _ h => h) (Or.inl ⟨by rfl, by intro w'; go_simp; with_reducible rfl⟩) (by simp only [Act.put, pset]; rfl) ?_
      refine take_ (i := 7) (N := some 83) (bt 12 255) rfl rfl (take_of F3tab19 (by kernel_rfl)) (fun _ _ _ h => h) (Or.inl ⟨by rfl, by rintro w' ⟨s0, s1, s2, s3⟩; go_simp; with_reducible rfl⟩) hHeld (by simp only [Act.put, pset]; rfl) ?_
      refine pure_ (i := 8) (N := some 84) (bt 12 511) rfl rfl (any_of F3tab19 (by kernel_rfl)) (fun _ _ _ h => h) (Or.inl ⟨by rfl, by intro w'; go_simp; with_reducible rfl⟩) (by simp only [Act.put, pset]; rfl) ?_
      refine pure_ (i := 9) (N := some 85) (bt 12 1023) rfl rfl (any_of F3tab19 (by kernel_rfl)) (fun _ _ _ h => h) (Or.inl ⟨by rfl, by intro w'; go_simp; with_reducible rfl⟩) (by simp only [Act.put, pset]; rfl) ?_
      refine take_ (i := 10) (N := some 86) (bt 12 2047) rfl rfl (take_of F3tab19 (by kernel_rfl)) (fun _ _ _ h => h) (Or.inl ⟨by rfl, by rintro w' ⟨s0, s1, s2, s3⟩; go_simp; with_reducible rfl⟩) hHeld (by simp only [Act.put, pset]; rfl) ?_
      refine pure_ (i := 11) (N := some 87) (bt 12 4095) rfl rfl (any_of F3tab19 (by kernel_rfl)) (fun _ _ _ h => h) (Or.inl ⟨by rfl, by intro w'; go_simp; with_reducible rfl⟩) (by simp only [Act.put, pset]; rfl) ?_
      refine done_ (done_of F3tab19 (by kernel_rfl)) ?_
      clear hHeld
      go_wp2_with fail
      go_roundg (gk - 1)
      case measure => have := HK.out; omega
      case rel => exact ⟨i + 1, by go_num, by omega, ⟨by have := HK.out; omega⟩, HR⟩
    · go_wp2_with (first | ((with_reducible refine gate_dst (N := 88) rfl ?_); refine goesL_ (some 88) rfl rfl Try.func10 (by kernel_rfl) rfl #[] rfl (by (try simp only [List.map_toArray, List.map_cons, List.map_nil]); first | done | rfl) ?_; (refine (told_calls _).mono ?_); (rintro e w188 ⟨rfl, hb⟩; refine ⟨_, rfl, ?_⟩; have n0 := Aside0.mk (below_step (below_step HB.out HR.out) hb); clear hb; have HF := n0; clear n0)))
      go_ret
      exact ⟨rfl, HF.out⟩
set_option maxHeartbeats 8000000 in
set_option maxRecDepth 100000 in
theorem asks_high_no (hx : Dc w x A c) (hf : decide (fewD x 60 ≤ 500) = true) (h1 : 10002 < wd) (ho : okR x (wrap64 ((IntKind.u64.wrap wd).tmod 60)) = false) : AskAt w x A c wd := by
  have hu24 := Try.underlying24
  have hu30 := Try.underlying30
  have hu37 := Try.underlying37
  have HX_IV := Aside0.mk hx
  clear hx
  have HFW := Aside0.mk hf
  have HFI := Aside0.mk (few_small hf)
  have h1b : decide (wd < -2) = false := decide_eq_false (by omega)
  have h2b : decide (10002 < wd) = true := decide_eq_true h1
  obtain ⟨s, hs⟩ : ∃ s, renT x (wrap64 ((IntKind.u64.wrap wd).tmod 60)) = s := ⟨_, rfl⟩
  have ES := Aside0.mk hs
  clear hf h1 hs
  have EN : Aside0 (renE x (wrap64 ((IntKind.u64.wrap wd).tmod 60)) = 1) := ⟨by unfold renE; rw [if_neg (by rw [ho]; decide)]⟩
  have EM : Aside0 (renM x (wrap64 ((IntKind.u64.wrap wd).tmod 60)) = []) := ⟨by unfold renM; rw [if_neg (by rw [ho]; decide)]⟩
  clear ho
  unfold AskAt DA
  go_enter Try.func3, Try.ntmps3
  go_wp2_with (first | ((with_reducible refine gate_dst (N := 2) rfl ?_); (try (refine gate_guard (by rfl) ?_; dsimp only)); refine box_event ?hg (N := 2) ?hd (cs := #[.int .i64 x.f0, .int .i64 x.f1, .string x.f2, .slice A x.f3.length c]) (t := 24) ?hr ?_; (case hd => rfl); (case hg => rfl); (case hr => first | (go_simp; done) | (go_simp; rfl)); intro ga hg w1 hbox hb; have IV := Aside0.mk (IvD.mk hb hbox HX_IV.out); have hx0 := IV.out.c0; have hx1 := IV.out.c1; have hx2 := IV.out.c2; have hx3 := IV.out.c3; clear hb hbox hg) | ((with_reducible refine gate_dst (N := 14) rfl ?_); refine goesL_ (some 14) rfl rfl Try.func9 (by kernel_rfl) rfl #[.agg #[.int .i64 x.f0, .int .i64 x.f1, .string x.f2, .slice A x.f3.length c]] rfl (by (try simp only [List.map_toArray, List.map_cons, List.map_nil]); first | done | rfl) ?_; (refine (few_of x A c true _ IV.out.dx HFW.out).mono ?_); (rintro e w114 ⟨rfl, hb⟩; refine ⟨_, rfl, ?_⟩; have n_IV := Aside0.mk (IV.out.step hb); clear IV hx0 hx1 hx2 hx3; have IV := n_IV; clear n_IV; have hx0 := IV.out.c0; have hx1 := IV.out.c1; have hx2 := IV.out.c2; have hx3 := IV.out.c3)) | ((with_reducible refine gate_dst (N := 31) rfl ?_); refine goesL_ (some 31) rfl rfl Try.func11 (by kernel_rfl) rfl #[.agg #[.int .i64 x.f0, .int .i64 x.f1, .string x.f2, .slice A x.f3.length c], .int .i64 (wrap64 ((IntKind.u64.wrap wd).tmod 60))] rfl (by (try simp only [List.map_toArray, List.map_cons, List.map_nil]); first | done | rfl) ?_; (refine (rend_of x A c (wrap64 ((IntKind.u64.wrap wd).tmod 60)) s 1 _ IV.out.dx HFI.out.2.2 (Nat.le_trans HFI.out.1 (by decide)) ES.out EN.out).mono ?_); (rintro e w131 ⟨rfl, hb⟩; refine ⟨_, rfl, ?_⟩; have n_IV := Aside0.mk (IV.out.step hb); clear IV hx0 hx1 hx2 hx3; have IV := n_IV; clear n_IV; have hx0 := IV.out.c0; have hx1 := IV.out.c1; have hx2 := IV.out.c2; have hx3 := IV.out.c3)) | ((with_reducible refine gate_dst (N := 37) rfl ?_); refine goesL_ (some 37) rfl rfl Try.func12 (by kernel_rfl) rfl #[.agg #[.int .i64 x.f0, .int .i64 x.f1, .string x.f2, .slice A x.f3.length c], .int .i64 (wrap64 ((IntKind.u64.wrap wd).tmod 60))] rfl (by (try simp only [List.map_toArray, List.map_cons, List.map_nil]); first | done | rfl) ?_; (refine (rr_calls s 1 IV.out.dx HFI.out.2.2 HFI.out.1 HFI.out.2.1 ES.out EN.out).mono ?_); (rintro e w137 ⟨rfl, hb⟩; refine ⟨_, rfl, ?_⟩; have n_IV := Aside0.mk (IV.out.step hb); clear IV hx0 hx1 hx2 hx3; have IV := n_IV; clear n_IV; have hx0 := IV.out.c0; have hx1 := IV.out.c1; have hx2 := IV.out.c2; have hx3 := IV.out.c3)) | ((with_reducible refine gate_dst (N := 50) rfl ?_); refine goesL_ (some 50) rfl rfl Try.func13 (by kernel_rfl) rfl #[.agg #[.int .i64 x.f0, .int .i64 x.f1, .string x.f2, .slice A x.f3.length c], .int .i64 (wrap64 ((IntKind.u64.wrap wd).tmod 60))] rfl (by (try simp only [List.map_toArray, List.map_cons, List.map_nil]); first | done | rfl) ?_; (refine (modes_of x A c (wrap64 ((IntKind.u64.wrap wd).tmod 60)) [] _ IV.out.dx HFI.out.2.2 (Nat.le_trans HFI.out.1 (by decide)) EM.out).mono ?_); (rintro e w150 ⟨v50, rfl, hown, hb⟩; refine ⟨_, rfl, ?_⟩; obtain ⟨Am, cm, rfl, hcm⟩ := own_bools hown; have CM := Aside0.mk hcm; clear hown hcm; have n_IV := Aside0.mk (IV.out.step hb); clear IV hx0 hx1 hx2 hx3; have IV := n_IV; clear n_IV; have hx0 := IV.out.c0; have hx1 := IV.out.c1; have hx2 := IV.out.c2; have hx3 := IV.out.c3)) | ((with_reducible refine gate_dst (N := 53) rfl ?_); refine goesL_ (some 53) rfl rfl Try.func10 (by kernel_rfl) rfl #[] rfl (by (try simp only [List.map_toArray, List.map_cons, List.map_nil]); first | done | rfl) ?_; (refine (told_calls _).mono ?_); (rintro e w153 ⟨rfl, hb⟩; refine ⟨_, rfl, ?_⟩; have n_IV := Aside0.mk (IV.out.step hb); clear IV hx0 hx1 hx2 hx3; have IV := n_IV; clear n_IV; have hx0 := IV.out.c0; have hx1 := IV.out.c1; have hx2 := IV.out.c2; have hx3 := IV.out.c3)))
  go_ret
  exact ⟨rfl, IV.out.hb⟩
set_option maxHeartbeats 8000000 in
set_option maxRecDepth 100000 in
theorem asks_high_yes (hx : Dc w x A c) (hf : decide (fewD x 60 ≤ 500) = true) (h1 : 10002 < wd) (ho : okR x (wrap64 ((IntKind.u64.wrap wd).tmod 60)) = true) : AskAt w x A c wd := by
  have hu24 := Try.underlying24
  have hu30 := Try.underlying30
  have hu37 := Try.underlying37
  have HX_IV := Aside0.mk hx
  clear hx
  have HFW := Aside0.mk hf
  have HFI := Aside0.mk (few_small hf)
  have h1b : decide (wd < -2) = false := decide_eq_false (by omega)
  have h2b : decide (10002 < wd) = true := decide_eq_true h1
  obtain ⟨s, hs⟩ : ∃ s, renT x (wrap64 ((IntKind.u64.wrap wd).tmod 60)) = s := ⟨_, rfl⟩
  have ES := Aside0.mk hs
  clear hf h1 hs
  have EN : Aside0 (renE x (wrap64 ((IntKind.u64.wrap wd).tmod 60)) = 0) := ⟨by unfold renE; rw [if_pos ho]⟩
  have HOW : Aside0 (allOwn x = true) := ⟨by have h := ((okR_iff _ _).1 ho).2.2; unfold mayB at h; rw [Bool.and_eq_true, Bool.and_eq_true] at h; exact h.1.1⟩
  obtain ⟨ms, hms⟩ : ∃ m, (renS x (wrap64 ((IntKind.u64.wrap wd).tmod 60))).modes = m := ⟨_, rfl⟩
  have HMS := Aside0.mk hms
  have EM : Aside0 (renM x (wrap64 ((IntKind.u64.wrap wd).tmod 60)) = ms) := ⟨by unfold renM; rw [if_pos ho]; exact hms⟩
  have HML := Aside0.mk (show ms.length ≤ 1100 from by have q := renM_len (x := x) (wrap64 ((IntKind.u64.wrap wd).tmod 60)) HFI.out.2.2 (Nat.le_trans HFI.out.1 (by decide)); rw [EM.out] at q; exact q)
  obtain ⟨n, hn_⟩ : ∃ n, ms.length = n := ⟨_, rfl⟩
  have HN0 := Aside0.mk hn_
  clear ho hms
  unfold AskAt DA
  go_enter Try.func3, Try.ntmps3
  go_wp2_with (first | ((with_reducible refine gate_dst (N := 2) rfl ?_); (try (refine gate_guard (by rfl) ?_; dsimp only)); refine box_event ?hg (N := 2) ?hd (cs := #[.int .i64 x.f0, .int .i64 x.f1, .string x.f2, .slice A x.f3.length c]) (t := 24) ?hr ?_; (case hd => rfl); (case hg => rfl); (case hr => first | (go_simp; done) | (go_simp; rfl)); intro ga hg w1 hbox hb; have IV := Aside0.mk (IvD.mk hb hbox HX_IV.out); have hx0 := IV.out.c0; have hx1 := IV.out.c1; have hx2 := IV.out.c2; have hx3 := IV.out.c3; clear hb hbox hg) | ((with_reducible refine gate_dst (N := 14) rfl ?_); refine goesL_ (some 14) rfl rfl Try.func9 (by kernel_rfl) rfl #[.agg #[.int .i64 x.f0, .int .i64 x.f1, .string x.f2, .slice A x.f3.length c]] rfl (by (try simp only [List.map_toArray, List.map_cons, List.map_nil]); first | done | rfl) ?_; (refine (few_of x A c true _ IV.out.dx HFW.out).mono ?_); (rintro e w114 ⟨rfl, hb⟩; refine ⟨_, rfl, ?_⟩; have n_IV := Aside0.mk (IV.out.step hb); clear IV hx0 hx1 hx2 hx3; have IV := n_IV; clear n_IV; have hx0 := IV.out.c0; have hx1 := IV.out.c1; have hx2 := IV.out.c2; have hx3 := IV.out.c3)) | ((with_reducible refine gate_dst (N := 31) rfl ?_); refine goesL_ (some 31) rfl rfl Try.func11 (by kernel_rfl) rfl #[.agg #[.int .i64 x.f0, .int .i64 x.f1, .string x.f2, .slice A x.f3.length c], .int .i64 (wrap64 ((IntKind.u64.wrap wd).tmod 60))] rfl (by (try simp only [List.map_toArray, List.map_cons, List.map_nil]); first | done | rfl) ?_; (refine (rend_of x A c (wrap64 ((IntKind.u64.wrap wd).tmod 60)) s 0 _ IV.out.dx HFI.out.2.2 (Nat.le_trans HFI.out.1 (by decide)) ES.out EN.out).mono ?_); (rintro e w131 ⟨rfl, hb⟩; refine ⟨_, rfl, ?_⟩; have n_IV := Aside0.mk (IV.out.step hb); clear IV hx0 hx1 hx2 hx3; have IV := n_IV; clear n_IV; have hx0 := IV.out.c0; have hx1 := IV.out.c1; have hx2 := IV.out.c2; have hx3 := IV.out.c3)) | ((with_reducible refine gate_dst (N := 37) rfl ?_); refine goesL_ (some 37) rfl rfl Try.func12 (by kernel_rfl) rfl #[.agg #[.int .i64 x.f0, .int .i64 x.f1, .string x.f2, .slice A x.f3.length c], .int .i64 (wrap64 ((IntKind.u64.wrap wd).tmod 60))] rfl (by (try simp only [List.map_toArray, List.map_cons, List.map_nil]); first | done | rfl) ?_; (refine (rr_calls s 0 IV.out.dx HFI.out.2.2 HFI.out.1 HFI.out.2.1 ES.out EN.out).mono ?_); (rintro e w137 ⟨rfl, hb⟩; refine ⟨_, rfl, ?_⟩; have n_IV := Aside0.mk (IV.out.step hb); clear IV hx0 hx1 hx2 hx3; have IV := n_IV; clear n_IV; have hx0 := IV.out.c0; have hx1 := IV.out.c1; have hx2 := IV.out.c2; have hx3 := IV.out.c3)) | ((with_reducible refine gate_dst (N := 50) rfl ?_); refine goesL_ (some 50) rfl rfl Try.func13 (by kernel_rfl) rfl #[.agg #[.int .i64 x.f0, .int .i64 x.f1, .string x.f2, .slice A x.f3.length c], .int .i64 (wrap64 ((IntKind.u64.wrap wd).tmod 60))] rfl (by (try simp only [List.map_toArray, List.map_cons, List.map_nil]); first | done | rfl) ?_; (refine (modes_of x A c (wrap64 ((IntKind.u64.wrap wd).tmod 60)) ms _ IV.out.dx HFI.out.2.2 (Nat.le_trans HFI.out.1 (by decide)) EM.out).mono ?_); (rintro e w150 ⟨v50, rfl, hown, hb⟩; refine ⟨_, rfl, ?_⟩; obtain ⟨Am, cm, rfl, hcm⟩ := own_bools hown; have CM := Aside0.mk hcm; have HN_ := Aside0.mk hn_; try rw [hn_]; clear hown hcm; have n_IV := Aside0.mk (IV.out.step hb); clear IV hx0 hx1 hx2 hx3; have IV := n_IV; clear n_IV; have hx0 := IV.out.c0; have hx1 := IV.out.c1; have hx2 := IV.out.c2; have hx3 := IV.out.c3)) | ((with_reducible refine gate_dst (N := 61) rfl ?_); refine goesL_ (some 61) rfl rfl Try.func14 (by kernel_rfl) rfl #[.agg #[.int .i64 x.f0, .int .i64 x.f1, .string x.f2, .slice A x.f3.length c], .int .i64 (wrap64 ((IntKind.u64.wrap wd).tmod 60))] rfl (by (try simp only [List.map_toArray, List.map_cons, List.map_nil]); first | done | rfl) ?_; (refine (show Calls Try.prog 14 #[.agg #[.int .i64 x.f0, .int .i64 x.f1, .string x.f2, .slice A x.f3.length c], .int .i64 (wrap64 ((IntKind.u64.wrap wd).tmod 60))] _ _ from run_calls IV.out.dx HFI.out.2.2 HFI.out.1 HOW.out).mono ?_); (rintro e w161 ⟨gw, B, rfl, hr, hsz, hb⟩; refine ⟨_, rfl, ?_⟩; have n0 := Aside0.mk (below_step IV.out.hb hb); have n1 : Aside0 (∀ (i : Nat) (b : Bool), ms[i]? = some b → ∃ g, Am = some ⟨g, 0, none⟩ ∧ w161.cell? ⟨g, i, none⟩ = some (.bool b)) := ⟨fun i b h => (by obtain ⟨g, h1, h2⟩ := CM.out i b h; exact ⟨g, h1, bc hb h2⟩)⟩; clear IV CM hx0 hx1 hx2 hx3 hb hsz; have HB := n0; have CM := n1; clear n0 n1; obtain ⟨vr, vo, vm, h0, _, _, _, _, _, q5⟩ := hr.open_; have qm := h0.hm; rw [HMS.out] at qm; obtain ⟨Ar, cr, er, hcr⟩ := own_bools qm; subst er; have CR := Aside0.mk hcr; have GW := Aside0.mk q5; rw [HN_.out] at q5; clear hcr h0 hr qm)))
  obtain ⟨w2, hw2⟩ : ∃ w2 : World, w2 = w161 := ⟨_, rfl⟩
  rw [← hw2] at HB CM CR GW ⊢
  clear hw2 q5
  have hnn : n ≤ 1100 := by rw [← HN0.out]; exact HML.out
  go_loopg [12] n (fun k' v12 wr => ∃ i : Nat, v12 = .int .i64 i ∧ i ≤ n ∧ Aside0 (k' + i = n) ∧ Aside0 (Below w2.heap.size w2 wr))
  case atStart => exact ⟨0, rfl, Nat.zero_le _, ⟨rfl⟩, ⟨Below.refl _ _⟩⟩
  case round =>
    obtain ⟨i, rfl, hi, HK, HR⟩ := hrel
    by_cases hlt : i < n
    · obtain ⟨b, hb⟩ : ∃ b, ms[i]? = some b := ⟨_, List.getElem?_eq_getElem (by rw [HN0.out]; exact hlt)⟩
      obtain ⟨g1, e1, c1⟩ := CM.out i b hb
      obtain ⟨g2, e2, c2⟩ := CR.out i b hb
      have C1 := Aside0.mk (bc HR.out c1)
      have C2 := Aside0.mk (bc HR.out c2)
      have C3 := Aside0.mk (bc HR.out GW.out)
      clear hb c1 c2
      cases e1
      cases e2
      rw [HN0.out] at C3
      go_upto_region 19 with (fail)
      have hs_ : askS gw g1 g2 i n cr b wr.drew := ⟨bc (below_drew1 (Below.refl _ _)) C1.out, bc (below_drew1 (Below.refl _ _)) C3.out, bc (below_drew1 (Below.refl _ _)) C2.out, trivial⟩
      have n0 := Aside0.mk (HR.out.trans ((below_drew1 (Below.refl _ _)).mono HR.out.size))
      clear HR C1 C2 C3
      have HR := n0
      clear n0
      refine start_ (n := 12) (S := askS gw g1 g2 i n cr b) (ds := []) #[false, false, false, false, false, false, false, false, false, false, false, false] (by kernel_rfl) rfl rfl (hs_) (fun hHeld => ?_)
      clear hs_
      generalize World.drew _ = w500 at HR hHeld ⊢
      refine pure_ (i := 0) (N := some 76) (bt 12 1) rfl rfl (any_of F3tab19 (by kernel_rfl)) (fun _ _ _ h => h) (Or.inl ⟨by rfl, by intro w'; go_simp; with_reducible rfl⟩) (by simp only [Act.put, pset]; rfl) ?_
      refine pure_ (i := 1) (N := some 77) (bt 12 3) rfl rfl (any_of F3tab19 (by kernel_rfl)) (fun _ _ _ h => h) (Or.inl ⟨by rfl, by intro w'; go_simp; with_reducible rfl⟩) (by simp only [Act.put, pset]; rfl) ?_
      refine pure_ (i := 2) (N := some 78) (bt 12 7) rfl rfl (any_of F3tab19 (by kernel_rfl)) (fun _ _ _ h => h) (Or.inl ⟨by rfl, by intro w'; go_simp; with_reducible rfl⟩) (by simp only [Act.put, pset]; rfl) ?_
      refine take_ (i := 3) (N := some 79) (bt 12 15) rfl rfl (take_of F3tab19 (by kernel_rfl)) (fun _ _ _ h => h) (Or.inl ⟨by rfl, by rintro w' ⟨s0, s1, s2, s3⟩; go_simp; with_reducible rfl⟩) hHeld (by simp only [Act.put, pset]; rfl) ?_
      refine pure_ (i := 4) (N := some 80) (bt 12 31) rfl rfl (any_of F3tab19 (by kernel_rfl)) (fun _ _ _ h => h) (Or.inl ⟨by rfl, by intro w'; go_simp; with_reducible rfl⟩) (by simp only [Act.put, pset]; rfl) ?_
      refine pure_ (i := 5) (N := some 81) (bt 12 63) rfl rfl (any_of F3tab19 (by kernel_rfl)) (fun _ _ _ h => h) (Or.inl ⟨by rfl, by intro w'; go_simp; with_reducible rfl⟩) (by simp only [Act.put, pset]; rfl) ?_
      refine pure_ (i := 6) (N := some 82) (bt 12 127) rfl rfl (any_of F3tab19 (by kernel_rfl)) (fun _ _ _ h => h) (Or.inl ⟨by rfl, by intro w'; go_simp; with_reducible rfl⟩) (by simp only [Act.put, pset]; rfl) ?_
      refine take_ (i := 7) (N := some 83) (bt 12 255) rfl rfl (take_of F3tab19 (by kernel_rfl)) (fun _ _ _ h => h) (Or.inl ⟨by rfl, by rintro w' ⟨s0, s1, s2, s3⟩; go_simp; with_reducible rfl⟩) hHeld (by simp only [Act.put, pset]; rfl) ?_
      refine pure_ (i := 8) (N := some 84) (bt 12 511) rfl rfl (any_of F3tab19 (by kernel_rfl)) (fun _ _ _ h => h) (Or.inl ⟨by rfl, by intro w'; go_simp; with_reducible rfl⟩) (by simp only [Act.put, pset]; rfl) ?_
      refine pure_ (i := 9) (N := some 85) (bt 12 1023) rfl rfl (any_of F3tab19 (by kernel_rfl)) (fun _ _ _ h => h) (Or.inl ⟨by rfl, by intro w'; go_simp; with_reducible rfl⟩) (by simp only [Act.put, pset]; rfl) ?_
      refine take_ (i := 10) (N := some 86) (bt 12 2047) rfl rfl (take_of F3tab19 (by kernel_rfl)) (fun _ _ _ h => h) (Or.inl ⟨by rfl, by rintro w' ⟨s0, s1, s2, s3⟩; go_simp; with_reducible rfl⟩) hHeld (by simp only [Act.put, pset]; rfl) ?_
      refine pure_ (i := 11) (N := some 87) (bt 12 4095) rfl rfl (any_of F3tab19 (by kernel_rfl)) (fun _ _ _ h => h) (Or.inl ⟨by rfl, by intro w'; go_simp; with_reducible rfl⟩) (by simp only [Act.put, pset]; rfl) ?_
      refine done_ (done_of F3tab19 (by kernel_rfl)) ?_
      clear hHeld
      go_wp2_with fail
      go_roundg (gk - 1)
      case measure => have := HK.out; omega
      case rel => exact ⟨i + 1, by go_num, by omega, ⟨by have := HK.out; omega⟩, HR⟩
    · go_wp2_with (first | ((with_reducible refine gate_dst (N := 88) rfl ?_); refine goesL_ (some 88) rfl rfl Try.func10 (by kernel_rfl) rfl #[] rfl (by (try simp only [List.map_toArray, List.map_cons, List.map_nil]); first | done | rfl) ?_; (refine (told_calls _).mono ?_); (rintro e w188 ⟨rfl, hb⟩; refine ⟨_, rfl, ?_⟩; have n0 := Aside0.mk (below_step (below_step HB.out HR.out) hb); clear hb; have HF := n0; clear n0)))
      go_ret
      exact ⟨rfl, HF.out⟩
set_option maxHeartbeats 8000000 in
set_option maxRecDepth 100000 in
theorem asks_mid_no (hx : Dc w x A c) (hf : decide (fewD x 60 ≤ 500) = true) (h1 : -2 ≤ wd ∧ wd ≤ 10002) (ho : okR x wd = false) : AskAt w x A c wd := by
  have hu24 := Try.underlying24
  have hu30 := Try.underlying30
  have hu37 := Try.underlying37
  have HX_IV := Aside0.mk hx
  clear hx
  have HFW := Aside0.mk hf
  have HFI := Aside0.mk (few_small hf)
  have h1b : decide (wd < -2) = false := decide_eq_false (by omega)
  have h2b : decide (10002 < wd) = false := decide_eq_false (by omega)
  obtain ⟨s, hs⟩ : ∃ s, renT x wd = s := ⟨_, rfl⟩
  have ES := Aside0.mk hs
  clear hf h1 hs
  have EN : Aside0 (renE x wd = 1) := ⟨by unfold renE; rw [if_neg (by rw [ho]; decide)]⟩
  have EM : Aside0 (renM x wd = []) := ⟨by unfold renM; rw [if_neg (by rw [ho]; decide)]⟩
  clear ho
  unfold AskAt DA
  go_enter Try.func3, Try.ntmps3
  go_wp2_with (first | ((with_reducible refine gate_dst (N := 2) rfl ?_); (try (refine gate_guard (by rfl) ?_; dsimp only)); refine box_event ?hg (N := 2) ?hd (cs := #[.int .i64 x.f0, .int .i64 x.f1, .string x.f2, .slice A x.f3.length c]) (t := 24) ?hr ?_; (case hd => rfl); (case hg => rfl); (case hr => first | (go_simp; done) | (go_simp; rfl)); intro ga hg w1 hbox hb; have IV := Aside0.mk (IvD.mk hb hbox HX_IV.out); have hx0 := IV.out.c0; have hx1 := IV.out.c1; have hx2 := IV.out.c2; have hx3 := IV.out.c3; clear hb hbox hg) | ((with_reducible refine gate_dst (N := 14) rfl ?_); refine goesL_ (some 14) rfl rfl Try.func9 (by kernel_rfl) rfl #[.agg #[.int .i64 x.f0, .int .i64 x.f1, .string x.f2, .slice A x.f3.length c]] rfl (by (try simp only [List.map_toArray, List.map_cons, List.map_nil]); first | done | rfl) ?_; (refine (few_of x A c true _ IV.out.dx HFW.out).mono ?_); (rintro e w114 ⟨rfl, hb⟩; refine ⟨_, rfl, ?_⟩; have n_IV := Aside0.mk (IV.out.step hb); clear IV hx0 hx1 hx2 hx3; have IV := n_IV; clear n_IV; have hx0 := IV.out.c0; have hx1 := IV.out.c1; have hx2 := IV.out.c2; have hx3 := IV.out.c3)) | ((with_reducible refine gate_dst (N := 31) rfl ?_); refine goesL_ (some 31) rfl rfl Try.func11 (by kernel_rfl) rfl #[.agg #[.int .i64 x.f0, .int .i64 x.f1, .string x.f2, .slice A x.f3.length c], .int .i64 wd] rfl (by (try simp only [List.map_toArray, List.map_cons, List.map_nil]); first | done | rfl) ?_; (refine (rend_of x A c wd s 1 _ IV.out.dx HFI.out.2.2 (Nat.le_trans HFI.out.1 (by decide)) ES.out EN.out).mono ?_); (rintro e w131 ⟨rfl, hb⟩; refine ⟨_, rfl, ?_⟩; have n_IV := Aside0.mk (IV.out.step hb); clear IV hx0 hx1 hx2 hx3; have IV := n_IV; clear n_IV; have hx0 := IV.out.c0; have hx1 := IV.out.c1; have hx2 := IV.out.c2; have hx3 := IV.out.c3)) | ((with_reducible refine gate_dst (N := 37) rfl ?_); refine goesL_ (some 37) rfl rfl Try.func12 (by kernel_rfl) rfl #[.agg #[.int .i64 x.f0, .int .i64 x.f1, .string x.f2, .slice A x.f3.length c], .int .i64 wd] rfl (by (try simp only [List.map_toArray, List.map_cons, List.map_nil]); first | done | rfl) ?_; (refine (rr_calls s 1 IV.out.dx HFI.out.2.2 HFI.out.1 HFI.out.2.1 ES.out EN.out).mono ?_); (rintro e w137 ⟨rfl, hb⟩; refine ⟨_, rfl, ?_⟩; have n_IV := Aside0.mk (IV.out.step hb); clear IV hx0 hx1 hx2 hx3; have IV := n_IV; clear n_IV; have hx0 := IV.out.c0; have hx1 := IV.out.c1; have hx2 := IV.out.c2; have hx3 := IV.out.c3)) | ((with_reducible refine gate_dst (N := 50) rfl ?_); refine goesL_ (some 50) rfl rfl Try.func13 (by kernel_rfl) rfl #[.agg #[.int .i64 x.f0, .int .i64 x.f1, .string x.f2, .slice A x.f3.length c], .int .i64 wd] rfl (by (try simp only [List.map_toArray, List.map_cons, List.map_nil]); first | done | rfl) ?_; (refine (modes_of x A c wd [] _ IV.out.dx HFI.out.2.2 (Nat.le_trans HFI.out.1 (by decide)) EM.out).mono ?_); (rintro e w150 ⟨v50, rfl, hown, hb⟩; refine ⟨_, rfl, ?_⟩; obtain ⟨Am, cm, rfl, hcm⟩ := own_bools hown; have CM := Aside0.mk hcm; clear hown hcm; have n_IV := Aside0.mk (IV.out.step hb); clear IV hx0 hx1 hx2 hx3; have IV := n_IV; clear n_IV; have hx0 := IV.out.c0; have hx1 := IV.out.c1; have hx2 := IV.out.c2; have hx3 := IV.out.c3)) | ((with_reducible refine gate_dst (N := 53) rfl ?_); refine goesL_ (some 53) rfl rfl Try.func10 (by kernel_rfl) rfl #[] rfl (by (try simp only [List.map_toArray, List.map_cons, List.map_nil]); first | done | rfl) ?_; (refine (told_calls _).mono ?_); (rintro e w153 ⟨rfl, hb⟩; refine ⟨_, rfl, ?_⟩; have n_IV := Aside0.mk (IV.out.step hb); clear IV hx0 hx1 hx2 hx3; have IV := n_IV; clear n_IV; have hx0 := IV.out.c0; have hx1 := IV.out.c1; have hx2 := IV.out.c2; have hx3 := IV.out.c3)))
  go_ret
  exact ⟨rfl, IV.out.hb⟩
set_option maxHeartbeats 8000000 in
set_option maxRecDepth 100000 in
theorem asks_mid_yes (hx : Dc w x A c) (hf : decide (fewD x 60 ≤ 500) = true) (h1 : -2 ≤ wd ∧ wd ≤ 10002) (ho : okR x wd = true) : AskAt w x A c wd := by
  have hu24 := Try.underlying24
  have hu30 := Try.underlying30
  have hu37 := Try.underlying37
  have HX_IV := Aside0.mk hx
  clear hx
  have HFW := Aside0.mk hf
  have HFI := Aside0.mk (few_small hf)
  have h1b : decide (wd < -2) = false := decide_eq_false (by omega)
  have h2b : decide (10002 < wd) = false := decide_eq_false (by omega)
  obtain ⟨s, hs⟩ : ∃ s, renT x wd = s := ⟨_, rfl⟩
  have ES := Aside0.mk hs
  clear hf h1 hs
  have EN : Aside0 (renE x wd = 0) := ⟨by unfold renE; rw [if_pos ho]⟩
  have HOW : Aside0 (allOwn x = true) := ⟨by have h := ((okR_iff _ _).1 ho).2.2; unfold mayB at h; rw [Bool.and_eq_true, Bool.and_eq_true] at h; exact h.1.1⟩
  obtain ⟨ms, hms⟩ : ∃ m, (renS x wd).modes = m := ⟨_, rfl⟩
  have HMS := Aside0.mk hms
  have EM : Aside0 (renM x wd = ms) := ⟨by unfold renM; rw [if_pos ho]; exact hms⟩
  have HML := Aside0.mk (show ms.length ≤ 1100 from by have q := renM_len (x := x) wd HFI.out.2.2 (Nat.le_trans HFI.out.1 (by decide)); rw [EM.out] at q; exact q)
  obtain ⟨n, hn_⟩ : ∃ n, ms.length = n := ⟨_, rfl⟩
  have HN0 := Aside0.mk hn_
  clear ho hms
  unfold AskAt DA
  go_enter Try.func3, Try.ntmps3
  go_wp2_with (first | ((with_reducible refine gate_dst (N := 2) rfl ?_); (try (refine gate_guard (by rfl) ?_; dsimp only)); refine box_event ?hg (N := 2) ?hd (cs := #[.int .i64 x.f0, .int .i64 x.f1, .string x.f2, .slice A x.f3.length c]) (t := 24) ?hr ?_; (case hd => rfl); (case hg => rfl); (case hr => first | (go_simp; done) | (go_simp; rfl)); intro ga hg w1 hbox hb; have IV := Aside0.mk (IvD.mk hb hbox HX_IV.out); have hx0 := IV.out.c0; have hx1 := IV.out.c1; have hx2 := IV.out.c2; have hx3 := IV.out.c3; clear hb hbox hg) | ((with_reducible refine gate_dst (N := 14) rfl ?_); refine goesL_ (some 14) rfl rfl Try.func9 (by kernel_rfl) rfl #[.agg #[.int .i64 x.f0, .int .i64 x.f1, .string x.f2, .slice A x.f3.length c]] rfl (by (try simp only [List.map_toArray, List.map_cons, List.map_nil]); first | done | rfl) ?_; (refine (few_of x A c true _ IV.out.dx HFW.out).mono ?_); (rintro e w114 ⟨rfl, hb⟩; refine ⟨_, rfl, ?_⟩; have n_IV := Aside0.mk (IV.out.step hb); clear IV hx0 hx1 hx2 hx3; have IV := n_IV; clear n_IV; have hx0 := IV.out.c0; have hx1 := IV.out.c1; have hx2 := IV.out.c2; have hx3 := IV.out.c3)) | ((with_reducible refine gate_dst (N := 31) rfl ?_); refine goesL_ (some 31) rfl rfl Try.func11 (by kernel_rfl) rfl #[.agg #[.int .i64 x.f0, .int .i64 x.f1, .string x.f2, .slice A x.f3.length c], .int .i64 wd] rfl (by (try simp only [List.map_toArray, List.map_cons, List.map_nil]); first | done | rfl) ?_; (refine (rend_of x A c wd s 0 _ IV.out.dx HFI.out.2.2 (Nat.le_trans HFI.out.1 (by decide)) ES.out EN.out).mono ?_); (rintro e w131 ⟨rfl, hb⟩; refine ⟨_, rfl, ?_⟩; have n_IV := Aside0.mk (IV.out.step hb); clear IV hx0 hx1 hx2 hx3; have IV := n_IV; clear n_IV; have hx0 := IV.out.c0; have hx1 := IV.out.c1; have hx2 := IV.out.c2; have hx3 := IV.out.c3)) | ((with_reducible refine gate_dst (N := 37) rfl ?_); refine goesL_ (some 37) rfl rfl Try.func12 (by kernel_rfl) rfl #[.agg #[.int .i64 x.f0, .int .i64 x.f1, .string x.f2, .slice A x.f3.length c], .int .i64 wd] rfl (by (try simp only [List.map_toArray, List.map_cons, List.map_nil]); first | done | rfl) ?_; (refine (rr_calls s 0 IV.out.dx HFI.out.2.2 HFI.out.1 HFI.out.2.1 ES.out EN.out).mono ?_); (rintro e w137 ⟨rfl, hb⟩; refine ⟨_, rfl, ?_⟩; have n_IV := Aside0.mk (IV.out.step hb); clear IV hx0 hx1 hx2 hx3; have IV := n_IV; clear n_IV; have hx0 := IV.out.c0; have hx1 := IV.out.c1; have hx2 := IV.out.c2; have hx3 := IV.out.c3)) | ((with_reducible refine gate_dst (N := 50) rfl ?_); refine goesL_ (some 50) rfl rfl Try.func13 (by kernel_rfl) rfl #[.agg #[.int .i64 x.f0, .int .i64 x.f1, .string x.f2, .slice A x.f3.length c], .int .i64 wd] rfl (by (try simp only [List.map_toArray, List.map_cons, List.map_nil]); first | done | rfl) ?_; (refine (modes_of x A c wd ms _ IV.out.dx HFI.out.2.2 (Nat.le_trans HFI.out.1 (by decide)) EM.out).mono ?_); (rintro e w150 ⟨v50, rfl, hown, hb⟩; refine ⟨_, rfl, ?_⟩; obtain ⟨Am, cm, rfl, hcm⟩ := own_bools hown; have CM := Aside0.mk hcm; have HN_ := Aside0.mk hn_; try rw [hn_]; clear hown hcm; have n_IV := Aside0.mk (IV.out.step hb); clear IV hx0 hx1 hx2 hx3; have IV := n_IV; clear n_IV; have hx0 := IV.out.c0; have hx1 := IV.out.c1; have hx2 := IV.out.c2; have hx3 := IV.out.c3)) | ((with_reducible refine gate_dst (N := 61) rfl ?_); refine goesL_ (some 61) rfl rfl Try.func14 (by kernel_rfl) rfl #[.agg #[.int .i64 x.f0, .int .i64 x.f1, .string x.f2, .slice A x.f3.length c], .int .i64 wd] rfl (by (try simp only [List.map_toArray, List.map_cons, List.map_nil]); first | done | rfl) ?_; (refine (show Calls Try.prog 14 #[.agg #[.int .i64 x.f0, .int .i64 x.f1, .string x.f2, .slice A x.f3.length c], .int .i64 wd] _ _ from run_calls IV.out.dx HFI.out.2.2 HFI.out.1 HOW.out).mono ?_); (rintro e w161 ⟨gw, B, rfl, hr, hsz, hb⟩; refine ⟨_, rfl, ?_⟩; have n0 := Aside0.mk (below_step IV.out.hb hb); have n1 : Aside0 (∀ (i : Nat) (b : Bool), ms[i]? = some b → ∃ g, Am = some ⟨g, 0, none⟩ ∧ w161.cell? ⟨g, i, none⟩ = some (.bool b)) := ⟨fun i b h => (by obtain ⟨g, h1, h2⟩ := CM.out i b h; exact ⟨g, h1, bc hb h2⟩)⟩; clear IV CM hx0 hx1 hx2 hx3 hb hsz; have HB := n0; have CM := n1; clear n0 n1; obtain ⟨vr, vo, vm, h0, _, _, _, _, _, q5⟩ := hr.open_; have qm := h0.hm; rw [HMS.out] at qm; obtain ⟨Ar, cr, er, hcr⟩ := own_bools qm; subst er; have CR := Aside0.mk hcr; have GW := Aside0.mk q5; rw [HN_.out] at q5; clear hcr h0 hr qm)))
  obtain ⟨w2, hw2⟩ : ∃ w2 : World, w2 = w161 := ⟨_, rfl⟩
  rw [← hw2] at HB CM CR GW ⊢
  clear hw2 q5
  have hnn : n ≤ 1100 := by rw [← HN0.out]; exact HML.out
  go_loopg [12] n (fun k' v12 wr => ∃ i : Nat, v12 = .int .i64 i ∧ i ≤ n ∧ Aside0 (k' + i = n) ∧ Aside0 (Below w2.heap.size w2 wr))
  case atStart => exact ⟨0, rfl, Nat.zero_le _, ⟨rfl⟩, ⟨Below.refl _ _⟩⟩
  case round =>
    obtain ⟨i, rfl, hi, HK, HR⟩ := hrel
    by_cases hlt : i < n
    · obtain ⟨b, hb⟩ : ∃ b, ms[i]? = some b := ⟨_, List.getElem?_eq_getElem (by rw [HN0.out]; exact hlt)⟩
      obtain ⟨g1, e1, c1⟩ := CM.out i b hb
      obtain ⟨g2, e2, c2⟩ := CR.out i b hb
      have C1 := Aside0.mk (bc HR.out c1)
      have C2 := Aside0.mk (bc HR.out c2)
      have C3 := Aside0.mk (bc HR.out GW.out)
      clear hb c1 c2
      cases e1
      cases e2
      rw [HN0.out] at C3
      go_upto_region 19 with (fail)
      have hs_ : askS gw g1 g2 i n cr b wr.drew := ⟨bc (below_drew1 (Below.refl _ _)) C1.out, bc (below_drew1 (Below.refl _ _)) C3.out, bc (below_drew1 (Below.refl _ _)) C2.out, trivial⟩
      have n0 := Aside0.mk (HR.out.trans ((below_drew1 (Below.refl _ _)).mono HR.out.size))
      clear HR C1 C2 C3
      have HR := n0
      clear n0
      refine start_ (n := 12) (S := askS gw g1 g2 i n cr b) (ds := []) #[false, false, false, false, false, false, false, false, false, false, false, false] (by kernel_rfl) rfl rfl (hs_) (fun hHeld => ?_)
      clear hs_
      generalize World.drew _ = w500 at HR hHeld ⊢
      refine pure_ (i := 0) (N := some 76) (bt 12 1) rfl rfl (any_of F3tab19 (by kernel_rfl)) (fun _ _ _ h => h) (Or.inl ⟨by rfl, by intro w'; go_simp; with_reducible rfl⟩) (by simp only [Act.put, pset]; rfl) ?_
      refine pure_ (i := 1) (N := some 77) (bt 12 3) rfl rfl (any_of F3tab19 (by kernel_rfl)) (fun _ _ _ h => h) (Or.inl ⟨by rfl, by intro w'; go_simp; with_reducible rfl⟩) (by simp only [Act.put, pset]; rfl) ?_
      refine pure_ (i := 2) (N := some 78) (bt 12 7) rfl rfl (any_of F3tab19 (by kernel_rfl)) (fun _ _ _ h => h) (Or.inl ⟨by rfl, by intro w'; go_simp; with_reducible rfl⟩) (by simp only [Act.put, pset]; rfl) ?_
      refine take_ (i := 3) (N := some 79) (bt 12 15) rfl rfl (take_of F3tab19 (by kernel_rfl)) (fun _ _ _ h => h) (Or.inl ⟨by rfl, by rintro w' ⟨s0, s1, s2, s3⟩; go_simp; with_reducible rfl⟩) hHeld (by simp only [Act.put, pset]; rfl) ?_
      refine pure_ (i := 4) (N := some 80) (bt 12 31) rfl rfl (any_of F3tab19 (by kernel_rfl)) (fun _ _ _ h => h) (Or.inl ⟨by rfl, by intro w'; go_simp; with_reducible rfl⟩) (by simp only [Act.put, pset]; rfl) ?_
      refine pure_ (i := 5) (N := some 81) (bt 12 63) rfl rfl (any_of F3tab19 (by kernel_rfl)) (fun _ _ _ h => h) (Or.inl ⟨by rfl, by intro w'; go_simp; with_reducible rfl⟩) (by simp only [Act.put, pset]; rfl) ?_
      refine pure_ (i := 6) (N := some 82) (bt 12 127) rfl rfl (any_of F3tab19 (by kernel_rfl)) (fun _ _ _ h => h) (Or.inl ⟨by rfl, by intro w'; go_simp; with_reducible rfl⟩) (by simp only [Act.put, pset]; rfl) ?_
      refine take_ (i := 7) (N := some 83) (bt 12 255) rfl rfl (take_of F3tab19 (by kernel_rfl)) (fun _ _ _ h => h) (Or.inl ⟨by rfl, by rintro w' ⟨s0, s1, s2, s3⟩; go_simp; with_reducible rfl⟩) hHeld (by simp only [Act.put, pset]; rfl) ?_
      refine pure_ (i := 8) (N := some 84) (bt 12 511) rfl rfl (any_of F3tab19 (by kernel_rfl)) (fun _ _ _ h => h) (Or.inl ⟨by rfl, by intro w'; go_simp; with_reducible rfl⟩) (by simp only [Act.put, pset]; rfl) ?_
      refine pure_ (i := 9) (N := some 85) (bt 12 1023) rfl rfl (any_of F3tab19 (by kernel_rfl)) (fun _ _ _ h => h) (Or.inl ⟨by rfl, by intro w'; go_simp; with_reducible rfl⟩) (by simp only [Act.put, pset]; rfl) ?_
      refine take_ (i := 10) (N := some 86) (bt 12 2047) rfl rfl (take_of F3tab19 (by kernel_rfl)) (fun _ _ _ h => h) (Or.inl ⟨by rfl, by rintro w' ⟨s0, s1, s2, s3⟩; go_simp; with_reducible rfl⟩) hHeld (by simp only [Act.put, pset]; rfl) ?_
      refine pure_ (i := 11) (N := some 87) (bt 12 4095) rfl rfl (any_of F3tab19 (by kernel_rfl)) (fun _ _ _ h => h) (Or.inl ⟨by rfl, by intro w'; go_simp; with_reducible rfl⟩) (by simp only [Act.put, pset]; rfl) ?_
      refine done_ (done_of F3tab19 (by kernel_rfl)) ?_
      clear hHeld
      go_wp2_with fail
      go_roundg (gk - 1)
      case measure => have := HK.out; omega
      case rel => exact ⟨i + 1, by go_num, by omega, ⟨by have := HK.out; omega⟩, HR⟩
    · go_wp2_with (first | ((with_reducible refine gate_dst (N := 88) rfl ?_); refine goesL_ (some 88) rfl rfl Try.func10 (by kernel_rfl) rfl #[] rfl (by (try simp only [List.map_toArray, List.map_cons, List.map_nil]); first | done | rfl) ?_; (refine (told_calls _).mono ?_); (rintro e w188 ⟨rfl, hb⟩; refine ⟨_, rfl, ?_⟩; have n0 := Aside0.mk (below_step (below_step HB.out HR.out) hb); clear hb; have HF := n0; clear n0)))
      go_ret
      exact ⟨rfl, HF.out⟩
theorem RenderAsks_walk (x : S24) (A : Option Addr) (c : Nat) (hx : Dc w x A c) (wd : Int) (hn : (Lit.int .i64 wd).wf = true) : Calls Try.prog 3 #[.agg #[.int .i64 x.f0, .int .i64 x.f1, .string x.f2, .slice A x.f3.length c], .int .i64 wd] w fun e w' => e = .returned (.bool true) ∧ Below w.heap.size w w' := by
  show AskAt w x A c wd
  cases hf : decide (fewD x 60 ≤ 500)
  · exact asks_few hx hf
  by_cases h1 : wd < -2
  · cases ho : okR x (wrap64 ((IntKind.u64.wrap wd).tmod 60))
    · exact asks_low_no hx hf h1 ho
    · exact asks_low_yes hx hf h1 ho
  by_cases h2 : 10002 < wd
  · cases ho : okR x (wrap64 ((IntKind.u64.wrap wd).tmod 60))
    · exact asks_high_no hx hf h2 ho
    · exact asks_high_yes hx hf h2 ho
  cases ho : okR x wd
  · exact asks_mid_no hx hf (by omega) ho
  · exact asks_mid_yes hx hf (by omega) ho
end
end Go.Proofs.Ytigihiggpfjbjaa.PR
