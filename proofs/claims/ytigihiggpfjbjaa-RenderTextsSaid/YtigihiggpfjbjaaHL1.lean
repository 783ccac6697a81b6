/- RenderTexts: the walk. -/
import Derived.Test.YtigihiggpfjbjaaHLC
namespace Go.Proofs.Ytigihiggpfjbjaa.PR
open Go.RowKit Go.Proofs.YtigihiggpfjbjaaW.PrintWords Go.Proofs.YtigihiggpfjbjaaW.PrintLast Go.Proofs.YtigihiggpfjbjaaW.PrintMore
set_option linter.unusedVariables false
set_option linter.unusedSimpArgs false
section
variable {w : World} {x : S24} {A : Option Addr} {c : Nat} {wd : Int}
def TextsAt (w : World) (x : S24) (A : Option Addr) (c : Nat) (wd : Int) : Prop := Calls Try.prog 4 #[DA x A c, .int .i64 wd] w fun e w' => e = .returned (.bool true) ∧ Below w.heap.size w w'
set_option maxHeartbeats 4000000 in
set_option maxRecDepth 100000 in
theorem texts_few (hx : Dc w x A c) (hf : decide (fewD x 60 ≤ 500) = false) : TextsAt w x A c wd := by
  have hu24 := Try.underlying24
  have HX_IV := Aside0.mk hx
  clear hx
  have HFW := Aside0.mk hf
  clear hf
  unfold TextsAt DA
  go_enter Try.func4, Try.ntmps4
  go_wp2_with (first | ((with_reducible refine gate_dst (N := 2) rfl ?_); (try (refine gate_guard (by rfl) ?_; dsimp only)); refine box_event ?hg (N := 2) ?hd (cs := #[.int .i64 x.f0, .int .i64 x.f1, .string x.f2, .slice A x.f3.length c]) (t := 24) ?hr ?_; (case hd => rfl); (case hg => rfl); (case hr => first | (go_simp; done) | (go_simp; rfl)); intro ga hg w1 hbox hb; have IV := Aside0.mk (IvD.mk hb hbox HX_IV.out); have hx0 := IV.out.c0; have hx1 := IV.out.c1; have hx2 := IV.out.c2; have hx3 := IV.out.c3; clear hb hbox hg) | ((with_reducible refine gate_dst (N := 12) rfl ?_); refine goesL_ (some 12) rfl rfl Try.func9 (by kernel_rfl) rfl #[.agg #[.int .i64 x.f0, .int .i64 x.f1, .string x.f2, .slice A x.f3.length c]] rfl (by (try simp only [List.map_toArray, List.map_cons, List.map_nil]); first | done | rfl) ?_; (refine (few_of x A c false _ IV.out.dx HFW.out).mono ?_); (rintro e w112 ⟨rfl, hb⟩; refine ⟨_, rfl, ?_⟩; have n_IV := Aside0.mk (IV.out.step hb); clear IV hx0 hx1 hx2 hx3; have IV := n_IV; clear n_IV; have hx0 := IV.out.c0; have hx1 := IV.out.c1; have hx2 := IV.out.c2; have hx3 := IV.out.c3; clear hb)) | ((with_reducible refine gate_dst (N := 19) rfl ?_); refine goesL_ (some 19) rfl rfl Try.func10 (by kernel_rfl) rfl #[] rfl (by (try simp only [List.map_toArray, List.map_cons, List.map_nil]); first | done | rfl) ?_; (refine (told_calls _).mono ?_); (rintro e w119 ⟨rfl, hb⟩; refine ⟨_, rfl, ?_⟩; have n_IV := Aside0.mk (IV.out.step hb); clear IV hx0 hx1 hx2 hx3; have IV := n_IV; clear n_IV; have hx0 := IV.out.c0; have hx1 := IV.out.c1; have hx2 := IV.out.c2; have hx3 := IV.out.c3; clear hb)))
  go_ret
  exact ⟨rfl, IV.out.hb⟩
set_option maxHeartbeats 4000000 in
set_option maxRecDepth 100000 in
theorem texts_may (hx : Dc w x A c) (hf : decide (fewD x 60 ≤ 500) = true) (hm : mayB x = false) : TextsAt w x A c wd := by
  have hu24 := Try.underlying24
  have HX_IV := Aside0.mk hx
  clear hx
  have HFW := Aside0.mk hf
  have HFI := Aside0.mk (few_small hf)
  have HMY := Aside0.mk hm
  clear hf hm
  unfold TextsAt DA
  go_enter Try.func4, Try.ntmps4
  go_wp2_with (first | ((with_reducible refine gate_dst (N := 2) rfl ?_); (try (refine gate_guard (by rfl) ?_; dsimp only)); refine box_event ?hg (N := 2) ?hd (cs := #[.int .i64 x.f0, .int .i64 x.f1, .string x.f2, .slice A x.f3.length c]) (t := 24) ?hr ?_; (case hd => rfl); (case hg => rfl); (case hr => first | (go_simp; done) | (go_simp; rfl)); intro ga hg w1 hbox hb; have IV := Aside0.mk (IvD.mk hb hbox HX_IV.out); have hx0 := IV.out.c0; have hx1 := IV.out.c1; have hx2 := IV.out.c2; have hx3 := IV.out.c3; clear hb hbox hg) | ((with_reducible refine gate_dst (N := 12) rfl ?_); refine goesL_ (some 12) rfl rfl Try.func9 (by kernel_rfl) rfl #[.agg #[.int .i64 x.f0, .int .i64 x.f1, .string x.f2, .slice A x.f3.length c]] rfl (by (try simp only [List.map_toArray, List.map_cons, List.map_nil]); first | done | rfl) ?_; (refine (few_of x A c true _ IV.out.dx HFW.out).mono ?_); (rintro e w112 ⟨rfl, hb⟩; refine ⟨_, rfl, ?_⟩; have n_IV := Aside0.mk (IV.out.step hb); clear IV hx0 hx1 hx2 hx3; have IV := n_IV; clear n_IV; have hx0 := IV.out.c0; have hx1 := IV.out.c1; have hx2 := IV.out.c2; have hx3 := IV.out.c3; clear hb)) | ((with_reducible refine gate_dst (N := 16) rfl ?_); (refine gate_guard (by rfl) ?_; dsimp only); refine goesL_ (some 16) rfl rfl Try.func15 (by kernel_rfl) rfl #[.agg #[.int .i64 x.f0, .int .i64 x.f1, .string x.f2, .slice A x.f3.length c]] rfl (by (try simp only [List.map_toArray, List.map_cons, List.map_nil]); first | done | rfl) ?_; (refine (may_of x A c false _ IV.out.dx HFI.out.2.2 HFI.out.1 HFI.out.2.1 HMY.out).mono ?_); (rintro e w116 ⟨rfl, hb⟩; refine ⟨_, rfl, ?_⟩; have n_IV := Aside0.mk (IV.out.step hb); clear IV hx0 hx1 hx2 hx3; have IV := n_IV; clear n_IV; have hx0 := IV.out.c0; have hx1 := IV.out.c1; have hx2 := IV.out.c2; have hx3 := IV.out.c3; clear hb)) | ((with_reducible refine gate_dst (N := 19) rfl ?_); refine goesL_ (some 19) rfl rfl Try.func10 (by kernel_rfl) rfl #[] rfl (by (try simp only [List.map_toArray, List.map_cons, List.map_nil]); first | done | rfl) ?_; (refine (told_calls _).mono ?_); (rintro e w119 ⟨rfl, hb⟩; refine ⟨_, rfl, ?_⟩; have n_IV := Aside0.mk (IV.out.step hb); clear IV hx0 hx1 hx2 hx3; have IV := n_IV; clear n_IV; have hx0 := IV.out.c0; have hx1 := IV.out.c1; have hx2 := IV.out.c2; have hx3 := IV.out.c3; clear hb)))
  go_ret
  exact ⟨rfl, IV.out.hb⟩
set_option maxHeartbeats 4000000 in
set_option maxRecDepth 100000 in
theorem texts_blank (hx : Dc w x A c) (hf : decide (fewD x 60 ≤ 500) = true) (hm : mayB x = true) (ho : okW x = false) : TextsAt w x A c wd := by
  have hu24 := Try.underlying24
  have HX_IV := Aside0.mk hx
  clear hx
  have HFW := Aside0.mk hf
  have HFI := Aside0.mk (few_small hf)
  have HMY := Aside0.mk hm
  clear hf hm
  have HWO : Aside0 ((if okW x = true then (wordV x, true) else ((⟨#[]⟩ : ByteArray), false)) = ((⟨#[]⟩ : ByteArray), false)) := ⟨by rw [ho]; rfl⟩
  clear ho
  unfold TextsAt DA
  go_enter Try.func4, Try.ntmps4
  go_wp2_with (first | ((with_reducible refine gate_dst (N := 2) rfl ?_); (try (refine gate_guard (by rfl) ?_; dsimp only)); refine box_event ?hg (N := 2) ?hd (cs := #[.int .i64 x.f0, .int .i64 x.f1, .string x.f2, .slice A x.f3.length c]) (t := 24) ?hr ?_; (case hd => rfl); (case hg => rfl); (case hr => first | (go_simp; done) | (go_simp; rfl)); intro ga hg w1 hbox hb; have IV := Aside0.mk (IvD.mk hb hbox HX_IV.out); have hx0 := IV.out.c0; have hx1 := IV.out.c1; have hx2 := IV.out.c2; have hx3 := IV.out.c3; clear hb hbox hg) | ((with_reducible refine gate_dst (N := 12) rfl ?_); refine goesL_ (some 12) rfl rfl Try.func9 (by kernel_rfl) rfl #[.agg #[.int .i64 x.f0, .int .i64 x.f1, .string x.f2, .slice A x.f3.length c]] rfl (by (try simp only [List.map_toArray, List.map_cons, List.map_nil]); first | done | rfl) ?_; (refine (few_of x A c true _ IV.out.dx HFW.out).mono ?_); (rintro e w112 ⟨rfl, hb⟩; refine ⟨_, rfl, ?_⟩; have n_IV := Aside0.mk (IV.out.step hb); clear IV hx0 hx1 hx2 hx3; have IV := n_IV; clear n_IV; have hx0 := IV.out.c0; have hx1 := IV.out.c1; have hx2 := IV.out.c2; have hx3 := IV.out.c3; clear hb)) | ((with_reducible refine gate_dst (N := 16) rfl ?_); (refine gate_guard (by rfl) ?_; dsimp only); refine goesL_ (some 16) rfl rfl Try.func15 (by kernel_rfl) rfl #[.agg #[.int .i64 x.f0, .int .i64 x.f1, .string x.f2, .slice A x.f3.length c]] rfl (by (try simp only [List.map_toArray, List.map_cons, List.map_nil]); first | done | rfl) ?_; (refine (may_of x A c true _ IV.out.dx HFI.out.2.2 HFI.out.1 HFI.out.2.1 HMY.out).mono ?_); (rintro e w116 ⟨rfl, hb⟩; refine ⟨_, rfl, ?_⟩; have n_IV := Aside0.mk (IV.out.step hb); clear IV hx0 hx1 hx2 hx3; have IV := n_IV; clear n_IV; have hx0 := IV.out.c0; have hx1 := IV.out.c1; have hx2 := IV.out.c2; have hx3 := IV.out.c3; clear hb)) | ((with_reducible refine gate_dst (N := 22) rfl ?_); refine goesL_ (some 22) rfl rfl Try.func16 (by kernel_rfl) rfl #[.agg #[.int .i64 x.f0, .int .i64 x.f1, .string x.f2, .slice A x.f3.length c]] rfl (by (try simp only [List.map_toArray, List.map_cons, List.map_nil]); first | done | rfl) ?_; (refine (words_of x A c (⟨#[]⟩ : ByteArray) false _ IV.out.dx HFI.out.2.2 HFI.out.1 HWO.out).mono ?_); (rintro e w122 ⟨rfl, hb⟩; refine ⟨_, rfl, ?_⟩; have n_IV := Aside0.mk (IV.out.step hb); clear IV hx0 hx1 hx2 hx3; have IV := n_IV; clear n_IV; have hx0 := IV.out.c0; have hx1 := IV.out.c1; have hx2 := IV.out.c2; have hx3 := IV.out.c3; clear hb)) | ((with_reducible refine gate_dst (N := 27) rfl ?_); refine goesL_ (some 27) rfl rfl Try.func10 (by kernel_rfl) rfl #[] rfl (by (try simp only [List.map_toArray, List.map_cons, List.map_nil]); first | done | rfl) ?_; (refine (told_calls _).mono ?_); (rintro e w127 ⟨rfl, hb⟩; refine ⟨_, rfl, ?_⟩; have n_IV := Aside0.mk (IV.out.step hb); clear IV hx0 hx1 hx2 hx3; have IV := n_IV; clear n_IV; have hx0 := IV.out.c0; have hx1 := IV.out.c1; have hx2 := IV.out.c2; have hx3 := IV.out.c3; clear hb)))
  go_ret
  exact ⟨rfl, IV.out.hb⟩
set_option maxHeartbeats 4000000 in
set_option maxRecDepth 100000 in
theorem texts_main (hx : Dc w x A c) (hf : decide (fewD x 60 ≤ 500) = true) (hm : mayB x = true) (ho : okW x = true) : TextsAt w x A c wd := by
  have hu24 := Try.underlying24
  have HX_IV := Aside0.mk hx
  clear hx
  have HFW := Aside0.mk hf
  have HFI := Aside0.mk (few_small hf)
  have HMY := Aside0.mk hm
  clear hf hm
  have HWO : Aside0 ((if okW x = true then (wordV x, true) else ((⟨#[]⟩ : ByteArray), false)) = (wordV x, true)) := ⟨by rw [ho]; rfl⟩
  obtain ⟨hw1, hw2⟩ := wdU_range 100 (by decide) (by decide) wd
  obtain ⟨T, hT⟩ : ∃ T, renT x (wrap64 (1 + wrap64 ((IntKind.u64.wrap wd).tmod 100))) = T := ⟨_, rfl⟩
  have HT := Aside0.mk hT
  have HE := Aside0.mk (renE_ok (x := x) hw1 (by omega) HMY.out)
  have HS := Aside0.mk (hT ▸ renT_size (wrap64 (1 + wrap64 ((IntKind.u64.wrap wd).tmod 100))) HFI.out.2.2 (Nat.le_trans HFI.out.1 (by decide)) : T.size ≤ 2000000000)
  have HLW := Aside0.mk (hT ▸ texts_law (x := x) HMY.out hw1 (by omega) ho)
  clear ho hT hw1 hw2
  unfold TextsAt DA
  go_enter Try.func4, Try.ntmps4
  go_wp2_with (first | ((with_reducible refine gate_dst (N := 2) rfl ?_); (try (refine gate_guard (by rfl) ?_; dsimp only)); refine box_event ?hg (N := 2) ?hd (cs := #[.int .i64 x.f0, .int .i64 x.f1, .string x.f2, .slice A x.f3.length c]) (t := 24) ?hr ?_; (case hd => rfl); (case hg => rfl); (case hr => first | (go_simp; done) | (go_simp; rfl)); intro ga hg w1 hbox hb; have IV := Aside0.mk (IvD.mk hb hbox HX_IV.out); have hx0 := IV.out.c0; have hx1 := IV.out.c1; have hx2 := IV.out.c2; have hx3 := IV.out.c3; clear hb hbox hg) | ((with_reducible refine gate_dst (N := 12) rfl ?_); refine goesL_ (some 12) rfl rfl Try.func9 (by kernel_rfl) rfl #[.agg #[.int .i64 x.f0, .int .i64 x.f1, .string x.f2, .slice A x.f3.length c]] rfl (by (try simp only [List.map_toArray, List.map_cons, List.map_nil]); first | done | rfl) ?_; (refine (few_of x A c true _ IV.out.dx HFW.out).mono ?_); (rintro e w112 ⟨rfl, hb⟩; refine ⟨_, rfl, ?_⟩; have n_IV := Aside0.mk (IV.out.step hb); clear IV hx0 hx1 hx2 hx3; have IV := n_IV; clear n_IV; have hx0 := IV.out.c0; have hx1 := IV.out.c1; have hx2 := IV.out.c2; have hx3 := IV.out.c3; clear hb)) | ((with_reducible refine gate_dst (N := 16) rfl ?_); (refine gate_guard (by rfl) ?_; dsimp only); refine goesL_ (some 16) rfl rfl Try.func15 (by kernel_rfl) rfl #[.agg #[.int .i64 x.f0, .int .i64 x.f1, .string x.f2, .slice A x.f3.length c]] rfl (by (try simp only [List.map_toArray, List.map_cons, List.map_nil]); first | done | rfl) ?_; (refine (may_of x A c true _ IV.out.dx HFI.out.2.2 HFI.out.1 HFI.out.2.1 HMY.out).mono ?_); (rintro e w116 ⟨rfl, hb⟩; refine ⟨_, rfl, ?_⟩; have n_IV := Aside0.mk (IV.out.step hb); clear IV hx0 hx1 hx2 hx3; have IV := n_IV; clear n_IV; have hx0 := IV.out.c0; have hx1 := IV.out.c1; have hx2 := IV.out.c2; have hx3 := IV.out.c3; clear hb)) | ((with_reducible refine gate_dst (N := 22) rfl ?_); refine goesL_ (some 22) rfl rfl Try.func16 (by kernel_rfl) rfl #[.agg #[.int .i64 x.f0, .int .i64 x.f1, .string x.f2, .slice A x.f3.length c]] rfl (by (try simp only [List.map_toArray, List.map_cons, List.map_nil]); first | done | rfl) ?_; (refine (words_of x A c (wordV x) true _ IV.out.dx HFI.out.2.2 HFI.out.1 HWO.out).mono ?_); (rintro e w122 ⟨rfl, hb⟩; refine ⟨_, rfl, ?_⟩; have n_IV := Aside0.mk (IV.out.step hb); clear IV hx0 hx1 hx2 hx3; have IV := n_IV; clear n_IV; have hx0 := IV.out.c0; have hx1 := IV.out.c1; have hx2 := IV.out.c2; have hx3 := IV.out.c3; clear hb)) | ((with_reducible refine gate_dst (N := 35) rfl ?_); refine goesL_ (some 35) rfl rfl Try.func11 (by kernel_rfl) rfl #[.agg #[.int .i64 x.f0, .int .i64 x.f1, .string x.f2, .slice A x.f3.length c], .int .i64 (wrap64 (1 + wrap64 ((IntKind.u64.wrap wd).tmod 100)))] rfl (by (try simp only [List.map_toArray, List.map_cons, List.map_nil]); first | done | rfl) ?_; (refine (rend_of x A c (wrap64 (1 + wrap64 ((IntKind.u64.wrap wd).tmod 100))) T 0 _ IV.out.dx HFI.out.2.2 (Nat.le_trans HFI.out.1 (by decide)) HT.out HE.out).mono ?_); (rintro e w135 ⟨rfl, hb⟩; refine ⟨_, rfl, ?_⟩; have n_IV := Aside0.mk (IV.out.step hb); clear IV hx0 hx1 hx2 hx3; have IV := n_IV; clear n_IV; have hx0 := IV.out.c0; have hx1 := IV.out.c1; have hx2 := IV.out.c2; have hx3 := IV.out.c3; clear hb)))
  have hsz : T.size ≤ 2000000000 := HS.out
  go_loopg [9, 10] T.size (fun k' v9 v10 wr => ∃ (i : Nat), v9 = .string (strOf (((bytesOf T).take i).filter keep)) ∧ v10 = .int .i64 (i : Int) ∧ i ≤ T.size ∧ Aside0 (k' + i = T.size) ∧ Aside0 (Below w.heap.size w wr))
  case atStart => exact ⟨0, rfl, rfl, Nat.zero_le _, ⟨rfl⟩, ⟨IV.out.hb⟩⟩
  case round =>
    clear IV hx0 hx1 hx2 hx3
    obtain ⟨i, rfl, rfl, hi, HK, HB⟩ := hrel
    have HGS : Aside0 ((strOf (((bytesOf T).take i).filter keep)).size ≤ T.size) := ⟨by
      rw [strOf_size]
      have h1 := List.length_filter_le keep ((bytesOf T).take i)
      have h2 : ((bytesOf T).take i).length ≤ T.size := by rw [List.length_take, bytesOf_length]; omega
      omega⟩
    by_cases hlt : i < T.size
    · have HT1 := Aside0.mk (filt_take T i hlt)
      have HX1 := Aside0.mk (extract_one T i hlt)
      have hx6 : ∀ h : i < T.size, ((T[i]'h).toNat : Int) = bt T (i : Int) := bt_at T (i : Int)
      have p6 := eq_true (show (0 : Int) ≤ (i : Int) by omega)
      have q6 := eq_true (show (i : Int) < (T.size : Int) by omega)
      obtain ⟨G, hG⟩ : ∃ G, strOf (((bytesOf T).take i).filter keep) = G := ⟨_, rfl⟩
      rw [hG] at HGS
      rw [hG]
      have HGE := Aside0.mk hG
      clear hG
      by_cases k1 : bt T (i : Int) = 32
      · have k1b : (bt T (i : Int) != 32) = false := bne_eq_false_iff_eq.mpr k1
        have k1c : (bt T (i : Int) == 32) = true := beq_iff_eq.mpr k1
        have KP : Aside0 (strOf (((bytesOf T).take (i + 1)).filter keep) = G) := ⟨by rw [HT1.out, k1, if_neg (by decide), List.append_nil, HGE.out]⟩
        go_wp2_with fail
        go_roundg (gk - 1)
        case measure => have := HK.out; omega
        case rel => exact ⟨i + 1, by rw [KP.out], by go_num, by omega, ⟨by have := HK.out; omega⟩, HB⟩
      · have k1b : (bt T (i : Int) != 32) = true := bne_iff_ne.mpr k1
        have k1c : (bt T (i : Int) == 32) = false := beq_eq_false_iff_ne.mpr k1
        by_cases k2 : bt T (i : Int) = 10
        · have k2b : (bt T (i : Int) != 10) = false := bne_eq_false_iff_eq.mpr k2
          have k2c : (bt T (i : Int) == 10) = true := beq_iff_eq.mpr k2
          have KP : Aside0 (strOf (((bytesOf T).take (i + 1)).filter keep) = G) := ⟨by rw [HT1.out, k2, if_neg (by decide), List.append_nil, HGE.out]⟩
          go_wp2_with fail
          go_roundg (gk - 1)
          case measure => have := HK.out; omega
          case rel => exact ⟨i + 1, by rw [KP.out], by go_num, by omega, ⟨by have := HK.out; omega⟩, HB⟩
        · have k2b : (bt T (i : Int) != 10) = true := bne_iff_ne.mpr k2
          have k2c : (bt T (i : Int) == 10) = false := beq_eq_false_iff_ne.mpr k2
          have hsl : (Instr.slice 9 (.string T) (some (.int .i64 (i : Int))) (some (.int .i64 ((i : Int) + 1))) none).run Try.prog wr = .ok (.string (T.extract i (i + 1))) wr := run_slice_string (P := Try.prog) wr 9 T .i64 .i64 (i : Int) ((i : Int) + 1) Try.underlying9 (by omega) (by omega) (by omega)
          have KP : Aside0 (strOf (((bytesOf T).take (i + 1)).filter keep) = G ++ T.extract i (i + 1)) := ⟨by rw [HT1.out, if_pos (by unfold keep; rw [decide_eq_true k1, decide_eq_true k2]; rfl), strOf_append, HGE.out, HX1.out]⟩
          have es : (T.extract i (i + 1)).size = 1 := by rw [HX1.out, strOf_size]; rfl
          have hgs : G.size ≤ 2000000000 := by have := HGS.out; omega
          go_wp2_with fail
          go_roundg (gk - 1)
          case measure => have := HK.out; omega
          case rel => exact ⟨i + 1, by rw [KP.out], by go_num, by omega, ⟨by have := HK.out; omega⟩, HB⟩
    · obtain rfl : i = T.size := by omega
      have HLL : Aside0 (strOf (((bytesOf T).take T.size).filter keep) = wordV x) := ⟨by rw [List.take_of_length_le (by rw [bytesOf_length]; exact Nat.le_refl _)]; exact HLW.out⟩
      rw [HLL.out]
      go_wp2_with (first | ((with_reducible refine gate_dst (N := 63) rfl ?_); refine goesL_ (some 63) rfl rfl Try.func10 (by kernel_rfl) rfl #[] rfl (by (try simp only [List.map_toArray, List.map_cons, List.map_nil]); first | done | rfl) ?_; (refine (told_calls _).mono ?_); (rintro e w163 ⟨rfl, hb⟩; refine ⟨_, rfl, ?_⟩; have n_ := Aside0.mk (below_step HB.out hb); clear HB hb; have HB := n_; clear n_)))
      go_ret
      exact ⟨by simp, HB.out⟩
theorem RenderTexts_walk (x : S24) (A : Option Addr) (c : Nat) (hx : Dc w x A c) (wd : Int) (hn : (Lit.int .i64 wd).wf = true) : Calls Try.prog 4 #[.agg #[.int .i64 x.f0, .int .i64 x.f1, .string x.f2, .slice A x.f3.length c], .int .i64 wd] w fun e w' => e = .returned (.bool true) ∧ Below w.heap.size w w' := by
  show TextsAt w x A c wd
  cases hf : decide (fewD x 60 ≤ 500)
  · exact texts_few hx hf
  cases hm : mayB x
  · exact texts_may hx hf hm
  cases ho : okW x
  · exact texts_blank hx hf hm ho
  · exact texts_main hx hf hm ho
end
end Go.Proofs.Ytigihiggpfjbjaa.PR
