/- RenderFits: the walk. -/
import Derived.Test.YtigihiggpfjbjaaHLG
import Derived.Test.YtigihiggpfjbjaaHCd
namespace Go.Proofs.Ytigihiggpfjbjaa.PR
open Go.RowKit Go.Proofs.YtigihiggpfjbjaaW.PrintWords Go.Proofs.YtigihiggpfjbjaaW.PrintLast Go.Proofs.YtigihiggpfjbjaaW.PrintMore
set_option linter.unusedVariables false
set_option linter.unusedSimpArgs false
theorem F8tab14 : rtab .any (opsOf Try.f8 14) = (true, [([], []), ([0, 0], [0]), ([1], [1]), ([2, 1], [1, 2]), ([3, 1], [1, 3]), ([1], [1]), ([5, 1, 1], [1, 5]), ([6, 1], [1, 6]), ([7, 6, 1], [1, 7]), ([8], [8]), ([8], [8]), ([10, 8, 8], [8, 10]), ([9, 11, 8], [8, 9, 11]), ([8], [8]), ([13, 8], [8, 13]), ([14, 11, 8], [8, 14]), ([12, 15, 8], [8, 12, 15]), ([8], [8]), ([16, 17, 8], [8, 16, 17]), ([8, 18, 1], [1, 8, 18]), ([4, 19, 1], [1, 4, 19]), ([1, 20], [1, 20]), ([21, 15, 0, 1, 2, 3, 4, 5, 6, 7, 8, 9, 10, 11, 12, 13, 14, 15, 16, 17, 18, 19, 20, 21], [21])]) := by kernel_rfl
theorem cwF_ascii (s : ByteArray) (h : ∀ i : Nat, i < s.size → bt s (i : Int) < 128) : ∀ m i, i + m = s.size → cwF s m i = m
  | 0, _, _ => rfl
  | m + 1, i, e => by
    have hl : i < s.size := by omega
    rw [cwF, if_pos hl]
    have hn : nx s i = 1 := by unfold nx; rw [if_pos (h i hl)]
    rw [hn, cwF_ascii s h m (i + 1) (by omega)]
    omega
theorem cw_ascii (s : ByteArray) (h : ∀ i : Nat, i < s.size → bt s (i : Int) < 128) : cw s = s.size := cwF_ascii s h s.size 0 (by omega)
def xs (k : Nat) : ByteArray := strOf (List.replicate k 120)
theorem xs_size (k : Nat) : (xs k).size = k := by unfold xs; rw [strOf_size, List.length_replicate]
theorem xs_succ (k : Nat) : xs (k + 1) = xs k ++ (⟨#[120]⟩ : ByteArray) := by
  unfold xs
  rw [List.replicate_succ', strOf_append]
  rfl
theorem xs_bt (k i : Nat) (h : i < (xs k).size) : bt (xs k) (i : Int) < 128 := by
  have hl : i < (bytesOf (xs k)).length := by rw [bytesOf_length]; exact h
  have e : (bytesOf (xs k))[i] = bt (xs k) (i : Int) := by
    rw [← rd_bytesOf]
    simp [rd, List.getD_eq_getElem?_getD, hl]
  have e2 : bytesOf (xs k) = List.replicate k 120 := bytesOf_strOf (fun b hb => by rw [List.eq_of_mem_replicate hb]; omega)
  have hm : (bytesOf (xs k))[i] ∈ bytesOf (xs k) := List.getElem_mem hl
  have e3 : (bytesOf (xs k))[i] = 120 := by
    generalize (bytesOf (xs k))[i] = z at hm
    rw [e2] at hm
    exact List.eq_of_mem_replicate hm
  omega
theorem xs_cw (k : Nat) : cw (xs k) = k := by rw [cw_ascii _ (xs_bt k), xs_size]
theorem xs_has (k : Nat) : has10 (xs k) = false := by
  unfold has10
  cases h : (xs k).data.toList.contains 10
  · rfl
  · exfalso
    have h1 := List.contains_iff_mem.1 h
    have e : (xs k).data.toList = List.replicate k 120 := by
      unfold xs
      rw [strOf_data]
      simp
    rw [e] at h1
    exact absurd (List.eq_of_mem_replicate h1) (by decide)
/-- So many columns, a group, what follows. -/
def fitD (k : Nat) (x y : S24) : S24 := ⟨5, 0, ⟨#[]⟩, [⟨1, 0, xs k, []⟩, grp x, y]⟩
theorem fitD_fin {k : Nat} {x y : S24} (hk : k < 30) (h : finD x) (h' : finD y) : finD (fitD k x y) := ⟨by show 0 ≤ 100; omega, by show 3 ≤ 500; omega, ⟨by show (xs k).size ≤ 100; rw [xs_size]; omega, by show 0 ≤ 500; omega, trivial⟩, grp_fin h, h', trivial⟩
theorem fitD_cnt (k : Nat) (x y : S24) : cnt (fitD k x y) = 3 + cnt x + cnt y := by
  rw [cnt_eq, fitD]
  simp only [cntL, cnt, grp_cnt]
  omega
theorem fitD_may {k : Nat} {x y : S24} (h : mayB x = true) (h' : mayB y = true) (hc : cnt x ≤ 500) (hc' : cnt y ≤ 500) (hd : dep x ≤ 60) (hd' : dep y ≤ 60) : mayB (fitD k x y) = true := by
  have ho := mayB_own h
  have ho' := mayB_own h'
  unfold mayB
  rw [Bool.and_eq_true, Bool.and_eq_true, decide_eq_true_eq, decide_eq_true_eq]
  refine ⟨⟨?_, ?_⟩, ?_⟩
  · simp [allOwn, allOwnL, fitD, grp, ownB, emp_toList, ho, ho', xs_has]
  · rw [dep_eq, fitD]
    simp only [depL, dep, grp]
    omega
  · rw [fitD_cnt]
    omega
theorem fitD_modes (k : Nat) (x y : S24) (wd : Int) : ∃ m, (renS (fitD k x y) wd).modes = (!frcB x && decide ((k : Int) + wdV x + (ldL [y] (0, false)).1 ≤ wd)) :: m := by
  have hfr : frL [y] 0 = (ldL [y] (0, false)).1 := by
    have hl : ldL [y] (0, false) = (0 + (ldV y).1, (ldV y).2) := rfl
    rw [hl, frL, frL]
    simp only
    split <;> omega
  have ht : ∀ (fr : Int), ∃ out, rend wd ⟨1, 0, xs k, []⟩ 0 false fr S00 = ⟨out, (k : Int), 0, []⟩ := fun fr => by
    rw [rend, if_pos rfl]
    have hw : wdV ⟨1, 0, xs k, []⟩ = (k : Int) := by rw [wdV_eq]; simp [own1, wdL, xs_cw]
    rw [hw]
    unfold textP
    split
    · rename_i h
      have h0 := emp_of_isEmpty h
      have hk : k = 0 := by
        have := xs_size k
        rw [h0] at this
        exact this.symm
      subst hk
      exact ⟨[], rfl⟩
    · exact ⟨_, by simp only [S00]; rw [Int.zero_add]⟩
  obtain ⟨out, e1⟩ := ht (frL [grp x, y] 0)
  have e2 : renS (fitD k x y) wd = rend wd y 0 false (frL [] 0) (rend wd (grp x) 0 false (frL [y] 0) ⟨out, (k : Int), 0, []⟩) := by
    unfold renS fitD
    rw [rend, if_neg (by decide), if_neg (by decide), if_neg (by decide), rendL, rendL, rendL, rendL]
    show rend wd y (0 + 0) false _ (rend wd (grp x) (0 + 0) false _ (rend wd ⟨1, 0, xs k, []⟩ (0 + 0) false _ S00)) = _
    rw [show (0 : Int) + 0 = 0 from rfl, e1]
  have e3 : ∃ m, (rend wd (grp x) 0 false (frL [y] 0) ⟨out, (k : Int), 0, []⟩).modes = (!frcB x && decide ((k : Int) + wdV x + (ldL [y] (0, false)).1 ≤ wd)) :: m := by
    rw [hfr]
    unfold grp
    rw [rend, if_neg (show ¬ ((7 : Int) = 1) by decide), if_neg (show ¬ ((7 : Int) = 2 ∨ (7 : Int) = 3 ∨ (7 : Int) = 4) by decide), if_pos rfl, Bool.false_or]
    obtain ⟨m, hm⟩ := rendL_modes wd [x] 0 (fitB ⟨7, 0, ⟨#[]⟩, [x]⟩ wd (k : Int) (ldL [y] (0, false)).1) (ldL [y] (0, false)).1 ⟨out, (k : Int), 0, [fitB ⟨7, 0, ⟨#[]⟩, [x]⟩ wd (k : Int) (ldL [y] (0, false)).1]⟩
    refine ⟨m, Eq.trans hm ?_⟩
    rw [show fitB ⟨7, 0, ⟨#[]⟩, [x]⟩ wd (k : Int) (ldL [y] (0, false)).1 = _ from fit_grp x wd (k : Int) (ldL [y] (0, false)).1]
    rfl
  obtain ⟨m1, h1⟩ := e3
  obtain ⟨m2, h2⟩ := rend_modes wd y 0 false (frL [] 0) (rend wd (grp x) 0 false (frL [y] 0) ⟨out, (k : Int), 0, []⟩)
  exact ⟨m1 ++ m2, by rw [e2, h2, h1]; rfl⟩
theorem fitD_world {w : World} {x y : S24} {B : Option Addr} {d k : Nat} {s : ByteArray} {G : Option Addr} (hs : s = xs k) (hx : Dc w (grp x) G 1) (hy : Dc w y B d) :
    Below w.heap.size w ((w.alloc (.cells #[.int .i64 1, .int .i64 0, .string s, .slice none 0 0, .int .i64 7, .int .i64 0, .string (⟨#[]⟩ : ByteArray), .slice G 1 1, .int .i64 y.f0, .int .i64 y.f1, .string y.f2, .slice B y.f3.length d] 24)).alloc (.cells #[.int .i64 5, .int .i64 0, .string (⟨#[]⟩ : ByteArray), .slice (some ⟨w.heap.size, 0, none⟩) 3 3] 24)) ∧ IvD ((w.alloc (.cells #[.int .i64 1, .int .i64 0, .string s, .slice none 0 0, .int .i64 7, .int .i64 0, .string (⟨#[]⟩ : ByteArray), .slice G 1 1, .int .i64 y.f0, .int .i64 y.f1, .string y.f2, .slice B y.f3.length d] 24)).alloc (.cells #[.int .i64 5, .int .i64 0, .string (⟨#[]⟩ : ByteArray), .slice (some ⟨w.heap.size, 0, none⟩) 3 3] 24)) ((w.alloc (.cells #[.int .i64 1, .int .i64 0, .string s, .slice none 0 0, .int .i64 7, .int .i64 0, .string (⟨#[]⟩ : ByteArray), .slice G 1 1, .int .i64 y.f0, .int .i64 y.f1, .string y.f2, .slice B y.f3.length d] 24)).alloc (.cells #[.int .i64 5, .int .i64 0, .string (⟨#[]⟩ : ByteArray), .slice (some ⟨w.heap.size, 0, none⟩) 3 3] 24)) (w.heap.size + 1) (fitD k x y) (some ⟨w.heap.size, 0, none⟩) 3 := by
  have hb1 : Below w.heap.size w (w.alloc (.cells #[.int .i64 1, .int .i64 0, .string s, .slice none 0 0, .int .i64 7, .int .i64 0, .string (⟨#[]⟩ : ByteArray), .slice G 1 1, .int .i64 y.f0, .int .i64 y.f1, .string y.f2, .slice B y.f3.length d] 24)) := below_alloc (Below.refl _ _) _
  have hl := blk_new w (.cells #[.int .i64 1, .int .i64 0, .string s, .slice none 0 0, .int .i64 7, .int .i64 0, .string (⟨#[]⟩ : ByteArray), .slice G 1 1, .int .i64 y.f0, .int .i64 y.f1, .string y.f2, .slice B y.f3.length d] 24)
  have hz := alloc_size w (.cells #[.int .i64 1, .int .i64 0, .string s, .slice none 0 0, .int .i64 7, .int .i64 0, .string (⟨#[]⟩ : ByteArray), .slice G 1 1, .int .i64 y.f0, .int .i64 y.f1, .string y.f2, .slice B y.f3.length d] 24)
  have hx1 := hx.below hb1
  have hy1 := hy.below hb1
  generalize w.alloc (.cells #[.int .i64 1, .int .i64 0, .string s, .slice none 0 0, .int .i64 7, .int .i64 0, .string (⟨#[]⟩ : ByteArray), .slice G 1 1, .int .i64 y.f0, .int .i64 y.f1, .string y.f2, .slice B y.f3.length d] 24) = w1 at hb1 hl hx1 hy1 hz ⊢
  have hb2 : Below w1.heap.size w1 (w1.alloc (.cells #[.int .i64 5, .int .i64 0, .string (⟨#[]⟩ : ByteArray), .slice (some ⟨w.heap.size, 0, none⟩) 3 3] 24)) := below_alloc (Below.refl _ _) _
  have h4 := blk_new w1 (.cells #[.int .i64 5, .int .i64 0, .string (⟨#[]⟩ : ByteArray), .slice (some ⟨w.heap.size, 0, none⟩) 3 3] 24)
  rw [hz] at h4
  refine ⟨below_step hb1 hb2, Below.refl _ _, h4, ?_⟩
  subst hs
  exact ⟨C24_three (x := ⟨1, 0, xs k, []⟩) (y := grp x) (z := y) (A3 := none) (c3 := 0) (B3 := G) (d3 := 1) (D3 := B) (e3 := d) (blk_below hl hb2) (Dc_nil _ rfl) (hx1.below hb2) (hy1.below hb2), Nat.le_refl _⟩
theorem first_of (y : S24) (B : Option Addr) (d g : Nat) (w : World) (hb : w.heap[g]? = some (.cells #[.int .i64 y.f0, .int .i64 y.f1, .string y.f2, .slice B y.f3.length d] 24 (0, 0))) (hy : Dc w y B d) (hf : finD y) (hc : cnt y ≤ 500) (ho : allOwn y = true) : Calls Try.prog 21 #[.slice (some ⟨g, 0, none⟩) 1 1] w fun e w' => e = .returned (.int .i64 (ldL [y] (0, false)).1) ∧ Below w.heap.size w w' := by
  obtain ⟨k, hk⟩ := (firstR [y] ⟨hf, trivial⟩ (by simp only [cntL]; omega) (by show 1 ≤ 500; omega) (by rw [allOwnL, allOwnL, ho]; rfl) (fun z hz => by rw [List.mem_singleton.1 hz]; exact hc)).rounds
  exact galleyref15_First.calls k (some ⟨g, 0, none⟩) 1 [y] _ w (C24_one hb hy) (Nat.le_refl _) hk
def S14 (ga gb gm : Nat) (x y : S24) (A : Option Addr) (c : Nat) (B : Option Addr) (d : Nat) (q : Bool) (w' : World) : Prop :=
  w'.cell? ⟨ga, 0, none⟩ = some (.int .i64 x.f0) ∧ w'.cell? ⟨ga, 1, none⟩ = some (.int .i64 x.f1) ∧ w'.cell? ⟨ga, 2, none⟩ = some (.string x.f2) ∧ w'.cell? ⟨ga, 3, none⟩ = some (.slice A x.f3.length c) ∧
  w'.cell? ⟨gb, 0, none⟩ = some (.int .i64 y.f0) ∧ w'.cell? ⟨gb, 1, none⟩ = some (.int .i64 y.f1) ∧ w'.cell? ⟨gb, 2, none⟩ = some (.string y.f2) ∧ w'.cell? ⟨gb, 3, none⟩ = some (.slice B y.f3.length d) ∧ w'.cell? ⟨gm, 0, none⟩ = some (.bool q) ∧ True
section
variable {w0 w w' : World} {ga gb gm : Nat} {x y : S24} {A B : Option Addr} {c d : Nat} {q : Bool}
theorem S14_of (h : IvD w0 w ga x A c) (h' : IvD w0 w gb y B d) (k : w.cell? ⟨gm, 0, none⟩ = some (.bool q)) : S14 ga gb gm x y A c B d q w := ⟨h.c0, h.c1, h.c2, h.c3, h'.c0, h'.c1, h'.c2, h'.c3, k, trivial⟩
theorem S14.below (h : S14 ga gb gm x y A c B d q w) (hb : Below w.heap.size w w') : S14 ga gb gm x y A c B d q w' := by
  obtain ⟨a, b, c, d, e, f, g, i, j, _⟩ := h
  exact ⟨bc hb a, bc hb b, bc hb c, bc hb d, bc hb e, bc hb f, bc hb g, bc hb i, bc hb j, trivial⟩
end
section
variable {w : World} {x y : S24} {A B : Option Addr} {c d : Nat} {wd ah : Int}
def FitsAt (w : World) (x : S24) (A : Option Addr) (c : Nat) (y : S24) (B : Option Addr) (d : Nat) (wd ah : Int) : Prop := Calls Try.prog 8 #[DA x A c, DA y B d, .int .i64 wd, .int .i64 ah] w fun e w' => e = .returned (.bool true) ∧ Below w.heap.size w w'
set_option maxHeartbeats 8000000 in
set_option maxRecDepth 100000 in
theorem fits_few1 (hx : Dc w x A c) (hy : Dc w y B d) (hf : decide (fewD x 60 ≤ 500) = false) : FitsAt w x A c y B d wd ah := by
  have hu24 := Try.underlying24
  have hu22 := Try.underlying22
  have hu30 := Try.underlying30
  have HX_IV := Aside0.mk hx
  have HX_JV := Aside0.mk hy
  clear hx hy
  have HFX := Aside0.mk hf
  clear hf
  unfold FitsAt DA
  go_enter Try.func8, Try.ntmps8
  go_wp2_with (first | ((with_reducible refine gate_dst (N := 4) rfl ?_); (try (refine gate_guard (by rfl) ?_; dsimp only)); refine box_event ?hg (N := 4) ?hd (cs := #[.int .i64 x.f0, .int .i64 x.f1, .string x.f2, .slice A x.f3.length c]) (t := 24) ?hr ?_; (case hd => rfl); (case hg => rfl); (case hr => first | (go_simp; done) | (go_simp; rfl)); intro ga hg w1 hbox hb; have IV := Aside0.mk (IvD.mk hb hbox HX_IV.out); clear hb hbox hg) | ((with_reducible refine gate_dst (N := 5) rfl ?_); (try (refine gate_guard (by rfl) ?_; dsimp only)); refine box_event ?hg (N := 5) ?hd (cs := #[.int .i64 y.f0, .int .i64 y.f1, .string y.f2, .slice B y.f3.length d]) (t := 24) ?hr ?_; (case hd => rfl); (case hg => rfl); (case hr => first | (go_simp; done) | (go_simp; rfl)); intro gb hg w2 hbox hb; have JV := Aside0.mk (IvD.mk (below_step IV.out.hb hb) hbox HX_JV.out); have n_ := Aside0.mk (IV.out.step hb); clear IV hb hbox hg; have IV := n_; clear n_; have hx0 := IV.out.c0; have hx1 := IV.out.c1; have hx2 := IV.out.c2; have hx3 := IV.out.c3; have hy0 := JV.out.c0; have hy1 := JV.out.c1; have hy2 := JV.out.c2; have hy3 := JV.out.c3) | ((with_reducible refine gate_dst (N := 17) rfl ?_); refine goesL_ (some 17) rfl rfl Try.func9 (by kernel_rfl) rfl #[.agg #[.int .i64 x.f0, .int .i64 x.f1, .string x.f2, .slice A x.f3.length c]] rfl (by (try simp only [List.map_toArray, List.map_cons, List.map_nil]); first | done | rfl) ?_; (refine (few_of x A c false _ IV.out.dx HFX.out).mono ?_); (rintro e w117 ⟨rfl, hb⟩; refine ⟨_, rfl, ?_⟩; have n_IV := Aside0.mk (IV.out.step hb); clear IV hx0 hx1 hx2 hx3; have IV := n_IV; clear n_IV; have hx0 := IV.out.c0; have hx1 := IV.out.c1; have hx2 := IV.out.c2; have hx3 := IV.out.c3; have n_JV := Aside0.mk (JV.out.step hb); clear JV hy0 hy1 hy2 hy3; have JV := n_JV; clear n_JV; have hy0 := JV.out.c0; have hy1 := JV.out.c1; have hy2 := JV.out.c2; have hy3 := JV.out.c3; clear hb)) | ((with_reducible refine gate_dst (N := 34) rfl ?_); refine goesL_ (some 34) rfl rfl Try.func10 (by kernel_rfl) rfl #[] rfl (by (try simp only [List.map_toArray, List.map_cons, List.map_nil]); first | done | rfl) ?_; (refine (told_calls _).mono ?_); (rintro e w134 ⟨rfl, hb⟩; refine ⟨_, rfl, ?_⟩; have n_IV := Aside0.mk (IV.out.step hb); clear IV hx0 hx1 hx2 hx3; have IV := n_IV; clear n_IV; have hx0 := IV.out.c0; have hx1 := IV.out.c1; have hx2 := IV.out.c2; have hx3 := IV.out.c3; have n_JV := Aside0.mk (JV.out.step hb); clear JV hy0 hy1 hy2 hy3; have JV := n_JV; clear n_JV; have hy0 := JV.out.c0; have hy1 := JV.out.c1; have hy2 := JV.out.c2; have hy3 := JV.out.c3; clear hb)))
  go_ret
  exact ⟨rfl, IV.out.hb⟩
set_option maxHeartbeats 8000000 in
set_option maxRecDepth 100000 in
theorem fits_few2 (hx : Dc w x A c) (hy : Dc w y B d) (hf : decide (fewD x 60 ≤ 500) = true) (hf2 : decide (fewD y 60 ≤ 500) = false) : FitsAt w x A c y B d wd ah := by
  have hu24 := Try.underlying24
  have hu22 := Try.underlying22
  have hu30 := Try.underlying30
  have HX_IV := Aside0.mk hx
  have HX_JV := Aside0.mk hy
  clear hx hy
  have HFX := Aside0.mk hf
  have HFY := Aside0.mk hf2
  clear hf hf2
  unfold FitsAt DA
  go_enter Try.func8, Try.ntmps8
  go_wp2_with (first | ((with_reducible refine gate_dst (N := 4) rfl ?_); (try (refine gate_guard (by rfl) ?_; dsimp only)); refine box_event ?hg (N := 4) ?hd (cs := #[.int .i64 x.f0, .int .i64 x.f1, .string x.f2, .slice A x.f3.length c]) (t := 24) ?hr ?_; (case hd => rfl); (case hg => rfl); (case hr => first | (go_simp; done) | (go_simp; rfl)); intro ga hg w1 hbox hb; have IV := Aside0.mk (IvD.mk hb hbox HX_IV.out); clear hb hbox hg) | ((with_reducible refine gate_dst (N := 5) rfl ?_); (try (refine gate_guard (by rfl) ?_; dsimp only)); refine box_event ?hg (N := 5) ?hd (cs := #[.int .i64 y.f0, .int .i64 y.f1, .string y.f2, .slice B y.f3.length d]) (t := 24) ?hr ?_; (case hd => rfl); (case hg => rfl); (case hr => first | (go_simp; done) | (go_simp; rfl)); intro gb hg w2 hbox hb; have JV := Aside0.mk (IvD.mk (below_step IV.out.hb hb) hbox HX_JV.out); have n_ := Aside0.mk (IV.out.step hb); clear IV hb hbox hg; have IV := n_; clear n_; have hx0 := IV.out.c0; have hx1 := IV.out.c1; have hx2 := IV.out.c2; have hx3 := IV.out.c3; have hy0 := JV.out.c0; have hy1 := JV.out.c1; have hy2 := JV.out.c2; have hy3 := JV.out.c3) | ((with_reducible refine gate_dst (N := 17) rfl ?_); refine goesL_ (some 17) rfl rfl Try.func9 (by kernel_rfl) rfl #[.agg #[.int .i64 x.f0, .int .i64 x.f1, .string x.f2, .slice A x.f3.length c]] rfl (by (try simp only [List.map_toArray, List.map_cons, List.map_nil]); first | done | rfl) ?_; (refine (few_of x A c true _ IV.out.dx HFX.out).mono ?_); (rintro e w117 ⟨rfl, hb⟩; refine ⟨_, rfl, ?_⟩; have n_IV := Aside0.mk (IV.out.step hb); clear IV hx0 hx1 hx2 hx3; have IV := n_IV; clear n_IV; have hx0 := IV.out.c0; have hx1 := IV.out.c1; have hx2 := IV.out.c2; have hx3 := IV.out.c3; have n_JV := Aside0.mk (JV.out.step hb); clear JV hy0 hy1 hy2 hy3; have JV := n_JV; clear n_JV; have hy0 := JV.out.c0; have hy1 := JV.out.c1; have hy2 := JV.out.c2; have hy3 := JV.out.c3; clear hb)) | ((with_reducible refine gate_dst (N := 21) rfl ?_); (refine gate_guard (by rfl) ?_; dsimp only); refine goesL_ (some 21) rfl rfl Try.func9 (by kernel_rfl) rfl #[.agg #[.int .i64 y.f0, .int .i64 y.f1, .string y.f2, .slice B y.f3.length d]] rfl (by (try simp only [List.map_toArray, List.map_cons, List.map_nil]); first | done | rfl) ?_; (refine (few_of y B d false _ JV.out.dx HFY.out).mono ?_); (rintro e w121 ⟨rfl, hb⟩; refine ⟨_, rfl, ?_⟩; have n_IV := Aside0.mk (IV.out.step hb); clear IV hx0 hx1 hx2 hx3; have IV := n_IV; clear n_IV; have hx0 := IV.out.c0; have hx1 := IV.out.c1; have hx2 := IV.out.c2; have hx3 := IV.out.c3; have n_JV := Aside0.mk (JV.out.step hb); clear JV hy0 hy1 hy2 hy3; have JV := n_JV; clear n_JV; have hy0 := JV.out.c0; have hy1 := JV.out.c1; have hy2 := JV.out.c2; have hy3 := JV.out.c3; clear hb)) | ((with_reducible refine gate_dst (N := 34) rfl ?_); refine goesL_ (some 34) rfl rfl Try.func10 (by kernel_rfl) rfl #[] rfl (by (try simp only [List.map_toArray, List.map_cons, List.map_nil]); first | done | rfl) ?_; (refine (told_calls _).mono ?_); (rintro e w134 ⟨rfl, hb⟩; refine ⟨_, rfl, ?_⟩; have n_IV := Aside0.mk (IV.out.step hb); clear IV hx0 hx1 hx2 hx3; have IV := n_IV; clear n_IV; have hx0 := IV.out.c0; have hx1 := IV.out.c1; have hx2 := IV.out.c2; have hx3 := IV.out.c3; have n_JV := Aside0.mk (JV.out.step hb); clear JV hy0 hy1 hy2 hy3; have JV := n_JV; clear n_JV; have hy0 := JV.out.c0; have hy1 := JV.out.c1; have hy2 := JV.out.c2; have hy3 := JV.out.c3; clear hb)))
  go_ret
  exact ⟨rfl, IV.out.hb⟩
set_option maxHeartbeats 8000000 in
set_option maxRecDepth 100000 in
theorem fits_may1 (hx : Dc w x A c) (hy : Dc w y B d) (hf : decide (fewD x 60 ≤ 500) = true) (hf2 : decide (fewD y 60 ≤ 500) = true) (hm : mayB x = false) : FitsAt w x A c y B d wd ah := by
  have hu24 := Try.underlying24
  have hu22 := Try.underlying22
  have hu30 := Try.underlying30
  have HX_IV := Aside0.mk hx
  have HX_JV := Aside0.mk hy
  clear hx hy
  have HFX := Aside0.mk hf
  have HFY := Aside0.mk hf2
  have HIX := Aside0.mk (few_small hf)
  have HIY := Aside0.mk (few_small hf2)
  have HMX := Aside0.mk hm
  clear hf hf2 hm
  unfold FitsAt DA
  go_enter Try.func8, Try.ntmps8
  go_wp2_with (first | ((with_reducible refine gate_dst (N := 4) rfl ?_); (try (refine gate_guard (by rfl) ?_; dsimp only)); refine box_event ?hg (N := 4) ?hd (cs := #[.int .i64 x.f0, .int .i64 x.f1, .string x.f2, .slice A x.f3.length c]) (t := 24) ?hr ?_; (case hd => rfl); (case hg => rfl); (case hr => first | (go_simp; done) | (go_simp; rfl)); intro ga hg w1 hbox hb; have IV := Aside0.mk (IvD.mk hb hbox HX_IV.out); clear hb hbox hg) | ((with_reducible refine gate_dst (N := 5) rfl ?_); (try (refine gate_guard (by rfl) ?_; dsimp only)); refine box_event ?hg (N := 5) ?hd (cs := #[.int .i64 y.f0, .int .i64 y.f1, .string y.f2, .slice B y.f3.length d]) (t := 24) ?hr ?_; (case hd => rfl); (case hg => rfl); (case hr => first | (go_simp; done) | (go_simp; rfl)); intro gb hg w2 hbox hb; have JV := Aside0.mk (IvD.mk (below_step IV.out.hb hb) hbox HX_JV.out); have n_ := Aside0.mk (IV.out.step hb); clear IV hb hbox hg; have IV := n_; clear n_; have hx0 := IV.out.c0; have hx1 := IV.out.c1; have hx2 := IV.out.c2; have hx3 := IV.out.c3; have hy0 := JV.out.c0; have hy1 := JV.out.c1; have hy2 := JV.out.c2; have hy3 := JV.out.c3) | ((with_reducible refine gate_dst (N := 17) rfl ?_); refine goesL_ (some 17) rfl rfl Try.func9 (by kernel_rfl) rfl #[.agg #[.int .i64 x.f0, .int .i64 x.f1, .string x.f2, .slice A x.f3.length c]] rfl (by (try simp only [List.map_toArray, List.map_cons, List.map_nil]); first | done | rfl) ?_; (refine (few_of x A c true _ IV.out.dx HFX.out).mono ?_); (rintro e w117 ⟨rfl, hb⟩; refine ⟨_, rfl, ?_⟩; have n_IV := Aside0.mk (IV.out.step hb); clear IV hx0 hx1 hx2 hx3; have IV := n_IV; clear n_IV; have hx0 := IV.out.c0; have hx1 := IV.out.c1; have hx2 := IV.out.c2; have hx3 := IV.out.c3; have n_JV := Aside0.mk (JV.out.step hb); clear JV hy0 hy1 hy2 hy3; have JV := n_JV; clear n_JV; have hy0 := JV.out.c0; have hy1 := JV.out.c1; have hy2 := JV.out.c2; have hy3 := JV.out.c3; clear hb)) | ((with_reducible refine gate_dst (N := 21) rfl ?_); (refine gate_guard (by rfl) ?_; dsimp only); refine goesL_ (some 21) rfl rfl Try.func9 (by kernel_rfl) rfl #[.agg #[.int .i64 y.f0, .int .i64 y.f1, .string y.f2, .slice B y.f3.length d]] rfl (by (try simp only [List.map_toArray, List.map_cons, List.map_nil]); first | done | rfl) ?_; (refine (few_of y B d true _ JV.out.dx HFY.out).mono ?_); (rintro e w121 ⟨rfl, hb⟩; refine ⟨_, rfl, ?_⟩; have n_IV := Aside0.mk (IV.out.step hb); clear IV hx0 hx1 hx2 hx3; have IV := n_IV; clear n_IV; have hx0 := IV.out.c0; have hx1 := IV.out.c1; have hx2 := IV.out.c2; have hx3 := IV.out.c3; have n_JV := Aside0.mk (JV.out.step hb); clear JV hy0 hy1 hy2 hy3; have JV := n_JV; clear n_JV; have hy0 := JV.out.c0; have hy1 := JV.out.c1; have hy2 := JV.out.c2; have hy3 := JV.out.c3; clear hb)) | ((with_reducible refine gate_dst (N := 26) rfl ?_); (refine gate_guard (by rfl) ?_; dsimp only); refine goesL_ (some 26) rfl rfl Try.func15 (by kernel_rfl) rfl #[.agg #[.int .i64 x.f0, .int .i64 x.f1, .string x.f2, .slice A x.f3.length c]] rfl (by (try simp only [List.map_toArray, List.map_cons, List.map_nil]); first | done | rfl) ?_; (refine (may_of x A c false _ IV.out.dx HIX.out.2.2 HIX.out.1 HIX.out.2.1 HMX.out).mono ?_); (rintro e w126 ⟨rfl, hb⟩; refine ⟨_, rfl, ?_⟩; have n_IV := Aside0.mk (IV.out.step hb); clear IV hx0 hx1 hx2 hx3; have IV := n_IV; clear n_IV; have hx0 := IV.out.c0; have hx1 := IV.out.c1; have hx2 := IV.out.c2; have hx3 := IV.out.c3; have n_JV := Aside0.mk (JV.out.step hb); clear JV hy0 hy1 hy2 hy3; have JV := n_JV; clear n_JV; have hy0 := JV.out.c0; have hy1 := JV.out.c1; have hy2 := JV.out.c2; have hy3 := JV.out.c3; clear hb)) | ((with_reducible refine gate_dst (N := 34) rfl ?_); refine goesL_ (some 34) rfl rfl Try.func10 (by kernel_rfl) rfl #[] rfl (by (try simp only [List.map_toArray, List.map_cons, List.map_nil]); first | done | rfl) ?_; (refine (told_calls _).mono ?_); (rintro e w134 ⟨rfl, hb⟩; refine ⟨_, rfl, ?_⟩; have n_IV := Aside0.mk (IV.out.step hb); clear IV hx0 hx1 hx2 hx3; have IV := n_IV; clear n_IV; have hx0 := IV.out.c0; have hx1 := IV.out.c1; have hx2 := IV.out.c2; have hx3 := IV.out.c3; have n_JV := Aside0.mk (JV.out.step hb); clear JV hy0 hy1 hy2 hy3; have JV := n_JV; clear n_JV; have hy0 := JV.out.c0; have hy1 := JV.out.c1; have hy2 := JV.out.c2; have hy3 := JV.out.c3; clear hb)))
  go_ret
  exact ⟨rfl, IV.out.hb⟩
set_option maxHeartbeats 8000000 in
set_option maxRecDepth 100000 in
theorem fits_may2 (hx : Dc w x A c) (hy : Dc w y B d) (hf : decide (fewD x 60 ≤ 500) = true) (hf2 : decide (fewD y 60 ≤ 500) = true) (hm : mayB x = true) (hm2 : mayB y = false) : FitsAt w x A c y B d wd ah := by
  have hu24 := Try.underlying24
  have hu22 := Try.underlying22
  have hu30 := Try.underlying30
  have HX_IV := Aside0.mk hx
  have HX_JV := Aside0.mk hy
  clear hx hy
  have HFX := Aside0.mk hf
  have HFY := Aside0.mk hf2
  have HIX := Aside0.mk (few_small hf)
  have HIY := Aside0.mk (few_small hf2)
  have HMX := Aside0.mk hm
  have HMY := Aside0.mk hm2
  clear hf hf2 hm hm2
  unfold FitsAt DA
  go_enter Try.func8, Try.ntmps8
  go_wp2_with (first | ((with_reducible refine gate_dst (N := 4) rfl ?_); (try (refine gate_guard (by rfl) ?_; dsimp only)); refine box_event ?hg (N := 4) ?hd (cs := #[.int .i64 x.f0, .int .i64 x.f1, .string x.f2, .slice A x.f3.length c]) (t := 24) ?hr ?_; (case hd => rfl); (case hg => rfl); (case hr => first | (go_simp; done) | (go_simp; rfl)); intro ga hg w1 hbox hb; have IV := Aside0.mk (IvD.mk hb hbox HX_IV.out); clear hb hbox hg) | ((with_reducible refine gate_dst (N := 5) rfl ?_); (try (refine gate_guard (by rfl) ?_; dsimp only)); refine box_event ?hg (N := 5) ?hd (cs := #[.int .i64 y.f0, .int .i64 y.f1, .string y.f2, .slice B y.f3.length d]) (t := 24) ?hr ?_; (case hd => rfl); (case hg => rfl); (case hr => first | (go_simp; done) | (go_simp; rfl)); intro gb hg w2 hbox hb; have JV := Aside0.mk (IvD.mk (below_step IV.out.hb hb) hbox HX_JV.out); have n_ := Aside0.mk (IV.out.step hb); clear IV hb hbox hg; have IV := n_; clear n_; have hx0 := IV.out.c0; have hx1 := IV.out.c1; have hx2 := IV.out.c2; have hx3 := IV.out.c3; have hy0 := JV.out.c0; have hy1 := JV.out.c1; have hy2 := JV.out.c2; have hy3 := JV.out.c3) | ((with_reducible refine gate_dst (N := 17) rfl ?_); refine goesL_ (some 17) rfl rfl Try.func9 (by kernel_rfl) rfl #[.agg #[.int .i64 x.f0, .int .i64 x.f1, .string x.f2, .slice A x.f3.length c]] rfl (by (try simp only [List.map_toArray, List.map_cons, List.map_nil]); first | done | rfl) ?_; (refine (few_of x A c true _ IV.out.dx HFX.out).mono ?_); (rintro e w117 ⟨rfl, hb⟩; refine ⟨_, rfl, ?_⟩; have n_IV := Aside0.mk (IV.out.step hb); clear IV hx0 hx1 hx2 hx3; have IV := n_IV; clear n_IV; have hx0 := IV.out.c0; have hx1 := IV.out.c1; have hx2 := IV.out.c2; have hx3 := IV.out.c3; have n_JV := Aside0.mk (JV.out.step hb); clear JV hy0 hy1 hy2 hy3; have JV := n_JV; clear n_JV; have hy0 := JV.out.c0; have hy1 := JV.out.c1; have hy2 := JV.out.c2; have hy3 := JV.out.c3; clear hb)) | ((with_reducible refine gate_dst (N := 21) rfl ?_); (refine gate_guard (by rfl) ?_; dsimp only); refine goesL_ (some 21) rfl rfl Try.func9 (by kernel_rfl) rfl #[.agg #[.int .i64 y.f0, .int .i64 y.f1, .string y.f2, .slice B y.f3.length d]] rfl (by (try simp only [List.map_toArray, List.map_cons, List.map_nil]); first | done | rfl) ?_; (refine (few_of y B d true _ JV.out.dx HFY.out).mono ?_); (rintro e w121 ⟨rfl, hb⟩; refine ⟨_, rfl, ?_⟩; have n_IV := Aside0.mk (IV.out.step hb); clear IV hx0 hx1 hx2 hx3; have IV := n_IV; clear n_IV; have hx0 := IV.out.c0; have hx1 := IV.out.c1; have hx2 := IV.out.c2; have hx3 := IV.out.c3; have n_JV := Aside0.mk (JV.out.step hb); clear JV hy0 hy1 hy2 hy3; have JV := n_JV; clear n_JV; have hy0 := JV.out.c0; have hy1 := JV.out.c1; have hy2 := JV.out.c2; have hy3 := JV.out.c3; clear hb)) | ((with_reducible refine gate_dst (N := 26) rfl ?_); (refine gate_guard (by rfl) ?_; dsimp only); refine goesL_ (some 26) rfl rfl Try.func15 (by kernel_rfl) rfl #[.agg #[.int .i64 x.f0, .int .i64 x.f1, .string x.f2, .slice A x.f3.length c]] rfl (by (try simp only [List.map_toArray, List.map_cons, List.map_nil]); first | done | rfl) ?_; (refine (may_of x A c true _ IV.out.dx HIX.out.2.2 HIX.out.1 HIX.out.2.1 HMX.out).mono ?_); (rintro e w126 ⟨rfl, hb⟩; refine ⟨_, rfl, ?_⟩; have n_IV := Aside0.mk (IV.out.step hb); clear IV hx0 hx1 hx2 hx3; have IV := n_IV; clear n_IV; have hx0 := IV.out.c0; have hx1 := IV.out.c1; have hx2 := IV.out.c2; have hx3 := IV.out.c3; have n_JV := Aside0.mk (JV.out.step hb); clear JV hy0 hy1 hy2 hy3; have JV := n_JV; clear n_JV; have hy0 := JV.out.c0; have hy1 := JV.out.c1; have hy2 := JV.out.c2; have hy3 := JV.out.c3; clear hb)) | ((with_reducible refine gate_dst (N := 31) rfl ?_); (refine gate_guard (by rfl) ?_; dsimp only); refine goesL_ (some 31) rfl rfl Try.func15 (by kernel_rfl) rfl #[.agg #[.int .i64 y.f0, .int .i64 y.f1, .string y.f2, .slice B y.f3.length d]] rfl (by (try simp only [List.map_toArray, List.map_cons, List.map_nil]); first | done | rfl) ?_; (refine (may_of y B d false _ JV.out.dx HIY.out.2.2 HIY.out.1 HIY.out.2.1 HMY.out).mono ?_); (rintro e w131 ⟨rfl, hb⟩; refine ⟨_, rfl, ?_⟩; have n_IV := Aside0.mk (IV.out.step hb); clear IV hx0 hx1 hx2 hx3; have IV := n_IV; clear n_IV; have hx0 := IV.out.c0; have hx1 := IV.out.c1; have hx2 := IV.out.c2; have hx3 := IV.out.c3; have n_JV := Aside0.mk (JV.out.step hb); clear JV hy0 hy1 hy2 hy3; have JV := n_JV; clear n_JV; have hy0 := JV.out.c0; have hy1 := JV.out.c1; have hy2 := JV.out.c2; have hy3 := JV.out.c3; clear hb)) | ((with_reducible refine gate_dst (N := 34) rfl ?_); refine goesL_ (some 34) rfl rfl Try.func10 (by kernel_rfl) rfl #[] rfl (by (try simp only [List.map_toArray, List.map_cons, List.map_nil]); first | done | rfl) ?_; (refine (told_calls _).mono ?_); (rintro e w134 ⟨rfl, hb⟩; refine ⟨_, rfl, ?_⟩; have n_IV := Aside0.mk (IV.out.step hb); clear IV hx0 hx1 hx2 hx3; have IV := n_IV; clear n_IV; have hx0 := IV.out.c0; have hx1 := IV.out.c1; have hx2 := IV.out.c2; have hx3 := IV.out.c3; have n_JV := Aside0.mk (JV.out.step hb); clear JV hy0 hy1 hy2 hy3; have JV := n_JV; clear n_JV; have hy0 := JV.out.c0; have hy1 := JV.out.c1; have hy2 := JV.out.c2; have hy3 := JV.out.c3; clear hb)))
  go_ret
  exact ⟨rfl, IV.out.hb⟩
set_option maxHeartbeats 8000000 in
set_option maxRecDepth 100000 in
theorem fits_main_true (hx : Dc w x A c) (hy : Dc w y B d) (hf : decide (fewD x 60 ≤ 500) = true) (hf2 : decide (fewD y 60 ≤ 500) = true) (hm : mayB x = true) (hm2 : mayB y = true) (hfc : frcB x = true) : FitsAt w x A c y B d wd ah := by
  have hu24 := Try.underlying24
  have hu22 := Try.underlying22
  have hu30 := Try.underlying30
  have HX_IV := Aside0.mk hx
  have HX_JV := Aside0.mk hy
  clear hx hy
  have HFX := Aside0.mk hf
  have HFY := Aside0.mk hf2
  have HIX := Aside0.mk (few_small hf)
  have HIY := Aside0.mk (few_small hf2)
  have HMX := Aside0.mk hm
  have HMY := Aside0.mk hm2
  have HFC := Aside0.mk hfc
  obtain ⟨hw1, hw2⟩ : 1 ≤ (wrap64 (1 + wrap64 ((IntKind.u64.wrap wd).tmod 60))) ∧ (wrap64 (1 + wrap64 ((IntKind.u64.wrap wd).tmod 60))) ≤ 60 := wdU_range 60 (by decide) (by decide) wd
  obtain ⟨k, hk30, hkv⟩ := remU 30 (by decide) (by decide) ah
  have hkv : (wrap64 ((IntKind.u64.wrap ah).tmod 30)) = (k : Int) := hkv
  obtain ⟨V, hV⟩ : ∃ V, (wrap64 (1 + wrap64 ((IntKind.u64.wrap wd).tmod 60))) = V := ⟨_, rfl⟩
  rw [hV] at hw1 hw2
  have HMD := Aside0.mk (fitD_may (k := k) hm hm2 HIX.out.1 HIY.out.1 HIX.out.2.1 HIY.out.2.1)
  obtain ⟨wx, hwx⟩ : ∃ u, wdV x = u := ⟨_, rfl⟩
  obtain ⟨ly, hly⟩ : ∃ u, (ldL [y] (0, false)).1 = u := ⟨_, rfl⟩
  obtain ⟨m, hmm⟩ := fitD_modes k x y V
  rw [hfc, hwx, hly] at hmm
  obtain ⟨q, hq⟩ : ∃ q, (!true && decide ((k : Int) + wx + ly ≤ V)) = q := ⟨_, rfl⟩
  rw [hq] at hmm
  have HRM := Aside0.mk (show renM (fitD k x y) V = q :: m from (ren_of hw1 (by omega) HMD.out rfl hmm).2.2)
  have bw := wdV_le _ HIX.out.2.2
  have bl := ldL_le [y] ⟨HIY.out.2.2, trivial⟩ (0, false) (by simp)
  rw [hwx] at bw
  rw [hly] at bl
  simp only [cntL] at bl
  have hc1 := HIX.out.1
  have hc2 := HIY.out.1
  have e1 : wrap64 ((k : Int) + wx) = (k : Int) + wx := by unfold wrap64; omega
  have e2 : wrap64 ((k : Int) + wx + ly) = (k : Int) + wx + ly := by unfold wrap64; omega
  have HWX := Aside0.mk hwx
  have HLY := Aside0.mk hly
  have HK := Aside0.mk hk30
  obtain ⟨n, hn⟩ : ∃ n, m.length + 1 = n := ⟨_, rfl⟩
  have n1a : ((n : Int) == 0) = false := by rw [beq_eq_false_iff_ne]; omega
  have n1b : (0 : Int) < (n : Int) := by omega
  have HN := Aside0.mk hn
  have HEV := Aside0.mk hV
  have HEK := Aside0.mk hkv
  have hk31 : (k : Int) < 30 := by omega
  have HQ := Aside0.mk hq
  clear hf hf2 hm hm2 hfc hw1 hw2 hmm hwx hly bw bl hc1 hc2 hn hV hkv hk30
  unfold FitsAt DA
  go_enter Try.func8, Try.ntmps8
  go_wp2_with (first | ((with_reducible refine gate_dst (N := 4) rfl ?_); (try (refine gate_guard (by rfl) ?_; dsimp only)); refine box_event ?hg (N := 4) ?hd (cs := #[.int .i64 x.f0, .int .i64 x.f1, .string x.f2, .slice A x.f3.length c]) (t := 24) ?hr ?_; (case hd => rfl); (case hg => rfl); (case hr => first | (go_simp; done) | (go_simp; rfl)); intro ga hg w1 hbox hb; have IV := Aside0.mk (IvD.mk hb hbox HX_IV.out); clear hb hbox hg) | ((with_reducible refine gate_dst (N := 5) rfl ?_); (try (refine gate_guard (by rfl) ?_; dsimp only)); refine box_event ?hg (N := 5) ?hd (cs := #[.int .i64 y.f0, .int .i64 y.f1, .string y.f2, .slice B y.f3.length d]) (t := 24) ?hr ?_; (case hd => rfl); (case hg => rfl); (case hr => first | (go_simp; done) | (go_simp; rfl)); intro gb hg w2 hbox hb; have JV := Aside0.mk (IvD.mk (below_step IV.out.hb hb) hbox HX_JV.out); have n_ := Aside0.mk (IV.out.step hb); clear IV hb hbox hg; have IV := n_; clear n_; have hx0 := IV.out.c0; have hx1 := IV.out.c1; have hx2 := IV.out.c2; have hx3 := IV.out.c3; have hy0 := JV.out.c0; have hy1 := JV.out.c1; have hy2 := JV.out.c2; have hy3 := JV.out.c3) | ((with_reducible refine gate_dst (N := 17) rfl ?_); refine goesL_ (some 17) rfl rfl Try.func9 (by kernel_rfl) rfl #[.agg #[.int .i64 x.f0, .int .i64 x.f1, .string x.f2, .slice A x.f3.length c]] rfl (by (try simp only [List.map_toArray, List.map_cons, List.map_nil]); first | done | rfl) ?_; (refine (few_of x A c true _ IV.out.dx HFX.out).mono ?_); (rintro e w117 ⟨rfl, hb⟩; refine ⟨_, rfl, ?_⟩; have n_IV := Aside0.mk (IV.out.step hb); clear IV hx0 hx1 hx2 hx3; have IV := n_IV; clear n_IV; have hx0 := IV.out.c0; have hx1 := IV.out.c1; have hx2 := IV.out.c2; have hx3 := IV.out.c3; have n_JV := Aside0.mk (JV.out.step hb); clear JV hy0 hy1 hy2 hy3; have JV := n_JV; clear n_JV; have hy0 := JV.out.c0; have hy1 := JV.out.c1; have hy2 := JV.out.c2; have hy3 := JV.out.c3; clear hb)) | ((with_reducible refine gate_dst (N := 21) rfl ?_); (refine gate_guard (by rfl) ?_; dsimp only); refine goesL_ (some 21) rfl rfl Try.func9 (by kernel_rfl) rfl #[.agg #[.int .i64 y.f0, .int .i64 y.f1, .string y.f2, .slice B y.f3.length d]] rfl (by (try simp only [List.map_toArray, List.map_cons, List.map_nil]); first | done | rfl) ?_; (refine (few_of y B d true _ JV.out.dx HFY.out).mono ?_); (rintro e w121 ⟨rfl, hb⟩; refine ⟨_, rfl, ?_⟩; have n_IV := Aside0.mk (IV.out.step hb); clear IV hx0 hx1 hx2 hx3; have IV := n_IV; clear n_IV; have hx0 := IV.out.c0; have hx1 := IV.out.c1; have hx2 := IV.out.c2; have hx3 := IV.out.c3; have n_JV := Aside0.mk (JV.out.step hb); clear JV hy0 hy1 hy2 hy3; have JV := n_JV; clear n_JV; have hy0 := JV.out.c0; have hy1 := JV.out.c1; have hy2 := JV.out.c2; have hy3 := JV.out.c3; clear hb)) | ((with_reducible refine gate_dst (N := 26) rfl ?_); (refine gate_guard (by rfl) ?_; dsimp only); refine goesL_ (some 26) rfl rfl Try.func15 (by kernel_rfl) rfl #[.agg #[.int .i64 x.f0, .int .i64 x.f1, .string x.f2, .slice A x.f3.length c]] rfl (by (try simp only [List.map_toArray, List.map_cons, List.map_nil]); first | done | rfl) ?_; (refine (may_of x A c true _ IV.out.dx HIX.out.2.2 HIX.out.1 HIX.out.2.1 HMX.out).mono ?_); (rintro e w126 ⟨rfl, hb⟩; refine ⟨_, rfl, ?_⟩; have n_IV := Aside0.mk (IV.out.step hb); clear IV hx0 hx1 hx2 hx3; have IV := n_IV; clear n_IV; have hx0 := IV.out.c0; have hx1 := IV.out.c1; have hx2 := IV.out.c2; have hx3 := IV.out.c3; have n_JV := Aside0.mk (JV.out.step hb); clear JV hy0 hy1 hy2 hy3; have JV := n_JV; clear n_JV; have hy0 := JV.out.c0; have hy1 := JV.out.c1; have hy2 := JV.out.c2; have hy3 := JV.out.c3; clear hb)) | ((with_reducible refine gate_dst (N := 31) rfl ?_); (refine gate_guard (by rfl) ?_; dsimp only); refine goesL_ (some 31) rfl rfl Try.func15 (by kernel_rfl) rfl #[.agg #[.int .i64 y.f0, .int .i64 y.f1, .string y.f2, .slice B y.f3.length d]] rfl (by (try simp only [List.map_toArray, List.map_cons, List.map_nil]); first | done | rfl) ?_; (refine (may_of y B d true _ JV.out.dx HIY.out.2.2 HIY.out.1 HIY.out.2.1 HMY.out).mono ?_); (rintro e w131 ⟨rfl, hb⟩; refine ⟨_, rfl, ?_⟩; have n_IV := Aside0.mk (IV.out.step hb); clear IV hx0 hx1 hx2 hx3; have IV := n_IV; clear n_IV; have hx0 := IV.out.c0; have hx1 := IV.out.c1; have hx2 := IV.out.c2; have hx3 := IV.out.c3; have n_JV := Aside0.mk (JV.out.step hb); clear JV hy0 hy1 hy2 hy3; have JV := n_JV; clear n_JV; have hy0 := JV.out.c0; have hy1 := JV.out.c1; have hy2 := JV.out.c2; have hy3 := JV.out.c3; clear hb)))
  rw [HEK.out, HEV.out]
  go_loopg [11, 12] k (fun k' v11 v12 wr => ∃ (i : Nat), v11 = .string (xs i) ∧ v12 = .int .i64 (i : Int) ∧ i ≤ k ∧ Aside0 (k' + i = k) ∧ Aside0 (IvD w wr ga x A c) ∧ Aside0 (IvD w wr gb y B d))
  case atStart => exact ⟨0, rfl, rfl, Nat.zero_le _, ⟨rfl⟩, IV, JV⟩
  case round =>
    clear IV JV hx0 hx1 hx2 hx3 hy0 hy1 hy2 hy3
    obtain ⟨i, rfl, rfl, hi, HKI, IV, JV⟩ := hrel
    have hi30 : i < 31 := by omega
    by_cases hlt : i < k
    · have HXS := Aside0.mk (xs_succ i)
      have hxz : (xs i).size = i := xs_size i
      obtain ⟨s, hs⟩ : ∃ s, xs i = s := ⟨_, rfl⟩
      rw [hs] at HXS hxz
      rw [hs]
      have hsz : s.size < 31 := by omega
      go_wp2_with fail
      go_roundg (gk - 1)
      case measure => have := HKI.out; omega
      case rel => exact ⟨i + 1, by rw [HXS.out], by go_num, by omega, ⟨by have := HKI.out; omega⟩, IV, JV⟩
    · obtain rfl : i = k := by omega
      obtain ⟨s, hs⟩ : ∃ s, xs i = s := ⟨_, rfl⟩
      have HS := Aside0.mk hs.symm
      rw [hs]
      clear hs
      have hx0 := IV.out.c0
      have hx1 := IV.out.c1
      have hx2 := IV.out.c2
      have hx3 := IV.out.c3
      have hy0 := JV.out.c0
      have hy1 := JV.out.c1
      have hy2 := JV.out.c2
      have hy3 := JV.out.c3
      go_upto_region 10 with (fail)
      have F := grp_world (x := x) (A := A) (c := c) IV.out.dx
      generalize World.alloc (World.alloc wr _) _ = w5 at F ⊢
      have m1 := Aside0.mk (IV.out.step F.1)
      have m2 := Aside0.mk (JV.out.step F.1)
      generalize wr.heap.size + 1 = gg at F ⊢
      generalize wr.heap.size = gl0 at F ⊢
      have IG := Aside0.mk F.2
      clear F IV JV hx0 hx1 hx2 hx3 hy0 hy1 hy2 hy3
      have IV := m1
      have JV := m2
      clear m1 m2
      have hx0 := IV.out.c0
      have hx1 := IV.out.c1
      have hx2 := IV.out.c2
      have hx3 := IV.out.c3
      have hy0 := JV.out.c0
      have hy1 := JV.out.c1
      have hy2 := JV.out.c2
      have hy3 := JV.out.c3
      have hg0 : w5.cell? ⟨gg, 0, none⟩ = some (.int .i64 7) := IG.out.c0
      have hg1 : w5.cell? ⟨gg, 1, none⟩ = some (.int .i64 0) := IG.out.c1
      have hg2 : w5.cell? ⟨gg, 2, none⟩ = some (.string (⟨#[]⟩ : ByteArray)) := IG.out.c2
      have hg3 : w5.cell? ⟨gg, 3, none⟩ = some (.slice (some ⟨gl0, 0, none⟩) 1 1) := IG.out.c3
      go_upto_region 11 with (fail)
      have F := fitD_world (x := x) (y := y) (B := B) (d := d) HS.out IG.out.dx JV.out.dx
      generalize World.alloc (World.alloc w5 _) _ = w6 at F ⊢
      have m1 := Aside0.mk (IV.out.step F.1)
      have m2 := Aside0.mk (JV.out.step F.1)
      generalize w5.heap.size + 1 = gt1 at F ⊢
      generalize w5.heap.size = gt at F ⊢
      have IT := Aside0.mk F.2
      clear F IV JV IG hg0 hg1 hg2 hg3 hx0 hx1 hx2 hx3 hy0 hy1 hy2 hy3
      have IV := m1
      have JV := m2
      clear m1 m2
      have t0 : w6.cell? ⟨gt1, 0, none⟩ = some (.int .i64 5) := IT.out.c0
      have t1 : w6.cell? ⟨gt1, 1, none⟩ = some (.int .i64 0) := IT.out.c1
      have t2 : w6.cell? ⟨gt1, 2, none⟩ = some (.string (⟨#[]⟩ : ByteArray)) := IT.out.c2
      have t3 : w6.cell? ⟨gt1, 3, none⟩ = some (.slice (some ⟨gt, 0, none⟩) 3 3) := IT.out.c3
      go_upto_region 14 with (first | ((with_reducible refine gate_dst (N := 62) rfl ?_); refine goesL_ (some 62) rfl rfl Try.func13 (by kernel_rfl) rfl #[.agg #[.int .i64 5, .int .i64 0, .string (⟨#[]⟩ : ByteArray), .slice (some ⟨gt, 0, none⟩) 3 3], .int .i64 V] rfl (by (try simp only [List.map_toArray, List.map_cons, List.map_nil]); first | done | rfl) ?_; (refine (modes_of (fitD i x y) (some ⟨gt, 0, none⟩) 3 V (q :: m) _ IT.out.dx (fitD_fin HK.out HIX.out.2.2 HIY.out.2.2) (by rw [fitD_cnt]; have := HIX.out.1; have := HIY.out.1; omega) HRM.out).mono ?_); (rintro e w162 ⟨v62, rfl, hown, hb⟩; refine ⟨_, rfl, ?_⟩; obtain ⟨gm, cm, rfl, hcm⟩ := own_head hown HN.out; have KM := Aside0.mk hcm; have m1 := Aside0.mk (IV.out.step hb); have m2 := Aside0.mk (JV.out.step hb); clear hown hcm IT t0 t1 t2 t3 IV JV hb; have IV := m1; have JV := m2; clear m1 m2)))
      have m1 := Aside0.mk (IV.out.step (below_drew1 (Below.refl _ _)))
      have m2 := Aside0.mk (JV.out.step (below_drew1 (Below.refl _ _)))
      have m3 := Aside0.mk (bc (below_drew1 (Below.refl _ _)) KM.out)
      clear IV JV KM
      have IV := m1
      have JV := m2
      have KM := m3
      clear m1 m2 m3
      refine start_ (n := 23) (S := S14 ga gb gm x y A c B d q) (ds := []) #[false, false, false, false, false, false, false, false, false, false, false, false, false, false, false, false, false, false, false, false, false, false, false] (by kernel_rfl) rfl rfl (S14_of IV.out JV.out KM.out) (fun hHeld => ?_)
      generalize World.drew _ = w500 at IV JV KM hHeld ⊢
      refine one_ (i := 0) (N := some 66) #[true, false, false, false, false, false, false, false, false, false, false, false, false, false, false, false, false, false, false, false, false, false, false] rfl rfl (one_of (md := .any) (ops := opsOf Try.f8 14) F8tab14 (by kernel_rfl)) (by decide) (fun K hK => ?_)
      refine goes_ Try.func10 (by kernel_rfl) rfl #[] (by rfl) rfl rfl (by (try simp only [List.map_toArray, List.map_cons, List.map_nil]); first | done | rfl) ?_
      refine (told_calls _).mono ?_
      rintro e w501 ⟨rfl, hb⟩
      refine ⟨_, rfl, ?_⟩
      have m1 := Aside0.mk (IV.out.step hb); have m2 := Aside0.mk (JV.out.step hb); have m3 := Aside0.mk (bc hb KM.out); clear IV JV KM hb; have IV := m1; have JV := m2; have KM := m3; clear m1 m2 m3
      refine hK.out _ _ (S14_of IV.out JV.out KM.out) (fun hHeld => ?_)
      clear hK K
      refine norm_ (a' := ?_) ?_ ?_
      rotate_left
      · show Act.put _ (some 66) _ = _
        simp only [Act.put, List.setIfInBounds_toArray, List.set_cons_zero, List.set_cons_succ, i64_w, i32_w]
        rfl
      refine pure_ (i := 1) (N := some 67) (v := ?_) (a' := ?_) #[true, true, false, false, false, false, false, false, false, false, false, false, false, false, false, false, false, false, false, false, false, false, false] rfl rfl (any_of (md := .any) (ops := opsOf Try.f8 14) F8tab14 (by kernel_rfl)) (fun _ _ _ h => h) (Or.inl ⟨by rfl, ?_⟩) ?_ ?_
      rotate_left
      · intro w'
        go_simp
        with_reducible rfl
      rotate_left
      · simp only [Act.put, List.setIfInBounds_toArray, List.set_cons_zero, List.set_cons_succ, i64_w, i32_w]
        rfl
      refine pure_ (i := 2) (N := some 68) (v := ?_) (a' := ?_) #[true, true, true, false, false, false, false, false, false, false, false, false, false, false, false, false, false, false, false, false, false, false, false] rfl rfl (any_of (md := .any) (ops := opsOf Try.f8 14) F8tab14 (by kernel_rfl)) (fun _ _ _ h => h) (Or.inl ⟨by rfl, ?_⟩) ?_ ?_
      rotate_left
      · intro w'
        go_simp
        with_reducible rfl
      rotate_left
      · simp only [Act.put, List.setIfInBounds_toArray, List.set_cons_zero, List.set_cons_succ, i64_w, i32_w]
        rfl
      refine pure_ (i := 3) (N := some 69) (v := ?_) (a' := ?_) #[true, true, true, true, false, false, false, false, false, false, false, false, false, false, false, false, false, false, false, false, false, false, false] rfl rfl (any_of (md := .any) (ops := opsOf Try.f8 14) F8tab14 (by kernel_rfl)) (fun _ _ _ h => h) (Or.inl ⟨by rfl, ?_⟩) ?_ ?_
      rotate_left
      · intro w'
        go_simp
        rw [if_pos (by omega)]
      rotate_left
      · simp only [Act.put, List.setIfInBounds_toArray, List.set_cons_zero, List.set_cons_succ, i64_w, i32_w]
        rfl
      refine take_ (i := 4) (N := some 70) (v := ?_) (a' := ?_) #[true, true, true, true, true, false, false, false, false, false, false, false, false, false, false, false, false, false, false, false, false, false, false] rfl rfl (take_of (md := .any) (ops := opsOf Try.f8 14) F8tab14 (by kernel_rfl)) (fun _ _ _ h => h) (Or.inl ⟨by rfl, ?_⟩) hHeld ?_ ?_
      rotate_left
      · rintro w' ⟨s0, s1, s2, s3, s4, s5, s6, s7, s8, s9⟩
        go_simp
        with_reducible rfl
      rotate_left
      · simp only [Act.put, List.setIfInBounds_toArray, List.set_cons_zero, List.set_cons_succ, i64_w, i32_w]
        rfl
      refine take_ (i := 5) (N := some 71) (v := ?_) (a' := ?_) #[true, true, true, true, true, true, false, false, false, false, false, false, false, false, false, false, false, false, false, false, false, false, false] rfl rfl (take_of (md := .any) (ops := opsOf Try.f8 14) F8tab14 (by kernel_rfl)) (fun _ _ _ h => h) (Or.inl ⟨by rfl, ?_⟩) hHeld ?_ ?_
      rotate_left
      · rintro w' ⟨s0, s1, s2, s3, s4, s5, s6, s7, s8, s9⟩
        go_simp
        with_reducible rfl
      rotate_left
      · simp only [Act.put, List.setIfInBounds_toArray, List.set_cons_zero, List.set_cons_succ, i64_w, i32_w]
        rfl
      refine one_ (i := 6) (N := some 72) #[true, true, true, true, true, true, true, false, false, false, false, false, false, false, false, false, false, false, false, false, false, false, false] rfl rfl (one_of (md := .any) (ops := opsOf Try.f8 14) F8tab14 (by kernel_rfl)) (by decide) (fun K hK => ?_)
      refine goes_ Try.func17 (by kernel_rfl) rfl #[.agg #[.int .i64 x.f0, .int .i64 x.f1, .string x.f2, .slice A x.f3.length c]] (by rfl) rfl rfl (by (try simp only [List.map_toArray, List.map_cons, List.map_nil]); first | done | rfl) ?_
      refine (frc_of x A c true _ IV.out.dx HIX.out.2.2 HFC.out).mono ?_
      rintro e w502 ⟨rfl, hb⟩
      refine ⟨_, rfl, ?_⟩
      have m1 := Aside0.mk (IV.out.step hb); have m2 := Aside0.mk (JV.out.step hb); have m3 := Aside0.mk (bc hb KM.out); clear IV JV KM hb; have IV := m1; have JV := m2; have KM := m3; clear m1 m2 m3
      refine hK.out _ _ (S14_of IV.out JV.out KM.out) (fun hHeld => ?_)
      clear hK K
      refine norm_ (a' := ?_) ?_ ?_
      rotate_left
      · show Act.put _ (some 72) _ = _
        simp only [Act.put, List.setIfInBounds_toArray, List.set_cons_zero, List.set_cons_succ, i64_w, i32_w]
        rfl
      refine pure_ (i := 7) (N := some 73) (v := ?_) (a' := ?_) #[true, true, true, true, true, true, true, true, false, false, false, false, false, false, false, false, false, false, false, false, false, false, false] rfl rfl (any_of (md := .any) (ops := opsOf Try.f8 14) F8tab14 (by kernel_rfl)) (fun _ _ _ h => h) (Or.inl ⟨by rfl, ?_⟩) ?_ ?_
      rotate_left
      · intro w'
        go_simp
        with_reducible rfl
      rotate_left
      · simp only [Act.put, List.setIfInBounds_toArray, List.set_cons_zero, List.set_cons_succ, i64_w, i32_w]
        rfl
      refine pure_ (i := 8) (N := some 74) (v := ?_) (a' := ?_) #[true, true, true, true, true, true, true, true, true, false, false, false, false, false, false, false, false, false, false, false, false, false, false] rfl rfl (any_of (md := .any) (ops := opsOf Try.f8 14) F8tab14 (by kernel_rfl)) (fun _ _ _ h => h) (Or.inl ⟨by rfl, ?_⟩) ?_ ?_
      rotate_left
      · intro w'
        go_simp
        with_reducible rfl
      rotate_left
      · simp only [Act.put, List.setIfInBounds_toArray, List.set_cons_zero, List.set_cons_succ, i64_w, i32_w]
        rfl
      refine pure_ (i := 9) (N := some 75) (v := undef) (a' := ?_) #[true, true, true, true, true, true, true, true, true, true, false, false, false, false, false, false, false, false, false, false, false, false, false] rfl rfl (any_of (md := .any) (ops := opsOf Try.f8 14) F8tab14 (by kernel_rfl)) (fun _ _ _ h => h) (Or.inr ⟨by rfl, rfl⟩) ?_ ?_
      rotate_left
      · simp only [Act.put, List.setIfInBounds_toArray, List.set_cons_zero, List.set_cons_succ, i64_w, i32_w]
        rfl
      refine pure_ (i := 10) (N := some 76) (v := undef) (a' := ?_) #[true, true, true, true, true, true, true, true, true, true, true, false, false, false, false, false, false, false, false, false, false, false, false] rfl rfl (any_of (md := .any) (ops := opsOf Try.f8 14) F8tab14 (by kernel_rfl)) (fun _ _ _ h => h) (Or.inr ⟨by rfl, rfl⟩) ?_ ?_
      rotate_left
      · simp only [Act.put, List.setIfInBounds_toArray, List.set_cons_zero, List.set_cons_succ, i64_w, i32_w]
        rfl
      refine pure_ (i := 11) (N := some 77) (v := undef) (a' := ?_) #[true, true, true, true, true, true, true, true, true, true, true, true, false, false, false, false, false, false, false, false, false, false, false] rfl rfl (any_of (md := .any) (ops := opsOf Try.f8 14) F8tab14 (by kernel_rfl)) (fun _ _ _ h => h) (Or.inr ⟨by rfl, rfl⟩) ?_ ?_
      rotate_left
      · simp only [Act.put, List.setIfInBounds_toArray, List.set_cons_zero, List.set_cons_succ, i64_w, i32_w]
        rfl
      refine pure_ (i := 12) (N := some 78) (v := undef) (a' := ?_) #[true, true, true, true, true, true, true, true, true, true, true, true, true, false, false, false, false, false, false, false, false, false, false] rfl rfl (any_of (md := .any) (ops := opsOf Try.f8 14) F8tab14 (by kernel_rfl)) (fun _ _ _ h => h) (Or.inr ⟨by rfl, rfl⟩) ?_ ?_
      rotate_left
      · simp only [Act.put, List.setIfInBounds_toArray, List.set_cons_zero, List.set_cons_succ, i64_w, i32_w]
        rfl
      refine pure_ (i := 13) (N := some 79) (v := undef) (a' := ?_) #[true, true, true, true, true, true, true, true, true, true, true, true, true, true, false, false, false, false, false, false, false, false, false] rfl rfl (any_of (md := .any) (ops := opsOf Try.f8 14) F8tab14 (by kernel_rfl)) (fun _ _ _ h => h) (Or.inr ⟨by rfl, rfl⟩) ?_ ?_
      rotate_left
      · simp only [Act.put, List.setIfInBounds_toArray, List.set_cons_zero, List.set_cons_succ, i64_w, i32_w]
        rfl
      refine pure_ (i := 14) (N := some 80) (v := undef) (a' := ?_) #[true, true, true, true, true, true, true, true, true, true, true, true, true, true, true, false, false, false, false, false, false, false, false] rfl rfl (any_of (md := .any) (ops := opsOf Try.f8 14) F8tab14 (by kernel_rfl)) (fun _ _ _ h => h) (Or.inr ⟨by rfl, rfl⟩) ?_ ?_
      rotate_left
      · simp only [Act.put, List.setIfInBounds_toArray, List.set_cons_zero, List.set_cons_succ, i64_w, i32_w]
        rfl
      refine pure_ (i := 15) (N := some 81) (v := undef) (a' := ?_) #[true, true, true, true, true, true, true, true, true, true, true, true, true, true, true, true, false, false, false, false, false, false, false] rfl rfl (any_of (md := .any) (ops := opsOf Try.f8 14) F8tab14 (by kernel_rfl)) (fun _ _ _ h => h) (Or.inr ⟨by rfl, rfl⟩) ?_ ?_
      rotate_left
      · simp only [Act.put, List.setIfInBounds_toArray, List.set_cons_zero, List.set_cons_succ, i64_w, i32_w]
        rfl
      refine pure_ (i := 16) (N := some 82) (v := undef) (a' := ?_) #[true, true, true, true, true, true, true, true, true, true, true, true, true, true, true, true, true, false, false, false, false, false, false] rfl rfl (any_of (md := .any) (ops := opsOf Try.f8 14) F8tab14 (by kernel_rfl)) (fun _ _ _ h => h) (Or.inr ⟨by rfl, rfl⟩) ?_ ?_
      rotate_left
      · simp only [Act.put, List.setIfInBounds_toArray, List.set_cons_zero, List.set_cons_succ, i64_w, i32_w]
        rfl
      refine pure_ (i := 17) (N := some 83) (v := undef) (a' := ?_) #[true, true, true, true, true, true, true, true, true, true, true, true, true, true, true, true, true, true, false, false, false, false, false] rfl rfl (any_of (md := .any) (ops := opsOf Try.f8 14) F8tab14 (by kernel_rfl)) (fun _ _ _ h => h) (Or.inr ⟨by rfl, rfl⟩) ?_ ?_
      rotate_left
      · simp only [Act.put, List.setIfInBounds_toArray, List.set_cons_zero, List.set_cons_succ, i64_w, i32_w]
        rfl
      refine pure_ (i := 18) (N := some 84) (v := undef) (a' := ?_) #[true, true, true, true, true, true, true, true, true, true, true, true, true, true, true, true, true, true, true, false, false, false, false] rfl rfl (any_of (md := .any) (ops := opsOf Try.f8 14) F8tab14 (by kernel_rfl)) (fun _ _ _ h => h) (Or.inr ⟨by rfl, rfl⟩) ?_ ?_
      rotate_left
      · simp only [Act.put, List.setIfInBounds_toArray, List.set_cons_zero, List.set_cons_succ, i64_w, i32_w]
        rfl
      refine pure_ (i := 19) (N := some 85) (v := ?_) (a' := ?_) #[true, true, true, true, true, true, true, true, true, true, true, true, true, true, true, true, true, true, true, true, false, false, false] rfl rfl (any_of (md := .any) (ops := opsOf Try.f8 14) F8tab14 (by kernel_rfl)) (fun _ _ _ h => h) (Or.inl ⟨by rfl, ?_⟩) ?_ ?_
      rotate_left
      · intro w'
        go_simp
        with_reducible rfl
      rotate_left
      · simp only [Act.put, List.setIfInBounds_toArray, List.set_cons_zero, List.set_cons_succ, i64_w, i32_w]
        rfl
      refine pure_ (i := 20) (N := some 86) (v := ?_) (a' := ?_) #[true, true, true, true, true, true, true, true, true, true, true, true, true, true, true, true, true, true, true, true, true, false, false] rfl rfl (any_of (md := .any) (ops := opsOf Try.f8 14) F8tab14 (by kernel_rfl)) (fun _ _ _ h => h) (Or.inl ⟨by rfl, ?_⟩) ?_ ?_
      rotate_left
      · intro w'
        go_simp
        with_reducible rfl
      rotate_left
      · simp only [Act.put, List.setIfInBounds_toArray, List.set_cons_zero, List.set_cons_succ, i64_w, i32_w]
        rfl
      refine pure_ (i := 21) (N := some 87) (v := ?_) (a' := ?_) #[true, true, true, true, true, true, true, true, true, true, true, true, true, true, true, true, true, true, true, true, true, true, false] rfl rfl (any_of (md := .any) (ops := opsOf Try.f8 14) F8tab14 (by kernel_rfl)) (fun _ _ _ h => h) (Or.inl ⟨by rfl, ?_⟩) ?_ ?_
      rotate_left
      · intro w'
        go_simp
        with_reducible rfl
      rotate_left
      · simp only [Act.put, List.setIfInBounds_toArray, List.set_cons_zero, List.set_cons_succ, i64_w, i32_w]
        rfl
      refine pure_ (i := 22) (N := some 8) (v := ?_) (a' := ?_) #[true, true, true, true, true, true, true, true, true, true, true, true, true, true, true, true, true, true, true, true, true, true, true] rfl rfl (any_of (md := .any) (ops := opsOf Try.f8 14) F8tab14 (by kernel_rfl)) (fun _ _ _ h => h) (Or.inl ⟨by rfl, ?_⟩) ?_ ?_
      rotate_left
      · intro w'
        go_simp
        with_reducible rfl
      rotate_left
      · simp only [Act.put, List.setIfInBounds_toArray, List.set_cons_zero, List.set_cons_succ, i64_w, i32_w]
        rfl
      refine done_ (done_of (md := .any) (ops := opsOf Try.f8 14) F8tab14 (by kernel_rfl)) ?_
      clear hHeld
      go_wp2_with fail
      go_ret
      have eq_ : q = false := HQ.out.symm
      exact ⟨by subst eq_; rfl, IV.out.hb⟩
set_option maxHeartbeats 8000000 in
set_option maxRecDepth 100000 in
theorem fits_main_false (hx : Dc w x A c) (hy : Dc w y B d) (hf : decide (fewD x 60 ≤ 500) = true) (hf2 : decide (fewD y 60 ≤ 500) = true) (hm : mayB x = true) (hm2 : mayB y = true) (hfc : frcB x = false) : FitsAt w x A c y B d wd ah := by
  have hu24 := Try.underlying24
  have hu22 := Try.underlying22
  have hu30 := Try.underlying30
  have HX_IV := Aside0.mk hx
  have HX_JV := Aside0.mk hy
  clear hx hy
  have HFX := Aside0.mk hf
  have HFY := Aside0.mk hf2
  have HIX := Aside0.mk (few_small hf)
  have HIY := Aside0.mk (few_small hf2)
  have HMX := Aside0.mk hm
  have HMY := Aside0.mk hm2
  have HFC := Aside0.mk hfc
  obtain ⟨hw1, hw2⟩ : 1 ≤ (wrap64 (1 + wrap64 ((IntKind.u64.wrap wd).tmod 60))) ∧ (wrap64 (1 + wrap64 ((IntKind.u64.wrap wd).tmod 60))) ≤ 60 := wdU_range 60 (by decide) (by decide) wd
  obtain ⟨k, hk30, hkv⟩ := remU 30 (by decide) (by decide) ah
  have hkv : (wrap64 ((IntKind.u64.wrap ah).tmod 30)) = (k : Int) := hkv
  obtain ⟨V, hV⟩ : ∃ V, (wrap64 (1 + wrap64 ((IntKind.u64.wrap wd).tmod 60))) = V := ⟨_, rfl⟩
  rw [hV] at hw1 hw2
  have HMD := Aside0.mk (fitD_may (k := k) hm hm2 HIX.out.1 HIY.out.1 HIX.out.2.1 HIY.out.2.1)
  obtain ⟨wx, hwx⟩ : ∃ u, wdV x = u := ⟨_, rfl⟩
  obtain ⟨ly, hly⟩ : ∃ u, (ldL [y] (0, false)).1 = u := ⟨_, rfl⟩
  obtain ⟨m, hmm⟩ := fitD_modes k x y V
  rw [hfc, hwx, hly] at hmm
  obtain ⟨q, hq⟩ : ∃ q, (!false && decide ((k : Int) + wx + ly ≤ V)) = q := ⟨_, rfl⟩
  rw [hq] at hmm
  have HRM := Aside0.mk (show renM (fitD k x y) V = q :: m from (ren_of hw1 (by omega) HMD.out rfl hmm).2.2)
  have bw := wdV_le _ HIX.out.2.2
  have bl := ldL_le [y] ⟨HIY.out.2.2, trivial⟩ (0, false) (by simp)
  rw [hwx] at bw
  rw [hly] at bl
  simp only [cntL] at bl
  have hc1 := HIX.out.1
  have hc2 := HIY.out.1
  have e1 : wrap64 ((k : Int) + wx) = (k : Int) + wx := by unfold wrap64; omega
  have e2 : wrap64 ((k : Int) + wx + ly) = (k : Int) + wx + ly := by unfold wrap64; omega
  have HWX := Aside0.mk hwx
  have HLY := Aside0.mk hly
  have HK := Aside0.mk hk30
  obtain ⟨n, hn⟩ : ∃ n, m.length + 1 = n := ⟨_, rfl⟩
  have n1a : ((n : Int) == 0) = false := by rw [beq_eq_false_iff_ne]; omega
  have n1b : (0 : Int) < (n : Int) := by omega
  have HN := Aside0.mk hn
  have HEV := Aside0.mk hV
  have HEK := Aside0.mk hkv
  have hk31 : (k : Int) < 30 := by omega
  have HQ := Aside0.mk hq
  clear hf hf2 hm hm2 hfc hw1 hw2 hmm hwx hly bw bl hc1 hc2 hn hV hkv hk30
  unfold FitsAt DA
  go_enter Try.func8, Try.ntmps8
  go_wp2_with (first | ((with_reducible refine gate_dst (N := 4) rfl ?_); (try (refine gate_guard (by rfl) ?_; dsimp only)); refine box_event ?hg (N := 4) ?hd (cs := #[.int .i64 x.f0, .int .i64 x.f1, .string x.f2, .slice A x.f3.length c]) (t := 24) ?hr ?_; (case hd => rfl); (case hg => rfl); (case hr => first | (go_simp; done) | (go_simp; rfl)); intro ga hg w1 hbox hb; have IV := Aside0.mk (IvD.mk hb hbox HX_IV.out); clear hb hbox hg) | ((with_reducible refine gate_dst (N := 5) rfl ?_); (try (refine gate_guard (by rfl) ?_; dsimp only)); refine box_event ?hg (N := 5) ?hd (cs := #[.int .i64 y.f0, .int .i64 y.f1, .string y.f2, .slice B y.f3.length d]) (t := 24) ?hr ?_; (case hd => rfl); (case hg => rfl); (case hr => first | (go_simp; done) | (go_simp; rfl)); intro gb hg w2 hbox hb; have JV := Aside0.mk (IvD.mk (below_step IV.out.hb hb) hbox HX_JV.out); have n_ := Aside0.mk (IV.out.step hb); clear IV hb hbox hg; have IV := n_; clear n_; have hx0 := IV.out.c0; have hx1 := IV.out.c1; have hx2 := IV.out.c2; have hx3 := IV.out.c3; have hy0 := JV.out.c0; have hy1 := JV.out.c1; have hy2 := JV.out.c2; have hy3 := JV.out.c3) | ((with_reducible refine gate_dst (N := 17) rfl ?_); refine goesL_ (some 17) rfl rfl Try.func9 (by kernel_rfl) rfl #[.agg #[.int .i64 x.f0, .int .i64 x.f1, .string x.f2, .slice A x.f3.length c]] rfl (by (try simp only [List.map_toArray, List.map_cons, List.map_nil]); first | done | rfl) ?_; (refine (few_of x A c true _ IV.out.dx HFX.out).mono ?_); (rintro e w117 ⟨rfl, hb⟩; refine ⟨_, rfl, ?_⟩; have n_IV := Aside0.mk (IV.out.step hb); clear IV hx0 hx1 hx2 hx3; have IV := n_IV; clear n_IV; have hx0 := IV.out.c0; have hx1 := IV.out.c1; have hx2 := IV.out.c2; have hx3 := IV.out.c3; have n_JV := Aside0.mk (JV.out.step hb); clear JV hy0 hy1 hy2 hy3; have JV := n_JV; clear n_JV; have hy0 := JV.out.c0; have hy1 := JV.out.c1; have hy2 := JV.out.c2; have hy3 := JV.out.c3; clear hb)) | ((with_reducible refine gate_dst (N := 21) rfl ?_); (refine gate_guard (by rfl) ?_; dsimp only); refine goesL_ (some 21) rfl rfl Try.func9 (by kernel_rfl) rfl #[.agg #[.int .i64 y.f0, .int .i64 y.f1, .string y.f2, .slice B y.f3.length d]] rfl (by (try simp only [List.map_toArray, List.map_cons, List.map_nil]); first | done | rfl) ?_; (refine (few_of y B d true _ JV.out.dx HFY.out).mono ?_); (rintro e w121 ⟨rfl, hb⟩; refine ⟨_, rfl, ?_⟩; have n_IV := Aside0.mk (IV.out.step hb); clear IV hx0 hx1 hx2 hx3; have IV := n_IV; clear n_IV; have hx0 := IV.out.c0; have hx1 := IV.out.c1; have hx2 := IV.out.c2; have hx3 := IV.out.c3; have n_JV := Aside0.mk (JV.out.step hb); clear JV hy0 hy1 hy2 hy3; have JV := n_JV; clear n_JV; have hy0 := JV.out.c0; have hy1 := JV.out.c1; have hy2 := JV.out.c2; have hy3 := JV.out.c3; clear hb)) | ((with_reducible refine gate_dst (N := 26) rfl ?_); (refine gate_guard (by rfl) ?_; dsimp only); refine goesL_ (some 26) rfl rfl Try.func15 (by kernel_rfl) rfl #[.agg #[.int .i64 x.f0, .int .i64 x.f1, .string x.f2, .slice A x.f3.length c]] rfl (by (try simp only [List.map_toArray, List.map_cons, List.map_nil]); first | done | rfl) ?_; (refine (may_of x A c true _ IV.out.dx HIX.out.2.2 HIX.out.1 HIX.out.2.1 HMX.out).mono ?_); (rintro e w126 ⟨rfl, hb⟩; refine ⟨_, rfl, ?_⟩; have n_IV := Aside0.mk (IV.out.step hb); clear IV hx0 hx1 hx2 hx3; have IV := n_IV; clear n_IV; have hx0 := IV.out.c0; have hx1 := IV.out.c1; have hx2 := IV.out.c2; have hx3 := IV.out.c3; have n_JV := Aside0.mk (JV.out.step hb); clear JV hy0 hy1 hy2 hy3; have JV := n_JV; clear n_JV; have hy0 := JV.out.c0; have hy1 := JV.out.c1; have hy2 := JV.out.c2; have hy3 := JV.out.c3; clear hb)) | ((with_reducible refine gate_dst (N := 31) rfl ?_); (refine gate_guard (by rfl) ?_; dsimp only); refine goesL_ (some 31) rfl rfl Try.func15 (by kernel_rfl) rfl #[.agg #[.int .i64 y.f0, .int .i64 y.f1, .string y.f2, .slice B y.f3.length d]] rfl (by (try simp only [List.map_toArray, List.map_cons, List.map_nil]); first | done | rfl) ?_; (refine (may_of y B d true _ JV.out.dx HIY.out.2.2 HIY.out.1 HIY.out.2.1 HMY.out).mono ?_); (rintro e w131 ⟨rfl, hb⟩; refine ⟨_, rfl, ?_⟩; have n_IV := Aside0.mk (IV.out.step hb); clear IV hx0 hx1 hx2 hx3; have IV := n_IV; clear n_IV; have hx0 := IV.out.c0; have hx1 := IV.out.c1; have hx2 := IV.out.c2; have hx3 := IV.out.c3; have n_JV := Aside0.mk (JV.out.step hb); clear JV hy0 hy1 hy2 hy3; have JV := n_JV; clear n_JV; have hy0 := JV.out.c0; have hy1 := JV.out.c1; have hy2 := JV.out.c2; have hy3 := JV.out.c3; clear hb)))
  rw [HEK.out, HEV.out]
  go_loopg [11, 12] k (fun k' v11 v12 wr => ∃ (i : Nat), v11 = .string (xs i) ∧ v12 = .int .i64 (i : Int) ∧ i ≤ k ∧ Aside0 (k' + i = k) ∧ Aside0 (IvD w wr ga x A c) ∧ Aside0 (IvD w wr gb y B d))
  case atStart => exact ⟨0, rfl, rfl, Nat.zero_le _, ⟨rfl⟩, IV, JV⟩
  case round =>
    clear IV JV hx0 hx1 hx2 hx3 hy0 hy1 hy2 hy3
    obtain ⟨i, rfl, rfl, hi, HKI, IV, JV⟩ := hrel
    have hi30 : i < 31 := by omega
    by_cases hlt : i < k
    · have HXS := Aside0.mk (xs_succ i)
      have hxz : (xs i).size = i := xs_size i
      obtain ⟨s, hs⟩ : ∃ s, xs i = s := ⟨_, rfl⟩
      rw [hs] at HXS hxz
      rw [hs]
      have hsz : s.size < 31 := by omega
      go_wp2_with fail
      go_roundg (gk - 1)
      case measure => have := HKI.out; omega
      case rel => exact ⟨i + 1, by rw [HXS.out], by go_num, by omega, ⟨by have := HKI.out; omega⟩, IV, JV⟩
    · obtain rfl : i = k := by omega
      obtain ⟨s, hs⟩ : ∃ s, xs i = s := ⟨_, rfl⟩
      have HS := Aside0.mk hs.symm
      rw [hs]
      clear hs
      have hx0 := IV.out.c0
      have hx1 := IV.out.c1
      have hx2 := IV.out.c2
      have hx3 := IV.out.c3
      have hy0 := JV.out.c0
      have hy1 := JV.out.c1
      have hy2 := JV.out.c2
      have hy3 := JV.out.c3
      go_upto_region 10 with (fail)
      have F := grp_world (x := x) (A := A) (c := c) IV.out.dx
      generalize World.alloc (World.alloc wr _) _ = w5 at F ⊢
      have m1 := Aside0.mk (IV.out.step F.1)
      have m2 := Aside0.mk (JV.out.step F.1)
      generalize wr.heap.size + 1 = gg at F ⊢
      generalize wr.heap.size = gl0 at F ⊢
      have IG := Aside0.mk F.2
      clear F IV JV hx0 hx1 hx2 hx3 hy0 hy1 hy2 hy3
      have IV := m1
      have JV := m2
      clear m1 m2
      have hx0 := IV.out.c0
      have hx1 := IV.out.c1
      have hx2 := IV.out.c2
      have hx3 := IV.out.c3
      have hy0 := JV.out.c0
      have hy1 := JV.out.c1
      have hy2 := JV.out.c2
      have hy3 := JV.out.c3
      have hg0 : w5.cell? ⟨gg, 0, none⟩ = some (.int .i64 7) := IG.out.c0
      have hg1 : w5.cell? ⟨gg, 1, none⟩ = some (.int .i64 0) := IG.out.c1
      have hg2 : w5.cell? ⟨gg, 2, none⟩ = some (.string (⟨#[]⟩ : ByteArray)) := IG.out.c2
      have hg3 : w5.cell? ⟨gg, 3, none⟩ = some (.slice (some ⟨gl0, 0, none⟩) 1 1) := IG.out.c3
      go_upto_region 11 with (fail)
      have F := fitD_world (x := x) (y := y) (B := B) (d := d) HS.out IG.out.dx JV.out.dx
      generalize World.alloc (World.alloc w5 _) _ = w6 at F ⊢
      have m1 := Aside0.mk (IV.out.step F.1)
      have m2 := Aside0.mk (JV.out.step F.1)
      generalize w5.heap.size + 1 = gt1 at F ⊢
      generalize w5.heap.size = gt at F ⊢
      have IT := Aside0.mk F.2
      clear F IV JV IG hg0 hg1 hg2 hg3 hx0 hx1 hx2 hx3 hy0 hy1 hy2 hy3
      have IV := m1
      have JV := m2
      clear m1 m2
      have t0 : w6.cell? ⟨gt1, 0, none⟩ = some (.int .i64 5) := IT.out.c0
      have t1 : w6.cell? ⟨gt1, 1, none⟩ = some (.int .i64 0) := IT.out.c1
      have t2 : w6.cell? ⟨gt1, 2, none⟩ = some (.string (⟨#[]⟩ : ByteArray)) := IT.out.c2
      have t3 : w6.cell? ⟨gt1, 3, none⟩ = some (.slice (some ⟨gt, 0, none⟩) 3 3) := IT.out.c3
      go_upto_region 14 with (first | ((with_reducible refine gate_dst (N := 62) rfl ?_); refine goesL_ (some 62) rfl rfl Try.func13 (by kernel_rfl) rfl #[.agg #[.int .i64 5, .int .i64 0, .string (⟨#[]⟩ : ByteArray), .slice (some ⟨gt, 0, none⟩) 3 3], .int .i64 V] rfl (by (try simp only [List.map_toArray, List.map_cons, List.map_nil]); first | done | rfl) ?_; (refine (modes_of (fitD i x y) (some ⟨gt, 0, none⟩) 3 V (q :: m) _ IT.out.dx (fitD_fin HK.out HIX.out.2.2 HIY.out.2.2) (by rw [fitD_cnt]; have := HIX.out.1; have := HIY.out.1; omega) HRM.out).mono ?_); (rintro e w162 ⟨v62, rfl, hown, hb⟩; refine ⟨_, rfl, ?_⟩; obtain ⟨gm, cm, rfl, hcm⟩ := own_head hown HN.out; have KM := Aside0.mk hcm; have m1 := Aside0.mk (IV.out.step hb); have m2 := Aside0.mk (JV.out.step hb); clear hown hcm IT t0 t1 t2 t3 IV JV hb; have IV := m1; have JV := m2; clear m1 m2)))
      have m1 := Aside0.mk (IV.out.step (below_drew1 (Below.refl _ _)))
      have m2 := Aside0.mk (JV.out.step (below_drew1 (Below.refl _ _)))
      have m3 := Aside0.mk (bc (below_drew1 (Below.refl _ _)) KM.out)
      clear IV JV KM
      have IV := m1
      have JV := m2
      have KM := m3
      clear m1 m2 m3
      refine start_ (n := 23) (S := S14 ga gb gm x y A c B d q) (ds := []) #[false, false, false, false, false, false, false, false, false, false, false, false, false, false, false, false, false, false, false, false, false, false, false] (by kernel_rfl) rfl rfl (S14_of IV.out JV.out KM.out) (fun hHeld => ?_)
      generalize World.drew _ = w500 at IV JV KM hHeld ⊢
      refine one_ (i := 0) (N := some 66) #[true, false, false, false, false, false, false, false, false, false, false, false, false, false, false, false, false, false, false, false, false, false, false] rfl rfl (one_of (md := .any) (ops := opsOf Try.f8 14) F8tab14 (by kernel_rfl)) (by decide) (fun K hK => ?_)
      refine goes_ Try.func10 (by kernel_rfl) rfl #[] (by rfl) rfl rfl (by (try simp only [List.map_toArray, List.map_cons, List.map_nil]); first | done | rfl) ?_
      refine (told_calls _).mono ?_
      rintro e w501 ⟨rfl, hb⟩
      refine ⟨_, rfl, ?_⟩
      have m1 := Aside0.mk (IV.out.step hb); have m2 := Aside0.mk (JV.out.step hb); have m3 := Aside0.mk (bc hb KM.out); clear IV JV KM hb; have IV := m1; have JV := m2; have KM := m3; clear m1 m2 m3
      refine hK.out _ _ (S14_of IV.out JV.out KM.out) (fun hHeld => ?_)
      clear hK K
      refine norm_ (a' := ?_) ?_ ?_
      rotate_left
      · show Act.put _ (some 66) _ = _
        simp only [Act.put, List.setIfInBounds_toArray, List.set_cons_zero, List.set_cons_succ, i64_w, i32_w]
        rfl
      refine pure_ (i := 1) (N := some 67) (v := ?_) (a' := ?_) #[true, true, false, false, false, false, false, false, false, false, false, false, false, false, false, false, false, false, false, false, false, false, false] rfl rfl (any_of (md := .any) (ops := opsOf Try.f8 14) F8tab14 (by kernel_rfl)) (fun _ _ _ h => h) (Or.inl ⟨by rfl, ?_⟩) ?_ ?_
      rotate_left
      · intro w'
        go_simp
        with_reducible rfl
      rotate_left
      · simp only [Act.put, List.setIfInBounds_toArray, List.set_cons_zero, List.set_cons_succ, i64_w, i32_w]
        rfl
      refine pure_ (i := 2) (N := some 68) (v := ?_) (a' := ?_) #[true, true, true, false, false, false, false, false, false, false, false, false, false, false, false, false, false, false, false, false, false, false, false] rfl rfl (any_of (md := .any) (ops := opsOf Try.f8 14) F8tab14 (by kernel_rfl)) (fun _ _ _ h => h) (Or.inl ⟨by rfl, ?_⟩) ?_ ?_
      rotate_left
      · intro w'
        go_simp
        with_reducible rfl
      rotate_left
      · simp only [Act.put, List.setIfInBounds_toArray, List.set_cons_zero, List.set_cons_succ, i64_w, i32_w]
        rfl
      refine pure_ (i := 3) (N := some 69) (v := ?_) (a' := ?_) #[true, true, true, true, false, false, false, false, false, false, false, false, false, false, false, false, false, false, false, false, false, false, false] rfl rfl (any_of (md := .any) (ops := opsOf Try.f8 14) F8tab14 (by kernel_rfl)) (fun _ _ _ h => h) (Or.inl ⟨by rfl, ?_⟩) ?_ ?_
      rotate_left
      · intro w'
        go_simp
        rw [if_pos (by omega)]
      rotate_left
      · simp only [Act.put, List.setIfInBounds_toArray, List.set_cons_zero, List.set_cons_succ, i64_w, i32_w]
        rfl
      refine take_ (i := 4) (N := some 70) (v := ?_) (a' := ?_) #[true, true, true, true, true, false, false, false, false, false, false, false, false, false, false, false, false, false, false, false, false, false, false] rfl rfl (take_of (md := .any) (ops := opsOf Try.f8 14) F8tab14 (by kernel_rfl)) (fun _ _ _ h => h) (Or.inl ⟨by rfl, ?_⟩) hHeld ?_ ?_
      rotate_left
      · rintro w' ⟨s0, s1, s2, s3, s4, s5, s6, s7, s8, s9⟩
        go_simp
        with_reducible rfl
      rotate_left
      · simp only [Act.put, List.setIfInBounds_toArray, List.set_cons_zero, List.set_cons_succ, i64_w, i32_w]
        rfl
      refine take_ (i := 5) (N := some 71) (v := ?_) (a' := ?_) #[true, true, true, true, true, true, false, false, false, false, false, false, false, false, false, false, false, false, false, false, false, false, false] rfl rfl (take_of (md := .any) (ops := opsOf Try.f8 14) F8tab14 (by kernel_rfl)) (fun _ _ _ h => h) (Or.inl ⟨by rfl, ?_⟩) hHeld ?_ ?_
      rotate_left
      · rintro w' ⟨s0, s1, s2, s3, s4, s5, s6, s7, s8, s9⟩
        go_simp
        with_reducible rfl
      rotate_left
      · simp only [Act.put, List.setIfInBounds_toArray, List.set_cons_zero, List.set_cons_succ, i64_w, i32_w]
        rfl
      refine one_ (i := 6) (N := some 72) #[true, true, true, true, true, true, true, false, false, false, false, false, false, false, false, false, false, false, false, false, false, false, false] rfl rfl (one_of (md := .any) (ops := opsOf Try.f8 14) F8tab14 (by kernel_rfl)) (by decide) (fun K hK => ?_)
      refine goes_ Try.func17 (by kernel_rfl) rfl #[.agg #[.int .i64 x.f0, .int .i64 x.f1, .string x.f2, .slice A x.f3.length c]] (by rfl) rfl rfl (by (try simp only [List.map_toArray, List.map_cons, List.map_nil]); first | done | rfl) ?_
      refine (frc_of x A c false _ IV.out.dx HIX.out.2.2 HFC.out).mono ?_
      rintro e w502 ⟨rfl, hb⟩
      refine ⟨_, rfl, ?_⟩
      have m1 := Aside0.mk (IV.out.step hb); have m2 := Aside0.mk (JV.out.step hb); have m3 := Aside0.mk (bc hb KM.out); clear IV JV KM hb; have IV := m1; have JV := m2; have KM := m3; clear m1 m2 m3
      refine hK.out _ _ (S14_of IV.out JV.out KM.out) (fun hHeld => ?_)
      clear hK K
      refine norm_ (a' := ?_) ?_ ?_
      rotate_left
      · show Act.put _ (some 72) _ = _
        simp only [Act.put, List.setIfInBounds_toArray, List.set_cons_zero, List.set_cons_succ, i64_w, i32_w]
        rfl
      refine pure_ (i := 7) (N := some 73) (v := ?_) (a' := ?_) #[true, true, true, true, true, true, true, true, false, false, false, false, false, false, false, false, false, false, false, false, false, false, false] rfl rfl (any_of (md := .any) (ops := opsOf Try.f8 14) F8tab14 (by kernel_rfl)) (fun _ _ _ h => h) (Or.inl ⟨by rfl, ?_⟩) ?_ ?_
      rotate_left
      · intro w'
        go_simp
        with_reducible rfl
      rotate_left
      · simp only [Act.put, List.setIfInBounds_toArray, List.set_cons_zero, List.set_cons_succ, i64_w, i32_w]
        rfl
      refine pure_ (i := 8) (N := some 74) (v := ?_) (a' := ?_) #[true, true, true, true, true, true, true, true, true, false, false, false, false, false, false, false, false, false, false, false, false, false, false] rfl rfl (any_of (md := .any) (ops := opsOf Try.f8 14) F8tab14 (by kernel_rfl)) (fun _ _ _ h => h) (Or.inl ⟨by rfl, ?_⟩) ?_ ?_
      rotate_left
      · intro w'
        go_simp
        with_reducible rfl
      rotate_left
      · simp only [Act.put, List.setIfInBounds_toArray, List.set_cons_zero, List.set_cons_succ, i64_w, i32_w]
        rfl
      refine pure_ (i := 9) (N := some 75) (v := ?_) (a' := ?_) #[true, true, true, true, true, true, true, true, true, true, false, false, false, false, false, false, false, false, false, false, false, false, false] rfl rfl (any_of (md := .any) (ops := opsOf Try.f8 14) F8tab14 (by kernel_rfl)) (fun _ _ _ h => h) (Or.inl ⟨by rfl, ?_⟩) ?_ ?_
      rotate_left
      · intro w'
        go_simp
        with_reducible rfl
      rotate_left
      · simp only [Act.put, List.setIfInBounds_toArray, List.set_cons_zero, List.set_cons_succ, i64_w, i32_w]
        rfl
      refine take_ (i := 10) (N := some 76) (v := ?_) (a' := ?_) #[true, true, true, true, true, true, true, true, true, true, true, false, false, false, false, false, false, false, false, false, false, false, false] rfl rfl (take_of (md := .any) (ops := opsOf Try.f8 14) F8tab14 (by kernel_rfl)) (fun _ _ _ h => h) (Or.inl ⟨by rfl, ?_⟩) hHeld ?_ ?_
      rotate_left
      · rintro w' ⟨s0, s1, s2, s3, s4, s5, s6, s7, s8, s9⟩
        go_simp
        with_reducible rfl
      rotate_left
      · simp only [Act.put, List.setIfInBounds_toArray, List.set_cons_zero, List.set_cons_succ, i64_w, i32_w]
        rfl
      refine take_ (i := 13) (N := some 79) (v := ?_) (a' := ?_) #[true, true, true, true, true, true, true, true, true, true, true, false, false, true, false, false, false, false, false, false, false, false, false] rfl rfl (take_of (md := .any) (ops := opsOf Try.f8 14) F8tab14 (by kernel_rfl)) (fun _ _ _ h => h) (Or.inl ⟨by rfl, ?_⟩) hHeld ?_ ?_
      rotate_left
      · rintro w' ⟨s0, s1, s2, s3, s4, s5, s6, s7, s8, s9⟩
        go_simp
        with_reducible rfl
      rotate_left
      · simp only [Act.put, List.setIfInBounds_toArray, List.set_cons_zero, List.set_cons_succ, i64_w, i32_w]
        rfl
      refine pure_ (i := 17) (N := some 83) (v := ?_) (a' := ?_) #[true, true, true, true, true, true, true, true, true, true, true, false, false, true, false, false, false, true, false, false, false, false, false] rfl rfl (any_of (md := .any) (ops := opsOf Try.f8 14) F8tab14 (by kernel_rfl)) (fun _ _ _ h => h) (Or.inl ⟨by rfl, ?_⟩) ?_ ?_
      rotate_left
      · intro w'
        go_simp
        with_reducible rfl
      rotate_left
      · simp only [Act.put, List.setIfInBounds_toArray, List.set_cons_zero, List.set_cons_succ, i64_w, i32_w]
        rfl
      refine two_ (i := 11) (j := 14) (Ni := some 77) (Nj := some 80) #[true, true, true, true, true, true, true, true, true, true, true, true, false, true, false, false, false, true, false, false, false, false, false] #[true, true, true, true, true, true, true, true, true, true, true, false, false, true, true, false, false, true, false, false, false, false, false] rfl rfl rfl rfl (two_of (md := .any) (ops := opsOf Try.f8 14) F8tab14 (by kernel_rfl)) (by decide) (by decide) (fun K hK => ?_) (fun K hK => ?_)
      · refine goes_ Try.func19 (by kernel_rfl) rfl #[.agg #[.int .i64 x.f0, .int .i64 x.f1, .string x.f2, .slice A x.f3.length c]] (by rfl) rfl rfl (by (try simp only [List.map_toArray, List.map_cons, List.map_nil]); first | done | rfl) ?_
        refine (wid_of x A c _ IV.out.dx HIX.out.2.2 HIX.out.1 (mayB_own HMX.out)).mono ?_
        rintro e w503 ⟨rfl, hb⟩
        refine ⟨_, rfl, ?_⟩
        rw [HWX.out]; have m1 := Aside0.mk (IV.out.step hb); have m2 := Aside0.mk (JV.out.step hb); have m3 := Aside0.mk (bc hb KM.out); clear IV JV KM hb; have IV := m1; have JV := m2; have KM := m3; clear m1 m2 m3
        refine hK.out _ _ (S14_of IV.out JV.out KM.out) (fun hHeld => ?_)
        clear hK K
        refine norm_ (a' := ?_) ?_ ?_
        rotate_left
        · show Act.put _ (some 77) _ = _
          simp only [Act.put, List.setIfInBounds_toArray, List.set_cons_zero, List.set_cons_succ, i64_w, i32_w]
          rfl
        refine pure_ (i := 12) (N := some 78) (v := ?_) (a' := ?_) #[true, true, true, true, true, true, true, true, true, true, true, true, true, true, false, false, false, true, false, false, false, false, false] rfl rfl (any_of (md := .any) (ops := opsOf Try.f8 14) F8tab14 (by kernel_rfl)) (fun _ _ _ h => h) (Or.inl ⟨by rfl, ?_⟩) ?_ ?_
        rotate_left
        · intro w'
          go_simp
          with_reducible rfl
        rotate_left
        · simp only [Act.put, List.setIfInBounds_toArray, List.set_cons_zero, List.set_cons_succ, i64_w, i32_w]
          rfl
        refine one_ (i := 14) (N := some 80) #[true, true, true, true, true, true, true, true, true, true, true, true, true, true, true, false, false, true, false, false, false, false, false] rfl rfl (one_of (md := .any) (ops := opsOf Try.f8 14) F8tab14 (by kernel_rfl)) (by decide) (fun K hK => ?_)
        refine lit_step (m := 1) (cs := #[.int .i64 y.f0, .int .i64 y.f1, .string y.f2, .slice B y.f3.length d]) (t := 24) (by rfl) ?hrun ?_
        case hrun => first | (go_simp; done) | (go_simp; rfl)
        intro gl hg w504 hbox hb
        have BG := Aside0.mk hbox; have m1 := Aside0.mk (IV.out.step hb); have m2 := Aside0.mk (JV.out.step hb); have m3 := Aside0.mk (bc hb KM.out); clear IV JV KM hb; have IV := m1; have JV := m2; have KM := m3; clear m1 m2 m3
        clear hbox hg
        refine hK.out _ _ (S14_of IV.out JV.out KM.out) (fun hHeld => ?_)
        clear hK K
        refine norm_ (a' := ?_) ?_ ?_
        rotate_left
        · show Act.put _ (some 80) _ = _
          simp only [Act.put, List.setIfInBounds_toArray, List.set_cons_zero, List.set_cons_succ, i64_w, i32_w]
          rfl
        refine one_ (i := 15) (N := some 81) #[true, true, true, true, true, true, true, true, true, true, true, true, true, true, true, true, false, true, false, false, false, false, false] rfl rfl (one_of (md := .any) (ops := opsOf Try.f8 14) F8tab14 (by kernel_rfl)) (by decide) (fun K hK => ?_)
        refine goes_ Try.func21 (by kernel_rfl) rfl #[.slice (some ⟨gl, 0, none⟩) 1 1] (by rfl) rfl rfl (by (try simp only [List.map_toArray, List.map_cons, List.map_nil]); first | done | rfl) ?_
        refine (first_of y B d gl _ BG.out JV.out.dx HIY.out.2.2 HIY.out.1 (mayB_own HMY.out)).mono ?_
        rintro e w505 ⟨rfl, hb⟩
        refine ⟨_, rfl, ?_⟩
        rw [HLY.out]; clear BG; have m1 := Aside0.mk (IV.out.step hb); have m2 := Aside0.mk (JV.out.step hb); have m3 := Aside0.mk (bc hb KM.out); clear IV JV KM hb; have IV := m1; have JV := m2; have KM := m3; clear m1 m2 m3
        refine hK.out _ _ (S14_of IV.out JV.out KM.out) (fun hHeld => ?_)
        clear hK K
        refine norm_ (a' := ?_) ?_ ?_
        rotate_left
        · show Act.put _ (some 81) _ = _
          simp only [Act.put, List.setIfInBounds_toArray, List.set_cons_zero, List.set_cons_succ, i64_w, i32_w]
          rfl
        refine pure_ (i := 16) (N := some 82) (v := ?_) (a' := ?_) #[true, true, true, true, true, true, true, true, true, true, true, true, true, true, true, true, true, true, false, false, false, false, false] rfl rfl (any_of (md := .any) (ops := opsOf Try.f8 14) F8tab14 (by kernel_rfl)) (fun _ _ _ h => h) (Or.inl ⟨by rfl, ?_⟩) ?_ ?_
        rotate_left
        · intro w'
          go_simp
          with_reducible rfl
        rotate_left
        · simp only [Act.put, List.setIfInBounds_toArray, List.set_cons_zero, List.set_cons_succ, i64_w, i32_w]
          rfl
        refine pure_ (i := 18) (N := some 84) (v := ?_) (a' := ?_) #[true, true, true, true, true, true, true, true, true, true, true, true, true, true, true, true, true, true, true, false, false, false, false] rfl rfl (any_of (md := .any) (ops := opsOf Try.f8 14) F8tab14 (by kernel_rfl)) (fun _ _ _ h => h) (Or.inl ⟨by rfl, ?_⟩) ?_ ?_
        rotate_left
        · intro w'
          go_simp
          with_reducible rfl
        rotate_left
        · simp only [Act.put, List.setIfInBounds_toArray, List.set_cons_zero, List.set_cons_succ, i64_w, i32_w]
          rfl
        refine pure_ (i := 19) (N := some 85) (v := ?_) (a' := ?_) #[true, true, true, true, true, true, true, true, true, true, true, true, true, true, true, true, true, true, true, true, false, false, false] rfl rfl (any_of (md := .any) (ops := opsOf Try.f8 14) F8tab14 (by kernel_rfl)) (fun _ _ _ h => h) (Or.inl ⟨by rfl, ?_⟩) ?_ ?_
        rotate_left
        · intro w'
          go_simp
          with_reducible rfl
        rotate_left
        · simp only [Act.put, List.setIfInBounds_toArray, List.set_cons_zero, List.set_cons_succ, i64_w, i32_w]
          rfl
        refine pure_ (i := 20) (N := some 86) (v := ?_) (a' := ?_) #[true, true, true, true, true, true, true, true, true, true, true, true, true, true, true, true, true, true, true, true, true, false, false] rfl rfl (any_of (md := .any) (ops := opsOf Try.f8 14) F8tab14 (by kernel_rfl)) (fun _ _ _ h => h) (Or.inl ⟨by rfl, ?_⟩) ?_ ?_
        rotate_left
        · intro w'
          go_simp
          with_reducible rfl
        rotate_left
        · simp only [Act.put, List.setIfInBounds_toArray, List.set_cons_zero, List.set_cons_succ, i64_w, i32_w]
          rfl
        refine pure_ (i := 21) (N := some 87) (v := ?_) (a' := ?_) #[true, true, true, true, true, true, true, true, true, true, true, true, true, true, true, true, true, true, true, true, true, true, false] rfl rfl (any_of (md := .any) (ops := opsOf Try.f8 14) F8tab14 (by kernel_rfl)) (fun _ _ _ h => h) (Or.inl ⟨by rfl, ?_⟩) ?_ ?_
        rotate_left
        · intro w'
          go_simp
          with_reducible rfl
        rotate_left
        · simp only [Act.put, List.setIfInBounds_toArray, List.set_cons_zero, List.set_cons_succ, i64_w, i32_w]
          rfl
        refine pure_ (i := 22) (N := some 8) (v := ?_) (a' := ?_) #[true, true, true, true, true, true, true, true, true, true, true, true, true, true, true, true, true, true, true, true, true, true, true] rfl rfl (any_of (md := .any) (ops := opsOf Try.f8 14) F8tab14 (by kernel_rfl)) (fun _ _ _ h => h) (Or.inl ⟨by rfl, ?_⟩) ?_ ?_
        rotate_left
        · intro w'
          go_simp
          with_reducible rfl
        rotate_left
        · simp only [Act.put, List.setIfInBounds_toArray, List.set_cons_zero, List.set_cons_succ, i64_w, i32_w]
          rfl
        refine done_ (done_of (md := .any) (ops := opsOf Try.f8 14) F8tab14 (by kernel_rfl)) ?_
        clear hHeld
        go_wp2_with fail
        go_ret
        have hq2 : decide ((i : Int) + wx + ly ≤ V) = q := by rw [← HQ.out]; rfl
        refine ⟨?_, IV.out.hb⟩
        show Ending.returned (.bool _) = _
        simp only [e1, e2, hq2, beq_self_eq_true]
      · refine lit_step (m := 1) (cs := #[.int .i64 y.f0, .int .i64 y.f1, .string y.f2, .slice B y.f3.length d]) (t := 24) (by rfl) ?hrun ?_
        case hrun => first | (go_simp; done) | (go_simp; rfl)
        intro gl hg w503 hbox hb
        have BG := Aside0.mk hbox; have m1 := Aside0.mk (IV.out.step hb); have m2 := Aside0.mk (JV.out.step hb); have m3 := Aside0.mk (bc hb KM.out); clear IV JV KM hb; have IV := m1; have JV := m2; have KM := m3; clear m1 m2 m3
        clear hbox hg
        refine hK.out _ _ (S14_of IV.out JV.out KM.out) (fun hHeld => ?_)
        clear hK K
        refine norm_ (a' := ?_) ?_ ?_
        rotate_left
        · show Act.put _ (some 80) _ = _
          simp only [Act.put, List.setIfInBounds_toArray, List.set_cons_zero, List.set_cons_succ, i64_w, i32_w]
          rfl
        refine one_ (i := 11) (N := some 77) #[true, true, true, true, true, true, true, true, true, true, true, true, false, true, true, false, false, true, false, false, false, false, false] rfl rfl (one_of (md := .any) (ops := opsOf Try.f8 14) F8tab14 (by kernel_rfl)) (by decide) (fun K hK => ?_)
        refine goes_ Try.func19 (by kernel_rfl) rfl #[.agg #[.int .i64 x.f0, .int .i64 x.f1, .string x.f2, .slice A x.f3.length c]] (by rfl) rfl rfl (by (try simp only [List.map_toArray, List.map_cons, List.map_nil]); first | done | rfl) ?_
        refine (wid_of x A c _ IV.out.dx HIX.out.2.2 HIX.out.1 (mayB_own HMX.out)).mono ?_
        rintro e w504 ⟨rfl, hb⟩
        refine ⟨_, rfl, ?_⟩
        rw [HWX.out]; have m1 := Aside0.mk (IV.out.step hb); have m2 := Aside0.mk (JV.out.step hb); have m3 := Aside0.mk (bc hb KM.out); have m4 := Aside0.mk (blk_below BG.out hb); clear IV JV KM BG hb; have BG := m4; clear m4; have IV := m1; have JV := m2; have KM := m3; clear m1 m2 m3
        refine hK.out _ _ (S14_of IV.out JV.out KM.out) (fun hHeld => ?_)
        clear hK K
        refine norm_ (a' := ?_) ?_ ?_
        rotate_left
        · show Act.put _ (some 77) _ = _
          simp only [Act.put, List.setIfInBounds_toArray, List.set_cons_zero, List.set_cons_succ, i64_w, i32_w]
          rfl
        refine pure_ (i := 12) (N := some 78) (v := ?_) (a' := ?_) #[true, true, true, true, true, true, true, true, true, true, true, true, true, true, true, false, false, true, false, false, false, false, false] rfl rfl (any_of (md := .any) (ops := opsOf Try.f8 14) F8tab14 (by kernel_rfl)) (fun _ _ _ h => h) (Or.inl ⟨by rfl, ?_⟩) ?_ ?_
        rotate_left
        · intro w'
          go_simp
          with_reducible rfl
        rotate_left
        · simp only [Act.put, List.setIfInBounds_toArray, List.set_cons_zero, List.set_cons_succ, i64_w, i32_w]
          rfl
        refine one_ (i := 15) (N := some 81) #[true, true, true, true, true, true, true, true, true, true, true, true, true, true, true, true, false, true, false, false, false, false, false] rfl rfl (one_of (md := .any) (ops := opsOf Try.f8 14) F8tab14 (by kernel_rfl)) (by decide) (fun K hK => ?_)
        refine goes_ Try.func21 (by kernel_rfl) rfl #[.slice (some ⟨gl, 0, none⟩) 1 1] (by rfl) rfl rfl (by (try simp only [List.map_toArray, List.map_cons, List.map_nil]); first | done | rfl) ?_
        refine (first_of y B d gl _ BG.out JV.out.dx HIY.out.2.2 HIY.out.1 (mayB_own HMY.out)).mono ?_
        rintro e w505 ⟨rfl, hb⟩
        refine ⟨_, rfl, ?_⟩
        rw [HLY.out]; clear BG; have m1 := Aside0.mk (IV.out.step hb); have m2 := Aside0.mk (JV.out.step hb); have m3 := Aside0.mk (bc hb KM.out); clear IV JV KM hb; have IV := m1; have JV := m2; have KM := m3; clear m1 m2 m3
        refine hK.out _ _ (S14_of IV.out JV.out KM.out) (fun hHeld => ?_)
        clear hK K
        refine norm_ (a' := ?_) ?_ ?_
        rotate_left
        · show Act.put _ (some 81) _ = _
          simp only [Act.put, List.setIfInBounds_toArray, List.set_cons_zero, List.set_cons_succ, i64_w, i32_w]
          rfl
        refine pure_ (i := 16) (N := some 82) (v := ?_) (a' := ?_) #[true, true, true, true, true, true, true, true, true, true, true, true, true, true, true, true, true, true, false, false, false, false, false] rfl rfl (any_of (md := .any) (ops := opsOf Try.f8 14) F8tab14 (by kernel_rfl)) (fun _ _ _ h => h) (Or.inl ⟨by rfl, ?_⟩) ?_ ?_
        rotate_left
        · intro w'
          go_simp
          with_reducible rfl
        rotate_left
        · simp only [Act.put, List.setIfInBounds_toArray, List.set_cons_zero, List.set_cons_succ, i64_w, i32_w]
          rfl
        refine pure_ (i := 18) (N := some 84) (v := ?_) (a' := ?_) #[true, true, true, true, true, true, true, true, true, true, true, true, true, true, true, true, true, true, true, false, false, false, false] rfl rfl (any_of (md := .any) (ops := opsOf Try.f8 14) F8tab14 (by kernel_rfl)) (fun _ _ _ h => h) (Or.inl ⟨by rfl, ?_⟩) ?_ ?_
        rotate_left
        · intro w'
          go_simp
          with_reducible rfl
        rotate_left
        · simp only [Act.put, List.setIfInBounds_toArray, List.set_cons_zero, List.set_cons_succ, i64_w, i32_w]
          rfl
        refine pure_ (i := 19) (N := some 85) (v := ?_) (a' := ?_) #[true, true, true, true, true, true, true, true, true, true, true, true, true, true, true, true, true, true, true, true, false, false, false] rfl rfl (any_of (md := .any) (ops := opsOf Try.f8 14) F8tab14 (by kernel_rfl)) (fun _ _ _ h => h) (Or.inl ⟨by rfl, ?_⟩) ?_ ?_
        rotate_left
        · intro w'
          go_simp
          with_reducible rfl
        rotate_left
        · simp only [Act.put, List.setIfInBounds_toArray, List.set_cons_zero, List.set_cons_succ, i64_w, i32_w]
          rfl
        refine pure_ (i := 20) (N := some 86) (v := ?_) (a' := ?_) #[true, true, true, true, true, true, true, true, true, true, true, true, true, true, true, true, true, true, true, true, true, false, false] rfl rfl (any_of (md := .any) (ops := opsOf Try.f8 14) F8tab14 (by kernel_rfl)) (fun _ _ _ h => h) (Or.inl ⟨by rfl, ?_⟩) ?_ ?_
        rotate_left
        · intro w'
          go_simp
          with_reducible rfl
        rotate_left
        · simp only [Act.put, List.setIfInBounds_toArray, List.set_cons_zero, List.set_cons_succ, i64_w, i32_w]
          rfl
        refine pure_ (i := 21) (N := some 87) (v := ?_) (a' := ?_) #[true, true, true, true, true, true, true, true, true, true, true, true, true, true, true, true, true, true, true, true, true, true, false] rfl rfl (any_of (md := .any) (ops := opsOf Try.f8 14) F8tab14 (by kernel_rfl)) (fun _ _ _ h => h) (Or.inl ⟨by rfl, ?_⟩) ?_ ?_
        rotate_left
        · intro w'
          go_simp
          with_reducible rfl
        rotate_left
        · simp only [Act.put, List.setIfInBounds_toArray, List.set_cons_zero, List.set_cons_succ, i64_w, i32_w]
          rfl
        refine pure_ (i := 22) (N := some 8) (v := ?_) (a' := ?_) #[true, true, true, true, true, true, true, true, true, true, true, true, true, true, true, true, true, true, true, true, true, true, true] rfl rfl (any_of (md := .any) (ops := opsOf Try.f8 14) F8tab14 (by kernel_rfl)) (fun _ _ _ h => h) (Or.inl ⟨by rfl, ?_⟩) ?_ ?_
        rotate_left
        · intro w'
          go_simp
          with_reducible rfl
        rotate_left
        · simp only [Act.put, List.setIfInBounds_toArray, List.set_cons_zero, List.set_cons_succ, i64_w, i32_w]
          rfl
        refine done_ (done_of (md := .any) (ops := opsOf Try.f8 14) F8tab14 (by kernel_rfl)) ?_
        clear hHeld
        go_wp2_with fail
        go_ret
        have hq2 : decide ((i : Int) + wx + ly ≤ V) = q := by rw [← HQ.out]; rfl
        refine ⟨?_, IV.out.hb⟩
        show Ending.returned (.bool _) = _
        simp only [e1, e2, hq2, beq_self_eq_true]
theorem RenderFits_walk (x : S24) (A : Option Addr) (c : Nat) (hx : Dc w x A c) (y : S24) (B : Option Addr) (d : Nat) (hy : Dc w y B d) (wd : Int) (hn : (Lit.int .i64 wd).wf = true) (ah : Int) (hn2 : (Lit.int .i64 ah).wf = true) : Calls Try.prog 8 #[.agg #[.int .i64 x.f0, .int .i64 x.f1, .string x.f2, .slice A x.f3.length c], .agg #[.int .i64 y.f0, .int .i64 y.f1, .string y.f2, .slice B y.f3.length d], .int .i64 wd, .int .i64 ah] w fun e w' => e = .returned (.bool true) ∧ Below w.heap.size w w' := by
  show FitsAt w x A c y B d wd ah
  cases hf : decide (fewD x 60 ≤ 500)
  · exact fits_few1 hx hy hf
  cases hf2 : decide (fewD y 60 ≤ 500)
  · exact fits_few2 hx hy hf hf2
  cases hm : mayB x
  · exact fits_may1 hx hy hf hf2 hm
  cases hm2 : mayB y
  · exact fits_may2 hx hy hf hf2 hm hm2
  cases hfc : frcB x
  · exact fits_main_false hx hy hf hf2 hm hm2 hfc
  · exact fits_main_true hx hy hf hf2 hm hm2 hfc
end
end Go.Proofs.Ytigihiggpfjbjaa.PR
