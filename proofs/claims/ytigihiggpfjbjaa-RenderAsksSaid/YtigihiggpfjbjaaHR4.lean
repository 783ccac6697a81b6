/- The document's R: Run and Render. -/
import Derived.Test.YtigihiggpfjbjaaHR3
namespace Go.Proofs.Ytigihiggpfjbjaa.PR
open Go.RowKit Go.Proofs.YtigihiggpfjbjaaW.PrintWords Go.Proofs.YtigihiggpfjbjaaW.PrintLast Go.Proofs.YtigihiggpfjbjaaW.PrintMore
set_option linter.unusedVariables false
set_option linter.unusedSimpArgs false
/-- A row of one, just made. -/
theorem R_one6 {w : World} {g B : Nat} {cs : List Value} (hb : w.heap[g]? = some (.cells cs.toArray 60 (0, 0))) (hl : cs.length = 6) (h1 : ∀ u ∈ cs, u.oneCell' = true) (hB : B ≤ g) : (Kd.raw 6).R 60 w B (fun k => B ≤ k) (.slice (some ⟨g, 0, none⟩) 1 1) [cs] := by
  refine ⟨fun k hk => by cases hk; exact hB, cs, ⟨by simp [hl, Kd.raw], Or.inr ⟨g, 1, cs.toArray, rfl, hB, hb, Nat.le_refl _, by decide, by simp [hl, Kd.raw], ?_⟩⟩, by simp [hl, Kd.raw], fun j p hj => ?_⟩
  · show cs.take (1 * 6) = cs
    rw [List.take_of_length_le (by omega)]
  · have hj0 : j = 0 := by have := (List.getElem?_eq_some_iff.1 hj).1; simp at this; exact this
    subst hj0
    obtain rfl : cs = p := by simpa using hj
    have e : (cs.drop (0 * 6)).take 6 = cs := by simp [hl, List.take_of_length_le]
    show (Kd.raw 6).M w B _ cs ((cs.drop (0 * 6)).take 6)
    rw [e]
    exact ⟨rfl, hl, h1⟩
theorem takeP_sub (wd : Int) (x : S24) (n : Int) (f : Bool) (fr : Int) (S : St) : (takeP wd x n f fr S).2.1 = [] ∨ (takeP wd x n f fr S).2.1 = x.f3 := by
  unfold takeP
  repeat' split
  all_goals simp
theorem few_child {x : S24} {n : Nat} (h : cnt x ≤ n) : ∀ y ∈ x.f3, cnt y ≤ n := fun y hy => by
  obtain ⟨i, hi, rfl⟩ := List.mem_iff_getElem.1 hy
  exact Nat.le_trans (Nat.le_of_lt (cnt_lt x i hi)) h
/-- What is behind a step is well again. -/
theorem next_ok {wD : World} {wd : Int} {S : St} {its K : List Ir} {it : Ir} {fr : Int} (hi : ∀ r ∈ its ++ [it], OkI wD r) (hK : ComeR wD K (takeP wd it.x it.n it.f fr S).2.1 (takeP wd it.x it.n it.f fr S).2.2.1 (takeP wd it.x it.n it.f fr S).2.2.2) : ∀ r ∈ its ++ K.reverse, OkI wD r := fun r hr => by
  rcases List.mem_append.1 hr with hr | hr
  · exact hi r (List.mem_append.2 (Or.inl hr))
  · have hr := List.mem_reverse.1 hr
    have ho := hi it (by simp)
    have hm : r.x ∈ it.x.f3 := by
      have h1 : r.x ∈ (takeP wd it.x it.n it.f fr S).2.1 := by rw [← hK.1]; exact List.mem_map_of_mem hr
      rcases takeP_sub wd it.x it.n it.f fr S with h2 | h2
      · rw [h2] at h1; cases h1
      · rw [h2] at h1; exact h1
    exact ⟨(hK.2 r hr).2.2, finDL_mem _ ((finD_eq _).1 ho.fin).2.2 _ hm, allOwnL_get _ (allOwn_own ho.own).2 _ hm, few_child ho.few _ hm⟩
theorem next_good {wD : World} {d : Nat} {wd : Int} {S : St} {its K : List Ir} {it : Ir} {fr : Int} (hg : Good d ((its ++ [it]).map Ir.it) S) (hK : ComeR wD K (takeP wd it.x it.n it.f fr S).2.1 (takeP wd it.x it.n it.f fr S).2.2.1 (takeP wd it.x it.n it.f fr S).2.2.2) : Good (d + 1) ((its ++ K.reverse).map Ir.it) (takeP wd it.x it.n it.f fr S).1 := by
  rw [List.map_append] at hg
  have e : (its ++ K.reverse).map Ir.it = its.map Ir.it ++ (K.map Ir.it).reverse := by rw [List.map_append, List.map_reverse]
  rw [e]
  refine good_take (it := it.it) (fr := fr) hg ?_ (fun k hk => ?_)
  · rw [List.map_map]
    exact hK.1
  · obtain ⟨r, hr, rfl⟩ := List.mem_map.1 hk
    exact ⟨(hK.2 r hr).1, (hK.2 r hr).2.1⟩
theorem next_run {wD : World} {wd : Int} {S : St} {its K : List Ir} {it : Ir} (hK : ComeR wD K (takeP wd it.x it.n it.f (frV (its.reverse.map Ir.it)) S).2.1 (takeP wd it.x it.n it.f (frV (its.reverse.map Ir.it)) S).2.2.1 (takeP wd it.x it.n it.f (frV (its.reverse.map Ir.it)) S).2.2.2) : runIt wd ((its ++ K.reverse).reverse.map Ir.it) (takeP wd it.x it.n it.f (frV (its.reverse.map Ir.it)) S).1 = runIt wd ((its ++ [it]).reverse.map Ir.it) S := by
  have e : (its ++ K.reverse).reverse.map Ir.it = K.map Ir.it ++ its.reverse.map Ir.it := by simp
  have e2 : (its ++ [it]).reverse.map Ir.it = it.it :: its.reverse.map Ir.it := by simp
  rw [e, e2]
  refine runIt_take wd it.it (its.reverse.map Ir.it) (K.map Ir.it) S ?_ (fun k hk => ?_)
  · rw [List.map_map]
    exact hK.1
  · obtain ⟨r, hr, rfl⟩ := List.mem_map.1 hk
    exact ⟨(hK.2 r hr).1, (hK.2 r hr).2.1⟩
theorem next_cnt {wD : World} {wd : Int} {S : St} {its K : List Ir} {it : Ir} {fr : Int} (hK : ComeR wD K (takeP wd it.x it.n it.f fr S).2.1 (takeP wd it.x it.n it.f fr S).2.2.1 (takeP wd it.x it.n it.f fr S).2.2.2) : cntI ((its ++ K.reverse).map Ir.it) < cntI ((its ++ [it]).map Ir.it) := by
  have h2 := take_cnt wd it.x it.n it.f fr S
  have h3 : cntI (K.map Ir.it) = cntL (takeP wd it.x it.n it.f fr S).2.1 := by rw [cntI_map, List.map_map, ← hK.1]; rfl
  rw [List.map_append, List.map_append, cntI_append, cntI_append, List.map_reverse, cntI_reverse, h3]
  simp only [List.map_cons, List.map_nil, cntI]
  have e : it.it.x = it.x := rfl
  rw [e]
  omega
def RunAt (x : S24) (A3 : Option Addr) (c3 : Nat) (wd : Int) (w : World) : Prop :=
  Calls Try.prog 14 #[.agg #[.int .i64 x.f0, .int .i64 x.f1, .string x.f2, .slice A3 x.f3.length c3], .int .i64 wd] w fun e w' => ∃ gw B, e = .returned (.pointer (some ⟨gw, 0, none⟩)) ∧ RS w' B gw wd (renS x wd) [] ∧ w.heap.size ≤ B ∧ Below w.heap.size w w'
section
variable {w : World} {x : S24} {A3 : Option Addr} {c3 : Nat} {wd : Int}
set_option maxHeartbeats 4000000 in
set_option maxRecDepth 100000 in
theorem run_calls (hx : Dc w x A3 c3) (hf : finD x) (hc : cnt x ≤ 500) (ho : allOwn x = true) : RunAt x A3 c3 wd w := by
  have hu24 := Try.underlying24
  have hu37 := Try.underlying37
  have hu34 := Try.underlying34
  have hu60 := Try.underlying60
  have HX := Aside0.mk hx
  have HF := Aside0.mk hf
  have HC := Aside0.mk hc
  have HO := Aside0.mk ho
  clear hx hf hc ho
  unfold RunAt
  go_enter Try.func14, Try.ntmps14
  go_wp2_with (first | ((with_reducible refine gate_dst (N := 2) rfl ?_); (try (refine gate_guard (by rfl) ?_; dsimp only)); refine box_event ?hg (N := 2) ?hd (cs := #[.int .i64 x.f0, .int .i64 x.f1, .string x.f2, .slice A3 x.f3.length c3]) (t := 24) ?hr ?_; (case hd => rfl); (case hg => rfl); (case hr => first | (go_simp; done) | (go_simp; rfl)); intro gb hg wD hbox hb; have HB := Aside0.mk hb; have HD := Aside0.mk (Below.refl wD.heap.size wD); have HX1 := Aside0.mk (HX.out.below hb); have z0 : wD.cell? ⟨gb, 0, none⟩ = some (.int .i64 x.f0) := (blk_cell hbox 0).trans rfl; have z1 : wD.cell? ⟨gb, 1, none⟩ = some (.int .i64 x.f1) := (blk_cell hbox 1).trans rfl; have z2 : wD.cell? ⟨gb, 2, none⟩ = some (.string x.f2) := (blk_cell hbox 2).trans rfl; have z3 : wD.cell? ⟨gb, 3, none⟩ = some (.slice A3 x.f3.length c3) := (blk_cell hbox 3).trans rfl; clear hb hbox hg) | ((with_reducible refine gate_dst (N := 9) rfl ?_); refine lit_event ?hg (N := 9) ?hd (m := 1) (cs := #[.int .i64 x.f0, .int .i64 x.f1, .string x.f2, .slice A3 x.f3.length c3, .int .i64 0, .bool false]) (t := 60) ?hr ?_; (case hd => rfl); (case hg => rfl); (case hr => first | (go_simp; done) | (go_simp; rfl)); intro gl hg w2 hbox hb; have HL := Aside0.mk (R_one6 (B := wD.heap.size) (cs := [.int .i64 x.f0, .int .i64 x.f1, .string x.f2, .slice A3 x.f3.length c3, .int .i64 0, .bool false]) hbox rfl (by simp [Value.oneCell']) (by rw [hg]; exact Nat.le_refl _)); have n0 := Aside0.mk hb; clear HD hbox hb hg z0 z1 z2 z3; have HD := n0; clear n0) | ((with_reducible refine gate_dst (N := 11) rfl ?_); (try (refine gate_guard (by rfl) ?_; dsimp only)); refine box_event ?hg (N := 11) ?hd (cs := #[.int .i64 wd, .slice (some ⟨gl, 0, none⟩) 1 1, .slice none 0 0, .int .i64 0, .int .i64 0, .slice none 0 0]) (t := 37) ?hr ?_; (case hd => rfl); (case hg => rfl); (case hr => first | (go_simp; done) | (go_simp; rfl)); intro gw hg w3 hbox hb; have HW := Aside0.mk (show RS w3 wD.heap.size gw wd S00 [⟨x, A3, c3, 0, false⟩] from ⟨.slice (some ⟨gl, 0, none⟩) 1 1, .slice none 0 0, .slice none 0 0, ⟨hbox, own_nil _ _ _ _, Kd.R_below HL.out hb, own_nil _ _ _ _, by rw [hg]; exact HD.out.size⟩⟩); have n0 := Aside0.mk (HD.out.trans (hb.mono HD.out.size)); clear HD HL hbox hb hg; have HD := n0; clear n0))
  have HI := Aside0.mk (show OkI wD ⟨x, A3, c3, 0, false⟩ from ⟨HX1.out, HF.out, HO.out, HC.out⟩)
  go_loopg [] (cnt x) (fun k' wr => ∃ (its : List Ir) (S : St) (d : Nat), Aside0 (k' = cntI (its.map Ir.it)) ∧ Aside0 (RS wr wD.heap.size gw wd S its) ∧ Aside0 (Good d (its.map Ir.it) S) ∧ Aside0 (∀ r ∈ its, OkI wD r) ∧ Aside0 (runIt wd (its.reverse.map Ir.it) S = renS x wd) ∧ Aside0 (Below wD.heap.size wD wr))
  case atStart => exact ⟨[⟨x, A3, c3, 0, false⟩], S00, 0, ⟨by simp [cntI, Ir.it]⟩, HW, ⟨⟨fun it hi => by rw [List.mem_singleton.1 hi]; exact ⟨HF.out, HO.out, Int.le_refl _, by show (0 : Int) ≤ 1000 * ((0 : Nat) : Int); decide⟩, by simp only [List.map_cons, List.map_nil, cntI, Ir.it]; have := HC.out; omega, by decide, by decide, by decide, by decide, by decide⟩⟩, ⟨fun r hr => by rw [List.mem_singleton.1 hr]; exact HI.out⟩, ⟨rfl⟩, HD⟩
  case round =>
    clear HD HW HI
    obtain ⟨its, S, d, HKK, HW, HG, HI, HR, HD⟩ := hrel
    rcases List.eq_nil_or_concat its with rfl | ⟨its0, it, rfl⟩
    · obtain ⟨A5, k5, q1⟩ := HW.out.len
      go_wp2_with fail
      go_ret
      exact ⟨gw, wD.heap.size, rfl, (show renS x wd = S from HR.out.symm) ▸ HW.out, HB.out.size, below_step HB.out HD.out⟩
    · rw [List.concat_eq_append] at HKK HW HG HI HR
      have HL := Aside0.mk (show (its0 ++ [it]).length = its0.length + 1 by simp)
      obtain ⟨A5, k5, q1⟩ := HW.out.len
      rw [HL.out] at q1
      obtain ⟨n0, hn0⟩ : ∃ n, its0.length = n := ⟨_, rfl⟩
      rw [hn0] at q1
      have HN := Aside0.mk hn0
      clear hn0
      go_wp2_with (first | ((with_reducible refine gate_dst (N := 19) rfl ?_); refine goesL_ (some 19) rfl rfl Try.func25 (by kernel_rfl) rfl #[.pointer (some ⟨gw, 0, none⟩)] rfl (by (try simp only [List.map_toArray, List.map_cons, List.map_nil]); first | done | rfl) ?_; (refine (step_calls HD.out HW.out HI.out HG.out).mono ?_); (rintro e w119 ⟨rfl, ⟨K_, hk, hr⟩, hb⟩; refine ⟨_, rfl, ?_⟩; have HK := Aside0.mk hk; have HW9 := Aside0.mk hr; clear HD HW q1 hk hr; have HD := Aside0.mk hb; clear hb)))
      go_roundg (cntI ((its0 ++ K_.reverse).map Ir.it))
      case measure => have h1 := HKK.out; have h2 := next_cnt (its := its0) HK.out; omega
      case rel => exact ⟨its0 ++ K_.reverse, _, d + 1, ⟨rfl⟩, HW9, ⟨next_good HG.out HK.out⟩, ⟨next_ok HI.out HK.out⟩, ⟨(next_run HK.out).trans HR.out⟩, HD⟩
set_option maxHeartbeats 4000000 in
set_option maxRecDepth 100000 in
theorem rr_bad (hx : Dc w x A3 c3) (hf : finD x) (hc : cnt x ≤ 500) (hd : dep x ≤ 60) (hm : mayB x = false) : Calls Try.prog 12 #[.agg #[.int .i64 x.f0, .int .i64 x.f1, .string x.f2, .slice A3 x.f3.length c3], .int .i64 wd] w fun e w' => e = .returned (.tuple #[.string ⟨#[]⟩, .int .i64 1]) ∧ Below w.heap.size w w' := by
  have hu24 := Try.underlying24
  have hu37 := Try.underlying37
  have HX := Aside0.mk hx
  have HF := Aside0.mk hf
  have HC := Aside0.mk hc
  have HDP := Aside0.mk hd
  have HM := Aside0.mk hm
  clear hx hf hc hd hm
  go_enter Try.func12, Try.ntmps12
  go_wp2_with (first | ((with_reducible refine gate_dst (N := 2) rfl ?_); (try (refine gate_guard (by rfl) ?_; dsimp only)); refine box_event ?hg (N := 2) ?hd (cs := #[.int .i64 x.f0, .int .i64 x.f1, .string x.f2, .slice A3 x.f3.length c3]) (t := 24) ?hr ?_; (case hd => rfl); (case hg => rfl); (case hr => first | (go_simp; done) | (go_simp; rfl)); intro gb hg w1 hbox hb; have HB := Aside0.mk hb; have BX := Aside0.mk hbox; have HX1 := Aside0.mk (HX.out.below hb); have z0 : w1.cell? ⟨gb, 0, none⟩ = some (.int .i64 x.f0) := (blk_cell hbox 0).trans rfl; have z1 : w1.cell? ⟨gb, 1, none⟩ = some (.int .i64 x.f1) := (blk_cell hbox 1).trans rfl; have z2 : w1.cell? ⟨gb, 2, none⟩ = some (.string x.f2) := (blk_cell hbox 2).trans rfl; have z3 : w1.cell? ⟨gb, 3, none⟩ = some (.slice A3 x.f3.length c3) := (blk_cell hbox 3).trans rfl; clear hb hbox hg) | ((with_reducible refine gate_dst (N := 7) rfl ?_); refine goesL_ (some 7) rfl rfl Try.func15 (by kernel_rfl) rfl #[.agg #[.int .i64 x.f0, .int .i64 x.f1, .string x.f2, .slice A3 x.f3.length c3]] rfl (by (try simp only [List.map_toArray, List.map_cons, List.map_nil]); first | done | rfl) ?_; (refine (may_of x A3 c3 false _ HX1.out HF.out HC.out HDP.out HM.out).mono ?_); (rintro e w107 ⟨rfl, hb⟩; refine ⟨_, rfl, ?_⟩; have n0 := Aside0.mk (below_step HB.out hb); have n1 := Aside0.mk (blk_below BX.out hb); have n2 := Aside0.mk (HX1.out.below hb); clear HB BX HX1 z0 z1 z2 z3 hb; have HB := n0; have BX := n1; have HX1 := n2; clear n0 n1 n2; have z0 : w107.cell? ⟨gb, 0, none⟩ = some (.int .i64 x.f0) := (blk_cell BX.out 0).trans rfl; have z1 : w107.cell? ⟨gb, 1, none⟩ = some (.int .i64 x.f1) := (blk_cell BX.out 1).trans rfl; have z2 : w107.cell? ⟨gb, 2, none⟩ = some (.string x.f2) := (blk_cell BX.out 2).trans rfl; have z3 : w107.cell? ⟨gb, 3, none⟩ = some (.slice A3 x.f3.length c3) := (blk_cell BX.out 3).trans rfl)))
  go_ret2
  exact ⟨rfl, HB.out⟩
set_option maxHeartbeats 4000000 in
set_option maxRecDepth 100000 in
theorem rr_low (hx : Dc w x A3 c3) (hf : finD x) (hc : cnt x ≤ 500) (hd : dep x ≤ 60) (hm : mayB x = true) (h1 : wd < 1) : Calls Try.prog 12 #[.agg #[.int .i64 x.f0, .int .i64 x.f1, .string x.f2, .slice A3 x.f3.length c3], .int .i64 wd] w fun e w' => e = .returned (.tuple #[.string ⟨#[]⟩, .int .i64 1]) ∧ Below w.heap.size w w' := by
  have hu24 := Try.underlying24
  have hu37 := Try.underlying37
  have HX := Aside0.mk hx
  have HF := Aside0.mk hf
  have HC := Aside0.mk hc
  have HDP := Aside0.mk hd
  have HM := Aside0.mk hm
  have h1b : decide (wd < 1) = true := decide_eq_true h1
  clear h1
  clear hx hf hc hd hm
  go_enter Try.func12, Try.ntmps12
  go_wp2_with (first | ((with_reducible refine gate_dst (N := 2) rfl ?_); (try (refine gate_guard (by rfl) ?_; dsimp only)); refine box_event ?hg (N := 2) ?hd (cs := #[.int .i64 x.f0, .int .i64 x.f1, .string x.f2, .slice A3 x.f3.length c3]) (t := 24) ?hr ?_; (case hd => rfl); (case hg => rfl); (case hr => first | (go_simp; done) | (go_simp; rfl)); intro gb hg w1 hbox hb; have HB := Aside0.mk hb; have BX := Aside0.mk hbox; have HX1 := Aside0.mk (HX.out.below hb); have z0 : w1.cell? ⟨gb, 0, none⟩ = some (.int .i64 x.f0) := (blk_cell hbox 0).trans rfl; have z1 : w1.cell? ⟨gb, 1, none⟩ = some (.int .i64 x.f1) := (blk_cell hbox 1).trans rfl; have z2 : w1.cell? ⟨gb, 2, none⟩ = some (.string x.f2) := (blk_cell hbox 2).trans rfl; have z3 : w1.cell? ⟨gb, 3, none⟩ = some (.slice A3 x.f3.length c3) := (blk_cell hbox 3).trans rfl; clear hb hbox hg) | ((with_reducible refine gate_dst (N := 7) rfl ?_); refine goesL_ (some 7) rfl rfl Try.func15 (by kernel_rfl) rfl #[.agg #[.int .i64 x.f0, .int .i64 x.f1, .string x.f2, .slice A3 x.f3.length c3]] rfl (by (try simp only [List.map_toArray, List.map_cons, List.map_nil]); first | done | rfl) ?_; (refine (may_of x A3 c3 true _ HX1.out HF.out HC.out HDP.out HM.out).mono ?_); (rintro e w107 ⟨rfl, hb⟩; refine ⟨_, rfl, ?_⟩; have n0 := Aside0.mk (below_step HB.out hb); have n1 := Aside0.mk (blk_below BX.out hb); have n2 := Aside0.mk (HX1.out.below hb); clear HB BX HX1 z0 z1 z2 z3 hb; have HB := n0; have BX := n1; have HX1 := n2; clear n0 n1 n2; have z0 : w107.cell? ⟨gb, 0, none⟩ = some (.int .i64 x.f0) := (blk_cell BX.out 0).trans rfl; have z1 : w107.cell? ⟨gb, 1, none⟩ = some (.int .i64 x.f1) := (blk_cell BX.out 1).trans rfl; have z2 : w107.cell? ⟨gb, 2, none⟩ = some (.string x.f2) := (blk_cell BX.out 2).trans rfl; have z3 : w107.cell? ⟨gb, 3, none⟩ = some (.slice A3 x.f3.length c3) := (blk_cell BX.out 3).trans rfl)))
  go_ret2
  exact ⟨rfl, HB.out⟩
set_option maxHeartbeats 4000000 in
set_option maxRecDepth 100000 in
theorem rr_high (hx : Dc w x A3 c3) (hf : finD x) (hc : cnt x ≤ 500) (hd : dep x ≤ 60) (hm : mayB x = true) (h1 : 10000 < wd) : Calls Try.prog 12 #[.agg #[.int .i64 x.f0, .int .i64 x.f1, .string x.f2, .slice A3 x.f3.length c3], .int .i64 wd] w fun e w' => e = .returned (.tuple #[.string ⟨#[]⟩, .int .i64 1]) ∧ Below w.heap.size w w' := by
  have hu24 := Try.underlying24
  have hu37 := Try.underlying37
  have HX := Aside0.mk hx
  have HF := Aside0.mk hf
  have HC := Aside0.mk hc
  have HDP := Aside0.mk hd
  have HM := Aside0.mk hm
  have h1b : decide (wd < 1) = false := decide_eq_false (by omega)
  have h2b : decide (10000 < wd) = true := decide_eq_true h1
  clear h1
  clear hx hf hc hd hm
  go_enter Try.func12, Try.ntmps12
  go_wp2_with (first | ((with_reducible refine gate_dst (N := 2) rfl ?_); (try (refine gate_guard (by rfl) ?_; dsimp only)); refine box_event ?hg (N := 2) ?hd (cs := #[.int .i64 x.f0, .int .i64 x.f1, .string x.f2, .slice A3 x.f3.length c3]) (t := 24) ?hr ?_; (case hd => rfl); (case hg => rfl); (case hr => first | (go_simp; done) | (go_simp; rfl)); intro gb hg w1 hbox hb; have HB := Aside0.mk hb; have BX := Aside0.mk hbox; have HX1 := Aside0.mk (HX.out.below hb); have z0 : w1.cell? ⟨gb, 0, none⟩ = some (.int .i64 x.f0) := (blk_cell hbox 0).trans rfl; have z1 : w1.cell? ⟨gb, 1, none⟩ = some (.int .i64 x.f1) := (blk_cell hbox 1).trans rfl; have z2 : w1.cell? ⟨gb, 2, none⟩ = some (.string x.f2) := (blk_cell hbox 2).trans rfl; have z3 : w1.cell? ⟨gb, 3, none⟩ = some (.slice A3 x.f3.length c3) := (blk_cell hbox 3).trans rfl; clear hb hbox hg) | ((with_reducible refine gate_dst (N := 7) rfl ?_); refine goesL_ (some 7) rfl rfl Try.func15 (by kernel_rfl) rfl #[.agg #[.int .i64 x.f0, .int .i64 x.f1, .string x.f2, .slice A3 x.f3.length c3]] rfl (by (try simp only [List.map_toArray, List.map_cons, List.map_nil]); first | done | rfl) ?_; (refine (may_of x A3 c3 true _ HX1.out HF.out HC.out HDP.out HM.out).mono ?_); (rintro e w107 ⟨rfl, hb⟩; refine ⟨_, rfl, ?_⟩; have n0 := Aside0.mk (below_step HB.out hb); have n1 := Aside0.mk (blk_below BX.out hb); have n2 := Aside0.mk (HX1.out.below hb); clear HB BX HX1 z0 z1 z2 z3 hb; have HB := n0; have BX := n1; have HX1 := n2; clear n0 n1 n2; have z0 : w107.cell? ⟨gb, 0, none⟩ = some (.int .i64 x.f0) := (blk_cell BX.out 0).trans rfl; have z1 : w107.cell? ⟨gb, 1, none⟩ = some (.int .i64 x.f1) := (blk_cell BX.out 1).trans rfl; have z2 : w107.cell? ⟨gb, 2, none⟩ = some (.string x.f2) := (blk_cell BX.out 2).trans rfl; have z3 : w107.cell? ⟨gb, 3, none⟩ = some (.slice A3 x.f3.length c3) := (blk_cell BX.out 3).trans rfl)))
  go_ret2
  exact ⟨rfl, HB.out⟩
set_option maxHeartbeats 4000000 in
set_option maxRecDepth 100000 in
theorem rr_good (hx : Dc w x A3 c3) (hf : finD x) (hc : cnt x ≤ 500) (hd : dep x ≤ 60) (hm : mayB x = true) (h1 : 1 ≤ wd ∧ wd ≤ 10000) : Calls Try.prog 12 #[.agg #[.int .i64 x.f0, .int .i64 x.f1, .string x.f2, .slice A3 x.f3.length c3], .int .i64 wd] w fun e w' => e = .returned (.tuple #[.string (strOf (renS x wd).out), .int .i64 0]) ∧ Below w.heap.size w w' := by
  have hu24 := Try.underlying24
  have hu37 := Try.underlying37
  have HX := Aside0.mk hx
  have HF := Aside0.mk hf
  have HC := Aside0.mk hc
  have HDP := Aside0.mk hd
  have HM := Aside0.mk hm
  have h1b : decide (wd < 1) = false := decide_eq_false (by omega)
  have h2b : decide (10000 < wd) = false := decide_eq_false (by omega)
  clear h1
  clear hx hf hc hd hm
  go_enter Try.func12, Try.ntmps12
  go_wp2_with (first | ((with_reducible refine gate_dst (N := 2) rfl ?_); (try (refine gate_guard (by rfl) ?_; dsimp only)); refine box_event ?hg (N := 2) ?hd (cs := #[.int .i64 x.f0, .int .i64 x.f1, .string x.f2, .slice A3 x.f3.length c3]) (t := 24) ?hr ?_; (case hd => rfl); (case hg => rfl); (case hr => first | (go_simp; done) | (go_simp; rfl)); intro gb hg w1 hbox hb; have HB := Aside0.mk hb; have BX := Aside0.mk hbox; have HX1 := Aside0.mk (HX.out.below hb); have z0 : w1.cell? ⟨gb, 0, none⟩ = some (.int .i64 x.f0) := (blk_cell hbox 0).trans rfl; have z1 : w1.cell? ⟨gb, 1, none⟩ = some (.int .i64 x.f1) := (blk_cell hbox 1).trans rfl; have z2 : w1.cell? ⟨gb, 2, none⟩ = some (.string x.f2) := (blk_cell hbox 2).trans rfl; have z3 : w1.cell? ⟨gb, 3, none⟩ = some (.slice A3 x.f3.length c3) := (blk_cell hbox 3).trans rfl; clear hb hbox hg) | ((with_reducible refine gate_dst (N := 7) rfl ?_); refine goesL_ (some 7) rfl rfl Try.func15 (by kernel_rfl) rfl #[.agg #[.int .i64 x.f0, .int .i64 x.f1, .string x.f2, .slice A3 x.f3.length c3]] rfl (by (try simp only [List.map_toArray, List.map_cons, List.map_nil]); first | done | rfl) ?_; (refine (may_of x A3 c3 true _ HX1.out HF.out HC.out HDP.out HM.out).mono ?_); (rintro e w107 ⟨rfl, hb⟩; refine ⟨_, rfl, ?_⟩; have n0 := Aside0.mk (below_step HB.out hb); have n1 := Aside0.mk (blk_below BX.out hb); have n2 := Aside0.mk (HX1.out.below hb); clear HB BX HX1 z0 z1 z2 z3 hb; have HB := n0; have BX := n1; have HX1 := n2; clear n0 n1 n2; have z0 : w107.cell? ⟨gb, 0, none⟩ = some (.int .i64 x.f0) := (blk_cell BX.out 0).trans rfl; have z1 : w107.cell? ⟨gb, 1, none⟩ = some (.int .i64 x.f1) := (blk_cell BX.out 1).trans rfl; have z2 : w107.cell? ⟨gb, 2, none⟩ = some (.string x.f2) := (blk_cell BX.out 2).trans rfl; have z3 : w107.cell? ⟨gb, 3, none⟩ = some (.slice A3 x.f3.length c3) := (blk_cell BX.out 3).trans rfl)) | ((with_reducible refine gate_dst (N := 19) rfl ?_); refine goesL_ (some 19) rfl rfl Try.func14 (by kernel_rfl) rfl #[.agg #[.int .i64 x.f0, .int .i64 x.f1, .string x.f2, .slice A3 x.f3.length c3], .int .i64 wd] rfl (by (try simp only [List.map_toArray, List.map_cons, List.map_nil]); first | done | rfl) ?_; (refine (show Calls Try.prog 14 #[.agg #[.int .i64 x.f0, .int .i64 x.f1, .string x.f2, .slice A3 x.f3.length c3], .int .i64 wd] w107 _ from run_calls HX1.out HF.out HC.out (by have h := HM.out; unfold mayB at h; rw [Bool.and_eq_true, Bool.and_eq_true] at h; exact h.1.1)).mono ?_); (rintro e w119 ⟨gw, B, rfl, hr, hsz, hb⟩; refine ⟨_, rfl, ?_⟩; have n0 := Aside0.mk (below_step HB.out hb); clear HB BX HX1 z0 z1 z2 z3 hb; have HB := n0; clear n0; obtain ⟨vr, vo, vm, h0, _, _, q2, _, _, _⟩ := hr.open_; have hcv := own_string (P := Try.prog) (src := 35) (dst := 9) Try.underlying35 Try.underlying5 Try.underlying9 h0.hb; clear h0 hsz hr; obtain ⟨es, hes⟩ : ∃ s, strOfNums (renS x wd).out = s := ⟨_, rfl⟩; rw [hes] at hcv; have HES := Aside0.mk hes; clear hes)))
  go_ret2
  exact ⟨(by rw [show strOf (renS x wd).out = es from HES.out] <;> rfl), HB.out⟩
theorem rr_calls (s : ByteArray) (n : Int) (hx : Dc w x A3 c3) (hf : finD x) (hc : cnt x ≤ 500) (hd : dep x ≤ 60) (es : renT x wd = s) (en : renE x wd = n) : Calls Try.prog 12 #[.agg #[.int .i64 x.f0, .int .i64 x.f1, .string x.f2, .slice A3 x.f3.length c3], .int .i64 wd] w fun e w' => e = .returned (.tuple #[.string s, .int .i64 n]) ∧ Below w.heap.size w w' := by
  subst es en
  unfold renT renE
  by_cases h : okR x wd = true
  · rw [if_pos h, if_pos h]
    have h' := (okR_iff x wd).1 h
    exact rr_good hx hf hc hd h'.2.2 ⟨h'.1, h'.2.1⟩
  · rw [if_neg h, if_neg h]
    rw [okR_iff] at h
    cases hm : mayB x
    · exact rr_bad hx hf hc hd hm
    · by_cases h1 : wd < 1
      · exact rr_low hx hf hc hd hm h1
      · exact rr_high hx hf hc hd hm (by
          refine Int.not_le.1 (fun h2 => h ⟨by omega, h2, hm⟩))
end
end Go.Proofs.Ytigihiggpfjbjaa.PR
