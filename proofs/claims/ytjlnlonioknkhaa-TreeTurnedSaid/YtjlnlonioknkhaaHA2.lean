/- tree.Count, tree.Lits, tree.Forced come to what their plain functions say. -/
import Derived.Test.YtjlnlonioknkhaaHA1
namespace Go.Proofs.Ytjlnlonioknkhaa.PA
open Go.RowKit Go.Proofs.YtjlnlonioknkhaaW.PrintWords Go.Proofs.YtjlnlonioknkhaaW.PrintLast Go.Proofs.YtjlnlonioknkhaaW.PrintMore
set_option linter.unusedVariables false
set_option linter.unusedSimpArgs false

theorem wrap_nil : wrap64 (([] : List S26).length : Int) = 0 := by simp [wrap64]
theorem wrap64_succ (n : Int) : wrap64 (wrap64 n + 1) = wrap64 (n + 1) := by unfold wrap64; omega

theorem count1_calls (a0 : Int) (a1 : ByteArray) (A2 : Option Addr) (n2 c2 : Nat) (a3 a4 : Bool) (A5 : Option Addr) (n5 c5 : Nat) (A6 : Option Addr) (n6 c6 : Nat) (g : Nat) (n : Int) (w : World)
    (hg : w.heap[g]? = some (.cells #[.int .i64 n] 3 (0, 0))) :
    Calls Try.prog 47 #[.agg #[.int .i64 a0, .string a1, .slice A2 n2 c2, .bool a3, .bool a4, .slice A5 n5 c5, .slice A6 n6 c6], .pointer (some ⟨g, 0, none⟩)] w fun e w' => e = .returned (.tuple #[]) ∧ ∃ o, w' = (w.setCell ⟨g, 0, none⟩ (.int .i64 (wrap64 (n + 1)))).alloc o := by
  have hlt := blk_lt hg
  have hc : ∀ o, (w.alloc o).cell? ⟨g, 0, none⟩ = some (.int .i64 n) := fun o => (blk_cell (blk_alloc hg o) 0).trans rfl
  have hf : ∀ o, (w.alloc o).frozen? ⟨g, 0, none⟩ = false := fun o => blk_frozen (blk_alloc hg o) 0
  have hu26 := Try.underlying26
  go_enter Try.func47, Try.ntmps47
  go_wp2
  go_end0
  exact ⟨rfl, _, rfl⟩

set_option maxHeartbeats 2000000 in
theorem count_calls (x : S26) (A2 : Option Addr) (c2 : Nat) (A5 : Option Addr) (c5 : Nat) (A6 : Option Addr) (c6 : Nat) (w : World) (h2 : Kd.C k26 w A2 x.f2.length x.f2) :
    Calls Try.prog 19 #[.agg #[.int .i64 x.f0, .string x.f1, .slice A2 x.f2.length c2, .bool x.f3, .bool x.f4, .slice A5 x.f5.length c5, .slice A6 x.f6.length c6]] w
      fun e w' => e = .returned (.int .i64 (wrap64 (pre x).length)) ∧ Below w.heap.size w w' := by
  have hu26 := Try.underlying26
  have H2 := Aside0.mk h2
  clear h2
  go_enter Try.func19, Try.ntmps19
  go_wp2_with fail
  obtain ⟨o1, ho1⟩ : ∃ o1, o1 = (Obj.cells #[.int .i64 x.f0, .string x.f1, .slice A2 x.f2.length c2, .bool x.f3, .bool x.f4, .slice A5 x.f5.length c5, .slice A6 x.f6.length c6] 26) := ⟨_, rfl⟩
  rw [← ho1]
  have hl : (w.alloc o1).heap.size = w.heap.size + 1 := by simp
  have hb1 := (((Below.refl w.heap.size w).alloc (Nat.le_refl _) o1).alloc (by simp) (.cells #[.int .i64 0] 3))
  have hg1 := blk_new (w.alloc o1) (.cells #[.int .i64 0] 3)
  rw [hl] at hg1
  refine (walk47 (fun done w' => w'.heap[w.heap.size + 1]? = some (.cells #[.int .i64 (wrap64 done.length)] 3 (0, 0))) (w.heap.size + 1) w (pre x) ?_ (fun done w o h => blk_alloc h o) (pre x).length [] x A2 c2 A5 c5 A6 c6 _ (Nat.le_refl _) (List.prefix_refl _) H2.out hb1 (wrap_nil ▸ hg1)).mono ?_
  · intro done y B2 d2 B5 d5 B6 d6 w1 hpr hb hI
    refine (count1_calls y.f0 y.f1 B2 y.f2.length d2 y.f3 y.f4 B5 y.f5.length d5 B6 y.f6.length d6 (w.heap.size + 1) _ w1 hI).mono ?_
    rintro e w' ⟨rfl, o, rfl⟩
    refine ⟨rfl, (hb.setCell (by simp) _).alloc (by simpa [World.setCell] using hb.size) _, ((Keeps.refl _).set hI (by decide) 0 _).alloc _, ?_⟩
    have h1 := blk_alloc (blk_set hI 0 (.int .i64 (wrap64 (wrap64 (done.length : Int) + 1)))) o
    have e : wrap64 (wrap64 (done.length : Int) + 1) = wrap64 ((done ++ [y]).length : Int) := by rw [wrap64_succ]; simp
    rw [← e]
    exact h1
  · rintro e w' ⟨rfl, hb, hk, hI⟩
    have hc : w'.cell? ⟨w.heap.size + 1, 0, none⟩ = some (.int .i64 (wrap64 (pre x).length)) := (blk_cell hI 0).trans rfl
    have HBW := Aside0.mk hb
    clear hb hk hI hb1 hg1 ho1
    go_wp2_with fail
    go_ret
    exact ⟨rfl, HBW.out⟩

/-! ### literals -/
def lits (l : List S26) : List ByteArray := (l.filter (fun x => x.f0 == 1)).map (·.f1)
theorem lits_snoc_yes (l : List S26) (x : S26) (h : (x.f0 == 1) = true) : lits (l ++ [x]) = lits l ++ [x.f1] := by simp [lits, List.filter_append, List.filter_cons, h]
theorem lits_snoc_no (l : List S26) (x : S26) (h : (x.f0 == 1) = false) : lits (l ++ [x]) = lits l := by simp [lits, List.filter_append, List.filter_cons, h]
theorem lits_append (l m : List S26) : lits (l ++ m) = lits l ++ lits m := by simp [lits]

/-- The state of tree.Lits: a variable that holds a row of the call's own. -/
def LitsI (B g : Nat) (done : List S26) (w : World) : Prop := ∃ v, w.heap[g]? = some (.cells #[v] 22 (0, 0)) ∧ Kd.R Kd.string 9 w B (fun _ => True) v (lits done)
theorem LitsI.alloc {B g : Nat} {done : List S26} {w : World} (o : Obj) (h : LitsI B g done w) : LitsI B g done (w.alloc o) := by
  obtain ⟨v, hg, hr⟩ := h
  exact ⟨v, blk_alloc hg o, Kd.R_alloc hr o⟩

set_option maxHeartbeats 2000000 in
theorem lits1_calls (w0 : World) (g : Nat) (hgB : w0.heap.size ≤ g) (done : List S26) (x : S26) (A2 : Option Addr) (c2 : Nat) (A5 : Option Addr) (c5 : Nat) (A6 : Option Addr) (c6 : Nat) (w : World) (hb : Below w0.heap.size w0 w) (hI : LitsI w0.heap.size g done w) (hlen : (x.f0 == 1) = true → (lits done).length < 8796093022208) :
    Calls Try.prog 42 #[.agg #[.int .i64 x.f0, .string x.f1, .slice A2 x.f2.length c2, .bool x.f3, .bool x.f4, .slice A5 x.f5.length c5, .slice A6 x.f6.length c6], .pointer (some ⟨g, 0, none⟩)] w
      fun e w' => e = .returned (.tuple #[]) ∧ Below w0.heap.size w0 w' ∧ Keeps w w' ∧ LitsI w0.heap.size g (done ++ [x]) w' := by
  have hu26 := Try.underlying26
  cases hx : x.f0 == 1
  · have HX := Aside0.mk hx
    have HI := Aside0.mk hI
    have HB := Aside0.mk hb
    clear hI hb
    go_enter Try.func42, Try.ntmps42
    go_wp2
    go_end0
    refine ⟨rfl, HB.out.alloc HB.out.size _, (Keeps.refl _).alloc _, ?_⟩
    obtain ⟨v, hg, hr⟩ := HI.out.alloc (.cells #[.int .i64 x.f0, .string x.f1, .slice A2 x.f2.length c2, .bool x.f3, .bool x.f4, .slice A5 x.f5.length c5, .slice A6 x.f6.length c6] 26)
    exact ⟨v, hg, by rw [lits_snoc_no done x HX.out]; exact hr⟩
  · obtain ⟨v, hg, hr⟩ := hI
    have HX := Aside0.mk hx
    obtain ⟨A, c, rfl⟩ := Kd.R_slice hr
    have HG := Aside0.mk hg
    have HR := Aside0.mk hr
    have HB := Aside0.mk hb
    have HL := Aside0.mk (hlen hx)
    have HKP := Aside0.mk (Keeps.refl w)
    have HGB := Aside0.mk hgB
    clear hg hr hb hlen hgB
    go_enter Try.func42, Try.ntmps42
    go_wp2_with (first | ((with_reducible refine gate_dst (N := 2) rfl ?_); (try (refine gate_guard (by rfl) ?_; dsimp only)); refine box_event ?hg (N := 2) ?hd (cs := #[.int .i64 x.f0, .string x.f1, .slice A2 x.f2.length c2, .bool x.f3, .bool x.f4, .slice A5 x.f5.length c5, .slice A6 x.f6.length c6]) (t := 26) ?hr ?_; (case hd => rfl); (case hg => rfl); (case hr => first | (go_simp; done) | (go_simp; rfl)); intro gb hg w2 hbox hb; have HG2 := Aside0.mk (blk_below HG.out hb); have HR2 := Aside0.mk (Kd.R_below HR.out hb); have HKP2 := Aside0.mk (HKP.out.below hb); have HB2 := Aside0.mk (below_step HB.out hb); clear HG HR HKP HB; have hc2 : w2.cell? ⟨g, 0, none⟩ = some (.slice A (lits done).length c) := (blk_cell HG2.out 0).trans rfl; have hk2 : w2.cell? ⟨gb, 0, none⟩ = some (.int .i64 x.f0) := (blk_cell hbox 0).trans rfl; have hk3 : w2.cell? ⟨gb, 1, none⟩ = some (.string x.f1) := (blk_cell hbox 1).trans rfl; clear hb hbox hg) | ((with_reducible refine gate_builtin (b := .append) (xs := #[.tmp 6, .tmp 9]) rfl ?_); at_builtin; refine Kd.R_append Kd.string (w0 := w0) w0.heap.size rfl (.tmp 6) (.tmp 9) 22 9 (.string ⟨#[]⟩) 16 rfl Try.underlying22 info9 rfl (by decide) (by omega) (.slice A (lits done).length c) (lits done) x.f1 [.string x.f1] (fun _ => True) (fun _ => False) rfl rfl ?aP (fun _ hk => hk.elim) ?aF ?aO ?aB ?aS ?aL ?_; (case aP => exact rfl); (case aF => exact (fun _ _ => trivial)); (case aO => exact HR2.out); (case aB => exact HB2.out); (case aS => exact HB2.out.size); (case aL => have := HL.out; omega); intro v1 w3 ho hb hgr hat; have hg1 := blk_grown HG2.out hgr (Kd.R_ne HR2.out HG2.out (by decide)); have hc3 : w3.cell? ⟨g, 0, none⟩ = some (.slice A (lits done).length c) := (blk_cell hg1 0).trans rfl; have hf3 : w3.frozen? ⟨g, 0, none⟩ = false := blk_frozen hg1 0; obtain ⟨A1, c1, rfl⟩ := Kd.R_slice ho; have HO := Aside0.mk ho; have HB3 := Aside0.mk hb; have HGR := Aside0.mk hgr; have HG3 := Aside0.mk hg1; clear ho hb hgr hat hg1))
    go_end0
    have hr := HO.out
    refine ⟨rfl, HB3.out.setCell (by have := HGB.out; exact this) _, ?_, _, blk_set HG3.out 0 _, ?_⟩
    · refine Keeps.set ?_ HG3.out (by decide) 0 _
      refine ⟨Nat.le_trans HKP2.out.size HGR.out.size, fun i cs t ht hc => ?_⟩
      have h1 := HKP2.out.keep i cs t ht hc
      refine blk_grown h1 HGR.out (Kd.R_ne HR2.out h1 ?_)
      rcases ht with rfl | rfl <;> decide
    · rw [lits_snoc_yes done x HX.out]
      simp only [List.length_append, List.length_cons, List.length_nil, Nat.zero_add] at hr
      exact Kd.R_set hr HG3.out (by decide) 0 _

set_option maxHeartbeats 2000000 in
theorem lits_calls (x : S26) (A2 : Option Addr) (c2 : Nat) (A5 : Option Addr) (c5 : Nat) (A6 : Option Addr) (c6 : Nat) (w : World) (h2 : Kd.C k26 w A2 x.f2.length x.f2) (hlen : (lits (pre x)).length ≤ 8796093022208) :
    Calls Try.prog 12 #[.agg #[.int .i64 x.f0, .string x.f1, .slice A2 x.f2.length c2, .bool x.f3, .bool x.f4, .slice A5 x.f5.length c5, .slice A6 x.f6.length c6]] w
      fun e w' => ∃ v0_ : Value, e = .returned v0_ ∧ Kd.R Kd.string 9 w' w.heap.size (fun _ => True) v0_ (lits (pre x)) ∧ Below w.heap.size w w' := by
  have hu26 := Try.underlying26
  have H2 := Aside0.mk h2
  have HL := Aside0.mk hlen
  clear h2 hlen
  go_enter Try.func12, Try.ntmps12
  go_wp2_with fail
  obtain ⟨o1, ho1⟩ : ∃ o1, o1 = (Obj.cells #[.int .i64 x.f0, .string x.f1, .slice A2 x.f2.length c2, .bool x.f3, .bool x.f4, .slice A5 x.f5.length c5, .slice A6 x.f6.length c6] 26) := ⟨_, rfl⟩
  rw [← ho1]
  have hl : (w.alloc o1).heap.size = w.heap.size + 1 := by simp
  have hb1 := (((Below.refl w.heap.size w).alloc (Nat.le_refl _) o1).alloc (by simp) (.cells #[.slice none 0 0] 22))
  have hg1 := blk_new (w.alloc o1) (.cells #[.slice none 0 0] 22)
  rw [hl] at hg1
  refine (walk42 (fun done w' => LitsI w.heap.size (w.heap.size + 1) done w') (w.heap.size + 1) w (pre x) ?_ (fun done w o h => h.alloc o) (pre x).length [] x A2 c2 A5 c5 A6 c6 _ (Nat.le_refl _) (List.prefix_refl _) H2.out hb1 ⟨_, hg1, Kd.R_nil _ _ _ _ _⟩).mono ?_
  · intro done y B2 d2 B5 d5 B6 d6 w1 hpr hb hI
    refine lits1_calls w (w.heap.size + 1) (by omega) done y B2 d2 B5 d5 B6 d6 w1 hb hI (fun hy => ?_)
    obtain ⟨r, hr⟩ := hpr
    have := HL.out
    rw [← hr, lits_append, lits_snoc_yes done y hy] at this
    simp only [List.length_append, List.length_cons, List.length_nil] at this
    omega
  · rintro e w' ⟨rfl, hb, hk, hI⟩
    obtain ⟨v, hg, hr⟩ := hI
    obtain ⟨A, c, rfl⟩ := Kd.R_slice hr
    have hc : w'.cell? ⟨w.heap.size + 1, 0, none⟩ = some (.slice A (lits ([] ++ pre x)).length c) := (blk_cell hg 0).trans rfl
    have HBW := Aside0.mk hb
    have HR := Aside0.mk hr
    clear hb hk hb1 hg1 ho1 hr hg
    go_wp2_with fail
    go_ret
    exact ⟨_, rfl, HR.out, HBW.out⟩

/-! ### forced -/
def forced1 (x : S26) : Bool := x.f3 || decide (0 < x.f5.length) || decide (0 < x.f6.length)

set_option maxHeartbeats 4000000 in
theorem forced1_calls (a0 : Int) (a1 : ByteArray) (A2 : Option Addr) (n2 c2 : Nat) (a3 a4 : Bool) (A5 : Option Addr) (n5 c5 : Nat) (A6 : Option Addr) (n6 c6 : Nat) (g : Nat) (b : Bool) (w : World)
    (hg : w.heap[g]? = some (.cells #[.bool b] 4 (0, 0))) :
    Calls Try.prog 48 #[.agg #[.int .i64 a0, .string a1, .slice A2 n2 c2, .bool a3, .bool a4, .slice A5 n5 c5, .slice A6 n6 c6], .pointer (some ⟨g, 0, none⟩)] w fun e w' => e = .returned (.tuple #[]) ∧ ∃ o, w' = (w.setCell ⟨g, 0, none⟩ (.bool (b || (a3 || decide (0 < n5) || decide (0 < n6))))).alloc o := by
  have hlt := blk_lt hg
  have hc : ∀ o, (w.alloc o).cell? ⟨g, 0, none⟩ = some (.bool b) := fun o => (blk_cell (blk_alloc hg o) 0).trans rfl
  have hf : ∀ o, (w.alloc o).frozen? ⟨g, 0, none⟩ = false := fun o => blk_frozen (blk_alloc hg o) 0
  have hu26 := Try.underlying26
  clear hg
  cases b
  · cases a3
    · cases h5 : decide (0 < n5)
      · go_enter Try.func48, Try.ntmps48
        go_wp2
        go_end0
        exact ⟨rfl, _, rfl⟩
      · go_enter Try.func48, Try.ntmps48
        go_wp2
        go_end0
        exact ⟨rfl, _, rfl⟩
    · go_enter Try.func48, Try.ntmps48
      go_wp2
      go_end0
      exact ⟨rfl, _, rfl⟩
  · go_enter Try.func48, Try.ntmps48
    go_wp2
    go_end0
    exact ⟨rfl, _, rfl⟩

set_option maxHeartbeats 2000000 in
theorem forced_calls (x : S26) (A2 : Option Addr) (c2 : Nat) (A5 : Option Addr) (c5 : Nat) (A6 : Option Addr) (c6 : Nat) (w : World) (h2 : Kd.C k26 w A2 x.f2.length x.f2) :
    Calls Try.prog 24 #[.agg #[.int .i64 x.f0, .string x.f1, .slice A2 x.f2.length c2, .bool x.f3, .bool x.f4, .slice A5 x.f5.length c5, .slice A6 x.f6.length c6]] w
      fun e w' => e = .returned (.bool ((pre x).any forced1)) ∧ Below w.heap.size w w' := by
  have hu26 := Try.underlying26
  have H2 := Aside0.mk h2
  clear h2
  go_enter Try.func24, Try.ntmps24
  go_wp2_with fail
  obtain ⟨o1, ho1⟩ : ∃ o1, o1 = (Obj.cells #[.int .i64 x.f0, .string x.f1, .slice A2 x.f2.length c2, .bool x.f3, .bool x.f4, .slice A5 x.f5.length c5, .slice A6 x.f6.length c6] 26) := ⟨_, rfl⟩
  rw [← ho1]
  have hl : (w.alloc o1).heap.size = w.heap.size + 1 := by simp
  have hb1 := (((Below.refl w.heap.size w).alloc (Nat.le_refl _) o1).alloc (by simp) (.cells #[.bool false] 4))
  have hg1 := blk_new (w.alloc o1) (.cells #[.bool false] 4)
  rw [hl] at hg1
  refine (walk48 (fun done w' => w'.heap[w.heap.size + 1]? = some (.cells #[.bool (done.any forced1)] 4 (0, 0))) (w.heap.size + 1) w (pre x) ?_ (fun done w o h => blk_alloc h o) (pre x).length [] x A2 c2 A5 c5 A6 c6 _ (Nat.le_refl _) (List.prefix_refl _) H2.out hb1 hg1).mono ?_
  · intro done y B2 d2 B5 d5 B6 d6 w1 hpr hb hI
    refine (forced1_calls y.f0 y.f1 B2 y.f2.length d2 y.f3 y.f4 B5 y.f5.length d5 B6 y.f6.length d6 (w.heap.size + 1) _ w1 hI).mono ?_
    rintro e w' ⟨rfl, o, rfl⟩
    refine ⟨rfl, (hb.setCell (by simp) _).alloc (by simpa [World.setCell] using hb.size) _, ((Keeps.refl _).set hI (by decide) 0 _).alloc _, ?_⟩
    have e : (done ++ [y]).any forced1 = (done.any forced1 || (y.f3 || decide (0 < y.f5.length) || decide (0 < y.f6.length))) := by rw [List.any_append, List.any_cons, List.any_nil, Bool.or_false]; rfl
    rw [e]
    exact blk_alloc (blk_set hI 0 _) o
  · rintro e w' ⟨rfl, hb, hk, hI⟩
    have hc : w'.cell? ⟨w.heap.size + 1, 0, none⟩ = some (.bool ((pre x).any forced1)) := (blk_cell hI 0).trans rfl
    have HBW := Aside0.mk hb
    clear hb hk hI hb1 hg1 ho1
    go_wp2_with fail
    go_ret
    exact ⟨rfl, HBW.out⟩
end Go.Proofs.Ytjlnlonioknkhaa.PA
