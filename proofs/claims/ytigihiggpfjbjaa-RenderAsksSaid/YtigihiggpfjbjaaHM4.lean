/- Render and Modes. -/
import Derived.Test.YtigihiggpfjbjaaHM3
namespace Go.Proofs.Ytigihiggpfjbjaa.PR
open Go.RowKit Go.Proofs.YtigihiggpfjbjaaW.PrintWords Go.Proofs.YtigihiggpfjbjaaW.PrintLast Go.Proofs.YtigihiggpfjbjaaW.PrintMore
set_option linter.unusedVariables false
set_option linter.unusedSimpArgs false
def isB (l : List Int) : Prop := ∀ b ∈ l, 0 ≤ b ∧ b < 256
theorem isB_append {a b : List Int} (h1 : isB a) (h2 : isB b) : isB (a ++ b) := fun x hx => (List.mem_append.1 hx).elim (h1 x) (h2 x)
theorem isB_bytesOf (s : ByteArray) : isB (bytesOf s) := fun x hx => by
  simp only [bytesOf, List.mem_map] at hx
  obtain ⟨u, _, rfl⟩ := hx
  have := u.toNat_lt
  omega
theorem isB_rep (n : Nat) : isB (List.replicate n 32) := fun x hx => by
  obtain rfl := List.eq_of_mem_replicate hx
  omega
theorem textP_isB (s : ByteArray) (n : Int) (S : St) (h : isB S.out) : isB (textP s n S).out := by
  unfold textP
  split
  · exact h
  · exact isB_append (isB_append h (isB_rep _)) (isB_bytesOf s)
theorem lineP_isB (n : Int) (S : St) (h : isB S.out) : isB (lineP n S).out := isB_append h (fun x hx => by
  obtain rfl := List.mem_singleton.1 hx
  omega)
mutual
theorem rend_isB (wd : Int) : ∀ (x : S24) (n : Int) (f : Bool) (fr : Int) (S : St), isB S.out → isB (rend wd x n f fr S).out
  | ⟨k, m, s, l⟩, n, f, fr, S, h => by
    unfold rend
    split
    · exact textP_isB _ _ _ h
    · split
      · split
        · exact lineP_isB _ _ h
        · split
          · exact textP_isB _ _ _ h
          · exact h
      · split
        · exact rendL_isB wd l _ _ _ _ h
        · exact rendL_isB wd l _ _ _ _ h
theorem rendL_isB (wd : Int) : ∀ (l : List S24) (n : Int) (f : Bool) (fr : Int) (S : St), isB S.out → isB (rendL wd l n f fr S).out
  | [], _, _, _, S, h => h
  | x :: r, n, f, fr, S, h => rendL_isB wd r n f fr _ (rend_isB wd x n f _ S h)
end
def renS (x : S24) (wd : Int) : St := rend wd x 0 false 0 S00
theorem renS_isB (x : S24) (wd : Int) : isB (renS x wd).out := rend_isB wd x 0 false 0 S00 (fun b hb => by cases hb)
def okR (x : S24) (wd : Int) : Bool := decide (1 ≤ wd) && decide (wd ≤ 10000) && mayB x
theorem okR_iff (x : S24) (wd : Int) : okR x wd = true ↔ (1 ≤ wd ∧ wd ≤ 10000 ∧ mayB x = true) := by
  unfold okR
  rw [Bool.and_eq_true, Bool.and_eq_true, decide_eq_true_eq, decide_eq_true_eq]
  exact ⟨fun h => ⟨h.1.1, h.1.2, h.2⟩, fun h => ⟨⟨h.1, h.2.1⟩, h.2.2⟩⟩
/-- What Render answers. -/
def renT (x : S24) (wd : Int) : ByteArray := if okR x wd = true then strOf (renS x wd).out else ⟨#[]⟩
def renE (x : S24) (wd : Int) : Int := if okR x wd = true then 0 else 1
def renM (x : S24) (wd : Int) : List Bool := if okR x wd = true then (renS x wd).modes else []
section
variable {w : World} {B gw : Nat} {cs : Array Value}
theorem string_zero {g cap : Nat} (hb : w.heap[gw]? = some (.cells cs 57 (0, 0))) (h1 : cs[1]? = some (.slice (some ⟨g, 0, none⟩) 0 cap)) (h0 : cap ≠ 0) : Calls Try.prog 24 #[.pointer (some ⟨gw, 0, none⟩)] w fun e w' => e = .returned (.string ⟨#[]⟩) ∧ Below w.heap.size w w' := by
  have hUS : ∀ (W : World) (q : Option Addr), (Builtin.unsafeString_ #[70, 3] 9 #[.pointer q, .int .i64 0]).run Try.prog W = .ok (.string .empty) W := fun W q => Lib.run_unsafeString_none W _ _ _ q
  have c1 : w.drew.cell? ⟨gw, 1, none⟩ = some (.slice (some ⟨g, 0, none⟩) 0 cap) := (blk_cell (w := w) hb 1).trans h1
  have hSD : (Builtin.unsafeSliceData_ #[35] 70 #[.slice (some ⟨g, 0, none⟩) 0 cap]).run Try.prog w.drew = .ok (.pointer (some ⟨g, 0, none⟩)) w.drew := Lib.run_unsafeSliceData_row _ _ _ _ _ _ h0
  have hu54 := Try.underlying54
  clear hb h1
  go_enter Try.func24, Try.ntmps24
  go_wp2
  go_region
  all_goals (go_wp2; go_ret; exact ⟨rfl, Below.drew (Below.refl _ w)⟩)
theorem string_none {g : Nat} {sh : TypeId × Nat} (hsh : w.shape? g = some sh) (hb : w.heap[gw]? = some (.cells cs 57 (0, 0))) (h1 : cs[1]? = some (.slice (some ⟨g, 0, none⟩) 0 0)) : Calls Try.prog 24 #[.pointer (some ⟨gw, 0, none⟩)] w fun e w' => e = .returned (.string ⟨#[]⟩) ∧ Below w.heap.size w w' := by
  have hUS : ∀ (W : World) (q : Option Addr), (Builtin.unsafeString_ #[70, 3] 9 #[.pointer q, .int .i64 0]).run Try.prog W = .ok (.string .empty) W := fun W q => Lib.run_unsafeString_none W _ _ _ q
  have c1 : w.drew.cell? ⟨gw, 1, none⟩ = some (.slice (some ⟨g, 0, none⟩) 0 0) := (blk_cell (w := w) hb 1).trans h1
  have hSD : (Builtin.unsafeSliceData_ #[35] 70 #[.slice (some ⟨g, 0, none⟩) 0 0]).run Try.prog w.drew = .ok (.pointer (some ⟨w.heap.size, 0, none⟩)) (w.drew.alloc (.view ⟨g, 0, none⟩ 5)) := Lib.run_unsafeSliceData_zero (w := w.drew) #[35] 70 5 Try.underlying70 ⟨g, 0, none⟩ 0 sh hsh
  have c2 : (w.drew.alloc (.view ⟨g, 0, none⟩ 5)).cell? ⟨gw, 1, none⟩ = some (.slice (some ⟨g, 0, none⟩) 0 0) := bc (below_alloc (Below.refl _ _) _) c1
  have c3 : (w.alloc (.view ⟨g, 0, none⟩ 5)).cell? ⟨gw, 1, none⟩ = some (.slice (some ⟨g, 0, none⟩) 0 0) := bc (below_alloc (Below.refl _ _) _) ((blk_cell (w := w) hb 1).trans h1)
  have hB : Below w.heap.size w (w.drew.alloc (.view ⟨g, 0, none⟩ 5)) := below_alloc (Below.drew (Below.refl _ w)) _
  have hu54 := Try.underlying54
  clear hb h1
  go_enter Try.func24, Try.ntmps24
  go_wp2
  go_region
  all_goals (go_wp2; go_ret; exact ⟨rfl, hB⟩)
theorem strOf_data (l : List Int) : (strOf l).data = (l.map fun n => UInt8.ofNat n.toNat).toArray := rfl
theorem string_calls {wd col pen : Int} {out : List Int} {rows : List (List Value)} {modes : List Bool} (h : Wr w B gw wd col pen out rows modes) (hB : isB out) :
    Calls Try.prog 24 #[.pointer (some ⟨gw, 0, none⟩)] w fun e w' => e = .returned (.string (strOf out)) ∧ Below B w w' := by
  have hBs := h.base_le
  obtain ⟨a, vb, vr, vm, h0, ha⟩ := h
  have c1 : (wcs a vb vr vm wd col pen)[1]? = some vb := rfl
  have ht := h0.hb
  rcases ht.2 with ⟨hv, hz⟩ | ⟨g, cap, cur, hv, hgB, hg, hnc, hcm, hcs, htk⟩
  · have hn : out = [] := List.eq_nil_of_length_eq_zero hz
    subst hn
    subst hv
    exact (string_nil (p := .nilIface) (c := .nilIface) h0.wa c1).mono (fun e w' h => ⟨h.1, h.2.mono hBs⟩)
  · subst hv
    by_cases hn : out = []
    · subst hn
      by_cases hc : cap = 0
      · subst hc
        exact (string_none (g := g) (sh := (5, cur.size)) (by simp [World.shape?, hg]) h0.wa c1).mono (fun e w' h => ⟨h.1, h.2.mono hBs⟩)
      · exact (string_zero h0.wa c1 hc).mono (fun e w' h => ⟨h.1, h.2.mono hBs⟩)
    · have hl : (out.map fun n => UInt8.ofNat n.toNat).length = out.length := List.length_map ..
      have hs := string_some (l := out.map fun n => UInt8.ofNat n.toNat) h0.wa (by rw [hl]; exact c1) (by simpa using hn) hg (by omega) hcm (by omega) (fun j x hx => ?_) hgB
      · exact hs
      · rw [List.getElem?_map] at hx
        obtain ⟨n, hj, rfl⟩ := Option.map_eq_some_iff.1 hx
        have hr := hB n (List.mem_of_getElem? hj)
        have hjl := (List.getElem?_eq_some_iff.1 hj).1
        rw [ht.cellAt j (by omega)]
        simp only [nums, List.getElem?_map, hj, Option.map_some]
        congr 2
        simp only [UInt8.toNat_ofNat']
        omega
end
/-- What Modes answers. -/
def ModesPost (x : S24) (wd : Int) (w : World) (e : Ending) (w' : World) : Prop := ∃ v, e = .returned v ∧ w'.ownsRow w.heap.size 4 1 v ((renM x wd).map Value.bool).length ((renM x wd).map Value.bool) ∧ Below w.heap.size w w'
section
variable {w : World} {x : S24} {A3 : Option Addr} {c3 : Nat} {wd : Int}
set_option maxHeartbeats 4000000 in
set_option maxRecDepth 100000 in
theorem render_ok (hx : Dc w x A3 c3) (hf : finD x) (hc : cnt x ≤ 1100) (ho : okR x wd = true) : Calls Try.prog 11 #[DA x A3 c3, .int .i64 wd] w fun e w' => e = .returned (.tuple #[.string (renT x wd), .int .i64 (renE x wd)]) ∧ Below w.heap.size w w' := by
  have hu24 := Try.underlying24
  have hu57 := Try.underlying57
  have hu50 := Try.underlying50
  have HX := Aside0.mk hx
  have WC := Aside0.mk (fun (w' : World) (h : Dc w' x A3 c3) => (write_calls (wd := wd) h hf hc).1)
  have HO := Aside0.mk ho
  clear hx hf hc ho
  unfold DA
  go_enter Try.func11, Try.ntmps11
  go_wp2_with (first | ((with_reducible refine gate_dst (N := 2) rfl ?_); (try (refine gate_guard (by rfl) ?_; dsimp only)); refine box_event ?hg (N := 2) ?hd (cs := #[.int .i64 x.f0, .int .i64 x.f1, .string x.f2, .slice A3 x.f3.length c3]) (t := 24) ?hr ?_; (case hd => rfl); (case hg => rfl); (case hr => first | (go_simp; done) | (go_simp; rfl)); intro gb hg w1 hbox hb; have HB := Aside0.mk hb; have BX := Aside0.mk hbox; have HX1 := Aside0.mk (HX.out.below hb); have z0 : w1.cell? ⟨gb, 0, none⟩ = some (.int .i64 x.f0) := (blk_cell BX.out 0).trans rfl; have z1 : w1.cell? ⟨gb, 1, none⟩ = some (.int .i64 x.f1) := (blk_cell BX.out 1).trans rfl; have z2 : w1.cell? ⟨gb, 2, none⟩ = some (.string x.f2) := (blk_cell BX.out 2).trans rfl; have z3 : w1.cell? ⟨gb, 3, none⟩ = some (.slice A3 x.f3.length c3) := (blk_cell BX.out 3).trans rfl; clear hb hbox hg) | ((with_reducible refine gate_dst (N := 11) rfl ?_); refine goesL_ (some 11) rfl rfl Try.func23 (by kernel_rfl) rfl #[.agg #[.int .i64 x.f0, .int .i64 x.f1, .string x.f2, .slice A3 x.f3.length c3], .int .i64 wd] rfl (by (try simp only [List.map_toArray, List.map_cons, List.map_nil]); first | done | rfl) ?_; (refine (show Calls Try.prog 23 #[.agg #[.int .i64 x.f0, .int .i64 x.f1, .string x.f2, .slice A3 x.f3.length c3], .int .i64 wd] w1 _ from (WC.out w1 HX1.out ((okR_iff x wd).1 HO.out))).mono ?_); (rintro e w111 ⟨gw, B, rfl, hw, hBs, hb⟩; refine ⟨_, rfl, ?_⟩; have HW := Aside0.mk hw; have HBS := Aside0.mk (Nat.le_trans HB.out.size hBs); have m1 := Aside0.mk (below_step HB.out hb); clear HB BX HX1 z0 z1 z2 z3 hw hBs hb; have HB := m1; clear m1)) | ((with_reducible refine gate_dst (N := 20) rfl ?_); refine goesL_ (some 20) rfl rfl Try.func24 (by kernel_rfl) rfl #[.pointer (some ⟨gw, 0, none⟩)] rfl (by (try simp only [List.map_toArray, List.map_cons, List.map_nil]); first | done | rfl) ?_; (refine (string_calls HW.out (renS_isB x wd)).mono ?_); (rintro e w120 ⟨rfl, hb⟩; refine ⟨_, rfl, ?_⟩; have m1 := Aside0.mk (HB.out.trans (hb.mono HBS.out)); clear HB hb; have HB := m1; clear m1)))
  go_ret2
  exact ⟨by unfold renT renE; rw [if_pos HO.out, if_pos HO.out]; rfl, HB.out⟩
set_option maxHeartbeats 4000000 in
set_option maxRecDepth 100000 in
theorem render_no (hx : Dc w x A3 c3) (hf : finD x) (hc : cnt x ≤ 1100) (ho : okR x wd = false) : Calls Try.prog 11 #[DA x A3 c3, .int .i64 wd] w fun e w' => e = .returned (.tuple #[.string (renT x wd), .int .i64 (renE x wd)]) ∧ Below w.heap.size w w' := by
  have hu24 := Try.underlying24
  have hu57 := Try.underlying57
  have hu50 := Try.underlying50
  have HX := Aside0.mk hx
  have WC := Aside0.mk (fun (w' : World) (h : Dc w' x A3 c3) => (write_calls (wd := wd) h hf hc).2)
  have HO := Aside0.mk ho
  clear hx hf hc ho
  unfold DA
  go_enter Try.func11, Try.ntmps11
  go_wp2_with (first | ((with_reducible refine gate_dst (N := 2) rfl ?_); (try (refine gate_guard (by rfl) ?_; dsimp only)); refine box_event ?hg (N := 2) ?hd (cs := #[.int .i64 x.f0, .int .i64 x.f1, .string x.f2, .slice A3 x.f3.length c3]) (t := 24) ?hr ?_; (case hd => rfl); (case hg => rfl); (case hr => first | (go_simp; done) | (go_simp; rfl)); intro gb hg w1 hbox hb; have HB := Aside0.mk hb; have BX := Aside0.mk hbox; have HX1 := Aside0.mk (HX.out.below hb); have z0 : w1.cell? ⟨gb, 0, none⟩ = some (.int .i64 x.f0) := (blk_cell BX.out 0).trans rfl; have z1 : w1.cell? ⟨gb, 1, none⟩ = some (.int .i64 x.f1) := (blk_cell BX.out 1).trans rfl; have z2 : w1.cell? ⟨gb, 2, none⟩ = some (.string x.f2) := (blk_cell BX.out 2).trans rfl; have z3 : w1.cell? ⟨gb, 3, none⟩ = some (.slice A3 x.f3.length c3) := (blk_cell BX.out 3).trans rfl; clear hb hbox hg) | ((with_reducible refine gate_dst (N := 11) rfl ?_); refine goesL_ (some 11) rfl rfl Try.func23 (by kernel_rfl) rfl #[.agg #[.int .i64 x.f0, .int .i64 x.f1, .string x.f2, .slice A3 x.f3.length c3], .int .i64 wd] rfl (by (try simp only [List.map_toArray, List.map_cons, List.map_nil]); first | done | rfl) ?_; (refine (show Calls Try.prog 23 #[.agg #[.int .i64 x.f0, .int .i64 x.f1, .string x.f2, .slice A3 x.f3.length c3], .int .i64 wd] w1 _ from (WC.out w1 HX1.out (fun h => absurd ((okR_iff x wd).2 h) (by rw [HO.out]; decide)))).mono ?_); (rintro e w111 ⟨rfl, hb⟩; refine ⟨_, rfl, ?_⟩; have m1 := Aside0.mk (below_step HB.out hb); clear HB BX HX1 z0 z1 z2 z3 hb; have HB := m1; clear m1)))
  go_ret2
  exact ⟨by unfold renT renE; rw [if_neg (by rw [HO.out]; decide), if_neg (by rw [HO.out]; decide)]; rfl, HB.out⟩
/-- Render, of all documents that are few. -/
theorem Render_calls (hx : Dc w x A3 c3) (hf : finD x) (hc : cnt x ≤ 1100) : Calls Try.prog 11 #[DA x A3 c3, .int .i64 wd] w fun e w' => e = .returned (.tuple #[.string (renT x wd), .int .i64 (renE x wd)]) ∧ Below w.heap.size w w' := by
  cases h : okR x wd
  · exact render_no hx hf hc h
  · exact render_ok hx hf hc h
set_option maxHeartbeats 4000000 in
set_option maxRecDepth 100000 in
theorem modes_ok (hx : Dc w x A3 c3) (hf : finD x) (hc : cnt x ≤ 1100) (ho : okR x wd = true) : Calls Try.prog 13 #[DA x A3 c3, .int .i64 wd] w fun e w' => ModesPost x wd w e w' := by
  have hu24 := Try.underlying24
  have hu57 := Try.underlying57
  have hu50 := Try.underlying50
  have HX := Aside0.mk hx
  have WC := Aside0.mk (fun (w' : World) (h : Dc w' x A3 c3) => (write_calls (wd := wd) h hf hc).1)
  have HO := Aside0.mk ho
  clear hx hf hc ho
  unfold DA
  go_enter Try.func13, Try.ntmps13
  go_wp2_with (first | ((with_reducible refine gate_dst (N := 2) rfl ?_); (try (refine gate_guard (by rfl) ?_; dsimp only)); refine box_event ?hg (N := 2) ?hd (cs := #[.int .i64 x.f0, .int .i64 x.f1, .string x.f2, .slice A3 x.f3.length c3]) (t := 24) ?hr ?_; (case hd => rfl); (case hg => rfl); (case hr => first | (go_simp; done) | (go_simp; rfl)); intro gb hg w1 hbox hb; have HB := Aside0.mk hb; have BX := Aside0.mk hbox; have HX1 := Aside0.mk (HX.out.below hb); have z0 : w1.cell? ⟨gb, 0, none⟩ = some (.int .i64 x.f0) := (blk_cell BX.out 0).trans rfl; have z1 : w1.cell? ⟨gb, 1, none⟩ = some (.int .i64 x.f1) := (blk_cell BX.out 1).trans rfl; have z2 : w1.cell? ⟨gb, 2, none⟩ = some (.string x.f2) := (blk_cell BX.out 2).trans rfl; have z3 : w1.cell? ⟨gb, 3, none⟩ = some (.slice A3 x.f3.length c3) := (blk_cell BX.out 3).trans rfl; clear hb hbox hg) | ((with_reducible refine gate_dst (N := 10) rfl ?_); refine goesL_ (some 10) rfl rfl Try.func23 (by kernel_rfl) rfl #[.agg #[.int .i64 x.f0, .int .i64 x.f1, .string x.f2, .slice A3 x.f3.length c3], .int .i64 wd] rfl (by (try simp only [List.map_toArray, List.map_cons, List.map_nil]); first | done | rfl) ?_; (refine (show Calls Try.prog 23 #[.agg #[.int .i64 x.f0, .int .i64 x.f1, .string x.f2, .slice A3 x.f3.length c3], .int .i64 wd] w1 _ from (WC.out w1 HX1.out ((okR_iff x wd).1 HO.out))).mono ?_); (rintro e w110 ⟨gw, B, rfl, hw, hBs, hb⟩; refine ⟨_, rfl, ?_⟩; have HW := Aside0.mk hw; have HBS := Aside0.mk (Nat.le_trans HB.out.size hBs); have m1 := Aside0.mk (below_step HB.out hb); clear HB BX HX1 z0 z1 z2 z3 hw hBs hb; have HB := m1; clear m1; obtain ⟨a_, vb_, vr_, vm_, hw_, ha_⟩ := HW.out; have H0 := Aside0.mk hw_; clear hw_ HW; have q6 : w110.cell? ⟨gw, 6, none⟩ = some vm_ := (blk_cell H0.out.wa 6).trans rfl)))
  go_ret
  refine ⟨vm_, rfl, ?_, HB.out⟩
  unfold renM
  rw [if_pos HO.out]
  exact own_weaken H0.out.hm HBS.out
set_option maxHeartbeats 4000000 in
set_option maxRecDepth 100000 in
theorem modes_no (hx : Dc w x A3 c3) (hf : finD x) (hc : cnt x ≤ 1100) (ho : okR x wd = false) : Calls Try.prog 13 #[DA x A3 c3, .int .i64 wd] w fun e w' => ModesPost x wd w e w' := by
  have hu24 := Try.underlying24
  have hu57 := Try.underlying57
  have hu50 := Try.underlying50
  have HX := Aside0.mk hx
  have WC := Aside0.mk (fun (w' : World) (h : Dc w' x A3 c3) => (write_calls (wd := wd) h hf hc).2)
  have HO := Aside0.mk ho
  clear hx hf hc ho
  unfold DA
  go_enter Try.func13, Try.ntmps13
  go_wp2_with (first | ((with_reducible refine gate_dst (N := 2) rfl ?_); (try (refine gate_guard (by rfl) ?_; dsimp only)); refine box_event ?hg (N := 2) ?hd (cs := #[.int .i64 x.f0, .int .i64 x.f1, .string x.f2, .slice A3 x.f3.length c3]) (t := 24) ?hr ?_; (case hd => rfl); (case hg => rfl); (case hr => first | (go_simp; done) | (go_simp; rfl)); intro gb hg w1 hbox hb; have HB := Aside0.mk hb; have BX := Aside0.mk hbox; have HX1 := Aside0.mk (HX.out.below hb); have z0 : w1.cell? ⟨gb, 0, none⟩ = some (.int .i64 x.f0) := (blk_cell BX.out 0).trans rfl; have z1 : w1.cell? ⟨gb, 1, none⟩ = some (.int .i64 x.f1) := (blk_cell BX.out 1).trans rfl; have z2 : w1.cell? ⟨gb, 2, none⟩ = some (.string x.f2) := (blk_cell BX.out 2).trans rfl; have z3 : w1.cell? ⟨gb, 3, none⟩ = some (.slice A3 x.f3.length c3) := (blk_cell BX.out 3).trans rfl; clear hb hbox hg) | ((with_reducible refine gate_dst (N := 10) rfl ?_); refine goesL_ (some 10) rfl rfl Try.func23 (by kernel_rfl) rfl #[.agg #[.int .i64 x.f0, .int .i64 x.f1, .string x.f2, .slice A3 x.f3.length c3], .int .i64 wd] rfl (by (try simp only [List.map_toArray, List.map_cons, List.map_nil]); first | done | rfl) ?_; (refine (show Calls Try.prog 23 #[.agg #[.int .i64 x.f0, .int .i64 x.f1, .string x.f2, .slice A3 x.f3.length c3], .int .i64 wd] w1 _ from (WC.out w1 HX1.out (fun h => absurd ((okR_iff x wd).2 h) (by rw [HO.out]; decide)))).mono ?_); (rintro e w110 ⟨rfl, hb⟩; refine ⟨_, rfl, ?_⟩; have m1 := Aside0.mk (below_step HB.out hb); clear HB BX HX1 z0 z1 z2 z3 hb; have HB := m1; clear m1)))
  go_ret
  refine ⟨.slice none 0 0, rfl, ?_, HB.out⟩
  unfold renM
  rw [if_neg (by rw [HO.out]; decide)]
  exact own_nil _ _ _ _
/-- Modes, of all documents that are few. -/
theorem Modes_calls (hx : Dc w x A3 c3) (hf : finD x) (hc : cnt x ≤ 1100) : Calls Try.prog 13 #[DA x A3 c3, .int .i64 wd] w fun e w' => ModesPost x wd w e w' := by
  cases h : okR x wd
  · exact modes_no hx hf hc h
  · exact modes_ok hx hf hc h
end
end Go.Proofs.Ytigihiggpfjbjaa.PR
