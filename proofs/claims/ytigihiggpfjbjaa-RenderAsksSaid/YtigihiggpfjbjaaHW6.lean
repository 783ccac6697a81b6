/- Parts of a document as they lie; the writer's first. -/
import Derived.Test.YtigihiggpfjbjaaHQ1
import Derived.Test.YtigihiggpfjbjaaHW3
namespace Go.Proofs.Ytigihiggpfjbjaa.PR
open Go.RowKit Go.Proofs.YtigihiggpfjbjaaW.PrintWords Go.Proofs.YtigihiggpfjbjaaW.PrintLast Go.Proofs.YtigihiggpfjbjaaW.PrintMore
set_option linter.unusedVariables false
set_option linter.unusedSimpArgs false
/-- A row of pointers. -/
def RowP (w : World) (ok : Nat → Prop) (A : Option Addr) (gs : List Nat) : Prop := 0 < gs.length → ∃ b, A = some ⟨b, 0, none⟩ ∧ ok b ∧ b < w.heap.size ∧ ∀ (i g : Nat), gs[i]? = some g → w.cell? ⟨b, i, none⟩ = some (.pointer (some ⟨g, 0, none⟩))
def pcs (x : S24) (A : Option Addr) (c : Nat) : Array Value := #[.int .i64 x.f0, .int .i64 x.f1, .string x.f2, .int .i64 (wdV x), .int .i64 (ldV x).1, .bool (ldV x).2, .bool (frcB x), .slice A x.f3.length c]
mutual
/-- A document's part as it lies in block g, with all that is in it. -/
def PartAt (w : World) (ok : Nat → Prop) : S24 → Nat → Prop
  | ⟨k, n, s, l⟩, g => ok g ∧ ∃ (A : Option Addr) (c : Nat) (gs : List Nat), w.heap[g]? = some (.cells (pcs ⟨k, n, s, l⟩ A c) 80 (0, 0)) ∧ gs.length = l.length ∧ RowP w ok A gs ∧ PartsAt w ok l gs
def PartsAt (w : World) (ok : Nat → Prop) : List S24 → List Nat → Prop
  | [], _ => True
  | x :: r, gs => ∃ g t, gs = g :: t ∧ PartAt w ok x g ∧ PartsAt w ok r t
end
theorem PartAt_eq (w : World) (ok : Nat → Prop) (x : S24) (g : Nat) : PartAt w ok x g ↔ ok g ∧ ∃ (A : Option Addr) (c : Nat) (gs : List Nat), w.heap[g]? = some (.cells (pcs x A c) 80 (0, 0)) ∧ gs.length = x.f3.length ∧ RowP w ok A gs ∧ PartsAt w ok x.f3 gs := by cases x; exact Iff.rfl
theorem RowP.keep {w w' : World} {ok ok' : Nat → Prop} {A : Option Addr} {gs : List Nat} (h : RowP w ok A gs) (hk : ∀ k, ok k → k < w.heap.size → w'.heap[k]? = w.heap[k]? ∧ ok' k ∧ k < w'.heap.size) : RowP w' ok' A gs := fun h0 => by
  obtain ⟨b, e, hb, hl, hc⟩ := h h0
  obtain ⟨h1, h2, h3⟩ := hk b hb hl
  exact ⟨b, e, h2, h3, fun i g hi => (World.cell?_of_block (a := ⟨b, i, none⟩) h1).trans (hc i g hi)⟩
mutual
/-- It stands while its own blocks do. -/
theorem PartAt.keep {w w' : World} {ok ok' : Nat → Prop} (hk : ∀ k, ok k → k < w.heap.size → w'.heap[k]? = w.heap[k]? ∧ ok' k ∧ k < w'.heap.size) : ∀ (x : S24) (g : Nat), PartAt w ok x g → PartAt w' ok' x g
  | ⟨k, n, s, l⟩, g, h => by
    obtain ⟨h0, A, c, gs, h1, h2, h3, h4⟩ := h
    obtain ⟨k1, k2, _⟩ := hk g h0 (blk_lt h1)
    exact ⟨k2, A, c, gs, k1.trans h1, h2, h3.keep hk, PartsAt.keep hk l gs h4⟩
theorem PartsAt.keep {w w' : World} {ok ok' : Nat → Prop} (hk : ∀ k, ok k → k < w.heap.size → w'.heap[k]? = w.heap[k]? ∧ ok' k ∧ k < w'.heap.size) : ∀ (l : List S24) (gs : List Nat), PartsAt w ok l gs → PartsAt w' ok' l gs
  | [], _, _ => trivial
  | x :: r, gs, h => by
    obtain ⟨g, t, e, h1, h2⟩ := h
    exact ⟨g, t, e, PartAt.keep hk x g h1, PartsAt.keep hk r t h2⟩
end
theorem PartsAt.at_ {w : World} {ok : Nat → Prop} : ∀ (l : List S24) (gs : List Nat), PartsAt w ok l gs → ∀ (i : Nat) (x : S24), l[i]? = some x → ∃ g, gs[i]? = some g ∧ PartAt w ok x g
  | [], _, _, i, x, hi => by simp at hi
  | y :: r, gs, h, i, x, hi => by
    obtain ⟨g, t, rfl, h1, h2⟩ := h
    cases i with
    | zero =>
      obtain rfl : y = x := by simpa using hi
      exact ⟨g, rfl, h1⟩
    | succ i =>
      obtain ⟨g', hg, hp⟩ := PartsAt.at_ r t h2 i x (by simpa using hi)
      exact ⟨g', by simpa using hg, hp⟩
/-- What is still to come: a part, how far it is nested, whether it is on one line. -/
structure It where
  g : Nat
  x : S24
  n : Int
  f : Bool
def itc (it : It) : List Value := [.pointer (some ⟨it.g, 0, none⟩), .int .i64 it.n, .bool it.f]
/-- How wide what comes is, up to the first place where a line may end (the top first). -/
def frV : List It → Int
  | [] => 0
  | it :: r => if (ldV it.x).2 = true then (ldV it.x).1 else (ldV it.x).1 + frV r
def FirstR (its : List It) (wd n : Int) : Prop := n = frV its.reverse ∨ (wd < n ∧ n ≤ frV its.reverse)
theorem frV_nonneg : ∀ l : List It, (∀ it ∈ l, 0 ≤ (ldV it.x).1) → 0 ≤ frV l
  | [], _ => Int.le_refl _
  | it :: r, h => by
    have h1 := h it List.mem_cons_self
    have h2 := frV_nonneg r (fun x hx => h x (List.mem_cons_of_mem _ hx))
    unfold frV
    split <;> omega
theorem frV_take (its : List It) (j : Nat) (it : It) (h : its[j]? = some it) : frV (its.take (j + 1)).reverse = if (ldV it.x).2 = true then (ldV it.x).1 else (ldV it.x).1 + frV (its.take j).reverse := by
  obtain ⟨hl, rfl⟩ := List.getElem?_eq_some_iff.1 h
  rw [List.take_succ_eq_append_getElem hl, List.reverse_append]
  rfl
section
variable {w w' : World} {B gw : Nat} {wd col pen : Int} {out : List Int} {rows : List (List Value)} {modes : List Bool} {its : List It}
/-- An item's cells, where they stand. -/
theorem Wr.item (h : Wr w B gw wd col pen out (its.map itc) modes) (j : Nat) (it : It) (hj : its[j]? = some it) :
    ∃ g cap, w.cell? ⟨gw, 5, none⟩ = some (.slice (some ⟨g, 0, none⟩) its.length cap) ∧ w.cell? ⟨g, j * 3, none⟩ = some (.pointer (some ⟨it.g, 0, none⟩)) ∧ w.cell? ⟨g, j * 3 + 1, none⟩ = some (.int .i64 it.n) ∧ w.cell? ⟨g, j * 3 + 2, none⟩ = some (.bool it.f) := by
  obtain ⟨a, vb, vr, vm, h0, _, _, _, h5, _⟩ := h.open_
  have hl := (List.getElem?_eq_some_iff.1 hj).1
  obtain ⟨g, cap, hv, _, _, _⟩ := Kd.R_form h0.h0.hr (by rw [List.length_map]; omega)
  rw [List.length_map] at hv
  subst hv
  obtain ⟨cs, hcl, hM, hcc, _⟩ := Kd.R_elem h0.h0.hr [] (j : Int) (by omega) (by omega)
  have hri : cs = itc it := by
    have h1 := hM.1
    rw [List.getD_eq_getElem?_getD, Int.toNat_natCast, List.getElem?_map, hj] at h1
    exact h1
  subst hri
  rw [Int.toNat_natCast] at hcc
  exact ⟨g, cap, h5, hcc 0 _ rfl, hcc 1 _ rfl, hcc 2 _ rfl⟩
theorem Wr.len (h : Wr w B gw wd col pen out (its.map itc) modes) : ∃ A cap, w.cell? ⟨gw, 5, none⟩ = some (.slice A its.length cap) := by
  obtain ⟨a, vb, vr, vm, h0, _, _, _, h5, _⟩ := h.open_
  obtain ⟨_, ⟨A, c, e⟩, _⟩ := h0.h0.vals
  rw [e, List.length_map] at h5
  exact ⟨A, c, h5⟩
set_option maxHeartbeats 4000000 in
set_option maxRecDepth 100000 in
theorem first_calls (h : Wr w B gw wd col pen out (its.map itc) modes) (hp : ∀ it ∈ its, PartAt w (fun k => k < B) it.x it.g) (hb : ∀ it ∈ its, 0 ≤ (ldV it.x).1 ∧ (ldV it.x).1 ≤ 100000000) (hn : its.length ≤ 1000000) :
    Calls Try.prog 50 #[.pointer (some ⟨gw, 0, none⟩)] w fun e w' => ∃ n, e = .returned (.int .i64 n) ∧ FirstR its wd n ∧ Below w.heap.size w w' := by
  have hu57 := Try.underlying57
  have hu55 := Try.underlying55
  have hu68 := Try.underlying68
  have hu80 := Try.underlying80
  have H := Aside0.mk h
  have HP := Aside0.mk hp
  have HBD := Aside0.mk hb
  have HN := Aside0.mk hn
  have hnn : (its.length : Int) ≤ 1000000 := by omega
  have HB := Aside0.mk (Below.refl w.heap.size w)
  obtain ⟨A5, c5, q5⟩ := h.len
  clear h hp hb hn
  go_enter Try.func50, Try.ntmps50
  go_wp2_with fail
  clear q5
  go_loopg [3, 4, 5] its.length (fun k' v3 v4 v5 wr => ∃ (i : Nat) (m z : Int), v3 = .int .i64 m ∧ v4 = .int .i64 z ∧ Aside0 (z = (i : Int) - 1) ∧ i ≤ its.length ∧ Aside0 (k' = i) ∧ Aside0 (m + frV (its.take i).reverse = frV its.reverse) ∧ Aside0 (0 ≤ m ∧ m ≤ 100000000 * ((its.length : Int) - i)) ∧ Aside0 (Below w.heap.size w wr))
  case atStart => exact ⟨its.length, 0, (its.length : Int) - 1, rfl, rfl, ⟨rfl⟩, Nat.le_refl _, ⟨rfl⟩, ⟨by rw [List.take_length, Int.zero_add]⟩, ⟨by omega⟩, HB⟩
  case round =>
    clear HB
    obtain ⟨i, m, z, rfl, rfl, HZ, hi, HK, HS, HM, HB⟩ := hrel
    cases i with
    | zero =>
      obtain rfl : z = -1 := by have := HZ.out; omega
      go_wp2_with fail
      go_ret
      exact ⟨m, rfl, Or.inl (by have := HS.out; simp only [List.take_zero, List.reverse_nil, frV] at this; omega), HB.out⟩
    | succ j =>
      obtain rfl : z = (j : Int) := by have := HZ.out; omega
      obtain ⟨it, hit⟩ : ∃ it, its[j]? = some it := ⟨_, List.getElem?_eq_getElem (by omega)⟩
      obtain ⟨g, cap, q5, r0, r1, r2⟩ := (H.out.below HB.out).item j it hit
      have hpa := (PartAt_eq _ _ _ _).1 (HP.out it (List.mem_of_getElem? hit))
      obtain ⟨hgB, A, c, gs, hblk, _⟩ := hpa
      have HW := Aside0.mk (H.out.below HB.out)
      have BP := Aside0.mk (blk_below hblk HB.out)
      have HT := Aside0.mk (frV_take its j it hit)
      have HI := Aside0.mk (HBD.out it (List.mem_of_getElem? hit))
      obtain ⟨ld, hld⟩ : ∃ u : Int, (ldV it.x).1 = u := ⟨_, rfl⟩
      obtain ⟨en, hen⟩ : ∃ u : Bool, (ldV it.x).2 = u := ⟨_, rfl⟩
      rw [hld, hen] at HT
      rw [hld] at HI
      have hji : (j : Int) < 1000000 := by omega
      go_upto_region 6 with (fail)
      have BX := Aside0.mk (blk_new wr (.cells #[.pointer (some ⟨it.g, 0, none⟩), .int .i64 it.n, .bool it.f] 68))
      have hb6 : Below wr.heap.size wr (wr.alloc (.cells #[.pointer (some ⟨it.g, 0, none⟩), .int .i64 it.n, .bool it.f] 68)) := below_alloc (Below.refl _ _) _
      have HB6 := Aside0.mk (below_step HB.out hb6)
      have BP6 := Aside0.mk (blk_below BP.out hb6)
      have HW6 := Aside0.mk (HW.out.below hb6)
      clear hit hblk hgB q5 r0 r1 r2 hb6 HB BP HW
      generalize wr.alloc _ = w6 at BX HB6 BP6 HW6 ⊢
      generalize wr.heap.size = gx at BX ⊢
      have x0 : w6.cell? ⟨gx, 0, none⟩ = some (.pointer (some ⟨it.g, 0, none⟩)) := (blk_cell BX.out 0).trans rfl
      have p4 : w6.cell? ⟨it.g, 4, none⟩ = some (.int .i64 ld) := (blk_cell BP6.out 4).trans (by rw [← hld]; rfl)
      have p5 : w6.cell? ⟨it.g, 5, none⟩ = some (.bool en) := (blk_cell BP6.out 5).trans (by rw [← hen]; rfl)
      have q2 : w6.cell? ⟨gw, 2, none⟩ = some (.int .i64 wd) := (by obtain ⟨_, _, _, _, _, q, _⟩ := HW6.out.open_; exact q)
      have EM : Aside0 (wrap64 (m + ld) = m + ld) := ⟨by have := HM.out; have := HI.out; have := HN.out; unfold wrap64; omega⟩
      have FN : Aside0 (0 ≤ frV (its.take j).reverse) := ⟨frV_nonneg _ (fun x hx => (HBD.out x (List.mem_of_mem_take (List.mem_reverse.1 hx))).1)⟩
      clear hld hen BX BP6 HW6
      cases en
      · have ES := HT.out
        rw [if_neg (by decide)] at ES
        have ES2 := Aside0.mk ES
        clear ES HT
        cases ht : decide (wd < wrap64 (m + ld))
        · go_wp2_with fail
          go_roundg j
          case measure => have := HK.out; omega
          case rel => exact ⟨j, m + ld, (j : Int) - 1, by rw [EM.out], rfl, ⟨rfl⟩, by omega, ⟨rfl⟩, ⟨by have := HS.out; have := ES2.out; omega⟩, ⟨by have := HM.out; have := HI.out; omega⟩, HB6⟩
        · go_wp2_with fail
          go_ret
          exact ⟨_, rfl, Or.inr (by have h1 := of_decide_eq_true ht; have := HS.out; have := ES2.out; have := FN.out; have := EM.out; omega), HB6.out⟩
      · have ES := HT.out
        rw [if_pos rfl] at ES
        have ES2 := Aside0.mk ES
        clear ES HT
        go_wp2_with fail
        go_ret
        exact ⟨_, rfl, Or.inl (by have := HS.out; have := ES2.out; have := EM.out; omega), HB6.out⟩
end
end Go.Proofs.Ytigihiggpfjbjaa.PR

/- The writer's fits. -/
namespace Go.Proofs.Ytigihiggpfjbjaa.PR
open Go.RowKit Go.Proofs.YtigihiggpfjbjaaW.PrintWords Go.Proofs.YtigihiggpfjbjaaW.PrintLast Go.Proofs.YtigihiggpfjbjaaW.PrintMore
set_option linter.unusedVariables false
set_option linter.unusedSimpArgs false
theorem F43tab1 : rtab .any (opsOf Try.f43 1) = (true, [([], []), ([0], [0]), ([1], [1]), ([2], [2]), ([3], [3]), ([4], [4]), ([5], [5]), ([6, 5], [5, 6]), ([7, 5], [5, 7]), ([8, 5], [5, 8]), ([5], [5]), ([10, 5], [5, 10]), ([11, 5], [5, 11]), ([12, 5], [5, 12]), ([9, 13, 5], [5, 9, 13]), ([5], [5]), ([15, 5, 5], [5, 15]), ([14, 16, 5], [5, 14, 16]), ([5], [5]), ([18, 5], [5, 18]), ([19, 5], [5, 19]), ([20, 5], [5, 20]), ([17, 21, 5], [5, 17, 21]), ([5, 22], [5, 22]), ([23, 16, 0, 1, 2, 3, 4, 5, 6, 7, 8, 9, 10, 11, 12, 13, 14, 15, 16, 17, 18, 19, 20, 21, 22, 23], [23])]) := by kernel_rfl
/-- Does a group go on the line? -/
def fitB (x : S24) (wd col fr : Int) : Bool := !frcB x && decide (col + wdV x + fr ≤ wd)
def fitS (gw g : Nat) (col wd wdx : Int) (fc : Bool) (w' : World) : Prop := w'.cell? ⟨g, 6, none⟩ = some (.bool fc) ∧ w'.cell? ⟨gw, 3, none⟩ = some (.int .i64 col) ∧ w'.cell? ⟨g, 3, none⟩ = some (.int .i64 wdx) ∧ w'.cell? ⟨gw, 2, none⟩ = some (.int .i64 wd) ∧ True
theorem bc {w w' : World} {a : Addr} {v : Value} (hb : Below w.heap.size w w') (h : w.cell? a = some v) : w'.cell? a = some v := (hb.cell (World.block_lt_of_cell? w a h)).trans h
section
variable {w w' : World} {B gw g : Nat} {wd col pen : Int} {out : List Int} {modes : List Bool} {its : List It} {x : S24}
theorem fitS_of (h : Wr w B gw wd col pen out (its.map itc) modes) (hx : PartAt w (fun k => k < B) x g) : fitS gw g col wd (wdV x) (frcB x) w := by
  obtain ⟨_, _, _, _, _, q2, q3, _⟩ := h.open_
  obtain ⟨_, A, c, gs, hb, _⟩ := (PartAt_eq _ _ _ _).1 hx
  exact ⟨(blk_cell hb 6).trans rfl, q3, (blk_cell hb 3).trans rfl, q2, trivial⟩
theorem fit_of (wdx : Int) (hx : wdV x = wdx) (hf : frcB x = false) (n : Int) (h : FirstR its wd n) (h0 : 0 ≤ col) (h1 : 0 ≤ wdx) (h2 : col + wdx ≤ 1000000000000) (h3 : 0 ≤ n) (h4 : n ≤ 1000000000000) : decide (wrap64 (wrap64 (col + wdx) + n) ≤ wd) = fitB x wd col (frV its.reverse) := by
  have e1 : wrap64 (col + wdx) = col + wdx := by unfold wrap64; omega
  have e2 : wrap64 (col + wdx + n) = col + wdx + n := by unfold wrap64; omega
  rw [e1, e2]
  unfold fitB
  rw [hf, hx, Bool.not_false, Bool.true_and]
  congr 1
  rcases h with h | ⟨h5, h6⟩
  · rw [h]
  · exact propext ⟨fun h => by omega, fun h => by omega⟩
theorem FirstR.le {n : Int} (h : FirstR its wd n) (hw : 0 ≤ wd) (hb : ∀ it ∈ its, 0 ≤ (ldV it.x).1) : 0 ≤ n ∧ n ≤ frV its.reverse := by
  have := frV_nonneg its.reverse (fun it hi => hb it (List.mem_reverse.1 hi))
  rcases h with h | ⟨h1, h2⟩
  · omega
  · omega
theorem frV_le : ∀ l : List It, (∀ it ∈ l, (ldV it.x).1 ≤ 100000000) → (∀ it ∈ l, 0 ≤ (ldV it.x).1) → frV l ≤ 100000000 * l.length
  | [], _, _ => by simp [frV]
  | it :: r, h, k => by
    have h1 := h it List.mem_cons_self
    have h2 := frV_le r (fun x hx => h x (List.mem_cons_of_mem _ hx)) (fun x hx => k x (List.mem_cons_of_mem _ hx))
    have h3 := frV_nonneg r (fun x hx => k x (List.mem_cons_of_mem _ hx))
    have h4 := k it List.mem_cons_self
    unfold frV
    simp only [List.length_cons]
    split <;> omega
set_option maxHeartbeats 4000000 in
set_option maxRecDepth 100000 in
theorem fits_false (h : Wr w B gw wd col pen out (its.map itc) modes) (hp : ∀ it ∈ its, PartAt w (fun k => k < B) it.x it.g) (hx : PartAt w (fun k => k < B) x g) (hb : ∀ it ∈ its, 0 ≤ (ldV it.x).1 ∧ (ldV it.x).1 ≤ 100000000) (hn : its.length ≤ 2000) (hwd : 0 ≤ wd) (hc : 0 ≤ col ∧ 0 ≤ wdV x ∧ col + wdV x ≤ 1000000000000) (hf : frcB x = false) : Calls Try.prog 43 #[.pointer (some ⟨gw, 0, none⟩), .pointer (some ⟨g, 0, none⟩)] w fun e w' => e = .returned (.bool (fitB x wd col (frV its.reverse))) ∧ Below w.heap.size w w' := by
  have hu57 := Try.underlying57
  have hu80 := Try.underlying80
  have H := Aside0.mk h
  have HP2 := Aside0.mk (show ∀ w2, Below w.heap.size w w2 → ∀ it ∈ its, PartAt w2 (fun k => k < B) it.x it.g from fun w2 hb2 it hi => PartAt.keep (fun k hk hl => ⟨hb2.block k hl, hk, Nat.lt_of_lt_of_le hl hb2.size⟩) _ _ (hp it hi))
  have HX := Aside0.mk hx
  have HBD := Aside0.mk hb
  have HN := Aside0.mk hn
  have HWD := Aside0.mk hwd
  obtain ⟨wdx, hwx⟩ : ∃ u : Int, wdV x = u := ⟨_, rfl⟩
  rw [hwx] at hc
  have HWX := Aside0.mk hwx
  have HC := Aside0.mk hc
  have HFC := Aside0.mk hf
  clear h hp hx hb hn hwd hwx hc hf
  go_enter Try.func43, Try.ntmps43
  go_upto_region 1 with (fail)
  have n0 := Aside0.mk (H.out.below (below_drew1 (Below.refl _ _)))
  have HS := Aside0.mk (fitS_of H.out HX.out)
  have hs_ : fitS gw g col wd wdx false w.drew := ⟨bc (below_drew1 (Below.refl _ _)) (HFC.out ▸ HS.out.1), bc (below_drew1 (Below.refl _ _)) HS.out.2.1, bc (below_drew1 (Below.refl _ _)) (HWX.out ▸ HS.out.2.2.1), bc (below_drew1 (Below.refl _ _)) HS.out.2.2.2.1, trivial⟩
  have HB := Aside0.mk (show Below w.heap.size w w.drew from below_drew1 (Below.refl _ _))
  clear HS
  refine start_ (n := 25) (S := fitS gw g col wd wdx false) (ds := []) #[false, false, false, false, false, false, false, false, false, false, false, false, false, false, false, false, false, false, false, false, false, false, false, false, false] (by kernel_rfl) rfl rfl (hs_) (fun hHeld => ?_)
  clear hs_
  generalize World.drew _ = w500 at n0 HB hHeld ⊢
  refine pure_ (i := 0) (N := some 5) (bt 25 1) rfl rfl (any_of F43tab1 (by kernel_rfl)) (fun _ _ _ h => h) (Or.inl ⟨by rfl, by intro w'; go_simp; with_reducible rfl⟩) (by simp only [Act.put, pset]; rfl) ?_
  refine pure_ (i := 1) (N := some 6) (bt 25 3) rfl rfl (any_of F43tab1 (by kernel_rfl)) (fun _ _ _ h => h) (Or.inl ⟨by rfl, by intro w'; go_simp; with_reducible rfl⟩) (by simp only [Act.put, pset]; rfl) ?_
  refine pure_ (i := 2) (N := some 7) (bt 25 7) rfl rfl (any_of F43tab1 (by kernel_rfl)) (fun _ _ _ h => h) (Or.inl ⟨by rfl, by intro w'; go_simp; with_reducible rfl⟩) (by simp only [Act.put, pset]; rfl) ?_
  refine take_ (i := 3) (N := some 8) (bt 25 15) rfl rfl (take_of F43tab1 (by kernel_rfl)) (fun _ _ _ h => h) (Or.inl ⟨by rfl, by rintro w' ⟨s0, s1, s2, s3, s4⟩; go_simp; with_reducible rfl⟩) hHeld (by simp only [Act.put, pset]; rfl) ?_
  refine pure_ (i := 4) (N := some 9) (bt 25 31) rfl rfl (any_of F43tab1 (by kernel_rfl)) (fun _ _ _ h => h) (Or.inl ⟨by rfl, by intro w'; go_simp; with_reducible rfl⟩) (by simp only [Act.put, pset]; rfl) ?_
  refine pure_ (i := 5) (N := some 10) (bt 25 63) rfl rfl (any_of F43tab1 (by kernel_rfl)) (fun _ _ _ h => h) (Or.inl ⟨by rfl, by intro w'; go_simp; with_reducible rfl⟩) (by simp only [Act.put, pset]; rfl) ?_
  refine pure_ (i := 6) (N := some 11) (bt 25 127) rfl rfl (any_of F43tab1 (by kernel_rfl)) (fun _ _ _ h => h) (Or.inl ⟨by rfl, by intro w'; go_simp; with_reducible rfl⟩) (by simp only [Act.put, pset]; rfl) ?_
  refine pure_ (i := 7) (N := some 12) (bt 25 255) rfl rfl (any_of F43tab1 (by kernel_rfl)) (fun _ _ _ h => h) (Or.inl ⟨by rfl, by intro w'; go_simp; with_reducible rfl⟩) (by simp only [Act.put, pset]; rfl) ?_
  refine pure_ (i := 8) (N := some 13) (bt 25 511) rfl rfl (any_of F43tab1 (by kernel_rfl)) (fun _ _ _ h => h) (Or.inl ⟨by rfl, by intro w'; go_simp; with_reducible rfl⟩) (by simp only [Act.put, pset]; rfl) ?_
  refine take_ (i := 9) (N := some 14) (bt 25 1023) rfl rfl (take_of F43tab1 (by kernel_rfl)) (fun _ _ _ h => h) (Or.inl ⟨by rfl, by rintro w' ⟨s0, s1, s2, s3, s4⟩; go_simp; with_reducible rfl⟩) hHeld (by simp only [Act.put, pset]; rfl) ?_
  refine pure_ (i := 10) (N := some 15) (bt 25 2047) rfl rfl (any_of F43tab1 (by kernel_rfl)) (fun _ _ _ h => h) (Or.inl ⟨by rfl, by intro w'; go_simp; with_reducible rfl⟩) (by simp only [Act.put, pset]; rfl) ?_
  refine pure_ (i := 11) (N := some 16) (bt 25 4095) rfl rfl (any_of F43tab1 (by kernel_rfl)) (fun _ _ _ h => h) (Or.inl ⟨by rfl, by intro w'; go_simp; with_reducible rfl⟩) (by simp only [Act.put, pset]; rfl) ?_
  refine pure_ (i := 12) (N := some 17) (bt 25 8191) rfl rfl (any_of F43tab1 (by kernel_rfl)) (fun _ _ _ h => h) (Or.inl ⟨by rfl, by intro w'; go_simp; with_reducible rfl⟩) (by simp only [Act.put, pset]; rfl) ?_
  refine take_ (i := 13) (N := some 18) (bt 25 16383) rfl rfl (take_of F43tab1 (by kernel_rfl)) (fun _ _ _ h => h) (Or.inl ⟨by rfl, by rintro w' ⟨s0, s1, s2, s3, s4⟩; go_simp; with_reducible rfl⟩) hHeld (by simp only [Act.put, pset]; rfl) ?_
  refine pure_ (i := 14) (N := some 19) (bt 25 32767) rfl rfl (any_of F43tab1 (by kernel_rfl)) (fun _ _ _ h => h) (Or.inl ⟨by rfl, by intro w'; go_simp; with_reducible rfl⟩) (by simp only [Act.put, pset]; rfl) ?_
  refine pure_ (i := 15) (N := some 20) (bt 25 65535) rfl rfl (any_of F43tab1 (by kernel_rfl)) (fun _ _ _ h => h) (Or.inl ⟨by rfl, by intro w'; go_simp; with_reducible rfl⟩) (by simp only [Act.put, pset]; rfl) ?_
  refine pure_ (i := 18) (N := some 23) (bt 25 327679) rfl rfl (any_of F43tab1 (by kernel_rfl)) (fun _ _ _ h => h) (Or.inl ⟨by rfl, by intro w'; go_simp; with_reducible rfl⟩) (by simp only [Act.put, pset]; rfl) ?_
  refine pure_ (i := 19) (N := some 24) (bt 25 851967) rfl rfl (any_of F43tab1 (by kernel_rfl)) (fun _ _ _ h => h) (Or.inl ⟨by rfl, by intro w'; go_simp; with_reducible rfl⟩) (by simp only [Act.put, pset]; rfl) ?_
  refine pure_ (i := 20) (N := some 25) (bt 25 1900543) rfl rfl (any_of F43tab1 (by kernel_rfl)) (fun _ _ _ h => h) (Or.inl ⟨by rfl, by intro w'; go_simp; with_reducible rfl⟩) (by simp only [Act.put, pset]; rfl) ?_
  refine take_ (i := 21) (N := some 26) (bt 25 3997695) rfl rfl (take_of F43tab1 (by kernel_rfl)) (fun _ _ _ h => h) (Or.inl ⟨by rfl, by rintro w' ⟨s0, s1, s2, s3, s4⟩; go_simp; with_reducible rfl⟩) hHeld (by simp only [Act.put, pset]; rfl) ?_
  refine one_ (i := 16) (N := some 21) (bt 25 4063231) rfl rfl (one_of F43tab1 (by kernel_rfl)) (by decide) (fun K hK => ?_)
  refine goes_ Try.func50 (by kernel_rfl) rfl #[.pointer (some ⟨gw, 0, none⟩)] (by rfl) rfl rfl (by (try simp only [List.map_toArray, List.map_cons, List.map_nil]); first | done | rfl) ?_
  refine (first_calls n0.out (HP2.out _ HB.out) HBD.out (Nat.le_trans HN.out (by decide))).mono ?_
  rintro e w501 ⟨n, rfl, hF, hb⟩
  refine ⟨_, rfl, ?_⟩
  have n1 := Aside0.mk (below_step HB.out hb); have HF := Aside0.mk hF; clear HB hF; have HB := n1; clear n1
  refine hK.out _ _ (⟨bc hb hHeld.1, bc hb hHeld.2.1, bc hb hHeld.2.2.1, bc hb hHeld.2.2.2.1, trivial⟩) (fun hHeld => ?_)
  clear hK K
  refine norm_ (show Act.put _ (some 21) _ = _ from (by simp only [Act.put, pset]; rfl)) ?_
  refine pure_ (i := 17) (N := some 22) (bt 25 4194303) rfl rfl (any_of F43tab1 (by kernel_rfl)) (fun _ _ _ h => h) (Or.inl ⟨by rfl, by intro w'; go_simp; with_reducible rfl⟩) (by simp only [Act.put, pset]; rfl) ?_
  refine pure_ (i := 22) (N := some 27) (bt 25 8388607) rfl rfl (any_of F43tab1 (by kernel_rfl)) (fun _ _ _ h => h) (Or.inl ⟨by rfl, by intro w'; go_simp; with_reducible rfl⟩) (by simp only [Act.put, pset]; rfl) ?_
  refine pure_ (i := 23) (N := some 28) (bt 25 16777215) rfl rfl (any_of F43tab1 (by kernel_rfl)) (fun _ _ _ h => h) (Or.inl ⟨by rfl, by intro w'; go_simp; with_reducible rfl⟩) (by simp only [Act.put, pset]; rfl) ?_
  refine pure_ (i := 24) (N := some 4) (bt 25 33554431) rfl rfl (any_of F43tab1 (by kernel_rfl)) (fun _ _ _ h => h) (Or.inl ⟨by rfl, by intro w'; go_simp; with_reducible rfl⟩) (by simp only [Act.put, pset]; rfl) ?_
  refine done_ (done_of F43tab1 (by kernel_rfl)) ?_
  clear hHeld
  go_wp2_with fail
  go_ret
  obtain ⟨f0, f1⟩ := HF.out.le HWD.out (fun it hi => (HBD.out it hi).1)
  have f2 := frV_le its.reverse (fun it hi => (HBD.out it (List.mem_reverse.1 hi)).2) (fun it hi => (HBD.out it (List.mem_reverse.1 hi)).1)
  rw [List.length_reverse] at f2
  have ef := fit_of wdx HWX.out HFC.out n HF.out HC.out.1 HC.out.2.1 HC.out.2.2 f0 (by have := HN.out; omega)
  exact ⟨by rw [← ef]; rfl, HB.out⟩
set_option maxHeartbeats 4000000 in
set_option maxRecDepth 100000 in
theorem fits_true (h : Wr w B gw wd col pen out (its.map itc) modes) (hp : ∀ it ∈ its, PartAt w (fun k => k < B) it.x it.g) (hx : PartAt w (fun k => k < B) x g) (hb : ∀ it ∈ its, 0 ≤ (ldV it.x).1 ∧ (ldV it.x).1 ≤ 100000000) (hn : its.length ≤ 2000) (hwd : 0 ≤ wd) (hc : 0 ≤ col ∧ 0 ≤ wdV x ∧ col + wdV x ≤ 1000000000000) (hf : frcB x = true) : Calls Try.prog 43 #[.pointer (some ⟨gw, 0, none⟩), .pointer (some ⟨g, 0, none⟩)] w fun e w' => e = .returned (.bool (fitB x wd col (frV its.reverse))) ∧ Below w.heap.size w w' := by
  have hu57 := Try.underlying57
  have hu80 := Try.underlying80
  have H := Aside0.mk h
  have HP2 := Aside0.mk (show ∀ w2, Below w.heap.size w w2 → ∀ it ∈ its, PartAt w2 (fun k => k < B) it.x it.g from fun w2 hb2 it hi => PartAt.keep (fun k hk hl => ⟨hb2.block k hl, hk, Nat.lt_of_lt_of_le hl hb2.size⟩) _ _ (hp it hi))
  have HX := Aside0.mk hx
  have HBD := Aside0.mk hb
  have HN := Aside0.mk hn
  have HWD := Aside0.mk hwd
  obtain ⟨wdx, hwx⟩ : ∃ u : Int, wdV x = u := ⟨_, rfl⟩
  rw [hwx] at hc
  have HWX := Aside0.mk hwx
  have HC := Aside0.mk hc
  have HFC := Aside0.mk hf
  clear h hp hx hb hn hwd hwx hc hf
  go_enter Try.func43, Try.ntmps43
  go_upto_region 1 with (fail)
  have n0 := Aside0.mk (H.out.below (below_drew1 (Below.refl _ _)))
  have HS := Aside0.mk (fitS_of H.out HX.out)
  have hs_ : fitS gw g col wd wdx true w.drew := ⟨bc (below_drew1 (Below.refl _ _)) (HFC.out ▸ HS.out.1), bc (below_drew1 (Below.refl _ _)) HS.out.2.1, bc (below_drew1 (Below.refl _ _)) (HWX.out ▸ HS.out.2.2.1), bc (below_drew1 (Below.refl _ _)) HS.out.2.2.2.1, trivial⟩
  have HB := Aside0.mk (show Below w.heap.size w w.drew from below_drew1 (Below.refl _ _))
  clear HS
  refine start_ (n := 25) (S := fitS gw g col wd wdx true) (ds := []) #[false, false, false, false, false, false, false, false, false, false, false, false, false, false, false, false, false, false, false, false, false, false, false, false, false] (by kernel_rfl) rfl rfl (hs_) (fun hHeld => ?_)
  clear hs_
  generalize World.drew _ = w500 at n0 HB hHeld ⊢
  refine pure_ (i := 0) (N := some 5) (bt 25 1) rfl rfl (any_of F43tab1 (by kernel_rfl)) (fun _ _ _ h => h) (Or.inl ⟨by rfl, by intro w'; go_simp; with_reducible rfl⟩) (by simp only [Act.put, pset]; rfl) ?_
  refine pure_ (i := 1) (N := some 6) (bt 25 3) rfl rfl (any_of F43tab1 (by kernel_rfl)) (fun _ _ _ h => h) (Or.inl ⟨by rfl, by intro w'; go_simp; with_reducible rfl⟩) (by simp only [Act.put, pset]; rfl) ?_
  refine pure_ (i := 2) (N := some 7) (bt 25 7) rfl rfl (any_of F43tab1 (by kernel_rfl)) (fun _ _ _ h => h) (Or.inl ⟨by rfl, by intro w'; go_simp; with_reducible rfl⟩) (by simp only [Act.put, pset]; rfl) ?_
  refine take_ (i := 3) (N := some 8) (bt 25 15) rfl rfl (take_of F43tab1 (by kernel_rfl)) (fun _ _ _ h => h) (Or.inl ⟨by rfl, by rintro w' ⟨s0, s1, s2, s3, s4⟩; go_simp; with_reducible rfl⟩) hHeld (by simp only [Act.put, pset]; rfl) ?_
  refine pure_ (i := 4) (N := some 9) (bt 25 31) rfl rfl (any_of F43tab1 (by kernel_rfl)) (fun _ _ _ h => h) (Or.inl ⟨by rfl, by intro w'; go_simp; with_reducible rfl⟩) (by simp only [Act.put, pset]; rfl) ?_
  refine pure_ (i := 5) (N := some 10) (bt 25 63) rfl rfl (any_of F43tab1 (by kernel_rfl)) (fun _ _ _ h => h) (Or.inl ⟨by rfl, by intro w'; go_simp; with_reducible rfl⟩) (by simp only [Act.put, pset]; rfl) ?_
  refine pure_ (i := 6) (N := some 11) (v := undef) (bt 25 127) rfl rfl (any_of F43tab1 (by kernel_rfl)) (fun _ _ _ h => h) (Or.inr ⟨by rfl, rfl⟩) (by simp only [Act.put, pset]; rfl) ?_
  refine pure_ (i := 7) (N := some 12) (v := undef) (bt 25 255) rfl rfl (any_of F43tab1 (by kernel_rfl)) (fun _ _ _ h => h) (Or.inr ⟨by rfl, rfl⟩) (by simp only [Act.put, pset]; rfl) ?_
  refine pure_ (i := 8) (N := some 13) (v := undef) (bt 25 511) rfl rfl (any_of F43tab1 (by kernel_rfl)) (fun _ _ _ h => h) (Or.inr ⟨by rfl, rfl⟩) (by simp only [Act.put, pset]; rfl) ?_
  refine pure_ (i := 9) (N := some 14) (v := undef) (bt 25 1023) rfl rfl (any_of F43tab1 (by kernel_rfl)) (fun _ _ _ h => h) (Or.inr ⟨by rfl, rfl⟩) (by simp only [Act.put, pset]; rfl) ?_
  refine pure_ (i := 10) (N := some 15) (v := undef) (bt 25 2047) rfl rfl (any_of F43tab1 (by kernel_rfl)) (fun _ _ _ h => h) (Or.inr ⟨by rfl, rfl⟩) (by simp only [Act.put, pset]; rfl) ?_
  refine pure_ (i := 11) (N := some 16) (v := undef) (bt 25 4095) rfl rfl (any_of F43tab1 (by kernel_rfl)) (fun _ _ _ h => h) (Or.inr ⟨by rfl, rfl⟩) (by simp only [Act.put, pset]; rfl) ?_
  refine pure_ (i := 12) (N := some 17) (v := undef) (bt 25 8191) rfl rfl (any_of F43tab1 (by kernel_rfl)) (fun _ _ _ h => h) (Or.inr ⟨by rfl, rfl⟩) (by simp only [Act.put, pset]; rfl) ?_
  refine pure_ (i := 13) (N := some 18) (v := undef) (bt 25 16383) rfl rfl (any_of F43tab1 (by kernel_rfl)) (fun _ _ _ h => h) (Or.inr ⟨by rfl, rfl⟩) (by simp only [Act.put, pset]; rfl) ?_
  refine pure_ (i := 14) (N := some 19) (v := undef) (bt 25 32767) rfl rfl (any_of F43tab1 (by kernel_rfl)) (fun _ _ _ h => h) (Or.inr ⟨by rfl, rfl⟩) (by simp only [Act.put, pset]; rfl) ?_
  refine pure_ (i := 15) (N := some 20) (v := undef) (bt 25 65535) rfl rfl (any_of F43tab1 (by kernel_rfl)) (fun _ _ _ h => h) (Or.inr ⟨by rfl, rfl⟩) (by simp only [Act.put, pset]; rfl) ?_
  refine pure_ (i := 16) (N := some 21) (v := undef) (bt 25 131071) rfl rfl (any_of F43tab1 (by kernel_rfl)) (fun _ _ _ h => h) (Or.inr ⟨by rfl, rfl⟩) (by simp only [Act.put, pset]; rfl) ?_
  refine pure_ (i := 17) (N := some 22) (v := undef) (bt 25 262143) rfl rfl (any_of F43tab1 (by kernel_rfl)) (fun _ _ _ h => h) (Or.inr ⟨by rfl, rfl⟩) (by simp only [Act.put, pset]; rfl) ?_
  refine pure_ (i := 18) (N := some 23) (v := undef) (bt 25 524287) rfl rfl (any_of F43tab1 (by kernel_rfl)) (fun _ _ _ h => h) (Or.inr ⟨by rfl, rfl⟩) (by simp only [Act.put, pset]; rfl) ?_
  refine pure_ (i := 19) (N := some 24) (v := undef) (bt 25 1048575) rfl rfl (any_of F43tab1 (by kernel_rfl)) (fun _ _ _ h => h) (Or.inr ⟨by rfl, rfl⟩) (by simp only [Act.put, pset]; rfl) ?_
  refine pure_ (i := 20) (N := some 25) (v := undef) (bt 25 2097151) rfl rfl (any_of F43tab1 (by kernel_rfl)) (fun _ _ _ h => h) (Or.inr ⟨by rfl, rfl⟩) (by simp only [Act.put, pset]; rfl) ?_
  refine pure_ (i := 21) (N := some 26) (v := undef) (bt 25 4194303) rfl rfl (any_of F43tab1 (by kernel_rfl)) (fun _ _ _ h => h) (Or.inr ⟨by rfl, rfl⟩) (by simp only [Act.put, pset]; rfl) ?_
  refine pure_ (i := 22) (N := some 27) (v := undef) (bt 25 8388607) rfl rfl (any_of F43tab1 (by kernel_rfl)) (fun _ _ _ h => h) (Or.inr ⟨by rfl, rfl⟩) (by simp only [Act.put, pset]; rfl) ?_
  refine pure_ (i := 23) (N := some 28) (bt 25 16777215) rfl rfl (any_of F43tab1 (by kernel_rfl)) (fun _ _ _ h => h) (Or.inl ⟨by rfl, by intro w'; go_simp; with_reducible rfl⟩) (by simp only [Act.put, pset]; rfl) ?_
  refine pure_ (i := 24) (N := some 4) (bt 25 33554431) rfl rfl (any_of F43tab1 (by kernel_rfl)) (fun _ _ _ h => h) (Or.inl ⟨by rfl, by intro w'; go_simp; with_reducible rfl⟩) (by simp only [Act.put, pset]; rfl) ?_
  refine done_ (done_of F43tab1 (by kernel_rfl)) ?_
  clear hHeld
  go_wp2_with fail
  go_ret
  exact ⟨by unfold fitB; rw [HFC.out]; rfl, HB.out⟩
theorem fits_calls (h : Wr w B gw wd col pen out (its.map itc) modes) (hp : ∀ it ∈ its, PartAt w (fun k => k < B) it.x it.g) (hx : PartAt w (fun k => k < B) x g) (hb : ∀ it ∈ its, 0 ≤ (ldV it.x).1 ∧ (ldV it.x).1 ≤ 100000000) (hn : its.length ≤ 2000) (hwd : 0 ≤ wd) (hc : 0 ≤ col ∧ 0 ≤ wdV x ∧ col + wdV x ≤ 1000000000000) : Calls Try.prog 43 #[.pointer (some ⟨gw, 0, none⟩), .pointer (some ⟨g, 0, none⟩)] w fun e w' => e = .returned (.bool (fitB x wd col (frV its.reverse))) ∧ Below w.heap.size w w' := by
  cases hf : frcB x
  · exact fits_false h hp hx hb hn hwd hc hf
  · exact fits_true h hp hx hb hn hwd hc hf
end
end Go.Proofs.Ytigihiggpfjbjaa.PR

/- The writer's push. -/
namespace Go.Proofs.Ytigihiggpfjbjaa.PR
open Go.RowKit Go.Proofs.YtigihiggpfjbjaaW.PrintWords Go.Proofs.YtigihiggpfjbjaaW.PrintLast Go.Proofs.YtigihiggpfjbjaaW.PrintMore
set_option linter.unusedVariables false
set_option linter.unusedSimpArgs false
theorem F44tab3 : rtab .any (opsOf Try.f44 3) = (true, [([], []), ([], []), ([1], [1]), ([2], [2]), ([3], [3]), ([], []), ([5], [5]), ([6], [6]), ([7], [7]), ([], []), ([8, 9], [8, 9]), ([10], [10]), ([], []), ([], []), ([11, 12, 13], [11, 12, 13]), ([14], [14]), ([4, 15], [4, 15]), ([0, 0, 1, 2, 3, 4, 5, 6, 7, 8, 9, 10, 11, 12, 13, 14, 15, 16], [0]), ([17, 0, 1, 2, 3, 4, 5, 6, 7, 8, 9, 10, 11, 12, 13, 14, 15, 16], [17]), ([18, 16, 16, 0, 1, 2, 3, 4, 5, 6, 7, 8, 9, 10, 11, 12, 13, 14, 15, 16], [16, 18])]) := by kernel_rfl
theorem info68 : (Try.prog.info? 68).map (fun i => (i.zero, i.size, i.bytes)) = some (some (.agg #[.pointer none, .int .i64 0, .bool false]), 3, 24) := by kernel_rfl
section
variable {P : Program} {ops : Array Oper} {o : Oper} {a : Act} {Q : Exit → Act → World → Prop} {Kc : Act → World → Prop}
theorem lit_step {W : World} {m : Nat} {cs : Array Value} {t : TypeId} (hw : Region.wanted o (yielded ops a.tmps) = true)
    (hrun : (execOp a.eval o).run P W = .ok (.value (.slice (some ⟨W.heap.size, 0, none⟩) m m)) (W.alloc (.cells cs t (0, 0))))
    (h : ∀ g, g = W.heap.size → ∀ w1, w1.heap[g]? = some (.cells cs t (0, 0)) → Below W.heap.size W w1 → Kc (a.put o.dst (.slice (some ⟨g, 0, none⟩) m m)) w1) : if Region.wanted o (yielded ops a.tmps) = true then Oper.wp P o a W Kc Q else Kc (a.put o.dst undef) W :=
  event_step hw hrun (h _ rfl _ (blk_new W _) (below_alloc (Below.refl _ _) _))
end
theorem C_raw {w : World} {g t n : Nat} {cs : List Value} (hb : w.heap[g]? = some (.cells cs.toArray t (0, 0))) (hl : cs.length = n) (h1 : ∀ u ∈ cs, u.oneCell' = true) : (Kd.raw n).C w (some ⟨g, 0, none⟩) 1 [cs] := by
  refine ⟨rfl, by decide, fun _ => ⟨⟨g, 0, none⟩, rfl, fun j p hj => ?_⟩⟩
  have hj0 : j = 0 := by have := (List.getElem?_eq_some_iff.1 hj).1; simp at this; exact this
  subst hj0
  obtain rfl : cs = p := by simpa using hj
  refine ⟨cs, hl, ⟨rfl, hl, h1⟩, fun i u hu => ?_⟩
  rw [add_plain, blk_cell hb]
  simpa using hu
/-- A part's own parts, as items. -/
def kids (gs : List Nat) (l : List S24) (n : Int) (f : Bool) : List It := List.zipWith (fun g y => ⟨g, y, n, f⟩) gs l
theorem kids_len {gs : List Nat} {l : List S24} (h : gs.length = l.length) (n : Int) (f : Bool) : (kids gs l n f).length = l.length := by simp [kids, h]
theorem kids_at {gs : List Nat} {l : List S24} (h : gs.length = l.length) (n : Int) (f : Bool) (i g : Nat) (y : S24) (hg : gs[i]? = some g) (hy : l[i]? = some y) : (kids gs l n f)[i]? = some ⟨g, y, n, f⟩ := by
  simp [kids, List.getElem?_zipWith, hg, hy]
theorem drop_one {α : Type} {l : List α} {i : Nat} {x : α} (h : l[i]? = some x) : (l.drop i).reverse = (l.drop (i + 1)).reverse ++ [x] := by
  obtain ⟨hl, rfl⟩ := List.getElem?_eq_some_iff.1 h
  rw [List.drop_eq_getElem_cons hl, List.reverse_cons]
def pushS (gw g b i gi len n : Nat) (c : Nat) (vr : Value) (w' : World) : Prop := w'.cell? ⟨gw, 5, none⟩ = some vr ∧ w'.cell? ⟨g, 7, none⟩ = some (.slice (some ⟨b, 0, none⟩) len c) ∧ w'.cell? ⟨b, i, none⟩ = some (.pointer (some ⟨gi, 0, none⟩)) ∧ True
section
variable {w w' : World} {B gw g : Nat} {wd col pen : Int} {out : List Int} {modes : List Bool} {its : List It} {x : S24}
set_option maxHeartbeats 8000000 in
set_option maxRecDepth 100000 in
theorem push_calls (nest : Int) (flat : Bool) {A : Option Addr} {c : Nat} {gs : List Nat} (h : Wr w B gw wd col pen out (its.map itc) modes) (hx : w.heap[g]? = some (.cells (pcs x A c) 80 (0, 0))) (hgB : g < B) (hgs : gs.length = x.f3.length) (hrow : RowP w (fun k => k < B) A gs) (hn : its.length + x.f3.length ≤ 1000000) :
    Calls Try.prog 44 #[.pointer (some ⟨gw, 0, none⟩), .pointer (some ⟨g, 0, none⟩), .int .i64 nest, .bool flat] w fun e w' => e = .returned (.tuple #[]) ∧ Wr w' B gw wd col pen out ((its ++ (kids gs x.f3 nest flat).reverse).map itc) modes ∧ Below B w w' := by
  have hu57 := Try.underlying57
  have hu80 := Try.underlying80
  have hu78 := Try.underlying78
  have hu68 := Try.underlying68
  have H := Aside0.mk h
  have HX := Aside0.mk hx
  have HGB := Aside0.mk hgB
  have HGS := Aside0.mk hgs
  have HR := Aside0.mk hrow
  have HN := Aside0.mk hn
  have hnn : (x.f3.length : Int) ≤ 1000000 := by omega
  have HB := Aside0.mk (Below.refl B w)
  have p7 : w.cell? ⟨g, 7, none⟩ = some (.slice A x.f3.length c) := (blk_cell hx 7).trans rfl
  clear h hx hgB hgs hrow hn
  go_enter Try.func44, Try.ntmps44
  go_wp2_with fail
  clear p7
  go_loopg [8] x.f3.length (fun k' v8 wr => ∃ (i : Nat) (z : Int), v8 = .int .i64 z ∧ Aside0 (z = (i : Int) - 1) ∧ i ≤ x.f3.length ∧ Aside0 (k' = i) ∧ Aside0 (Wr wr B gw wd col pen out ((its ++ ((kids gs x.f3 nest flat).drop i).reverse).map itc) modes) ∧ Aside0 (Below B w wr))
  case atStart => exact ⟨x.f3.length, (x.f3.length : Int) - 1, rfl, ⟨rfl⟩, Nat.le_refl _, ⟨rfl⟩, ⟨by rw [List.drop_eq_nil_of_le (by rw [kids_len HGS.out]; exact Nat.le_refl _), List.reverse_nil, List.append_nil]; exact H.out⟩, HB⟩
  case round =>
    clear H HB
    obtain ⟨i, z, rfl, HZ, hi, HK, H, HB⟩ := hrel
    cases i with
    | zero =>
      obtain rfl : z = -1 := by have := HZ.out; omega
      go_wp2_with fail
      go_end0
      exact ⟨rfl, by have q := H.out; rw [List.drop_zero] at q; exact q, HB.out⟩
    | succ j =>
      obtain rfl : z = (j : Int) := by have := HZ.out; omega
      obtain ⟨b, rfl, hbB, hbl, hbc⟩ := HR.out (by rw [HGS.out]; omega)
      obtain ⟨gi, hgi⟩ : ∃ gi, gs[j]? = some gi := ⟨_, List.getElem?_eq_getElem (by rw [HGS.out]; omega)⟩
      obtain ⟨y, hy⟩ : ∃ y, x.f3[j]? = some y := ⟨_, List.getElem?_eq_getElem (by omega)⟩
      have KA := Aside0.mk (drop_one (kids_at HGS.out nest flat j gi y hgi hy))
      have KL : Aside0 ((its ++ ((kids gs x.f3 nest flat).drop (j + 1)).reverse).length + 1 ≤ 2000000) := ⟨by have := HN.out; rw [List.length_append, List.length_reverse, List.length_drop, kids_len HGS.out]; omega⟩
      obtain ⟨cur, hcur⟩ : ∃ cur, its ++ ((kids gs x.f3 nest flat).drop (j + 1)).reverse = cur := ⟨_, rfl⟩
      rw [hcur] at H KL
      have CUR := Aside0.mk hcur
      clear hcur
      obtain ⟨a, vb, vr, vm, hw, _, _, _, q5, _⟩ := H.out.open_
      have HW := Aside0.mk hw
      have P7 := Aside0.mk (show wr.cell? ⟨g, 7, none⟩ = some (.slice (some ⟨b, 0, none⟩) x.f3.length c) from ((HB.out.cell (p := ⟨g, 7, none⟩) HGB.out).trans (blk_cell HX.out 7)).trans rfl)
      have PB := Aside0.mk (show wr.cell? ⟨b, j, none⟩ = some (.pointer (some ⟨gi, 0, none⟩)) from (HB.out.cell (p := ⟨b, j, none⟩) hbB).trans (hbc j gi hgi))
      have HBL := Aside0.mk hbB
      clear hw hbl hbc hgi hy hbB
      obtain ⟨Ar, cr, er⟩ := HW.out.h0.vals.2.1
      rw [List.length_map] at er
      obtain ⟨nr, hnr⟩ : ∃ n, cur.length = n := ⟨_, rfl⟩
      rw [hnr] at er
      clear hnr
      go_upto_region 3 with (fail)
      have n1 := Aside0.mk (HW.out.h0.below (below_drew1 (Below.refl _ _)))
      have n2 := Aside0.mk (HB.out.trans (((below_drew1 (Below.refl _ _))).mono HW.out.h0.base_le))
      have n3 := Aside0.mk (bc (below_drew1 (Below.refl _ _)) P7.out)
      have n4 := Aside0.mk (bc (below_drew1 (Below.refl _ _)) PB.out)
      have n5 := Aside0.mk HW.out.ha
      have hs_ : pushS gw g b j gi x.f3.length 0 c vr wr.drew := ⟨(blk_cell n1.out.wa 5).trans rfl, n3.out, n4.out, trivial⟩
      clear H HW HB P7 PB q5
      have HW := n1
      have HB := n2
      have P7 := n3
      have PB := n4
      have HA := n5
      clear n1 n2 n3 n4 n5
      refine start_ (n := 20) (S := pushS gw g b j gi x.f3.length 0 c vr) (ds := [19]) #[false, false, false, false, false, false, false, false, false, false, false, false, false, false, false, false, false, false, false, false] (by kernel_rfl) rfl rfl (hs_) (fun hHeld => ?_)
      clear hs_
      generalize World.drew _ = w500 at HW HB P7 PB hHeld ⊢
      subst er
      refine pure_ (i := 0) (N := some 19) (bt 20 1) rfl rfl (any_of F44tab3 (by kernel_rfl)) (fun _ _ _ h => h) (Or.inl ⟨by rfl, by intro w'; go_simp; with_reducible rfl⟩) (by simp only [Act.put, pset]; rfl) ?_
      refine pure_ (i := 1) (N := some 20) (bt 20 3) rfl rfl (any_of F44tab3 (by kernel_rfl)) (fun _ _ _ h => h) (Or.inl ⟨by rfl, by intro w'; go_simp; with_reducible rfl⟩) (by simp only [Act.put, pset]; rfl) ?_
      refine pure_ (i := 2) (N := some 21) (bt 20 7) rfl rfl (any_of F44tab3 (by kernel_rfl)) (fun _ _ _ h => h) (Or.inl ⟨by rfl, by intro w'; go_simp; with_reducible rfl⟩) (by simp only [Act.put, pset]; rfl) ?_
      refine pure_ (i := 3) (N := some 22) (bt 20 15) rfl rfl (any_of F44tab3 (by kernel_rfl)) (fun _ _ _ h => h) (Or.inl ⟨by rfl, by intro w'; go_simp; with_reducible rfl⟩) (by simp only [Act.put, pset]; rfl) ?_
      refine take_ (i := 4) (N := some 23) (bt 20 31) rfl rfl (take_of F44tab3 (by kernel_rfl)) (fun _ _ _ h => h) (Or.inl ⟨by rfl, by rintro w' ⟨s0, s1, s2, s3⟩; go_simp; with_reducible rfl⟩) hHeld (by simp only [Act.put, pset]; rfl) ?_
      refine pure_ (i := 5) (N := some 24) (bt 20 63) rfl rfl (any_of F44tab3 (by kernel_rfl)) (fun _ _ _ h => h) (Or.inl ⟨by rfl, by intro w'; go_simp; with_reducible rfl⟩) (by simp only [Act.put, pset]; rfl) ?_
      refine pure_ (i := 6) (N := some 25) (bt 20 127) rfl rfl (any_of F44tab3 (by kernel_rfl)) (fun _ _ _ h => h) (Or.inl ⟨by rfl, by intro w'; go_simp; with_reducible rfl⟩) (by simp only [Act.put, pset]; rfl) ?_
      refine pure_ (i := 7) (N := some 26) (bt 20 255) rfl rfl (any_of F44tab3 (by kernel_rfl)) (fun _ _ _ h => h) (Or.inl ⟨by rfl, by intro w'; go_simp; with_reducible rfl⟩) (by simp only [Act.put, pset]; rfl) ?_
      refine take_ (i := 8) (N := some 27) (bt 20 511) rfl rfl (take_of F44tab3 (by kernel_rfl)) (fun _ _ _ h => h) (Or.inl ⟨by rfl, by rintro w' ⟨s0, s1, s2, s3⟩; go_simp; with_reducible rfl⟩) hHeld (by simp only [Act.put, pset]; rfl) ?_
      refine pure_ (i := 9) (N := some 28) (bt 20 1023) rfl rfl (any_of F44tab3 (by kernel_rfl)) (fun _ _ _ h => h) (Or.inl ⟨by rfl, by intro w'; go_simp; with_reducible rfl⟩) (by simp only [Act.put, pset]; rfl) ?_
      refine pure_ (i := 10) (N := some 29) (bt 20 2047) rfl rfl (any_of F44tab3 (by kernel_rfl)) (fun _ _ _ h => h) (Or.inl ⟨by rfl, by intro w'; go_simp; rw [if_pos (by omega)]⟩) (by simp only [Act.put, pset]; rfl) ?_
      refine take_ (i := 11) (N := some 30) (bt 20 4095) rfl rfl (take_of F44tab3 (by kernel_rfl)) (fun _ _ _ h => h) (Or.inl ⟨by rfl, by rintro w' ⟨s0, s1, s2, s3⟩; go_simp; with_reducible rfl⟩) hHeld (by simp only [Act.put, pset]; rfl) ?_
      refine pure_ (i := 12) (N := some 31) (bt 20 8191) rfl rfl (any_of F44tab3 (by kernel_rfl)) (fun _ _ _ h => h) (Or.inl ⟨by rfl, by intro w'; go_simp; with_reducible rfl⟩) (by simp only [Act.put, pset]; rfl) ?_
      refine pure_ (i := 13) (N := some 32) (bt 20 16383) rfl rfl (any_of F44tab3 (by kernel_rfl)) (fun _ _ _ h => h) (Or.inl ⟨by rfl, by intro w'; go_simp; with_reducible rfl⟩) (by simp only [Act.put, pset]; rfl) ?_
      refine pure_ (i := 14) (N := some 33) (bt 20 32767) rfl rfl (any_of F44tab3 (by kernel_rfl)) (fun _ _ _ h => h) (Or.inl ⟨by rfl, by intro w'; go_simp; with_reducible rfl⟩) (by simp only [Act.put, pset]; rfl) ?_
      refine one_ (i := 15) (N := some 34) (bt 20 65535) rfl rfl (one_of F44tab3 (by kernel_rfl)) (by decide) (fun K hK => ?_)
      refine lit_step (m := 1) (cs := #[.pointer (some ⟨gi, 0, none⟩), .int .i64 nest, .bool flat]) (t := 68) (by rfl) ?hrun ?_
      case hrun => first | (go_simp; done) | (go_simp; rfl)
      intro gl hg w501 hbox hb
      have BL := Aside0.mk hbox; have n1 := Aside0.mk (HW.out.below hb); have n2 := Aside0.mk (HB.out.trans ((hb).mono HW.out.base_le)); have n3 := Aside0.mk (bc hb P7.out); have n4 := Aside0.mk (bc hb PB.out); clear HW HB P7 PB hb; have HW := n1; have HB := n2; have P7 := n3; have PB := n4; clear n1 n2 n3 n4
      clear hbox hg
      refine hK.out _ _ (⟨(blk_cell HW.out.wa 5).trans rfl, P7.out, PB.out, trivial⟩) (fun hHeld => ?_)
      clear hK K
      refine norm_ (show Act.put _ (some 34) _ = _ from (by simp only [Act.put, pset]; rfl)) ?_
      refine one_ (i := 16) (N := some 35) (bt 20 131071) rfl rfl (one_of F44tab3 (by kernel_rfl)) (by decide) (fun K hK => ?_)
      refine Kd.R_append_rows_step (Kd.raw 3) (w0 := w) B (by rfl) (.tmp 23) (.tmp 34) 55 68 (.agg #[.pointer none, .int .i64 0, .bool false]) 24 rfl Try.underlying55 info68 rfl (by decide) (by decide) (.slice Ar nr cr) (cur.map itc) [[.pointer (some ⟨gi, 0, none⟩), .int .i64 nest, .bool flat]] (some ⟨gl, 0, none⟩) 1 1 (fun k => B ≤ k) (fun _ => False) rfl rfl HW.out.hr (C_raw BL.out rfl (by simp [Value.oneCell'])) (fun _ _ h => h) (fun _ h => h.elim) (fun k hk => Nat.le_trans HW.out.base_le hk) HB.out HW.out.base_le (by have := KL.out; rw [List.length_map]; omega) ?_
      intro v8 w8 hR8 hB8 hg8 hat8
      obtain ⟨A8, c8, ev8⟩ := Kd.R_slice hR8
      obtain ⟨n8, hn8⟩ : ∃ n, (cur.map itc ++ [([.pointer (some ⟨gi, 0, none⟩), .int .i64 nest, .bool flat] : List Value)]).length = n := ⟨_, rfl⟩
      rw [hn8] at ev8
      subst ev8
      have G := Aside0.mk (HW.out.grow_r hR8 hg8)
      have P8 := Aside0.mk ((hB8.cell (p := ⟨g, 7, none⟩) HGB.out).trans ((blk_cell HX.out 7).trans rfl) : w8.cell? ⟨g, 7, none⟩ = some (.slice (some ⟨b, 0, none⟩) x.f3.length c))
      have PB8 := Aside0.mk ((World.cell?_of_block (a := ⟨b, j, none⟩) (hB8.block b HBL.out)).trans ((World.cell?_of_block (a := ⟨b, j, none⟩) (HB.out.block b HBL.out)).symm.trans PB.out))
      have HB8 := Aside0.mk hB8
      clear HW HB P7 PB BL hR8 hB8 hg8 hat8 hn8
      refine hK.out _ _ (⟨(blk_cell G.out.wa 5).trans rfl, P8.out, PB8.out, trivial⟩) (fun hHeld => ?_)
      clear hK K
      refine norm_ (show Act.put _ (some 35) _ = _ from (by simp only [Act.put, pset]; rfl)) ?_
      refine pure_ (i := 17) (N := some 36) (bt 20 262143) rfl rfl (any_of F44tab3 (by kernel_rfl)) (fun _ _ _ h => h) (Or.inl ⟨by rfl, by intro w'; go_simp; with_reducible rfl⟩) (by simp only [Act.put, pset]; rfl) ?_
      refine pure_ (i := 18) (N := some 37) (bt 20 524287) rfl rfl (any_of F44tab3 (by kernel_rfl)) (fun _ _ _ h => h) (Or.inl ⟨by rfl, by intro w'; go_simp; with_reducible rfl⟩) (by simp only [Act.put, pset]; rfl) ?_
      have c5 : w8.cell? ⟨gw, 5, none⟩ = some (.slice Ar nr cr) := (blk_cell G.out.wa 5).trans rfl
      have f5 := blk_frozen G.out.wa 5
      refine last_ (i := 19) (N := none) (bt 20 1048575) rfl rfl (one_of F44tab3 (by kernel_rfl)) (by decide) (fun K hK => ?_)
      refine skip_ (w1 := w8.setCell ⟨gw, 5, none⟩ (.slice A8 n8 c8)) rfl rfl ?hrun ?_
      case hrun => first | (go_simp; done) | (go_simp; rfl)
      refine hK.out _ _ (done_ (done_of F44tab3 (by kernel_rfl)) ?_)
      clear hHeld hK K c5 f5 P8 PB8
      have FW : Aside0 (Wr (w8.setCell ⟨gw, 5, none⟩ (.slice A8 n8 c8)) B gw wd col pen out ((its ++ ((kids gs x.f3 nest flat).drop j).reverse).map itc) modes) := ⟨by
        rw [KA.out, ← List.append_assoc, CUR.out, List.map_append]
        exact ⟨a, vb, _, vm, G.out.set 5 _ rfl, HA.out⟩⟩
      have FB := Aside0.mk (HB8.out.trans (G.out.set_below 5 (.slice A8 n8 c8)))
      generalize World.setCell _ _ _ = w9 at FW FB ⊢
      go_wp2_with fail
      go_roundg j
      case measure => have := HK.out; omega
      case rel => exact ⟨j, (j : Int) - 1, rfl, ⟨rfl⟩, by omega, ⟨rfl⟩, FW, FB⟩
end
end Go.Proofs.Ytigihiggpfjbjaa.PR
