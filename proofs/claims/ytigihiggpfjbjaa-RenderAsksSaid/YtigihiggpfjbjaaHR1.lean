/- The document's R as it lies; its rest. -/
import Derived.Test.YtigihiggpfjbjaaHCd
namespace Go.Proofs.Ytigihiggpfjbjaa.PR
open Go.RowKit Go.Proofs.YtigihiggpfjbjaaW.PrintWords Go.Proofs.YtigihiggpfjbjaaW.PrintLast Go.Proofs.YtigihiggpfjbjaaW.PrintMore
set_option linter.unusedVariables false
set_option linter.unusedSimpArgs false
theorem info60 : (Try.prog.info? 60).map (fun i => (i.zero, i.size, i.bytes)) = some (some (.agg #[.int .i64 0, .int .i64 0, .string (⟨#[]⟩ : ByteArray), .slice none 0 0, .int .i64 0, .bool false]), 6, 72) := by kernel_rfl
/-- What is still to come: a document as it lies, how far it is nested, whether it is on one line. -/
structure Ir where
  x : S24
  A : Option Addr
  c : Nat
  n : Int
  f : Bool
def Ir.it (r : Ir) : It := ⟨0, r.x, r.n, r.f⟩
def irc (r : Ir) : List Value := [.int .i64 r.x.f0, .int .i64 r.x.f1, .string r.x.f2, .slice r.A r.x.f3.length r.c, .int .i64 r.n, .bool r.f]
structure Rr0 (w : World) (B gw : Nat) (cs : Array Value) (vr vo vm : Value) (out : List Int) (rows : List (List Value)) (modes : List Bool) : Prop where
  wa : w.heap[gw]? = some (.cells cs 37 (0, 0))
  hb : w.ownsRow B 5 1 vo out.length (nums .u8 out)
  hr : (Kd.raw 6).R 60 w B (fun k => B ≤ k) vr rows
  hm : w.ownsRow B 4 1 vm (modes.map Value.bool).length (modes.map Value.bool)
  bw : B ≤ gw
def rcs (wd : Int) (vr vo : Value) (col pen : Int) (vm : Value) : Array Value := #[.int .i64 wd, vr, vo, .int .i64 col, .int .i64 pen, vm]
section
variable {w w' : World} {B gw : Nat} {vo vr vm v1 : Value} {out out' : List Int} {rows rows' : List (List Value)} {modes modes' : List Bool} {cs : Array Value}
theorem raw_keep6 {e : TypeId} {s : Nat} {v : Value} {xs : List (List Value)} (h : (Kd.raw s).R e w B (fun k => B ≤ k) v xs) (hk : ∀ k, v.ownBlock = some k → w'.heap[k]? = w.heap[k]?) : (Kd.raw s).R e w' B (fun k => B ≤ k) v xs :=
  Kd.R_reok rfl (Kd.R_step (Kd.R_tight rfl h) (fun k hk' _ => hk k hk'.symm)) (fun k hk' => Kd.R_base h k hk')
theorem Rr0.base_le (h : Rr0 w B gw cs vr vo vm out rows modes) : B ≤ w.heap.size := Nat.le_trans h.bw (Nat.le_of_lt (blk_lt h.wa))
theorem Rr0.below (h : Rr0 w B gw cs vr vo vm out rows modes) (hb : Below w.heap.size w w') : Rr0 w' B gw cs vr vo vm out rows modes :=
  ⟨blk_below h.wa hb, pw_own_below h.hb hb, Kd.R_below h.hr hb, pw_own_below h.hm hb, h.bw⟩
theorem Rr0.set (h : Rr0 w B gw cs vr vo vm out rows modes) (j : Nat) (u : Value) {cs' : Array Value} (hc : cs.setIfInBounds j u = cs') : Rr0 (w.setCell ⟨gw, j, none⟩ u) B gw cs' vr vo vm out rows modes := by
  refine ⟨blk_put h.wa j u hc, own_set h.hb (own_ne_blk h.hb h.wa (by decide)) j u, ?_, own_set h.hm (own_ne_blk h.hm h.wa (by decide)) j u, h.bw⟩
  have hne := raw_ne_blk h.hr h.wa (by decide)
  exact raw_keep h.hr (fun k hk => Below.heap_setCell w ⟨gw, j, none⟩ u k (fun e => hne (by rw [hk, e])))
theorem Rr0.set_below (h : Rr0 w B gw cs vr vo vm out rows modes) (j : Nat) (u : Value) : Below B w (w.setCell ⟨gw, j, none⟩ u) := (Below.refl B w).setCell h.bw u
theorem Rr0.grow_b (h : Rr0 w B gw cs vr vo vm out rows modes) (ho : w'.ownsRow B 5 1 v1 out'.length (nums .u8 out')) (hg : w.grownBy w' vo.ownBlock) : Rr0 w' B gw cs vr v1 vm out' rows modes := by
  refine ⟨blk_grown h.wa hg (own_ne_blk h.hb h.wa (by decide)).symm, ho, raw_keep h.hr (fun k hk => ?_), own_other h.hm hg (own_type_ne h.hm h.hb (by decide)), h.bw⟩
  obtain ⟨cells, hc⟩ := Kd.R_typed h.hr k hk
  exact hg.block k (blk_lt hc) (fun e => own_ne_blk h.hb hc (by decide) e.symm)
theorem Rr0.grow_m (h : Rr0 w B gw cs vr vo vm out rows modes) (ho : w'.ownsRow B 4 1 v1 (modes'.map Value.bool).length (modes'.map Value.bool)) (hg : w.grownBy w' vm.ownBlock) : Rr0 w' B gw cs vr vo v1 out rows modes' := by
  refine ⟨blk_grown h.wa hg (own_ne_blk h.hm h.wa (by decide)).symm, own_other h.hb hg (own_type_ne h.hb h.hm (by decide)), raw_keep h.hr (fun k hk => ?_), ho, h.bw⟩
  obtain ⟨cells, hc⟩ := Kd.R_typed h.hr k hk
  exact hg.block k (blk_lt hc) (fun e => own_ne_blk h.hm hc (by decide) e.symm)
theorem Rr0.grow_r (h : Rr0 w B gw cs vr vo vm out rows modes) (ho : (Kd.raw 6).R 60 w' B (fun k => B ≤ k) v1 rows') (hg : w.grownBy w' vr.ownBlock) : Rr0 w' B gw cs v1 vo vm out rows' modes := by
  have aux : ∀ {e : TypeId} {n s : Nat} {v : Value} {xs : List Value}, w.ownsRow B e s v n xs → e ≠ 60 → v.ownBlock = none ∨ v.ownBlock ≠ vr.ownBlock := fun {e n s v xs} h1 h2 => by
    cases hv : v.ownBlock with
    | none => exact Or.inl rfl
    | some k =>
      obtain ⟨cells, hc⟩ := own_typed h1 k hv
      exact Or.inr (raw_ne_blk h.hr hc h2).symm
  exact ⟨blk_grown h.wa hg (raw_ne_blk h.hr h.wa (by decide)).symm, own_other h.hb hg (aux h.hb (by decide)), ho, own_other h.hm hg (aux h.hm (by decide)), h.bw⟩
theorem Rr0.vals (h : Rr0 w B gw cs vr vo vm out rows modes) : (∃ A c, vo = .slice A out.length c) ∧ (∃ A c, vr = .slice A rows.length c) ∧ ∃ A c, vm = .slice A modes.length c := by
  obtain ⟨A, c, e⟩ := own_slice h.hm
  exact ⟨own_slice h.hb, Kd.R_slice h.hr, A, c, by rw [e, List.length_map]⟩
end
/-- R at block gw, what it holds. -/
def RS (w : World) (B gw : Nat) (wd : Int) (S : St) (its : List Ir) : Prop := ∃ vr vo vm, Rr0 w B gw (rcs wd vr vo S.col (S.pen : Int) vm) vr vo vm S.out (its.map irc) S.modes
section
variable {w w' : World} {B gw : Nat} {wd : Int} {S : St} {its : List Ir}
theorem RS.below (h : RS w B gw wd S its) (hb : Below w.heap.size w w') : RS w' B gw wd S its := by
  obtain ⟨vr, vo, vm, h0⟩ := h
  exact ⟨vr, vo, vm, h0.below hb⟩
theorem RS.base_le (h : RS w B gw wd S its) : B ≤ w.heap.size := by
  obtain ⟨vr, vo, vm, h0⟩ := h
  exact h0.base_le
theorem RS.lt (h : RS w B gw wd S its) : gw < w.heap.size := by
  obtain ⟨vr, vo, vm, h0⟩ := h
  exact blk_lt h0.wa
theorem RS.frozen (h : RS w B gw wd S its) (j : Nat) : w.frozen? ⟨gw, j, none⟩ = false := by
  obtain ⟨vr, vo, vm, h0⟩ := h
  exact blk_frozen h0.wa j
theorem RS.set_below (h : RS w B gw wd S its) (j : Nat) (u : Value) : Below B w (w.setCell ⟨gw, j, none⟩ u) := by
  obtain ⟨vr, vo, vm, h0⟩ := h
  exact h0.set_below j u
theorem RS.open_ (h : RS w B gw wd S its) : ∃ vr vo vm, Rr0 w B gw (rcs wd vr vo S.col (S.pen : Int) vm) vr vo vm S.out (its.map irc) S.modes ∧ w.cell? ⟨gw, 0, none⟩ = some (.int .i64 wd) ∧ w.cell? ⟨gw, 1, none⟩ = some vr ∧ w.cell? ⟨gw, 2, none⟩ = some vo ∧ w.cell? ⟨gw, 3, none⟩ = some (.int .i64 S.col) ∧ w.cell? ⟨gw, 4, none⟩ = some (.int .i64 (S.pen : Int)) ∧ w.cell? ⟨gw, 5, none⟩ = some vm := by
  obtain ⟨vr, vo, vm, h0⟩ := h
  exact ⟨vr, vo, vm, h0, (blk_cell h0.wa 0).trans rfl, (blk_cell h0.wa 1).trans rfl, (blk_cell h0.wa 2).trans rfl, (blk_cell h0.wa 3).trans rfl, (blk_cell h0.wa 4).trans rfl, (blk_cell h0.wa 5).trans rfl⟩
theorem RS.c0 (h : RS w B gw wd S its) : w.cell? ⟨gw, 0, none⟩ = some (.int .i64 wd) := by
  obtain ⟨_, _, _, _, q, _⟩ := h.open_
  exact q
theorem RS.c3 (h : RS w B gw wd S its) : w.cell? ⟨gw, 3, none⟩ = some (.int .i64 S.col) := by
  obtain ⟨_, _, _, _, _, _, _, q, _⟩ := h.open_
  exact q
theorem RS.c4 (h : RS w B gw wd S its) : w.cell? ⟨gw, 4, none⟩ = some (.int .i64 (S.pen : Int)) := by
  obtain ⟨_, _, _, _, _, _, _, _, q, _⟩ := h.open_
  exact q
theorem RS.item (h : RS w B gw wd S its) (j : Nat) (it : Ir) (hj : its[j]? = some it) :
    ∃ g cap, its.length ≤ cap ∧ w.cell? ⟨gw, 1, none⟩ = some (.slice (some ⟨g, 0, none⟩) its.length cap) ∧ w.cell? ⟨g, j * 6, none⟩ = some (.int .i64 it.x.f0) ∧ w.cell? ⟨g, j * 6 + 1, none⟩ = some (.int .i64 it.x.f1) ∧ w.cell? ⟨g, j * 6 + 2, none⟩ = some (.string it.x.f2) ∧ w.cell? ⟨g, j * 6 + 3, none⟩ = some (.slice it.A it.x.f3.length it.c) ∧ w.cell? ⟨g, j * 6 + 4, none⟩ = some (.int .i64 it.n) ∧ w.cell? ⟨g, j * 6 + 5, none⟩ = some (.bool it.f) := by
  obtain ⟨vr, vo, vm, h0, _, h1, _⟩ := h.open_
  have hl := (List.getElem?_eq_some_iff.1 hj).1
  obtain ⟨g, cap, hv, _, _, _⟩ := Kd.R_form h0.hr (by rw [List.length_map]; omega)
  rw [List.length_map] at hv
  subst hv
  have hcap : its.length ≤ cap := by
    obtain ⟨_, inner, hown, _⟩ := h0.hr
    exact own_le hown
  obtain ⟨cs, hcl, hM, hcc, _⟩ := Kd.R_elem h0.hr [] (j : Int) (by omega) (by omega)
  have hri : cs = irc it := by
    have h1 := hM.1
    rw [List.getD_eq_getElem?_getD, Int.toNat_natCast, List.getElem?_map, hj] at h1
    exact h1
  subst hri
  rw [Int.toNat_natCast] at hcc
  exact ⟨g, cap, hcap, h1, hcc 0 _ rfl, hcc 1 _ rfl, hcc 2 _ rfl, hcc 3 _ rfl, hcc 4 _ rfl, hcc 5 _ rfl⟩
theorem RS.len (h : RS w B gw wd S its) : ∃ A cap, w.cell? ⟨gw, 1, none⟩ = some (.slice A its.length cap) := by
  obtain ⟨vr, vo, vm, h0, _, h1, _⟩ := h.open_
  obtain ⟨_, ⟨A, c, e⟩, _⟩ := h0.vals
  rw [e, List.length_map] at h1
  exact ⟨A, c, h1⟩
end
theorem frV_take2 (its : List Ir) (j : Nat) (it : Ir) (h : its[j]? = some it) : frV ((its.take (j + 1)).reverse.map Ir.it) = if (ldV it.x).2 = true then (ldV it.x).1 else (ldV it.x).1 + frV ((its.take j).reverse.map Ir.it) := by
  obtain ⟨hl, rfl⟩ := List.getElem?_eq_some_iff.1 h
  rw [List.take_succ_eq_append_getElem hl, List.reverse_append]
  rfl
theorem ldf_of (x : S24) (A : Option Addr) (c : Nat) (p : Int) (q : Bool) (w : World) (h : Dc w x A c) (hx : finD x) (hc : cnt x ≤ 500) (ho : allOwn x = true) (ep : (ldV x).1 = p) (eq : (ldV x).2 = q) : Calls Try.prog 31 #[.agg #[.int .i64 x.f0, .int .i64 x.f1, .string x.f2, .slice A x.f3.length c]] w fun e w' => e = .returned (.tuple #[.int .i64 p, .bool q]) ∧ Below w.heap.size w w' := by
  obtain ⟨k, hk⟩ := (frontR _ x (Nat.le_refl _) hc hx ho).rounds
  exact galleyref15_front.calls k _ _ _ _ _ _ p q w h.g3 h.l3 (hk.trans (by rw [← ep, ← eq]))
/-- A document that may stand in the row. -/
structure OkI (wD : World) (r : Ir) : Prop where
  dx : Dc wD r.x r.A r.c
  fin : finD r.x
  own : allOwn r.x = true
  few : cnt r.x ≤ 500
section
variable {wD w w' : World} {B gw : Nat} {wd : Int} {S : St} {its : List Ir}
set_option maxHeartbeats 4000000 in
set_option maxRecDepth 100000 in
theorem rest_calls (hD : Below wD.heap.size wD w) (h : RS w B gw wd S its) (hi : ∀ r ∈ its, OkI wD r) (hn : its.length ≤ 1100) :
    Calls Try.prog 37 #[.pointer (some ⟨gw, 0, none⟩)] w fun e w' => e = .returned (.int .i64 (frV (its.reverse.map Ir.it))) ∧ Below w.heap.size w w' := by
  have hu37 := Try.underlying37
  have hu34 := Try.underlying34
  have hu60 := Try.underlying60
  have hu24 := Try.underlying24
  have H := Aside0.mk h
  have HD := Aside0.mk hD
  have HI := Aside0.mk hi
  have HN := Aside0.mk hn
  have hnn : (its.length : Int) ≤ 1100 := by omega
  have HB := Aside0.mk (Below.refl w.heap.size w)
  obtain ⟨A5, c5, q1⟩ := h.len
  clear h hD hi hn
  go_enter Try.func37, Try.ntmps37
  go_wp2_with fail
  clear q1
  go_loopg [3, 4, 5, 6] its.length (fun k' v3 v4 v5 v6 wr => ∃ (i : Nat) (m z : Int), v3 = .int .i64 m ∧ v4 = .int .i64 z ∧ Aside0 (z = (i : Int) - 1) ∧ i ≤ its.length ∧ Aside0 (k' = i) ∧ Aside0 (m + frV ((its.take i).reverse.map Ir.it) = frV (its.reverse.map Ir.it)) ∧ Aside0 (0 ≤ m ∧ m ≤ 100000000 * ((its.length : Int) - i)) ∧ Aside0 (Below w.heap.size w wr))
  case atStart => exact ⟨its.length, 0, (its.length : Int) - 1, rfl, rfl, ⟨rfl⟩, Nat.le_refl _, ⟨rfl⟩, ⟨by rw [List.take_length, Int.zero_add]⟩, ⟨by omega⟩, HB⟩
  case round =>
    clear HB
    obtain ⟨i, m, z, rfl, rfl, HZ, hi, HK, HS, HM, HB⟩ := hrel
    cases i with
    | zero =>
      obtain rfl : z = -1 := by have := HZ.out; omega
      go_wp2_with fail
      go_ret
      exact ⟨by rw [← HS.out]; simp [frV], HB.out⟩
    | succ j =>
      obtain rfl : z = (j : Int) := by have := HZ.out; omega
      obtain ⟨it, hit⟩ : ∃ it, its[j]? = some it := ⟨_, List.getElem?_eq_getElem (by omega)⟩
      have HO := Aside0.mk (HI.out it (List.mem_of_getElem? hit))
      obtain ⟨g, cap, _, q1, r0, r1, r2, r3, r4, r5⟩ := (H.out.below HB.out).item j it hit
      have HT := Aside0.mk (frV_take2 its j it hit)
      have HX := Aside0.mk (Dc.below (HO.out.dx) (below_step HD.out HB.out))
      obtain ⟨ld, hld⟩ : ∃ u : Int, (ldV it.x).1 = u := ⟨_, rfl⟩
      obtain ⟨en, hen⟩ : ∃ u : Bool, (ldV it.x).2 = u := ⟨_, rfl⟩
      rw [hld, hen] at HT
      have HL := Aside0.mk (show 0 ≤ ld ∧ ld ≤ 100000000 from by have h1 := ldV_le _ HO.out.fin; have h2 := HO.out.few; rw [hld] at h1; omega)
      have HLD := Aside0.mk hld
      have HEN := Aside0.mk hen
      have hji : (j : Int) < 1100 := by omega
      have EM : Aside0 (wrap64 (m + ld) = m + ld) := ⟨by have := HM.out; have := HL.out; have := HN.out; unfold wrap64; omega⟩
      clear hit hld hen r4 r5
      cases en
      · have ES := HT.out
        rw [if_neg (by decide)] at ES
        have ES2 := Aside0.mk ES
        clear ES HT
        go_wp2_with (first | ((with_reducible refine gate_dst (N := 26) rfl ?_); refine goesL_ (some 26) rfl rfl Try.func31 (by kernel_rfl) rfl #[.agg #[.int .i64 it.x.f0, .int .i64 it.x.f1, .string it.x.f2, .slice it.A it.x.f3.length it.c]] rfl (by (try simp only [List.map_toArray, List.map_cons, List.map_nil]); first | done | rfl) ?_; (refine (ldf_of it.x it.A it.c ld false _ HX.out HO.out.fin HO.out.few HO.out.own HLD.out HEN.out).mono ?_); (rintro e w9 ⟨rfl, hb⟩; refine ⟨_, rfl, ?_⟩; have n1 := Aside0.mk (below_step HB.out hb); clear HB hb q1 r0 r1 r2 r3; have HB := n1; clear n1)))
        go_roundg j
        case measure => have := HK.out; omega
        case rel => exact ⟨j, m + ld, (j : Int) - 1, by rw [EM.out], rfl, ⟨rfl⟩, by omega, ⟨rfl⟩, ⟨by have := HS.out; have := ES2.out; omega⟩, ⟨by have := HM.out; have := HL.out; omega⟩, HB⟩
      · have ES := HT.out
        rw [if_pos rfl] at ES
        have ES2 := Aside0.mk ES
        clear ES HT
        go_wp2_with (first | ((with_reducible refine gate_dst (N := 26) rfl ?_); refine goesL_ (some 26) rfl rfl Try.func31 (by kernel_rfl) rfl #[.agg #[.int .i64 it.x.f0, .int .i64 it.x.f1, .string it.x.f2, .slice it.A it.x.f3.length it.c]] rfl (by (try simp only [List.map_toArray, List.map_cons, List.map_nil]); first | done | rfl) ?_; (refine (ldf_of it.x it.A it.c ld true _ HX.out HO.out.fin HO.out.few HO.out.own HLD.out HEN.out).mono ?_); (rintro e w9 ⟨rfl, hb⟩; refine ⟨_, rfl, ?_⟩; have n1 := Aside0.mk (below_step HB.out hb); clear HB hb q1 r0 r1 r2 r3; have HB := n1; clear n1)))
        go_ret
        exact ⟨(by rw [show wrap64 (m + ld) = frV (its.reverse.map Ir.it) from by have := HS.out; have := ES2.out; have := EM.out; omega]; rfl), HB.out⟩
end
end Go.Proofs.Ytigihiggpfjbjaa.PR
