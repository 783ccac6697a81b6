/- Words and walks that the law leans on: HS26, HS27, HS28. Conditions: none. -/
import Derived.Test.YthipodffpkglfaaGreatDoorJ12
import Derived.Laws.StructEq
import Derived.ChangeMaps4
import Derived.Carry
import Derived.ChangeMaps5
namespace Go.Proofs.YthipodffpkglfaaGreatDoor.PS
open Go.RowKit Go.Proofs.YthipodffpkglfaaGreatDoorW.PrintWords Go.Proofs.YthipodffpkglfaaGreatDoorW.PrintLast Go.Proofs.YthipodffpkglfaaGreatDoorW.PrintMore
set_option linter.unusedVariables false
set_option linter.unusedSimpArgs false
theorem F69tab0 : rtab .any (opsOf Tryz.f69 0) = (true, [([], []), ([], []), ([], []), ([], []), ([], []), ([], []), ([], []), ([4, 5, 6], [4, 5, 6]), ([1, 2, 3, 7], [1, 2, 3, 7]), ([8], [8]), ([0, 9, 7], [0, 9]), ([10, 10, 0, 1, 2, 3, 4, 5, 6, 7, 8, 9, 10], [10])]) := by kernel_rfl
/-- An item. -/
structure It where
  b : Nat
  p : Nat
  note : Bool
def k78 : Kd It := Kd.iso (Kd.pair (Kd.int .i64) (Kd.pair (Kd.int .i64) (Kd.pair Kd.bool Kd.bool))) (fun x => ((x.b : Int), (x.p : Int), x.note, false))
theorem k78_mk (w : World) (x : It) : k78.K w x (itc x.b x.p x.note).toList := ⟨[.int .i64 x.b], [.int .i64 x.p, .bool x.note, .bool false], rfl, rfl, [.int .i64 x.p], [.bool x.note, .bool false], rfl, rfl, [.bool x.note], [.bool false], rfl, rfl, rfl⟩
theorem k78_open {w : World} {x : It} {cs : List Value} (h : k78.K w x cs) : cs = (itc x.b x.p x.note).toList := by
  obtain ⟨_, _, rfl, rfl, _, _, rfl, rfl, _, _, rfl, rfl, rfl⟩ := h
  rfl
theorem info78z : (Tryz.prog.info? 78).map (fun i => (i.zero, i.size, i.bytes)) = some (some (.agg #[.int .i64 0, .int .i64 0, .bool false, .bool false]), 4, 24) := by kernel_rfl
theorem info74s : (Tryz.prog.info? 74).map (·.size) = some 1 := by kernel_rfl
theorem F_lit78 {w : World} {ok : Nat → Prop} {g : Nat} {x : It} (hb : w.heap[g]? = some (.cells (itc x.b x.p x.note) 78 (0, 0))) (hg : ok g) : Kd.F k78 w ok (some ⟨g, 0, none⟩) [x].length [x] := by
  intro W hW
  have hbW := (hW g hg (blk_lt hb)).trans hb
  refine ⟨rfl, by show 1 ≤ _; omega, fun _ => ⟨⟨g, 0, none⟩, rfl, fun q y hq => ?_⟩⟩
  rcases q with _ | q
  · simp only [List.getElem?_cons_zero, Option.some.injEq] at hq
    subst hq
    refine ⟨_, rfl, k78_mk W x, fun u v hu => ?_⟩
    rw [add_plain, blk_cell hbW]
    simpa using hu
  · simp at hq
theorem Fg.grown {wD w0 w w' : World} {bs : List (Nat × Nat × Array Value)} {row : Option Nat} (F : Fg wD w0 bs [] w) (hb : Below w0.heap.size w w') (hg : w.grownBy w' row) (hr : ∀ k, row = some k → ∀ b ∈ bs, k ≠ b.1) : Fg wD w0 bs [] w' :=
  ⟨F.hb.trans (hb.mono F.dl), F.dl, Nat.le_trans F.sz hb.size, fun k h => (hb.block k h).trans (F.kb k h), fun b m => ⟨(hg.block _ (F.lt b m) (fun he => hr _ he.symm b m rfl)).trans (F.bx b m).1, (F.bx b m).2⟩, F.ne, fun _ h => (by cases h)⟩
theorem Fg.bxs {wD w0 w : World} {bs : List (Nat × Nat × Array Value)} {ns : List (Option Addr × List S45)} (F : Fg wD w0 bs ns w) : Bx bs w := fun b hb => (F.bx b hb).1
/-- What Split's closure finds. -/
def spB (gO g3 g2 : Nat) (v : Value) (A : Option Addr) (m c : Nat) (s : ByteArray) : List (Nat × Nat × Array Value) := [(gO, 74, #[v]), (g3, 56, #[.slice A m c]), (g2, 9, #[.string s])]
def spOk (w0 : World) (gO g3 g2 : Nat) (k : Nat) : Prop := w0.heap.size ≤ k ∧ k ≠ gO ∧ k ≠ g3 ∧ k ≠ g2
/-- Split's state. -/
structure Sp (wD w0 : World) (gO g3 g2 : Nat) (A : Option Addr) (m c : Nat) (s : ByteArray) (xs : List It) (w : World) : Prop where
  ex : ∃ A1 c1, Fg wD w0 (spB gO g3 g2 (.slice A1 xs.length c1) A m c s) [] w ∧ Kd.N k78 78 w w0.heap.size (spOk w0 gO g3 g2) (.slice A1 xs.length c1) xs
section
variable {wD w0 w : World} {s : ByteArray} {A : Option Addr} {c m b p : Nat} {toks : List Tk} {gO g3 g2 : Nat} {xs : List It} {note : Bool}
set_option maxHeartbeats 4000000 in
set_option maxRecDepth 100000 in
theorem add_calls (h : Sp wD w0 gO g3 g2 A m c s xs w) (hx : xs.length ≤ 100000) (hbl : ∀ w, Below wD.heap.size wD w → Calls Tryz.prog 70 #[.string s, .slice A m c, .int .i64 b] w fun e w' => e = .returned (.bool false) ∧ Below w.heap.size w w') : Calls Tryz.prog 69 #[.int .i64 b, .int .i64 p, .bool note, .pointer (some ⟨gO, 0, none⟩), .pointer (some ⟨g2, 0, none⟩), .pointer (some ⟨g3, 0, none⟩)] w fun e w' => e = .returned (.tuple #[]) ∧ Sp wD w0 gO g3 g2 A m c s (xs ++ [⟨b, p, note⟩]) w' := by
  have hu74 := Tryz.underlying74
  have hu9 := Tryz.underlying9
  have hu56 := Tryz.underlying56
  obtain ⟨A1, c1, F0, N0⟩ := h.ex
  have F := Aside0.mk F0
  have HN := Aside0.mk N0
  have HX := Aside0.mk hx
  have HBL := Aside0.mk hbl
  clear h F0 N0 hx hbl
  go_enter Tryz.func69, Tryz.ntmps69
  refine start_ (n := 12) (S := Bx (spB gO g3 g2 (.slice A1 xs.length c1) A m c s)) (ds := [11]) (bt 12 0) (by kernel_rfl) rfl (by kernel_rfl) (F.out.below (below_drew1 (Below.refl _ _))).bxs (fun hHeld => ?_)
  have n0 := Aside0.mk (F.out.below (below_drew1 (Below.refl _ _)))
  have N0 := Aside0.mk (Kd.N_below HN.out (below_drew1 (Below.refl _ _)))
  clear HN
  have HN := N0
  clear F
  have F := n0
  generalize World.drew _ = w500 at F HN hHeld ⊢
  refine take_ (i := 0) (N := some 9) (bt 12 1) rfl rfl (take_of F69tab0 (by kernel_rfl)) (fun _ _ _ h => h) (Or.inl ⟨by rfl, fun w' s_ => run_ldc (v := (.slice A1 xs.length c1)) rfl rfl (Bx.at_ s_ (n := 0) rfl) rfl hu74 rfl⟩) hHeld (by simp only [Act.put, pset]; rfl) ?_
  refine pure_ (i := 1) (N := some 10) (bt 12 3) rfl rfl (any_of F69tab0 (by kernel_rfl)) (fun _ _ _ h => h) (Or.inl ⟨by rfl, by intro w'; go_simp; with_reducible rfl⟩) (by simp only [Act.put, pset]; rfl) ?_
  refine pure_ (i := 2) (N := some 11) (bt 12 7) rfl rfl (any_of F69tab0 (by kernel_rfl)) (fun _ _ _ h => h) (Or.inl ⟨by rfl, by intro w'; go_simp; with_reducible rfl⟩) (by simp only [Act.put, pset]; rfl) ?_
  refine pure_ (i := 3) (N := some 12) (bt 12 15) rfl rfl (any_of F69tab0 (by kernel_rfl)) (fun _ _ _ h => h) (Or.inl ⟨by rfl, by intro w'; go_simp; with_reducible rfl⟩) (by simp only [Act.put, pset]; rfl) ?_
  refine take_ (i := 4) (N := some 13) (bt 12 31) rfl rfl (take_of F69tab0 (by kernel_rfl)) (fun _ _ _ h => h) (Or.inl ⟨by rfl, fun w' s_ => run_ldc (v := (.string s)) rfl rfl (Bx.at_ s_ (n := 2) rfl) rfl hu9 rfl⟩) hHeld (by simp only [Act.put, pset]; rfl) ?_
  refine take_ (i := 5) (N := some 14) (bt 12 63) rfl rfl (take_of F69tab0 (by kernel_rfl)) (fun _ _ _ h => h) (Or.inl ⟨by rfl, fun w' s_ => run_ldc (v := (.slice A m c)) rfl rfl (Bx.at_ s_ (n := 1) rfl) rfl hu56 rfl⟩) hHeld (by simp only [Act.put, pset]; rfl) ?_
  refine pure_ (i := 6) (N := some 15) (bt 12 127) rfl rfl (any_of F69tab0 (by kernel_rfl)) (fun _ _ _ h => h) (Or.inl ⟨by rfl, by intro w'; go_simp; with_reducible rfl⟩) (by simp only [Act.put, pset]; rfl) ?_
  refine one_ (i := 7) (N := some 16) (bt 12 255) rfl rfl (one_of F69tab0 (by kernel_rfl)) (by decide) (fun K hK => ?_)
  refine goes_ Tryz.func70 (by kernel_rfl) rfl #[.string s, .slice A m c, .int .i64 b] (by rfl) rfl rfl (by (try simp only [List.map_toArray, List.map_cons, List.map_nil]); first | done | rfl) ?_
  refine (HBL.out _ F.out.hb).mono ?_
  rintro e w501 ⟨rfl, hb⟩
  refine ⟨_, rfl, ?_⟩
  have N0 := Aside0.mk (Kd.N_below HN.out hb); clear HN; have HN := N0; have n0 := Aside0.mk (F.out.below hb); clear F hb; have F := n0
  refine hK.out _ _ F.out.bxs (fun hHeld => ?_)
  clear hK K
  refine norm_ (show Act.put _ (some 16) _ = _ from (by simp only [Act.put, pset]; rfl)) ?_
  refine pure_ (i := 8) (N := some 17) (bt 12 511) rfl rfl (any_of F69tab0 (by kernel_rfl)) (fun _ _ _ h => h) (Or.inl ⟨by rfl, by intro w'; go_simp; with_reducible rfl⟩) (by simp only [Act.put, pset]; rfl) ?_
  refine one_ (i := 9) (N := some 18) (bt 12 1023) rfl rfl (one_of F69tab0 (by kernel_rfl)) (by decide) (fun K hK => ?_)
  refine lit_step (m := 1) (cs := #[.int .i64 b, .int .i64 p, .bool note, .bool false]) (t := 78) (by rfl) ?hrun ?_
  case hrun => first | (go_simp; done) | (go_simp; rfl)
  intro g18 hg w502 hbox hb
  have HN0 := HN
  have N0 := Aside0.mk (Kd.N_below HN.out hb); clear HN; have HN := N0;
  have GL := Aside0.mk (show spOk w0 gO g3 g2 g18 from ⟨by rw [hg]; exact F.out.sz, by have := F.out.lt _ (List.mem_of_getElem? (i := 0) rfl); simp at this; omega, by have := F.out.lt _ (List.mem_of_getElem? (i := 1) rfl); simp at this; omega, by have := F.out.lt _ (List.mem_of_getElem? (i := 2) rfl); simp at this; omega⟩)
  have NO := Aside0.mk (show some g18 ≠ (Value.slice A1 xs.length c1).ownBlock from fun he => by have := Kd.N_lt HN0.out g18 he.symm; omega)
  have HL := Aside0.mk (F_lit78 (x := ⟨b, p, note⟩) (ok := fun k => spOk w0 gO g3 g2 k ∧ some k ≠ (Value.slice A1 xs.length c1).ownBlock) hbox ⟨GL.out, NO.out⟩)
  have n0 := Aside0.mk (F.out.below hb); clear F hbox hb hg; have F := n0
  refine hK.out _ _ F.out.bxs (fun hHeld => ?_)
  clear hK K
  refine norm_ (show Act.put _ (some 18) _ = _ from (by simp only [Act.put, pset]; rfl)) ?_
  refine one_ (i := 10) (N := some 19) (bt 12 2047) rfl rfl (one_of F69tab0 (by kernel_rfl)) (by decide) (fun K hK => ?_)
  refine Kd.N_append_rows_step k78 (w0 := w502) w0.heap.size (by rfl) _ _ 74 78 _ 24 rfl Tryz.underlying74 info78z rfl (by decide) (by decide) _ xs [⟨b, p, note⟩] (some ⟨g18, 0, none⟩) 1 1 (spOk w0 gO g3 g2) _ rfl rfl HN.out HL.out (fun k hk => hk) (fun k hk => ?hfr) (Below.refl _ _) F.out.sz (by have := HX.out; simp; omega) ?_
  case hfr =>
    refine ⟨Nat.le_trans F.out.sz hk, ?_, ?_, ?_⟩
    · have := F.out.lt _ (List.mem_of_getElem? (i := 0) rfl); simp at this; omega
    · have := F.out.lt _ (List.mem_of_getElem? (i := 1) rfl); simp at this; omega
    · have := F.out.lt _ (List.mem_of_getElem? (i := 2) rfl); simp at this; omega
  intro v1 w503 hN1 hb1 hg1 hat1
  (obtain ⟨A2, c2, rfl⟩ := Kd.N_slice hN1)
  (obtain ⟨zs, hz⟩ : ∃ zs, xs ++ [(⟨b, p, note⟩ : It)] = zs := ⟨_, rfl⟩)
  rw [hz] at hN1 ⊢
  have HZ := Aside0.mk hz
  have n0 := Aside0.mk (F.out.grown hb1 hg1 (fun k hk b hb => by
    have h1 := HN.out.1 k hk
    simp only [spB, List.mem_cons, List.not_mem_nil, or_false] at hb
    rcases hb with rfl | rfl | rfl
    · exact h1.2.1
    · exact h1.2.2.1
    · exact h1.2.2.2))
  have N0 := Aside0.mk hN1
  clear HN F hN1 hb1 hg1 hat1 hz
  have HN := N0; have F := n0
  refine hK.out _ _ F.out.bxs (fun hHeld => ?_)
  clear hK K
  refine norm_ (show Act.put _ (some 19) _ = _ from (by simp only [Act.put, pset]; rfl)) ?_
  refine last_ (i := 11) (N := none) (bt 12 4095) rfl rfl (one_of F69tab0 (by kernel_rfl)) (by decide) (fun K hK => ?_)
  refine st_cell_step (by rfl) rfl (T := 74) (p := 3) (x := .tmp 19) rfl (k := 0) (v := .slice A2 zs.length c2) rfl rfl (F.out.at_ (n := 0) rfl) (by show 0 < 1; decide) info74s rfl rfl ?_
  intro w504 q1 q2 q3
  have n0 : Aside0 (Fg wD w0 (spB gO g3 g2 (.slice A2 zs.length c2) A m c s) [] _) := ⟨F.out.put (n := 0) rfl q1 q2 q3⟩
  have N0 := Aside0.mk (Kd.N_step HN.out (fun k hk _ => q3 k hk.2.1))
  clear HN F q1 q2 q3
  have HN := N0; have F := n0
  refine hK.out _ _ ?_
  clear hK K
  refine norm_ (show Act.put _ none _ = _ from (by simp only [Act.put, pset]; rfl)) ?_
  refine done_ (done_of F69tab0 (by kernel_rfl)) ?_
  clear hHeld
  go_end0
  rw [HZ.out]
  exact ⟨rfl, A2, c2, F.out, HN.out⟩
end
/-- Tokens as forms and comments. -/
def Segs (toks : List Tk) : Nat → List (Bool × Nat) → Prop
  | b, [] => b = toks.length
  | b, (nt, n) :: r => (∀ q, q < n → ∃ x, toks[b + q]? = some x ∧ (x.k == 11) = nt ∧ (nt = false → (x.k == 10) = decide (q + 1 = n))) ∧ 1 ≤ n ∧ (nt = true → n = 1) ∧ Segs toks (b + n) r
def itemsF : Nat → List (Bool × Nat) → List It
  | _, [] => []
  | b, (nt, n) :: r => ⟨b, b + n, nt⟩ :: itemsF (b + n) r
theorem segs_le {toks : List Tk} : ∀ {b : Nat} {r : List (Bool × Nat)}, Segs toks b r → b + r.length ≤ toks.length
  | b, [], h => by
    have h' : b = toks.length := h
    simp [h']
  | b, (nt, n) :: r, h => by
    have h1 := segs_le h.2.2.2
    have := h.2.1
    simp only [List.length_cons]
    omega
section
variable {wD w : World} {s : ByteArray} {A : Option Addr} {c : Nat} {toks : List Tk}
set_option maxHeartbeats 4000000 in
set_option maxRecDepth 100000 in
theorem split_calls (hb : Below wD.heap.size wD w) (tk : TokAt wD A toks) (hl : toks.length ≤ 100000) (segs : List (Bool × Nat)) (hs : Segs toks 0 segs) (hbl : ∀ (w : World) (b : Nat), b < toks.length → Below wD.heap.size wD w → Calls Tryz.prog 70 #[.string s, .slice A toks.length c, .int .i64 b] w fun e w' => e = .returned (.bool false) ∧ Below w.heap.size w w') : Calls Tryz.prog 43 #[.string s, .slice A toks.length c] w fun e w' => ∃ A1 c1, e = .returned (.slice A1 (itemsF 0 segs).length c1) ∧ (itemsF 0 segs).length ≤ c1 ∧ Kd.F k78 w' (fun k => w.heap.size ≤ k) A1 (itemsF 0 segs).length (itemsF 0 segs) ∧ KeepBut w w' w.heap.size none ∧ Below wD.heap.size wD w' := by
  have hu74 := Tryz.underlying74
  have hu9 := Tryz.underlying9
  have hu56 := Tryz.underlying56
  have hu86 := Tryz.underlying86
  have hu3 := Tryz.underlying3
  have hmf : ∀ (fn : Fn) (first cap : Array Value) (w : World), (Instr.makeFunc fn first cap).run Tryz.prog w = .ok (.func fn first cap) w := fun _ _ _ _ => rfl
  have F := Aside0.mk (Fg.init hb)
  have TK := Aside0.mk tk
  have HS := Aside0.mk hs
  obtain ⟨m, hm⟩ : ∃ m, toks.length = m := ⟨_, rfl⟩
  rw [hm] at hl hbl ⊢
  have HM := Aside0.mk hm
  have HBL := Aside0.mk hbl
  have HL := Aside0.mk hl
  obtain ⟨all, hall⟩ : ∃ all, itemsF 0 segs = all := ⟨_, rfl⟩
  rw [hall]
  have HALL := Aside0.mk hall
  clear hb tk hs hm hbl hl hall
  go_enter Tryz.func43, Tryz.ntmps43
  go_wp2_with (first | ((with_reducible refine gate_dst (N := 2) rfl ?_); refine box_event ?hg (N := 2) ?hd (cs := #[.string s]) (t := 9) ?hr ?_; (case hd => rfl); (case hg => rfl); (case hr => first | (go_simp; done) | (go_simp; rfl)); intro g2 hg w302 hbox hb; have n0 := Aside0.mk (F.out.box hg hbox hb); clear F hbox hb hg; have F := n0) | ((with_reducible refine gate_dst (N := 3) rfl ?_); refine box_event ?hg (N := 3) ?hd (cs := #[.slice A m c]) (t := 56) ?hr ?_; (case hd => rfl); (case hg => rfl); (case hr => first | (go_simp; done) | (go_simp; rfl)); intro g3 hg w303 hbox hb; have n0 := Aside0.mk (F.out.box hg hbox hb); clear F hbox hb hg; have F := n0) | ((with_reducible refine gate_dst (N := 5) rfl ?_); refine box_event ?hg (N := 5) ?hd (cs := #[.slice none 0 0]) (t := 74) ?hr ?_; (case hd => rfl); (case hg => rfl); (case hr => first | (go_simp; done) | (go_simp; rfl)); intro g5 hg w305 hbox hb; have n0 := Aside0.mk (F.out.box hg hbox hb); clear F hbox hb hg; have F := n0))
  have SP := Aside0.mk (show Sp wD w g5 g3 g2 A m c s [] w305 from ⟨none, 0, F.out, Kd.N_nil k78 78 _ _ _⟩)
  clear F
  go_loopg [7] segs.length (fun k' v7 wr => ∃ (b : Nat) (r : List (Bool × Nat)) (xs : List It), v7 = .int .i64 (b : Int) ∧ Aside0 (k' = r.length) ∧ Aside0 (Segs toks b r) ∧ Aside0 (xs ++ itemsF b r = all) ∧ Aside0 (Sp wD w g5 g3 g2 A m c s xs wr) ∧ Aside0 (xs.length ≤ b))
  case atStart => exact ⟨0, segs, [], rfl, ⟨rfl⟩, HS, ⟨by rw [← HALL.out]; rfl⟩, SP, ⟨Nat.le_refl _⟩⟩
  case round =>
    clear SP HS HALL
    obtain ⟨b, r, xs, rfl, HK, HS, HALL, SP, HXB⟩ := hrel
    obtain ⟨A1, c1, F0, N0⟩ := SP.out.ex
    have HF := Aside0.mk F0
    have HN := Aside0.mk N0
    have c3 : wr.cell? ⟨g3, 0, none⟩ = some (.slice A m c) := (blk_cell (F0.at_ (n := 1) rfl) 0).trans rfl
    have hml := HL.out
    clear F0 N0
    cases r with
    | nil =>
      have hbm : b = m := by rw [← HM.out]; exact HS.out
      subst hbm
      have cO : wr.cell? ⟨g5, 0, none⟩ = some (.slice A1 xs.length c1) := (blk_cell (HF.out.at_ (n := 0) rfl) 0).trans rfl
      have hx : xs = all := by rw [← HALL.out]; exact (List.append_nil xs).symm
      go_wp2_with fail
      go_ret
      rw [← hx]
      exact ⟨A1, c1, rfl, (Kd.N_reads' HN.out).2.1, Kd.F_mono (Kd.N_F HN.out) (fun _ h => h.1), HF.out.kept, HF.out.hb⟩
    | cons y r =>
      obtain ⟨nt, n⟩ := y
      obtain ⟨hq, hn1, hnt, hrest⟩ := HS.out
      have hle := segs_le hrest
      rw [HM.out] at hle
      cases nt with
      | true =>
        obtain rfl : n = 1 := hnt rfl
        obtain ⟨x, hx0, hx1, _⟩ := hq 0 (by omega)
        obtain ⟨ad, rfl, t0, _, _⟩ := tok_at TK.out HF.out.hb hx0
        rw [Nat.add_zero] at t0
        have hbm : b < m := by omega
        have HBM := Aside0.mk hbm
        have HR := Aside0.mk hrest
        obtain ⟨q1, hq1⟩ : ∃ q1, b + 1 = q1 := ⟨_, rfl⟩
        have e1 : wrap64 ((b : Int) + 1) = (q1 : Int) := by unfold wrap64; omega
        rw [hq1] at HR
        have Q1 := Aside0.mk hq1
        clear hq1 hq hn1 hnt hrest hle hx0
        go_wp2_with (first | ((with_reducible refine gate_dst (N := 24) rfl ?_); refine val_event rfl (.int .i64 (q1 : Nat)) ?hr ?_; (case hr => first | (go_simp; done) | (go_simp; rw [i64_w]; assumption) | (go_simp; rfl))) | ((with_reducible refine gate_dst (N := 27) rfl ?_); refine val_event rfl (.int .i64 (q1 : Nat)) ?hr ?_; (case hr => first | (go_simp; done) | (go_simp; rw [i64_w]; assumption) | (go_simp; rfl))) | ((with_reducible refine gate_dst (N := 25) rfl ?_); refine goesV_ (some 25) rfl rfl Tryz.func69 (by kernel_rfl) rfl #[.int .i64 b, .int .i64 q1, .bool true, .pointer (some ⟨g5, 0, none⟩), .pointer (some ⟨g2, 0, none⟩), .pointer (some ⟨g3, 0, none⟩)] rfl rfl (by simp only [List.map_toArray, List.map_cons, List.map_nil, List.append_toArray, List.nil_append, List.cons_append]; rfl) ?_; (refine (add_calls (p := q1) SP.out (by have := HXB.out; omega) (fun w hb => HBL.out w b HBM.out hb)).mono ?_); (rintro e w125 ⟨rfl, hsp⟩; refine ⟨_, rfl, ?_⟩; have HSP := Aside0.mk hsp; clear hsp)))
        go_roundg r.length
        case measure => have := HK.out; simp at this; omega
        case rel =>
          refine ⟨q1, r, xs ++ [⟨b, q1, true⟩], rfl, ⟨rfl⟩, HR, ⟨?_⟩, HSP, ⟨by have := HXB.out; have := Q1.out; simp; omega⟩⟩
          rw [← HALL.out, ← Q1.out]; simp [itemsF]
      | false =>
        obtain ⟨q1, hq1⟩ : ∃ q1, b + 1 = q1 := ⟨_, rfl⟩
        obtain ⟨pe, hpe⟩ : ∃ pe, b + n = pe := ⟨_, rfl⟩
        obtain ⟨x, hx0, hx1, _⟩ := hq 0 (by omega)
        obtain ⟨ad, rfl, t0, _, _⟩ := tok_at TK.out HF.out.hb hx0
        rw [Nat.add_zero] at t0
        have hbm : b < m := by omega
        have HBM := Aside0.mk hbm
        have HQ := Aside0.mk hq
        have HR := Aside0.mk (show Segs toks pe r by rw [← hpe]; exact hrest)
        have e1 : wrap64 ((b : Int) + 1) = (q1 : Int) := by unfold wrap64; omega
        have Q1 := Aside0.mk (show b + 1 = q1 ∧ b + n = pe ∧ 1 ≤ n ∧ pe ≤ m from ⟨hq1, hpe, hn1, by omega⟩)
        clear hq hn1 hnt hrest hle hx0 hq1 hpe
        go_wp2_with (first | ((with_reducible refine gate_dst (N := 29) rfl ?_); refine val_event rfl (.int .i64 (q1 : Nat)) ?hr ?_; (case hr => first | (go_simp; done) | (go_simp; rw [i64_w]; assumption) | (go_simp; rfl))))
        go_loopg [8, 9] n (fun k' v8 v9 wr2 => ∃ (j : Nat) (v : Int), v8 = .int .i64 v ∧ v9 = .int .i64 (j : Int) ∧ Aside0 (b ≤ j ∧ j < pe ∧ k' + j = pe) ∧ wr2 = wr)
        case atStart => exact ⟨b, _, rfl, rfl, ⟨by have := Q1.out; omega⟩, rfl⟩
        case round =>
          clear t0 hx1 e1
          obtain ⟨j, v, rfl, rfl, HJ, rfl⟩ := hrel
          have hj := HJ.out
          have hQ1 := Q1.out
          obtain ⟨y, hy0, hy1, hy2⟩ := HQ.out (j - b) (by omega)
          rw [show b + (j - b) = j by omega] at hy0
          obtain ⟨ad2, ea2, v0, _, _⟩ := tok_at TK.out HF.out.hb hy0
          injection ea2 with ea2
          subst ea2
          have hjm : j < m := by omega
          have hne : (y.k != 11) = true := by rw [bne, hy1]; rfl
          have hd := hy2 (by first | trivial | rfl)
          obtain ⟨q2, hq2⟩ : ∃ q2, j + 1 = q2 := ⟨_, rfl⟩
          have e2 : wrap64 ((j : Int) + 1) = (q2 : Int) := by unfold wrap64; omega
          clear hy0 hy2
          by_cases hlast : j + 1 = pe
          · rw [decide_eq_true (by omega)] at hd
            have Q2 := Aside0.mk (show q2 = pe by omega)
            clear hj hQ1 hq2 hlast hy1
            go_wp2_with (first | ((with_reducible refine gate_dst (N := 44) rfl ?_); refine val_event rfl (.int .i64 (q2 : Nat)) ?hr ?_; (case hr => first | (go_simp; done) | (go_simp; rw [i64_w]; assumption) | (go_simp; rfl))) | ((with_reducible refine gate_dst (N := 54) rfl ?_); refine goesV_ (some 54) rfl rfl Tryz.func69 (by kernel_rfl) rfl #[.int .i64 b, .int .i64 q2, .bool false, .pointer (some ⟨g5, 0, none⟩), .pointer (some ⟨g2, 0, none⟩), .pointer (some ⟨g3, 0, none⟩)] rfl rfl (by simp only [List.map_toArray, List.map_cons, List.map_nil, List.append_toArray, List.nil_append, List.cons_append]; rfl) ?_; (refine (add_calls (p := q2) SP.out (by have := HXB.out; omega) (fun w hb => HBL.out w b HBM.out hb)).mono ?_); (rintro e w154 ⟨rfl, hsp⟩; refine ⟨_, rfl, ?_⟩; have HSP := Aside0.mk hsp; clear hsp)))
            go_roundg r.length
            case measure => have := HK.out; simp at this; omega
            case rel =>
              refine ⟨q2, r, xs ++ [⟨b, q2, false⟩], rfl, ⟨rfl⟩, ⟨by rw [Q2.out]; exact HR.out⟩, ⟨?_⟩, HSP, ⟨by have := HXB.out; have := Q1.out; have := Q2.out; simp; omega⟩⟩
              rw [← HALL.out, Q2.out, ← Q1.out.2.1]
              simp [itemsF]
          · rw [decide_eq_false (by omega)] at hd
            have Q2 := Aside0.mk (show j + 1 = q2 ∧ j + 1 ≠ pe from ⟨hq2, hlast⟩)
            clear hj hQ1 hq2 hlast hy1
            go_wp2_with (first | ((with_reducible refine gate_dst (N := 44) rfl ?_); refine val_event rfl (.int .i64 (q2 : Nat)) ?hr ?_; (case hr => first | (go_simp; done) | (go_simp; rw [i64_w]; assumption) | (go_simp; rfl))) | ((with_reducible refine gate_dst (N := 36) rfl ?_); refine val_event rfl (.int .i64 (q2 : Nat)) ?hr ?_; (case hr => first | (go_simp; done) | (go_simp; rw [i64_w]; assumption) | (go_simp; rfl))))
            go_roundg (gk - 1)
            case measure => have := HJ.out; have := Q1.out; omega
            case rel => exact ⟨q2, _, rfl, rfl, ⟨by have := HJ.out; have := Q2.out; have := Q1.out; omega⟩, rfl⟩
end
end Go.Proofs.YthipodffpkglfaaGreatDoor.PS
namespace Go.Proofs.YthipodffpkglfaaGreatDoor.PS
open Go.RowKit Go.Proofs.YthipodffpkglfaaGreatDoorW.PrintWords Go.Proofs.YthipodffpkglfaaGreatDoorW.PrintLast Go.Proofs.YthipodffpkglfaaGreatDoorW.PrintMore
set_option linter.unusedVariables false
set_option linter.unusedSimpArgs false
/-- A key. -/
structure K2 where
  a : Nat
  b : Nat
abbrev K2.v (k : K2) : Value := .agg #[.int .i64 k.a, .int .i64 k.b]
def K2.same (x y : K2) : Bool := decide (x.a = y.a) && decide (x.b = y.b)
theorem fields83 : Tryz.prog.underlying 83 = some (.struct (Tryz.prog.fieldsOf 83)) := by
  simp only [Program.fieldsOf, Tryz.underlying83]
theorem stood83 : Tryz.prog.stoodInHeld 83 = false := by kernel_rfl
theorem key2_eq (x y : K2) (w : World) : (Op.equal 83 x.v y.v).run Tryz.prog w = .ok (x.same y) w := by
  show (Op.equalIn (9999 + 1) 83 (.agg #[.int .i64 x.a, .int .i64 x.b]) (.agg #[.int .i64 y.a, .int .i64 y.b])).run Tryz.prog w = _
  rw [run_equalIn_struct w 9999 83 _ _ fields83 stood83]
  simp only [Program.fieldsOf, Tryz.underlying83]
  obtain ⟨a1, a2⟩ := x
  obtain ⟨b1, b2⟩ := y
  go_simp
  simp only [K2.same]
  by_cases h1 : a1 = b1 <;> by_cases h2 : a2 = b2 <;> simp [h1, h2] <;> omega
set_option maxRecDepth 100000 in
theorem key2_check (e : Bool) (k : K2) (w : World) : (Instr.checkKey e 10000 83 k.v).run Tryz.prog w = .ok () w := by
  rfl
/-- The first key that is this one, and what it has. -/
def idx2 (k : K2) : List (K2 × Value) → Nat → Option (Nat × Value)
  | [], _ => none
  | x :: r, i => if k.same x.1 then some (i, x.2) else idx2 k r (i + 1)
def Ent2 (es : List MapEntry) (kv : List (K2 × Value)) : Prop := es.length = kv.length ∧ ∀ (j : Nat) (e : MapEntry), es[j]? = some e → ∃ x, kv[j]? = some x ∧ e.key = x.1.v ∧ e.val = x.2
theorem Ent2.nil : Ent2 [] [] := ⟨rfl, fun j e h => by simp at h⟩
theorem Ent2.cons {e : MapEntry} {es : List MapEntry} {x : K2 × Value} {kv : List (K2 × Value)} (h : Ent2 (e :: es) (x :: kv)) : e.key = x.1.v ∧ e.val = x.2 ∧ Ent2 es kv := by
  obtain ⟨k, hk, h1, h2⟩ := h.2 0 e rfl
  obtain rfl : x = k := by simpa using hk
  refine ⟨h1, h2, by simpa using h.1, fun j e hj => ?_⟩
  obtain ⟨k, hk, h3, h4⟩ := h.2 (j + 1) e (by simpa using hj)
  exact ⟨k, by simpa using hk, h3, h4⟩
theorem Ent2.push {es : Array MapEntry} {kv : List (K2 × Value)} (h : Ent2 es.toList kv) (k : K2) (v : Value) (c : Nat) : Ent2 (es.push { key := k.v, val := v, born := c }).toList (kv ++ [(k, v)]) := by
  refine ⟨by simp [← h.1], fun j e hj => ?_⟩
  rw [Array.toList_push] at hj
  by_cases hlt : j < es.toList.length
  · rw [List.getElem?_append_left hlt] at hj
    obtain ⟨k', hk, h3, h4⟩ := h.2 j e hj
    exact ⟨k', by rw [List.getElem?_append_left (by rw [← h.1]; exact hlt)]; exact hk, h3, h4⟩
  · rw [List.getElem?_append_right (by omega)] at hj
    have hj0 : j - es.toList.length = 0 := by
      have := (List.getElem?_eq_some_iff.1 hj).1
      simp at this ⊢
      omega
    rw [hj0] at hj
    have hjl : j = kv.length := by have := h.1; omega
    subst hjl
    obtain rfl : _ = e := by simpa using hj
    exact ⟨(k, v), by simp, rfl, rfl⟩
theorem find2_asks (k : K2) (w : World) : ∀ (es : List MapEntry) (kv : List (K2 × Value)) (i : Nat), Ent2 es kv → (Instr.findAsking 83 k.v es i).run Tryz.prog w = .ok (idx2 k kv i) w
  | [], [], i, _ => rfl
  | [], _ :: _, i, h => by have := h.1; simp at this
  | _ :: _, [], i, h => by have := h.1; simp at this
  | e :: es, x :: kv, i, h => by
    obtain ⟨h1, h2, h3⟩ := h.cons
    unfold Instr.findAsking idx2
    simp only [Sem.run_bind, h1, key2_eq, Result.andThen_ok]
    cases hs : k.same x.1
    · simp only [Bool.false_eq_true, if_false]
      exact find2_asks k w es kv (i + 1) h3
    · simp only [if_true]
      rw [h2]
      rfl
theorem find2_key (k : K2) (w : World) (es : List MapEntry) (kv : List (K2 × Value)) (h : Ent2 es kv) : (Instr.findKey 83 k.v es).run Tryz.prog w = .ok (idx2 k kv 0) w := by
  unfold Instr.findKey
  simp only [Sem.run_bind, run_underlying fields83, Result.andThen_ok]
  cases es with
  | nil =>
    have : kv = [] := List.eq_nil_of_length_eq_zero (by have := h.1; simp at this; omega)
    subst this
    rfl
  | cons e es =>
    simp only [Instr.findNow, Instr.sameNow]
    exact find2_asks k w _ kv 0 h
def Map2 (w : World) (g : Nat) (kv : List (K2 × Value)) : Prop := ∃ es c, w.heap[g]? = some (.map es c) ∧ Ent2 es.toList kv
theorem run_look2 {w : World} {g : Nat} {kv : List (K2 × Value)} (h : Map2 w g kv) (k : K2) {i : Nat} {v : Value} (hi : idx2 k kv 0 = some (i, v)) : (Instr.lookup 81 (.map (some g)) k.v false).run Tryz.prog w = .ok v w := by
  obtain ⟨es, c, hg, he⟩ := h
  have ho : (getObj g).run Tryz.prog w = .ok (.map es c) w := MapKept.run_getObj_map hg
  unfold Instr.lookup
  simp only [Sem.run_bind, run_underlying Tryz.underlying81, Result.andThen_ok, ho, Sem.run_pure, key2_check, find2_key k w _ _ he, hi]
  rfl
theorem run_put2 {w : World} {g : Nat} {kv : List (K2 × Value)} (h : Map2 w g kv) (k : K2) (v : Value) (hn : idx2 k kv 0 = none) : ∃ o, (Instr.mapUpdate 81 (.map (some g)) k.v v).run Tryz.prog w = .ok () (ChangeMaps.setBlock w g o) ∧ Map2 (ChangeMaps.setBlock w g o) g (kv ++ [(k, v)]) := by
  obtain ⟨es, c, hg, he⟩ := h
  have ho : (getObj g).run Tryz.prog w = .ok (.map es c) w := MapKept.run_getObj_map hg
  refine ⟨.map (es.push { key := k.v, val := v, born := c }) (c + 1), ?_, ⟨es.push { key := k.v, val := v, born := c }, c + 1, ?_, he.push k v c⟩⟩
  · simp [Instr.mapUpdate, run_underlying Tryz.underlying81, Result.andThen, ho, key2_check, find2_key k w _ _ he, hn, MapKept.run_setObj_map _ hg, ChangeMaps.setBlock]
  · have := (Array.getElem?_eq_some_iff.1 hg).1
    simp [ChangeMaps.setBlock, this]
end Go.Proofs.YthipodffpkglfaaGreatDoor.PS
namespace Go.Proofs.YthipodffpkglfaaGreatDoor.PS
open Go.RowKit Go.Proofs.YthipodffpkglfaaGreatDoorW.PrintWords Go.Proofs.YthipodffpkglfaaGreatDoorW.PrintLast Go.Proofs.YthipodffpkglfaaGreatDoorW.PrintMore
set_option linter.unusedVariables false
set_option linter.unusedSimpArgs false
theorem F30tab7 : rtab .any (opsOf Tryz.f30 7) = (true, [([], []), ([], []), ([1], [1]), ([], []), ([3], [3]), ([2, 4], [2, 4]), ([], []), ([], []), ([], []), ([6, 7, 8], [6, 7, 8]), ([0, 5, 9, 9, 0, 1, 2, 3, 4, 5, 6, 7, 8, 9], [0, 5, 9])]) := by kernel_rfl
structure Nd3 where
  k : Int
  t : ByteArray
  l : List S45
def Nd3.n (x : Nd3) : S45 := nd x.k x.t x.l
/-- A node as a value. -/
def NV (w : World) (ok : Nat → Prop) (N : Nd3) (v : Value) : Prop := ∃ A c, v = .agg (ndc N.k N.t A N.l.length c) ∧ N.l.length ≤ c ∧ Kd.F k45 w ok A N.l.length N.l
def foOk (w0 : World) (gm : Nat) (ov : Value) (k : Nat) : Prop := w0.heap.size ≤ k ∧ k ≠ gm ∧ some k ≠ ov.ownBlock
/-- The state of Forms. -/
structure Fo (wD w0 : World) (AI : Option Addr) (items : List It) (gm : Nat) (Ns : List Nd3) (kv : List (K2 × Value)) (ov : Value) (outs : List S45) (w : World) : Prop where
  hb : Below wD.heap.size wD w
  dl : wD.heap.size ≤ w0.heap.size
  sz : w0.heap.size ≤ w.heap.size
  kb : ∀ k, k < w0.heap.size → w.heap[k]? = w0.heap[k]?
  gl : w0.heap.size ≤ gm
  it : Kd.F k78 w (foOk w0 gm ov) AI items.length items
  mp : Map2 w gm kv
  nv : ∀ (j : Nat) (k : K2) (v : Value), kv[j]? = some (k, v) → ∃ x N, items[j]? = some x ∧ Ns[j]? = some N ∧ k = ⟨x.b, x.p⟩ ∧ NV w (foOk w0 gm ov) N v
  own : Kd.N k45 45 w w0.heap.size (fun k => w0.heap.size ≤ k ∧ k ≠ gm) ov outs
def distinct (items : List It) : Prop := ∀ (i j : Nat) (x y : It), items[i]? = some x → items[j]? = some y → x.b = y.b → i = j
theorem idx2_at {items : List It} (hd : distinct items) : ∀ (kv : List (K2 × Value)) (o i : Nat), (∀ (j : Nat) (k : K2) (v : Value), kv[j]? = some (k, v) → ∃ x, items[o + j]? = some x ∧ k = ⟨x.b, x.p⟩) → ∀ (j : Nat) (k : K2) (v : Value), kv[j]? = some (k, v) → idx2 k kv i = some (i + j, v)
  | [], o, i, h, j, k, v, hj => by simp at hj
  | (k0, v0) :: r, o, i, h, j, k, v, hj => by
    obtain ⟨x0, hx0, hk0⟩ := h 0 k0 v0 rfl
    obtain ⟨x, hx, hk⟩ := h j k v hj
    rcases j with _ | j
    · simp only [List.getElem?_cons_zero, Option.some.injEq, Prod.mk.injEq] at hj
      obtain ⟨rfl, rfl⟩ := hj
      unfold idx2
      rw [if_pos (by simp [K2.same])]
      rfl
    · have hne : k.same k0 = false := by
        rw [hk, hk0]
        simp only [K2.same, Bool.and_eq_false_iff, decide_eq_false_iff_not]
        left
        intro e
        have := hd _ _ _ _ hx hx0 e
        omega
      unfold idx2
      rw [if_neg (by simp [hne])]
      rw [idx2_at hd r (o + 1) (i + 1) (fun q k v hq => by
        obtain ⟨x, a, b⟩ := h (q + 1) k v (by simpa using hq)
        exact ⟨x, by rw [show o + 1 + q = o + (q + 1) by omega]; exact a, b⟩) j k v (by simpa using hj)]
      congr 2
      omega
theorem idx2_new {items : List It} (hd : distinct items) : ∀ (kv : List (K2 × Value)) (o i m : Nat) (y : It), (∀ (j : Nat) (k : K2) (v : Value), kv[j]? = some (k, v) → ∃ x, items[o + j]? = some x ∧ k = ⟨x.b, x.p⟩) → items[m]? = some y → o + kv.length ≤ m → idx2 ⟨y.b, y.p⟩ kv i = none
  | [], o, i, m, y, h, hy, hm => rfl
  | (k0, v0) :: r, o, i, m, y, h, hy, hm => by
    obtain ⟨x0, hx0, hk0⟩ := h 0 k0 v0 rfl
    have hne : K2.same ⟨y.b, y.p⟩ k0 = false := by
      rw [hk0]
      simp only [K2.same, Bool.and_eq_false_iff, decide_eq_false_iff_not]
      left
      intro e
      have := hd _ _ _ _ hy hx0 e
      simp only [List.length_cons] at hm
      omega
    unfold idx2
    rw [if_neg (by simp [hne])]
    exact idx2_new hd r (o + 1) (i + 1) m y (fun q k v hq => by
      obtain ⟨x, a, b⟩ := h (q + 1) k v (by simpa using hq)
      exact ⟨x, by rw [show o + 1 + q = o + (q + 1) by omega]; exact a, b⟩) hy (by simp only [List.length_cons] at hm; omega)
section
variable {wD w0 w w' : World} {AI : Option Addr} {items : List It} {gm : Nat} {Ns : List Nd3} {kv : List (K2 × Value)} {ov : Value} {outs : List S45}
theorem Fo.glt (h : Fo wD w0 AI items gm Ns kv ov outs w) : gm < w.heap.size := by
  obtain ⟨es, c, hg, _⟩ := h.mp
  exact blk_lt hg
theorem Fo.keep (h : Fo wD w0 AI items gm Ns kv ov outs w) (hb : Below wD.heap.size wD w') (hs : w.heap.size ≤ w'.heap.size) (hk : ∀ k, k < w.heap.size → w'.heap[k]? = w.heap[k]?) : Fo wD w0 AI items gm Ns kv ov outs w' :=
  ⟨hb, h.dl, Nat.le_trans h.sz hs, fun k hl => (hk k (Nat.lt_of_lt_of_le hl h.sz)).trans (h.kb k hl), h.gl, Kd.F_step h.it (fun k _ hl => hk k hl), by
    obtain ⟨es, c, hg, he⟩ := h.mp
    exact ⟨es, c, (hk gm (blk_lt hg)).trans hg, he⟩, fun j k v hj => by
    obtain ⟨x, N, a, b, e, A, c, hv, hc, hf⟩ := h.nv j k v hj
    exact ⟨x, N, a, b, e, A, c, hv, hc, Kd.F_step hf (fun k _ hl => hk k hl)⟩, Kd.N_step h.own (fun k _ hl => hk k hl)⟩
/-- The row of what comes out grows. -/
theorem Fo.grown {v1 : Value} {zs : List S45} (h : Fo wD w0 AI items gm Ns kv ov outs w) (hb : Below w0.heap.size w w') (hg : w.grownBy w' ov.ownBlock) (hat : v1.ownBlock = ov.ownBlock ∨ ∃ b, v1.ownBlock = some b ∧ w.heap.size ≤ b) (hN : Kd.N k45 45 w' w0.heap.size (fun k => w0.heap.size ≤ k ∧ k ≠ gm) v1 zs) : Fo wD w0 AI items gm Ns kv v1 zs w' := by
  have hmono : ∀ k, foOk w0 gm ov k ∧ k < w.heap.size → foOk w0 gm v1 k := fun k hk => ⟨hk.1.1, hk.1.2.1, fun he => by
    rcases hat with hat | ⟨b, h1, h2⟩
    · exact hk.1.2.2 (he.trans hat)
    · have h3 : some k = some b := he.trans h1
      injection h3 with h3
      have := hk.2
      omega⟩
  refine ⟨h.hb.trans (hb.mono h.dl), h.dl, Nat.le_trans h.sz hb.size, fun k hl => (hb.block k hl).trans (h.kb k hl), h.gl, Kd.F_mono (Kd.F_step (Kd.F_bound h.it) (fun k hk hl => hg.block k hl hk.1.2.2)) hmono, ?_, fun j k v hj => ?_, hN⟩
  · obtain ⟨es, c, hgm, he⟩ := h.mp
    exact ⟨es, c, (hg.block gm (blk_lt hgm) (fun e => (h.own.1 gm e.symm).2 rfl)).trans hgm, he⟩
  · obtain ⟨x, N, a, b, e, A, c, hv, hc, hf⟩ := h.nv j k v hj
    exact ⟨x, N, a, b, e, A, c, hv, hc, Kd.F_mono (Kd.F_step (Kd.F_bound hf) (fun k hk hl => hg.block k hl hk.1.2.2)) hmono⟩
/-- The item that lies at a place. -/
theorem Fo.item (h : Fo wD w0 AI items gm Ns kv ov outs w) {j : Nat} {x : It} (hj : items[j]? = some x) : ∃ ad, AI = some ad ∧ w.cell? (ad.add (j * 4)) = some (.int .i64 x.b) ∧ w.cell? ⟨(ad.add (j * 4)).block, (ad.add (j * 4)).off + 1, none⟩ = some (.int .i64 x.p) ∧ w.cell? ⟨(ad.add (j * 4)).block, (ad.add (j * 4)).off + 2, none⟩ = some (.bool x.note) ∧ w.cell? ⟨(ad.add (j * 4)).block, (ad.add (j * 4)).off + 3, none⟩ = some (.bool false) := by
  have hl := (List.getElem?_eq_some_iff.1 hj).1
  obtain ⟨ad, e, hc⟩ := (Kd.F_now h.it).2.2 (by omega)
  obtain ⟨c, _, hK, hcell⟩ := hc j x hj
  have hcc := k78_open hK
  subst hcc
  exact ⟨ad, e, hcell 0 _ rfl, by rw [← add_field _ _ 1 (by omega)]; exact hcell 1 _ rfl, by rw [← add_field _ _ 2 (by omega)]; exact hcell 2 _ rfl, by rw [← add_field _ _ 3 (by omega)]; exact hcell 3 _ rfl⟩
/-- The map gets one more. -/
theorem Fo.put (h : Fo wD w0 AI items gm Ns kv ov outs w) (hd : distinct items) {x : It} {N : Nd3} {v : Value} (hx : items[kv.length]? = some x) (hN : Ns[kv.length]? = some N) (hv : NV w (foOk w0 gm ov) N v) : ∃ w1, (Instr.mapUpdate 81 (.map (some gm)) (.agg #[.int .i64 x.b, .int .i64 x.p]) v).run Tryz.prog w = .ok () w1 ∧ Fo wD w0 AI items gm Ns (kv ++ [(⟨x.b, x.p⟩, v)]) ov outs w1 := by
  obtain ⟨o, hrun, hm⟩ := run_put2 h.mp ⟨x.b, x.p⟩ v (idx2_new hd kv 0 0 _ x (fun j k v hj => by
    obtain ⟨x, N, a, b, e, _⟩ := h.nv j k v hj
    exact ⟨x, by rw [Nat.zero_add]; exact a, e⟩) hx (by omega))
  obtain ⟨es, c, hg, he⟩ := h.mp
  have hoth : ∀ k, k ≠ gm → (ChangeMaps.setBlock w gm o).heap[k]? = w.heap[k]? := fun k hk => ChangeMaps.heap_setBlock_other hg o hk
  have hsz : (ChangeMaps.setBlock w gm o).heap.size = w.heap.size := by simp [ChangeMaps.setBlock]
  refine ⟨_, hrun, ⟨h.hb.trans ⟨rfl, rfl, rfl, Nat.le_of_eq hsz.symm, fun k hk => hoth k (by have := h.gl; have := h.dl; omega)⟩, h.dl, by rw [hsz]; exact h.sz, fun k hl => (hoth k (by have := h.gl; omega)).trans (h.kb k hl), h.gl, Kd.F_step h.it (fun k hk _ => hoth k hk.2.1), hm, fun j k u hj => ?_, Kd.N_step h.own (fun k hk _ => hoth k hk.2)⟩⟩
  by_cases hlt : j < kv.length
  · rw [List.getElem?_append_left hlt] at hj
    obtain ⟨x', N', a, b, e, A, c, hv', hc, hf⟩ := h.nv j k u hj
    exact ⟨x', N', a, b, e, A, c, hv', hc, Kd.F_step hf (fun k hk _ => hoth k hk.2.1)⟩
  · rw [List.getElem?_append_right (by omega)] at hj
    have hj0 : j - kv.length = 0 := by
      have := (List.getElem?_eq_some_iff.1 hj).1
      simp at this
      omega
    rw [hj0] at hj
    obtain rfl : j = kv.length := by omega
    simp only [List.getElem?_cons_zero, Option.some.injEq, Prod.mk.injEq] at hj
    obtain ⟨rfl, rfl⟩ := hj
    obtain ⟨A, c, hv', hc, hf⟩ := hv
    exact ⟨x, N, hx, hN, rfl, A, c, hv', hc, Kd.F_step hf (fun k hk _ => hoth k hk.2.1)⟩
set_option maxRecDepth 100000 in
/-- What the map has. -/
theorem Fo.look (h : Fo wD w0 AI items gm Ns kv ov outs w) (hd : distinct items) {j : Nat} {x : It} (hx : items[j]? = some x) {k : K2} {v : Value} (hj : kv[j]? = some (k, v)) : (Instr.lookup 81 (.map (some gm)) (.agg #[.int .i64 x.b, .int .i64 x.p]) false).run Tryz.prog w = .ok v w := by
  obtain ⟨x', N, a, b, e, hv⟩ := h.nv j k v hj
  rw [hx] at a
  injection a with a
  subst a
  have := idx2_at hd kv 0 0 (fun j k v hj => by
    obtain ⟨x, N, a, b, e, _⟩ := h.nv j k v hj
    exact ⟨x, by rw [Nat.zero_add]; exact a, e⟩) j k v hj
  rw [e] at this
  exact run_look2 h.mp ⟨x.b, x.p⟩ this
theorem F_lit45 {w : World} {ok : Nat → Prop} {g : Nat} {k : Int} {t : ByteArray} {A : Option Addr} {l : List S45} {c : Nat} (hb : w.heap[g]? = some (.cells (ndc k t A l.length c) 45 (0, 0))) (hc : l.length ≤ c) (hf : Kd.F k45 w ok A l.length l) (hg : ok g) : Kd.F k45 w ok (some ⟨g, 0, none⟩) 1 [nd k t l] := by
  intro W hW
  have hbW := (hW g hg (blk_lt hb)).trans hb
  refine ⟨rfl, by omega, fun _ => ⟨⟨g, 0, none⟩, rfl, fun q y hq => ?_⟩⟩
  rcases q with _ | q
  · simp only [List.getElem?_cons_zero, Option.some.injEq] at hq
    subst hq
    refine ⟨_, rfl, FK_nd hf hc W hW, fun u v hu => ?_⟩
    rw [add_plain, blk_cell hbW]
    simpa using hu
  · simp at hq
theorem mapu_step {P : Program} {ops : Array Oper} {o : Oper} {a : Act} {Q : Exit → Act → World → Prop} {Kc : Act → World → Prop} {W W1 : World} (hw : Region.wanted o (yielded ops a.tmps) = true) (hN : o.dst = none) {T : TypeId} {m k x : Operand} (ho : o.op = .mapUpdate T m k x) {mv kv xv : Value} (hm : a.eval m = mv) (hk : a.eval k = kv) (hx : a.eval x = xv) (hrun : (Instr.mapUpdate T mv kv xv).run P W = .ok () W1) (h : Kc (a.put none undef) W1) : if Region.wanted o (yielded ops a.tmps) = true then Oper.wp P o a W Kc Q else Kc (a.put none undef) W := by
  rw [if_pos hw]
  unfold Oper.wp execOp
  simp only [ho, hm, hk, hx, Sem.run_bind, Sem.run_pure, Result.andThen_ok, hrun]
  show Kc (a.put o.dst undef) W1
  rw [hN]
  exact h
theorem map_event {P : Program} {ops : Array Oper} {rest : List Oper} {o : Oper} {a : Act} {Q : Exit → Act → World → Prop} {W : World} (hgd : o.guard = none) (hrun : (execOp a.eval o).run P W = .ok (.value (.map (some W.heap.size))) (W.alloc (.map #[] 0))) (h : ∀ g, g = W.heap.size → ∀ w1, w1.heap[g]? = some (.map #[] 0) → Below W.heap.size W w1 → wpList P ops Q rest (a.put o.dst (.map (some g))) w1) : wpList P ops Q (o :: rest) a W :=
  Kd.event_run hgd hrun (h _ rfl _ (blk_new W _) (below_alloc (Below.refl _ _) _))
theorem look_event {P : Program} {ops : Array Oper} {rest : List Oper} {o : Oper} {a : Act} {Q : Exit → Act → World → Prop} {W : World} (hgd : o.guard = none) {T : TypeId} {m k : Operand} (ho : o.op = .lookup T m k false) {mv kv v : Value} (hm : a.eval m = mv) (hk : a.eval k = kv) (hrun : (Instr.lookup T mv kv false).run P W = .ok v W) (h : wpList P ops Q rest (a.put o.dst v) W) : wpList P ops Q (o :: rest) a W := by
  refine val_event hgd v ?_ h
  unfold execOp
  simp only [ho, hm, hk, Sem.run_bind, Sem.run_pure, Result.andThen_ok, hrun]
end
theorem itc_one (b p : Nat) (n : Bool) : (itc b p n).all (·.oneCell') = true := by
  simp [itc, Value.oneCell']
section
variable {wD w : World} {s : ByteArray} {A : Option Addr} {c : Nat} {toks : List Tk} {items : List It} {Ns : List Nd3}
set_option maxHeartbeats 4000000 in
set_option maxRecDepth 100000 in
theorem forms_calls (hb : Below wD.heap.size wD w) (hlt : items.length ≤ 100000) (hd : distinct items) (hlen : Ns.length = items.length)
    (hsp : ∀ w, Below wD.heap.size wD w → Calls Tryz.prog 43 #[.string s, .slice A toks.length c] w fun e w' => ∃ A1 c1, e = .returned (.slice A1 items.length c1) ∧ items.length ≤ c1 ∧ Kd.F k78 w' (fun k => w.heap.size ≤ k) A1 items.length items ∧ KeepBut w w' w.heap.size none ∧ Below wD.heap.size wD w')
    (hfm : ∀ (j : Nat) (x : It) (N : Nd3), items[j]? = some x → Ns[j]? = some N → ∀ w, Below wD.heap.size wD w → Calls Tryz.prog 44 #[.string s, .slice A toks.length c, .agg (itc x.b x.p x.note)] w (RfP wD w N.k N.t N.l)) :
    Calls Tryz.prog 30 #[.string s, .slice A toks.length c] w fun e w' => ∃ A1 c1, e = .returned (.slice A1 Ns.length c1) ∧ Ns.length ≤ c1 ∧ Kd.F k45 w' (fun k => w.heap.size ≤ k) A1 Ns.length (Ns.map Nd3.n) ∧ KeepBut w w' w.heap.size none ∧ Below wD.heap.size wD w' := by
  have hu45 := Tryz.underlying45
  have hu33 := Tryz.underlying33
  have hu24 := Tryz.underlying24
  have hu86 := Tryz.underlying86
  have hu9 := Tryz.underlying9
  have hu3 := Tryz.underlying3
  have hu4 := Tryz.underlying4
  have hu74 := Tryz.underlying74
  have hu78 := Tryz.underlying78
  have hu56 := Tryz.underlying56
  have hmm := @run_makeMap Tryz.prog
  have HB := Aside0.mk hb
  obtain ⟨m, hm⟩ : ∃ m, toks.length = m := ⟨_, rfl⟩
  obtain ⟨n, hn⟩ : ∃ n, items.length = n := ⟨_, rfl⟩
  rw [hm] at hsp hfm ⊢
  rw [hn] at hsp
  have HN := Aside0.mk hn
  have HSP := Aside0.mk hsp
  have HFM := Aside0.mk (fun j x N h1 h2 w hb => hfm j x N h1 h2 w hb)
  have HDI := Aside0.mk hd
  have HLEN := Aside0.mk hlen
  have HLT := Aside0.mk hlt
  clear hb hm hn hsp hfm hd hlen hlt
  go_enter Tryz.func30, Tryz.ntmps30
  go_wp2_with (first | ((with_reducible refine gate_dst (N := 13) rfl ?_); refine map_event rfl ?hr ?_; (case hr => first | (go_simp; done) | (go_simp; rfl)); intro gm hg w313 hmap hb; have GM := Aside0.mk hmap; have GG := Aside0.mk hg; have HB1 := Aside0.mk hb; have HD1 := Aside0.mk (HB.out.trans (hb.mono HB.out.size)); clear hmap hg hb) | ((with_reducible refine gate_dst (N := 16) rfl ?_); refine goesL_ (some 16) rfl rfl Tryz.func43 (by kernel_rfl) rfl #[.string s, .slice A m c] rfl (by (try simp only [List.map_toArray, List.map_cons, List.map_nil]); first | done | rfl) ?_; (refine (HSP.out _ HD1.out).mono ?_); (rintro e w116 ⟨A16, c16, rfl, hc, hf, hk, hb⟩; refine ⟨_, rfl, ?_⟩; have C16 := Aside0.mk hc; have HFO := Aside0.mk (show Fo wD w A16 items gm Ns [] (.slice none 0 0) [] w116 from ⟨hb, HB.out.size, Nat.le_trans HB1.out.size hk.1, fun k h => (hk.2 k (Nat.lt_of_lt_of_le h HB1.out.size) (by have := HB1.out.size; omega) (by simp)).trans (HB1.out.block k h), Nat.le_of_eq GG.out.symm, by rw [HN.out]; exact Kd.F_mono hf (fun k h => ⟨Nat.le_trans HB1.out.size h, by have := blk_lt GM.out; omega, by simp [Value.ownBlock]⟩), ⟨#[], 0, (hk.2 gm (blk_lt GM.out) (Nat.ne_of_lt (blk_lt GM.out)) (by simp)).trans GM.out, Ent2.nil⟩, fun j k v h => by simp at h, Kd.N_nil k45 45 _ _ _⟩); clear hc hf hk hb)))
  go_loopg [19] n (fun k' v19 wr => ∃ (j : Nat) (kv : List (K2 × Value)), v19 = .int .i64 (j : Int) ∧ Aside0 (k' + j = n) ∧ Aside0 (kv.length = j) ∧ Aside0 (Fo wD w A16 items gm Ns kv (.slice none 0 0) [] wr))
  case atStart => exact ⟨0, [], rfl, ⟨rfl⟩, ⟨rfl⟩, HFO⟩
  case round =>
    clear HFO
    obtain ⟨j, kv, rfl, HK, HJ, HFO⟩ := hrel
    have F := Aside0.mk (Fg.init HFO.out.hb)
    have hjn : j ≤ n := by have := HK.out; omega
    by_cases hlast : j = n
    · subst hlast
      clear F
      go_wp2_with fail
      go_loopg [5, 36] j (fun k' v5 v36 wr2 => ∃ (i : Nat) (A5 : Option Addr) (c5 : Nat) (outs : List S45), v5 = .slice A5 i c5 ∧ v36 = .int .i64 (i : Int) ∧ Aside0 (k' + i = j) ∧ Aside0 (outs = (Ns.map Nd3.n).take i) ∧ Aside0 (outs.length = i) ∧ Aside0 (i ≤ c5) ∧ Aside0 (Fo wD w A16 items gm Ns kv (.slice A5 i c5) outs wr2))
      case atStart => exact ⟨0, none, 0, [], rfl, rfl, ⟨rfl⟩, ⟨rfl⟩, ⟨rfl⟩, ⟨Nat.le_refl _⟩, HFO⟩
      case round =>
        clear HFO
        obtain ⟨i, A5, c5, outs, rfl, rfl, HK2, HO, HOL, HC5, HFO⟩ := hrel
        have F := Aside0.mk (Fg.init HFO.out.hb)
        by_cases hl2 : i = j
        · subst hl2
          clear F
          go_wp2_with fail
          go_ret
          have el : Ns.length = i := by rw [HLEN.out, HN.out]
          have eo : outs = Ns.map Nd3.n := by rw [HO.out, ← el, ← List.length_map Nd3.n, List.take_length]
          have hf := HFO.out
          rw [eo] at hf
          have hl : (Ns.map Nd3.n).length = i := by rw [List.length_map]; exact el
          have hown := hf.own
          have hrow := Kd.N_F hown
          rw [el]
          exact ⟨A5, c5, rfl, HC5.out, Kd.F_mono hrow (fun _ h => h.1), ⟨hf.sz, fun k h _ _ => hf.kb k h⟩, hf.hb⟩
        · have hi : i < j := by have := HK2.out; omega
          obtain ⟨x, hx⟩ : ∃ x, items[i]? = some x := ⟨_, List.getElem?_eq_getElem (by rw [HN.out]; exact hi)⟩
          obtain ⟨kk, v, hkv⟩ : ∃ kk v, kv[i]? = some (kk, v) := ⟨_, _, List.getElem?_eq_getElem (by rw [HJ.out]; exact hi)⟩
          obtain ⟨x2, N, hx2, hN, _, A7, c7, rfl, hc7, hf7⟩ := HFO.out.nv i kk v hkv
          obtain ⟨ad, ea, t0, t1, t2, t3⟩ := HFO.out.item hx
          subst ea
          have HXI := Aside0.mk hx
          have HNI := Aside0.mk hN
          have HKV := Aside0.mk hkv
          have HC7 := Aside0.mk hc7
          have HF7 := Aside0.mk hf7
          have hnl : j ≤ 100000 := by rw [← HN.out]; exact HLT.out
          obtain ⟨q, hq⟩ : ∃ q, i + 1 = q := ⟨_, rfl⟩
          have e1 : wrap64 ((i : Int) + 1) = (q : Int) := by unfold wrap64; omega
          have HQ := Aside0.mk hq
          clear hx hN hl2 hq hkv hc7 hf7 hx2
          go_wp2_with (first | ((with_reducible refine gate_dst (N := 11) rfl ?_); refine box_event ?hg (N := 11) ?hd (cs := #[.int .i64 0, .int .i64 0, .bool false, .bool false]) (t := 78) ?hr ?_; (case hd => rfl); (case hg => rfl); (case hr => first | (go_simp; done) | (go_simp; rfl)); intro g11 hg w311 hbox hb; have n0 := Aside0.mk (show Fg _ _ ((g11, 78, #[.int .i64 0, .int .i64 0, .bool false, .bool false]) :: _) _ _ from F.out.box hg hbox hb); clear F hbox hb hg; have F := n0) | ((with_reducible refine gate_ (.store 78 (.tmp 11) (.tmp 40)) rfl ?_); refine F.out.st 0 rfl rfl rfl rfl (itc x.b x.p x.note) rfl rfl info78 rfl (itc_one _ _ _) ?_; intro w611 n1; have n0 : Aside0 (Fg _ _ [(g11, 78, itc x.b x.p x.note)] _ _) := ⟨n1⟩; clear F n1; have F := n0) | ((with_reducible refine gate_dst (N := 43) rfl ?_); refine ld_cell rfl (N := 43) (v := .int .i64 x.b) rfl rfl rfl (F.out.at_ (n := 0) rfl) rfl hu3 rfl ?_) | ((with_reducible refine gate_dst (N := 45) rfl ?_); refine ld_cell rfl (N := 45) (v := .int .i64 x.p) rfl rfl rfl (F.out.at_ (n := 0) rfl) rfl hu3 rfl ?_) | ((with_reducible refine gate_dst (N := 47) rfl ?_); refine look_event rfl rfl rfl rfl ((HFO.out.keep F.out.hb F.out.sz F.out.kb).look HDI.out HXI.out HKV.out) ?_) | ((with_reducible refine gate_dst (N := 12) rfl ?_); refine box_event ?hg (N := 12) ?hd (cs := #[.int .i64 0, .string (⟨#[]⟩ : ByteArray), .slice none 0 0, .bool false, .bool false, .slice none 0 0, .slice none 0 0]) (t := 45) ?hr ?_; (case hd => rfl); (case hg => rfl); (case hr => first | (go_simp; done) | (go_simp; rfl)); intro g12 hg w312 hbox hb; have n0 := Aside0.mk (show Fg _ _ ((g12, 45, z7) :: _) _ _ from F.out.box hg hbox hb); clear F hbox hb hg; have F := n0) | ((with_reducible refine gate_ (.store 45 (.tmp 12) (.tmp 47)) rfl ?_); refine F.out.st 0 rfl rfl rfl rfl (ndc N.k N.t A7 N.l.length c7) rfl rfl info45 rfl (ndc_one _ _ _ _ _) ?_; intro w612 n1; have n0 : Aside0 (Fg _ _ [(g12, 45, (ndc N.k N.t A7 N.l.length c7)), (g11, 78, itc x.b x.p x.note)] _ _) := ⟨n1⟩; clear F n1; have F := n0) | ((with_reducible refine gate_dst (N := 49) rfl ?_); refine ld_cell rfl (N := 49) (v := .bool false) rfl rfl rfl (F.out.at_ (n := 0) rfl) rfl hu4 rfl ?_) | ((with_reducible refine gate_ (.store 4 (.tmp 54) (.tmp 53)) rfl ?_); refine F.out.sf 0 rfl rfl rfl rfl (ndc N.k N.t A7 N.l.length c7) (v := (.bool false)) rfl rfl (by show _ < 7; decide) info4s rfl rfl rfl ?_; intro w654 n1; have n0 : Aside0 (Fg _ _ [(g12, 45, (ndc N.k N.t A7 N.l.length c7)), (g11, 78, itc x.b x.p x.note)] _ _) := ⟨n1⟩; clear F n1; have F := n0) | ((with_reducible refine gate_dst (N := 56) rfl ?_); refine ld_agg rfl (N := 56) rfl rfl rfl (F.out.at_ (n := 0) rfl) hu45 rfl info45 ?_) | ((with_reducible refine gate_dst (N := 57) rfl ?_); refine lit_event ?hg (N := 57) ?hd (m := 1) (cs := (ndc N.k N.t A7 N.l.length c7)) (t := 45) ?hr ?_; (case hd => rfl); (case hg => rfl); (case hr => simp only [ndc]; first | (go_simp; done) | (go_simp; rfl)); intro g57 hg w357 hbox hb; have G57 := Aside0.mk hg; have B57 := Aside0.mk (show w357.heap[g57]? = some (.cells (ndc N.k N.t A7 N.l.length c7) 45 (0, 0)) from hbox); have S57 := Aside0.mk F.out.sz; have n0 := Aside0.mk (F.out.below hb); clear F hbox hb hg; have F := n0) | ((with_reducible refine gate_dst (N := 58) rfl ?_); have HFW := Aside0.mk (HFO.out.keep F.out.hb F.out.sz F.out.kb); have OKG := Aside0.mk (show foOk w gm (.slice A5 i c5) g57 from ⟨by rw [G57.out]; exact Nat.le_trans HFO.out.sz S57.out, by have := HFO.out.glt; have := S57.out; have := G57.out; omega, fun he => by have := Kd.N_lt HFO.out.own g57 he.symm; have := S57.out; have := G57.out; omega⟩); refine Kd.N_append_rows k45 (w0 := w357) w.heap.size rfl _ _ 33 45 _ 104 rfl Tryz.underlying33 infoZ rfl (by decide) (by decide) _ outs [N.n] (some ⟨g57, 0, none⟩) 1 1 (fun k => w.heap.size ≤ k ∧ k ≠ gm) (foOk w gm (.slice A5 i c5)) rfl rfl HFW.out.own (F_lit45 B57.out HC7.out (Kd.F_step HF7.out (fun k _ hl => F.out.kb k hl)) OKG.out) (fun k hk => ⟨⟨hk.1, hk.2.1⟩, hk.2.2⟩) (fun k hk => ⟨Nat.le_trans HFW.out.sz hk, by have := HFW.out.glt; omega⟩) (Below.refl _ _) HFW.out.sz (by have := HOL.out; omega) ?_; intro v1 w158 hN1 hb1 hg1 hat1; (obtain ⟨A9, c9, rfl⟩ := Kd.N_slice hN1); have HFO3 := Aside0.mk (HFW.out.grown hb1 hg1 hat1 hN1); have C9 := Aside0.mk (Kd.N_reads' hN1).2.1; have hlq : (outs ++ [N.n]).length = q := (by have := HOL.out; have := HQ.out; simp; omega); rw [hlq] at HFO3 C9 ⊢; have HLQ := Aside0.mk hlq; clear hN1 hb1 hg1 hat1 hlq HFW OKG) | ((with_reducible refine gate_dst (N := 59) rfl ?_); refine val_event rfl (.int .i64 (q : Nat)) ?hr ?_; (case hr => first | (go_simp; done) | (go_simp; rw [i64_w]; assumption) | (go_simp; rfl))))
          go_roundg (gk - 1)
          case measure => have := HK2.out; omega
          case rel =>
            refine ⟨q, A9, c9, outs ++ [N.n], rfl, rfl, ⟨by have := HK2.out; have := HQ.out; omega⟩, ⟨?_⟩, HLQ, C9, HFO3⟩
            rw [← HQ.out, List.take_add_one, ← HO.out, List.getElem?_map, HNI.out]
            rfl
    · have hj : j < n := by omega
      obtain ⟨x, hx⟩ : ∃ x, items[j]? = some x := ⟨_, List.getElem?_eq_getElem (by rw [HN.out]; exact hj)⟩
      obtain ⟨N, hN⟩ : ∃ N, Ns[j]? = some N := ⟨_, List.getElem?_eq_getElem (by rw [HLEN.out, HN.out]; exact hj)⟩
      obtain ⟨ad, ea, t0, t1, t2, t3⟩ := HFO.out.item hx
      subst ea
      have HXI := Aside0.mk hx
      have HNI := Aside0.mk hN
      have hnl : n ≤ 100000 := by rw [← HN.out]; exact HLT.out
      obtain ⟨q, hq⟩ : ∃ q, j + 1 = q := ⟨_, rfl⟩
      have e1 : wrap64 ((j : Int) + 1) = (q : Int) := by unfold wrap64; omega
      have HQ := Aside0.mk hq
      clear hx hN hlast hjn hq
      go_wp2_with (first | ((with_reducible refine gate_dst (N := 9) rfl ?_); refine box_event ?hg (N := 9) ?hd (cs := #[.int .i64 0, .int .i64 0, .bool false, .bool false]) (t := 78) ?hr ?_; (case hd => rfl); (case hg => rfl); (case hr => first | (go_simp; done) | (go_simp; rfl)); intro g9 hg w309 hbox hb; have n0 := Aside0.mk (F.out.box hg hbox hb); clear F hbox hb hg; have F := n0) | ((with_reducible refine gate_ (.store 78 (.tmp 9) (.tmp 22)) rfl ?_); refine F.out.st 0 rfl rfl rfl rfl (itc x.b x.p x.note) rfl rfl info78 rfl (itc_one _ _ _) ?_; intro w609 n1; have n0 : Aside0 (Fg _ _ [(g9, 78, (itc x.b x.p x.note))] _ _) := ⟨n1⟩; clear F n1; have F := n0))
      refine start_ (n := 11) (S := Bx [(g9, 78, (itc x.b x.p x.note))]) (ds := [10]) (bt 11 0) (by kernel_rfl) rfl (by kernel_rfl) (F.out.below (below_drew1 (Below.refl _ _))).bxs (fun hHeld => ?_)
      have n0 := Aside0.mk (F.out.below (below_drew1 (Below.refl _ _)))
      clear F
      have F := n0
      generalize World.drew _ = w500 at F hHeld ⊢
      refine pure_ (i := 0) (N := some 23) (bt 11 1) rfl rfl (any_of F30tab7 (by kernel_rfl)) (fun _ _ _ h => h) (Or.inl ⟨by rfl, by intro w'; go_simp; with_reducible rfl⟩) (by simp only [Act.put, pset]; rfl) ?_
      refine pure_ (i := 1) (N := some 24) (bt 11 3) rfl rfl (any_of F30tab7 (by kernel_rfl)) (fun _ _ _ h => h) (Or.inl ⟨by rfl, by intro w'; go_simp; with_reducible rfl⟩) (by simp only [Act.put, pset]; rfl) ?_
      refine take_ (i := 2) (N := some 25) (bt 11 7) rfl rfl (take_of F30tab7 (by kernel_rfl)) (fun _ _ _ h => h) (Or.inl ⟨by rfl, fun w' s_ => run_ldc (v := .int .i64 x.b) rfl rfl (Bx.at_ s_ (n := 0) rfl) rfl hu3 rfl⟩) hHeld (by simp only [Act.put, pset]; rfl) ?_
      refine pure_ (i := 3) (N := some 26) (bt 11 15) rfl rfl (any_of F30tab7 (by kernel_rfl)) (fun _ _ _ h => h) (Or.inl ⟨by rfl, by intro w'; go_simp; with_reducible rfl⟩) (by simp only [Act.put, pset]; rfl) ?_
      refine take_ (i := 4) (N := some 27) (bt 11 31) rfl rfl (take_of F30tab7 (by kernel_rfl)) (fun _ _ _ h => h) (Or.inl ⟨by rfl, fun w' s_ => run_ldc (v := .int .i64 x.p) rfl rfl (Bx.at_ s_ (n := 0) rfl) rfl hu3 rfl⟩) hHeld (by simp only [Act.put, pset]; rfl) ?_
      refine pure_ (i := 5) (N := some 28) (bt 11 63) rfl rfl (any_of F30tab7 (by kernel_rfl)) (fun _ _ _ h => h) (Or.inl ⟨by rfl, by intro w'; go_simp; with_reducible rfl⟩) (by simp only [Act.put, pset]; rfl) ?_
      refine pure_ (i := 6) (N := some 29) (bt 11 127) rfl rfl (any_of F30tab7 (by kernel_rfl)) (fun _ _ _ h => h) (Or.inl ⟨by rfl, by intro w'; go_simp; with_reducible rfl⟩) (by simp only [Act.put, pset]; rfl) ?_
      refine pure_ (i := 7) (N := some 30) (bt 11 255) rfl rfl (any_of F30tab7 (by kernel_rfl)) (fun _ _ _ h => h) (Or.inl ⟨by rfl, by intro w'; go_simp; with_reducible rfl⟩) (by simp only [Act.put, pset]; rfl) ?_
      refine take_ (i := 8) (N := some 31) (bt 11 511) rfl rfl (take_of F30tab7 (by kernel_rfl)) (fun _ _ _ h => h) (Or.inl ⟨by rfl, fun w' s_ => run_lda rfl rfl (Bx.at_ s_ (n := 0) rfl) hu78 rfl info78⟩) hHeld (by simp only [Act.put, pset]; rfl) ?_
      refine one_ (i := 9) (N := some 32) (bt 11 1023) rfl rfl (one_of F30tab7 (by kernel_rfl)) (by decide) (fun K hK => ?_)
      refine goes_ Tryz.func44 (by kernel_rfl) rfl #[.string s, .slice A m c, .agg (itc x.b x.p x.note)] (by rfl) rfl rfl (by (try simp only [List.map_toArray, List.map_cons, List.map_nil]); first | done | rfl) ?_
      refine (HFM.out _ _ _ HXI.out HNI.out _ F.out.hb).mono ?_
      rintro e w501 ⟨A32, c32, rfl, hc, hf, hk, hb⟩
      refine ⟨_, rfl, ?_⟩
      have n0 := Aside0.mk (F.out.node hb hk hf); have C32 := Aside0.mk hc; clear F hc hf hk hb; have F := n0
      refine hK.out _ _ F.out.bxs (fun hHeld => ?_)
      clear hK K
      refine norm_ (show Act.put _ (some 32) _ = _ from (by simp only [Act.put, pset]; rfl)) ?_
      obtain ⟨w1, hrun, hfo⟩ := (HFO.out.keep F.out.hb F.out.sz F.out.kb).put HDI.out (by rw [HJ.out]; exact HXI.out) (by rw [HJ.out]; exact HNI.out) (v := .agg (ndc N.k N.t A32 N.l.length c32)) ⟨A32, c32, rfl, C32.out, Kd.F_mono (F.out.nf _ List.mem_cons_self) (fun k hk => ⟨Nat.le_trans HFO.out.sz hk.1, by have := HFO.out.glt; have := hk.1; omega, fun he => by have := Kd.N_lt HFO.out.own k he.symm; have := hk.1; omega⟩)⟩
      have HRUN := Aside0.mk hrun; have HFO2 := Aside0.mk hfo; clear hrun hfo
      refine last_ (i := 10) (N := none) (bt 11 2047) rfl rfl (one_of F30tab7 (by kernel_rfl)) (by decide) (fun K hK => ?_)
      refine mapu_step (by rfl) rfl rfl rfl rfl rfl HRUN.out ?_
      refine hK.out _ _ ?_
      clear hK K
      refine norm_ (show Act.put _ none _ = _ from (by simp only [Act.put, pset]; rfl)) ?_
      refine done_ (done_of F30tab7 (by kernel_rfl)) ?_
      clear hHeld
      go_wp2_with (first | ((with_reducible refine gate_dst (N := 33) rfl ?_); refine val_event rfl (.int .i64 (q : Nat)) ?hr ?_; (case hr => first | (go_simp; done) | (go_simp; rw [i64_w]; assumption) | (go_simp; rfl))))
      go_roundg (gk - 1)
      case measure => have := HK.out; omega
      case rel => exact ⟨q, kv ++ [(⟨x.b, x.p⟩, .agg (ndc N.k N.t A32 N.l.length c32))], rfl, ⟨by have := HK.out; have := HQ.out; omega⟩, ⟨by have := HJ.out; have := HQ.out; simp; omega⟩, HFO2⟩
end
end Go.Proofs.YthipodffpkglfaaGreatDoor.PS
