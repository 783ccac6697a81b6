/- Words and walks that the law leans on: HS18, HS19, HS20, HS21. Conditions: none. -/
import Derived.Test.YthipodffpkglfaaGreatDoorJ10
import Derived.Defers
import Derived.Recover
namespace Go.Proofs.YthipodffpkglfaaGreatDoor.PS
open Go.RowKit Go.Proofs.YthipodffpkglfaaGreatDoorW.PrintWords Go.Proofs.YthipodffpkglfaaGreatDoorW.PrintLast Go.Proofs.YthipodffpkglfaaGreatDoorW.PrintMore
set_option linter.unusedVariables false
set_option linter.unusedSimpArgs false
theorem F233tab1 : rtab .any (opsOf Tryz.f233 1) = (true, [([], []), ([0], [0]), ([], []), ([], []), ([3], [3]), ([], []), ([2, 4, 5, 4], [2, 4, 5]), ([1, 6, 6], [1, 6]), ([0, 1, 2, 3, 4, 5, 6, 7], []), ([8, 7, 7, 0, 1, 2, 3, 4, 5, 6, 7], [7, 8])]) := by kernel_rfl
theorem F229tab6 : rtab .any (opsOf Tryz.f229 6) = (true, [([], []), ([], []), ([], []), ([2], [2]), ([1, 3], [1, 3]), ([0, 4], [0, 4]), ([5, 3, 0, 1, 2, 3, 4, 5], [5])]) := by kernel_rfl
section
variable {E : Env} {lo : Nat} {w0 w w' : World} {bs : List (Nat × Nat × Array Value)} {ns : List (Option Addr × List S45)} {i : Nat}
variable {ops : Array Oper} {rest : List Oper} {o : Oper} {a : Act} {Q : Exit → Act → World → Prop} {Kc : Act → World → Prop}
theorem Fr.app_step {A0 A : Option Addr} {c0 c : Nat} {xs ys : List S45} (F : Fr E lo w0 bs ns [(.slice A0 xs.length c0, xs)] w i) (hw : Region.wanted o (yielded ops a.tmps) = true) {s x : Operand} (ho : o.op = .call { callee := .builtin .append, args := #[s, x], argTypes := #[33, 33] }) (hs : a.eval s = .slice A0 xs.length c0) (hx : a.eval x = .slice A ys.length c) (m : Nat) (hn : ns[m]? = some (A, ys)) (hl : xs.length + ys.length ≤ 1000)
    (h : ∀ A1 c1 w1, Fr E lo w0 bs ns [(.slice A1 (xs ++ ys).length c1, xs ++ ys)] w1 i → (xs ++ ys).length ≤ c1 → Kc (a.put o.dst (.slice A1 (xs ++ ys).length c1)) w1) : if Region.wanted o (yielded ops a.tmps) = true then Oper.wp Tryz.prog o a w Kc Q else Kc (a.put o.dst undef) w := by
  have hlw : lo ≤ w.heap.size := Nat.le_trans F.ll F.sz
  refine Kd.N_append_rows_step k45 (w0 := w) lo hw s x 33 45 _ 104 ho Tryz.underlying33 infoZ rfl (by decide) (by decide) _ xs ys A ys.length c (fun k => lo ≤ k ∧ ∀ b ∈ bs, k ≠ b.1) _ hs hx (F.own _ (List.mem_singleton.2 rfl)) (F.rowF hn) (fun k hk => ⟨⟨hk.1, hk.2.1⟩, hk.2.2 _ (List.mem_singleton.2 rfl)⟩) (fun k hk => ⟨by omega, fun b m => by have := F.lt b m; omega⟩) (Below.refl _ _) hlw (by omega) ?_
  intro v1 w1 hN hb hg hat
  obtain ⟨A1, c1, rfl⟩ := Kd.N_slice hN
  exact h A1 c1 w1 (F.grown hb hg hat hN) (Kd.N_reads' hN).2.1
/-- A literal row of one node, one's own. -/
theorem Fr.ev_own (F : Fr E lo w0 bs ns [] w i) (hgd : o.guard = none) {N : Tmp} (hd : o.dst = some N) (m : Nat) {A : Option Addr} {l : List S45} (hn : ns[m]? = some (A, l)) {c : Nat} (hc : l.length ≤ c) {k : Int} {t : ByteArray} (hrun : (execOp a.eval o).run Tryz.prog w = .ok (.value (.slice (some ⟨w.heap.size, 0, none⟩) 1 1)) (w.alloc (.cells (ndc k t A l.length c) 45)))
    (h : ∀ A1 c1 w1, Fr E lo w0 bs ns [(.slice A1 [nd k t l].length c1, [nd k t l])] w1 i → [nd k t l].length ≤ c1 → wpList Tryz.prog ops Q rest (a.put o.dst (.slice A1 [nd k t l].length c1)) w1) : wpList Tryz.prog ops Q (o :: rest) a w := by
  have hlw : lo ≤ w.heap.size := Nat.le_trans F.ll F.sz
  refine Kd.N_lit k45 (w0 := w) lo 45 hgd hd (xs := [nd k t l]) (inner := (ndc k t A l.length c).toList) (ok := fun k => lo ≤ k ∧ ∀ b ∈ bs, k ≠ b.1) (okp := fun k => lo ≤ k ∧ ∀ b ∈ bs, k ≠ b.1) hrun (reps1 (FK_nd (Kd.F_mono (F.rowF hn) (fun k hk => ⟨hk.1, hk.2.1⟩)) hc)) (fun _ h => h) ⟨hlw, fun b m => by have := F.lt b m; omega⟩ (Below.refl _ _) hlw (by simp) ?_
  intro v1 w1 hN hb hg hat
  obtain ⟨A1, c1, rfl⟩ := Kd.N_slice hN
  refine h A1 c1 w1 (Fr.grown F.nilRow hb hg (Or.inr hat) hN) (Kd.N_reads' hN).2.1
end
/-- What has clauses is read up to its end. -/
def RdE (E : Env) (cv : Value) (i j : Nat) (ys : List S45) : Prop := ∀ (lo : Nat) (w0 : World) (bs : List (Nat × Nat × Array Value)) (ns : List (Option Addr × List S45)) (w : World) (k : Int) (t : ByteArray) (A : Option Addr) (c : Nat) (xs : List S45), Fr E lo w0 bs ns [(.slice A xs.length c, xs)] w i → xs.length + ys.length ≤ 500 → Calls Tryz.prog 233 #[.pointer (some ⟨E.gp, 0, none⟩), .agg (ndc k t A xs.length c), cv] w (FrP E lo w0 bs ns j k t (xs ++ ys))
/-- A comprehension's qualifiers are read. -/
def RdQ (E : Env) (i j : Nat) (ys : List S45) : Prop := ∀ (lo : Nat) (w0 : World) (bs : List (Nat × Nat × Array Value)) (ns : List (Option Addr × List S45)) (w : World) (k : Int) (t : ByteArray) (A : Option Addr) (c : Nat) (xs : List S45), Fr E lo w0 bs ns [(.slice A xs.length c, xs)] w i → xs.length + ys.length ≤ 500 → Calls Tryz.prog 229 #[.pointer (some ⟨E.gp, 0, none⟩), .agg (ndc k t A xs.length c)] w (FrP E lo w0 bs ns j k t (xs ++ ys))
section
variable {E : Env} {i j j' j2 : Nat} {k k2 : Int} {t t2 : ByteArray} {l l2 ys : List S45} {cv : Value}
set_option maxHeartbeats 4000000 in
set_option maxRecDepth 100000 in
theorem ended_rd (h1 : RdL E 136 #[.pointer (some ⟨E.gp, 0, none⟩), .slice none 0 0, cv] i j ys) (h2 : isT (E.cur j) (⟨#[101, 110, 100]⟩ : ByteArray) = true) : RdE E cv i (j + 1) ys := by
  intro lo w0 bs ns w k t A c xs F0 hx
  have hu45 := Tryz.underlying45
  have hu33 := Tryz.underlying33
  have hu24 := Tryz.underlying24
  have hu86 := Tryz.underlying86
  have hu9 := Tryz.underlying9
  have hu3 := Tryz.underlying3
  have hu4 := Tryz.underlying4
  have F := Aside0.mk F0
  have HX := Aside0.mk hx
  clear F0 hx
  have H1 := Aside0.mk h1
  have H2 := Aside0.mk h2
  clear h1 h2
  go_enter Tryz.func233, Tryz.ntmps233
  go_wp2_with (first | ((with_reducible refine gate_dst (N := 4) rfl ?_); refine box_event ?hg (N := 4) ?hd (cs := (ndc k t A xs.length c)) (t := 45) ?hr ?_; (case hd => rfl); (case hg => rfl); (case hr => first | (go_simp; done) | (go_simp; rfl)); intro g4 hg w304 hbox hb; have n0 := Aside0.mk (show Fr E _ _ ((g4, 45, (ndc k t A xs.length c)) :: _) _ _ _ _ from F.out.box hg hbox hb); clear F hbox hb hg; have F := n0) | ((with_reducible refine gate_dst (N := 6) rfl ?_); refine box_event ?hg (N := 6) ?hd (cs := #[.int .i64 0, .string (⟨#[]⟩ : ByteArray), .slice none 0 0, .bool false, .bool false, .slice none 0 0, .slice none 0 0]) (t := 45) ?hr ?_; (case hd => rfl); (case hg => rfl); (case hr => first | (go_simp; done) | (go_simp; rfl)); intro g6 hg w306 hbox hb; have n0 := Aside0.mk (show Fr E _ _ ((g6, 45, z7) :: _) _ _ _ _ from F.out.box hg hbox hb); clear F hbox hb hg; have F := n0))
  refine start_ (n := 10) (S := Bx ((g6, 45, z7) :: (g4, 45, (ndc k t A xs.length c)) :: bs)) (ds := [9]) (bt 10 0) (by kernel_rfl) rfl (by kernel_rfl) F.out.drew.bxs (fun hHeld => ?_)
  have n0 := Aside0.mk F.out.drew
  clear F
  have F := n0
  generalize World.drew _ = w500 at F hHeld ⊢
  refine pure_ (i := 0) (N := some 7) (bt 10 1) rfl rfl (any_of F233tab1 (by kernel_rfl)) (fun _ _ _ h => h) (Or.inl ⟨by rfl, by intro w'; go_simp; with_reducible rfl⟩) (by simp only [Act.put, pset]; rfl) ?_
  refine take_ (i := 1) (N := some 8) (bt 10 3) rfl rfl (take_of F233tab1 (by kernel_rfl)) (fun _ _ _ h => h) (Or.inl ⟨by rfl, fun w' s => run_ldc (v := (.slice A xs.length c)) rfl rfl (Bx.at_ s (n := 1) rfl) rfl hu33 rfl⟩) hHeld (by simp only [Act.put, pset]; rfl) ?_
  refine pure_ (i := 2) (N := some 9) (bt 10 7) rfl rfl (any_of F233tab1 (by kernel_rfl)) (fun _ _ _ h => h) (Or.inl ⟨by rfl, by intro w'; go_simp; with_reducible rfl⟩) (by simp only [Act.put, pset]; rfl) ?_
  refine pure_ (i := 3) (N := some 10) (bt 10 15) rfl rfl (any_of F233tab1 (by kernel_rfl)) (fun _ _ _ h => h) (Or.inl ⟨by rfl, by intro w'; go_simp; with_reducible rfl⟩) (by simp only [Act.put, pset]; rfl) ?_
  refine pure_ (i := 5) (N := some 12) (bt 10 47) rfl rfl (any_of F233tab1 (by kernel_rfl)) (fun _ _ _ h => h) (Or.inl ⟨by rfl, by intro w'; go_simp; with_reducible rfl⟩) (by simp only [Act.put, pset]; rfl) ?_
  refine one_ (i := 4) (N := some 11) (bt 10 63) rfl rfl (one_of F233tab1 (by kernel_rfl)) (by decide) (fun K hK => ?_)
  refine goes_ Tryz.func171 (by kernel_rfl) rfl #[.pointer (some ⟨E.gp, 0, none⟩)] (by rfl) rfl rfl (by (try simp only [List.map_toArray, List.map_cons, List.map_nil]); first | done | rfl) ?_
  refine (notes_calls F.out.p).mono ?_
  rintro e w501 ⟨rfl, hb⟩
  refine ⟨_, rfl, ?_⟩
  have n0 := Aside0.mk (F.out.below hb); clear F hb; have F := n0
  refine hK.out _ _ F.out.bxs (fun hHeld => ?_)
  clear hK K
  refine norm_ (show Act.put _ (some 11) _ = _ from (by simp only [Act.put, pset]; rfl)) ?_
  refine one_ (i := 6) (N := some 13) (bt 10 127) rfl rfl (one_of F233tab1 (by kernel_rfl)) (by decide) (fun K hK => ?_)
  refine goes_ Tryz.func136 (by kernel_rfl) rfl #[.pointer (some ⟨E.gp, 0, none⟩), .slice none 0 0, cv] (by rfl) rfl rfl (by (try simp only [List.map_toArray, List.map_cons, List.map_nil]); first | done | rfl) ?_
  refine (H1.out _ F.out.p).mono ?_
  rintro e w502 ⟨A13, c13, rfl, hc, hf, hp, hk⟩
  refine ⟨_, rfl, ?_⟩
  have n0 := Aside0.mk (F.out.node hp hk hf); have C13 := Aside0.mk hc; clear F hc hf hp hk; have F := n0
  refine hK.out _ _ F.out.bxs (fun hHeld => ?_)
  clear hK K
  refine norm_ (show Act.put _ (some 13) _ = _ from (by simp only [Act.put, pset]; rfl)) ?_
  refine one_ (i := 7) (N := some 14) (bt 10 255) rfl rfl (one_of F233tab1 (by kernel_rfl)) (by decide) (fun K hK => ?_)
  refine F.out.app_step (A := A13) (ys := ys) (by rfl) rfl rfl rfl 0 rfl (by have := HX.out; omega) ?_
  intro A14 c14 w503 n1 hc
  (obtain ⟨z1, hz⟩ : ∃ zs, xs ++ ys = zs := ⟨_, rfl⟩)
  rw [hz] at n1 hc ⊢
  have Zz1 := Aside0.mk hz
  have n0 := Aside0.mk n1; have C14 := Aside0.mk hc; clear F n1 hc hz; have F := n0
  refine hK.out _ _ F.out.bxs (fun hHeld => ?_)
  clear hK K
  refine norm_ (show Act.put _ (some 14) _ = _ from (by simp only [Act.put, pset]; rfl)) ?_
  refine pure_ (i := 8) (N := some 15) (bt 10 511) rfl rfl (any_of F233tab1 (by kernel_rfl)) (fun _ _ _ h => h) (Or.inl ⟨by rfl, by intro w'; go_simp; with_reducible rfl⟩) (by simp only [Act.put, pset]; rfl) ?_
  refine last_ (i := 9) (N := none) (bt 10 1023) rfl rfl (one_of F233tab1 (by kernel_rfl)) (by decide) (fun K hK => ?_)
  refine st_cell_step (by rfl) rfl (T := 33) (p := 15) (x := (.tmp 14)) rfl (v := (.slice A14 z1.length c14)) rfl rfl (F.out.at_ (n := 1) rfl) (by show _ < 7; decide) info33s rfl rfl ?_
  intro w504 q1 q2 q3
  have n0 : Aside0 (Fr E _ _ ((g6, 45, z7) :: (g4, 45, (ndc k t A14 z1.length c14)) :: bs) _ _ _ _) := ⟨F.out.put (n := 1) rfl q1 q2 q3⟩
  clear F q1 q2 q3; have F := n0
  refine hK.out _ _ ?_
  clear hK K
  refine norm_ (show Act.put _ none _ = _ from (by simp only [Act.put, pset]; rfl)) ?_
  refine done_ (done_of F233tab1 (by kernel_rfl)) ?_
  clear hHeld
  go_wp2_with (first | ((with_reducible refine gate_dst (N := 17) rfl ?_); refine goesL_ (some 17) rfl rfl Tryz.func171 (by kernel_rfl) rfl #[.pointer (some ⟨E.gp, 0, none⟩)] rfl (by (try simp only [List.map_toArray, List.map_cons, List.map_nil]); first | done | rfl) ?_; (refine (notes_calls F.out.p).mono ?_); (rintro e w117 ⟨rfl, hb⟩; refine ⟨_, rfl, ?_⟩; have n0 := Aside0.mk (F.out.below hb); clear F hb; have F := n0)) | ((with_reducible refine gate_ (.store 24 (.tmp 18) (.tmp 17)) rfl ?_); refine F.out.sf1 rfl rfl rfl (ndc k t A14 z1.length c14) (v := (.slice none 0 0)) rfl rfl (by show _ < 7; decide) info24s rfl rfl rfl ?_; intro w618 n1; have n0 := Aside0.mk n1; clear F n1; have F := n0) | ((with_reducible refine gate_dst (N := 20) rfl ?_); refine goesL_ (some 20) rfl rfl Tryz.func164 (by kernel_rfl) rfl #[.pointer (some ⟨E.gp, 0, none⟩), .string (⟨#[101, 110, 100]⟩ : ByteArray)] rfl (by (try simp only [List.map_toArray, List.map_cons, List.map_nil]); first | done | rfl) ?_; (refine (need_yes F.out.p (⟨#[101, 110, 100]⟩ : ByteArray) H2.out).mono ?_); (rintro e w120 ⟨rfl, hp, hk⟩; refine ⟨_, rfl, ?_⟩; have n0 := Aside0.mk (F.out.move hp hk); clear F hp hk; have F := n0)) | ((with_reducible refine gate_dst (N := 21) rfl ?_); refine ld_agg rfl (N := 21) rfl rfl rfl (F.out.at_ (n := 1) rfl) hu45 rfl info45 ?_) | ((with_reducible refine gate_ (.store 45 (.tmp 6) (.tmp 21)) rfl ?_); refine F.out.st0 rfl rfl rfl (ndc k t A14 z1.length c14) rfl rfl info45 rfl (ndc_one _ _ _ _ _) ?_; intro w606 n1; have n0 := Aside0.mk n1; clear F n1; have F := n0))
  refine bodyPost_ret (results_single rfl (.cell g6 45 (ndc k t A14 z1.length c14) (0, 0) _ rfl (F.out.at_ (n := 0) rfl) hu45 rfl info45 .nil)) rfl ?_
  rw [Zz1.out]
  refine ⟨A14, c14, rfl, C14.out, Fr.sel (Fr.ownRow F.out).drop0.drop0 (fun r m => ?_)⟩
  rcases List.mem_cons.1 m with rfl | m
  · exact List.mem_cons_self
  · exact List.mem_cons_of_mem _ (List.mem_cons_of_mem _ m)
set_option maxHeartbeats 4000000 in
set_option maxRecDepth 100000 in
theorem case_rd (h1 : isT (E.cur i) (⟨#[102, 117, 110]⟩ : ByteArray) = false) (h2 : isT (E.cur i) (⟨#[99, 97, 115, 101]⟩ : ByteArray) = true) (h3 : Rd E 166 #[.pointer (some ⟨E.gp, 0, none⟩), .int .i64 0] (i + 1) j k t l) (h4 : isT (E.cur j) (⟨#[111, 102]⟩ : ByteArray) = true) (h5 : RdE E (.func (.func 234) #[.pointer (some ⟨E.gp, 0, none⟩)] #[]) (j + 1) j' ys) (h6 : ys.length ≤ 400) : Rd E 225 #[.pointer (some ⟨E.gp, 0, none⟩)] i j' 18 (⟨#[]⟩ : ByteArray) ([nd k t l] ++ ys) := by
  intro w hp
  have hu45 := Tryz.underlying45
  have hu33 := Tryz.underlying33
  have hu24 := Tryz.underlying24
  have hu86 := Tryz.underlying86
  have hu9 := Tryz.underlying9
  have hu3 := Tryz.underlying3
  have hu4 := Tryz.underlying4
  have F := Aside0.mk (Fr.init hp)
  clear hp
  have H1 := Aside0.mk h1
  have H2 := Aside0.mk h2
  have H3 := Aside0.mk h3
  have H4 := Aside0.mk h4
  have H5 := Aside0.mk h5
  have H6 := Aside0.mk h6
  clear h1 h2 h3 h4 h5 h6
  go_enter Tryz.func225, Tryz.ntmps225
  go_wp2_with (first | ((with_reducible refine gate_dst (N := 2) rfl ?_); refine box_event ?hg (N := 2) ?hd (cs := #[.int .i64 0, .string (⟨#[]⟩ : ByteArray), .slice none 0 0, .bool false, .bool false, .slice none 0 0, .slice none 0 0]) (t := 45) ?hr ?_; (case hd => rfl); (case hg => rfl); (case hr => first | (go_simp; done) | (go_simp; rfl)); intro g2 hg w302 hbox hb; have n0 := Aside0.mk (show Fr E _ _ ((g2, 45, z7) :: _) _ _ _ _ from F.out.box hg hbox hb); clear F hbox hb hg; have F := n0) | ((with_reducible refine gate_dst (N := 7) rfl ?_); refine goesL_ (some 7) rfl rfl Tryz.func170 (by kernel_rfl) rfl #[.pointer (some ⟨E.gp, 0, none⟩), .string (⟨#[102, 117, 110]⟩ : ByteArray)] rfl (by (try simp only [List.map_toArray, List.map_cons, List.map_nil]); first | done | rfl) ?_; (refine (take_no F.out.p (⟨#[102, 117, 110]⟩ : ByteArray) H1.out).mono ?_); (rintro e w107 ⟨rfl, hb⟩; refine ⟨_, rfl, ?_⟩; have n0 := Aside0.mk (F.out.below hb); clear F hb; have F := n0)) | ((with_reducible refine gate_dst (N := 16) rfl ?_); refine goesL_ (some 16) rfl rfl Tryz.func170 (by kernel_rfl) rfl #[.pointer (some ⟨E.gp, 0, none⟩), .string (⟨#[99, 97, 115, 101]⟩ : ByteArray)] rfl (by (try simp only [List.map_toArray, List.map_cons, List.map_nil]); first | done | rfl) ?_; (refine (take_yes F.out.p (⟨#[99, 97, 115, 101]⟩ : ByteArray) H2.out).mono ?_); (rintro e w116 ⟨rfl, hp, hk⟩; refine ⟨_, rfl, ?_⟩; have n0 := Aside0.mk (F.out.move hp hk); clear F hp hk; have F := n0)) | ((with_reducible refine gate_dst (N := 18) rfl ?_); refine goesL_ (some 18) rfl rfl Tryz.func166 (by kernel_rfl) rfl #[.pointer (some ⟨E.gp, 0, none⟩), .int .i64 0] rfl (by (try simp only [List.map_toArray, List.map_cons, List.map_nil]); first | done | rfl) ?_; (refine (H3.out _ F.out.p).mono ?_); (rintro e w118 ⟨A18, c18, rfl, hc, hf, hp, hk⟩; refine ⟨_, rfl, ?_⟩; have n0 := Aside0.mk (F.out.node hp hk hf); have C18 := Aside0.mk hc; clear F hc hf hp hk; have F := n0)) | ((with_reducible refine gate_dst (N := 19) rfl ?_); refine F.out.ev_own (k := k) (t := t) (l := l) ?hg (N := 19) ?hd 0 rfl C18.out ?hr ?_; (case hd => rfl); (case hg => rfl); (case hr => simp only [ndc]; first | (go_simp; done) | (go_simp; rfl)); intro A19 c19 w319 n1 hc; have n0 := Aside0.mk n1; have C19 := Aside0.mk hc; clear F n1 hc; have F := n0) | ((with_reducible refine gate_dst (N := 3) rfl ?_); refine box_event ?hg (N := 3) ?hd (cs := #[.int .i64 0, .string (⟨#[]⟩ : ByteArray), .slice none 0 0, .bool false, .bool false, .slice none 0 0, .slice none 0 0]) (t := 45) ?hr ?_; (case hd => rfl); (case hg => rfl); (case hr => first | (go_simp; done) | (go_simp; rfl)); intro g3 hg w303 hbox hb; have n0 := Aside0.mk (show Fr E _ _ ((g3, 45, z7) :: _) _ _ _ _ from F.out.box hg hbox hb); clear F hbox hb hg; have F := n0) | ((with_reducible refine gate_ (.store 45 (.tmp 3) (.tmp 20)) rfl ?_); refine F.out.st0 rfl rfl rfl (ndc 18 (⟨#[]⟩ : ByteArray) A19 [nd k t l].length c19) rfl rfl info45 rfl (ndc_one _ _ _ _ _) ?_; intro w603 n1; have n0 := Aside0.mk n1; clear F n1; have F := n0) | ((with_reducible refine gate_dst (N := 22) rfl ?_); refine goesL_ (some 22) rfl rfl Tryz.func164 (by kernel_rfl) rfl #[.pointer (some ⟨E.gp, 0, none⟩), .string (⟨#[111, 102]⟩ : ByteArray)] rfl (by (try simp only [List.map_toArray, List.map_cons, List.map_nil]); first | done | rfl) ?_; (refine (need_yes F.out.p (⟨#[111, 102]⟩ : ByteArray) H4.out).mono ?_); (rintro e w122 ⟨rfl, hp, hk⟩; refine ⟨_, rfl, ?_⟩; have n0 := Aside0.mk (F.out.move hp hk); clear F hp hk; have F := n0)) | ((with_reducible refine gate_dst (N := 24) rfl ?_); refine ld_agg rfl (N := 24) rfl rfl rfl (F.out.at_ (n := 0) rfl) hu45 rfl info45 ?_) | ((with_reducible refine gate_dst (N := 27) rfl ?_); refine goesL_ (some 27) rfl rfl Tryz.func233 (by kernel_rfl) rfl #[.pointer (some ⟨E.gp, 0, none⟩), .agg (ndc 18 (⟨#[]⟩ : ByteArray) A19 [nd k t l].length c19), .func (.func 234) #[.pointer (some ⟨E.gp, 0, none⟩)] #[]] rfl (by (try simp only [List.map_toArray, List.map_cons, List.map_nil]); first | done | rfl) ?_; (refine (H5.out _ _ _ _ _ 18 (⟨#[]⟩ : ByteArray) A19 c19 [nd k t l] F.out (by have := H6.out; simp; omega)).mono ?_); (rintro e w127 ⟨A27, c27, rfl, hc, n1⟩; refine ⟨_, rfl, ?_⟩; (obtain ⟨z1, hz⟩ : ∃ zs, [nd k t l] ++ ys = zs := ⟨_, rfl⟩); rw [hz] at n1 hc ⊢; have Zz1 := Aside0.mk hz; clear hz; have n0 := Aside0.mk n1; have C27 := Aside0.mk hc; clear F n1 hc; have F := n0)) | ((with_reducible refine gate_ (.store 45 (.tmp 2) (.tmp 27)) rfl ?_); refine F.out.st1 rfl rfl rfl (ndc 18 (⟨#[]⟩ : ByteArray) A27 z1.length c27) rfl rfl info45 rfl (ndc_one _ _ _ _ _) ?_; intro w602 n1; have n0 := Aside0.mk n1; clear F n1; have F := n0))
  refine bodyPost_ret (results_single rfl (.cell g2 45 (ndc 18 (⟨#[]⟩ : ByteArray) A27 z1.length c27) (0, 0) _ rfl (F.out.at_ (n := 1) rfl) hu45 rfl info45 .nil)) rfl ?_
  show RdP E w j' 18 _ ([nd k t l] ++ ys) _ _
  rw [Zz1.out]
  exact ⟨A27, c27, rfl, C27.out, F.out.row (n := 0) rfl, F.out.p, F.out.keep⟩
set_option maxHeartbeats 4000000 in
set_option maxRecDepth 100000 in
theorem qual_rd (h1 : Rd E 166 #[.pointer (some ⟨E.gp, 0, none⟩), .int .i64 3] i j k t l) (h2 : isT (E.cur j) (⟨#[60, 45]⟩ : ByteArray) = true) (h3 : Rd E 166 #[.pointer (some ⟨E.gp, 0, none⟩), .int .i64 3] (j + 1) j' k2 t2 l2) (h4 : isT (E.cur j') (⟨#[93]⟩ : ByteArray) = true) : RdQ E i (j' + 1) [nd 14 (⟨#[60, 45]⟩ : ByteArray) [nd k t l, nd k2 t2 l2]] := by
  intro lo w0 bs ns w kq tq A c xs F0 hx
  have hu45 := Tryz.underlying45
  have hu33 := Tryz.underlying33
  have hu24 := Tryz.underlying24
  have hu86 := Tryz.underlying86
  have hu9 := Tryz.underlying9
  have hu3 := Tryz.underlying3
  have hu4 := Tryz.underlying4
  have F := Aside0.mk F0
  have HX := Aside0.mk hx
  clear F0 hx
  have H1 := Aside0.mk h1
  have H2 := Aside0.mk h2
  have H3 := Aside0.mk h3
  have H4 := Aside0.mk h4
  clear h1 h2 h3 h4
  go_enter Tryz.func229, Tryz.ntmps229
  go_wp2_with (first | ((with_reducible refine gate_dst (N := 3) rfl ?_); refine box_event ?hg (N := 3) ?hd (cs := (ndc kq tq A xs.length c)) (t := 45) ?hr ?_; (case hd => rfl); (case hg => rfl); (case hr => first | (go_simp; done) | (go_simp; rfl)); intro g3 hg w303 hbox hb; have n0 := Aside0.mk (show Fr E _ _ ((g3, 45, (ndc kq tq A xs.length c)) :: _) _ _ _ _ from F.out.box hg hbox hb); clear F hbox hb hg; have F := n0) | ((with_reducible refine gate_dst (N := 4) rfl ?_); refine box_event ?hg (N := 4) ?hd (cs := #[.int .i64 0, .string (⟨#[]⟩ : ByteArray), .slice none 0 0, .bool false, .bool false, .slice none 0 0, .slice none 0 0]) (t := 45) ?hr ?_; (case hd => rfl); (case hg => rfl); (case hr => first | (go_simp; done) | (go_simp; rfl)); intro g4 hg w304 hbox hb; have n0 := Aside0.mk (show Fr E _ _ ((g4, 45, z7) :: _) _ _ _ _ from F.out.box hg hbox hb); clear F hbox hb hg; have F := n0))
  refine wp_loop_rounds 1 ?_
  rw [rounds_succ]
  go_wp2_with (first | ((with_reducible refine gate_dst (N := 9) rfl ?_); refine goesL_ (some 9) rfl rfl Tryz.func166 (by kernel_rfl) rfl #[.pointer (some ⟨E.gp, 0, none⟩), .int .i64 3] rfl (by (try simp only [List.map_toArray, List.map_cons, List.map_nil]); first | done | rfl) ?_; (refine (H1.out _ F.out.p).mono ?_); (rintro e w109 ⟨A9, c9, rfl, hc, hf, hp, hk⟩; refine ⟨_, rfl, ?_⟩; have n0 := Aside0.mk (F.out.node hp hk hf); have C9 := Aside0.mk hc; clear F hc hf hp hk; have F := n0)) | ((with_reducible refine gate_dst (N := 5) rfl ?_); refine box_event ?hg (N := 5) ?hd (cs := #[.int .i64 0, .string (⟨#[]⟩ : ByteArray), .slice none 0 0, .bool false, .bool false, .slice none 0 0, .slice none 0 0]) (t := 45) ?hr ?_; (case hd => rfl); (case hg => rfl); (case hr => first | (go_simp; done) | (go_simp; rfl)); intro g5 hg w305 hbox hb; have n0 := Aside0.mk (show Fr E _ _ ((g5, 45, z7) :: _) _ _ _ _ from F.out.box hg hbox hb); clear F hbox hb hg; have F := n0) | ((with_reducible refine gate_ (.store 45 (.tmp 5) (.tmp 9)) rfl ?_); refine F.out.st0 rfl rfl rfl (ndc k t A9 l.length c9) rfl rfl info45 rfl (ndc_one _ _ _ _ _) ?_; intro w605 n1; have n0 := Aside0.mk n1; clear F n1; have F := n0) | ((with_reducible refine gate_dst (N := 10) rfl ?_); refine lit_event ?hg (N := 10) ?hd (m := 2) (cs := #[.string (⟨#[60, 45]⟩ : ByteArray), .string (⟨#[60, 61]⟩ : ByteArray)]) (t := 9) ?hr ?_; (case hd => rfl); (case hg => rfl); (case hr => first | (go_simp; done) | (go_simp; rfl)); intro g10 hg w310 hbox hb; have n0 := Aside0.mk (F.out.box hg hbox hb); clear F hbox hb hg; have F := n0))
  refine wp_loop_rounds 1 ?_
  rw [rounds_succ]
  go_wp2_with (first | ((with_reducible refine gate_dst (N := 15) rfl ?_); refine ld_cell rfl (N := 15) (v := .string (⟨#[60, 45]⟩ : ByteArray)) rfl rfl rfl (F.out.at_ (n := 0) rfl) rfl hu9 rfl ?_) | ((with_reducible refine gate_dst (N := 18) rfl ?_); refine goesL_ (some 18) rfl rfl Tryz.func170 (by kernel_rfl) rfl #[.pointer (some ⟨E.gp, 0, none⟩), .string (⟨#[60, 45]⟩ : ByteArray)] rfl (by (try simp only [List.map_toArray, List.map_cons, List.map_nil]); first | done | rfl) ?_; (refine (take_yes F.out.p (⟨#[60, 45]⟩ : ByteArray) H2.out).mono ?_); (rintro e w118 ⟨rfl, hp, hk⟩; refine ⟨_, rfl, ?_⟩; have n0 := Aside0.mk (F.out.move hp hk); clear F hp hk; have F := n0)))
  refine start_ (n := 7) (S := Bx ((g10, 9, #[.string (⟨#[60, 45]⟩ : ByteArray), .string (⟨#[60, 61]⟩ : ByteArray)]) :: (g5, 45, (ndc k t A9 l.length c9)) :: (g4, 45, z7) :: (g3, 45, (ndc kq tq A xs.length c)) :: bs)) (ds := [6]) (bt 7 0) (by kernel_rfl) rfl (by kernel_rfl) F.out.drew.bxs (fun hHeld => ?_)
  have n0 := Aside0.mk F.out.drew
  clear F
  have F := n0
  generalize World.drew _ = w500 at F hHeld ⊢
  refine pure_ (i := 0) (N := some 19) (bt 7 1) rfl rfl (any_of F229tab6 (by kernel_rfl)) (fun _ _ _ h => h) (Or.inl ⟨by rfl, by intro w'; go_simp; with_reducible rfl⟩) (by simp only [Act.put, pset]; rfl) ?_
  refine take_ (i := 1) (N := some 20) (bt 7 3) rfl rfl (take_of F229tab6 (by kernel_rfl)) (fun _ _ _ h => h) (Or.inl ⟨by rfl, fun w' s => run_lda rfl rfl (Bx.at_ s (n := 1) rfl) hu45 rfl info45⟩) hHeld (by simp only [Act.put, pset]; rfl) ?_
  refine pure_ (i := 2) (N := some 21) (bt 7 7) rfl rfl (any_of F229tab6 (by kernel_rfl)) (fun _ _ _ h => h) (Or.inl ⟨by rfl, by intro w'; go_simp; with_reducible rfl⟩) (by simp only [Act.put, pset]; rfl) ?_
  refine one_ (i := 3) (N := some 22) (bt 7 15) rfl rfl (one_of F229tab6 (by kernel_rfl)) (by decide) (fun K hK => ?_)
  refine goes_ Tryz.func166 (by kernel_rfl) rfl #[.pointer (some ⟨E.gp, 0, none⟩), .int .i64 3] (by rfl) rfl rfl (by (try simp only [List.map_toArray, List.map_cons, List.map_nil]); first | done | rfl) ?_
  refine (H3.out _ F.out.p).mono ?_
  rintro e w501 ⟨A22, c22, rfl, hc, hf, hp, hk⟩
  refine ⟨_, rfl, ?_⟩
  have n0 := Aside0.mk (F.out.node hp hk hf); have C22 := Aside0.mk hc; clear F hc hf hp hk; have F := n0
  refine hK.out _ _ F.out.bxs (fun hHeld => ?_)
  clear hK K
  refine norm_ (show Act.put _ (some 22) _ = _ from (by simp only [Act.put, pset]; rfl)) ?_
  refine one_ (i := 4) (N := some 23) (bt 7 31) rfl rfl (one_of F229tab6 (by kernel_rfl)) (by decide) (fun K hK => ?_)
  refine lit_step (m := 2) (cs := #[.int .i64 k, .string t, .slice A9 l.length c9, .bool false, .bool false, .slice none 0 0, .slice none 0 0, .int .i64 k2, .string t2, .slice A22 l2.length c22, .bool false, .bool false, .slice none 0 0, .slice none 0 0]) (t := 45) (by rfl) ?hrun ?_
  case hrun => simp only [ndc]; first | (go_simp; done) | (go_simp; rfl)
  intro g23 hg w502 hbox hb
  have n0 := Aside0.mk (F.out.lit2 (l := l) (l2 := l2) 1 0 rfl rfl C9.out C22.out hg hbox hb); clear F hbox hb hg; have F := n0
  refine hK.out _ _ F.out.bxs (fun hHeld => ?_)
  clear hK K
  refine norm_ (show Act.put _ (some 23) _ = _ from (by simp only [Act.put, pset]; rfl)) ?_
  refine pure_ (i := 5) (N := some 24) (bt 7 63) rfl rfl (any_of F229tab6 (by kernel_rfl)) (fun _ _ _ h => h) (Or.inl ⟨by rfl, by intro w'; go_simp; with_reducible rfl⟩) (by simp only [Act.put, pset]; rfl) ?_
  refine last_ (i := 6) (N := none) (bt 7 127) rfl rfl (one_of F229tab6 (by kernel_rfl)) (by decide) (fun K hK => ?_)
  refine st_agg_step (by rfl) rfl (T := 45) (p := 5) (x := (.tmp 24)) rfl (cs' := (ndc 14 (⟨#[60, 45]⟩ : ByteArray) (some ⟨g23, 0, none⟩) 2 2)) rfl rfl (F.out.at_ (n := 1) rfl) info45 rfl (ndc_one _ _ _ _ _) ?_
  intro w503 q1 q2 q3
  have n0 : Aside0 (Fr E _ _ ((g10, 9, #[.string (⟨#[60, 45]⟩ : ByteArray), .string (⟨#[60, 61]⟩ : ByteArray)]) :: (g5, 45, (ndc 14 (⟨#[60, 45]⟩ : ByteArray) (some ⟨g23, 0, none⟩) 2 2)) :: (g4, 45, z7) :: (g3, 45, (ndc kq tq A xs.length c)) :: bs) _ _ _ _) := ⟨F.out.put (n := 1) rfl q1 q2 q3⟩
  clear F q1 q2 q3; have F := n0
  refine hK.out _ _ ?_
  clear hK K
  refine norm_ (show Act.put _ none _ = _ from (by simp only [Act.put, pset]; rfl)) ?_
  refine done_ (done_of F229tab6 (by kernel_rfl)) ?_
  clear hHeld
  have n0 := Aside0.mk F.out.drop0
  clear F
  have F := n0
  go_wp2_with (first | ((with_reducible refine gate_dst (N := 27) rfl ?_); refine ld_cell rfl (N := 27) (v := (.slice A xs.length c)) rfl rfl rfl (F.out.at_ (n := 2) rfl) rfl hu33 rfl ?_) | ((with_reducible refine gate_dst (N := 28) rfl ?_); refine ld_agg rfl (N := 28) rfl rfl rfl (F.out.at_ (n := 0) rfl) hu45 rfl info45 ?_) | ((with_reducible refine gate_dst (N := 29) rfl ?_); refine lit_event ?hg (N := 29) ?hd (m := 1) (cs := #[.int .i64 14, .string (⟨#[60, 45]⟩ : ByteArray), .slice (some ⟨g23, 0, none⟩) 2 2, .bool false, .bool false, .slice none 0 0, .slice none 0 0]) (t := 45) ?hr ?_; (case hd => rfl); (case hg => rfl); (case hr => simp only [ndc]; first | (go_simp; done) | (go_simp; rfl)); intro g29 hg w329 hbox hb; have n0 := Aside0.mk (F.out.lit1 (l := [nd k t l, nd k2 t2 l2]) 0 rfl (Nat.le_refl _) hg hbox hb); clear F hbox hb hg; have F := n0) | ((with_reducible refine gate_dst (N := 30) rfl ?_); refine F.out.app (A := (some ⟨g29, 0, none⟩)) (ys := [nd 14 (⟨#[60, 45]⟩ : ByteArray) [nd k t l, nd k2 t2 l2]]) rfl rfl rfl rfl 0 rfl (by have := HX.out; simp at this ⊢; omega) ?_; intro A30 c30 w130 n1 hc; (obtain ⟨z1, hz⟩ : ∃ zs, xs ++ [nd 14 (⟨#[60, 45]⟩ : ByteArray) [nd k t l, nd k2 t2 l2]] = zs := ⟨_, rfl⟩); rw [hz] at n1 hc ⊢; have Zz1 := Aside0.mk hz; clear hz; have n0 := Aside0.mk n1; have C30 := Aside0.mk hc; clear F n1 hc; have F := n0) | ((with_reducible refine gate_ (.store 33 (.tmp 31) (.tmp 30)) rfl ?_); refine F.out.sf2 rfl rfl rfl (ndc kq tq A30 z1.length c30) (v := (.slice A30 z1.length c30)) rfl rfl (by show _ < 7; decide) info33s rfl rfl rfl ?_; intro w631 n1; have n0 := Aside0.mk n1; clear F n1; have F := n0) | ((with_reducible refine gate_dst (N := 33) rfl ?_); refine goesL_ (some 33) rfl rfl Tryz.func170 (by kernel_rfl) rfl #[.pointer (some ⟨E.gp, 0, none⟩), .string (⟨#[93]⟩ : ByteArray)] rfl (by (try simp only [List.map_toArray, List.map_cons, List.map_nil]); first | done | rfl) ?_; (refine (take_yes F.out.p (⟨#[93]⟩ : ByteArray) H4.out).mono ?_); (rintro e w133 ⟨rfl, hp, hk⟩; refine ⟨_, rfl, ?_⟩; have n0 := Aside0.mk (F.out.move hp hk); clear F hp hk; have F := n0)) | ((with_reducible refine gate_dst (N := 34) rfl ?_); refine ld_agg rfl (N := 34) rfl rfl rfl (F.out.at_ (n := 2) rfl) hu45 rfl info45 ?_) | ((with_reducible refine gate_ (.store 45 (.tmp 4) (.tmp 34)) rfl ?_); refine F.out.st1 rfl rfl rfl (ndc kq tq A30 z1.length c30) rfl rfl info45 rfl (ndc_one _ _ _ _ _) ?_; intro w604 n1; have n0 := Aside0.mk n1; clear F n1; have F := n0))
  refine bodyPost_ret (results_single rfl (.cell g4 45 (ndc kq tq A30 z1.length c30) (0, 0) _ rfl (F.out.at_ (n := 1) rfl) hu45 rfl info45 .nil)) rfl ?_
  rw [Zz1.out]
  refine ⟨A30, c30, rfl, C30.out, Fr.sel (Fr.ownRow F.out).drop0.drop0.drop0 (fun r m => ?_)⟩
  rcases List.mem_cons.1 m with rfl | m
  · exact List.mem_cons_self
  · exact List.mem_cons_of_mem _ (List.mem_cons_of_mem _ (List.mem_cons_of_mem _ (List.mem_cons_of_mem _ (List.mem_cons_of_mem _ m))))
set_option maxHeartbeats 4000000 in
set_option maxRecDepth 100000 in
theorem list_rd (h1 : E.fr < i ∧ i < E.n) (h2 : isT (E.cur i) (⟨#[93]⟩ : ByteArray) = false) (h3 : Rd E 166 #[.pointer (some ⟨E.gp, 0, none⟩), .int .i64 3] i j k t l) (h4 : isT (E.cur j) (⟨#[124, 124]⟩ : ByteArray) = true) (h5 : RdQ E (j + 1) j' ys) (h6 : ys.length ≤ 400) : Rd E 221 #[.pointer (some ⟨E.gp, 0, none⟩)] i j' 15 (⟨#[]⟩ : ByteArray) ([nd k t l] ++ ys) := by
  intro w hp
  have hu45 := Tryz.underlying45
  have hu33 := Tryz.underlying33
  have hu24 := Tryz.underlying24
  have hu86 := Tryz.underlying86
  have hu9 := Tryz.underlying9
  have hu3 := Tryz.underlying3
  have hu4 := Tryz.underlying4
  have F := Aside0.mk (Fr.init hp)
  clear hp
  have H1 := Aside0.mk h1
  have H2 := Aside0.mk h2
  have H3 := Aside0.mk h3
  have H4 := Aside0.mk h4
  have H5 := Aside0.mk h5
  have H6 := Aside0.mk h6
  clear h1 h2 h3 h4 h5 h6
  go_enter Tryz.func221, Tryz.ntmps221
  go_wp2_with (first | ((with_reducible refine gate_dst (N := 2) rfl ?_); refine box_event ?hg (N := 2) ?hd (cs := #[.int .i64 0, .string (⟨#[]⟩ : ByteArray), .slice none 0 0, .bool false, .bool false, .slice none 0 0, .slice none 0 0]) (t := 45) ?hr ?_; (case hd => rfl); (case hg => rfl); (case hr => first | (go_simp; done) | (go_simp; rfl)); intro g2 hg w302 hbox hb; have n0 := Aside0.mk (show Fr E _ _ ((g2, 45, z7) :: _) _ _ _ _ from F.out.box hg hbox hb); clear F hbox hb hg; have F := n0))
  refine wp_scope_straight ?_
  go_wp2_with (first | ((with_reducible refine gate_dst (N := 7) rfl ?_); refine goesL_ (some 7) rfl rfl Tryz.func165 (by kernel_rfl) rfl #[.pointer (some ⟨E.gp, 0, none⟩)] rfl (by (try simp only [List.map_toArray, List.map_cons, List.map_nil]); first | done | rfl) ?_; (refine (broken_calls F.out.p H1.out.1 H1.out.2).mono ?_); (rintro e w107 ⟨rfl, hb⟩; refine ⟨_, rfl, ?_⟩; have n0 := Aside0.mk (F.out.below hb); clear F hb; have F := n0)) | ((with_reducible refine gate_dst (N := 3) rfl ?_); refine box_event ?hg (N := 3) ?hd (cs := #[.int .i64 0, .string (⟨#[]⟩ : ByteArray), .slice none 0 0, .bool false, .bool false, .slice none 0 0, .slice none 0 0]) (t := 45) ?hr ?_; (case hd => rfl); (case hg => rfl); (case hr => first | (go_simp; done) | (go_simp; rfl)); intro g3 hg w303 hbox hb; have n0 := Aside0.mk (show Fr E _ _ ((g3, 45, z7) :: _) _ _ _ _ from F.out.box hg hbox hb); clear F hbox hb hg; have F := n0) | ((with_reducible refine gate_ (.store 45 (.tmp 3) (.tmp 8)) rfl ?_); refine F.out.st0 rfl rfl rfl (ndc 5 (⟨#[]⟩ : ByteArray) none 0 0) rfl rfl info45 rfl (ndc_one _ _ _ _ _) ?_; intro w603 n1; have n0 := Aside0.mk n1; clear F n1; have F := n0) | ((with_reducible refine gate_dst (N := 10) rfl ?_); refine goesL_ (some 10) rfl rfl Tryz.func171 (by kernel_rfl) rfl #[.pointer (some ⟨E.gp, 0, none⟩)] rfl (by (try simp only [List.map_toArray, List.map_cons, List.map_nil]); first | done | rfl) ?_; (refine (notes_calls F.out.p).mono ?_); (rintro e w110 ⟨rfl, hb⟩; refine ⟨_, rfl, ?_⟩; have n0 := Aside0.mk (F.out.below hb); clear F hb; have F := n0)) | ((with_reducible refine gate_dst (N := 12) rfl ?_); refine goesL_ (some 12) rfl rfl Tryz.func170 (by kernel_rfl) rfl #[.pointer (some ⟨E.gp, 0, none⟩), .string (⟨#[93]⟩ : ByteArray)] rfl (by (try simp only [List.map_toArray, List.map_cons, List.map_nil]); first | done | rfl) ?_; (refine (take_no F.out.p (⟨#[93]⟩ : ByteArray) H2.out).mono ?_); (rintro e w112 ⟨rfl, hb⟩; refine ⟨_, rfl, ?_⟩; have n0 := Aside0.mk (F.out.below hb); clear F hb; have F := n0)) | ((with_reducible refine gate_dst (N := 17) rfl ?_); refine goesL_ (some 17) rfl rfl Tryz.func166 (by kernel_rfl) rfl #[.pointer (some ⟨E.gp, 0, none⟩), .int .i64 3] rfl (by (try simp only [List.map_toArray, List.map_cons, List.map_nil]); first | done | rfl) ?_; (refine (H3.out _ F.out.p).mono ?_); (rintro e w117 ⟨A17, c17, rfl, hc, hf, hp, hk⟩; refine ⟨_, rfl, ?_⟩; have n0 := Aside0.mk (F.out.node hp hk hf); have C17 := Aside0.mk hc; clear F hc hf hp hk; have F := n0)) | ((with_reducible refine gate_dst (N := 5) rfl ?_); refine box_event ?hg (N := 5) ?hd (cs := #[.int .i64 0, .string (⟨#[]⟩ : ByteArray), .slice none 0 0, .bool false, .bool false, .slice none 0 0, .slice none 0 0]) (t := 45) ?hr ?_; (case hd => rfl); (case hg => rfl); (case hr => first | (go_simp; done) | (go_simp; rfl)); intro g5 hg w305 hbox hb; have n0 := Aside0.mk (show Fr E _ _ ((g5, 45, z7) :: _) _ _ _ _ from F.out.box hg hbox hb); clear F hbox hb hg; have F := n0) | ((with_reducible refine gate_ (.store 45 (.tmp 5) (.tmp 17)) rfl ?_); refine F.out.st0 rfl rfl rfl (ndc k t A17 l.length c17) rfl rfl info45 rfl (ndc_one _ _ _ _ _) ?_; intro w605 n1; have n0 := Aside0.mk n1; clear F n1; have F := n0) | ((with_reducible refine gate_dst (N := 23) rfl ?_); (refine gate_guard (by rfl) ?_; dsimp only); refine goesL_ (some 23) rfl rfl Tryz.func170 (by kernel_rfl) rfl #[.pointer (some ⟨E.gp, 0, none⟩), .string (⟨#[124, 124]⟩ : ByteArray)] rfl (by (try simp only [List.map_toArray, List.map_cons, List.map_nil]); first | done | rfl) ?_; (refine (take_yes F.out.p (⟨#[124, 124]⟩ : ByteArray) H4.out).mono ?_); (rintro e w123 ⟨rfl, hp, hk⟩; refine ⟨_, rfl, ?_⟩; have n0 := Aside0.mk (F.out.move hp hk); clear F hp hk; have F := n0)) | ((with_reducible refine gate_dst (N := 27) rfl ?_); refine ld_cell rfl (N := 27) (v := (.bool false)) rfl rfl rfl (F.out.at_ (n := 1) rfl) rfl hu4 rfl ?_) | ((with_reducible refine gate_dst (N := 28) rfl ?_); refine ld_agg rfl (N := 28) rfl rfl rfl (F.out.at_ (n := 0) rfl) hu45 rfl info45 ?_) | ((with_reducible refine gate_dst (N := 29) rfl ?_); refine F.out.ev_own (k := k) (t := t) (l := l) ?hg (N := 29) ?hd 0 rfl C17.out ?hr ?_; (case hd => rfl); (case hg => rfl); (case hr => simp only [ndc]; first | (go_simp; done) | (go_simp; rfl)); intro A29 c29 w329 n1 hc; have n0 := Aside0.mk n1; have C29 := Aside0.mk hc; clear F n1 hc; have F := n0) | ((with_reducible refine gate_dst (N := 31) rfl ?_); refine goesL_ (some 31) rfl rfl Tryz.func229 (by kernel_rfl) rfl #[.pointer (some ⟨E.gp, 0, none⟩), .agg (ndc 15 (⟨#[]⟩ : ByteArray) A29 [nd k t l].length c29)] rfl (by (try simp only [List.map_toArray, List.map_cons, List.map_nil]); first | done | rfl) ?_; (refine (H5.out _ _ _ _ _ 15 (⟨#[]⟩ : ByteArray) A29 c29 [nd k t l] F.out (by have := H6.out; simp; omega)).mono ?_); (rintro e w131 ⟨A31, c31, rfl, hc, n1⟩; refine ⟨_, rfl, ?_⟩; (obtain ⟨z1, hz⟩ : ∃ zs, [nd k t l] ++ ys = zs := ⟨_, rfl⟩); rw [hz] at n1 hc ⊢; have Zz1 := Aside0.mk hz; clear hz; have n0 := Aside0.mk n1; have C31 := Aside0.mk hc; clear F n1 hc; have F := n0)) | ((with_reducible refine gate_ (.store 45 (.tmp 2) (.tmp 31)) rfl ?_); refine F.out.st2 rfl rfl rfl (ndc 15 (⟨#[]⟩ : ByteArray) A31 z1.length c31) rfl rfl info45 rfl (ndc_one _ _ _ _ _) ?_; intro w602 n1; have n0 := Aside0.mk n1; clear F n1; have F := n0))
  refine bodyPost_ret (results_single rfl (.cell g2 45 (ndc 15 (⟨#[]⟩ : ByteArray) A31 z1.length c31) (0, 0) _ rfl (F.out.at_ (n := 2) rfl) hu45 rfl info45 .nil)) rfl ?_
  show RdP E w j' 15 _ ([nd k t l] ++ ys) _ _
  rw [Zz1.out]
  exact ⟨A31, c31, rfl, C31.out, F.out.row (n := 0) rfl, F.out.p, F.out.keep⟩
end
end Go.Proofs.YthipodffpkglfaaGreatDoor.PS
namespace Go.Proofs.YthipodffpkglfaaGreatDoor.PS
open Go.RowKit Go.Proofs.YthipodffpkglfaaGreatDoorW.PrintWords Go.Proofs.YthipodffpkglfaaGreatDoorW.PrintLast Go.Proofs.YthipodffpkglfaaGreatDoorW.PrintMore
set_option linter.unusedVariables false
set_option linter.unusedSimpArgs false
def badV : Value := .iface 156 (.agg #[])
theorem rec_idle (g10 g11 : Nat) (w : World) : CallsD Tryz.prog 169 #[.pointer (some ⟨g10, 0, none⟩), .pointer (some ⟨g11, 0, none⟩)] .returning w fun e u' w' => e = .returned (.tuple #[]) ∧ u' = .returning ∧ w' = w := by
  refine callsD_of_wpS Tryz.func169 rfl fun c₀ cs hu => ?_
  apply wpS_seq
  apply wpS_region
  simp [wpOpsS, go_sem, recoverD, hu, Tryz.ntmps169, Exit.thenS]
  refine wpS_of_wp ?_
  simp only [Array.replicate_succ, Array.replicate_zero, List.push_toArray, List.append_toArray, List.nil_append, List.cons_append, pset]
  go_wp2_with fail
  exact ⟨rfl, .returning, by rw [← hu], _, results_none rfl _ _ _, rfl, rfl, rfl⟩
set_option maxHeartbeats 1000000 in
set_option maxRecDepth 100000 in
theorem rec_panic (g10 g11 : Nat) (older : List PanicEntry) (w : World) (x y : Int) (h10 : w.heap[g10]? = some (.cells #[.int .i64 x] 3 (0, 0))) (h11 : w.heap[g11]? = some (.cells #[.int .i64 y] 3 (0, 0))) (hne : g10 ≠ g11) : CallsD Tryz.prog 169 #[.pointer (some ⟨g10, 0, none⟩), .pointer (some ⟨g11, 0, none⟩)] (.panicking ({ v := badV, recovered := false } :: older)) w fun e u' w' => e = .returned (.tuple #[]) ∧ u' = .panicking ({ v := badV, recovered := true } :: older) ∧ w' = ((w.setCell ⟨g10, 0, none⟩ (.int .i64 0)).setCell ⟨g11, 0, none⟩ (.int .i64 8)).alloc (.cells #[] 156) := by
  refine callsD_of_wpS Tryz.func169 rfl fun c₀ cs hu => ?_
  apply wpS_seq
  apply wpS_region
  simp [wpOpsS, go_sem, recoverD, hu, Tryz.ntmps169, Exit.thenS]
  refine wpS_of_wp ?_
  unfold badV at hu ⊢
  have c10 : w.cell? ⟨g10, 0, none⟩ = some (.int .i64 x) := (blk_cell h10 0).trans rfl
  have c11 : w.cell? ⟨g11, 0, none⟩ = some (.int .i64 y) := (blk_cell h11 0).trans rfl
  have f10 := blk_frozen h10 0
  have f11 := blk_frozen h11 0
  have l10 := blk_lt h10
  have l11 := blk_lt h11
  have hu156 := Tryz.underlying156
  have hta : ∀ W, (Instr.typeAssert (.iface 156 (.agg #[])) 20 156 true).run Tryz.prog W = .ok (.tuple #[.agg #[], .bool true]) W := fun W => by simp [Instr.typeAssert, Sem.run_bind, run_underlying hu156 W]
  clear h10 h11
  simp only [Array.replicate_succ, Array.replicate_zero, List.push_toArray, List.append_toArray, List.nil_append, List.cons_append, pset]
  go_wp2_with fail
  exact ⟨rfl, _, rfl, _, results_none rfl _ _ _, rfl, rfl, rfl⟩
section
variable {P : Program} {ops : Array Oper} {Q : Exit → Act → World → Prop} {rest : List Oper} {oi : Oper} {a : Act} {w : World}
/-- A call that panics. -/
theorem goesVX_ (N : Option Tmp) (hd : oi.dst = N) (hg : oi.guard = none) {f : FuncId} {fn : Func} {x : Tmp} {xs : Array Operand} {ts : Array TypeId} (hf : P.funcs[f]? = some fn) (hname : (fn.name == "runtime.NumGoroutine") = false) (hb : fn.body.isSome = true) (args : Array Value) {fs cs : Array Value}
    (hop : oi.op = .call { callee := .value (.tmp x), args := xs, argTypes := ts }) (hx : a.eval (.tmp x) = .func (.func f) fs cs) (hargs : fs ++ xs.map a.eval ++ cs = args)
    (h : Calls P f args w fun e w' => ∃ ch, e = .panicked ch ∧ Q (.panic ch) a w') : wpList P ops Q (oi :: rest) a w := by
  refine wpList_plain hg fun K hK => ?_
  have he := enters_ hf hname hb args w
  have hrun : (execOp a.eval oi).run P w = .ok (.enter f args) w := by
    unfold execOp
    simp only [hop, hx, resolve, Deferred.ofValue, invoke, Sem.run_bind, Sem.run_pure, Result.andThen_ok, hargs, he]
  unfold Oper.wp
  rw [hrun, Oper.upon_enter]
  refine h.mono fun e w'' hh => ?_
  obtain ⟨v, rfl, hk⟩ := hh
  exact hk
theorem goesX_ (N : Option Tmp) (hd : oi.dst = N) (hg : oi.guard = none) {f : FuncId} {fn : Func} {xs : Array Operand} {ts : Array TypeId} (hf : P.funcs[f]? = some fn) (hname : (fn.name == "runtime.NumGoroutine") = false) (hb : fn.body.isSome = true) (args : Array Value)
    (hop : oi.op = .call { callee := .value (.func f), args := xs, argTypes := ts }) (hargs : xs.map a.eval = args)
    (h : Calls P f args w fun e w' => ∃ ch, e = .panicked ch ∧ Q (.panic ch) a w') : wpList P ops Q (oi :: rest) a w := by
  refine wpList_plain hg fun K hK => ?_
  have he := enters_ hf hname hb args w
  have hrun : (execOp a.eval oi).run P w = .ok (.enter f args) w := by
    unfold execOp
    simp [hop, resolve, Deferred.ofValue, invoke, Act.eval, hargs, he]
  unfold Oper.wp
  rw [hrun, Oper.upon_enter]
  refine h.mono fun e w'' hh => ?_
  obtain ⟨v, rfl, hk⟩ := hh
  exact hk
end
def mkE (wD : World) (s : ByteArray) (A : Option Addr) (c : Nat) (toks : List Tk) (n fr gp : Nat) : Env := ⟨wD, gp, s, A, c, toks, n, fr⟩
/-- What stands about tokens, whatever parser reads them. -/
structure Toks (wD : World) (s : ByteArray) (A : Option Addr) (toks : List Tk) (n fr : Nat) : Prop where
  tl : n ≤ toks.length
  tk : TokAt wD A toks
  nc : ∀ (j : Nat) (x : Tk), toks[j]? = some x → fr ≤ j → j < n → x.k ≠ 11
  sz : toks.length ≤ 1000000
  s2 : s.size ≤ 1000000
  nb : ∀ (j : Nat) (x y : Tk), fr ≤ j → j + 1 < n → toks[j]? = some x → toks[j + 1]? = some y → inT s x ∧ inT s y ∧ ∃ e m : Nat, x.a + (x.t.size : Int) = e ∧ y.a = ((e + m : Nat) : Int) ∧ nlF s e m = 0
/-- What is done over tokens, told: the place, what was written. -/
def DoP (E : Env) (gO : Nat) (w : World) (j : Nat) (l : List S45) (e : Ending) (w' : World) : Prop := ∃ A c, e = .returned (.tuple #[]) ∧ w'.heap[gO]? = some (.cells #[.slice A l.length c] 33 (0, 0)) ∧ l.length ≤ c ∧ Kd.F k45 w' (fun k => w.heap.size ≤ k) A l.length l ∧ PSt E w' j ∧ KeepBut w w' E.gp (some gO)
def DoX (E : Env) (w : World) (e : Ending) (w' : World) : Prop := e = .panicked [{ v := badV, recovered := false }] ∧ (∃ j, PSt E w' j) ∧ KeepBut w w' E.gp none
def ReP (wD : World) (gO : Nat) (w : World) (j : Nat) (l : List S45) (e : Ending) (w' : World) : Prop := ∃ A c, e = .returned (.tuple #[.int .i64 j, .int .i64 0]) ∧ w'.heap[gO]? = some (.cells #[.slice A l.length c] 33 (0, 0)) ∧ l.length ≤ c ∧ Kd.F k45 w' (fun k => w.heap.size ≤ k) A l.length l ∧ KeepBut w w' gO none ∧ Below wD.heap.size wD w'
def ReX (wD : World) (w : World) (e : Ending) (w' : World) : Prop := e = .returned (.tuple #[.int .i64 0, .int .i64 8]) ∧ KeepBut w w' w.heap.size none ∧ Below wD.heap.size wD w'
section
variable {wD w : World} {s : ByteArray} {A : Option Addr} {c : Nat} {toks : List Tk} {n fr i j gO : Nat} {l : List S45} {f : Nat} {fn : Func} {fs cs : Array Value}
variable {args : Value → Array Value}
set_option maxHeartbeats 4000000 in
set_option maxRecDepth 100000 in
theorem read_ok (T : Toks wD s A toks n fr) (hb : Below wD.heap.size wD w) (hgO : gO < w.heap.size ∧ wD.heap.size ≤ gO) (hi : fr ≤ i ∧ i ≤ n) (hf : Tryz.prog.funcs[f]? = some fn) (hname : (fn.name == "runtime.NumGoroutine") = false) (hbody : fn.body.isSome = true) (ha : ∀ p, fs ++ #[p] ++ cs = args p) (hdo : ∀ gp w1, w.heap.size ≤ gp → Below w.heap.size w w1 → PSt (mkE wD s A c toks n fr gp) w1 i → Calls Tryz.prog f (args (.pointer (some ⟨gp, 0, none⟩))) w1 (DoP (mkE wD s A c toks n fr gp) gO w1 j l)) : Calls Tryz.prog 134 #[.string s, .slice A toks.length c, .int .i64 i, .int .i64 n, .func (.func f) fs cs] w (ReP wD gO w j l) := by
  have hu3 := Tryz.underlying3
  have hu154 := Tryz.underlying154
  have hu56 := Tryz.underlying56
  have b1 : decide ((i : Int) < 0) = false := decide_eq_false (by omega)
  have b2 : decide (toks.length < n) = false := decide_eq_false (by have := T.tl; omega)
  have b3 : decide (n < i) = false := decide_eq_false (by omega)
  have hmf : ∀ (fn : Fn) (first cap : Array Value) (w : World), (Instr.makeFunc fn first cap).run Tryz.prog w = .ok (.func fn first cap) w := fun _ _ _ _ => rfl
  have TT := Aside0.mk T
  have TI := Aside0.mk hi
  have HD := Aside0.mk hb
  have GO := Aside0.mk hgO
  have HF := Aside0.mk hf
  have HN := Aside0.mk hname
  have HBo := Aside0.mk hbody
  have HA := Aside0.mk ha
  have HDO := Aside0.mk hdo
  clear T hi hb hgO hf hname hbody ha hdo
  go_enter_defers Tryz.func134, Tryz.ntmps134
  go_wp2_with (first | ((with_reducible refine gate_dst (N := 10) rfl ?_); refine box_event ?hg (N := 10) ?hd (cs := #[.int .i64 0]) (t := 3) ?hr ?_; (case hd => rfl); (case hg => rfl); (case hr => first | (go_simp; done) | (go_simp; rfl)); intro g10 hg w310 hbox hb; have B10 := Aside0.mk hbox; have H1 := Aside0.mk hb; have G10 := Aside0.mk (Nat.le_of_eq hg.symm); clear hbox hb hg) | ((with_reducible refine gate_dst (N := 11) rfl ?_); refine box_event ?hg (N := 11) ?hd (cs := #[.int .i64 0]) (t := 3) ?hr ?_; (case hd => rfl); (case hg => rfl); (case hr => first | (go_simp; done) | (go_simp; rfl)); intro g11 hg w311 hbox hb; have NE := Aside0.mk (show g10 ≠ g11 from by rw [hg]; exact Nat.ne_of_lt (blk_lt B10.out)); have B11 := Aside0.mk hbox; have G11 := Aside0.mk (show w.heap.size ≤ g11 from by rw [hg]; exact H1.out.size); have n1 := Aside0.mk (blk_below B10.out hb); clear B10; have B10 := n1; have n3 := Aside0.mk (H1.out.trans (hb.mono H1.out.size)); clear H1; have H1 := n3; clear hbox hb hg) | ((with_reducible refine gate_dst (N := 31) rfl ?_); refine box_event ?hg (N := 31) ?hd (cs := #[.string s, .slice A toks.length c, .int .i64 i, .int .i64 n]) (t := 154) ?hr ?_; (case hd => rfl); (case hg => rfl); (case hr => first | (go_simp; done) | (go_simp; rfl)); intro gp hg w331 hbox hb; have NP := Aside0.mk (show g10 ≠ gp ∧ g11 ≠ gp from by rw [hg]; exact ⟨Nat.ne_of_lt (blk_lt B10.out), Nat.ne_of_lt (blk_lt B11.out)⟩); have GP := Aside0.mk (show w.heap.size ≤ gp from by rw [hg]; exact H1.out.size); have BP := Aside0.mk hbox; have n1 := Aside0.mk (blk_below B10.out hb); clear B10; have B10 := n1; have n2 := Aside0.mk (blk_below B11.out hb); clear B11; have B11 := n2; have n3 := Aside0.mk (H1.out.trans (hb.mono H1.out.size)); clear H1; have H1 := n3; have HP := Aside0.mk (show PSt (mkE wD s A c toks n fr gp) w331 i from ⟨HD.out.trans (H1.out.mono HD.out.size), Nat.le_trans HD.out.size GP.out, BP.out, TI.out.2, TT.out.tl, TT.out.tk, TT.out.nc, TT.out.sz, TT.out.s2, TT.out.nb, TI.out.1⟩); clear hbox hb hg BP) | ((with_reducible refine gate_dst (N := 35) rfl ?_); refine goesV_ (some 35) rfl rfl HF.out HN.out HBo.out (args (.pointer (some ⟨gp, 0, none⟩))) rfl rfl (by simp only [List.map_toArray, List.map_cons, List.map_nil]; exact HA.out _) ?_; (refine (HDO.out gp _ GP.out H1.out HP.out).mono ?_); rintro e w135 ⟨A1, c1, rfl, hg, hc, hf, hp, hk⟩; refine ⟨_, rfl, ?_⟩; have P10 := B10; have P11 := B11; have n1 := Aside0.mk (show w135.heap[g10]? = _ from (hk.2 g10 (blk_lt B10.out) NP.out.1 (by intro h; injection h with h; have := GO.out.1; have := G10.out; omega)).trans B10.out); have n2 := Aside0.mk (show w135.heap[g11]? = _ from (hk.2 g11 (blk_lt B11.out) NP.out.2 (by intro h; injection h with h; have := GO.out.1; have := G11.out; omega)).trans B11.out); clear B10 B11; have B10 := n1; have B11 := n2; have HG := Aside0.mk hg; have HC := Aside0.mk hc; have HFF := Aside0.mk hf; have Q10 := Aside0.mk (show g10 < w331.heap.size from blk_lt P10.out); have Q11 := Aside0.mk (show g11 < w331.heap.size from blk_lt P11.out); have HP2 := Aside0.mk hp; have HK := Aside0.mk hk; have q2 : w135.cell? ⟨gp, 2, none⟩ = some (.int .i64 (j : Nat)) := hp.c2; have c10 : w135.cell? ⟨g10, 0, none⟩ = some (.int .i64 0) := (blk_cell B10.out 0).trans rfl; have c11 : w135.cell? ⟨g11, 0, none⟩ = some (.int .i64 0) := (blk_cell B11.out 0).trans rfl; have f10 := blk_frozen B10.out 0; have f11 := blk_frozen B11.out 0; have ne := NE.out; clear hg hc hf hp hk))
  have e10 : ((w135.setCell ⟨g10, 0, none⟩ (.int .i64 j)).setCell ⟨g11, 0, none⟩ (.int .i64 0)).cell? ⟨g10, 0, none⟩ = some (.int .i64 j) := (blk_cell (blk_far (blk_put B10.out 0 (.int .i64 j) rfl) (p := ⟨g11, 0, none⟩) NE.out _) 0).trans rfl
  have e11 : ((w135.setCell ⟨g10, 0, none⟩ (.int .i64 j)).setCell ⟨g11, 0, none⟩ (.int .i64 0)).cell? ⟨g11, 0, none⟩ = some (.int .i64 0) := (blk_cell (blk_put (blk_far B11.out (p := ⟨g10, 0, none⟩) NE.out.symm _) 0 (.int .i64 0) rfl) 0).trans rfl
  have ek : KeepBut w ((w135.setCell ⟨g10, 0, none⟩ (.int .i64 j)).setCell ⟨g11, 0, none⟩ (.int .i64 0)) gO none := ⟨by rw [World.size_setCell, World.size_setCell]; exact Nat.le_trans H1.out.size HK.out.1, fun q hq hn _ => by
    rw [Below.heap_setCell _ _ _ q (by have := G11.out; show q ≠ g11; omega), Below.heap_setCell _ _ _ q (by have := G10.out; show q ≠ g10; omega)]
    exact (HK.out.2 q (Nat.lt_of_lt_of_le hq H1.out.size) (by have := GP.out; show q ≠ gp; omega) (by intro h; injection h with h; exact hn h)).trans (H1.out.block q hq)⟩
  have eb := ((HP2.out.hb.setCell (p := ⟨g10, 0, none⟩) (Nat.le_trans HD.out.size G10.out) (.int .i64 j)).setCell (p := ⟨g11, 0, none⟩) (Nat.le_trans HD.out.size G11.out) (.int .i64 0))
  have eg : ((w135.setCell ⟨g10, 0, none⟩ (.int .i64 j)).setCell ⟨g11, 0, none⟩ (.int .i64 0)).heap[gO]? = _ := (blk_far (blk_far HG.out (p := ⟨g10, 0, none⟩) (by have := GO.out.1; have := G10.out; show gO ≠ g10; omega) _) (p := ⟨g11, 0, none⟩) (by have := GO.out.1; have := G11.out; show gO ≠ g11; omega) _)
  have ef : Kd.F k45 ((w135.setCell ⟨g10, 0, none⟩ (.int .i64 j)).setCell ⟨g11, 0, none⟩ (.int .i64 0)) (fun k => w.heap.size ≤ k) A1 l.length l := Kd.F_mono (Kd.F_step HFF.out (fun q hq hl => by
    have h0 := blk_lt B10.out
    have h1 := Q10.out
    have h2 := Q11.out
    rw [Below.heap_setCell _ _ _ q (by show q ≠ g11; omega), Below.heap_setCell _ _ _ q (by show q ≠ g10; omega)])) (fun q hq => Nat.le_trans H1.out.size hq)
  clear c10 c11 f10 f11 q2 ne b1 b2 b3
  generalize (w135.setCell ⟨g10, 0, none⟩ (.int .i64 j)).setCell ⟨g11, 0, none⟩ (.int .i64 0) = wE at e10 e11 ek eb eg ef ⊢
  refine leaves_cons (f := 169) (args := #[.pointer (some ⟨g10, 0, none⟩), .pointer (some ⟨g11, 0, none⟩)]) (by simp) (by simp [go_sem]) ?_
  refine (rec_idle g10 g11 _).mono ?_
  rintro e u' w'' ⟨rfl, rfl, rfl⟩
  refine ⟨.tuple #[.int .i64 j, .int .i64 0], ?_, ?_⟩
  · simp [results, Tryz.f134, go_sem, e10, e11]
  · exact ⟨A1, c1, rfl, eg, HC.out, ef, ek, eb⟩
set_option maxHeartbeats 4000000 in
set_option maxRecDepth 100000 in
theorem read_fail (T : Toks wD s A toks n fr) (hb : Below wD.heap.size wD w) (hi : fr ≤ i ∧ i ≤ n) (hf : Tryz.prog.funcs[f]? = some fn) (hname : (fn.name == "runtime.NumGoroutine") = false) (hbody : fn.body.isSome = true) (ha : ∀ p, fs ++ #[p] ++ cs = args p) (hdo : ∀ gp w1, w.heap.size ≤ gp → Below w.heap.size w w1 → PSt (mkE wD s A c toks n fr gp) w1 i → Calls Tryz.prog f (args (.pointer (some ⟨gp, 0, none⟩))) w1 (DoX (mkE wD s A c toks n fr gp) w1)) : Calls Tryz.prog 134 #[.string s, .slice A toks.length c, .int .i64 i, .int .i64 n, .func (.func f) fs cs] w (ReX wD w) := by
  have hu3 := Tryz.underlying3
  have hu154 := Tryz.underlying154
  have hu56 := Tryz.underlying56
  have b1 : decide ((i : Int) < 0) = false := decide_eq_false (by omega)
  have b2 : decide (toks.length < n) = false := decide_eq_false (by have := T.tl; omega)
  have b3 : decide (n < i) = false := decide_eq_false (by omega)
  have hmf : ∀ (fn : Fn) (first cap : Array Value) (w : World), (Instr.makeFunc fn first cap).run Tryz.prog w = .ok (.func fn first cap) w := fun _ _ _ _ => rfl
  have TT := Aside0.mk T
  have TI := Aside0.mk hi
  have HD := Aside0.mk hb
  have HF := Aside0.mk hf
  have HN := Aside0.mk hname
  have HBo := Aside0.mk hbody
  have HA := Aside0.mk ha
  have HDO := Aside0.mk hdo
  clear T hi hb hf hname hbody ha hdo
  go_enter_defers Tryz.func134, Tryz.ntmps134
  go_wp2_with (first | ((with_reducible refine gate_dst (N := 10) rfl ?_); refine box_event ?hg (N := 10) ?hd (cs := #[.int .i64 0]) (t := 3) ?hr ?_; (case hd => rfl); (case hg => rfl); (case hr => first | (go_simp; done) | (go_simp; rfl)); intro g10 hg w310 hbox hb; have B10 := Aside0.mk hbox; have H1 := Aside0.mk hb; have G10 := Aside0.mk (Nat.le_of_eq hg.symm); clear hbox hb hg) | ((with_reducible refine gate_dst (N := 11) rfl ?_); refine box_event ?hg (N := 11) ?hd (cs := #[.int .i64 0]) (t := 3) ?hr ?_; (case hd => rfl); (case hg => rfl); (case hr => first | (go_simp; done) | (go_simp; rfl)); intro g11 hg w311 hbox hb; have NE := Aside0.mk (show g10 ≠ g11 from by rw [hg]; exact Nat.ne_of_lt (blk_lt B10.out)); have B11 := Aside0.mk hbox; have G11 := Aside0.mk (show w.heap.size ≤ g11 from by rw [hg]; exact H1.out.size); have n1 := Aside0.mk (blk_below B10.out hb); clear B10; have B10 := n1; have n3 := Aside0.mk (H1.out.trans (hb.mono H1.out.size)); clear H1; have H1 := n3; clear hbox hb hg) | ((with_reducible refine gate_dst (N := 31) rfl ?_); refine box_event ?hg (N := 31) ?hd (cs := #[.string s, .slice A toks.length c, .int .i64 i, .int .i64 n]) (t := 154) ?hr ?_; (case hd => rfl); (case hg => rfl); (case hr => first | (go_simp; done) | (go_simp; rfl)); intro gp hg w331 hbox hb; have NP := Aside0.mk (show g10 ≠ gp ∧ g11 ≠ gp from by rw [hg]; exact ⟨Nat.ne_of_lt (blk_lt B10.out), Nat.ne_of_lt (blk_lt B11.out)⟩); have GP := Aside0.mk (show w.heap.size ≤ gp from by rw [hg]; exact H1.out.size); have BP := Aside0.mk hbox; have n1 := Aside0.mk (blk_below B10.out hb); clear B10; have B10 := n1; have n2 := Aside0.mk (blk_below B11.out hb); clear B11; have B11 := n2; have n3 := Aside0.mk (H1.out.trans (hb.mono H1.out.size)); clear H1; have H1 := n3; have HP := Aside0.mk (show PSt (mkE wD s A c toks n fr gp) w331 i from ⟨HD.out.trans (H1.out.mono HD.out.size), Nat.le_trans HD.out.size GP.out, BP.out, TI.out.2, TT.out.tl, TT.out.tk, TT.out.nc, TT.out.sz, TT.out.s2, TT.out.nb, TI.out.1⟩); clear hbox hb hg BP) | ((with_reducible refine gate_dst (N := 35) rfl ?_); refine goesVX_ (some 35) rfl rfl HF.out HN.out HBo.out (args (.pointer (some ⟨gp, 0, none⟩))) rfl rfl (by simp only [List.map_toArray, List.map_cons, List.map_nil]; exact HA.out _) ?_; (refine (HDO.out gp _ GP.out H1.out HP.out).mono ?_); rintro e w135 ⟨rfl, hp, hk⟩; refine ⟨_, rfl, ?_⟩; have n1 := Aside0.mk (show w135.heap[g10]? = _ from (hk.2 g10 (blk_lt B10.out) NP.out.1 (by simp)).trans B10.out); have n2 := Aside0.mk (show w135.heap[g11]? = _ from (hk.2 g11 (blk_lt B11.out) NP.out.2 (by simp)).trans B11.out); clear B10 B11; have B10 := n1; have B11 := n2; have HP2 := Aside0.mk hp; have HK := Aside0.mk hk; clear hp hk))
  obtain ⟨jx, hpx⟩ := HP2.out
  have e10 : (((w135.setCell ⟨g10, 0, none⟩ (.int .i64 0)).setCell ⟨g11, 0, none⟩ (.int .i64 8)).alloc (.cells #[] 156)).cell? ⟨g10, 0, none⟩ = some (.int .i64 0) := (blk_cell (blk_alloc (blk_far (blk_put B10.out 0 (.int .i64 0) rfl) (p := ⟨g11, 0, none⟩) NE.out _) _) 0).trans rfl
  have e11 : (((w135.setCell ⟨g10, 0, none⟩ (.int .i64 0)).setCell ⟨g11, 0, none⟩ (.int .i64 8)).alloc (.cells #[] 156)).cell? ⟨g11, 0, none⟩ = some (.int .i64 8) := (blk_cell (blk_alloc (blk_put (blk_far B11.out (p := ⟨g10, 0, none⟩) NE.out.symm _) 0 (.int .i64 8) rfl) _) 0).trans rfl
  have hlt : ∀ q, q < w.heap.size → q < ((w135.setCell ⟨g10, 0, none⟩ (.int .i64 0)).setCell ⟨g11, 0, none⟩ (.int .i64 8)).heap.size := fun q hq => by
    rw [World.size_setCell, World.size_setCell]
    exact Nat.lt_of_lt_of_le (Nat.lt_of_lt_of_le hq H1.out.size) HK.out.1
  have ek : KeepBut w (((w135.setCell ⟨g10, 0, none⟩ (.int .i64 0)).setCell ⟨g11, 0, none⟩ (.int .i64 8)).alloc (.cells #[] 156)) w.heap.size none := ⟨by rw [World.size_alloc, World.size_setCell, World.size_setCell]; exact Nat.le_succ_of_le (Nat.le_trans H1.out.size HK.out.1), fun q hq hn _ => by
    rw [Below.heap_alloc _ _ q (hlt q hq), Below.heap_setCell _ _ _ q (by have := G11.out; show q ≠ g11; omega), Below.heap_setCell _ _ _ q (by have := G10.out; show q ≠ g10; omega)]
    exact (HK.out.2 q (Nat.lt_of_lt_of_le hq H1.out.size) (by have := GP.out; show q ≠ gp; omega) (by simp)).trans (H1.out.block q hq)⟩
  have eb : Below wD.heap.size wD (((w135.setCell ⟨g10, 0, none⟩ (.int .i64 0)).setCell ⟨g11, 0, none⟩ (.int .i64 8)).alloc (.cells #[] 156)) := ((hpx.hb.setCell (p := ⟨g10, 0, none⟩) (Nat.le_trans HD.out.size G10.out) (.int .i64 0)).setCell (p := ⟨g11, 0, none⟩) (Nat.le_trans HD.out.size G11.out) (.int .i64 8)).alloc (by rw [World.size_setCell, World.size_setCell]; exact hpx.hb.size) _
  refine leaves_cons (f := 169) (args := #[.pointer (some ⟨g10, 0, none⟩), .pointer (some ⟨g11, 0, none⟩)]) (by simp) (by simp [go_sem]) ?_
  refine (rec_panic g10 g11 [] _ _ _ B10.out B11.out NE.out).mono ?_
  rintro e u' w'' ⟨rfl, rfl, rfl⟩
  clear b1 b2 b3 hlt
  generalize ((w135.setCell ⟨g10, 0, none⟩ (.int .i64 0)).setCell ⟨g11, 0, none⟩ (.int .i64 8)).alloc (.cells #[] 156) = wE at e10 e11 ek eb ⊢
  refine ⟨.tuple #[.int .i64 0, .int .i64 8], ?_, ?_⟩
  · simp [results, Tryz.f134, go_sem, e10, e11]
  · exact ⟨rfl, ek, eb⟩
end
end Go.Proofs.YthipodffpkglfaaGreatDoor.PS
namespace Go.Proofs.YthipodffpkglfaaGreatDoor.PS
open Go.RowKit Go.Proofs.YthipodffpkglfaaGreatDoorW.PrintWords Go.Proofs.YthipodffpkglfaaGreatDoorW.PrintLast Go.Proofs.YthipodffpkglfaaGreatDoorW.PrintMore
set_option linter.unusedVariables false
set_option linter.unusedSimpArgs false
theorem F137tab1 : rtab .any (opsOf Tryz.f137 1) = (true, [([], []), ([], []), ([], []), ([1, 2], [1, 2]), ([0, 3, 3], [0, 3]), ([4, 4, 0, 1, 2, 3, 4], [4])]) := by kernel_rfl
theorem F167tab1 : rtab .any (opsOf Tryz.f167 1) = (true, [([], []), ([0], [0]), ([1], [1]), ([2], [2]), ([], []), ([4], [4]), ([5], [5]), ([6], [6]), ([3, 7], [3, 7]), ([8], [8])]) := by kernel_rfl
theorem goesXs_ {P : Program} {ops : Array Oper} {oi : Oper} {N : Option Tmp} {a : Act} {w : World} {K : Act → World → Prop} {Q : Exit → Act → World → Prop} {f : FuncId} {fn : Func} {xs : Array Operand} {ts : Array TypeId} (hf : P.funcs[f]? = some fn) (hname : (fn.name == "runtime.NumGoroutine") = false) (hb : fn.body.isSome = true) (args : Array Value)
    (hw : Region.wanted oi (yielded ops a.tmps) = true) (hop : oi.op = .call { callee := .value (.func f), args := xs, argTypes := ts }) (hargs : xs.map a.eval = args)
    (h : Calls P f args w fun e w' => ∃ ch, e = .panicked ch ∧ Q (.panic ch) a w') : if Region.wanted oi (yielded ops a.tmps) = true then Oper.wp P oi a w K Q else K (a.put N undef) w := by
  rw [if_pos hw]
  have he := enters_ hf hname hb args w
  have hrun : (execOp a.eval oi).run P w = .ok (.enter f args) w := by
    unfold execOp
    simp [hop, resolve, Deferred.ofValue, invoke, Act.eval, hargs, he]
  unfold Oper.wp
  rw [hrun, Oper.upon_enter]
  refine h.mono fun e w'' hh => ?_
  obtain ⟨v, rfl, hk⟩ := hh
  exact hk
theorem Bx.one {g t : Nat} {cs : Array Value} {w : World} (h : w.heap[g]? = some (.cells cs t (0, 0))) : Bx [(g, t, cs)] w := fun b m => by
  rw [List.mem_singleton.1 m]; exact h
theorem Bx.two {b1 b2 : Nat × Nat × Array Value} {w : World} (h : Bx [b1] w) (h2 : w.heap[b2.1]? = some (.cells b2.2.2 b2.2.1 (0, 0))) : Bx [b1, b2] w := fun b m => by
  rcases List.mem_cons.1 m with rfl | m
  · exact h _ (List.mem_singleton.2 rfl)
  · rw [List.mem_singleton.1 m]; exact h2
theorem C_two {w : World} {g : Nat} {a b : Int} (h : w.heap[g]? = some (.cells #[.int .i64 a, .int .i64 b] 3 (0, 0))) : Kd.C (Kd.int .i64) w (some ⟨g, 0, none⟩) 2 [a, b] :=
  ⟨rfl, by decide, fun _ => ⟨⟨g, 0, none⟩, rfl, fun q x hq => by
    rcases q with _ | _ | q
    · simp only [List.getElem?_cons_zero, Option.some.injEq] at hq
      subst hq
      refine ⟨[.int .i64 a], rfl, rfl, fun u v hu => ?_⟩
      rcases u with _ | u
      · simp only [List.getElem?_cons_zero, Option.some.injEq] at hu
        subst hu
        exact (blk_cell h 0).trans rfl
      · simp at hu
    · simp only [List.getElem?_cons_succ, List.getElem?_cons_zero, Option.some.injEq] at hq
      subst hq
      refine ⟨[.int .i64 b], rfl, rfl, fun u v hu => ?_⟩
      rcases u with _ | u
      · simp only [List.getElem?_cons_zero, Option.some.injEq] at hu
        subst hu
        exact (blk_cell h 1).trans rfl
      · simp at hu
    · simp at hq⟩⟩
def PX : Ending := .panicked [{ v := badV, recovered := false }]
section
variable {E : Env} {w : World} {i j : Nat} {k : Int} {t : ByteArray} {l : List S45} {g2 : Nat}
theorem fail_calls : Calls Tryz.prog 209 #[] w fun e w' => e = PX ∧ w = w' := by
  have hpn : ∀ (w : World), (Instr.panic (.iface 156 (.agg #[]))).run Tryz.prog w = .halt (.panic (.iface 156 (.agg #[]))) w := fun _ => rfl
  unfold PX badV
  go_enter Tryz.func209, Tryz.ntmps209
  go_wp2
  exact ⟨rfl, rfl, rfl⟩
theorem must_false : Calls Tryz.prog 175 #[.bool false] w fun e w' => e = PX ∧ w = w' := by
  unfold PX
  go_enter Tryz.func175, Tryz.ntmps175
  go_wp2_with (first | ((with_reducible refine gate_dst (N := 4) rfl ?_); refine goesX_ (some 4) rfl rfl Tryz.func209 (by kernel_rfl) rfl #[] rfl (by (try simp only [List.map_toArray, List.map_cons, List.map_nil]); first | done | rfl) ?_; (refine (fail_calls).mono ?_); (rintro e w104 ⟨rfl, rfl⟩; refine ⟨_, rfl, ?_⟩; skip)))
  exact ⟨rfl, rfl, rfl⟩
theorem need_no (hp : PSt E w i) (s : ByteArray) (h : isT (E.cur i) s = false) : Calls Tryz.prog 164 #[.pointer (some ⟨E.gp, 0, none⟩), .string s] w fun e w' => e = PX ∧ Below w.heap.size w w' := by
  have HP := Aside0.mk hp
  have HH := Aside0.mk h
  clear hp h
  unfold PX
  go_enter Tryz.func164, Tryz.ntmps164
  go_wp2_with (first | ((with_reducible refine gate_dst (N := 6) rfl ?_); refine goesL_ (some 6) rfl rfl Tryz.func170 (by kernel_rfl) rfl #[.pointer (some ⟨E.gp, 0, none⟩), .string s] rfl (by (try simp only [List.map_toArray, List.map_cons, List.map_nil]); first | done | rfl) ?_; (refine (take_no HP.out s HH.out).mono ?_); (rintro e w106 ⟨rfl, hb⟩; refine ⟨_, rfl, ?_⟩; have HB := Aside0.mk hb; clear hb)) | ((with_reducible refine gate_dst (N := 7) rfl ?_); refine goesX_ (some 7) rfl rfl Tryz.func175 (by kernel_rfl) rfl #[.bool false] rfl (by (try simp only [List.map_toArray, List.map_cons, List.map_nil]); first | done | rfl) ?_; (refine (must_false).mono ?_); (rintro e w107 ⟨rfl, rfl⟩; refine ⟨_, rfl, ?_⟩; skip)))
  exact ⟨rfl, rfl, HB.out⟩
set_option maxHeartbeats 4000000 in
set_option maxRecDepth 100000 in
theorem args_x (h1 : isT (E.cur i) (⟨#[40]⟩ : ByteArray) = false) (hp : PSt E w i) : Calls Tryz.prog 163 #[.pointer (some ⟨E.gp, 0, none⟩)] w (DoX E w) := by
  have hu45 := Tryz.underlying45
  have hu33 := Tryz.underlying33
  have hu24 := Tryz.underlying24
  have hu86 := Tryz.underlying86
  have hu9 := Tryz.underlying9
  have hu3 := Tryz.underlying3
  have hu4 := Tryz.underlying4
  have F := Aside0.mk (Fr.init hp)
  clear hp
  have H1 := Aside0.mk h1
  clear h1
  go_enter Tryz.func163, Tryz.ntmps163
  go_wp2_with (first | ((with_reducible refine gate_dst (N := 2) rfl ?_); refine box_event ?hg (N := 2) ?hd (cs := #[.int .i64 0, .string (⟨#[]⟩ : ByteArray), .slice none 0 0, .bool false, .bool false, .slice none 0 0, .slice none 0 0]) (t := 45) ?hr ?_; (case hd => rfl); (case hg => rfl); (case hr => first | (go_simp; done) | (go_simp; rfl)); intro g2 hg w302 hbox hb; have n0 := Aside0.mk (show Fr E _ _ ((g2, 45, z7) :: _) _ _ _ _ from F.out.box hg hbox hb); clear F hbox hb hg; have F := n0) | ((with_reducible refine gate_dst (N := 4) rfl ?_); refine goesX_ (some 4) rfl rfl Tryz.func164 (by kernel_rfl) rfl #[.pointer (some ⟨E.gp, 0, none⟩), .string (⟨#[40]⟩ : ByteArray)] rfl (by (try simp only [List.map_toArray, List.map_cons, List.map_nil]); first | done | rfl) ?_; (refine (need_no F.out.p _ H1.out).mono ?_); (rintro e w104 ⟨rfl, hb⟩; refine ⟨_, rfl, ?_⟩; have n0 := Aside0.mk (F.out.below hb); clear F hb; have F := n0)))
  exact ⟨rfl, rfl, ⟨_, F.out.p⟩, F.out.keep⟩
set_option maxHeartbeats 4000000 in
set_option maxRecDepth 100000 in
theorem called_x (h1 : isT (E.cur i) (⟨#[40]⟩ : ByteArray) = false) (hp : PSt E w i) : Calls Tryz.prog 138 #[.pointer (some ⟨E.gp, 0, none⟩), .string t] w (DoX E w) := by
  have hu45 := Tryz.underlying45
  have hu33 := Tryz.underlying33
  have hu24 := Tryz.underlying24
  have hu86 := Tryz.underlying86
  have hu9 := Tryz.underlying9
  have hu3 := Tryz.underlying3
  have hu4 := Tryz.underlying4
  have F := Aside0.mk (Fr.init hp)
  clear hp
  have H1 := Aside0.mk h1
  clear h1
  go_enter Tryz.func138, Tryz.ntmps138
  go_wp2_with (first | ((with_reducible refine gate_dst (N := 4) rfl ?_); refine box_event ?hg (N := 4) ?hd (cs := #[.int .i64 0, .string (⟨#[]⟩ : ByteArray), .slice none 0 0, .bool false, .bool false, .slice none 0 0, .slice none 0 0]) (t := 45) ?hr ?_; (case hd => rfl); (case hg => rfl); (case hr => first | (go_simp; done) | (go_simp; rfl)); intro g4 hg w304 hbox hb; have n0 := Aside0.mk (show Fr E _ _ ((g4, 45, z7) :: _) _ _ _ _ from F.out.box hg hbox hb); clear F hbox hb hg; have F := n0) | ((with_reducible refine gate_dst (N := 7) rfl ?_); refine goesX_ (some 7) rfl rfl Tryz.func163 (by kernel_rfl) rfl #[.pointer (some ⟨E.gp, 0, none⟩)] rfl (by (try simp only [List.map_toArray, List.map_cons, List.map_nil]); first | done | rfl) ?_; (refine (args_x H1.out F.out.p).mono ?_); (rintro e w107 ⟨rfl, ⟨jx, hp⟩, hk⟩; refine ⟨_, rfl, ?_⟩; have n0 := Aside0.mk (F.out.move hp hk); clear F hp hk; have F := n0)))
  exact ⟨rfl, rfl, ⟨_, F.out.p⟩, F.out.keep⟩
variable {gO : Nat} {v0 : Value}
set_option maxHeartbeats 4000000 in
set_option maxRecDepth 100000 in
theorem f137_ok (hi : i < E.n) (hk : (E.cur i).k = 1) (hne : g2 ≠ E.gp) (h1 : Rd E 138 #[.pointer (some ⟨E.gp, 0, none⟩), .string (E.cur i).t] (i + 1) j k t l) (hp : PSt E w i) (hx : w.heap[g2]? = some (.cells #[.pointer (some ⟨E.gp, 0, none⟩)] 134 (0, 0))) : Calls Tryz.prog 137 #[.pointer (some ⟨g2, 0, none⟩)] w (RdP E w j k t l) := by
  have hu134 := Tryz.underlying134
  have X0 := Aside0.mk hx
  have NG := Aside0.mk hne
  have HI := Aside0.mk hi
  have HK1 := Aside0.mk hk
  clear hx hne hi hk
  have hu45 := Tryz.underlying45
  have hu33 := Tryz.underlying33
  have hu24 := Tryz.underlying24
  have hu86 := Tryz.underlying86
  have hu9 := Tryz.underlying9
  have hu3 := Tryz.underlying3
  have hu4 := Tryz.underlying4
  have F := Aside0.mk (Fr.init hp)
  clear hp
  have H1 := Aside0.mk h1
  clear h1
  go_enter Tryz.func137, Tryz.ntmps137
  go_wp2_with (first | ((with_reducible refine gate_dst (N := 1) rfl ?_); refine box_event ?hg (N := 1) ?hd (cs := #[.int .i64 0, .string (⟨#[]⟩ : ByteArray), .slice none 0 0, .bool false, .bool false, .slice none 0 0, .slice none 0 0]) (t := 45) ?hr ?_; (case hd => rfl); (case hg => rfl); (case hr => first | (go_simp; done) | (go_simp; rfl)); intro g1 hg w301 hbox hb; have n0 := Aside0.mk (show Fr E _ _ ((g1, 45, z7) :: _) _ _ _ _ from F.out.box hg hbox hb); clear F hbox hb hg; have F := n0))
  refine start_ (n := 6) (S := Bx [(g1, 45, z7), (g2, 134, #[.pointer (some ⟨E.gp, 0, none⟩)])]) (ds := [5]) (bt 6 0) (by kernel_rfl) rfl (by kernel_rfl) (Bx.two F.out.drew.bxs ((F.out.drew.keep.2 g2 (blk_lt X0.out) NG.out (by simp)).trans X0.out)) (fun hHeld => ?_)
  have n0 := Aside0.mk F.out.drew
  clear F
  have F := n0
  generalize World.drew _ = w500 at F hHeld ⊢
  refine take_ (i := 0) (N := some 2) (bt 6 1) rfl rfl (take_of F137tab1 (by kernel_rfl)) (fun _ _ _ h => h) (Or.inl ⟨by rfl, fun w' s => run_ldc (v := .pointer (some ⟨E.gp, 0, none⟩)) rfl rfl (Bx.at_ s (n := 1) rfl) rfl hu134 rfl⟩) hHeld (by simp only [Act.put, pset]; rfl) ?_
  refine take_ (i := 1) (N := some 3) (bt 6 3) rfl rfl (take_of F137tab1 (by kernel_rfl)) (fun _ _ _ h => h) (Or.inl ⟨by rfl, fun w' s => run_ldc (v := .pointer (some ⟨E.gp, 0, none⟩)) rfl rfl (Bx.at_ s (n := 1) rfl) rfl hu134 rfl⟩) hHeld (by simp only [Act.put, pset]; rfl) ?_
  refine one_ (i := 2) (N := some 4) (bt 6 7) rfl rfl (one_of F137tab1 (by kernel_rfl)) (by decide) (fun K hK => ?_)
  refine lit_step (m := 2) (cs := #[.int .i64 1, .int .i64 7]) (t := 3) (by rfl) ?hrun ?_
  case hrun => first | (go_simp; done) | (go_simp; rfl)
  intro g4 hg w501 hbox hb
  have LB := Aside0.mk hbox
  have n0 := Aside0.mk (F.out.below hb); clear F hbox hb hg; have F := n0
  refine hK.out _ _ (Bx.two F.out.bxs ((F.out.keep.2 g2 (blk_lt X0.out) NG.out (by simp)).trans X0.out)) (fun hHeld => ?_)
  clear hK K
  refine norm_ (show Act.put _ (some 4) _ = _ from (by simp only [Act.put, pset]; rfl)) ?_
  refine one_ (i := 3) (N := some 5) (bt 6 15) rfl rfl (one_of F137tab1 (by kernel_rfl)) (by decide) (fun K hK => ?_)
  refine goes_ Tryz.func139 (by kernel_rfl) rfl #[.pointer (some ⟨E.gp, 0, none⟩), .slice (some ⟨g4, 0, none⟩) 2 2] (by rfl) rfl rfl (by (try simp only [List.map_toArray, List.map_cons, List.map_nil]); first | done | rfl) ?_
  refine (one_calls F.out.p HI.out (some ⟨g4, 0, none⟩) 2 [1, 7] (C_two LB.out) (Nat.le_refl _) ⟨5, (by rw [HK1.out]; kernel_rfl)⟩).mono ?_
  rintro e w502 ⟨rfl, hp, hk⟩
  refine ⟨_, rfl, ?_⟩
  have n0 := Aside0.mk (F.out.move hp hk); clear F hp hk; have F := n0
  refine hK.out _ _ (Bx.two F.out.bxs ((F.out.keep.2 g2 (blk_lt X0.out) NG.out (by simp)).trans X0.out)) (fun hHeld => ?_)
  clear hK K
  refine norm_ (show Act.put _ (some 5) _ = _ from (by simp only [Act.put, pset]; rfl)) ?_
  refine one_ (i := 4) (N := some 6) (bt 6 31) rfl rfl (one_of F137tab1 (by kernel_rfl)) (by decide) (fun K hK => ?_)
  refine goes_ Tryz.func138 (by kernel_rfl) rfl #[.pointer (some ⟨E.gp, 0, none⟩), .string (E.cur i).t] (by rfl) rfl rfl (by (try simp only [List.map_toArray, List.map_cons, List.map_nil]); first | done | rfl) ?_
  refine (H1.out _ F.out.p).mono ?_
  rintro e w503 ⟨A6, c6, rfl, hc, hf, hp, hk⟩
  refine ⟨_, rfl, ?_⟩
  have n0 := Aside0.mk (F.out.node hp hk hf); have C6 := Aside0.mk hc; clear F hc hf hp hk; have F := n0
  refine hK.out _ _ (Bx.two F.out.bxs ((F.out.keep.2 g2 (blk_lt X0.out) NG.out (by simp)).trans X0.out)) (fun hHeld => ?_)
  clear hK K
  refine norm_ (show Act.put _ (some 6) _ = _ from (by simp only [Act.put, pset]; rfl)) ?_
  refine last_ (i := 5) (N := none) (bt 6 63) rfl rfl (one_of F137tab1 (by kernel_rfl)) (by decide) (fun K hK => ?_)
  refine st_agg_step (by rfl) rfl (T := 45) (p := 1) (x := (.tmp 6)) rfl (cs' := (ndc k t A6 l.length c6)) rfl rfl (F.out.at_ (n := 0) rfl) info45 rfl (ndc_one _ _ _ _ _) ?_
  intro w504 q1 q2 q3
  have n0 : Aside0 (Fr E _ _ [(g1, 45, (ndc k t A6 l.length c6))] _ _ _ _) := ⟨F.out.put (n := 0) rfl q1 q2 q3⟩
  clear F q1 q2 q3; have F := n0
  refine hK.out _ _ ?_
  clear hK K
  refine norm_ (show Act.put _ none _ = _ from (by simp only [Act.put, pset]; rfl)) ?_
  refine done_ (done_of F137tab1 (by kernel_rfl)) ?_
  clear hHeld
  go_wp2_with fail
  refine bodyPost_ret (results_single rfl (.cell g1 45 (ndc k t A6 l.length c6) (0, 0) _ rfl (F.out.at_ (n := 0) rfl) hu45 rfl info45 .nil)) rfl ?_
  exact ⟨A6, c6, rfl, C6.out, F.out.row (n := 0) rfl, F.out.p, F.out.keep⟩
set_option maxHeartbeats 4000000 in
set_option maxRecDepth 100000 in
theorem f137_x (hi : i < E.n) (hk : (E.cur i).k = 1) (hne : g2 ≠ E.gp) (h1 : isT (E.cur (i + 1)) (⟨#[40]⟩ : ByteArray) = false) (hp : PSt E w i) (hx : w.heap[g2]? = some (.cells #[.pointer (some ⟨E.gp, 0, none⟩)] 134 (0, 0))) : Calls Tryz.prog 137 #[.pointer (some ⟨g2, 0, none⟩)] w (DoX E w) := by
  have hu134 := Tryz.underlying134
  have X0 := Aside0.mk hx
  have NG := Aside0.mk hne
  have HI := Aside0.mk hi
  have HK1 := Aside0.mk hk
  clear hx hne hi hk
  have hu45 := Tryz.underlying45
  have hu33 := Tryz.underlying33
  have hu24 := Tryz.underlying24
  have hu86 := Tryz.underlying86
  have hu9 := Tryz.underlying9
  have hu3 := Tryz.underlying3
  have hu4 := Tryz.underlying4
  have F := Aside0.mk (Fr.init hp)
  clear hp
  have H1 := Aside0.mk h1
  clear h1
  go_enter Tryz.func137, Tryz.ntmps137
  go_wp2_with (first | ((with_reducible refine gate_dst (N := 1) rfl ?_); refine box_event ?hg (N := 1) ?hd (cs := #[.int .i64 0, .string (⟨#[]⟩ : ByteArray), .slice none 0 0, .bool false, .bool false, .slice none 0 0, .slice none 0 0]) (t := 45) ?hr ?_; (case hd => rfl); (case hg => rfl); (case hr => first | (go_simp; done) | (go_simp; rfl)); intro g1 hg w301 hbox hb; have n0 := Aside0.mk (show Fr E _ _ ((g1, 45, z7) :: _) _ _ _ _ from F.out.box hg hbox hb); clear F hbox hb hg; have F := n0))
  refine start_ (n := 6) (S := Bx [(g1, 45, z7), (g2, 134, #[.pointer (some ⟨E.gp, 0, none⟩)])]) (ds := []) (bt 6 0) (by kernel_rfl) rfl (by kernel_rfl) (Bx.two F.out.drew.bxs ((F.out.drew.keep.2 g2 (blk_lt X0.out) NG.out (by simp)).trans X0.out)) (fun hHeld => ?_)
  have n0 := Aside0.mk F.out.drew
  clear F
  have F := n0
  generalize World.drew _ = w500 at F hHeld ⊢
  refine take_ (i := 0) (N := some 2) (bt 6 1) rfl rfl (take_of F137tab1 (by kernel_rfl)) (fun _ _ _ h => h) (Or.inl ⟨by rfl, fun w' s => run_ldc (v := .pointer (some ⟨E.gp, 0, none⟩)) rfl rfl (Bx.at_ s (n := 1) rfl) rfl hu134 rfl⟩) hHeld (by simp only [Act.put, pset]; rfl) ?_
  refine take_ (i := 1) (N := some 3) (bt 6 3) rfl rfl (take_of F137tab1 (by kernel_rfl)) (fun _ _ _ h => h) (Or.inl ⟨by rfl, fun w' s => run_ldc (v := .pointer (some ⟨E.gp, 0, none⟩)) rfl rfl (Bx.at_ s (n := 1) rfl) rfl hu134 rfl⟩) hHeld (by simp only [Act.put, pset]; rfl) ?_
  refine one_ (i := 2) (N := some 4) (bt 6 7) rfl rfl (one_of F137tab1 (by kernel_rfl)) (by decide) (fun K hK => ?_)
  refine lit_step (m := 2) (cs := #[.int .i64 1, .int .i64 7]) (t := 3) (by rfl) ?hrun ?_
  case hrun => first | (go_simp; done) | (go_simp; rfl)
  intro g4 hg w501 hbox hb
  have LB := Aside0.mk hbox
  have n0 := Aside0.mk (F.out.below hb); clear F hbox hb hg; have F := n0
  refine hK.out _ _ (Bx.two F.out.bxs ((F.out.keep.2 g2 (blk_lt X0.out) NG.out (by simp)).trans X0.out)) (fun hHeld => ?_)
  clear hK K
  refine norm_ (show Act.put _ (some 4) _ = _ from (by simp only [Act.put, pset]; rfl)) ?_
  refine one_ (i := 3) (N := some 5) (bt 6 15) rfl rfl (one_of F137tab1 (by kernel_rfl)) (by decide) (fun K hK => ?_)
  refine goes_ Tryz.func139 (by kernel_rfl) rfl #[.pointer (some ⟨E.gp, 0, none⟩), .slice (some ⟨g4, 0, none⟩) 2 2] (by rfl) rfl rfl (by (try simp only [List.map_toArray, List.map_cons, List.map_nil]); first | done | rfl) ?_
  refine (one_calls F.out.p HI.out (some ⟨g4, 0, none⟩) 2 [1, 7] (C_two LB.out) (Nat.le_refl _) ⟨5, (by rw [HK1.out]; kernel_rfl)⟩).mono ?_
  rintro e w502 ⟨rfl, hp, hk⟩
  refine ⟨_, rfl, ?_⟩
  have n0 := Aside0.mk (F.out.move hp hk); clear F hp hk; have F := n0
  refine hK.out _ _ (Bx.two F.out.bxs ((F.out.keep.2 g2 (blk_lt X0.out) NG.out (by simp)).trans X0.out)) (fun hHeld => ?_)
  clear hK K
  refine norm_ (show Act.put _ (some 5) _ = _ from (by simp only [Act.put, pset]; rfl)) ?_
  refine one_ (i := 4) (N := some 6) (bt 6 31) rfl rfl (one_of F137tab1 (by kernel_rfl)) (by decide) (fun K hK => ?_)
  refine goesXs_ Tryz.func138 (by kernel_rfl) rfl #[.pointer (some ⟨E.gp, 0, none⟩), .string (E.cur i).t] (by rfl) rfl (by (try simp only [List.map_toArray, List.map_cons, List.map_nil]); first | done | rfl) ?_
  refine (called_x H1.out F.out.p).mono ?_
  rintro e w503 ⟨rfl, ⟨jx, hp⟩, hk⟩
  refine ⟨_, rfl, ?_⟩
  have n0 := Aside0.mk (F.out.move hp hk); clear F hp hk; have F := n0
  exact ⟨rfl, rfl, ⟨_, F.out.p⟩, F.out.keep⟩
variable {f : Nat} {fn : Func} {fs cs args : Array Value}
set_option maxHeartbeats 4000000 in
set_option maxRecDepth 100000 in
theorem more_x (hf : Tryz.prog.funcs[f]? = some fn) (hname : (fn.name == "runtime.NumGoroutine") = false) (hb : fn.body.isSome = true) (ha : fs ++ #[] ++ cs = args) (X : World → Prop) (hk : ∀ w w', X w → KeepBut w w' E.gp none → X w') (h1 : ∀ w, PSt E w i → X w → Calls Tryz.prog f args w (DoX E w)) : ∀ w, PSt E w i → X w → Calls Tryz.prog 136 #[.pointer (some ⟨E.gp, 0, none⟩), .slice none 0 0, .func (.func f) fs cs] w (DoX E w) := by
  intro w hp hx
  have HX := Aside0.mk hx
  have HK := Aside0.mk hk
  have HF := Aside0.mk hf
  have HN := Aside0.mk hname
  have HB := Aside0.mk hb
  have HA := Aside0.mk ha
  clear hf hname hb ha hx hk
  have hu45 := Tryz.underlying45
  have hu33 := Tryz.underlying33
  have hu24 := Tryz.underlying24
  have hu86 := Tryz.underlying86
  have hu9 := Tryz.underlying9
  have hu3 := Tryz.underlying3
  have hu4 := Tryz.underlying4
  have F := Aside0.mk (Fr.init hp)
  clear hp
  have H1 := Aside0.mk h1
  clear h1
  go_enter Tryz.func136, Tryz.ntmps136
  go_wp2_with fail
  refine wp_scope_straight ?_
  go_wp2_with fail
  refine wp_label ?_
  go_wp2_with (first | ((with_reducible refine gate_dst (N := 10) rfl ?_); refine goesVX_ (some 10) rfl rfl HF.out HN.out HB.out args rfl rfl (by simp only [List.map_toArray, List.map_nil]; exact HA.out) ?_; (refine (H1.out _ F.out.p (HK.out _ _ HX.out F.out.keep)).mono ?_); (rintro e w110 ⟨rfl, ⟨jx, hp⟩, hk⟩; refine ⟨_, rfl, ?_⟩; have n0 := Aside0.mk (F.out.move hp hk); clear F hp hk; have F := n0)))
  exact ⟨rfl, rfl, ⟨_, F.out.p⟩, F.out.keep⟩
theorem PSt.other {w' : World} (h : PSt E w i) {B : Nat} (hb : Below B w w') (hB : E.wD.heap.size ≤ B) (hg : w'.heap[E.gp]? = w.heap[E.gp]?) : PSt E w' i :=
  ⟨h.hb.trans (hb.mono hB), h.gB, hg.trans h.blk, h.le, h.tl, h.tk, h.nc, h.sz, h.s2, h.nb, h.fg⟩
/-- What was read is laid where it is wanted. -/
theorem do_end {w w1 w2 : World} {A : Option Addr} {c : Nat} (hg : gO ≠ E.gp) (hD : E.wD.heap.size ≤ gO) (hlt : gO < w.heap.size) (hc : l.length ≤ c) (hf : Kd.F k45 w1 (fun k => w.heap.size ≤ k) A l.length l) (hp : PSt E w1 j) (hk : KeepBut w w1 E.gp none) (q1 : w2.heap[gO]? = some (.cells #[.slice A l.length c] 33 (0, 0))) (q2 : Below gO w1 w2) (q3 : ∀ k, k ≠ gO → w2.heap[k]? = w1.heap[k]?) : DoP E gO w j l (.returned (.tuple #[])) w2 :=
  ⟨A, c, rfl, q1, hc, Kd.F_step hf (fun k hk _ => q3 k (by omega)), hp.other q2 hD (q3 _ hg.symm), Nat.le_trans hk.1 q2.size, fun i hi h1 h2 => (q3 i (by intro h; exact h2 (by rw [h]))).trans (hk.2 i hi h1 (by simp))⟩
set_option maxHeartbeats 4000000 in
set_option maxRecDepth 100000 in
theorem f135_ok (hi : i < E.n) (hk : (E.cur i).k = 1) (h1 : Rd E 138 #[.pointer (some ⟨E.gp, 0, none⟩), .string (E.cur i).t] (i + 1) j k t l) (h2 : isT (E.cur j) (⟨#[59]⟩ : ByteArray) = false) (hO : w.heap[gO]? = some (.cells #[v0] 33 (0, 0))) (hg : gO ≠ E.gp) (hD : E.wD.heap.size ≤ gO) (hp : PSt E w i) : Calls Tryz.prog 135 #[.pointer (some ⟨E.gp, 0, none⟩), .pointer (some ⟨gO, 0, none⟩)] w (DoP E gO w j [nd k t l]) := by
  have hu134 := Tryz.underlying134
  have HI := Aside0.mk hi
  have HK1 := Aside0.mk hk
  clear hi hk
  have O0 := Aside0.mk hO
  have OG := Aside0.mk hg
  have OD := Aside0.mk hD
  clear hO hg hD
  have hu45 := Tryz.underlying45
  have hu33 := Tryz.underlying33
  have hu24 := Tryz.underlying24
  have hu86 := Tryz.underlying86
  have hu9 := Tryz.underlying9
  have hu3 := Tryz.underlying3
  have hu4 := Tryz.underlying4
  have F := Aside0.mk (Fr.init hp)
  clear hp
  have H1 := Aside0.mk h1
  have H2 := Aside0.mk h2
  clear h1 h2
  go_enter Tryz.func135, Tryz.ntmps135
  go_wp2_with (first | ((with_reducible refine gate_dst (N := 2) rfl ?_); refine box_event ?hg (N := 2) ?hd (cs := #[.pointer (some ⟨E.gp, 0, none⟩)]) (t := 134) ?hr ?_; (case hd => rfl); (case hg => rfl); (case hr => first | (go_simp; done) | (go_simp; rfl)); intro g2 hg w302 hbox hb; have NG := Aside0.mk (show g2 ≠ E.gp from by rw [hg]; exact (Nat.ne_of_lt F.out.p.lt).symm); have n0 := Aside0.mk (F.out.box hg hbox hb); clear F hbox hb hg; have F := n0) | ((with_reducible refine gate_dst (N := 3) rfl ?_); refine ld_cell rfl (N := 3) (v := (.pointer (some ⟨E.gp, 0, none⟩))) rfl rfl rfl (F.out.at_ (n := 0) rfl) rfl hu134 rfl ?_) | ((with_reducible refine gate_dst (N := 5) rfl ?_); refine goesL_ (some 5) rfl rfl Tryz.func136 (by kernel_rfl) rfl #[.pointer (some ⟨E.gp, 0, none⟩), .slice none 0 0, .func (.func 137) #[] #[.pointer (some ⟨g2, 0, none⟩)]] rfl (by (try simp only [List.map_toArray, List.map_cons, List.map_nil]); first | done | rfl) ?_; (refine (more_rd (f := 137) (fs := #[]) (cs := #[.pointer (some ⟨g2, 0, none⟩)]) (args := #[.pointer (some ⟨g2, 0, none⟩)]) Tryz.func137 (by kernel_rfl) rfl (by simp) (fun w => w.heap[g2]? = some (.cells #[.pointer (some ⟨E.gp, 0, none⟩)] 134 (0, 0))) (fun w w' h k => (k.2 g2 (blk_lt h) NG.out (by simp)).trans h) (fun w hp hx => f137_ok HI.out HK1.out NG.out H1.out hp hx) H2.out _ F.out.p (F.out.at_ (n := 0) rfl)).mono ?_); (rintro e w105 ⟨A5, c5, rfl, hc, hf, hp, hk⟩; refine ⟨_, rfl, ?_⟩; have n0 := Aside0.mk (F.out.node hp hk hf); have C5 := Aside0.mk hc; clear F hc hf hp hk; have F := n0)) | ((with_reducible refine gate_ (.store 33 (.tmp 1) (.tmp 5)) rfl ?_); refine st_cell rfl rfl rfl (g := gO) (k := 0) (v := (.slice A5 [nd k t l].length c5)) rfl rfl ((F.out.keep.2 gO (blk_lt O0.out) OG.out (by simp)).trans O0.out) (by show 0 < 1; decide) info33s rfl rfl ?_; intro w2 q1 q2 q3; have Q := Aside0.mk (do_end (l := [nd k t l]) OG.out OD.out (blk_lt O0.out) C5.out (F.out.row (n := 0) rfl) F.out.p F.out.keep q1 q2 q3); clear q1 q2 q3))
  go_end0
  exact Q.out
set_option maxHeartbeats 4000000 in
set_option maxRecDepth 100000 in
theorem f135_x (hi : i < E.n) (hk : (E.cur i).k = 1) (h1 : isT (E.cur (i + 1)) (⟨#[40]⟩ : ByteArray) = false) (hp : PSt E w i) : Calls Tryz.prog 135 #[.pointer (some ⟨E.gp, 0, none⟩), .pointer (some ⟨gO, 0, none⟩)] w (DoX E w) := by
  have hu134 := Tryz.underlying134
  have HI := Aside0.mk hi
  have HK1 := Aside0.mk hk
  clear hi hk
  have hu45 := Tryz.underlying45
  have hu33 := Tryz.underlying33
  have hu24 := Tryz.underlying24
  have hu86 := Tryz.underlying86
  have hu9 := Tryz.underlying9
  have hu3 := Tryz.underlying3
  have hu4 := Tryz.underlying4
  have F := Aside0.mk (Fr.init hp)
  clear hp
  have H1 := Aside0.mk h1
  clear h1
  go_enter Tryz.func135, Tryz.ntmps135
  go_wp2_with (first | ((with_reducible refine gate_dst (N := 2) rfl ?_); refine box_event ?hg (N := 2) ?hd (cs := #[.pointer (some ⟨E.gp, 0, none⟩)]) (t := 134) ?hr ?_; (case hd => rfl); (case hg => rfl); (case hr => first | (go_simp; done) | (go_simp; rfl)); intro g2 hg w302 hbox hb; have NG := Aside0.mk (show g2 ≠ E.gp from by rw [hg]; exact (Nat.ne_of_lt F.out.p.lt).symm); have n0 := Aside0.mk (F.out.box hg hbox hb); clear F hbox hb hg; have F := n0) | ((with_reducible refine gate_dst (N := 3) rfl ?_); refine ld_cell rfl (N := 3) (v := (.pointer (some ⟨E.gp, 0, none⟩))) rfl rfl rfl (F.out.at_ (n := 0) rfl) rfl hu134 rfl ?_) | ((with_reducible refine gate_dst (N := 5) rfl ?_); refine goesX_ (some 5) rfl rfl Tryz.func136 (by kernel_rfl) rfl #[.pointer (some ⟨E.gp, 0, none⟩), .slice none 0 0, .func (.func 137) #[] #[.pointer (some ⟨g2, 0, none⟩)]] rfl (by (try simp only [List.map_toArray, List.map_cons, List.map_nil]); first | done | rfl) ?_; (refine (more_x (f := 137) (fs := #[]) (cs := #[.pointer (some ⟨g2, 0, none⟩)]) (args := #[.pointer (some ⟨g2, 0, none⟩)]) Tryz.func137 (by kernel_rfl) rfl (by simp) (fun w => w.heap[g2]? = some (.cells #[.pointer (some ⟨E.gp, 0, none⟩)] 134 (0, 0))) (fun w w' h k => (k.2 g2 (blk_lt h) NG.out (by simp)).trans h) (fun w hp hx => f137_x HI.out HK1.out NG.out H1.out hp hx) _ F.out.p (F.out.at_ (n := 0) rfl)).mono ?_); (rintro e w105 ⟨rfl, ⟨jx, hp⟩, hk⟩; refine ⟨_, rfl, ?_⟩; have n0 := Aside0.mk (F.out.move hp hk); clear F hp hk; have F := n0)))
  exact ⟨rfl, rfl, ⟨_, F.out.p⟩, F.out.keep⟩
set_option maxHeartbeats 4000000 in
set_option maxRecDepth 100000 in
theorem f167_args (hi : i ≠ E.n) (h1 : isT (E.cur i) (⟨#[40]⟩ : ByteArray) = true) (h2 : Rd E 163 #[.pointer (some ⟨E.gp, 0, none⟩)] i j k t l) (hO : w.heap[gO]? = some (.cells #[v0] 33 (0, 0))) (hg : gO ≠ E.gp) (hD : E.wD.heap.size ≤ gO) (hp : PSt E w i) : Calls Tryz.prog 167 #[.pointer (some ⟨E.gp, 0, none⟩), .pointer (some ⟨gO, 0, none⟩)] w (DoP E gO w j [nd k t l]) := by
  have hu154 := Tryz.underlying154
  have b1 : (i == E.n) = false := by simpa using hi
  have O0 := Aside0.mk hO
  have OG := Aside0.mk hg
  have OD := Aside0.mk hD
  clear hO hg hD
  have hu45 := Tryz.underlying45
  have hu33 := Tryz.underlying33
  have hu24 := Tryz.underlying24
  have hu86 := Tryz.underlying86
  have hu9 := Tryz.underlying9
  have hu3 := Tryz.underlying3
  have hu4 := Tryz.underlying4
  have F := Aside0.mk (Fr.init hp)
  clear hp
  have H1 := Aside0.mk h1
  have H2 := Aside0.mk h2
  clear h1 h2
  go_enter Tryz.func167, Tryz.ntmps167
  go_wp2_with fail
  refine start_ (n := 10) (S := Bx [(E.gp, 154, (pcs4 E i))]) (ds := []) (bt 10 0) (by kernel_rfl) rfl (by kernel_rfl) (Bx.one F.out.drew.p.blk) (fun hHeld => ?_)
  have n0 := Aside0.mk F.out.drew
  clear F
  have F := n0
  generalize World.drew _ = w500 at F hHeld ⊢
  refine pure_ (i := 0) (N := some 7) (bt 10 1) rfl rfl (any_of F167tab1 (by kernel_rfl)) (fun _ _ _ h => h) (Or.inl ⟨by rfl, by intro w'; go_simp; with_reducible rfl⟩) (by simp only [Act.put, pset]; rfl) ?_
  refine pure_ (i := 1) (N := some 8) (bt 10 3) rfl rfl (any_of F167tab1 (by kernel_rfl)) (fun _ _ _ h => h) (Or.inl ⟨by rfl, by intro w'; go_simp; with_reducible rfl⟩) (by simp only [Act.put, pset]; rfl) ?_
  refine pure_ (i := 2) (N := some 9) (bt 10 7) rfl rfl (any_of F167tab1 (by kernel_rfl)) (fun _ _ _ h => h) (Or.inl ⟨by rfl, by intro w'; go_simp; with_reducible rfl⟩) (by simp only [Act.put, pset]; rfl) ?_
  refine take_ (i := 3) (N := some 10) (bt 10 15) rfl rfl (take_of F167tab1 (by kernel_rfl)) (fun _ _ _ h => h) (Or.inl ⟨by rfl, fun w' s => run_ldc (v := .int .i64 i) rfl rfl (Bx.at_ s (n := 0) rfl) rfl hu3 rfl⟩) hHeld (by simp only [Act.put, pset]; rfl) ?_
  refine pure_ (i := 4) (N := some 11) (bt 10 31) rfl rfl (any_of F167tab1 (by kernel_rfl)) (fun _ _ _ h => h) (Or.inl ⟨by rfl, by intro w'; go_simp; with_reducible rfl⟩) (by simp only [Act.put, pset]; rfl) ?_
  refine pure_ (i := 5) (N := some 12) (bt 10 63) rfl rfl (any_of F167tab1 (by kernel_rfl)) (fun _ _ _ h => h) (Or.inl ⟨by rfl, by intro w'; go_simp; with_reducible rfl⟩) (by simp only [Act.put, pset]; rfl) ?_
  refine pure_ (i := 6) (N := some 13) (bt 10 127) rfl rfl (any_of F167tab1 (by kernel_rfl)) (fun _ _ _ h => h) (Or.inl ⟨by rfl, by intro w'; go_simp; with_reducible rfl⟩) (by simp only [Act.put, pset]; rfl) ?_
  refine take_ (i := 7) (N := some 14) (bt 10 255) rfl rfl (take_of F167tab1 (by kernel_rfl)) (fun _ _ _ h => h) (Or.inl ⟨by rfl, fun w' s => run_ldc (v := .int .i64 E.n) rfl rfl (Bx.at_ s (n := 0) rfl) rfl hu3 rfl⟩) hHeld (by simp only [Act.put, pset]; rfl) ?_
  refine pure_ (i := 8) (N := some 15) (bt 10 511) rfl rfl (any_of F167tab1 (by kernel_rfl)) (fun _ _ _ h => h) (Or.inl ⟨by rfl, by intro w'; go_simp; with_reducible rfl⟩) (by simp only [Act.put, pset]; rfl) ?_
  refine pure_ (i := 9) (N := some 6) (bt 10 1023) rfl rfl (any_of F167tab1 (by kernel_rfl)) (fun _ _ _ h => h) (Or.inl ⟨by rfl, by intro w'; go_simp; with_reducible rfl⟩) (by simp only [Act.put, pset]; rfl) ?_
  refine done_ (done_of F167tab1 (by kernel_rfl)) ?_
  clear hHeld
  go_wp2_with (first | ((with_reducible refine gate_dst (N := 18) rfl ?_); refine goesL_ (some 18) rfl rfl Tryz.func168 (by kernel_rfl) rfl #[.pointer (some ⟨E.gp, 0, none⟩), .string (⟨#[40]⟩ : ByteArray)] rfl (by (try simp only [List.map_toArray, List.map_cons, List.map_nil]); first | done | rfl) ?_; (refine (is_calls F.out.p _ _ H1.out).mono ?_); (rintro e w118 ⟨rfl, hb⟩; refine ⟨_, rfl, ?_⟩; have n0 := Aside0.mk (F.out.below hb); clear F hb; have F := n0)) | ((with_reducible refine gate_dst (N := 20) rfl ?_); refine goesL_ (some 20) rfl rfl Tryz.func163 (by kernel_rfl) rfl #[.pointer (some ⟨E.gp, 0, none⟩)] rfl (by (try simp only [List.map_toArray, List.map_cons, List.map_nil]); first | done | rfl) ?_; (refine (H2.out _ F.out.p).mono ?_); (rintro e w120 ⟨A20, c20, rfl, hc, hf, hp, hk⟩; refine ⟨_, rfl, ?_⟩; have n0 := Aside0.mk (F.out.node hp hk hf); have C20 := Aside0.mk hc; clear F hc hf hp hk; have F := n0)) | ((with_reducible refine gate_dst (N := 21) rfl ?_); refine lit_event ?hg (N := 21) ?hd (m := 1) (cs := #[.int .i64 k, .string t, .slice A20 l.length c20, .bool false, .bool false, .slice none 0 0, .slice none 0 0]) (t := 45) ?hr ?_; (case hd => rfl); (case hg => rfl); (case hr => simp only [ndc]; first | (go_simp; done) | (go_simp; rfl)); intro g21 hg w321 hbox hb; have n0 := Aside0.mk (F.out.lit1 (l := l) 0 rfl C20.out hg hbox hb); clear F hbox hb hg; have F := n0) | ((with_reducible refine gate_ (.store 33 (.tmp 1) (.tmp 21)) rfl ?_); refine st_cell rfl rfl rfl (g := gO) (k := 0) (v := (.slice (some ⟨g21, 0, none⟩) 1 1)) rfl rfl ((F.out.keep.2 gO (blk_lt O0.out) OG.out (by simp)).trans O0.out) (by show 0 < 1; decide) info33s rfl rfl ?_; intro w2 q1 q2 q3; have Q := Aside0.mk (do_end (l := [nd k t l]) OG.out OD.out (blk_lt O0.out) (Nat.le_refl _) (F.out.row (n := 0) rfl) F.out.p F.out.keep q1 q2 q3); clear q1 q2 q3))
  go_end0
  exact Q.out
set_option maxHeartbeats 4000000 in
set_option maxRecDepth 100000 in
theorem f167_expr (hi : i ≠ E.n) (h1 : isT (E.cur i) (⟨#[40]⟩ : ByteArray) = false) (h2 : Rd E 166 #[.pointer (some ⟨E.gp, 0, none⟩), .int .i64 1] i j k t l) (hO : w.heap[gO]? = some (.cells #[v0] 33 (0, 0))) (hg : gO ≠ E.gp) (hD : E.wD.heap.size ≤ gO) (hp : PSt E w i) : Calls Tryz.prog 167 #[.pointer (some ⟨E.gp, 0, none⟩), .pointer (some ⟨gO, 0, none⟩)] w (DoP E gO w j [nd k t l]) := by
  have hu154 := Tryz.underlying154
  have b1 : (i == E.n) = false := by simpa using hi
  have O0 := Aside0.mk hO
  have OG := Aside0.mk hg
  have OD := Aside0.mk hD
  clear hO hg hD
  have hu45 := Tryz.underlying45
  have hu33 := Tryz.underlying33
  have hu24 := Tryz.underlying24
  have hu86 := Tryz.underlying86
  have hu9 := Tryz.underlying9
  have hu3 := Tryz.underlying3
  have hu4 := Tryz.underlying4
  have F := Aside0.mk (Fr.init hp)
  clear hp
  have H1 := Aside0.mk h1
  have H2 := Aside0.mk h2
  clear h1 h2
  go_enter Tryz.func167, Tryz.ntmps167
  go_wp2_with fail
  refine start_ (n := 10) (S := Bx [(E.gp, 154, (pcs4 E i))]) (ds := []) (bt 10 0) (by kernel_rfl) rfl (by kernel_rfl) (Bx.one F.out.drew.p.blk) (fun hHeld => ?_)
  have n0 := Aside0.mk F.out.drew
  clear F
  have F := n0
  generalize World.drew _ = w500 at F hHeld ⊢
  refine pure_ (i := 0) (N := some 7) (bt 10 1) rfl rfl (any_of F167tab1 (by kernel_rfl)) (fun _ _ _ h => h) (Or.inl ⟨by rfl, by intro w'; go_simp; with_reducible rfl⟩) (by simp only [Act.put, pset]; rfl) ?_
  refine pure_ (i := 1) (N := some 8) (bt 10 3) rfl rfl (any_of F167tab1 (by kernel_rfl)) (fun _ _ _ h => h) (Or.inl ⟨by rfl, by intro w'; go_simp; with_reducible rfl⟩) (by simp only [Act.put, pset]; rfl) ?_
  refine pure_ (i := 2) (N := some 9) (bt 10 7) rfl rfl (any_of F167tab1 (by kernel_rfl)) (fun _ _ _ h => h) (Or.inl ⟨by rfl, by intro w'; go_simp; with_reducible rfl⟩) (by simp only [Act.put, pset]; rfl) ?_
  refine take_ (i := 3) (N := some 10) (bt 10 15) rfl rfl (take_of F167tab1 (by kernel_rfl)) (fun _ _ _ h => h) (Or.inl ⟨by rfl, fun w' s => run_ldc (v := .int .i64 i) rfl rfl (Bx.at_ s (n := 0) rfl) rfl hu3 rfl⟩) hHeld (by simp only [Act.put, pset]; rfl) ?_
  refine pure_ (i := 4) (N := some 11) (bt 10 31) rfl rfl (any_of F167tab1 (by kernel_rfl)) (fun _ _ _ h => h) (Or.inl ⟨by rfl, by intro w'; go_simp; with_reducible rfl⟩) (by simp only [Act.put, pset]; rfl) ?_
  refine pure_ (i := 5) (N := some 12) (bt 10 63) rfl rfl (any_of F167tab1 (by kernel_rfl)) (fun _ _ _ h => h) (Or.inl ⟨by rfl, by intro w'; go_simp; with_reducible rfl⟩) (by simp only [Act.put, pset]; rfl) ?_
  refine pure_ (i := 6) (N := some 13) (bt 10 127) rfl rfl (any_of F167tab1 (by kernel_rfl)) (fun _ _ _ h => h) (Or.inl ⟨by rfl, by intro w'; go_simp; with_reducible rfl⟩) (by simp only [Act.put, pset]; rfl) ?_
  refine take_ (i := 7) (N := some 14) (bt 10 255) rfl rfl (take_of F167tab1 (by kernel_rfl)) (fun _ _ _ h => h) (Or.inl ⟨by rfl, fun w' s => run_ldc (v := .int .i64 E.n) rfl rfl (Bx.at_ s (n := 0) rfl) rfl hu3 rfl⟩) hHeld (by simp only [Act.put, pset]; rfl) ?_
  refine pure_ (i := 8) (N := some 15) (bt 10 511) rfl rfl (any_of F167tab1 (by kernel_rfl)) (fun _ _ _ h => h) (Or.inl ⟨by rfl, by intro w'; go_simp; with_reducible rfl⟩) (by simp only [Act.put, pset]; rfl) ?_
  refine pure_ (i := 9) (N := some 6) (bt 10 1023) rfl rfl (any_of F167tab1 (by kernel_rfl)) (fun _ _ _ h => h) (Or.inl ⟨by rfl, by intro w'; go_simp; with_reducible rfl⟩) (by simp only [Act.put, pset]; rfl) ?_
  refine done_ (done_of F167tab1 (by kernel_rfl)) ?_
  clear hHeld
  go_wp2_with (first | ((with_reducible refine gate_dst (N := 18) rfl ?_); refine goesL_ (some 18) rfl rfl Tryz.func168 (by kernel_rfl) rfl #[.pointer (some ⟨E.gp, 0, none⟩), .string (⟨#[40]⟩ : ByteArray)] rfl (by (try simp only [List.map_toArray, List.map_cons, List.map_nil]); first | done | rfl) ?_; (refine (is_calls F.out.p _ _ H1.out).mono ?_); (rintro e w118 ⟨rfl, hb⟩; refine ⟨_, rfl, ?_⟩; have n0 := Aside0.mk (F.out.below hb); clear F hb; have F := n0)) | ((with_reducible refine gate_dst (N := 4) rfl ?_); refine goesL_ (some 4) rfl rfl Tryz.func166 (by kernel_rfl) rfl #[.pointer (some ⟨E.gp, 0, none⟩), .int .i64 1] rfl (by (try simp only [List.map_toArray, List.map_cons, List.map_nil]); first | done | rfl) ?_; (refine (H2.out _ F.out.p).mono ?_); (rintro e w104 ⟨A4, c4, rfl, hc, hf, hp, hk⟩; refine ⟨_, rfl, ?_⟩; have n0 := Aside0.mk (F.out.node hp hk hf); have C4 := Aside0.mk hc; clear F hc hf hp hk; have F := n0)) | ((with_reducible refine gate_dst (N := 5) rfl ?_); refine lit_event ?hg (N := 5) ?hd (m := 1) (cs := #[.int .i64 k, .string t, .slice A4 l.length c4, .bool false, .bool false, .slice none 0 0, .slice none 0 0]) (t := 45) ?hr ?_; (case hd => rfl); (case hg => rfl); (case hr => simp only [ndc]; first | (go_simp; done) | (go_simp; rfl)); intro g5 hg w305 hbox hb; have n0 := Aside0.mk (F.out.lit1 (l := l) 0 rfl C4.out hg hbox hb); clear F hbox hb hg; have F := n0) | ((with_reducible refine gate_ (.store 33 (.tmp 1) (.tmp 5)) rfl ?_); refine st_cell rfl rfl rfl (g := gO) (k := 0) (v := (.slice (some ⟨g5, 0, none⟩) 1 1)) rfl rfl ((F.out.keep.2 gO (blk_lt O0.out) OG.out (by simp)).trans O0.out) (by show 0 < 1; decide) info33s rfl rfl ?_; intro w2 q1 q2 q3; have Q := Aside0.mk (do_end (l := [nd k t l]) OG.out OD.out (blk_lt O0.out) (Nat.le_refl _) (F.out.row (n := 0) rfl) F.out.p F.out.keep q1 q2 q3); clear q1 q2 q3))
  go_end0
  exact Q.out
end
end Go.Proofs.YthipodffpkglfaaGreatDoor.PS
namespace Go.Proofs.YthipodffpkglfaaGreatDoor.PS
open Go.RowKit Go.Proofs.YthipodffpkglfaaGreatDoorW.PrintWords Go.Proofs.YthipodffpkglfaaGreatDoorW.PrintLast Go.Proofs.YthipodffpkglfaaGreatDoorW.PrintMore
set_option linter.unusedVariables false
set_option linter.unusedSimpArgs false
def FnP (wD w : World) (l : List S45) (e : Ending) (w' : World) : Prop := ∃ A c, e = .returned (.tuple #[.slice A l.length c, .int .i64 0]) ∧ l.length ≤ c ∧ Kd.F k45 w' (fun k => w.heap.size ≤ k) A l.length l ∧ KeepBut w w' w.heap.size none ∧ Below wD.heap.size wD w'
def FnX (wD w : World) (e : Ending) (w' : World) : Prop := e = .returned (.tuple #[.slice none 0 0, .int .i64 8]) ∧ KeepBut w w' w.heap.size none ∧ Below wD.heap.size wD w'
section
variable {wD w : World} {s : ByteArray} {A : Option Addr} {c : Nat} {toks : List Tk} {n fr i : Nat} {l : List S45}
set_option maxHeartbeats 4000000 in
set_option maxRecDepth 100000 in
theorem func_ok (T : Toks wD s A toks n fr) (hb : Below wD.heap.size wD w) (hi : fr ≤ i ∧ i ≤ n) (hdo : ∀ gp w1 gO, PSt (mkE wD s A c toks n fr gp) w1 i → w1.heap[gO]? = some (.cells #[.slice none 0 0] 33 (0, 0)) → gO ≠ gp → wD.heap.size ≤ gO → Calls Tryz.prog 135 #[.pointer (some ⟨gp, 0, none⟩), .pointer (some ⟨gO, 0, none⟩)] w1 (DoP (mkE wD s A c toks n fr gp) gO w1 n l)) : Calls Tryz.prog 103 #[.string s, .slice A toks.length c, .int .i64 i, .int .i64 n] w (FnP wD w l) := by
  have hu45 := Tryz.underlying45
  have hu33 := Tryz.underlying33
  have hu24 := Tryz.underlying24
  have hu86 := Tryz.underlying86
  have hu9 := Tryz.underlying9
  have hu3 := Tryz.underlying3
  have hu4 := Tryz.underlying4
  have hmf : ∀ (fn : Fn) (first cap : Array Value) (w : World), (Instr.makeFunc fn first cap).run Tryz.prog w = .ok (.func fn first cap) w := fun _ _ _ _ => rfl
  have TT := Aside0.mk T
  have TI := Aside0.mk hi
  have HD := Aside0.mk hb
  have HDO := Aside0.mk hdo
  clear T hi hb hdo
  go_enter Tryz.func103, Tryz.ntmps103
  go_wp2_with (first | ((with_reducible refine gate_dst (N := 10) rfl ?_); refine box_event ?hg (N := 10) ?hd (cs := #[.slice none 0 0]) (t := 33) ?hr ?_; (case hd => rfl); (case hg => rfl); (case hr => first | (go_simp; done) | (go_simp; rfl)); intro gO hg w310 hbox hb; have BO := Aside0.mk hbox; have H1 := Aside0.mk hb; have GO := Aside0.mk (show gO < w310.heap.size ∧ wD.heap.size ≤ gO ∧ w.heap.size = gO from ⟨blk_lt hbox, by rw [hg]; exact HD.out.size, hg.symm⟩); have HD2 := Aside0.mk (HD.out.trans (hb.mono HD.out.size)); clear hbox hb hg) | ((with_reducible refine gate_dst (N := 19) rfl ?_); refine goesL_ (some 19) rfl rfl Tryz.func134 (by kernel_rfl) rfl #[.string s, .slice A toks.length c, .int .i64 i, .int .i64 n, .func (.func 135) #[] #[.pointer (some ⟨gO, 0, none⟩)]] rfl (by (try simp only [List.map_toArray, List.map_cons, List.map_nil]); first | done | rfl) ?_; (refine (read_ok (gO := gO) (f := 135) (fs := #[]) (cs := #[.pointer (some ⟨gO, 0, none⟩)]) (args := fun p => #[p, .pointer (some ⟨gO, 0, none⟩)])  TT.out HD2.out ⟨GO.out.1, GO.out.2.1⟩ TI.out Tryz.func135 (by kernel_rfl) rfl (fun p => by simp) (fun gp w1 hgp hbw hp => HDO.out gp w1 gO hp (blk_below BO.out hbw) (by have := GO.out.1; omega) GO.out.2.1)).mono ?_); (rintro e w119 ⟨A1, c1, rfl, hg, hc, hf, hk, hb⟩; refine ⟨_, rfl, ?_⟩; have c0 : w119.cell? ⟨gO, 0, none⟩ = some (.slice A1 l.length c1) := (blk_cell hg 0).trans rfl; have HC := Aside0.mk hc; have HFF := Aside0.mk hf; have HK := Aside0.mk hk; have HB := Aside0.mk hb; clear hg hc hf hk hb)))
  go_ret2
  exact ⟨A1, c1, rfl, HC.out, Kd.F_mono HFF.out (fun _ h => Nat.le_trans H1.out.size h), ⟨Nat.le_trans H1.out.size HK.out.1, fun q hq _ _ => (HK.out.2 q (Nat.lt_of_lt_of_le hq H1.out.size) (by have := GO.out.2.2; omega) (by simp)).trans (H1.out.block q hq)⟩, HB.out⟩
set_option maxHeartbeats 4000000 in
set_option maxRecDepth 100000 in
theorem func_x (T : Toks wD s A toks n fr) (hb : Below wD.heap.size wD w) (hi : fr ≤ i ∧ i ≤ n) (hdo : ∀ gp w1 gO, PSt (mkE wD s A c toks n fr gp) w1 i → w1.heap[gO]? = some (.cells #[.slice none 0 0] 33 (0, 0)) → gO ≠ gp → wD.heap.size ≤ gO → Calls Tryz.prog 135 #[.pointer (some ⟨gp, 0, none⟩), .pointer (some ⟨gO, 0, none⟩)] w1 (DoX (mkE wD s A c toks n fr gp) w1)) : Calls Tryz.prog 103 #[.string s, .slice A toks.length c, .int .i64 i, .int .i64 n] w (FnX wD w) := by
  have hu45 := Tryz.underlying45
  have hu33 := Tryz.underlying33
  have hu24 := Tryz.underlying24
  have hu86 := Tryz.underlying86
  have hu9 := Tryz.underlying9
  have hu3 := Tryz.underlying3
  have hu4 := Tryz.underlying4
  have hmf : ∀ (fn : Fn) (first cap : Array Value) (w : World), (Instr.makeFunc fn first cap).run Tryz.prog w = .ok (.func fn first cap) w := fun _ _ _ _ => rfl
  have TT := Aside0.mk T
  have TI := Aside0.mk hi
  have HD := Aside0.mk hb
  have HDO := Aside0.mk hdo
  clear T hi hb hdo
  go_enter Tryz.func103, Tryz.ntmps103
  go_wp2_with (first | ((with_reducible refine gate_dst (N := 10) rfl ?_); refine box_event ?hg (N := 10) ?hd (cs := #[.slice none 0 0]) (t := 33) ?hr ?_; (case hd => rfl); (case hg => rfl); (case hr => first | (go_simp; done) | (go_simp; rfl)); intro gO hg w310 hbox hb; have BO := Aside0.mk hbox; have H1 := Aside0.mk hb; have GO := Aside0.mk (show gO < w310.heap.size ∧ wD.heap.size ≤ gO ∧ w.heap.size = gO from ⟨blk_lt hbox, by rw [hg]; exact HD.out.size, hg.symm⟩); have HD2 := Aside0.mk (HD.out.trans (hb.mono HD.out.size)); clear hbox hb hg) | ((with_reducible refine gate_dst (N := 19) rfl ?_); refine goesL_ (some 19) rfl rfl Tryz.func134 (by kernel_rfl) rfl #[.string s, .slice A toks.length c, .int .i64 i, .int .i64 n, .func (.func 135) #[] #[.pointer (some ⟨gO, 0, none⟩)]] rfl (by (try simp only [List.map_toArray, List.map_cons, List.map_nil]); first | done | rfl) ?_; (refine (read_fail (f := 135) (fs := #[]) (cs := #[.pointer (some ⟨gO, 0, none⟩)]) (args := fun p => #[p, .pointer (some ⟨gO, 0, none⟩)])  TT.out HD2.out TI.out Tryz.func135 (by kernel_rfl) rfl (fun p => by simp) (fun gp w1 hgp hbw hp => HDO.out gp w1 gO hp (blk_below BO.out hbw) (by have := GO.out.1; omega) GO.out.2.1)).mono ?_); (rintro e w119 ⟨rfl, hk, hb⟩; refine ⟨_, rfl, ?_⟩; have c0 : w119.cell? ⟨gO, 0, none⟩ = some (.slice none 0 0) := (blk_cell ((hk.2 gO GO.out.1 (Nat.ne_of_lt GO.out.1) (by simp)).trans BO.out) 0).trans rfl; have HK := Aside0.mk hk; have HB := Aside0.mk hb; clear hk hb)))
  go_ret2
  exact ⟨rfl, ⟨Nat.le_trans H1.out.size HK.out.1, fun q hq _ _ => (HK.out.2 q (Nat.lt_of_lt_of_le hq H1.out.size) (by have := H1.out.size; omega) (by simp)).trans (H1.out.block q hq)⟩, HB.out⟩
set_option maxHeartbeats 4000000 in
set_option maxRecDepth 100000 in
theorem attr_ok (T : Toks wD s A toks n fr) (hb : Below wD.heap.size wD w) (hi : fr ≤ i ∧ i ≤ n) (hdo : ∀ gp w1 gO, PSt (mkE wD s A c toks n fr gp) w1 i → w1.heap[gO]? = some (.cells #[.slice none 0 0] 33 (0, 0)) → gO ≠ gp → wD.heap.size ≤ gO → Calls Tryz.prog 167 #[.pointer (some ⟨gp, 0, none⟩), .pointer (some ⟨gO, 0, none⟩)] w1 (DoP (mkE wD s A c toks n fr gp) gO w1 n l)) : Calls Tryz.prog 133 #[.string s, .slice A toks.length c, .int .i64 i, .int .i64 n] w (FnP wD w l) := by
  have hu45 := Tryz.underlying45
  have hu33 := Tryz.underlying33
  have hu24 := Tryz.underlying24
  have hu86 := Tryz.underlying86
  have hu9 := Tryz.underlying9
  have hu3 := Tryz.underlying3
  have hu4 := Tryz.underlying4
  have hmf : ∀ (fn : Fn) (first cap : Array Value) (w : World), (Instr.makeFunc fn first cap).run Tryz.prog w = .ok (.func fn first cap) w := fun _ _ _ _ => rfl
  have TT := Aside0.mk T
  have TI := Aside0.mk hi
  have HD := Aside0.mk hb
  have HDO := Aside0.mk hdo
  clear T hi hb hdo
  go_enter Tryz.func133, Tryz.ntmps133
  go_wp2_with (first | ((with_reducible refine gate_dst (N := 10) rfl ?_); refine box_event ?hg (N := 10) ?hd (cs := #[.slice none 0 0]) (t := 33) ?hr ?_; (case hd => rfl); (case hg => rfl); (case hr => first | (go_simp; done) | (go_simp; rfl)); intro gO hg w310 hbox hb; have BO := Aside0.mk hbox; have H1 := Aside0.mk hb; have GO := Aside0.mk (show gO < w310.heap.size ∧ wD.heap.size ≤ gO ∧ w.heap.size = gO from ⟨blk_lt hbox, by rw [hg]; exact HD.out.size, hg.symm⟩); have HD2 := Aside0.mk (HD.out.trans (hb.mono HD.out.size)); clear hbox hb hg) | ((with_reducible refine gate_dst (N := 19) rfl ?_); refine goesL_ (some 19) rfl rfl Tryz.func134 (by kernel_rfl) rfl #[.string s, .slice A toks.length c, .int .i64 i, .int .i64 n, .func (.func 167) #[] #[.pointer (some ⟨gO, 0, none⟩)]] rfl (by (try simp only [List.map_toArray, List.map_cons, List.map_nil]); first | done | rfl) ?_; (refine (read_ok (gO := gO) (f := 167) (fs := #[]) (cs := #[.pointer (some ⟨gO, 0, none⟩)]) (args := fun p => #[p, .pointer (some ⟨gO, 0, none⟩)])  TT.out HD2.out ⟨GO.out.1, GO.out.2.1⟩ TI.out Tryz.func167 (by kernel_rfl) rfl (fun p => by simp) (fun gp w1 hgp hbw hp => HDO.out gp w1 gO hp (blk_below BO.out hbw) (by have := GO.out.1; omega) GO.out.2.1)).mono ?_); (rintro e w119 ⟨A1, c1, rfl, hg, hc, hf, hk, hb⟩; refine ⟨_, rfl, ?_⟩; have c0 : w119.cell? ⟨gO, 0, none⟩ = some (.slice A1 l.length c1) := (blk_cell hg 0).trans rfl; have HC := Aside0.mk hc; have HFF := Aside0.mk hf; have HK := Aside0.mk hk; have HB := Aside0.mk hb; clear hg hc hf hk hb)))
  go_ret2
  exact ⟨A1, c1, rfl, HC.out, Kd.F_mono HFF.out (fun _ h => Nat.le_trans H1.out.size h), ⟨Nat.le_trans H1.out.size HK.out.1, fun q hq _ _ => (HK.out.2 q (Nat.lt_of_lt_of_le hq H1.out.size) (by have := GO.out.2.2; omega) (by simp)).trans (H1.out.block q hq)⟩, HB.out⟩
end
end Go.Proofs.YthipodffpkglfaaGreatDoor.PS
