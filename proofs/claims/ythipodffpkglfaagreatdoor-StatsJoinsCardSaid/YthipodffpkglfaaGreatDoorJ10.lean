/- Words and walks that the law leans on: HS16, HS17. Conditions: none. -/
import Derived.Test.YthipodffpkglfaaGreatDoorJ9
namespace Go.Proofs.YthipodffpkglfaaGreatDoor.PS
open Go.RowKit Go.Proofs.YthipodffpkglfaaGreatDoorW.PrintWords Go.Proofs.YthipodffpkglfaaGreatDoorW.PrintLast Go.Proofs.YthipodffpkglfaaGreatDoorW.PrintMore
set_option linter.unusedVariables false
set_option linter.unusedSimpArgs false
attribute [local go_sem] max2_int min2_int max_two min_two
theorem bin_calls {w : World} {s : ByteArray} {n : Int} (h : binL s = n) : Calls Tryz.prog 203 #[.string s] w fun e w' => e = .returned (.int .i64 n) ∧ Below w.heap.size w w' := by
  rw [← h]
  exact binary_calls
theorem lef_calls {w : World} {s : ByteArray} {n : Int} (h : leftV s = n) : Calls Tryz.prog 204 #[.string s] w fun e w' => e = .returned (.int .i64 n) ∧ Below w.heap.size w w' := by
  rw [← h]
  exact left_calls
theorem rig_calls {w : World} {s : ByteArray} {n : Int} (h : rightV s = n) : Calls Tryz.prog 205 #[.string s] w fun e w' => e = .returned (.int .i64 n) ∧ Below w.heap.size w w' := by
  rw [← h]
  exact right_calls
/-- The boxes as they lie. -/
def Bx (bs : List (Nat × Nat × Array Value)) (w : World) : Prop := ∀ b ∈ bs, w.heap[b.1]? = some (.cells b.2.2 b.2.1 (0, 0))
theorem Bx.at_ {bs : List (Nat × Nat × Array Value)} {w : World} (h : Bx bs w) {n g t : Nat} {cs : Array Value} (hn : bs[n]? = some (g, t, cs)) : w.heap[g]? = some (.cells cs t (0, 0)) := h _ (List.mem_of_getElem? hn)
section
variable {P : Program} {ops : Array Oper} {o : Oper} {a : Act} {Q : Exit → Act → World → Prop} {Kc : Act → World → Prop} {W : World}
theorem run_lda {T : TypeId} {p : Tmp} (ho : o.op = .load T (.tmp p)) {g t : Nat} {cs : Array Value} {d : TypeDesc} (hp : a.eval (.tmp p) = .pointer (some ⟨g, 0, none⟩)) (hb : W.heap[g]? = some (.cells cs t (0, 0))) (hu : P.underlying T = some d) (hdd : (match d with | .struct _ | .array _ _ => true | _ => false) = true) (hi : (P.info? T).map (·.size) = some cs.size) : (execOp a.eval o).run P W = .ok (.value (.agg cs)) W := by
  unfold execOp
  simp only [ho, hp, Instr.loadAt, Instr.sureAddr, Sem.run_bind, Sem.run_pure, Result.andThen_ok, run_loadVar_row W g t T cs (0, 0) d hb hu hdd hi]
theorem run_ldc {T : TypeId} {p : Tmp} (ho : o.op = .load T (.tmp p)) {g t k : Nat} {cs : Array Value} {v : Value} {d : TypeDesc} (hp : a.eval (.tmp p) = .pointer (some ⟨g, k, none⟩)) (hb : W.heap[g]? = some (.cells cs t (0, 0))) (hk : cs[k]? = some v) (hu : P.underlying T = some d) (hdd : (match d with | .struct _ | .array _ _ => true | _ => false) = false) : (execOp a.eval o).run P W = .ok (.value v) W := by
  have hc : W.cell? ⟨g, k, none⟩ = some v := (blk_cell hb k).trans hk
  have hg : (isAgg T).run P W = .ok false W := by
    unfold isAgg
    rw [Sem.run_bind, run_underlying hu W]
    cases d <;> simp_all
  unfold execOp
  simp only [ho, hp, Instr.loadAt, Instr.sureAddr, loadVar, Sem.run_bind, Sem.run_pure, Result.andThen_ok, hg]
  simp [go_sem, hc]
theorem lit_step {m : Nat} {cs : Array Value} {t : TypeId} (hw : Region.wanted o (yielded ops a.tmps) = true)
    (hrun : (execOp a.eval o).run P W = .ok (.value (.slice (some ⟨W.heap.size, 0, none⟩) m m)) (W.alloc (.cells cs t (0, 0))))
    (h : ∀ g, g = W.heap.size → ∀ w1, w1.heap[g]? = some (.cells cs t (0, 0)) → Below W.heap.size W w1 → Kc (a.put o.dst (.slice (some ⟨g, 0, none⟩) m m)) w1) : if Region.wanted o (yielded ops a.tmps) = true then Oper.wp P o a W Kc Q else Kc (a.put o.dst undef) W :=
  event_step hw hrun (h _ rfl _ (blk_new W _) (below_alloc (Below.refl _ _) _))
theorem st_agg_step (hw : Region.wanted o (yielded ops a.tmps) = true) (hN : o.dst = none) {T : TypeId} {p : Tmp} {x : Operand} (ho : o.op = .store T (.tmp p) x) {g t : Nat} {cs cs' : Array Value} (hp : a.eval (.tmp p) = .pointer (some ⟨g, 0, none⟩)) (hx : a.eval x = .agg cs') (hb : W.heap[g]? = some (.cells cs t (0, 0))) (hi : (P.info? T).map (·.size) = some cs'.size) (hs : cs.size = cs'.size) (h1 : cs'.all (·.oneCell') = true)
    (h : ∀ w1, w1.heap[g]? = some (.cells cs' t (0, 0)) → Below g W w1 → (∀ k, k ≠ g → w1.heap[k]? = W.heap[k]?) → Kc (a.put none undef) w1) : if Region.wanted o (yielded ops a.tmps) = true then Oper.wp P o a W Kc Q else Kc (a.put none undef) W := by
  rw [if_pos hw]
  refine wp_store_row T _ _ ho g cs' hp hx t cs hb hi hs h1 ?_
  rw [hN]
  exact h _ (setRow_heap _ _ _ _ _ _ hb) (below_row W g cs') (fun k hk => setRow_other _ _ _ _ hk)
theorem st_cell_step (hw : Region.wanted o (yielded ops a.tmps) = true) (hN : o.dst = none) {T : TypeId} {p : Tmp} {x : Operand} (ho : o.op = .store T (.tmp p) x) {g t k : Nat} {cs : Array Value} {v : Value} (hp : a.eval (.tmp p) = .pointer (some ⟨g, k, none⟩)) (hx : a.eval x = v) (hb : W.heap[g]? = some (.cells cs t (0, 0))) (hk : k < cs.size) (hi : (P.info? T).map (·.size) = some 1) (hv : v.cells.toList = [v]) (h1 : v.oneCell' = true)
    (h : ∀ w1, w1.heap[g]? = some (.cells (cs.setIfInBounds k v) t (0, 0)) → Below g W w1 → (∀ k, k ≠ g → w1.heap[k]? = W.heap[k]?) → Kc (a.put none undef) w1) : if Region.wanted o (yielded ops a.tmps) = true then Oper.wp P o a W Kc Q else Kc (a.put none undef) W := by
  rw [if_pos hw]
  unfold Oper.wp execOp
  simp only [ho, hp, hx, Sem.run_bind, Sem.run_pure, Result.andThen_ok, run_store_run T v [v] hb hv hi (show k + [v].length ≤ cs.size from hk) (by intro q hq; rw [List.mem_singleton.1 hq]; exact h1)]
  show Kc (a.put o.dst undef) _
  rw [hN]
  exact h _ (blk_set hb k v) ((Below.refl _ _).setCell (Nat.le_refl g) v) (fun q hq => Below.heap_setCell W ⟨g, k, none⟩ v q hq)
end
section
variable {E : Env} {lo : Nat} {w0 w w' : World} {bs : List (Nat × Nat × Array Value)} {ns : List (Option Addr × List S45)} {os : List (Value × List S45)} {i : Nat}
theorem Fr.bxs (F : Fr E lo w0 bs ns os w i) : Bx bs w := fun b hb => (F.bx b hb).1
theorem Fr.lit2 (F : Fr E lo w0 bs ns os w i) (m m2 : Nat) {A A2 : Option Addr} {l l2 : List S45} (hn : ns[m]? = some (A, l)) (hn2 : ns[m2]? = some (A2, l2)) {c c2 : Nat} (hc : l.length ≤ c) (hc2 : l2.length ≤ c2) {k k2 : Int} {t t2 : ByteArray} {g : Nat} (hg : g = w.heap.size) (hb : w'.heap[g]? = some (.cells ((ndc k t A l.length c).toList ++ (ndc k2 t2 A2 l2.length c2).toList).toArray 45 (0, 0))) (h : Below w.heap.size w w') : Fr E lo w0 bs ((some ⟨g, 0, none⟩, [nd k t l, nd k2 t2 l2]) :: ns) os w' i :=
  F.lit hg hb h (by simp) ((reps1 (FK_nd (F.rowF hn) hc)).snoc (FK_nd (F.rowF hn2) hc2) rfl)
theorem Fr.lit3 (F : Fr E lo w0 bs ns os w i) (m m2 m3 : Nat) {A A2 A3 : Option Addr} {l l2 l3 : List S45} (hn : ns[m]? = some (A, l)) (hn2 : ns[m2]? = some (A2, l2)) (hn3 : ns[m3]? = some (A3, l3)) {c c2 c3 : Nat} (hc : l.length ≤ c) (hc2 : l2.length ≤ c2) (hc3 : l3.length ≤ c3) {k k2 k3 : Int} {t t2 t3 : ByteArray} {g : Nat} (hg : g = w.heap.size) (hb : w'.heap[g]? = some (.cells ((ndc k t A l.length c).toList ++ (ndc k2 t2 A2 l2.length c2).toList ++ (ndc k3 t3 A3 l3.length c3).toList).toArray 45 (0, 0))) (h : Below w.heap.size w w') : Fr E lo w0 bs ((some ⟨g, 0, none⟩, [nd k t l, nd k2 t2 l2, nd k3 t3 l3]) :: ns) os w' i :=
  F.lit hg hb h (by simp) (((reps1 (FK_nd (F.rowF hn) hc)).snoc (FK_nd (F.rowF hn2) hc2) rfl).snoc (FK_nd (F.rowF hn3) hc3) rfl)
end
theorem F166tab9 : rtab .any (opsOf Tryz.f166 9) = (true, [([], []), ([0], [0]), ([], []), ([], []), ([], []), ([4], [4]), ([5], [5]), ([3, 6, 6], [3, 6]), ([2, 7], [2, 7]), ([1, 8], [1, 8]), ([], []), ([9, 7, 0, 1, 2, 3, 4, 5, 6, 7, 8, 9], [9]), ([10, 11, 0, 1, 2, 3, 4, 5, 6, 7, 8, 9, 10, 11], [10])]) := by kernel_rfl
section
variable {E : Env} {i j j' : Nat} {k k2 : Int} {t t2 : ByteArray} {l l2 ys : List S45}
set_option maxHeartbeats 4000000 in
set_option maxRecDepth 100000 in
theorem args_rd (h1 : isT (E.cur i) (⟨#[40]⟩ : ByteArray) = true) (h2 : RdI E (⟨#[41]⟩ : ByteArray) (i + 1) j ys) : Rd E 163 #[.pointer (some ⟨E.gp, 0, none⟩)] i j 23 (⟨#[]⟩ : ByteArray) ys := by
  intro w hp
  have hu45 := Tryz.underlying45
  have hu33 := Tryz.underlying33
  have hu24 := Tryz.underlying24
  have hu86 := Tryz.underlying86
  have hu9 := Tryz.underlying9
  have hu3 := Tryz.underlying3
  have hu4 := Tryz.underlying4
  have F := Aside0.mk (Fr.init hp)
  clear hp
  have H1 := Aside0.mk h1
  have H2 := Aside0.mk h2
  clear h1 h2
  go_enter Tryz.func163, Tryz.ntmps163
  go_wp2_with (first | ((with_reducible refine gate_dst (N := 2) rfl ?_); refine box_event ?hg (N := 2) ?hd (cs := #[.int .i64 0, .string (⟨#[]⟩ : ByteArray), .slice none 0 0, .bool false, .bool false, .slice none 0 0, .slice none 0 0]) (t := 45) ?hr ?_; (case hd => rfl); (case hg => rfl); (case hr => first | (go_simp; done) | (go_simp; rfl)); intro g2 hg w302 hbox hb; have n0 := Aside0.mk (show Fr E _ _ ((g2, 45, z7) :: _) _ _ _ _ from F.out.box hg hbox hb); clear F hbox hb hg; have F := n0) | ((with_reducible refine gate_dst (N := 4) rfl ?_); refine goesL_ (some 4) rfl rfl Tryz.func164 (by kernel_rfl) rfl #[.pointer (some ⟨E.gp, 0, none⟩), .string (⟨#[40]⟩ : ByteArray)] rfl (by (try simp only [List.map_toArray, List.map_cons, List.map_nil]); first | done | rfl) ?_; (refine (need_yes F.out.p (⟨#[40]⟩ : ByteArray) H1.out).mono ?_); (rintro e w104 ⟨rfl, hp, hk⟩; refine ⟨_, rfl, ?_⟩; have n0 := Aside0.mk (F.out.move hp hk); clear F hp hk; have F := n0)) | ((with_reducible refine gate_dst (N := 9) rfl ?_); refine goesL_ (some 9) rfl rfl Tryz.func199 (by kernel_rfl) rfl #[.pointer (some ⟨E.gp, 0, none⟩), .agg (ndc 23 (⟨#[]⟩ : ByteArray) none 0 0), .string (⟨#[41]⟩ : ByteArray), AT0 E] rfl (by (try simp only [List.map_toArray, List.map_cons, List.map_nil]); first | done | rfl) ?_; (refine (H2.out _ _ 23 (⟨#[]⟩ : ByteArray) none 0 [] F.out.p (Nat.le_refl _) F.out.p.lt (Nat.zero_le _) (Kd.N_nil k45 45 _ _ _)).mono ?_); (rintro e w109 ⟨A9, c9, rfl, hc, hf, hp, hs, hk⟩; refine ⟨_, rfl, ?_⟩; have n0 := Aside0.mk (F.out.node hp ⟨hs, fun q h1 h2 _ => hk q h1 h2⟩ hf); have C9 := Aside0.mk hc; clear F hc hf hp hs hk; have F := n0)) | ((with_reducible refine gate_ (.store 45 (.tmp 2) (.tmp 9)) rfl ?_); refine F.out.st0 rfl rfl rfl (ndc 23 (⟨#[]⟩ : ByteArray) A9 ys.length c9) rfl rfl info45 rfl (ndc_one _ _ _ _ _) ?_; intro w602 n1; have n0 := Aside0.mk n1; clear F n1; have F := n0))
  refine bodyPost_ret (results_single rfl (.cell g2 45 (ndc 23 (⟨#[]⟩ : ByteArray) A9 ys.length c9) (0, 0) _ rfl (F.out.at_ (n := 0) rfl) hu45 rfl info45 .nil)) rfl ?_
  exact ⟨A9, c9, rfl, C9.out, F.out.row (n := 0) rfl, F.out.p, F.out.keep⟩
set_option maxHeartbeats 4000000 in
set_option maxRecDepth 100000 in
theorem guard_rd (h1 : isT (E.cur i) (⟨#[119, 104, 101, 110]⟩ : ByteArray) = false) : Rd E 173 #[.pointer (some ⟨E.gp, 0, none⟩)] i i 24 (⟨#[]⟩ : ByteArray) [] := by
  intro w hp
  have hu45 := Tryz.underlying45
  have hu33 := Tryz.underlying33
  have hu24 := Tryz.underlying24
  have hu86 := Tryz.underlying86
  have hu9 := Tryz.underlying9
  have hu3 := Tryz.underlying3
  have hu4 := Tryz.underlying4
  have F := Aside0.mk (Fr.init hp)
  clear hp
  have H1 := Aside0.mk h1
  clear h1
  go_enter Tryz.func173, Tryz.ntmps173
  go_wp2_with (first | ((with_reducible refine gate_dst (N := 2) rfl ?_); refine box_event ?hg (N := 2) ?hd (cs := #[.int .i64 0, .string (⟨#[]⟩ : ByteArray), .slice none 0 0, .bool false, .bool false, .slice none 0 0, .slice none 0 0]) (t := 45) ?hr ?_; (case hd => rfl); (case hg => rfl); (case hr => first | (go_simp; done) | (go_simp; rfl)); intro g2 hg w302 hbox hb; have n0 := Aside0.mk (show Fr E _ _ ((g2, 45, z7) :: _) _ _ _ _ from F.out.box hg hbox hb); clear F hbox hb hg; have F := n0) | ((with_reducible refine gate_dst (N := 4) rfl ?_); refine goesL_ (some 4) rfl rfl Tryz.func170 (by kernel_rfl) rfl #[.pointer (some ⟨E.gp, 0, none⟩), .string (⟨#[119, 104, 101, 110]⟩ : ByteArray)] rfl (by (try simp only [List.map_toArray, List.map_cons, List.map_nil]); first | done | rfl) ?_; (refine (take_no F.out.p (⟨#[119, 104, 101, 110]⟩ : ByteArray) H1.out).mono ?_); (rintro e w104 ⟨rfl, hb⟩; refine ⟨_, rfl, ?_⟩; have n0 := Aside0.mk (F.out.below hb); clear F hb; have F := n0)) | ((with_reducible refine gate_ (.store 45 (.tmp 2) (.tmp 7)) rfl ?_); refine F.out.st0 rfl rfl rfl (ndc 24 (⟨#[]⟩ : ByteArray) none 0 0) rfl rfl info45 rfl (ndc_one _ _ _ _ _) ?_; intro w602 n1; have n0 := Aside0.mk n1; clear F n1; have F := n0))
  refine bodyPost_ret (results_single rfl (.cell g2 45 (ndc 24 (⟨#[]⟩ : ByteArray) none 0 0) (0, 0) _ rfl (F.out.at_ (n := 0) rfl) hu45 rfl info45 .nil)) rfl ?_
  exact ⟨none, 0, rfl, Nat.le_refl _, Kd.F_nil k45 _ _, F.out.p, F.out.keep⟩
set_option maxHeartbeats 4000000 in
set_option maxRecDepth 100000 in
theorem expr_stop0n (h1 : isT (E.cur i) (⟨#[99, 97, 116, 99, 104]⟩ : ByteArray) = false) (h2 : Rd2 E 202 #[.pointer (some ⟨E.gp, 0, none⟩)] i j k t l (.int .i64 11)) (h3 : isT (E.cur j) (E.cur j).t = false) (h4 : binL (E.cur j).t = 0) : Rd E 166 #[.pointer (some ⟨E.gp, 0, none⟩), .int .i64 0] i j k t l := by
  intro w hp
  have hu45 := Tryz.underlying45
  have hu33 := Tryz.underlying33
  have hu24 := Tryz.underlying24
  have hu86 := Tryz.underlying86
  have hu9 := Tryz.underlying9
  have hu3 := Tryz.underlying3
  have hu4 := Tryz.underlying4
  have F := Aside0.mk (Fr.init hp)
  clear hp
  have H1 := Aside0.mk h1
  have H2 := Aside0.mk h2
  have H3 := Aside0.mk h3
  have H4 := Aside0.mk h4
  clear h1 h2 h3 h4
  go_enter Tryz.func166, Tryz.ntmps166
  go_wp2_with (first | ((with_reducible refine gate_dst (N := 4) rfl ?_); refine box_event ?hg (N := 4) ?hd (cs := #[.int .i64 0, .string (⟨#[]⟩ : ByteArray), .slice none 0 0, .bool false, .bool false, .slice none 0 0, .slice none 0 0]) (t := 45) ?hr ?_; (case hd => rfl); (case hg => rfl); (case hr => first | (go_simp; done) | (go_simp; rfl)); intro g4 hg w304 hbox hb; have n0 := Aside0.mk (show Fr E _ _ ((g4, 45, z7) :: _) _ _ _ _ from F.out.box hg hbox hb); clear F hbox hb hg; have F := n0) | ((with_reducible refine gate_dst (N := 13) rfl ?_); (refine gate_guard (by rfl) ?_; dsimp only); refine goesL_ (some 13) rfl rfl Tryz.func170 (by kernel_rfl) rfl #[.pointer (some ⟨E.gp, 0, none⟩), .string (⟨#[99, 97, 116, 99, 104]⟩ : ByteArray)] rfl (by (try simp only [List.map_toArray, List.map_cons, List.map_nil]); first | done | rfl) ?_; (refine (take_no F.out.p (⟨#[99, 97, 116, 99, 104]⟩ : ByteArray) H1.out).mono ?_); (rintro e w113 ⟨rfl, hb⟩; refine ⟨_, rfl, ?_⟩; have n0 := Aside0.mk (F.out.below hb); clear F hb; have F := n0)) | ((with_reducible refine gate_dst (N := 21) rfl ?_); refine goesL_ (some 21) rfl rfl Tryz.func202 (by kernel_rfl) rfl #[.pointer (some ⟨E.gp, 0, none⟩)] rfl (by (try simp only [List.map_toArray, List.map_cons, List.map_nil]); first | done | rfl) ?_; (refine (H2.out _ F.out.p).mono ?_); (rintro e w121 ⟨A21, c21, rfl, hc, hf, hp, hk⟩; refine ⟨_, rfl, ?_⟩; have n0 := Aside0.mk (F.out.node hp hk hf); have C21 := Aside0.mk hc; clear F hc hf hp hk; have F := n0)) | ((with_reducible refine gate_dst (N := 5) rfl ?_); refine box_event ?hg (N := 5) ?hd (cs := #[.int .i64 0, .string (⟨#[]⟩ : ByteArray), .slice none 0 0, .bool false, .bool false, .slice none 0 0, .slice none 0 0]) (t := 45) ?hr ?_; (case hd => rfl); (case hg => rfl); (case hr => first | (go_simp; done) | (go_simp; rfl)); intro g5 hg w305 hbox hb; have n0 := Aside0.mk (show Fr E _ _ ((g5, 45, z7) :: _) _ _ _ _ from F.out.box hg hbox hb); clear F hbox hb hg; have F := n0) | ((with_reducible refine gate_ (.store 45 (.tmp 5) (.tmp 22)) rfl ?_); refine F.out.st0 rfl rfl rfl (ndc k t A21 l.length c21) rfl rfl info45 rfl (ndc_one _ _ _ _ _) ?_; intro w605 n1; have n0 := Aside0.mk n1; clear F n1; have F := n0))
  refine wp_loop_rounds 1 ?_
  rw [rounds_succ]
  go_wp2_with (first | ((with_reducible refine gate_dst (N := 27) rfl ?_); refine goesL_ (some 27) rfl rfl Tryz.func174 (by kernel_rfl) rfl #[.pointer (some ⟨E.gp, 0, none⟩)] rfl (by (try simp only [List.map_toArray, List.map_cons, List.map_nil]); first | done | rfl) ?_; (refine (cur_calls F.out.p).mono ?_); (rintro e w127 ⟨rfl, hb⟩; refine ⟨_, rfl, ?_⟩; have n0 := Aside0.mk (F.out.below hb); clear F hb; have F := n0)) | ((with_reducible refine gate_dst (N := 7) rfl ?_); refine box_event ?hg (N := 7) ?hd (cs := #[.int .i64 0, .string (⟨#[]⟩ : ByteArray), .int .i64 0]) (t := 86) ?hr ?_; (case hd => rfl); (case hg => rfl); (case hr => first | (go_simp; done) | (go_simp; rfl)); intro g7 hg w307 hbox hb; have n0 := Aside0.mk (F.out.box hg hbox hb); clear F hbox hb hg; have F := n0) | ((with_reducible refine gate_ (.store 86 (.tmp 7) (.tmp 27)) rfl ?_); refine F.out.st0 rfl rfl rfl (tkc (E.cur j)) rfl rfl infoTk rfl (tkc_one _) ?_; intro w607 n1; have n0 := Aside0.mk n1; clear F n1; have F := n0) | ((with_reducible refine gate_dst (N := 29) rfl ?_); refine ld_cell rfl (N := 29) (v := .string (E.cur j).t) rfl rfl rfl (F.out.at_ (n := 0) rfl) rfl hu9 rfl ?_) | ((with_reducible refine gate_dst (N := 30) rfl ?_); refine goesL_ (some 30) rfl rfl Tryz.func203 (by kernel_rfl) rfl #[.string (E.cur j).t] rfl (by (try simp only [List.map_toArray, List.map_cons, List.map_nil]); first | done | rfl) ?_; (refine (bin_calls H4.out).mono ?_); (rintro e w130 ⟨rfl, hb⟩; refine ⟨_, rfl, ?_⟩; have n0 := Aside0.mk (F.out.below hb); clear F hb; have F := n0)) | ((with_reducible refine gate_dst (N := 33) rfl ?_); refine ld_cell rfl (N := 33) (v := .string (E.cur j).t) rfl rfl rfl (F.out.at_ (n := 0) rfl) rfl hu9 rfl ?_) | ((with_reducible refine gate_dst (N := 34) rfl ?_); refine goesL_ (some 34) rfl rfl Tryz.func168 (by kernel_rfl) rfl #[.pointer (some ⟨E.gp, 0, none⟩), .string (E.cur j).t] rfl (by (try simp only [List.map_toArray, List.map_cons, List.map_nil]); first | done | rfl) ?_; (refine (is_calls F.out.p _ _ H3.out).mono ?_); (rintro e w134 ⟨rfl, hb⟩; refine ⟨_, rfl, ?_⟩; have n0 := Aside0.mk (F.out.below hb); clear F hb; have F := n0)) | ((with_reducible refine gate_dst (N := 62) rfl ?_); refine ld_agg rfl (N := 62) rfl rfl rfl (F.out.at_ (n := 1) rfl) hu45 rfl info45 ?_) | ((with_reducible refine gate_ (.store 45 (.tmp 4) (.tmp 62)) rfl ?_); refine F.out.st2 rfl rfl rfl (ndc k t A21 l.length c21) rfl rfl info45 rfl (ndc_one _ _ _ _ _) ?_; intro w604 n1; have n0 := Aside0.mk n1; clear F n1; have F := n0))
  refine bodyPost_ret (results_single rfl (.cell g4 45 (ndc k t A21 l.length c21) (0, 0) _ rfl (F.out.at_ (n := 2) rfl) hu45 rfl info45 .nil)) rfl ?_
  exact ⟨A21, c21, rfl, C21.out, F.out.row (n := 0) rfl, F.out.p, F.out.keep⟩
set_option maxHeartbeats 4000000 in
set_option maxRecDepth 100000 in
theorem expr_stop0s (h1 : isT (E.cur i) (⟨#[99, 97, 116, 99, 104]⟩ : ByteArray) = false) (h2 : Rd2 E 202 #[.pointer (some ⟨E.gp, 0, none⟩)] i j k t l (.int .i64 11)) (h3 : isT (E.cur j) (E.cur j).t = true) (h4 : binL (E.cur j).t = 0) : Rd E 166 #[.pointer (some ⟨E.gp, 0, none⟩), .int .i64 0] i j k t l := by
  intro w hp
  have hu45 := Tryz.underlying45
  have hu33 := Tryz.underlying33
  have hu24 := Tryz.underlying24
  have hu86 := Tryz.underlying86
  have hu9 := Tryz.underlying9
  have hu3 := Tryz.underlying3
  have hu4 := Tryz.underlying4
  have F := Aside0.mk (Fr.init hp)
  clear hp
  have H1 := Aside0.mk h1
  have H2 := Aside0.mk h2
  have H3 := Aside0.mk h3
  have H4 := Aside0.mk h4
  clear h1 h2 h3 h4
  go_enter Tryz.func166, Tryz.ntmps166
  go_wp2_with (first | ((with_reducible refine gate_dst (N := 4) rfl ?_); refine box_event ?hg (N := 4) ?hd (cs := #[.int .i64 0, .string (⟨#[]⟩ : ByteArray), .slice none 0 0, .bool false, .bool false, .slice none 0 0, .slice none 0 0]) (t := 45) ?hr ?_; (case hd => rfl); (case hg => rfl); (case hr => first | (go_simp; done) | (go_simp; rfl)); intro g4 hg w304 hbox hb; have n0 := Aside0.mk (show Fr E _ _ ((g4, 45, z7) :: _) _ _ _ _ from F.out.box hg hbox hb); clear F hbox hb hg; have F := n0) | ((with_reducible refine gate_dst (N := 13) rfl ?_); (refine gate_guard (by rfl) ?_; dsimp only); refine goesL_ (some 13) rfl rfl Tryz.func170 (by kernel_rfl) rfl #[.pointer (some ⟨E.gp, 0, none⟩), .string (⟨#[99, 97, 116, 99, 104]⟩ : ByteArray)] rfl (by (try simp only [List.map_toArray, List.map_cons, List.map_nil]); first | done | rfl) ?_; (refine (take_no F.out.p (⟨#[99, 97, 116, 99, 104]⟩ : ByteArray) H1.out).mono ?_); (rintro e w113 ⟨rfl, hb⟩; refine ⟨_, rfl, ?_⟩; have n0 := Aside0.mk (F.out.below hb); clear F hb; have F := n0)) | ((with_reducible refine gate_dst (N := 21) rfl ?_); refine goesL_ (some 21) rfl rfl Tryz.func202 (by kernel_rfl) rfl #[.pointer (some ⟨E.gp, 0, none⟩)] rfl (by (try simp only [List.map_toArray, List.map_cons, List.map_nil]); first | done | rfl) ?_; (refine (H2.out _ F.out.p).mono ?_); (rintro e w121 ⟨A21, c21, rfl, hc, hf, hp, hk⟩; refine ⟨_, rfl, ?_⟩; have n0 := Aside0.mk (F.out.node hp hk hf); have C21 := Aside0.mk hc; clear F hc hf hp hk; have F := n0)) | ((with_reducible refine gate_dst (N := 5) rfl ?_); refine box_event ?hg (N := 5) ?hd (cs := #[.int .i64 0, .string (⟨#[]⟩ : ByteArray), .slice none 0 0, .bool false, .bool false, .slice none 0 0, .slice none 0 0]) (t := 45) ?hr ?_; (case hd => rfl); (case hg => rfl); (case hr => first | (go_simp; done) | (go_simp; rfl)); intro g5 hg w305 hbox hb; have n0 := Aside0.mk (show Fr E _ _ ((g5, 45, z7) :: _) _ _ _ _ from F.out.box hg hbox hb); clear F hbox hb hg; have F := n0) | ((with_reducible refine gate_ (.store 45 (.tmp 5) (.tmp 22)) rfl ?_); refine F.out.st0 rfl rfl rfl (ndc k t A21 l.length c21) rfl rfl info45 rfl (ndc_one _ _ _ _ _) ?_; intro w605 n1; have n0 := Aside0.mk n1; clear F n1; have F := n0))
  refine wp_loop_rounds 1 ?_
  rw [rounds_succ]
  go_wp2_with (first | ((with_reducible refine gate_dst (N := 27) rfl ?_); refine goesL_ (some 27) rfl rfl Tryz.func174 (by kernel_rfl) rfl #[.pointer (some ⟨E.gp, 0, none⟩)] rfl (by (try simp only [List.map_toArray, List.map_cons, List.map_nil]); first | done | rfl) ?_; (refine (cur_calls F.out.p).mono ?_); (rintro e w127 ⟨rfl, hb⟩; refine ⟨_, rfl, ?_⟩; have n0 := Aside0.mk (F.out.below hb); clear F hb; have F := n0)) | ((with_reducible refine gate_dst (N := 7) rfl ?_); refine box_event ?hg (N := 7) ?hd (cs := #[.int .i64 0, .string (⟨#[]⟩ : ByteArray), .int .i64 0]) (t := 86) ?hr ?_; (case hd => rfl); (case hg => rfl); (case hr => first | (go_simp; done) | (go_simp; rfl)); intro g7 hg w307 hbox hb; have n0 := Aside0.mk (F.out.box hg hbox hb); clear F hbox hb hg; have F := n0) | ((with_reducible refine gate_ (.store 86 (.tmp 7) (.tmp 27)) rfl ?_); refine F.out.st0 rfl rfl rfl (tkc (E.cur j)) rfl rfl infoTk rfl (tkc_one _) ?_; intro w607 n1; have n0 := Aside0.mk n1; clear F n1; have F := n0) | ((with_reducible refine gate_dst (N := 29) rfl ?_); refine ld_cell rfl (N := 29) (v := .string (E.cur j).t) rfl rfl rfl (F.out.at_ (n := 0) rfl) rfl hu9 rfl ?_) | ((with_reducible refine gate_dst (N := 30) rfl ?_); refine goesL_ (some 30) rfl rfl Tryz.func203 (by kernel_rfl) rfl #[.string (E.cur j).t] rfl (by (try simp only [List.map_toArray, List.map_cons, List.map_nil]); first | done | rfl) ?_; (refine (bin_calls H4.out).mono ?_); (rintro e w130 ⟨rfl, hb⟩; refine ⟨_, rfl, ?_⟩; have n0 := Aside0.mk (F.out.below hb); clear F hb; have F := n0)) | ((with_reducible refine gate_dst (N := 33) rfl ?_); refine ld_cell rfl (N := 33) (v := .string (E.cur j).t) rfl rfl rfl (F.out.at_ (n := 0) rfl) rfl hu9 rfl ?_) | ((with_reducible refine gate_dst (N := 34) rfl ?_); refine goesL_ (some 34) rfl rfl Tryz.func168 (by kernel_rfl) rfl #[.pointer (some ⟨E.gp, 0, none⟩), .string (E.cur j).t] rfl (by (try simp only [List.map_toArray, List.map_cons, List.map_nil]); first | done | rfl) ?_; (refine (is_calls F.out.p _ _ H3.out).mono ?_); (rintro e w134 ⟨rfl, hb⟩; refine ⟨_, rfl, ?_⟩; have n0 := Aside0.mk (F.out.below hb); clear F hb; have F := n0)) | ((with_reducible refine gate_dst (N := 62) rfl ?_); refine ld_agg rfl (N := 62) rfl rfl rfl (F.out.at_ (n := 1) rfl) hu45 rfl info45 ?_) | ((with_reducible refine gate_ (.store 45 (.tmp 4) (.tmp 62)) rfl ?_); refine F.out.st2 rfl rfl rfl (ndc k t A21 l.length c21) rfl rfl info45 rfl (ndc_one _ _ _ _ _) ?_; intro w604 n1; have n0 := Aside0.mk n1; clear F n1; have F := n0))
  refine bodyPost_ret (results_single rfl (.cell g4 45 (ndc k t A21 l.length c21) (0, 0) _ rfl (F.out.at_ (n := 2) rfl) hu45 rfl info45 .nil)) rfl ?_
  exact ⟨A21, c21, rfl, C21.out, F.out.row (n := 0) rfl, F.out.p, F.out.keep⟩
set_option maxHeartbeats 4000000 in
set_option maxRecDepth 100000 in
theorem expr_stop1n (h1 : True) (h2 : Rd2 E 202 #[.pointer (some ⟨E.gp, 0, none⟩)] i j k t l (.int .i64 11)) (h3 : isT (E.cur j) (E.cur j).t = false) (h4 : binL (E.cur j).t = 0) : Rd E 166 #[.pointer (some ⟨E.gp, 0, none⟩), .int .i64 1] i j k t l := by
  intro w hp
  have hu45 := Tryz.underlying45
  have hu33 := Tryz.underlying33
  have hu24 := Tryz.underlying24
  have hu86 := Tryz.underlying86
  have hu9 := Tryz.underlying9
  have hu3 := Tryz.underlying3
  have hu4 := Tryz.underlying4
  have F := Aside0.mk (Fr.init hp)
  clear hp
  have H1 := Aside0.mk h1
  have H2 := Aside0.mk h2
  have H3 := Aside0.mk h3
  have H4 := Aside0.mk h4
  clear h1 h2 h3 h4
  go_enter Tryz.func166, Tryz.ntmps166
  go_wp2_with (first | ((with_reducible refine gate_dst (N := 4) rfl ?_); refine box_event ?hg (N := 4) ?hd (cs := #[.int .i64 0, .string (⟨#[]⟩ : ByteArray), .slice none 0 0, .bool false, .bool false, .slice none 0 0, .slice none 0 0]) (t := 45) ?hr ?_; (case hd => rfl); (case hg => rfl); (case hr => first | (go_simp; done) | (go_simp; rfl)); intro g4 hg w304 hbox hb; have n0 := Aside0.mk (show Fr E _ _ ((g4, 45, z7) :: _) _ _ _ _ from F.out.box hg hbox hb); clear F hbox hb hg; have F := n0) | ((with_reducible refine gate_dst (N := 21) rfl ?_); refine goesL_ (some 21) rfl rfl Tryz.func202 (by kernel_rfl) rfl #[.pointer (some ⟨E.gp, 0, none⟩)] rfl (by (try simp only [List.map_toArray, List.map_cons, List.map_nil]); first | done | rfl) ?_; (refine (H2.out _ F.out.p).mono ?_); (rintro e w121 ⟨A21, c21, rfl, hc, hf, hp, hk⟩; refine ⟨_, rfl, ?_⟩; have n0 := Aside0.mk (F.out.node hp hk hf); have C21 := Aside0.mk hc; clear F hc hf hp hk; have F := n0)) | ((with_reducible refine gate_dst (N := 5) rfl ?_); refine box_event ?hg (N := 5) ?hd (cs := #[.int .i64 0, .string (⟨#[]⟩ : ByteArray), .slice none 0 0, .bool false, .bool false, .slice none 0 0, .slice none 0 0]) (t := 45) ?hr ?_; (case hd => rfl); (case hg => rfl); (case hr => first | (go_simp; done) | (go_simp; rfl)); intro g5 hg w305 hbox hb; have n0 := Aside0.mk (show Fr E _ _ ((g5, 45, z7) :: _) _ _ _ _ from F.out.box hg hbox hb); clear F hbox hb hg; have F := n0) | ((with_reducible refine gate_ (.store 45 (.tmp 5) (.tmp 22)) rfl ?_); refine F.out.st0 rfl rfl rfl (ndc k t A21 l.length c21) rfl rfl info45 rfl (ndc_one _ _ _ _ _) ?_; intro w605 n1; have n0 := Aside0.mk n1; clear F n1; have F := n0))
  refine wp_loop_rounds 1 ?_
  rw [rounds_succ]
  go_wp2_with (first | ((with_reducible refine gate_dst (N := 27) rfl ?_); refine goesL_ (some 27) rfl rfl Tryz.func174 (by kernel_rfl) rfl #[.pointer (some ⟨E.gp, 0, none⟩)] rfl (by (try simp only [List.map_toArray, List.map_cons, List.map_nil]); first | done | rfl) ?_; (refine (cur_calls F.out.p).mono ?_); (rintro e w127 ⟨rfl, hb⟩; refine ⟨_, rfl, ?_⟩; have n0 := Aside0.mk (F.out.below hb); clear F hb; have F := n0)) | ((with_reducible refine gate_dst (N := 7) rfl ?_); refine box_event ?hg (N := 7) ?hd (cs := #[.int .i64 0, .string (⟨#[]⟩ : ByteArray), .int .i64 0]) (t := 86) ?hr ?_; (case hd => rfl); (case hg => rfl); (case hr => first | (go_simp; done) | (go_simp; rfl)); intro g7 hg w307 hbox hb; have n0 := Aside0.mk (F.out.box hg hbox hb); clear F hbox hb hg; have F := n0) | ((with_reducible refine gate_ (.store 86 (.tmp 7) (.tmp 27)) rfl ?_); refine F.out.st0 rfl rfl rfl (tkc (E.cur j)) rfl rfl infoTk rfl (tkc_one _) ?_; intro w607 n1; have n0 := Aside0.mk n1; clear F n1; have F := n0) | ((with_reducible refine gate_dst (N := 29) rfl ?_); refine ld_cell rfl (N := 29) (v := .string (E.cur j).t) rfl rfl rfl (F.out.at_ (n := 0) rfl) rfl hu9 rfl ?_) | ((with_reducible refine gate_dst (N := 30) rfl ?_); refine goesL_ (some 30) rfl rfl Tryz.func203 (by kernel_rfl) rfl #[.string (E.cur j).t] rfl (by (try simp only [List.map_toArray, List.map_cons, List.map_nil]); first | done | rfl) ?_; (refine (bin_calls H4.out).mono ?_); (rintro e w130 ⟨rfl, hb⟩; refine ⟨_, rfl, ?_⟩; have n0 := Aside0.mk (F.out.below hb); clear F hb; have F := n0)) | ((with_reducible refine gate_dst (N := 33) rfl ?_); refine ld_cell rfl (N := 33) (v := .string (E.cur j).t) rfl rfl rfl (F.out.at_ (n := 0) rfl) rfl hu9 rfl ?_) | ((with_reducible refine gate_dst (N := 34) rfl ?_); refine goesL_ (some 34) rfl rfl Tryz.func168 (by kernel_rfl) rfl #[.pointer (some ⟨E.gp, 0, none⟩), .string (E.cur j).t] rfl (by (try simp only [List.map_toArray, List.map_cons, List.map_nil]); first | done | rfl) ?_; (refine (is_calls F.out.p _ _ H3.out).mono ?_); (rintro e w134 ⟨rfl, hb⟩; refine ⟨_, rfl, ?_⟩; have n0 := Aside0.mk (F.out.below hb); clear F hb; have F := n0)) | ((with_reducible refine gate_dst (N := 62) rfl ?_); refine ld_agg rfl (N := 62) rfl rfl rfl (F.out.at_ (n := 1) rfl) hu45 rfl info45 ?_) | ((with_reducible refine gate_ (.store 45 (.tmp 4) (.tmp 62)) rfl ?_); refine F.out.st2 rfl rfl rfl (ndc k t A21 l.length c21) rfl rfl info45 rfl (ndc_one _ _ _ _ _) ?_; intro w604 n1; have n0 := Aside0.mk n1; clear F n1; have F := n0))
  refine bodyPost_ret (results_single rfl (.cell g4 45 (ndc k t A21 l.length c21) (0, 0) _ rfl (F.out.at_ (n := 2) rfl) hu45 rfl info45 .nil)) rfl ?_
  exact ⟨A21, c21, rfl, C21.out, F.out.row (n := 0) rfl, F.out.p, F.out.keep⟩
set_option maxHeartbeats 4000000 in
set_option maxRecDepth 100000 in
theorem expr_stop1s (h1 : True) (h2 : Rd2 E 202 #[.pointer (some ⟨E.gp, 0, none⟩)] i j k t l (.int .i64 11)) (h3 : isT (E.cur j) (E.cur j).t = true) (h4 : binL (E.cur j).t = 0) : Rd E 166 #[.pointer (some ⟨E.gp, 0, none⟩), .int .i64 1] i j k t l := by
  intro w hp
  have hu45 := Tryz.underlying45
  have hu33 := Tryz.underlying33
  have hu24 := Tryz.underlying24
  have hu86 := Tryz.underlying86
  have hu9 := Tryz.underlying9
  have hu3 := Tryz.underlying3
  have hu4 := Tryz.underlying4
  have F := Aside0.mk (Fr.init hp)
  clear hp
  have H1 := Aside0.mk h1
  have H2 := Aside0.mk h2
  have H3 := Aside0.mk h3
  have H4 := Aside0.mk h4
  clear h1 h2 h3 h4
  go_enter Tryz.func166, Tryz.ntmps166
  go_wp2_with (first | ((with_reducible refine gate_dst (N := 4) rfl ?_); refine box_event ?hg (N := 4) ?hd (cs := #[.int .i64 0, .string (⟨#[]⟩ : ByteArray), .slice none 0 0, .bool false, .bool false, .slice none 0 0, .slice none 0 0]) (t := 45) ?hr ?_; (case hd => rfl); (case hg => rfl); (case hr => first | (go_simp; done) | (go_simp; rfl)); intro g4 hg w304 hbox hb; have n0 := Aside0.mk (show Fr E _ _ ((g4, 45, z7) :: _) _ _ _ _ from F.out.box hg hbox hb); clear F hbox hb hg; have F := n0) | ((with_reducible refine gate_dst (N := 21) rfl ?_); refine goesL_ (some 21) rfl rfl Tryz.func202 (by kernel_rfl) rfl #[.pointer (some ⟨E.gp, 0, none⟩)] rfl (by (try simp only [List.map_toArray, List.map_cons, List.map_nil]); first | done | rfl) ?_; (refine (H2.out _ F.out.p).mono ?_); (rintro e w121 ⟨A21, c21, rfl, hc, hf, hp, hk⟩; refine ⟨_, rfl, ?_⟩; have n0 := Aside0.mk (F.out.node hp hk hf); have C21 := Aside0.mk hc; clear F hc hf hp hk; have F := n0)) | ((with_reducible refine gate_dst (N := 5) rfl ?_); refine box_event ?hg (N := 5) ?hd (cs := #[.int .i64 0, .string (⟨#[]⟩ : ByteArray), .slice none 0 0, .bool false, .bool false, .slice none 0 0, .slice none 0 0]) (t := 45) ?hr ?_; (case hd => rfl); (case hg => rfl); (case hr => first | (go_simp; done) | (go_simp; rfl)); intro g5 hg w305 hbox hb; have n0 := Aside0.mk (show Fr E _ _ ((g5, 45, z7) :: _) _ _ _ _ from F.out.box hg hbox hb); clear F hbox hb hg; have F := n0) | ((with_reducible refine gate_ (.store 45 (.tmp 5) (.tmp 22)) rfl ?_); refine F.out.st0 rfl rfl rfl (ndc k t A21 l.length c21) rfl rfl info45 rfl (ndc_one _ _ _ _ _) ?_; intro w605 n1; have n0 := Aside0.mk n1; clear F n1; have F := n0))
  refine wp_loop_rounds 1 ?_
  rw [rounds_succ]
  go_wp2_with (first | ((with_reducible refine gate_dst (N := 27) rfl ?_); refine goesL_ (some 27) rfl rfl Tryz.func174 (by kernel_rfl) rfl #[.pointer (some ⟨E.gp, 0, none⟩)] rfl (by (try simp only [List.map_toArray, List.map_cons, List.map_nil]); first | done | rfl) ?_; (refine (cur_calls F.out.p).mono ?_); (rintro e w127 ⟨rfl, hb⟩; refine ⟨_, rfl, ?_⟩; have n0 := Aside0.mk (F.out.below hb); clear F hb; have F := n0)) | ((with_reducible refine gate_dst (N := 7) rfl ?_); refine box_event ?hg (N := 7) ?hd (cs := #[.int .i64 0, .string (⟨#[]⟩ : ByteArray), .int .i64 0]) (t := 86) ?hr ?_; (case hd => rfl); (case hg => rfl); (case hr => first | (go_simp; done) | (go_simp; rfl)); intro g7 hg w307 hbox hb; have n0 := Aside0.mk (F.out.box hg hbox hb); clear F hbox hb hg; have F := n0) | ((with_reducible refine gate_ (.store 86 (.tmp 7) (.tmp 27)) rfl ?_); refine F.out.st0 rfl rfl rfl (tkc (E.cur j)) rfl rfl infoTk rfl (tkc_one _) ?_; intro w607 n1; have n0 := Aside0.mk n1; clear F n1; have F := n0) | ((with_reducible refine gate_dst (N := 29) rfl ?_); refine ld_cell rfl (N := 29) (v := .string (E.cur j).t) rfl rfl rfl (F.out.at_ (n := 0) rfl) rfl hu9 rfl ?_) | ((with_reducible refine gate_dst (N := 30) rfl ?_); refine goesL_ (some 30) rfl rfl Tryz.func203 (by kernel_rfl) rfl #[.string (E.cur j).t] rfl (by (try simp only [List.map_toArray, List.map_cons, List.map_nil]); first | done | rfl) ?_; (refine (bin_calls H4.out).mono ?_); (rintro e w130 ⟨rfl, hb⟩; refine ⟨_, rfl, ?_⟩; have n0 := Aside0.mk (F.out.below hb); clear F hb; have F := n0)) | ((with_reducible refine gate_dst (N := 33) rfl ?_); refine ld_cell rfl (N := 33) (v := .string (E.cur j).t) rfl rfl rfl (F.out.at_ (n := 0) rfl) rfl hu9 rfl ?_) | ((with_reducible refine gate_dst (N := 34) rfl ?_); refine goesL_ (some 34) rfl rfl Tryz.func168 (by kernel_rfl) rfl #[.pointer (some ⟨E.gp, 0, none⟩), .string (E.cur j).t] rfl (by (try simp only [List.map_toArray, List.map_cons, List.map_nil]); first | done | rfl) ?_; (refine (is_calls F.out.p _ _ H3.out).mono ?_); (rintro e w134 ⟨rfl, hb⟩; refine ⟨_, rfl, ?_⟩; have n0 := Aside0.mk (F.out.below hb); clear F hb; have F := n0)) | ((with_reducible refine gate_dst (N := 62) rfl ?_); refine ld_agg rfl (N := 62) rfl rfl rfl (F.out.at_ (n := 1) rfl) hu45 rfl info45 ?_) | ((with_reducible refine gate_ (.store 45 (.tmp 4) (.tmp 62)) rfl ?_); refine F.out.st2 rfl rfl rfl (ndc k t A21 l.length c21) rfl rfl info45 rfl (ndc_one _ _ _ _ _) ?_; intro w604 n1; have n0 := Aside0.mk n1; clear F n1; have F := n0))
  refine bodyPost_ret (results_single rfl (.cell g4 45 (ndc k t A21 l.length c21) (0, 0) _ rfl (F.out.at_ (n := 2) rfl) hu45 rfl info45 .nil)) rfl ?_
  exact ⟨A21, c21, rfl, C21.out, F.out.row (n := 0) rfl, F.out.p, F.out.keep⟩
set_option maxHeartbeats 4000000 in
set_option maxRecDepth 100000 in
theorem expr_stop3s (h1 : True) (h2 : Rd2 E 202 #[.pointer (some ⟨E.gp, 0, none⟩)] i j k t l (.int .i64 11)) (h3 : isT (E.cur j) (E.cur j).t = true) (h4 : binL (E.cur j).t = 0) : Rd E 166 #[.pointer (some ⟨E.gp, 0, none⟩), .int .i64 3] i j k t l := by
  intro w hp
  have hu45 := Tryz.underlying45
  have hu33 := Tryz.underlying33
  have hu24 := Tryz.underlying24
  have hu86 := Tryz.underlying86
  have hu9 := Tryz.underlying9
  have hu3 := Tryz.underlying3
  have hu4 := Tryz.underlying4
  have F := Aside0.mk (Fr.init hp)
  clear hp
  have H1 := Aside0.mk h1
  have H2 := Aside0.mk h2
  have H3 := Aside0.mk h3
  have H4 := Aside0.mk h4
  clear h1 h2 h3 h4
  go_enter Tryz.func166, Tryz.ntmps166
  go_wp2_with (first | ((with_reducible refine gate_dst (N := 4) rfl ?_); refine box_event ?hg (N := 4) ?hd (cs := #[.int .i64 0, .string (⟨#[]⟩ : ByteArray), .slice none 0 0, .bool false, .bool false, .slice none 0 0, .slice none 0 0]) (t := 45) ?hr ?_; (case hd => rfl); (case hg => rfl); (case hr => first | (go_simp; done) | (go_simp; rfl)); intro g4 hg w304 hbox hb; have n0 := Aside0.mk (show Fr E _ _ ((g4, 45, z7) :: _) _ _ _ _ from F.out.box hg hbox hb); clear F hbox hb hg; have F := n0) | ((with_reducible refine gate_dst (N := 21) rfl ?_); refine goesL_ (some 21) rfl rfl Tryz.func202 (by kernel_rfl) rfl #[.pointer (some ⟨E.gp, 0, none⟩)] rfl (by (try simp only [List.map_toArray, List.map_cons, List.map_nil]); first | done | rfl) ?_; (refine (H2.out _ F.out.p).mono ?_); (rintro e w121 ⟨A21, c21, rfl, hc, hf, hp, hk⟩; refine ⟨_, rfl, ?_⟩; have n0 := Aside0.mk (F.out.node hp hk hf); have C21 := Aside0.mk hc; clear F hc hf hp hk; have F := n0)) | ((with_reducible refine gate_dst (N := 5) rfl ?_); refine box_event ?hg (N := 5) ?hd (cs := #[.int .i64 0, .string (⟨#[]⟩ : ByteArray), .slice none 0 0, .bool false, .bool false, .slice none 0 0, .slice none 0 0]) (t := 45) ?hr ?_; (case hd => rfl); (case hg => rfl); (case hr => first | (go_simp; done) | (go_simp; rfl)); intro g5 hg w305 hbox hb; have n0 := Aside0.mk (show Fr E _ _ ((g5, 45, z7) :: _) _ _ _ _ from F.out.box hg hbox hb); clear F hbox hb hg; have F := n0) | ((with_reducible refine gate_ (.store 45 (.tmp 5) (.tmp 22)) rfl ?_); refine F.out.st0 rfl rfl rfl (ndc k t A21 l.length c21) rfl rfl info45 rfl (ndc_one _ _ _ _ _) ?_; intro w605 n1; have n0 := Aside0.mk n1; clear F n1; have F := n0))
  refine wp_loop_rounds 1 ?_
  rw [rounds_succ]
  go_wp2_with (first | ((with_reducible refine gate_dst (N := 27) rfl ?_); refine goesL_ (some 27) rfl rfl Tryz.func174 (by kernel_rfl) rfl #[.pointer (some ⟨E.gp, 0, none⟩)] rfl (by (try simp only [List.map_toArray, List.map_cons, List.map_nil]); first | done | rfl) ?_; (refine (cur_calls F.out.p).mono ?_); (rintro e w127 ⟨rfl, hb⟩; refine ⟨_, rfl, ?_⟩; have n0 := Aside0.mk (F.out.below hb); clear F hb; have F := n0)) | ((with_reducible refine gate_dst (N := 7) rfl ?_); refine box_event ?hg (N := 7) ?hd (cs := #[.int .i64 0, .string (⟨#[]⟩ : ByteArray), .int .i64 0]) (t := 86) ?hr ?_; (case hd => rfl); (case hg => rfl); (case hr => first | (go_simp; done) | (go_simp; rfl)); intro g7 hg w307 hbox hb; have n0 := Aside0.mk (F.out.box hg hbox hb); clear F hbox hb hg; have F := n0) | ((with_reducible refine gate_ (.store 86 (.tmp 7) (.tmp 27)) rfl ?_); refine F.out.st0 rfl rfl rfl (tkc (E.cur j)) rfl rfl infoTk rfl (tkc_one _) ?_; intro w607 n1; have n0 := Aside0.mk n1; clear F n1; have F := n0) | ((with_reducible refine gate_dst (N := 29) rfl ?_); refine ld_cell rfl (N := 29) (v := .string (E.cur j).t) rfl rfl rfl (F.out.at_ (n := 0) rfl) rfl hu9 rfl ?_) | ((with_reducible refine gate_dst (N := 30) rfl ?_); refine goesL_ (some 30) rfl rfl Tryz.func203 (by kernel_rfl) rfl #[.string (E.cur j).t] rfl (by (try simp only [List.map_toArray, List.map_cons, List.map_nil]); first | done | rfl) ?_; (refine (bin_calls H4.out).mono ?_); (rintro e w130 ⟨rfl, hb⟩; refine ⟨_, rfl, ?_⟩; have n0 := Aside0.mk (F.out.below hb); clear F hb; have F := n0)) | ((with_reducible refine gate_dst (N := 33) rfl ?_); refine ld_cell rfl (N := 33) (v := .string (E.cur j).t) rfl rfl rfl (F.out.at_ (n := 0) rfl) rfl hu9 rfl ?_) | ((with_reducible refine gate_dst (N := 34) rfl ?_); refine goesL_ (some 34) rfl rfl Tryz.func168 (by kernel_rfl) rfl #[.pointer (some ⟨E.gp, 0, none⟩), .string (E.cur j).t] rfl (by (try simp only [List.map_toArray, List.map_cons, List.map_nil]); first | done | rfl) ?_; (refine (is_calls F.out.p _ _ H3.out).mono ?_); (rintro e w134 ⟨rfl, hb⟩; refine ⟨_, rfl, ?_⟩; have n0 := Aside0.mk (F.out.below hb); clear F hb; have F := n0)) | ((with_reducible refine gate_dst (N := 62) rfl ?_); refine ld_agg rfl (N := 62) rfl rfl rfl (F.out.at_ (n := 1) rfl) hu45 rfl info45 ?_) | ((with_reducible refine gate_ (.store 45 (.tmp 4) (.tmp 62)) rfl ?_); refine F.out.st2 rfl rfl rfl (ndc k t A21 l.length c21) rfl rfl info45 rfl (ndc_one _ _ _ _ _) ?_; intro w604 n1; have n0 := Aside0.mk n1; clear F n1; have F := n0))
  refine bodyPost_ret (results_single rfl (.cell g4 45 (ndc k t A21 l.length c21) (0, 0) _ rfl (F.out.at_ (n := 2) rfl) hu45 rfl info45 .nil)) rfl ?_
  exact ⟨A21, c21, rfl, C21.out, F.out.row (n := 0) rfl, F.out.p, F.out.keep⟩
set_option maxHeartbeats 4000000 in
set_option maxRecDepth 100000 in
theorem expr_op1n (h2 : Rd2 E 202 #[.pointer (some ⟨E.gp, 0, none⟩)] i j k t l (.int .i64 11)) (h3 : isT (E.cur j) (E.cur j).t = true) (h4 : binL (E.cur j).t = 1) (h5 : leftV (E.cur j).t = 2) (h6 : rightV (E.cur j).t = 1) (h7 : Rd E 166 #[.pointer (some ⟨E.gp, 0, none⟩), .int .i64 1] (j + 1) j' k2 t2 l2) (h8 : isT (E.cur j') (E.cur j').t = false) (h9 : binL (E.cur j').t = 0) : Rd E 166 #[.pointer (some ⟨E.gp, 0, none⟩), .int .i64 1] i j' 14 (E.cur j).t [nd k t l, nd k2 t2 l2] := by
  intro w hp
  have h1 := True.intro
  have HJ := Aside0.mk (isT_lt h3)
  have hu45 := Tryz.underlying45
  have hu33 := Tryz.underlying33
  have hu24 := Tryz.underlying24
  have hu86 := Tryz.underlying86
  have hu9 := Tryz.underlying9
  have hu3 := Tryz.underlying3
  have hu4 := Tryz.underlying4
  have F := Aside0.mk (Fr.init hp)
  clear hp
  have H1 := Aside0.mk h1
  have H2 := Aside0.mk h2
  have H3 := Aside0.mk h3
  have H4 := Aside0.mk h4
  have H5 := Aside0.mk h5
  have H6 := Aside0.mk h6
  have H7 := Aside0.mk h7
  have H8 := Aside0.mk h8
  have H9 := Aside0.mk h9
  clear h1 h2 h3 h4 h5 h6 h7 h8 h9
  go_enter Tryz.func166, Tryz.ntmps166
  go_wp2_with (first | ((with_reducible refine gate_dst (N := 4) rfl ?_); refine box_event ?hg (N := 4) ?hd (cs := #[.int .i64 0, .string (⟨#[]⟩ : ByteArray), .slice none 0 0, .bool false, .bool false, .slice none 0 0, .slice none 0 0]) (t := 45) ?hr ?_; (case hd => rfl); (case hg => rfl); (case hr => first | (go_simp; done) | (go_simp; rfl)); intro g4 hg w304 hbox hb; have n0 := Aside0.mk (show Fr E _ _ ((g4, 45, z7) :: _) _ _ _ _ from F.out.box hg hbox hb); clear F hbox hb hg; have F := n0) | ((with_reducible refine gate_dst (N := 21) rfl ?_); refine goesL_ (some 21) rfl rfl Tryz.func202 (by kernel_rfl) rfl #[.pointer (some ⟨E.gp, 0, none⟩)] rfl (by (try simp only [List.map_toArray, List.map_cons, List.map_nil]); first | done | rfl) ?_; (refine (H2.out _ F.out.p).mono ?_); (rintro e w121 ⟨A21, c21, rfl, hc, hf, hp, hk⟩; refine ⟨_, rfl, ?_⟩; have n0 := Aside0.mk (F.out.node hp hk hf); have C21 := Aside0.mk hc; clear F hc hf hp hk; have F := n0)) | ((with_reducible refine gate_dst (N := 5) rfl ?_); refine box_event ?hg (N := 5) ?hd (cs := #[.int .i64 0, .string (⟨#[]⟩ : ByteArray), .slice none 0 0, .bool false, .bool false, .slice none 0 0, .slice none 0 0]) (t := 45) ?hr ?_; (case hd => rfl); (case hg => rfl); (case hr => first | (go_simp; done) | (go_simp; rfl)); intro g5 hg w305 hbox hb; have n0 := Aside0.mk (show Fr E _ _ ((g5, 45, z7) :: _) _ _ _ _ from F.out.box hg hbox hb); clear F hbox hb hg; have F := n0) | ((with_reducible refine gate_ (.store 45 (.tmp 5) (.tmp 22)) rfl ?_); refine F.out.st0 rfl rfl rfl (ndc k t A21 l.length c21) rfl rfl info45 rfl (ndc_one _ _ _ _ _) ?_; intro w605 n1; have n0 := Aside0.mk n1; clear F n1; have F := n0))
  refine wp_loop_rounds 2 ?_
  rw [rounds_succ]
  go_wp2_with (first | ((with_reducible refine gate_dst (N := 27) rfl ?_); refine goesL_ (some 27) rfl rfl Tryz.func174 (by kernel_rfl) rfl #[.pointer (some ⟨E.gp, 0, none⟩)] rfl (by (try simp only [List.map_toArray, List.map_cons, List.map_nil]); first | done | rfl) ?_; (refine (cur_calls F.out.p).mono ?_); (rintro e w127 ⟨rfl, hb⟩; refine ⟨_, rfl, ?_⟩; have n0 := Aside0.mk (F.out.below hb); clear F hb; have F := n0)) | ((with_reducible refine gate_dst (N := 7) rfl ?_); refine box_event ?hg (N := 7) ?hd (cs := #[.int .i64 0, .string (⟨#[]⟩ : ByteArray), .int .i64 0]) (t := 86) ?hr ?_; (case hd => rfl); (case hg => rfl); (case hr => first | (go_simp; done) | (go_simp; rfl)); intro g7 hg w307 hbox hb; have n0 := Aside0.mk (F.out.box hg hbox hb); clear F hbox hb hg; have F := n0) | ((with_reducible refine gate_ (.store 86 (.tmp 7) (.tmp 27)) rfl ?_); refine F.out.st0 rfl rfl rfl (tkc (E.cur j)) rfl rfl infoTk rfl (tkc_one _) ?_; intro w607 n1; have n0 := Aside0.mk n1; clear F n1; have F := n0) | ((with_reducible refine gate_dst (N := 29) rfl ?_); refine ld_cell rfl (N := 29) (v := .string (E.cur j).t) rfl rfl rfl (F.out.at_ (n := 0) rfl) rfl hu9 rfl ?_) | ((with_reducible refine gate_dst (N := 30) rfl ?_); refine goesL_ (some 30) rfl rfl Tryz.func203 (by kernel_rfl) rfl #[.string (E.cur j).t] rfl (by (try simp only [List.map_toArray, List.map_cons, List.map_nil]); first | done | rfl) ?_; (refine (bin_calls H4.out).mono ?_); (rintro e w130 ⟨rfl, hb⟩; refine ⟨_, rfl, ?_⟩; have n0 := Aside0.mk (F.out.below hb); clear F hb; have F := n0)) | ((with_reducible refine gate_dst (N := 33) rfl ?_); refine ld_cell rfl (N := 33) (v := .string (E.cur j).t) rfl rfl rfl (F.out.at_ (n := 0) rfl) rfl hu9 rfl ?_) | ((with_reducible refine gate_dst (N := 34) rfl ?_); refine goesL_ (some 34) rfl rfl Tryz.func168 (by kernel_rfl) rfl #[.pointer (some ⟨E.gp, 0, none⟩), .string (E.cur j).t] rfl (by (try simp only [List.map_toArray, List.map_cons, List.map_nil]); first | done | rfl) ?_; (refine (is_calls F.out.p _ _ H3.out).mono ?_); (rintro e w134 ⟨rfl, hb⟩; refine ⟨_, rfl, ?_⟩; have n0 := Aside0.mk (F.out.below hb); clear F hb; have F := n0)) | ((with_reducible refine gate_dst (N := 45) rfl ?_); (refine gate_guard (by rfl) ?_; dsimp only); refine ld_cell rfl (N := 45) (v := .string (E.cur j).t) rfl rfl rfl (F.out.at_ (n := 0) rfl) rfl hu9 rfl ?_) | ((with_reducible refine gate_dst (N := 46) rfl ?_); (refine gate_guard (by rfl) ?_; dsimp only); refine goesL_ (some 46) rfl rfl Tryz.func204 (by kernel_rfl) rfl #[.string (E.cur j).t] rfl (by (try simp only [List.map_toArray, List.map_cons, List.map_nil]); first | done | rfl) ?_; (refine (lef_calls H5.out).mono ?_); (rintro e w146 ⟨rfl, hb⟩; refine ⟨_, rfl, ?_⟩; have n0 := Aside0.mk (F.out.below hb); clear F hb; have F := n0)) | ((with_reducible refine gate_dst (N := 50) rfl ?_); refine goesL_ (some 50) rfl rfl Tryz.func177 (by kernel_rfl) rfl #[.pointer (some ⟨E.gp, 0, none⟩)] rfl (by (try simp only [List.map_toArray, List.map_cons, List.map_nil]); first | done | rfl) ?_; (refine (next_calls F.out.p HJ.out).mono ?_); (rintro e w150 ⟨rfl, hp, hk⟩; refine ⟨_, rfl, ?_⟩; have n0 := Aside0.mk (F.out.move hp hk); clear F hp hk; have F := n0)))
  refine start_ (n := 13) (S := Bx [(g7, 86, (tkc (E.cur j))), (g5, 45, (ndc k t A21 l.length c21)), (g4, 45, z7)]) (ds := [11]) (bt 13 0) (by kernel_rfl) rfl (by kernel_rfl) F.out.drew.bxs (fun hHeld => ?_)
  have n0 := Aside0.mk F.out.drew
  clear F
  have F := n0
  generalize World.drew _ = w500 at F hHeld ⊢
  refine pure_ (i := 0) (N := some 51) (bt 13 1) rfl rfl (any_of F166tab9 (by kernel_rfl)) (fun _ _ _ h => h) (Or.inl ⟨by rfl, by intro w'; go_simp; with_reducible rfl⟩) (by simp only [Act.put, pset]; rfl) ?_
  refine take_ (i := 1) (N := some 52) (bt 13 3) rfl rfl (take_of F166tab9 (by kernel_rfl)) (fun _ _ _ h => h) (Or.inl ⟨by rfl, fun w' s => run_ldc (v := .string (E.cur j).t) rfl rfl (Bx.at_ s (n := 0) rfl) rfl hu9 rfl⟩) hHeld (by simp only [Act.put, pset]; rfl) ?_
  refine take_ (i := 2) (N := some 53) (bt 13 7) rfl rfl (take_of F166tab9 (by kernel_rfl)) (fun _ _ _ h => h) (Or.inl ⟨by rfl, fun w' s => run_lda rfl rfl (Bx.at_ s (n := 1) rfl) hu45 rfl info45⟩) hHeld (by simp only [Act.put, pset]; rfl) ?_
  refine pure_ (i := 3) (N := some 54) (bt 13 15) rfl rfl (any_of F166tab9 (by kernel_rfl)) (fun _ _ _ h => h) (Or.inl ⟨by rfl, by intro w'; go_simp; with_reducible rfl⟩) (by simp only [Act.put, pset]; rfl) ?_
  refine pure_ (i := 4) (N := some 55) (bt 13 31) rfl rfl (any_of F166tab9 (by kernel_rfl)) (fun _ _ _ h => h) (Or.inl ⟨by rfl, by intro w'; go_simp; with_reducible rfl⟩) (by simp only [Act.put, pset]; rfl) ?_
  refine take_ (i := 5) (N := some 56) (bt 13 63) rfl rfl (take_of F166tab9 (by kernel_rfl)) (fun _ _ _ h => h) (Or.inl ⟨by rfl, fun w' s => run_ldc (v := .string (E.cur j).t) rfl rfl (Bx.at_ s (n := 0) rfl) rfl hu9 rfl⟩) hHeld (by simp only [Act.put, pset]; rfl) ?_
  refine pure_ (i := 10) (N := some 61) (bt 13 1087) rfl rfl (any_of F166tab9 (by kernel_rfl)) (fun _ _ _ h => h) (Or.inl ⟨by rfl, by intro w'; go_simp; with_reducible rfl⟩) (by simp only [Act.put, pset]; rfl) ?_
  refine one_ (i := 6) (N := some 57) (bt 13 1151) rfl rfl (one_of F166tab9 (by kernel_rfl)) (by decide) (fun K hK => ?_)
  refine goes_ Tryz.func205 (by kernel_rfl) rfl #[.string (E.cur j).t] (by rfl) rfl rfl (by (try simp only [List.map_toArray, List.map_cons, List.map_nil]); first | done | rfl) ?_
  refine (rig_calls H6.out).mono ?_
  rintro e w501 ⟨rfl, hb⟩
  refine ⟨_, rfl, ?_⟩
  have n0 := Aside0.mk (F.out.below hb); clear F hb; have F := n0
  refine hK.out _ _ F.out.bxs (fun hHeld => ?_)
  clear hK K
  refine norm_ (show Act.put _ (some 57) _ = _ from (by simp only [Act.put, pset]; rfl)) ?_
  refine one_ (i := 7) (N := some 58) (bt 13 1279) rfl rfl (one_of F166tab9 (by kernel_rfl)) (by decide) (fun K hK => ?_)
  refine goes_ Tryz.func166 (by kernel_rfl) rfl #[.pointer (some ⟨E.gp, 0, none⟩), .int .i64 1] (by rfl) rfl rfl (by (try simp only [List.map_toArray, List.map_cons, List.map_nil]); first | done | rfl) ?_
  refine (H7.out _ F.out.p).mono ?_
  rintro e w502 ⟨A58, c58, rfl, hc, hf, hp, hk⟩
  refine ⟨_, rfl, ?_⟩
  have n0 := Aside0.mk (F.out.node hp hk hf); have C58 := Aside0.mk hc; clear F hc hf hp hk; have F := n0
  refine hK.out _ _ F.out.bxs (fun hHeld => ?_)
  clear hK K
  refine norm_ (show Act.put _ (some 58) _ = _ from (by simp only [Act.put, pset]; rfl)) ?_
  refine one_ (i := 8) (N := some 59) (bt 13 1535) rfl rfl (one_of F166tab9 (by kernel_rfl)) (by decide) (fun K hK => ?_)
  refine lit_step (m := 2) (cs := #[.int .i64 k, .string t, .slice A21 l.length c21, .bool false, .bool false, .slice none 0 0, .slice none 0 0, .int .i64 k2, .string t2, .slice A58 l2.length c58, .bool false, .bool false, .slice none 0 0, .slice none 0 0]) (t := 45) (by rfl) ?hrun ?_
  case hrun => simp only [ndc]; first | (go_simp; done) | (go_simp; rfl)
  intro g59 hg w503 hbox hb
  have n0 := Aside0.mk (F.out.lit2 (l := l) (l2 := l2) 1 0 rfl rfl C21.out C58.out hg hbox hb); clear F hbox hb hg; have F := n0
  refine hK.out _ _ F.out.bxs (fun hHeld => ?_)
  clear hK K
  refine norm_ (show Act.put _ (some 59) _ = _ from (by simp only [Act.put, pset]; rfl)) ?_
  refine pure_ (i := 9) (N := some 60) (bt 13 2047) rfl rfl (any_of F166tab9 (by kernel_rfl)) (fun _ _ _ h => h) (Or.inl ⟨by rfl, by intro w'; go_simp; with_reducible rfl⟩) (by simp only [Act.put, pset]; rfl) ?_
  refine last_ (i := 11) (N := none) (bt 13 4095) rfl rfl (one_of F166tab9 (by kernel_rfl)) (by decide) (fun K hK => ?_)
  refine st_agg_step (by rfl) rfl (T := 45) (p := 5) (x := (.tmp 60)) rfl (cs' := (ndc 14 (E.cur j).t (some ⟨g59, 0, none⟩) 2 2)) rfl rfl (F.out.at_ (n := 1) rfl) info45 rfl (ndc_one _ _ _ _ _) ?_
  intro w504 q1 q2 q3
  have n0 : Aside0 (Fr E _ _ [(g7, 86, (tkc (E.cur j))), (g5, 45, (ndc 14 (E.cur j).t (some ⟨g59, 0, none⟩) 2 2)), (g4, 45, z7)] _ _ _ _) := ⟨F.out.put (n := 1) rfl q1 q2 q3⟩
  clear F q1 q2 q3; have F := n0
  refine hK.out _ _ ?_
  clear hK K
  refine norm_ (show Act.put _ none _ = _ from (by simp only [Act.put, pset]; rfl)) ?_
  refine pure_ (i := 12) (N := some 6) (bt 13 8191) rfl rfl (any_of F166tab9 (by kernel_rfl)) (fun _ _ _ h => h) (Or.inl ⟨by rfl, by intro w'; go_simp; with_reducible rfl⟩) (by simp only [Act.put, pset]; rfl) ?_
  refine done_ (done_of F166tab9 (by kernel_rfl)) ?_
  clear hHeld
  go_wp2_with fail
  rw [rounds_succ]
  have n0 := Aside0.mk F.out.drop0
  clear F
  have F := n0
  go_wp2_with (first | ((with_reducible refine gate_dst (N := 27) rfl ?_); refine goesL_ (some 27) rfl rfl Tryz.func174 (by kernel_rfl) rfl #[.pointer (some ⟨E.gp, 0, none⟩)] rfl (by (try simp only [List.map_toArray, List.map_cons, List.map_nil]); first | done | rfl) ?_; (refine (cur_calls F.out.p).mono ?_); (rintro e w127 ⟨rfl, hb⟩; refine ⟨_, rfl, ?_⟩; have n0 := Aside0.mk (F.out.below hb); clear F hb; have F := n0)) | ((with_reducible refine gate_dst (N := 7) rfl ?_); refine box_event ?hg (N := 7) ?hd (cs := #[.int .i64 0, .string (⟨#[]⟩ : ByteArray), .int .i64 0]) (t := 86) ?hr ?_; (case hd => rfl); (case hg => rfl); (case hr => first | (go_simp; done) | (go_simp; rfl)); intro g7 hg w307 hbox hb; have n0 := Aside0.mk (F.out.box hg hbox hb); clear F hbox hb hg; have F := n0) | ((with_reducible refine gate_ (.store 86 (.tmp 7) (.tmp 27)) rfl ?_); refine F.out.st0 rfl rfl rfl (tkc (E.cur j')) rfl rfl infoTk rfl (tkc_one _) ?_; intro w607 n1; have n0 := Aside0.mk n1; clear F n1; have F := n0) | ((with_reducible refine gate_dst (N := 29) rfl ?_); refine ld_cell rfl (N := 29) (v := .string (E.cur j').t) rfl rfl rfl (F.out.at_ (n := 0) rfl) rfl hu9 rfl ?_) | ((with_reducible refine gate_dst (N := 30) rfl ?_); refine goesL_ (some 30) rfl rfl Tryz.func203 (by kernel_rfl) rfl #[.string (E.cur j').t] rfl (by (try simp only [List.map_toArray, List.map_cons, List.map_nil]); first | done | rfl) ?_; (refine (bin_calls H9.out).mono ?_); (rintro e w130 ⟨rfl, hb⟩; refine ⟨_, rfl, ?_⟩; have n0 := Aside0.mk (F.out.below hb); clear F hb; have F := n0)) | ((with_reducible refine gate_dst (N := 33) rfl ?_); refine ld_cell rfl (N := 33) (v := .string (E.cur j').t) rfl rfl rfl (F.out.at_ (n := 0) rfl) rfl hu9 rfl ?_) | ((with_reducible refine gate_dst (N := 34) rfl ?_); refine goesL_ (some 34) rfl rfl Tryz.func168 (by kernel_rfl) rfl #[.pointer (some ⟨E.gp, 0, none⟩), .string (E.cur j').t] rfl (by (try simp only [List.map_toArray, List.map_cons, List.map_nil]); first | done | rfl) ?_; (refine (is_calls F.out.p _ _ H8.out).mono ?_); (rintro e w134 ⟨rfl, hb⟩; refine ⟨_, rfl, ?_⟩; have n0 := Aside0.mk (F.out.below hb); clear F hb; have F := n0)) | ((with_reducible refine gate_dst (N := 62) rfl ?_); refine ld_agg rfl (N := 62) rfl rfl rfl (F.out.at_ (n := 1) rfl) hu45 rfl info45 ?_) | ((with_reducible refine gate_ (.store 45 (.tmp 4) (.tmp 62)) rfl ?_); refine F.out.st2 rfl rfl rfl (ndc 14 (E.cur j).t (some ⟨g59, 0, none⟩) 2 2) rfl rfl info45 rfl (ndc_one _ _ _ _ _) ?_; intro w604 n1; have n0 := Aside0.mk n1; clear F n1; have F := n0))
  refine bodyPost_ret (results_single rfl (.cell g4 45 (ndc 14 (E.cur j).t (some ⟨g59, 0, none⟩) 2 2) (0, 0) _ rfl (F.out.at_ (n := 2) rfl) hu45 rfl info45 .nil)) rfl ?_
  exact ⟨some ⟨g59, 0, none⟩, 2, rfl, Nat.le_refl _, F.out.row (n := 0) rfl, F.out.p, F.out.keep⟩
end
end Go.Proofs.YthipodffpkglfaaGreatDoor.PS
namespace Go.Proofs.YthipodffpkglfaaGreatDoor.PS
open Go.RowKit Go.Proofs.YthipodffpkglfaaGreatDoorW.PrintWords Go.Proofs.YthipodffpkglfaaGreatDoorW.PrintLast Go.Proofs.YthipodffpkglfaaGreatDoorW.PrintMore
set_option linter.unusedVariables false
set_option linter.unusedSimpArgs false
theorem F207tab2 : rtab .any (opsOf Tryz.f207 2) = (true, [([], []), ([0], [0]), ([1], [1]), ([2], [2]), ([3], [3]), ([4], [4]), ([5, 4], [4, 5]), ([6, 4], [4, 6]), ([7, 4], [4, 7]), ([4], [4]), ([9, 4], [4, 9]), ([10, 4], [4, 10]), ([11, 4], [4, 11]), ([4], [4]), ([13, 4], [4, 13]), ([14, 4], [4, 14]), ([15, 4], [4, 15]), ([8, 12, 16, 4, 4], [4, 8, 12, 16]), ([4, 17], [4, 17]), ([18, 17, 0, 1, 2, 3, 4, 5, 6, 7, 8, 9, 10, 11, 12, 13, 14, 15, 16, 17, 18], [18])]) := by kernel_rfl
theorem F172tab3 : rtab .any (opsOf Tryz.f172 3) = (true, [([], []), ([], []), ([], []), ([2], [2]), ([0, 1, 3], [0, 1, 3]), ([0, 1, 2, 3, 4], []), ([5, 4, 3, 0, 1, 2, 3, 4], [4, 5])]) := by kernel_rfl
theorem F234tab2 : rtab .any (opsOf Tryz.f234 2) = (true, [([], []), ([], []), ([], []), ([2], [2]), ([0, 1, 3, 3], [0, 1, 3]), ([4, 4, 0, 1, 2, 3, 4], [4])]) := by kernel_rfl
theorem F138tab2 : rtab .any (opsOf Tryz.f138 2) = (true, [([], []), ([], []), ([], []), ([], []), ([3], [3]), ([0, 1, 2, 4, 4], [0, 1, 2, 4]), ([5, 5, 0, 1, 2, 3, 4, 5], [5])]) := by kernel_rfl
section
variable {E : Env} {lo : Nat} {w0 w w' : World} {bs : List (Nat × Nat × Array Value)} {ns : List (Option Addr × List S45)} {i : Nat}
theorem Fr.nilRow (F : Fr E lo w0 bs ns [] w i) : Fr E lo w0 bs ns [(.slice none 0 0, [])] w i :=
  ⟨F.p, F.gl, F.ll, F.sz, F.kb, F.bx, F.ne, fun r m => Kd.F_mono (F.nf r m) (fun k hk => ⟨hk.1, hk.2.1, fun o m => by rw [List.mem_singleton.1 m]; simp [Value.ownBlock]⟩), fun o m => by rw [List.mem_singleton.1 m]; exact Kd.N_nil k45 45 _ _ _⟩
theorem Fr.dropO {os : List (Value × List S45)} (F : Fr E lo w0 bs ns os w i) : Fr E lo w0 bs ns [] w i :=
  ⟨F.p, F.gl, F.ll, F.sz, F.kb, F.bx, F.ne, fun r m => Kd.F_mono (F.nf r m) (fun k hk => ⟨hk.1, hk.2.1, fun _ m => (by cases m)⟩), fun _ m => (by cases m)⟩
/-- The row of one's own becomes a row that is held. -/
theorem Fr.ownRow {A : Option Addr} {c : Nat} {xs : List S45} (F : Fr E lo w0 bs ns [(.slice A xs.length c, xs)] w i) : Fr E lo w0 bs ((A, xs) :: ns) [] w i :=
  have G := F.dropO
  ⟨G.p, G.gl, G.ll, G.sz, G.kb, G.bx, G.ne, fun r m => by
    rcases List.mem_cons.1 m with rfl | m
    · exact Kd.F_mono (Kd.N_F (F.rowN (n := 0) rfl)) (fun k hk => ⟨hk.1, hk.2, fun _ m => (by cases m)⟩)
    · exact G.nf r m, G.own⟩
theorem Fr.sel {ns' : List (Option Addr × List S45)} {os : List (Value × List S45)} (F : Fr E lo w0 bs ns os w i) (h : ∀ r ∈ ns', r ∈ ns) : Fr E lo w0 bs ns' os w i :=
  ⟨F.p, F.gl, F.ll, F.sz, F.kb, F.bx, F.ne, fun r m => F.nf r (h r m), F.own⟩
end
/-- A call goes on with its caller's frame, and hands back a node. -/
def FrP (E : Env) (lo : Nat) (w0 : World) (bs : List (Nat × Nat × Array Value)) (ns : List (Option Addr × List S45)) (j : Nat) (k : Int) (t : ByteArray) (l : List S45) (e : Ending) (w' : World) : Prop := ∃ A c, e = .returned (.agg (ndc k t A l.length c)) ∧ l.length ≤ c ∧ Fr E lo w0 bs ((A, l) :: ns) [] w' j
/-- A clause is read whose arguments and guard are there. -/
def RdC (E : Env) (i j : Nat) (kb : Int) (tb : ByteArray) (lb : List S45) : Prop := ∀ (lo : Nat) (w0 : World) (bs : List (Nat × Nat × Array Value)) (ns : List (Option Addr × List S45)) (w : World) (t : ByteArray) (m1 : Nat) (ka : Int) (ta : ByteArray) (A1 : Option Addr) (la : List S45) (c1 : Nat) (m2 : Nat) (kg : Int) (tg : ByteArray) (A2 : Option Addr) (lg : List S45) (c2 : Nat), Fr E lo w0 bs ns [] w i → ns[m1]? = some (A1, la) → la.length ≤ c1 → ns[m2]? = some (A2, lg) → lg.length ≤ c2 → Calls Tryz.prog 172 #[.pointer (some ⟨E.gp, 0, none⟩), .string t, .agg (ndc ka ta A1 la.length c1), .agg (ndc kg tg A2 lg.length c2)] w (FrP E lo w0 bs ns j 22 t [nd ka ta la, nd kg tg lg, nd kb tb lb])
section
variable {E : Env} {i j j' j2 : Nat} {k k2 kb : Int} {t t2 tb : ByteArray} {l l2 ys lb : List S45}
set_option maxHeartbeats 4000000 in
set_option maxRecDepth 100000 in
theorem body_rd (h1 : Rd E 166 #[.pointer (some ⟨E.gp, 0, none⟩), .int .i64 0] i j k t l) (h2 : isT (E.cur j) (⟨#[44]⟩ : ByteArray) = false) : Rd E 207 #[.pointer (some ⟨E.gp, 0, none⟩)] i j 25 (⟨#[]⟩ : ByteArray) [nd k t l] := by
  intro w hp
  have hu45 := Tryz.underlying45
  have hu33 := Tryz.underlying33
  have hu24 := Tryz.underlying24
  have hu86 := Tryz.underlying86
  have hu9 := Tryz.underlying9
  have hu3 := Tryz.underlying3
  have hu4 := Tryz.underlying4
  have F := Aside0.mk (Fr.init hp)
  clear hp
  have H1 := Aside0.mk h1
  have H2 := Aside0.mk h2
  clear h1 h2
  go_enter Tryz.func207, Tryz.ntmps207
  go_wp2_with (first | ((with_reducible refine gate_dst (N := 2) rfl ?_); refine box_event ?hg (N := 2) ?hd (cs := #[.int .i64 0, .string (⟨#[]⟩ : ByteArray), .slice none 0 0, .bool false, .bool false, .slice none 0 0, .slice none 0 0]) (t := 45) ?hr ?_; (case hd => rfl); (case hg => rfl); (case hr => first | (go_simp; done) | (go_simp; rfl)); intro g2 hg w302 hbox hb; have n0 := Aside0.mk (show Fr E _ _ ((g2, 45, z7) :: _) _ _ _ _ from F.out.box hg hbox hb); clear F hbox hb hg; have F := n0))
  refine wp_scope_straight ?_
  go_wp2_with (first | ((with_reducible refine gate_dst (N := 3) rfl ?_); refine box_event ?hg (N := 3) ?hd (cs := #[.int .i64 0, .string (⟨#[]⟩ : ByteArray), .slice none 0 0, .bool false, .bool false, .slice none 0 0, .slice none 0 0]) (t := 45) ?hr ?_; (case hd => rfl); (case hg => rfl); (case hr => first | (go_simp; done) | (go_simp; rfl)); intro g3 hg w303 hbox hb; have n0 := Aside0.mk (show Fr E _ _ ((g3, 45, z7) :: _) _ _ _ _ from F.out.box hg hbox hb); clear F hbox hb hg; have F := n0) | ((with_reducible refine gate_ (.store 45 (.tmp 3) (.tmp 7)) rfl ?_); refine F.out.st0 rfl rfl rfl (ndc 25 (⟨#[]⟩ : ByteArray) none 0 0) rfl rfl info45 rfl (ndc_one _ _ _ _ _) ?_; intro w603 n1; have n0 := Aside0.mk n1; clear F n1; have F := n0))
  refine wp_label ?_
  go_wp2_with fail
  refine start_ (n := 20) (S := Bx [(g3, 45, (ndc 25 (⟨#[]⟩ : ByteArray) none 0 0)), (g2, 45, z7)]) (ds := []) (bt 20 0) (by kernel_rfl) rfl (by kernel_rfl) F.out.drew.bxs (fun hHeld => ?_)
  have n0 := Aside0.mk F.out.drew
  clear F
  have F := n0
  generalize World.drew _ = w500 at F hHeld ⊢
  refine pure_ (i := 0) (N := some 8) (bt 20 1) rfl rfl (any_of F207tab2 (by kernel_rfl)) (fun _ _ _ h => h) (Or.inl ⟨by rfl, by intro w'; go_simp; with_reducible rfl⟩) (by simp only [Act.put, pset]; rfl) ?_
  refine take_ (i := 1) (N := some 9) (bt 20 3) rfl rfl (take_of F207tab2 (by kernel_rfl)) (fun _ _ _ h => h) (Or.inl ⟨by rfl, fun w' s => run_ldc (v := (.slice none 0 0)) rfl rfl (Bx.at_ s (n := 0) rfl) rfl hu33 rfl⟩) hHeld (by simp only [Act.put, pset]; rfl) ?_
  refine pure_ (i := 2) (N := some 10) (bt 20 7) rfl rfl (any_of F207tab2 (by kernel_rfl)) (fun _ _ _ h => h) (Or.inl ⟨by rfl, by intro w'; go_simp; with_reducible rfl⟩) (by simp only [Act.put, pset]; rfl) ?_
  refine pure_ (i := 3) (N := some 11) (bt 20 15) rfl rfl (any_of F207tab2 (by kernel_rfl)) (fun _ _ _ h => h) (Or.inl ⟨by rfl, by intro w'; go_simp; with_reducible rfl⟩) (by simp only [Act.put, pset]; rfl) ?_
  refine pure_ (i := 4) (N := some 12) (bt 20 31) rfl rfl (any_of F207tab2 (by kernel_rfl)) (fun _ _ _ h => h) (Or.inl ⟨by rfl, by intro w'; go_simp; with_reducible rfl⟩) (by simp only [Act.put, pset]; rfl) ?_
  refine pure_ (i := 5) (N := some 13) (v := undef) (bt 20 63) rfl rfl (any_of F207tab2 (by kernel_rfl)) (fun _ _ _ h => h) (Or.inr ⟨by rfl, rfl⟩) (by simp only [Act.put, pset]; rfl) ?_
  refine pure_ (i := 6) (N := some 14) (v := undef) (bt 20 127) rfl rfl (any_of F207tab2 (by kernel_rfl)) (fun _ _ _ h => h) (Or.inr ⟨by rfl, rfl⟩) (by simp only [Act.put, pset]; rfl) ?_
  refine pure_ (i := 7) (N := some 15) (v := undef) (bt 20 255) rfl rfl (any_of F207tab2 (by kernel_rfl)) (fun _ _ _ h => h) (Or.inr ⟨by rfl, rfl⟩) (by simp only [Act.put, pset]; rfl) ?_
  refine pure_ (i := 8) (N := some 16) (v := undef) (bt 20 511) rfl rfl (any_of F207tab2 (by kernel_rfl)) (fun _ _ _ h => h) (Or.inr ⟨by rfl, rfl⟩) (by simp only [Act.put, pset]; rfl) ?_
  refine pure_ (i := 9) (N := some 17) (v := undef) (bt 20 1023) rfl rfl (any_of F207tab2 (by kernel_rfl)) (fun _ _ _ h => h) (Or.inr ⟨by rfl, rfl⟩) (by simp only [Act.put, pset]; rfl) ?_
  refine pure_ (i := 10) (N := some 18) (v := undef) (bt 20 2047) rfl rfl (any_of F207tab2 (by kernel_rfl)) (fun _ _ _ h => h) (Or.inr ⟨by rfl, rfl⟩) (by simp only [Act.put, pset]; rfl) ?_
  refine pure_ (i := 11) (N := some 19) (v := undef) (bt 20 4095) rfl rfl (any_of F207tab2 (by kernel_rfl)) (fun _ _ _ h => h) (Or.inr ⟨by rfl, rfl⟩) (by simp only [Act.put, pset]; rfl) ?_
  refine pure_ (i := 12) (N := some 20) (v := undef) (bt 20 8191) rfl rfl (any_of F207tab2 (by kernel_rfl)) (fun _ _ _ h => h) (Or.inr ⟨by rfl, rfl⟩) (by simp only [Act.put, pset]; rfl) ?_
  refine pure_ (i := 13) (N := some 21) (v := undef) (bt 20 16383) rfl rfl (any_of F207tab2 (by kernel_rfl)) (fun _ _ _ h => h) (Or.inr ⟨by rfl, rfl⟩) (by simp only [Act.put, pset]; rfl) ?_
  refine pure_ (i := 14) (N := some 22) (v := undef) (bt 20 32767) rfl rfl (any_of F207tab2 (by kernel_rfl)) (fun _ _ _ h => h) (Or.inr ⟨by rfl, rfl⟩) (by simp only [Act.put, pset]; rfl) ?_
  refine pure_ (i := 15) (N := some 23) (v := undef) (bt 20 65535) rfl rfl (any_of F207tab2 (by kernel_rfl)) (fun _ _ _ h => h) (Or.inr ⟨by rfl, rfl⟩) (by simp only [Act.put, pset]; rfl) ?_
  refine pure_ (i := 16) (N := some 24) (v := undef) (bt 20 131071) rfl rfl (any_of F207tab2 (by kernel_rfl)) (fun _ _ _ h => h) (Or.inr ⟨by rfl, rfl⟩) (by simp only [Act.put, pset]; rfl) ?_
  refine pure_ (i := 17) (N := some 25) (v := undef) (bt 20 262143) rfl rfl (any_of F207tab2 (by kernel_rfl)) (fun _ _ _ h => h) (Or.inr ⟨by rfl, rfl⟩) (by simp only [Act.put, pset]; rfl) ?_
  refine pure_ (i := 18) (N := some 26) (bt 20 524287) rfl rfl (any_of F207tab2 (by kernel_rfl)) (fun _ _ _ h => h) (Or.inl ⟨by rfl, by intro w'; go_simp; with_reducible rfl⟩) (by simp only [Act.put, pset]; rfl) ?_
  refine pure_ (i := 19) (N := some 4) (bt 20 1048575) rfl rfl (any_of F207tab2 (by kernel_rfl)) (fun _ _ _ h => h) (Or.inl ⟨by rfl, by intro w'; go_simp; with_reducible rfl⟩) (by simp only [Act.put, pset]; rfl) ?_
  refine done_ (done_of F207tab2 (by kernel_rfl)) ?_
  clear hHeld
  have n0 := Aside0.mk F.out.nilRow
  clear F
  have F := n0
  go_wp2_with (first | ((with_reducible refine gate_dst (N := 28) rfl ?_); refine goesL_ (some 28) rfl rfl Tryz.func171 (by kernel_rfl) rfl #[.pointer (some ⟨E.gp, 0, none⟩)] rfl (by (try simp only [List.map_toArray, List.map_cons, List.map_nil]); first | done | rfl) ?_; (refine (notes_calls F.out.p).mono ?_); (rintro e w128 ⟨rfl, hb⟩; refine ⟨_, rfl, ?_⟩; have n0 := Aside0.mk (F.out.below hb); clear F hb; have F := n0)) | ((with_reducible refine gate_dst (N := 30) rfl ?_); refine goesL_ (some 30) rfl rfl Tryz.func166 (by kernel_rfl) rfl #[.pointer (some ⟨E.gp, 0, none⟩), .int .i64 0] rfl (by (try simp only [List.map_toArray, List.map_cons, List.map_nil]); first | done | rfl) ?_; (refine (H1.out _ F.out.p).mono ?_); (rintro e w130 ⟨A30, c30, rfl, hc, hf, hp, hk⟩; refine ⟨_, rfl, ?_⟩; have n0 := Aside0.mk (F.out.node hp hk hf); have C30 := Aside0.mk hc; clear F hc hf hp hk; have F := n0)) | ((with_reducible refine gate_dst (N := 6) rfl ?_); refine box_event ?hg (N := 6) ?hd (cs := #[.int .i64 0, .string (⟨#[]⟩ : ByteArray), .slice none 0 0, .bool false, .bool false, .slice none 0 0, .slice none 0 0]) (t := 45) ?hr ?_; (case hd => rfl); (case hg => rfl); (case hr => first | (go_simp; done) | (go_simp; rfl)); intro g6 hg w306 hbox hb; have n0 := Aside0.mk (show Fr E _ _ ((g6, 45, z7) :: _) _ _ _ _ from F.out.box hg hbox hb); clear F hbox hb hg; have F := n0) | ((with_reducible refine gate_ (.store 45 (.tmp 6) (.tmp 30)) rfl ?_); refine F.out.st0 rfl rfl rfl (ndc k t A30 l.length c30) rfl rfl info45 rfl (ndc_one _ _ _ _ _) ?_; intro w606 n1; have n0 := Aside0.mk n1; clear F n1; have F := n0) | ((with_reducible refine gate_ (.store 4 (.tmp 33) (.tmp 31)) rfl ?_); refine F.out.sf0 rfl rfl rfl (ndc k t A30 l.length c30) (v := (.bool false)) rfl rfl (by show _ < 7; decide) info4s rfl rfl rfl ?_; intro w633 n1; have n0 := Aside0.mk n1; clear F n1; have F := n0) | ((with_reducible refine gate_ (.store 24 (.tmp 34) (.tmp 32)) rfl ?_); refine F.out.sf0 rfl rfl rfl (ndc k t A30 l.length c30) (v := (.slice none 0 0)) rfl rfl (by show _ < 7; decide) info24s rfl rfl rfl ?_; intro w634 n1; have n0 := Aside0.mk n1; clear F n1; have F := n0) | ((with_reducible refine gate_dst (N := 36) rfl ?_); refine ld_cell rfl (N := 36) (v := (.slice none 0 0)) rfl rfl rfl (F.out.at_ (n := 1) rfl) rfl hu33 rfl ?_) | ((with_reducible refine gate_dst (N := 37) rfl ?_); refine ld_agg rfl (N := 37) rfl rfl rfl (F.out.at_ (n := 0) rfl) hu45 rfl info45 ?_) | ((with_reducible refine gate_dst (N := 38) rfl ?_); refine lit_event ?hg (N := 38) ?hd (m := 1) (cs := #[.int .i64 k, .string t, .slice A30 l.length c30, .bool false, .bool false, .slice none 0 0, .slice none 0 0]) (t := 45) ?hr ?_; (case hd => rfl); (case hg => rfl); (case hr => simp only [ndc]; first | (go_simp; done) | (go_simp; rfl)); intro g38 hg w338 hbox hb; have n0 := Aside0.mk (F.out.lit1 (l := l) 0 rfl C30.out hg hbox hb); clear F hbox hb hg; have F := n0) | ((with_reducible refine gate_dst (N := 39) rfl ?_); refine F.out.app (A0 := none) (c0 := 0) (xs := []) (A := (some ⟨g38, 0, none⟩)) (ys := [nd k t l]) rfl rfl rfl rfl 0 rfl (by simp) ?_; intro A39 c39 w139 n1 hc; (obtain ⟨z1, hz⟩ : ∃ zs, ([] : List S45) ++ [nd k t l] = zs := ⟨_, rfl⟩); rw [hz] at n1 hc ⊢; have Zz1 := Aside0.mk hz; clear hz; have n0 := Aside0.mk n1; have C39 := Aside0.mk hc; clear F n1 hc; have F := n0) | ((with_reducible refine gate_ (.store 33 (.tmp 40) (.tmp 39)) rfl ?_); refine F.out.sf1 rfl rfl rfl (ndc 25 (⟨#[]⟩ : ByteArray) A39 z1.length c39) (v := (.slice A39 z1.length c39)) rfl rfl (by show _ < 7; decide) info33s rfl rfl rfl ?_; intro w640 n1; have n0 := Aside0.mk n1; clear F n1; have F := n0) | ((with_reducible refine gate_dst (N := 42) rfl ?_); refine goesL_ (some 42) rfl rfl Tryz.func170 (by kernel_rfl) rfl #[.pointer (some ⟨E.gp, 0, none⟩), .string (⟨#[44]⟩ : ByteArray)] rfl (by (try simp only [List.map_toArray, List.map_cons, List.map_nil]); first | done | rfl) ?_; (refine (take_no F.out.p (⟨#[44]⟩ : ByteArray) H2.out).mono ?_); (rintro e w142 ⟨rfl, hb⟩; refine ⟨_, rfl, ?_⟩; have n0 := Aside0.mk (F.out.below hb); clear F hb; have F := n0)) | ((with_reducible refine gate_dst (N := 43) rfl ?_); refine ld_agg rfl (N := 43) rfl rfl rfl (F.out.at_ (n := 1) rfl) hu45 rfl info45 ?_) | ((with_reducible refine gate_ (.store 45 (.tmp 2) (.tmp 43)) rfl ?_); refine F.out.st2 rfl rfl rfl (ndc 25 (⟨#[]⟩ : ByteArray) A39 z1.length c39) rfl rfl info45 rfl (ndc_one _ _ _ _ _) ?_; intro w602 n1; have n0 := Aside0.mk n1; clear F n1; have F := n0))
  refine bodyPost_ret (results_single rfl (.cell g2 45 (ndc 25 (⟨#[]⟩ : ByteArray) A39 z1.length c39) (0, 0) _ rfl (F.out.at_ (n := 2) rfl) hu45 rfl info45 .nil)) rfl ?_
  have e : [nd k t l] = z1 := Zz1.out
  rw [e]
  exact ⟨A39, c39, rfl, C39.out, Kd.F_mono (Kd.N_F (F.out.rowN (n := 0) rfl)) (fun _ h => h.1), F.out.p, F.out.keep⟩
set_option maxHeartbeats 4000000 in
set_option maxRecDepth 100000 in
theorem clause_rd (h1 : isT (E.cur i) (⟨#[45, 62]⟩ : ByteArray) = true) (h2 : Rd E 207 #[.pointer (some ⟨E.gp, 0, none⟩)] (i + 1) j kb tb lb) (h3 : E.fr < i + 1) (h4 : i + 1 < E.n) : RdC E i j kb tb lb := by
  intro lo w0 bs ns w t m1 ka ta A1 la c1 m2 kg tg A2 lg c2 F0 hn1 hl1 hn2 hl2
  have hu45 := Tryz.underlying45
  have hu33 := Tryz.underlying33
  have hu24 := Tryz.underlying24
  have hu86 := Tryz.underlying86
  have hu9 := Tryz.underlying9
  have hu3 := Tryz.underlying3
  have hu4 := Tryz.underlying4
  have F := Aside0.mk F0
  have N1 := Aside0.mk hn1
  have N2 := Aside0.mk hn2
  have L1 := Aside0.mk hl1
  have L2 := Aside0.mk hl2
  clear F0 hn1 hn2 hl1 hl2
  have H1 := Aside0.mk h1
  have H2 := Aside0.mk h2
  have H3 := Aside0.mk h3
  have H4 := Aside0.mk h4
  clear h1 h2 h3 h4
  go_enter Tryz.func172, Tryz.ntmps172
  go_wp2_with (first | ((with_reducible refine gate_dst (N := 6) rfl ?_); refine box_event ?hg (N := 6) ?hd (cs := (ndc ka ta A1 la.length c1)) (t := 45) ?hr ?_; (case hd => rfl); (case hg => rfl); (case hr => first | (go_simp; done) | (go_simp; rfl)); intro g6 hg w306 hbox hb; have n0 := Aside0.mk (show Fr E _ _ ((g6, 45, (ndc ka ta A1 la.length c1)) :: _) _ _ _ _ from F.out.box hg hbox hb); clear F hbox hb hg; have F := n0) | ((with_reducible refine gate_dst (N := 7) rfl ?_); refine box_event ?hg (N := 7) ?hd (cs := (ndc kg tg A2 lg.length c2)) (t := 45) ?hr ?_; (case hd => rfl); (case hg => rfl); (case hr => first | (go_simp; done) | (go_simp; rfl)); intro g7 hg w307 hbox hb; have n0 := Aside0.mk (show Fr E _ _ ((g7, 45, (ndc kg tg A2 lg.length c2)) :: _) _ _ _ _ from F.out.box hg hbox hb); clear F hbox hb hg; have F := n0) | ((with_reducible refine gate_dst (N := 8) rfl ?_); refine box_event ?hg (N := 8) ?hd (cs := #[.int .i64 0, .string (⟨#[]⟩ : ByteArray), .slice none 0 0, .bool false, .bool false, .slice none 0 0, .slice none 0 0]) (t := 45) ?hr ?_; (case hd => rfl); (case hg => rfl); (case hr => first | (go_simp; done) | (go_simp; rfl)); intro g8 hg w308 hbox hb; have n0 := Aside0.mk (show Fr E _ _ ((g8, 45, z7) :: _) _ _ _ _ from F.out.box hg hbox hb); clear F hbox hb hg; have F := n0) | ((with_reducible refine gate_dst (N := 11) rfl ?_); refine goesL_ (some 11) rfl rfl Tryz.func164 (by kernel_rfl) rfl #[.pointer (some ⟨E.gp, 0, none⟩), .string (⟨#[45, 62]⟩ : ByteArray)] rfl (by (try simp only [List.map_toArray, List.map_cons, List.map_nil]); first | done | rfl) ?_; (refine (need_yes F.out.p (⟨#[45, 62]⟩ : ByteArray) H1.out).mono ?_); (rintro e w111 ⟨rfl, hp, hk⟩; refine ⟨_, rfl, ?_⟩; have n0 := Aside0.mk (F.out.move hp hk); clear F hp hk; have F := n0)) | ((with_reducible refine gate_dst (N := 14) rfl ?_); refine goesL_ (some 14) rfl rfl Tryz.func165 (by kernel_rfl) rfl #[.pointer (some ⟨E.gp, 0, none⟩)] rfl (by (try simp only [List.map_toArray, List.map_cons, List.map_nil]); first | done | rfl) ?_; (refine (broken_calls F.out.p H3.out H4.out).mono ?_); (rintro e w114 ⟨rfl, hb⟩; refine ⟨_, rfl, ?_⟩; have n0 := Aside0.mk (F.out.below hb); clear F hb; have F := n0)) | ((with_reducible refine gate_dst (N := 9) rfl ?_); refine box_event ?hg (N := 9) ?hd (cs := #[.int .i64 0, .string (⟨#[]⟩ : ByteArray), .slice none 0 0, .bool false, .bool false, .slice none 0 0, .slice none 0 0]) (t := 45) ?hr ?_; (case hd => rfl); (case hg => rfl); (case hr => first | (go_simp; done) | (go_simp; rfl)); intro g9 hg w309 hbox hb; have n0 := Aside0.mk (show Fr E _ _ ((g9, 45, z7) :: _) _ _ _ _ from F.out.box hg hbox hb); clear F hbox hb hg; have F := n0) | ((with_reducible refine gate_ (.store 45 (.tmp 9) (.tmp 15)) rfl ?_); refine F.out.st0 rfl rfl rfl (ndc 22 t none 0 0) rfl rfl info45 rfl (ndc_one _ _ _ _ _) ?_; intro w609 n1; have n0 := Aside0.mk n1; clear F n1; have F := n0))
  refine start_ (n := 7) (S := Bx ((g9, 45, (ndc 22 t none 0 0)) :: (g8, 45, z7) :: (g7, 45, (ndc kg tg A2 lg.length c2)) :: (g6, 45, (ndc ka ta A1 la.length c1)) :: bs)) (ds := [6]) (bt 7 0) (by kernel_rfl) rfl (by kernel_rfl) F.out.drew.bxs (fun hHeld => ?_)
  have n0 := Aside0.mk F.out.drew
  clear F
  have F := n0
  generalize World.drew _ = w500 at F hHeld ⊢
  refine take_ (i := 0) (N := some 16) (bt 7 1) rfl rfl (take_of F172tab3 (by kernel_rfl)) (fun _ _ _ h => h) (Or.inl ⟨by rfl, fun w' s => run_lda rfl rfl (Bx.at_ s (n := 3) rfl) hu45 rfl info45⟩) hHeld (by simp only [Act.put, pset]; rfl) ?_
  refine take_ (i := 1) (N := some 17) (bt 7 3) rfl rfl (take_of F172tab3 (by kernel_rfl)) (fun _ _ _ h => h) (Or.inl ⟨by rfl, fun w' s => run_lda rfl rfl (Bx.at_ s (n := 2) rfl) hu45 rfl info45⟩) hHeld (by simp only [Act.put, pset]; rfl) ?_
  refine pure_ (i := 2) (N := some 18) (bt 7 7) rfl rfl (any_of F172tab3 (by kernel_rfl)) (fun _ _ _ h => h) (Or.inl ⟨by rfl, by intro w'; go_simp; with_reducible rfl⟩) (by simp only [Act.put, pset]; rfl) ?_
  refine one_ (i := 3) (N := some 19) (bt 7 15) rfl rfl (one_of F172tab3 (by kernel_rfl)) (by decide) (fun K hK => ?_)
  refine goes_ Tryz.func207 (by kernel_rfl) rfl #[.pointer (some ⟨E.gp, 0, none⟩)] (by rfl) rfl rfl (by (try simp only [List.map_toArray, List.map_cons, List.map_nil]); first | done | rfl) ?_
  refine (H2.out _ F.out.p).mono ?_
  rintro e w501 ⟨A19, c19, rfl, hc, hf, hp, hk⟩
  refine ⟨_, rfl, ?_⟩
  have n0 := Aside0.mk (F.out.node hp hk hf); have C19 := Aside0.mk hc; clear F hc hf hp hk; have F := n0
  refine hK.out _ _ F.out.bxs (fun hHeld => ?_)
  clear hK K
  refine norm_ (show Act.put _ (some 19) _ = _ from (by simp only [Act.put, pset]; rfl)) ?_
  refine one_ (i := 4) (N := some 20) (bt 7 31) rfl rfl (one_of F172tab3 (by kernel_rfl)) (by decide) (fun K hK => ?_)
  refine lit_step (m := 3) (cs := #[.int .i64 ka, .string ta, .slice A1 la.length c1, .bool false, .bool false, .slice none 0 0, .slice none 0 0, .int .i64 kg, .string tg, .slice A2 lg.length c2, .bool false, .bool false, .slice none 0 0, .slice none 0 0, .int .i64 kb, .string tb, .slice A19 lb.length c19, .bool false, .bool false, .slice none 0 0, .slice none 0 0]) (t := 45) (by rfl) ?hrun ?_
  case hrun => simp only [ndc]; first | (go_simp; done) | (go_simp; rfl)
  intro g20 hg w502 hbox hb
  have n0 := Aside0.mk (F.out.lit3 (l := la) (l2 := lg) (l3 := lb) (m1 + 1) (m2 + 1) 0 (List.getElem?_cons_succ.trans N1.out) (List.getElem?_cons_succ.trans N2.out) rfl L1.out L2.out C19.out hg hbox hb); clear F hbox hb hg; have F := n0
  refine hK.out _ _ F.out.bxs (fun hHeld => ?_)
  clear hK K
  refine norm_ (show Act.put _ (some 20) _ = _ from (by simp only [Act.put, pset]; rfl)) ?_
  refine pure_ (i := 5) (N := some 21) (bt 7 63) rfl rfl (any_of F172tab3 (by kernel_rfl)) (fun _ _ _ h => h) (Or.inl ⟨by rfl, by intro w'; go_simp; with_reducible rfl⟩) (by simp only [Act.put, pset]; rfl) ?_
  refine last_ (i := 6) (N := none) (bt 7 127) rfl rfl (one_of F172tab3 (by kernel_rfl)) (by decide) (fun K hK => ?_)
  refine st_cell_step (by rfl) rfl (T := 33) (p := 21) (x := (.tmp 20)) rfl (v := (.slice (some ⟨g20, 0, none⟩) 3 3)) rfl rfl (F.out.at_ (n := 0) rfl) (by show _ < 7; decide) info33s rfl rfl ?_
  intro w503 q1 q2 q3
  have n0 : Aside0 (Fr E _ _ ((g9, 45, (ndc 22 t (some ⟨g20, 0, none⟩) 3 3)) :: (g8, 45, z7) :: (g7, 45, (ndc kg tg A2 lg.length c2)) :: (g6, 45, (ndc ka ta A1 la.length c1)) :: bs) _ _ _ _) := ⟨F.out.put (n := 0) rfl q1 q2 q3⟩
  clear F q1 q2 q3; have F := n0
  refine hK.out _ _ ?_
  clear hK K
  refine norm_ (show Act.put _ none _ = _ from (by simp only [Act.put, pset]; rfl)) ?_
  refine done_ (done_of F172tab3 (by kernel_rfl)) ?_
  clear hHeld
  go_wp2_with (first | ((with_reducible refine gate_dst (N := 22) rfl ?_); refine ld_agg rfl (N := 22) rfl rfl rfl (F.out.at_ (n := 0) rfl) hu45 rfl info45 ?_) | ((with_reducible refine gate_ (.store 45 (.tmp 8) (.tmp 22)) rfl ?_); refine F.out.st1 rfl rfl rfl (ndc 22 t (some ⟨g20, 0, none⟩) 3 3) rfl rfl info45 rfl (ndc_one _ _ _ _ _) ?_; intro w608 n1; have n0 := Aside0.mk n1; clear F n1; have F := n0))
  refine bodyPost_ret (results_single rfl (.cell g8 45 (ndc 22 t (some ⟨g20, 0, none⟩) 3 3) (0, 0) _ rfl (F.out.at_ (n := 1) rfl) hu45 rfl info45 .nil)) rfl ?_
  refine ⟨some ⟨g20, 0, none⟩, 3, rfl, Nat.le_refl _, F.out.drop0.drop0.drop0.drop0.sel (fun r m => ?_)⟩
  rcases List.mem_cons.1 m with rfl | m
  · exact List.mem_cons_self
  · exact List.mem_cons_of_mem _ (List.mem_cons_of_mem _ m)
set_option maxHeartbeats 4000000 in
set_option maxRecDepth 100000 in
theorem pattern_rd (h1 : Rd E 166 #[.pointer (some ⟨E.gp, 0, none⟩), .int .i64 1] i j k t l) (h2 : isT (E.cur j) (⟨#[119, 104, 101, 110]⟩ : ByteArray) = false) (h3 : RdC E j j' kb tb lb) : Rd E 234 #[.pointer (some ⟨E.gp, 0, none⟩)] i j' 22 (⟨#[]⟩ : ByteArray) [nd 23 (⟨#[]⟩ : ByteArray) [nd k t l], nd 24 (⟨#[]⟩ : ByteArray) [], nd kb tb lb] := by
  intro w hp
  have hu45 := Tryz.underlying45
  have hu33 := Tryz.underlying33
  have hu24 := Tryz.underlying24
  have hu86 := Tryz.underlying86
  have hu9 := Tryz.underlying9
  have hu3 := Tryz.underlying3
  have hu4 := Tryz.underlying4
  have F := Aside0.mk (Fr.init hp)
  clear hp
  have H1 := Aside0.mk h1
  have H2 := Aside0.mk h2
  have H3 := Aside0.mk h3
  clear h1 h2 h3
  go_enter Tryz.func234, Tryz.ntmps234
  go_wp2_with (first | ((with_reducible refine gate_dst (N := 2) rfl ?_); refine box_event ?hg (N := 2) ?hd (cs := #[.int .i64 0, .string (⟨#[]⟩ : ByteArray), .slice none 0 0, .bool false, .bool false, .slice none 0 0, .slice none 0 0]) (t := 45) ?hr ?_; (case hd => rfl); (case hg => rfl); (case hr => first | (go_simp; done) | (go_simp; rfl)); intro g2 hg w302 hbox hb; have n0 := Aside0.mk (show Fr E _ _ ((g2, 45, z7) :: _) _ _ _ _ from F.out.box hg hbox hb); clear F hbox hb hg; have F := n0) | ((with_reducible refine gate_dst (N := 5) rfl ?_); refine goesL_ (some 5) rfl rfl Tryz.func166 (by kernel_rfl) rfl #[.pointer (some ⟨E.gp, 0, none⟩), .int .i64 1] rfl (by (try simp only [List.map_toArray, List.map_cons, List.map_nil]); first | done | rfl) ?_; (refine (H1.out _ F.out.p).mono ?_); (rintro e w105 ⟨A5, c5, rfl, hc, hf, hp, hk⟩; refine ⟨_, rfl, ?_⟩; have n0 := Aside0.mk (F.out.node hp hk hf); have C5 := Aside0.mk hc; clear F hc hf hp hk; have F := n0)) | ((with_reducible refine gate_dst (N := 6) rfl ?_); refine lit_event ?hg (N := 6) ?hd (m := 1) (cs := #[.int .i64 k, .string t, .slice A5 l.length c5, .bool false, .bool false, .slice none 0 0, .slice none 0 0]) (t := 45) ?hr ?_; (case hd => rfl); (case hg => rfl); (case hr => simp only [ndc]; first | (go_simp; done) | (go_simp; rfl)); intro g6 hg w306 hbox hb; have n0 := Aside0.mk (F.out.lit1 (l := l) 0 rfl C5.out hg hbox hb); clear F hbox hb hg; have F := n0) | ((with_reducible refine gate_dst (N := 3) rfl ?_); refine box_event ?hg (N := 3) ?hd (cs := #[.int .i64 0, .string (⟨#[]⟩ : ByteArray), .slice none 0 0, .bool false, .bool false, .slice none 0 0, .slice none 0 0]) (t := 45) ?hr ?_; (case hd => rfl); (case hg => rfl); (case hr => first | (go_simp; done) | (go_simp; rfl)); intro g3 hg w303 hbox hb; have n0 := Aside0.mk (show Fr E _ _ ((g3, 45, z7) :: _) _ _ _ _ from F.out.box hg hbox hb); clear F hbox hb hg; have F := n0) | ((with_reducible refine gate_ (.store 45 (.tmp 3) (.tmp 7)) rfl ?_); refine F.out.st0 rfl rfl rfl (ndc 23 (⟨#[]⟩ : ByteArray) (some ⟨g6, 0, none⟩) 1 1) rfl rfl info45 rfl (ndc_one _ _ _ _ _) ?_; intro w603 n1; have n0 := Aside0.mk n1; clear F n1; have F := n0))
  refine start_ (n := 6) (S := Bx [(g3, 45, (ndc 23 (⟨#[]⟩ : ByteArray) (some ⟨g6, 0, none⟩) 1 1)), (g2, 45, z7)]) (ds := [5]) (bt 6 0) (by kernel_rfl) rfl (by kernel_rfl) F.out.drew.bxs (fun hHeld => ?_)
  have n0 := Aside0.mk F.out.drew
  clear F
  have F := n0
  generalize World.drew _ = w500 at F hHeld ⊢
  refine pure_ (i := 0) (N := some 8) (bt 6 1) rfl rfl (any_of F234tab2 (by kernel_rfl)) (fun _ _ _ h => h) (Or.inl ⟨by rfl, by intro w'; go_simp; with_reducible rfl⟩) (by simp only [Act.put, pset]; rfl) ?_
  refine take_ (i := 1) (N := some 9) (bt 6 3) rfl rfl (take_of F234tab2 (by kernel_rfl)) (fun _ _ _ h => h) (Or.inl ⟨by rfl, fun w' s => run_lda rfl rfl (Bx.at_ s (n := 0) rfl) hu45 rfl info45⟩) hHeld (by simp only [Act.put, pset]; rfl) ?_
  refine pure_ (i := 2) (N := some 10) (bt 6 7) rfl rfl (any_of F234tab2 (by kernel_rfl)) (fun _ _ _ h => h) (Or.inl ⟨by rfl, by intro w'; go_simp; with_reducible rfl⟩) (by simp only [Act.put, pset]; rfl) ?_
  refine one_ (i := 3) (N := some 11) (bt 6 15) rfl rfl (one_of F234tab2 (by kernel_rfl)) (by decide) (fun K hK => ?_)
  refine goes_ Tryz.func173 (by kernel_rfl) rfl #[.pointer (some ⟨E.gp, 0, none⟩)] (by rfl) rfl rfl (by (try simp only [List.map_toArray, List.map_cons, List.map_nil]); first | done | rfl) ?_
  refine (guard_rd H2.out _ F.out.p).mono ?_
  rintro e w501 ⟨A11, c11, rfl, hc, hf, hp, hk⟩
  refine ⟨_, rfl, ?_⟩
  have n0 := Aside0.mk (F.out.node hp hk hf); have C11 := Aside0.mk hc; clear F hc hf hp hk; have F := n0
  refine hK.out _ _ F.out.bxs (fun hHeld => ?_)
  clear hK K
  refine norm_ (show Act.put _ (some 11) _ = _ from (by simp only [Act.put, pset]; rfl)) ?_
  refine one_ (i := 4) (N := some 12) (bt 6 31) rfl rfl (one_of F234tab2 (by kernel_rfl)) (by decide) (fun K hK => ?_)
  refine goes_ Tryz.func172 (by kernel_rfl) rfl #[.pointer (some ⟨E.gp, 0, none⟩), .string (⟨#[]⟩ : ByteArray), .agg (ndc 23 (⟨#[]⟩ : ByteArray) (some ⟨g6, 0, none⟩) 1 1), .agg (ndc 24 (⟨#[]⟩ : ByteArray) A11 0 c11)] (by rfl) rfl rfl (by (try simp only [List.map_toArray, List.map_cons, List.map_nil]); first | done | rfl) ?_
  refine (H3.out _ _ _ _ _ (⟨#[]⟩ : ByteArray) 1 23 (⟨#[]⟩ : ByteArray) (some ⟨g6, 0, none⟩) [nd k t l] 1 0 24 (⟨#[]⟩ : ByteArray) A11 [] c11 F.out rfl (Nat.le_refl _) rfl C11.out).mono ?_
  rintro e w502 ⟨A12, c12, rfl, hc, n1⟩
  refine ⟨_, rfl, ?_⟩
  have n0 := Aside0.mk n1; have C12 := Aside0.mk hc; clear F n1 hc; have F := n0
  refine hK.out _ _ F.out.bxs (fun hHeld => ?_)
  clear hK K
  refine norm_ (show Act.put _ (some 12) _ = _ from (by simp only [Act.put, pset]; rfl)) ?_
  refine last_ (i := 5) (N := none) (bt 6 63) rfl rfl (one_of F234tab2 (by kernel_rfl)) (by decide) (fun K hK => ?_)
  refine st_agg_step (by rfl) rfl (T := 45) (p := 2) (x := (.tmp 12)) rfl (cs' := (ndc 22 (⟨#[]⟩ : ByteArray) A12 3 c12)) rfl rfl (F.out.at_ (n := 1) rfl) info45 rfl (ndc_one _ _ _ _ _) ?_
  intro w503 q1 q2 q3
  have n0 : Aside0 (Fr E _ _ [(g3, 45, (ndc 23 (⟨#[]⟩ : ByteArray) (some ⟨g6, 0, none⟩) 1 1)), (g2, 45, (ndc 22 (⟨#[]⟩ : ByteArray) A12 3 c12))] _ _ _ _) := ⟨F.out.put (n := 1) rfl q1 q2 q3⟩
  clear F q1 q2 q3; have F := n0
  refine hK.out _ _ ?_
  clear hK K
  refine norm_ (show Act.put _ none _ = _ from (by simp only [Act.put, pset]; rfl)) ?_
  refine done_ (done_of F234tab2 (by kernel_rfl)) ?_
  clear hHeld
  go_wp2_with fail
  refine bodyPost_ret (results_single rfl (.cell g2 45 (ndc 22 (⟨#[]⟩ : ByteArray) A12 3 c12) (0, 0) _ rfl (F.out.at_ (n := 1) rfl) hu45 rfl info45 .nil)) rfl ?_
  exact ⟨A12, c12, rfl, C12.out, F.out.row (n := 0) rfl, F.out.p, F.out.keep⟩
set_option maxHeartbeats 4000000 in
set_option maxRecDepth 100000 in
theorem called_rd (h1 : Rd E 163 #[.pointer (some ⟨E.gp, 0, none⟩)] i j k t l) (h2 : isT (E.cur j) (⟨#[119, 104, 101, 110]⟩ : ByteArray) = false) (h3 : RdC E j j' kb tb lb) : Rd E 138 #[.pointer (some ⟨E.gp, 0, none⟩), .string t2] i j' 22 t2 [nd k t l, nd 24 (⟨#[]⟩ : ByteArray) [], nd kb tb lb] := by
  intro w hp
  have hu45 := Tryz.underlying45
  have hu33 := Tryz.underlying33
  have hu24 := Tryz.underlying24
  have hu86 := Tryz.underlying86
  have hu9 := Tryz.underlying9
  have hu3 := Tryz.underlying3
  have hu4 := Tryz.underlying4
  have F := Aside0.mk (Fr.init hp)
  clear hp
  have H1 := Aside0.mk h1
  have H2 := Aside0.mk h2
  have H3 := Aside0.mk h3
  clear h1 h2 h3
  go_enter Tryz.func138, Tryz.ntmps138
  go_wp2_with (first | ((with_reducible refine gate_dst (N := 4) rfl ?_); refine box_event ?hg (N := 4) ?hd (cs := #[.int .i64 0, .string (⟨#[]⟩ : ByteArray), .slice none 0 0, .bool false, .bool false, .slice none 0 0, .slice none 0 0]) (t := 45) ?hr ?_; (case hd => rfl); (case hg => rfl); (case hr => first | (go_simp; done) | (go_simp; rfl)); intro g4 hg w304 hbox hb; have n0 := Aside0.mk (show Fr E _ _ ((g4, 45, z7) :: _) _ _ _ _ from F.out.box hg hbox hb); clear F hbox hb hg; have F := n0) | ((with_reducible refine gate_dst (N := 7) rfl ?_); refine goesL_ (some 7) rfl rfl Tryz.func163 (by kernel_rfl) rfl #[.pointer (some ⟨E.gp, 0, none⟩)] rfl (by (try simp only [List.map_toArray, List.map_cons, List.map_nil]); first | done | rfl) ?_; (refine (H1.out _ F.out.p).mono ?_); (rintro e w107 ⟨A7, c7, rfl, hc, hf, hp, hk⟩; refine ⟨_, rfl, ?_⟩; have n0 := Aside0.mk (F.out.node hp hk hf); have C7 := Aside0.mk hc; clear F hc hf hp hk; have F := n0)) | ((with_reducible refine gate_dst (N := 5) rfl ?_); refine box_event ?hg (N := 5) ?hd (cs := #[.int .i64 0, .string (⟨#[]⟩ : ByteArray), .slice none 0 0, .bool false, .bool false, .slice none 0 0, .slice none 0 0]) (t := 45) ?hr ?_; (case hd => rfl); (case hg => rfl); (case hr => first | (go_simp; done) | (go_simp; rfl)); intro g5 hg w305 hbox hb; have n0 := Aside0.mk (show Fr E _ _ ((g5, 45, z7) :: _) _ _ _ _ from F.out.box hg hbox hb); clear F hbox hb hg; have F := n0) | ((with_reducible refine gate_ (.store 45 (.tmp 5) (.tmp 7)) rfl ?_); refine F.out.st0 rfl rfl rfl (ndc k t A7 l.length c7) rfl rfl info45 rfl (ndc_one _ _ _ _ _) ?_; intro w605 n1; have n0 := Aside0.mk n1; clear F n1; have F := n0))
  refine start_ (n := 7) (S := Bx [(g5, 45, (ndc k t A7 l.length c7)), (g4, 45, z7)]) (ds := [6]) (bt 7 0) (by kernel_rfl) rfl (by kernel_rfl) F.out.drew.bxs (fun hHeld => ?_)
  have n0 := Aside0.mk F.out.drew
  clear F
  have F := n0
  generalize World.drew _ = w500 at F hHeld ⊢
  refine pure_ (i := 0) (N := some 8) (bt 7 1) rfl rfl (any_of F138tab2 (by kernel_rfl)) (fun _ _ _ h => h) (Or.inl ⟨by rfl, by intro w'; go_simp; with_reducible rfl⟩) (by simp only [Act.put, pset]; rfl) ?_
  refine pure_ (i := 1) (N := some 9) (bt 7 3) rfl rfl (any_of F138tab2 (by kernel_rfl)) (fun _ _ _ h => h) (Or.inl ⟨by rfl, by intro w'; go_simp; with_reducible rfl⟩) (by simp only [Act.put, pset]; rfl) ?_
  refine take_ (i := 2) (N := some 10) (bt 7 7) rfl rfl (take_of F138tab2 (by kernel_rfl)) (fun _ _ _ h => h) (Or.inl ⟨by rfl, fun w' s => run_lda rfl rfl (Bx.at_ s (n := 0) rfl) hu45 rfl info45⟩) hHeld (by simp only [Act.put, pset]; rfl) ?_
  refine pure_ (i := 3) (N := some 11) (bt 7 15) rfl rfl (any_of F138tab2 (by kernel_rfl)) (fun _ _ _ h => h) (Or.inl ⟨by rfl, by intro w'; go_simp; with_reducible rfl⟩) (by simp only [Act.put, pset]; rfl) ?_
  refine one_ (i := 4) (N := some 12) (bt 7 31) rfl rfl (one_of F138tab2 (by kernel_rfl)) (by decide) (fun K hK => ?_)
  refine goes_ Tryz.func173 (by kernel_rfl) rfl #[.pointer (some ⟨E.gp, 0, none⟩)] (by rfl) rfl rfl (by (try simp only [List.map_toArray, List.map_cons, List.map_nil]); first | done | rfl) ?_
  refine (guard_rd H2.out _ F.out.p).mono ?_
  rintro e w501 ⟨A12, c12, rfl, hc, hf, hp, hk⟩
  refine ⟨_, rfl, ?_⟩
  have n0 := Aside0.mk (F.out.node hp hk hf); have C12 := Aside0.mk hc; clear F hc hf hp hk; have F := n0
  refine hK.out _ _ F.out.bxs (fun hHeld => ?_)
  clear hK K
  refine norm_ (show Act.put _ (some 12) _ = _ from (by simp only [Act.put, pset]; rfl)) ?_
  refine one_ (i := 5) (N := some 13) (bt 7 63) rfl rfl (one_of F138tab2 (by kernel_rfl)) (by decide) (fun K hK => ?_)
  refine goes_ Tryz.func172 (by kernel_rfl) rfl #[.pointer (some ⟨E.gp, 0, none⟩), .string t2, .agg (ndc k t A7 l.length c7), .agg (ndc 24 (⟨#[]⟩ : ByteArray) A12 0 c12)] (by rfl) rfl rfl (by (try simp only [List.map_toArray, List.map_cons, List.map_nil]); first | done | rfl) ?_
  refine (H3.out _ _ _ _ _ t2 1 k t A7 l c7 0 24 (⟨#[]⟩ : ByteArray) A12 [] c12 F.out rfl C7.out rfl C12.out).mono ?_
  rintro e w502 ⟨A13, c13, rfl, hc, n1⟩
  refine ⟨_, rfl, ?_⟩
  have n0 := Aside0.mk n1; have C13 := Aside0.mk hc; clear F n1 hc; have F := n0
  refine hK.out _ _ F.out.bxs (fun hHeld => ?_)
  clear hK K
  refine norm_ (show Act.put _ (some 13) _ = _ from (by simp only [Act.put, pset]; rfl)) ?_
  refine last_ (i := 6) (N := none) (bt 7 127) rfl rfl (one_of F138tab2 (by kernel_rfl)) (by decide) (fun K hK => ?_)
  refine st_agg_step (by rfl) rfl (T := 45) (p := 4) (x := (.tmp 13)) rfl (cs' := (ndc 22 t2 A13 3 c13)) rfl rfl (F.out.at_ (n := 1) rfl) info45 rfl (ndc_one _ _ _ _ _) ?_
  intro w503 q1 q2 q3
  have n0 : Aside0 (Fr E _ _ [(g5, 45, (ndc k t A7 l.length c7)), (g4, 45, (ndc 22 t2 A13 3 c13))] _ _ _ _) := ⟨F.out.put (n := 1) rfl q1 q2 q3⟩
  clear F q1 q2 q3; have F := n0
  refine hK.out _ _ ?_
  clear hK K
  refine norm_ (show Act.put _ none _ = _ from (by simp only [Act.put, pset]; rfl)) ?_
  refine done_ (done_of F138tab2 (by kernel_rfl)) ?_
  clear hHeld
  go_wp2_with fail
  refine bodyPost_ret (results_single rfl (.cell g4 45 (ndc 22 t2 A13 3 c13) (0, 0) _ rfl (F.out.at_ (n := 1) rfl) hu45 rfl info45 .nil)) rfl ?_
  exact ⟨A13, c13, rfl, C13.out, F.out.row (n := 0) rfl, F.out.p, F.out.keep⟩
variable {f : Nat} {fn : Func} {fs cs args : Array Value}
set_option maxHeartbeats 4000000 in
set_option maxRecDepth 100000 in
theorem more_rd (hf : Tryz.prog.funcs[f]? = some fn) (hname : (fn.name == "runtime.NumGoroutine") = false) (hb : fn.body.isSome = true) (ha : fs ++ #[] ++ cs = args) (X : World → Prop) (hk : ∀ w w', X w → KeepBut w w' E.gp none → X w') (h1 : ∀ w, PSt E w i → X w → Calls Tryz.prog f args w (RdP E w j k t l)) (h2 : isT (E.cur j) (⟨#[59]⟩ : ByteArray) = false) : ∀ w, PSt E w i → X w → Calls Tryz.prog 136 #[.pointer (some ⟨E.gp, 0, none⟩), .slice none 0 0, .func (.func f) fs cs] w (RdLP E w j [nd k t l]) := by
  intro w hp hx
  have HX := Aside0.mk hx
  have HK := Aside0.mk hk
  clear hx hk
  have HF := Aside0.mk hf
  have HN := Aside0.mk hname
  have HB := Aside0.mk hb
  have HA := Aside0.mk ha
  clear hf hname hb ha
  have hu45 := Tryz.underlying45
  have hu33 := Tryz.underlying33
  have hu24 := Tryz.underlying24
  have hu86 := Tryz.underlying86
  have hu9 := Tryz.underlying9
  have hu3 := Tryz.underlying3
  have hu4 := Tryz.underlying4
  have F := Aside0.mk (Fr.init hp)
  clear hp
  have H1 := Aside0.mk h1
  have H2 := Aside0.mk h2
  clear h1 h2
  go_enter Tryz.func136, Tryz.ntmps136
  go_wp2_with fail
  refine wp_scope_straight ?_
  go_wp2_with fail
  refine wp_label ?_
  have n0 := Aside0.mk F.out.nilRow
  clear F
  have F := n0
  go_wp2_with (first | ((with_reducible refine gate_dst (N := 10) rfl ?_); refine goesV_ (some 10) rfl rfl HF.out HN.out HB.out args rfl rfl (by simp only [List.map_toArray, List.map_nil]; exact HA.out) ?_; (refine (H1.out _ F.out.p (HK.out _ _ HX.out F.out.keep)).mono ?_); (rintro e w110 ⟨A10, c10, rfl, hc, hf, hp, hk⟩; refine ⟨_, rfl, ?_⟩; have n0 := Aside0.mk (F.out.node hp hk hf); have C10 := Aside0.mk hc; clear F hc hf hp hk; have F := n0)) | ((with_reducible refine gate_dst (N := 8) rfl ?_); refine box_event ?hg (N := 8) ?hd (cs := #[.int .i64 0, .string (⟨#[]⟩ : ByteArray), .slice none 0 0, .bool false, .bool false, .slice none 0 0, .slice none 0 0]) (t := 45) ?hr ?_; (case hd => rfl); (case hg => rfl); (case hr => first | (go_simp; done) | (go_simp; rfl)); intro g8 hg w308 hbox hb; have n0 := Aside0.mk (show Fr E _ _ ((g8, 45, z7) :: _) _ _ _ _ from F.out.box hg hbox hb); clear F hbox hb hg; have F := n0) | ((with_reducible refine gate_ (.store 45 (.tmp 8) (.tmp 10)) rfl ?_); refine F.out.st0 rfl rfl rfl (ndc k t A10 l.length c10) rfl rfl info45 rfl (ndc_one _ _ _ _ _) ?_; intro w608 n1; have n0 := Aside0.mk n1; clear F n1; have F := n0) | ((with_reducible refine gate_ (.store 24 (.tmp 12) (.tmp 11)) rfl ?_); refine F.out.sf0 rfl rfl rfl (ndc k t A10 l.length c10) (v := (.slice none 0 0)) rfl rfl (by show _ < 7; decide) info24s rfl rfl rfl ?_; intro w612 n1; have n0 := Aside0.mk n1; clear F n1; have F := n0) | ((with_reducible refine gate_dst (N := 14) rfl ?_); refine ld_agg rfl (N := 14) rfl rfl rfl (F.out.at_ (n := 0) rfl) hu45 rfl info45 ?_) | ((with_reducible refine gate_dst (N := 15) rfl ?_); refine lit_event ?hg (N := 15) ?hd (m := 1) (cs := #[.int .i64 k, .string t, .slice A10 l.length c10, .bool false, .bool false, .slice none 0 0, .slice none 0 0]) (t := 45) ?hr ?_; (case hd => rfl); (case hg => rfl); (case hr => simp only [ndc]; first | (go_simp; done) | (go_simp; rfl)); intro g15 hg w315 hbox hb; have n0 := Aside0.mk (F.out.lit1 (l := l) 0 rfl C10.out hg hbox hb); clear F hbox hb hg; have F := n0) | ((with_reducible refine gate_dst (N := 16) rfl ?_); refine F.out.app (A0 := none) (c0 := 0) (xs := []) (A := (some ⟨g15, 0, none⟩)) (ys := [nd k t l]) rfl rfl rfl rfl 0 rfl (by simp) ?_; intro A16 c16 w116 n1 hc; (obtain ⟨z1, hz⟩ : ∃ zs, ([] : List S45) ++ [nd k t l] = zs := ⟨_, rfl⟩); rw [hz] at n1 hc ⊢; have Zz1 := Aside0.mk hz; clear hz; have n0 := Aside0.mk n1; have C16 := Aside0.mk hc; clear F n1 hc; have F := n0) | ((with_reducible refine gate_dst (N := 18) rfl ?_); refine goesL_ (some 18) rfl rfl Tryz.func170 (by kernel_rfl) rfl #[.pointer (some ⟨E.gp, 0, none⟩), .string (⟨#[59]⟩ : ByteArray)] rfl (by (try simp only [List.map_toArray, List.map_cons, List.map_nil]); first | done | rfl) ?_; (refine (take_no F.out.p (⟨#[59]⟩ : ByteArray) H2.out).mono ?_); (rintro e w118 ⟨rfl, hb⟩; refine ⟨_, rfl, ?_⟩; have n0 := Aside0.mk (F.out.below hb); clear F hb; have F := n0)))
  go_ret
  have e : [nd k t l] = z1 := Zz1.out
  rw [e]
  exact ⟨A16, c16, rfl, C16.out, Kd.F_mono (Kd.N_F (F.out.rowN (n := 0) rfl)) (fun _ h => h.1), F.out.p, F.out.keep⟩
end
end Go.Proofs.YthipodffpkglfaaGreatDoor.PS
