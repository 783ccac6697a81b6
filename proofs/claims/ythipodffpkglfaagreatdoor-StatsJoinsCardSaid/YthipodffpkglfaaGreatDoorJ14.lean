/- Words and walks that the law leans on: HS29. Conditions: none. -/
import Derived.Test.YthipodffpkglfaaGreatDoorJ13
import Derived.Stop.BytesEq
import Derived.Laws.CopyRow
import Derived.Laws.Slices
import Derived.ChangeKeysEq
namespace Go.Proofs.YthipodffpkglfaaGreatDoor.PS
open Go.RowKit Go.Proofs.YthipodffpkglfaaGreatDoorW.PrintWords Go.Proofs.YthipodffpkglfaaGreatDoorW.PrintLast Go.Proofs.YthipodffpkglfaaGreatDoorW.PrintMore
set_option linter.unusedVariables false
set_option linter.unusedSimpArgs false
theorem F128tab4 : rtab .any (opsOf Tryz.f128 4) = (true, [([], []), ([], []), ([], []), ([1, 2], [1, 2]), ([0, 3], [0, 3])]) := by kernel_rfl
theorem size_data (s : ByteArray) : s.size = s.data.toList.length := by
  rw [Array.length_toList]
  rfl
theorem info5s : (Tryz.prog.info? 5).map (·.size) = some 1 := by kernel_rfl
def c3 (a b c : Int) : Array Value := #[.int .u8 a, .int .u8 b, .int .u8 c]
theorem run_copy3 {w : World} {g t : Nat} {x y z n0 n1 n2 : Int} (hg : w.heap[g]? = some (.cells (c3 x y z) t (0, 0))) {u : ByteArray} {b0 b1 b2 : UInt8} {r : List UInt8} (hu : u.data.toList = b0 :: b1 :: b2 :: r) (h0 : (b0.toNat : Int) = n0) (h1 : (b1.toNat : Int) = n1) (h2 : (b2.toNat : Int) = n2) : (Builtin.copy_ #[28, 9] 3 #[.slice (some ⟨g, 0, none⟩) 3 3, .string u]).run Tryz.prog w = .ok (.int .i64 3) (w.setRow g (c3 n0 n1 n2)) := by
  have hs : 3 ≤ u.size := by rw [size_data, hu]; simp
  have hmin : Nat.min u.size 3 = 3 := Nat.min_eq_right hs
  have hst := run_storeCells_at (P := Tryz.prog) g 0 t [.int .u8 n0, .int .u8 n1, .int .u8 n2] 0 (c3 x y z) w hg (by simp [c3]) (by intro v hv; simp at hv; rcases hv with rfl | rfl | rfl <;> rfl)
  obtain ⟨i, hi, hsz⟩ := Option.map_eq_some_iff.1 info5s
  simp [Builtin.copy_, run_underlying Tryz.underlying28, Builtin.lenOf, Builtin.firstCells, sizeOf, typeInfo, hi, hsz, hmin]
  rw [hu]
  simp only [List.map_cons, List.take_succ_cons, List.take_zero, h0, h1, h2]
  simp only [Nat.add_zero] at hst
  rw [hst]
  simp [c3, goInt]
theorem part3 (x y z : Int) (w : World) : (part 5 (c3 x y z) 0).run Tryz.prog w = .ok (.int .u8 x) w ∧ (part 5 (c3 x y z) 1).run Tryz.prog w = .ok (.int .u8 y) w ∧ (part 5 (c3 x y z) 2).run Tryz.prog w = .ok (.int .u8 z) w := by
  refine ⟨?_, ?_, ?_⟩ <;> simp [part, isAgg, run_underlying Tryz.underlying5, c3]
def c2 (a b : Int) : Array Value := #[.int .u8 a, .int .u8 b]
theorem part2 (x y : Int) (w : World) : (part 5 (c2 x y) 0).run Tryz.prog w = .ok (.int .u8 x) w ∧ (part 5 (c2 x y) 1).run Tryz.prog w = .ok (.int .u8 y) w := by
  refine ⟨?_, ?_⟩ <;> simp [part, isAgg, run_underlying Tryz.underlying5, c2]
theorem cells5 : Tryz.prog.cellsOf 5 = 1 := by kernel_rfl
theorem eqn (d : Nat) (x y : Int) (w : World) : (Op.equalIn (d + 1) 5 (.int .u8 x) (.int .u8 y)).run Tryz.prog w = .ok (decide (x = y)) w := by
  rw [Op.equalIn]
  simp only [Sem.run_bind, run_underlying Tryz.underlying5, Result.andThen_ok, Sem.run_pure]
  rfl
theorem eq3 (x0 x1 x2 y0 y1 y2 : Int) (w : World) : (binOp .eql 150 (.agg (c3 x0 x1 x2)) (.agg (c3 y0 y1 y2))).run Tryz.prog w = .ok (.bool (decide (x0 = y0) && (decide (x1 = y1) && decide (x2 = y2)))) w := by
  obtain ⟨i, hi, _⟩ := Option.map_eq_some_iff.1 info5s
  rw [run_eql_struct]
  show ((Op.equalIn (9998 + 1 + 1) 150 _ _).run Tryz.prog w).andThen _ = _
  rw [run_equalIn_array w (9998 + 1) _ _ Tryz.underlying150 hi, cells5]
  have p := part3 x0 x1 x2 w
  have q := part3 y0 y1 y2 w
  show ((Op.eqItems _ 5 1 _ _ [0, 1, 2]).run Tryz.prog w).andThen _ = _
  simp only [Op.eqItems, Sem.run_bind, p.1, p.2.1, p.2.2, q.1, q.2.1, q.2.2, Nat.zero_mul, Nat.one_mul, Nat.mul_one, Result.andThen_ok, eqn]
  by_cases h0 : x0 = y0 <;> by_cases h1 : x1 = y1 <;> by_cases h2 : x2 = y2 <;> simp [h0, h1, h2, (part3 _ _ _ _).1, (part3 _ _ _ _).2.1, (part3 _ _ _ _).2.2, eqn 9998]
theorem eq2 (x0 x1 y0 y1 : Int) (w : World) : (binOp .eql 151 (.agg (c2 x0 x1)) (.agg (c2 y0 y1))).run Tryz.prog w = .ok (.bool (decide (x0 = y0) && decide (x1 = y1))) w := by
  obtain ⟨i, hi, _⟩ := Option.map_eq_some_iff.1 info5s
  rw [run_eql_struct]
  show ((Op.equalIn (9998 + 1 + 1) 151 _ _).run Tryz.prog w).andThen _ = _
  rw [run_equalIn_array w (9998 + 1) _ _ Tryz.underlying151 hi, cells5]
  have p := part2 x0 x1 w
  have q := part2 y0 y1 w
  show ((Op.eqItems _ 5 1 _ _ [0, 1]).run Tryz.prog w).andThen _ = _
  simp only [Op.eqItems, Sem.run_bind, p.1, p.2, q.1, q.2, Nat.zero_mul, Nat.one_mul, Nat.mul_one, Result.andThen_ok, eqn]
  by_cases h0 : x0 = y0 <;> by_cases h1 : x1 = y1 <;> simp [h0, h1, (part2 _ _ _).1, (part2 _ _ _).2, eqn 9998]
theorem noguard150 : Tryz.prog.eqGuardType Tryz.prog.depth 150 = false := by kernel_rfl
theorem noguard151 : Tryz.prog.eqGuardType Tryz.prog.depth 151 = false := by kernel_rfl
theorem info150 : (Tryz.prog.info? 150).map (·.size) = some 3 := by kernel_rfl
section
variable {o : Oper} {a : Act} {W : World}
theorem run_e2 {x y : Operand} {t2 : TypeId} (ho : o.op = .binOp .eql 151 x y t2) {x0 x1 y0 y1 : Int} (hx : a.eval x = .agg (c2 x0 x1)) (hy : a.eval y = .agg (c2 y0 y1)) {b : Bool} (hb : (decide (x0 = y0) && decide (x1 = y1)) = b) : (execOp a.eval o).run Tryz.prog W = .ok (.value (.bool b)) W := by
  unfold execOp
  have hg : (eqGuard .eql 151 x y (.agg (c2 x0 x1)) (.agg (c2 y0 y1))).run Tryz.prog W = .ok () W := by simp [eqGuard, noguard151]
  simp only [ho, hx, hy, Sem.run_bind, Sem.run_pure, Result.andThen_ok, eq2, hb, hg]
theorem run_e3 {x y : Operand} {t2 : TypeId} (ho : o.op = .binOp .eql 150 x y t2) {x0 x1 x2 y0 y1 y2 : Int} (hx : a.eval x = .agg (c3 x0 x1 x2)) (hy : a.eval y = .agg (c3 y0 y1 y2)) {b : Bool} (hb : (decide (x0 = y0) && (decide (x1 = y1) && decide (x2 = y2))) = b) : (execOp a.eval o).run Tryz.prog W = .ok (.value (.bool b)) W := by
  unfold execOp
  have hg : (eqGuard .eql 150 x y (.agg (c3 x0 x1 x2)) (.agg (c3 y0 y1 y2))).run Tryz.prog W = .ok () W := by simp [eqGuard, noguard150]
  simp only [ho, hx, hy, Sem.run_bind, Sem.run_pure, Result.andThen_ok, eq3, hb, hg]
end
theorem prefix_run (s : ByteArray) (W : World) : (Instr.sliceAt 9 (.string s) (some (.int .i64 0)) none none).run Tryz.prog W = .ok (.string s) W := by
  have he : s.extract 0 s.size = s := by simp
  rw [run_sliceAt_string W 9 _ _ _ _ Tryz.underlying9, run_slice_string_l (P := Tryz.prog) (w := W) 9 s Tryz.underlying9 .i64 0 (by omega) (by omega)]
  show Result.ok (Value.string (s.extract 0 s.size)) W = _
  rw [he]
set_option maxRecDepth 100000 in
theorem arr_run (g : Nat) (W : World) : (Instr.sliceAt 150 (.pointer (some ⟨g, 0, none⟩)) none none none).run Tryz.prog W = .ok (.slice (some ⟨g, 0, none⟩) 3 3) W := by
  have h1 : Tryz.prog.arrayLen 150 = 3 := by kernel_rfl
  have h2 : Tryz.prog.elem 150 = 5 := by kernel_rfl
  obtain ⟨i, hi, _⟩ := Option.map_eq_some_iff.1 info5s
  rw [run_sliceAt_array_all W 150 _ (by rw [h1, h2]; exact Tryz.underlying150), h2, h1, run_sizeOf W hi]
  rfl
section
variable {o : Oper} {a : Act} {W : World}
theorem run_cp {ats : Array TypeId} {ty : TypeId} {xs : Array Operand} {A : Array Value} {v : Value} {W' : World} (ho : o.op = .call { callee := .builtin .copy, args := xs, argTypes := ats }) (hx : (xs.map a.eval, o.type) = (A, ty)) (h : (Builtin.copy_ ats ty A).run Tryz.prog W = .ok v W') : (execOp a.eval o).run Tryz.prog W = .ok (.value v) W' := by
  obtain ⟨h1, h2⟩ := Prod.mk.inj hx
  obtain ⟨d, op, ty', pos, aft, gd⟩ := o
  simp only at ho h2
  subst ho h2
  show ((do pure (.value (← Builtin.copy_ ats ty' (xs.map a.eval)))) : Sem Next).run Tryz.prog W = _
  rw [h1]
  simp only [Sem.run_bind, Sem.run_pure, h, Result.andThen_ok]
theorem run_sl {t : TypeId} {x : Operand} {lo : Option Operand} {X : Value} {v : Value} {L : Option Value} (ho : o.op = .slice t x lo none none) (hx : (a.eval x, lo.map a.eval) = (X, L)) (h : (Instr.sliceAt t X L none none).run Tryz.prog W = .ok v W) : (execOp a.eval o).run Tryz.prog W = .ok (.value v) W := by
  obtain ⟨h1, h2⟩ := Prod.mk.inj hx
  unfold execOp
  simp only [ho, h1, h2, Option.map_none, Sem.run_bind, Sem.run_pure, Result.andThen_ok, h]
end
set_option maxHeartbeats 4000000 in
set_option maxRecDepth 100000 in
theorem longest_bars {s : ByteArray} {b2 : UInt8} {r : List UInt8} {w : World} (hs : s.data.toList = 124 :: 124 :: b2 :: r) : Calls Tryz.prog 128 #[.string s, .int .i64 0] w fun e w' => e = .returned (.int .i64 2) ∧ Below w.heap.size w w' := by
  have hu150 := Tryz.underlying150
  have hu5 := Tryz.underlying5
  have F := Aside0.mk (Fg.init (Below.refl w.heap.size w))
  have hsz : 3 ≤ s.size := by rw [size_data, hs]; simp
  have hne : ¬ s = ByteArray.empty := by rintro rfl; simp at hsz
  have B := Aside0.mk (show ((124 : UInt8).toNat : Int) = 124 ∧ ((124 : UInt8).toNat : Int) = 124 from ⟨by rfl, by rfl⟩)
  go_enter Tryz.func128, Tryz.ntmps128
  go_upto_region 4 with (first | ((with_reducible refine gate_dst (N := 5) rfl ?_); refine box_event ?hg (N := 5) ?hd (cs := (c3 0 0 0)) (t := 150) ?hr ?_; (case hd => rfl); (case hg => rfl); (case hr => first | (go_simp; done) | (go_simp; rfl)); intro g5 hg w305 hbox hb; have n0 := Aside0.mk (F.out.box hg hbox hb); clear F; have F := n0; clear hbox hb hg))
  refine start_ (n := 5) (S := Bx [(g5, 150, (c3 0 0 0))]) (ds := [4]) (bt 5 0) (by kernel_rfl) rfl (by kernel_rfl) (F.out.below (below_drew1 (Below.refl _ _))).bxs (fun hHeld => ?_)
  have n0 := Aside0.mk (F.out.below (below_drew1 (Below.refl _ _)))
  clear F
  have F := n0
  generalize World.drew _ = w500 at F hHeld ⊢
  refine pure_ (i := 0) (N := some 14) (bt 5 1) rfl rfl (any_of F128tab4 (by kernel_rfl)) (fun _ _ _ h => h) (Or.inl ⟨by rfl, by intro w'; exact run_sl rfl rfl (arr_run g5 w')⟩) (by simp only [Act.put, pset]; rfl) ?_
  refine pure_ (i := 1) (N := some 15) (bt 5 3) rfl rfl (any_of F128tab4 (by kernel_rfl)) (fun _ _ _ h => h) (Or.inl ⟨by rfl, by intro w'; go_simp; with_reducible rfl⟩) (by simp only [Act.put, pset]; rfl) ?_
  refine pure_ (i := 2) (N := some 16) (bt 5 7) rfl rfl (any_of F128tab4 (by kernel_rfl)) (fun _ _ _ h => h) (Or.inl ⟨by rfl, by intro w'; go_simp; with_reducible rfl⟩) (by simp only [Act.put, pset]; rfl) ?_
  refine pure_ (i := 3) (N := some 17) (bt 5 15) rfl rfl (any_of F128tab4 (by kernel_rfl)) (fun _ _ _ h => h) (Or.inl ⟨by rfl, by intro w'; exact run_sl rfl rfl (prefix_run s w')⟩) (by simp only [Act.put, pset]; rfl) ?_
  refine last_ (i := 4) (N := some 18) (bt 5 31) rfl rfl (one_of F128tab4 (by kernel_rfl)) (by decide) (fun K hK => ?_)
  refine event_step (by rfl) (run_cp (A := #[.slice (some ⟨g5, 0, none⟩) 3 3, .string s]) (ty := 3) rfl (by simp only [List.map_toArray, List.map_cons, List.map_nil]; rfl) (run_copy3 (F.out.at_ (n := 0) rfl) hs (n0 := 124) (n1 := 124) (n2 := (b2.toNat : Int)) B.out.1 B.out.2 rfl)) ?_
  have n0 : Aside0 (Fg w w [(g5, 150, c3 124 124 (b2.toNat : Int))] [] _) := ⟨F.out.put (n := 0) rfl (setRow_heap _ _ _ _ _ _ (F.out.at_ (n := 0) rfl)) (below_row _ g5 _) (fun k hk => setRow_other _ _ _ _ hk)⟩
  clear F; have F := n0; clear n0
  generalize World.setRow _ _ _ = w501 at F ⊢
  refine hK.out _ _ ?_
  clear hK K
  refine norm_ (show Act.put _ (some 18) _ = _ from (by simp only [Act.put, pset]; rfl)) ?_
  refine done_ (done_of F128tab4 (by kernel_rfl)) ?_
  clear hHeld
  clear hne hsz B hs
  go_wp2_with (first | ((with_reducible refine gate_dst (N := 19) rfl ?_); refine ld_agg rfl (N := 19) rfl rfl rfl (F.out.at_ (n := 0) rfl) hu150 rfl info150 ?_) | ((with_reducible refine gate_dst (N := 22) rfl ?_); refine val_event rfl (.bool false) (run_e3 rfl rfl rfl (b := false) (by first | rfl | (simp; done) | (simp; omega))) ?_) | ((with_reducible refine gate_dst (N := 24) rfl ?_); refine val_event rfl (.bool false) (run_e3 rfl rfl rfl (b := false) (by first | rfl | (simp; done) | (simp; omega))) ?_) | ((with_reducible refine gate_dst (N := 26) rfl ?_); refine ld_cell rfl (N := 26) (v := .int .u8 124) rfl rfl rfl (F.out.at_ (n := 0) rfl) rfl hu5 rfl ?_) | ((with_reducible refine gate_dst (N := 28) rfl ?_); refine ld_cell rfl (N := 28) (v := .int .u8 124) rfl rfl rfl (F.out.at_ (n := 0) rfl) rfl hu5 rfl ?_) | ((with_reducible refine gate_dst (N := 62) rfl ?_); refine ld_cell rfl (N := 62) (v := .int .u8 124) rfl rfl rfl (F.out.at_ (n := 0) rfl) rfl hu5 rfl ?_) | ((with_reducible refine gate_dst (N := 32) rfl ?_); refine val_event rfl (.bool false) (run_e2 rfl rfl rfl (b := false) (by first | rfl | (simp; done) | (simp; omega))) ?_) | ((with_reducible refine gate_dst (N := 34) rfl ?_); refine val_event rfl (.bool false) (run_e2 rfl rfl rfl (b := false) (by first | rfl | (simp; done) | (simp; omega))) ?_) | ((with_reducible refine gate_dst (N := 36) rfl ?_); refine val_event rfl (.bool false) (run_e2 rfl rfl rfl (b := false) (by first | rfl | (simp; done) | (simp; omega))) ?_) | ((with_reducible refine gate_dst (N := 38) rfl ?_); refine val_event rfl (.bool false) (run_e2 rfl rfl rfl (b := false) (by first | rfl | (simp; done) | (simp; omega))) ?_) | ((with_reducible refine gate_dst (N := 40) rfl ?_); refine val_event rfl (.bool false) (run_e2 rfl rfl rfl (b := false) (by first | rfl | (simp; done) | (simp; omega))) ?_) | ((with_reducible refine gate_dst (N := 42) rfl ?_); refine val_event rfl (.bool false) (run_e2 rfl rfl rfl (b := false) (by first | rfl | (simp; done) | (simp; omega))) ?_) | ((with_reducible refine gate_dst (N := 44) rfl ?_); refine val_event rfl (.bool false) (run_e2 rfl rfl rfl (b := false) (by first | rfl | (simp; done) | (simp; omega))) ?_) | ((with_reducible refine gate_dst (N := 46) rfl ?_); refine val_event rfl (.bool false) (run_e2 rfl rfl rfl (b := false) (by first | rfl | (simp; done) | (simp; omega))) ?_) | ((with_reducible refine gate_dst (N := 48) rfl ?_); refine val_event rfl (.bool false) (run_e2 rfl rfl rfl (b := false) (by first | rfl | (simp; done) | (simp; omega))) ?_) | ((with_reducible refine gate_dst (N := 50) rfl ?_); refine val_event rfl (.bool false) (run_e2 rfl rfl rfl (b := false) (by first | rfl | (simp; done) | (simp; omega))) ?_) | ((with_reducible refine gate_dst (N := 52) rfl ?_); refine val_event rfl (.bool false) (run_e2 rfl rfl rfl (b := false) (by first | rfl | (simp; done) | (simp; omega))) ?_) | ((with_reducible refine gate_dst (N := 54) rfl ?_); refine val_event rfl (.bool false) (run_e2 rfl rfl rfl (b := false) (by first | rfl | (simp; done) | (simp; omega))) ?_) | ((with_reducible refine gate_dst (N := 56) rfl ?_); refine val_event rfl (.bool true) (run_e2 rfl rfl rfl (b := true) (by first | rfl | (simp; done) | (simp; omega))) ?_))
  go_ret
  exact ⟨rfl, F.out.hb⟩
set_option maxHeartbeats 4000000 in
set_option maxRecDepth 100000 in
theorem longest_to {s : ByteArray} {b2 : UInt8} {r : List UInt8} {w : World} (hs : s.data.toList = 45 :: 62 :: b2 :: r) : Calls Tryz.prog 128 #[.string s, .int .i64 0] w fun e w' => e = .returned (.int .i64 2) ∧ Below w.heap.size w w' := by
  have hu150 := Tryz.underlying150
  have hu5 := Tryz.underlying5
  have F := Aside0.mk (Fg.init (Below.refl w.heap.size w))
  have hsz : 3 ≤ s.size := by rw [size_data, hs]; simp
  have hne : ¬ s = ByteArray.empty := by rintro rfl; simp at hsz
  have B := Aside0.mk (show ((45 : UInt8).toNat : Int) = 45 ∧ ((62 : UInt8).toNat : Int) = 62 from ⟨by rfl, by rfl⟩)
  go_enter Tryz.func128, Tryz.ntmps128
  go_upto_region 4 with (first | ((with_reducible refine gate_dst (N := 5) rfl ?_); refine box_event ?hg (N := 5) ?hd (cs := (c3 0 0 0)) (t := 150) ?hr ?_; (case hd => rfl); (case hg => rfl); (case hr => first | (go_simp; done) | (go_simp; rfl)); intro g5 hg w305 hbox hb; have n0 := Aside0.mk (F.out.box hg hbox hb); clear F; have F := n0; clear hbox hb hg))
  refine start_ (n := 5) (S := Bx [(g5, 150, (c3 0 0 0))]) (ds := [4]) (bt 5 0) (by kernel_rfl) rfl (by kernel_rfl) (F.out.below (below_drew1 (Below.refl _ _))).bxs (fun hHeld => ?_)
  have n0 := Aside0.mk (F.out.below (below_drew1 (Below.refl _ _)))
  clear F
  have F := n0
  generalize World.drew _ = w500 at F hHeld ⊢
  refine pure_ (i := 0) (N := some 14) (bt 5 1) rfl rfl (any_of F128tab4 (by kernel_rfl)) (fun _ _ _ h => h) (Or.inl ⟨by rfl, by intro w'; exact run_sl rfl rfl (arr_run g5 w')⟩) (by simp only [Act.put, pset]; rfl) ?_
  refine pure_ (i := 1) (N := some 15) (bt 5 3) rfl rfl (any_of F128tab4 (by kernel_rfl)) (fun _ _ _ h => h) (Or.inl ⟨by rfl, by intro w'; go_simp; with_reducible rfl⟩) (by simp only [Act.put, pset]; rfl) ?_
  refine pure_ (i := 2) (N := some 16) (bt 5 7) rfl rfl (any_of F128tab4 (by kernel_rfl)) (fun _ _ _ h => h) (Or.inl ⟨by rfl, by intro w'; go_simp; with_reducible rfl⟩) (by simp only [Act.put, pset]; rfl) ?_
  refine pure_ (i := 3) (N := some 17) (bt 5 15) rfl rfl (any_of F128tab4 (by kernel_rfl)) (fun _ _ _ h => h) (Or.inl ⟨by rfl, by intro w'; exact run_sl rfl rfl (prefix_run s w')⟩) (by simp only [Act.put, pset]; rfl) ?_
  refine last_ (i := 4) (N := some 18) (bt 5 31) rfl rfl (one_of F128tab4 (by kernel_rfl)) (by decide) (fun K hK => ?_)
  refine event_step (by rfl) (run_cp (A := #[.slice (some ⟨g5, 0, none⟩) 3 3, .string s]) (ty := 3) rfl (by simp only [List.map_toArray, List.map_cons, List.map_nil]; rfl) (run_copy3 (F.out.at_ (n := 0) rfl) hs (n0 := 45) (n1 := 62) (n2 := (b2.toNat : Int)) B.out.1 B.out.2 rfl)) ?_
  have n0 : Aside0 (Fg w w [(g5, 150, c3 45 62 (b2.toNat : Int))] [] _) := ⟨F.out.put (n := 0) rfl (setRow_heap _ _ _ _ _ _ (F.out.at_ (n := 0) rfl)) (below_row _ g5 _) (fun k hk => setRow_other _ _ _ _ hk)⟩
  clear F; have F := n0; clear n0
  generalize World.setRow _ _ _ = w501 at F ⊢
  refine hK.out _ _ ?_
  clear hK K
  refine norm_ (show Act.put _ (some 18) _ = _ from (by simp only [Act.put, pset]; rfl)) ?_
  refine done_ (done_of F128tab4 (by kernel_rfl)) ?_
  clear hHeld
  clear hne hsz B hs
  go_wp2_with (first | ((with_reducible refine gate_dst (N := 19) rfl ?_); refine ld_agg rfl (N := 19) rfl rfl rfl (F.out.at_ (n := 0) rfl) hu150 rfl info150 ?_) | ((with_reducible refine gate_dst (N := 22) rfl ?_); refine val_event rfl (.bool false) (run_e3 rfl rfl rfl (b := false) (by first | rfl | (simp; done) | (simp; omega))) ?_) | ((with_reducible refine gate_dst (N := 24) rfl ?_); refine val_event rfl (.bool false) (run_e3 rfl rfl rfl (b := false) (by first | rfl | (simp; done) | (simp; omega))) ?_) | ((with_reducible refine gate_dst (N := 26) rfl ?_); refine ld_cell rfl (N := 26) (v := .int .u8 45) rfl rfl rfl (F.out.at_ (n := 0) rfl) rfl hu5 rfl ?_) | ((with_reducible refine gate_dst (N := 28) rfl ?_); refine ld_cell rfl (N := 28) (v := .int .u8 62) rfl rfl rfl (F.out.at_ (n := 0) rfl) rfl hu5 rfl ?_) | ((with_reducible refine gate_dst (N := 62) rfl ?_); refine ld_cell rfl (N := 62) (v := .int .u8 45) rfl rfl rfl (F.out.at_ (n := 0) rfl) rfl hu5 rfl ?_) | ((with_reducible refine gate_dst (N := 32) rfl ?_); refine val_event rfl (.bool false) (run_e2 rfl rfl rfl (b := false) (by first | rfl | (simp; done) | (simp; omega))) ?_) | ((with_reducible refine gate_dst (N := 34) rfl ?_); refine val_event rfl (.bool false) (run_e2 rfl rfl rfl (b := false) (by first | rfl | (simp; done) | (simp; omega))) ?_) | ((with_reducible refine gate_dst (N := 36) rfl ?_); refine val_event rfl (.bool true) (run_e2 rfl rfl rfl (b := true) (by first | rfl | (simp; done) | (simp; omega))) ?_))
  go_ret
  exact ⟨rfl, F.out.hb⟩
set_option maxHeartbeats 4000000 in
set_option maxRecDepth 100000 in
theorem longest_from {s : ByteArray} {b2 : UInt8} {r : List UInt8} {w : World} (hs : s.data.toList = 60 :: 45 :: b2 :: r) : Calls Tryz.prog 128 #[.string s, .int .i64 0] w fun e w' => e = .returned (.int .i64 2) ∧ Below w.heap.size w w' := by
  have hu150 := Tryz.underlying150
  have hu5 := Tryz.underlying5
  have F := Aside0.mk (Fg.init (Below.refl w.heap.size w))
  have hsz : 3 ≤ s.size := by rw [size_data, hs]; simp
  have hne : ¬ s = ByteArray.empty := by rintro rfl; simp at hsz
  have B := Aside0.mk (show ((60 : UInt8).toNat : Int) = 60 ∧ ((45 : UInt8).toNat : Int) = 45 from ⟨by rfl, by rfl⟩)
  go_enter Tryz.func128, Tryz.ntmps128
  go_upto_region 4 with (first | ((with_reducible refine gate_dst (N := 5) rfl ?_); refine box_event ?hg (N := 5) ?hd (cs := (c3 0 0 0)) (t := 150) ?hr ?_; (case hd => rfl); (case hg => rfl); (case hr => first | (go_simp; done) | (go_simp; rfl)); intro g5 hg w305 hbox hb; have n0 := Aside0.mk (F.out.box hg hbox hb); clear F; have F := n0; clear hbox hb hg))
  refine start_ (n := 5) (S := Bx [(g5, 150, (c3 0 0 0))]) (ds := [4]) (bt 5 0) (by kernel_rfl) rfl (by kernel_rfl) (F.out.below (below_drew1 (Below.refl _ _))).bxs (fun hHeld => ?_)
  have n0 := Aside0.mk (F.out.below (below_drew1 (Below.refl _ _)))
  clear F
  have F := n0
  generalize World.drew _ = w500 at F hHeld ⊢
  refine pure_ (i := 0) (N := some 14) (bt 5 1) rfl rfl (any_of F128tab4 (by kernel_rfl)) (fun _ _ _ h => h) (Or.inl ⟨by rfl, by intro w'; exact run_sl rfl rfl (arr_run g5 w')⟩) (by simp only [Act.put, pset]; rfl) ?_
  refine pure_ (i := 1) (N := some 15) (bt 5 3) rfl rfl (any_of F128tab4 (by kernel_rfl)) (fun _ _ _ h => h) (Or.inl ⟨by rfl, by intro w'; go_simp; with_reducible rfl⟩) (by simp only [Act.put, pset]; rfl) ?_
  refine pure_ (i := 2) (N := some 16) (bt 5 7) rfl rfl (any_of F128tab4 (by kernel_rfl)) (fun _ _ _ h => h) (Or.inl ⟨by rfl, by intro w'; go_simp; with_reducible rfl⟩) (by simp only [Act.put, pset]; rfl) ?_
  refine pure_ (i := 3) (N := some 17) (bt 5 15) rfl rfl (any_of F128tab4 (by kernel_rfl)) (fun _ _ _ h => h) (Or.inl ⟨by rfl, by intro w'; exact run_sl rfl rfl (prefix_run s w')⟩) (by simp only [Act.put, pset]; rfl) ?_
  refine last_ (i := 4) (N := some 18) (bt 5 31) rfl rfl (one_of F128tab4 (by kernel_rfl)) (by decide) (fun K hK => ?_)
  refine event_step (by rfl) (run_cp (A := #[.slice (some ⟨g5, 0, none⟩) 3 3, .string s]) (ty := 3) rfl (by simp only [List.map_toArray, List.map_cons, List.map_nil]; rfl) (run_copy3 (F.out.at_ (n := 0) rfl) hs (n0 := 60) (n1 := 45) (n2 := (b2.toNat : Int)) B.out.1 B.out.2 rfl)) ?_
  have n0 : Aside0 (Fg w w [(g5, 150, c3 60 45 (b2.toNat : Int))] [] _) := ⟨F.out.put (n := 0) rfl (setRow_heap _ _ _ _ _ _ (F.out.at_ (n := 0) rfl)) (below_row _ g5 _) (fun k hk => setRow_other _ _ _ _ hk)⟩
  clear F; have F := n0; clear n0
  generalize World.setRow _ _ _ = w501 at F ⊢
  refine hK.out _ _ ?_
  clear hK K
  refine norm_ (show Act.put _ (some 18) _ = _ from (by simp only [Act.put, pset]; rfl)) ?_
  refine done_ (done_of F128tab4 (by kernel_rfl)) ?_
  clear hHeld
  clear hne hsz B hs
  go_wp2_with (first | ((with_reducible refine gate_dst (N := 19) rfl ?_); refine ld_agg rfl (N := 19) rfl rfl rfl (F.out.at_ (n := 0) rfl) hu150 rfl info150 ?_) | ((with_reducible refine gate_dst (N := 22) rfl ?_); refine val_event rfl (.bool false) (run_e3 rfl rfl rfl (b := false) (by first | rfl | (simp; done) | (simp; omega))) ?_) | ((with_reducible refine gate_dst (N := 24) rfl ?_); refine val_event rfl (.bool false) (run_e3 rfl rfl rfl (b := false) (by first | rfl | (simp; done) | (simp; omega))) ?_) | ((with_reducible refine gate_dst (N := 26) rfl ?_); refine ld_cell rfl (N := 26) (v := .int .u8 60) rfl rfl rfl (F.out.at_ (n := 0) rfl) rfl hu5 rfl ?_) | ((with_reducible refine gate_dst (N := 28) rfl ?_); refine ld_cell rfl (N := 28) (v := .int .u8 45) rfl rfl rfl (F.out.at_ (n := 0) rfl) rfl hu5 rfl ?_) | ((with_reducible refine gate_dst (N := 62) rfl ?_); refine ld_cell rfl (N := 62) (v := .int .u8 60) rfl rfl rfl (F.out.at_ (n := 0) rfl) rfl hu5 rfl ?_) | ((with_reducible refine gate_dst (N := 32) rfl ?_); refine val_event rfl (.bool false) (run_e2 rfl rfl rfl (b := false) (by first | rfl | (simp; done) | (simp; omega))) ?_) | ((with_reducible refine gate_dst (N := 34) rfl ?_); refine val_event rfl (.bool false) (run_e2 rfl rfl rfl (b := false) (by first | rfl | (simp; done) | (simp; omega))) ?_) | ((with_reducible refine gate_dst (N := 36) rfl ?_); refine val_event rfl (.bool false) (run_e2 rfl rfl rfl (b := false) (by first | rfl | (simp; done) | (simp; omega))) ?_) | ((with_reducible refine gate_dst (N := 38) rfl ?_); refine val_event rfl (.bool true) (run_e2 rfl rfl rfl (b := true) (by first | rfl | (simp; done) | (simp; omega))) ?_))
  go_ret
  exact ⟨rfl, F.out.hb⟩
set_option maxHeartbeats 4000000 in
set_option maxRecDepth 100000 in
theorem longest_cons {s : ByteArray} {b2 : UInt8} {r : List UInt8} {w : World} (hs : s.data.toList = 58 :: 58 :: b2 :: r) : Calls Tryz.prog 128 #[.string s, .int .i64 0] w fun e w' => e = .returned (.int .i64 2) ∧ Below w.heap.size w w' := by
  have hu150 := Tryz.underlying150
  have hu5 := Tryz.underlying5
  have F := Aside0.mk (Fg.init (Below.refl w.heap.size w))
  have hsz : 3 ≤ s.size := by rw [size_data, hs]; simp
  have hne : ¬ s = ByteArray.empty := by rintro rfl; simp at hsz
  have B := Aside0.mk (show ((58 : UInt8).toNat : Int) = 58 ∧ ((58 : UInt8).toNat : Int) = 58 from ⟨by rfl, by rfl⟩)
  go_enter Tryz.func128, Tryz.ntmps128
  go_upto_region 4 with (first | ((with_reducible refine gate_dst (N := 5) rfl ?_); refine box_event ?hg (N := 5) ?hd (cs := (c3 0 0 0)) (t := 150) ?hr ?_; (case hd => rfl); (case hg => rfl); (case hr => first | (go_simp; done) | (go_simp; rfl)); intro g5 hg w305 hbox hb; have n0 := Aside0.mk (F.out.box hg hbox hb); clear F; have F := n0; clear hbox hb hg))
  refine start_ (n := 5) (S := Bx [(g5, 150, (c3 0 0 0))]) (ds := [4]) (bt 5 0) (by kernel_rfl) rfl (by kernel_rfl) (F.out.below (below_drew1 (Below.refl _ _))).bxs (fun hHeld => ?_)
  have n0 := Aside0.mk (F.out.below (below_drew1 (Below.refl _ _)))
  clear F
  have F := n0
  generalize World.drew _ = w500 at F hHeld ⊢
  refine pure_ (i := 0) (N := some 14) (bt 5 1) rfl rfl (any_of F128tab4 (by kernel_rfl)) (fun _ _ _ h => h) (Or.inl ⟨by rfl, by intro w'; exact run_sl rfl rfl (arr_run g5 w')⟩) (by simp only [Act.put, pset]; rfl) ?_
  refine pure_ (i := 1) (N := some 15) (bt 5 3) rfl rfl (any_of F128tab4 (by kernel_rfl)) (fun _ _ _ h => h) (Or.inl ⟨by rfl, by intro w'; go_simp; with_reducible rfl⟩) (by simp only [Act.put, pset]; rfl) ?_
  refine pure_ (i := 2) (N := some 16) (bt 5 7) rfl rfl (any_of F128tab4 (by kernel_rfl)) (fun _ _ _ h => h) (Or.inl ⟨by rfl, by intro w'; go_simp; with_reducible rfl⟩) (by simp only [Act.put, pset]; rfl) ?_
  refine pure_ (i := 3) (N := some 17) (bt 5 15) rfl rfl (any_of F128tab4 (by kernel_rfl)) (fun _ _ _ h => h) (Or.inl ⟨by rfl, by intro w'; exact run_sl rfl rfl (prefix_run s w')⟩) (by simp only [Act.put, pset]; rfl) ?_
  refine last_ (i := 4) (N := some 18) (bt 5 31) rfl rfl (one_of F128tab4 (by kernel_rfl)) (by decide) (fun K hK => ?_)
  refine event_step (by rfl) (run_cp (A := #[.slice (some ⟨g5, 0, none⟩) 3 3, .string s]) (ty := 3) rfl (by simp only [List.map_toArray, List.map_cons, List.map_nil]; rfl) (run_copy3 (F.out.at_ (n := 0) rfl) hs (n0 := 58) (n1 := 58) (n2 := (b2.toNat : Int)) B.out.1 B.out.2 rfl)) ?_
  have n0 : Aside0 (Fg w w [(g5, 150, c3 58 58 (b2.toNat : Int))] [] _) := ⟨F.out.put (n := 0) rfl (setRow_heap _ _ _ _ _ _ (F.out.at_ (n := 0) rfl)) (below_row _ g5 _) (fun k hk => setRow_other _ _ _ _ hk)⟩
  clear F; have F := n0; clear n0
  generalize World.setRow _ _ _ = w501 at F ⊢
  refine hK.out _ _ ?_
  clear hK K
  refine norm_ (show Act.put _ (some 18) _ = _ from (by simp only [Act.put, pset]; rfl)) ?_
  refine done_ (done_of F128tab4 (by kernel_rfl)) ?_
  clear hHeld
  clear hne hsz B hs
  go_wp2_with (first | ((with_reducible refine gate_dst (N := 19) rfl ?_); refine ld_agg rfl (N := 19) rfl rfl rfl (F.out.at_ (n := 0) rfl) hu150 rfl info150 ?_) | ((with_reducible refine gate_dst (N := 22) rfl ?_); refine val_event rfl (.bool false) (run_e3 rfl rfl rfl (b := false) (by first | rfl | (simp; done) | (simp; omega))) ?_) | ((with_reducible refine gate_dst (N := 24) rfl ?_); refine val_event rfl (.bool false) (run_e3 rfl rfl rfl (b := false) (by first | rfl | (simp; done) | (simp; omega))) ?_) | ((with_reducible refine gate_dst (N := 26) rfl ?_); refine ld_cell rfl (N := 26) (v := .int .u8 58) rfl rfl rfl (F.out.at_ (n := 0) rfl) rfl hu5 rfl ?_) | ((with_reducible refine gate_dst (N := 28) rfl ?_); refine ld_cell rfl (N := 28) (v := .int .u8 58) rfl rfl rfl (F.out.at_ (n := 0) rfl) rfl hu5 rfl ?_) | ((with_reducible refine gate_dst (N := 62) rfl ?_); refine ld_cell rfl (N := 62) (v := .int .u8 58) rfl rfl rfl (F.out.at_ (n := 0) rfl) rfl hu5 rfl ?_) | ((with_reducible refine gate_dst (N := 32) rfl ?_); refine val_event rfl (.bool false) (run_e2 rfl rfl rfl (b := false) (by first | rfl | (simp; done) | (simp; omega))) ?_) | ((with_reducible refine gate_dst (N := 34) rfl ?_); refine val_event rfl (.bool false) (run_e2 rfl rfl rfl (b := false) (by first | rfl | (simp; done) | (simp; omega))) ?_) | ((with_reducible refine gate_dst (N := 36) rfl ?_); refine val_event rfl (.bool false) (run_e2 rfl rfl rfl (b := false) (by first | rfl | (simp; done) | (simp; omega))) ?_) | ((with_reducible refine gate_dst (N := 38) rfl ?_); refine val_event rfl (.bool false) (run_e2 rfl rfl rfl (b := false) (by first | rfl | (simp; done) | (simp; omega))) ?_) | ((with_reducible refine gate_dst (N := 40) rfl ?_); refine val_event rfl (.bool false) (run_e2 rfl rfl rfl (b := false) (by first | rfl | (simp; done) | (simp; omega))) ?_) | ((with_reducible refine gate_dst (N := 42) rfl ?_); refine val_event rfl (.bool false) (run_e2 rfl rfl rfl (b := false) (by first | rfl | (simp; done) | (simp; omega))) ?_) | ((with_reducible refine gate_dst (N := 44) rfl ?_); refine val_event rfl (.bool false) (run_e2 rfl rfl rfl (b := false) (by first | rfl | (simp; done) | (simp; omega))) ?_) | ((with_reducible refine gate_dst (N := 46) rfl ?_); refine val_event rfl (.bool true) (run_e2 rfl rfl rfl (b := true) (by first | rfl | (simp; done) | (simp; omega))) ?_))
  go_ret
  exact ⟨rfl, F.out.hb⟩
set_option maxHeartbeats 4000000 in
set_option maxRecDepth 100000 in
theorem longest_open {s : ByteArray} {b1 b2 : UInt8} {r : List UInt8} {w : World} (hs : s.data.toList = 40 :: b1 :: b2 :: r) : Calls Tryz.prog 128 #[.string s, .int .i64 0] w fun e w' => e = .returned (.int .i64 1) ∧ Below w.heap.size w w' := by
  have hu150 := Tryz.underlying150
  have hu5 := Tryz.underlying5
  have F := Aside0.mk (Fg.init (Below.refl w.heap.size w))
  have hsz : 3 ≤ s.size := by rw [size_data, hs]; simp
  have hne : ¬ s = ByteArray.empty := by rintro rfl; simp at hsz
  have B := Aside0.mk (show ((40 : UInt8).toNat : Int) = 40 ∧ ((b1 : UInt8).toNat : Int) = (b1.toNat : Int) from ⟨by rfl, by rfl⟩)
  go_enter Tryz.func128, Tryz.ntmps128
  go_upto_region 4 with (first | ((with_reducible refine gate_dst (N := 5) rfl ?_); refine box_event ?hg (N := 5) ?hd (cs := (c3 0 0 0)) (t := 150) ?hr ?_; (case hd => rfl); (case hg => rfl); (case hr => first | (go_simp; done) | (go_simp; rfl)); intro g5 hg w305 hbox hb; have n0 := Aside0.mk (F.out.box hg hbox hb); clear F; have F := n0; clear hbox hb hg))
  refine start_ (n := 5) (S := Bx [(g5, 150, (c3 0 0 0))]) (ds := [4]) (bt 5 0) (by kernel_rfl) rfl (by kernel_rfl) (F.out.below (below_drew1 (Below.refl _ _))).bxs (fun hHeld => ?_)
  have n0 := Aside0.mk (F.out.below (below_drew1 (Below.refl _ _)))
  clear F
  have F := n0
  generalize World.drew _ = w500 at F hHeld ⊢
  refine pure_ (i := 0) (N := some 14) (bt 5 1) rfl rfl (any_of F128tab4 (by kernel_rfl)) (fun _ _ _ h => h) (Or.inl ⟨by rfl, by intro w'; exact run_sl rfl rfl (arr_run g5 w')⟩) (by simp only [Act.put, pset]; rfl) ?_
  refine pure_ (i := 1) (N := some 15) (bt 5 3) rfl rfl (any_of F128tab4 (by kernel_rfl)) (fun _ _ _ h => h) (Or.inl ⟨by rfl, by intro w'; go_simp; with_reducible rfl⟩) (by simp only [Act.put, pset]; rfl) ?_
  refine pure_ (i := 2) (N := some 16) (bt 5 7) rfl rfl (any_of F128tab4 (by kernel_rfl)) (fun _ _ _ h => h) (Or.inl ⟨by rfl, by intro w'; go_simp; with_reducible rfl⟩) (by simp only [Act.put, pset]; rfl) ?_
  refine pure_ (i := 3) (N := some 17) (bt 5 15) rfl rfl (any_of F128tab4 (by kernel_rfl)) (fun _ _ _ h => h) (Or.inl ⟨by rfl, by intro w'; exact run_sl rfl rfl (prefix_run s w')⟩) (by simp only [Act.put, pset]; rfl) ?_
  refine last_ (i := 4) (N := some 18) (bt 5 31) rfl rfl (one_of F128tab4 (by kernel_rfl)) (by decide) (fun K hK => ?_)
  refine event_step (by rfl) (run_cp (A := #[.slice (some ⟨g5, 0, none⟩) 3 3, .string s]) (ty := 3) rfl (by simp only [List.map_toArray, List.map_cons, List.map_nil]; rfl) (run_copy3 (F.out.at_ (n := 0) rfl) hs (n0 := 40) (n1 := (b1.toNat : Int)) (n2 := (b2.toNat : Int)) B.out.1 B.out.2 rfl)) ?_
  have n0 : Aside0 (Fg w w [(g5, 150, c3 40 (b1.toNat : Int) (b2.toNat : Int))] [] _) := ⟨F.out.put (n := 0) rfl (setRow_heap _ _ _ _ _ _ (F.out.at_ (n := 0) rfl)) (below_row _ g5 _) (fun k hk => setRow_other _ _ _ _ hk)⟩
  clear F; have F := n0; clear n0
  generalize World.setRow _ _ _ = w501 at F ⊢
  refine hK.out _ _ ?_
  clear hK K
  refine norm_ (show Act.put _ (some 18) _ = _ from (by simp only [Act.put, pset]; rfl)) ?_
  refine done_ (done_of F128tab4 (by kernel_rfl)) ?_
  clear hHeld
  clear hne hsz B hs
  go_wp2_with (first | ((with_reducible refine gate_dst (N := 19) rfl ?_); refine ld_agg rfl (N := 19) rfl rfl rfl (F.out.at_ (n := 0) rfl) hu150 rfl info150 ?_) | ((with_reducible refine gate_dst (N := 22) rfl ?_); refine val_event rfl (.bool false) (run_e3 rfl rfl rfl (b := false) (by first | rfl | (simp; done) | (simp; omega))) ?_) | ((with_reducible refine gate_dst (N := 24) rfl ?_); refine val_event rfl (.bool false) (run_e3 rfl rfl rfl (b := false) (by first | rfl | (simp; done) | (simp; omega))) ?_) | ((with_reducible refine gate_dst (N := 26) rfl ?_); refine ld_cell rfl (N := 26) (v := .int .u8 40) rfl rfl rfl (F.out.at_ (n := 0) rfl) rfl hu5 rfl ?_) | ((with_reducible refine gate_dst (N := 28) rfl ?_); refine ld_cell rfl (N := 28) (v := .int .u8 (b1.toNat : Int)) rfl rfl rfl (F.out.at_ (n := 0) rfl) rfl hu5 rfl ?_) | ((with_reducible refine gate_dst (N := 62) rfl ?_); refine ld_cell rfl (N := 62) (v := .int .u8 40) rfl rfl rfl (F.out.at_ (n := 0) rfl) rfl hu5 rfl ?_) | ((with_reducible refine gate_dst (N := 32) rfl ?_); refine val_event rfl (.bool false) (run_e2 rfl rfl rfl (b := false) (by first | rfl | (simp; done) | (simp; omega))) ?_) | ((with_reducible refine gate_dst (N := 34) rfl ?_); refine val_event rfl (.bool false) (run_e2 rfl rfl rfl (b := false) (by first | rfl | (simp; done) | (simp; omega))) ?_) | ((with_reducible refine gate_dst (N := 36) rfl ?_); refine val_event rfl (.bool false) (run_e2 rfl rfl rfl (b := false) (by first | rfl | (simp; done) | (simp; omega))) ?_) | ((with_reducible refine gate_dst (N := 38) rfl ?_); refine val_event rfl (.bool false) (run_e2 rfl rfl rfl (b := false) (by first | rfl | (simp; done) | (simp; omega))) ?_) | ((with_reducible refine gate_dst (N := 40) rfl ?_); refine val_event rfl (.bool false) (run_e2 rfl rfl rfl (b := false) (by first | rfl | (simp; done) | (simp; omega))) ?_) | ((with_reducible refine gate_dst (N := 42) rfl ?_); refine val_event rfl (.bool false) (run_e2 rfl rfl rfl (b := false) (by first | rfl | (simp; done) | (simp; omega))) ?_) | ((with_reducible refine gate_dst (N := 44) rfl ?_); refine val_event rfl (.bool false) (run_e2 rfl rfl rfl (b := false) (by first | rfl | (simp; done) | (simp; omega))) ?_) | ((with_reducible refine gate_dst (N := 46) rfl ?_); refine val_event rfl (.bool false) (run_e2 rfl rfl rfl (b := false) (by first | rfl | (simp; done) | (simp; omega))) ?_) | ((with_reducible refine gate_dst (N := 48) rfl ?_); refine val_event rfl (.bool false) (run_e2 rfl rfl rfl (b := false) (by first | rfl | (simp; done) | (simp; omega))) ?_) | ((with_reducible refine gate_dst (N := 50) rfl ?_); refine val_event rfl (.bool false) (run_e2 rfl rfl rfl (b := false) (by first | rfl | (simp; done) | (simp; omega))) ?_) | ((with_reducible refine gate_dst (N := 52) rfl ?_); refine val_event rfl (.bool false) (run_e2 rfl rfl rfl (b := false) (by first | rfl | (simp; done) | (simp; omega))) ?_) | ((with_reducible refine gate_dst (N := 54) rfl ?_); refine val_event rfl (.bool false) (run_e2 rfl rfl rfl (b := false) (by first | rfl | (simp; done) | (simp; omega))) ?_) | ((with_reducible refine gate_dst (N := 56) rfl ?_); refine val_event rfl (.bool false) (run_e2 rfl rfl rfl (b := false) (by first | rfl | (simp; done) | (simp; omega))) ?_) | ((with_reducible refine gate_dst (N := 58) rfl ?_); refine val_event rfl (.bool false) (run_e2 rfl rfl rfl (b := false) (by first | rfl | (simp; done) | (simp; omega))) ?_) | ((with_reducible refine gate_dst (N := 60) rfl ?_); refine val_event rfl (.bool false) (run_e2 rfl rfl rfl (b := false) (by first | rfl | (simp; done) | (simp; omega))) ?_))
  go_ret
  exact ⟨rfl, F.out.hb⟩
set_option maxHeartbeats 4000000 in
set_option maxRecDepth 100000 in
theorem longest_close {s : ByteArray} {b1 b2 : UInt8} {r : List UInt8} {w : World} (hs : s.data.toList = 41 :: b1 :: b2 :: r) : Calls Tryz.prog 128 #[.string s, .int .i64 0] w fun e w' => e = .returned (.int .i64 1) ∧ Below w.heap.size w w' := by
  have hu150 := Tryz.underlying150
  have hu5 := Tryz.underlying5
  have F := Aside0.mk (Fg.init (Below.refl w.heap.size w))
  have hsz : 3 ≤ s.size := by rw [size_data, hs]; simp
  have hne : ¬ s = ByteArray.empty := by rintro rfl; simp at hsz
  have B := Aside0.mk (show ((41 : UInt8).toNat : Int) = 41 ∧ ((b1 : UInt8).toNat : Int) = (b1.toNat : Int) from ⟨by rfl, by rfl⟩)
  go_enter Tryz.func128, Tryz.ntmps128
  go_upto_region 4 with (first | ((with_reducible refine gate_dst (N := 5) rfl ?_); refine box_event ?hg (N := 5) ?hd (cs := (c3 0 0 0)) (t := 150) ?hr ?_; (case hd => rfl); (case hg => rfl); (case hr => first | (go_simp; done) | (go_simp; rfl)); intro g5 hg w305 hbox hb; have n0 := Aside0.mk (F.out.box hg hbox hb); clear F; have F := n0; clear hbox hb hg))
  refine start_ (n := 5) (S := Bx [(g5, 150, (c3 0 0 0))]) (ds := [4]) (bt 5 0) (by kernel_rfl) rfl (by kernel_rfl) (F.out.below (below_drew1 (Below.refl _ _))).bxs (fun hHeld => ?_)
  have n0 := Aside0.mk (F.out.below (below_drew1 (Below.refl _ _)))
  clear F
  have F := n0
  generalize World.drew _ = w500 at F hHeld ⊢
  refine pure_ (i := 0) (N := some 14) (bt 5 1) rfl rfl (any_of F128tab4 (by kernel_rfl)) (fun _ _ _ h => h) (Or.inl ⟨by rfl, by intro w'; exact run_sl rfl rfl (arr_run g5 w')⟩) (by simp only [Act.put, pset]; rfl) ?_
  refine pure_ (i := 1) (N := some 15) (bt 5 3) rfl rfl (any_of F128tab4 (by kernel_rfl)) (fun _ _ _ h => h) (Or.inl ⟨by rfl, by intro w'; go_simp; with_reducible rfl⟩) (by simp only [Act.put, pset]; rfl) ?_
  refine pure_ (i := 2) (N := some 16) (bt 5 7) rfl rfl (any_of F128tab4 (by kernel_rfl)) (fun _ _ _ h => h) (Or.inl ⟨by rfl, by intro w'; go_simp; with_reducible rfl⟩) (by simp only [Act.put, pset]; rfl) ?_
  refine pure_ (i := 3) (N := some 17) (bt 5 15) rfl rfl (any_of F128tab4 (by kernel_rfl)) (fun _ _ _ h => h) (Or.inl ⟨by rfl, by intro w'; exact run_sl rfl rfl (prefix_run s w')⟩) (by simp only [Act.put, pset]; rfl) ?_
  refine last_ (i := 4) (N := some 18) (bt 5 31) rfl rfl (one_of F128tab4 (by kernel_rfl)) (by decide) (fun K hK => ?_)
  refine event_step (by rfl) (run_cp (A := #[.slice (some ⟨g5, 0, none⟩) 3 3, .string s]) (ty := 3) rfl (by simp only [List.map_toArray, List.map_cons, List.map_nil]; rfl) (run_copy3 (F.out.at_ (n := 0) rfl) hs (n0 := 41) (n1 := (b1.toNat : Int)) (n2 := (b2.toNat : Int)) B.out.1 B.out.2 rfl)) ?_
  have n0 : Aside0 (Fg w w [(g5, 150, c3 41 (b1.toNat : Int) (b2.toNat : Int))] [] _) := ⟨F.out.put (n := 0) rfl (setRow_heap _ _ _ _ _ _ (F.out.at_ (n := 0) rfl)) (below_row _ g5 _) (fun k hk => setRow_other _ _ _ _ hk)⟩
  clear F; have F := n0; clear n0
  generalize World.setRow _ _ _ = w501 at F ⊢
  refine hK.out _ _ ?_
  clear hK K
  refine norm_ (show Act.put _ (some 18) _ = _ from (by simp only [Act.put, pset]; rfl)) ?_
  refine done_ (done_of F128tab4 (by kernel_rfl)) ?_
  clear hHeld
  clear hne hsz B hs
  go_wp2_with (first | ((with_reducible refine gate_dst (N := 19) rfl ?_); refine ld_agg rfl (N := 19) rfl rfl rfl (F.out.at_ (n := 0) rfl) hu150 rfl info150 ?_) | ((with_reducible refine gate_dst (N := 22) rfl ?_); refine val_event rfl (.bool false) (run_e3 rfl rfl rfl (b := false) (by first | rfl | (simp; done) | (simp; omega))) ?_) | ((with_reducible refine gate_dst (N := 24) rfl ?_); refine val_event rfl (.bool false) (run_e3 rfl rfl rfl (b := false) (by first | rfl | (simp; done) | (simp; omega))) ?_) | ((with_reducible refine gate_dst (N := 26) rfl ?_); refine ld_cell rfl (N := 26) (v := .int .u8 41) rfl rfl rfl (F.out.at_ (n := 0) rfl) rfl hu5 rfl ?_) | ((with_reducible refine gate_dst (N := 28) rfl ?_); refine ld_cell rfl (N := 28) (v := .int .u8 (b1.toNat : Int)) rfl rfl rfl (F.out.at_ (n := 0) rfl) rfl hu5 rfl ?_) | ((with_reducible refine gate_dst (N := 62) rfl ?_); refine ld_cell rfl (N := 62) (v := .int .u8 41) rfl rfl rfl (F.out.at_ (n := 0) rfl) rfl hu5 rfl ?_) | ((with_reducible refine gate_dst (N := 32) rfl ?_); refine val_event rfl (.bool false) (run_e2 rfl rfl rfl (b := false) (by first | rfl | (simp; done) | (simp; omega))) ?_) | ((with_reducible refine gate_dst (N := 34) rfl ?_); refine val_event rfl (.bool false) (run_e2 rfl rfl rfl (b := false) (by first | rfl | (simp; done) | (simp; omega))) ?_) | ((with_reducible refine gate_dst (N := 36) rfl ?_); refine val_event rfl (.bool false) (run_e2 rfl rfl rfl (b := false) (by first | rfl | (simp; done) | (simp; omega))) ?_) | ((with_reducible refine gate_dst (N := 38) rfl ?_); refine val_event rfl (.bool false) (run_e2 rfl rfl rfl (b := false) (by first | rfl | (simp; done) | (simp; omega))) ?_) | ((with_reducible refine gate_dst (N := 40) rfl ?_); refine val_event rfl (.bool false) (run_e2 rfl rfl rfl (b := false) (by first | rfl | (simp; done) | (simp; omega))) ?_) | ((with_reducible refine gate_dst (N := 42) rfl ?_); refine val_event rfl (.bool false) (run_e2 rfl rfl rfl (b := false) (by first | rfl | (simp; done) | (simp; omega))) ?_) | ((with_reducible refine gate_dst (N := 44) rfl ?_); refine val_event rfl (.bool false) (run_e2 rfl rfl rfl (b := false) (by first | rfl | (simp; done) | (simp; omega))) ?_) | ((with_reducible refine gate_dst (N := 46) rfl ?_); refine val_event rfl (.bool false) (run_e2 rfl rfl rfl (b := false) (by first | rfl | (simp; done) | (simp; omega))) ?_) | ((with_reducible refine gate_dst (N := 48) rfl ?_); refine val_event rfl (.bool false) (run_e2 rfl rfl rfl (b := false) (by first | rfl | (simp; done) | (simp; omega))) ?_) | ((with_reducible refine gate_dst (N := 50) rfl ?_); refine val_event rfl (.bool false) (run_e2 rfl rfl rfl (b := false) (by first | rfl | (simp; done) | (simp; omega))) ?_) | ((with_reducible refine gate_dst (N := 52) rfl ?_); refine val_event rfl (.bool false) (run_e2 rfl rfl rfl (b := false) (by first | rfl | (simp; done) | (simp; omega))) ?_) | ((with_reducible refine gate_dst (N := 54) rfl ?_); refine val_event rfl (.bool false) (run_e2 rfl rfl rfl (b := false) (by first | rfl | (simp; done) | (simp; omega))) ?_) | ((with_reducible refine gate_dst (N := 56) rfl ?_); refine val_event rfl (.bool false) (run_e2 rfl rfl rfl (b := false) (by first | rfl | (simp; done) | (simp; omega))) ?_) | ((with_reducible refine gate_dst (N := 58) rfl ?_); refine val_event rfl (.bool false) (run_e2 rfl rfl rfl (b := false) (by first | rfl | (simp; done) | (simp; omega))) ?_) | ((with_reducible refine gate_dst (N := 60) rfl ?_); refine val_event rfl (.bool false) (run_e2 rfl rfl rfl (b := false) (by first | rfl | (simp; done) | (simp; omega))) ?_))
  go_ret
  exact ⟨rfl, F.out.hb⟩
set_option maxHeartbeats 4000000 in
set_option maxRecDepth 100000 in
theorem longest_brack {s : ByteArray} {b1 b2 : UInt8} {r : List UInt8} {w : World} (hs : s.data.toList = 91 :: b1 :: b2 :: r) : Calls Tryz.prog 128 #[.string s, .int .i64 0] w fun e w' => e = .returned (.int .i64 1) ∧ Below w.heap.size w w' := by
  have hu150 := Tryz.underlying150
  have hu5 := Tryz.underlying5
  have F := Aside0.mk (Fg.init (Below.refl w.heap.size w))
  have hsz : 3 ≤ s.size := by rw [size_data, hs]; simp
  have hne : ¬ s = ByteArray.empty := by rintro rfl; simp at hsz
  have B := Aside0.mk (show ((91 : UInt8).toNat : Int) = 91 ∧ ((b1 : UInt8).toNat : Int) = (b1.toNat : Int) from ⟨by rfl, by rfl⟩)
  go_enter Tryz.func128, Tryz.ntmps128
  go_upto_region 4 with (first | ((with_reducible refine gate_dst (N := 5) rfl ?_); refine box_event ?hg (N := 5) ?hd (cs := (c3 0 0 0)) (t := 150) ?hr ?_; (case hd => rfl); (case hg => rfl); (case hr => first | (go_simp; done) | (go_simp; rfl)); intro g5 hg w305 hbox hb; have n0 := Aside0.mk (F.out.box hg hbox hb); clear F; have F := n0; clear hbox hb hg))
  refine start_ (n := 5) (S := Bx [(g5, 150, (c3 0 0 0))]) (ds := [4]) (bt 5 0) (by kernel_rfl) rfl (by kernel_rfl) (F.out.below (below_drew1 (Below.refl _ _))).bxs (fun hHeld => ?_)
  have n0 := Aside0.mk (F.out.below (below_drew1 (Below.refl _ _)))
  clear F
  have F := n0
  generalize World.drew _ = w500 at F hHeld ⊢
  refine pure_ (i := 0) (N := some 14) (bt 5 1) rfl rfl (any_of F128tab4 (by kernel_rfl)) (fun _ _ _ h => h) (Or.inl ⟨by rfl, by intro w'; exact run_sl rfl rfl (arr_run g5 w')⟩) (by simp only [Act.put, pset]; rfl) ?_
  refine pure_ (i := 1) (N := some 15) (bt 5 3) rfl rfl (any_of F128tab4 (by kernel_rfl)) (fun _ _ _ h => h) (Or.inl ⟨by rfl, by intro w'; go_simp; with_reducible rfl⟩) (by simp only [Act.put, pset]; rfl) ?_
  refine pure_ (i := 2) (N := some 16) (bt 5 7) rfl rfl (any_of F128tab4 (by kernel_rfl)) (fun _ _ _ h => h) (Or.inl ⟨by rfl, by intro w'; go_simp; with_reducible rfl⟩) (by simp only [Act.put, pset]; rfl) ?_
  refine pure_ (i := 3) (N := some 17) (bt 5 15) rfl rfl (any_of F128tab4 (by kernel_rfl)) (fun _ _ _ h => h) (Or.inl ⟨by rfl, by intro w'; exact run_sl rfl rfl (prefix_run s w')⟩) (by simp only [Act.put, pset]; rfl) ?_
  refine last_ (i := 4) (N := some 18) (bt 5 31) rfl rfl (one_of F128tab4 (by kernel_rfl)) (by decide) (fun K hK => ?_)
  refine event_step (by rfl) (run_cp (A := #[.slice (some ⟨g5, 0, none⟩) 3 3, .string s]) (ty := 3) rfl (by simp only [List.map_toArray, List.map_cons, List.map_nil]; rfl) (run_copy3 (F.out.at_ (n := 0) rfl) hs (n0 := 91) (n1 := (b1.toNat : Int)) (n2 := (b2.toNat : Int)) B.out.1 B.out.2 rfl)) ?_
  have n0 : Aside0 (Fg w w [(g5, 150, c3 91 (b1.toNat : Int) (b2.toNat : Int))] [] _) := ⟨F.out.put (n := 0) rfl (setRow_heap _ _ _ _ _ _ (F.out.at_ (n := 0) rfl)) (below_row _ g5 _) (fun k hk => setRow_other _ _ _ _ hk)⟩
  clear F; have F := n0; clear n0
  generalize World.setRow _ _ _ = w501 at F ⊢
  refine hK.out _ _ ?_
  clear hK K
  refine norm_ (show Act.put _ (some 18) _ = _ from (by simp only [Act.put, pset]; rfl)) ?_
  refine done_ (done_of F128tab4 (by kernel_rfl)) ?_
  clear hHeld
  clear hne hsz B hs
  go_wp2_with (first | ((with_reducible refine gate_dst (N := 19) rfl ?_); refine ld_agg rfl (N := 19) rfl rfl rfl (F.out.at_ (n := 0) rfl) hu150 rfl info150 ?_) | ((with_reducible refine gate_dst (N := 22) rfl ?_); refine val_event rfl (.bool false) (run_e3 rfl rfl rfl (b := false) (by first | rfl | (simp; done) | (simp; omega))) ?_) | ((with_reducible refine gate_dst (N := 24) rfl ?_); refine val_event rfl (.bool false) (run_e3 rfl rfl rfl (b := false) (by first | rfl | (simp; done) | (simp; omega))) ?_) | ((with_reducible refine gate_dst (N := 26) rfl ?_); refine ld_cell rfl (N := 26) (v := .int .u8 91) rfl rfl rfl (F.out.at_ (n := 0) rfl) rfl hu5 rfl ?_) | ((with_reducible refine gate_dst (N := 28) rfl ?_); refine ld_cell rfl (N := 28) (v := .int .u8 (b1.toNat : Int)) rfl rfl rfl (F.out.at_ (n := 0) rfl) rfl hu5 rfl ?_) | ((with_reducible refine gate_dst (N := 62) rfl ?_); refine ld_cell rfl (N := 62) (v := .int .u8 91) rfl rfl rfl (F.out.at_ (n := 0) rfl) rfl hu5 rfl ?_) | ((with_reducible refine gate_dst (N := 32) rfl ?_); refine val_event rfl (.bool false) (run_e2 rfl rfl rfl (b := false) (by first | rfl | (simp; done) | (simp; omega))) ?_) | ((with_reducible refine gate_dst (N := 34) rfl ?_); refine val_event rfl (.bool false) (run_e2 rfl rfl rfl (b := false) (by first | rfl | (simp; done) | (simp; omega))) ?_) | ((with_reducible refine gate_dst (N := 36) rfl ?_); refine val_event rfl (.bool false) (run_e2 rfl rfl rfl (b := false) (by first | rfl | (simp; done) | (simp; omega))) ?_) | ((with_reducible refine gate_dst (N := 38) rfl ?_); refine val_event rfl (.bool false) (run_e2 rfl rfl rfl (b := false) (by first | rfl | (simp; done) | (simp; omega))) ?_) | ((with_reducible refine gate_dst (N := 40) rfl ?_); refine val_event rfl (.bool false) (run_e2 rfl rfl rfl (b := false) (by first | rfl | (simp; done) | (simp; omega))) ?_) | ((with_reducible refine gate_dst (N := 42) rfl ?_); refine val_event rfl (.bool false) (run_e2 rfl rfl rfl (b := false) (by first | rfl | (simp; done) | (simp; omega))) ?_) | ((with_reducible refine gate_dst (N := 44) rfl ?_); refine val_event rfl (.bool false) (run_e2 rfl rfl rfl (b := false) (by first | rfl | (simp; done) | (simp; omega))) ?_) | ((with_reducible refine gate_dst (N := 46) rfl ?_); refine val_event rfl (.bool false) (run_e2 rfl rfl rfl (b := false) (by first | rfl | (simp; done) | (simp; omega))) ?_) | ((with_reducible refine gate_dst (N := 48) rfl ?_); refine val_event rfl (.bool false) (run_e2 rfl rfl rfl (b := false) (by first | rfl | (simp; done) | (simp; omega))) ?_) | ((with_reducible refine gate_dst (N := 50) rfl ?_); refine val_event rfl (.bool false) (run_e2 rfl rfl rfl (b := false) (by first | rfl | (simp; done) | (simp; omega))) ?_) | ((with_reducible refine gate_dst (N := 52) rfl ?_); refine val_event rfl (.bool false) (run_e2 rfl rfl rfl (b := false) (by first | rfl | (simp; done) | (simp; omega))) ?_) | ((with_reducible refine gate_dst (N := 54) rfl ?_); refine val_event rfl (.bool false) (run_e2 rfl rfl rfl (b := false) (by first | rfl | (simp; done) | (simp; omega))) ?_) | ((with_reducible refine gate_dst (N := 56) rfl ?_); refine val_event rfl (.bool false) (run_e2 rfl rfl rfl (b := false) (by first | rfl | (simp; done) | (simp; omega))) ?_) | ((with_reducible refine gate_dst (N := 58) rfl ?_); refine val_event rfl (.bool false) (run_e2 rfl rfl rfl (b := false) (by first | rfl | (simp; done) | (simp; omega))) ?_) | ((with_reducible refine gate_dst (N := 60) rfl ?_); refine val_event rfl (.bool false) (run_e2 rfl rfl rfl (b := false) (by first | rfl | (simp; done) | (simp; omega))) ?_))
  go_ret
  exact ⟨rfl, F.out.hb⟩
set_option maxHeartbeats 4000000 in
set_option maxRecDepth 100000 in
theorem longest_kcarb {s : ByteArray} {b1 b2 : UInt8} {r : List UInt8} {w : World} (hs : s.data.toList = 93 :: b1 :: b2 :: r) : Calls Tryz.prog 128 #[.string s, .int .i64 0] w fun e w' => e = .returned (.int .i64 1) ∧ Below w.heap.size w w' := by
  have hu150 := Tryz.underlying150
  have hu5 := Tryz.underlying5
  have F := Aside0.mk (Fg.init (Below.refl w.heap.size w))
  have hsz : 3 ≤ s.size := by rw [size_data, hs]; simp
  have hne : ¬ s = ByteArray.empty := by rintro rfl; simp at hsz
  have B := Aside0.mk (show ((93 : UInt8).toNat : Int) = 93 ∧ ((b1 : UInt8).toNat : Int) = (b1.toNat : Int) from ⟨by rfl, by rfl⟩)
  go_enter Tryz.func128, Tryz.ntmps128
  go_upto_region 4 with (first | ((with_reducible refine gate_dst (N := 5) rfl ?_); refine box_event ?hg (N := 5) ?hd (cs := (c3 0 0 0)) (t := 150) ?hr ?_; (case hd => rfl); (case hg => rfl); (case hr => first | (go_simp; done) | (go_simp; rfl)); intro g5 hg w305 hbox hb; have n0 := Aside0.mk (F.out.box hg hbox hb); clear F; have F := n0; clear hbox hb hg))
  refine start_ (n := 5) (S := Bx [(g5, 150, (c3 0 0 0))]) (ds := [4]) (bt 5 0) (by kernel_rfl) rfl (by kernel_rfl) (F.out.below (below_drew1 (Below.refl _ _))).bxs (fun hHeld => ?_)
  have n0 := Aside0.mk (F.out.below (below_drew1 (Below.refl _ _)))
  clear F
  have F := n0
  generalize World.drew _ = w500 at F hHeld ⊢
  refine pure_ (i := 0) (N := some 14) (bt 5 1) rfl rfl (any_of F128tab4 (by kernel_rfl)) (fun _ _ _ h => h) (Or.inl ⟨by rfl, by intro w'; exact run_sl rfl rfl (arr_run g5 w')⟩) (by simp only [Act.put, pset]; rfl) ?_
  refine pure_ (i := 1) (N := some 15) (bt 5 3) rfl rfl (any_of F128tab4 (by kernel_rfl)) (fun _ _ _ h => h) (Or.inl ⟨by rfl, by intro w'; go_simp; with_reducible rfl⟩) (by simp only [Act.put, pset]; rfl) ?_
  refine pure_ (i := 2) (N := some 16) (bt 5 7) rfl rfl (any_of F128tab4 (by kernel_rfl)) (fun _ _ _ h => h) (Or.inl ⟨by rfl, by intro w'; go_simp; with_reducible rfl⟩) (by simp only [Act.put, pset]; rfl) ?_
  refine pure_ (i := 3) (N := some 17) (bt 5 15) rfl rfl (any_of F128tab4 (by kernel_rfl)) (fun _ _ _ h => h) (Or.inl ⟨by rfl, by intro w'; exact run_sl rfl rfl (prefix_run s w')⟩) (by simp only [Act.put, pset]; rfl) ?_
  refine last_ (i := 4) (N := some 18) (bt 5 31) rfl rfl (one_of F128tab4 (by kernel_rfl)) (by decide) (fun K hK => ?_)
  refine event_step (by rfl) (run_cp (A := #[.slice (some ⟨g5, 0, none⟩) 3 3, .string s]) (ty := 3) rfl (by simp only [List.map_toArray, List.map_cons, List.map_nil]; rfl) (run_copy3 (F.out.at_ (n := 0) rfl) hs (n0 := 93) (n1 := (b1.toNat : Int)) (n2 := (b2.toNat : Int)) B.out.1 B.out.2 rfl)) ?_
  have n0 : Aside0 (Fg w w [(g5, 150, c3 93 (b1.toNat : Int) (b2.toNat : Int))] [] _) := ⟨F.out.put (n := 0) rfl (setRow_heap _ _ _ _ _ _ (F.out.at_ (n := 0) rfl)) (below_row _ g5 _) (fun k hk => setRow_other _ _ _ _ hk)⟩
  clear F; have F := n0; clear n0
  generalize World.setRow _ _ _ = w501 at F ⊢
  refine hK.out _ _ ?_
  clear hK K
  refine norm_ (show Act.put _ (some 18) _ = _ from (by simp only [Act.put, pset]; rfl)) ?_
  refine done_ (done_of F128tab4 (by kernel_rfl)) ?_
  clear hHeld
  clear hne hsz B hs
  go_wp2_with (first | ((with_reducible refine gate_dst (N := 19) rfl ?_); refine ld_agg rfl (N := 19) rfl rfl rfl (F.out.at_ (n := 0) rfl) hu150 rfl info150 ?_) | ((with_reducible refine gate_dst (N := 22) rfl ?_); refine val_event rfl (.bool false) (run_e3 rfl rfl rfl (b := false) (by first | rfl | (simp; done) | (simp; omega))) ?_) | ((with_reducible refine gate_dst (N := 24) rfl ?_); refine val_event rfl (.bool false) (run_e3 rfl rfl rfl (b := false) (by first | rfl | (simp; done) | (simp; omega))) ?_) | ((with_reducible refine gate_dst (N := 26) rfl ?_); refine ld_cell rfl (N := 26) (v := .int .u8 93) rfl rfl rfl (F.out.at_ (n := 0) rfl) rfl hu5 rfl ?_) | ((with_reducible refine gate_dst (N := 28) rfl ?_); refine ld_cell rfl (N := 28) (v := .int .u8 (b1.toNat : Int)) rfl rfl rfl (F.out.at_ (n := 0) rfl) rfl hu5 rfl ?_) | ((with_reducible refine gate_dst (N := 62) rfl ?_); refine ld_cell rfl (N := 62) (v := .int .u8 93) rfl rfl rfl (F.out.at_ (n := 0) rfl) rfl hu5 rfl ?_) | ((with_reducible refine gate_dst (N := 32) rfl ?_); refine val_event rfl (.bool false) (run_e2 rfl rfl rfl (b := false) (by first | rfl | (simp; done) | (simp; omega))) ?_) | ((with_reducible refine gate_dst (N := 34) rfl ?_); refine val_event rfl (.bool false) (run_e2 rfl rfl rfl (b := false) (by first | rfl | (simp; done) | (simp; omega))) ?_) | ((with_reducible refine gate_dst (N := 36) rfl ?_); refine val_event rfl (.bool false) (run_e2 rfl rfl rfl (b := false) (by first | rfl | (simp; done) | (simp; omega))) ?_) | ((with_reducible refine gate_dst (N := 38) rfl ?_); refine val_event rfl (.bool false) (run_e2 rfl rfl rfl (b := false) (by first | rfl | (simp; done) | (simp; omega))) ?_) | ((with_reducible refine gate_dst (N := 40) rfl ?_); refine val_event rfl (.bool false) (run_e2 rfl rfl rfl (b := false) (by first | rfl | (simp; done) | (simp; omega))) ?_) | ((with_reducible refine gate_dst (N := 42) rfl ?_); refine val_event rfl (.bool false) (run_e2 rfl rfl rfl (b := false) (by first | rfl | (simp; done) | (simp; omega))) ?_) | ((with_reducible refine gate_dst (N := 44) rfl ?_); refine val_event rfl (.bool false) (run_e2 rfl rfl rfl (b := false) (by first | rfl | (simp; done) | (simp; omega))) ?_) | ((with_reducible refine gate_dst (N := 46) rfl ?_); refine val_event rfl (.bool false) (run_e2 rfl rfl rfl (b := false) (by first | rfl | (simp; done) | (simp; omega))) ?_) | ((with_reducible refine gate_dst (N := 48) rfl ?_); refine val_event rfl (.bool false) (run_e2 rfl rfl rfl (b := false) (by first | rfl | (simp; done) | (simp; omega))) ?_) | ((with_reducible refine gate_dst (N := 50) rfl ?_); refine val_event rfl (.bool false) (run_e2 rfl rfl rfl (b := false) (by first | rfl | (simp; done) | (simp; omega))) ?_) | ((with_reducible refine gate_dst (N := 52) rfl ?_); refine val_event rfl (.bool false) (run_e2 rfl rfl rfl (b := false) (by first | rfl | (simp; done) | (simp; omega))) ?_) | ((with_reducible refine gate_dst (N := 54) rfl ?_); refine val_event rfl (.bool false) (run_e2 rfl rfl rfl (b := false) (by first | rfl | (simp; done) | (simp; omega))) ?_) | ((with_reducible refine gate_dst (N := 56) rfl ?_); refine val_event rfl (.bool false) (run_e2 rfl rfl rfl (b := false) (by first | rfl | (simp; done) | (simp; omega))) ?_) | ((with_reducible refine gate_dst (N := 58) rfl ?_); refine val_event rfl (.bool false) (run_e2 rfl rfl rfl (b := false) (by first | rfl | (simp; done) | (simp; omega))) ?_) | ((with_reducible refine gate_dst (N := 60) rfl ?_); refine val_event rfl (.bool false) (run_e2 rfl rfl rfl (b := false) (by first | rfl | (simp; done) | (simp; omega))) ?_))
  go_ret
  exact ⟨rfl, F.out.hb⟩
set_option maxHeartbeats 4000000 in
set_option maxRecDepth 100000 in
theorem longest_comma {s : ByteArray} {b1 b2 : UInt8} {r : List UInt8} {w : World} (hs : s.data.toList = 44 :: b1 :: b2 :: r) : Calls Tryz.prog 128 #[.string s, .int .i64 0] w fun e w' => e = .returned (.int .i64 1) ∧ Below w.heap.size w w' := by
  have hu150 := Tryz.underlying150
  have hu5 := Tryz.underlying5
  have F := Aside0.mk (Fg.init (Below.refl w.heap.size w))
  have hsz : 3 ≤ s.size := by rw [size_data, hs]; simp
  have hne : ¬ s = ByteArray.empty := by rintro rfl; simp at hsz
  have B := Aside0.mk (show ((44 : UInt8).toNat : Int) = 44 ∧ ((b1 : UInt8).toNat : Int) = (b1.toNat : Int) from ⟨by rfl, by rfl⟩)
  go_enter Tryz.func128, Tryz.ntmps128
  go_upto_region 4 with (first | ((with_reducible refine gate_dst (N := 5) rfl ?_); refine box_event ?hg (N := 5) ?hd (cs := (c3 0 0 0)) (t := 150) ?hr ?_; (case hd => rfl); (case hg => rfl); (case hr => first | (go_simp; done) | (go_simp; rfl)); intro g5 hg w305 hbox hb; have n0 := Aside0.mk (F.out.box hg hbox hb); clear F; have F := n0; clear hbox hb hg))
  refine start_ (n := 5) (S := Bx [(g5, 150, (c3 0 0 0))]) (ds := [4]) (bt 5 0) (by kernel_rfl) rfl (by kernel_rfl) (F.out.below (below_drew1 (Below.refl _ _))).bxs (fun hHeld => ?_)
  have n0 := Aside0.mk (F.out.below (below_drew1 (Below.refl _ _)))
  clear F
  have F := n0
  generalize World.drew _ = w500 at F hHeld ⊢
  refine pure_ (i := 0) (N := some 14) (bt 5 1) rfl rfl (any_of F128tab4 (by kernel_rfl)) (fun _ _ _ h => h) (Or.inl ⟨by rfl, by intro w'; exact run_sl rfl rfl (arr_run g5 w')⟩) (by simp only [Act.put, pset]; rfl) ?_
  refine pure_ (i := 1) (N := some 15) (bt 5 3) rfl rfl (any_of F128tab4 (by kernel_rfl)) (fun _ _ _ h => h) (Or.inl ⟨by rfl, by intro w'; go_simp; with_reducible rfl⟩) (by simp only [Act.put, pset]; rfl) ?_
  refine pure_ (i := 2) (N := some 16) (bt 5 7) rfl rfl (any_of F128tab4 (by kernel_rfl)) (fun _ _ _ h => h) (Or.inl ⟨by rfl, by intro w'; go_simp; with_reducible rfl⟩) (by simp only [Act.put, pset]; rfl) ?_
  refine pure_ (i := 3) (N := some 17) (bt 5 15) rfl rfl (any_of F128tab4 (by kernel_rfl)) (fun _ _ _ h => h) (Or.inl ⟨by rfl, by intro w'; exact run_sl rfl rfl (prefix_run s w')⟩) (by simp only [Act.put, pset]; rfl) ?_
  refine last_ (i := 4) (N := some 18) (bt 5 31) rfl rfl (one_of F128tab4 (by kernel_rfl)) (by decide) (fun K hK => ?_)
  refine event_step (by rfl) (run_cp (A := #[.slice (some ⟨g5, 0, none⟩) 3 3, .string s]) (ty := 3) rfl (by simp only [List.map_toArray, List.map_cons, List.map_nil]; rfl) (run_copy3 (F.out.at_ (n := 0) rfl) hs (n0 := 44) (n1 := (b1.toNat : Int)) (n2 := (b2.toNat : Int)) B.out.1 B.out.2 rfl)) ?_
  have n0 : Aside0 (Fg w w [(g5, 150, c3 44 (b1.toNat : Int) (b2.toNat : Int))] [] _) := ⟨F.out.put (n := 0) rfl (setRow_heap _ _ _ _ _ _ (F.out.at_ (n := 0) rfl)) (below_row _ g5 _) (fun k hk => setRow_other _ _ _ _ hk)⟩
  clear F; have F := n0; clear n0
  generalize World.setRow _ _ _ = w501 at F ⊢
  refine hK.out _ _ ?_
  clear hK K
  refine norm_ (show Act.put _ (some 18) _ = _ from (by simp only [Act.put, pset]; rfl)) ?_
  refine done_ (done_of F128tab4 (by kernel_rfl)) ?_
  clear hHeld
  clear hne hsz B hs
  go_wp2_with (first | ((with_reducible refine gate_dst (N := 19) rfl ?_); refine ld_agg rfl (N := 19) rfl rfl rfl (F.out.at_ (n := 0) rfl) hu150 rfl info150 ?_) | ((with_reducible refine gate_dst (N := 22) rfl ?_); refine val_event rfl (.bool false) (run_e3 rfl rfl rfl (b := false) (by first | rfl | (simp; done) | (simp; omega))) ?_) | ((with_reducible refine gate_dst (N := 24) rfl ?_); refine val_event rfl (.bool false) (run_e3 rfl rfl rfl (b := false) (by first | rfl | (simp; done) | (simp; omega))) ?_) | ((with_reducible refine gate_dst (N := 26) rfl ?_); refine ld_cell rfl (N := 26) (v := .int .u8 44) rfl rfl rfl (F.out.at_ (n := 0) rfl) rfl hu5 rfl ?_) | ((with_reducible refine gate_dst (N := 28) rfl ?_); refine ld_cell rfl (N := 28) (v := .int .u8 (b1.toNat : Int)) rfl rfl rfl (F.out.at_ (n := 0) rfl) rfl hu5 rfl ?_) | ((with_reducible refine gate_dst (N := 62) rfl ?_); refine ld_cell rfl (N := 62) (v := .int .u8 44) rfl rfl rfl (F.out.at_ (n := 0) rfl) rfl hu5 rfl ?_) | ((with_reducible refine gate_dst (N := 32) rfl ?_); refine val_event rfl (.bool false) (run_e2 rfl rfl rfl (b := false) (by first | rfl | (simp; done) | (simp; omega))) ?_) | ((with_reducible refine gate_dst (N := 34) rfl ?_); refine val_event rfl (.bool false) (run_e2 rfl rfl rfl (b := false) (by first | rfl | (simp; done) | (simp; omega))) ?_) | ((with_reducible refine gate_dst (N := 36) rfl ?_); refine val_event rfl (.bool false) (run_e2 rfl rfl rfl (b := false) (by first | rfl | (simp; done) | (simp; omega))) ?_) | ((with_reducible refine gate_dst (N := 38) rfl ?_); refine val_event rfl (.bool false) (run_e2 rfl rfl rfl (b := false) (by first | rfl | (simp; done) | (simp; omega))) ?_) | ((with_reducible refine gate_dst (N := 40) rfl ?_); refine val_event rfl (.bool false) (run_e2 rfl rfl rfl (b := false) (by first | rfl | (simp; done) | (simp; omega))) ?_) | ((with_reducible refine gate_dst (N := 42) rfl ?_); refine val_event rfl (.bool false) (run_e2 rfl rfl rfl (b := false) (by first | rfl | (simp; done) | (simp; omega))) ?_) | ((with_reducible refine gate_dst (N := 44) rfl ?_); refine val_event rfl (.bool false) (run_e2 rfl rfl rfl (b := false) (by first | rfl | (simp; done) | (simp; omega))) ?_) | ((with_reducible refine gate_dst (N := 46) rfl ?_); refine val_event rfl (.bool false) (run_e2 rfl rfl rfl (b := false) (by first | rfl | (simp; done) | (simp; omega))) ?_) | ((with_reducible refine gate_dst (N := 48) rfl ?_); refine val_event rfl (.bool false) (run_e2 rfl rfl rfl (b := false) (by first | rfl | (simp; done) | (simp; omega))) ?_) | ((with_reducible refine gate_dst (N := 50) rfl ?_); refine val_event rfl (.bool false) (run_e2 rfl rfl rfl (b := false) (by first | rfl | (simp; done) | (simp; omega))) ?_) | ((with_reducible refine gate_dst (N := 52) rfl ?_); refine val_event rfl (.bool false) (run_e2 rfl rfl rfl (b := false) (by first | rfl | (simp; done) | (simp; omega))) ?_) | ((with_reducible refine gate_dst (N := 54) rfl ?_); refine val_event rfl (.bool false) (run_e2 rfl rfl rfl (b := false) (by first | rfl | (simp; done) | (simp; omega))) ?_) | ((with_reducible refine gate_dst (N := 56) rfl ?_); refine val_event rfl (.bool false) (run_e2 rfl rfl rfl (b := false) (by first | rfl | (simp; done) | (simp; omega))) ?_) | ((with_reducible refine gate_dst (N := 58) rfl ?_); refine val_event rfl (.bool false) (run_e2 rfl rfl rfl (b := false) (by first | rfl | (simp; done) | (simp; omega))) ?_) | ((with_reducible refine gate_dst (N := 60) rfl ?_); refine val_event rfl (.bool false) (run_e2 rfl rfl rfl (b := false) (by first | rfl | (simp; done) | (simp; omega))) ?_))
  go_ret
  exact ⟨rfl, F.out.hb⟩
set_option maxHeartbeats 4000000 in
set_option maxRecDepth 100000 in
theorem longest_minus {s : ByteArray} {b1 b2 : UInt8} {r : List UInt8} {w : World} (h1 : b1 ≠ 62) (h2 : b1 ≠ 45) (hs : s.data.toList = 45 :: b1 :: b2 :: r) : Calls Tryz.prog 128 #[.string s, .int .i64 0] w fun e w' => e = .returned (.int .i64 1) ∧ Below w.heap.size w w' := by
  have hu150 := Tryz.underlying150
  have hu5 := Tryz.underlying5
  have F := Aside0.mk (Fg.init (Below.refl w.heap.size w))
  have hsz : 3 ≤ s.size := by rw [size_data, hs]; simp
  have hne : ¬ s = ByteArray.empty := by rintro rfl; simp at hsz
  have g1 : ¬ ((b1.toNat : Int) = 62) := fun h => h1 (UInt8.toNat_inj.1 (by show b1.toNat = 62; omega))
  have g2 : ¬ ((b1.toNat : Int) = 45) := fun h => h2 (UInt8.toNat_inj.1 (by show b1.toNat = 45; omega))
  clear h1 h2
  have B := Aside0.mk (show ((45 : UInt8).toNat : Int) = 45 ∧ ((b1 : UInt8).toNat : Int) = (b1.toNat : Int) from ⟨by rfl, by rfl⟩)
  go_enter Tryz.func128, Tryz.ntmps128
  go_upto_region 4 with (first | ((with_reducible refine gate_dst (N := 5) rfl ?_); refine box_event ?hg (N := 5) ?hd (cs := (c3 0 0 0)) (t := 150) ?hr ?_; (case hd => rfl); (case hg => rfl); (case hr => first | (go_simp; done) | (go_simp; rfl)); intro g5 hg w305 hbox hb; have n0 := Aside0.mk (F.out.box hg hbox hb); clear F; have F := n0; clear hbox hb hg))
  refine start_ (n := 5) (S := Bx [(g5, 150, (c3 0 0 0))]) (ds := [4]) (bt 5 0) (by kernel_rfl) rfl (by kernel_rfl) (F.out.below (below_drew1 (Below.refl _ _))).bxs (fun hHeld => ?_)
  have n0 := Aside0.mk (F.out.below (below_drew1 (Below.refl _ _)))
  clear F
  have F := n0
  generalize World.drew _ = w500 at F hHeld ⊢
  refine pure_ (i := 0) (N := some 14) (bt 5 1) rfl rfl (any_of F128tab4 (by kernel_rfl)) (fun _ _ _ h => h) (Or.inl ⟨by rfl, by intro w'; exact run_sl rfl rfl (arr_run g5 w')⟩) (by simp only [Act.put, pset]; rfl) ?_
  refine pure_ (i := 1) (N := some 15) (bt 5 3) rfl rfl (any_of F128tab4 (by kernel_rfl)) (fun _ _ _ h => h) (Or.inl ⟨by rfl, by intro w'; go_simp; with_reducible rfl⟩) (by simp only [Act.put, pset]; rfl) ?_
  refine pure_ (i := 2) (N := some 16) (bt 5 7) rfl rfl (any_of F128tab4 (by kernel_rfl)) (fun _ _ _ h => h) (Or.inl ⟨by rfl, by intro w'; go_simp; with_reducible rfl⟩) (by simp only [Act.put, pset]; rfl) ?_
  refine pure_ (i := 3) (N := some 17) (bt 5 15) rfl rfl (any_of F128tab4 (by kernel_rfl)) (fun _ _ _ h => h) (Or.inl ⟨by rfl, by intro w'; exact run_sl rfl rfl (prefix_run s w')⟩) (by simp only [Act.put, pset]; rfl) ?_
  refine last_ (i := 4) (N := some 18) (bt 5 31) rfl rfl (one_of F128tab4 (by kernel_rfl)) (by decide) (fun K hK => ?_)
  refine event_step (by rfl) (run_cp (A := #[.slice (some ⟨g5, 0, none⟩) 3 3, .string s]) (ty := 3) rfl (by simp only [List.map_toArray, List.map_cons, List.map_nil]; rfl) (run_copy3 (F.out.at_ (n := 0) rfl) hs (n0 := 45) (n1 := (b1.toNat : Int)) (n2 := (b2.toNat : Int)) B.out.1 B.out.2 rfl)) ?_
  have n0 : Aside0 (Fg w w [(g5, 150, c3 45 (b1.toNat : Int) (b2.toNat : Int))] [] _) := ⟨F.out.put (n := 0) rfl (setRow_heap _ _ _ _ _ _ (F.out.at_ (n := 0) rfl)) (below_row _ g5 _) (fun k hk => setRow_other _ _ _ _ hk)⟩
  clear F; have F := n0; clear n0
  generalize World.setRow _ _ _ = w501 at F ⊢
  refine hK.out _ _ ?_
  clear hK K
  refine norm_ (show Act.put _ (some 18) _ = _ from (by simp only [Act.put, pset]; rfl)) ?_
  refine done_ (done_of F128tab4 (by kernel_rfl)) ?_
  clear hHeld
  clear hne hsz B hs
  go_wp2_with (first | ((with_reducible refine gate_dst (N := 19) rfl ?_); refine ld_agg rfl (N := 19) rfl rfl rfl (F.out.at_ (n := 0) rfl) hu150 rfl info150 ?_) | ((with_reducible refine gate_dst (N := 22) rfl ?_); refine val_event rfl (.bool false) (run_e3 rfl rfl rfl (b := false) (by first | rfl | (simp; done) | (simp; omega))) ?_) | ((with_reducible refine gate_dst (N := 24) rfl ?_); refine val_event rfl (.bool false) (run_e3 rfl rfl rfl (b := false) (by first | rfl | (simp; done) | (simp; omega))) ?_) | ((with_reducible refine gate_dst (N := 26) rfl ?_); refine ld_cell rfl (N := 26) (v := .int .u8 45) rfl rfl rfl (F.out.at_ (n := 0) rfl) rfl hu5 rfl ?_) | ((with_reducible refine gate_dst (N := 28) rfl ?_); refine ld_cell rfl (N := 28) (v := .int .u8 (b1.toNat : Int)) rfl rfl rfl (F.out.at_ (n := 0) rfl) rfl hu5 rfl ?_) | ((with_reducible refine gate_dst (N := 62) rfl ?_); refine ld_cell rfl (N := 62) (v := .int .u8 45) rfl rfl rfl (F.out.at_ (n := 0) rfl) rfl hu5 rfl ?_) | ((with_reducible refine gate_dst (N := 32) rfl ?_); refine val_event rfl (.bool false) (run_e2 rfl rfl rfl (b := false) (by first | rfl | (simp; done) | (simp; omega))) ?_) | ((with_reducible refine gate_dst (N := 34) rfl ?_); refine val_event rfl (.bool false) (run_e2 rfl rfl rfl (b := false) (by first | rfl | (simp; done) | (simp; omega))) ?_) | ((with_reducible refine gate_dst (N := 36) rfl ?_); refine val_event rfl (.bool false) (run_e2 rfl rfl rfl (b := false) (by first | rfl | (simp; done) | (simp; omega))) ?_) | ((with_reducible refine gate_dst (N := 38) rfl ?_); refine val_event rfl (.bool false) (run_e2 rfl rfl rfl (b := false) (by first | rfl | (simp; done) | (simp; omega))) ?_) | ((with_reducible refine gate_dst (N := 40) rfl ?_); refine val_event rfl (.bool false) (run_e2 rfl rfl rfl (b := false) (by first | rfl | (simp; done) | (simp; omega))) ?_) | ((with_reducible refine gate_dst (N := 42) rfl ?_); refine val_event rfl (.bool false) (run_e2 rfl rfl rfl (b := false) (by first | rfl | (simp; done) | (simp; omega))) ?_) | ((with_reducible refine gate_dst (N := 44) rfl ?_); refine val_event rfl (.bool false) (run_e2 rfl rfl rfl (b := false) (by first | rfl | (simp; done) | (simp; omega))) ?_) | ((with_reducible refine gate_dst (N := 46) rfl ?_); refine val_event rfl (.bool false) (run_e2 rfl rfl rfl (b := false) (by first | rfl | (simp; done) | (simp; omega))) ?_) | ((with_reducible refine gate_dst (N := 48) rfl ?_); refine val_event rfl (.bool false) (run_e2 rfl rfl rfl (b := false) (by first | rfl | (simp; done) | (simp; omega))) ?_) | ((with_reducible refine gate_dst (N := 50) rfl ?_); refine val_event rfl (.bool false) (run_e2 rfl rfl rfl (b := false) (by first | rfl | (simp; done) | (simp; omega))) ?_) | ((with_reducible refine gate_dst (N := 52) rfl ?_); refine val_event rfl (.bool false) (run_e2 rfl rfl rfl (b := false) (by first | rfl | (simp; done) | (simp; omega))) ?_) | ((with_reducible refine gate_dst (N := 54) rfl ?_); refine val_event rfl (.bool false) (run_e2 rfl rfl rfl (b := false) (by first | rfl | (simp; done) | (simp; omega))) ?_) | ((with_reducible refine gate_dst (N := 56) rfl ?_); refine val_event rfl (.bool false) (run_e2 rfl rfl rfl (b := false) (by first | rfl | (simp; done) | (simp; omega))) ?_) | ((with_reducible refine gate_dst (N := 58) rfl ?_); refine val_event rfl (.bool false) (run_e2 rfl rfl rfl (b := false) (by first | rfl | (simp; done) | (simp; omega))) ?_) | ((with_reducible refine gate_dst (N := 60) rfl ?_); refine val_event rfl (.bool false) (run_e2 rfl rfl rfl (b := false) (by first | rfl | (simp; done) | (simp; omega))) ?_))
  go_ret
  exact ⟨rfl, F.out.hb⟩
end Go.Proofs.YthipodffpkglfaaGreatDoor.PS
