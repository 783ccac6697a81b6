/- Words and walks that the law leans on: HS37, HS38, HS39, HS40, HS41, HS42, HS43, HS44, HS45, HS46, HS47, HS48, HS49. Conditions: none. -/
import Derived.Test.YthipodffpkglfaaGreatDoorJ16
namespace Go.Proofs.YthipodffpkglfaaGreatDoor.PS
open Go.RowKit Go.Proofs.YthipodffpkglfaaGreatDoorW.PrintWords Go.Proofs.YthipodffpkglfaaGreatDoorW.PrintLast Go.Proofs.YthipodffpkglfaaGreatDoorW.PrintMore
set_option linter.unusedVariables false
set_option linter.unusedSimpArgs false
theorem run_max {o : Oper} {a : Act} {W : World} {x y : Operand} {ats : Array TypeId} (ho : o.op = .call { callee := .builtin .max, args := #[x, y], argTypes := ats }) {p q v : Int} (hx : (a.eval x, a.eval y) = (.int .i64 p, .int .i64 q)) (h : (if p < q then q else p) = v) : (execOp a.eval o).run Tryz.prog W = .ok (.value (.int .i64 v)) W := by
  obtain ⟨h1, h2⟩ := Prod.mk.inj hx
  obtain ⟨d, op, ty', pos, aft, gd⟩ := o
  simp only at ho
  subst ho
  show ((do pure (.value (← Builtin.max_ ats ty' ((#[x, y] : Array Operand).map a.eval)))) : Sem Next).run Tryz.prog W = _
  rw [show (#[x, y] : Array Operand).map a.eval = #[.int .i64 p, .int .i64 q] by simp only [List.map_toArray, List.map_cons, List.map_nil, h1, h2], max_two, max2_int, h]
  rfl
def clB (x : Tk) : Bool := (sign_Closes.f x.k x.t x.a).getD false
theorem closes_some (x : Tk) : sign_Closes.f x.k x.t x.a = some (clB x) := by
  unfold clB sign_Closes.f
  repeat' split
  all_goals rfl
def notFun (x : Tk) : Prop := (x.k == 8) = true → (x.t.toList == [102, 117, 110]) = false
def dstep (d : Nat) (x : Tk) : Nat := if opB x then d + 1 else if clB x then d - 1 else d
section
variable {wD w : World} {A : Option Addr} {c : Nat} {toks : List Tk} {g1 : Nat} {x : Tk} {j : Nat}
set_option maxHeartbeats 4000000 in
set_option maxRecDepth 100000 in
theorem deep1_calls (hb : Below wD.heap.size wD w) (tk : TokAt wD A toks) (hg : w.heap[g1]? = some (.cells #[.slice A toks.length c] 56 (0, 0))) (hx : toks[j]? = some x) (hf : notFun x) (hl : toks.length ≤ 100000) : Calls Tryz.prog 66 #[.int .i64 (j : Nat), .pointer (some ⟨g1, 0, none⟩)] w fun e w' => e = .returned (.bool (opB x)) ∧ Below w.heap.size w w' := by
  have hu86 := Tryz.underlying86
  have hu56 := Tryz.underlying56
  have hu9 := Tryz.underlying9
  have hu3 := Tryz.underlying3
  obtain ⟨ad, rfl, _⟩ := tk j x hx
  have TT := Aside0.mk (show ∀ W, Below w.heap.size w W → W.cell? (ad.add (j * 3)) = some (.int .i64 x.k) ∧ W.cell? ⟨(ad.add (j * 3)).block, (ad.add (j * 3)).off + 1, none⟩ = some (.string x.t) ∧ W.cell? ⟨(ad.add (j * 3)).block, (ad.add (j * 3)).off + 2, none⟩ = some (.int .i64 x.a) from fun W h => by
    obtain ⟨ad', e, hc⟩ := tk j x hx
    obtain rfl := Option.some.inj e
    exact hc W (hb.trans (h.mono hb.size)))
  have TQ := Aside0.mk (show ∀ W, Below w.heap.size w W → W.cell? ⟨g1, 0, none⟩ = some (.slice (some ad) toks.length c) from fun W h => (blk_cell ((h.block _ (blk_lt hg)).trans hg) 0).trans rfl)
  obtain ⟨m, hm⟩ : ∃ m, toks.length = m := ⟨_, rfl⟩
  have hjm : j < m := by rw [← hm]; exact (List.getElem?_eq_some_iff.1 hx).1
  rw [hm] at TQ hl
  have B := Aside0.mk (Below.refl w.heap.size w)
  have hW := Below.refl w.heap.size w
  have t0 := (TT.out _ hW).1; have t1 := (TT.out _ hW).2.1; have t2 := (TT.out _ hW).2.2; have hq := (TQ.out _ hW)
  have HF := Aside0.mk hf
  clear hb tk hg hx hm hf hW
  cases ho : opB x
  · cases h8 : (x.k == 8)
    · go_enter Tryz.func66, Tryz.ntmps66
      go_wp2_with (first | ((with_reducible refine gate_dst (N := 8) rfl ?_); refine goesL_ (some 8) rfl rfl Tryz.func67 (by kernel_rfl) rfl #[.agg (tkc x)] rfl (by (try simp only [List.map_toArray, List.map_cons, List.map_nil]); first | done | rfl) ?_; (refine (ho ▸ opens_calls x _).mono ?_); (rintro e w108 ⟨rfl, hb1⟩; refine ⟨_, rfl, ?_⟩; have hW := B.out.trans (hb1.mono B.out.size); clear t0 t1 t2 hq; have t0 := (TT.out _ hW).1; have t1 := (TT.out _ hW).2.1; have t2 := (TT.out _ hW).2.2; have hq := (TQ.out _ hW); have n0 := Aside0.mk hW; clear B hb1 hW; have B := n0)))
      go_ret
      exact ⟨rfl, B.out⟩
    · have hfn := HF.out h8
      go_enter Tryz.func66, Tryz.ntmps66
      go_wp2_with (first | ((with_reducible refine gate_dst (N := 8) rfl ?_); refine goesL_ (some 8) rfl rfl Tryz.func67 (by kernel_rfl) rfl #[.agg (tkc x)] rfl (by (try simp only [List.map_toArray, List.map_cons, List.map_nil]); first | done | rfl) ?_; (refine (ho ▸ opens_calls x _).mono ?_); (rintro e w108 ⟨rfl, hb1⟩; refine ⟨_, rfl, ?_⟩; have hW := B.out.trans (hb1.mono B.out.size); clear t0 t1 t2 hq; have t0 := (TT.out _ hW).1; have t1 := (TT.out _ hW).2.1; have t2 := (TT.out _ hW).2.2; have hq := (TQ.out _ hW); have n0 := Aside0.mk hW; clear B hb1 hW; have B := n0)))
      go_ret
      exact ⟨rfl, B.out⟩
  · go_enter Tryz.func66, Tryz.ntmps66
    go_wp2_with (first | ((with_reducible refine gate_dst (N := 8) rfl ?_); refine goesL_ (some 8) rfl rfl Tryz.func67 (by kernel_rfl) rfl #[.agg (tkc x)] rfl (by (try simp only [List.map_toArray, List.map_cons, List.map_nil]); first | done | rfl) ?_; (refine (ho ▸ opens_calls x _).mono ?_); (rintro e w108 ⟨rfl, hb1⟩; refine ⟨_, rfl, ?_⟩; have hW := B.out.trans (hb1.mono B.out.size); clear t0 t1 t2 hq; have t0 := (TT.out _ hW).1; have t1 := (TT.out _ hW).2.1; have t2 := (TT.out _ hW).2.2; have hq := (TQ.out _ hW); have n0 := Aside0.mk hW; clear B hb1 hW; have B := n0)))
    go_ret
    exact ⟨rfl, B.out⟩
def dAt (toks : List Tk) (j : Nat) : Nat := (toks.take j).foldl dstep 0
theorem dAt_succ (hx : toks[j]? = some x) : dAt toks (j + 1) = dstep (dAt toks j) x := by
  unfold dAt
  rw [List.take_add_one, hx]
  simp
set_option maxHeartbeats 4000000 in
set_option maxRecDepth 100000 in
theorem deep_calls (hb : Below wD.heap.size wD w) (tk : TokAt wD A toks) (hl : toks.length ≤ 100000) (hf : ∀ x ∈ toks, notFun x) (hd : ∀ j, dAt toks j ≤ 100) : Calls Tryz.prog 42 #[.slice A toks.length c] w fun e w' => ∃ v : Nat, e = .returned (.int .i64 (v : Nat)) ∧ v ≤ 100 ∧ Below w.heap.size w w' := by
  have hu86 := Tryz.underlying86
  have hu56 := Tryz.underlying56
  have hu9 := Tryz.underlying9
  have hu3 := Tryz.underlying3
  have hmf : ∀ (fn : Fn) (first cap : Array Value) (w : World), (Instr.makeFunc fn first cap).run Tryz.prog w = .ok (.func fn first cap) w := fun _ _ _ _ => rfl
  have F := Aside0.mk (Fg.init (Below.refl w.heap.size w))
  have B0 := Aside0.mk hb
  have TK := Aside0.mk tk
  have HL := Aside0.mk hl
  have HFA := Aside0.mk hf
  have HD := Aside0.mk hd
  obtain ⟨m, hm⟩ : ∃ m, toks.length = m := ⟨_, rfl⟩
  rw [hm]
  have HM := Aside0.mk hm
  clear hb tk hl hf hd hm
  go_enter Tryz.func42, Tryz.ntmps42
  go_wp2_with (first | ((with_reducible refine gate_dst (N := 1) rfl ?_); refine box_event ?hg (N := 1) ?hd (cs := #[.slice A m c]) (t := 56) ?hr ?_; (case hd => rfl); (case hg => rfl); (case hr => first | (go_simp; done) | (go_simp; rfl)); intro g1 hg w301 hbox hb; have n0 := Aside0.mk (F.out.box hg hbox hb); clear F hbox hb hg; have F := n0) | ((with_reducible refine gate_dst (N := 9) rfl ?_); refine ld_cell rfl (N := 9) (v := .slice A m c) rfl rfl rfl (F.out.at_ (n := 0) rfl) rfl hu56 rfl ?_))
  go_loopg [3, 4, 6, 7, 11] m (fun k' v3 v4 v6 v7 v11 wr => ∃ j d k : Nat, v3 = .int .i64 (d : Nat) ∧ v4 = .int .i64 (k : Nat) ∧ v11 = .int .i64 (j : Nat) ∧ Aside0 (j ≤ m ∧ k' + j = m ∧ d = dAt toks j ∧ k ≤ 100) ∧ Aside0 (Fg w w [(g1, 56, #[.slice A m c])] [] wr))
  case atStart => exact ⟨0, 0, 0, rfl, rfl, rfl, ⟨Nat.zero_le _, rfl, rfl, Nat.zero_le _⟩, F⟩
  case round =>
    clear F
    obtain ⟨j, d, k, rfl, rfl, rfl, HJ, F⟩ := hrel
    obtain ⟨hj1, hj2, hd1, hk1⟩ := HJ.out
    by_cases hjm : j < m
    · obtain ⟨x, hx⟩ : ∃ x, toks[j]? = some x := ⟨_, List.getElem?_eq_getElem (by rw [HM.out]; exact hjm)⟩
      obtain ⟨ad, rfl, t0, t1, t2⟩ := tok_at TK.out (B0.out.trans (F.out.hb.mono B0.out.size)) hx
      have hfx := HFA.out x (List.mem_of_getElem? hx)
      have D0 := fun (W : World) (h : Below w.heap.size w W) (hg : W.heap[g1]? = some (.cells #[.slice (some ad) m c] 56 (0, 0))) => deep1_calls (B0.out.trans (h.mono B0.out.size)) TK.out (by rw [HM.out]; exact hg) hx hfx HL.out
      have hs := dAt_succ hx
      rw [← hd1] at hs
      have hd2 := HD.out (j + 1)
      have hd3 := HD.out j
      rw [← hd1] at hd3
      obtain ⟨q1, hq1⟩ : ∃ q1, j + 1 = q1 := ⟨_, rfl⟩
      have e1 : wrap64 ((j : Int) + 1) = (q1 : Int) := by have := HL.out; have := HM.out; unfold wrap64; omega
      obtain ⟨d2, hd4⟩ : ∃ d2, dAt toks (j + 1) = d2 := ⟨_, rfl⟩
      rw [hd4] at hs hd2
      have HQ := Aside0.mk (show j + 1 = q1 ∧ d2 = dAt toks q1 ∧ j < m ∧ j + gk = m from ⟨hq1, by rw [← hq1, hd4], hjm, by omega⟩)
      have HK := Aside0.mk (show k ≤ 100 ∧ d2 ≤ 100 ∧ d ≤ 100 from ⟨hk1, hd2, hd3⟩)
      have HS := Aside0.mk hs
      obtain ⟨m2, e3, hm2⟩ : ∃ m2 : Nat, (if ((k : Nat) : Int) < ((d2 : Nat) : Int) then ((d2 : Nat) : Int) else ((k : Nat) : Int)) = ((m2 : Nat) : Int) ∧ m2 ≤ 100 := by
        by_cases h : ((k : Nat) : Int) < ((d2 : Nat) : Int)
        · exact ⟨d2, by rw [if_pos h], hd2⟩
        · exact ⟨k, by rw [if_neg h], hk1⟩
      have HM2 := Aside0.mk hm2
      have HC0 := closes_some x
      clear hx hfx hj1 hj2 hd1 hk1 HJ hq1 hd4 hd2 hd3 hs hm2
      unfold dstep at HS
      cases ho : opB x
      · rw [ho] at D0 HS
        have D1 := Aside0.mk D0
        clear D0 ho
        cases hc : clB x
        · rw [hc] at HC0 HS
          have HC := Aside0.mk HC0
          obtain rfl : d2 = d := HS.out
          clear HC0 hc HS
          go_wp2_with (first | ((with_reducible refine gate_dst (N := 7) rfl ?_); refine box_event ?hg (N := 7) ?hd (cs := #[.int .i64 0, .string (⟨#[]⟩ : ByteArray), .int .i64 0]) (t := 86) ?hr ?_; (case hd => rfl); (case hg => rfl); (case hr => first | (go_simp; done) | (go_simp; rfl)); intro g7 hg w307 hbox hb; have n0 := Aside0.mk (F.out.box hg hbox hb); clear F hbox hb hg; have F := n0) | ((with_reducible refine gate_ (.store 86 (.tmp 7) (.tmp 15)) rfl ?_); refine F.out.st 0 rfl rfl rfl rfl (tkc x) rfl rfl infoTk rfl (tkc_one _) ?_; intro w607 n1; have n0 : Aside0 (Fg _ _ [(g7, 86, (tkc x)), (g1, 56, #[.slice (some ad) m c])] _ _) := ⟨n1⟩; clear F n1; have F := n0) | ((with_reducible refine gate_dst (N := 19) rfl ?_); refine goesV_ (some 19) rfl rfl Tryz.func66 (by kernel_rfl) rfl #[.int .i64 (j : Nat), .pointer (some ⟨g1, 0, none⟩)] rfl rfl (by simp only [List.map_toArray, List.map_cons, List.map_nil, List.append_toArray, List.nil_append, List.cons_append]; rfl) ?_; (refine (D1.out _ F.out.hb (F.out.at_ (n := 1) rfl)).mono ?_); (rintro e w119 ⟨rfl, hb1⟩; refine ⟨_, rfl, ?_⟩; have n0 := Aside0.mk (F.out.below hb1); clear F hb1; have F := n0)) | ((with_reducible refine gate_dst (N := 23) rfl ?_); refine ld_agg rfl (N := 23) rfl rfl rfl (F.out.at_ (n := 0) rfl) hu86 rfl infoTk ?_) | ((with_reducible refine gate_dst (N := 24) rfl ?_); refine goesL_ (some 24) rfl rfl Tryz.func68 (by kernel_rfl) rfl #[.agg (tkc x)] rfl (by (try simp only [List.map_toArray, List.map_cons, List.map_nil]); first | done | rfl) ?_; (refine (sign_Closes.calls _ _ _ _ _ HC.out).mono ?_); (rintro e w124 ⟨rfl, hb1⟩; refine ⟨_, rfl, ?_⟩; have n0 := Aside0.mk (F.out.below hb1); clear F hb1; have F := n0)) | ((with_reducible refine gate_dst (N := 21) rfl ?_); refine val_event rfl (.int .i64 (d2 : Nat)) ?hr ?_; (case hr => first | (go_simp; done) | (go_simp; rw [i64_w]; assumption) | (go_simp; rfl))) | ((with_reducible refine gate_dst (N := 26) rfl ?_); refine val_event rfl (.int .i64 ((d : Int) - 1)) ?hr ?_; (case hr => first | (go_simp; done) | (go_simp; rw [i64_w, e0]) | (go_simp; rfl))) | ((with_reducible refine gate_dst (N := 27) rfl ?_); refine val_event rfl (.int .i64 (d2 : Nat)) (run_max rfl (p := (d : Int) - 1) (q := 0) rfl e2) ?_) | ((with_reducible refine gate_dst (N := 30) rfl ?_); refine val_event rfl (.int .i64 (m2 : Nat)) (run_max rfl (p := (k : Nat)) (q := (d2 : Nat)) rfl e3) ?_) | ((with_reducible refine gate_dst (N := 31) rfl ?_); refine val_event rfl (.int .i64 (q1 : Nat)) ?hr ?_; (case hr => first | (go_simp; done) | (go_simp; rw [i64_w]; assumption) | (go_simp; rfl))))
          go_roundg (gk - 1)
          case measure => have := HQ.out; omega
          case rel => exact ⟨q1, d2, m2, rfl, rfl, rfl, ⟨by have := HQ.out; omega, by have := HQ.out; omega, HQ.out.2.1, HM2.out⟩, ⟨F.out.drop0⟩⟩
        · rw [hc] at HC0 HS
          have HC := Aside0.mk HC0
          have e4 : d2 = d - 1 := HS.out
          have e0 : wrap64 ((d : Int) - 1) = (d : Int) - 1 := by have := HK.out; unfold wrap64; omega
          have e2 : (if (d : Int) - 1 < 0 then (0 : Int) else (d : Int) - 1) = ((d2 : Nat) : Int) := by split <;> omega
          clear e4
          clear HC0 hc HS
          go_wp2_with (first | ((with_reducible refine gate_dst (N := 7) rfl ?_); refine box_event ?hg (N := 7) ?hd (cs := #[.int .i64 0, .string (⟨#[]⟩ : ByteArray), .int .i64 0]) (t := 86) ?hr ?_; (case hd => rfl); (case hg => rfl); (case hr => first | (go_simp; done) | (go_simp; rfl)); intro g7 hg w307 hbox hb; have n0 := Aside0.mk (F.out.box hg hbox hb); clear F hbox hb hg; have F := n0) | ((with_reducible refine gate_ (.store 86 (.tmp 7) (.tmp 15)) rfl ?_); refine F.out.st 0 rfl rfl rfl rfl (tkc x) rfl rfl infoTk rfl (tkc_one _) ?_; intro w607 n1; have n0 : Aside0 (Fg _ _ [(g7, 86, (tkc x)), (g1, 56, #[.slice (some ad) m c])] _ _) := ⟨n1⟩; clear F n1; have F := n0) | ((with_reducible refine gate_dst (N := 19) rfl ?_); refine goesV_ (some 19) rfl rfl Tryz.func66 (by kernel_rfl) rfl #[.int .i64 (j : Nat), .pointer (some ⟨g1, 0, none⟩)] rfl rfl (by simp only [List.map_toArray, List.map_cons, List.map_nil, List.append_toArray, List.nil_append, List.cons_append]; rfl) ?_; (refine (D1.out _ F.out.hb (F.out.at_ (n := 1) rfl)).mono ?_); (rintro e w119 ⟨rfl, hb1⟩; refine ⟨_, rfl, ?_⟩; have n0 := Aside0.mk (F.out.below hb1); clear F hb1; have F := n0)) | ((with_reducible refine gate_dst (N := 23) rfl ?_); refine ld_agg rfl (N := 23) rfl rfl rfl (F.out.at_ (n := 0) rfl) hu86 rfl infoTk ?_) | ((with_reducible refine gate_dst (N := 24) rfl ?_); refine goesL_ (some 24) rfl rfl Tryz.func68 (by kernel_rfl) rfl #[.agg (tkc x)] rfl (by (try simp only [List.map_toArray, List.map_cons, List.map_nil]); first | done | rfl) ?_; (refine (sign_Closes.calls _ _ _ _ _ HC.out).mono ?_); (rintro e w124 ⟨rfl, hb1⟩; refine ⟨_, rfl, ?_⟩; have n0 := Aside0.mk (F.out.below hb1); clear F hb1; have F := n0)) | ((with_reducible refine gate_dst (N := 21) rfl ?_); refine val_event rfl (.int .i64 (d2 : Nat)) ?hr ?_; (case hr => first | (go_simp; done) | (go_simp; rw [i64_w]; assumption) | (go_simp; rfl))) | ((with_reducible refine gate_dst (N := 26) rfl ?_); refine val_event rfl (.int .i64 ((d : Int) - 1)) ?hr ?_; (case hr => first | (go_simp; done) | (go_simp; rw [i64_w, e0]) | (go_simp; rfl))) | ((with_reducible refine gate_dst (N := 27) rfl ?_); refine val_event rfl (.int .i64 (d2 : Nat)) (run_max rfl (p := (d : Int) - 1) (q := 0) rfl e2) ?_) | ((with_reducible refine gate_dst (N := 30) rfl ?_); refine val_event rfl (.int .i64 (m2 : Nat)) (run_max rfl (p := (k : Nat)) (q := (d2 : Nat)) rfl e3) ?_) | ((with_reducible refine gate_dst (N := 31) rfl ?_); refine val_event rfl (.int .i64 (q1 : Nat)) ?hr ?_; (case hr => first | (go_simp; done) | (go_simp; rw [i64_w]; assumption) | (go_simp; rfl))))
          go_roundg (gk - 1)
          case measure => have := HQ.out; omega
          case rel => exact ⟨q1, d2, m2, rfl, rfl, rfl, ⟨by have := HQ.out; omega, by have := HQ.out; omega, HQ.out.2.1, HM2.out⟩, ⟨F.out.drop0⟩⟩
      · rw [ho] at D0 HS
        have D1 := Aside0.mk D0
        clear D0 ho HC0
        have e4 : d + 1 = d2 := HS.out.symm
        have e5 : wrap64 ((d : Int) + 1) = (d2 : Int) := by have := HK.out; unfold wrap64; omega
        clear e4 HS
        go_wp2_with (first | ((with_reducible refine gate_dst (N := 7) rfl ?_); refine box_event ?hg (N := 7) ?hd (cs := #[.int .i64 0, .string (⟨#[]⟩ : ByteArray), .int .i64 0]) (t := 86) ?hr ?_; (case hd => rfl); (case hg => rfl); (case hr => first | (go_simp; done) | (go_simp; rfl)); intro g7 hg w307 hbox hb; have n0 := Aside0.mk (F.out.box hg hbox hb); clear F hbox hb hg; have F := n0) | ((with_reducible refine gate_ (.store 86 (.tmp 7) (.tmp 15)) rfl ?_); refine F.out.st 0 rfl rfl rfl rfl (tkc x) rfl rfl infoTk rfl (tkc_one _) ?_; intro w607 n1; have n0 : Aside0 (Fg _ _ [(g7, 86, (tkc x)), (g1, 56, #[.slice (some ad) m c])] _ _) := ⟨n1⟩; clear F n1; have F := n0) | ((with_reducible refine gate_dst (N := 19) rfl ?_); refine goesV_ (some 19) rfl rfl Tryz.func66 (by kernel_rfl) rfl #[.int .i64 (j : Nat), .pointer (some ⟨g1, 0, none⟩)] rfl rfl (by simp only [List.map_toArray, List.map_cons, List.map_nil, List.append_toArray, List.nil_append, List.cons_append]; rfl) ?_; (refine (D1.out _ F.out.hb (F.out.at_ (n := 1) rfl)).mono ?_); (rintro e w119 ⟨rfl, hb1⟩; refine ⟨_, rfl, ?_⟩; have n0 := Aside0.mk (F.out.below hb1); clear F hb1; have F := n0)) | ((with_reducible refine gate_dst (N := 23) rfl ?_); refine ld_agg rfl (N := 23) rfl rfl rfl (F.out.at_ (n := 0) rfl) hu86 rfl infoTk ?_) | ((with_reducible refine gate_dst (N := 24) rfl ?_); refine goesL_ (some 24) rfl rfl Tryz.func68 (by kernel_rfl) rfl #[.agg (tkc x)] rfl (by (try simp only [List.map_toArray, List.map_cons, List.map_nil]); first | done | rfl) ?_; (refine (sign_Closes.calls _ _ _ _ _ HC.out).mono ?_); (rintro e w124 ⟨rfl, hb1⟩; refine ⟨_, rfl, ?_⟩; have n0 := Aside0.mk (F.out.below hb1); clear F hb1; have F := n0)) | ((with_reducible refine gate_dst (N := 21) rfl ?_); refine val_event rfl (.int .i64 (d2 : Nat)) ?hr ?_; (case hr => first | (go_simp; done) | (go_simp; rw [i64_w]; assumption) | (go_simp; rfl))) | ((with_reducible refine gate_dst (N := 26) rfl ?_); refine val_event rfl (.int .i64 ((d : Int) - 1)) ?hr ?_; (case hr => first | (go_simp; done) | (go_simp; rw [i64_w, e0]) | (go_simp; rfl))) | ((with_reducible refine gate_dst (N := 27) rfl ?_); refine val_event rfl (.int .i64 (d2 : Nat)) (run_max rfl (p := (d : Int) - 1) (q := 0) rfl e2) ?_) | ((with_reducible refine gate_dst (N := 30) rfl ?_); refine val_event rfl (.int .i64 (m2 : Nat)) (run_max rfl (p := (k : Nat)) (q := (d2 : Nat)) rfl e3) ?_) | ((with_reducible refine gate_dst (N := 31) rfl ?_); refine val_event rfl (.int .i64 (q1 : Nat)) ?hr ?_; (case hr => first | (go_simp; done) | (go_simp; rw [i64_w]; assumption) | (go_simp; rfl))))
        go_roundg (gk - 1)
        case measure => have := HQ.out; omega
        case rel => exact ⟨q1, d2, m2, rfl, rfl, rfl, ⟨by have := HQ.out; omega, by have := HQ.out; omega, HQ.out.2.1, HM2.out⟩, ⟨F.out.drop0⟩⟩
    · obtain rfl : j = m := by omega
      clear hj1 hj2 hd1 HJ
      go_wp2_with fail
      go_ret
      exact ⟨k, rfl, hk1, F.out.hb⟩
end
end Go.Proofs.YthipodffpkglfaaGreatDoor.PS
namespace Go.Proofs.YthipodffpkglfaaGreatDoor.PS
open Go.RowKit Go.Proofs.YthipodffpkglfaaGreatDoorW.PrintWords Go.Proofs.YthipodffpkglfaaGreatDoorW.PrintLast Go.Proofs.YthipodffpkglfaaGreatDoorW.PrintMore
set_option linter.unusedVariables false
set_option linter.unusedSimpArgs false
theorem F29tab6 : rtab .any (opsOf Tryz.f29 6) = (true, [([], []), ([], []), ([], []), ([0, 0], [0]), ([1, 3, 0, 1, 3], [1]), ([2, 4, 0, 1, 2, 3, 4], [2])]) := by kernel_rfl
theorem info9s : (Tryz.prog.info? 9).map (·.size) = some 1 := by kernel_rfl
theorem info56s : (Tryz.prog.info? 56).map (·.size) = some 1 := by kernel_rfl
theorem info3s : (Tryz.prog.info? 3).map (·.size) = some 1 := by kernel_rfl
/-- Bytes that say a text. -/
def Byt (wD : World) (A : Option Addr) (c : Nat) (s : ByteArray) : Prop := ∀ W, Below wD.heap.size wD W → (convert 28 9 (.slice A s.size c)).run Tryz.prog W = .ok (.string s) W
set_option maxHeartbeats 4000000 in
set_option maxRecDepth 100000 in
theorem f40_idle (g4 g2 g3 : Nat) (w : World) (h4 : w.heap[g4]? = some (.cells #[.int .i64 0] 3 (0, 0))) : CallsD Tryz.prog 40 #[.pointer (some ⟨g4, 0, none⟩), .pointer (some ⟨g2, 0, none⟩), .pointer (some ⟨g3, 0, none⟩)] .returning w fun e u' w' => u' = .returning ∧ (e = .returned (.tuple #[]) ∧ w' = w) := by
  have c4 : w.cell? ⟨g4, 0, none⟩ = some (.int .i64 0) := (blk_cell h4 0).trans rfl
  have hu3 := Tryz.underlying3
  clear h4
  go_enter_d Tryz.func40, Tryz.ntmps40
  go_wp2_with fail
  go_end0
  exact ⟨rfl, rfl⟩
theorem leaves_congr {P : Program} {fn : Func} {t1 t2 : Array Value} {R : Ending → World → Prop} (h : results fn t1 = results fn t2) : ∀ (ds : List Deferred) (u : FrameMode) (w : World), Leaves P fn t1 R ds u w → Leaves P fn t2 R ds u w
  | [], .returning, w, hl => by
    obtain ⟨v, h1, h2⟩ := hl
    rw [h] at h1
    exact ⟨v, h1, h2⟩
  | [], .panicking _, _, hl => hl
  | [], .run, _, hl => hl
  | d :: ds, u, w, hl => by
    obtain ⟨hu, fv, cap, f, args, h1, h2, h3⟩ := hl
    refine ⟨hu, fv, cap, f, args, h1, h2, h3.mono fun e u' w' hq => ?_⟩
    cases e
    · exact leaves_congr h ds _ _ hq
    · exact leaves_congr h ds _ _ hq
    · exact hq
theorem res29 (t : Array Value) (N : Nat) (hN : 5 ≤ N) (v : Value) : results Tryz.f29 (t.setIfInBounds N v) = results Tryz.f29 t := by
  have h : ∀ k, k < 5 → (t.setIfInBounds N v)[k]? = t[k]? := fun k hk => Array.getElem?_setIfInBounds_ne (by omega)
  have h2 := h 2 (by decide)
  have h3 := h 3 (by decide)
  have h4 := h 4 (by decide)
  unfold results
  simp only [Tryz.f29]
  simp [h2, h3, h4]
theorem pan29 {R : Ending → World → Prop} {c : List PanicEntry} {w : World} (N : Nat) (hN : 5 ≤ N) (v : Value) (a : Act) (h : Leaves Tryz.prog Tryz.f29 (a.put (some N) v).tmps R a.defers (.panicking c) w) : Leaves Tryz.prog Tryz.f29 a.tmps R a.defers (.panicking c) w :=
  leaves_congr (res29 _ N hN v) _ _ _ h
theorem run_cv {o : Oper} {a : Act} {W : World} {x : Operand} (ho : o.op = .convert 28 9 x) {X v : Value} (hx : a.eval x = X) (h : (convert 28 9 X).run Tryz.prog W = .ok v W) : (execOp a.eval o).run Tryz.prog W = .ok (.value v) W := by
  unfold execOp
  simp only [ho, hx, Sem.run_bind, Sem.run_pure, Result.andThen_ok, h]
set_option maxHeartbeats 4000000 in
set_option maxRecDepth 100000 in
theorem tokens_calls {wD w : World} {s : ByteArray} {A : Option Addr} {c : Nat} {toks : List Tk} (hb : Below wD.heap.size wD w) (hy : Byt wD A c s) (hz : s.size ≤ 65536) (hl : LexL 0 s.data.toList toks) (ha : Asc s) (hlen : toks.length ≤ 100000) (hf : ∀ x ∈ toks, notFun x) (hd : ∀ j, dAt toks j ≤ 100) : Calls Tryz.prog 29 #[.slice A s.size c] w fun e w' => ∃ A2 c2, e = .returned (.tuple #[.string s, .slice A2 toks.length c2, .int .i64 0]) ∧ TokAt w' A2 toks ∧ Below w.heap.size w w' := by
  have hu86 := Tryz.underlying86
  have hu56 := Tryz.underlying56
  have hu9 := Tryz.underlying9
  have hu3 := Tryz.underlying3
  have hmf : ∀ (fn : Fn) (first cap : Array Value) (w : World), (Instr.makeFunc fn first cap).run Tryz.prog w = .ok (.func fn first cap) w := fun _ _ _ _ => rfl
  have F := Aside0.mk (Fg.init (Below.refl w.heap.size w))
  have HB := Aside0.mk hb
  have HBY := Aside0.mk hy
  have HZ := Aside0.mk hz
  have HL := Aside0.mk hl
  have HA := Aside0.mk ha
  have HN := Aside0.mk hlen
  have HF := Aside0.mk hf
  have HD := Aside0.mk hd
  obtain ⟨m, hm⟩ : ∃ m, toks.length = m := ⟨_, rfl⟩
  rw [hm]
  have HM := Aside0.mk hm
  have DP := Aside0.mk (fun (W : World) (h : Below W.heap.size W W) {g2 g3 g4 : Nat} {A2 : Option Addr} {c2 : Nat} (h : Kd.F k86 W (fun k => k ≠ g2 ∧ k ≠ g3 ∧ k ≠ g4) A2 toks.length toks) => (by
    have := deep_calls (c := c2) (Below.refl W.heap.size W) (TokAt_of h) hlen hf hd
    rw [hm] at this
    exact this : Calls Tryz.prog 42 #[.slice A2 m c2] W fun e w' => ∃ v : Nat, e = .returned (.int .i64 (v : Nat)) ∧ v ≤ 100 ∧ Below W.heap.size W w'))
  clear hb hy hz hl ha hlen hf hd hm
  go_enter_defers Tryz.func29, Tryz.ntmps29
  go_upto_region 4 with (first | ((with_reducible refine gate_dst (N := 2) rfl ?_); refine box_event ?hg (N := 2) ?hd (cs := #[.string (⟨#[]⟩ : ByteArray)]) (t := 9) ?hr ?_; (case hd => rfl); (case hg => rfl); (case hr => first | (go_simp; done) | (go_simp; rfl)); intro g2 hg w302 hbox hb; have n0 := Aside0.mk (F.out.box hg hbox hb); clear F hbox hb hg; have F := n0) | ((with_reducible refine gate_dst (N := 3) rfl ?_); refine box_event ?hg (N := 3) ?hd (cs := #[.slice none 0 0]) (t := 56) ?hr ?_; (case hd => rfl); (case hg => rfl); (case hr => first | (go_simp; done) | (go_simp; rfl)); intro g3 hg w303 hbox hb; have n0 := Aside0.mk (F.out.box hg hbox hb); clear F hbox hb hg; have F := n0) | ((with_reducible refine gate_dst (N := 4) rfl ?_); refine box_event ?hg (N := 4) ?hd (cs := #[.int .i64 0]) (t := 3) ?hr ?_; (case hd => rfl); (case hg => rfl); (case hr => first | (go_simp; done) | (go_simp; rfl)); intro g4 hg w304 hbox hb; have n0 := Aside0.mk (F.out.box hg hbox hb); clear F hbox hb hg; have F := n0) | ((with_reducible refine gate_dst (N := 7) rfl ?_); refine val_event rfl (.string s) (run_cv (X := .slice A s.size c) rfl rfl (HBY.out _ (HB.out.trans (F.out.hb.mono HB.out.size)))) ?_) | ((with_reducible refine gate_ (.store 9 (.tmp 2) (.tmp 7)) rfl ?_); refine st_cell rfl rfl rfl rfl rfl (F.out.at_ (n := 2) rfl) (by show 0 < 1; decide) info9s rfl rfl ?_; intro w602 q1 q2 q3; have n0 : Aside0 (Fg _ _ [(g4, 3, #[.int .i64 0]), (g3, 56, #[.slice none 0 0]), (g2, 9, #[.string s])] _ _) := ⟨F.out.put (n := 2) rfl q1 q2 q3⟩; clear F q1 q2 q3; have F := n0) | ((with_reducible refine gate_dst (N := 9) rfl ?_); refine ld_cell rfl (N := 9) (v := .string s) rfl rfl rfl (F.out.at_ (n := 2) rfl) rfl hu9 rfl ?_) | ((with_reducible refine gate_dst (N := 10) rfl ?_); refine goesL_ (some 10) rfl rfl Tryz.func41 (by kernel_rfl) rfl #[.string s] rfl (by (try simp only [List.map_toArray, List.map_cons, List.map_nil]); first | done | rfl) ?_; (refine (scan_calls HZ.out HL.out HA.out).mono ?_); (rintro e w110 ⟨A2, c2, rfl, hkf, hb1⟩; refine ⟨_, rfl, ?_⟩; have KF := Aside0.mk (Kd.F_mono hkf (fun k hk => (⟨fun e => Nat.lt_irrefl _ (Nat.lt_of_le_of_lt (e ▸ hk) (F.out.lt _ (List.mem_of_getElem? (i := 2) rfl))), fun e => Nat.lt_irrefl _ (Nat.lt_of_le_of_lt (e ▸ hk) (F.out.lt _ (List.mem_of_getElem? (i := 1) rfl))), fun e => Nat.lt_irrefl _ (Nat.lt_of_le_of_lt (e ▸ hk) (F.out.lt _ (List.mem_of_getElem? (i := 0) rfl)))⟩ : k ≠ g2 ∧ k ≠ g3 ∧ k ≠ g4))); have n0 := Aside0.mk (F.out.below hb1); rw [HM.out]; clear F hb1 hkf; have F := n0)) | ((with_reducible refine gate_ (.store 56 (.tmp 3) (.tmp 11)) rfl ?_); refine st_cell rfl rfl rfl rfl rfl (F.out.at_ (n := 1) rfl) (by show 0 < 1; decide) info56s rfl rfl ?_; intro w603 q1 q2 q3; have n0 : Aside0 (Fg _ _ [(g4, 3, #[.int .i64 0]), (g3, 56, #[.slice A2 m c2]), (g2, 9, #[.string s])] _ _) := ⟨F.out.put (n := 1) rfl q1 q2 q3⟩; have k0 := Aside0.mk (Kd.F_step KF.out (fun q ho _ => q3 q ho.2.1)); clear KF; have KF := k0; clear F q1 q2 q3; have F := n0) | ((with_reducible refine gate_ (.store 3 (.tmp 4) (.tmp 12)) rfl ?_); refine st_cell rfl rfl rfl rfl rfl (F.out.at_ (n := 0) rfl) (by show 0 < 1; decide) info3s rfl rfl ?_; intro w604 q1 q2 q3; have n0 : Aside0 (Fg _ _ [(g4, 3, #[.int .i64 0]), (g3, 56, #[.slice A2 m c2]), (g2, 9, #[.string s])] _ _) := ⟨F.out.put (n := 0) rfl q1 q2 q3⟩; have k0 := Aside0.mk (Kd.F_step KF.out (fun q ho _ => q3 q ho.2.2)); clear KF; have KF := k0; clear F q1 q2 q3; have F := n0))
  go_upto_region 6 with (first | ((with_reducible refine gate_dst (N := 13) rfl ?_); refine ld_cell rfl (N := 13) (v := .int .i64 0) rfl rfl rfl (F.out.at_ (n := 0) rfl) rfl hu3 rfl ?_) | ((with_reducible refine gate_dst (N := 16) rfl ?_); (refine gate_guard (by rfl) ?_; dsimp only); refine ld_cell rfl (N := 16) (v := .slice A2 m c2) rfl rfl rfl (F.out.at_ (n := 1) rfl) rfl hu56 rfl ?_) | ((with_reducible refine gate_dst (N := 17) rfl ?_); (refine gate_guard (by rfl) ?_; dsimp only); refine goesL_ (some 17) rfl rfl Tryz.func42 (by kernel_rfl) rfl #[.slice A2 m c2] rfl (by (try simp only [List.map_toArray, List.map_cons, List.map_nil]); first | done | rfl) ?_; (refine (DP.out _ (Below.refl _ _) KF.out).mono ?_); (rintro e w117 ⟨dv, rfl, hdv, hb1⟩; refine ⟨_, rfl, ?_⟩; have DV := Aside0.mk hdv; have c9 : decide ((dv : Int) > 100) = false := decide_eq_false (by omega); have c8 : decide (100 < dv) = false := decide_eq_false (by omega); have k0 := Aside0.mk (Kd.F_mono (Kd.F_below (Kd.F_bound KF.out) hb1) (fun _ hk => hk.1)); clear KF; have KF := k0; have n0 := Aside0.mk (F.out.below hb1); clear F hb1 hdv; have F := n0)))
  refine start_ (n := 6) (S := Bx [(g4, 3, #[.int .i64 0]), (g3, 56, #[.slice A2 m c2]), (g2, 9, #[.string s])]) (ds := []) (bt 6 0) (by kernel_rfl) rfl (by kernel_rfl) (F.out.below (below_drew1 (Below.refl _ _))).bxs (fun hHeld => ?_)
  have n0 := Aside0.mk (F.out.below (below_drew1 (Below.refl _ _)))
  have k0 := Aside0.mk (Kd.F_mono (Kd.F_below (Kd.F_bound KF.out) (below_drew1 (Below.refl _ _))) (fun _ hk => hk.1))
  clear KF
  have KF := k0
  clear F
  have F := n0
  generalize World.drew _ = w500 at F KF hHeld ⊢
  refine take_ (i := 0) (N := some 20) (bt 6 1) rfl rfl (take_of F29tab6 (by kernel_rfl)) (fun _ a _ h => pan29 20 (by decide) _ a h) (Or.inl ⟨by rfl, fun w' s_ => run_ldc (v := (.string s)) rfl rfl (Bx.at_ s_ (n := 2) rfl) rfl hu9 rfl⟩) hHeld (by simp only [Act.put, pset]; rfl) ?_
  refine take_ (i := 1) (N := some 21) (bt 6 3) rfl rfl (take_of F29tab6 (by kernel_rfl)) (fun _ a _ h => pan29 21 (by decide) _ a h) (Or.inl ⟨by rfl, fun w' s_ => run_ldc (v := (.slice A2 m c2)) rfl rfl (Bx.at_ s_ (n := 1) rfl) rfl hu56 rfl⟩) hHeld (by simp only [Act.put, pset]; rfl) ?_
  refine take_ (i := 2) (N := some 22) (bt 6 7) rfl rfl (take_of F29tab6 (by kernel_rfl)) (fun _ a _ h => pan29 22 (by decide) _ a h) (Or.inl ⟨by rfl, fun w' s_ => run_ldc (v := (.int .i64 0)) rfl rfl (Bx.at_ s_ (n := 0) rfl) rfl hu3 rfl⟩) hHeld (by simp only [Act.put, pset]; rfl) ?_
  refine one_ (i := 3) (N := none) (bt 6 15) rfl rfl (one_of F29tab6 (by kernel_rfl)) (by decide) (fun K hK => ?_)
  refine st_cell_step (by rfl) rfl (T := 9) (p := 2) (x := .tmp 20) rfl (k := 0) (v := .string s) rfl rfl (F.out.at_ (n := 2) rfl) (by show 0 < 1; decide) info9s rfl rfl ?_
  intro w501 q1 q2 q3
  have n0 : Aside0 (Fg w w [(g4, 3, #[.int .i64 0]), (g3, 56, #[.slice A2 m c2]), (g2, 9, #[.string s])] [] _) := ⟨F.out.put (n := 2) rfl q1 q2 q3⟩
  have k0 := Aside0.mk (Kd.F_step KF.out (fun q ho _ => q3 q ho.1))
  clear KF; have KF := k0
  clear F q1 q2 q3; have F := n0
  refine hK.out _ _ F.out.bxs (fun hHeld => ?_)
  clear hK K
  refine norm_ (show Act.put _ (none) _ = _ from (by simp only [Act.put, pset]; rfl)) ?_
  refine one_ (i := 4) (N := none) (bt 6 31) rfl rfl (one_of F29tab6 (by kernel_rfl)) (by decide) (fun K hK => ?_)
  refine st_cell_step (by rfl) rfl (T := 56) (p := 3) (x := .tmp 21) rfl (k := 0) (v := .slice A2 m c2) rfl rfl (F.out.at_ (n := 1) rfl) (by show 0 < 1; decide) info56s rfl rfl ?_
  intro w502 q1 q2 q3
  have n0 : Aside0 (Fg w w [(g4, 3, #[.int .i64 0]), (g3, 56, #[.slice A2 m c2]), (g2, 9, #[.string s])] [] _) := ⟨F.out.put (n := 1) rfl q1 q2 q3⟩
  have k0 := Aside0.mk (Kd.F_step KF.out (fun q ho _ => q3 q ho.2.1))
  clear KF; have KF := k0
  clear F q1 q2 q3; have F := n0
  refine hK.out _ _ F.out.bxs (fun hHeld => ?_)
  clear hK K
  refine norm_ (show Act.put _ (none) _ = _ from (by simp only [Act.put, pset]; rfl)) ?_
  refine one_ (i := 5) (N := none) (bt 6 63) rfl rfl (one_of F29tab6 (by kernel_rfl)) (by decide) (fun K hK => ?_)
  refine st_cell_step (by rfl) rfl (T := 3) (p := 4) (x := .tmp 22) rfl (k := 0) (v := .int .i64 0) rfl rfl (F.out.at_ (n := 0) rfl) (by show 0 < 1; decide) info3s rfl rfl ?_
  intro w503 q1 q2 q3
  have n0 : Aside0 (Fg w w [(g4, 3, #[.int .i64 0]), (g3, 56, #[.slice A2 m c2]), (g2, 9, #[.string s])] [] _) := ⟨F.out.put (n := 0) rfl q1 q2 q3⟩
  have k0 := Aside0.mk (Kd.F_step KF.out (fun q ho _ => q3 q ho.2.2))
  clear KF; have KF := k0
  clear F q1 q2 q3; have F := n0
  refine hK.out _ _ F.out.bxs (fun hHeld => ?_)
  clear hK K
  refine norm_ (show Act.put _ (none) _ = _ from (by simp only [Act.put, pset]; rfl)) ?_
  refine done_ (done_of F29tab6 (by kernel_rfl)) ?_
  clear hHeld
  go_wp2_with fail
  have e2 : ∀ W, W = w503 → W.cell? ⟨g2, 0, none⟩ = some (.string s) := fun W h => h ▸ (blk_cell (F.out.at_ (n := 2) rfl) 0).trans rfl
  have e3 : ∀ W, W = w503 → W.cell? ⟨g3, 0, none⟩ = some (.slice A2 m c2) := fun W h => h ▸ (blk_cell (F.out.at_ (n := 1) rfl) 0).trans rfl
  have e4 : ∀ W, W = w503 → W.cell? ⟨g4, 0, none⟩ = some (.int .i64 0) := fun W h => h ▸ (blk_cell (F.out.at_ (n := 0) rfl) 0).trans rfl
  refine leaves_cons (f := 40) (args := #[.pointer (some ⟨g4, 0, none⟩), .pointer (some ⟨g2, 0, none⟩), .pointer (some ⟨g3, 0, none⟩)]) (by simp) (by simp [go_sem]) ?_
  refine (f40_idle g4 g2 g3 _ (F.out.at_ (n := 0) rfl)).mono ?_
  rintro e u' w'' ⟨rfl, rfl, rfl⟩
  refine ⟨.tuple #[.string s, .slice A2 m c2, .int .i64 0], ?_, ?_⟩
  · simp [results, Tryz.f29, go_sem, e2, e3, e4]
  · exact ⟨A2, c2, rfl, TokAt_of KF.out, F.out.hb⟩
end Go.Proofs.YthipodffpkglfaaGreatDoor.PS
namespace Go.Proofs.YthipodffpkglfaaGreatDoor.PS
open Go.RowKit Go.Proofs.YthipodffpkglfaaGreatDoorW.PrintWords Go.Proofs.YthipodffpkglfaaGreatDoorW.PrintLast Go.Proofs.YthipodffpkglfaaGreatDoorW.PrintMore
set_option linter.unusedVariables false
set_option linter.unusedSimpArgs false
set_option maxHeartbeats 4000000 in
set_option maxRecDepth 100000 in
theorem forms16_calls {wD w : World} {s : ByteArray} {A : Option Addr} {c : Nat} {toks : List Tk} {l : List S45} (hb : Below wD.heap.size wD w) (hy : Byt wD A c s) (hz : s.size ≤ 65536) (hl : LexL 0 s.data.toList toks) (ha : Asc s) (hlen : toks.length ≤ 100000) (hf : ∀ x ∈ toks, notFun x) (hd : ∀ j, dAt toks j ≤ 100)
    (h30 : ∀ (w1 : World) (A2 : Option Addr) (c2 : Nat), TokAt w1 A2 toks → Calls Tryz.prog 30 #[.string s, .slice A2 toks.length c2] w1 fun e w' => ∃ A1 c1, e = .returned (.slice A1 l.length c1) ∧ l.length ≤ c1 ∧ Kd.F k45 w' (fun k => w1.heap.size ≤ k) A1 l.length l ∧ KeepBut w1 w' w1.heap.size none ∧ Below w1.heap.size w1 w') :
    Calls Tryz.prog 16 #[.slice A s.size c] w fun e w' => ∃ A1 c1, e = .returned (.tuple #[.slice A1 l.length c1, .int .i64 0]) ∧ l.length ≤ c1 ∧ Kd.F k45 w' (fun k => w.heap.size ≤ k) A1 l.length l ∧ Below w.heap.size w w' := by
  have hu56 := Tryz.underlying56
  have hu9 := Tryz.underlying9
  have hu3 := Tryz.underlying3
  have hu33 := Tryz.underlying33
  have HT := Aside0.mk (tokens_calls hb hy hz hl ha hlen hf hd)
  have H3 := Aside0.mk h30
  obtain ⟨m, hm⟩ : ∃ m, toks.length = m := ⟨_, rfl⟩
  obtain ⟨n, hn⟩ : ∃ n, l.length = n := ⟨_, rfl⟩
  rw [hm] at HT H3
  rw [hn] at H3 ⊢
  clear hb hy hz hl ha hlen hf hd h30 hm hn
  go_enter Tryz.func16, Tryz.ntmps16
  go_wp2_with (first | ((with_reducible refine gate_dst (N := 9) rfl ?_); refine goesL_ (some 9) rfl rfl Tryz.func29 (by kernel_rfl) rfl #[.slice A s.size c] rfl (by (try simp only [List.map_toArray, List.map_cons, List.map_nil]); first | done | rfl) ?_; (refine (HT.out).mono ?_); (rintro e w109 ⟨A2, c2, rfl, htk, hb1⟩; refine ⟨_, rfl, ?_⟩; have B1 := Aside0.mk hb1; have TK := Aside0.mk htk; clear hb1 htk)) | ((with_reducible refine gate_dst (N := 18) rfl ?_); refine goesL_ (some 18) rfl rfl Tryz.func30 (by kernel_rfl) rfl #[.string s, .slice A2 m c2] rfl (by (try simp only [List.map_toArray, List.map_cons, List.map_nil]); first | done | rfl) ?_; (refine (H3.out _ A2 c2 TK.out).mono ?_); (rintro e w118 ⟨A1, c1, rfl, hcc, hff, hkk, hb2⟩; refine ⟨_, rfl, ?_⟩; have hc1 := Aside0.mk hcc; have hF := Aside0.mk hff; have B2 := Aside0.mk hb2; clear hcc hff hkk hb2)))
  go_ret2
  exact ⟨A1, c1, rfl, hc1.out, Kd.F_mono hF.out (fun k hk => Nat.le_trans B1.out.size hk), B1.out.trans (B2.out.mono B1.out.size)⟩
end Go.Proofs.YthipodffpkglfaaGreatDoor.PS
namespace Go.Proofs.YthipodffpkglfaaGreatDoor.PS
open Go.RowKit Go.Proofs.YthipodffpkglfaaGreatDoorW.PrintWords Go.Proofs.YthipodffpkglfaaGreatDoorW.PrintLast Go.Proofs.YthipodffpkglfaaGreatDoorW.PrintMore
set_option linter.unusedVariables false
set_option linter.unusedSimpArgs false
/-- A form stands in a text from byte p on, from token b on. -/
structure At (s : ByteArray) (toks : List Tk) (f p b : Nat) : Prop where
  hb : ∃ B1 B2, s.data.toList = B1 ++ (formB f ++ B2) ∧ B1.length = p
  hk : ∃ K1 K2, toks = K1 ++ (formK p f ++ K2) ∧ K1.length = b
def nlL (l : List UInt8) (e : Nat) : Nat → Nat
  | 0 => 0
  | m + 1 => (if (l.getD e 0).toNat = 10 then 1 else 0) + nlL l (e + 1) m
def tokF (p : Nat) (x : Int × ByteArray × Nat) : Tk := ⟨x.1, x.2.1, ((p + x.2.2 : Nat) : Int)⟩
theorem formK_len (p f : Nat) : (formK p f).length = (formT f).length := by unfold formK; simp
section
variable {s : ByteArray} {toks : List Tk} {f p b : Nat}
theorem At.tok (h : At s toks f p b) {q : Nat} {x : Int × ByteArray × Nat} (hq : (formT f)[q]? = some x) : toks[b + q]? = some (tokF p x) := by
  obtain ⟨K1, K2, e, hl⟩ := h.hk
  have hlt := (List.getElem?_eq_some_iff.1 hq).1
  rw [e, List.getElem?_append_right (by omega), hl, Nat.add_sub_cancel_left, List.getElem?_append_left (by rw [formK_len]; exact hlt)]
  unfold formK
  rw [List.getElem?_map, hq]
  rfl
theorem At.len (h : At s toks f p b) : b + (formT f).length ≤ toks.length := by
  obtain ⟨K1, K2, e, hl⟩ := h.hk
  rw [e, List.length_append, List.length_append, formK_len]
  omega
theorem At.size (h : At s toks f p b) : p + (formB f).length ≤ s.size := by
  obtain ⟨B1, B2, e, hl⟩ := h.hb
  rw [size_data, e, List.length_append, List.length_append]
  omega
theorem At.byte (h : At s toks f p b) {i : Nat} (hi : i < (formB f).length) : s.data.toList.getD (p + i) 0 = (formB f).getD i 0 := by
  obtain ⟨B1, B2, e, hl⟩ := h.hb
  rw [e, List.getD_eq_getElem?_getD, List.getD_eq_getElem?_getD, List.getElem?_append_right (by omega), hl, Nat.add_sub_cancel_left, List.getElem?_append_left hi]
theorem At.nl (h : At s toks f p b) : ∀ (m e : Nat), e + m ≤ (formB f).length → nlF s (p + e) m = nlL (formB f) e m
  | 0, _, _ => rfl
  | m + 1, e, he => by
    have ih := h.nl m (e + 1) (by omega)
    show (if (s.data.toList.getD (p + e) 0).toNat = 10 then 1 else 0) + nlF s (p + e + 1) m = _
    rw [h.byte (by omega), Nat.add_assoc, ih]
    rfl
end
/-- What a form's tokens keep, checked by running. -/
def gapOk (f : Nat) : Bool := (List.range (formT f).length).all fun q => match (formT f)[q]? with
  | some x => decide (x.2.2 + x.2.1.size ≤ (formB f).length) && match (formT f)[q + 1]? with
    | some y => decide (x.2.2 + x.2.1.size ≤ y.2.2) && decide (nlL (formB f) (x.2.2 + x.2.1.size) (y.2.2 - (x.2.2 + x.2.1.size)) = 0)
    | none => true
  | none => true
theorem gap_ok : ∀ f, gapOk f = true
  | 0 => by kernel_rfl
  | 1 => by kernel_rfl
  | 2 => by kernel_rfl
  | 3 => by kernel_rfl
  | 4 => by kernel_rfl
  | 5 => by kernel_rfl
  | 6 => by kernel_rfl
  | _ + 7 => by
    show gapOk 7 = true
    kernel_rfl
theorem gap_at {f q : Nat} {x : Int × ByteArray × Nat} (hx : (formT f)[q]? = some x) : x.2.2 + x.2.1.size ≤ (formB f).length ∧ ∀ y, (formT f)[q + 1]? = some y → x.2.2 + x.2.1.size ≤ y.2.2 ∧ nlL (formB f) (x.2.2 + x.2.1.size) (y.2.2 - (x.2.2 + x.2.1.size)) = 0 := by
  have h := List.all_eq_true.1 (gap_ok f) q (List.mem_range.2 (List.getElem?_eq_some_iff.1 hx).1)
  simp only [hx, Bool.and_eq_true, decide_eq_true_eq] at h
  refine ⟨h.1, fun y hy => ?_⟩
  have h2 := h.2
  rw [hy] at h2
  simpa using h2
section
variable {wD w : World} {s : ByteArray} {A : Option Addr} {c : Nat} {toks : List Tk} {f p b : Nat}
theorem At.inT (h : At s toks f p b) {q : Nat} {x : Int × ByteArray × Nat} (hx : (formT f)[q]? = some x) : inT s (tokF p x) := by
  have h1 := (gap_at hx).1
  have h2 := h.size
  refine ⟨by show (0 : Int) ≤ ((p + x.2.2 : Nat) : Int); omega, ?_⟩
  show ((p + x.2.2 : Nat) : Int) + (x.2.1.size : Int) ≤ (s.size : Int)
  omega
theorem At.reads (h : At s toks f p b) (tk : TokAt wD A toks) (hl : toks.length ≤ 1000000) (hs : s.size ≤ 1000000) (hk : ∀ (q : Nat) (x : Int × ByteArray × Nat), (formT f)[q]? = some x → x.1 ≠ 11) {n : Nat} (hn : n ≤ b + (formT f).length) : Toks wD s A toks n b :=
  ⟨Nat.le_trans hn h.len, tk, fun j x hj h1 h2 => by
    obtain ⟨q, rfl⟩ : ∃ q, j = b + q := ⟨j - b, by omega⟩
    have hq : q < (formT f).length := by omega
    have := h.tok (List.getElem?_eq_getElem hq)
    rw [hj] at this
    obtain rfl := Option.some.inj this
    exact hk q _ (List.getElem?_eq_getElem hq), hl, hs, fun j x y h1 h2 hx hy => by
    obtain ⟨q, rfl⟩ : ∃ q, j = b + q := ⟨j - b, by omega⟩
    have hq : q < (formT f).length := by omega
    have hq1 : q + 1 < (formT f).length := by omega
    have ex := List.getElem?_eq_getElem hq
    have ey := List.getElem?_eq_getElem hq1
    have e1 := h.tok ex
    have e2 := h.tok ey
    rw [hx] at e1
    rw [show b + q + 1 = b + (q + 1) by omega, e2] at hy
    obtain rfl := Option.some.inj e1
    obtain rfl := Option.some.inj hy
    obtain ⟨g1, g2⟩ := gap_at ex
    obtain ⟨g3, g4⟩ := g2 _ ey
    have g5 := (gap_at ey).1
    generalize (formT f)[q] = x at *
    generalize (formT f)[q + 1] = y at *
    refine ⟨h.inT ex, h.inT ey, p + (x.2.2 + x.2.1.size), y.2.2 - (x.2.2 + x.2.1.size), ?_, ?_, ?_⟩
    · show ((p + x.2.2 : Nat) : Int) + (x.2.1.size : Int) = _
      omega
    · show ((p + y.2.2 : Nat) : Int) = _
      omega
    · rw [h.nl _ _ (by omega)]
      exact g4⟩
end
end Go.Proofs.YthipodffpkglfaaGreatDoor.PS
namespace Go.Proofs.YthipodffpkglfaaGreatDoor.PS
open Go.RowKit Go.Proofs.YthipodffpkglfaaGreatDoorW.PrintWords Go.Proofs.YthipodffpkglfaaGreatDoorW.PrintLast Go.Proofs.YthipodffpkglfaaGreatDoorW.PrintMore
set_option linter.unusedVariables false
set_option linter.unusedSimpArgs false
def formN : Nat → Nd3
  | 0 => ⟨28, (⟨#[]⟩ : ByteArray), [(nd 22 (⟨#[102]⟩ : ByteArray) [(nd 23 (⟨#[]⟩ : ByteArray) []), (nd 24 (⟨#[]⟩ : ByteArray) []), (nd 25 (⟨#[]⟩ : ByteArray) [(nd 1 (⟨#[97]⟩ : ByteArray) [])])])]⟩
  | 1 => ⟨26, (⟨#[109]⟩ : ByteArray), [(nd 23 (⟨#[]⟩ : ByteArray) [(nd 1 (⟨#[120]⟩ : ByteArray) [])])]⟩
  | 2 => ⟨30, (⟨#[37, 37, 32, 99]⟩ : ByteArray), []⟩
  | 3 => ⟨29, (⟨#[120, 32, 121, 46]⟩ : ByteArray), []⟩
  | 4 => ⟨28, (⟨#[]⟩ : ByteArray), [(nd 22 (⟨#[103]⟩ : ByteArray) [(nd 23 (⟨#[]⟩ : ByteArray) [(nd 1 (⟨#[88]⟩ : ByteArray) [])]), (nd 24 (⟨#[]⟩ : ByteArray) []), (nd 25 (⟨#[]⟩ : ByteArray) [(nd 18 (⟨#[]⟩ : ByteArray) [(nd 1 (⟨#[88]⟩ : ByteArray) []), (nd 22 (⟨#[]⟩ : ByteArray) [(nd 23 (⟨#[]⟩ : ByteArray) [(nd 1 (⟨#[97]⟩ : ByteArray) [])]), (nd 24 (⟨#[]⟩ : ByteArray) []), (nd 25 (⟨#[]⟩ : ByteArray) [(nd 1 (⟨#[98]⟩ : ByteArray) [])])])])])])]⟩
  | 5 => ⟨28, (⟨#[]⟩ : ByteArray), [(nd 22 (⟨#[104]⟩ : ByteArray) [(nd 23 (⟨#[]⟩ : ByteArray) []), (nd 24 (⟨#[]⟩ : ByteArray) []), (nd 25 (⟨#[]⟩ : ByteArray) [(nd 15 (⟨#[]⟩ : ByteArray) [(nd 1 (⟨#[88]⟩ : ByteArray) []), (nd 14 (⟨#[60, 45]⟩ : ByteArray) [(nd 1 (⟨#[88]⟩ : ByteArray) []), (nd 1 (⟨#[108]⟩ : ByteArray) [])])])])])]⟩
  | 6 => ⟨26, (⟨#[116]⟩ : ByteArray), [(nd 14 (⟨#[58, 58]⟩ : ByteArray) [(nd 1 (⟨#[97]⟩ : ByteArray) []), (nd 1 (⟨#[98]⟩ : ByteArray) [])])]⟩
  | _ => ⟨28, (⟨#[]⟩ : ByteArray), [(nd 22 (⟨#[102]⟩ : ByteArray) [(nd 23 (⟨#[]⟩ : ByteArray) []), (nd 24 (⟨#[]⟩ : ByteArray) []), (nd 25 (⟨#[]⟩ : ByteArray) [(nd 2 (⟨#[]⟩ : ByteArray) [(nd 1 (⟨#[103]⟩ : ByteArray) []), (nd 1 (⟨#[97]⟩ : ByteArray) []), (nd 1 (⟨#[97]⟩ : ByteArray) [])])])])]⟩
section
variable {wD w : World} {s : ByteArray} {A : Option Addr} {c : Nat} {toks : List Tk} {f p b : Nat}
theorem At.has (h : At s toks f p b) {F : List (Int × ByteArray)} (hF : ((formT f).take F.length).map (fun x => (x.1, x.2.1)) = F) {n fr gp : Nat} (hn : b + F.length = n) : Has (mkE wD s A c toks n fr gp) b F := by
  intro m k t hm
  have hlt := (List.getElem?_eq_some_iff.1 hm).1
  rw [← hF, List.getElem?_map, List.getElem?_take_of_lt hlt] at hm
  obtain ⟨x, hx, he⟩ := Option.map_eq_some_iff.1 hm
  have ht := h.tok hx
  have hE : (mkE wD s A c toks n fr gp).cur (b + m) = tokF p x := by
    unfold Env.cur mkE
    rw [if_pos (by show b + m < n; omega)]
    show toks.getD (b + m) tkz = _
    rw [List.getD_eq_getElem?_getD, ht]
    rfl
  rw [hE]
  refine ⟨by show b + m < n; omega, ?_, ?_⟩
  · exact (Prod.mk.inj he).1
  · exact (Prod.mk.inj he).2
/-- What there is about a form in a text. -/
structure Ctx (wD : World) (s : ByteArray) (A : Option Addr) (toks : List Tk) (f p b : Nat) : Prop where
  at_ : At s toks f p b
  tk : TokAt wD A toks
  hl : toks.length ≤ 100000
  hs : s.size ≤ 65536
theorem Ctx.bytes (C : Ctx wD s A toks f p b) {q : Nat} {x y : Int × ByteArray × Nat} (hx : (formT f)[0]? = some x) (hy : (formT f)[q]? = some y) (hxy : x.2.2 ≤ y.2.2 + y.2.1.size) (note : Bool) : ∀ w, Below wD.heap.size wD w → Calls Tryz.prog 71 #[.string s, .slice A toks.length c, .agg (itc b (b + q + 1) note)] w fun e w' => e = .returned (.string (s.extract (p + x.2.2) (p + (y.2.2 + y.2.1.size)))) ∧ Below w.heap.size w w' := fun w hb => by
  have h0 := C.at_.tok hx
  have h1 := C.at_.tok hy
  have g := (gap_at hy).1
  have z := C.at_.size
  have l1 := C.at_.len
  have hq := (List.getElem?_eq_some_iff.1 hy).1
  exact bytes_calls (xb := tokF p x) (xd := tokF p y) hb C.tk h0 h1 ⟨by omega, by have := C.hl; omega⟩ rfl (by show ((p + y.2.2 : Nat) : Int) + (y.2.1.size : Int) = _; omega) ⟨by omega, by omega, by have := C.hs; omega⟩
theorem no11 {f : Nat} (h : ((formT f).all fun x => x.1 != 11) = true) (q : Nat) (x : Int × ByteArray × Nat) (hx : (formT f)[q]? = some x) : x.1 ≠ 11 := by
  have := List.all_eq_true.1 h x (List.mem_of_getElem? hx)
  simpa using this
theorem Ctx.reads (C : Ctx wD s A toks f p b) (h : ((formT f).all fun x => x.1 != 11) = true) {n : Nat} (hn : n ≤ b + (formT f).length) : Toks wD s A toks n b :=
  C.at_.reads C.tk (Nat.le_trans C.hl (by decide)) (Nat.le_trans C.hs (by decide)) (no11 h) hn
set_option maxHeartbeats 4000000 in
set_option maxRecDepth 100000 in
theorem form0 (C : Ctx wD s A toks 0 p b) (hb : Below wD.heap.size wD w) : Calls Tryz.prog 44 #[.string s, .slice A toks.length c, .agg (itc b (b + 5 + 1) false)] w (RfP wD w (formN 0).k (formN 0).t (formN 0).l) :=
  form_der (n := b + 5) hb C.tk (C.at_.tok (q := 0) rfl) ⟨by omega, (by have h1 := C.at_.len; have h2 : (formT 0).length = 6 := rfl; have := C.hl; omega)⟩ (C.bytes (q := 5) rfl rfl (by decide) false) (fun w hb => der_func hb C.tk ⟨by omega, (by have h1 := C.at_.len; have h2 : (formT 0).length = 6 := rfl; have := C.hl; omega)⟩ (C.at_.tok (q := 5) rfl) rfl (fun w hb => attr_no hb C.tk (C.at_.tok (q := 0) rfl) (by first | rfl | kernel_rfl) ⟨by omega, (by have h1 := C.at_.len; have h2 : (formT 0).length = 6 := rfl; have := C.hl; omega)⟩) (fun w hb => func_ok (C.reads (by kernel_rfl) (Nat.le_of_lt (by show _ < _ + 6; omega))) hb ⟨Nat.le_refl _, by omega⟩ (fun gp w1 gO hp hO hg hD => rd0 (C.at_.has (F := T0) rfl rfl) rfl (Nat.le_refl _) hp hO hg hD)))
set_option maxHeartbeats 4000000 in
set_option maxRecDepth 100000 in
theorem form1 (C : Ctx wD s A toks 1 p b) (hb : Below wD.heap.size wD w) : Calls Tryz.prog 44 #[.string s, .slice A toks.length c, .agg (itc b (b + 5 + 1) false)] w (RfP wD w (formN 1).k (formN 1).t (formN 1).l) :=
  form_der (n := b + 5) hb C.tk (C.at_.tok (q := 0) rfl) ⟨by omega, (by have h1 := C.at_.len; have h2 : (formT 1).length = 6 := rfl; have := C.hl; omega)⟩ (C.bytes (q := 5) rfl rfl (by decide) false) (fun w hb => der_attr hb C.tk ⟨by omega, (by have h1 := C.at_.len; have h2 : (formT 1).length = 6 := rfl; have := C.hl; omega)⟩ (C.at_.tok (q := 5) rfl) rfl (fun w hb => attr_yes hb C.tk (C.at_.tok (q := 0) rfl) (by first | rfl | kernel_rfl) ⟨by omega, (by have h1 := C.at_.len; have h2 : (formT 1).length = 6 := rfl; have := C.hl; omega)⟩ (C.at_.tok (q := 1) rfl) rfl (by kernel_rfl) (by kernel_rfl) (fun w hb => attr_ok (C.reads (by kernel_rfl) (Nat.le_of_lt (by show _ < _ + 6; omega))) hb ⟨by omega, by omega⟩ (fun gp w1 gO hp hO hg hD => rd1 (C.at_.has (F := T1) rfl rfl) rfl (Nat.le_refl _) hp hO hg hD))))
set_option maxHeartbeats 4000000 in
set_option maxRecDepth 100000 in
theorem form2 (C : Ctx wD s A toks 2 p b) (hb : Below wD.heap.size wD w) : Calls Tryz.prog 44 #[.string s, .slice A toks.length c, .agg (itc b (b + 0 + 1) true)] w (RfP wD w (formN 2).k (formN 2).t (formN 2).l) :=
  form_note (n := b + 0) hb C.tk (C.at_.tok (q := 0) rfl) ⟨by omega, (by have h1 := C.at_.len; have h2 : (formT 2).length = 1 := rfl; have := C.hl; omega)⟩ (C.bytes (q := 0) rfl rfl (by decide) true)
set_option maxHeartbeats 4000000 in
set_option maxRecDepth 100000 in
theorem form3 (C : Ctx wD s A toks 3 p b) (hb : Below wD.heap.size wD w) : Calls Tryz.prog 44 #[.string s, .slice A toks.length c, .agg (itc b (b + 2 + 1) false)] w (RfP wD w (formN 3).k (formN 3).t (formN 3).l) :=
  by
  obtain ⟨B1, B2, e, hl⟩ := C.at_.hb
  have he := ext_eq (s := s) (p := p) (u := [120, 32, 121, 46]) (r := 10 :: B2) (by rw [e, ← hl, List.drop_left]; rfl)
  have h := form_raw (n := b + 2) (w := w) (c := c) (k := 28) (t := (⟨#[]⟩ : ByteArray)) (l := []) hb C.tk (C.at_.tok (q := 0) rfl) ⟨by omega, (by have h1 := C.at_.len; have h2 : (formT 3).length = 3 := rfl; have := C.hl; omega)⟩ (C.bytes (q := 2) rfl rfl (by decide) false) (fun w hb => der_raw hb C.tk ⟨by omega, (by have h1 := C.at_.len; have h2 : (formT 3).length = 3 := rfl; have := C.hl; omega)⟩ (C.at_.tok (q := 2) rfl) rfl (fun w hb => attr_no hb C.tk (C.at_.tok (q := 0) rfl) (by first | rfl | kernel_rfl) ⟨by omega, (by have h1 := C.at_.len; have h2 : (formT 3).length = 3 := rfl; have := C.hl; omega)⟩) (fun w hb => func_x (C.reads (by kernel_rfl) (Nat.le_of_lt (by show _ < _ + 3; omega))) hb ⟨Nat.le_refl _, by omega⟩ (fun gp w1 gO hp hO hg hD => have H := C.at_.has (F := T3) (n := b + 2) (fr := b) (gp := gp) (c := c) rfl rfl
    f135_x (H.lt 0 1 _ rfl) (H 0 1 _ rfl).2.1 (H.isT 1 1 _ rfl _ false (by kernel_rfl)) hp)))
  exact Eq.mp (congrArg (fun u => Calls Tryz.prog 44 #[.string s, .slice A toks.length c, .agg (itc b (b + 2 + 1) false)] w (RfP wD w 29 u [])) he) h
set_option maxHeartbeats 4000000 in
set_option maxRecDepth 100000 in
theorem form4 (C : Ctx wD s A toks 4 p b) (hb : Below wD.heap.size wD w) : Calls Tryz.prog 44 #[.string s, .slice A toks.length c, .agg (itc b (b + 12 + 1) false)] w (RfP wD w (formN 4).k (formN 4).t (formN 4).l) :=
  form_der (n := b + 12) hb C.tk (C.at_.tok (q := 0) rfl) ⟨by omega, (by have h1 := C.at_.len; have h2 : (formT 4).length = 13 := rfl; have := C.hl; omega)⟩ (C.bytes (q := 12) rfl rfl (by decide) false) (fun w hb => der_func hb C.tk ⟨by omega, (by have h1 := C.at_.len; have h2 : (formT 4).length = 13 := rfl; have := C.hl; omega)⟩ (C.at_.tok (q := 12) rfl) rfl (fun w hb => attr_no hb C.tk (C.at_.tok (q := 0) rfl) (by first | rfl | kernel_rfl) ⟨by omega, (by have h1 := C.at_.len; have h2 : (formT 4).length = 13 := rfl; have := C.hl; omega)⟩) (fun w hb => func_ok (C.reads (by kernel_rfl) (Nat.le_of_lt (by show _ < _ + 13; omega))) hb ⟨Nat.le_refl _, by omega⟩ (fun gp w1 gO hp hO hg hD => rd4 (C.at_.has (F := T4) rfl rfl) rfl (Nat.le_refl _) hp hO hg hD)))
set_option maxHeartbeats 4000000 in
set_option maxRecDepth 100000 in
theorem form5 (C : Ctx wD s A toks 5 p b) (hb : Below wD.heap.size wD w) : Calls Tryz.prog 44 #[.string s, .slice A toks.length c, .agg (itc b (b + 11 + 1) false)] w (RfP wD w (formN 5).k (formN 5).t (formN 5).l) :=
  form_der (n := b + 11) hb C.tk (C.at_.tok (q := 0) rfl) ⟨by omega, (by have h1 := C.at_.len; have h2 : (formT 5).length = 12 := rfl; have := C.hl; omega)⟩ (C.bytes (q := 11) rfl rfl (by decide) false) (fun w hb => der_func hb C.tk ⟨by omega, (by have h1 := C.at_.len; have h2 : (formT 5).length = 12 := rfl; have := C.hl; omega)⟩ (C.at_.tok (q := 11) rfl) rfl (fun w hb => attr_no hb C.tk (C.at_.tok (q := 0) rfl) (by first | rfl | kernel_rfl) ⟨by omega, (by have h1 := C.at_.len; have h2 : (formT 5).length = 12 := rfl; have := C.hl; omega)⟩) (fun w hb => func_ok (C.reads (by kernel_rfl) (Nat.le_of_lt (by show _ < _ + 12; omega))) hb ⟨Nat.le_refl _, by omega⟩ (fun gp w1 gO hp hO hg hD => rd5 (C.at_.has (F := T5) rfl rfl) rfl (Nat.le_refl _) hp hO hg hD)))
set_option maxHeartbeats 4000000 in
set_option maxRecDepth 100000 in
theorem form6 (C : Ctx wD s A toks 6 p b) (hb : Below wD.heap.size wD w) : Calls Tryz.prog 44 #[.string s, .slice A toks.length c, .agg (itc b (b + 5 + 1) false)] w (RfP wD w (formN 6).k (formN 6).t (formN 6).l) :=
  form_der (n := b + 5) hb C.tk (C.at_.tok (q := 0) rfl) ⟨by omega, (by have h1 := C.at_.len; have h2 : (formT 6).length = 6 := rfl; have := C.hl; omega)⟩ (C.bytes (q := 5) rfl rfl (by decide) false) (fun w hb => der_attr hb C.tk ⟨by omega, (by have h1 := C.at_.len; have h2 : (formT 6).length = 6 := rfl; have := C.hl; omega)⟩ (C.at_.tok (q := 5) rfl) rfl (fun w hb => attr_yes hb C.tk (C.at_.tok (q := 0) rfl) (by first | rfl | kernel_rfl) ⟨by omega, (by have h1 := C.at_.len; have h2 : (formT 6).length = 6 := rfl; have := C.hl; omega)⟩ (C.at_.tok (q := 1) rfl) rfl (by kernel_rfl) (by kernel_rfl) (fun w hb => attr_ok (C.reads (by kernel_rfl) (Nat.le_of_lt (by show _ < _ + 6; omega))) hb ⟨by omega, by omega⟩ (fun gp w1 gO hp hO hg hD => rd6 (C.at_.has (F := T6) rfl rfl) rfl (Nat.le_refl _) hp hO hg hD))))
set_option maxHeartbeats 4000000 in
set_option maxRecDepth 100000 in
theorem form7 (C : Ctx wD s A toks 7 p b) (hb : Below wD.heap.size wD w) : Calls Tryz.prog 44 #[.string s, .slice A toks.length c, .agg (itc b (b + 10 + 1) false)] w (RfP wD w (formN 7).k (formN 7).t (formN 7).l) :=
  form_der (n := b + 10) hb C.tk (C.at_.tok (q := 0) rfl) ⟨by omega, (by have h1 := C.at_.len; have h2 : (formT 7).length = 11 := rfl; have := C.hl; omega)⟩ (C.bytes (q := 10) rfl rfl (by decide) false) (fun w hb => der_func hb C.tk ⟨by omega, (by have h1 := C.at_.len; have h2 : (formT 7).length = 11 := rfl; have := C.hl; omega)⟩ (C.at_.tok (q := 10) rfl) rfl (fun w hb => attr_no hb C.tk (C.at_.tok (q := 0) rfl) (by first | rfl | kernel_rfl) ⟨by omega, (by have h1 := C.at_.len; have h2 : (formT 7).length = 11 := rfl; have := C.hl; omega)⟩) (fun w hb => func_ok (C.reads (by kernel_rfl) (Nat.le_of_lt (by show _ < _ + 11; omega))) hb ⟨Nat.le_refl _, by omega⟩ (fun gp w1 gO hp hO hg hD => rd7 (C.at_.has (F := T7) rfl rfl) rfl (Nat.le_refl _) hp hO hg hD)))
end
end Go.Proofs.YthipodffpkglfaaGreatDoor.PS
namespace Go.Proofs.YthipodffpkglfaaGreatDoor.PS
open Go.RowKit Go.Proofs.YthipodffpkglfaaGreatDoorW.PrintWords Go.Proofs.YthipodffpkglfaaGreatDoorW.PrintLast Go.Proofs.YthipodffpkglfaaGreatDoorW.PrintMore
set_option linter.unusedVariables false
set_option linter.unusedSimpArgs false
def segsOf (fs : List Nat) : List (Bool × Nat) := fs.map fun f => (f == 2, (formT f).length)
theorem textK_app : ∀ (pre post : List Nat) (p : Nat), textK p (pre ++ post) = textK p pre ++ textK (p + (textB pre).length) post
  | [], post, p => rfl
  | f :: pre, post, p => by
    show formK p f ++ textK _ (pre ++ post) = (formK p f ++ textK _ pre) ++ textK _ post
    rw [textK_app pre post, List.append_assoc]
    show _ = formK p f ++ (textK _ pre ++ textK (p + (formB f ++ textB pre).length) post)
    rw [List.length_append, Nat.add_assoc]
theorem textB_app : ∀ (pre post : List Nat), textB (pre ++ post) = textB pre ++ textB post
  | [], _ => rfl
  | f :: pre, post => by
    show formB f ++ textB (pre ++ post) = (formB f ++ textB pre) ++ textB post
    rw [textB_app pre post, List.append_assoc]
theorem textK_len : ∀ (fs : List Nat) (p q : Nat), (textK p fs).length = (textK q fs).length
  | [], _, _ => rfl
  | f :: r, p, q => by
    show (formK p f ++ textK _ r).length = (formK q f ++ textK _ r).length
    rw [List.length_append, List.length_append, formK_len, formK_len, textK_len r _ (q + (formB f).length)]
def cnt (fs : List Nat) : Nat := (textK 0 fs).length
theorem at_of {s : ByteArray} {fs pre post : List Nat} {f : Nat} (hs : s.data.toList = textB fs) (he : fs = pre ++ f :: post) : At s (textK 0 fs) f (textB pre).length (cnt pre) := by
  subst he
  refine ⟨⟨textB pre, textB post, ?_, rfl⟩, ⟨textK 0 pre, textK ((textB pre).length + (formB f).length) post, ?_, rfl⟩⟩
  · rw [hs, textB_app]
    rfl
  · rw [textK_app, Nat.zero_add]
    rfl
theorem items_at : ∀ (fs : List Nat) (b j : Nat) (x : It), (itemsF b (segsOf fs))[j]? = some x → ∃ pre f post, fs = pre ++ f :: post ∧ pre.length = j ∧ x = ⟨b + cnt pre, b + cnt pre + (formT f).length, f == 2⟩
  | [], b, j, x, h => by simp [segsOf, itemsF] at h
  | f :: r, b, 0, x, h => by
    refine ⟨[], f, r, rfl, rfl, ?_⟩
    have : some (⟨b, b + (formT f).length, f == 2⟩ : It) = some x := h
    rw [← Option.some.inj this]
    rfl
  | f :: r, b, j + 1, x, h => by
    have h' : (itemsF (b + (formT f).length) (segsOf r))[j]? = some x := h
    obtain ⟨pre, g, post, e1, e2, e3⟩ := items_at r _ j x h'
    refine ⟨f :: pre, g, post, by rw [e1]; rfl, by simp [e2], ?_⟩
    have hc : cnt (f :: pre) = (formT f).length + cnt pre := by
      show (formK 0 f ++ textK _ pre).length = _
      rw [List.length_append, formK_len, textK_len pre _ 0]
      rfl
    rw [e3, hc, Nat.add_assoc b]
theorem items_len (fs : List Nat) : ∀ b, (itemsF b (segsOf fs)).length = fs.length := by
  induction fs with
  | nil => intro b; rfl
  | cons f r ih => intro b; show (itemsF _ (segsOf r)).length + 1 = _; rw [ih]; rfl
/-- A form's tokens, checked by running: comments, dots. -/
def segOk (f : Nat) : Bool := decide (1 ≤ (formT f).length) && (!(f == 2) || decide ((formT f).length = 1)) && (List.range (formT f).length).all fun q => match (formT f)[q]? with
  | some x => ((x.1 == 11) == (f == 2)) && ((f == 2) || ((x.1 == 10) == decide (q + 1 = (formT f).length)))
  | none => true
theorem seg_ok : ∀ f, f < 8 → segOk f = true := by
  intro f hf
  have h : ∀ f : Fin 8, segOk f.val = true := by decide +kernel
  exact h ⟨f, hf⟩
theorem segs_of {toks : List Tk} : ∀ (fs : List Nat) (b p : Nat) (K : List Tk), (∀ f ∈ fs, f < 8) → toks = K ++ textK p fs → K.length = b → Segs toks b (segsOf fs)
  | [], b, p, K, _, e, hl => by
    show b = toks.length
    rw [e, ← hl]
    simp [textK]
  | f :: r, b, p, K, hf, e, hl => by
    have ok := seg_ok f (hf f (by simp))
    unfold segOk at ok
    simp only [Bool.and_eq_true, decide_eq_true_eq] at ok
    obtain ⟨⟨o1, o2⟩, o3⟩ := ok
    refine ⟨fun q hq => ?_, o1, fun h2 => ?_, ?_⟩
    · have ex := List.getElem?_eq_getElem hq
      have o4 := List.all_eq_true.1 o3 q (List.mem_range.2 hq)
      rw [ex] at o4
      simp only [Bool.and_eq_true, beq_iff_eq, Bool.or_eq_true] at o4
      refine ⟨tokF p ((formT f)[q]), ?_, ?_, fun h3 => ?_⟩
      · rw [e, List.getElem?_append_right (by omega), hl, Nat.add_sub_cancel_left]
        show (formK p f ++ textK _ r)[q]? = _
        rw [List.getElem?_append_left (by rw [formK_len]; exact hq)]
        unfold formK
        rw [List.getElem?_map, ex]
        rfl
      · exact o4.1
      · rcases o4.2 with h4 | h4
        · rw [h4] at h3; simp at h3
        · exact h4
    · have h2' : (f == 2) = true := h2
      rw [h2'] at o2
      simpa using o2
    · exact segs_of r (b + (formT f).length) (p + (formB f).length) (K ++ formK p f) (fun g hg => hf g (by simp [hg])) (by rw [e, List.append_assoc]; rfl) (by rw [List.length_append, formK_len, hl])
end Go.Proofs.YthipodffpkglfaaGreatDoor.PS
namespace Go.Proofs.YthipodffpkglfaaGreatDoor.PS
open Go.RowKit Go.Proofs.YthipodffpkglfaaGreatDoorW.PrintWords Go.Proofs.YthipodffpkglfaaGreatDoorW.PrintLast Go.Proofs.YthipodffpkglfaaGreatDoorW.PrintMore
set_option linter.unusedVariables false
set_option linter.unusedSimpArgs false
theorem cnt_app (pre post : List Nat) : cnt (pre ++ post) = cnt pre + cnt post := by
  unfold cnt
  rw [textK_app, List.length_append, textK_len post _ 0]
theorem cnt_cons (f : Nat) (r : List Nat) : cnt (f :: r) = (formT f).length + cnt r := by
  show (formK 0 f ++ textK _ r).length = _
  rw [List.length_append, formK_len, textK_len r _ 0]
  rfl
theorem tok_in : ∀ (fs : List Nat) (j : Nat), j < cnt fs → ∃ pre f post q, fs = pre ++ f :: post ∧ j = cnt pre + q ∧ q < (formT f).length
  | [], j, h => by simp [cnt, textK] at h
  | f :: r, j, h => by
    rw [cnt_cons] at h
    by_cases hj : j < (formT f).length
    · exact ⟨[], f, r, j, rfl, by simp [cnt, textK], hj⟩
    · obtain ⟨pre, g, post, q, e1, e2, e3⟩ := tok_in r (j - (formT f).length) (by omega)
      exact ⟨f :: pre, g, post, q, by rw [e1]; rfl, by rw [cnt_cons]; omega, e3⟩
/-- The ends of a form, checked by running. -/
def endOk (f : Nat) : Bool := (match (formT f)[0]? with | some x => decide (x.2.2 = 0) | none => false) && (match (formT f)[(formT f).length - 1]? with | some x => decide (x.2.2 + x.2.1.size + 1 = (formB f).length) | none => false)
theorem end_ok : ∀ f, endOk f = true
  | 0 => by kernel_rfl
  | 1 => by kernel_rfl
  | 2 => by kernel_rfl
  | 3 => by kernel_rfl
  | 4 => by kernel_rfl
  | 5 => by kernel_rfl
  | 6 => by kernel_rfl
  | _ + 7 => by
    show endOk 7 = true
    kernel_rfl
theorem first_at (f : Nat) : ∃ x, (formT f)[0]? = some x ∧ x.2.2 = 0 := by
  have h := end_ok f
  unfold endOk at h
  rw [Bool.and_eq_true] at h
  have h1 := h.1
  cases hx : (formT f)[0]? with
  | none => rw [hx] at h1; cases h1
  | some x => rw [hx] at h1; exact ⟨x, rfl, of_decide_eq_true h1⟩
theorem last_at (f : Nat) {q : Nat} (hq : q + 1 = (formT f).length) : ∃ x, (formT f)[q]? = some x ∧ x.2.2 + x.2.1.size + 1 = (formB f).length := by
  have h := end_ok f
  unfold endOk at h
  rw [Bool.and_eq_true] at h
  have h1 := h.2
  rw [show (formT f).length - 1 = q by omega] at h1
  cases hx : (formT f)[q]? with
  | none => rw [hx] at h1; cases h1
  | some x => rw [hx] at h1; exact ⟨x, rfl, of_decide_eq_true h1⟩
theorem blank_no {wD : World} {s : ByteArray} {A : Option Addr} {c : Nat} {fs : List Nat} (hs : s.data.toList = textB fs) (tk : TokAt wD A (textK 0 fs)) (hl : (textK 0 fs).length ≤ 100000) (hz : s.size ≤ 65536) (w : World) (b : Nat) (hb : b < (textK 0 fs).length) (hw : Below wD.heap.size wD w) : Calls Tryz.prog 70 #[.string s, .slice A (textK 0 fs).length c, .int .i64 (b : Nat)] w fun e w' => e = .returned (.bool false) ∧ Below w.heap.size w w' := by
  cases b with
  | zero => exact gap_blank0 _
  | succ j =>
    obtain ⟨pre, f, post, q, e1, e2, e3⟩ := tok_in fs j (by show j < (textK 0 fs).length; omega)
    have hA := at_of hs e1
    have ex := List.getElem?_eq_getElem e3
    have hx := hA.tok ex
    rw [← e2] at hx
    have g := gap_at ex
    have ix := hA.inT ex
    generalize (formT f)[q] = x at *
    have hex : (tokF (textB pre).length x).a + ((tokF (textB pre).length x).t.size : Int) = (((textB pre).length + (x.2.2 + x.2.1.size) : Nat) : Int) := by
      show (((textB pre).length + x.2.2 : Nat) : Int) + (x.2.1.size : Int) = _
      omega
    by_cases hq : q + 1 < (formT f).length
    · have ey := List.getElem?_eq_getElem hq
      have hy := hA.tok ey
      rw [← Nat.add_assoc, ← e2] at hy
      have iy := hA.inT ey
      have g2 := g.2 _ ey
      have g3 := (gap_at ey).1
      generalize (formT f)[q + 1] = y at *
      refine gap_blank j _ _ ((textB pre).length + (x.2.2 + x.2.1.size)) (y.2.2 - (x.2.2 + x.2.1.size)) tk hw hx hy ix iy (Nat.le_trans hz (by decide)) (Nat.le_trans hl (by decide)) hex ?_ false ?_
      · show (((textB pre).length + y.2.2 : Nat) : Int) = _
        omega
      · rw [hA.nl _ _ (by omega), g2.2]
        rfl
    · obtain ⟨x', hx', hend⟩ := last_at f (q := q) (by omega)
      rw [ex] at hx'
      obtain rfl := Option.some.inj hx'
      cases post with
      | nil =>
        exfalso
        have : (textK 0 fs).length = cnt pre + (formT f).length := by
          show cnt fs = _
          rw [e1, cnt_app, cnt_cons]
          rfl
        omega
      | cons f2 post =>
        have hA2 := at_of (pre := pre ++ [f]) (f := f2) (post := post) hs (by rw [e1]; simp)
        obtain ⟨y, hy0, hy1⟩ := first_at f2
        have hy := hA2.tok hy0
        have iy := hA2.inT hy0
        have hc : cnt (pre ++ [f]) = cnt pre + (formT f).length := by rw [cnt_app, cnt_cons]; rfl
        have hp : (textB (pre ++ [f])).length = (textB pre).length + (formB f).length := by
          rw [textB_app, List.length_append]
          show _ + (formB f ++ []).length = _
          rw [List.append_nil]
        rw [hc, show cnt pre + (formT f).length + 0 = j + 1 by omega] at hy
        refine gap_blank j _ _ ((textB pre).length + (x.2.2 + x.2.1.size)) 1 tk hw hx hy ix iy (Nat.le_trans hz (by decide)) (Nat.le_trans hl (by decide)) hex ?_ false ?_
        · show (((textB (pre ++ [f])).length + y.2.2 : Nat) : Int) = _
          rw [hp, hy1]
          omega
        · have : nlF s ((textB pre).length + (x.2.2 + x.2.1.size)) 1 ≤ 1 := by
            show (if _ then 1 else 0) + 0 ≤ 1
            split <;> omega
          exact decide_eq_false (by omega)
end Go.Proofs.YthipodffpkglfaaGreatDoor.PS
namespace Go.Proofs.YthipodffpkglfaaGreatDoor.PS
open Go.RowKit Go.Proofs.YthipodffpkglfaaGreatDoorW.PrintWords Go.Proofs.YthipodffpkglfaaGreatDoorW.PrintLast Go.Proofs.YthipodffpkglfaaGreatDoorW.PrintMore
set_option linter.unusedVariables false
set_option linter.unusedSimpArgs false
theorem form_at {wD w : World} {s : ByteArray} {A : Option Addr} {c : Nat} {toks : List Tk} {p b : Nat} (hb : Below wD.heap.size wD w) : ∀ f, f < 8 → Ctx wD s A toks f p b → Calls Tryz.prog 44 #[.string s, .slice A toks.length c, .agg (itc b (b + (formT f).length) (f == 2))] w (RfP wD w (formN f).k (formN f).t (formN f).l)
  | 0, _, C => form0 C hb
  | 1, _, C => form1 C hb
  | 2, _, C => form2 C hb
  | 3, _, C => form3 C hb
  | 4, _, C => form4 C hb
  | 5, _, C => form5 C hb
  | 6, _, C => form6 C hb
  | 7, _, C => form7 C hb
  | f + 8, h, _ => absurd h (by omega)
theorem pre_lt {pre pre2 post post2 : List Nat} {f f2 : Nat} (e : pre ++ f :: post = pre2 ++ f2 :: post2) (h : pre.length < pre2.length) : cnt pre < cnt pre2 := by
  have h1 : pre2 = pre ++ pre2.drop pre.length := by
    have := congrArg (List.take pre.length) e
    rw [List.take_left, List.take_append_of_le_length (by omega)] at this
    conv => lhs; rw [← List.take_append_drop pre.length pre2]
    rw [← this]
  cases hd : pre2.drop pre.length with
  | nil =>
    have := congrArg List.length hd
    rw [List.length_drop] at this
    simp at this
    omega
  | cons g r =>
    rw [h1, hd, cnt_app, cnt_cons]
    obtain ⟨x, hx, _⟩ := first_at g
    have := (List.getElem?_eq_some_iff.1 hx).1
    omega
theorem distinct_of (fs : List Nat) : distinct (itemsF 0 (segsOf fs)) := by
  intro i j x y hi hj he
  obtain ⟨pre, f, post, e1, e2, e3⟩ := items_at fs 0 i x hi
  obtain ⟨pre2, f2, post2, g1, g2, g3⟩ := items_at fs 0 j y hj
  have hc : cnt pre = cnt pre2 := by
    rw [e3, g3] at he
    have he' : 0 + cnt pre = 0 + cnt pre2 := he
    omega
  rcases Nat.lt_trichotomy i j with h | h | h
  · have := pre_lt (e1.symm.trans g1) (by omega)
    omega
  · exact h
  · have := pre_lt (g1.symm.trans e1) (by omega)
    omega
theorem forms30 {s : ByteArray} {fs : List Nat} (hs : s.data.toList = textB fs) (hf : ∀ f ∈ fs, f < 8) (hl : (textK 0 fs).length ≤ 100000) (hz : s.size ≤ 65536) (w1 : World) (A2 : Option Addr) (c2 : Nat) (tk : TokAt w1 A2 (textK 0 fs)) : Calls Tryz.prog 30 #[.string s, .slice A2 (textK 0 fs).length c2] w1 fun e w' => ∃ A1 c1, e = .returned (.slice A1 ((fs.map formN).map Nd3.n).length c1) ∧ ((fs.map formN).map Nd3.n).length ≤ c1 ∧ Kd.F k45 w' (fun k => w1.heap.size ≤ k) A1 ((fs.map formN).map Nd3.n).length ((fs.map formN).map Nd3.n) ∧ KeepBut w1 w' w1.heap.size none ∧ Below w1.heap.size w1 w' := by
  have hlen : fs.length ≤ (textK 0 fs).length := by
    have : ∀ fs : List Nat, fs.length ≤ cnt fs := fun fs => by
      induction fs with
      | nil => exact Nat.zero_le _
      | cons f r ih =>
        rw [cnt_cons, List.length_cons]
        obtain ⟨x, hx, _⟩ := first_at f
        have := (List.getElem?_eq_some_iff.1 hx).1
        omega
    exact this fs
  have h := forms_calls (wD := w1) (w := w1) (s := s) (A := A2) (c := c2) (toks := textK 0 fs) (items := itemsF 0 (segsOf fs)) (Ns := fs.map formN) (Below.refl _ _) (by rw [items_len]; omega) (distinct_of fs) (by rw [items_len, List.length_map])
    (fun w hb => split_calls hb tk hl (segsOf fs) (segs_of fs 0 0 [] hf rfl rfl) (fun w b hb' hw => blank_no hs tk hl hz w b hb' hw))
    (fun j x N hx hN w hb => by
      obtain ⟨pre, f, post, e1, e2, e3⟩ := items_at fs 0 j x hx
      have hfj : fs[j]? = some f := by rw [e1, List.getElem?_append_right (by omega), e2, Nat.sub_self]; rfl
      rw [List.getElem?_map, hfj] at hN
      obtain rfl := Option.some.inj hN
      subst e3
      rw [Nat.zero_add]
      exact form_at hb f (hf f (by rw [e1]; simp)) ⟨at_of hs e1, tk, hl, hz⟩)
  simp only [List.length_map] at h ⊢
  exact h
end Go.Proofs.YthipodffpkglfaaGreatDoor.PS
namespace Go.Proofs.YthipodffpkglfaaGreatDoor.PS
open Go.RowKit Go.Proofs.YthipodffpkglfaaGreatDoorW.PrintWords Go.Proofs.YthipodffpkglfaaGreatDoorW.PrintLast Go.Proofs.YthipodffpkglfaaGreatDoorW.PrintMore
set_option linter.unusedVariables false
set_option linter.unusedSimpArgs false
theorem asc_form : ∀ f, (formB f).all (fun b => decide (b.toNat < 128)) = true
  | 0 => by decide
  | 1 => by decide
  | 2 => by decide
  | 3 => by decide
  | 4 => by decide
  | 5 => by decide
  | 6 => by decide
  | _ + 7 => by
    show (formB 7).all (fun b => decide (b.toNat < 128)) = true
    decide
theorem asc_text : ∀ (fs : List Nat) (b : UInt8), b ∈ textB fs → b.toNat < 128
  | [], b, h => by cases h
  | f :: r, b, h => by
    rcases List.mem_append.1 h with h | h
    · exact of_decide_eq_true (List.all_eq_true.1 (asc_form f) b h)
    · exact asc_text r b h
theorem asc_of {s : ByteArray} {fs : List Nat} (hs : s.data.toList = textB fs) : Asc s := fun k b hk => asc_text fs b (by rw [← hs]; exact List.mem_of_getElem? hk)
def dform (d : Nat) (x : Int × ByteArray × Nat) : Nat := dstep d (tokF 0 x)
def deepOk (f : Nat) : Bool := decide ((formT f).foldl dform 0 = 0) && (List.range ((formT f).length + 1)).all (fun j => decide (((formT f).take j).foldl dform 0 ≤ 3)) && (formT f).all (fun x => !(x.1 == 8) || !(x.2.1.toList == [102, 117, 110]))
theorem deep_ok : ∀ f, deepOk f = true
  | 0 => by kernel_rfl
  | 1 => by kernel_rfl
  | 2 => by kernel_rfl
  | 3 => by kernel_rfl
  | 4 => by kernel_rfl
  | 5 => by kernel_rfl
  | 6 => by kernel_rfl
  | _ + 7 => by
    show deepOk 7 = true
    kernel_rfl
theorem dstep_at (p d : Nat) (x : Int × ByteArray × Nat) : dstep d (tokF p x) = dform d x := rfl
theorem fold_form (p : Nat) : ∀ (l : List (Int × ByteArray × Nat)) (d : Nat), (l.map (tokF p)).foldl dstep d = l.foldl dform d
  | [], _ => rfl
  | x :: r, d => by
    show (r.map (tokF p)).foldl dstep (dstep d (tokF p x)) = r.foldl dform (dform d x)
    rw [dstep_at, fold_form p r]
theorem deep_text : ∀ (fs : List Nat) (p j : Nat), ((textK p fs).take j).foldl dstep 0 ≤ 3
  | [], p, j => by simp [textK]
  | f :: r, p, j => by
    have ok := deep_ok f
    unfold deepOk at ok
    simp only [Bool.and_eq_true, decide_eq_true_eq] at ok
    obtain ⟨⟨o1, o2⟩, _⟩ := ok
    show ((formK p f ++ textK _ r).take j).foldl dstep 0 ≤ 3
    rw [List.take_append, List.foldl_append]
    by_cases hj : j ≤ (formK p f).length
    · rw [show j - (formK p f).length = 0 by omega]
      show ((formK p f).take j).foldl dstep 0 ≤ 3
      have e : (formK p f).take j = ((formT f).take j).map (tokF p) := by
        show ((formT f).map (tokF p)).take j = _
        rw [List.map_take]
      rw [e, fold_form]
      rw [formK_len] at hj
      exact of_decide_eq_true (List.all_eq_true.1 o2 j (List.mem_range.2 (by omega)))
    · rw [List.take_of_length_le (by omega)]
      have e : (formK p f).foldl dstep 0 = 0 := (fold_form p (formT f) 0).trans o1
      rw [e]
      exact deep_text r _ _
theorem notFun_text : ∀ (fs : List Nat) (p : Nat) (x : Tk), x ∈ textK p fs → notFun x
  | [], _, x, h => by cases h
  | f :: r, p, x, h => by
    rcases List.mem_append.1 (show x ∈ formK p f ++ textK _ r from h) with h | h
    · obtain ⟨y, hy, rfl⟩ := List.mem_map.1 h
      have ok := deep_ok f
      unfold deepOk at ok
      simp only [Bool.and_eq_true, decide_eq_true_eq] at ok
      have o3 := List.all_eq_true.1 ok.2 y hy
      intro h8
      have h8' : (y.1 == 8) = true := h8
      rw [h8'] at o3
      simpa using o3
    · exact notFun_text r _ x h
theorem len_form : ∀ f, (formB f).length ≤ 32 ∧ (formT f).length ≤ 32
  | 0 => by decide
  | 1 => by decide
  | 2 => by decide
  | 3 => by decide
  | 4 => by decide
  | 5 => by decide
  | 6 => by decide
  | _ + 7 => by
    show (formB 7).length ≤ 32 ∧ (formT 7).length ≤ 32
    decide
theorem textB_len : ∀ fs : List Nat, (textB fs).length ≤ 32 * fs.length
  | [] => Nat.le_refl _
  | f :: r => by
    have h1 := textB_len r
    have h2 := (len_form f).1
    show (formB f ++ textB r).length ≤ 32 * (r.length + 1)
    rw [List.length_append]
    omega
theorem cnt_le : ∀ fs : List Nat, cnt fs ≤ 32 * fs.length
  | [] => Nat.le_refl _
  | f :: r => by
    have h1 := cnt_le r
    have h2 := (len_form f).2
    rw [cnt_cons, List.length_cons]
    omega
/-- What format.Forms makes of a text of forms. -/
def formsN (fs : List Nat) : List S45 := (fs.map formN).map Nd3.n
theorem forms_text {wD w : World} {s : ByteArray} {A : Option Addr} {c : Nat} {fs : List Nat} (hs : s.data.toList = textB fs) (hf : ∀ f ∈ fs, f < 8) (hn : fs.length ≤ 1000) (hb : Below wD.heap.size wD w) (hy : Byt wD A c s) : Calls Tryz.prog 16 #[.slice A s.size c] w fun e w' => ∃ A1 c1, e = .returned (.tuple #[.slice A1 (formsN fs).length c1, .int .i64 0]) ∧ (formsN fs).length ≤ c1 ∧ Kd.F k45 w' (fun k => w.heap.size ≤ k) A1 (formsN fs).length (formsN fs) ∧ Below w.heap.size w w' := by
  have hz : s.size ≤ 65536 := by rw [size_data, hs]; have := textB_len fs; omega
  have hl : (textK 0 fs).length ≤ 100000 := by have h : (textK 0 fs).length ≤ 32 * fs.length := cnt_le fs; omega
  exact forms16_calls (toks := textK 0 fs) hb hy hz (by rw [hs]; exact lex_text fs) (asc_of hs) hl (notFun_text fs 0) (fun j => Nat.le_trans (deep_text fs 0 j) (by decide)) (fun w1 A2 c2 tk => forms30 hs hf hl hz w1 A2 c2 tk)
end Go.Proofs.YthipodffpkglfaaGreatDoor.PS
namespace Go.Proofs.YthipodffpkglfaaGreatDoor.PS
open Go.RowKit Go.Proofs.YthipodffpkglfaaGreatDoorW.PrintWords Go.Proofs.YthipodffpkglfaaGreatDoorW.PrintLast Go.Proofs.YthipodffpkglfaaGreatDoorW.PrintMore
set_option linter.unusedVariables false
set_option linter.unusedSimpArgs false
/-- The counts of kinds, as they lie. -/
def cK (ks : List Int) : Array Value := ((List.range 31).map fun k : Nat => Value.int .i64 ((ks.count (k : Int) : Nat) : Int)).toArray
theorem cK_size (ks : List Int) : (cK ks).size = 31 := by unfold cK; simp
theorem cK_at (ks : List Int) {k : Nat} (hk : k < 31) : (cK ks)[k]? = some (.int .i64 ((ks.count (k : Int) : Nat) : Int)) := by
  unfold cK
  simp [hk]
theorem cK_step (ks : List Int) {k : Nat} (hk : k < 31) : (cK ks).setIfInBounds k (.int .i64 ((ks.count (k : Int) + 1 : Nat) : Int)) = cK (ks ++ [(k : Int)]) := by
  apply Array.ext_getElem?
  intro j
  by_cases hj : j = k
  · subst hj
    rw [Array.getElem?_setIfInBounds_self_of_lt (by rw [cK_size]; exact hk), cK_at _ hk, List.count_append]
    simp
  · rw [Array.getElem?_setIfInBounds_ne (by omega)]
    by_cases h31 : j < 31
    · rw [cK_at _ h31, cK_at _ h31, List.count_append]
      have : ([(k : Int)].count (j : Int)) = 0 := List.count_eq_zero.2 (by simp; omega)
      rw [this]
      rfl
    · rw [Array.getElem?_eq_none (by rw [cK_size]; omega), Array.getElem?_eq_none (by rw [cK_size]; omega)]
mutual
/-- A node's kinds, the node first. -/
def walkK : S45 → List Int
  | ⟨k, _, l, _, _, _, _⟩ => k :: walkKs l
def walkKs : List S45 → List Int
  | [] => []
  | x :: r => walkK x ++ walkKs r
end
theorem walkK_eq (x : S45) : walkK x = x.f0 :: walkKs x.f2 := by
  cases x
  simp only [walkK]
theorem walkKs_app : ∀ (l r : List S45), walkKs (l ++ r) = walkKs l ++ walkKs r
  | [], r => by simp [walkKs]
  | x :: l, r => by
    rw [List.cons_append, walkKs, walkKs, walkKs_app l r, List.append_assoc]
end Go.Proofs.YthipodffpkglfaaGreatDoor.PS
namespace Go.Proofs.YthipodffpkglfaaGreatDoor.PS
open Go.RowKit Go.Proofs.YthipodffpkglfaaGreatDoorW.PrintWords Go.Proofs.YthipodffpkglfaaGreatDoorW.PrintLast Go.Proofs.YthipodffpkglfaaGreatDoorW.PrintMore
set_option linter.unusedVariables false
set_option linter.unusedSimpArgs false
theorem info3w : (Tryz.prog.info? 3).map (·.size) = some 1 := by kernel_rfl
theorem idx49 (g k : Nat) (hk : k < 31) (W : World) : (Instr.indexAt 49 (.pointer (some ⟨g, 0, none⟩)) (.int .i64 (k : Nat))).run Tryz.prog W = .ok (.pointer (some ⟨g, k, none⟩)) W := by
  obtain ⟨i, hi, hs⟩ := Option.map_eq_some_iff.1 info3w
  have h0 : (0 : Int) ≤ (k : Int) ∧ (k : Int) < 31 := ⟨by omega, by omega⟩
  have hsz : (sizeOf 3).run Tryz.prog W = .ok 1 W := by simp [sizeOf, typeInfo, hi, hs]
  simp [Instr.indexAt, asIntOf, Instr.sureAddr, run_underlying Tryz.underlying49, hsz, h0, Addr.add, Result.andThen]
  rw [if_pos hk]
  by_cases h : k = 0
  · subst h; rfl
  · rw [if_neg h]
theorem run_ia {o : Oper} {a : Act} {W : World} {x i : Operand} (ho : o.op = .indexAddr 49 x i) {g k : Nat} (hx : a.eval x = .pointer (some ⟨g, 0, none⟩)) (hi : a.eval i = .int .i64 (k : Nat)) (hk : k < 31) : (execOp a.eval o).run Tryz.prog W = .ok (.value (.pointer (some ⟨g, k, none⟩))) W := by
  unfold execOp
  simp only [ho, hx, hi, Sem.run_bind, Sem.run_pure, Result.andThen_ok, idx49 g k hk W]
set_option maxHeartbeats 4000000 in
set_option maxRecDepth 100000 in
theorem kinds1_calls {w : World} {g6 k : Nat} {ks : List Int} {v1 v2 v3 v4 v5 v6 : Value} (hg : w.heap[g6]? = some (.cells (cK ks) 49 (0, 0))) (hk : k < 31) (hl : ks.length ≤ 1000000) (h1 : (#[.int .i64 (k : Nat), v1, v2, v3, v4, v5, v6] : Array Value).all (·.oneCell') = true) : Calls Tryz.prog 18 #[.agg #[.int .i64 (k : Nat), v1, v2, v3, v4, v5, v6], .pointer (some ⟨g6, 0, none⟩)] w fun e w' => e = .returned (.tuple #[]) ∧ w'.heap[g6]? = some (.cells (cK (ks ++ [(k : Int)])) 49 (0, 0)) ∧ KeepBut w w' g6 none ∧ Below g6 w w' := by
  have hu45 := Tryz.underlying45
  have hu3 := Tryz.underlying3
  have hu49 := Tryz.underlying49
  have HG := Aside0.mk hg
  have HK := Aside0.mk hk
  have HA := Aside0.mk h1
  have hc : ks.count (k : Int) ≤ 1000000 := Nat.le_trans List.count_le_length hl
  have e1 : wrap64 (((ks.count (k : Int) : Nat) : Int) + 1) = ((ks.count (k : Int) + 1 : Nat) : Int) := by unfold wrap64; omega
  obtain ⟨n, hn⟩ : ∃ n, ks.count (k : Int) = n := ⟨_, rfl⟩
  rw [hn] at e1
  have HN := Aside0.mk hn
  have CA := Aside0.mk (show (cK ks)[k]? = some (.int .i64 (n : Nat)) by rw [← hn]; exact cK_at ks hk)
  clear hn
  clear hg hk hl h1 hc
  go_enter Tryz.func18, Tryz.ntmps18
  go_wp2_with (first | ((with_reducible refine gate_dst (N := 2) rfl ?_); refine box_event ?hg (N := 2) ?hd (cs := #[.int .i64 (k : Nat), v1, v2, v3, v4, v5, v6]) (t := 45) ?hr ?_; (case hd => rfl); (case hg => rfl); (case hr => first | (go_simp; done) | (go_simp; rfl)); intro g2 hg w302 hbox hb; have BX := Aside0.mk hbox; have B := Aside0.mk hb; have HG2 := Aside0.mk ((hb.block _ (blk_lt HG.out)).trans HG.out); clear hbox hb hg) | ((with_reducible refine gate_dst (N := 4) rfl ?_); refine ld_cell rfl (N := 4) (v := .int .i64 (k : Nat)) rfl rfl rfl BX.out rfl hu3 rfl ?_) | ((with_reducible refine gate_dst (N := 5) rfl ?_); refine val_event rfl (.pointer (some ⟨g6, k, none⟩)) (run_ia rfl rfl rfl HK.out) ?_) | ((with_reducible refine gate_dst (N := 8) rfl ?_); refine val_event rfl (.pointer (some ⟨g6, k, none⟩)) (run_ia rfl rfl rfl HK.out) ?_) | ((with_reducible refine gate_dst (N := 6) rfl ?_); refine ld_cell rfl (N := 6) (v := .int .i64 (n : Nat)) rfl rfl rfl HG2.out CA.out hu3 rfl ?_) | ((with_reducible refine gate_dst (N := 7) rfl ?_); refine val_event rfl (.int .i64 ((n + 1 : Nat) : Int)) ?hr ?_; (case hr => first | (go_simp; done) | (go_simp; rw [i64_w]; assumption) | (go_simp; rfl))) | ((with_reducible refine gate_ (.store 3 (.tmp 8) (.tmp 7)) rfl ?_); refine st_cell rfl rfl rfl rfl rfl HG2.out (by rw [cK_size]; exact HK.out) info3w rfl rfl ?_; intro w608 q1 q2 q3; have Q1 := Aside0.mk q1; have Q2 := Aside0.mk q2; have Q3 := Aside0.mk q3; clear q1 q2 q3))
  go_end0
  refine ⟨rfl, ?_, ⟨Nat.le_trans B.out.size Q2.out.size, fun q h1 h2 _ => (Q3.out q h2).trans (B.out.block q h1)⟩, (B.out.mono (Nat.le_of_lt (blk_lt HG.out))).trans Q2.out⟩
  have h := cK_step ks HK.out
  rw [HN.out] at h
  rw [← h]
  exact Q1.out
end Go.Proofs.YthipodffpkglfaaGreatDoor.PS
namespace Go.Proofs.YthipodffpkglfaaGreatDoor.PS
open Go.RowKit Go.Proofs.YthipodffpkglfaaGreatDoorW.PrintWords Go.Proofs.YthipodffpkglfaaGreatDoorW.PrintLast Go.Proofs.YthipodffpkglfaaGreatDoorW.PrintMore
set_option linter.unusedVariables false
set_option linter.unusedSimpArgs false
/-- A part of a row of nodes, as it lies. -/
theorem elem45 {ok : Nat → Prop} {w : World} {A : Option Addr} {n : Nat} {xs : List S45} (h : Kd.F k45 w ok A n xs) (i : Nat) (y : S45) (hi : xs[i]? = some y) :
    ∃ ad Y2 e2 Y5 e5 Y6 e6, A = some ad ∧ Kd.FK k45 w ok y [.int .i64 y.f0, .string y.f1, .slice Y2 y.f2.length e2, .bool y.f3, .bool y.f4, .slice Y5 y.f5.length e5, .slice Y6 y.f6.length e6] ∧ w.cell? (ad.add (i * 7)) = some (.int .i64 y.f0) ∧ w.cell? ⟨(ad.add (i * 7)).block, (ad.add (i * 7)).off + 1, none⟩ = some (.string y.f1) ∧ w.cell? ⟨(ad.add (i * 7)).block, (ad.add (i * 7)).off + 2, none⟩ = some (.slice Y2 y.f2.length e2) ∧ w.cell? ⟨(ad.add (i * 7)).block, (ad.add (i * 7)).off + 3, none⟩ = some (.bool y.f3) ∧ w.cell? ⟨(ad.add (i * 7)).block, (ad.add (i * 7)).off + 4, none⟩ = some (.bool y.f4) ∧ w.cell? ⟨(ad.add (i * 7)).block, (ad.add (i * 7)).off + 5, none⟩ = some (.slice Y5 y.f5.length e5) ∧ w.cell? ⟨(ad.add (i * 7)).block, (ad.add (i * 7)).off + 6, none⟩ = some (.slice Y6 y.f6.length e6) := by
  have hn := Kd.F_len h
  obtain ⟨hl, hy⟩ := List.getElem?_eq_some_iff.1 hi
  obtain ⟨ad, cs, e, _, hF, hc, _⟩ := Kd.F_get h y (i : Int) (by omega) (by omega)
  rw [Int.toNat_natCast, List.getD_eq_getElem?_getD, hi] at hF
  obtain ⟨Y2, e2, Y5, e5, Y6, e6, rfl, _⟩ := k45_open (Kd.FK_now hF)
  rw [Int.toNat_natCast] at hc
  refine ⟨ad, Y2, e2, Y5, e5, Y6, e6, e, hF, hc 0 _ rfl, ?_, ?_, ?_, ?_, ?_, ?_⟩
  · have := hc 1 _ rfl; rwa [add_field _ _ 1 (by omega)] at this
  · have := hc 2 _ rfl; rwa [add_field _ _ 2 (by omega)] at this
  · have := hc 3 _ rfl; rwa [add_field _ _ 3 (by omega)] at this
  · have := hc 4 _ rfl; rwa [add_field _ _ 4 (by omega)] at this
  · have := hc 5 _ rfl; rwa [add_field _ _ 5 (by omega)] at this
  · have := hc 6 _ rfl; rwa [add_field _ _ 6 (by omega)] at this
theorem FK_kids {W : World} {ok : Nat → Prop} {x : S45} {cs : List Value} (h : Kd.FK k45 W ok x cs) : ∃ A2 c2 v3 v4 v5 v6, cs = [.int .i64 x.f0, .string x.f1, .slice A2 x.f2.length c2, v3, v4, v5, v6] ∧ x.f2.length ≤ c2 ∧ Kd.F k45 W ok A2 x.f2.length x.f2 := by
  obtain ⟨A2, c2, A5, c5, A6, c6, e, h1, h2, _⟩ := k45_open (Kd.FK_now h)
  refine ⟨A2, c2, _, _, _, _, e, h1, fun W' hW => ?_⟩
  obtain ⟨B2, d2, B5, d5, B6, d6, e', _, g2, _⟩ := k45_open (h W' hW)
  rw [e] at e'
  simp only [List.cons.injEq, Value.slice.injEq] at e'
  obtain ⟨_, _, ⟨rfl, _⟩, _⟩ := e'
  exact g2
theorem FK_one {W : World} {ok : Nat → Prop} {x : S45} {cs : List Value} (h : Kd.FK k45 W ok x cs) : cs.toArray.all (·.oneCell') = true := by
  obtain ⟨A2, c2, A5, c5, A6, c6, rfl, _⟩ := k45_open (Kd.FK_now h)
  simp [Value.oneCell']
theorem kb_tail {a b c : World} {g : Nat} (h : KeepBut a b g none) (hs : b.heap.size ≤ c.heap.size) (hk : ∀ k, k < a.heap.size → k ≠ g → c.heap[k]? = b.heap[k]?) : KeepBut a c g none :=
  ⟨Nat.le_trans h.1 hs, fun k h1 h2 h3 => (hk k h1 h2).trans (h.2 k h1 h2 h3)⟩
theorem walkKs_len : ∀ l : List S45, l.length ≤ (walkKs l).length
  | [] => Nat.le_refl _
  | x :: r => by
    have := walkKs_len r
    rw [walkKs, walkK_eq]
    simp only [List.length_cons, List.length_append]
    omega
theorem walkKs_at (l : List S45) {i : Nat} {y : S45} (h : l[i]? = some y) : walkKs (l.take (i + 1)) = walkKs (l.take i) ++ walkK y := by
  rw [List.take_add_one, h, Option.toList_some, walkKs_app]
  simp [walkKs]
theorem walkKs_mem {l : List S45} {y : S45} (h : y ∈ l) : ∀ k ∈ walkK y, k ∈ walkKs l := by
  obtain ⟨a, b, rfl⟩ := List.append_of_mem h
  intro k hk
  rw [walkKs_app, walkKs]
  exact List.mem_append_right _ (List.mem_append_left _ hk)
theorem walkKs_pre (l : List S45) {i : Nat} {y : S45} (h : l[i]? = some y) : (walkKs (l.take i)).length + (walkK y).length ≤ (walkKs l).length := by
  have h1 := walkKs_at l h
  have h2 : walkKs l = walkKs (l.take (i + 1)) ++ walkKs (l.drop (i + 1)) := by rw [← walkKs_app, List.take_append_drop]
  rw [h2, h1]
  simp only [List.length_append]
  omega
/-- What walking over a node counts. -/
def WalkP (x : S45) : Prop := ∀ (w : World) (cs : List Value) (ks : List Int) (g6 : Nat), Kd.FK k45 w (fun k => k ≠ g6) x cs → w.heap[g6]? = some (.cells (cK ks) 49 (0, 0)) → (∀ k ∈ walkK x, 0 ≤ k ∧ k < 31) → ks.length + (walkK x).length ≤ 1000000 → Calls Tryz.prog 17 #[.agg cs.toArray, .func (.func 18) #[] #[.pointer (some ⟨g6, 0, none⟩)]] w fun e w' => e = .returned (.tuple #[]) ∧ w'.heap[g6]? = some (.cells (cK (ks ++ walkK x)) 49 (0, 0)) ∧ KeepBut w w' g6 none ∧ Below g6 w w'
set_option maxHeartbeats 4000000 in
set_option maxRecDepth 100000 in
theorem walk_one (x : S45) (ih : ∀ y ∈ x.f2, WalkP y) : WalkP x := by
  intro w cs ks g6 hF hg hk hl
  have h1 := FK_one hF
  obtain ⟨A2, c2, v3, v4, v5, v6, rfl, hc2, hkids⟩ := FK_kids hF
  have hu45 := Tryz.underlying45
  have hu33 := Tryz.underlying33
  have hu3 := Tryz.underlying3
  rw [walkK_eq] at hk hl ⊢
  obtain ⟨k, hk0⟩ := Int.eq_ofNat_of_zero_le (hk x.f0 List.mem_cons_self).1
  have hk31 : k < 31 := by have := (hk x.f0 List.mem_cons_self).2; omega
  rw [hk0] at h1 hl ⊢
  have hlen := walkKs_len x.f2
  simp only [List.length_cons] at hl
  obtain ⟨n, hn⟩ : ∃ n, x.f2.length = n := ⟨_, rfl⟩
  rw [hn] at h1 hkids hc2 hlen ⊢
  have hnl : n ≤ 1000000 := by omega
  have HKE := Aside0.mk hk
  have HLE := Aside0.mk hl
  have HG := Aside0.mk hg
  have HX := Aside0.mk hkids
  have HN := Aside0.mk hn
  have HO := Aside0.mk h1
  have IH := Aside0.mk ih
  have HK31 := Aside0.mk hk31
  have HC2 := Aside0.mk hc2
  clear hF hg hk hl hk0 hn h1 ih hkids hk31 hlen hc2
  go_enter Tryz.func17, Tryz.ntmps17
  go_wp2_with (first | ((with_reducible refine gate_dst (N := 2) rfl ?_); refine box_event ?hg (N := 2) ?hd (cs := #[.int .i64 (k : Nat), .string x.f1, .slice A2 n c2, v3, v4, v5, v6]) (t := 45) ?hr ?_; (case hd => rfl); (case hg => rfl); (case hr => first | (go_simp; done) | (go_simp; rfl)); intro g2 hg w302 hbox hb; have GG := Aside0.mk hg; have BX := Aside0.mk hbox; have B := Aside0.mk hb; have HG2 := Aside0.mk ((hb.block _ (blk_lt HG.out)).trans HG.out); clear hbox hb hg) | ((with_reducible refine gate_dst (N := 7) rfl ?_); refine ld_agg rfl (N := 7) rfl rfl rfl BX.out hu45 rfl info45 ?_) | ((with_reducible refine gate_dst (N := 8) rfl ?_); refine goesV_ (some 8) rfl rfl Tryz.func18 (by kernel_rfl) rfl #[.agg #[.int .i64 (k : Nat), .string x.f1, .slice A2 n c2, v3, v4, v5, v6], .pointer (some ⟨g6, 0, none⟩)] rfl rfl (by simp only [List.map_toArray, List.map_cons, List.map_nil, List.append_toArray, List.nil_append, List.cons_append]; rfl) ?_; (refine (kinds1_calls HG2.out HK31.out (by have := HLE.out; omega) HO.out).mono ?_); (rintro e w108 ⟨rfl, hgg, hkk, hbb⟩; refine ⟨_, rfl, ?_⟩; have HG8 := Aside0.mk hgg; have BX8 := Aside0.mk (show w108.heap[g2]? = _ from (hkk.2 g2 (blk_lt BX.out) (by have := blk_lt HG.out; have := GG.out; omega) (by simp)).trans BX.out); have HK8 := Aside0.mk (show KeepBut w w108 g6 none from kb_tail (KeepBut.of_below B.out g6 none) hkk.1 (fun q h1 h2 => hkk.2 q (Nat.lt_of_lt_of_le h1 B.out.size) h2 (by simp))); have HB8 := Aside0.mk ((B.out.mono (Nat.le_of_lt (blk_lt HG.out))).trans hbb); clear hgg hkk hbb HG2 BX B)) | ((with_reducible refine gate_dst (N := 10) rfl ?_); refine ld_cell rfl (N := 10) (v := .slice A2 n c2) rfl rfl rfl BX8.out rfl hu33 rfl ?_))
  go_loopg [5, 12] n (fun k' v5 v12 wr => ∃ (i : Nat), v12 = .int .i64 (i : Int) ∧ Aside0 (k' + i = n) ∧ Aside0 (wr.heap[g6]? = some (.cells (cK (ks ++ (k : Int) :: walkKs (x.f2.take i))) 49 (0, 0))) ∧ Aside0 (KeepBut w wr g6 none) ∧ Aside0 (Below g6 w wr))
  case atStart => exact ⟨0, rfl, ⟨rfl⟩, ⟨by rw [List.take_zero, walkKs]; exact HG8.out⟩, HK8, HB8⟩
  case round =>
    clear HG8 HK8 HB8
    obtain ⟨i, rfl, HI, HG, HK, HB⟩ := hrel
    by_cases hlast : i = n
    · subst hlast
      go_wp2_with fail
      go_end0
      have h := HG.out
      rw [← HN.out, List.take_length] at h
      exact ⟨rfl, h, HK.out, HB.out⟩
    · have hi : i < n := by have := HI.out; omega
      obtain ⟨y, hy⟩ : ∃ y, x.f2[i]? = some y := ⟨_, List.getElem?_eq_getElem (by rw [HN.out]; exact hi)⟩
      have hFr : Kd.F k45 wr (fun k => k ≠ g6) A2 n x.f2 := Kd.F_step HX.out (fun k hk hl => HK.out.2 k hl hk (by simp))
      obtain ⟨ad, Y2, e2, Y5, e5, Y6, e6, rfl, hFy, q0, q1, q2, q3, q4, q5, q6⟩ := elem45 hFr i y hy
      have HFY := Aside0.mk hFy
      have HIH := Aside0.mk (IH.out y (List.mem_of_getElem? hy))
      have HKY := Aside0.mk (fun k hk => HKE.out k (List.mem_cons_of_mem _ (walkKs_mem (List.mem_of_getElem? hy) k hk)))
      have HLY := Aside0.mk (walkKs_pre x.f2 hy)
      have HAT := Aside0.mk (walkKs_at x.f2 hy)
      obtain ⟨q, hq⟩ : ∃ q, i + 1 = q := ⟨_, rfl⟩
      have e1 : wrap64 ((i : Int) + 1) = (q : Int) := by unfold wrap64; omega
      have HQ := Aside0.mk hq
      clear hFr hFy hq hlast hy
      go_wp2_with (first | ((with_reducible refine gate_dst (N := 5) rfl ?_); refine box_event ?hg (N := 5) ?hd (cs := #[.int .i64 0, .string (⟨#[]⟩ : ByteArray), .slice none 0 0, .bool false, .bool false, .slice none 0 0, .slice none 0 0]) (t := 45) ?hr ?_; (case hd => rfl); (case hg => rfl); (case hr => first | (go_simp; done) | (go_simp; rfl)); intro g5 hg w305 hbox hb; have GG := Aside0.mk hg; have BX := Aside0.mk hbox; have B := Aside0.mk hb; clear hbox hb hg) | ((with_reducible refine gate_ (.store 45 (.tmp 5) (.tmp 15)) rfl ?_); refine st_agg rfl rfl rfl (cs' := #[.int .i64 y.f0, .string y.f1, .slice Y2 y.f2.length e2, .bool y.f3, .bool y.f4, .slice Y5 y.f5.length e5, .slice Y6 y.f6.length e6]) rfl rfl BX.out info45 rfl (FK_one HFY.out) ?_; intro w605 p1 p2 p3; have BY := Aside0.mk p1; have P2 := Aside0.mk p2; have P3 := Aside0.mk p3; clear p1 p2 p3) | ((with_reducible refine gate_dst (N := 16) rfl ?_); refine ld_agg rfl (N := 16) rfl rfl rfl BY.out hu45 rfl info45 ?_) | ((with_reducible refine gate_dst (N := 18) rfl ?_); refine goesL_ (some 18) rfl rfl Tryz.func17 (by kernel_rfl) rfl #[.agg #[.int .i64 y.f0, .string y.f1, .slice Y2 y.f2.length e2, .bool y.f3, .bool y.f4, .slice Y5 y.f5.length e5, .slice Y6 y.f6.length e6], .func (.func 18) #[] #[.pointer (some ⟨g6, 0, none⟩)]] rfl (by (try simp only [List.map_toArray, List.map_cons, List.map_nil]); first | done | rfl) ?_; (refine (HIH.out w605 _ (ks ++ (k : Int) :: walkKs (x.f2.take i)) g6 (Kd.FK_step HFY.out (fun q _ hl => (P3.out q (by have := GG.out; omega)).trans (B.out.block q hl))) ((P3.out g6 (by have := blk_lt HG.out; have := GG.out; omega)).trans ((B.out.block g6 (blk_lt HG.out)).trans HG.out)) HKY.out (by have := HLE.out; have := HLY.out; simp only [List.length_append, List.length_cons]; omega)).mono ?_); (rintro e w118 ⟨rfl, hgg, hkk, hbb⟩; refine ⟨_, rfl, ?_⟩; have N1 := Aside0.mk (show w118.heap[g6]? = some (.cells (cK (ks ++ (k : Int) :: walkKs (x.f2.take q))) 49 (0, 0)) from by rw [← HQ.out, HAT.out, hgg, List.append_assoc, List.cons_append]); have N2 := Aside0.mk (show KeepBut w w118 g6 none from (kb_tail (kb_tail HK.out (Nat.le_trans B.out.size P2.out.size) (fun r h1 h2 => (P3.out r (by have := GG.out; have := HK.out.1; omega)).trans (B.out.block r (Nat.lt_of_lt_of_le h1 HK.out.1)))) hkk.1 (fun r h1 h2 => hkk.2 r (Nat.lt_of_lt_of_le (Nat.lt_of_lt_of_le h1 HK.out.1) (Nat.le_trans B.out.size P2.out.size)) h2 (by simp)))); have N3 := Aside0.mk (HB.out.trans ((B.out.mono (Nat.le_of_lt (blk_lt HG.out))).trans ((P2.out.mono (by have := blk_lt HG.out; have := GG.out; omega)).trans hbb))); clear hgg hkk hbb)) | ((with_reducible refine gate_dst (N := 19) rfl ?_); refine val_event rfl (.int .i64 (q : Nat)) ?hr ?_; (case hr => first | (go_simp; done) | (go_simp; rw [i64_w]; assumption) | (go_simp; rfl))))
      go_roundg (gk - 1)
      case measure => have := HI.out; omega
      case rel => exact ⟨q, rfl, ⟨by have := HI.out; have := HQ.out; omega⟩, N1, N2, N3⟩
mutual
/-- Walking over a node. -/
theorem walk_calls : (x : S45) → WalkP x
  | ⟨k, t, l, a, b, c, d⟩ => walk_one ⟨k, t, l, a, b, c, d⟩ (walk_list l)
theorem walk_list : (l : List S45) → ∀ y ∈ l, WalkP y
  | [], y, h => by cases h
  | x :: r, y, h => by
    have h1 := walk_calls x
    have h2 := walk_list r
    rcases List.mem_cons.1 h with e | e
    · rw [e]; exact h1
    · exact h2 y e
end
end Go.Proofs.YthipodffpkglfaaGreatDoor.PS
namespace Go.Proofs.YthipodffpkglfaaGreatDoor.PS
open Go.RowKit Go.Proofs.YthipodffpkglfaaGreatDoorW.PrintWords Go.Proofs.YthipodffpkglfaaGreatDoorW.PrintLast Go.Proofs.YthipodffpkglfaaGreatDoorW.PrintMore
set_option linter.unusedVariables false
set_option linter.unusedSimpArgs false
def kindsOk (f : Nat) : Bool := (walkK (formN f).n).all (fun k => decide (0 ≤ k) && decide (k < 31)) && decide ((walkK (formN f).n).length ≤ 64)
theorem kinds_ok : ∀ f, f < 8 → kindsOk f = true
  | 0, _ => by kernel_rfl
  | 1, _ => by kernel_rfl
  | 2, _ => by kernel_rfl
  | 3, _ => by kernel_rfl
  | 4, _ => by kernel_rfl
  | 5, _ => by kernel_rfl
  | 6, _ => by kernel_rfl
  | 7, _ => by kernel_rfl
  | f + 8, h => absurd h (by omega)
theorem kinds_all : ∀ (fs : List Nat), (∀ f ∈ fs, f < 8) → (∀ k ∈ walkKs (formsN fs), 0 ≤ k ∧ k < 31) ∧ (walkKs (formsN fs)).length ≤ 64 * fs.length
  | [], _ => ⟨fun k h => (by cases h), Nat.le_refl _⟩
  | f :: r, h => by
    have ih := kinds_all r (fun g hg => h g (List.mem_cons_of_mem _ hg))
    have ok := kinds_ok f (h f List.mem_cons_self)
    unfold kindsOk at ok
    rw [Bool.and_eq_true, decide_eq_true_eq] at ok
    have e : formsN (f :: r) = (formN f).n :: formsN r := rfl
    rw [e, walkKs]
    refine ⟨fun k hk => ?_, by simp only [List.length_append, List.length_cons]; omega⟩
    rcases List.mem_append.1 hk with hk | hk
    · have := List.all_eq_true.1 ok.1 k hk
      simp only [Bool.and_eq_true, decide_eq_true_eq] at this
      exact this
    · exact ih.1 k hk
theorem formsN_len (fs : List Nat) : (formsN fs).length = fs.length := by unfold formsN; simp
set_option maxHeartbeats 4000000 in
set_option maxRecDepth 100000 in
theorem kinds_calls {wD w : World} {s : ByteArray} {A : Option Addr} {c : Nat} {fs : List Nat} (hs : s.data.toList = textB fs) (hf : ∀ f ∈ fs, f < 8) (hn : fs.length ≤ 1000) (hb : Below wD.heap.size wD w) (hy : Byt wD A c s) : Calls Tryz.prog 6 #[.slice A s.size c] w fun e w' => ∃ g, e = .returned (.tuple #[.slice (some ⟨g, 0, none⟩) 31 31, .int .i64 0]) ∧ w.heap.size ≤ g ∧ w'.heap[g]? = some (.cells (cK (walkKs (formsN fs))) 49 (0, 0)) ∧ Below w.heap.size w w' := by
  have hu45 := Tryz.underlying45
  have hu33 := Tryz.underlying33
  have hu3 := Tryz.underlying3
  have hu49 := Tryz.underlying49
  have hmf : ∀ (fn : Fn) (first cap : Array Value) (w : World), (Instr.makeFunc fn first cap).run Tryz.prog w = .ok (.func fn first cap) w := fun _ _ _ _ => rfl
  have HT := Aside0.mk (forms_text hs hf hn hb hy)
  have HKA := Aside0.mk (kinds_all fs hf)
  obtain ⟨l, hl⟩ : ∃ l, formsN fs = l := ⟨_, rfl⟩
  have hlen := formsN_len fs
  rw [hl] at HT HKA hlen ⊢
  obtain ⟨n, hn2⟩ : ∃ n, l.length = n := ⟨_, rfl⟩
  rw [hn2] at HT hlen
  have hnl : n ≤ 1000 := by omega
  have HLE := Aside0.mk hlen
  have HN := Aside0.mk hn2
  have HNF := Aside0.mk hn
  clear hs hf hb hy hl hn hn2 hlen
  go_enter Tryz.func6, Tryz.ntmps6
  go_wp2_with (first | ((with_reducible refine gate_dst (N := 11) rfl ?_); refine goesL_ (some 11) rfl rfl Tryz.func16 (by kernel_rfl) rfl #[.slice A s.size c] rfl (by (try simp only [List.map_toArray, List.map_cons, List.map_nil]); first | done | rfl) ?_; (refine (HT.out).mono ?_); (rintro e w111 ⟨A1, c1, rfl, hcc, hff, hbb⟩; refine ⟨_, rfl, ?_⟩; have HF := Aside0.mk hff; have B1 := Aside0.mk hbb; clear hcc hff hbb)) | ((with_reducible refine gate_dst (N := 6) rfl ?_); refine box_event ?hg (N := 6) ?hd (cs := cK []) (t := 49) ?hr ?_; (case hd => rfl); (case hg => rfl); (case hr => first | (go_simp; done) | (go_simp; rfl)); intro g6 hg w306 hbox hb; have GG := Aside0.mk hg; have BX := Aside0.mk hbox; have B := Aside0.mk hb; clear hbox hb hg))
  go_loopg [8, 19] n (fun k' v8 v19 wr => ∃ (i : Nat), v19 = .int .i64 (i : Int) ∧ Aside0 (k' + i = n) ∧ Aside0 (wr.heap[g6]? = some (.cells (cK (walkKs (l.take i))) 49 (0, 0))) ∧ Aside0 (KeepBut w306 wr g6 none) ∧ Aside0 (Below g6 w306 wr))
  case atStart => exact ⟨0, rfl, ⟨rfl⟩, ⟨by rw [List.take_zero, walkKs]; exact BX.out⟩, ⟨⟨Nat.le_refl _, fun _ _ _ _ => rfl⟩⟩, ⟨Below.refl _ _⟩⟩
  case round =>
    obtain ⟨i, rfl, HI, HG, HK, HB⟩ := hrel
    by_cases hlast : i = n
    · subst hlast
      go_wp2_with fail
      go_ret2
      have h := HG.out
      rw [← HN.out, List.take_length] at h
      exact ⟨g6, rfl, by rw [GG.out]; exact B1.out.size, h, B1.out.trans ((B.out.mono B1.out.size).trans (HB.out.mono (by rw [GG.out]; exact B1.out.size)))⟩
    · have hi : i < n := by have := HI.out; omega
      obtain ⟨y, hy⟩ : ∃ y, l[i]? = some y := ⟨_, List.getElem?_eq_getElem (by rw [HN.out]; exact hi)⟩
      have hFr : Kd.F k45 wr (fun k => k ≠ g6) A1 n l := Kd.F_step (Kd.F_mono (Kd.F_below (Kd.F_bound HF.out) B.out) (fun k hk => by have := hk.2; have := GG.out; omega)) (fun k hk hl => HK.out.2 k hl hk (by simp))
      obtain ⟨ad, Y2, e2, Y5, e5, Y6, e6, rfl, hFy, q0, q1, q2, q3, q4, q5, q6⟩ := elem45 hFr i y hy
      have HFY := Aside0.mk hFy
      have HKY := Aside0.mk (fun k hk => HKA.out.1 k (walkKs_mem (List.mem_of_getElem? hy) k hk))
      have HLY := Aside0.mk (walkKs_pre l hy)
      have HAT := Aside0.mk (walkKs_at l hy)
      obtain ⟨q, hq⟩ : ∃ q, i + 1 = q := ⟨_, rfl⟩
      have e1 : wrap64 ((i : Int) + 1) = (q : Int) := by unfold wrap64; omega
      have HQ := Aside0.mk hq
      clear hFr hFy hq hlast hy
      go_wp2_with (first | ((with_reducible refine gate_dst (N := 8) rfl ?_); refine box_event ?hg (N := 8) ?hd (cs := #[.int .i64 0, .string (⟨#[]⟩ : ByteArray), .slice none 0 0, .bool false, .bool false, .slice none 0 0, .slice none 0 0]) (t := 45) ?hr ?_; (case hd => rfl); (case hg => rfl); (case hr => first | (go_simp; done) | (go_simp; rfl)); intro g8 hg w308 hbox hb; have GG8 := Aside0.mk hg; have BX8 := Aside0.mk hbox; have B8 := Aside0.mk hb; clear hbox hb hg) | ((with_reducible refine gate_ (.store 45 (.tmp 8) (.tmp 22)) rfl ?_); refine st_agg rfl rfl rfl (cs' := #[.int .i64 y.f0, .string y.f1, .slice Y2 y.f2.length e2, .bool y.f3, .bool y.f4, .slice Y5 y.f5.length e5, .slice Y6 y.f6.length e6]) rfl rfl BX8.out info45 rfl (FK_one HFY.out) ?_; intro w608 p1 p2 p3; have BY := Aside0.mk p1; have P2 := Aside0.mk p2; have P3 := Aside0.mk p3; clear p1 p2 p3) | ((with_reducible refine gate_dst (N := 23) rfl ?_); refine ld_agg rfl (N := 23) rfl rfl rfl BY.out hu45 rfl info45 ?_) | ((with_reducible refine gate_dst (N := 25) rfl ?_); refine goesL_ (some 25) rfl rfl Tryz.func17 (by kernel_rfl) rfl #[.agg #[.int .i64 y.f0, .string y.f1, .slice Y2 y.f2.length e2, .bool y.f3, .bool y.f4, .slice Y5 y.f5.length e5, .slice Y6 y.f6.length e6], .func (.func 18) #[] #[.pointer (some ⟨g6, 0, none⟩)]] rfl (by (try simp only [List.map_toArray, List.map_cons, List.map_nil]); first | done | rfl) ?_; (refine (walk_calls y w608 _ (walkKs (l.take i)) g6 (Kd.FK_step HFY.out (fun q _ hl => (P3.out q (by have := GG8.out; omega)).trans (B8.out.block q hl))) ((P3.out g6 (by have := blk_lt HG.out; have := GG8.out; omega)).trans ((B8.out.block g6 (blk_lt HG.out)).trans HG.out)) HKY.out (by have := HLY.out; have := HKA.out.2; have := HNF.out; omega)).mono ?_); (rintro e w125 ⟨rfl, hgg, hkk, hbb⟩; refine ⟨_, rfl, ?_⟩; have N1 := Aside0.mk (show w125.heap[g6]? = some (.cells (cK (walkKs (l.take q))) 49 (0, 0)) from by rw [← HQ.out, HAT.out, hgg]); have N2 := Aside0.mk (show KeepBut w306 w125 g6 none from (kb_tail (kb_tail HK.out (Nat.le_trans B8.out.size P2.out.size) (fun r h1 h2 => (P3.out r (by have := GG8.out; have := HK.out.1; omega)).trans (B8.out.block r (Nat.lt_of_lt_of_le h1 HK.out.1)))) hkk.1 (fun r h1 h2 => hkk.2 r (Nat.lt_of_lt_of_le (Nat.lt_of_lt_of_le h1 HK.out.1) (Nat.le_trans B8.out.size P2.out.size)) h2 (by simp)))); have N3 := Aside0.mk (HB.out.trans ((B8.out.mono (Nat.le_of_lt (blk_lt HG.out))).trans ((P2.out.mono (by have := blk_lt HG.out; have := GG8.out; omega)).trans hbb))); clear hgg hkk hbb)) | ((with_reducible refine gate_dst (N := 26) rfl ?_); refine val_event rfl (.int .i64 (q : Nat)) ?hr ?_; (case hr => first | (go_simp; done) | (go_simp; rw [i64_w]; assumption) | (go_simp; rfl))))
      go_roundg (gk - 1)
      case measure => have := HI.out; omega
      case rel => exact ⟨q, rfl, ⟨by have := HI.out; have := HQ.out; omega⟩, N1, N2, N3⟩
end Go.Proofs.YthipodffpkglfaaGreatDoor.PS
