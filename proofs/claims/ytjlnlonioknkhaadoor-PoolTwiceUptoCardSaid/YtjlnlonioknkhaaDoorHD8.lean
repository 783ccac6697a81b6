/- The document's Put: the walk. -/
import Derived.Test.YtjlnlonioknkhaaDoorHD7
namespace Go.Proofs.YtjlnlonioknkhaaDoor.PL
open Go.RowKit Go.Proofs.YtjlnlonioknkhaaDoorW.PrintWords Go.Proofs.YtjlnlonioknkhaaDoorW.PrintLast Go.Proofs.YtjlnlonioknkhaaDoorW.PrintMore
set_option linter.unusedVariables false
set_option linter.unusedSimpArgs false

theorem F11tab8 : rtab .any (opsOf Tryd.f11 8) = (true, [([], []), ([0], [0]), ([1], [1]), ([2], [2]), ([], []), ([3, 4], [3, 4]), ([5], [5]), ([], []), ([6, 7], [6, 7])]) := by kernel_rfl
theorem F11tab10 : rtab .any (opsOf Tryd.f11 10) = (true, [([], []), ([0], [0]), ([1], [1]), ([2], [2]), ([], []), ([3], [3]), ([], []), ([3, 6, 0, 1, 2, 3, 4, 5, 6], [3, 6]), ([7, 5, 0, 1, 2, 3, 4, 5, 6, 7], [5, 7]), ([8, 4, 7, 0, 1, 2, 3, 4, 5, 6, 7], [4, 8]), ([0, 0, 1, 2, 3, 4, 5, 6, 7], [0]), ([10, 0, 1, 2, 3, 4, 5, 6, 7], [10]), ([11, 7, 7, 0, 1, 2, 3, 4, 5, 6, 7], [7, 11])]) := by kernel_rfl
theorem info32 : (Tryd.prog.info? 32).map (fun i => (i.zero, i.size, i.bytes)) = some (some (.agg #[.int .i64 0, .string ⟨#[]⟩, .slice none 0 0, .bool false, .bool false, .slice none 0 0, .slice none 0 0]), 7, 104) := by kernel_rfl
section
variable {P : Program} {ops : Array Oper} {o : Oper} {a : Act} {Q : Exit → Act → World → Prop} {Kc : Act → World → Prop} {md : Region.Mode} {S : World → Prop} {ds : List Nat}
theorem lit_step {W : World} {m : Nat} {cs : Array Value} {t : TypeId} (hw : Region.wanted o (yielded ops a.tmps) = true)
    (hrun : (execOp a.eval o).run P W = .ok (.value (.slice (some ⟨W.heap.size, 0, none⟩) m m)) (W.alloc (.cells cs t (0, 0))))
    (h : ∀ g, g = W.heap.size → ∀ w1, w1.heap[g]? = some (.cells cs t (0, 0)) → Below W.heap.size W w1 → Kc (a.put o.dst (.slice (some ⟨g, 0, none⟩) m m)) w1) : if Region.wanted o (yielded ops a.tmps) = true then Oper.wp P o a W Kc Q else Kc (a.put o.dst undef) W :=
  event_step hw hrun (h _ rfl _ (blk_new W _) (below_alloc (Below.refl _ _) _))
/-- Two of ds may come in either order. -/
theorem two_last_ {i j : Nat} {Ni Nj : Option Tmp} {oi oj : Oper} {fuel : Nat} {l : Array Bool} {a : Act} {w : World} (li lj : Array Bool) (hi : ops[i]? = some oi) (hj : ops[j]? = some oj) (hNi : oi.dst = Ni) (hNj : oj.dst = Nj)
    (hc : (Region.ready md ops l == [i, j] && l.setIfInBounds i true == li && l.setIfInBounds j true == lj) = true) (hdi : i ∈ ds) (hdj : j ∈ ds)
    (h1 : ∀ K : Act → World → Prop, Shut (∀ a' w', wpAnyLast P md ops Q S ds fuel li a' w' → K a' w') → if Region.wanted oi (yielded ops a.tmps) = true then Oper.wp P oi a w K Q else K (a.put Ni undef) w)
    (h2 : ∀ K : Act → World → Prop, Shut (∀ a' w', wpAnyLast P md ops Q S ds fuel lj a' w' → K a' w') → if Region.wanted oj (yielded ops a.tmps) = true then Oper.wp P oj a w K Q else K (a.put Nj undef) w) :
    wpAnyLast P md ops Q S ds (fuel + 1) l a w := by
  subst hNi
  subst hNj
  simp only [Bool.and_eq_true, beq_iff_eq] at hc
  obtain ⟨⟨h3, h4⟩, h5⟩ := hc
  subst h4
  subst h5
  exact wpAnyLast_ready h3 (by simp) (AllReadyL.cons_last hi hdi (fun K hK => h1 K hK) (AllReadyL.cons_last hj hdj (fun K hK => h2 K hK) AllReadyL.nil))
end
/-- A block that holds one row of cells. -/
theorem C_raw {w : World} {g : Nat} {cs : List Value} (hb : w.heap[g]? = some (.cells cs.toArray 32 (0, 0))) (hl : cs.length = 7) (h1 : ∀ u ∈ cs, u.oneCell' = true) : (Kd.raw 7).C w (some ⟨g, 0, none⟩) 1 [cs] := by
  refine ⟨rfl, by decide, fun _ => ⟨⟨g, 0, none⟩, rfl, fun j p hj => ?_⟩⟩
  have hj0 : j = 0 := by have := (List.getElem?_eq_some_iff.1 hj).1; simp at this; exact this
  subst hj0
  obtain rfl : cs = p := by simpa using hj
  refine ⟨cs, hl, ⟨rfl, hl, h1⟩, fun i u hu => ?_⟩
  rw [add_plain, blk_cell hb]
  simpa using hu
def set7at (w : World) (g o : Nat) (v0 v1 v2 v3 v4 v5 v6 : Value) : World :=
  ((((((w.setCell ⟨g, o, none⟩ v0).setCell ⟨g, o + 1, none⟩ v1).setCell ⟨g, o + 2, none⟩ v2).setCell ⟨g, o + 3, none⟩ v3).setCell ⟨g, o + 4, none⟩ v4).setCell ⟨g, o + 5, none⟩ v5).setCell ⟨g, o + 6, none⟩ v6
theorem putRaw {ok : Nat → Prop} {w : World} {base g n c : Nat} {rows : List (List Value)} (h : (Kd.raw 7).R 32 w base ok (.slice (some ⟨g, 0, none⟩) n c) rows) (i : Nat) (hi : i < n) (v0 v1 v2 v3 v4 v5 v6 : Value) (h1 : ∀ u ∈ [v0, v1, v2, v3, v4, v5, v6], u.oneCell' = true) :
    (Kd.raw 7).R 32 (set7at w g (i * 7) v0 v1 v2 v3 v4 v5 v6) base ok (.slice (some ⟨g, 0, none⟩) n c) (rows.set i [v0, v1, v2, v3, v4, v5, v6]) ∧ w.grownBy (set7at w g (i * 7) v0 v1 v2 v3 v4 v5 v6) (some g) := by
  obtain ⟨cs, hcl, _, hc, _⟩ := Kd.R_elem h [] (i : Int) (by omega) (by omega)
  have h2 : cs.drop 7 = [] := List.drop_eq_nil_of_le (Nat.le_of_eq hcl)
  exact Kd.R_seg h (i : Int) (by omega) (by omega) (okp := fun _ => False) (seg := [v0, v1, v2, v3, v4, v5, v6]) (j := 0) hcl hc (show 7 ≤ 7 from by decide) (x' := [v0, v1, v2, v3, v4, v5, v6]) (by show _ ∧ _ ∧ _; rw [show 0 + [v0, v1, v2, v3, v4, v5, v6].length = 7 from rfl, h2]; exact ⟨rfl, rfl, h1⟩) (fun _ h => h.elim)
theorem far_frozen {ok : Nat → Prop} {w : World} {base g n c : Nat} {rows : List (List Value)} (h : (Kd.raw 7).R 32 w base ok (.slice (some ⟨g, 0, none⟩) n c) rows) (i : Nat) (hi : i < n) : ∃ c0 c1 c2 c3 c4 c5 c6, w.cell? ⟨g, i * 7, none⟩ = some c0 ∧ w.cell? ⟨g, i * 7 + 1, none⟩ = some c1 ∧ w.cell? ⟨g, i * 7 + 2, none⟩ = some c2 ∧ w.cell? ⟨g, i * 7 + 3, none⟩ = some c3 ∧ w.cell? ⟨g, i * 7 + 4, none⟩ = some c4 ∧ w.cell? ⟨g, i * 7 + 5, none⟩ = some c5 ∧ w.cell? ⟨g, i * 7 + 6, none⟩ = some c6 ∧ ∀ j, w.frozen? ⟨g, i * 7 + j, none⟩ = false := by
  obtain ⟨cs, hcl, _, hc, hf⟩ := Kd.R_elem h [] (i : Int) (by omega) (by omega)
  rw [Int.toNat_natCast] at hc hf
  have hl : cs.length = 7 := hcl
  match cs, hl with
  | [c0, c1, c2, c3, c4, c5, c6], _ => exact ⟨c0, c1, c2, c3, c4, c5, c6, hc 0 _ rfl, hc 1 _ rfl, hc 2 _ rfl, hc 3 _ rfl, hc 4 _ rfl, hc 5 _ rfl, hc 6 _ rfl, hf⟩

theorem bc {w w' : World} {a : Addr} {v : Value} (hb : Below w.heap.size w w') (h : w.cell? a = some v) : w'.cell? a = some v := (hb.cell (World.block_lt_of_cell? w a h)).trans h
theorem set7at_other {w : World} {g o k : Nat} {v0 v1 v2 v3 v4 v5 v6 : Value} (h : k ≠ g) : (set7at w g o v0 v1 v2 v3 v4 v5 v6).heap[k]? = w.heap[k]? := by
  unfold set7at
  rw [Below.heap_setCell _ _ _ _ h, Below.heap_setCell _ _ _ _ h, Below.heap_setCell _ _ _ _ h, Below.heap_setCell _ _ _ _ h, Below.heap_setCell _ _ _ _ h, Below.heap_setCell _ _ _ _ h, Below.heap_setCell _ _ _ _ h]
/-- The row's new element was written, and the struct's row: in either order. -/
theorem ordA {w8 : World} {base gb g8 n c8 : Nat} {v1 v8 : Value} {rows : List (List Value)} (h8 : v8 = .slice (some ⟨g8, 0, none⟩) n c8) (ra : w8.heap[gb]? = some (.cells #[v1] 28 (0, 0))) (hR : (Kd.raw 7).R 32 w8 base (fun k => base ≤ k) v8 rows) (i : Nat) (hi : i < n) (v0 u1 u2 u3 u4 u5 u6 : Value) (h1 : ∀ u ∈ [v0, u1, u2, u3, u4, u5, u6], u.oneCell' = true) :
    ((set7at w8 g8 (i * 7) v0 u1 u2 u3 u4 u5 u6).setCell ⟨gb, 0, none⟩ v8).heap[gb]? = some (.cells #[v8] 28 (0, 0)) ∧ (Kd.raw 7).R 32 ((set7at w8 g8 (i * 7) v0 u1 u2 u3 u4 u5 u6).setCell ⟨gb, 0, none⟩ v8) base (fun k => base ≤ k) v8 (rows.set i [v0, u1, u2, u3, u4, u5, u6]) ∧ Turned w8 ((set7at w8 g8 (i * 7) v0 u1 u2 u3 u4 u5 u6).setCell ⟨gb, 0, none⟩ v8) (fun k => k = gb ∨ some k = v8.ownBlock) := by
  subst h8
  obtain ⟨p1, p2⟩ := putRaw hR i hi v0 u1 u2 u3 u4 u5 u6 h1
  have hne : gb ≠ g8 := by
    intro e; subst e
    obtain ⟨cl, hc⟩ := Kd.R_typed hR gb rfl
    exact blk_ne ra hc (by decide) rfl
  have ra2 := (set7at_other (w := w8) (o := i * 7) (v0 := v0) (v1 := u1) (v2 := u2) (v3 := u3) (v4 := u4) (v5 := u5) (v6 := u6) hne).trans ra
  refine ⟨blk_put ra2 0 _ rfl, Kd.R_reok rfl (Kd.R_far (Kd.R_tight rfl p1) (p := ⟨gb, 0, none⟩) (fun k hk e => by subst e; injection hk with hk; exact hne hk) _) (fun k hk => Kd.R_base p1 k hk), ?_⟩
  have t1 : Turned w8 (set7at w8 g8 (i * 7) v0 u1 u2 u3 u4 u5 u6) (fun k => k = gb ∨ some k = (Value.slice (some ⟨g8, 0, none⟩) n c8).ownBlock) := ⟨p2.os, p2.tape, p2.output, p2.size, fun k hk hn => p2.block k hk (fun e => hn (Or.inr e))⟩
  exact t1.trans (setCell_turned (S := fun k => k = gb ∨ some k = (Value.slice (some ⟨g8, 0, none⟩) n c8).ownBlock) (Or.inl rfl)) (fun _ _ h => h)
theorem ordB {w8 : World} {base gb g8 n c8 : Nat} {v1 v8 : Value} {rows : List (List Value)} (h8 : v8 = .slice (some ⟨g8, 0, none⟩) n c8) (ra : w8.heap[gb]? = some (.cells #[v1] 28 (0, 0))) (hR : (Kd.raw 7).R 32 w8 base (fun k => base ≤ k) v8 rows) (i : Nat) (hi : i < n) (v0 u1 u2 u3 u4 u5 u6 : Value) (h1 : ∀ u ∈ [v0, u1, u2, u3, u4, u5, u6], u.oneCell' = true) :
    (set7at (w8.setCell ⟨gb, 0, none⟩ v8) g8 (i * 7) v0 u1 u2 u3 u4 u5 u6).heap[gb]? = some (.cells #[v8] 28 (0, 0)) ∧ (Kd.raw 7).R 32 (set7at (w8.setCell ⟨gb, 0, none⟩ v8) g8 (i * 7) v0 u1 u2 u3 u4 u5 u6) base (fun k => base ≤ k) v8 (rows.set i [v0, u1, u2, u3, u4, u5, u6]) ∧ Turned w8 (set7at (w8.setCell ⟨gb, 0, none⟩ v8) g8 (i * 7) v0 u1 u2 u3 u4 u5 u6) (fun k => k = gb ∨ some k = v8.ownBlock) := by
  subst h8
  have hne : gb ≠ g8 := by
    intro e; subst e
    obtain ⟨cl, hc⟩ := Kd.R_typed hR gb rfl
    exact blk_ne ra hc (by decide) rfl
  have hR2 : (Kd.raw 7).R 32 (w8.setCell ⟨gb, 0, none⟩ (.slice (some ⟨g8, 0, none⟩) n c8)) base (fun k => base ≤ k) (.slice (some ⟨g8, 0, none⟩) n c8) rows := Kd.R_reok rfl (Kd.R_far (Kd.R_tight rfl hR) (p := ⟨gb, 0, none⟩) (fun k hk e => by subst e; injection hk with hk; exact hne hk) _) (fun k hk => Kd.R_base hR k hk)
  obtain ⟨p1, p2⟩ := putRaw hR2 i hi v0 u1 u2 u3 u4 u5 u6 h1
  refine ⟨(set7at_other (o := i * 7) (v0 := v0) (v1 := u1) (v2 := u2) (v3 := u3) (v4 := u4) (v5 := u5) (v6 := u6) hne).trans (blk_put ra 0 _ rfl), p1, ?_⟩
  have t1 : Turned (w8.setCell ⟨gb, 0, none⟩ (.slice (some ⟨g8, 0, none⟩) n c8)) (set7at (w8.setCell ⟨gb, 0, none⟩ (.slice (some ⟨g8, 0, none⟩) n c8)) g8 (i * 7) v0 u1 u2 u3 u4 u5 u6) (fun k => k = gb ∨ some k = (Value.slice (some ⟨g8, 0, none⟩) n c8).ownBlock) := ⟨p2.os, p2.tape, p2.output, p2.size, fun k hk hn => p2.block k hk (fun e => hn (Or.inr e))⟩
  exact (setCell_turned (S := fun k => k = gb ∨ some k = (Value.slice (some ⟨g8, 0, none⟩) n c8).ownBlock) (Or.inl rfl)).trans t1 (fun _ _ h => h)
/-- One node more. -/
theorem push_fin {w w8 w9 : World} {base gb : Nat} {v v8 : Value} {rows : List (List Value)} {all : List S32} {x : S32} {A2 : Option Addr} {c2 : Nat} {A5 : Option Addr} {c5 : Nat} {A6 : Option Addr} {c6 : Nat} (zc : List Value) (hl : rows.length = all.length) (F8 : ∀ (j : Nat) (y : S32) (c : List Value), all[j]? = some y → rows[j]? = some c → Kd.FK k32 w8 (fun k => k < base) y c) (T8 : Turned w w8 (RefS gb v)) (O8 : v8.ownBlock = v.ownBlock ∨ ∃ b, v8.ownBlock = some b ∧ w.heap.size ≤ b) (hx : NF w8 (fun k => k < base) x A2 c2 A5 c5 A6 c6) (hb8 : base ≤ w8.heap.size) (hbb : base ≤ gb)
    (h : w9.heap[gb]? = some (.cells #[v8] 28 (0, 0)) ∧ (Kd.raw 7).R 32 w9 base (fun k => base ≤ k) v8 ((rows ++ [zc]).set all.length [.int .i64 x.f0, .string x.f1, .slice A2 x.f2.length c2, .bool x.f3, .bool x.f4, .slice A5 x.f5.length c5, .slice A6 x.f6.length c6]) ∧ Turned w8 w9 (fun k => k = gb ∨ some k = v8.ownBlock)) :
    RefAt w9 base gb v8 (all ++ [x]) ∧ Turned w w9 (RefS gb v) := by
  obtain ⟨h1, h2, h3⟩ := h
  have hbl : ∀ k, k < base → w9.heap[k]? = w8.heap[k]? := fun k hk => h3.block k (Nat.lt_of_lt_of_le hk hb8) (fun hs => hs.elim (fun e => by omega) (fun e => by have := Kd.R_base h2 k e.symm; omega))
  refine ⟨⟨h1, ⟨_, by simp [hl], h2, fun j y c hy hc => ?_⟩, hbb⟩, T8.trans h3 (fun i hi hs => ?_)⟩
  · by_cases hj : j < all.length
    · rw [List.getElem?_append_left hj] at hy
      rw [List.getElem?_set_ne (by omega), List.getElem?_append_left (by omega)] at hc
      exact Kd.FK_step (F8 j y c hy hc) (fun k hk _ => hbl k hk)
    · rw [List.getElem?_append_right (by omega)] at hy
      have h0 : j - all.length = 0 := by have := (List.getElem?_eq_some_iff.1 hy).1; simp at this; omega
      rw [h0] at hy
      obtain rfl : x = y := by simpa using hy
      obtain rfl : j = all.length := by omega
      rw [List.getElem?_set_self (by simp [hl])] at hc
      obtain rfl : [.int .i64 x.f0, .string x.f1, .slice A2 x.f2.length c2, .bool x.f3, .bool x.f4, .slice A5 x.f5.length c5, .slice A6 x.f6.length c6] = c := by simpa using hc
      have hx9 := hx.step (w' := w9) hbl
      exact k32_mkF _ _ x hx9.l2 hx9.g2 hx9.l5 hx9.g5 hx9.l6 hx9.g6
  · rcases hs with hs | hs
    · exact Or.inl hs
    · rcases O8 with e | ⟨b, e, hb⟩
      · rw [e] at hs; exact Or.inr hs
      · rw [e] at hs; injection hs with hs; omega
set_option maxHeartbeats 8000000 in
set_option maxRecDepth 100000 in
theorem ref_walk (x : S32) (A2 : Option Addr) (c2 : Nat) (A5 : Option Addr) (c5 : Nat) (A6 : Option Addr) (c6 : Nat) (base gb : Nat) (v : Value) (all : List S32) (w : World) (hx : NF w (fun k => k < base) x A2 c2 A5 c5 A6 c6) (hp : RefAt w base gb v all) (hfx : Fin32 x) (hfa : ∀ r ∈ all, Fin32 r) (hn : all.length + (pre x).length ≤ 1000000)
    (ih : ∀ y ∈ x.f2, ∀ (A2 : Option Addr) (c2 : Nat) (A5 : Option Addr) (c5 : Nat) (A6 : Option Addr) (c6 : Nat) (v : Value) (all : List S32) (w : World), NF w (fun k => k < base) y A2 c2 A5 c5 A6 c6 → RefAt w base gb v all → (∀ r ∈ all, Fin32 r) → all.length + (pre y).length ≤ 1000000 → RefPut y A2 c2 A5 c5 A6 c6 base gb v all w) :
    RefPut x A2 c2 A5 c5 A6 c6 base gb v all w := by
  have hu32 := Tryd.underlying32
  have hu28 := Tryd.underlying28
  have HX := Aside0.mk hx
  have HP := Aside0.mk hp
  have HFX := Aside0.mk hfx
  have HFA := Aside0.mk hfa
  have HN := Aside0.mk hn
  have IH := Aside0.mk ih
  have IV := Aside0.mk (RI.start hp)
  have HL2 : Aside0 (x.f2.length ≤ 1000000) := ⟨by have e : (pre x).length = (preL x.f2).length + 1 := (by rw [pre_eq]; simp); have := len_le_pre x.f2; omega⟩
  have hlb : (x.f2.length : Int) ≤ 1000000 := by have := HL2.out; omega
  unfold RefPut
  clear hx hp hfx hfa hn ih
  go_enter Tryd.func11, Tryd.ntmps11
  go_wp2_with (first | ((with_reducible refine gate_dst (N := 3) rfl ?_); (try (refine gate_guard (by rfl) ?_; dsimp only)); refine box_event ?hg (N := 3) ?hd (cs := #[.int .i64 x.f0, .string x.f1, .slice A2 x.f2.length c2, .bool x.f3, .bool x.f4, .slice A5 x.f5.length c5, .slice A6 x.f6.length c6]) (t := 32) ?hr ?_; (case hd => rfl); (case hg => rfl); (case hr => first | (go_simp; done) | (go_simp; rfl)); intro gx hg w1 hbox hb; have n0 := Aside0.mk (IV.out.below hb); have BX := Aside0.mk hbox; have GX := Aside0.mk (Nat.le_of_eq hg.symm); have OX := Aside0.mk (show some gx ≠ v.ownBlock from fun e => by have := (HP.out.own_base gx e.symm).2; have := GX.out; omega); clear IV; have IV := n0; clear n0 hb hg hbox))
  go_loopg [5] x.f2.length (fun k' v5 wr => ∃ (i : Nat) (all1 : List S32) (v1 : Value), v5 = .int .i64 i ∧ i ≤ x.f2.length ∧ Aside0 (k' + i = x.f2.length) ∧ Aside0 (refL (x.f2.take i) all = all1) ∧ Aside0 (wr.heap[gx]? = some (.cells #[.int .i64 x.f0, .string x.f1, .slice A2 x.f2.length c2, .bool x.f3, .bool x.f4, .slice A5 x.f5.length c5, .slice A6 x.f6.length c6] 32 (0, 0))) ∧ Aside0 (RI w wr base gb v v1 all1) ∧ Aside0 (some gx ≠ v1.ownBlock))
  case atStart => exact ⟨0, all, v, rfl, Nat.zero_le _, ⟨rfl⟩, ⟨rfl⟩, BX, IV, OX⟩
  case round =>
    clear IV BX OX
    obtain ⟨i, all1, v1, rfl, hi, HK, PL, BX, IV, OX⟩ := hrel
    have hx2 : wr.cell? ⟨gx, 2, none⟩ = some (.slice A2 x.f2.length c2) := (blk_cell BX.out 2).trans rfl
    have LA := Aside0.mk (refL_len (x.f2.take i) all)
    rw [PL.out] at LA
    have MA : Aside0 (∀ r ∈ all1, Fin32 r) := ⟨fun r hr => by
      rw [← PL.out] at hr
      rcases refL_mem _ all r hr with h | h
      · exact HFA.out r h
      · have h2 : r ∈ preL x.f2 := by
          have h1 : preL x.f2 = preL (x.f2.take i) ++ preL (x.f2.drop i) := by rw [← preL_append, List.take_append_drop]
          rw [h1]; exact List.mem_append_left _ h
        obtain ⟨y, hy, hr2⟩ : ∃ y ∈ x.f2, r ∈ pre y := mem_of_preL x.f2 r h2
        exact fun q hq => HFX.out q (mem_parts hy (mem_pre_trans hr2 hq))⟩
    by_cases hlt : i < x.f2.length
    · obtain ⟨y, hy⟩ : ∃ y, y = x.f2[i] := ⟨_, rfl⟩
      have YM : Aside0 (y ∈ x.f2) := ⟨by rw [hy]; exact List.getElem_mem hlt⟩
      obtain ⟨ad, Y2, e2, Y5, e5, Y6, e6, eA, ny, hy0, hy1, hy2, hy3, hy4, hy5, hy6⟩ := elemF (HX.out.old (IV.out.base_below HP.out)).g2 i y (by rw [hy, List.getElem?_eq_getElem hlt])
      subst eA
      have NY := Aside0.mk ny
      obtain ⟨⟨n2, all2⟩, hpv⟩ : ∃ r, refV y all1 = r := ⟨_, rfl⟩
      have PV := Aside0.mk hpv
      have TK := Aside0.mk (refL_take x.f2 i hlt all)
      rw [PL.out, ← hy, hpv] at TK
      have FA := MA
      have NB : Aside0 (all1.length + (pre y).length ≤ 1000000) := ⟨by
        have h1 := LA.out
        have h2 : (preL (x.f2.take (i + 1))).length = (preL (x.f2.take i)).length + (pre y).length := by rw [preL_take x.f2 i hlt, List.length_append, hy]
        have h3 : (preL (x.f2.take (i + 1))).length ≤ (preL x.f2).length := by
          have h1 : preL x.f2 = preL (x.f2.take (i + 1)) ++ preL (x.f2.drop (i + 1)) := by rw [← preL_append, List.take_append_drop]
          rw [h1, List.length_append]; omega
        have h4 : (pre x).length = (preL x.f2).length + 1 := by rw [pre_eq]; simp
        have := HN.out
        omega⟩
      clear ny hpv hy
      go_wp2_with (first | ((with_reducible refine gate_dst (N := 20) rfl ?_); refine goesL_ (some 20) rfl rfl Tryd.func11 (by kernel_rfl) rfl #[.pointer (some ⟨gb, 0, none⟩), .agg #[.int .i64 y.f0, .string y.f1, .slice Y2 y.f2.length e2, .bool y.f3, .bool y.f4, .slice Y5 y.f5.length e5, .slice Y6 y.f6.length e6]] rfl (by (try simp only [List.map_toArray, List.map_cons, List.map_nil]); first | done | rfl) ?_; (refine (refC_of (IH.out y YM.out _ _ _ _ _ _ v1 all1 _ NY.out IV.out.hp FA.out NB.out) PV.out).mono ?_); (rintro e w9 ⟨v2, rfl, hp2, ht2, ho2⟩; refine ⟨_, rfl, ?_⟩; have n2 := Aside0.mk (ref_blk BX.out IV.out.hp ht2 (by decide) OX.out); have n3 := Aside0.mk (show some gx ≠ v2.ownBlock from ho2.elim (fun e => by rw [e]; exact OX.out) (fun ⟨b, e, hb⟩ => by rw [e]; intro he; injection he with he; have := blk_lt BX.out; omega)); have n0 := Aside0.mk (IV.out.call hp2 ht2 ho2); clear IV BX NY OX hp2 ht2 ho2; have IV := n0; have BX := n2; have OX := n3; clear n0 n2 n3)))
      go_roundg (x.f2.length - (i + 1))
      case measure => have := HK.out; omega
      case rel => exact ⟨i + 1, all2, v2, by simp, by omega, ⟨by have := HK.out; omega⟩, ⟨TK.out⟩, BX, IV, OX⟩
    · obtain rfl : i = x.f2.length := by omega
      rw [List.take_length] at PL
      have LA2 : Aside0 (all1.length < 1000000) := ⟨by have h1 := LA.out; rw [List.take_length] at h1; have h4 : (pre x).length = (preL x.f2).length + 1 := (by rw [pre_eq]; simp); have := HN.out; omega⟩
      have hla : (all1.length : Int) ≤ 1000000 := by have := LA2.out; omega
      go_wp2_with fail
      clear hx2
      go_loopg [6] all1.length (fun k' v6 wr => ∃ i : Nat, v6 = .int .i64 i ∧ i ≤ all1.length ∧ Aside0 (k' + i = all1.length) ∧ Aside0 (refIdx x all1 0 = refIdx x (all1.drop i) i) ∧ Aside0 (wr.heap[gx]? = some (.cells #[.int .i64 x.f0, .string x.f1, .slice A2 x.f2.length c2, .bool x.f3, .bool x.f4, .slice A5 x.f5.length c5, .slice A6 x.f6.length c6] 32 (0, 0))) ∧ Aside0 (RI w wr base gb v v1 all1))
      case atStart => exact ⟨0, rfl, Nat.zero_le _, ⟨rfl⟩, ⟨by rw [List.drop_zero]⟩, BX, IV⟩
      case round =>
        clear IV BX
        obtain ⟨i, rfl, hi, HK, DR, BX, IV⟩ := hrel
        obtain ⟨A1, c1, ev1⟩ := IV.out.hp.slice
        have hra := IV.out.hp.ra
        rw [ev1] at hra
        have q1 : wr.cell? ⟨gb, 0, none⟩ = some (.slice A1 all1.length c1) := (blk_cell hra 0).trans rfl
        by_cases hlt : i < all1.length
        · obtain ⟨y, hy⟩ : ∃ y, y = all1[i] := ⟨_, rfl⟩
          have YM : Aside0 (y ∈ all1) := ⟨by rw [hy]; exact List.getElem_mem hlt⟩
          have DS := Aside0.mk (refIdx_drop x all1 i i y (by rw [hy, List.getElem?_eq_getElem hlt]))
          obtain ⟨g, cap, Y2, e2, Y5, e5, Y6, e6, ev2, ny, hy0, hy1, hy2, hy3, hy4, hy5, hy6⟩ := IV.out.hp.elem i y (by rw [hy, List.getElem?_eq_getElem hlt])
          rw [ev2] at ev1
          injection ev1 with ea_ _ ec_
          subst ea_ ec_
          have EV := Aside0.mk ev2
          have DQ := Aside0.mk (show all1[i]? = some y from by rw [hy, List.getElem?_eq_getElem hlt])
          clear ny hra hy ev2 hy0 hy1 hy2 hy3 hy4 hy5 hy6
          go_upto_region 8 with (fail)
          have n0 := Aside0.mk (IV.out.below (below_drew1 (Below.refl _ _)))
          have n1 := Aside0.mk (blk_below BX.out (below_drew1 (Below.refl _ _)))
          clear IV BX q1
          have IV := n0
          have BX := n1
          clear n0 n1
          rw [EV.out] at IV
          obtain ⟨_, _, Z2, s2, Z5, s5, Z6, s6, ev3, ny, hy0, hy1, hy2, hy3, hy4, hy5, hy6⟩ := IV.out.hp.elem i y (by rw [DQ.out])
          injection ev3 with ea_ _ ec_
          injection ea_ with ea_
          injection ea_ with ea_
          subst ea_ ec_
          have NY := Aside0.mk ny
          obtain ⟨b, hbq⟩ : ∃ b, likeB false y x = b := ⟨_, rfl⟩
          have LB := Aside0.mk hbq
          rw [hbq] at DS
          have CY := Aside0.mk (And.intro hy0 (And.intro hy1 (And.intro hy2 (And.intro hy3 (And.intro hy4 (And.intro hy5 hy6))))))
          clear ny hbq hy0 hy1 hy2 hy3 hy4 hy5 hy6
          refine start_ (n := 9) (S := fun w' => w'.cell? ⟨gb, 0, none⟩ = some (.slice (some ⟨g, 0, none⟩) all1.length cap) ∧ w'.cell? ⟨g, i * 7, none⟩ = some (.int .i64 y.f0) ∧ w'.cell? ⟨g, i * 7 + 1, none⟩ = some (.string y.f1) ∧ w'.cell? ⟨g, i * 7 + 2, none⟩ = some (.slice Z2 y.f2.length s2) ∧ w'.cell? ⟨g, i * 7 + 3, none⟩ = some (.bool y.f3) ∧ w'.cell? ⟨g, i * 7 + 4, none⟩ = some (.bool y.f4) ∧ w'.cell? ⟨g, i * 7 + 5, none⟩ = some (.slice Z5 y.f5.length s5) ∧ w'.cell? ⟨g, i * 7 + 6, none⟩ = some (.slice Z6 y.f6.length s6) ∧ w'.cell? ⟨gx, 0, none⟩ = some (.int .i64 x.f0) ∧ w'.cell? ⟨gx, 1, none⟩ = some (.string x.f1) ∧ w'.cell? ⟨gx, 2, none⟩ = some (.slice A2 x.f2.length c2) ∧ w'.cell? ⟨gx, 3, none⟩ = some (.bool x.f3) ∧ w'.cell? ⟨gx, 4, none⟩ = some (.bool x.f4) ∧ w'.cell? ⟨gx, 5, none⟩ = some (.slice A5 x.f5.length c5) ∧ w'.cell? ⟨gx, 6, none⟩ = some (.slice A6 x.f6.length c6) ∧ True) (ds := []) #[false, false, false, false, false, false, false, false, false] (by kernel_rfl) rfl rfl (⟨(blk_cell IV.out.hp.ra 0).trans rfl, CY.out.1, CY.out.2.1, CY.out.2.2.1, CY.out.2.2.2.1, CY.out.2.2.2.2.1, CY.out.2.2.2.2.2.1, CY.out.2.2.2.2.2.2, (blk_cell BX.out 0).trans rfl, (blk_cell BX.out 1).trans rfl, (blk_cell BX.out 2).trans rfl, (blk_cell BX.out 3).trans rfl, (blk_cell BX.out 4).trans rfl, (blk_cell BX.out 5).trans rfl, (blk_cell BX.out 6).trans rfl, trivial⟩) (fun hHeld => ?_)
          clear CY
          generalize World.drew _ = w500 at IV BX NY hHeld ⊢
          refine pure_ (i := 0) (N := some 30) (v := ?_) (a' := ?_) #[true, false, false, false, false, false, false, false, false] rfl rfl (any_of (md := .any) (ops := opsOf Tryd.f11 8) F11tab8 (by kernel_rfl)) (fun _ _ _ h => h) (Or.inl ⟨by rfl, ?_⟩) ?_ ?_
          rotate_left
          · intro w'
            go_simp
            with_reducible rfl
          rotate_left
          · simp only [Act.put, List.setIfInBounds_toArray, List.set_cons_zero, List.set_cons_succ, i64_w, i32_w]
            rfl
          refine pure_ (i := 1) (N := some 31) (v := ?_) (a' := ?_) #[true, true, false, false, false, false, false, false, false] rfl rfl (any_of (md := .any) (ops := opsOf Tryd.f11 8) F11tab8 (by kernel_rfl)) (fun _ _ _ h => h) (Or.inl ⟨by rfl, ?_⟩) ?_ ?_
          rotate_left
          · intro w'
            go_simp
            with_reducible rfl
          rotate_left
          · simp only [Act.put, List.setIfInBounds_toArray, List.set_cons_zero, List.set_cons_succ, i64_w, i32_w]
            rfl
          refine pure_ (i := 2) (N := some 32) (v := ?_) (a' := ?_) #[true, true, true, false, false, false, false, false, false] rfl rfl (any_of (md := .any) (ops := opsOf Tryd.f11 8) F11tab8 (by kernel_rfl)) (fun _ _ _ h => h) (Or.inl ⟨by rfl, ?_⟩) ?_ ?_
          rotate_left
          · intro w'
            go_simp
            with_reducible rfl
          rotate_left
          · simp only [Act.put, List.setIfInBounds_toArray, List.set_cons_zero, List.set_cons_succ, i64_w, i32_w]
            rfl
          refine take_ (i := 3) (N := some 33) (v := ?_) (a' := ?_) #[true, true, true, true, false, false, false, false, false] rfl rfl (take_of (md := .any) (ops := opsOf Tryd.f11 8) F11tab8 (by kernel_rfl)) (fun _ _ _ h => h) (Or.inl ⟨by rfl, ?_⟩) hHeld ?_ ?_
          rotate_left
          · rintro w' ⟨s0, s1, s2, s3, s4, s5, s6, s7, s8, s9, s10, s11, s12, s13, s14, s15⟩
            go_simp
            with_reducible rfl
          rotate_left
          · simp only [Act.put, List.setIfInBounds_toArray, List.set_cons_zero, List.set_cons_succ, i64_w, i32_w]
            rfl
          refine pure_ (i := 4) (N := some 34) (v := ?_) (a' := ?_) #[true, true, true, true, true, false, false, false, false] rfl rfl (any_of (md := .any) (ops := opsOf Tryd.f11 8) F11tab8 (by kernel_rfl)) (fun _ _ _ h => h) (Or.inl ⟨by rfl, ?_⟩) ?_ ?_
          rotate_left
          · intro w'
            go_simp
            with_reducible rfl
          rotate_left
          · simp only [Act.put, List.setIfInBounds_toArray, List.set_cons_zero, List.set_cons_succ, i64_w, i32_w]
            rfl
          refine pure_ (i := 5) (N := some 35) (v := ?_) (a' := ?_) #[true, true, true, true, true, true, false, false, false] rfl rfl (any_of (md := .any) (ops := opsOf Tryd.f11 8) F11tab8 (by kernel_rfl)) (fun _ _ _ h => h) (Or.inl ⟨by rfl, ?_⟩) ?_ ?_
          rotate_left
          · intro w'
            go_simp
            with_reducible rfl
          rotate_left
          · simp only [Act.put, List.setIfInBounds_toArray, List.set_cons_zero, List.set_cons_succ, i64_w, i32_w]
            rfl
          refine take_ (i := 6) (N := some 36) (v := ?_) (a' := ?_) #[true, true, true, true, true, true, true, false, false] rfl rfl (take_of (md := .any) (ops := opsOf Tryd.f11 8) F11tab8 (by kernel_rfl)) (fun _ _ _ h => h) (Or.inl ⟨by rfl, ?_⟩) hHeld ?_ ?_
          rotate_left
          · rintro w' ⟨s0, s1, s2, s3, s4, s5, s6, s7, s8, s9, s10, s11, s12, s13, s14, s15⟩
            go_simp
            with_reducible rfl
          rotate_left
          · simp only [Act.put, List.setIfInBounds_toArray, List.set_cons_zero, List.set_cons_succ, i64_w, i32_w]
            rfl
          refine take_ (i := 7) (N := some 37) (v := ?_) (a' := ?_) #[true, true, true, true, true, true, true, true, false] rfl rfl (take_of (md := .any) (ops := opsOf Tryd.f11 8) F11tab8 (by kernel_rfl)) (fun _ _ _ h => h) (Or.inl ⟨by rfl, ?_⟩) hHeld ?_ ?_
          rotate_left
          · rintro w' ⟨s0, s1, s2, s3, s4, s5, s6, s7, s8, s9, s10, s11, s12, s13, s14, s15⟩
            go_simp
            with_reducible rfl
          rotate_left
          · simp only [Act.put, List.setIfInBounds_toArray, List.set_cons_zero, List.set_cons_succ, i64_w, i32_w]
            rfl
          refine one_ (i := 8) (N := some 38) #[true, true, true, true, true, true, true, true, true] rfl rfl (one_of (md := .any) (ops := opsOf Tryd.f11 8) F11tab8 (by kernel_rfl)) (by decide) (fun K hK => ?_)
          refine goes_ Tryd.func14 (by kernel_rfl) rfl #[.agg #[.int .i64 y.f0, .string y.f1, .slice Z2 y.f2.length s2, .bool y.f3, .bool y.f4, .slice Z5 y.f5.length s5, .slice Z6 y.f6.length s6], .agg #[.int .i64 x.f0, .string x.f1, .slice A2 x.f2.length c2, .bool x.f3, .bool x.f4, .slice A5 x.f5.length c5, .slice A6 x.f6.length c6]] (by rfl) rfl rfl (by (try simp only [List.map_toArray, List.map_cons, List.map_nil]); first | done | rfl) ?_
          refine (like9_of b NY.out.nd (HX.out.old (IV.out.base_below HP.out)).nd (MA.out y YM.out) LB.out).mono ?_
          rintro e w501 ⟨rfl, hb⟩
          refine ⟨_, rfl, ?_⟩
          have n0 := Aside0.mk (IV.out.below hb); have n1 := Aside0.mk (blk_below BX.out hb); clear IV BX; have IV := n0; have BX := n1; clear n0 n1
          refine hK.out _ _ (⟨bc hb (hHeld).1, bc hb (hHeld.2).1, bc hb (hHeld.2.2).1, bc hb (hHeld.2.2.2).1, bc hb (hHeld.2.2.2.2).1, bc hb (hHeld.2.2.2.2.2).1, bc hb (hHeld.2.2.2.2.2.2).1, bc hb (hHeld.2.2.2.2.2.2.2).1, bc hb (hHeld.2.2.2.2.2.2.2.2).1, bc hb (hHeld.2.2.2.2.2.2.2.2.2).1, bc hb (hHeld.2.2.2.2.2.2.2.2.2.2).1, bc hb (hHeld.2.2.2.2.2.2.2.2.2.2.2).1, bc hb (hHeld.2.2.2.2.2.2.2.2.2.2.2.2).1, bc hb (hHeld.2.2.2.2.2.2.2.2.2.2.2.2.2).1, bc hb (hHeld.2.2.2.2.2.2.2.2.2.2.2.2.2.2).1, trivial⟩) (fun hHeld => ?_)
          clear hK K
          refine norm_ (a' := ?_) ?_ ?_
          rotate_left
          · show Act.put _ (some 38) _ = _
            simp only [Act.put, List.setIfInBounds_toArray, List.set_cons_zero, List.set_cons_succ, i64_w, i32_w]
            rfl
          refine done_ (done_of (md := .any) (ops := opsOf Tryd.f11 8) F11tab8 (by kernel_rfl)) ?_
          clear hHeld NY
          cases b
          · go_wp2_with fail
            go_roundg (all1.length - (i + 1))
            case measure => have := HK.out; omega
            case rel => exact ⟨i + 1, by simp, by omega, ⟨by have := HK.out; omega⟩, ⟨by rw [DR.out, DS.out]; rfl⟩, BX, by rw [EV.out]; exact IV⟩
          · have PE := Aside0.mk (show refV x all = (i + 1, all1) from by rw [refV_eq, PL.out, refEnd, DR.out, DS.out]; rfl)
            go_wp2_with fail
            go_ret
            refine ⟨?_, v1, ?_, ?_, ?_⟩
            · rw [PE.out]; rfl
            · rw [PE.out, EV.out]; exact IV.out.hp
            · exact IV.out.ht
            · rw [EV.out]; exact IV.out.ho
        · obtain rfl : i = all1.length := by omega
          rw [List.drop_length] at DR
          have PE := Aside0.mk (show refV x all = (all1.length + 1, all1 ++ [x]) from by rw [refV_eq, PL.out, refEnd, DR.out]; rfl)
          go_upto_region 10 with (fail)
          have n0 := Aside0.mk (IV.out.below (below_drew1 (Below.refl _ _)))
          have n1 := Aside0.mk (blk_below BX.out (below_drew1 (Below.refl _ _)))
          clear IV BX q1 hra
          have IV := n0
          have BX := n1
          clear n0 n1
          subst ev1
          refine start_ (n := 13) (S := fun w' => w'.cell? ⟨gb, 0, none⟩ = some (.slice A1 all1.length c1) ∧ w'.cell? ⟨gx, 0, none⟩ = some (.int .i64 x.f0) ∧ w'.cell? ⟨gx, 1, none⟩ = some (.string x.f1) ∧ w'.cell? ⟨gx, 2, none⟩ = some (.slice A2 x.f2.length c2) ∧ w'.cell? ⟨gx, 3, none⟩ = some (.bool x.f3) ∧ w'.cell? ⟨gx, 4, none⟩ = some (.bool x.f4) ∧ w'.cell? ⟨gx, 5, none⟩ = some (.slice A5 x.f5.length c5) ∧ w'.cell? ⟨gx, 6, none⟩ = some (.slice A6 x.f6.length c6) ∧ True) (ds := [9, 12]) #[false, false, false, false, false, false, false, false, false, false, false, false, false] (by kernel_rfl) rfl rfl (⟨(blk_cell IV.out.hp.ra 0).trans rfl, (blk_cell BX.out 0).trans rfl, (blk_cell BX.out 1).trans rfl, (blk_cell BX.out 2).trans rfl, (blk_cell BX.out 3).trans rfl, (blk_cell BX.out 4).trans rfl, (blk_cell BX.out 5).trans rfl, (blk_cell BX.out 6).trans rfl, trivial⟩) (fun hHeld => ?_)
          generalize World.drew _ = w600 at IV BX hHeld ⊢
          refine pure_ (i := 0) (N := some 41) (v := ?_) (a' := ?_) #[true, false, false, false, false, false, false, false, false, false, false, false, false] rfl rfl (any_of (md := .any) (ops := opsOf Tryd.f11 10) F11tab10 (by kernel_rfl)) (fun _ _ _ h => h) (Or.inl ⟨by rfl, ?_⟩) ?_ ?_
          rotate_left
          · intro w'
            go_simp
            with_reducible rfl
          rotate_left
          · simp only [Act.put, List.setIfInBounds_toArray, List.set_cons_zero, List.set_cons_succ, i64_w, i32_w]
            rfl
          refine pure_ (i := 1) (N := some 42) (v := ?_) (a' := ?_) #[true, true, false, false, false, false, false, false, false, false, false, false, false] rfl rfl (any_of (md := .any) (ops := opsOf Tryd.f11 10) F11tab10 (by kernel_rfl)) (fun _ _ _ h => h) (Or.inl ⟨by rfl, ?_⟩) ?_ ?_
          rotate_left
          · intro w'
            go_simp
            with_reducible rfl
          rotate_left
          · simp only [Act.put, List.setIfInBounds_toArray, List.set_cons_zero, List.set_cons_succ, i64_w, i32_w]
            rfl
          refine pure_ (i := 2) (N := some 43) (v := ?_) (a' := ?_) #[true, true, true, false, false, false, false, false, false, false, false, false, false] rfl rfl (any_of (md := .any) (ops := opsOf Tryd.f11 10) F11tab10 (by kernel_rfl)) (fun _ _ _ h => h) (Or.inl ⟨by rfl, ?_⟩) ?_ ?_
          rotate_left
          · intro w'
            go_simp
            with_reducible rfl
          rotate_left
          · simp only [Act.put, List.setIfInBounds_toArray, List.set_cons_zero, List.set_cons_succ, i64_w, i32_w]
            rfl
          refine take_ (i := 3) (N := some 44) (v := ?_) (a' := ?_) #[true, true, true, true, false, false, false, false, false, false, false, false, false] rfl rfl (take_of (md := .any) (ops := opsOf Tryd.f11 10) F11tab10 (by kernel_rfl)) (fun _ _ _ h => h) (Or.inl ⟨by rfl, ?_⟩) hHeld ?_ ?_
          rotate_left
          · rintro w' ⟨s0, s1, s2, s3, s4, s5, s6, s7, s8⟩
            go_simp
            with_reducible rfl
          rotate_left
          · simp only [Act.put, List.setIfInBounds_toArray, List.set_cons_zero, List.set_cons_succ, i64_w, i32_w]
            rfl
          refine take_ (i := 4) (N := some 45) (v := ?_) (a' := ?_) #[true, true, true, true, true, false, false, false, false, false, false, false, false] rfl rfl (take_of (md := .any) (ops := opsOf Tryd.f11 10) F11tab10 (by kernel_rfl)) (fun _ _ _ h => h) (Or.inl ⟨by rfl, ?_⟩) hHeld ?_ ?_
          rotate_left
          · rintro w' ⟨s0, s1, s2, s3, s4, s5, s6, s7, s8⟩
            go_simp
            with_reducible rfl
          rotate_left
          · simp only [Act.put, List.setIfInBounds_toArray, List.set_cons_zero, List.set_cons_succ, i64_w, i32_w]
            rfl
          refine pure_ (i := 5) (N := some 46) (v := ?_) (a' := ?_) #[true, true, true, true, true, true, false, false, false, false, false, false, false] rfl rfl (any_of (md := .any) (ops := opsOf Tryd.f11 10) F11tab10 (by kernel_rfl)) (fun _ _ _ h => h) (Or.inl ⟨by rfl, ?_⟩) ?_ ?_
          rotate_left
          · intro w'
            go_simp
            with_reducible rfl
          rotate_left
          · simp only [Act.put, List.setIfInBounds_toArray, List.set_cons_zero, List.set_cons_succ, i64_w, i32_w]
            rfl
          refine one_ (i := 6) (N := some 47) #[true, true, true, true, true, true, true, false, false, false, false, false, false] rfl rfl (one_of (md := .any) (ops := opsOf Tryd.f11 10) F11tab10 (by kernel_rfl)) (by decide) (fun K hK => ?_)
          refine lit_step (m := 1) (cs := #[.int .i64 0, .string (⟨#[]⟩ : ByteArray), .slice none 0 0, .bool false, .bool false, .slice none 0 0, .slice none 0 0]) (t := 32) (by rfl) ?hrun ?_
          case hrun => first | (go_simp; done) | (go_simp; rfl)
          intro gl hg w601 hbox hb
          have BL := Aside0.mk hbox; have n0 := Aside0.mk (IV.out.below hb); have n1 := Aside0.mk (blk_below BX.out hb); clear IV BX hb; have IV := n0; have BX := n1; clear n0 n1
          clear hbox hg
          refine hK.out _ _ (⟨(blk_cell IV.out.hp.ra 0).trans rfl, (blk_cell BX.out 0).trans rfl, (blk_cell BX.out 1).trans rfl, (blk_cell BX.out 2).trans rfl, (blk_cell BX.out 3).trans rfl, (blk_cell BX.out 4).trans rfl, (blk_cell BX.out 5).trans rfl, (blk_cell BX.out 6).trans rfl, trivial⟩) (fun hHeld => ?_)
          clear hK K
          refine norm_ (a' := ?_) ?_ ?_
          rotate_left
          · show Act.put _ (some 47) _ = _
            simp only [Act.put, List.setIfInBounds_toArray, List.set_cons_zero, List.set_cons_succ, i64_w, i32_w]
            rfl
          refine one_ (i := 7) (N := some 48) #[true, true, true, true, true, true, true, true, false, false, false, false, false] rfl rfl (one_of (md := .any) (ops := opsOf Tryd.f11 10) F11tab10 (by kernel_rfl)) (by decide) (fun K hK => ?_)
          obtain ⟨rows, hrl, hRw, hFw⟩ := IV.out.hp.rr
          have W6 := Aside0.mk IV.out.ht
          have O6 := Aside0.mk IV.out.ho
          have RA := Aside0.mk IV.out.hp.ra
          refine Kd.R_append_rows_step (Kd.raw 7) (w0 := w) base (by rfl) (.tmp 44) (.tmp 47) 22 32 (.agg #[.int .i64 0, .string ⟨#[]⟩, .slice none 0 0, .bool false, .bool false, .slice none 0 0, .slice none 0 0]) 104 rfl Tryd.underlying22 info32 rfl (by decide) (by omega) (.slice A1 all1.length c1) rows [[.int .i64 0, .string (⟨#[]⟩ : ByteArray), .slice none 0 0, .bool false, .bool false, .slice none 0 0, .slice none 0 0]] (some ⟨gl, 0, none⟩) 1 1 (fun k => base ≤ k) (fun _ => False) rfl rfl hRw (C_raw BL.out rfl (by simp [Value.oneCell'])) (fun _ _ h => h) (fun _ h => h.elim) (fun k hk => Nat.le_trans IV.out.hp.base_le hk) (IV.out.base_below HP.out) IV.out.hp.base_le (by have := LA2.out; omega) ?_
          intro v8 w8 hR8 hB8 hg8 hat8
          obtain ⟨g8, c8, ev8, _, _, _⟩ := Kd.R_form hR8 (by simp)
          have el8 : (rows ++ [([.int .i64 0, .string (⟨#[]⟩ : ByteArray), .slice none 0 0, .bool false, .bool false, .slice none 0 0, .slice none 0 0] : List Value)]).length = all1.length + 1 := by simp [hrl]
          rw [el8] at ev8
          have F8 := Aside0.mk (fun (j : Nat) (y : S32) (c : List Value) (hy : all1[j]? = some y) (hc : rows[j]? = some c) => Kd.FK_step (hFw j y c hy hc) (fun k hk hlt => hg8.block k hlt (fun e => by have := (IV.out.hp.own_base k e.symm).1; omega)))
          have RA8 := Aside0.mk (blk_grown RA.out hg8 (Kd.R_ne hRw RA.out (by decide)))
          have BX8 := Aside0.mk (blk_grown BX.out hg8 OX.out)
          have T8 := Aside0.mk (W6.out.trans (S' := fun k => some k = (Value.slice A1 all1.length c1).ownBlock) ⟨hg8.os, hg8.tape, hg8.output, hg8.size, fun k hk hn => hg8.block k hk hn⟩ (fun i_ hi_ hs_ => O6.out.elim (fun e => Or.inr (by rw [← e]; exact hs_)) (fun ⟨b, e, hb⟩ => by rw [e] at hs_; injection hs_ with hs_; omega)))
          have O8 := Aside0.mk (show v8.ownBlock = v.ownBlock ∨ ∃ b, v8.ownBlock = some b ∧ w.heap.size ≤ b from hat8.elim (fun e => by rw [e]; exact O6.out) (fun ⟨b, e, hb⟩ => Or.inr ⟨b, e, Nat.le_trans W6.out.size hb⟩))
          have HX8 := Aside0.mk (HX.out.old hB8)
          have BB8 := Aside0.mk (Nat.le_trans IV.out.hp.base_le hg8.size)
          have R8 := Aside0.mk hR8
          have HRL := Aside0.mk hrl
          have BBG := Aside0.mk IV.out.hp.bb
          have EV8 := Aside0.mk ev8
          obtain ⟨d0, d1, d2, d3, d4, d5, d6, q0, q1, q2, q3, q4, q5, q6, qf⟩ := far_frozen (ev8 ▸ hR8) all1.length (by omega)
          have QF := Aside0.mk qf
          clear hRw hFw hR8 hB8 hg8 hat8 el8 IV BX BL W6 O6 RA qf hrl
          subst ev8
          refine hK.out _ _ (⟨(blk_cell RA8.out 0).trans rfl, (blk_cell BX8.out 0).trans rfl, (blk_cell BX8.out 1).trans rfl, (blk_cell BX8.out 2).trans rfl, (blk_cell BX8.out 3).trans rfl, (blk_cell BX8.out 4).trans rfl, (blk_cell BX8.out 5).trans rfl, (blk_cell BX8.out 6).trans rfl, trivial⟩) (fun hHeld => ?_)
          clear hK K
          refine norm_ (a' := ?_) ?_ ?_
          rotate_left
          · show Act.put _ (some 48) _ = _
            simp only [Act.put, List.setIfInBounds_toArray, List.set_cons_zero, List.set_cons_succ, i64_w, i32_w]
            rfl
          refine pure_ (i := 8) (N := some 49) (v := ?_) (a' := ?_) #[true, true, true, true, true, true, true, true, true, false, false, false, false] rfl rfl (any_of (md := .any) (ops := opsOf Tryd.f11 10) F11tab10 (by kernel_rfl)) (fun _ _ _ h => h) (Or.inl ⟨by rfl, ?_⟩) ?_ ?_
          rotate_left
          · intro w'
            go_simp
            rw [if_pos (by omega)]
          rotate_left
          · simp only [Act.put, List.setIfInBounds_toArray, List.set_cons_zero, List.set_cons_succ, i64_w, i32_w]
            rfl
          refine pure_ (i := 10) (N := some 50) (v := ?_) (a' := ?_) #[true, true, true, true, true, true, true, true, true, false, true, false, false] rfl rfl (any_of (md := .any) (ops := opsOf Tryd.f11 10) F11tab10 (by kernel_rfl)) (fun _ _ _ h => h) (Or.inl ⟨by rfl, ?_⟩) ?_ ?_
          rotate_left
          · intro w'
            go_simp
            with_reducible rfl
          rotate_left
          · simp only [Act.put, List.setIfInBounds_toArray, List.set_cons_zero, List.set_cons_succ, i64_w, i32_w]
            rfl
          refine pure_ (i := 11) (N := some 51) (v := ?_) (a' := ?_) #[true, true, true, true, true, true, true, true, true, false, true, true, false] rfl rfl (any_of (md := .any) (ops := opsOf Tryd.f11 10) F11tab10 (by kernel_rfl)) (fun _ _ _ h => h) (Or.inl ⟨by rfl, ?_⟩) ?_ ?_
          rotate_left
          · intro w'
            go_simp
            with_reducible rfl
          rotate_left
          · simp only [Act.put, List.setIfInBounds_toArray, List.set_cons_zero, List.set_cons_succ, i64_w, i32_w]
            rfl
          have z0 : w8.cell? ⟨gb, 0, none⟩ = some (.slice A1 all1.length c1) := (blk_cell RA8.out 0).trans rfl
          have zf0 := blk_frozen RA8.out 0
          have qf0 := QF.out 0
          have qf1 := QF.out 1
          have qf2 := QF.out 2
          have qf3 := QF.out 3
          have qf4 := QF.out 4
          have qf5 := QF.out 5
          have qf6 := QF.out 6
          rw [Nat.add_zero] at qf0
          have NEQ : gb ≠ g8 := by
            intro e
            obtain ⟨cl, hc⟩ := Kd.R_typed R8.out g8 rfl
            rw [← e] at hc
            exact blk_ne RA8.out hc (by decide) rfl
          have NE8 := Aside0.mk NEQ
          clear NEQ
          refine two_last_ (i := 9) (j := 12) (Ni := none) (Nj := none) #[true, true, true, true, true, true, true, true, true, true, true, true, false] #[true, true, true, true, true, true, true, true, true, false, true, true, true] rfl rfl rfl rfl (two_of (md := .any) (ops := opsOf Tryd.f11 10) F11tab10 (by kernel_rfl)) (by decide) (by decide) (fun K hK => ?_) (fun K hK => ?_)
          · refine skip_ (w1 := set7at w8 g8 (all1.length * 7) (.int .i64 x.f0) (.string x.f1) (.slice A2 x.f2.length c2) (.bool x.f3) (.bool x.f4) (.slice A5 x.f5.length c5) (.slice A6 x.f6.length c6)) rfl rfl ?hrun ?_
            case hrun => first | (go_simp; done) | (go_simp; rfl)
            refine hK.out _ _ ?_
            clear hK K
            have z9 : (set7at w8 g8 (all1.length * 7) (.int .i64 x.f0) (.string x.f1) (.slice A2 x.f2.length c2) (.bool x.f3) (.bool x.f4) (.slice A5 x.f5.length c5) (.slice A6 x.f6.length c6)).cell? ⟨gb, 0, none⟩ = some (.slice A1 all1.length c1) := (World.cell?_of_block (a := ⟨gb, 0, none⟩) (set7at_other NE8.out)).trans z0
            have zf9 : (set7at w8 g8 (all1.length * 7) (.int .i64 x.f0) (.string x.f1) (.slice A2 x.f2.length c2) (.bool x.f3) (.bool x.f4) (.slice A5 x.f5.length c5) (.slice A6 x.f6.length c6)).frozen? ⟨gb, 0, none⟩ = false := (World.frozen?_of_block (a := ⟨gb, 0, none⟩) (set7at_other NE8.out)).trans zf0
            have FA := Aside0.mk (ordA (w8 := w8) rfl RA8.out R8.out all1.length (by omega) (.int .i64 x.f0) (.string x.f1) (.slice A2 x.f2.length c2) (.bool x.f3) (.bool x.f4) (.slice A5 x.f5.length c5) (.slice A6 x.f6.length c6) (by simp [Value.oneCell']))
            clear RA8 R8
            generalize set7at w8 g8 (all1.length * 7) (.int .i64 x.f0) (.string x.f1) (.slice A2 x.f2.length c2) (.bool x.f3) (.bool x.f4) (.slice A5 x.f5.length c5) (.slice A6 x.f6.length c6) = wa at z9 zf9 FA ⊢
            refine last_ (i := 12) (N := none) #[true, true, true, true, true, true, true, true, true, true, true, true, true] rfl rfl (one_of (md := .any) (ops := opsOf Tryd.f11 10) F11tab10 (by kernel_rfl)) (by decide) (fun K hK => ?_)
            refine skip_ (w1 := wa.setCell ⟨gb, 0, none⟩ (.slice (some ⟨g8, 0, none⟩) (all1.length + 1) c8)) rfl rfl ?hrun ?_
            case hrun => first | (go_simp; done) | (go_simp; rfl)
            refine hK.out _ _ (done_ (done_of (md := .any) (ops := opsOf Tryd.f11 10) F11tab10 (by kernel_rfl)) ?_)
            clear z9 zf9
            have FN := Aside0.mk (push_fin [.int .i64 0, .string (⟨#[]⟩ : ByteArray), .slice none 0 0, .bool false, .bool false, .slice none 0 0, .slice none 0 0] HRL.out F8.out T8.out O8.out HX8.out BB8.out BBG.out FA.out)
            clear z0 zf0 q0 q1 q2 q3 q4 q5 q6 qf0 qf1 qf2 qf3 qf4 qf5 qf6 hHeld hK K
            generalize wa.setCell ⟨gb, 0, none⟩ (.slice (some ⟨g8, 0, none⟩) (all1.length + 1) c8) = w9 at FN ⊢
            have z9 : w9.cell? ⟨gb, 0, none⟩ = some (.slice (some ⟨g8, 0, none⟩) (all1.length + 1) c8) := (blk_cell FN.out.1.ra 0).trans rfl
            go_wp2_with fail
            go_ret
            refine ⟨?_, (.slice (some ⟨g8, 0, none⟩) (all1.length + 1) c8), ?_, FN.out.2, O8.out⟩
            · rw [PE.out]; rfl
            · rw [PE.out]; exact FN.out.1
          · refine skip_ (w1 := w8.setCell ⟨gb, 0, none⟩ (.slice (some ⟨g8, 0, none⟩) (all1.length + 1) c8)) rfl rfl ?hrun ?_
            case hrun => first | (go_simp; done) | (go_simp; rfl)
            refine hK.out _ _ ?_
            clear hK K
            have y0 : (w8.setCell ⟨gb, 0, none⟩ (.slice (some ⟨g8, 0, none⟩) (all1.length + 1) c8)).cell? ⟨g8, all1.length * 7, none⟩ = some d0 := (World.cell?_of_block (a := ⟨g8, all1.length * 7, none⟩) (Below.heap_setCell _ ⟨gb, 0, none⟩ (.slice (some ⟨g8, 0, none⟩) (all1.length + 1) c8) g8 NE8.out.symm)).trans q0
            have y1 : (w8.setCell ⟨gb, 0, none⟩ (.slice (some ⟨g8, 0, none⟩) (all1.length + 1) c8)).cell? ⟨g8, all1.length * 7 + 1, none⟩ = some d1 := (World.cell?_of_block (a := ⟨g8, all1.length * 7 + 1, none⟩) (Below.heap_setCell _ ⟨gb, 0, none⟩ (.slice (some ⟨g8, 0, none⟩) (all1.length + 1) c8) g8 NE8.out.symm)).trans q1
            have y2 : (w8.setCell ⟨gb, 0, none⟩ (.slice (some ⟨g8, 0, none⟩) (all1.length + 1) c8)).cell? ⟨g8, all1.length * 7 + 2, none⟩ = some d2 := (World.cell?_of_block (a := ⟨g8, all1.length * 7 + 2, none⟩) (Below.heap_setCell _ ⟨gb, 0, none⟩ (.slice (some ⟨g8, 0, none⟩) (all1.length + 1) c8) g8 NE8.out.symm)).trans q2
            have y3 : (w8.setCell ⟨gb, 0, none⟩ (.slice (some ⟨g8, 0, none⟩) (all1.length + 1) c8)).cell? ⟨g8, all1.length * 7 + 3, none⟩ = some d3 := (World.cell?_of_block (a := ⟨g8, all1.length * 7 + 3, none⟩) (Below.heap_setCell _ ⟨gb, 0, none⟩ (.slice (some ⟨g8, 0, none⟩) (all1.length + 1) c8) g8 NE8.out.symm)).trans q3
            have y4 : (w8.setCell ⟨gb, 0, none⟩ (.slice (some ⟨g8, 0, none⟩) (all1.length + 1) c8)).cell? ⟨g8, all1.length * 7 + 4, none⟩ = some d4 := (World.cell?_of_block (a := ⟨g8, all1.length * 7 + 4, none⟩) (Below.heap_setCell _ ⟨gb, 0, none⟩ (.slice (some ⟨g8, 0, none⟩) (all1.length + 1) c8) g8 NE8.out.symm)).trans q4
            have y5 : (w8.setCell ⟨gb, 0, none⟩ (.slice (some ⟨g8, 0, none⟩) (all1.length + 1) c8)).cell? ⟨g8, all1.length * 7 + 5, none⟩ = some d5 := (World.cell?_of_block (a := ⟨g8, all1.length * 7 + 5, none⟩) (Below.heap_setCell _ ⟨gb, 0, none⟩ (.slice (some ⟨g8, 0, none⟩) (all1.length + 1) c8) g8 NE8.out.symm)).trans q5
            have y6 : (w8.setCell ⟨gb, 0, none⟩ (.slice (some ⟨g8, 0, none⟩) (all1.length + 1) c8)).cell? ⟨g8, all1.length * 7 + 6, none⟩ = some d6 := (World.cell?_of_block (a := ⟨g8, all1.length * 7 + 6, none⟩) (Below.heap_setCell _ ⟨gb, 0, none⟩ (.slice (some ⟨g8, 0, none⟩) (all1.length + 1) c8) g8 NE8.out.symm)).trans q6
            have yf0 : (w8.setCell ⟨gb, 0, none⟩ (.slice (some ⟨g8, 0, none⟩) (all1.length + 1) c8)).frozen? ⟨g8, all1.length * 7, none⟩ = false := (World.frozen?_of_block (a := ⟨g8, all1.length * 7, none⟩) (Below.heap_setCell _ ⟨gb, 0, none⟩ (.slice (some ⟨g8, 0, none⟩) (all1.length + 1) c8) g8 NE8.out.symm)).trans qf0
            have yf1 : (w8.setCell ⟨gb, 0, none⟩ (.slice (some ⟨g8, 0, none⟩) (all1.length + 1) c8)).frozen? ⟨g8, all1.length * 7 + 1, none⟩ = false := (World.frozen?_of_block (a := ⟨g8, all1.length * 7 + 1, none⟩) (Below.heap_setCell _ ⟨gb, 0, none⟩ (.slice (some ⟨g8, 0, none⟩) (all1.length + 1) c8) g8 NE8.out.symm)).trans qf1
            have yf2 : (w8.setCell ⟨gb, 0, none⟩ (.slice (some ⟨g8, 0, none⟩) (all1.length + 1) c8)).frozen? ⟨g8, all1.length * 7 + 2, none⟩ = false := (World.frozen?_of_block (a := ⟨g8, all1.length * 7 + 2, none⟩) (Below.heap_setCell _ ⟨gb, 0, none⟩ (.slice (some ⟨g8, 0, none⟩) (all1.length + 1) c8) g8 NE8.out.symm)).trans qf2
            have yf3 : (w8.setCell ⟨gb, 0, none⟩ (.slice (some ⟨g8, 0, none⟩) (all1.length + 1) c8)).frozen? ⟨g8, all1.length * 7 + 3, none⟩ = false := (World.frozen?_of_block (a := ⟨g8, all1.length * 7 + 3, none⟩) (Below.heap_setCell _ ⟨gb, 0, none⟩ (.slice (some ⟨g8, 0, none⟩) (all1.length + 1) c8) g8 NE8.out.symm)).trans qf3
            have yf4 : (w8.setCell ⟨gb, 0, none⟩ (.slice (some ⟨g8, 0, none⟩) (all1.length + 1) c8)).frozen? ⟨g8, all1.length * 7 + 4, none⟩ = false := (World.frozen?_of_block (a := ⟨g8, all1.length * 7 + 4, none⟩) (Below.heap_setCell _ ⟨gb, 0, none⟩ (.slice (some ⟨g8, 0, none⟩) (all1.length + 1) c8) g8 NE8.out.symm)).trans qf4
            have yf5 : (w8.setCell ⟨gb, 0, none⟩ (.slice (some ⟨g8, 0, none⟩) (all1.length + 1) c8)).frozen? ⟨g8, all1.length * 7 + 5, none⟩ = false := (World.frozen?_of_block (a := ⟨g8, all1.length * 7 + 5, none⟩) (Below.heap_setCell _ ⟨gb, 0, none⟩ (.slice (some ⟨g8, 0, none⟩) (all1.length + 1) c8) g8 NE8.out.symm)).trans qf5
            have yf6 : (w8.setCell ⟨gb, 0, none⟩ (.slice (some ⟨g8, 0, none⟩) (all1.length + 1) c8)).frozen? ⟨g8, all1.length * 7 + 6, none⟩ = false := (World.frozen?_of_block (a := ⟨g8, all1.length * 7 + 6, none⟩) (Below.heap_setCell _ ⟨gb, 0, none⟩ (.slice (some ⟨g8, 0, none⟩) (all1.length + 1) c8) g8 NE8.out.symm)).trans qf6
            have FA := Aside0.mk (ordB (w8 := w8) rfl RA8.out R8.out all1.length (by omega) (.int .i64 x.f0) (.string x.f1) (.slice A2 x.f2.length c2) (.bool x.f3) (.bool x.f4) (.slice A5 x.f5.length c5) (.slice A6 x.f6.length c6) (by simp [Value.oneCell']))
            clear RA8 R8
            generalize w8.setCell ⟨gb, 0, none⟩ (.slice (some ⟨g8, 0, none⟩) (all1.length + 1) c8) = wb at FA y0 yf0 y1 yf1 y2 yf2 y3 yf3 y4 yf4 y5 yf5 y6 yf6 ⊢
            refine last_ (i := 9) (N := none) #[true, true, true, true, true, true, true, true, true, true, true, true, true] rfl rfl (one_of (md := .any) (ops := opsOf Tryd.f11 10) F11tab10 (by kernel_rfl)) (by decide) (fun K hK => ?_)
            refine skip_ (w1 := set7at wb g8 (all1.length * 7) (.int .i64 x.f0) (.string x.f1) (.slice A2 x.f2.length c2) (.bool x.f3) (.bool x.f4) (.slice A5 x.f5.length c5) (.slice A6 x.f6.length c6)) rfl rfl ?hrun ?_
            case hrun => first | (go_simp; done) | (go_simp; rfl)
            refine hK.out _ _ (done_ (done_of (md := .any) (ops := opsOf Tryd.f11 10) F11tab10 (by kernel_rfl)) ?_)
            clear y0 yf0 y1 yf1 y2 yf2 y3 yf3 y4 yf4 y5 yf5 y6 yf6
            have FN := Aside0.mk (push_fin [.int .i64 0, .string (⟨#[]⟩ : ByteArray), .slice none 0 0, .bool false, .bool false, .slice none 0 0, .slice none 0 0] HRL.out F8.out T8.out O8.out HX8.out BB8.out BBG.out FA.out)
            clear z0 zf0 q0 q1 q2 q3 q4 q5 q6 qf0 qf1 qf2 qf3 qf4 qf5 qf6 hHeld hK K
            generalize set7at wb g8 (all1.length * 7) (.int .i64 x.f0) (.string x.f1) (.slice A2 x.f2.length c2) (.bool x.f3) (.bool x.f4) (.slice A5 x.f5.length c5) (.slice A6 x.f6.length c6) = w9 at FN ⊢
            have z9 : w9.cell? ⟨gb, 0, none⟩ = some (.slice (some ⟨g8, 0, none⟩) (all1.length + 1) c8) := (blk_cell FN.out.1.ra 0).trans rfl
            go_wp2_with fail
            go_ret
            refine ⟨?_, (.slice (some ⟨g8, 0, none⟩) (all1.length + 1) c8), ?_, FN.out.2, O8.out⟩
            · rw [PE.out]; rfl
            · rw [PE.out]; exact FN.out.1
end Go.Proofs.YtjlnlonioknkhaaDoor.PL
