/- turned: the walk where a node further in is turned. -/
import Derived.Test.YtjlnlonioknkhaaHU2
namespace Go.Proofs.Ytjlnlonioknkhaa.PA
open Go.RowKit Go.Proofs.YtjlnlonioknkhaaW.PrintWords Go.Proofs.YtjlnlonioknkhaaW.PrintLast Go.Proofs.YtjlnlonioknkhaaW.PrintMore
set_option linter.unusedVariables false
set_option linter.unusedSimpArgs false

theorem turnL_past (kx : Int → Int) : ∀ (a : List S26) (m p : Nat), (preL a).length ≤ m → turnL kx a m p = a
  | [], _, _, _ => rfl
  | x :: r, m, p, h => by
    have h1 : (pre x).length + (preL r).length ≤ m := by simpa [preL] using h
    rw [turnL, if_neg (by omega), turnL_past kx r _ p (by omega)]
theorem turnL_snoc (kx : Int → Int) (y : S26) (p : Nat) : ∀ (a : List S26) (m : Nat), turnL kx (a ++ [y]) m p =
    if m < (preL a).length then turnL kx a m p ++ [y] else if m - (preL a).length < (pre y).length then a ++ [turnV kx y (m - (preL a).length) p] else a ++ [y]
  | [], m => by
    rw [List.nil_append, turnL, turnL]
    by_cases h : m < (pre y).length <;> simp [preL, turnL, h]
  | x :: r, m => by
    rw [List.cons_append, turnL, turnL_snoc kx y p r]
    have e : (preL (x :: r)).length = (pre x).length + (preL r).length := by simp [preL]
    rw [e]
    by_cases h : m < (pre x).length
    · rw [if_pos h, if_pos (by omega)]
      rw [turnL, if_pos h]; rfl
    · rw [if_neg h]
      by_cases h2 : m - (pre x).length < (preL r).length
      · rw [if_pos h2, if_pos (by omega), turnL, if_neg h]; rfl
      · have h4 : ¬ m < (pre x).length + (preL r).length := by omega
        rw [if_neg h2, if_neg h4, Nat.sub_sub]
        by_cases h3 : m - ((pre x).length + (preL r).length) < (pre y).length
        · rw [if_pos h3, if_pos h3]; rfl
        · rw [if_neg h3, if_neg h3]
          try rfl
/-- What the copied row holds behind i rounds. -/
def cur (l : List S26) (m p i : Nat) : List S26 := turnL kx (l.take i) m p ++ l.drop i
theorem cur_zero (l : List S26) (m p : Nat) : cur l m p 0 = l := by simp [cur, turnL]
theorem cur_end (l : List S26) (m p : Nat) : cur l m p l.length = turnL kx l m p := by simp [cur]
theorem cur_length (l : List S26) (m p i : Nat) (h : i ≤ l.length) : (cur l m p i).length = l.length := by
  simp [cur, turnL_length]; omega
theorem cur_at (l : List S26) (m p i : Nat) (h : i < l.length) : (cur l m p i)[i]? = some l[i] := by
  have h1 : (turnL kx (l.take i) m p).length = i := by simp [turnL_length]; omega
  rw [cur, List.getElem?_append_right (by omega), h1, Nat.sub_self]
  simp [h]
theorem cur_step (l : List S26) (m p i : Nat) (h : i < l.length) : cur l m p (i + 1) = if m < (preL (l.take i)).length then cur l m p i else if m - (preL (l.take i)).length < (pre l[i]).length then (cur l m p i).set i (turnV kx l[i] (m - (preL (l.take i)).length) p) else cur l m p i := by
  have h1 : (turnL kx (l.take i) m p).length = i := by simp [turnL_length]; omega
  have e : l.drop i = l[i] :: l.drop (i + 1) := List.drop_eq_getElem_cons h
  unfold cur
  rw [List.take_succ_eq_append_getElem h, turnL_snoc]
  by_cases c1 : m < (preL (l.take i)).length
  · rw [if_pos c1, if_pos c1, e, List.append_assoc]; rfl
  · rw [if_neg c1, if_neg c1]
    have e2 := turnL_past kx (l.take i) m p (by omega)
    have h2 : (l.take i).length = i := by simp; omega
    by_cases c2 : m - (preL (l.take i)).length < (pre l[i]).length
    · rw [if_pos c2, if_pos c2, e2, e, List.append_assoc, List.set_append_right _ _ (by omega), h2, Nat.sub_self]; rfl
    · rw [if_neg c2, if_neg c2, e2, e, List.append_assoc]; rfl
theorem preL_take_le (l : List S26) (i : Nat) : (preL (l.take i)).length ≤ (preL l).length := by
  have h1 : preL l = preL (l.take i) ++ preL (l.drop i) := by rw [← preL_append, List.take_append_drop]
  rw [h1, List.length_append]; omega
/-- An element's cells, where it stands. -/
def EC (g i : Nat) (y : S26) (Y2 : Option Addr) (e2 : Nat) (Y5 : Option Addr) (e5 : Nat) (Y6 : Option Addr) (e6 : Nat) (w : World) : Prop :=
  w.cell? ⟨g, i * 7, none⟩ = some (.int .i64 y.f0) ∧ w.cell? ⟨g, i * 7 + 1, none⟩ = some (.string y.f1) ∧ w.cell? ⟨g, i * 7 + 2, none⟩ = some (.slice Y2 y.f2.length e2) ∧ w.cell? ⟨g, i * 7 + 3, none⟩ = some (.bool y.f3) ∧ w.cell? ⟨g, i * 7 + 4, none⟩ = some (.bool y.f4) ∧ w.cell? ⟨g, i * 7 + 5, none⟩ = some (.slice Y5 y.f5.length e5) ∧ w.cell? ⟨g, i * 7 + 6, none⟩ = some (.slice Y6 y.f6.length e6)
theorem EC.below {g i : Nat} {y : S26} {Y2 : Option Addr} {e2 : Nat} {Y5 : Option Addr} {e5 : Nat} {Y6 : Option Addr} {e6 : Nat} {w w' : World} (h : EC g i y Y2 e2 Y5 e5 Y6 e6 w) (hb : Below w.heap.size w w') : EC g i y Y2 e2 Y5 e5 Y6 e6 w' := by
  have k : ∀ (a : Addr) v, w.cell? a = some v → w'.cell? a = some v := fun a v q => (hb.cell (World.block_lt_of_cell? w a q)).trans q
  exact ⟨k _ _ h.1, k _ _ h.2.1, k _ _ h.2.2.1, k _ _ h.2.2.2.1, k _ _ h.2.2.2.2.1, k _ _ h.2.2.2.2.2.1, k _ _ h.2.2.2.2.2.2⟩
theorem elemN {ok : Nat → Prop} {w : World} {base g n c : Nat} {xs : List S26} (h : Kd.N k26 26 w base ok (.slice (some ⟨g, 0, none⟩) n c) xs) (i : Nat) (y : S26) (hi : xs[i]? = some y) :
    ∃ Y2 e2 Y5 e5 Y6 e6, NF w (fun k => ok k ∧ k ≠ g) y Y2 e2 Y5 e5 Y6 e6 ∧ EC g i y Y2 e2 Y5 e5 Y6 e6 w ∧ ∀ j, w.frozen? ⟨g, i * 7 + j, none⟩ = false := by
  have hn := (Kd.N_reads' h).1
  obtain ⟨hl, hy⟩ := List.getElem?_eq_some_iff.1 hi
  obtain ⟨cs, _, hF, hc, hf⟩ := Kd.N_elem h y (i : Int) (by omega) (by omega)
  rw [Int.toNat_natCast, List.getD_eq_getElem?_getD, hi] at hF
  obtain ⟨Y2, e2, Y5, e5, Y6, e6, rfl, l2, g2, l5, g5, l6, g6⟩ := k26_openF hF
  exact ⟨Y2, e2, Y5, e5, Y6, e6, ⟨g2, l2, g5, l5, g6, l6⟩, ⟨hc 0 _ rfl, hc 1 _ rfl, hc 2 _ rfl, hc 3 _ rfl, hc 4 _ rfl, hc 5 _ rfl, hc 6 _ rfl⟩, hf⟩
/-- An element's cells are written, one behind the other. -/
def set7at (w : World) (g o : Nat) (v0 v1 v2 v3 v4 v5 v6 : Value) : World :=
  ((((((w.setCell ⟨g, o, none⟩ v0).setCell ⟨g, o + 1, none⟩ v1).setCell ⟨g, o + 2, none⟩ v2).setCell ⟨g, o + 3, none⟩ v3).setCell ⟨g, o + 4, none⟩ v4).setCell ⟨g, o + 5, none⟩ v5).setCell ⟨g, o + 6, none⟩ v6
theorem putN {ok okp : Nat → Prop} {w : World} {base g n c : Nat} {xs : List S26} (h : Kd.N k26 26 w base ok (.slice (some ⟨g, 0, none⟩) n c) xs) (i : Nat) (hi : i < n) (z : S26) {Z2 : Option Addr} {s2 : Nat} {Z5 : Option Addr} {s5 : Nat} {Z6 : Option Addr} {s6 : Nat}
    (hz : NF w okp z Z2 s2 Z5 s5 Z6 s6) (hok : ∀ k, okp k → ok k ∧ k ≠ g) :
    Kd.N k26 26 (set7at w g (i * 7) (.int .i64 z.f0) (.string z.f1) (.slice Z2 z.f2.length s2) (.bool z.f3) (.bool z.f4) (.slice Z5 z.f5.length s5) (.slice Z6 z.f6.length s6)) base ok (.slice (some ⟨g, 0, none⟩) n c) (xs.set i z) ∧ w.grownBy (set7at w g (i * 7) (.int .i64 z.f0) (.string z.f1) (.slice Z2 z.f2.length s2) (.bool z.f3) (.bool z.f4) (.slice Z5 z.f5.length s5) (.slice Z6 z.f6.length s6)) (some g) := by
  obtain ⟨cs, hcl, _, hc, _⟩ := Kd.N_elem h z (i : Int) (by omega) (by omega)
  have h2 : cs.drop 7 = [] := List.drop_eq_nil_of_le (Nat.le_of_eq hcl)
  exact Kd.N_seg h (i : Int) (by omega) (by omega) (seg := [.int .i64 z.f0, .string z.f1, .slice Z2 z.f2.length s2, .bool z.f3, .bool z.f4, .slice Z5 z.f5.length s5, .slice Z6 z.f6.length s6]) (j := 0) hcl hc (show 7 ≤ 7 from by decide) (x' := z) (by show Kd.FK k26 w okp z ([] ++ [.int .i64 z.f0, .string z.f1, .slice Z2 z.f2.length s2, .bool z.f3, .bool z.f4, .slice Z5 z.f5.length s5, .slice Z6 z.f6.length s6] ++ cs.drop 7); rw [h2]; exact k26_mkF _ _ z hz.l2 hz.g2 hz.l5 hz.g5 hz.l6 hz.g6) hok
theorem set7at_below {w0 w : World} {g o : Nat} {v0 v1 v2 v3 v4 v5 v6 : Value} (h : Below w0.heap.size w0 w) (hg : w0.heap.size ≤ g) : Below w0.heap.size w0 (set7at w g o v0 v1 v2 v3 v4 v5 v6) := by
  unfold set7at
  exact below_set (below_set (below_set (below_set (below_set (below_set (below_set h hg) hg) hg) hg) hg) hg) hg
theorem turnZ_of {ok : Nat → Prop} {x z : S26} {A2 : Option Addr} {c2 : Nat} {A5 : Option Addr} {c5 : Nat} {A6 : Option Addr} {c6 : Nat} {k p : Nat} {kz pz : Int} {w : World} (h : TurnAt ok x A2 c2 A5 c5 A6 c6 k p w) (e : kz = (k : Int)) (ep : pz = (p : Int)) (ez : turnV kx x k p = z) :
    Calls Try.prog 26 #[.agg #[.int .i64 x.f0, .string x.f1, .slice A2 x.f2.length c2, .bool x.f3, .bool x.f4, .slice A5 x.f5.length c5, .slice A6 x.f6.length c6], .int .i64 kz, .int .i64 pz] w fun e w' => ∃ (Z2 : Option Addr) (s2 : Nat) (Z5 : Option Addr) (s5 : Nat) (Z6 : Option Addr) (s6 : Nat) (n : Int), e = .returned (.tuple #[.agg #[.int .i64 z.f0, .string z.f1, .slice Z2 z.f2.length s2, .bool z.f3, .bool z.f4, .slice Z5 z.f5.length s5, .slice Z6 z.f6.length s6], .int .i64 n]) ∧ NF w' (fun i => ok i ∨ w.heap.size ≤ i) z Z2 s2 Z5 s5 Z6 s6 ∧ Below w.heap.size w w' := by
  subst e ep ez
  exact h
set_option maxHeartbeats 8000000 in
theorem turn_in (ok : Nat → Prop) (x : S26) (A2 : Option Addr) (c2 : Nat) (A5 : Option Addr) (c5 : Nat) (A6 : Option Addr) (c6 : Nat) (w : World) (hx : NF w ok x A2 c2 A5 c5 A6 c6) (m p : Nat) (hlt : m < (preL x.f2).length) (hfin : Fin26 x) (hl : x.f2.length ≤ 400) (ht : (preL x.f2).length ≤ 400)
    (ih : ∀ y ∈ x.f2, ∀ (ok : Nat → Prop) (A2 : Option Addr) (c2 : Nat) (A5 : Option Addr) (c5 : Nat) (A6 : Option Addr) (c6 : Nat) (w : World) (j : Nat), NF w ok y A2 c2 A5 c5 A6 c6 → j < (pre y).length → TurnAt ok y A2 c2 A5 c5 A6 c6 j p w) :
    TurnAt ok x A2 c2 A5 c5 A6 c6 (m + 1) p w := by
  have hu26 := Try.underlying26
  have HX := Aside0.mk hx
  have HLN := Aside0.mk hl
  have HLT := Aside0.mk hlt
  have HFIN := Aside0.mk hfin
  have HTT := Aside0.mk ht
  have IH := Aside0.mk ih
  have HP : Aside0 (0 < x.f2.length) := ⟨by cases he : x.f2 with | nil => rw [he] at hlt; simp [preL] at hlt | cons a r => simp⟩
  unfold TurnAt
  obtain ⟨kz, hkz⟩ : ∃ z : Int, z = ((m + 1 : Nat) : Int) := ⟨_, rfl⟩
  obtain ⟨pz, hpz⟩ : ∃ z : Int, z = (p : Int) := ⟨_, rfl⟩
  rw [← hkz, ← hpz]
  have hk0 : (kz == 0) = false := by rw [hkz]; simp; omega
  have hk1 : (kz != 0) = true := by rw [hkz]; simp; omega
  have hkb : 0 ≤ kz := by omega
  have hkc : kz ≤ 400 := by omega
  have hlb : (x.f2.length : Int) ≤ 400 := by omega
  have HKZ := Aside0.mk hkz
  have HPZ := Aside0.mk hpz
  clear hx hlt hfin hl ht ih hkz hpz
  go_enter Try.func26, Try.ntmps26
  go_wp2_with (first | ((with_reducible refine gate_dst (N := 3) rfl ?_); (try (refine gate_guard (by rfl) ?_; dsimp only)); refine box_event ?hg (N := 3) ?hd (cs := #[.int .i64 x.f0, .string x.f1, .slice A2 x.f2.length c2, .bool x.f3, .bool x.f4, .slice A5 x.f5.length c5, .slice A6 x.f6.length c6]) (t := 26) ?hr ?_; (case hd => rfl); (case hg => rfl); (case hr => first | (go_simp; done) | (go_simp; rfl)); intro ga hg w1 hbox hb; have HBa := Aside0.mk hb; have BA := Aside0.mk hbox; have GA := Aside0.mk (Nat.le_of_eq hg.symm); clear hb hg hbox) | ((with_reducible refine gate_dst (N := 6) rfl ?_); (try (refine gate_guard (by rfl) ?_; dsimp only)); refine box_event ?hg (N := 6) ?hd (cs := #[.int .i64 0, .string (⟨#[]⟩ : ByteArray), .slice none 0 0, .bool false, .bool false, .slice none 0 0, .slice none 0 0]) (t := 26) ?hr ?_; (case hd => rfl); (case hg => rfl); (case hr => first | (go_simp; done) | (go_simp; rfl)); intro gr hg w2 hbox hb; have HB := Aside0.mk (below_step HBa.out hb); have BA2 := Aside0.mk (blk_below BA.out hb); have NE := Aside0.mk (show ga ≠ gr from by rw [hg]; exact Nat.ne_of_lt (blk_lt BA.out)); have GR := Aside0.mk (show w.heap.size ≤ gr from by rw [hg]; exact HBa.out.size); have BR := Aside0.mk hbox; clear HBa BA hb hg hbox; have ha2 : w2.cell? ⟨ga, 2, none⟩ = some (.slice A2 x.f2.length c2) := (blk_cell BA2.out 2).trans rfl; have fa2 := blk_frozen BA2.out 2) | ((with_reducible refine gate_dst (N := 66) rfl ?_); refine Kd.N_lit k26 (w0 := w) w.heap.size 26 ?hg (N' := 66) ?hd (xs := ([] : List S26)) (inner := []) (ok := (fun k_ => ((ok k_ ∧ k_ < w.heap.size) ∨ w.heap.size ≤ k_) ∧ k_ ≠ ga ∧ k_ ≠ gr)) (okp := fun _ => False) ?hr ?hp (fun _ hk => hk.elim) ?hfr HB.out HB.out.size (by simp) ?_; (case hd => rfl); (case hg => rfl); (case hr => first | (go_simp; done) | (go_simp; rfl)); (case hp => exact Reps.none _ _); (case hfr => exact ⟨Or.inr HB.out.size, Nat.ne_of_gt (blk_lt BA2.out), Nat.ne_of_gt (blk_lt BR.out)⟩); intro v1 w11 hr_ hb_ hgr hat; have R1_ := Aside0.mk hr_; clear hr_; have n1 := Aside0.mk (blk_grown BA2.out hgr (by simp)); have n2 := Aside0.mk (blk_grown BR.out hgr (by simp)); clear BA2 BR HB; have HB := Aside0.mk hb_; have BA2 := n1; have BR := n2; clear n1 n2 hgr hb_ hat; clear ha2 fa2; have ha2 : w11.cell? ⟨ga, 2, none⟩ = some (.slice A2 x.f2.length c2) := (blk_cell BA2.out 2).trans rfl; have fa2 := blk_frozen BA2.out 2) | ((with_reducible refine gate_dst (N := 69) rfl ?_); refine Kd.N_append_rows k26 (w0 := w) w.heap.size rfl (.tmp 66) (.tmp 68) 24 26 (.agg #[(.int .i64 0), (.string ⟨#[]⟩), (.slice none 0 0), (.bool false), (.bool false), (.slice none 0 0), (.slice none 0 0)]) 104 rfl Try.underlying24 info26 rfl (by decide) (by omega) v1 [] x.f2 A2 _ c2 (fun k_ => ((ok k_ ∧ k_ < w.heap.size) ∨ w.heap.size ≤ k_) ∧ k_ ≠ ga ∧ k_ ≠ gr) (fun k_ => (fun k_ => ((ok k_ ∧ k_ < w.heap.size) ∨ w.heap.size ≤ k_) ∧ k_ ≠ ga ∧ k_ ≠ gr) k_ ∧ some k_ ≠ (v1 : Value).ownBlock) rfl rfl R1_.out (Kd.F_mono (Kd.F_below HX.out.bound.g2 HB.out) (fun k_ hk => ⟨⟨Or.inl hk, Nat.ne_of_lt (Nat.lt_of_lt_of_le hk.2 GA.out), Nat.ne_of_lt (Nat.lt_of_lt_of_le hk.2 GR.out)⟩, fun he => Nat.not_le.2 hk.2 (Kd.N_base R1_.out k_ he.symm)⟩)) (fun _ hk => hk) ?fr HB.out HB.out.size ?ln ?_; (case fr => exact fun k_ hk => ⟨Or.inr (Nat.le_trans HB.out.size hk), Nat.ne_of_gt (Nat.lt_of_lt_of_le (blk_lt BA2.out) hk), Nat.ne_of_gt (Nat.lt_of_lt_of_le (blk_lt BR.out) hk)⟩); (case ln => have hl_ := HLN.out; simp only [List.length_cons, List.length_nil, List.length_append, List.nil_append]; omega); intro v2 w12 hr_ hb_ hgr hat; rw [List.nil_append] at hr_; have NA_ := Aside0.mk (Kd.N_away R1_.out (g := ga) (fun _ hk => hk.2.1)); have NR_ := Aside0.mk (Kd.N_away R1_.out (g := gr) (fun _ hk => hk.2.2)); have HN := Aside0.mk hr_; clear hr_; clear R1_; have n1 := Aside0.mk (blk_grown BA2.out hgr NA_.out); have n2 := Aside0.mk (blk_grown BR.out hgr NR_.out); clear BA2 BR HB; have HB := Aside0.mk hb_; have BA2 := n1; have BR := n2; clear n1 n2 hgr hb_ hat; clear ha2 fa2; have ha2 : w12.cell? ⟨ga, 2, none⟩ = some (.slice A2 x.f2.length c2) := (blk_cell BA2.out 2).trans rfl; have fa2 := blk_frozen BA2.out 2; clear NA_ NR_; obtain ⟨g, cap, ev_, hgb, _, _⟩ := Kd.N_form HN.out HP.out; subst ev_; have GB := Aside0.mk hgb; clear hgb))
  go_loopg [8, 10] x.f2.length (fun k' v8 v10 wr => ∃ (i : Nat) (n : Int), v8 = .int .i64 n ∧ v10 = .int .i64 i ∧ i ≤ x.f2.length ∧ 0 ≤ n ∧ n ≤ 401 ∧ Aside0 (n = ((1 + (preL (x.f2.take i)).length : Nat) : Int)) ∧ Aside0 (k' + i = x.f2.length) ∧ Aside0 (Kd.N k26 26 wr w.heap.size (fun k_ => ((ok k_ ∧ k_ < w.heap.size) ∨ w.heap.size ≤ k_) ∧ k_ ≠ ga ∧ k_ ≠ gr) (.slice (some ⟨g, 0, none⟩) x.f2.length cap) (cur x.f2 m p i)) ∧ Aside0 (wr.heap[ga]? = some (.cells #[.int .i64 x.f0, .string x.f1, .slice A2 x.f2.length c2, .bool x.f3, .bool x.f4, .slice A5 x.f5.length c5, .slice A6 x.f6.length c6] 26 (0, 0))) ∧ Aside0 (wr.heap[gr]? = some (.cells #[.int .i64 0, .string (⟨#[]⟩ : ByteArray), .slice none 0 0, .bool false, .bool false, .slice none 0 0, .slice none 0 0] 26 (0, 0))) ∧ Aside0 (Below w.heap.size w wr))
  case atStart => exact ⟨0, 1, rfl, rfl, Nat.zero_le _, by omega, by omega, ⟨by simp [preL]⟩, ⟨rfl⟩, ⟨by rw [cur_zero]; exact HN.out⟩, BA2, BR, HB⟩
  case round =>
    have NGA := Aside0.mk (show g ≠ ga from (HN.out.1 g rfl).2.1)
    have NGR := Aside0.mk (show g ≠ gr from (HN.out.1 g rfl).2.2)
    clear HN BA2 BR HB ha2 fa2
    obtain ⟨i, n, rfl, rfl, hi, hn0, hn1, HNN, HK, HN, BA, BR, HB⟩ := hrel
    by_cases hlt : i < x.f2.length
    · obtain ⟨y, hy⟩ : ∃ y, y = x.f2[i] := ⟨_, rfl⟩
      have HYE := Aside0.mk hy
      have YM : Aside0 (y ∈ x.f2) := ⟨by rw [hy]; exact List.getElem_mem hlt⟩
      have FinY : Aside0 (Fin26 y) := ⟨fun q hq => HFIN.out q (by rw [pre_eq]; refine List.mem_cons_of_mem _ (mem_preL _ i hlt q ?_); rw [← hy]; exact hq)⟩
      obtain ⟨Y2, e2, Y5, e5, Y6, e6, ny, ey, fy⟩ := elemN HN.out i y (by rw [hy]; exact cur_at _ _ _ _ hlt)
      have NY := Aside0.mk ny
      have EY := Aside0.mk ey
      have FY := Aside0.mk fy
      clear ny ey fy
      obtain ⟨cn, hcn⟩ : ∃ z : Nat, z = (pre y).length := ⟨_, rfl⟩
      obtain ⟨c, hc⟩ : ∃ z : Int, z = ((pre y).length : Int) := ⟨_, rfl⟩
      have HTK : Aside0 ((preL (x.f2.take (i + 1))).length = (preL (x.f2.take i)).length + (pre y).length) := ⟨by rw [preL_take _ _ hlt, List.length_append, hy]⟩
      have hle := preL_take_le x.f2 (i + 1)
      have hc0 : 0 ≤ c := by omega
      have hc1 : c ≤ 400 := by have := HTK.out; have := HTT.out; omega
      have HNB : Aside0 (n + c ≤ 401) := ⟨by have := HTK.out; have := HTT.out; have := HNN.out; omega⟩
      have HC : Aside0 (wrap64 ((pre y).length : Int) = c) := ⟨by rw [← hc]; unfold wrap64; omega⟩
      have HC2 := Aside0.mk hc
      clear hy hc hcn hle
      obtain ⟨hy0, hy1, hy2, hy3, hy4, hy5, hy6⟩ := EY.out
      by_cases c1 : n ≤ kz
      · have c1a : decide (n ≤ kz) = true := decide_eq_true c1
        by_cases c2 : kz < n + c
        · have c2a : decide (kz < n + c) = true := decide_eq_true c2
          obtain ⟨j, hj⟩ : ∃ j : Nat, kz - n = (j : Int) := ⟨(kz - n).toNat, by omega⟩
          obtain ⟨z, hz⟩ : ∃ z, turnV kx y j p = z := ⟨_, rfl⟩
          have HZ := Aside0.mk hz
          have HJ : Aside0 (j < (pre y).length) := ⟨by have h3 := HC2.out; omega⟩
          have ES := Aside0.mk (show cur x.f2 m p (i + 1) = (cur x.f2 m p i).set i z from by rw [cur_step _ _ _ _ hlt]; have h1 := HKZ.out; have h2 := HNN.out; have h3 := HC2.out; have h5 := HYE.out; rw [← h5, if_neg (by omega), if_pos (by omega), ← hz]; congr 2; omega)
          have HJZ := Aside0.mk hj
          clear hz hj c1 c2
          have NZok : Aside0 (∀ (ws : Nat) (k_ : Nat), ((((fun k_ => ((ok k_ ∧ k_ < w.heap.size) ∨ w.heap.size ≤ k_) ∧ k_ ≠ ga ∧ k_ ≠ gr) k_ ∧ k_ ≠ g) ∨ ws ≤ k_) → w.heap.size ≤ ws → g < ws → ga < ws → gr < ws → ((fun k_ => ((ok k_ ∧ k_ < w.heap.size) ∨ w.heap.size ≤ k_) ∧ k_ ≠ ga ∧ k_ ≠ gr) k_ ∧ k_ ≠ g))) := ⟨fun ws k_ h h1 h2 h3 h4 => h.elim (fun h => h) (fun h => ⟨⟨Or.inr (by omega), by omega, by omega⟩, by omega⟩)⟩
          go_upto_region 24 with (first | ((with_reducible refine gate_dst (N := 80) rfl ?_); refine goesL_ (some 80) rfl rfl Try.func20 (by kernel_rfl) rfl #[.agg #[.int .i64 y.f0, .string y.f1, .slice Y2 y.f2.length e2, .bool y.f3, .bool y.f4, .slice Y5 y.f5.length e5, .slice Y6 y.f6.length e6]] rfl (by (try simp only [List.map_toArray, List.map_cons, List.map_nil]); first | done | rfl) ?_; (refine (cnt9_of c NY.out.nd FinY.out HC.out).mono ?_); (rintro e w3 ⟨rfl, hb⟩; refine ⟨_, rfl, ?_⟩; clear hy0 hy1 hy2 hy3 hy4 hy5 hy6; have n0 := Aside0.mk (below_step HB.out hb); have n1 := Aside0.mk (blk_below BA.out hb); have n2 := Aside0.mk (blk_below BR.out hb); have n3 := Aside0.mk (Kd.N_below HN.out hb); have n4 := Aside0.mk (NY.out.below hb); have n5 := Aside0.mk (EY.out.below hb); have n6 := Aside0.mk (fun j => (hb.frozen (p := ⟨g, i * 7 + j, none⟩) (Nat.lt_of_lt_of_le (Kd.N_lt HN.out g rfl) (Nat.le_refl _))).trans (FY.out j)); clear HB BA BR HN NY EY FY; have HB := n0; have BA := n1; have BR := n2; have HN := n3; have NY := n4; have EY := n5; have FY := n6; clear n0 n1 n2 n3 n4 n5 n6; clear hb)))
          obtain ⟨hy0, hy1, hy2, hy3, hy4, hy5, hy6⟩ := EY.out
          go_wp2_with (first | ((with_reducible refine gate_dst (N := 102) rfl ?_); refine goesL_ (some 102) rfl rfl Try.func26 (by kernel_rfl) rfl #[.agg #[.int .i64 y.f0, .string y.f1, .slice Y2 y.f2.length e2, .bool y.f3, .bool y.f4, .slice Y5 y.f5.length e5, .slice Y6 y.f6.length e6], .int .i64 (kz - n), .int .i64 pz] rfl (by (try simp only [List.map_toArray, List.map_cons, List.map_nil]); first | done | rfl) ?_; (refine (turnZ_of (IH.out y YM.out _ _ _ _ _ _ _ _ j NY.out HJ.out) HJZ.out HPZ.out HZ.out).mono ?_); (rintro e w3 ⟨Z2, s2, Z5, s5, Z6, s6, nz, rfl, hz, hb⟩; refine ⟨_, rfl, ?_⟩; have NZ := Aside0.mk hz; clear hz; have LT := Aside0.mk (Kd.N_lt HN.out g rfl); have LA := Aside0.mk (blk_lt BA.out); have LR := Aside0.mk (blk_lt BR.out); have LS := Aside0.mk HB.out.size; clear hy0 hy1 hy2 hy3 hy4 hy5 hy6; have n0 := Aside0.mk (below_step HB.out hb); have n1 := Aside0.mk (blk_below BA.out hb); have n2 := Aside0.mk (blk_below BR.out hb); have n3 := Aside0.mk (Kd.N_below HN.out hb); have n4 := Aside0.mk (NY.out.below hb); have n5 := Aside0.mk (EY.out.below hb); have n6 := Aside0.mk (fun j => (hb.frozen (p := ⟨g, i * 7 + j, none⟩) (Nat.lt_of_lt_of_le (Kd.N_lt HN.out g rfl) (Nat.le_refl _))).trans (FY.out j)); clear HB BA BR HN NY EY FY; have HB := n0; have BA := n1; have BR := n2; have HN := n3; have NY := n4; have EY := n5; have FY := n6; clear n0 n1 n2 n3 n4 n5 n6; obtain ⟨hy0, hy1, hy2, hy3, hy4, hy5, hy6⟩ := EY.out; have FZ := FY.out; have fy0 := FZ 0; have fy1 := FZ 1; have fy2 := FZ 2; have fy3 := FZ 3; have fy4 := FZ 4; have fy5 := FZ 5; have fy6 := FZ 6; rw [Nat.add_zero] at fy0; clear FZ; clear hb)) | ((with_reducible refine gate_store (t := 26) (p := 105) rfl ?_); refine store_event (t := 26) (p := 105) (v := ?vo) (w1 := set7at w3 g (i * 7) (.int .i64 z.f0) (.string z.f1) (.slice Z2 z.f2.length s2) (.bool z.f3) (.bool z.f4) (.slice Z5 z.f5.length s5) (.slice Z6 z.f6.length s6)) ?hg ?ho ?hn ?hr ?_; (case ho => rfl); (case hg => rfl); (case hn => rfl); (case hr => first | (go_simp; done) | (go_simp; rfl)); intro w4 hw; have HQ := Aside0.mk (putN HN.out i hlt z (NZ.out.mono (ok' := fun k_ => (fun k_ => ((ok k_ ∧ k_ < w.heap.size) ∨ w.heap.size ≤ k_) ∧ k_ ≠ ga ∧ k_ ≠ gr) k_ ∧ k_ ≠ g) (fun k_ h => NZok.out _ k_ h LS.out LT.out LA.out LR.out)) (fun _ h => h)); have n0 := Aside0.mk (show Below w.heap.size w w4 from by rw [hw]; exact set7at_below HB.out GB.out); have n3 := Aside0.mk (show Kd.N k26 26 w4 w.heap.size (fun k_ => ((ok k_ ∧ k_ < w.heap.size) ∨ w.heap.size ≤ k_) ∧ k_ ≠ ga ∧ k_ ≠ gr) (.slice (some ⟨g, 0, none⟩) x.f2.length cap) ((cur x.f2 m p i).set i z) from by rw [hw]; exact HQ.out.1); have hgr : w3.grownBy w4 (some g) := (by rw [hw]; exact HQ.out.2); have n1 := Aside0.mk (blk_grown BA.out hgr (fun h => NGA.out (Option.some.inj h).symm)); have n2 := Aside0.mk (blk_grown BR.out hgr (fun h => NGR.out (Option.some.inj h).symm)); clear HB BA BR HN HQ hgr hw hy0 hy1 hy2 hy3 hy4 hy5 hy6 fy0 fy1 fy2 fy3 fy4 fy5 fy6; have HB := n0; have BA := n1; have BR := n2; have HN := n3; clear n0 n1 n2 n3))
          go_roundg (x.f2.length - (i + 1))
          case measure => have := HK.out; omega
          case rel => exact ⟨i + 1, n + c, rfl, by simp, by omega, by omega, by have := HNB.out; omega, ⟨by have h2 := HNN.out; have h3 := HC2.out; have h4 := HTK.out; rw [h4]; omega⟩, ⟨by have := HK.out; omega⟩, ⟨by rw [ES.out]; exact HN.out⟩, BA, BR, HB⟩
        · have c2a : decide (kz < n + c) = false := decide_eq_false c2
          have HM := Aside0.mk (show n + c ≤ kz by omega)
          clear c1 c2
          have ES := Aside0.mk (show cur x.f2 m p (i + 1) = cur x.f2 m p i from by rw [cur_step _ _ _ _ hlt]; have h1 := HKZ.out; have h2 := HNN.out; have h3 := HC2.out; have h4 := HM.out; have h5 := HYE.out; rw [← h5]; rw [if_neg (by omega), if_neg (by omega)])
          clear HM
          go_wp2_with (first | ((with_reducible refine gate_dst (N := 80) rfl ?_); refine goesL_ (some 80) rfl rfl Try.func20 (by kernel_rfl) rfl #[.agg #[.int .i64 y.f0, .string y.f1, .slice Y2 y.f2.length e2, .bool y.f3, .bool y.f4, .slice Y5 y.f5.length e5, .slice Y6 y.f6.length e6]] rfl (by (try simp only [List.map_toArray, List.map_cons, List.map_nil]); first | done | rfl) ?_; (refine (cnt9_of c NY.out.nd FinY.out HC.out).mono ?_); (rintro e w3 ⟨rfl, hb⟩; refine ⟨_, rfl, ?_⟩; clear hy0 hy1 hy2 hy3 hy4 hy5 hy6; have n0 := Aside0.mk (below_step HB.out hb); have n1 := Aside0.mk (blk_below BA.out hb); have n2 := Aside0.mk (blk_below BR.out hb); have n3 := Aside0.mk (Kd.N_below HN.out hb); have n4 := Aside0.mk (NY.out.below hb); have n5 := Aside0.mk (EY.out.below hb); have n6 := Aside0.mk (fun j => (hb.frozen (p := ⟨g, i * 7 + j, none⟩) (Nat.lt_of_lt_of_le (Kd.N_lt HN.out g rfl) (Nat.le_refl _))).trans (FY.out j)); clear HB BA BR HN NY EY FY; have HB := n0; have BA := n1; have BR := n2; have HN := n3; have NY := n4; have EY := n5; have FY := n6; clear n0 n1 n2 n3 n4 n5 n6; clear hb)))
          go_roundg (x.f2.length - (i + 1))
          case measure => have := HK.out; omega
          case rel => exact ⟨i + 1, n + c, rfl, by simp, by omega, by omega, by have := HNB.out; omega, ⟨by have h2 := HNN.out; have h3 := HC2.out; have h4 := HTK.out; rw [h4]; omega⟩, ⟨by have := HK.out; omega⟩, ⟨by rw [ES.out]; exact HN.out⟩, BA, BR, HB⟩
      · have c1a : decide (n ≤ kz) = false := decide_eq_false c1
        have HM := Aside0.mk (show kz < n by omega)
        clear c1
        have ES := Aside0.mk (show cur x.f2 m p (i + 1) = cur x.f2 m p i from by rw [cur_step _ _ _ _ hlt]; have h1 := HKZ.out; have h2 := HNN.out; have h3 := HC2.out; have h4 := HM.out; have h5 := HYE.out; rw [← h5]; rw [if_pos (by omega)])
        clear HM
        go_wp2_with (first | ((with_reducible refine gate_dst (N := 80) rfl ?_); refine goesL_ (some 80) rfl rfl Try.func20 (by kernel_rfl) rfl #[.agg #[.int .i64 y.f0, .string y.f1, .slice Y2 y.f2.length e2, .bool y.f3, .bool y.f4, .slice Y5 y.f5.length e5, .slice Y6 y.f6.length e6]] rfl (by (try simp only [List.map_toArray, List.map_cons, List.map_nil]); first | done | rfl) ?_; (refine (cnt9_of c NY.out.nd FinY.out HC.out).mono ?_); (rintro e w3 ⟨rfl, hb⟩; refine ⟨_, rfl, ?_⟩; clear hy0 hy1 hy2 hy3 hy4 hy5 hy6; have n0 := Aside0.mk (below_step HB.out hb); have n1 := Aside0.mk (blk_below BA.out hb); have n2 := Aside0.mk (blk_below BR.out hb); have n3 := Aside0.mk (Kd.N_below HN.out hb); have n4 := Aside0.mk (NY.out.below hb); have n5 := Aside0.mk (EY.out.below hb); have n6 := Aside0.mk (fun j => (hb.frozen (p := ⟨g, i * 7 + j, none⟩) (Nat.lt_of_lt_of_le (Kd.N_lt HN.out g rfl) (Nat.le_refl _))).trans (FY.out j)); clear HB BA BR HN NY EY FY; have HB := n0; have BA := n1; have BR := n2; have HN := n3; have NY := n4; have EY := n5; have FY := n6; clear n0 n1 n2 n3 n4 n5 n6; clear hb)))
        go_roundg (x.f2.length - (i + 1))
        case measure => have := HK.out; omega
        case rel => exact ⟨i + 1, n + c, rfl, by simp, by omega, by omega, by have := HNB.out; omega, ⟨by have h2 := HNN.out; have h3 := HC2.out; have h4 := HTK.out; rw [h4]; omega⟩, ⟨by have := HK.out; omega⟩, ⟨by rw [ES.out]; exact HN.out⟩, BA, BR, HB⟩
    · obtain rfl : i = x.f2.length := by omega
      rw [cur_end] at HN
      have ha2 : wr.cell? ⟨ga, 2, none⟩ = some (.slice A2 x.f2.length c2) := (blk_cell BA.out 2).trans rfl; have fa2 := blk_frozen BA.out 2
      go_upto_region 27 with (fail)
      have B1 := Aside0.mk (blk_put BA.out 2 (.slice (some ⟨g, 0, none⟩) x.f2.length cap) (cs' := #[.int .i64 x.f0, .string x.f1, .slice (some ⟨g, 0, none⟩) x.f2.length cap, .bool x.f3, .bool x.f4, .slice A5 x.f5.length c5, .slice A6 x.f6.length c6]) rfl)
      have Z1 := Aside0.mk (blk_far BR.out (p := ⟨ga, 2, none⟩) NE.out.symm (.slice (some ⟨g, 0, none⟩) x.f2.length cap))
      have H1 := Aside0.mk (below_set (g := ga) (j := 2) (v := .slice (some ⟨g, 0, none⟩) x.f2.length cap) HB.out GA.out)
      have F1 := Aside0.mk (Kd.F_far (Kd.N_F HN.out) (p := ⟨ga, 2, none⟩) (fun k hk => hk.2.1) (.slice (some ⟨g, 0, none⟩) x.f2.length cap))
      have LC := Aside0.mk (Kd.N_reads' HN.out).2.1
      clear BA BR HB HN ha2 fa2
      generalize World.setCell _ _ _ = w4 at B1 Z1 H1 F1 ⊢
      have ha0 : w4.cell? ⟨ga, 0, none⟩ = some (.int .i64 x.f0) := (blk_cell B1.out 0).trans rfl; have fa0 := blk_frozen B1.out 0; have ha1 : w4.cell? ⟨ga, 1, none⟩ = some (.string x.f1) := (blk_cell B1.out 1).trans rfl; have fa1 := blk_frozen B1.out 1; have ha2 : w4.cell? ⟨ga, 2, none⟩ = some (.slice (some ⟨g, 0, none⟩) x.f2.length cap) := (blk_cell B1.out 2).trans rfl; have fa2 := blk_frozen B1.out 2; have ha3 : w4.cell? ⟨ga, 3, none⟩ = some (.bool x.f3) := (blk_cell B1.out 3).trans rfl; have fa3 := blk_frozen B1.out 3; have ha4 : w4.cell? ⟨ga, 4, none⟩ = some (.bool x.f4) := (blk_cell B1.out 4).trans rfl; have fa4 := blk_frozen B1.out 4; have ha5 : w4.cell? ⟨ga, 5, none⟩ = some (.slice A5 x.f5.length c5) := (blk_cell B1.out 5).trans rfl; have fa5 := blk_frozen B1.out 5; have ha6 : w4.cell? ⟨ga, 6, none⟩ = some (.slice A6 x.f6.length c6) := (blk_cell B1.out 6).trans rfl; have fa6 := blk_frozen B1.out 6; have hr0 : w4.cell? ⟨gr, 0, none⟩ = some (.int .i64 0) := (blk_cell Z1.out 0).trans rfl; have fr0 := blk_frozen Z1.out 0; have hr1 : w4.cell? ⟨gr, 1, none⟩ = some (.string (⟨#[]⟩ : ByteArray)) := (blk_cell Z1.out 1).trans rfl; have fr1 := blk_frozen Z1.out 1; have hr2 : w4.cell? ⟨gr, 2, none⟩ = some (.slice none 0 0) := (blk_cell Z1.out 2).trans rfl; have fr2 := blk_frozen Z1.out 2; have hr3 : w4.cell? ⟨gr, 3, none⟩ = some (.bool false) := (blk_cell Z1.out 3).trans rfl; have fr3 := blk_frozen Z1.out 3; have hr4 : w4.cell? ⟨gr, 4, none⟩ = some (.bool false) := (blk_cell Z1.out 4).trans rfl; have fr4 := blk_frozen Z1.out 4; have hr5 : w4.cell? ⟨gr, 5, none⟩ = some (.slice none 0 0) := (blk_cell Z1.out 5).trans rfl; have fr5 := blk_frozen Z1.out 5; have hr6 : w4.cell? ⟨gr, 6, none⟩ = some (.slice none 0 0) := (blk_cell Z1.out 6).trans rfl; have fr6 := blk_frozen Z1.out 6
      go_wp2_with fail
      refine bodyPost_ret (results_ct rfl _ _ gr 26 #[.int .i64 x.f0, .string x.f1, .slice (some ⟨g, 0, none⟩) x.f2.length cap, .bool x.f3, .bool x.f4, .slice A5 x.f5.length c5, .slice A6 x.f6.length c6] (0, 0) _ rfl (set7_blk Z1.out) Try.underlying26 rfl (by kernel_rfl)) rfl ?_
      have hT : turnV kx x (m + 1) p = ⟨x.f0, x.f1, turnL kx x.f2 m p, x.f3, x.f4, x.f5, x.f6⟩ := by rw [turnV_eq, if_neg (by omega)]; rfl
      have hB := set7_below (v0 := .int .i64 x.f0) (v1 := .string x.f1) (v2 := .slice (some ⟨g, 0, none⟩) x.f2.length cap) (v3 := .bool x.f3) (v4 := .bool x.f4) (v5 := .slice A5 x.f5.length c5) (v6 := .slice A6 x.f6.length c6) H1.out GR.out
      have hN := (HX.out.below hB).mono (ok' := fun i => ok i ∨ w.heap.size ≤ i) (fun _ h => Or.inl h)
      have hF := Kd.F_mono (ok' := fun i => ok i ∨ w.heap.size ≤ i) (Kd.F_step F1.out (fun k hk _ => set7_other (v0 := .int .i64 x.f0) (v1 := .string x.f1) (v2 := .slice (some ⟨g, 0, none⟩) x.f2.length cap) (v3 := .bool x.f3) (v4 := .bool x.f4) (v5 := .slice A5 x.f5.length c5) (v6 := .slice A6 x.f6.length c6) hk.2.2)) (fun _ h => h.1.elim (fun h1 => Or.inl h1.1) Or.inr)
      rw [hT]
      have hlen := turnL_length kx x.f2 m p
      refine ⟨some ⟨g, 0, none⟩, cap, A5, c5, A6, c6, n, ?_, ⟨?_, ?_, hN.g5, hN.l5, hN.g6, hN.l6⟩, hB⟩
      · show _ = Ending.returned (.tuple #[.agg #[.int .i64 x.f0, .string x.f1, .slice (some ⟨g, 0, none⟩) (turnL kx x.f2 m p).length cap, .bool x.f3, .bool x.f4, .slice A5 x.f5.length c5, .slice A6 x.f6.length c6], .int .i64 n])
        rw [hlen]
        rfl
      · show Kd.F k26 _ _ _ (turnL kx x.f2 m p).length (turnL kx x.f2 m p)
        rw [hlen]; exact hF
      · show (turnL kx x.f2 m p).length ≤ cap
        rw [hlen]; exact LC.out
end Go.Proofs.Ytjlnlonioknkhaa.PA
