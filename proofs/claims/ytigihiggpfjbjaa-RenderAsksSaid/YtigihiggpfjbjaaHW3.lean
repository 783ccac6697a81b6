/- The writer as it lies, and the builder in it: copyCheck, WriteByte, WriteString, String. -/
import Derived.Test.YtigihiggpfjbjaaHQ1
import Derived.Lib.Builder
import Derived.Lib.UnsafeStr
import Derived.Lib.AppendStr
import Derived.WalkSmall
namespace Go.Proofs.Ytigihiggpfjbjaa.PR
open Go.RowKit Go.Proofs.YtigihiggpfjbjaaW.PrintWords Go.Proofs.YtigihiggpfjbjaaW.PrintLast Go.Proofs.YtigihiggpfjbjaaW.PrintMore
set_option linter.unusedVariables false
set_option linter.unusedSimpArgs false
/-- Which operations of a region are done, as a number's bits. -/
def bt (n m : Nat) : Array Bool := ((List.range n).map fun i => m.testBit i).toArray
theorem pset : (∀ (l : List Value) (i : Nat) (a : Value), l.toArray.setIfInBounds i a = (l.set i a).toArray) ∧ (∀ (l : List Value) (a b : Value), (a :: l).set 0 b = b :: l) ∧ (∀ (l : List Value) (a b : Value) (n : Nat), (a :: l).set (n + 1) b = a :: l.set n b) ∧ (∀ n : Int, IntKind.i64.wrap n = wrap64 n) ∧ (∀ n : Int, IntKind.i32.wrap n = wrap32 n) :=
  ⟨fun l i a => List.setIfInBounds_toArray l i a, fun _ _ _ => rfl, fun _ _ _ _ => rfl, i64_w, i32_w⟩
theorem R_pop {sz e base g n cap : Nat} {w : World} {ok : Nat → Prop} {xs : List (List Value)} {x : List Value} (h : (Kd.raw sz).R e w base ok (.slice (some ⟨g, 0, none⟩) n cap) (xs ++ [x])) : (Kd.raw sz).R e w base ok (.slice (some ⟨g, 0, none⟩) (n - 1) cap) xs := by
  obtain ⟨h0, inner, hown, hr⟩ := h
  have hn : n = xs.length + 1 := by
    obtain ⟨A, c, hv⟩ := own_slice hown
    injection hv with _ hn _
    rw [hn, List.length_append]; rfl
  subst hn
  have hlen : inner.length = (xs.length + 1) * sz := by
    have := hr.1
    rw [this, List.length_append]; rfl
  have h1 : inner = inner.take (xs.length * sz) ++ inner.drop (xs.length * sz) := (List.take_append_drop _ _).symm
  have hl1 : (inner.take (xs.length * sz)).length = xs.length * sz := by rw [List.length_take, hlen, Nat.succ_mul]; omega
  rw [List.length_append] at hown
  rw [h1] at hown
  have h2 := ownsRow_pop (n := xs.length) hl1 hown
  refine ⟨h0, _, h2, hl1, fun j p hj => ?_⟩
  have hjl := (List.getElem?_eq_some_iff.1 hj).1
  have h3 := hr.2 j p (by rw [List.getElem?_append_left hjl]; exact hj)
  have hle : j * sz + sz ≤ xs.length * sz := by rw [← Nat.succ_mul]; exact Nat.mul_le_mul_right _ hjl
  have h5 : ((inner.take (xs.length * sz)).drop (j * sz)).take sz = (inner.drop (j * sz)).take sz := by rw [List.drop_take, List.take_take, Nat.min_eq_left (by omega)]
  have h6 : (Kd.raw sz).M w base (fun k => ok k ∧ some k ≠ (Value.slice (some ⟨g, 0, none⟩) (xs.length + 1) cap).ownBlock) p ((inner.drop (j * sz)).take sz) := h3
  rw [← h5] at h6
  exact h6
/-- The writer's block (cells cs) and the rows of its own: what it has written (out), what is to come (rows, the top last), what it has told of groups. -/
structure Wr0 (w : World) (B gw : Nat) (cs : Array Value) (vb vr vm : Value) (out : List Int) (rows : List (List Value)) (modes : List Bool) : Prop where
  wa : w.heap[gw]? = some (.cells cs 57 (0, 0))
  hb : w.ownsRow B 5 1 vb out.length (nums .u8 out)
  hr : (Kd.raw 3).R 68 w B (fun k => B ≤ k) vr rows
  hm : w.ownsRow B 4 1 vm (modes.map Value.bool).length (modes.map Value.bool)
  bw : B ≤ gw
def wcs (a vb vr vm : Value) (wd col pen : Int) : Array Value := #[a, vb, .int .i64 wd, .int .i64 col, .int .i64 pen, vr, vm]
structure WrAt (w : World) (B gw : Nat) (a vb vr vm : Value) (wd col pen : Int) (out : List Int) (rows : List (List Value)) (modes : List Bool) : Prop where
  h0 : Wr0 w B gw (wcs a vb vr vm wd col pen) vb vr vm out rows modes
  ha : a = .pointer none ∨ a = .pointer (some ⟨gw, 0, none⟩)
section
variable {w w' : World} {B gw : Nat} {a vb vr vm v1 : Value} {wd col pen : Int} {out out' : List Int} {rows rows' : List (List Value)} {modes modes' : List Bool} {cs : Array Value}
theorem own_ne_blk {g : Nat} {e : TypeId} {n s : Nat} {v : Value} {cs : Array Value} {xs : List Value} {t : TypeId} (h : w.ownsRow B e s v n xs) (hb : w.heap[g]? = some (.cells cs t (0, 0))) (hne : t ≠ e) : v.ownBlock ≠ some g := fun he => by
  obtain ⟨cells, hc⟩ := own_typed h g he
  exact blk_ne hb hc hne rfl
theorem raw_ne_blk {g : Nat} {e : TypeId} {s : Nat} {v : Value} {ok : Nat → Prop} {xs : List (List Value)} {cs : Array Value} {t : TypeId} (h : (Kd.raw s).R e w B ok v xs) (hb : w.heap[g]? = some (.cells cs t (0, 0))) (hne : t ≠ e) : v.ownBlock ≠ some g := fun he => by
  obtain ⟨cells, hc⟩ := Kd.R_typed h g he
  exact blk_ne hb hc hne rfl
theorem raw_keep {e : TypeId} {s : Nat} {v : Value} {xs : List (List Value)} (h : (Kd.raw s).R e w B (fun k => B ≤ k) v xs) (hk : ∀ k, v.ownBlock = some k → w'.heap[k]? = w.heap[k]?) : (Kd.raw s).R e w' B (fun k => B ≤ k) v xs :=
  Kd.R_reok rfl (Kd.R_step (Kd.R_tight rfl h) (fun k hk' _ => hk k hk'.symm)) (fun k hk' => Kd.R_base h k hk')
theorem Wr0.base_le (h : Wr0 w B gw cs vb vr vm out rows modes) : B ≤ w.heap.size := Nat.le_trans h.bw (Nat.le_of_lt (blk_lt h.wa))
theorem Wr0.below (h : Wr0 w B gw cs vb vr vm out rows modes) (hb : Below w.heap.size w w') : Wr0 w' B gw cs vb vr vm out rows modes :=
  ⟨blk_below h.wa hb, pw_own_below h.hb hb, Kd.R_below h.hr hb, pw_own_below h.hm hb, h.bw⟩
theorem own_set {e : TypeId} {n s : Nat} {v : Value} {xs : List Value} (h : w.ownsRow B e s v n xs) (hne : v.ownBlock ≠ some gw) (j : Nat) (u : Value) : (w.setCell ⟨gw, j, none⟩ u).ownsRow B e s v n xs :=
  h.kept (row := some gw) ⟨rfl, rfl, rfl, by simp [World.setCell], fun k _ hk => Below.heap_setCell _ _ _ _ (fun e => hk (by simp [e]))⟩ (Or.inr hne)
/-- A store into the writer's own block. -/
theorem Wr0.set (h : Wr0 w B gw cs vb vr vm out rows modes) (j : Nat) (u : Value) {cs' : Array Value} (hc : cs.setIfInBounds j u = cs') : Wr0 (w.setCell ⟨gw, j, none⟩ u) B gw cs' vb vr vm out rows modes := by
  refine ⟨blk_put h.wa j u hc, own_set h.hb (own_ne_blk h.hb h.wa (by decide)) j u, ?_, own_set h.hm (own_ne_blk h.hm h.wa (by decide)) j u, h.bw⟩
  have hne := raw_ne_blk h.hr h.wa (by decide)
  exact raw_keep h.hr (fun k hk => Below.heap_setCell w ⟨gw, j, none⟩ u k (fun e => hne (by rw [hk, e])))
theorem Wr0.set_below (h : Wr0 w B gw cs vb vr vm out rows modes) (j : Nat) (u : Value) : Below B w (w.setCell ⟨gw, j, none⟩ u) := (Below.refl B w).setCell h.bw u
/-- The bytes have grown. -/
theorem Wr0.grow_b (h : Wr0 w B gw cs vb vr vm out rows modes) (ho : w'.ownsRow B 5 1 v1 out'.length (nums .u8 out')) (hg : w.grownBy w' vb.ownBlock) : Wr0 w' B gw cs v1 vr vm out' rows modes := by
  refine ⟨blk_grown h.wa hg (own_ne_blk h.hb h.wa (by decide)).symm, ho, raw_keep h.hr (fun k hk => ?_), own_other h.hm hg (own_type_ne h.hm h.hb (by decide)), h.bw⟩
  obtain ⟨cells, hc⟩ := Kd.R_typed h.hr k hk
  exact hg.block k (blk_lt hc) (fun e => own_ne_blk h.hb hc (by decide) e.symm)
/-- What it tells of groups has grown. -/
theorem Wr0.grow_m (h : Wr0 w B gw cs vb vr vm out rows modes) (ho : w'.ownsRow B 4 1 v1 (modes'.map Value.bool).length (modes'.map Value.bool)) (hg : w.grownBy w' vm.ownBlock) : Wr0 w' B gw cs vb vr v1 out rows modes' := by
  refine ⟨blk_grown h.wa hg (own_ne_blk h.hm h.wa (by decide)).symm, own_other h.hb hg (own_type_ne h.hb h.hm (by decide)), raw_keep h.hr (fun k hk => ?_), ho, h.bw⟩
  obtain ⟨cells, hc⟩ := Kd.R_typed h.hr k hk
  exact hg.block k (blk_lt hc) (fun e => own_ne_blk h.hm hc (by decide) e.symm)
/-- What is to come has grown. -/
theorem Wr0.grow_r (h : Wr0 w B gw cs vb vr vm out rows modes) (ho : (Kd.raw 3).R 68 w' B (fun k => B ≤ k) v1 rows') (hg : w.grownBy w' vr.ownBlock) : Wr0 w' B gw cs vb v1 vm out rows' modes := by
  have aux : ∀ {e : TypeId} {n s : Nat} {v : Value} {xs : List Value}, w.ownsRow B e s v n xs → e ≠ 68 → v.ownBlock = none ∨ v.ownBlock ≠ vr.ownBlock := fun {e n s v xs} h1 h2 => by
    cases hv : v.ownBlock with
    | none => exact Or.inl rfl
    | some k =>
      obtain ⟨cells, hc⟩ := own_typed h1 k hv
      exact Or.inr (raw_ne_blk h.hr hc h2).symm
  exact ⟨blk_grown h.wa hg (raw_ne_blk h.hr h.wa (by decide)).symm, own_other h.hb hg (aux h.hb (by decide)), ho, own_other h.hm hg (aux h.hm (by decide)), h.bw⟩
theorem Wr0.vals (h : Wr0 w B gw cs vb vr vm out rows modes) : (∃ A c, vb = .slice A out.length c) ∧ (∃ A c, vr = .slice A rows.length c) ∧ ∃ A c, vm = .slice A modes.length c := by
  obtain ⟨A, c, e⟩ := own_slice h.hm
  exact ⟨own_slice h.hb, Kd.R_slice h.hr, A, c, by rw [e, List.length_map]⟩
theorem liesB : liesAt Try.prog Try.prog.depth 57 (7 / Try.prog.cellsOf 57) 0 54 1 = true := by kernel_rfl
theorem infoB : (Try.prog.info? 54).map (·.size) = some 2 := by kernel_rfl
theorem shape57 (hs : cs.size = 7) (h : w.heap[gw]? = some (.cells cs 57 (0, 0))) : w.shape? gw = some (57, 7) := by simp [World.shape?, h, hs]
set_option maxRecDepth 100000 in
theorem check_calls (h : WrAt w B gw a vb vr vm wd col pen out rows modes) : Calls Try.prog 53 #[.pointer (some ⟨gw, 0, none⟩)] w fun e w' => e = .returned (.tuple #[]) ∧ WrAt w' B gw (.pointer (some ⟨gw, 0, none⟩)) vb vr vm wd col pen out rows modes ∧ Below B w w' := by
  obtain ⟨j, hj, hjs⟩ := Option.map_eq_some_iff.1 infoB
  have hu54 := Try.underlying54
  have c0 : w.cell? ⟨gw, 0, none⟩ = some a := (blk_cell h.h0.wa 0).trans rfl
  have f0 := blk_frozen h.h0.wa 0
  rcases h.ha with e | e
  · subst e
    have hs := h.h0.set 0 (.pointer (some ⟨gw, 0, none⟩)) (cs' := wcs (.pointer (some ⟨gw, 0, none⟩)) vb vr vm wd col pen) rfl
    have hsh := shape57 rfl h.h0.wa
    have H := Aside0.mk h
    have HS := Aside0.mk hs
    clear h hs
    go_enter Try.func53, Try.ntmps53
    go_wp2
    rw [Lib.run_to_unsafe w ⟨gw, 0, none⟩ Try.underlying52 Try.underlying95 hj (by rw [hjs]; decide) hsh (Nat.zero_lt_succ 6)]
    simp only [Result.andThen]
    rw [Oper.upon_value]
    go_wp2
    rw [run_callFunc_extern Try.func58 (by kernel_rfl) (by kernel_rfl) (by kernel_rfl) (e := Extern.AbiNoEscape.same) (by kernel_rfl)]
    rw [Lib.run_noEscape]
    simp only [Result.andThen]
    rw [Oper.upon_value]
    go_wp2
    rw [Lib.run_from_unsafe w ⟨gw, 0, none⟩ Try.underlying95 Try.underlying52 hj hsh liesB]
    simp only [Result.andThen]
    rw [Oper.upon_value]
    go_wp2
    go_end0
    exact ⟨rfl, ⟨HS.out, Or.inr rfl⟩, H.out.h0.set_below 0 _⟩
  · subst e
    have H := Aside0.mk h
    clear h
    go_enter Try.func53, Try.ntmps53
    go_wp2
    rw [Lib.run_neq_ptr_same w _ Try.underlying52 hj]
    go_wp2
    go_end0
    exact ⟨rfl, H.out, Below.refl _ _⟩
end
end Go.Proofs.Ytigihiggpfjbjaa.PR

/- WriteByte, WriteString and String at the builder in the writer. -/
namespace Go.Proofs.Ytigihiggpfjbjaa.PR
open Go.RowKit Go.Proofs.YtigihiggpfjbjaaW.PrintWords Go.Proofs.YtigihiggpfjbjaaW.PrintLast Go.Proofs.YtigihiggpfjbjaaW.PrintMore
set_option linter.unusedVariables false
set_option linter.unusedSimpArgs false
section
variable {w w' : World} {B gw : Nat} {a vb vr vm v1 : Value} {wd col pen : Int} {out out' : List Int} {rows rows' : List (List Value)} {modes modes' : List Bool} {cs : Array Value}
theorem infoU8 : (Try.prog.info? 5).map (fun i => (i.zero, i.size, i.bytes)) = some (some (.int .u8 0), 1, 1) := by kernel_rfl
/-- A writer, wherever its rows lie. -/
def Wr (w : World) (B gw : Nat) (wd col pen : Int) (out : List Int) (rows : List (List Value)) (modes : List Bool) : Prop := ∃ a vb vr vm, WrAt w B gw a vb vr vm wd col pen out rows modes
theorem Wr.below (h : Wr w B gw wd col pen out rows modes) (hb : Below w.heap.size w w') : Wr w' B gw wd col pen out rows modes := by
  obtain ⟨a, vb, vr, vm, h0, ha⟩ := h
  exact ⟨a, vb, vr, vm, h0.below hb, ha⟩
theorem Wr.base_le (h : Wr w B gw wd col pen out rows modes) : B ≤ w.heap.size := by
  obtain ⟨a, vb, vr, vm, h0, ha⟩ := h
  exact h0.base_le
set_option maxHeartbeats 2000000 in
set_option maxRecDepth 100000 in
theorem wbyte_calls (c : Int) (h : Wr w B gw wd col pen out rows modes) (hl : out.length + 1 ≤ 140737488355328) : Calls Try.prog 48 #[.pointer (some ⟨gw, 0, none⟩), .int .u8 c] w fun e w' => e = .returned .nilIface ∧ Wr w' B gw wd col pen (out ++ [c]) rows modes ∧ Below B w w' := by
  have hu54 := Try.underlying54
  have hu35 := Try.underlying35
  obtain ⟨a, vb, vr, vm, h⟩ := h
  have H := Aside0.mk h
  have HL := Aside0.mk hl
  clear h hl
  go_enter Try.func48, Try.ntmps48
  go_wp2_with (first | ((with_reducible refine gate_dst (N := 6) rfl ?_); refine goesL_ (some 6) rfl rfl Try.func53 (by kernel_rfl) rfl #[.pointer (some ⟨gw, 0, none⟩)] rfl (by (try simp only [List.map_toArray, List.map_cons, List.map_nil]); first | done | rfl) ?_; (refine (check_calls H.out).mono ?_); (rintro e w9 ⟨rfl, hp, hb⟩; refine ⟨_, rfl, ?_⟩; clear H; have H := Aside0.mk hp; have HB := Aside0.mk hb; clear hp hb; have c1 : w9.cell? ⟨gw, 1, none⟩ = some vb := (blk_cell H.out.h0.wa 1).trans rfl; have f1 := blk_frozen H.out.h0.wa 1)) | ((with_reducible refine gate_dst (N := 14) rfl ?_); refine print_append_num (w0 := w) B rfl (.tmp 11) (.tmp 13) 35 5 .u8 1 rfl Try.underlying35 infoU8 (by decide) vb out c rfl rfl H.out.h0.hb HB.out (Nat.le_trans H.out.h0.base_le (Nat.le_refl _)) (by have := HL.out; omega) ?_; intro v1 w2 hown hbl hg hat; obtain ⟨A1, k1, ev1⟩ := own_slice hown; obtain ⟨n1, hn1⟩ : ∃ n, (out ++ [c]).length = n := ⟨_, rfl⟩; rw [hn1] at ev1; clear hn1; subst ev1; have G := Aside0.mk (H.out.h0.grow_b hown hg); have HA := Aside0.mk H.out.ha; clear H HB c1 f1 hown hg hat; have HB := Aside0.mk hbl; clear hbl; have c1 : w2.cell? ⟨gw, 1, none⟩ = some vb := (blk_cell G.out.wa 1).trans rfl; have f1 := blk_frozen G.out.wa 1))
  go_ret
  exact ⟨rfl, ⟨.pointer (some ⟨gw, 0, none⟩), _, _, _, G.out.set 1 _ rfl, Or.inr rfl⟩, HB.out.trans (G.out.set_below 1 _)⟩
set_option maxHeartbeats 2000000 in
set_option maxRecDepth 100000 in
theorem wstr_calls (s : ByteArray) (h : Wr w B gw wd col pen out rows modes) (hl : out.length + s.size ≤ 140737488355328) : Calls Try.prog 49 #[.pointer (some ⟨gw, 0, none⟩), .string s] w fun e w' => e = .returned (.tuple #[.int .i64 s.size, .nilIface]) ∧ Wr w' B gw wd col pen (out ++ bytesOf s) rows modes ∧ Below B w w' := by
  have hu54 := Try.underlying54
  have hu35 := Try.underlying35
  obtain ⟨a, vb, vr, vm, h⟩ := h
  have H := Aside0.mk h
  have HL := Aside0.mk hl
  clear h hl
  go_enter Try.func49, Try.ntmps49
  go_wp2_with (first | ((with_reducible refine gate_dst (N := 7) rfl ?_); refine goesL_ (some 7) rfl rfl Try.func53 (by kernel_rfl) rfl #[.pointer (some ⟨gw, 0, none⟩)] rfl (by (try simp only [List.map_toArray, List.map_cons, List.map_nil]); first | done | rfl) ?_; (refine (check_calls H.out).mono ?_); (rintro e w9 ⟨rfl, hp, hb⟩; refine ⟨_, rfl, ?_⟩; clear H; have H := Aside0.mk hp; have HB := Aside0.mk hb; clear hp hb; have c1 : w9.cell? ⟨gw, 1, none⟩ = some vb := (blk_cell H.out.h0.wa 1).trans rfl; have f1 := blk_frozen H.out.h0.wa 1)) | ((with_reducible refine gate_dst (N := 14) rfl ?_); refine print_append_str (w0 := w) B rfl (.tmp 12) (.tmp 13) 35 9 5 rfl Try.underlying35 Try.underlying9 infoU8 vb out s rfl rfl H.out.h0.hb HB.out H.out.h0.base_le (by have := HL.out; omega) ?_; intro v1 w2 hown hbl hg; obtain ⟨A1, k1, ev1⟩ := own_slice hown; obtain ⟨n1, hn1⟩ : ∃ n, (out ++ bytesOf s).length = n := ⟨_, rfl⟩; rw [hn1] at ev1; clear hn1; subst ev1; have G := Aside0.mk (H.out.h0.grow_b hown hg); have HA := Aside0.mk H.out.ha; clear H HB c1 f1 hown hg; have HB := Aside0.mk hbl; clear hbl; have c1 : w2.cell? ⟨gw, 1, none⟩ = some vb := (blk_cell G.out.wa 1).trans rfl; have f1 := blk_frozen G.out.wa 1))
  go_ret2
  exact ⟨rfl, ⟨.pointer (some ⟨gw, 0, none⟩), _, _, _, G.out.set 1 _ rfl, Or.inr rfl⟩, HB.out.trans (G.out.set_below 1 _)⟩
/-- What has been written, as a text. -/
def strOf (out : List Int) : ByteArray := strOfNums out
theorem string_nil {p c : Value} (hb : w.heap[gw]? = some (.cells cs 57 (0, 0))) (h1 : cs[1]? = some (.slice none 0 0)) : Calls Try.prog 24 #[.pointer (some ⟨gw, 0, none⟩)] w fun e w' => e = .returned (.string ⟨#[]⟩) ∧ Below w.heap.size w w' := by
  have hUS : ∀ (W : World) (q : Option Addr), (Builtin.unsafeString_ #[70, 3] 9 #[.pointer q, .int .i64 0]).run Try.prog W = .ok (.string .empty) W := fun W q => Lib.run_unsafeString_none W _ _ _ q
  have c1 : w.drew.cell? ⟨gw, 1, none⟩ = some (.slice none 0 0) := (blk_cell (w := w) hb 1).trans h1
  have hSD : (Builtin.unsafeSliceData_ #[35] 70 #[.slice none 0 0]).run Try.prog w.drew = .ok (.pointer none) w.drew := rfl
  have hu54 := Try.underlying54
  clear hb h1
  go_enter Try.func24, Try.ntmps24
  go_wp2
  go_region
  all_goals (go_wp2; go_ret; exact ⟨rfl, Below.drew (Below.refl _ w)⟩)
theorem string_some {g cap : Nat} {cur : Array Value} {l : List UInt8} (hb : w.heap[gw]? = some (.cells cs 57 (0, 0))) (h1 : cs[1]? = some (.slice (some ⟨g, 0, none⟩) l.length cap)) (h0 : l ≠ []) (hg : w.heap[g]? = some (.cells cur 5 (0, 0))) (hnc : l.length ≤ cap) (hcm : cap ≤ maxLen) (hcs : cur.size = cap) (hrd : ∀ j x, l[j]? = some x → w.cell? ⟨g, j, none⟩ = some (.int .u8 x.toNat)) (hB : B ≤ g) :
    Calls Try.prog 24 #[.pointer (some ⟨gw, 0, none⟩)] w fun e w' => e = .returned (.string ⟨l.toArray⟩) ∧ Below B w w' := by
  have hl0 : l.length ≠ 0 := by simpa using h0
  have c1 : w.drew.cell? ⟨gw, 1, none⟩ = some (.slice (some ⟨g, 0, none⟩) l.length cap) := (blk_cell (w := w) hb 1).trans h1
  have hSD : (Builtin.unsafeSliceData_ #[35] 70 #[.slice (some ⟨g, 0, none⟩) l.length cap]).run Try.prog w.drew = .ok (.pointer (some ⟨g, 0, none⟩)) w.drew :=
    Lib.run_unsafeSliceData_row _ _ _ _ _ _ (by omega)
  have hUS : (Builtin.unsafeString_ #[70, 3] 9 #[.pointer (some ⟨g, 0, none⟩), .int .i64 l.length]).run Try.prog w.drew = .ok (.string ⟨l.toArray⟩) (w.drew.freeze ⟨g, 0, none⟩ l.length) := by
    refine Lib.run_unsafeString_row w.drew 70 3 9 5 Try.underlying70 (by kernel_rfl) g cur.size (by have hg' : w.drew.heap[g]? = some (.cells cur 5 (0, 0)) := hg; simp [World.shape?, hg']) l h0 (by omega) (by unfold maxLen at hcm; omega) ?_
    intro j x hx
    exact (congrArg (w.drew.cell? ·) (by unfold Addr.add; split <;> simp_all)).trans (hrd j x hx)
  have hu54 := Try.underlying54
  clear hb h1 hrd
  go_enter Try.func24, Try.ntmps24
  go_wp2
  go_region
  all_goals (go_wp2; go_ret; exact ⟨rfl, Lib.below_freeze (Below.drew (Below.refl B w)) (p := ⟨g, 0, none⟩) hB _⟩)
end
end Go.Proofs.Ytigihiggpfjbjaa.PR

/- The writer's text and line. -/
namespace Go.Proofs.Ytigihiggpfjbjaa.PR
open Go.RowKit Go.Proofs.YtigihiggpfjbjaaW.PrintWords Go.Proofs.YtigihiggpfjbjaaW.PrintLast Go.Proofs.YtigihiggpfjbjaaW.PrintMore
set_option linter.unusedVariables false
set_option linter.unusedSimpArgs false
section
variable {w w' : World} {B gw : Nat} {wd col pen : Int} {out out' : List Int} {rows rows' : List (List Value)} {modes modes' : List Bool}
/-- The writer's own cells. -/
theorem Wr.open_ (h : Wr w B gw wd col pen out rows modes) : ∃ a vb vr vm, WrAt w B gw a vb vr vm wd col pen out rows modes ∧ w.cell? ⟨gw, 2, none⟩ = some (.int .i64 wd) ∧ w.cell? ⟨gw, 3, none⟩ = some (.int .i64 col) ∧ w.cell? ⟨gw, 4, none⟩ = some (.int .i64 pen) ∧ w.cell? ⟨gw, 5, none⟩ = some vr ∧ w.cell? ⟨gw, 6, none⟩ = some vm := by
  obtain ⟨a, vb, vr, vm, h⟩ := h
  exact ⟨a, vb, vr, vm, h, (blk_cell h.h0.wa 2).trans rfl, (blk_cell h.h0.wa 3).trans rfl, (blk_cell h.h0.wa 4).trans rfl, (blk_cell h.h0.wa 5).trans rfl, (blk_cell h.h0.wa 6).trans rfl⟩
theorem Wr.set3 (h : Wr w B gw wd col pen out rows modes) (n : Int) : Wr (w.setCell ⟨gw, 3, none⟩ (.int .i64 n)) B gw wd n pen out rows modes := by
  obtain ⟨a, vb, vr, vm, h0, ha⟩ := h
  exact ⟨a, vb, vr, vm, h0.set 3 _ rfl, ha⟩
theorem Wr.set4 (h : Wr w B gw wd col pen out rows modes) (n : Int) : Wr (w.setCell ⟨gw, 4, none⟩ (.int .i64 n)) B gw wd col n out rows modes := by
  obtain ⟨a, vb, vr, vm, h0, ha⟩ := h
  exact ⟨a, vb, vr, vm, h0.set 4 _ rfl, ha⟩
theorem Wr.set_below (h : Wr w B gw wd col pen out rows modes) (j : Nat) (u : Value) : Below B w (w.setCell ⟨gw, j, none⟩ u) := by
  obtain ⟨a, vb, vr, vm, h0, ha⟩ := h
  exact h0.set_below j u
theorem Wr.frozen (h : Wr w B gw wd col pen out rows modes) (j : Nat) : w.frozen? ⟨gw, j, none⟩ = false := by
  obtain ⟨a, vb, vr, vm, h0, ha⟩ := h
  exact blk_frozen h0.wa j
set_option maxHeartbeats 2000000 in
theorem line_calls (nest : Int) (h : Wr w B gw wd col pen out rows modes) (hl : out.length + 1 ≤ 140737488355328) : Calls Try.prog 42 #[.pointer (some ⟨gw, 0, none⟩), .int .i64 nest] w fun e w' => e = .returned (.tuple #[]) ∧ Wr w' B gw wd nest nest (out ++ [10]) rows modes ∧ Below B w w' := by
  have hu57 := Try.underlying57
  have H := Aside0.mk h
  have HB := Aside0.mk (Below.refl B w)
  have HL := Aside0.mk hl
  clear h hl
  go_enter Try.func42, Try.ntmps42
  go_wp2_with (first | ((with_reducible refine gate_dst (N := 7) rfl ?_); refine goesL_ (some 7) rfl rfl Try.func48 (by kernel_rfl) rfl #[.pointer (some ⟨gw, 0, none⟩), .int .u8 10] rfl (by (try simp only [List.map_toArray, List.map_cons, List.map_nil]); first | done | rfl) ?_; (refine (wbyte_calls 10 H.out HL.out).mono ?_); (rintro e w9 ⟨rfl, hp, hb⟩; refine ⟨_, rfl, ?_⟩; have n0 := Aside0.mk hp; have n1 := Aside0.mk (HB.out.trans hb); clear H HB hp hb; have H := n0; have HB := n1; clear n0 n1; have c3 : w9.cell? ⟨gw, 3, none⟩ = some (.int .i64 col) := (by obtain ⟨_, _, _, _, _, _, q, _⟩ := H.out.open_; exact q); have f3 := H.out.frozen 3; have c4 : w9.cell? ⟨gw, 4, none⟩ = some (.int .i64 pen) := (by obtain ⟨_, _, _, _, _, _, _, q, _⟩ := H.out.open_; exact q); have f4 := H.out.frozen 4)))
  go_end0
  exact ⟨rfl, (H.out.set3 nest).set4 nest, HB.out.trans ((H.out.set_below 3 _).trans ((H.out.set3 nest).set_below 4 _))⟩
theorem text_nil (s : ByteArray) (n : Int) (he : s = (⟨#[]⟩ : ByteArray)) (h : Wr w B gw wd col pen out rows modes) : Calls Try.prog 41 #[.pointer (some ⟨gw, 0, none⟩), .string s, .int .i64 n] w fun e w' => e = .returned (.tuple #[]) ∧ w = w' := by
  subst he
  go_enter Try.func41, Try.ntmps41
  go_wp2
  (try simp only [Exit.inBlock, Exit.then]); refine bodyPost_ret (results_none rfl _ _ _) rfl ?_
  exact ⟨rfl, rfl⟩
set_option maxHeartbeats 2000000 in
theorem text_calls (s : ByteArray) (n : Int) (p : Nat) (he : s.toList.isEmpty = false) (h : Wr w B gw wd col (p : Int) out rows modes) (hp : p ≤ 1000000000) (hl : out.length + p + s.size ≤ 140737488355328) : Calls Try.prog 41 #[.pointer (some ⟨gw, 0, none⟩), .string s, .int .i64 n] w fun e w' => e = .returned (.tuple #[]) ∧ Wr w' B gw wd (wrap64 (col + n)) 0 (out ++ List.replicate p 32 ++ bytesOf s) rows modes ∧ Below B w w' := by
  have hu57 := Try.underlying57
  have H := Aside0.mk h
  have HB := Aside0.mk (Below.refl B w)
  have HL := Aside0.mk hl
  have HP := Aside0.mk hp
  clear h hl hp
  go_enter Try.func41, Try.ntmps41
  go_wp2_with fail
  go_loopg [] p (fun k' wr => ∃ j : Nat, Aside0 (k' = j) ∧ j ≤ p ∧ Aside0 (Wr wr B gw wd col (j : Int) (out ++ List.replicate (p - j) 32) rows modes) ∧ Aside0 (Below B w wr))
  case atStart => exact ⟨p, ⟨rfl⟩, Nat.le_refl _, ⟨by rw [Nat.sub_self, List.replicate_zero, List.append_nil]; exact H.out⟩, HB⟩
  case round =>
    clear H HB
    obtain ⟨j, HK, hj, H, HB⟩ := hrel
    cases j with
    | zero =>
      have c4 : wr.cell? ⟨gw, 4, none⟩ = some (.int .i64 0) := (by obtain ⟨_, _, _, _, _, _, _, q, _⟩ := H.out.open_; exact q)
      have HL2 : Aside0 ((out ++ List.replicate (p - 0) 32).length + s.size ≤ 140737488355328) := ⟨by have := HL.out; simp; omega⟩
      go_wp2_with (first | ((with_reducible refine gate_dst (N := 28) rfl ?_); refine goesL_ (some 28) rfl rfl Try.func49 (by kernel_rfl) rfl #[.pointer (some ⟨gw, 0, none⟩), .string s] rfl (by (try simp only [List.map_toArray, List.map_cons, List.map_nil]); first | done | rfl) ?_; (refine (wstr_calls s H.out HL2.out).mono ?_); (rintro e w9 ⟨rfl, hp, hb⟩; refine ⟨_, rfl, ?_⟩; clear c4; have n0 := Aside0.mk hp; have n1 := Aside0.mk (HB.out.trans hb); clear H HB hp hb; have H := n0; have HB := n1; clear n0 n1; have c3 : w9.cell? ⟨gw, 3, none⟩ = some (.int .i64 col) := (by obtain ⟨_, _, _, _, _, _, q, _⟩ := H.out.open_; exact q); have f3 := H.out.frozen 3)))
      go_end0
      exact ⟨rfl, H.out.set3 _, HB.out.trans (H.out.set_below 3 _)⟩
    | succ j =>
      have c4 : wr.cell? ⟨gw, 4, none⟩ = some (.int .i64 ((j + 1 : Nat) : Int)) := (by obtain ⟨_, _, _, _, _, _, _, q, _⟩ := H.out.open_; exact q)
      have f4 := H.out.frozen 4
      have HL1 : Aside0 ((out ++ List.replicate (p - (j + 1)) 32).length + 1 ≤ 140737488355328) := ⟨by have := HL.out; simp; omega⟩
      have EW : Aside0 (wrap64 (j : Int) = (j : Int)) := ⟨by have := HP.out; unfold wrap64; omega⟩
      have ER : Aside0 (out ++ List.replicate (p - (j + 1)) 32 ++ [(32 : Int)] = out ++ List.replicate (p - j) 32) := ⟨by
        rw [List.append_assoc, show p - j = (p - (j + 1)) + 1 from by omega, List.replicate_succ']⟩
      go_wp2_with (first | ((with_reducible refine gate_dst (N := 23) rfl ?_); refine goesL_ (some 23) rfl rfl Try.func48 (by kernel_rfl) rfl #[.pointer (some ⟨gw, 0, none⟩), .int .u8 32] rfl (by (try simp only [List.map_toArray, List.map_cons, List.map_nil]); first | done | rfl) ?_; (refine (wbyte_calls 32 H.out HL1.out).mono ?_); (rintro e w9 ⟨rfl, hp, hb⟩; refine ⟨_, rfl, ?_⟩; clear c4 f4; have n0 := Aside0.mk hp; have n1 := Aside0.mk (HB.out.trans hb); clear H HB hp hb; have H := n0; have HB := n1; clear n0 n1; have c4 : w9.cell? ⟨gw, 4, none⟩ = some (.int .i64 ((j + 1 : Nat) : Int)) := (by obtain ⟨_, _, _, _, _, _, _, q, _⟩ := H.out.open_; exact q); have f4 := H.out.frozen 4)))
      go_roundg j
      case measure => have := HK.out; omega
      case rel => exact ⟨j, ⟨rfl⟩, by omega, ⟨by have q := H.out.set4 (wrap64 (j : Int)); rw [ER.out, EW.out] at q; rw [EW.out]; exact q⟩, ⟨HB.out.trans (H.out.set_below 4 _)⟩⟩
end
end Go.Proofs.Ytigihiggpfjbjaa.PR
