/- What measure makes, part by part, as it lies. -/
import Derived.Test.YtigihiggpfjbjaaHW8
import Derived.Test.YtigihiggpfjbjaaHC4
namespace Go.Proofs.Ytigihiggpfjbjaa.PR
open Go.RowKit Go.Proofs.YtigihiggpfjbjaaW.PrintWords Go.Proofs.YtigihiggpfjbjaaW.PrintLast Go.Proofs.YtigihiggpfjbjaaW.PrintMore
set_option linter.unusedVariables false
set_option linter.unusedSimpArgs false
def frc0 (x : S24) : Bool := decide (x.f0 = 4) || (decide (x.f0 = 7) && decide (x.f1 = 1))
theorem frcB_frc0 (x : S24) : frcB x = (frc0 x || frcL x.f3) := by
  rw [frcB_eq]
  unfold frc0
  by_cases h4 : x.f0 = 4
  · simp [h4]
  · by_cases h7 : x.f0 = 7 ∧ x.f1 = 1
    · simp [h7.1, h7.2]
    · rw [if_neg h4, if_neg h7]
      have : (decide (x.f0 = 7) && decide (x.f1 = 1)) = false := by
        rw [← Bool.decide_and]; exact decide_eq_false h7
      rw [this, decide_eq_false h4]; rfl
theorem frcL_append (a b : List S24) : frcL (a ++ b) = (frcL a || frcL b) := by
  induction a with
  | nil => rfl
  | cons x r ih => rw [List.cons_append, frcL, frcL, ih, Bool.or_assoc]
theorem frcL_take (l : List S24) (i : Nat) (h : i < l.length) : frcL (l.take (i + 1)) = (frcL (l.take i) || frcB l[i]) := by
  rw [List.take_succ_eq_append_getElem h, frcL_append]
  simp [frcL]
theorem finDL_take : ∀ (l : List S24) (i : Nat), finDL l → finDL (l.take i)
  | [], i, h => by rw [List.take_nil]; exact h
  | x :: r, 0, h => trivial
  | x :: r, i + 1, h => ⟨h.1, finDL_take r i h.2⟩
theorem cntL_take_le (l : List S24) (i : Nat) : cntL (l.take i) ≤ cntL l := by
  have h := cntL_append (l.take i) (l.drop i)
  rw [List.take_append_drop] at h
  omega
theorem own1_le (k : Int) (s : ByteArray) (h : s.size ≤ 100) : 0 ≤ own1 k s ∧ own1 k s ≤ 100 := by
  have h2 := cw_le s
  unfold own1
  split
  · omega
  · split <;> omega
theorem lead0_le (k : Int) (s : ByteArray) (h : s.size ≤ 100) : 0 ≤ (lead0 k s).1 ∧ (lead0 k s).1 ≤ 100 := by
  have h2 := cw_le s
  unfold lead0
  repeat' split
  all_goals simp only
  all_goals omega
theorem wd_bound {x : S24} (h : finD x) (hc : cnt x ≤ 1100) (i : Nat) : 0 ≤ own1 x.f0 x.f2 + wdL (x.f3.take i) ∧ own1 x.f0 x.f2 + wdL (x.f3.take i) ≤ 200000 := by
  have h1 := own1_le x.f0 x.f2 ((finD_eq x).1 h).1
  have h2 := wdL_le _ (finDL_take _ i ((finD_eq x).1 h).2.2)
  have h3 := cntL_take_le x.f3 i
  have h4 := cnt_eq x
  omega
theorem ld_bound {x : S24} (h : finD x) (hc : cnt x ≤ 1100) (i : Nat) : 0 ≤ (ldL (x.f3.take i) (lead0 x.f0 x.f2)).1 ∧ (ldL (x.f3.take i) (lead0 x.f0 x.f2)).1 ≤ 200000 := by
  have h1 := lead0_le x.f0 x.f2 ((finD_eq x).1 h).1
  have h2 := ldL_le _ (finDL_take _ i ((finD_eq x).1 h).2.2) (lead0 x.f0 x.f2) h1.1
  have h3 := cntL_take_le x.f3 i
  have h4 := cnt_eq x
  omega
theorem kid_bound {x : S24} (h : finD x) (hc : cnt x ≤ 1100) (i : Nat) (hi : i < x.f3.length) : (0 ≤ wdV x.f3[i] ∧ wdV x.f3[i] ≤ 200000) ∧ (0 ≤ (ldV x.f3[i]).1 ∧ (ldV x.f3[i]).1 ≤ 200000) := by
  have h1 := finD_child h i hi
  have h2 := cnt_lt x i hi
  have h3 := wdV_le _ h1
  have h4 := ldV_le _ h1
  omega
def mk8 (x : S24) (wd ld : Int) (en fc : Bool) (v : Value) : Array Value := #[.int .i64 x.f0, .int .i64 x.f1, .string x.f2, .int .i64 wd, .int .i64 ld, .bool en, .bool fc, v]
def ptr (g : Nat) : Value := .pointer (some ⟨g, 0, none⟩)
theorem pcs_cells (y : S24) (A : Option Addr) (c : Nat) {kw kl : Int} {ke kf : Bool} (h : wdV y = kw ∧ ldV y = (kl, ke) ∧ frcB y = kf) : (pcs y A c)[3]? = some (.int .i64 kw) ∧ (pcs y A c)[4]? = some (.int .i64 kl) ∧ (pcs y A c)[5]? = some (.bool ke) ∧ (pcs y A c)[6]? = some (.bool kf) := by
  obtain ⟨h1, h2, h3⟩ := h
  unfold pcs
  rw [h1, h2, h3]
  exact ⟨rfl, rfl, rfl, rfl⟩
/-- A part in the making: its block, its row of parts, the parts. -/
structure MeasC (w : World) (B gp : Nat) (cs : Array Value) (v : Value) (gs : List Nat) (l : List S24) : Prop where
  blk : w.heap[gp]? = some (.cells cs 80 (0, 0))
  own : w.ownsRow B 65 1 v (gs.map ptr).length (gs.map ptr)
  len : gs.length = l.length
  kids : PartsAt w (fun k => B ≤ k ∧ k ≠ gp ∧ v.ownBlock ≠ some k) l gs
  base : B ≤ gp
section
variable {w w' : World} {B gp : Nat} {cs cs' : Array Value} {v v1 : Value} {gs : List Nat} {l : List S24} {x y : S24}
theorem MeasC.start (h : w.heap[gp]? = some (.cells cs 80 (0, 0))) (hb : B ≤ gp) : MeasC w B gp cs (.slice none 0 0) [] [] := ⟨h, own_nil _ _ _ _, rfl, trivial, hb⟩
theorem MeasC.base_le (h : MeasC w B gp cs v gs l) : B ≤ w.heap.size := Nat.le_trans h.base (Nat.le_of_lt (blk_lt h.blk))
theorem MeasC.below (h : MeasC w B gp cs v gs l) (hb : Below w.heap.size w w') : MeasC w' B gp cs v gs l :=
  ⟨blk_below h.blk hb, pw_own_below h.own hb, h.len, PartsAt.keep (fun k hk hl => ⟨hb.block k hl, hk, Nat.lt_of_lt_of_le hl hb.size⟩) _ _ h.kids, h.base⟩
theorem MeasC.set (h : MeasC w B gp cs v gs l) (j : Nat) (u : Value) (hc : cs.setIfInBounds j u = cs') : MeasC (w.setCell ⟨gp, j, none⟩ u) B gp cs' v gs l :=
  ⟨blk_put h.blk j u hc, own_set h.own (own_ne_blk h.own h.blk (by decide)) j u, h.len, PartsAt.keep (fun k hk hl => ⟨Below.heap_setCell w ⟨gp, j, none⟩ u k (fun e => hk.2.1 e), hk, by simpa [World.setCell] using hl⟩) _ _ h.kids, h.base⟩
theorem MeasC.set_below (h : MeasC w B gp cs v gs l) (j : Nat) (u : Value) : Below B w (w.setCell ⟨gp, j, none⟩ u) := (Below.refl B w).setCell h.base u
theorem parts_snoc {ok : Nat → Prop} {g : Nat} (h1 : PartAt w ok y g) : ∀ (l : List S24) (gs : List Nat), PartsAt w ok l gs → gs.length = l.length → PartsAt w ok (l ++ [y]) (gs ++ [g])
  | [], gs, _, e => by
    obtain rfl : gs = [] := List.eq_nil_of_length_eq_zero e
    exact ⟨g, [], rfl, h1, trivial⟩
  | z :: r, gs, h, e => by
    obtain ⟨a, t, rfl, h2, h3⟩ := h
    exact ⟨a, t ++ [g], rfl, h2, parts_snoc h1 r t h3 (by simpa using e)⟩
/-- One part more. -/
theorem MeasC.grow {g : Nat} (h : MeasC w B gp cs v gs l) (hk : PartAt w (fun k => B ≤ k ∧ k ≠ gp ∧ v.ownBlock ≠ some k) y g) (ho : w'.ownsRow B 65 1 v1 (gs.map ptr ++ [ptr g]).length (gs.map ptr ++ [ptr g])) (hg : w.grownBy w' v.ownBlock)
    (hat : v1.ownBlock = v.ownBlock ∨ ∃ b, v1.ownBlock = some b ∧ w.heap.size ≤ b) (hs : w.heap.size ≤ w'.heap.size) : MeasC w' B gp cs v1 (gs ++ [g]) (l ++ [y]) := by
  have hkeep : ∀ k, (B ≤ k ∧ k ≠ gp ∧ v.ownBlock ≠ some k) → k < w.heap.size → w'.heap[k]? = w.heap[k]? ∧ (B ≤ k ∧ k ≠ gp ∧ v1.ownBlock ≠ some k) ∧ k < w'.heap.size := fun k hk hl => by
    refine ⟨hg.block k hl (fun e => hk.2.2 e.symm), ⟨hk.1, hk.2.1, fun e => ?_⟩, Nat.lt_of_lt_of_le hl hs⟩
    rcases hat with hat | ⟨b, hb, hbs⟩
    · exact hk.2.2 (hat ▸ e)
    · rw [hb] at e
      injection e with e
      omega
  refine ⟨blk_grown h.blk hg (own_ne_blk h.own h.blk (by decide)).symm, ?_, by simp [h.len], parts_snoc (PartAt.keep hkeep _ _ hk) _ _ (PartsAt.keep hkeep _ _ h.kids) h.len, h.base⟩
  have e : gs.map ptr ++ [ptr g] = (gs ++ [g]).map ptr := by simp
  rw [← e]
  exact ho
/-- A new part is of its own. -/
theorem MeasC.fresh {g n : Nat} (h : MeasC w B gp cs v gs l) (hp : PartAt w' (fun k => n ≤ k) y g) (hn : w.heap.size ≤ n) : PartAt w' (fun k => B ≤ k ∧ k ≠ gp ∧ v.ownBlock ≠ some k) y g :=
  PartAt.keep (fun k hk hl => by
    have h1 := blk_lt h.blk
    have h2 := h.base_le
    refine ⟨rfl, ⟨by omega, by omega, fun e => ?_⟩, hl⟩
    have := own_lt h.own k e
    omega) _ _ hp
/-- All parts are there: the part is. -/
theorem MeasC.part {A : Option Addr} {c : Nat} (h : MeasC w B gp (pcs x A c) (.slice A x.f3.length c) gs x.f3) : PartAt w (fun k => B ≤ k) x gp := by
  rw [PartAt_eq]
  refine ⟨h.base, A, c, gs, h.blk, h.len, fun h0 => ?_, PartsAt.keep (fun k hk hl => ⟨rfl, hk.1, hl⟩) _ _ h.kids⟩
  have ho := h.own
  rcases ho.2 with ⟨_, e⟩ | ⟨g, cap, cur, hv, hb, hg, _⟩
  · rw [List.length_map] at e; omega
  · injection hv with hA hl hcp
    subst hA
    refine ⟨g, rfl, hb, blk_lt hg, fun i gi hi => ?_⟩
    have hi2 := (List.getElem?_eq_some_iff.1 hi).1
    rw [hl] at ho
    rw [ho.cellAt i (by rw [List.length_map]; omega), List.getElem?_map, hi]
    rfl
end
end Go.Proofs.Ytigihiggpfjbjaa.PR

/- Measure: what is known of a document's parts. -/
namespace Go.Proofs.Ytigihiggpfjbjaa.PR
open Go.RowKit Go.Proofs.YtigihiggpfjbjaaW.PrintWords Go.Proofs.YtigihiggpfjbjaaW.PrintLast Go.Proofs.YtigihiggpfjbjaaW.PrintMore
set_option linter.unusedVariables false
set_option linter.unusedSimpArgs false
theorem F33tab19 : rtab .any (opsOf Try.f33 19) = (true, [([], []), ([], []), ([], []), ([2], [2]), ([3], [3]), ([4], [4]), ([], []), ([6], [6]), ([7], [7]), ([8], [8]), ([5, 9], [5, 9]), ([], []), ([11], [11]), ([12], [12]), ([13], [13]), ([14], [14]), ([15], [15]), ([16, 15], [15, 16]), ([17, 15], [15, 17]), ([18, 15], [15, 18]), ([15, 19], [15, 19]), ([0, 0, 2, 3, 4, 5, 6, 7, 8, 9, 10, 14, 19], [0]), ([21, 0, 2, 3, 4, 5, 6, 7, 8, 9, 10, 14, 19], [21]), ([22, 10, 15, 0, 2, 3, 4, 5, 6, 7, 8, 9, 10, 14, 19], [10, 22]), ([1, 0, 1, 2, 3, 4, 5, 6, 7, 8, 9, 10, 11, 12, 13, 14, 15, 16, 17, 18, 19, 20, 21, 22, 23], [1]), ([24, 0, 1, 2, 3, 4, 5, 6, 7, 8, 9, 10, 11, 12, 13, 14, 15, 16, 17, 18, 19, 20, 21, 22, 23], [24]), ([25, 20, 23, 0, 1, 2, 3, 4, 5, 6, 7, 8, 9, 10, 11, 12, 13, 14, 15, 16, 17, 18, 19, 20, 21, 22, 23], [20, 25])]) := by kernel_rfl
theorem F33tab21 : rtab .any (opsOf Try.f33 21) = (true, [([], []), ([], []), ([], []), ([2], [2]), ([3], [3]), ([4], [4]), ([], []), ([6], [6]), ([7], [7]), ([8], [8]), ([5, 9], [5, 9]), ([], []), ([11], [11]), ([12], [12]), ([13], [13]), ([0, 0, 2, 3, 4, 5, 6, 7, 8, 9, 10, 14], [0]), ([15, 0, 2, 3, 4, 5, 6, 7, 8, 9, 10, 14], [15]), ([16, 10, 0, 2, 3, 4, 5, 6, 7, 8, 9, 10, 14], [10, 16]), ([1, 0, 1, 2, 3, 4, 5, 6, 7, 8, 9, 10, 11, 12, 13, 14, 15, 16, 17], [1]), ([18, 0, 1, 2, 3, 4, 5, 6, 7, 8, 9, 10, 11, 12, 13, 14, 15, 16, 17], [18]), ([19, 14, 17, 0, 1, 2, 3, 4, 5, 6, 7, 8, 9, 10, 11, 12, 13, 14, 15, 16, 17], [14, 19])]) := by kernel_rfl
theorem infoPart : (Try.prog.info? 65).map (fun i => (i.zero, i.size, i.bytes)) = some (some (.pointer none), 1, 8) := by kernel_rfl
section
variable {P : Program} {ops : Array Oper} {Q : Exit → Act → World → Prop} {md : Region.Mode} {S S' : World → Prop} {ds ds' : List Nat}
theorem restart_all : ∀ (fuel : Nat) (l : Array Bool) (a : Act) (w : World), (∀ i, l.getD i true = false → i < ops.size → i ∈ ds) → wpAnyLast P md ops Q S' ds' fuel l a w → wpAnyLast P md ops Q S ds fuel l a w
  | 0, l, a, w, _, h => h
  | fuel + 1, l, a, w, hc, h => by
    refine ⟨h.1, fun i hi => ?_⟩
    obtain ⟨hun, o, ho, _⟩ := mem_ready.1 hi
    refine wpOp_mono (fun a' w' h' => ⟨fun hn => absurd (hc i hun (Array.getElem?_eq_some_iff.1 ho).1) hn, restart_all fuel _ a' w' (fun j hj hjs => hc j ?_ hjs) h'.2⟩) (h.2 i hi)
    by_cases hij : i = j
    · subst hij; exact hun
    · rw [getD_set_ne true hij] at hj; exact hj
/-- From here on another S holds, and another ds: all that has still to come up is of the old ds. -/
theorem restart_ (S' : World → Prop) (ds' : List Nat) {fuel : Nat} {l : Array Bool} {a : Act} {w : World} (hc : ((List.range ops.size).all fun i => l.getD i true || ds.contains i) = true) (h : wpAnyLast P md ops Q S' ds' fuel l a w) : wpAnyLast P md ops Q S ds fuel l a w :=
  restart_all fuel l a w (fun i hi hs => by
    have := List.all_eq_true.1 hc i (List.mem_range.2 hs)
    rw [hi] at this
    simpa using this) h
end
def DA (x : S24) (A3 : Option Addr) (c3 : Nat) : Value := .agg #[.int .i64 x.f0, .int .i64 x.f1, .string x.f2, .slice A3 x.f3.length c3]
/-- What a call of measure comes to. -/
def MeasAt (x : S24) (A3 : Option Addr) (c3 : Nat) (w : World) : Prop :=
  Calls Try.prog 33 #[DA x A3 c3] w fun e w' => ∃ g, e = .returned (.pointer (some ⟨g, 0, none⟩)) ∧ PartAt w' (fun k => w.heap.size ≤ k) x g ∧ Below w.heap.size w w'
def dcs (x : S24) (A3 : Option Addr) (c3 : Nat) : Array Value := #[.int .i64 x.f0, .int .i64 x.f1, .string x.f2, .slice A3 x.f3.length c3]
def m19S (gp gq : Nat) (a b : Int) (c d : Bool) (w' : World) : Prop := w'.cell? ⟨gp, 3, none⟩ = some (.int .i64 a) ∧ w'.cell? ⟨gq, 3, none⟩ = some (.int .i64 b) ∧ w'.cell? ⟨gp, 6, none⟩ = some (.bool c) ∧ w'.cell? ⟨gq, 6, none⟩ = some (.bool d) ∧ True
def m21S (gp gq : Nat) (a b : Int) (d : Bool) (w' : World) : Prop := w'.cell? ⟨gp, 4, none⟩ = some (.int .i64 a) ∧ w'.cell? ⟨gq, 4, none⟩ = some (.int .i64 b) ∧ w'.cell? ⟨gq, 5, none⟩ = some (.bool d) ∧ True
def seqR : Code → Code
  | .seq _ b => b
  | c => c
/-- The part is begun: what stands behind the switch. -/
def KH (w : World) (x : S24) (A3 : Option Addr) (c3 : Nat) (a : Act) (w5 : World) : Prop := ∃ (gb gp : Nat) (u0 u4 u5 u6 u7 u8 u9 u10 u11 u12 u13 u14 u15 u16 u17 u18 u19 u20 u21 u22 u23 u24 u25 u26 u27 u28 u29 u30 u31 u32 u33 u34 u35 u36 u37 u38 u39 u40 u41 u42 u43 u44 u45 u46 u47 u48 u49 u50 u51 u52 u53 u54 u55 u56 u57 u58 u59 u60 : Value), a = ⟨#[u0, .pointer (some ⟨gb, 0, none⟩), .pointer none, .pointer (some ⟨gp, 0, none⟩), u4, u5, u6, u7, u8, u9, u10, u11, u12, u13, u14, u15, u16, u17, u18, u19, u20, u21, u22, u23, u24, u25, u26, u27, u28, u29, u30, u31, u32, u33, u34, u35, u36, u37, u38, u39, u40, u41, u42, u43, u44, u45, u46, u47, u48, u49, u50, u51, u52, u53, u54, u55, u56, u57, u58, u59, u60, undef, undef, undef, undef, undef, undef, undef, undef, undef, undef, undef, undef, undef, undef, undef, undef, undef, undef, undef, undef, undef, undef, undef, undef, undef, undef, undef, undef, undef, undef, undef, undef, undef, undef, undef, undef, undef, undef, undef, undef, undef, undef, undef, undef, undef, undef, undef, undef, undef, undef, undef, undef, undef, undef, undef, undef, undef, undef, undef, undef, undef, undef, undef, undef, undef, undef, undef, undef, undef, undef], []⟩ ∧ w5.heap[gb]? = some (.cells (dcs x A3 c3) 24 (0, 0)) ∧ MeasC w5 w.heap.size gp (mk8 x (own1 x.f0 x.f2 + wdL (x.f3.take 0)) (ldL (x.f3.take 0) (lead0 x.f0 x.f2)).1 (ldL (x.f3.take 0) (lead0 x.f0 x.f2)).2 (frc0 x || frcL (x.f3.take 0)) (.slice none 0 0)) (.slice none 0 0) [] (x.f3.take 0) ∧ Below w.heap.size w w5
section
variable {w : World} {x : S24} {A3 : Option Addr} {c3 : Nat}
set_option maxHeartbeats 8000000 in
set_option maxRecDepth 100000 in
theorem meas_loop (hx : Dc w x A3 c3) (hf : finD x) (hc : cnt x ≤ 1100) (ih : ∀ (i : Nat) (h : i < x.f3.length) (B3 : Option Addr) (d3 : Nat) (w' : World), Dc w' x.f3[i] B3 d3 → MeasAt x.f3[i] B3 d3 w') (a : Act) (w5 : World) (h : KH w x A3 c3 a w5) :
    Code.wp Try.prog (seqR (seqR (seqR (Try.f33.body.getD .skip)))) (bodyPost Try.prog Try.f33 fun e w' => ∃ g, e = .returned (.pointer (some ⟨g, 0, none⟩)) ∧ PartAt w' (fun k => w.heap.size ≤ k) x g ∧ Below w.heap.size w w') a w5 := by
  have hu24 := Try.underlying24
  have hu80 := Try.underlying80
  have hu78 := Try.underlying78
  have hu65 := Try.underlying65
  obtain ⟨gb, gp, u0, u4, u5, u6, u7, u8, u9, u10, u11, u12, u13, u14, u15, u16, u17, u18, u19, u20, u21, u22, u23, u24, u25, u26, u27, u28, u29, u30, u31, u32, u33, u34, u35, u36, u37, u38, u39, u40, u41, u42, u43, u44, u45, u46, u47, u48, u49, u50, u51, u52, u53, u54, u55, u56, u57, u58, u59, u60, rfl, hbx, hmc, hbw⟩ := h
  have HX := Aside0.mk hx
  have HF := Aside0.mk hf
  have HC := Aside0.mk hc
  have IH := Aside0.mk ih
  have BX2 := Aside0.mk hbx
  have MC0 := Aside0.mk hmc
  have HB2 := Aside0.mk hbw
  have HC3 : Aside0 (x.f3.length ≤ 500) := ⟨((finD_eq x).1 hf).2.1⟩
  clear hx hf hc ih hbx hmc hbw
  let Q : Exit → Act → World → Prop := bodyPost Try.prog Try.f33 fun e w' => ∃ g, e = .returned (.pointer (some ⟨g, 0, none⟩)) ∧ PartAt w' (fun k => w.heap.size ≤ k) x g ∧ Below w.heap.size w w'
  show Code.wp Try.prog _ Q _ _
  unfold Try.f33
  dsimp only [seqR, Option.getD]
  have z3 : w5.cell? ⟨gb, 3, none⟩ = some (.slice A3 x.f3.length c3) := (blk_cell BX2.out 3).trans rfl
  have hm : x.f3.length ≤ 9223372036854775807 := HX.out.g3.2.1
  clear BX2
  go_wp2_with fail
  clear z3
  go_loopg [5, 6, 64] x.f3.length (fun k' v5 v6 v64 wr => ∃ (i : Nat) (v : Value) (gs : List Nat), v64 = .int .i64 i ∧ i ≤ x.f3.length ∧ Aside0 (k' + i = x.f3.length) ∧ Aside0 (MeasC wr w.heap.size gp (mk8 x (own1 x.f0 x.f2 + wdL (x.f3.take i)) (ldL (x.f3.take i) (lead0 x.f0 x.f2)).1 (ldL (x.f3.take i) (lead0 x.f0 x.f2)).2 (frc0 x || frcL (x.f3.take i)) v) v gs (x.f3.take i)) ∧ Aside0 (Below w.heap.size w wr))
  case atStart => exact ⟨0, _, [], rfl, Nat.zero_le _, ⟨rfl⟩, MC0, HB2⟩
  case round =>
    clear MC0 HB2
    obtain ⟨i, v, gs, rfl, hi, HKI, M, HB⟩ := hrel
    by_cases hlt : i < x.f3.length
    · obtain ⟨ad, B3, d3, e0, ny, qy⟩ := Dc.at_ HX.out.g3 i hlt
      cases e0
      obtain ⟨q0, q1, q2, q3⟩ := qy _ HB.out
      have NY := Aside0.mk ny
      have IHI := Aside0.mk (IH.out i hlt)
      have TW := Aside0.mk (wdL_take x.f3 i hlt)
      have TL := Aside0.mk (ldL_take x.f3 i hlt (lead0 x.f0 x.f2))
      have TF := Aside0.mk (frcL_take x.f3 i hlt)
      have TK := Aside0.mk (List.take_succ_eq_append_getElem hlt)
      have KB := Aside0.mk (kid_bound HF.out HC.out i hlt)
      have WB := Aside0.mk (wd_bound HF.out HC.out i)
      have LB := Aside0.mk (ld_bound HF.out HC.out i)
      clear qy ny
      obtain ⟨y, hy⟩ : ∃ y, y = x.f3[i] := ⟨_, rfl⟩
      rw [← hy] at q0 q1 q2 q3 NY IHI TW TL TF TK KB
      clear hy
      go_wp2_with fail
      have NYB := Aside0.mk (NY.out.below (below_step HB.out (below_alloc (Below.refl _ _) (.cells #[.int .i64 y.f0, .int .i64 y.f1, .string y.f2, .slice B3 y.f3.length d3] 24))))
      have n0 := Aside0.mk (M.out.below (below_alloc (Below.refl _ _) (.cells #[.int .i64 y.f0, .int .i64 y.f1, .string y.f2, .slice B3 y.f3.length d3] 24)))
      have n1 := Aside0.mk (below_step HB.out (below_alloc (Below.refl _ _) (.cells #[.int .i64 y.f0, .int .i64 y.f1, .string y.f2, .slice B3 y.f3.length d3] 24)))
      clear M HB
      have M := n0
      have HB := n1
      clear n0 n1
      have IHJ := IHI.out B3 d3 _ NYB.out
      unfold MeasAt DA at IHJ
      refine IHJ.mono ?_
      rintro e w6 ⟨gq, rfl, hp, hb⟩
      have KD := Aside0.mk (M.out.fresh hp (Nat.le_refl _))
      have n0 := Aside0.mk (M.out.below hb)
      have n1 := Aside0.mk (below_step HB.out hb)
      clear M HB IHJ IHI NYB NY hp hb q0 q1 q2 q3
      have M := n0
      have HB := n1
      clear n0 n1
      obtain ⟨wd, hwd⟩ : ∃ u, own1 x.f0 x.f2 + wdL (x.f3.take i) = u := ⟨_, rfl⟩
      obtain ⟨ld, hld⟩ : ∃ u, ldL (x.f3.take i) (lead0 x.f0 x.f2) = u := ⟨_, rfl⟩
      obtain ⟨fc, hfc⟩ : ∃ u, (frc0 x || frcL (x.f3.take i)) = u := ⟨_, rfl⟩
      rw [hwd, hld, hfc] at M
      rw [hwd] at WB
      rw [hld] at LB TL
      have EW := Aside0.mk hwd
      have EL := Aside0.mk hld
      have EF := Aside0.mk hfc
      clear hwd hld hfc
      obtain ⟨ld, en⟩ := ld
      obtain ⟨kw, hkw⟩ : ∃ u, wdV y = u := ⟨_, rfl⟩
      obtain ⟨kl, hkl⟩ : ∃ u, ldV y = u := ⟨_, rfl⟩
      obtain ⟨kf, hkf⟩ : ∃ u, frcB y = u := ⟨_, rfl⟩
      obtain ⟨kl, ke⟩ := kl
      rw [hkw] at TW KB
      rw [hkl] at TL KB
      rw [hkf] at TF
      have EK := Aside0.mk (show wdV y = kw ∧ ldV y = (kl, ke) ∧ frcB y = kf from ⟨hkw, hkl, hkf⟩)
      clear hkw hkl hkf
      have c7 : w6.cell? ⟨gp, 7, none⟩ = some v := (blk_cell M.out.blk 7).trans rfl
      go_upto_region 19 with (first | ((with_reducible refine gate_dst (N := 77) rfl ?_); refine print_append (w0 := w) w.heap.size rfl (.tmp 74) (.tmp 76) 78 65 (.pointer none) 8 rfl Try.underlying78 infoPart rfl (by decide) v (gs.map ptr) (ptr gq) rfl rfl rfl M.out.own HB.out M.out.base_le (by have := M.out.len; have := HC3.out; simp only [List.length_map, List.length_take] at *; omega) ?_; intro v1 w7 hown hbl hg hat; obtain ⟨A1, k1, ev1⟩ := own_slice hown; obtain ⟨nn1, hn1⟩ : ∃ n, (gs.map ptr ++ [ptr gq]).length = n := ⟨_, rfl⟩; rw [hn1] at ev1; have HN1 : Aside0 (nn1 = (gs ++ [gq]).length) := ⟨by rw [← hn1]; simp⟩; clear hn1; subst ev1; have n0 := Aside0.mk (M.out.grow KD.out hown hg hat (hg.size)); have n2 := Aside0.mk (PartAt.keep (ok' := fun k => k ≠ gp) (fun k hk hl => ⟨hg.block k hl (fun e => hk.2.2 e.symm), hk.2.1, Nat.lt_of_lt_of_le hl hg.size⟩) _ _ KD.out); clear M HB KD c7 hown hg hat; have M := n0; have HB := Aside0.mk hbl; have KD := n2; clear n0 n2 hbl; have f7 := blk_frozen M.out.blk 7; have c7 : w7.cell? ⟨gp, 7, none⟩ = some v := (blk_cell M.out.blk 7).trans rfl))
      have n0 := Aside0.mk (M.out.set 7 (.slice A1 nn1 k1) rfl)
      have n1 := Aside0.mk (HB.out.trans (M.out.set_below 7 (.slice A1 nn1 k1)))
      have n2 := Aside0.mk (PartAt.keep (w' := w7.setCell ⟨gp, 7, none⟩ (.slice A1 nn1 k1)) (ok' := fun k => k ≠ gp) (fun k hk hl => ⟨Below.heap_setCell w7 ⟨gp, 7, none⟩ (.slice A1 nn1 k1) k (fun e => hk e), hk, by simpa [World.setCell] using hl⟩) _ _ KD.out)
      clear M HB KD f7 c7
      have M := n0
      have HB := n1
      have KD := n2
      clear n0 n1 n2
      generalize World.setCell _ _ _ = w8 at M HB KD ⊢
      obtain ⟨_, Ak, ck, gsk, hkb, _⟩ := (PartAt_eq _ _ _ _).1 KD.out
      have KBL := Aside0.mk hkb
      have KP := Aside0.mk (pcs_cells y Ak ck EK.out)
      clear hkb
      have KNE := Aside0.mk (show gq ≠ gp from ((PartAt_eq _ _ _ _).1 KD.out).1)
      clear KD
      cases fc
      · have n0 := Aside0.mk (M.out.below (below_drew1 (Below.refl _ _)))
        have n1 := Aside0.mk (HB.out.trans (((below_drew1 (Below.refl _ _))).mono M.out.base_le))
        have n2 := Aside0.mk (blk_below KBL.out (below_drew1 (Below.refl _ _)))
        clear M HB KBL
        have M := n0
        have HB := n1
        have KBL := n2
        clear n0 n1 n2
        have hs_ : m19S gp gq wd kw false kf w8.drew := ⟨(blk_cell M.out.blk 3).trans rfl, (blk_cell KBL.out 3).trans KP.out.1, (blk_cell M.out.blk 6).trans rfl, (blk_cell KBL.out 6).trans KP.out.2.2.2, trivial⟩
        refine start_ (n := 27) (S := m19S gp gq wd kw false kf) (ds := [23, 24, 25, 26]) #[false, false, false, false, false, false, false, false, false, false, false, false, false, false, false, false, false, false, false, false, false, false, false, false, false, false, false] (by kernel_rfl) rfl rfl (hs_) (fun hHeld => ?_)
        clear hs_
        generalize World.drew _ = w9 at M HB KBL hHeld ⊢
        refine pure_ (i := 0) (N := some 80) (bt 27 1) rfl rfl (any_of F33tab19 (by kernel_rfl)) (fun _ _ _ h => h) (Or.inl ⟨by rfl, by intro w'; go_simp; with_reducible rfl⟩) (by simp only [Act.put, pset]; rfl) ?_
        refine pure_ (i := 1) (N := some 81) (bt 27 3) rfl rfl (any_of F33tab19 (by kernel_rfl)) (fun _ _ _ h => h) (Or.inl ⟨by rfl, by intro w'; go_simp; with_reducible rfl⟩) (by simp only [Act.put, pset]; rfl) ?_
        refine pure_ (i := 2) (N := some 82) (bt 27 7) rfl rfl (any_of F33tab19 (by kernel_rfl)) (fun _ _ _ h => h) (Or.inl ⟨by rfl, by intro w'; go_simp; with_reducible rfl⟩) (by simp only [Act.put, pset]; rfl) ?_
        refine pure_ (i := 3) (N := some 83) (bt 27 15) rfl rfl (any_of F33tab19 (by kernel_rfl)) (fun _ _ _ h => h) (Or.inl ⟨by rfl, by intro w'; go_simp; with_reducible rfl⟩) (by simp only [Act.put, pset]; rfl) ?_
        refine pure_ (i := 4) (N := some 84) (bt 27 31) rfl rfl (any_of F33tab19 (by kernel_rfl)) (fun _ _ _ h => h) (Or.inl ⟨by rfl, by intro w'; go_simp; with_reducible rfl⟩) (by simp only [Act.put, pset]; rfl) ?_
        refine take_ (i := 5) (N := some 85) (bt 27 63) rfl rfl (take_of F33tab19 (by kernel_rfl)) (fun _ _ _ h => h) (Or.inl ⟨by rfl, by rintro w' ⟨s0, s1, s2, s3, s4⟩; go_simp; with_reducible rfl⟩) hHeld (by simp only [Act.put, pset]; rfl) ?_
        refine pure_ (i := 6) (N := some 86) (bt 27 127) rfl rfl (any_of F33tab19 (by kernel_rfl)) (fun _ _ _ h => h) (Or.inl ⟨by rfl, by intro w'; go_simp; with_reducible rfl⟩) (by simp only [Act.put, pset]; rfl) ?_
        refine pure_ (i := 7) (N := some 87) (bt 27 255) rfl rfl (any_of F33tab19 (by kernel_rfl)) (fun _ _ _ h => h) (Or.inl ⟨by rfl, by intro w'; go_simp; with_reducible rfl⟩) (by simp only [Act.put, pset]; rfl) ?_
        refine pure_ (i := 8) (N := some 88) (bt 27 511) rfl rfl (any_of F33tab19 (by kernel_rfl)) (fun _ _ _ h => h) (Or.inl ⟨by rfl, by intro w'; go_simp; with_reducible rfl⟩) (by simp only [Act.put, pset]; rfl) ?_
        refine take_ (i := 9) (N := some 89) (bt 27 1023) rfl rfl (take_of F33tab19 (by kernel_rfl)) (fun _ _ _ h => h) (Or.inl ⟨by rfl, by rintro w' ⟨s0, s1, s2, s3, s4⟩; go_simp; with_reducible rfl⟩) hHeld (by simp only [Act.put, pset]; rfl) ?_
        refine pure_ (i := 10) (N := some 90) (bt 27 2047) rfl rfl (any_of F33tab19 (by kernel_rfl)) (fun _ _ _ h => h) (Or.inl ⟨by rfl, by intro w'; go_simp; with_reducible rfl⟩) (by simp only [Act.put, pset]; rfl) ?_
        refine pure_ (i := 11) (N := some 91) (bt 27 4095) rfl rfl (any_of F33tab19 (by kernel_rfl)) (fun _ _ _ h => h) (Or.inl ⟨by rfl, by intro w'; go_simp; with_reducible rfl⟩) (by simp only [Act.put, pset]; rfl) ?_
        refine pure_ (i := 12) (N := some 92) (bt 27 8191) rfl rfl (any_of F33tab19 (by kernel_rfl)) (fun _ _ _ h => h) (Or.inl ⟨by rfl, by intro w'; go_simp; with_reducible rfl⟩) (by simp only [Act.put, pset]; rfl) ?_
        refine pure_ (i := 13) (N := some 93) (bt 27 16383) rfl rfl (any_of F33tab19 (by kernel_rfl)) (fun _ _ _ h => h) (Or.inl ⟨by rfl, by intro w'; go_simp; with_reducible rfl⟩) (by simp only [Act.put, pset]; rfl) ?_
        refine take_ (i := 14) (N := some 94) (bt 27 32767) rfl rfl (take_of F33tab19 (by kernel_rfl)) (fun _ _ _ h => h) (Or.inl ⟨by rfl, by rintro w' ⟨s0, s1, s2, s3, s4⟩; go_simp; with_reducible rfl⟩) hHeld (by simp only [Act.put, pset]; rfl) ?_
        refine pure_ (i := 15) (N := some 95) (bt 27 65535) rfl rfl (any_of F33tab19 (by kernel_rfl)) (fun _ _ _ h => h) (Or.inl ⟨by rfl, by intro w'; go_simp; with_reducible rfl⟩) (by simp only [Act.put, pset]; rfl) ?_
        refine pure_ (i := 16) (N := some 96) (bt 27 131071) rfl rfl (any_of F33tab19 (by kernel_rfl)) (fun _ _ _ h => h) (Or.inl ⟨by rfl, by intro w'; go_simp; with_reducible rfl⟩) (by simp only [Act.put, pset]; rfl) ?_
        refine pure_ (i := 17) (N := some 97) (bt 27 262143) rfl rfl (any_of F33tab19 (by kernel_rfl)) (fun _ _ _ h => h) (Or.inl ⟨by rfl, by intro w'; go_simp; with_reducible rfl⟩) (by simp only [Act.put, pset]; rfl) ?_
        refine pure_ (i := 18) (N := some 98) (bt 27 524287) rfl rfl (any_of F33tab19 (by kernel_rfl)) (fun _ _ _ h => h) (Or.inl ⟨by rfl, by intro w'; go_simp; with_reducible rfl⟩) (by simp only [Act.put, pset]; rfl) ?_
        refine take_ (i := 19) (N := some 99) (bt 27 1048575) rfl rfl (take_of F33tab19 (by kernel_rfl)) (fun _ _ _ h => h) (Or.inl ⟨by rfl, by rintro w' ⟨s0, s1, s2, s3, s4⟩; go_simp; with_reducible rfl⟩) hHeld (by simp only [Act.put, pset]; rfl) ?_
        refine pure_ (i := 20) (N := some 100) (bt 27 2097151) rfl rfl (any_of F33tab19 (by kernel_rfl)) (fun _ _ _ h => h) (Or.inl ⟨by rfl, by intro w'; go_simp; with_reducible rfl⟩) (by simp only [Act.put, pset]; rfl) ?_
        refine pure_ (i := 21) (N := some 101) (bt 27 4194303) rfl rfl (any_of F33tab19 (by kernel_rfl)) (fun _ _ _ h => h) (Or.inl ⟨by rfl, by intro w'; go_simp; with_reducible rfl⟩) (by simp only [Act.put, pset]; rfl) ?_
        refine pure_ (i := 22) (N := some 102) (bt 27 8388607) rfl rfl (any_of F33tab19 (by kernel_rfl)) (fun _ _ _ h => h) (Or.inl ⟨by rfl, by intro w'; go_simp; with_reducible rfl⟩) (by simp only [Act.put, pset]; rfl) ?_
        have f3 := blk_frozen M.out.blk 3
        have g3 : w9.cell? ⟨gp, 3, none⟩ = some (.int .i64 wd) := (blk_cell M.out.blk 3).trans rfl
        have EA : Aside0 (wrap64 (wd + kw) = wd + kw) := ⟨by have := KB.out; have := WB.out; unfold wrap64; omega⟩
        refine last_ (i := 23) (N := none) (bt 27 16777215) rfl rfl (one_of F33tab19 (by kernel_rfl)) (by decide) (fun K hK => ?_)
        refine skip_ (w1 := w9.setCell ⟨gp, 3, none⟩ (.int .i64 (wrap64 (wd + kw)))) rfl rfl ?hrun ?_
        case hrun => first | (go_simp; done) | (go_simp; rfl)
        refine hK.out _ _ ?_
        clear hHeld hK K f3 g3
        have n0 := Aside0.mk (M.out.set 3 (.int .i64 (wrap64 (wd + kw))) rfl)
        have n1 := Aside0.mk (HB.out.trans (M.out.set_below 3 (.int .i64 (wrap64 (wd + kw)))))
        have n2 := Aside0.mk (blk_far KBL.out (p := ⟨gp, 3, none⟩) KNE.out (.int .i64 (wrap64 (wd + kw))))
        clear M HB KBL
        have M := n0
        have HB := n1
        have KBL := n2
        clear n0 n1 n2
        generalize World.setCell _ _ _ = w10 at M HB KBL ⊢
        refine restart_ (fun _ => True) [26] (by kernel_rfl) ?_
        have f6 := blk_frozen M.out.blk 6
        have g6 : w10.cell? ⟨gp, 6, none⟩ = some (.bool false) := (blk_cell M.out.blk 6).trans rfl
        refine pure_ (i := 24) (N := some 103) (bt 27 33554431) rfl rfl (any_of F33tab19 (by kernel_rfl)) (fun _ _ _ h => h) (Or.inl ⟨by rfl, by intro w'; go_simp; with_reducible rfl⟩) (by simp only [Act.put, pset]; rfl) ?_
        refine pure_ (i := 25) (N := some 104) (bt 27 67108863) rfl rfl (any_of F33tab19 (by kernel_rfl)) (fun _ _ _ h => h) (Or.inl ⟨by rfl, by intro w'; go_simp; with_reducible rfl⟩) (by simp only [Act.put, pset]; rfl) ?_
        refine last_ (i := 26) (N := none) (bt 27 134217727) rfl rfl (one_of F33tab19 (by kernel_rfl)) (by decide) (fun K hK => ?_)
        refine skip_ (w1 := w10.setCell ⟨gp, 6, none⟩ (.bool kf)) rfl rfl ?hrun ?_
        case hrun => first | (go_simp; done) | (go_simp; rfl)
        refine hK.out _ _ (done_ (done_of F33tab19 (by kernel_rfl)) ?_)
        clear hK K f6 g6
        have n0 := Aside0.mk (M.out.set 6 (.bool kf) rfl)
        have n1 := Aside0.mk (HB.out.trans (M.out.set_below 6 (.bool kf)))
        have n2 := Aside0.mk (blk_far KBL.out (p := ⟨gp, 6, none⟩) KNE.out (.bool kf))
        clear M HB KBL
        have M := n0
        have HB := n1
        have KBL := n2
        clear n0 n1 n2
        generalize World.setCell _ _ _ = w11 at M HB KBL ⊢
        have c5 : w11.cell? ⟨gp, 5, none⟩ = some (.bool en) := (blk_cell M.out.blk 5).trans rfl
        have EFC : Aside0 ((frc0 x || frcL (x.f3.take (i + 1))) = kf) := ⟨by rw [TF.out, ← Bool.or_assoc, EF.out]; rfl⟩
        have EWD : Aside0 (own1 x.f0 x.f2 + wdL (x.f3.take (i + 1)) = wrap64 (wd + kw)) := ⟨by rw [EA.out, TW.out, ← EW.out]; omega⟩
        cases en
        · go_upto_region 21 with (fail)
          have n0 := Aside0.mk (M.out.below (below_drew1 (Below.refl _ _)))
          have n1 := Aside0.mk (HB.out.trans (((below_drew1 (Below.refl _ _))).mono M.out.base_le))
          have n2 := Aside0.mk (blk_below KBL.out (below_drew1 (Below.refl _ _)))
          clear M HB KBL c5
          have M := n0
          have HB := n1
          have KBL := n2
          clear n0 n1 n2
          have hs_ : m21S gp gq ld kl ke w11.drew := ⟨(blk_cell M.out.blk 4).trans rfl, (blk_cell KBL.out 4).trans KP.out.2.1, (blk_cell KBL.out 5).trans KP.out.2.2.1, trivial⟩
          refine start_ (n := 21) (S := m21S gp gq ld kl ke) (ds := [17, 18, 19, 20]) #[false, false, false, false, false, false, false, false, false, false, false, false, false, false, false, false, false, false, false, false, false] (by kernel_rfl) rfl rfl (hs_) (fun hHeld => ?_)
          clear hs_
          generalize World.drew _ = w12 at M HB KBL hHeld ⊢
          refine pure_ (i := 0) (N := some 110) (bt 21 1) rfl rfl (any_of F33tab21 (by kernel_rfl)) (fun _ _ _ h => h) (Or.inl ⟨by rfl, by intro w'; go_simp; with_reducible rfl⟩) (by simp only [Act.put, pset]; rfl) ?_
          refine pure_ (i := 1) (N := some 111) (bt 21 3) rfl rfl (any_of F33tab21 (by kernel_rfl)) (fun _ _ _ h => h) (Or.inl ⟨by rfl, by intro w'; go_simp; with_reducible rfl⟩) (by simp only [Act.put, pset]; rfl) ?_
          refine pure_ (i := 2) (N := some 112) (bt 21 7) rfl rfl (any_of F33tab21 (by kernel_rfl)) (fun _ _ _ h => h) (Or.inl ⟨by rfl, by intro w'; go_simp; with_reducible rfl⟩) (by simp only [Act.put, pset]; rfl) ?_
          refine pure_ (i := 3) (N := some 113) (bt 21 15) rfl rfl (any_of F33tab21 (by kernel_rfl)) (fun _ _ _ h => h) (Or.inl ⟨by rfl, by intro w'; go_simp; with_reducible rfl⟩) (by simp only [Act.put, pset]; rfl) ?_
          refine pure_ (i := 4) (N := some 114) (bt 21 31) rfl rfl (any_of F33tab21 (by kernel_rfl)) (fun _ _ _ h => h) (Or.inl ⟨by rfl, by intro w'; go_simp; with_reducible rfl⟩) (by simp only [Act.put, pset]; rfl) ?_
          refine take_ (i := 5) (N := some 115) (bt 21 63) rfl rfl (take_of F33tab21 (by kernel_rfl)) (fun _ _ _ h => h) (Or.inl ⟨by rfl, by rintro w' ⟨s0, s1, s2, s3⟩; go_simp; with_reducible rfl⟩) hHeld (by simp only [Act.put, pset]; rfl) ?_
          refine pure_ (i := 6) (N := some 116) (bt 21 127) rfl rfl (any_of F33tab21 (by kernel_rfl)) (fun _ _ _ h => h) (Or.inl ⟨by rfl, by intro w'; go_simp; with_reducible rfl⟩) (by simp only [Act.put, pset]; rfl) ?_
          refine pure_ (i := 7) (N := some 117) (bt 21 255) rfl rfl (any_of F33tab21 (by kernel_rfl)) (fun _ _ _ h => h) (Or.inl ⟨by rfl, by intro w'; go_simp; with_reducible rfl⟩) (by simp only [Act.put, pset]; rfl) ?_
          refine pure_ (i := 8) (N := some 118) (bt 21 511) rfl rfl (any_of F33tab21 (by kernel_rfl)) (fun _ _ _ h => h) (Or.inl ⟨by rfl, by intro w'; go_simp; with_reducible rfl⟩) (by simp only [Act.put, pset]; rfl) ?_
          refine take_ (i := 9) (N := some 119) (bt 21 1023) rfl rfl (take_of F33tab21 (by kernel_rfl)) (fun _ _ _ h => h) (Or.inl ⟨by rfl, by rintro w' ⟨s0, s1, s2, s3⟩; go_simp; with_reducible rfl⟩) hHeld (by simp only [Act.put, pset]; rfl) ?_
          refine pure_ (i := 10) (N := some 120) (bt 21 2047) rfl rfl (any_of F33tab21 (by kernel_rfl)) (fun _ _ _ h => h) (Or.inl ⟨by rfl, by intro w'; go_simp; with_reducible rfl⟩) (by simp only [Act.put, pset]; rfl) ?_
          refine pure_ (i := 11) (N := some 121) (bt 21 4095) rfl rfl (any_of F33tab21 (by kernel_rfl)) (fun _ _ _ h => h) (Or.inl ⟨by rfl, by intro w'; go_simp; with_reducible rfl⟩) (by simp only [Act.put, pset]; rfl) ?_
          refine pure_ (i := 12) (N := some 122) (bt 21 8191) rfl rfl (any_of F33tab21 (by kernel_rfl)) (fun _ _ _ h => h) (Or.inl ⟨by rfl, by intro w'; go_simp; with_reducible rfl⟩) (by simp only [Act.put, pset]; rfl) ?_
          refine pure_ (i := 13) (N := some 123) (bt 21 16383) rfl rfl (any_of F33tab21 (by kernel_rfl)) (fun _ _ _ h => h) (Or.inl ⟨by rfl, by intro w'; go_simp; with_reducible rfl⟩) (by simp only [Act.put, pset]; rfl) ?_
          refine take_ (i := 14) (N := some 124) (bt 21 32767) rfl rfl (take_of F33tab21 (by kernel_rfl)) (fun _ _ _ h => h) (Or.inl ⟨by rfl, by rintro w' ⟨s0, s1, s2, s3⟩; go_simp; with_reducible rfl⟩) hHeld (by simp only [Act.put, pset]; rfl) ?_
          refine pure_ (i := 15) (N := some 125) (bt 21 65535) rfl rfl (any_of F33tab21 (by kernel_rfl)) (fun _ _ _ h => h) (Or.inl ⟨by rfl, by intro w'; go_simp; with_reducible rfl⟩) (by simp only [Act.put, pset]; rfl) ?_
          refine pure_ (i := 16) (N := some 126) (bt 21 131071) rfl rfl (any_of F33tab21 (by kernel_rfl)) (fun _ _ _ h => h) (Or.inl ⟨by rfl, by intro w'; go_simp; with_reducible rfl⟩) (by simp only [Act.put, pset]; rfl) ?_
          have f4 := blk_frozen M.out.blk 4
          have g4 : w12.cell? ⟨gp, 4, none⟩ = some (.int .i64 ld) := (blk_cell M.out.blk 4).trans rfl
          have EA2 : Aside0 (wrap64 (ld + kl) = ld + kl) := ⟨by have := KB.out; have := LB.out; unfold wrap64; omega⟩
          refine last_ (i := 17) (N := none) (bt 21 262143) rfl rfl (one_of F33tab21 (by kernel_rfl)) (by decide) (fun K hK => ?_)
          refine skip_ (w1 := w12.setCell ⟨gp, 4, none⟩ (.int .i64 (wrap64 (ld + kl)))) rfl rfl ?hrun ?_
          case hrun => first | (go_simp; done) | (go_simp; rfl)
          refine hK.out _ _ ?_
          clear hHeld hK K f4 g4
          have n0 := Aside0.mk (M.out.set 4 (.int .i64 (wrap64 (ld + kl))) rfl)
          have n1 := Aside0.mk (HB.out.trans (M.out.set_below 4 (.int .i64 (wrap64 (ld + kl)))))
          clear M HB KBL
          have M := n0
          have HB := n1
          clear n0 n1
          generalize World.setCell _ _ _ = w13 at M HB ⊢
          refine restart_ (fun _ => True) [20] (by kernel_rfl) ?_
          have f5 := blk_frozen M.out.blk 5
          have g5 : w13.cell? ⟨gp, 5, none⟩ = some (.bool false) := (blk_cell M.out.blk 5).trans rfl
          refine pure_ (i := 18) (N := some 127) (bt 21 524287) rfl rfl (any_of F33tab21 (by kernel_rfl)) (fun _ _ _ h => h) (Or.inl ⟨by rfl, by intro w'; go_simp; with_reducible rfl⟩) (by simp only [Act.put, pset]; rfl) ?_
          refine pure_ (i := 19) (N := some 128) (bt 21 1048575) rfl rfl (any_of F33tab21 (by kernel_rfl)) (fun _ _ _ h => h) (Or.inl ⟨by rfl, by intro w'; go_simp; with_reducible rfl⟩) (by simp only [Act.put, pset]; rfl) ?_
          refine last_ (i := 20) (N := none) (bt 21 2097151) rfl rfl (one_of F33tab21 (by kernel_rfl)) (by decide) (fun K hK => ?_)
          refine skip_ (w1 := w13.setCell ⟨gp, 5, none⟩ (.bool ke)) rfl rfl ?hrun ?_
          case hrun => first | (go_simp; done) | (go_simp; rfl)
          refine hK.out _ _ (done_ (done_of F33tab21 (by kernel_rfl)) ?_)
          clear hK K f5 g5
          have n0 := Aside0.mk (M.out.set 5 (.bool ke) rfl)
          have n1 := Aside0.mk (HB.out.trans (M.out.set_below 5 (.bool ke)))
          clear M HB
          have M := n0
          have HB := n1
          clear n0 n1
          generalize World.setCell _ _ _ = w14 at M HB ⊢
          go_wp2_with fail
          go_roundg (gk - 1)
          case measure => have := HKI.out; omega
          case rel =>
            refine ⟨i + 1, .slice A1 nn1 k1, gs ++ [gq], by go_num, by omega, ⟨by have := HKI.out; omega⟩, ⟨?_⟩, HB⟩
            rw [EWD.out, EFC.out, TL.out, TK.out]
            rw [if_neg (by decide), ← EA2.out]; exact M.out
        · go_wp2_with fail
          go_roundg (gk - 1)
          case measure => have := HKI.out; omega
          case rel =>
            refine ⟨i + 1, .slice A1 nn1 k1, gs ++ [gq], by go_num, by omega, ⟨by have := HKI.out; omega⟩, ⟨?_⟩, HB⟩
            rw [EWD.out, EFC.out, TL.out, TK.out]
            exact M.out
      · have n0 := Aside0.mk (M.out.below (below_drew1 (Below.refl _ _)))
        have n1 := Aside0.mk (HB.out.trans (((below_drew1 (Below.refl _ _))).mono M.out.base_le))
        have n2 := Aside0.mk (blk_below KBL.out (below_drew1 (Below.refl _ _)))
        clear M HB KBL
        have M := n0
        have HB := n1
        have KBL := n2
        clear n0 n1 n2
        have hs_ : m19S gp gq wd kw true kf w8.drew := ⟨(blk_cell M.out.blk 3).trans rfl, (blk_cell KBL.out 3).trans KP.out.1, (blk_cell M.out.blk 6).trans rfl, (blk_cell KBL.out 6).trans KP.out.2.2.2, trivial⟩
        refine start_ (n := 27) (S := m19S gp gq wd kw true kf) (ds := [23, 24, 25, 26]) #[false, false, false, false, false, false, false, false, false, false, false, false, false, false, false, false, false, false, false, false, false, false, false, false, false, false, false] (by kernel_rfl) rfl rfl (hs_) (fun hHeld => ?_)
        clear hs_
        generalize World.drew _ = w9 at M HB KBL hHeld ⊢
        refine pure_ (i := 0) (N := some 80) (bt 27 1) rfl rfl (any_of F33tab19 (by kernel_rfl)) (fun _ _ _ h => h) (Or.inl ⟨by rfl, by intro w'; go_simp; with_reducible rfl⟩) (by simp only [Act.put, pset]; rfl) ?_
        refine pure_ (i := 1) (N := some 81) (bt 27 3) rfl rfl (any_of F33tab19 (by kernel_rfl)) (fun _ _ _ h => h) (Or.inl ⟨by rfl, by intro w'; go_simp; with_reducible rfl⟩) (by simp only [Act.put, pset]; rfl) ?_
        refine pure_ (i := 2) (N := some 82) (bt 27 7) rfl rfl (any_of F33tab19 (by kernel_rfl)) (fun _ _ _ h => h) (Or.inl ⟨by rfl, by intro w'; go_simp; with_reducible rfl⟩) (by simp only [Act.put, pset]; rfl) ?_
        refine pure_ (i := 3) (N := some 83) (bt 27 15) rfl rfl (any_of F33tab19 (by kernel_rfl)) (fun _ _ _ h => h) (Or.inl ⟨by rfl, by intro w'; go_simp; with_reducible rfl⟩) (by simp only [Act.put, pset]; rfl) ?_
        refine pure_ (i := 4) (N := some 84) (bt 27 31) rfl rfl (any_of F33tab19 (by kernel_rfl)) (fun _ _ _ h => h) (Or.inl ⟨by rfl, by intro w'; go_simp; with_reducible rfl⟩) (by simp only [Act.put, pset]; rfl) ?_
        refine take_ (i := 5) (N := some 85) (bt 27 63) rfl rfl (take_of F33tab19 (by kernel_rfl)) (fun _ _ _ h => h) (Or.inl ⟨by rfl, by rintro w' ⟨s0, s1, s2, s3, s4⟩; go_simp; with_reducible rfl⟩) hHeld (by simp only [Act.put, pset]; rfl) ?_
        refine pure_ (i := 6) (N := some 86) (bt 27 127) rfl rfl (any_of F33tab19 (by kernel_rfl)) (fun _ _ _ h => h) (Or.inl ⟨by rfl, by intro w'; go_simp; with_reducible rfl⟩) (by simp only [Act.put, pset]; rfl) ?_
        refine pure_ (i := 7) (N := some 87) (bt 27 255) rfl rfl (any_of F33tab19 (by kernel_rfl)) (fun _ _ _ h => h) (Or.inl ⟨by rfl, by intro w'; go_simp; with_reducible rfl⟩) (by simp only [Act.put, pset]; rfl) ?_
        refine pure_ (i := 8) (N := some 88) (bt 27 511) rfl rfl (any_of F33tab19 (by kernel_rfl)) (fun _ _ _ h => h) (Or.inl ⟨by rfl, by intro w'; go_simp; with_reducible rfl⟩) (by simp only [Act.put, pset]; rfl) ?_
        refine take_ (i := 9) (N := some 89) (bt 27 1023) rfl rfl (take_of F33tab19 (by kernel_rfl)) (fun _ _ _ h => h) (Or.inl ⟨by rfl, by rintro w' ⟨s0, s1, s2, s3, s4⟩; go_simp; with_reducible rfl⟩) hHeld (by simp only [Act.put, pset]; rfl) ?_
        refine pure_ (i := 10) (N := some 90) (bt 27 2047) rfl rfl (any_of F33tab19 (by kernel_rfl)) (fun _ _ _ h => h) (Or.inl ⟨by rfl, by intro w'; go_simp; with_reducible rfl⟩) (by simp only [Act.put, pset]; rfl) ?_
        refine pure_ (i := 11) (N := some 91) (bt 27 4095) rfl rfl (any_of F33tab19 (by kernel_rfl)) (fun _ _ _ h => h) (Or.inl ⟨by rfl, by intro w'; go_simp; with_reducible rfl⟩) (by simp only [Act.put, pset]; rfl) ?_
        refine pure_ (i := 12) (N := some 92) (bt 27 8191) rfl rfl (any_of F33tab19 (by kernel_rfl)) (fun _ _ _ h => h) (Or.inl ⟨by rfl, by intro w'; go_simp; with_reducible rfl⟩) (by simp only [Act.put, pset]; rfl) ?_
        refine pure_ (i := 13) (N := some 93) (bt 27 16383) rfl rfl (any_of F33tab19 (by kernel_rfl)) (fun _ _ _ h => h) (Or.inl ⟨by rfl, by intro w'; go_simp; with_reducible rfl⟩) (by simp only [Act.put, pset]; rfl) ?_
        refine take_ (i := 14) (N := some 94) (bt 27 32767) rfl rfl (take_of F33tab19 (by kernel_rfl)) (fun _ _ _ h => h) (Or.inl ⟨by rfl, by rintro w' ⟨s0, s1, s2, s3, s4⟩; go_simp; with_reducible rfl⟩) hHeld (by simp only [Act.put, pset]; rfl) ?_
        refine pure_ (i := 15) (N := some 95) (bt 27 65535) rfl rfl (any_of F33tab19 (by kernel_rfl)) (fun _ _ _ h => h) (Or.inl ⟨by rfl, by intro w'; go_simp; with_reducible rfl⟩) (by simp only [Act.put, pset]; rfl) ?_
        refine pure_ (i := 16) (N := some 96) (v := undef) (bt 27 131071) rfl rfl (any_of F33tab19 (by kernel_rfl)) (fun _ _ _ h => h) (Or.inr ⟨by rfl, rfl⟩) (by simp only [Act.put, pset]; rfl) ?_
        refine pure_ (i := 17) (N := some 97) (v := undef) (bt 27 262143) rfl rfl (any_of F33tab19 (by kernel_rfl)) (fun _ _ _ h => h) (Or.inr ⟨by rfl, rfl⟩) (by simp only [Act.put, pset]; rfl) ?_
        refine pure_ (i := 18) (N := some 98) (v := undef) (bt 27 524287) rfl rfl (any_of F33tab19 (by kernel_rfl)) (fun _ _ _ h => h) (Or.inr ⟨by rfl, rfl⟩) (by simp only [Act.put, pset]; rfl) ?_
        refine pure_ (i := 19) (N := some 99) (v := undef) (bt 27 1048575) rfl rfl (any_of F33tab19 (by kernel_rfl)) (fun _ _ _ h => h) (Or.inr ⟨by rfl, rfl⟩) (by simp only [Act.put, pset]; rfl) ?_
        refine pure_ (i := 20) (N := some 100) (bt 27 2097151) rfl rfl (any_of F33tab19 (by kernel_rfl)) (fun _ _ _ h => h) (Or.inl ⟨by rfl, by intro w'; go_simp; with_reducible rfl⟩) (by simp only [Act.put, pset]; rfl) ?_
        refine pure_ (i := 21) (N := some 101) (bt 27 4194303) rfl rfl (any_of F33tab19 (by kernel_rfl)) (fun _ _ _ h => h) (Or.inl ⟨by rfl, by intro w'; go_simp; with_reducible rfl⟩) (by simp only [Act.put, pset]; rfl) ?_
        refine pure_ (i := 22) (N := some 102) (bt 27 8388607) rfl rfl (any_of F33tab19 (by kernel_rfl)) (fun _ _ _ h => h) (Or.inl ⟨by rfl, by intro w'; go_simp; with_reducible rfl⟩) (by simp only [Act.put, pset]; rfl) ?_
        have f3 := blk_frozen M.out.blk 3
        have g3 : w9.cell? ⟨gp, 3, none⟩ = some (.int .i64 wd) := (blk_cell M.out.blk 3).trans rfl
        have EA : Aside0 (wrap64 (wd + kw) = wd + kw) := ⟨by have := KB.out; have := WB.out; unfold wrap64; omega⟩
        refine last_ (i := 23) (N := none) (bt 27 16777215) rfl rfl (one_of F33tab19 (by kernel_rfl)) (by decide) (fun K hK => ?_)
        refine skip_ (w1 := w9.setCell ⟨gp, 3, none⟩ (.int .i64 (wrap64 (wd + kw)))) rfl rfl ?hrun ?_
        case hrun => first | (go_simp; done) | (go_simp; rfl)
        refine hK.out _ _ ?_
        clear hHeld hK K f3 g3
        have n0 := Aside0.mk (M.out.set 3 (.int .i64 (wrap64 (wd + kw))) rfl)
        have n1 := Aside0.mk (HB.out.trans (M.out.set_below 3 (.int .i64 (wrap64 (wd + kw)))))
        have n2 := Aside0.mk (blk_far KBL.out (p := ⟨gp, 3, none⟩) KNE.out (.int .i64 (wrap64 (wd + kw))))
        clear M HB KBL
        have M := n0
        have HB := n1
        have KBL := n2
        clear n0 n1 n2
        generalize World.setCell _ _ _ = w10 at M HB KBL ⊢
        refine restart_ (fun _ => True) [26] (by kernel_rfl) ?_
        have f6 := blk_frozen M.out.blk 6
        have g6 : w10.cell? ⟨gp, 6, none⟩ = some (.bool true) := (blk_cell M.out.blk 6).trans rfl
        refine pure_ (i := 24) (N := some 103) (bt 27 33554431) rfl rfl (any_of F33tab19 (by kernel_rfl)) (fun _ _ _ h => h) (Or.inl ⟨by rfl, by intro w'; go_simp; with_reducible rfl⟩) (by simp only [Act.put, pset]; rfl) ?_
        refine pure_ (i := 25) (N := some 104) (bt 27 67108863) rfl rfl (any_of F33tab19 (by kernel_rfl)) (fun _ _ _ h => h) (Or.inl ⟨by rfl, by intro w'; go_simp; with_reducible rfl⟩) (by simp only [Act.put, pset]; rfl) ?_
        refine last_ (i := 26) (N := none) (bt 27 134217727) rfl rfl (one_of F33tab19 (by kernel_rfl)) (by decide) (fun K hK => ?_)
        refine skip_ (w1 := w10.setCell ⟨gp, 6, none⟩ (.bool true)) rfl rfl ?hrun ?_
        case hrun => first | (go_simp; done) | (go_simp; rfl)
        refine hK.out _ _ (done_ (done_of F33tab19 (by kernel_rfl)) ?_)
        clear hK K f6 g6
        have n0 := Aside0.mk (M.out.set 6 (.bool true) rfl)
        have n1 := Aside0.mk (HB.out.trans (M.out.set_below 6 (.bool true)))
        have n2 := Aside0.mk (blk_far KBL.out (p := ⟨gp, 6, none⟩) KNE.out (.bool true))
        clear M HB KBL
        have M := n0
        have HB := n1
        have KBL := n2
        clear n0 n1 n2
        generalize World.setCell _ _ _ = w11 at M HB KBL ⊢
        have c5 : w11.cell? ⟨gp, 5, none⟩ = some (.bool en) := (blk_cell M.out.blk 5).trans rfl
        have EFC : Aside0 ((frc0 x || frcL (x.f3.take (i + 1))) = true) := ⟨by rw [TF.out, ← Bool.or_assoc, EF.out]; rfl⟩
        have EWD : Aside0 (own1 x.f0 x.f2 + wdL (x.f3.take (i + 1)) = wrap64 (wd + kw)) := ⟨by rw [EA.out, TW.out, ← EW.out]; omega⟩
        cases en
        · go_upto_region 21 with (fail)
          have n0 := Aside0.mk (M.out.below (below_drew1 (Below.refl _ _)))
          have n1 := Aside0.mk (HB.out.trans (((below_drew1 (Below.refl _ _))).mono M.out.base_le))
          have n2 := Aside0.mk (blk_below KBL.out (below_drew1 (Below.refl _ _)))
          clear M HB KBL c5
          have M := n0
          have HB := n1
          have KBL := n2
          clear n0 n1 n2
          have hs_ : m21S gp gq ld kl ke w11.drew := ⟨(blk_cell M.out.blk 4).trans rfl, (blk_cell KBL.out 4).trans KP.out.2.1, (blk_cell KBL.out 5).trans KP.out.2.2.1, trivial⟩
          refine start_ (n := 21) (S := m21S gp gq ld kl ke) (ds := [17, 18, 19, 20]) #[false, false, false, false, false, false, false, false, false, false, false, false, false, false, false, false, false, false, false, false, false] (by kernel_rfl) rfl rfl (hs_) (fun hHeld => ?_)
          clear hs_
          generalize World.drew _ = w12 at M HB KBL hHeld ⊢
          refine pure_ (i := 0) (N := some 110) (bt 21 1) rfl rfl (any_of F33tab21 (by kernel_rfl)) (fun _ _ _ h => h) (Or.inl ⟨by rfl, by intro w'; go_simp; with_reducible rfl⟩) (by simp only [Act.put, pset]; rfl) ?_
          refine pure_ (i := 1) (N := some 111) (bt 21 3) rfl rfl (any_of F33tab21 (by kernel_rfl)) (fun _ _ _ h => h) (Or.inl ⟨by rfl, by intro w'; go_simp; with_reducible rfl⟩) (by simp only [Act.put, pset]; rfl) ?_
          refine pure_ (i := 2) (N := some 112) (bt 21 7) rfl rfl (any_of F33tab21 (by kernel_rfl)) (fun _ _ _ h => h) (Or.inl ⟨by rfl, by intro w'; go_simp; with_reducible rfl⟩) (by simp only [Act.put, pset]; rfl) ?_
          refine pure_ (i := 3) (N := some 113) (bt 21 15) rfl rfl (any_of F33tab21 (by kernel_rfl)) (fun _ _ _ h => h) (Or.inl ⟨by rfl, by intro w'; go_simp; with_reducible rfl⟩) (by simp only [Act.put, pset]; rfl) ?_
          refine pure_ (i := 4) (N := some 114) (bt 21 31) rfl rfl (any_of F33tab21 (by kernel_rfl)) (fun _ _ _ h => h) (Or.inl ⟨by rfl, by intro w'; go_simp; with_reducible rfl⟩) (by simp only [Act.put, pset]; rfl) ?_
          refine take_ (i := 5) (N := some 115) (bt 21 63) rfl rfl (take_of F33tab21 (by kernel_rfl)) (fun _ _ _ h => h) (Or.inl ⟨by rfl, by rintro w' ⟨s0, s1, s2, s3⟩; go_simp; with_reducible rfl⟩) hHeld (by simp only [Act.put, pset]; rfl) ?_
          refine pure_ (i := 6) (N := some 116) (bt 21 127) rfl rfl (any_of F33tab21 (by kernel_rfl)) (fun _ _ _ h => h) (Or.inl ⟨by rfl, by intro w'; go_simp; with_reducible rfl⟩) (by simp only [Act.put, pset]; rfl) ?_
          refine pure_ (i := 7) (N := some 117) (bt 21 255) rfl rfl (any_of F33tab21 (by kernel_rfl)) (fun _ _ _ h => h) (Or.inl ⟨by rfl, by intro w'; go_simp; with_reducible rfl⟩) (by simp only [Act.put, pset]; rfl) ?_
          refine pure_ (i := 8) (N := some 118) (bt 21 511) rfl rfl (any_of F33tab21 (by kernel_rfl)) (fun _ _ _ h => h) (Or.inl ⟨by rfl, by intro w'; go_simp; with_reducible rfl⟩) (by simp only [Act.put, pset]; rfl) ?_
          refine take_ (i := 9) (N := some 119) (bt 21 1023) rfl rfl (take_of F33tab21 (by kernel_rfl)) (fun _ _ _ h => h) (Or.inl ⟨by rfl, by rintro w' ⟨s0, s1, s2, s3⟩; go_simp; with_reducible rfl⟩) hHeld (by simp only [Act.put, pset]; rfl) ?_
          refine pure_ (i := 10) (N := some 120) (bt 21 2047) rfl rfl (any_of F33tab21 (by kernel_rfl)) (fun _ _ _ h => h) (Or.inl ⟨by rfl, by intro w'; go_simp; with_reducible rfl⟩) (by simp only [Act.put, pset]; rfl) ?_
          refine pure_ (i := 11) (N := some 121) (bt 21 4095) rfl rfl (any_of F33tab21 (by kernel_rfl)) (fun _ _ _ h => h) (Or.inl ⟨by rfl, by intro w'; go_simp; with_reducible rfl⟩) (by simp only [Act.put, pset]; rfl) ?_
          refine pure_ (i := 12) (N := some 122) (bt 21 8191) rfl rfl (any_of F33tab21 (by kernel_rfl)) (fun _ _ _ h => h) (Or.inl ⟨by rfl, by intro w'; go_simp; with_reducible rfl⟩) (by simp only [Act.put, pset]; rfl) ?_
          refine pure_ (i := 13) (N := some 123) (bt 21 16383) rfl rfl (any_of F33tab21 (by kernel_rfl)) (fun _ _ _ h => h) (Or.inl ⟨by rfl, by intro w'; go_simp; with_reducible rfl⟩) (by simp only [Act.put, pset]; rfl) ?_
          refine take_ (i := 14) (N := some 124) (bt 21 32767) rfl rfl (take_of F33tab21 (by kernel_rfl)) (fun _ _ _ h => h) (Or.inl ⟨by rfl, by rintro w' ⟨s0, s1, s2, s3⟩; go_simp; with_reducible rfl⟩) hHeld (by simp only [Act.put, pset]; rfl) ?_
          refine pure_ (i := 15) (N := some 125) (bt 21 65535) rfl rfl (any_of F33tab21 (by kernel_rfl)) (fun _ _ _ h => h) (Or.inl ⟨by rfl, by intro w'; go_simp; with_reducible rfl⟩) (by simp only [Act.put, pset]; rfl) ?_
          refine pure_ (i := 16) (N := some 126) (bt 21 131071) rfl rfl (any_of F33tab21 (by kernel_rfl)) (fun _ _ _ h => h) (Or.inl ⟨by rfl, by intro w'; go_simp; with_reducible rfl⟩) (by simp only [Act.put, pset]; rfl) ?_
          have f4 := blk_frozen M.out.blk 4
          have g4 : w12.cell? ⟨gp, 4, none⟩ = some (.int .i64 ld) := (blk_cell M.out.blk 4).trans rfl
          have EA2 : Aside0 (wrap64 (ld + kl) = ld + kl) := ⟨by have := KB.out; have := LB.out; unfold wrap64; omega⟩
          refine last_ (i := 17) (N := none) (bt 21 262143) rfl rfl (one_of F33tab21 (by kernel_rfl)) (by decide) (fun K hK => ?_)
          refine skip_ (w1 := w12.setCell ⟨gp, 4, none⟩ (.int .i64 (wrap64 (ld + kl)))) rfl rfl ?hrun ?_
          case hrun => first | (go_simp; done) | (go_simp; rfl)
          refine hK.out _ _ ?_
          clear hHeld hK K f4 g4
          have n0 := Aside0.mk (M.out.set 4 (.int .i64 (wrap64 (ld + kl))) rfl)
          have n1 := Aside0.mk (HB.out.trans (M.out.set_below 4 (.int .i64 (wrap64 (ld + kl)))))
          clear M HB KBL
          have M := n0
          have HB := n1
          clear n0 n1
          generalize World.setCell _ _ _ = w13 at M HB ⊢
          refine restart_ (fun _ => True) [20] (by kernel_rfl) ?_
          have f5 := blk_frozen M.out.blk 5
          have g5 : w13.cell? ⟨gp, 5, none⟩ = some (.bool false) := (blk_cell M.out.blk 5).trans rfl
          refine pure_ (i := 18) (N := some 127) (bt 21 524287) rfl rfl (any_of F33tab21 (by kernel_rfl)) (fun _ _ _ h => h) (Or.inl ⟨by rfl, by intro w'; go_simp; with_reducible rfl⟩) (by simp only [Act.put, pset]; rfl) ?_
          refine pure_ (i := 19) (N := some 128) (bt 21 1048575) rfl rfl (any_of F33tab21 (by kernel_rfl)) (fun _ _ _ h => h) (Or.inl ⟨by rfl, by intro w'; go_simp; with_reducible rfl⟩) (by simp only [Act.put, pset]; rfl) ?_
          refine last_ (i := 20) (N := none) (bt 21 2097151) rfl rfl (one_of F33tab21 (by kernel_rfl)) (by decide) (fun K hK => ?_)
          refine skip_ (w1 := w13.setCell ⟨gp, 5, none⟩ (.bool ke)) rfl rfl ?hrun ?_
          case hrun => first | (go_simp; done) | (go_simp; rfl)
          refine hK.out _ _ (done_ (done_of F33tab21 (by kernel_rfl)) ?_)
          clear hK K f5 g5
          have n0 := Aside0.mk (M.out.set 5 (.bool ke) rfl)
          have n1 := Aside0.mk (HB.out.trans (M.out.set_below 5 (.bool ke)))
          clear M HB
          have M := n0
          have HB := n1
          clear n0 n1
          generalize World.setCell _ _ _ = w14 at M HB ⊢
          go_wp2_with fail
          go_roundg (gk - 1)
          case measure => have := HKI.out; omega
          case rel =>
            refine ⟨i + 1, .slice A1 nn1 k1, gs ++ [gq], by go_num, by omega, ⟨by have := HKI.out; omega⟩, ⟨?_⟩, HB⟩
            rw [EWD.out, EFC.out, TL.out, TK.out]
            rw [if_neg (by decide), ← EA2.out]; exact M.out
        · go_wp2_with fail
          go_roundg (gk - 1)
          case measure => have := HKI.out; omega
          case rel =>
            refine ⟨i + 1, .slice A1 nn1 k1, gs ++ [gq], by go_num, by omega, ⟨by have := HKI.out; omega⟩, ⟨?_⟩, HB⟩
            rw [EWD.out, EFC.out, TL.out, TK.out]
            exact M.out
    · obtain rfl : i = x.f3.length := by omega
      go_wp2_with fail
      go_ret
      refine ⟨gp, rfl, ?_, HB.out⟩
      have hq := M.out
      rw [List.take_length] at hq
      obtain ⟨A, c, ev⟩ := own_slice hq.own
      rw [List.length_map, hq.len] at ev
      subst ev
      refine MeasC.part (A := A) (c := c) (gs := gs) ?_
      unfold pcs
      rw [wdV_eq, ldV_eq, frcB_frc0]
      exact hq
set_option maxHeartbeats 8000000 in
set_option maxRecDepth 100000 in
theorem meas_3 (hx : Dc w x A3 c3) (hf : finD x) (hc : cnt x ≤ 1100) (ih : ∀ (i : Nat) (h : i < x.f3.length) (B3 : Option Addr) (d3 : Nat) (w' : World), Dc w' x.f3[i] B3 d3 → MeasAt x.f3[i] B3 d3 w') (hk : x.f0 = 3) : MeasAt x A3 c3 w := by
  have hu24 := Try.underlying24
  have hu80 := Try.underlying80
  have hu78 := Try.underlying78
  have hu65 := Try.underlying65
  have HK := Aside0.mk hk
  have HSZ : Aside0 (x.f2.size ≤ 1000000000000) := ⟨Nat.le_trans ((finD_eq x).1 hf).1 (by decide)⟩
  have ML := Aside0.mk (meas_loop hx hf hc ih)
  clear hx hf hc ih
  unfold MeasAt DA
  rw [hk]
  clear hk
  go_enter Try.func33, Try.ntmps33
  go_upto_region 2 with (first | ((with_reducible refine gate_dst (N := 1) rfl ?_); (try (refine gate_guard (by rfl) ?_; dsimp only)); refine box_event ?hg (N := 1) ?hd (cs := #[.int .i64 3, .int .i64 x.f1, .string x.f2, .slice A3 x.f3.length c3]) (t := 24) ?hr ?_; (case hd => rfl); (case hg => rfl); (case hr => first | (go_simp; done) | (go_simp; rfl)); intro gb hg w1 hbox hb; have HB1 := Aside0.mk hb; have BX := Aside0.mk hbox; have z0 : w1.cell? ⟨gb, 0, none⟩ = some (.int .i64 3) := ((blk_cell hbox 0).trans rfl).trans (by rw [← HK.out]; rfl); have z1 : w1.cell? ⟨gb, 1, none⟩ = some (.int .i64 x.f1) := (blk_cell hbox 1).trans rfl; have z2 : w1.cell? ⟨gb, 2, none⟩ = some (.string x.f2) := (blk_cell hbox 2).trans rfl; clear hb hbox hg) | ((with_reducible refine gate_dst (N := 14) rfl ?_); (try (refine gate_guard (by rfl) ?_; dsimp only)); refine box_event ?hg (N := 14) ?hd (cs := #[.int .i64 3, .int .i64 x.f1, .string x.f2, .int .i64 0, .int .i64 0, .bool false, .bool false, .slice none 0 0]) (t := 80) ?hr ?_; (case hd => rfl); (case hg => rfl); (case hr => first | (go_simp; done) | (go_simp; rfl)); intro gp hg w2 hbox hb; have HB2 := Aside0.mk (below_step HB1.out hb); have MC := Aside0.mk (MeasC.start hbox (Nat.le_trans HB1.out.size (Nat.le_of_eq hg.symm))); have BX2 := Aside0.mk (blk_below BX.out hb); clear HB1 BX z0 z1 z2 hb hbox hg; have z0 : w2.cell? ⟨gb, 0, none⟩ = some (.int .i64 3) := ((blk_cell BX2.out 0).trans rfl).trans (by rw [← HK.out]; rfl); have z1 : w2.cell? ⟨gb, 1, none⟩ = some (.int .i64 x.f1) := (blk_cell BX2.out 1).trans rfl; have z2 : w2.cell? ⟨gb, 2, none⟩ = some (.string x.f2) := (blk_cell BX2.out 2).trans rfl; have f3 := blk_frozen MC.out.blk 3; have f5 := blk_frozen MC.out.blk 5; have f6 := blk_frozen MC.out.blk 6; have g3 : w2.cell? ⟨gp, 3, none⟩ = some (.int .i64 0) := (blk_cell MC.out.blk 3).trans rfl; have g5 : w2.cell? ⟨gp, 5, none⟩ = some (.bool false) := (blk_cell MC.out.blk 5).trans rfl; have g6 : w2.cell? ⟨gp, 6, none⟩ = some (.bool false) := (blk_cell MC.out.blk 6).trans rfl))
  rename_i Ka ha Kb hb
  replace ha : ∀ a w', KH w x A3 c3 a w' → Ka a w' := fun a w' h => ha a w' (ML.out a w' h)
  go_wp2_with fail
  have n0 := Aside0.mk ((MC.out).set 5 (.bool true) rfl)
  have n1 := Aside0.mk (blk_far (BX2.out) (p := ⟨gp, 5, none⟩) (blk_ne BX2.out MC.out.blk (by decide)) (.bool true))
  have n2 := Aside0.mk ((HB2.out).trans ((MC.out).set_below 5 (.bool true)))
  clear MC BX2 HB2 z0 z1 z2 f3 f5 f6 g3 g5 g6
  have MC := n0
  have BX2 := n1
  have HB2 := n2
  clear n0 n1 n2
  generalize World.setCell _ _ _ = w5 at MC BX2 HB2 ⊢
  refine ⟨gb, gp, _, _, _, _, _, _, _, _, _, _, _, _, _, _, _, _, _, _, _, _, _, _, _, _, _, _, _, _, _, _, _, _, _, _, _, _, _, _, _, _, _, _, _, _, _, _, _, _, _, _, _, _, _, _, _, _, _, _, rfl, ?_, ?_, HB2.out⟩
  · unfold dcs
    rw [HK.out]
    exact BX2.out
  · have E0 : own1 x.f0 x.f2 = 0 ∧ lead0 x.f0 x.f2 = (0, true) ∧ frc0 x = false := by unfold own1 lead0 frc0; rw [HK.out]; exact ⟨rfl, rfl, by simp⟩
    have q := MC.out
    rw [List.take_zero]
    unfold mk8
    rw [E0.1, E0.2.1, E0.2.2, HK.out]
    simp only [wdL, ldL, frcL, Int.add_zero, Bool.or_false]
    exact q
set_option maxHeartbeats 8000000 in
set_option maxRecDepth 100000 in
theorem meas_1 (hx : Dc w x A3 c3) (hf : finD x) (hc : cnt x ≤ 1100) (ih : ∀ (i : Nat) (h : i < x.f3.length) (B3 : Option Addr) (d3 : Nat) (w' : World), Dc w' x.f3[i] B3 d3 → MeasAt x.f3[i] B3 d3 w') (hk : x.f0 = 1) : MeasAt x A3 c3 w := by
  have hu24 := Try.underlying24
  have hu80 := Try.underlying80
  have hu78 := Try.underlying78
  have hu65 := Try.underlying65
  have HK := Aside0.mk hk
  have HSZ : Aside0 (x.f2.size ≤ 1000000000000) := ⟨Nat.le_trans ((finD_eq x).1 hf).1 (by decide)⟩
  have ML := Aside0.mk (meas_loop hx hf hc ih)
  clear hx hf hc ih
  unfold MeasAt DA
  rw [hk]
  clear hk
  go_enter Try.func33, Try.ntmps33
  go_upto_region 2 with (first | ((with_reducible refine gate_dst (N := 1) rfl ?_); (try (refine gate_guard (by rfl) ?_; dsimp only)); refine box_event ?hg (N := 1) ?hd (cs := #[.int .i64 1, .int .i64 x.f1, .string x.f2, .slice A3 x.f3.length c3]) (t := 24) ?hr ?_; (case hd => rfl); (case hg => rfl); (case hr => first | (go_simp; done) | (go_simp; rfl)); intro gb hg w1 hbox hb; have HB1 := Aside0.mk hb; have BX := Aside0.mk hbox; have z0 : w1.cell? ⟨gb, 0, none⟩ = some (.int .i64 1) := ((blk_cell hbox 0).trans rfl).trans (by rw [← HK.out]; rfl); have z1 : w1.cell? ⟨gb, 1, none⟩ = some (.int .i64 x.f1) := (blk_cell hbox 1).trans rfl; have z2 : w1.cell? ⟨gb, 2, none⟩ = some (.string x.f2) := (blk_cell hbox 2).trans rfl; clear hb hbox hg) | ((with_reducible refine gate_dst (N := 14) rfl ?_); (try (refine gate_guard (by rfl) ?_; dsimp only)); refine box_event ?hg (N := 14) ?hd (cs := #[.int .i64 1, .int .i64 x.f1, .string x.f2, .int .i64 0, .int .i64 0, .bool false, .bool false, .slice none 0 0]) (t := 80) ?hr ?_; (case hd => rfl); (case hg => rfl); (case hr => first | (go_simp; done) | (go_simp; rfl)); intro gp hg w2 hbox hb; have HB2 := Aside0.mk (below_step HB1.out hb); have MC := Aside0.mk (MeasC.start hbox (Nat.le_trans HB1.out.size (Nat.le_of_eq hg.symm))); have BX2 := Aside0.mk (blk_below BX.out hb); clear HB1 BX z0 z1 z2 hb hbox hg; have z0 : w2.cell? ⟨gb, 0, none⟩ = some (.int .i64 1) := ((blk_cell BX2.out 0).trans rfl).trans (by rw [← HK.out]; rfl); have z1 : w2.cell? ⟨gb, 1, none⟩ = some (.int .i64 x.f1) := (blk_cell BX2.out 1).trans rfl; have z2 : w2.cell? ⟨gb, 2, none⟩ = some (.string x.f2) := (blk_cell BX2.out 2).trans rfl; have f3 := blk_frozen MC.out.blk 3; have f5 := blk_frozen MC.out.blk 5; have f6 := blk_frozen MC.out.blk 6; have g3 : w2.cell? ⟨gp, 3, none⟩ = some (.int .i64 0) := (blk_cell MC.out.blk 3).trans rfl; have g5 : w2.cell? ⟨gp, 5, none⟩ = some (.bool false) := (blk_cell MC.out.blk 5).trans rfl; have g6 : w2.cell? ⟨gp, 6, none⟩ = some (.bool false) := (blk_cell MC.out.blk 6).trans rfl))
  rename_i Ka ha Kb hb
  replace ha : ∀ a w', KH w x A3 c3 a w' → Ka a w' := fun a w' h => ha a w' (ML.out a w' h)
  go_upto_region 5 with (first | ((with_reducible refine gate_dst (N := 22) rfl ?_); refine goesL_ (some 22) rfl rfl Try.func40 (by kernel_rfl) rfl #[.string x.f2] rfl (by (try simp only [List.map_toArray, List.map_cons, List.map_nil]); first | done | rfl) ?_; (refine (width_calls x.f2 HSZ.out _).mono ?_); (rintro e w3 ⟨rfl, hb⟩; refine ⟨_, rfl, ?_⟩; have n0 := Aside0.mk (MC.out.below hb); have n1 := Aside0.mk (blk_below BX2.out hb); have n2 := Aside0.mk (below_step HB2.out hb); clear MC BX2 HB2 z0 z1 z2 f3 f5 f6 g3 g5 g6 hb; have MC := n0; have BX2 := n1; have HB2 := n2; clear n0 n1 n2; have f3 := blk_frozen MC.out.blk 3; have g3 : w3.cell? ⟨gp, 3, none⟩ = some (.int .i64 0) := (blk_cell MC.out.blk 3).trans rfl)))
  have n0 := Aside0.mk ((MC.out).set 3 (.int .i64 (cw x.f2)) rfl)
  have n1 := Aside0.mk (blk_far (BX2.out) (p := ⟨gp, 3, none⟩) (blk_ne BX2.out MC.out.blk (by decide)) (.int .i64 (cw x.f2)))
  have n2 := Aside0.mk ((HB2.out).trans ((MC.out).set_below 3 (.int .i64 (cw x.f2))))
  clear MC BX2 HB2 f3 g3
  have MC := n0
  have BX2 := n1
  have HB2 := n2
  clear n0 n1 n2
  generalize World.setCell _ _ _ = w4 at MC BX2 HB2 ⊢
  have c3_ : w4.cell? ⟨gp, 3, none⟩ = some (.int .i64 (cw x.f2)) := (blk_cell MC.out.blk 3).trans rfl
  have f4 := blk_frozen MC.out.blk 4
  have g4 : w4.cell? ⟨gp, 4, none⟩ = some (.int .i64 0) := (blk_cell MC.out.blk 4).trans rfl
  go_wp2_with fail
  have n0 := Aside0.mk ((MC.out).set 4 (.int .i64 (cw x.f2)) rfl)
  have n1 := Aside0.mk (blk_far (BX2.out) (p := ⟨gp, 4, none⟩) (blk_ne BX2.out MC.out.blk (by decide)) (.int .i64 (cw x.f2)))
  have n2 := Aside0.mk ((HB2.out).trans ((MC.out).set_below 4 (.int .i64 (cw x.f2))))
  clear MC BX2 HB2 c3_ f4 g4
  have MC := n0
  have BX2 := n1
  have HB2 := n2
  clear n0 n1 n2
  generalize World.setCell _ _ _ = w5 at MC BX2 HB2 ⊢
  refine ⟨gb, gp, _, _, _, _, _, _, _, _, _, _, _, _, _, _, _, _, _, _, _, _, _, _, _, _, _, _, _, _, _, _, _, _, _, _, _, _, _, _, _, _, _, _, _, _, _, _, _, _, _, _, _, _, _, _, _, _, _, _, rfl, ?_, ?_, HB2.out⟩
  · unfold dcs
    rw [HK.out]
    exact BX2.out
  · have E0 : own1 x.f0 x.f2 = (cw x.f2 : Int) ∧ lead0 x.f0 x.f2 = ((cw x.f2 : Int), false) ∧ frc0 x = false := by unfold own1 lead0 frc0; rw [HK.out]; exact ⟨rfl, rfl, by simp⟩
    have q := MC.out
    rw [List.take_zero]
    unfold mk8
    rw [E0.1, E0.2.1, E0.2.2, HK.out]
    simp only [wdL, ldL, frcL, Int.add_zero, Bool.or_false]
    exact q
set_option maxHeartbeats 8000000 in
set_option maxRecDepth 100000 in
theorem meas_2 (hx : Dc w x A3 c3) (hf : finD x) (hc : cnt x ≤ 1100) (ih : ∀ (i : Nat) (h : i < x.f3.length) (B3 : Option Addr) (d3 : Nat) (w' : World), Dc w' x.f3[i] B3 d3 → MeasAt x.f3[i] B3 d3 w') (hk : x.f0 = 2) : MeasAt x A3 c3 w := by
  have hu24 := Try.underlying24
  have hu80 := Try.underlying80
  have hu78 := Try.underlying78
  have hu65 := Try.underlying65
  have HK := Aside0.mk hk
  have HSZ : Aside0 (x.f2.size ≤ 1000000000000) := ⟨Nat.le_trans ((finD_eq x).1 hf).1 (by decide)⟩
  have ML := Aside0.mk (meas_loop hx hf hc ih)
  clear hx hf hc ih
  unfold MeasAt DA
  rw [hk]
  clear hk
  go_enter Try.func33, Try.ntmps33
  go_upto_region 2 with (first | ((with_reducible refine gate_dst (N := 1) rfl ?_); (try (refine gate_guard (by rfl) ?_; dsimp only)); refine box_event ?hg (N := 1) ?hd (cs := #[.int .i64 2, .int .i64 x.f1, .string x.f2, .slice A3 x.f3.length c3]) (t := 24) ?hr ?_; (case hd => rfl); (case hg => rfl); (case hr => first | (go_simp; done) | (go_simp; rfl)); intro gb hg w1 hbox hb; have HB1 := Aside0.mk hb; have BX := Aside0.mk hbox; have z0 : w1.cell? ⟨gb, 0, none⟩ = some (.int .i64 2) := ((blk_cell hbox 0).trans rfl).trans (by rw [← HK.out]; rfl); have z1 : w1.cell? ⟨gb, 1, none⟩ = some (.int .i64 x.f1) := (blk_cell hbox 1).trans rfl; have z2 : w1.cell? ⟨gb, 2, none⟩ = some (.string x.f2) := (blk_cell hbox 2).trans rfl; clear hb hbox hg) | ((with_reducible refine gate_dst (N := 14) rfl ?_); (try (refine gate_guard (by rfl) ?_; dsimp only)); refine box_event ?hg (N := 14) ?hd (cs := #[.int .i64 2, .int .i64 x.f1, .string x.f2, .int .i64 0, .int .i64 0, .bool false, .bool false, .slice none 0 0]) (t := 80) ?hr ?_; (case hd => rfl); (case hg => rfl); (case hr => first | (go_simp; done) | (go_simp; rfl)); intro gp hg w2 hbox hb; have HB2 := Aside0.mk (below_step HB1.out hb); have MC := Aside0.mk (MeasC.start hbox (Nat.le_trans HB1.out.size (Nat.le_of_eq hg.symm))); have BX2 := Aside0.mk (blk_below BX.out hb); clear HB1 BX z0 z1 z2 hb hbox hg; have z0 : w2.cell? ⟨gb, 0, none⟩ = some (.int .i64 2) := ((blk_cell BX2.out 0).trans rfl).trans (by rw [← HK.out]; rfl); have z1 : w2.cell? ⟨gb, 1, none⟩ = some (.int .i64 x.f1) := (blk_cell BX2.out 1).trans rfl; have z2 : w2.cell? ⟨gb, 2, none⟩ = some (.string x.f2) := (blk_cell BX2.out 2).trans rfl; have f3 := blk_frozen MC.out.blk 3; have f5 := blk_frozen MC.out.blk 5; have f6 := blk_frozen MC.out.blk 6; have g3 : w2.cell? ⟨gp, 3, none⟩ = some (.int .i64 0) := (blk_cell MC.out.blk 3).trans rfl; have g5 : w2.cell? ⟨gp, 5, none⟩ = some (.bool false) := (blk_cell MC.out.blk 5).trans rfl; have g6 : w2.cell? ⟨gp, 6, none⟩ = some (.bool false) := (blk_cell MC.out.blk 6).trans rfl))
  rename_i Ka ha Kb hb
  replace ha : ∀ a w', KH w x A3 c3 a w' → Ka a w' := fun a w' h => ha a w' (ML.out a w' h)
  go_wp2_with fail
  have n0 := Aside0.mk (((MC.out).set 3 (.int .i64 1) rfl).set 5 (.bool true) rfl)
  have n1 := Aside0.mk (blk_far (blk_far (BX2.out) (p := ⟨gp, 3, none⟩) (blk_ne BX2.out MC.out.blk (by decide)) (.int .i64 1)) (p := ⟨gp, 5, none⟩) (blk_ne BX2.out MC.out.blk (by decide)) (.bool true))
  have n2 := Aside0.mk (((HB2.out).trans ((MC.out).set_below 3 (.int .i64 1))).trans (((MC.out).set 3 (.int .i64 1) rfl).set_below 5 (.bool true)))
  clear MC BX2 HB2 z0 z1 z2 f3 f5 f6 g3 g5 g6
  have MC := n0
  have BX2 := n1
  have HB2 := n2
  clear n0 n1 n2
  generalize World.setCell (World.setCell _ _ _) _ _ = w5 at MC BX2 HB2 ⊢
  refine ⟨gb, gp, _, _, _, _, _, _, _, _, _, _, _, _, _, _, _, _, _, _, _, _, _, _, _, _, _, _, _, _, _, _, _, _, _, _, _, _, _, _, _, _, _, _, _, _, _, _, _, _, _, _, _, _, _, _, _, _, _, _, rfl, ?_, ?_, HB2.out⟩
  · unfold dcs
    rw [HK.out]
    exact BX2.out
  · have E0 : own1 x.f0 x.f2 = 1 ∧ lead0 x.f0 x.f2 = (0, true) ∧ frc0 x = false := by unfold own1 lead0 frc0; rw [HK.out]; exact ⟨rfl, rfl, by simp⟩
    have q := MC.out
    rw [List.take_zero]
    unfold mk8
    rw [E0.1, E0.2.1, E0.2.2, HK.out]
    simp only [wdL, ldL, frcL, Int.add_zero, Bool.or_false]
    exact q
set_option maxHeartbeats 8000000 in
set_option maxRecDepth 100000 in
theorem meas_4 (hx : Dc w x A3 c3) (hf : finD x) (hc : cnt x ≤ 1100) (ih : ∀ (i : Nat) (h : i < x.f3.length) (B3 : Option Addr) (d3 : Nat) (w' : World), Dc w' x.f3[i] B3 d3 → MeasAt x.f3[i] B3 d3 w') (hk : x.f0 = 4) : MeasAt x A3 c3 w := by
  have hu24 := Try.underlying24
  have hu80 := Try.underlying80
  have hu78 := Try.underlying78
  have hu65 := Try.underlying65
  have HK := Aside0.mk hk
  have HSZ : Aside0 (x.f2.size ≤ 1000000000000) := ⟨Nat.le_trans ((finD_eq x).1 hf).1 (by decide)⟩
  have ML := Aside0.mk (meas_loop hx hf hc ih)
  clear hx hf hc ih
  unfold MeasAt DA
  rw [hk]
  clear hk
  go_enter Try.func33, Try.ntmps33
  go_upto_region 2 with (first | ((with_reducible refine gate_dst (N := 1) rfl ?_); (try (refine gate_guard (by rfl) ?_; dsimp only)); refine box_event ?hg (N := 1) ?hd (cs := #[.int .i64 4, .int .i64 x.f1, .string x.f2, .slice A3 x.f3.length c3]) (t := 24) ?hr ?_; (case hd => rfl); (case hg => rfl); (case hr => first | (go_simp; done) | (go_simp; rfl)); intro gb hg w1 hbox hb; have HB1 := Aside0.mk hb; have BX := Aside0.mk hbox; have z0 : w1.cell? ⟨gb, 0, none⟩ = some (.int .i64 4) := ((blk_cell hbox 0).trans rfl).trans (by rw [← HK.out]; rfl); have z1 : w1.cell? ⟨gb, 1, none⟩ = some (.int .i64 x.f1) := (blk_cell hbox 1).trans rfl; have z2 : w1.cell? ⟨gb, 2, none⟩ = some (.string x.f2) := (blk_cell hbox 2).trans rfl; clear hb hbox hg) | ((with_reducible refine gate_dst (N := 14) rfl ?_); (try (refine gate_guard (by rfl) ?_; dsimp only)); refine box_event ?hg (N := 14) ?hd (cs := #[.int .i64 4, .int .i64 x.f1, .string x.f2, .int .i64 0, .int .i64 0, .bool false, .bool false, .slice none 0 0]) (t := 80) ?hr ?_; (case hd => rfl); (case hg => rfl); (case hr => first | (go_simp; done) | (go_simp; rfl)); intro gp hg w2 hbox hb; have HB2 := Aside0.mk (below_step HB1.out hb); have MC := Aside0.mk (MeasC.start hbox (Nat.le_trans HB1.out.size (Nat.le_of_eq hg.symm))); have BX2 := Aside0.mk (blk_below BX.out hb); clear HB1 BX z0 z1 z2 hb hbox hg; have z0 : w2.cell? ⟨gb, 0, none⟩ = some (.int .i64 4) := ((blk_cell BX2.out 0).trans rfl).trans (by rw [← HK.out]; rfl); have z1 : w2.cell? ⟨gb, 1, none⟩ = some (.int .i64 x.f1) := (blk_cell BX2.out 1).trans rfl; have z2 : w2.cell? ⟨gb, 2, none⟩ = some (.string x.f2) := (blk_cell BX2.out 2).trans rfl; have f3 := blk_frozen MC.out.blk 3; have f5 := blk_frozen MC.out.blk 5; have f6 := blk_frozen MC.out.blk 6; have g3 : w2.cell? ⟨gp, 3, none⟩ = some (.int .i64 0) := (blk_cell MC.out.blk 3).trans rfl; have g5 : w2.cell? ⟨gp, 5, none⟩ = some (.bool false) := (blk_cell MC.out.blk 5).trans rfl; have g6 : w2.cell? ⟨gp, 6, none⟩ = some (.bool false) := (blk_cell MC.out.blk 6).trans rfl))
  rename_i Ka ha Kb hb
  replace ha : ∀ a w', KH w x A3 c3 a w' → Ka a w' := fun a w' h => ha a w' (ML.out a w' h)
  go_wp2_with fail
  have n0 := Aside0.mk (((MC.out).set 5 (.bool true) rfl).set 6 (.bool true) rfl)
  have n1 := Aside0.mk (blk_far (blk_far (BX2.out) (p := ⟨gp, 5, none⟩) (blk_ne BX2.out MC.out.blk (by decide)) (.bool true)) (p := ⟨gp, 6, none⟩) (blk_ne BX2.out MC.out.blk (by decide)) (.bool true))
  have n2 := Aside0.mk (((HB2.out).trans ((MC.out).set_below 5 (.bool true))).trans (((MC.out).set 5 (.bool true) rfl).set_below 6 (.bool true)))
  clear MC BX2 HB2 z0 z1 z2 f3 f5 f6 g3 g5 g6
  have MC := n0
  have BX2 := n1
  have HB2 := n2
  clear n0 n1 n2
  generalize World.setCell (World.setCell _ _ _) _ _ = w5 at MC BX2 HB2 ⊢
  refine ⟨gb, gp, _, _, _, _, _, _, _, _, _, _, _, _, _, _, _, _, _, _, _, _, _, _, _, _, _, _, _, _, _, _, _, _, _, _, _, _, _, _, _, _, _, _, _, _, _, _, _, _, _, _, _, _, _, _, _, _, _, _, rfl, ?_, ?_, HB2.out⟩
  · unfold dcs
    rw [HK.out]
    exact BX2.out
  · have E0 : own1 x.f0 x.f2 = 0 ∧ lead0 x.f0 x.f2 = (0, true) ∧ frc0 x = true := by unfold own1 lead0 frc0; rw [HK.out]; exact ⟨rfl, rfl, by simp⟩
    have q := MC.out
    rw [List.take_zero]
    unfold mk8
    rw [E0.1, E0.2.1, E0.2.2, HK.out]
    simp only [wdL, ldL, frcL, Int.add_zero, Bool.or_false]
    exact q
set_option maxHeartbeats 8000000 in
set_option maxRecDepth 100000 in
theorem meas_5 (hx : Dc w x A3 c3) (hf : finD x) (hc : cnt x ≤ 1100) (ih : ∀ (i : Nat) (h : i < x.f3.length) (B3 : Option Addr) (d3 : Nat) (w' : World), Dc w' x.f3[i] B3 d3 → MeasAt x.f3[i] B3 d3 w') (hk : x.f0 = 5) : MeasAt x A3 c3 w := by
  have hu24 := Try.underlying24
  have hu80 := Try.underlying80
  have hu78 := Try.underlying78
  have hu65 := Try.underlying65
  have HK := Aside0.mk hk
  have HSZ : Aside0 (x.f2.size ≤ 1000000000000) := ⟨Nat.le_trans ((finD_eq x).1 hf).1 (by decide)⟩
  have ML := Aside0.mk (meas_loop hx hf hc ih)
  clear hx hf hc ih
  unfold MeasAt DA
  rw [hk]
  clear hk
  go_enter Try.func33, Try.ntmps33
  go_upto_region 2 with (first | ((with_reducible refine gate_dst (N := 1) rfl ?_); (try (refine gate_guard (by rfl) ?_; dsimp only)); refine box_event ?hg (N := 1) ?hd (cs := #[.int .i64 5, .int .i64 x.f1, .string x.f2, .slice A3 x.f3.length c3]) (t := 24) ?hr ?_; (case hd => rfl); (case hg => rfl); (case hr => first | (go_simp; done) | (go_simp; rfl)); intro gb hg w1 hbox hb; have HB1 := Aside0.mk hb; have BX := Aside0.mk hbox; have z0 : w1.cell? ⟨gb, 0, none⟩ = some (.int .i64 5) := ((blk_cell hbox 0).trans rfl).trans (by rw [← HK.out]; rfl); have z1 : w1.cell? ⟨gb, 1, none⟩ = some (.int .i64 x.f1) := (blk_cell hbox 1).trans rfl; have z2 : w1.cell? ⟨gb, 2, none⟩ = some (.string x.f2) := (blk_cell hbox 2).trans rfl; clear hb hbox hg) | ((with_reducible refine gate_dst (N := 14) rfl ?_); (try (refine gate_guard (by rfl) ?_; dsimp only)); refine box_event ?hg (N := 14) ?hd (cs := #[.int .i64 5, .int .i64 x.f1, .string x.f2, .int .i64 0, .int .i64 0, .bool false, .bool false, .slice none 0 0]) (t := 80) ?hr ?_; (case hd => rfl); (case hg => rfl); (case hr => first | (go_simp; done) | (go_simp; rfl)); intro gp hg w2 hbox hb; have HB2 := Aside0.mk (below_step HB1.out hb); have MC := Aside0.mk (MeasC.start hbox (Nat.le_trans HB1.out.size (Nat.le_of_eq hg.symm))); have BX2 := Aside0.mk (blk_below BX.out hb); clear HB1 BX z0 z1 z2 hb hbox hg; have z0 : w2.cell? ⟨gb, 0, none⟩ = some (.int .i64 5) := ((blk_cell BX2.out 0).trans rfl).trans (by rw [← HK.out]; rfl); have z1 : w2.cell? ⟨gb, 1, none⟩ = some (.int .i64 x.f1) := (blk_cell BX2.out 1).trans rfl; have z2 : w2.cell? ⟨gb, 2, none⟩ = some (.string x.f2) := (blk_cell BX2.out 2).trans rfl; have f3 := blk_frozen MC.out.blk 3; have f5 := blk_frozen MC.out.blk 5; have f6 := blk_frozen MC.out.blk 6; have g3 : w2.cell? ⟨gp, 3, none⟩ = some (.int .i64 0) := (blk_cell MC.out.blk 3).trans rfl; have g5 : w2.cell? ⟨gp, 5, none⟩ = some (.bool false) := (blk_cell MC.out.blk 5).trans rfl; have g6 : w2.cell? ⟨gp, 6, none⟩ = some (.bool false) := (blk_cell MC.out.blk 6).trans rfl))
  rename_i Ka ha Kb hb
  replace ha : ∀ a w', KH w x A3 c3 a w' → Ka a w' := fun a w' h => ha a w' (ML.out a w' h)
  go_wp2_with fail
  have n0 := Aside0.mk (MC.out)
  have n1 := Aside0.mk (BX2.out)
  have n2 := Aside0.mk (HB2.out)
  clear MC BX2 HB2 z0 z1 z2 f3 f5 f6 g3 g5 g6
  have MC := n0
  have BX2 := n1
  have HB2 := n2
  clear n0 n1 n2
  generalize w2 = w5 at MC BX2 HB2 ⊢
  refine ⟨gb, gp, _, _, _, _, _, _, _, _, _, _, _, _, _, _, _, _, _, _, _, _, _, _, _, _, _, _, _, _, _, _, _, _, _, _, _, _, _, _, _, _, _, _, _, _, _, _, _, _, _, _, _, _, _, _, _, _, _, _, rfl, ?_, ?_, HB2.out⟩
  · unfold dcs
    rw [HK.out]
    exact BX2.out
  · have E0 : own1 x.f0 x.f2 = 0 ∧ lead0 x.f0 x.f2 = (0, false) ∧ frc0 x = false := by unfold own1 lead0 frc0; rw [HK.out]; exact ⟨rfl, rfl, by simp⟩
    have q := MC.out
    rw [List.take_zero]
    unfold mk8
    rw [E0.1, E0.2.1, E0.2.2, HK.out]
    simp only [wdL, ldL, frcL, Int.add_zero, Bool.or_false]
    exact q
set_option maxHeartbeats 8000000 in
set_option maxRecDepth 100000 in
theorem meas_6 (hx : Dc w x A3 c3) (hf : finD x) (hc : cnt x ≤ 1100) (ih : ∀ (i : Nat) (h : i < x.f3.length) (B3 : Option Addr) (d3 : Nat) (w' : World), Dc w' x.f3[i] B3 d3 → MeasAt x.f3[i] B3 d3 w') (hk : x.f0 = 6) : MeasAt x A3 c3 w := by
  have hu24 := Try.underlying24
  have hu80 := Try.underlying80
  have hu78 := Try.underlying78
  have hu65 := Try.underlying65
  have HK := Aside0.mk hk
  have HSZ : Aside0 (x.f2.size ≤ 1000000000000) := ⟨Nat.le_trans ((finD_eq x).1 hf).1 (by decide)⟩
  have ML := Aside0.mk (meas_loop hx hf hc ih)
  clear hx hf hc ih
  unfold MeasAt DA
  rw [hk]
  clear hk
  go_enter Try.func33, Try.ntmps33
  go_upto_region 2 with (first | ((with_reducible refine gate_dst (N := 1) rfl ?_); (try (refine gate_guard (by rfl) ?_; dsimp only)); refine box_event ?hg (N := 1) ?hd (cs := #[.int .i64 6, .int .i64 x.f1, .string x.f2, .slice A3 x.f3.length c3]) (t := 24) ?hr ?_; (case hd => rfl); (case hg => rfl); (case hr => first | (go_simp; done) | (go_simp; rfl)); intro gb hg w1 hbox hb; have HB1 := Aside0.mk hb; have BX := Aside0.mk hbox; have z0 : w1.cell? ⟨gb, 0, none⟩ = some (.int .i64 6) := ((blk_cell hbox 0).trans rfl).trans (by rw [← HK.out]; rfl); have z1 : w1.cell? ⟨gb, 1, none⟩ = some (.int .i64 x.f1) := (blk_cell hbox 1).trans rfl; have z2 : w1.cell? ⟨gb, 2, none⟩ = some (.string x.f2) := (blk_cell hbox 2).trans rfl; clear hb hbox hg) | ((with_reducible refine gate_dst (N := 14) rfl ?_); (try (refine gate_guard (by rfl) ?_; dsimp only)); refine box_event ?hg (N := 14) ?hd (cs := #[.int .i64 6, .int .i64 x.f1, .string x.f2, .int .i64 0, .int .i64 0, .bool false, .bool false, .slice none 0 0]) (t := 80) ?hr ?_; (case hd => rfl); (case hg => rfl); (case hr => first | (go_simp; done) | (go_simp; rfl)); intro gp hg w2 hbox hb; have HB2 := Aside0.mk (below_step HB1.out hb); have MC := Aside0.mk (MeasC.start hbox (Nat.le_trans HB1.out.size (Nat.le_of_eq hg.symm))); have BX2 := Aside0.mk (blk_below BX.out hb); clear HB1 BX z0 z1 z2 hb hbox hg; have z0 : w2.cell? ⟨gb, 0, none⟩ = some (.int .i64 6) := ((blk_cell BX2.out 0).trans rfl).trans (by rw [← HK.out]; rfl); have z1 : w2.cell? ⟨gb, 1, none⟩ = some (.int .i64 x.f1) := (blk_cell BX2.out 1).trans rfl; have z2 : w2.cell? ⟨gb, 2, none⟩ = some (.string x.f2) := (blk_cell BX2.out 2).trans rfl; have f3 := blk_frozen MC.out.blk 3; have f5 := blk_frozen MC.out.blk 5; have f6 := blk_frozen MC.out.blk 6; have g3 : w2.cell? ⟨gp, 3, none⟩ = some (.int .i64 0) := (blk_cell MC.out.blk 3).trans rfl; have g5 : w2.cell? ⟨gp, 5, none⟩ = some (.bool false) := (blk_cell MC.out.blk 5).trans rfl; have g6 : w2.cell? ⟨gp, 6, none⟩ = some (.bool false) := (blk_cell MC.out.blk 6).trans rfl))
  rename_i Ka ha Kb hb
  replace ha : ∀ a w', KH w x A3 c3 a w' → Ka a w' := fun a w' h => ha a w' (ML.out a w' h)
  go_wp2_with fail
  have n0 := Aside0.mk (MC.out)
  have n1 := Aside0.mk (BX2.out)
  have n2 := Aside0.mk (HB2.out)
  clear MC BX2 HB2 z0 z1 z2 f3 f5 f6 g3 g5 g6
  have MC := n0
  have BX2 := n1
  have HB2 := n2
  clear n0 n1 n2
  generalize w2 = w5 at MC BX2 HB2 ⊢
  refine ⟨gb, gp, _, _, _, _, _, _, _, _, _, _, _, _, _, _, _, _, _, _, _, _, _, _, _, _, _, _, _, _, _, _, _, _, _, _, _, _, _, _, _, _, _, _, _, _, _, _, _, _, _, _, _, _, _, _, _, _, _, _, rfl, ?_, ?_, HB2.out⟩
  · unfold dcs
    rw [HK.out]
    exact BX2.out
  · have E0 : own1 x.f0 x.f2 = 0 ∧ lead0 x.f0 x.f2 = (0, false) ∧ frc0 x = false := by unfold own1 lead0 frc0; rw [HK.out]; exact ⟨rfl, rfl, by simp⟩
    have q := MC.out
    rw [List.take_zero]
    unfold mk8
    rw [E0.1, E0.2.1, E0.2.2, HK.out]
    simp only [wdL, ldL, frcL, Int.add_zero, Bool.or_false]
    exact q
set_option maxHeartbeats 8000000 in
set_option maxRecDepth 100000 in
theorem meas_7 (hx : Dc w x A3 c3) (hf : finD x) (hc : cnt x ≤ 1100) (ih : ∀ (i : Nat) (h : i < x.f3.length) (B3 : Option Addr) (d3 : Nat) (w' : World), Dc w' x.f3[i] B3 d3 → MeasAt x.f3[i] B3 d3 w') (hk : x.f0 = 7) : MeasAt x A3 c3 w := by
  have hu24 := Try.underlying24
  have hu80 := Try.underlying80
  have hu78 := Try.underlying78
  have hu65 := Try.underlying65
  have HK := Aside0.mk hk
  have HSZ : Aside0 (x.f2.size ≤ 1000000000000) := ⟨Nat.le_trans ((finD_eq x).1 hf).1 (by decide)⟩
  have ML := Aside0.mk (meas_loop hx hf hc ih)
  clear hx hf hc ih
  unfold MeasAt DA
  rw [hk]
  clear hk
  go_enter Try.func33, Try.ntmps33
  go_upto_region 2 with (first | ((with_reducible refine gate_dst (N := 1) rfl ?_); (try (refine gate_guard (by rfl) ?_; dsimp only)); refine box_event ?hg (N := 1) ?hd (cs := #[.int .i64 7, .int .i64 x.f1, .string x.f2, .slice A3 x.f3.length c3]) (t := 24) ?hr ?_; (case hd => rfl); (case hg => rfl); (case hr => first | (go_simp; done) | (go_simp; rfl)); intro gb hg w1 hbox hb; have HB1 := Aside0.mk hb; have BX := Aside0.mk hbox; have z0 : w1.cell? ⟨gb, 0, none⟩ = some (.int .i64 7) := ((blk_cell hbox 0).trans rfl).trans (by rw [← HK.out]; rfl); have z1 : w1.cell? ⟨gb, 1, none⟩ = some (.int .i64 x.f1) := (blk_cell hbox 1).trans rfl; have z2 : w1.cell? ⟨gb, 2, none⟩ = some (.string x.f2) := (blk_cell hbox 2).trans rfl; clear hb hbox hg) | ((with_reducible refine gate_dst (N := 14) rfl ?_); (try (refine gate_guard (by rfl) ?_; dsimp only)); refine box_event ?hg (N := 14) ?hd (cs := #[.int .i64 7, .int .i64 x.f1, .string x.f2, .int .i64 0, .int .i64 0, .bool false, .bool false, .slice none 0 0]) (t := 80) ?hr ?_; (case hd => rfl); (case hg => rfl); (case hr => first | (go_simp; done) | (go_simp; rfl)); intro gp hg w2 hbox hb; have HB2 := Aside0.mk (below_step HB1.out hb); have MC := Aside0.mk (MeasC.start hbox (Nat.le_trans HB1.out.size (Nat.le_of_eq hg.symm))); have BX2 := Aside0.mk (blk_below BX.out hb); clear HB1 BX z0 z1 z2 hb hbox hg; have z0 : w2.cell? ⟨gb, 0, none⟩ = some (.int .i64 7) := ((blk_cell BX2.out 0).trans rfl).trans (by rw [← HK.out]; rfl); have z1 : w2.cell? ⟨gb, 1, none⟩ = some (.int .i64 x.f1) := (blk_cell BX2.out 1).trans rfl; have z2 : w2.cell? ⟨gb, 2, none⟩ = some (.string x.f2) := (blk_cell BX2.out 2).trans rfl; have f3 := blk_frozen MC.out.blk 3; have f5 := blk_frozen MC.out.blk 5; have f6 := blk_frozen MC.out.blk 6; have g3 : w2.cell? ⟨gp, 3, none⟩ = some (.int .i64 0) := (blk_cell MC.out.blk 3).trans rfl; have g5 : w2.cell? ⟨gp, 5, none⟩ = some (.bool false) := (blk_cell MC.out.blk 5).trans rfl; have g6 : w2.cell? ⟨gp, 6, none⟩ = some (.bool false) := (blk_cell MC.out.blk 6).trans rfl))
  rename_i Ka ha Kb hb
  replace ha : ∀ a w', KH w x A3 c3 a w' → Ka a w' := fun a w' h => ha a w' (ML.out a w' h)
  go_wp2_with fail
  have n0 := Aside0.mk ((MC.out).set 6 (.bool (decide (x.f1 = 1))) rfl)
  have n1 := Aside0.mk (blk_far (BX2.out) (p := ⟨gp, 6, none⟩) (blk_ne BX2.out MC.out.blk (by decide)) (.bool (decide (x.f1 = 1))))
  have n2 := Aside0.mk ((HB2.out).trans ((MC.out).set_below 6 (.bool (decide (x.f1 = 1)))))
  clear MC BX2 HB2 z0 z1 z2 f3 f5 f6 g3 g5 g6
  have MC := n0
  have BX2 := n1
  have HB2 := n2
  clear n0 n1 n2
  generalize World.setCell _ _ _ = w5 at MC BX2 HB2 ⊢
  refine ⟨gb, gp, _, _, _, _, _, _, _, _, _, _, _, _, _, _, _, _, _, _, _, _, _, _, _, _, _, _, _, _, _, _, _, _, _, _, _, _, _, _, _, _, _, _, _, _, _, _, _, _, _, _, _, _, _, _, _, _, _, _, rfl, ?_, ?_, HB2.out⟩
  · unfold dcs
    rw [HK.out]
    exact BX2.out
  · have E0 : own1 x.f0 x.f2 = 0 ∧ lead0 x.f0 x.f2 = (0, false) ∧ frc0 x = (decide (x.f1 = 1)) := by unfold own1 lead0 frc0; rw [HK.out]; exact ⟨rfl, rfl, by simp⟩
    have q := MC.out
    rw [List.take_zero]
    unfold mk8
    rw [E0.1, E0.2.1, E0.2.2, HK.out]
    simp only [wdL, ldL, frcL, Int.add_zero, Bool.or_false]
    exact q
end
end Go.Proofs.Ytigihiggpfjbjaa.PR
