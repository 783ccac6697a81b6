/- Pools as the laws use them; told. -/
import Derived.Test.YtjlnlonioknkhaaDoorHD8
namespace Go.Proofs.YtjlnlonioknkhaaDoor.PL
open Go.RowKit Go.Proofs.YtjlnlonioknkhaaDoorW.PrintWords Go.Proofs.YtjlnlonioknkhaaDoorW.PrintLast Go.Proofs.YtjlnlonioknkhaaDoorW.PrintMore
set_option linter.unusedVariables false
set_option linter.unusedSimpArgs false

theorem ref_all (base gb : Nat) : ∀ (N : Nat) (x : S32), (pre x).length ≤ N → Fin32 x → ∀ (A2 : Option Addr) (c2 : Nat) (A5 : Option Addr) (c5 : Nat) (A6 : Option Addr) (c6 : Nat) (v : Value) (all : List S32) (w : World), NF w (fun k => k < base) x A2 c2 A5 c5 A6 c6 → RefAt w base gb v all → (∀ r ∈ all, Fin32 r) → all.length + (pre x).length ≤ 1000000 → RefPut x A2 c2 A5 c5 A6 c6 base gb v all w := by
  intro N
  induction N with
  | zero => intro x h; rw [pre_eq] at h; simp at h
  | succ N ih =>
    intro x hN hf A2 c2 A5 c5 A6 c6 v all w hx hp hfa hn
    refine ref_walk x _ _ _ _ _ _ base gb v all w hx hp hf hfa hn (fun y hy A2 c2 A5 c5 A6 c6 v all w hy2 hp hfa hn => ?_)
    have h1 := parts_lt hy
    exact ih y (by omega) (fun q hq => hf q (mem_parts hy hq)) _ _ _ _ _ _ v all w hy2 hp hfa hn
/-- A pool that holds the nodes of a row. -/
def PW (w : World) (base ga gm : Nat) (all : List S32) : Prop := ∃ v ks zs, PoolAt w base ga gm v ks zs ∧ St all ks zs
/-- What a law sees of a call that turns a pool. -/
structure Frame (base : Nat) (w w' : World) : Prop where
  below : Below base w w'
  cells : ∀ (g : Nat) (cs : Array Value) (t : TypeId), t ≠ 41 → t ≠ 3 → w.heap[g]? = some (.cells cs t (0, 0)) → w'.heap[g]? = some (.cells cs t (0, 0))
theorem Frame.of_below {base : Nat} {w w' : World} (h : Below w.heap.size w w') (hb : base ≤ w.heap.size) : Frame base w w' := ⟨h.mono hb, fun g cs t _ _ hg => blk_below hg h⟩
theorem Frame.trans {base : Nat} {a b c : World} (h : Frame base a b) (k : Frame base b c) : Frame base a c := ⟨h.below.trans k.below, fun g cs t h1 h2 hg => k.cells g cs t h1 h2 (h.cells g cs t h1 h2 hg)⟩
theorem PW.below {w w' : World} {base ga gm : Nat} {all : List S32} (h : PW w base ga gm all) (hb : Below w.heap.size w w') : PW w' base ga gm all := by
  obtain ⟨v, ks, zs, hp, hs⟩ := h
  exact ⟨v, ks, zs, hp.below hb, hs⟩
theorem PW.base_le {w : World} {base ga gm : Nat} {all : List S32} (h : PW w base ga gm all) : base ≤ w.heap.size := by
  obtain ⟨v, ks, zs, hp, hs⟩ := h
  exact hp.base_le
theorem PW.full {w : World} {base ga gm : Nat} {all : List S32} (h : PW w base ga gm all) : Full all := by
  obtain ⟨v, ks, zs, hp, hs⟩ := h
  exact hs.full
theorem Tab.mono {B B' : Nat} {w : World} (h : Tab B w) (hb : B ≤ B') : Tab B' w := fun w' h' => h w' (h'.mono hb)
/-- Put, as a law uses it. -/
theorem put_law {x : S32} {A2 : Option Addr} {c2 : Nat} {A5 : Option Addr} {c5 : Nat} {A6 : Option Addr} {c6 : Nat} {base ga gm : Nat} {all all' : List S32} {n : Nat} {ok : Nat → Prop} {w : World} (h : PW w base ga gm all) (hT : Tab base w) (hx : NF w ok x A2 c2 A5 c5 A6 c6)
    (hos : ∀ k, ok k → k < base ∨ ∃ cs t, t ≠ 41 ∧ t ≠ 3 ∧ w.heap[k]? = some (.cells cs t (0, 0))) (hok : okT x) (hn : all.length + (pre x).length ≤ 1000000) (e : refV x all = (n, all')) :
    Calls Tryd.prog 10 #[.pointer (some ⟨ga, 0, none⟩), .agg #[.int .i64 x.f0, .string x.f1, .slice A2 x.f2.length c2, .bool x.f3, .bool x.f4, .slice A5 x.f5.length c5, .slice A6 x.f6.length c6]] w fun e w' => e = .returned (.int .i64 (n : Int)) ∧ PW w' base ga gm all' ∧ Frame base w w' := by
  obtain ⟨v, ks, zs, hp, hs⟩ := h
  have hl : ks.length = all.length := by rw [hs.keys, List.length_map]
  have h1 := put_all base ga gm _ x (Nat.le_refl _) hok A2 c2 A5 c5 A6 c6 v ks zs ok w hx (fun k hk => by
    rcases hos k hk with h | ⟨cs, t, h1, h2, h3⟩
    · exact ⟨Nat.lt_of_lt_of_le h hp.base_le, fun hS => by have := hp.S_base k hS; omega⟩
    · exact ⟨blk_lt h3, hp.away h3 h1 h2⟩) hp hT (by omega)
  obtain ⟨r1, r2⟩ := putV_ref x all ks zs hs (by omega)
  rw [e] at r1 r2
  unfold PutAt at h1
  refine h1.mono ?_
  rintro e1 w' ⟨v', rfl, p1, p2, p3⟩
  refine ⟨by rw [r1], ⟨v', _, _, p1, r2⟩, p2.below hp.base_le hp.S_base, fun g cs t h1 h2 hg => (p2.block g (blk_lt hg) (hp.away hg h1 h2)).trans hg⟩
theorem put_nil (x : S32) (A2 : Option Addr) (c2 : Nat) (A5 : Option Addr) (c5 : Nat) (A6 : Option Addr) (c6 : Nat) (w : World) : Calls Tryd.prog 10 #[.pointer none, .agg #[.int .i64 x.f0, .string x.f1, .slice A2 x.f2.length c2, .bool x.f3, .bool x.f4, .slice A5 x.f5.length c5, .slice A6 x.f6.length c6]] w fun e w' => e = .returned (.int .i64 0) ∧ Below w.heap.size w w' := by
  go_enter Tryd.func10, Tryd.ntmps10
  go_wp2
  go_ret
  exact ⟨rfl, below_alloc (Below.refl _ _) _⟩
theorem len_law {base ga gm : Nat} {all : List S32} {w : World} (n : Int) (h : PW w base ga gm all) (e : (all.length : Int) = n) : Calls Tryd.prog 12 #[.pointer (some ⟨ga, 0, none⟩)] w fun e w' => e = .returned (.int .i64 n) ∧ w = w' := by
  obtain ⟨v, ks, zs, hp, hs⟩ := h
  exact len_calls n hp (by rw [← e, hs.sizes, List.length_map])
/-- The size that a number has in a row of nodes. -/
def cntOf (all : List S32) (id : Int) : Int := if 1 ≤ id ∧ id ≤ all.length then ((all.map fun x => ((pre x).length : Int)).getD (id.toNat - 1) 0) else 0
theorem size_law {base ga gm : Nat} {all : List S32} {w : World} (id n : Int) (h : PW w base ga gm all) (hl : all.length ≤ 1000000) (e : cntOf all id = n) : Calls Tryd.prog 13 #[.pointer (some ⟨ga, 0, none⟩), .int .i64 id] w fun e w' => e = .returned (.int .i64 n) ∧ w = w' := by
  obtain ⟨v, ks, zs, hp, hs⟩ := h
  have hz : zs.length = all.length := by rw [hs.sizes, List.length_map]
  exact size_calls id n hp (by omega) (by rw [← e, sizeOfId, cntOf, hz, hs.sizes])
theorem new_law (B : Nat) (w : World) (hB : B ≤ w.heap.size) : Calls Tryd.prog 6 #[] w fun e w' => ∃ ga gm, e = .returned (.pointer (some ⟨ga, 0, none⟩)) ∧ PW w' B ga gm [] ∧ Below w.heap.size w w' :=
  (new_calls B w hB).mono fun e w' ⟨ga, gm, h1, h2, h3⟩ => ⟨ga, gm, h1, ⟨_, _, _, h2, St.nil⟩, h3⟩
theorem Frame.nf {base : Nat} {w w' : World} {x : S32} {A2 : Option Addr} {c2 : Nat} {A5 : Option Addr} {c5 : Nat} {A6 : Option Addr} {c6 : Nat} (h : Frame base w w') (hx : NF w (fun k => k < base) x A2 c2 A5 c5 A6 c6) : NF w' (fun k => k < base) x A2 c2 A5 c5 A6 c6 := hx.old h.below
/-! ### told -/
def nF : S32 := ⟨1, ⟨#[102]⟩, [], false, false, [], []⟩
def nA : S32 := ⟨1, ⟨#[97]⟩, [], false, false, [], []⟩
def nT : S32 := ⟨2, E0, [nF, nA, nA], false, false, [], []⟩
theorem told_1 : refV nT [] = (3, [nF, nA, nT]) := by kernel_rfl
theorem told_2 : refV nA [nF, nA, nT] = (2, [nF, nA, nT]) := by kernel_rfl
theorem told_s3 : cntOf [nF, nA, nT] 3 = 4 := by kernel_rfl
theorem told_s9 : cntOf [nF, nA, nT] 9 = 0 := by kernel_rfl
theorem told_ok : okT nT := fun y hy => by
  have h : pre nT = [nT, nF, nA, nA] := by kernel_rfl
  rw [h] at hy
  simp only [List.mem_cons, List.not_mem_nil, or_false] at hy
  rcases hy with rfl | rfl | rfl | rfl <;> exact ⟨by decide, by decide⟩
theorem told_okA : okT nA := fun y hy => by
  have h : pre nA = [nA] := by kernel_rfl
  rw [h, List.mem_singleton] at hy
  subst hy
  exact ⟨by decide, by decide⟩
theorem told_n1 : ([] : List S32).length + (pre nT).length ≤ 1000000 := by
  have h : pre nT = [nT, nF, nA, nA] := by kernel_rfl
  rw [h]; decide
theorem told_n2 : [nF, nA, nT].length + (pre nA).length ≤ 1000000 := by
  have h : pre nA = [nA] := by kernel_rfl
  rw [h]; decide
theorem nf_nil (w : World) (ok : Nat → Prop) (x : S32) (h2 : x.f2 = []) (h5 : x.f5 = []) (h6 : x.f6 = []) : NF w ok x none 0 none 0 none 0 := by
  refine ⟨?_, ?_, ?_, ?_, ?_, ?_⟩
  · rw [h2]; exact Kd.F_nil _ _ _
  · rw [h2]; exact Nat.le_refl _
  · rw [h5]; exact Kd.F_nil _ _ _
  · rw [h5]; exact Nat.le_refl _
  · rw [h6]; exact Kd.F_nil _ _ _
  · rw [h6]; exact Nat.le_refl _
theorem nf_told {w : World} {gl : Nat} (hb : w.heap[gl]? = some (.cells #[.int .i64 1, .string (⟨#[102]⟩ : ByteArray), .slice none 0 0, .bool false, .bool false, .slice none 0 0, .slice none 0 0, .int .i64 1, .string (⟨#[97]⟩ : ByteArray), .slice none 0 0, .bool false, .bool false, .slice none 0 0, .slice none 0 0, .int .i64 1, .string (⟨#[97]⟩ : ByteArray), .slice none 0 0, .bool false, .bool false, .slice none 0 0, .slice none 0 0] 32 (0, 0))) : NF w (fun k => k = gl) nT (some ⟨gl, 0, none⟩) 3 none 0 none 0 := by
  refine ⟨fun W' hW => ?_, by decide, Kd.F_nil _ _ _, by decide, Kd.F_nil _ _ _, by decide⟩
  have hb' := (hW gl rfl (blk_lt hb)).trans hb
  have kk : ∀ (x : S32), x.f2 = [] → x.f5 = [] → x.f6 = [] → k32.K W' x [.int .i64 x.f0, .string x.f1, .slice none 0 0, .bool x.f3, .bool x.f4, .slice none 0 0, .slice none 0 0] := by
    rintro ⟨a, b, l, c, d, e, f⟩ rfl rfl rfl
    exact k32_mk W' ⟨a, b, [], c, d, [], []⟩ (Nat.le_refl _) (Kd.C_nil _ _) (Nat.le_refl _) (Kd.C_nil _ _) (Nat.le_refl _) (Kd.C_nil _ _)
  refine ⟨rfl, by decide, fun _ => ⟨⟨gl, 0, none⟩, rfl, fun j p hj => ?_⟩⟩
  have hl := (List.getElem?_eq_some_iff.1 hj).1
  have hl3 : j < 3 := hl
  have hc : ∀ i u, ([.int .i64 1, .string (⟨#[102]⟩ : ByteArray), .slice none 0 0, .bool false, .bool false, .slice none 0 0, .slice none 0 0, .int .i64 1, .string (⟨#[97]⟩ : ByteArray), .slice none 0 0, .bool false, .bool false, .slice none 0 0, .slice none 0 0, .int .i64 1, .string (⟨#[97]⟩ : ByteArray), .slice none 0 0, .bool false, .bool false, .slice none 0 0, .slice none 0 0] : List Value)[i]? = some u → W'.cell? ((⟨gl, 0, none⟩ : Addr).add i) = some u := fun i u hu => by
    rw [add_plain, blk_cell hb']
    simpa using hu
  match j, hl3 with
  | 0, _ =>
    obtain rfl : nF = p := by simpa [nT] using hj
    exact ⟨_, rfl, kk nF rfl rfl rfl, fun i u hu => hc _ _ (by rw [Nat.zero_mul, Nat.zero_add]; exact List.getElem?_append_left (l₂ := [.int .i64 1, .string (⟨#[97]⟩ : ByteArray), .slice none 0 0, .bool false, .bool false, .slice none 0 0, .slice none 0 0, .int .i64 1, .string (⟨#[97]⟩ : ByteArray), .slice none 0 0, .bool false, .bool false, .slice none 0 0, .slice none 0 0]) (List.getElem?_eq_some_iff.1 hu).1 ▸ hu)⟩
  | 1, _ =>
    obtain rfl : nA = p := by simpa [nT] using hj
    exact ⟨_, rfl, kk nA rfl rfl rfl, fun i u hu => hc _ _ (by have hi : i < 7 := (List.getElem?_eq_some_iff.1 hu).1
                                                               match i, hi with
                                                               | 0, _ => exact hu
                                                               | 1, _ => exact hu
                                                               | 2, _ => exact hu
                                                               | 3, _ => exact hu
                                                               | 4, _ => exact hu
                                                               | 5, _ => exact hu
                                                               | 6, _ => exact hu)⟩
  | 2, _ =>
    obtain rfl : nA = p := by simpa [nT] using hj
    exact ⟨_, rfl, kk nA rfl rfl rfl, fun i u hu => hc _ _ (by have hi : i < 7 := (List.getElem?_eq_some_iff.1 hu).1
                                                               match i, hi with
                                                               | 0, _ => exact hu
                                                               | 1, _ => exact hu
                                                               | 2, _ => exact hu
                                                               | 3, _ => exact hu
                                                               | 4, _ => exact hu
                                                               | 5, _ => exact hu
                                                               | 6, _ => exact hu)⟩

theorem PW.write {w wr : World} {base ga gm : Nat} {all : List S32} (h : PW w base ga gm all) {g : Nat} {cs : Array Value} {t : TypeId} (hb : w.heap[g]? = some (.cells cs t (0, 0))) (h1 : t ≠ 41) (h2 : t ≠ 3) (ht : Turned w wr (fun k => k = g)) : PW wr base ga gm all := by
  obtain ⟨v, ks, zs, hp, hs⟩ := h
  have hn := hp.away hb h1 h2
  refine ⟨v, ks, zs, ⟨(ht.block ga (blk_lt hp.pa) (fun e => hn (Or.inl e.symm))).trans hp.pa, hp.pm.below (ht.block gm hp.pm.lt (fun e => hn (Or.inr (Or.inl e.symm)))), ?_, hp.hl, hp.ba, hp.bm⟩, hs⟩
  exact Kd.R_reok rfl (Kd.R_step (Kd.R_tight rfl hp.pz) (fun k hk hlt => ht.block k hlt (fun e => hn (Or.inr (Or.inr (by rw [← e]; exact hk)))))) (fun k hk => Kd.R_base hp.pz k hk)
theorem lit_evt {P : Program} {ops : Array Oper} {rest : List Oper} {o : Oper} {a : Act} {Q : Exit → Act → World → Prop} {W : World} (hgd : o.guard = none) {N : Tmp} (_hd : o.dst = some N) {m : Nat} {cs : Array Value} {t : TypeId}
    (hrun : (execOp a.eval o).run P W = .ok (.value (.slice (some ⟨W.heap.size, 0, none⟩) m m)) (W.alloc (.cells cs t (0, 0))))
    (h : ∀ g, g = W.heap.size → ∀ w1, w1.heap[g]? = some (.cells cs t (0, 0)) → Below W.heap.size W w1 → wpList P ops Q rest (a.put o.dst (.slice (some ⟨g, 0, none⟩) m m)) w1) : wpList P ops Q (o :: rest) a W :=
  Kd.event_run hgd hrun (h _ rfl _ (blk_new W _) (below_alloc (Below.refl _ _) _))
theorem Turned.up {a b : World} {g B : Nat} (h : Turned a b (fun k => k = g)) (hb : B ≤ a.heap.size) (hg : B ≤ g) : Below B a b := h.below hb (fun k hk => by omega)
set_option maxHeartbeats 2000000 in
theorem told_calls (w : World) (hT : Tab w.heap.size w) : Calls Tryd.prog 7 #[] w fun e w' => e = .returned (.bool true) ∧ Below w.heap.size w w' := by
  have hu32 := Tryd.underlying32
  have HT := Aside0.mk hT
  clear hT
  go_enter Tryd.func7, Tryd.ntmps7
  go_wp2_with (first | ((with_reducible refine gate_dst (N := 5) rfl ?_); refine goesL_ (some 5) rfl rfl Tryd.func6 (by kernel_rfl) rfl #[] rfl (by (try simp only [List.map_toArray, List.map_cons, List.map_nil]); first | done | rfl) ?_; (refine (new_law w.heap.size w (Nat.le_refl _)).mono ?_); (rintro e w9 ⟨ga, gm, rfl, hp, hb⟩; refine ⟨_, rfl, ?_⟩; have PV := Aside0.mk hp; have HB := Aside0.mk hb; clear hp hb)) | ((with_reducible refine gate_dst (N := 2) rfl ?_); (try (refine gate_guard (by rfl) ?_; dsimp only)); refine box_event ?hg (N := 2) ?hd (cs := #[.int .i64 0, .string (⟨#[]⟩ : ByteArray), .slice none 0 0, .bool false, .bool false, .slice none 0 0, .slice none 0 0]) (t := 32) ?hr ?_; (case hd => rfl); (case hg => rfl); (case hr => first | (go_simp; done) | (go_simp; rfl)); intro b2 hg w2 hbox hb; have n0 := Aside0.mk (PV.out.below hb); have n1 := Aside0.mk (below_step HB.out hb); have B2 := Aside0.mk hbox; have G2 := Aside0.mk (show w.heap.size ≤ b2 from by rw [hg]; exact HB.out.size); clear PV HB; have PV := n0; have HB := n1; clear n0 n1 hb hg hbox; have hp0 : w2.cell? ⟨b2, 0, none⟩ = some (.int .i64 0) := (blk_cell B2.out 0).trans rfl; have fp0 := blk_frozen B2.out 0; have hp1 : w2.cell? ⟨b2, 1, none⟩ = some (.string (⟨#[]⟩ : ByteArray)) := (blk_cell B2.out 1).trans rfl; have fp1 := blk_frozen B2.out 1; have hp2 : w2.cell? ⟨b2, 2, none⟩ = some (.slice none 0 0) := (blk_cell B2.out 2).trans rfl; have fp2 := blk_frozen B2.out 2; have hp3 : w2.cell? ⟨b2, 3, none⟩ = some (.bool false) := (blk_cell B2.out 3).trans rfl; have fp3 := blk_frozen B2.out 3; have hp4 : w2.cell? ⟨b2, 4, none⟩ = some (.bool false) := (blk_cell B2.out 4).trans rfl; have fp4 := blk_frozen B2.out 4; have hp5 : w2.cell? ⟨b2, 5, none⟩ = some (.slice none 0 0) := (blk_cell B2.out 5).trans rfl; have fp5 := blk_frozen B2.out 5; have hp6 : w2.cell? ⟨b2, 6, none⟩ = some (.slice none 0 0) := (blk_cell B2.out 6).trans rfl; have fp6 := blk_frozen B2.out 6) | ((with_reducible refine gate_dst (N := 3) rfl ?_); (try (refine gate_guard (by rfl) ?_; dsimp only)); refine box_event ?hg (N := 3) ?hd (cs := #[.int .i64 0, .string (⟨#[]⟩ : ByteArray), .slice none 0 0, .bool false, .bool false, .slice none 0 0, .slice none 0 0]) (t := 32) ?hr ?_; (case hd => rfl); (case hg => rfl); (case hr => first | (go_simp; done) | (go_simp; rfl)); intro b3 hg w3 hbox hb; have n0 := Aside0.mk (PV.out.below hb); have n1 := Aside0.mk (below_step HB.out hb); have n2 := Aside0.mk (blk_below B2.out hb); have B3 := Aside0.mk hbox; have G3 := Aside0.mk (show w.heap.size ≤ b3 from by rw [hg]; exact HB.out.size); have N23 := Aside0.mk (show b2 ≠ b3 from by rw [hg]; exact Nat.ne_of_lt (blk_lt B2.out)); clear PV HB B2; have PV := n0; have HB := n1; have B2 := n2; clear n0 n1 n2 hb hg hbox; clear hp0 fp0 hp1 fp1 hp2 fp2 hp3 fp3 hp4 fp4 hp5 fp5 hp6 fp6; have hp0 : w3.cell? ⟨b2, 0, none⟩ = some (.int .i64 0) := (blk_cell B2.out 0).trans rfl; have fp0 := blk_frozen B2.out 0; have hp1 : w3.cell? ⟨b2, 1, none⟩ = some (.string (⟨#[]⟩ : ByteArray)) := (blk_cell B2.out 1).trans rfl; have fp1 := blk_frozen B2.out 1; have hp2 : w3.cell? ⟨b2, 2, none⟩ = some (.slice none 0 0) := (blk_cell B2.out 2).trans rfl; have fp2 := blk_frozen B2.out 2; have hp3 : w3.cell? ⟨b2, 3, none⟩ = some (.bool false) := (blk_cell B2.out 3).trans rfl; have fp3 := blk_frozen B2.out 3; have hp4 : w3.cell? ⟨b2, 4, none⟩ = some (.bool false) := (blk_cell B2.out 4).trans rfl; have fp4 := blk_frozen B2.out 4; have hp5 : w3.cell? ⟨b2, 5, none⟩ = some (.slice none 0 0) := (blk_cell B2.out 5).trans rfl; have fp5 := blk_frozen B2.out 5; have hp6 : w3.cell? ⟨b2, 6, none⟩ = some (.slice none 0 0) := (blk_cell B2.out 6).trans rfl; have fp6 := blk_frozen B2.out 6; have hq0 : w3.cell? ⟨b3, 0, none⟩ = some (.int .i64 0) := (blk_cell B3.out 0).trans rfl; have fq0 := blk_frozen B3.out 0; have hq1 : w3.cell? ⟨b3, 1, none⟩ = some (.string (⟨#[]⟩ : ByteArray)) := (blk_cell B3.out 1).trans rfl; have fq1 := blk_frozen B3.out 1; have hq2 : w3.cell? ⟨b3, 2, none⟩ = some (.slice none 0 0) := (blk_cell B3.out 2).trans rfl; have fq2 := blk_frozen B3.out 2; have hq3 : w3.cell? ⟨b3, 3, none⟩ = some (.bool false) := (blk_cell B3.out 3).trans rfl; have fq3 := blk_frozen B3.out 3; have hq4 : w3.cell? ⟨b3, 4, none⟩ = some (.bool false) := (blk_cell B3.out 4).trans rfl; have fq4 := blk_frozen B3.out 4; have hq5 : w3.cell? ⟨b3, 5, none⟩ = some (.slice none 0 0) := (blk_cell B3.out 5).trans rfl; have fq5 := blk_frozen B3.out 5; have hq6 : w3.cell? ⟨b3, 6, none⟩ = some (.slice none 0 0) := (blk_cell B3.out 6).trans rfl; have fq6 := blk_frozen B3.out 6) | ((with_reducible refine gate_store (t := 32) (p := 2) rfl ?_); refine store_event (t := 32) (p := 2) (v := ?vo2) (w1 := set7 w3 b2 (.int .i64 1) (.string (⟨#[102]⟩ : ByteArray)) (.slice none 0 0) (.bool false) (.bool false) (.slice none 0 0) (.slice none 0 0)) ?hg ?ho ?hn ?hr ?_; (case ho => rfl); (case hg => rfl); (case hn => rfl); (case hr => first | (go_simp; done) | (go_simp; rfl)); intro w4 hw; have tt := Aside0.mk (show Turned w3 w4 (fun k => k = b2) from by rw [hw]; exact set7_turned rfl); have n0 := Aside0.mk (PV.out.write B2.out (by decide) (by decide) tt.out); have n1 := Aside0.mk (HB.out.trans (tt.out.up HB.out.size G2.out)); have n2 := Aside0.mk (show w4.heap[b2]? = some (.cells #[.int .i64 1, .string (⟨#[102]⟩ : ByteArray), .slice none 0 0, .bool false, .bool false, .slice none 0 0, .slice none 0 0] 32 (0, 0)) from by rw [hw]; exact set7_blk B2.out); have n3 := Aside0.mk ((tt.out.block b3 (blk_lt B3.out) N23.out.symm).trans B3.out); clear PV HB B2 B3 tt hw; clear hp0 fp0 hp1 fp1 hp2 fp2 hp3 fp3 hp4 fp4 hp5 fp5 hp6 fp6; clear hq0 fq0 hq1 fq1 hq2 fq2 hq3 fq3 hq4 fq4 hq5 fq5 hq6 fq6; have PV := n0; have HB := n1; have B2 := n2; have B3 := n3; clear n0 n1 n2 n3; have hp0 : w4.cell? ⟨b2, 0, none⟩ = some (.int .i64 1) := (blk_cell B2.out 0).trans rfl; have fp0 := blk_frozen B2.out 0; have hp1 : w4.cell? ⟨b2, 1, none⟩ = some (.string (⟨#[102]⟩ : ByteArray)) := (blk_cell B2.out 1).trans rfl; have fp1 := blk_frozen B2.out 1; have hp2 : w4.cell? ⟨b2, 2, none⟩ = some (.slice none 0 0) := (blk_cell B2.out 2).trans rfl; have fp2 := blk_frozen B2.out 2; have hp3 : w4.cell? ⟨b2, 3, none⟩ = some (.bool false) := (blk_cell B2.out 3).trans rfl; have fp3 := blk_frozen B2.out 3; have hp4 : w4.cell? ⟨b2, 4, none⟩ = some (.bool false) := (blk_cell B2.out 4).trans rfl; have fp4 := blk_frozen B2.out 4; have hp5 : w4.cell? ⟨b2, 5, none⟩ = some (.slice none 0 0) := (blk_cell B2.out 5).trans rfl; have fp5 := blk_frozen B2.out 5; have hp6 : w4.cell? ⟨b2, 6, none⟩ = some (.slice none 0 0) := (blk_cell B2.out 6).trans rfl; have fp6 := blk_frozen B2.out 6; have hq0 : w4.cell? ⟨b3, 0, none⟩ = some (.int .i64 0) := (blk_cell B3.out 0).trans rfl; have fq0 := blk_frozen B3.out 0; have hq1 : w4.cell? ⟨b3, 1, none⟩ = some (.string (⟨#[]⟩ : ByteArray)) := (blk_cell B3.out 1).trans rfl; have fq1 := blk_frozen B3.out 1; have hq2 : w4.cell? ⟨b3, 2, none⟩ = some (.slice none 0 0) := (blk_cell B3.out 2).trans rfl; have fq2 := blk_frozen B3.out 2; have hq3 : w4.cell? ⟨b3, 3, none⟩ = some (.bool false) := (blk_cell B3.out 3).trans rfl; have fq3 := blk_frozen B3.out 3; have hq4 : w4.cell? ⟨b3, 4, none⟩ = some (.bool false) := (blk_cell B3.out 4).trans rfl; have fq4 := blk_frozen B3.out 4; have hq5 : w4.cell? ⟨b3, 5, none⟩ = some (.slice none 0 0) := (blk_cell B3.out 5).trans rfl; have fq5 := blk_frozen B3.out 5; have hq6 : w4.cell? ⟨b3, 6, none⟩ = some (.slice none 0 0) := (blk_cell B3.out 6).trans rfl; have fq6 := blk_frozen B3.out 6) | ((with_reducible refine gate_store (t := 32) (p := 3) rfl ?_); refine store_event (t := 32) (p := 3) (v := ?vo3) (w1 := set7 w4 b3 (.int .i64 1) (.string (⟨#[97]⟩ : ByteArray)) (.slice none 0 0) (.bool false) (.bool false) (.slice none 0 0) (.slice none 0 0)) ?hg ?ho ?hn ?hr ?_; (case ho => rfl); (case hg => rfl); (case hn => rfl); (case hr => first | (go_simp; done) | (go_simp; rfl)); intro w5 hw; have tt := Aside0.mk (show Turned w4 w5 (fun k => k = b3) from by rw [hw]; exact set7_turned rfl); have n0 := Aside0.mk (PV.out.write B3.out (by decide) (by decide) tt.out); have n1 := Aside0.mk (HB.out.trans (tt.out.up HB.out.size G3.out)); have n2 := Aside0.mk (show w5.heap[b3]? = some (.cells #[.int .i64 1, .string (⟨#[97]⟩ : ByteArray), .slice none 0 0, .bool false, .bool false, .slice none 0 0, .slice none 0 0] 32 (0, 0)) from by rw [hw]; exact set7_blk B3.out); have n3 := Aside0.mk ((tt.out.block b2 (blk_lt B2.out) N23.out).trans B2.out); clear PV HB B2 B3 tt hw; clear hp0 fp0 hp1 fp1 hp2 fp2 hp3 fp3 hp4 fp4 hp5 fp5 hp6 fp6; clear hq0 fq0 hq1 fq1 hq2 fq2 hq3 fq3 hq4 fq4 hq5 fq5 hq6 fq6; have PV := n0; have HB := n1; have B3 := n2; have B2 := n3; clear n0 n1 n2 n3; have hp0 : w5.cell? ⟨b2, 0, none⟩ = some (.int .i64 1) := (blk_cell B2.out 0).trans rfl; have fp0 := blk_frozen B2.out 0; have hp1 : w5.cell? ⟨b2, 1, none⟩ = some (.string (⟨#[102]⟩ : ByteArray)) := (blk_cell B2.out 1).trans rfl; have fp1 := blk_frozen B2.out 1; have hp2 : w5.cell? ⟨b2, 2, none⟩ = some (.slice none 0 0) := (blk_cell B2.out 2).trans rfl; have fp2 := blk_frozen B2.out 2; have hp3 : w5.cell? ⟨b2, 3, none⟩ = some (.bool false) := (blk_cell B2.out 3).trans rfl; have fp3 := blk_frozen B2.out 3; have hp4 : w5.cell? ⟨b2, 4, none⟩ = some (.bool false) := (blk_cell B2.out 4).trans rfl; have fp4 := blk_frozen B2.out 4; have hp5 : w5.cell? ⟨b2, 5, none⟩ = some (.slice none 0 0) := (blk_cell B2.out 5).trans rfl; have fp5 := blk_frozen B2.out 5; have hp6 : w5.cell? ⟨b2, 6, none⟩ = some (.slice none 0 0) := (blk_cell B2.out 6).trans rfl; have fp6 := blk_frozen B2.out 6; have hq0 : w5.cell? ⟨b3, 0, none⟩ = some (.int .i64 1) := (blk_cell B3.out 0).trans rfl; have fq0 := blk_frozen B3.out 0; have hq1 : w5.cell? ⟨b3, 1, none⟩ = some (.string (⟨#[97]⟩ : ByteArray)) := (blk_cell B3.out 1).trans rfl; have fq1 := blk_frozen B3.out 1; have hq2 : w5.cell? ⟨b3, 2, none⟩ = some (.slice none 0 0) := (blk_cell B3.out 2).trans rfl; have fq2 := blk_frozen B3.out 2; have hq3 : w5.cell? ⟨b3, 3, none⟩ = some (.bool false) := (blk_cell B3.out 3).trans rfl; have fq3 := blk_frozen B3.out 3; have hq4 : w5.cell? ⟨b3, 4, none⟩ = some (.bool false) := (blk_cell B3.out 4).trans rfl; have fq4 := blk_frozen B3.out 4; have hq5 : w5.cell? ⟨b3, 5, none⟩ = some (.slice none 0 0) := (blk_cell B3.out 5).trans rfl; have fq5 := blk_frozen B3.out 5; have hq6 : w5.cell? ⟨b3, 6, none⟩ = some (.slice none 0 0) := (blk_cell B3.out 6).trans rfl; have fq6 := blk_frozen B3.out 6) | ((with_reducible refine gate_dst (N := 14) rfl ?_); refine lit_evt ?hg (N := 14) ?hd (m := 3) (cs := #[.int .i64 1, .string (⟨#[102]⟩ : ByteArray), .slice none 0 0, .bool false, .bool false, .slice none 0 0, .slice none 0 0, .int .i64 1, .string (⟨#[97]⟩ : ByteArray), .slice none 0 0, .bool false, .bool false, .slice none 0 0, .slice none 0 0, .int .i64 1, .string (⟨#[97]⟩ : ByteArray), .slice none 0 0, .bool false, .bool false, .slice none 0 0, .slice none 0 0]) (t := 32) ?hr ?_; (case hd => rfl); (case hg => rfl); (case hr => first | (go_simp; done) | (go_simp; rfl)); intro gl hg w6 hbox hb; have n0 := Aside0.mk (PV.out.below hb); have n1 := Aside0.mk (below_step HB.out hb); have n2 := Aside0.mk (blk_below B3.out hb); have BL := Aside0.mk hbox; clear PV HB B2 B3; clear hp0 fp0 hp1 fp1 hp2 fp2 hp3 fp3 hp4 fp4 hp5 fp5 hp6 fp6; clear hq0 fq0 hq1 fq1 hq2 fq2 hq3 fq3 hq4 fq4 hq5 fq5 hq6 fq6; have PV := n0; have HB := n1; have B3 := n2; clear n0 n1 n2 hb hg hbox) | ((with_reducible refine gate_dst (N := 16) rfl ?_); refine goesL_ (some 16) rfl rfl Tryd.func10 (by kernel_rfl) rfl #[.pointer (some ⟨ga, 0, none⟩), .agg #[.int .i64 2, .string (⟨#[]⟩ : ByteArray), .slice (some ⟨gl, 0, none⟩) 3 3, .bool false, .bool false, .slice none 0 0, .slice none 0 0]] rfl (by (try simp only [List.map_toArray, List.map_cons, List.map_nil]); first | done | rfl) ?_; (refine (put_law (x := nT) PV.out (HT.out.on HB.out) (nf_told BL.out) (fun k hk => Or.inr (by cases hk; exact ⟨_, 32, by decide, by decide, BL.out⟩)) told_ok told_n1 told_1).mono ?_); (rintro e w9 ⟨rfl, hp, hf⟩; refine ⟨_, rfl, ?_⟩; clear BL; have n0 := Aside0.mk (HB.out.trans hf.below); have n1 := Aside0.mk (hf.cells _ _ _ (by decide) (by decide) B3.out); clear PV HB B3; have PV := Aside0.mk hp; have HB := n0; have B3 := n1; clear n0 n1 hp hf; have hq0 : w9.cell? ⟨b3, 0, none⟩ = some (.int .i64 1) := (blk_cell B3.out 0).trans rfl; have fq0 := blk_frozen B3.out 0; have hq1 : w9.cell? ⟨b3, 1, none⟩ = some (.string (⟨#[97]⟩ : ByteArray)) := (blk_cell B3.out 1).trans rfl; have fq1 := blk_frozen B3.out 1; have hq2 : w9.cell? ⟨b3, 2, none⟩ = some (.slice none 0 0) := (blk_cell B3.out 2).trans rfl; have fq2 := blk_frozen B3.out 2; have hq3 : w9.cell? ⟨b3, 3, none⟩ = some (.bool false) := (blk_cell B3.out 3).trans rfl; have fq3 := blk_frozen B3.out 3; have hq4 : w9.cell? ⟨b3, 4, none⟩ = some (.bool false) := (blk_cell B3.out 4).trans rfl; have fq4 := blk_frozen B3.out 4; have hq5 : w9.cell? ⟨b3, 5, none⟩ = some (.slice none 0 0) := (blk_cell B3.out 5).trans rfl; have fq5 := blk_frozen B3.out 5; have hq6 : w9.cell? ⟨b3, 6, none⟩ = some (.slice none 0 0) := (blk_cell B3.out 6).trans rfl; have fq6 := blk_frozen B3.out 6)) | ((with_reducible refine gate_dst (N := 22) rfl ?_); (refine gate_guard (by rfl) ?_; dsimp only); refine goesL_ (some 22) rfl rfl Tryd.func10 (by kernel_rfl) rfl #[.pointer (some ⟨ga, 0, none⟩), .agg #[.int .i64 1, .string (⟨#[97]⟩ : ByteArray), .slice none 0 0, .bool false, .bool false, .slice none 0 0, .slice none 0 0]] rfl (by (try simp only [List.map_toArray, List.map_cons, List.map_nil]); first | done | rfl) ?_; (refine (put_law (x := nA) PV.out (HT.out.on HB.out) (nf_nil _ (fun _ => False) nA rfl rfl rfl) (fun k hk => hk.elim) told_okA told_n2 told_2).mono ?_); (rintro e w9 ⟨rfl, hp, hf⟩; refine ⟨_, rfl, ?_⟩; clear hq0 fq0 hq1 fq1 hq2 fq2 hq3 fq3 hq4 fq4 hq5 fq5 hq6 fq6; have n0 := Aside0.mk (HB.out.trans hf.below); have n1 := Aside0.mk (hf.cells _ _ _ (by decide) (by decide) B3.out); clear PV HB B3; have PV := Aside0.mk hp; have HB := n0; have B3 := n1; clear n0 n1 hp hf; )) | ((with_reducible refine gate_dst (N := 27) rfl ?_); (refine gate_guard (by rfl) ?_; dsimp only); refine goesL_ (some 27) rfl rfl Tryd.func12 (by kernel_rfl) rfl #[.pointer (some ⟨ga, 0, none⟩)] rfl (by (try simp only [List.map_toArray, List.map_cons, List.map_nil]); first | done | rfl) ?_; (refine (len_law 3 PV.out rfl).mono ?_); (rintro e w9 ⟨rfl, rfl⟩; refine ⟨_, rfl, ?_⟩; skip)) | ((with_reducible refine gate_dst (N := 32) rfl ?_); (refine gate_guard (by rfl) ?_; dsimp only); refine goesL_ (some 32) rfl rfl Tryd.func13 (by kernel_rfl) rfl #[.pointer (some ⟨ga, 0, none⟩), .int .i64 3] rfl (by (try simp only [List.map_toArray, List.map_cons, List.map_nil]); first | done | rfl) ?_; (refine (size_law 3 4 PV.out (by decide) told_s3).mono ?_); (rintro e w9 ⟨rfl, rfl⟩; refine ⟨_, rfl, ?_⟩; skip)) | ((with_reducible refine gate_dst (N := 37) rfl ?_); (refine gate_guard (by rfl) ?_; dsimp only); refine goesL_ (some 37) rfl rfl Tryd.func13 (by kernel_rfl) rfl #[.pointer (some ⟨ga, 0, none⟩), .int .i64 9] rfl (by (try simp only [List.map_toArray, List.map_cons, List.map_nil]); first | done | rfl) ?_; (refine (size_law 9 0 PV.out (by decide) told_s9).mono ?_); (rintro e w9 ⟨rfl, rfl⟩; refine ⟨_, rfl, ?_⟩; skip)))
  go_ret
  exact ⟨rfl, HB.out⟩
end Go.Proofs.YtjlnlonioknkhaaDoor.PL
