/- Words and walks that the law leans on: HS1, HS2, HS3. Conditions: none. -/
import Derived.Test.YthipodffpkglfaaGreatDoorJ3
namespace Go.Proofs.YthipodffpkglfaaGreatDoor.PS
open Go.RowKit Go.Proofs.YthipodffpkglfaaGreatDoorW.PrintWords Go.Proofs.YthipodffpkglfaaGreatDoorW.PrintLast Go.Proofs.YthipodffpkglfaaGreatDoorW.PrintMore
set_option linter.unusedVariables false
set_option linter.unusedSimpArgs false
/-- Which operations of a region are done, as a number's bits. -/
def bt (n m : Nat) : Array Bool := ((List.range n).map fun i => m.testBit i).toArray
theorem pset : (∀ (l : List Value) (i : Nat) (a : Value), l.toArray.setIfInBounds i a = (l.set i a).toArray) ∧ (∀ (l : List Value) (a b : Value), (a :: l).set 0 b = b :: l) ∧ (∀ (l : List Value) (a b : Value) (n : Nat), (a :: l).set (n + 1) b = a :: l.set n b) ∧ (∀ n : Int, IntKind.i64.wrap n = wrap64 n) ∧ (∀ n : Int, IntKind.i32.wrap n = wrap32 n) :=
  ⟨fun l i a => List.setIfInBounds_toArray l i a, fun _ _ _ => rfl, fun _ _ _ _ => rfl, i64_w, i32_w⟩
theorem bc {w w' : World} {a : Addr} {v : Value} (hb : Below w.heap.size w w') (h : w.cell? a = some v) : w'.cell? a = some v := (hb.cell (World.block_lt_of_cell? w a h)).trans h
/-- A token: kind, text, place. -/
structure Tk where
  k : Int
  t : ByteArray
  a : Int
def tkz : Tk := ⟨0, ⟨#[]⟩, 0⟩
def tkc (x : Tk) : Array Value := #[.int .i64 x.k, .string x.t, .int .i64 x.a]
/-- Tokens as they lie. -/
def TokAt (w : World) (A : Option Addr) (l : List Tk) : Prop := ∀ (i : Nat) (x : Tk), l[i]? = some x → ∃ ad, A = some ad ∧ ∀ w', Below w.heap.size w w' →
  w'.cell? (ad.add (i * 3)) = some (.int .i64 x.k) ∧ w'.cell? ⟨(ad.add (i * 3)).block, (ad.add (i * 3)).off + 1, none⟩ = some (.string x.t) ∧ w'.cell? ⟨(ad.add (i * 3)).block, (ad.add (i * 3)).off + 2, none⟩ = some (.int .i64 x.a)
theorem infoTk : (Tryz.prog.info? 86).map (·.size) = some 3 := by kernel_rfl
def set3at (w : World) (g : Nat) (v0 v1 v2 : Value) : World := ((w.setCell ⟨g, 0, none⟩ v0).setCell ⟨g, 1, none⟩ v1).setCell ⟨g, 2, none⟩ v2
theorem set3at_blk {w : World} {g : Nat} {a b c v0 v1 v2 : Value} {t : TypeId} (h : w.heap[g]? = some (.cells #[a, b, c] t (0, 0))) : (set3at w g v0 v1 v2).heap[g]? = some (.cells #[v0, v1, v2] t (0, 0)) :=
  blk_put (blk_put (blk_put h 0 v0 rfl) 1 v1 rfl) 2 v2 rfl
theorem set3at_below {w : World} {g B : Nat} (h : B ≤ g) (v0 v1 v2 : Value) : Below B w (set3at w g v0 v1 v2) := (((Below.refl B w).setCell h v0).setCell h v1).setCell h v2
/-- How many newlines stand in m bytes from a place on. -/
def nlF (s : ByteArray) (e : Nat) : Nat → Nat
  | 0 => 0
  | m + 1 => (if (s.data.toList.getD e 0).toNat = 10 then 1 else 0) + nlF s (e + 1) m
/-- A token's bytes stand in a text. -/
def inT (s : ByteArray) (x : Tk) : Prop := 0 ≤ x.a ∧ x.a + x.t.size ≤ s.size
/-- Where a parser reads: the world in which the tokens came in, its own block, the text, the tokens, where they end for it. -/
structure Env where
  wD : World
  gp : Nat
  s : ByteArray
  A : Option Addr
  c : Nat
  toks : List Tk
  n : Nat
  fr : Nat
def pcs4 (E : Env) (i : Nat) : Array Value := #[.string E.s, .slice E.A E.toks.length E.c, .int .i64 i, .int .i64 E.n]
structure PSt (E : Env) (w : World) (i : Nat) : Prop where
  hb : Below E.wD.heap.size E.wD w
  gB : E.wD.heap.size ≤ E.gp
  blk : w.heap[E.gp]? = some (.cells (pcs4 E i) 154 (0, 0))
  le : i ≤ E.n
  tl : E.n ≤ E.toks.length
  tk : TokAt E.wD E.A E.toks
  nc : ∀ (j : Nat) (x : Tk), E.toks[j]? = some x → E.fr ≤ j → j < E.n → x.k ≠ 11
  sz : E.toks.length ≤ 1000000
  s2 : E.s.size ≤ 1000000
  nb : ∀ (j : Nat) (x y : Tk), E.fr ≤ j → j + 1 < E.n → E.toks[j]? = some x → E.toks[j + 1]? = some y → inT E.s x ∧ inT E.s y ∧ ∃ e m : Nat, x.a + (x.t.size : Int) = e ∧ y.a = ((e + m : Nat) : Int) ∧ nlF E.s e m = 0
  fg : E.fr ≤ i
def Env.cur (E : Env) (i : Nat) : Tk := if i < E.n then E.toks.getD i tkz else tkz
section
variable {E : Env} {w w' : World} {i : Nat}
theorem PSt.below (h : PSt E w i) (hb : Below w.heap.size w w') : PSt E w' i :=
  ⟨h.hb.trans (hb.mono h.hb.size), h.gB, blk_below h.blk hb, h.le, h.tl, h.tk, h.nc, h.sz, h.s2, h.nb, h.fg⟩
theorem PSt.at_ (h : PSt E w i) (hi : i < E.n) : E.toks[i]? = some (E.cur i) := by
  have hl : i < E.toks.length := Nat.lt_of_lt_of_le hi h.tl
  rw [Env.cur, if_pos hi, List.getD_eq_getElem?_getD, List.getElem?_eq_getElem hl]
  rfl
theorem PSt.set (h : PSt E w i) (j : Nat) (hj : j ≤ E.n) (hf : E.fr ≤ j) : PSt E (w.setCell ⟨E.gp, 2, none⟩ (.int .i64 j)) j :=
  ⟨h.hb.setCell h.gB _, h.gB, blk_put h.blk 2 _ rfl, hj, h.tl, h.tk, h.nc, h.sz, h.s2, h.nb, hf⟩
theorem PSt.c0 (h : PSt E w i) : w.cell? ⟨E.gp, 0, none⟩ = some (.string E.s) := (blk_cell h.blk 0).trans rfl
theorem PSt.c1 (h : PSt E w i) : w.cell? ⟨E.gp, 1, none⟩ = some (.slice E.A E.toks.length E.c) := (blk_cell h.blk 1).trans rfl
theorem PSt.c2 (h : PSt E w i) : w.cell? ⟨E.gp, 2, none⟩ = some (.int .i64 i) := (blk_cell h.blk 2).trans rfl
theorem PSt.c3 (h : PSt E w i) : w.cell? ⟨E.gp, 3, none⟩ = some (.int .i64 E.n) := (blk_cell h.blk 3).trans rfl
theorem PSt.lt (h : PSt E w i) : E.gp < w.heap.size := blk_lt h.blk
/-- The token that stands there. -/
theorem PSt.tok (h : PSt E w i) (hi : i < E.n) : ∃ ad, E.A = some ad ∧ ∀ w', Below E.wD.heap.size E.wD w' →
    w'.cell? (ad.add (i * 3)) = some (.int .i64 (E.cur i).k) ∧ w'.cell? ⟨(ad.add (i * 3)).block, (ad.add (i * 3)).off + 1, none⟩ = some (.string (E.cur i).t) ∧ w'.cell? ⟨(ad.add (i * 3)).block, (ad.add (i * 3)).off + 2, none⟩ = some (.int .i64 (E.cur i).a) :=
  h.tk i _ (h.at_ hi)
set_option maxHeartbeats 4000000 in
set_option maxRecDepth 100000 in
theorem cur_calls (h : PSt E w i) : Calls Tryz.prog 174 #[.pointer (some ⟨E.gp, 0, none⟩)] w fun e w' => e = .returned (.agg (tkc (E.cur i))) ∧ Below w.heap.size w w' := by
  have hu154 := Tryz.underlying154
  have hu56 := Tryz.underlying56
  have hu86 := Tryz.underlying86
  have H := Aside0.mk h
  have q1 := h.c1
  have q2 := h.c2
  have q3 := h.c3
  have hnn : (E.n : Int) ≤ 1000000 := by have h1 := h.tl; have h2 := h.sz; omega
  have hin : i ≤ E.n := h.le
  have hlt : E.n ≤ E.toks.length := h.tl
  obtain ⟨n, hn⟩ : ∃ n, E.n = n := ⟨_, rfl⟩
  obtain ⟨m, hm⟩ : ∃ m, E.toks.length = m := ⟨_, rfl⟩
  have HN := Aside0.mk hn
  have HM := Aside0.mk hm
  rw [hn] at hnn hin hlt
  rw [hm] at hlt
  clear h hn hm
  go_enter Tryz.func174, Tryz.ntmps174
  go_wp2_with (first | ((with_reducible refine gate_dst (N := 2) rfl ?_); (try (refine gate_guard (by rfl) ?_; dsimp only)); refine box_event ?hg (N := 2) ?hd (cs := #[.int .i64 0, .string (⟨#[]⟩ : ByteArray), .int .i64 0]) (t := 86) ?hr ?_; (case hd => rfl); (case hg => rfl); (case hr => first | (go_simp; done) | (go_simp; rfl)); intro gb hg w1 hbox hb; have BX := Aside0.mk hbox; have HB := Aside0.mk hb; have HP := Aside0.mk (H.out.below hb); have q1 := HP.out.c1; have q2 := HP.out.c2; have q3 := HP.out.c3; have HG := Aside0.mk (show w.heap.size ≤ gb from Nat.le_of_eq hg.symm); clear hb hbox hg))
  rw [HM.out] at q1
  rw [HN.out] at q3
  go_loopg [3] 0 (fun k' v3 wr => v3 = .int .i64 (i : Int) ∧ wr = w1)
  case atStart => exact ⟨rfl, rfl⟩
  case round =>
    obtain ⟨rfl, rfl⟩ := hrel
    have z0 : wr.cell? ⟨gb, 0, none⟩ = some (.int .i64 0) := (blk_cell BX.out 0).trans rfl
    have z1 : wr.cell? ⟨gb, 1, none⟩ = some (.string (⟨#[]⟩ : ByteArray)) := (blk_cell BX.out 1).trans rfl
    have z2 : wr.cell? ⟨gb, 2, none⟩ = some (.int .i64 0) := (blk_cell BX.out 2).trans rfl
    have y0 := blk_frozen BX.out 0
    have y1 := blk_frozen BX.out 1
    have y2 := blk_frozen BX.out 2
    by_cases hi : i < n
    · obtain ⟨ad, eA, qy⟩ := HP.out.tok (by rw [HN.out]; exact hi)
      obtain ⟨t0, t1, t2⟩ := qy _ HP.out.hb
      have hk := HP.out.nc i _ (HP.out.at_ (by rw [HN.out]; exact hi)) HP.out.fg (by rw [HN.out]; exact hi)
      have him : i < m := by omega
      rw [eA] at q1
      clear qy
      obtain ⟨tk, htk⟩ : ∃ tk, E.cur i = tk := ⟨_, rfl⟩
      rw [htk] at t0 t1 t2 hk
      have HTK := Aside0.mk htk
      clear htk
      have hk1 : decide (tk.k = 11) = false := decide_eq_false hk
      go_wp2_with fail
      have HS := Aside0.mk (set3at_blk (v0 := .int .i64 tk.k) (v1 := .string tk.t) (v2 := .int .i64 tk.a) BX.out)
      refine bodyPost_ret (results_single rfl (.cell gb 86 (tkc tk) (0, 0) _ rfl HS.out hu86 rfl infoTk .nil)) rfl ?_
      exact ⟨by rw [HTK.out], HB.out.trans (set3at_below HG.out _ _ _)⟩
    · obtain rfl : i = n := by omega
      go_wp2_with fail
      have HS := Aside0.mk (set3at_blk (v0 := .int .i64 tkz.k) (v1 := .string tkz.t) (v2 := .int .i64 tkz.a) BX.out)
      refine bodyPost_ret (results_single rfl (.cell gb 86 (tkc tkz) (0, 0) _ rfl HS.out hu86 rfl infoTk .nil)) rfl ?_
      exact ⟨by rw [Env.cur, if_neg (by rw [HN.out]; omega)], HB.out.trans (set3at_below HG.out _ _ _)⟩
end
end Go.Proofs.YthipodffpkglfaaGreatDoor.PS
namespace Go.Proofs.YthipodffpkglfaaGreatDoor.PS
open Go.RowKit Go.Proofs.YthipodffpkglfaaGreatDoorW.PrintWords Go.Proofs.YthipodffpkglfaaGreatDoorW.PrintLast Go.Proofs.YthipodffpkglfaaGreatDoorW.PrintMore
set_option linter.unusedVariables false
set_option linter.unusedSimpArgs false
theorem F206tab1 : rtab .any (opsOf Tryz.f206 1) = (true, [([], []), ([0], [0]), ([1], [1]), ([2], [2]), ([], []), ([4], [4]), ([5], [5]), ([6], [6]), ([3, 7], [3, 7]), ([8], [8]), ([9], [9]), ([10, 9], [9, 10]), ([11, 9], [9, 11]), ([12, 9], [9, 12]), ([9], [9]), ([14, 9], [9, 14]), ([15, 9], [9, 15]), ([16, 9], [9, 16]), ([13, 17, 9], [9, 13, 17]), ([18, 9], [9, 18]), ([19, 9], [9, 19]), ([20, 9], [9, 20]), ([9, 21], [9, 21]), ([22, 9, 0, 1, 2, 3, 4, 5, 6, 7, 8, 9, 10, 11, 12, 13, 14, 15, 16, 17, 18, 19, 20, 21, 22], [22])]) := by kernel_rfl
theorem F177tab0 : rtab .any (opsOf Tryz.f177 0) = (true, [([], []), ([0], [0]), ([1], [1]), ([2], [2]), ([], []), ([4], [4]), ([5], [5]), ([6], [6]), ([3, 7], [3, 7]), ([8], [8]), ([9], [9]), ([10, 9, 9], [9, 10]), ([11, 9], [9, 11]), ([9, 12], [9, 12]), ([13, 11], [13])]) := by kernel_rfl
def notS (gp : Nat) (ad : Addr) (i n m c : Nat) (k : Int) (w' : World) : Prop := w'.cell? ⟨gp, 2, none⟩ = some (.int .i64 i) ∧ w'.cell? ⟨gp, 3, none⟩ = some (.int .i64 n) ∧ w'.cell? ⟨gp, 1, none⟩ = some (.slice (some ad) m c) ∧ w'.cell? (ad.add (i * 3)) = some (.int .i64 k) ∧ True
def not2S (gp : Nat) (i n : Nat) (w' : World) : Prop := w'.cell? ⟨gp, 2, none⟩ = some (.int .i64 i) ∧ w'.cell? ⟨gp, 3, none⟩ = some (.int .i64 n) ∧ True
section
variable {E : Env} {w w' : World} {i : Nat}
set_option maxHeartbeats 4000000 in
set_option maxRecDepth 100000 in
theorem noted_lt (h : PSt E w i) (hi : i < E.n) : Calls Tryz.prog 206 #[.pointer (some ⟨E.gp, 0, none⟩)] w fun e w' => e = .returned (.bool false) ∧ Below w.heap.size w w' := by
  have hu154 := Tryz.underlying154
  have hu56 := Tryz.underlying56
  have hu86 := Tryz.underlying86
  have H := Aside0.mk h
  obtain ⟨ad, eA, qy⟩ := h.tok hi
  have hk := h.nc i _ (h.at_ hi) h.fg hi
  have hk1 : ((E.cur i).k == 11) = false := beq_eq_false_iff_ne.2 hk
  have h1 := h.c1
  have h2 := h.c2
  have h3 := h.c3
  obtain ⟨t0, _, _⟩ := qy _ h.hb
  have hnn : (E.n : Int) ≤ 1000000 := by have h1 := h.tl; have h2 := h.sz; omega
  have hin : i ≤ E.n := h.le
  have hlt : E.n ≤ E.toks.length := h.tl
  obtain ⟨n, hn⟩ : ∃ n, E.n = n := ⟨_, rfl⟩
  obtain ⟨m, hm⟩ : ∃ m, E.toks.length = m := ⟨_, rfl⟩
  have HN := Aside0.mk hn
  have HM := Aside0.mk hm
  rw [hn] at hnn hin hlt
  rw [hm] at hlt
  rw [eA, hm] at h1
  rw [hn] at h3 hi
  obtain ⟨tk, htk⟩ : ∃ tk, E.cur i = tk := ⟨_, rfl⟩
  rw [htk] at t0 hk hk1
  have HD := Aside0.mk (show Below w.heap.size w w.drew from below_drew1 (Below.refl _ _))
  have hs_ : notS E.gp ad i n m E.c tk.k w.drew := ⟨bc HD.out h2, bc HD.out h3, bc HD.out h1, bc HD.out t0, trivial⟩
  have him : i < m := by omega
  clear h hn hm htk eA qy h1 h2 h3 t0
  go_enter Tryz.func206, Tryz.ntmps206
  go_upto_region 1 with (fail)
  refine start_ (n := 24) (S := notS E.gp ad i n m E.c tk.k) (ds := []) (bt 24 0) (by kernel_rfl) rfl (by kernel_rfl) (hs_) (fun hHeld => ?_)
  clear hs_
  refine pure_ (i := 0) (N := some 3) (bt 24 1) rfl rfl (any_of F206tab1 (by kernel_rfl)) (fun _ _ _ h => h) (Or.inl ⟨by rfl, by intro w'; go_simp; with_reducible rfl⟩) (by simp only [Act.put, pset]; rfl) ?_
  refine pure_ (i := 1) (N := some 4) (bt 24 3) rfl rfl (any_of F206tab1 (by kernel_rfl)) (fun _ _ _ h => h) (Or.inl ⟨by rfl, by intro w'; go_simp; with_reducible rfl⟩) (by simp only [Act.put, pset]; rfl) ?_
  refine pure_ (i := 2) (N := some 5) (bt 24 7) rfl rfl (any_of F206tab1 (by kernel_rfl)) (fun _ _ _ h => h) (Or.inl ⟨by rfl, by intro w'; go_simp; with_reducible rfl⟩) (by simp only [Act.put, pset]; rfl) ?_
  refine take_ (i := 3) (N := some 6) (bt 24 15) rfl rfl (take_of F206tab1 (by kernel_rfl)) (fun _ _ _ h => h) (Or.inl ⟨by rfl, by rintro w' ⟨s0, s1, s2, s3, s4⟩; go_simp; with_reducible rfl⟩) hHeld (by simp only [Act.put, pset]; rfl) ?_
  refine pure_ (i := 4) (N := some 7) (bt 24 31) rfl rfl (any_of F206tab1 (by kernel_rfl)) (fun _ _ _ h => h) (Or.inl ⟨by rfl, by intro w'; go_simp; with_reducible rfl⟩) (by simp only [Act.put, pset]; rfl) ?_
  refine pure_ (i := 5) (N := some 8) (bt 24 63) rfl rfl (any_of F206tab1 (by kernel_rfl)) (fun _ _ _ h => h) (Or.inl ⟨by rfl, by intro w'; go_simp; with_reducible rfl⟩) (by simp only [Act.put, pset]; rfl) ?_
  refine pure_ (i := 6) (N := some 9) (bt 24 127) rfl rfl (any_of F206tab1 (by kernel_rfl)) (fun _ _ _ h => h) (Or.inl ⟨by rfl, by intro w'; go_simp; with_reducible rfl⟩) (by simp only [Act.put, pset]; rfl) ?_
  refine take_ (i := 7) (N := some 10) (bt 24 255) rfl rfl (take_of F206tab1 (by kernel_rfl)) (fun _ _ _ h => h) (Or.inl ⟨by rfl, by rintro w' ⟨s0, s1, s2, s3, s4⟩; go_simp; with_reducible rfl⟩) hHeld (by simp only [Act.put, pset]; rfl) ?_
  refine pure_ (i := 8) (N := some 11) (bt 24 511) rfl rfl (any_of F206tab1 (by kernel_rfl)) (fun _ _ _ h => h) (Or.inl ⟨by rfl, by intro w'; go_simp; with_reducible rfl⟩) (by simp only [Act.put, pset]; rfl) ?_
  refine pure_ (i := 9) (N := some 12) (bt 24 1023) rfl rfl (any_of F206tab1 (by kernel_rfl)) (fun _ _ _ h => h) (Or.inl ⟨by rfl, by intro w'; go_simp; with_reducible rfl⟩) (by simp only [Act.put, pset]; rfl) ?_
  refine pure_ (i := 10) (N := some 13) (bt 24 2047) rfl rfl (any_of F206tab1 (by kernel_rfl)) (fun _ _ _ h => h) (Or.inl ⟨by rfl, by intro w'; go_simp; with_reducible rfl⟩) (by simp only [Act.put, pset]; rfl) ?_
  refine pure_ (i := 11) (N := some 14) (bt 24 4095) rfl rfl (any_of F206tab1 (by kernel_rfl)) (fun _ _ _ h => h) (Or.inl ⟨by rfl, by intro w'; go_simp; with_reducible rfl⟩) (by simp only [Act.put, pset]; rfl) ?_
  refine pure_ (i := 12) (N := some 15) (bt 24 8191) rfl rfl (any_of F206tab1 (by kernel_rfl)) (fun _ _ _ h => h) (Or.inl ⟨by rfl, by intro w'; go_simp; with_reducible rfl⟩) (by simp only [Act.put, pset]; rfl) ?_
  refine take_ (i := 13) (N := some 16) (bt 24 16383) rfl rfl (take_of F206tab1 (by kernel_rfl)) (fun _ _ _ h => h) (Or.inl ⟨by rfl, by rintro w' ⟨s0, s1, s2, s3, s4⟩; go_simp; with_reducible rfl⟩) hHeld (by simp only [Act.put, pset]; rfl) ?_
  refine pure_ (i := 14) (N := some 17) (bt 24 32767) rfl rfl (any_of F206tab1 (by kernel_rfl)) (fun _ _ _ h => h) (Or.inl ⟨by rfl, by intro w'; go_simp; with_reducible rfl⟩) (by simp only [Act.put, pset]; rfl) ?_
  refine pure_ (i := 15) (N := some 18) (bt 24 65535) rfl rfl (any_of F206tab1 (by kernel_rfl)) (fun _ _ _ h => h) (Or.inl ⟨by rfl, by intro w'; go_simp; with_reducible rfl⟩) (by simp only [Act.put, pset]; rfl) ?_
  refine pure_ (i := 16) (N := some 19) (bt 24 131071) rfl rfl (any_of F206tab1 (by kernel_rfl)) (fun _ _ _ h => h) (Or.inl ⟨by rfl, by intro w'; go_simp; with_reducible rfl⟩) (by simp only [Act.put, pset]; rfl) ?_
  refine take_ (i := 17) (N := some 20) (bt 24 262143) rfl rfl (take_of F206tab1 (by kernel_rfl)) (fun _ _ _ h => h) (Or.inl ⟨by rfl, by rintro w' ⟨s0, s1, s2, s3, s4⟩; go_simp; with_reducible rfl⟩) hHeld (by simp only [Act.put, pset]; rfl) ?_
  refine pure_ (i := 18) (N := some 21) (bt 24 524287) rfl rfl (any_of F206tab1 (by kernel_rfl)) (fun _ _ _ h => h) (Or.inl ⟨by rfl, by intro w'; go_simp; with_reducible rfl⟩) (by simp only [Act.put, pset]; rfl) ?_
  refine pure_ (i := 19) (N := some 22) (bt 24 1048575) rfl rfl (any_of F206tab1 (by kernel_rfl)) (fun _ _ _ h => h) (Or.inl ⟨by rfl, by intro w'; go_simp; with_reducible rfl⟩) (by simp only [Act.put, pset]; rfl) ?_
  refine take_ (i := 20) (N := some 23) (bt 24 2097151) rfl rfl (take_of F206tab1 (by kernel_rfl)) (fun _ _ _ h => h) (Or.inl ⟨by rfl, by rintro w' ⟨s0, s1, s2, s3, s4⟩; go_simp; with_reducible rfl⟩) hHeld (by simp only [Act.put, pset]; rfl) ?_
  refine pure_ (i := 21) (N := some 24) (bt 24 4194303) rfl rfl (any_of F206tab1 (by kernel_rfl)) (fun _ _ _ h => h) (Or.inl ⟨by rfl, by intro w'; go_simp; with_reducible rfl⟩) (by simp only [Act.put, pset]; rfl) ?_
  refine pure_ (i := 22) (N := some 25) (bt 24 8388607) rfl rfl (any_of F206tab1 (by kernel_rfl)) (fun _ _ _ h => h) (Or.inl ⟨by rfl, by intro w'; go_simp; with_reducible rfl⟩) (by simp only [Act.put, pset]; rfl) ?_
  refine pure_ (i := 23) (N := some 2) (bt 24 16777215) rfl rfl (any_of F206tab1 (by kernel_rfl)) (fun _ _ _ h => h) (Or.inl ⟨by rfl, by intro w'; go_simp; with_reducible rfl⟩) (by simp only [Act.put, pset]; rfl) ?_
  refine done_ (done_of F206tab1 (by kernel_rfl)) ?_
  clear hHeld
  go_wp2_with fail
  go_ret
  exact ⟨rfl, HD.out⟩
set_option maxHeartbeats 4000000 in
set_option maxRecDepth 100000 in
theorem noted_ge (h : PSt E w i) (hi : ¬ i < E.n) : Calls Tryz.prog 206 #[.pointer (some ⟨E.gp, 0, none⟩)] w fun e w' => e = .returned (.bool false) ∧ Below w.heap.size w w' := by
  have hu154 := Tryz.underlying154
  have hu56 := Tryz.underlying56
  have hu86 := Tryz.underlying86
  have H := Aside0.mk h
  have h2 := h.c2
  have h3 := h.c3
  have hnn : (E.n : Int) ≤ 1000000 := by have h1 := h.tl; have h2 := h.sz; omega
  have hin : i ≤ E.n := h.le
  have hlt : E.n ≤ E.toks.length := h.tl
  obtain ⟨n, hn⟩ : ∃ n, E.n = n := ⟨_, rfl⟩
  obtain ⟨m, hm⟩ : ∃ m, E.toks.length = m := ⟨_, rfl⟩
  have HN := Aside0.mk hn
  have HM := Aside0.mk hm
  rw [hn] at hnn hin hlt
  rw [hm] at hlt
  rw [hn] at h3 hi
  have HD := Aside0.mk (show Below w.heap.size w w.drew from below_drew1 (Below.refl _ _))
  have hs_ : not2S E.gp i n w.drew := ⟨bc HD.out h2, bc HD.out h3, trivial⟩
  clear h hn hm h2 h3
  go_enter Tryz.func206, Tryz.ntmps206
  go_upto_region 1 with (fail)
  refine start_ (n := 24) (S := not2S E.gp i n) (ds := []) (bt 24 0) (by kernel_rfl) rfl (by kernel_rfl) (hs_) (fun hHeld => ?_)
  clear hs_
  refine pure_ (i := 0) (N := some 3) (bt 24 1) rfl rfl (any_of F206tab1 (by kernel_rfl)) (fun _ _ _ h => h) (Or.inl ⟨by rfl, by intro w'; go_simp; with_reducible rfl⟩) (by simp only [Act.put, pset]; rfl) ?_
  refine pure_ (i := 1) (N := some 4) (bt 24 3) rfl rfl (any_of F206tab1 (by kernel_rfl)) (fun _ _ _ h => h) (Or.inl ⟨by rfl, by intro w'; go_simp; with_reducible rfl⟩) (by simp only [Act.put, pset]; rfl) ?_
  refine pure_ (i := 2) (N := some 5) (bt 24 7) rfl rfl (any_of F206tab1 (by kernel_rfl)) (fun _ _ _ h => h) (Or.inl ⟨by rfl, by intro w'; go_simp; with_reducible rfl⟩) (by simp only [Act.put, pset]; rfl) ?_
  refine take_ (i := 3) (N := some 6) (bt 24 15) rfl rfl (take_of F206tab1 (by kernel_rfl)) (fun _ _ _ h => h) (Or.inl ⟨by rfl, by rintro w' ⟨s0, s1, s2⟩; go_simp; with_reducible rfl⟩) hHeld (by simp only [Act.put, pset]; rfl) ?_
  refine pure_ (i := 4) (N := some 7) (bt 24 31) rfl rfl (any_of F206tab1 (by kernel_rfl)) (fun _ _ _ h => h) (Or.inl ⟨by rfl, by intro w'; go_simp; with_reducible rfl⟩) (by simp only [Act.put, pset]; rfl) ?_
  refine pure_ (i := 5) (N := some 8) (bt 24 63) rfl rfl (any_of F206tab1 (by kernel_rfl)) (fun _ _ _ h => h) (Or.inl ⟨by rfl, by intro w'; go_simp; with_reducible rfl⟩) (by simp only [Act.put, pset]; rfl) ?_
  refine pure_ (i := 6) (N := some 9) (bt 24 127) rfl rfl (any_of F206tab1 (by kernel_rfl)) (fun _ _ _ h => h) (Or.inl ⟨by rfl, by intro w'; go_simp; with_reducible rfl⟩) (by simp only [Act.put, pset]; rfl) ?_
  refine take_ (i := 7) (N := some 10) (bt 24 255) rfl rfl (take_of F206tab1 (by kernel_rfl)) (fun _ _ _ h => h) (Or.inl ⟨by rfl, by rintro w' ⟨s0, s1, s2⟩; go_simp; with_reducible rfl⟩) hHeld (by simp only [Act.put, pset]; rfl) ?_
  refine pure_ (i := 8) (N := some 11) (bt 24 511) rfl rfl (any_of F206tab1 (by kernel_rfl)) (fun _ _ _ h => h) (Or.inl ⟨by rfl, by intro w'; go_simp; with_reducible rfl⟩) (by simp only [Act.put, pset]; rfl) ?_
  refine pure_ (i := 9) (N := some 12) (bt 24 1023) rfl rfl (any_of F206tab1 (by kernel_rfl)) (fun _ _ _ h => h) (Or.inl ⟨by rfl, by intro w'; go_simp; with_reducible rfl⟩) (by simp only [Act.put, pset]; rfl) ?_
  refine pure_ (i := 10) (N := some 13) (v := undef) (bt 24 2047) rfl rfl (any_of F206tab1 (by kernel_rfl)) (fun _ _ _ h => h) (Or.inr ⟨by rfl, rfl⟩) (by simp only [Act.put, pset]; rfl) ?_
  refine pure_ (i := 11) (N := some 14) (v := undef) (bt 24 4095) rfl rfl (any_of F206tab1 (by kernel_rfl)) (fun _ _ _ h => h) (Or.inr ⟨by rfl, rfl⟩) (by simp only [Act.put, pset]; rfl) ?_
  refine pure_ (i := 12) (N := some 15) (v := undef) (bt 24 8191) rfl rfl (any_of F206tab1 (by kernel_rfl)) (fun _ _ _ h => h) (Or.inr ⟨by rfl, rfl⟩) (by simp only [Act.put, pset]; rfl) ?_
  refine pure_ (i := 13) (N := some 16) (v := undef) (bt 24 16383) rfl rfl (any_of F206tab1 (by kernel_rfl)) (fun _ _ _ h => h) (Or.inr ⟨by rfl, rfl⟩) (by simp only [Act.put, pset]; rfl) ?_
  refine pure_ (i := 14) (N := some 17) (v := undef) (bt 24 32767) rfl rfl (any_of F206tab1 (by kernel_rfl)) (fun _ _ _ h => h) (Or.inr ⟨by rfl, rfl⟩) (by simp only [Act.put, pset]; rfl) ?_
  refine pure_ (i := 15) (N := some 18) (v := undef) (bt 24 65535) rfl rfl (any_of F206tab1 (by kernel_rfl)) (fun _ _ _ h => h) (Or.inr ⟨by rfl, rfl⟩) (by simp only [Act.put, pset]; rfl) ?_
  refine pure_ (i := 16) (N := some 19) (v := undef) (bt 24 131071) rfl rfl (any_of F206tab1 (by kernel_rfl)) (fun _ _ _ h => h) (Or.inr ⟨by rfl, rfl⟩) (by simp only [Act.put, pset]; rfl) ?_
  refine pure_ (i := 17) (N := some 20) (v := undef) (bt 24 262143) rfl rfl (any_of F206tab1 (by kernel_rfl)) (fun _ _ _ h => h) (Or.inr ⟨by rfl, rfl⟩) (by simp only [Act.put, pset]; rfl) ?_
  refine pure_ (i := 18) (N := some 21) (v := undef) (bt 24 524287) rfl rfl (any_of F206tab1 (by kernel_rfl)) (fun _ _ _ h => h) (Or.inr ⟨by rfl, rfl⟩) (by simp only [Act.put, pset]; rfl) ?_
  refine pure_ (i := 19) (N := some 22) (v := undef) (bt 24 1048575) rfl rfl (any_of F206tab1 (by kernel_rfl)) (fun _ _ _ h => h) (Or.inr ⟨by rfl, rfl⟩) (by simp only [Act.put, pset]; rfl) ?_
  refine pure_ (i := 20) (N := some 23) (v := undef) (bt 24 2097151) rfl rfl (any_of F206tab1 (by kernel_rfl)) (fun _ _ _ h => h) (Or.inr ⟨by rfl, rfl⟩) (by simp only [Act.put, pset]; rfl) ?_
  refine pure_ (i := 21) (N := some 24) (v := undef) (bt 24 4194303) rfl rfl (any_of F206tab1 (by kernel_rfl)) (fun _ _ _ h => h) (Or.inr ⟨by rfl, rfl⟩) (by simp only [Act.put, pset]; rfl) ?_
  refine pure_ (i := 22) (N := some 25) (bt 24 8388607) rfl rfl (any_of F206tab1 (by kernel_rfl)) (fun _ _ _ h => h) (Or.inl ⟨by rfl, by intro w'; go_simp; with_reducible rfl⟩) (by simp only [Act.put, pset]; rfl) ?_
  refine pure_ (i := 23) (N := some 2) (bt 24 16777215) rfl rfl (any_of F206tab1 (by kernel_rfl)) (fun _ _ _ h => h) (Or.inl ⟨by rfl, by intro w'; go_simp; with_reducible rfl⟩) (by simp only [Act.put, pset]; rfl) ?_
  refine done_ (done_of F206tab1 (by kernel_rfl)) ?_
  clear hHeld
  go_wp2_with fail
  go_ret
  exact ⟨rfl, HD.out⟩
theorem noted_calls (h : PSt E w i) : Calls Tryz.prog 206 #[.pointer (some ⟨E.gp, 0, none⟩)] w fun e w' => e = .returned (.bool false) ∧ Below w.heap.size w w' := by
  by_cases hi : i < E.n
  · exact noted_lt h hi
  · exact noted_ge h hi
theorem must_true : Calls Tryz.prog 175 #[.bool true] w fun e w' => e = .returned (.tuple #[]) ∧ w = w' := by
  go_enter Tryz.func175, Tryz.ntmps175
  go_wp2
  go_end0
  exact ⟨rfl, rfl⟩
set_option maxHeartbeats 4000000 in
set_option maxRecDepth 100000 in
theorem next_calls (h : PSt E w i) (hi : i < E.n) : Calls Tryz.prog 177 #[.pointer (some ⟨E.gp, 0, none⟩)] w fun e w' => e = .returned (.tuple #[]) ∧ PSt E w' (i + 1) ∧ KeepBut w w' E.gp none := by
  have hu154 := Tryz.underlying154
  have hu56 := Tryz.underlying56
  have hu86 := Tryz.underlying86
  have H := Aside0.mk h
  have h2 := h.c2
  have h3 := h.c3
  have hnn : (E.n : Int) ≤ 1000000 := by have h1 := h.tl; have h2 := h.sz; omega
  have hin : i ≤ E.n := h.le
  have hlt : E.n ≤ E.toks.length := h.tl
  obtain ⟨n, hn⟩ : ∃ n, E.n = n := ⟨_, rfl⟩
  obtain ⟨m, hm⟩ : ∃ m, E.toks.length = m := ⟨_, rfl⟩
  have HN := Aside0.mk hn
  have HM := Aside0.mk hm
  rw [hn] at hnn hin hlt
  rw [hm] at hlt
  rw [hn] at h3 hi
  have HB := Aside0.mk (show Below w.heap.size w w.drew from below_drew1 (Below.refl _ _))
  have HP := Aside0.mk (h.below HB.out)
  have hs_ : not2S E.gp i n w.drew := ⟨bc HB.out h2, bc HB.out h3, trivial⟩
  clear h hn hm h2 h3
  go_enter Tryz.func177, Tryz.ntmps177
  go_upto_region 0 with (fail)
  refine start_ (n := 15) (S := not2S E.gp i n) (ds := []) (bt 15 0) (by kernel_rfl) rfl (by kernel_rfl) (hs_) (fun hHeld => ?_)
  clear hs_
  generalize World.drew _ = w500 at HP HB hHeld ⊢
  refine pure_ (i := 0) (N := some 2) (bt 15 1) rfl rfl (any_of F177tab0 (by kernel_rfl)) (fun _ _ _ h => h) (Or.inl ⟨by rfl, by intro w'; go_simp; with_reducible rfl⟩) (by simp only [Act.put, pset]; rfl) ?_
  refine pure_ (i := 1) (N := some 3) (bt 15 3) rfl rfl (any_of F177tab0 (by kernel_rfl)) (fun _ _ _ h => h) (Or.inl ⟨by rfl, by intro w'; go_simp; with_reducible rfl⟩) (by simp only [Act.put, pset]; rfl) ?_
  refine pure_ (i := 2) (N := some 4) (bt 15 7) rfl rfl (any_of F177tab0 (by kernel_rfl)) (fun _ _ _ h => h) (Or.inl ⟨by rfl, by intro w'; go_simp; with_reducible rfl⟩) (by simp only [Act.put, pset]; rfl) ?_
  refine take_ (i := 3) (N := some 5) (bt 15 15) rfl rfl (take_of F177tab0 (by kernel_rfl)) (fun _ _ _ h => h) (Or.inl ⟨by rfl, by rintro w' ⟨s0, s1, s2⟩; go_simp; with_reducible rfl⟩) hHeld (by simp only [Act.put, pset]; rfl) ?_
  refine pure_ (i := 4) (N := some 6) (bt 15 31) rfl rfl (any_of F177tab0 (by kernel_rfl)) (fun _ _ _ h => h) (Or.inl ⟨by rfl, by intro w'; go_simp; with_reducible rfl⟩) (by simp only [Act.put, pset]; rfl) ?_
  refine pure_ (i := 5) (N := some 7) (bt 15 63) rfl rfl (any_of F177tab0 (by kernel_rfl)) (fun _ _ _ h => h) (Or.inl ⟨by rfl, by intro w'; go_simp; with_reducible rfl⟩) (by simp only [Act.put, pset]; rfl) ?_
  refine pure_ (i := 6) (N := some 8) (bt 15 127) rfl rfl (any_of F177tab0 (by kernel_rfl)) (fun _ _ _ h => h) (Or.inl ⟨by rfl, by intro w'; go_simp; with_reducible rfl⟩) (by simp only [Act.put, pset]; rfl) ?_
  refine take_ (i := 7) (N := some 9) (bt 15 255) rfl rfl (take_of F177tab0 (by kernel_rfl)) (fun _ _ _ h => h) (Or.inl ⟨by rfl, by rintro w' ⟨s0, s1, s2⟩; go_simp; with_reducible rfl⟩) hHeld (by simp only [Act.put, pset]; rfl) ?_
  refine pure_ (i := 8) (N := some 10) (bt 15 511) rfl rfl (any_of F177tab0 (by kernel_rfl)) (fun _ _ _ h => h) (Or.inl ⟨by rfl, by intro w'; go_simp; with_reducible rfl⟩) (by simp only [Act.put, pset]; rfl) ?_
  refine pure_ (i := 9) (N := some 11) (bt 15 1023) rfl rfl (any_of F177tab0 (by kernel_rfl)) (fun _ _ _ h => h) (Or.inl ⟨by rfl, by intro w'; go_simp; with_reducible rfl⟩) (by simp only [Act.put, pset]; rfl) ?_
  refine pure_ (i := 10) (N := some 12) (bt 15 2047) rfl rfl (any_of F177tab0 (by kernel_rfl)) (fun _ _ _ h => h) (Or.inl ⟨by rfl, by intro w'; go_simp; with_reducible rfl⟩) (by simp only [Act.put, pset]; rfl) ?_
  refine one_ (i := 11) (N := some 13) (bt 15 4095) rfl rfl (one_of F177tab0 (by kernel_rfl)) (by decide) (fun K hK => ?_)
  refine goes_ Tryz.func206 (by kernel_rfl) rfl #[.pointer (some ⟨E.gp, 0, none⟩)] (by rfl) rfl rfl (by (try simp only [List.map_toArray, List.map_cons, List.map_nil]); first | done | rfl) ?_
  refine (noted_calls HP.out).mono ?_
  rintro e w501 ⟨rfl, hb⟩
  refine ⟨_, rfl, ?_⟩
  have n0 := Aside0.mk (HP.out.below hb); have n1 := Aside0.mk (below_step HB.out hb); clear HP HB; have HP := n0; have HB := n1; clear n0 n1
  refine hK.out _ _ (⟨bc hb hHeld.1, bc hb hHeld.2.1, trivial⟩) (fun hHeld => ?_)
  clear hK K
  refine norm_ (show Act.put _ (some 13) _ = _ from (by simp only [Act.put, pset]; rfl)) ?_
  refine pure_ (i := 12) (N := some 14) (bt 15 8191) rfl rfl (any_of F177tab0 (by kernel_rfl)) (fun _ _ _ h => h) (Or.inl ⟨by rfl, by intro w'; go_simp; with_reducible rfl⟩) (by simp only [Act.put, pset]; rfl) ?_
  refine pure_ (i := 13) (N := some 15) (bt 15 16383) rfl rfl (any_of F177tab0 (by kernel_rfl)) (fun _ _ _ h => h) (Or.inl ⟨by rfl, by intro w'; go_simp; with_reducible rfl⟩) (by simp only [Act.put, pset]; rfl) ?_
  refine one_ (i := 14) (N := some 16) (bt 15 32767) rfl rfl (one_of F177tab0 (by kernel_rfl)) (by decide) (fun K hK => ?_)
  refine goes_ Tryz.func175 (by kernel_rfl) rfl #[.bool true] (by rfl) rfl rfl (by (try simp only [List.map_toArray, List.map_cons, List.map_nil]); first | done | rfl) ?_
  refine (must_true).mono ?_
  rintro e w502 ⟨rfl, rfl⟩
  refine ⟨_, rfl, ?_⟩
  
  refine hK.out _ _ (hHeld) (fun hHeld => ?_)
  clear hK K
  refine norm_ (show Act.put _ (some 16) _ = _ from (by simp only [Act.put, pset]; rfl)) ?_
  refine done_ (done_of F177tab0 (by kernel_rfl)) ?_
  clear hHeld
  have q2 := HP.out.c2
  have f2 := blk_frozen HP.out.blk 2
  go_wp2_with fail
  go_end0
  have hs := HP.out.set (i + 1) (by rw [HN.out]; omega) (Nat.le_succ_of_le HP.out.fg)
  exact ⟨rfl, hs, (KeepBut.of_below HB.out E.gp none).set_ 2 _⟩
end
end Go.Proofs.YthipodffpkglfaaGreatDoor.PS
namespace Go.Proofs.YthipodffpkglfaaGreatDoor.PS
open Go.RowKit Go.Proofs.YthipodffpkglfaaGreatDoorW.PrintWords Go.Proofs.YthipodffpkglfaaGreatDoorW.PrintLast Go.Proofs.YthipodffpkglfaaGreatDoorW.PrintMore
set_option linter.unusedVariables false
set_option linter.unusedSimpArgs false
/-- Is a token that sign or word? -/
def isT (x : Tk) (s : ByteArray) : Bool := (x.k == 9 || x.k == 8) && (x.t.toList == s.toList)
section
variable {E : Env} {w w' : World} {i : Nat} {s : ByteArray}
theorem isT_lt (h : isT (E.cur i) s = true) : i < E.n := by
  by_cases hi : i < E.n
  · exact hi
  · rw [Env.cur, if_neg hi] at h
    simp [isT, tkz] at h
theorem tkc_eq (x : Tk) : tkc x = #[.int .i64 x.k, .string x.t, .int .i64 x.a] := rfl
set_option maxHeartbeats 4000000 in
set_option maxRecDepth 100000 in
theorem is_9 (h : PSt E w i) (hk : (E.cur i).k = 9) : Calls Tryz.prog 168 #[.pointer (some ⟨E.gp, 0, none⟩), .string s] w fun e w' => e = .returned (.bool (isT (E.cur i) s)) ∧ Below w.heap.size w w' := by
  have hu154 := Tryz.underlying154
  have hu56 := Tryz.underlying56
  have hu86 := Tryz.underlying86
  have H := Aside0.mk h
  obtain ⟨tk, htk⟩ : ∃ tk, E.cur i = tk := ⟨_, rfl⟩
  have TK := Aside0.mk htk
  rw [htk] at hk
  have b9 : (tk.k == 9) = true := by rw [hk]; rfl
  clear h htk hk
  go_enter Tryz.func168, Tryz.ntmps168
  go_wp2_with (first | ((with_reducible refine gate_dst (N := 7) rfl ?_); refine goesL_ (some 7) rfl rfl Tryz.func174 (by kernel_rfl) rfl #[.pointer (some ⟨E.gp, 0, none⟩)] rfl (by (try simp only [List.map_toArray, List.map_cons, List.map_nil]); first | done | rfl) ?_; (refine (cur_calls H.out).mono ?_); (rintro e w107 ⟨rfl, hb⟩; refine ⟨_, rfl, ?_⟩; rw [TK.out, tkc_eq]; have HB := Aside0.mk hb; clear hb)) | ((with_reducible refine gate_dst (N := 5) rfl ?_); (try (refine gate_guard (by rfl) ?_; dsimp only)); refine box_event ?hg (N := 5) ?hd (cs := #[.int .i64 0, .string (⟨#[]⟩ : ByteArray), .int .i64 0]) (t := 86) ?hr ?_; (case hd => rfl); (case hg => rfl); (case hr => first | (go_simp; done) | (go_simp; rfl)); intro gb hg w5 hbox hb; have HB5 := Aside0.mk hb; have HG := Aside0.mk (show w107.heap.size ≤ gb from Nat.le_of_eq hg.symm); have z0 : w5.cell? ⟨gb, 0, none⟩ = some (.int .i64 0) := (blk_cell hbox 0).trans rfl; have z1 : w5.cell? ⟨gb, 1, none⟩ = some (.string (⟨#[]⟩ : ByteArray)) := (blk_cell hbox 1).trans rfl; have z2 : w5.cell? ⟨gb, 2, none⟩ = some (.int .i64 0) := (blk_cell hbox 2).trans rfl; have y0 := blk_frozen hbox 0; have y1 := blk_frozen hbox 1; have y2 := blk_frozen hbox 2; clear hb hbox hg))
  go_ret
  exact ⟨by rw [TK.out]; simp [isT, b9], (HB.out.trans (HB5.out.mono HB.out.size)).trans (set3at_below (Nat.le_trans HB.out.size HG.out) _ _ _)⟩
set_option maxHeartbeats 4000000 in
set_option maxRecDepth 100000 in
theorem is_8 (h : PSt E w i) (hk : (E.cur i).k = 8) : Calls Tryz.prog 168 #[.pointer (some ⟨E.gp, 0, none⟩), .string s] w fun e w' => e = .returned (.bool (isT (E.cur i) s)) ∧ Below w.heap.size w w' := by
  have hu154 := Tryz.underlying154
  have hu56 := Tryz.underlying56
  have hu86 := Tryz.underlying86
  have H := Aside0.mk h
  obtain ⟨tk, htk⟩ : ∃ tk, E.cur i = tk := ⟨_, rfl⟩
  have TK := Aside0.mk htk
  rw [htk] at hk
  have b9 : (tk.k == 9) = false := by rw [hk]; rfl
  have b8 : (tk.k == 8) = true := by rw [hk]; rfl
  clear h htk hk
  go_enter Tryz.func168, Tryz.ntmps168
  go_wp2_with (first | ((with_reducible refine gate_dst (N := 7) rfl ?_); refine goesL_ (some 7) rfl rfl Tryz.func174 (by kernel_rfl) rfl #[.pointer (some ⟨E.gp, 0, none⟩)] rfl (by (try simp only [List.map_toArray, List.map_cons, List.map_nil]); first | done | rfl) ?_; (refine (cur_calls H.out).mono ?_); (rintro e w107 ⟨rfl, hb⟩; refine ⟨_, rfl, ?_⟩; rw [TK.out, tkc_eq]; have HB := Aside0.mk hb; clear hb)) | ((with_reducible refine gate_dst (N := 5) rfl ?_); (try (refine gate_guard (by rfl) ?_; dsimp only)); refine box_event ?hg (N := 5) ?hd (cs := #[.int .i64 0, .string (⟨#[]⟩ : ByteArray), .int .i64 0]) (t := 86) ?hr ?_; (case hd => rfl); (case hg => rfl); (case hr => first | (go_simp; done) | (go_simp; rfl)); intro gb hg w5 hbox hb; have HB5 := Aside0.mk hb; have HG := Aside0.mk (show w107.heap.size ≤ gb from Nat.le_of_eq hg.symm); have z0 : w5.cell? ⟨gb, 0, none⟩ = some (.int .i64 0) := (blk_cell hbox 0).trans rfl; have z1 : w5.cell? ⟨gb, 1, none⟩ = some (.string (⟨#[]⟩ : ByteArray)) := (blk_cell hbox 1).trans rfl; have z2 : w5.cell? ⟨gb, 2, none⟩ = some (.int .i64 0) := (blk_cell hbox 2).trans rfl; have y0 := blk_frozen hbox 0; have y1 := blk_frozen hbox 1; have y2 := blk_frozen hbox 2; clear hb hbox hg))
  go_ret
  exact ⟨by rw [TK.out]; simp [isT, b9, b8], (HB.out.trans (HB5.out.mono HB.out.size)).trans (set3at_below (Nat.le_trans HB.out.size HG.out) _ _ _)⟩
set_option maxHeartbeats 4000000 in
set_option maxRecDepth 100000 in
theorem is_no (h : PSt E w i) (h9 : ¬ (E.cur i).k = 9) (h8 : ¬ (E.cur i).k = 8) : Calls Tryz.prog 168 #[.pointer (some ⟨E.gp, 0, none⟩), .string s] w fun e w' => e = .returned (.bool (isT (E.cur i) s)) ∧ Below w.heap.size w w' := by
  have hu154 := Tryz.underlying154
  have hu56 := Tryz.underlying56
  have hu86 := Tryz.underlying86
  have H := Aside0.mk h
  obtain ⟨tk, htk⟩ : ∃ tk, E.cur i = tk := ⟨_, rfl⟩
  have TK := Aside0.mk htk
  rw [htk] at h9 h8
  have b9 : (tk.k == 9) = false := beq_eq_false_iff_ne.2 h9
  have b8 : (tk.k == 8) = false := beq_eq_false_iff_ne.2 h8
  clear h htk h9 h8
  go_enter Tryz.func168, Tryz.ntmps168
  go_wp2_with (first | ((with_reducible refine gate_dst (N := 7) rfl ?_); refine goesL_ (some 7) rfl rfl Tryz.func174 (by kernel_rfl) rfl #[.pointer (some ⟨E.gp, 0, none⟩)] rfl (by (try simp only [List.map_toArray, List.map_cons, List.map_nil]); first | done | rfl) ?_; (refine (cur_calls H.out).mono ?_); (rintro e w107 ⟨rfl, hb⟩; refine ⟨_, rfl, ?_⟩; rw [TK.out, tkc_eq]; have HB := Aside0.mk hb; clear hb)) | ((with_reducible refine gate_dst (N := 5) rfl ?_); (try (refine gate_guard (by rfl) ?_; dsimp only)); refine box_event ?hg (N := 5) ?hd (cs := #[.int .i64 0, .string (⟨#[]⟩ : ByteArray), .int .i64 0]) (t := 86) ?hr ?_; (case hd => rfl); (case hg => rfl); (case hr => first | (go_simp; done) | (go_simp; rfl)); intro gb hg w5 hbox hb; have HB5 := Aside0.mk hb; have HG := Aside0.mk (show w107.heap.size ≤ gb from Nat.le_of_eq hg.symm); have z0 : w5.cell? ⟨gb, 0, none⟩ = some (.int .i64 0) := (blk_cell hbox 0).trans rfl; have z1 : w5.cell? ⟨gb, 1, none⟩ = some (.string (⟨#[]⟩ : ByteArray)) := (blk_cell hbox 1).trans rfl; have z2 : w5.cell? ⟨gb, 2, none⟩ = some (.int .i64 0) := (blk_cell hbox 2).trans rfl; have y0 := blk_frozen hbox 0; have y1 := blk_frozen hbox 1; have y2 := blk_frozen hbox 2; clear hb hbox hg))
  go_ret
  exact ⟨by rw [TK.out]; simp [isT, b9, b8], (HB.out.trans (HB5.out.mono HB.out.size)).trans (set3at_below (Nat.le_trans HB.out.size HG.out) _ _ _)⟩
theorem is_calls (h : PSt E w i) (s : ByteArray) (b : Bool) (e : isT (E.cur i) s = b) : Calls Tryz.prog 168 #[.pointer (some ⟨E.gp, 0, none⟩), .string s] w fun e w' => e = .returned (.bool b) ∧ Below w.heap.size w w' := by
  subst e
  by_cases h9 : (E.cur i).k = 9
  · exact is_9 h h9
  by_cases h8 : (E.cur i).k = 8
  · exact is_8 h h8
  · exact is_no h h9 h8
set_option maxHeartbeats 2000000 in
theorem take_yes (h : PSt E w i) (s : ByteArray) (e : isT (E.cur i) s = true) : Calls Tryz.prog 170 #[.pointer (some ⟨E.gp, 0, none⟩), .string s] w fun e w' => e = .returned (.bool true) ∧ PSt E w' (i + 1) ∧ KeepBut w w' E.gp none := by
  have H := Aside0.mk h
  have E1 := Aside0.mk e
  clear h e
  go_enter Tryz.func170, Tryz.ntmps170
  go_wp2_with (first | ((with_reducible refine gate_dst (N := 7) rfl ?_); refine goesL_ (some 7) rfl rfl Tryz.func168 (by kernel_rfl) rfl #[.pointer (some ⟨E.gp, 0, none⟩), .string s] rfl (by (try simp only [List.map_toArray, List.map_cons, List.map_nil]); first | done | rfl) ?_; (refine (is_calls H.out s true E1.out).mono ?_); (rintro e w107 ⟨rfl, hb⟩; refine ⟨_, rfl, ?_⟩; have HB := Aside0.mk hb; have HP := Aside0.mk (H.out.below hb); clear hb)) | ((with_reducible refine gate_dst (N := 10) rfl ?_); refine goesL_ (some 10) rfl rfl Tryz.func177 (by kernel_rfl) rfl #[.pointer (some ⟨E.gp, 0, none⟩)] rfl (by (try simp only [List.map_toArray, List.map_cons, List.map_nil]); first | done | rfl) ?_; (refine (next_calls HP.out (isT_lt E1.out)).mono ?_); (rintro e w110 ⟨rfl, hp, hk⟩; refine ⟨_, rfl, ?_⟩; have HP2 := Aside0.mk hp; have HK := Aside0.mk hk; clear hp hk)))
  go_ret
  exact ⟨rfl, HP2.out, (KeepBut.of_below HB.out E.gp none).trans HK.out (Or.inl rfl)⟩
theorem take_no (h : PSt E w i) (s : ByteArray) (e : isT (E.cur i) s = false) : Calls Tryz.prog 170 #[.pointer (some ⟨E.gp, 0, none⟩), .string s] w fun e w' => e = .returned (.bool false) ∧ Below w.heap.size w w' := by
  have H := Aside0.mk h
  have E1 := Aside0.mk e
  clear h e
  go_enter Tryz.func170, Tryz.ntmps170
  go_wp2_with (first | ((with_reducible refine gate_dst (N := 7) rfl ?_); refine goesL_ (some 7) rfl rfl Tryz.func168 (by kernel_rfl) rfl #[.pointer (some ⟨E.gp, 0, none⟩), .string s] rfl (by (try simp only [List.map_toArray, List.map_cons, List.map_nil]); first | done | rfl) ?_; (refine (is_calls H.out s false E1.out).mono ?_); (rintro e w107 ⟨rfl, hb⟩; refine ⟨_, rfl, ?_⟩; have HB := Aside0.mk hb; have HP := Aside0.mk (H.out.below hb); clear hb)))
  go_ret
  exact ⟨rfl, HB.out⟩
set_option maxHeartbeats 2000000 in
theorem need_yes (h : PSt E w i) (s : ByteArray) (e : isT (E.cur i) s = true) : Calls Tryz.prog 164 #[.pointer (some ⟨E.gp, 0, none⟩), .string s] w fun e w' => e = .returned (.tuple #[]) ∧ PSt E w' (i + 1) ∧ KeepBut w w' E.gp none := by
  have H := Aside0.mk h
  have E1 := Aside0.mk e
  clear h e
  go_enter Tryz.func164, Tryz.ntmps164
  go_wp2_with (first | ((with_reducible refine gate_dst (N := 6) rfl ?_); refine goesL_ (some 6) rfl rfl Tryz.func170 (by kernel_rfl) rfl #[.pointer (some ⟨E.gp, 0, none⟩), .string s] rfl (by (try simp only [List.map_toArray, List.map_cons, List.map_nil]); first | done | rfl) ?_; (refine (take_yes H.out s E1.out).mono ?_); (rintro e w106 ⟨rfl, hp, hk⟩; refine ⟨_, rfl, ?_⟩; have HP2 := Aside0.mk hp; have HK := Aside0.mk hk; clear hp hk)) | ((with_reducible refine gate_dst (N := 7) rfl ?_); refine goesL_ (some 7) rfl rfl Tryz.func175 (by kernel_rfl) rfl #[.bool true] rfl (by (try simp only [List.map_toArray, List.map_cons, List.map_nil]); first | done | rfl) ?_; (refine (must_true).mono ?_); (rintro e w107 ⟨rfl, rfl⟩; refine ⟨_, rfl, ?_⟩; skip)))
  go_end0
  exact ⟨rfl, HP2.out, HK.out⟩
end
end Go.Proofs.YthipodffpkglfaaGreatDoor.PS
