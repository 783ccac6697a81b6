/- The document's R: push and write. -/
import Derived.Test.YtigihiggpfjbjaaHR1
namespace Go.Proofs.Ytigihiggpfjbjaa.PR
open Go.RowKit Go.Proofs.YtigihiggpfjbjaaW.PrintWords Go.Proofs.YtigihiggpfjbjaaW.PrintLast Go.Proofs.YtigihiggpfjbjaaW.PrintMore
set_option linter.unusedVariables false
set_option linter.unusedSimpArgs false
theorem F36tab3 : rtab .any (opsOf Try.f36 3) = (true, [([], []), ([], []), ([1], [1]), ([2], [2]), ([3], [3]), ([], []), ([], []), ([5, 6], [5, 6]), ([7], [7]), ([], []), ([], []), ([8, 9, 10], [8, 9, 10]), ([11], [11]), ([4, 12], [4, 12]), ([0, 0, 1, 2, 3, 4, 5, 6, 7, 8, 9, 10, 11, 12, 13], [0]), ([14, 0, 1, 2, 3, 4, 5, 6, 7, 8, 9, 10, 11, 12, 13], [14]), ([15, 13, 13, 0, 1, 2, 3, 4, 5, 6, 7, 8, 9, 10, 11, 12, 13], [13, 15])]) := by kernel_rfl
theorem F35tab4 : rtab .any (opsOf Try.f35 4) = (true, [([], []), ([], []), ([1], [1]), ([2], [2]), ([3], [3]), ([], []), ([5], [5]), ([4, 6], [4, 6]), ([0, 0, 1, 2, 3, 4, 5, 6, 7], [0]), ([8, 0, 1, 2, 3, 4, 5, 6, 7], [8]), ([9, 7, 6, 0, 1, 2, 3, 4, 5, 6, 7], [7, 9])]) := by kernel_rfl
/-- A document's own documents, as items. -/
theorem kids_of {wD : World} {x : S24} {A : Option Addr} {c : Nat} (h : Dc wD x A c) (n : Int) (f : Bool) : ∃ ks : List Ir, ks.length = x.f3.length ∧ ks.map Ir.x = x.f3 ∧ (∀ r ∈ ks, r.n = n ∧ r.f = f ∧ Dc wD r.x r.A r.c) ∧ ∀ (i : Nat) (r : Ir), ks[i]? = some r → r.n = n ∧ r.f = f ∧ ∃ ad, A = some ad ∧ ∀ w', Below wD.heap.size wD w' →
      w'.cell? (ad.add (i * 4)) = some (.int .i64 r.x.f0) ∧ w'.cell? ⟨(ad.add (i * 4)).block, (ad.add (i * 4)).off + 1, none⟩ = some (.int .i64 r.x.f1) ∧ w'.cell? ⟨(ad.add (i * 4)).block, (ad.add (i * 4)).off + 2, none⟩ = some (.string r.x.f2) ∧
      w'.cell? ⟨(ad.add (i * 4)).block, (ad.add (i * 4)).off + 3, none⟩ = some (.slice r.A r.x.f3.length r.c) := by
  have hh : ∀ i : Fin x.f3.length, ∃ p : Option Addr × Nat, ∃ ad, A = some ad ∧ Dc wD x.f3[i] p.1 p.2 ∧ ∀ w', Below wD.heap.size wD w' →
      w'.cell? (ad.add (i * 4)) = some (.int .i64 x.f3[i].f0) ∧ w'.cell? ⟨(ad.add (i * 4)).block, (ad.add (i * 4)).off + 1, none⟩ = some (.int .i64 x.f3[i].f1) ∧ w'.cell? ⟨(ad.add (i * 4)).block, (ad.add (i * 4)).off + 2, none⟩ = some (.string x.f3[i].f2) ∧
      w'.cell? ⟨(ad.add (i * 4)).block, (ad.add (i * 4)).off + 3, none⟩ = some (.slice p.1 x.f3[i].f3.length p.2) := fun i => by
    obtain ⟨ad, A3, c3, h1, h2, h3⟩ := Dc.at_ h.g3 i.1 i.2
    exact ⟨(A3, c3), ad, h1, h2, h3⟩
  obtain ⟨p, hp⟩ := Classical.axiomOfChoice hh
  refine ⟨List.ofFn (fun i : Fin x.f3.length => (⟨x.f3[i], (p i).1, (p i).2, n, f⟩ : Ir)), by simp, ?_, ?_, ?_⟩
  · refine List.ext_getElem (by simp) (fun i h1 h2 => by simp)
  · intro r hr
    rw [List.mem_ofFn] at hr
    obtain ⟨i, rfl⟩ := hr
    obtain ⟨ad, h1, h2, h3⟩ := hp i
    exact ⟨rfl, rfl, h2⟩
  · intro i r hr
    obtain ⟨hl, he⟩ := List.getElem?_eq_some_iff.1 hr
    rw [List.length_ofFn] at hl
    rw [List.getElem_ofFn] at he
    subst he
    obtain ⟨ad, h1, h2, h3⟩ := hp ⟨i, hl⟩
    exact ⟨rfl, rfl, ad, h1, h3⟩
def pushR (gw : Nat) (ad : Addr) (i : Nat) (r : Ir) (vr : Value) (w' : World) : Prop := w'.cell? ⟨gw, 1, none⟩ = some vr ∧ w'.cell? (ad.add (i * 4)) = some (.int .i64 r.x.f0) ∧ w'.cell? ⟨(ad.add (i * 4)).block, (ad.add (i * 4)).off + 1, none⟩ = some (.int .i64 r.x.f1) ∧ w'.cell? ⟨(ad.add (i * 4)).block, (ad.add (i * 4)).off + 2, none⟩ = some (.string r.x.f2) ∧ w'.cell? ⟨(ad.add (i * 4)).block, (ad.add (i * 4)).off + 3, none⟩ = some (.slice r.A r.x.f3.length r.c) ∧ True
def colS (gw : Nat) (col : Int) (w' : World) : Prop := w'.cell? ⟨gw, 3, none⟩ = some (.int .i64 col) ∧ True
theorem C_raw60 {w : World} {g n : Nat} {cs : List Value} (hb : w.heap[g]? = some (.cells cs.toArray 60 (0, 0))) (hl : cs.length = n) (h1 : ∀ u ∈ cs, u.oneCell' = true) : (Kd.raw n).C w (some ⟨g, 0, none⟩) 1 [cs] := C_raw hb hl h1
section
variable {wD w w' : World} {gw : Nat} {wd : Int} {S : St} {its : List Ir}
set_option maxHeartbeats 8000000 in
set_option maxRecDepth 100000 in
theorem rpush_calls (nest : Int) (flat : Bool) {x : S24} {A : Option Addr} {c : Nat} {ks : List Ir} (hD : Below wD.heap.size wD w) (h : RS w wD.heap.size gw wd S its) (hk : ks.length = x.f3.length) (hc : ∀ (i : Nat) (r : Ir), ks[i]? = some r → r.n = nest ∧ r.f = flat ∧ ∃ ad, A = some ad ∧ ∀ w', Below wD.heap.size wD w' →
      w'.cell? (ad.add (i * 4)) = some (.int .i64 r.x.f0) ∧ w'.cell? ⟨(ad.add (i * 4)).block, (ad.add (i * 4)).off + 1, none⟩ = some (.int .i64 r.x.f1) ∧ w'.cell? ⟨(ad.add (i * 4)).block, (ad.add (i * 4)).off + 2, none⟩ = some (.string r.x.f2) ∧
      w'.cell? ⟨(ad.add (i * 4)).block, (ad.add (i * 4)).off + 3, none⟩ = some (.slice r.A r.x.f3.length r.c)) (hn : its.length + x.f3.length ≤ 1000000) :
    Calls Try.prog 36 #[.pointer (some ⟨gw, 0, none⟩), .slice A x.f3.length c, .int .i64 nest, .bool flat] w fun e w' => e = .returned (.tuple #[]) ∧ RS w' wD.heap.size gw wd S (its ++ ks.reverse) ∧ Below wD.heap.size wD w' := by
  have hu37 := Try.underlying37
  have hu34 := Try.underlying34
  have hu60 := Try.underlying60
  have hu24 := Try.underlying24
  have hu22 := Try.underlying22
  rw [← hk] at hn ⊢
  have H := Aside0.mk h
  have HC := Aside0.mk hc
  have HN := Aside0.mk hn
  have hnn : (ks.length : Int) ≤ 1000000 := by omega
  have HD := Aside0.mk hD
  clear h hk hc hn hD
  go_enter Try.func36, Try.ntmps36
  go_wp2_with fail
  go_loopg [8] ks.length (fun k' v8 wr => ∃ (i : Nat) (z : Int), v8 = .int .i64 z ∧ Aside0 (z = (i : Int) - 1) ∧ i ≤ ks.length ∧ Aside0 (k' = i) ∧ Aside0 (RS wr wD.heap.size gw wd S (its ++ (ks.drop i).reverse)) ∧ Aside0 (Below wD.heap.size wD wr))
  case atStart => exact ⟨ks.length, (ks.length : Int) - 1, rfl, ⟨rfl⟩, Nat.le_refl _, ⟨rfl⟩, ⟨by rw [List.drop_eq_nil_of_le (Nat.le_refl _), List.reverse_nil, List.append_nil]; exact H.out⟩, HD⟩
  case round =>
    clear H HD
    obtain ⟨i, z, rfl, HZ, hi, HK, H, HD⟩ := hrel
    cases i with
    | zero =>
      obtain rfl : z = -1 := by have := HZ.out; omega
      go_wp2_with fail
      go_end0
      exact ⟨rfl, by have q := H.out; rw [List.drop_zero] at q; exact q, HD.out⟩
    | succ j =>
      obtain rfl : z = (j : Int) := by have := HZ.out; omega
      obtain ⟨r, hr⟩ : ∃ r, ks[j]? = some r := ⟨_, List.getElem?_eq_getElem (by omega)⟩
      obtain ⟨rn, rf, ad, eA, qy⟩ := HC.out j r hr
      have QY := Aside0.mk qy
      have RN := Aside0.mk rn
      have RF := Aside0.mk rf
      have KA := Aside0.mk (drop_one hr)
      have KL : Aside0 ((its ++ (ks.drop (j + 1)).reverse).length + 1 ≤ 2000000) := ⟨by have := HN.out; rw [List.length_append, List.length_reverse, List.length_drop]; omega⟩
      obtain ⟨cur, hcur⟩ : ∃ cur, its ++ (ks.drop (j + 1)).reverse = cur := ⟨_, rfl⟩
      rw [hcur] at H KL
      have CUR := Aside0.mk hcur
      obtain ⟨vr, vo, vm, hw, _, q1, _⟩ := H.out.open_
      have HW := Aside0.mk hw
      clear hcur hr qy rn rf hw
      cases eA
      obtain ⟨Ar, cr, er⟩ := HW.out.vals.2.1
      rw [List.length_map] at er
      obtain ⟨nr, hnr⟩ : ∃ n, cur.length = n := ⟨_, rfl⟩
      rw [hnr] at er
      clear hnr
      go_upto_region 3 with (fail)
      have n1 := Aside0.mk (HW.out.below (below_drew1 (Below.refl _ _)))
      have n2 := Aside0.mk (HD.out.trans (((below_drew1 (Below.refl _ _))).mono HW.out.base_le))
      clear HW HD
      have HW := n1
      have HD := n2
      clear n1 n2
      have hs_ : pushR gw ad j r vr wr.drew := ⟨(blk_cell HW.out.wa 1).trans rfl, (QY.out _ HD.out).1, (QY.out _ HD.out).2.1, (QY.out _ HD.out).2.2.1, (QY.out _ HD.out).2.2.2, trivial⟩
      clear H q1
      refine start_ (n := 17) (S := pushR gw ad j r vr) (ds := [16]) #[false, false, false, false, false, false, false, false, false, false, false, false, false, false, false, false, false] (by kernel_rfl) rfl rfl (hs_) (fun hHeld => ?_)
      clear hs_
      generalize World.drew _ = w500 at HW HD hHeld ⊢
      subst er
      refine pure_ (i := 0) (N := some 16) (bt 17 1) rfl rfl (any_of F36tab3 (by kernel_rfl)) (fun _ _ _ h => h) (Or.inl ⟨by rfl, by intro w'; go_simp; with_reducible rfl⟩) (by simp only [Act.put, pset]; rfl) ?_
      refine pure_ (i := 1) (N := some 17) (bt 17 3) rfl rfl (any_of F36tab3 (by kernel_rfl)) (fun _ _ _ h => h) (Or.inl ⟨by rfl, by intro w'; go_simp; with_reducible rfl⟩) (by simp only [Act.put, pset]; rfl) ?_
      refine pure_ (i := 2) (N := some 18) (bt 17 7) rfl rfl (any_of F36tab3 (by kernel_rfl)) (fun _ _ _ h => h) (Or.inl ⟨by rfl, by intro w'; go_simp; with_reducible rfl⟩) (by simp only [Act.put, pset]; rfl) ?_
      refine pure_ (i := 3) (N := some 19) (bt 17 15) rfl rfl (any_of F36tab3 (by kernel_rfl)) (fun _ _ _ h => h) (Or.inl ⟨by rfl, by intro w'; go_simp; with_reducible rfl⟩) (by simp only [Act.put, pset]; rfl) ?_
      refine take_ (i := 4) (N := some 20) (bt 17 31) rfl rfl (take_of F36tab3 (by kernel_rfl)) (fun _ _ _ h => h) (Or.inl ⟨by rfl, by rintro w' ⟨s0, s1, s2, s3, s4, s5⟩; go_simp; with_reducible rfl⟩) hHeld (by simp only [Act.put, pset]; rfl) ?_
      refine pure_ (i := 5) (N := some 21) (bt 17 63) rfl rfl (any_of F36tab3 (by kernel_rfl)) (fun _ _ _ h => h) (Or.inl ⟨by rfl, by intro w'; go_simp; with_reducible rfl⟩) (by simp only [Act.put, pset]; rfl) ?_
      refine pure_ (i := 6) (N := some 22) (bt 17 127) rfl rfl (any_of F36tab3 (by kernel_rfl)) (fun _ _ _ h => h) (Or.inl ⟨by rfl, by intro w'; go_simp; with_reducible rfl⟩) (by simp only [Act.put, pset]; rfl) ?_
      refine pure_ (i := 7) (N := some 23) (bt 17 255) rfl rfl (any_of F36tab3 (by kernel_rfl)) (fun _ _ _ h => h) (Or.inl ⟨by rfl, by intro w'; go_simp; rw [if_pos (by omega)]⟩) (by simp only [Act.put, pset]; rfl) ?_
      refine take_ (i := 8) (N := some 24) (bt 17 511) rfl rfl (take_of F36tab3 (by kernel_rfl)) (fun _ _ _ h => h) (Or.inl ⟨by rfl, by rintro w' ⟨s0, s1, s2, s3, s4, s5⟩; go_simp; with_reducible rfl⟩) hHeld (by simp only [Act.put, pset]; rfl) ?_
      refine pure_ (i := 9) (N := some 25) (bt 17 1023) rfl rfl (any_of F36tab3 (by kernel_rfl)) (fun _ _ _ h => h) (Or.inl ⟨by rfl, by intro w'; go_simp; with_reducible rfl⟩) (by simp only [Act.put, pset]; rfl) ?_
      refine pure_ (i := 10) (N := some 26) (bt 17 2047) rfl rfl (any_of F36tab3 (by kernel_rfl)) (fun _ _ _ h => h) (Or.inl ⟨by rfl, by intro w'; go_simp; with_reducible rfl⟩) (by simp only [Act.put, pset]; rfl) ?_
      refine pure_ (i := 11) (N := some 27) (bt 17 4095) rfl rfl (any_of F36tab3 (by kernel_rfl)) (fun _ _ _ h => h) (Or.inl ⟨by rfl, by intro w'; go_simp; with_reducible rfl⟩) (by simp only [Act.put, pset]; rfl) ?_
      refine one_ (i := 12) (N := some 28) (bt 17 8191) rfl rfl (one_of F36tab3 (by kernel_rfl)) (by decide) (fun K hK => ?_)
      refine lit_step (m := 1) (cs := #[.int .i64 r.x.f0, .int .i64 r.x.f1, .string r.x.f2, .slice r.A r.x.f3.length r.c, .int .i64 nest, .bool flat]) (t := 60) (by rfl) ?hrun ?_
      case hrun => first | (go_simp; done) | (go_simp; rfl)
      intro gl hg w501 hbox hb
      have BL := Aside0.mk hbox; have n1 := Aside0.mk (HW.out.below hb); have n2 := Aside0.mk (HD.out.trans ((hb).mono HW.out.base_le)); clear HW HD; have HW := n1; have HD := n2; clear n1 n2; clear hb
      clear hbox hg
      refine hK.out _ _ (⟨(blk_cell HW.out.wa 1).trans rfl, (QY.out _ HD.out).1, (QY.out _ HD.out).2.1, (QY.out _ HD.out).2.2.1, (QY.out _ HD.out).2.2.2, trivial⟩) (fun hHeld => ?_)
      clear hK K
      refine norm_ (show Act.put _ (some 28) _ = _ from (by simp only [Act.put, pset]; rfl)) ?_
      refine one_ (i := 13) (N := some 29) (bt 17 16383) rfl rfl (one_of F36tab3 (by kernel_rfl)) (by decide) (fun K hK => ?_)
      refine Kd.R_append_rows_step (Kd.raw 6) (w0 := wD) wD.heap.size (by rfl) (.tmp 20) (.tmp 28) 34 60 (.agg #[.int .i64 0, .int .i64 0, .string (⟨#[]⟩ : ByteArray), .slice none 0 0, .int .i64 0, .bool false]) 72 rfl Try.underlying34 info60 rfl (by decide) (by decide) (.slice Ar nr cr) (cur.map irc) [[.int .i64 r.x.f0, .int .i64 r.x.f1, .string r.x.f2, .slice r.A r.x.f3.length r.c, .int .i64 nest, .bool flat]] (some ⟨gl, 0, none⟩) 1 1 (fun k => wD.heap.size ≤ k) (fun _ => False) rfl rfl HW.out.hr (C_raw60 BL.out rfl (by simp [Value.oneCell'])) (fun _ _ h => h) (fun _ h => h.elim) (fun k hk => Nat.le_trans HW.out.base_le hk) HD.out HW.out.base_le (by have := KL.out; rw [List.length_map]; omega) ?_
      intro v8 w8 hR8 hB8 hg8 hat8
      obtain ⟨A8, c8, ev8⟩ := Kd.R_slice hR8
      obtain ⟨n8, hn8⟩ : ∃ n, (cur.map irc ++ [([.int .i64 r.x.f0, .int .i64 r.x.f1, .string r.x.f2, .slice r.A r.x.f3.length r.c, .int .i64 nest, .bool flat] : List Value)]).length = n := ⟨_, rfl⟩
      rw [hn8] at ev8
      subst ev8
      have G := Aside0.mk (HW.out.grow_r hR8 hg8)
      clear HD
      have HD := Aside0.mk hB8
      clear HW BL hR8 hB8 hg8 hat8 hn8
      refine hK.out _ _ (⟨(blk_cell G.out.wa 1).trans rfl, (QY.out _ HD.out).1, (QY.out _ HD.out).2.1, (QY.out _ HD.out).2.2.1, (QY.out _ HD.out).2.2.2, trivial⟩) (fun hHeld => ?_)
      clear hK K
      refine norm_ (show Act.put _ (some 29) _ = _ from (by simp only [Act.put, pset]; rfl)) ?_
      refine pure_ (i := 14) (N := some 30) (bt 17 32767) rfl rfl (any_of F36tab3 (by kernel_rfl)) (fun _ _ _ h => h) (Or.inl ⟨by rfl, by intro w'; go_simp; with_reducible rfl⟩) (by simp only [Act.put, pset]; rfl) ?_
      refine pure_ (i := 15) (N := some 31) (bt 17 65535) rfl rfl (any_of F36tab3 (by kernel_rfl)) (fun _ _ _ h => h) (Or.inl ⟨by rfl, by intro w'; go_simp; with_reducible rfl⟩) (by simp only [Act.put, pset]; rfl) ?_
      have c5 : w8.cell? ⟨gw, 1, none⟩ = some (.slice Ar nr cr) := (blk_cell G.out.wa 1).trans rfl
      have f5 := blk_frozen G.out.wa 1
      refine last_ (i := 16) (N := none) (bt 17 131071) rfl rfl (one_of F36tab3 (by kernel_rfl)) (by decide) (fun K hK => ?_)
      refine skip_ (w1 := w8.setCell ⟨gw, 1, none⟩ (.slice A8 n8 c8)) rfl rfl ?hrun ?_
      case hrun => first | (go_simp; done) | (go_simp; rfl)
      refine hK.out _ _ (done_ (done_of F36tab3 (by kernel_rfl)) ?_)
      clear hHeld hK K c5 f5
      have FW : Aside0 (RS (w8.setCell ⟨gw, 1, none⟩ (.slice A8 n8 c8)) wD.heap.size gw wd S (its ++ (ks.drop j).reverse)) := ⟨by
        rw [KA.out, ← List.append_assoc, CUR.out]
        refine ⟨.slice A8 n8 c8, vo, vm, ?_⟩
        rw [List.map_append]
        have e : [r].map irc = [([.int .i64 r.x.f0, .int .i64 r.x.f1, .string r.x.f2, .slice r.A r.x.f3.length r.c, .int .i64 nest, .bool flat] : List Value)] := by simp only [List.map_cons, List.map_nil, irc, RN.out, RF.out]
        rw [e]
        exact G.out.set 1 _ rfl⟩
      have FB := Aside0.mk (HD.out.trans (G.out.set_below 1 (.slice A8 n8 c8)))
      generalize World.setCell _ _ _ = w9 at FW FB ⊢
      go_wp2_with fail
      go_roundg j
      case measure => have := HK.out; omega
      case rel => exact ⟨j, (j : Int) - 1, rfl, ⟨rfl⟩, by omega, ⟨rfl⟩, FW, FB⟩
theorem cnt_of (s : ByteArray) (hs : s.size ≤ 1000000000000) (n : Int) (hn : (cw s : Int) = n) (w : World) : Calls Try.prog 30 #[.string s] w fun e w' => e = .returned (.int .i64 n) ∧ Below w.heap.size w w' := by
  subst hn
  obtain ⟨k, hk⟩ := (countR s hs).rounds
  refine (galleyref1_Count.calls k s _ w hk).mono ?_
  rintro e w' ⟨h, hd⟩
  obtain ⟨n, rfl⟩ := hd.out
  exact ⟨h, pw_below_drewN (Below.refl _ _) _⟩
set_option maxHeartbeats 8000000 in
set_option maxRecDepth 100000 in
theorem rwrite_calls (s : ByteArray) (n : Int) (hD : Below wD.heap.size wD w) (h : RS w wD.heap.size gw wd S its) (hs : s.size ≤ 1000000) (hn : (cw s : Int) = n) (hp : S.pen ≤ 1000000000) (hl : S.out.length + S.pen + s.size ≤ 140737488355328) :
    Calls Try.prog 35 #[.pointer (some ⟨gw, 0, none⟩), .string s] w fun e w' => e = .returned (.tuple #[]) ∧ RS w' wD.heap.size gw wd ⟨S.out ++ List.replicate S.pen 32 ++ bytesOf s, wrap64 (S.col + n), 0, S.modes⟩ its ∧ Below wD.heap.size wD w' := by
  have hu37 := Try.underlying37
  have hu35 := Try.underlying35
  have H := Aside0.mk h
  have HD := Aside0.mk hD
  have HS := Aside0.mk hs
  have HN := Aside0.mk hn
  obtain ⟨p, ep⟩ : ∃ p, S.pen = p := ⟨_, rfl⟩
  rw [ep] at hp hl ⊢
  have EP := Aside0.mk ep
  have HP := Aside0.mk hp
  have HL := Aside0.mk hl
  obtain ⟨col, ec⟩ : ∃ c, S.col = c := ⟨_, rfl⟩
  rw [ec]
  have EC := Aside0.mk ec
  clear h hD hs hn hp hl ep ec
  go_enter Try.func35, Try.ntmps35
  go_wp2_with fail
  go_loopg [] p (fun k' wr => ∃ j : Nat, Aside0 (k' = j) ∧ j ≤ p ∧ Aside0 (RS wr wD.heap.size gw wd ⟨S.out ++ List.replicate (p - j) 32, col, j, S.modes⟩ its) ∧ Aside0 (Below wD.heap.size wD wr))
  case atStart => exact ⟨p, ⟨rfl⟩, Nat.le_refl _, ⟨by rw [Nat.sub_self, List.replicate_zero, List.append_nil, ← EP.out, ← EC.out]; exact H.out⟩, HD⟩
  case round =>
    clear H HD
    obtain ⟨j, HK, hj, H, HD⟩ := hrel
    cases j with
    | zero =>
      obtain ⟨vr, vo, vm, hw, _, _, q2, _, q4, _⟩ := H.out.open_
      have HW := Aside0.mk hw
      have HL2 : Aside0 ((S.out ++ List.replicate (p - 0) 32).length + s.size ≤ 140737488355328) := ⟨by have := HL.out; simp; omega⟩
      have q4 : wr.cell? ⟨gw, 4, none⟩ = some (.int .i64 0) := q4
      clear hw H
      go_upto_region 4 with (first | ((with_reducible refine gate_dst (N := 31) rfl ?_); refine print_append_str (w0 := wD) wD.heap.size rfl (.tmp 29) (.tmp 30) 35 9 5 rfl Try.underlying35 Try.underlying9 infoU8 vo (S.out ++ List.replicate (p - 0) 32) s rfl rfl HW.out.hb HD.out HW.out.base_le (by have := HL2.out; omega) ?_; intro v1 w2 hown hbl hg; obtain ⟨A1, k1, ev1⟩ := own_slice hown; obtain ⟨n1, hn1⟩ : ∃ n, (S.out ++ List.replicate (p - 0) 32 ++ bytesOf s).length = n := ⟨_, rfl⟩; rw [hn1] at ev1; clear hn1; subst ev1; have G := Aside0.mk (HW.out.grow_b hown hg); clear HW HD hown hg q2 q4; have HD := Aside0.mk hbl; clear hbl; have c2 : w2.cell? ⟨gw, 2, none⟩ = some vo := (blk_cell G.out.wa 2).trans rfl; have f2 := blk_frozen G.out.wa 2))
      have G2 : Aside0 (RS (w2.setCell ⟨gw, 2, none⟩ (.slice A1 n1 k1)) wD.heap.size gw wd ⟨S.out ++ List.replicate (p - 0) 32 ++ bytesOf s, col, 0, S.modes⟩ its) := ⟨⟨vr, _, vm, G.out.set 2 _ rfl⟩⟩
      have n2 := Aside0.mk (HD.out.trans (G.out.set_below 2 (.slice A1 n1 k1)))
      clear G HD c2 f2
      have HD := n2
      clear n2
      generalize World.setCell _ _ _ = w3 at G2 HD ⊢
      have n1 := Aside0.mk (G2.out.below (below_drew1 (Below.refl _ _)))
      have n2 := Aside0.mk (HD.out.trans (((below_drew1 (Below.refl _ _))).mono G2.out.base_le))
      clear G2 HD
      have G2 := n1
      have HD := n2
      clear n1 n2
      have hs_ : colS gw col w3.drew := ⟨G2.out.c3, trivial⟩
      refine start_ (n := 11) (S := colS gw col) (ds := [10]) #[false, false, false, false, false, false, false, false, false, false, false] (by kernel_rfl) rfl rfl (hs_) (fun hHeld => ?_)
      clear hs_
      generalize World.drew _ = w500 at G2 HD hHeld ⊢
      refine pure_ (i := 0) (N := some 34) (bt 11 1) rfl rfl (any_of F35tab4 (by kernel_rfl)) (fun _ _ _ h => h) (Or.inl ⟨by rfl, by intro w'; go_simp; with_reducible rfl⟩) (by simp only [Act.put, pset]; rfl) ?_
      refine pure_ (i := 1) (N := some 35) (bt 11 3) rfl rfl (any_of F35tab4 (by kernel_rfl)) (fun _ _ _ h => h) (Or.inl ⟨by rfl, by intro w'; go_simp; with_reducible rfl⟩) (by simp only [Act.put, pset]; rfl) ?_
      refine pure_ (i := 2) (N := some 36) (bt 11 7) rfl rfl (any_of F35tab4 (by kernel_rfl)) (fun _ _ _ h => h) (Or.inl ⟨by rfl, by intro w'; go_simp; with_reducible rfl⟩) (by simp only [Act.put, pset]; rfl) ?_
      refine pure_ (i := 3) (N := some 37) (bt 11 15) rfl rfl (any_of F35tab4 (by kernel_rfl)) (fun _ _ _ h => h) (Or.inl ⟨by rfl, by intro w'; go_simp; with_reducible rfl⟩) (by simp only [Act.put, pset]; rfl) ?_
      refine take_ (i := 4) (N := some 38) (bt 11 31) rfl rfl (take_of F35tab4 (by kernel_rfl)) (fun _ _ _ h => h) (Or.inl ⟨by rfl, by rintro w' ⟨s0, s1⟩; go_simp; with_reducible rfl⟩) hHeld (by simp only [Act.put, pset]; rfl) ?_
      refine pure_ (i := 5) (N := some 39) (bt 11 63) rfl rfl (any_of F35tab4 (by kernel_rfl)) (fun _ _ _ h => h) (Or.inl ⟨by rfl, by intro w'; go_simp; with_reducible rfl⟩) (by simp only [Act.put, pset]; rfl) ?_
      refine one_ (i := 6) (N := some 40) (bt 11 127) rfl rfl (one_of F35tab4 (by kernel_rfl)) (by decide) (fun K hK => ?_)
      refine goes_ Try.func30 (by kernel_rfl) rfl #[.string s] (by rfl) rfl rfl (by (try simp only [List.map_toArray, List.map_cons, List.map_nil]); first | done | rfl) ?_
      refine (cnt_of s (by have := HS.out; omega) n HN.out _).mono ?_
      rintro e w501 ⟨rfl, hb⟩
      refine ⟨_, rfl, ?_⟩
      have n1 := Aside0.mk (G2.out.below hb); have n2 := Aside0.mk (HD.out.trans ((hb).mono G2.out.base_le)); clear G2 HD; have G2 := n1; have HD := n2; clear n1 n2; clear hb
      refine hK.out _ _ (⟨G2.out.c3, trivial⟩) (fun hHeld => ?_)
      clear hK K
      refine norm_ (show Act.put _ (some 40) _ = _ from (by simp only [Act.put, pset]; rfl)) ?_
      refine pure_ (i := 7) (N := some 41) (bt 11 255) rfl rfl (any_of F35tab4 (by kernel_rfl)) (fun _ _ _ h => h) (Or.inl ⟨by rfl, by intro w'; go_simp; with_reducible rfl⟩) (by simp only [Act.put, pset]; rfl) ?_
      refine pure_ (i := 8) (N := some 42) (bt 11 511) rfl rfl (any_of F35tab4 (by kernel_rfl)) (fun _ _ _ h => h) (Or.inl ⟨by rfl, by intro w'; go_simp; with_reducible rfl⟩) (by simp only [Act.put, pset]; rfl) ?_
      refine pure_ (i := 9) (N := some 43) (bt 11 1023) rfl rfl (any_of F35tab4 (by kernel_rfl)) (fun _ _ _ h => h) (Or.inl ⟨by rfl, by intro w'; go_simp; with_reducible rfl⟩) (by simp only [Act.put, pset]; rfl) ?_
      have c3 := G2.out.c3
      have f3 := G2.out.frozen 3
      refine last_ (i := 10) (N := none) (bt 11 2047) rfl rfl (one_of F35tab4 (by kernel_rfl)) (by decide) (fun K hK => ?_)
      refine skip_ (w1 := w501.setCell ⟨gw, 3, none⟩ (.int .i64 (wrap64 (col + n)))) rfl rfl ?hrun ?_
      case hrun => first | (go_simp; done) | (go_simp; rfl)
      refine hK.out _ _ (done_ (done_of F35tab4 (by kernel_rfl)) ?_)
      clear hHeld hK K c3 f3
      go_wp2_with fail
      go_end0
      refine ⟨rfl, ?_, HD.out.trans (G2.out.set_below 3 _)⟩
      obtain ⟨vr, vo, vm, h0⟩ := G2.out
      have q : RS (w501.setCell ⟨gw, 3, none⟩ (.int .i64 (wrap64 (col + n)))) wD.heap.size gw wd ⟨S.out ++ List.replicate (p - 0) 32 ++ bytesOf s, wrap64 (col + n), 0, S.modes⟩ its := ⟨vr, vo, vm, h0.set 3 (.int .i64 (wrap64 (col + n))) rfl⟩
      simpa only [Nat.sub_zero, List.append_assoc] using q
    | succ j =>
      obtain ⟨vr, vo, vm, hw, _, _, q2, _, q4, _⟩ := H.out.open_
      have HW := Aside0.mk hw
      have HL1 : Aside0 ((S.out ++ List.replicate (p - (j + 1)) 32).length + 1 ≤ 140737488355328) := ⟨by have := HL.out; simp; omega⟩
      have EW : Aside0 (wrap64 (j : Int) = (j : Int)) := ⟨by have := HP.out; unfold wrap64; omega⟩
      have ER : Aside0 (S.out ++ List.replicate (p - (j + 1)) 32 ++ [(32 : Int)] = S.out ++ List.replicate (p - j) 32) := ⟨by
        rw [List.append_assoc, show p - j = (p - (j + 1)) + 1 from by omega, List.replicate_succ']⟩
      have q4 : wr.cell? ⟨gw, 4, none⟩ = some (.int .i64 ((j + 1 : Nat) : Int)) := q4
      clear hw H
      go_wp2_with (first | ((with_reducible refine gate_dst (N := 22) rfl ?_); refine print_append_num (w0 := wD) wD.heap.size rfl (.tmp 20) (.tmp 21) 35 5 .u8 1 rfl Try.underlying35 infoU8 (by decide) vo (S.out ++ List.replicate (p - (j + 1)) 32) 32 rfl rfl HW.out.hb HD.out HW.out.base_le (by have := HL1.out; omega) ?_; intro v1 w2 hown hbl hg hat; obtain ⟨A1, k1, ev1⟩ := own_slice hown; obtain ⟨n1, hn1⟩ : ∃ n, (S.out ++ List.replicate (p - (j + 1)) 32 ++ [(32 : Int)]).length = n := ⟨_, rfl⟩; rw [hn1] at ev1; clear hn1; subst ev1; have G := Aside0.mk (HW.out.grow_b hown hg); clear HW HD hown hg hat q2 q4; have HD := Aside0.mk hbl; clear hbl; have c2 : w2.cell? ⟨gw, 2, none⟩ = some vo := (blk_cell G.out.wa 2).trans rfl; have f2 := blk_frozen G.out.wa 2; have c4 : w2.cell? ⟨gw, 4, none⟩ = some (.int .i64 ((j + 1 : Nat) : Int)) := (blk_cell G.out.wa 4).trans rfl; have f4 := blk_frozen G.out.wa 4))
      go_roundg j
      case measure => have := HK.out; omega
      case rel => exact ⟨j, ⟨rfl⟩, by omega, ⟨⟨vr, .slice A1 n1 k1, vm, by rw [EW.out]; have q := (G.out.set 2 (.slice A1 n1 k1) (cs' := rcs wd vr (.slice A1 n1 k1) col ((j + 1 : Nat) : Int) vm) rfl).set 4 (.int .i64 (j : Int)) (cs' := rcs wd vr (.slice A1 n1 k1) col (j : Int) vm) rfl; rw [ER.out] at q; exact q⟩⟩, ⟨(HD.out.trans (G.out.set_below 2 _)).trans ((G.out.set 2 (.slice A1 n1 k1) rfl).set_below 4 _)⟩⟩
end
end Go.Proofs.Ytigihiggpfjbjaa.PR
