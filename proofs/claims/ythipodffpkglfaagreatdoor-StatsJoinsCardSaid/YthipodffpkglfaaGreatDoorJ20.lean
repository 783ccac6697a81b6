/- Words and walks that the law leans on: HS50, HS51, HS52, HS53, HS54, HS55, HS56. Conditions: none. -/
import Derived.Test.YthipodffpkglfaaGreatDoorJ17
import Derived.Test.YthipodffpkglfaaGreatDoorJ19
import Derived.Laws.BytesArg
import Derived.Lib.ConvBytes
import Derived.ChangeArms
namespace Go.Proofs.YthipodffpkglfaaGreatDoor.PS
open Go.RowKit Go.Proofs.YthipodffpkglfaaGreatDoorW.PrintWords Go.Proofs.YthipodffpkglfaaGreatDoorW.PrintLast Go.Proofs.YthipodffpkglfaaGreatDoorW.PrintMore
set_option linter.unusedVariables false
set_option linter.unusedSimpArgs false
open Go.Proofs.YthipodffpkglfaaGreatDoor.PQ
mutual
theorem pre_kinds : ∀ x : S45, (pre x).map (fun y => y.f0) = walkK x
  | ⟨k, t, l, a, b, c, d⟩ => by
    rw [pre, walkK, List.map_cons, preL_kinds l]
theorem preL_kinds : ∀ l : List S45, (preL l).map (fun y => y.f0) = walkKs l
  | [] => rfl
  | x :: r => by
    rw [preL, walkKs, List.map_append, pre_kinds x, preL_kinds r]
end
theorem pre_len (x : S45) : (pre x).length = (walkK x).length := by rw [← pre_kinds, List.length_map]
def bareOk (f : Nat) : Bool := (pre (formN f).n).all (fun y => y.f5.isEmpty && y.f6.isEmpty)
theorem bare_ok : ∀ f, f < 8 → bareOk f = true
  | 0, _ => by kernel_rfl
  | 1, _ => by kernel_rfl
  | 2, _ => by kernel_rfl
  | 3, _ => by kernel_rfl
  | 4, _ => by kernel_rfl
  | 5, _ => by kernel_rfl
  | 6, _ => by kernel_rfl
  | 7, _ => by kernel_rfl
  | f + 8, h => absurd h (by omega)
theorem okT_form {fs : List Nat} (hf : ∀ f ∈ fs, f < 8) {y : S45} (hy : y ∈ formsN fs) : okT y := by
  unfold formsN at hy
  rw [List.map_map] at hy
  obtain ⟨f, hm, rfl⟩ := List.mem_map.1 hy
  intro z hz
  have ok := List.all_eq_true.1 (bare_ok f (hf f hm)) z hz
  rw [Bool.and_eq_true, List.isEmpty_iff, List.isEmpty_iff] at ok
  rw [ok.1, ok.2]
  exact ⟨Nat.zero_le _, Nat.zero_le _⟩
theorem refL_app (a b : List S45) : ∀ all, refL (a ++ b) all = refL b (refL a all) := by
  induction a with
  | nil => intro all; rfl
  | cons x r ih => intro all; rw [List.cons_append, refL, refL, ih]
theorem refL_at (l : List S45) {i : Nat} {y : S45} (h : l[i]? = some y) : refL (l.take (i + 1)) [] = (refV y (refL (l.take i) [])).2 := by
  rw [List.take_add_one, h, Option.toList_some, refL_app, refL, refL]
theorem refL_le (l : List S45) : (refL l []).length ≤ (walkKs l).length := by
  obtain ⟨_, ⟨ext, h1, h2⟩, _⟩ := refL_full l [] Full.nil
  rw [h1, List.nil_append]
  have := congrArg List.length (preL_kinds l)
  rw [List.length_map] at this
  omega
/-- A box beside the pool is written. -/
theorem pw_write {w wr : World} {base ga gm : Nat} {all : List S45} (h : PW w base ga gm all) {g : Nat} {cs : Array Value} {t : TypeId} (hb : w.heap[g]? = some (.cells cs t (0, 0))) (h1 : t ≠ 67) (h2 : t ≠ 3) (h3 : Below g w wr) (h4 : ∀ k, k ≠ g → wr.heap[k]? = w.heap[k]?) : PW wr base ga gm all := by
  obtain ⟨v, ks, zs, hp, hs⟩ := h
  have hn := hp.away hb h1 h2
  have ht : Turned w wr (fun k => k = g) := ⟨h3.os, h3.tape, h3.output, h3.size, fun k _ hk => h4 k hk⟩
  refine ⟨v, ks, zs, ⟨(ht.block ga (blk_lt hp.pa) (fun e => hn (Or.inl e.symm))).trans hp.pa, hp.pm.below (ht.block gm hp.pm.lt (fun e => hn (Or.inr (Or.inl e.symm)))), ?_, hp.hl, hp.ba, hp.bm⟩, hs⟩
  exact Kd.R_reok rfl (Kd.R_step (Kd.R_tight rfl hp.pz) (fun k hk hlt => ht.block k hlt (fun e => hn (Or.inr (Or.inr (by rw [← e]; exact hk)))))) (fun k hk => Kd.R_base hp.pz k hk)
theorem nf_of {w : World} {ok : Nat → Prop} {x : S45} {A2 : Option Addr} {c2 : Nat} {A5 : Option Addr} {c5 : Nat} {A6 : Option Addr} {c6 : Nat} (h : Kd.FK k45 w ok x [.int .i64 x.f0, .string x.f1, .slice A2 x.f2.length c2, .bool x.f3, .bool x.f4, .slice A5 x.f5.length c5, .slice A6 x.f6.length c6]) : NF w ok x A2 c2 A5 c5 A6 c6 := by
  obtain ⟨B2, d2, B5, d5, B6, d6, e, l2, g2, l5, g5, l6, g6⟩ := k45_openF h
  simp only [List.cons.injEq, Value.slice.injEq] at e
  obtain ⟨_, _, ⟨rfl, _, rfl⟩, _, _, ⟨rfl, _, rfl⟩, ⟨rfl, _, rfl⟩, _⟩ := e
  exact ⟨g2, l2, g5, l5, g6, l6⟩
/-- The size that a number has that was just given. -/
theorem cnt_put (x : S45) (all : List S45) (hf : Full all) : cntOf (refV x all).2 ((refV x all).1 : Int) = ((walkK x).length : Int) := by
  obtain ⟨_, _, h3, h4⟩ := refV_full x all hf
  obtain ⟨r, _, h6, h7⟩ := refIdx_some x _ 0 _ h3
  rw [Nat.sub_zero] at h6
  have hl := (List.getElem?_eq_some_iff.1 h6).1
  unfold cntOf
  rw [if_pos (by omega), Int.toNat_natCast, List.getD_eq_getElem?_getD, List.getElem?_map, h6]
  show ((pre r).length : Int) = _
  rw [← cn_count r, h7, cn_count, pre_len]
set_option maxHeartbeats 4000000 in
set_option maxRecDepth 100000 in
theorem alike_calls {wD w : World} {s : ByteArray} {A : Option Addr} {c : Nat} {fs : List Nat} (hT : Tab w.heap.size w) (hs : s.data.toList = textB fs) (hf : ∀ f ∈ fs, f < 8) (hn : fs.length ≤ 1000) (hb : Below wD.heap.size wD w) (hy : Byt wD A c s) : Calls Tryz.prog 7 #[.slice A s.size c] w fun e w' => e = .returned (.tuple #[.int .i64 ((walkKs (formsN fs)).length : Nat), .int .i64 ((refL (formsN fs) []).length : Nat), .int .i64 0]) ∧ Below w.heap.size w w' := by
  have hu45 := Tryz.underlying45
  have hu33 := Tryz.underlying33
  have hu3 := Tryz.underlying3
  have HT := Aside0.mk (forms_text hs hf hn hb hy)
  have HKA := Aside0.mk (kinds_all fs hf)
  have HOK := Aside0.mk (fun (y : S45) (h : y ∈ formsN fs) => okT_form hf h)
  obtain ⟨l, hl⟩ : ∃ l, formsN fs = l := ⟨_, rfl⟩
  have hlen := formsN_len fs
  rw [hl] at HT HKA HOK hlen ⊢
  obtain ⟨n, hn2⟩ : ∃ n, l.length = n := ⟨_, rfl⟩
  rw [hn2] at HT hlen
  have hnl : n ≤ 1000 := by omega
  have HTAB := Aside0.mk hT
  have HLE := Aside0.mk hlen
  have HN := Aside0.mk hn2
  have HNF := Aside0.mk hn
  clear hs hf hb hy hl hn hn2 hlen hT
  go_enter Tryz.func7, Tryz.ntmps7
  go_wp2_with (first | ((with_reducible refine gate_dst (N := 13) rfl ?_); refine goesL_ (some 13) rfl rfl Tryz.func16 (by kernel_rfl) rfl #[.slice A s.size c] rfl (by (try simp only [List.map_toArray, List.map_cons, List.map_nil]); first | done | rfl) ?_; (refine (HT.out).mono ?_); (rintro e w113 ⟨A1, c1, rfl, hcc, hff, hbb⟩; refine ⟨_, rfl, ?_⟩; have HF := Aside0.mk hff; have B1 := Aside0.mk hbb; clear hcc hff hbb)) | ((with_reducible refine gate_dst (N := 19) rfl ?_); refine goesL_ (some 19) rfl rfl Tryz.func19 (by kernel_rfl) rfl #[] rfl (by (try simp only [List.map_toArray, List.map_cons, List.map_nil]); first | done | rfl) ?_; (refine (new_law w113.heap.size w113 (Nat.le_refl _)).mono ?_); (rintro e w119 ⟨ga, gm, rfl, hpp, hbb⟩; refine ⟨_, rfl, ?_⟩; have HP := Aside0.mk hpp; have B2 := Aside0.mk hbb; clear hpp hbb)))
  go_loopg [7, 10, 22] n (fun k' v7 v10 v22 wr => ∃ (i m : Nat), v7 = .int .i64 (m : Int) ∧ v22 = .int .i64 (i : Int) ∧ Aside0 (k' + i = n) ∧ Aside0 (m = (walkKs (l.take i)).length) ∧ Aside0 (PW wr w113.heap.size ga gm (refL (l.take i) [])) ∧ Aside0 (Below w113.heap.size w113 wr))
  case atStart => exact ⟨0, 0, rfl, rfl, ⟨rfl⟩, ⟨by rw [List.take_zero]; rfl⟩, HP, B2⟩
  case round =>
    clear HP B2
    obtain ⟨i, m, rfl, rfl, HI, HM, HP, HB⟩ := hrel
    by_cases hlast : i = n
    · subst hlast
      have hlt := HN.out
      obtain ⟨u, hu⟩ : ∃ u, (refL l []).length = u := ⟨_, rfl⟩
      have HP2 := HP
      rw [← hlt, List.take_length] at HP2
      have HU := Aside0.mk hu
      clear hu
      go_wp2_with (first | ((with_reducible refine gate_dst (N := 36) rfl ?_); refine goesL_ (some 36) rfl rfl Tryz.func22 (by kernel_rfl) rfl #[.pointer (some ⟨ga, 0, none⟩)] rfl (by (try simp only [List.map_toArray, List.map_cons, List.map_nil]); first | done | rfl) ?_; (refine (len_law (u : Int) HP2.out (by rw [HU.out])).mono ?_); (rintro e w136 ⟨rfl, rfl⟩; refine ⟨_, rfl, ?_⟩; skip)))
      go_ret3
      have h := HM.out
      rw [← HN.out, List.take_length] at h
      rw [h, HU.out]
      exact ⟨rfl, B1.out.trans (HB.out.mono B1.out.size)⟩
    · have hi : i < n := by have := HI.out; omega
      obtain ⟨y, hy⟩ : ∃ y, l[i]? = some y := ⟨_, List.getElem?_eq_getElem (by rw [HN.out]; exact hi)⟩
      have hFr : Kd.F k45 wr (fun k => k < w113.heap.size) A1 n l := Kd.F_step (Kd.F_mono (Kd.F_bound HF.out) (fun k hk => hk.2)) (fun k hk hl => HB.out.block k hk)
      obtain ⟨ad, Y2, e2, Y5, e5, Y6, e6, rfl, hFy, q0, q1, q2, q3, q4, q5, q6⟩ := elem45 hFr i y hy
      have HFY := Aside0.mk hFy
      have HOY := Aside0.mk (HOK.out y (List.mem_of_getElem? hy))
      have HLY := Aside0.mk (walkKs_pre l hy)
      have HAT := Aside0.mk (walkKs_at l hy)
      have HRA := Aside0.mk (refL_at l hy)
      have HLR := Aside0.mk (refL_le (l.take i))
      have HCN := Aside0.mk (cnt_put y (refL (l.take i) []) HP.out.full)
      obtain ⟨id, hid⟩ : ∃ id, (refV y (refL (l.take i) [])).1 = id := ⟨_, rfl⟩
      have HRV := Aside0.mk (show refV y (refL (l.take i) []) = (id, refL (l.take (i + 1)) []) from by rw [HRA.out, ← hid])
      rw [hid, ← HRA.out] at HCN
      have HLR2 := Aside0.mk (refL_le (l.take (i + 1)))
      obtain ⟨q, hq⟩ : ∃ q, i + 1 = q := ⟨_, rfl⟩
      rw [hq] at HRV HLR2 HCN HAT
      obtain ⟨z, hz⟩ : ∃ z, (walkK y).length = z := ⟨_, rfl⟩
      obtain ⟨m2, hm2⟩ : ∃ m2, m + z = m2 := ⟨_, rfl⟩
      rw [hz] at HCN
      have hbig : (walkKs l).length ≤ 64000 := by have := HKA.out.2; have := HNF.out; omega
      have hall : (walkKs (l.take i)).length + z ≤ (walkKs l).length := by rw [← hz]; exact HLY.out
      have e1 : wrap64 ((i : Int) + 1) = (q : Int) := by unfold wrap64; omega
      have e2' : wrap64 ((m : Int) + (z : Int)) = (m2 : Int) := by have := HM.out; unfold wrap64; omega
      have HQ := Aside0.mk hq
      have HZ := Aside0.mk hz
      have HM2 := Aside0.mk hm2
      have HBIG := Aside0.mk hbig
      have HALL := Aside0.mk hall
      have HT2 := Aside0.mk (show Tab w113.heap.size wr from (HTAB.out.on (B1.out.trans (HB.out.mono B1.out.size))).mono B1.out.size)
      clear hFr hFy hq hlast hy hid hz hm2 hbig hall
      go_wp2_with (first | ((with_reducible refine gate_dst (N := 10) rfl ?_); refine box_event ?hg (N := 10) ?hd (cs := #[.int .i64 0, .string (⟨#[]⟩ : ByteArray), .slice none 0 0, .bool false, .bool false, .slice none 0 0, .slice none 0 0]) (t := 45) ?hr ?_; (case hd => rfl); (case hg => rfl); (case hr => first | (go_simp; done) | (go_simp; rfl)); intro g10 hg w310 hbox hb; have GG := Aside0.mk hg; have BX := Aside0.mk hbox; have B := Aside0.mk hb; clear hbox hb hg) | ((with_reducible refine gate_ (.store 45 (.tmp 10) (.tmp 25)) rfl ?_); refine st_agg rfl rfl rfl (cs' := #[.int .i64 y.f0, .string y.f1, .slice Y2 y.f2.length e2, .bool y.f3, .bool y.f4, .slice Y5 y.f5.length e5, .slice Y6 y.f6.length e6]) rfl rfl BX.out info45 rfl (FK_one HFY.out) ?_; intro w610 p1 p2 p3; have BY := Aside0.mk p1; have P2 := Aside0.mk p2; have P3 := Aside0.mk p3; clear p1 p2 p3; have HPW := Aside0.mk (pw_write (HP.out.below B.out) BX.out (by decide) (by decide) P2.out P3.out); have HB2 := Aside0.mk (show Below w113.heap.size w113 w610 from HB.out.trans ((B.out.mono HB.out.size).trans (P2.out.mono (by have := GG.out; have := HB.out.size; omega))))) | ((with_reducible refine gate_dst (N := 29) rfl ?_); refine ld_agg rfl (N := 29) rfl rfl rfl BY.out hu45 rfl info45 ?_) | ((with_reducible refine gate_dst (N := 30) rfl ?_); refine goesL_ (some 30) rfl rfl Tryz.func21 (by kernel_rfl) rfl #[.pointer (some ⟨ga, 0, none⟩), .agg #[.int .i64 y.f0, .string y.f1, .slice Y2 y.f2.length e2, .bool y.f3, .bool y.f4, .slice Y5 y.f5.length e5, .slice Y6 y.f6.length e6]] rfl (by (try simp only [List.map_toArray, List.map_cons, List.map_nil]); first | done | rfl) ?_; (refine (put_law HPW.out (HT2.out.on ((B.out.mono HB.out.size).trans (P2.out.mono (by have := GG.out; have := HB.out.size; omega)))) (nf_of (Kd.FK_step HFY.out (fun q _ hl => (P3.out q (by have := GG.out; omega)).trans (B.out.block q hl)))) (fun k hk => Or.inl hk) HOY.out (by have := HALL.out; have := HLR.out; have := HBIG.out; rw [pre_len, HZ.out]; omega) HRV.out).mono ?_); (rintro e w130 ⟨rfl, hpp, hfr⟩; refine ⟨_, rfl, ?_⟩; have HPN := Aside0.mk hpp; have HBN := Aside0.mk (HB2.out.trans hfr.below); clear hpp hfr)) | ((with_reducible refine gate_dst (N := 31) rfl ?_); refine goesL_ (some 31) rfl rfl Tryz.func20 (by kernel_rfl) rfl #[.pointer (some ⟨ga, 0, none⟩), .int .i64 (id : Nat)] rfl (by (try simp only [List.map_toArray, List.map_cons, List.map_nil]); first | done | rfl) ?_; (refine (size_law (id : Int) (z : Int) HPN.out (by have := HLR2.out; have := HAT.out; have := congrArg List.length HAT.out; rw [List.length_append, HZ.out] at this; have := HALL.out; have := HBIG.out; omega) HCN.out).mono ?_); (rintro e w131 ⟨rfl, rfl⟩; refine ⟨_, rfl, ?_⟩; skip)) | ((with_reducible refine gate_dst (N := 32) rfl ?_); refine val_event rfl (.int .i64 (m2 : Nat)) ?hr ?_; (case hr => first | (go_simp; done) | (go_simp; rw [i64_w]; assumption) | (go_simp; rfl))) | ((with_reducible refine gate_dst (N := 33) rfl ?_); refine val_event rfl (.int .i64 (q : Nat)) ?hr ?_; (case hr => first | (go_simp; done) | (go_simp; rw [i64_w]; assumption) | (go_simp; rfl))))
      go_roundg (gk - 1)
      case measure => have := HI.out; omega
      case rel => exact ⟨q, m2, rfl, rfl, ⟨by have := HI.out; have := HQ.out; omega⟩, ⟨by rw [HAT.out, List.length_append, ← HM2.out, HM.out, HZ.out]⟩, HPN, HBN⟩
end Go.Proofs.YthipodffpkglfaaGreatDoor.PS
namespace Go.Proofs.YthipodffpkglfaaGreatDoor.PS
open Go.RowKit Go.Proofs.YthipodffpkglfaaGreatDoorW.PrintWords Go.Proofs.YthipodffpkglfaaGreatDoorW.PrintLast Go.Proofs.YthipodffpkglfaaGreatDoorW.PrintMore
set_option linter.unusedVariables false
set_option linter.unusedSimpArgs false
theorem F8tab7 : rtab .any (opsOf Tryz.f8 7) = (true, [([], []), ([], []), ([], []), ([], []), ([3], [3]), ([2, 4], [2, 4]), ([5], [5]), ([], []), ([], []), ([7, 8], [7, 8]), ([9], [9]), ([10], [10]), ([1, 6, 11], [1, 6, 11]), ([12], [12]), ([0, 13], [0, 13]), ([14, 13, 0, 1, 2, 3, 4, 5, 6, 7, 8, 9, 10, 11, 12, 13, 14], [0, 14])]) := by kernel_rfl
theorem width_asc {s : ByteArray} (hs : s.size ≤ 65536) (ha : Asc s) (w : World) : Calls Tryz.prog 24 #[.string s] w fun e w' => e = .returned (.int .i64 (s.size : Nat)) ∧ Below w.heap.size w w' := by
  have H := Aside0.mk (count_asc hs ha w)
  clear hs ha
  go_enter Tryz.func24, Tryz.ntmps24
  go_wp2_with (first | ((with_reducible refine gate_dst (N := 4) rfl ?_); refine goesL_ (some 4) rfl rfl Tryz.func33 (by kernel_rfl) rfl #[.string s] rfl (by (try simp only [List.map_toArray, List.map_cons, List.map_nil]); first | done | rfl) ?_; (refine (H.out).mono ?_); (rintro e w104 ⟨rfl, hbb⟩; refine ⟨_, rfl, ?_⟩; have B := Aside0.mk hbb; clear hbb)))
  go_ret
  exact ⟨rfl, B.out⟩
/-- Where lines begin, behind the first. -/
def startsL : List UInt8 → Nat → List Int
  | [], _ => []
  | b :: r, i => if b = 10 then ((i + 1 : Nat) : Int) :: startsL r (i + 1) else startsL r (i + 1)
/-- How wide the widest line is. -/
def widL : List UInt8 → Nat → Nat → Nat
  | [], c, m => max m c
  | b :: r, c, m => if b = 10 then widL r 0 (max m c) else widL r (c + 1) m
theorem startsL_len : ∀ (l : List UInt8) (i : Nat), (startsL l i).length ≤ l.length
  | [], _ => Nat.le_refl _
  | b :: r, i => by
    have := startsL_len r (i + 1)
    unfold startsL
    split <;> simp only [List.length_cons] <;> omega
theorem lines_l0 (s : ByteArray) (hz : s.size ≤ 65536) : ∀ (d i : Nat) (acc : List Int), i + d = s.size → acc.length + d ≤ 70000 → place_Lines.l0 (d + 1) s acc (s.size : Int) (i : Int) = some (acc ++ startsL (s.data.toList.drop i) i)
  | 0, i, acc, h, _ => by
    have hi : i = s.size := by omega
    have hl : s.data.toList.length ≤ i := by rw [← size_data]; omega
    unfold place_Lines.l0
    rw [if_neg (by omega), List.drop_of_length_le hl]
    simp [startsL]
  | d + 1, i, acc, h, ha => by
    have hi : i < s.size := by omega
    have hl : i < s.data.toList.length := by rw [← size_data]; exact hi
    have hw : wrap64 ((i : Int) + 1) = ((i + 1 : Nat) : Int) := by unfold wrap64; omega
    have hb : Go.Proofs.YthipodffpkglfaaGreatDoorW.PrintWords.bt s (i : Int) = ((s.data.toList[i]'hl).toNat : Int) := by
      unfold Go.Proofs.YthipodffpkglfaaGreatDoorW.PrintWords.bt
      rw [dif_pos (by rw [Int.toNat_natCast]; exact hi)]
      simp only [Int.toNat_natCast]
      rfl
    have e : s.data.toList.drop i = s.data.toList[i]'hl :: s.data.toList.drop (i + 1) := List.drop_eq_getElem_cons hl
    rw [e]
    unfold place_Lines.l0
    rw [if_pos (by omega), if_pos (by omega), if_pos (by omega), hb, hw, if_pos (show acc.length < 17592186044416 by omega)]
    unfold startsL
    by_cases h10 : s.data.toList[i]'hl = 10
    · rw [if_pos (by rw [h10]; rfl), if_pos h10, lines_l0 s hz d (i + 1) _ (by omega) (by simp only [List.length_append, List.length_cons, List.length_nil]; omega), List.append_assoc]
      rfl
    · rw [if_neg (fun hh => h10 (by
        apply UInt8.toNat_inj.1
        have h2 : ((s.data.toList[i]'hl).toNat : Int) = 10 := hh
        show _ = (10 : Nat)
        omega)), if_neg h10, lines_l0 s hz d (i + 1) acc (by omega) (by omega)]
theorem lines_f (s : ByteArray) (hz : s.size ≤ 65536) : place_Lines.f (s.size + 1) s = some ((0 : Int) :: startsL s.data.toList 0) := by
  have h := lines_l0 s hz s.size 0 [0] (by omega) (by simp only [List.length_cons, List.length_nil]; omega)
  rw [List.drop_zero] at h
  exact h
/-- The widest of lines that begin so. -/
def mxL : List Int → Nat → Nat
  | p :: q :: r, m => mxL (q :: r) (max m (q - 1 - p).toNat)
  | _, m => m
theorem mxL_wid : ∀ (b : List UInt8) (p q m : Nat), p ≤ q → mxL ((p : Int) :: (startsL b q ++ [((q + b.length + 1 : Nat) : Int)])) m = widL b (q - p) m
  | [], p, q, m, h => by
    simp only [startsL, List.nil_append, mxL, widL, List.length_nil]
    congr 1
    omega
  | x :: b, p, q, m, h => by
    unfold startsL widL
    by_cases h10 : x = 10
    · rw [if_pos h10, if_pos h10, List.cons_append, mxL, show q + (x :: b).length + 1 = (q + 1) + b.length + 1 by simp only [List.length_cons]; omega, mxL_wid b (q + 1) (q + 1) _ (Nat.le_refl _), Nat.sub_self]
      congr 1
      omega
    · rw [if_neg h10, if_neg h10, show q + (x :: b).length + 1 = (q + 1) + b.length + 1 by simp only [List.length_cons]; omega, mxL_wid b p (q + 1) m (by omega)]
      congr 1
      omega
/-- Lines begin one behind the other, within the text. -/
theorem starts_ord : ∀ (b : List UInt8) (p q : Nat), p ≤ q → ∀ (i : Nat) (x y : Int), ((p : Int) :: (startsL b q ++ [((q + b.length + 1 : Nat) : Int)]))[i]? = some x → ((p : Int) :: (startsL b q ++ [((q + b.length + 1 : Nat) : Int)]))[i + 1]? = some y → ∃ x1 y1 : Nat, x = x1 ∧ y = ((y1 + 1 : Nat) : Int) ∧ x1 ≤ y1 ∧ y1 ≤ q + b.length
  | [], p, q, h, i, x, y, hx, hy => by
    rcases i with _ | i
    · simp [startsL] at hx hy
      exact ⟨p, q, hx.symm, by rw [← hy]; push_cast; rfl, h, Nat.le_refl _⟩
    · simp [startsL] at hy
  | b :: r, p, q, h, i, x, y, hx, hy => by
    unfold startsL at hx hy
    rw [show q + (b :: r).length + 1 = (q + 1) + r.length + 1 by simp only [List.length_cons]; omega] at hx hy
    rw [show q + (b :: r).length = (q + 1) + r.length by simp only [List.length_cons]; omega]
    by_cases h10 : b = 10
    · rw [if_pos h10] at hx hy
      rcases i with _ | i
      · simp at hx hy
        exact ⟨p, q, hx.symm, by rw [← hy]; push_cast; rfl, h, by omega⟩
      · simp only [List.cons_append, List.getElem?_cons_succ] at hx hy
        exact starts_ord r (q + 1) (q + 1) (Nat.le_refl _) i x y hx hy
    · rw [if_neg h10] at hx hy
      exact starts_ord r p (q + 1) (by omega) i x y hx hy
theorem asc_ext {s : ByteArray} (ha : Asc s) (p e : Nat) : Asc (s.extract p e) := fun k b h => by
  have h2 : b ∈ (s.extract p e).data.toList := List.mem_of_getElem? h
  rw [ByteArray.data_extract] at h2
  have h3 : b ∈ s.data.toList := by
    rw [Array.toList_extract] at h2
    exact List.mem_of_mem_drop (List.mem_of_mem_take (by simpa [List.extract] using h2))
  obtain ⟨j, hj⟩ := List.mem_iff_getElem?.1 h3
  exact ha j b hj
theorem int_get {w : World} {A : Option Addr} {n : Nat} {l : List Int} (h : Kd.C (Kd.int .i64) w A n l) {i : Nat} {x : Int} (hi : l[i]? = some x) : ∃ ad, A = some ad ∧ w.cell? (ad.add i) = some (.int .i64 x) := by
  obtain ⟨h1, _, h3⟩ := h
  obtain ⟨ad, e, h4⟩ := h3 (by have := (List.getElem?_eq_some_iff.1 hi).1; omega)
  obtain ⟨cs, h5, h6, h7⟩ := h4 i x hi
  obtain rfl : cs = [.int .i64 x] := h6
  exact ⟨ad, e, by simpa [Kd.int, Kd.scalar] using h7 0 _ rfl⟩
theorem info3i : (Tryz.prog.info? 3).map (fun i => (i.zero, i.size, i.bytes)) = some (some (.int .i64 0), 1, 8) := by kernel_rfl
set_option maxHeartbeats 4000000 in
set_option maxRecDepth 100000 in
theorem widest_calls {wD w : World} {s : ByteArray} {A : Option Addr} {c : Nat} (hb : Below wD.heap.size wD w) (hy : Byt wD A c s) (hz : s.size ≤ 65536) (ha : Asc s) : Calls Tryz.prog 8 #[.slice A s.size c] w fun e w' => e = .returned (.int .i64 ((widL s.data.toList 0 0 : Nat) : Int)) ∧ Below w.heap.size w w' := by
  have hu9 := Tryz.underlying9
  have hu3 := Tryz.underlying3
  have hu22 := Tryz.underlying22
  have HBY := Aside0.mk hy
  have HB0 := Aside0.mk hb
  have HZ := Aside0.mk hz
  have HA := Aside0.mk ha
  have HLF := Aside0.mk (lines_f s hz)
  obtain ⟨ls, hls⟩ : ∃ ls, (0 : Int) :: startsL s.data.toList 0 = ls := ⟨_, rfl⟩
  have hlen : ls.length ≤ 65537 := by rw [← hls]; have := startsL_len s.data.toList 0; have := size_data s; simp only [List.length_cons]; omega
  obtain ⟨z, hzz⟩ : ∃ z, s.size + 1 = z := ⟨_, rfl⟩
  have ez : wrap64 ((s.size : Int) + 1) = (z : Int) := by unfold wrap64; omega
  have HMX := Aside0.mk (show mxL (ls ++ [(z : Int)]) 0 = widL s.data.toList 0 0 from by
    have h := mxL_wid s.data.toList 0 0 0 (Nat.le_refl _)
    rw [← hls, ← hzz]
    rw [Nat.zero_add, ← size_data] at h
    exact h)
  have HOR := Aside0.mk (show ∀ (i : Nat) (x y : Int), (ls ++ [(z : Int)])[i]? = some x → (ls ++ [(z : Int)])[i + 1]? = some y → ∃ x1 y1 : Nat, x = x1 ∧ y = ((y1 + 1 : Nat) : Int) ∧ x1 ≤ y1 ∧ y1 ≤ s.size from fun i x y h1 h2 => by
    rw [← hls, ← hzz] at h1 h2
    have h := starts_ord s.data.toList 0 0 (Nat.le_refl _) i x y
    rw [Nat.zero_add, ← size_data] at h
    exact h h1 h2)
  rw [hls] at HLF
  have HLS := Aside0.mk hls
  have HLEN := Aside0.mk hlen
  clear hb hy hz ha hls hzz
  go_enter Tryz.func8, Tryz.ntmps8
  go_wp2_with (first | ((with_reducible refine gate_dst (N := 8) rfl ?_); refine val_event rfl (.string s) (run_cv (X := .slice A s.size c) rfl rfl (HBY.out _ HB0.out)) ?_) | ((with_reducible refine gate_dst (N := 10) rfl ?_); refine goesL_ (some 10) rfl rfl Tryz.func23 (by kernel_rfl) rfl #[.string s] rfl (by (try simp only [List.map_toArray, List.map_cons, List.map_nil]); first | done | rfl) ?_; (refine (place_Lines.calls _ _ _ _ HLF.out).mono ?_); (rintro e w110 ⟨v10, rfl, hr, hbb⟩; refine ⟨_, rfl, ?_⟩; obtain ⟨A10, c10, e10⟩ := Kd.R_slice hr; subst e10; have R10 := Aside0.mk hr; have B1 := Aside0.mk hbb; clear hr hbb)) | ((with_reducible refine gate_dst (N := 14) rfl ?_); refine Kd.R_lit (Kd.int .i64) (w0 := w) w.heap.size 3 ?hg (N := 14) ?hd (xs := [(z : Int)]) (inner := [.int .i64 (z : Nat)]) (ok := (fun k_ => w.heap.size ≤ k_)) (okp := fun _ => False) ?hr ?hp (fun _ hk => hk.elim) ?hfr B1.out B1.out.size (by simp) ?_; (case hd => rfl); (case hg => rfl); (case hr => first | (go_simp; done) | (go_simp; rfl)); (case hp => exact Reps.one (show Kd.M (Kd.int .i64) _ _ _ (z : Int) [.int .i64 (z : Nat)] from rfl) (Reps.none _ _)); (case hfr => exact B1.out.size); intro v14 w114 hr_ hb_ hgr hat; have R14 := Aside0.mk hr_; obtain ⟨A14, c14, e14⟩ := Kd.R_slice hr_; subst e14; have n2 := Aside0.mk (Kd.R_grown R10.out hgr (fun _ _ => by simp)); have n0 := Aside0.mk hb_; clear R10 B1 hr_ hat hgr hb_; have R10 := n2; have B1 := n0) | ((with_reducible refine gate_dst (N := 15) rfl ?_); refine Kd.R_append_rows (Kd.int .i64) (w0 := w) w.heap.size rfl (.tmp 10) (.tmp 14) 22 3 (.int .i64 0) 8 rfl Tryz.underlying22 info3i rfl (by decide) (by omega) (.slice A10 ls.length c10) ls [(z : Int)] A14 _ c14 (fun _ => True) (fun _ => False) rfl rfl R10.out (Kd.R_reads' R14.out).2.2 (fun _ _ h => h) (fun _ h => h.elim) ?fr B1.out B1.out.size ?ln ?_; (case fr => exact fun _ _ => trivial); (case ln => have := HLEN.out; simp only [List.length_cons, List.length_nil]; omega); intro v15 w115 hr_ hb_ hgr hat; obtain ⟨A15, c15, e15⟩ := Kd.R_slice hr_; subst e15; have RL := Aside0.mk hr_; have n0 := Aside0.mk hb_; clear R10 R14 B1 hr_ hat hgr hb_; have B1 := n0; (obtain ⟨lz, hlz⟩ : ∃ lz, ls ++ [(z : Int)] = lz := ⟨_, rfl⟩); rw [hlz] at RL HMX HOR ⊢; (obtain ⟨n, hn⟩ : ∃ n, lz.length = n := ⟨_, rfl⟩); have hn1 : 1 ≤ n ∧ n ≤ 65538 := (by rw [← hn, ← hlz]; have := HLEN.out; simp only [List.length_append, List.length_cons, List.length_nil]; omega); have HC := Aside0.mk (Kd.R_reads' RL.out).2.2; have HNN := Aside0.mk hn; rw [hn] at HC ⊢; have HN1 := Aside0.mk hn1; clear hlz hn RL hn1))
  clear HLF hlen ez
  go_loopg [5, 6] n (fun k' v5 v6 wr => ∃ (q m : Nat), v5 = .int .i64 (m : Int) ∧ v6 = .int .i64 (q : Int) ∧ Aside0 (k' + q = n + 1) ∧ Aside0 (1 ≤ q ∧ q ≤ n) ∧ Aside0 (mxL (lz.drop (q - 1)) m = widL s.data.toList 0 0) ∧ Aside0 (Below w.heap.size w wr) ∧ Aside0 (Kd.C (Kd.int .i64) wr A15 n lz))
  case atStart => exact ⟨1, 0, rfl, rfl, ⟨rfl⟩, ⟨Nat.le_refl _, HN1.out.1⟩, ⟨by rw [Nat.sub_self, List.drop_zero]; exact HMX.out⟩, B1, HC⟩
  case round =>
    clear B1 HC HMX
    obtain ⟨q, m, rfl, rfl, HK, HQ1, HMX, HB, HC⟩ := hrel
    obtain ⟨j, hj⟩ : ∃ j, j + 1 = q := ⟨q - 1, Nat.sub_add_cancel HQ1.out.1⟩
    have hjq : q - 1 = j := by rw [← hj]; rfl
    have hnl := HN1.out.2
    by_cases hlast : q < n
    · have hjn : j < n := by omega
      obtain ⟨p0, hp0⟩ : ∃ p0, lz[j]? = some p0 := ⟨_, List.getElem?_eq_getElem (by rw [HNN.out]; exact hjn)⟩
      obtain ⟨r0, hr0⟩ : ∃ r0, lz[q]? = some r0 := ⟨_, List.getElem?_eq_getElem (by rw [HNN.out]; exact hlast)⟩
      obtain ⟨p, e, rfl, rfl, hpe, hes⟩ := HOR.out j p0 r0 hp0 (by rw [hj]; exact hr0)
      obtain ⟨adL, eA, cj⟩ := int_get HC.out hp0
      obtain ⟨adL2, eA2, cq⟩ := int_get HC.out hr0
      rw [eA] at eA2
      injection eA2 with eA2
      subst eA2 eA
      obtain ⟨r, hr⟩ : ∃ r, e + 1 = r := ⟨_, rfl⟩
      obtain ⟨q2, hq2⟩ : ∃ q2, q + 1 = q2 := ⟨_, rfl⟩
      rw [hr] at cq hr0
      obtain ⟨x, hx⟩ : ∃ x, e - p = x := ⟨_, rfl⟩
      have HWE := Aside0.mk (show (s.extract p e).size = x from by rw [ByteArray.size_extract]; omega)
      have HZE := Aside0.mk (show (s.extract p e).size ≤ 65536 from by have := HZ.out; rw [ByteArray.size_extract]; omega)
      have HAE := Aside0.mk (asc_ext HA.out p e)
      have f1 : wrap64 ((q : Int) - 1) = (j : Int) := by unfold wrap64; omega
      have hrs : r ≤ 65537 := by have := HZ.out; omega
      have f2 : wrap64 ((r : Int) - 1) = (e : Int) := by unfold wrap64; omega
      have e1 : wrap64 ((q : Int) + 1) = (q2 : Int) := by unfold wrap64; omega
      have f3 : (IntKind.i64).wrap ((q : Int) - 1) = (j : Int) := by rw [i64_w]; exact f1
      have f4 : (IntKind.i64).wrap ((r : Int) - 1) = (e : Int) := by rw [i64_w]; exact f2
      obtain ⟨m2, hm2⟩ : ∃ m2, max m x = m2 := ⟨_, rfl⟩
      have e2 : (if (m : Int) < (x : Int) then (x : Int) else (m : Int)) = (m2 : Int) := by rw [← hm2]; split <;> omega
      have hsl : ∀ W, (Instr.sliceAt 9 (.string s) (some (.int .i64 p)) (some (.int .i64 e)) none).run Tryz.prog W = .ok (.string (s.extract p e)) W := fun W => by
        rw [run_sliceAt_string W 9 _ _ _ _ hu9, run_slice_string (P := Tryz.prog) (w := W) 9 s .i64 .i64 (p : Int) (e : Int) hu9 (by omega) (by omega) (by omega)]
        rfl
      have HST := Aside0.mk (show mxL (lz.drop q) m2 = widL s.data.toList 0 0 from by
        have h := HMX.out
        rw [hjq, List.drop_eq_getElem_cons (by rw [HNN.out]; exact hjn)] at h
        rw [show j + 1 = q from hj, List.drop_eq_getElem_cons (by rw [HNN.out]; exact hlast)] at h
        rw [List.drop_eq_getElem_cons (by rw [HNN.out]; exact hlast)]
        rw [(List.getElem?_eq_some_iff.1 hp0).2, (List.getElem?_eq_some_iff.1 hr0).2, mxL] at h
        rw [(List.getElem?_eq_some_iff.1 hr0).2, ← hm2, ← h]
        congr 2
        omega)
      have HQ2 := Aside0.mk hq2
      clear hp0 hr0 hpe hes hr hx hm2 hq2
      go_upto_region 7 with fail
      refine start_ (n := 16) (S := fun W => W.cell? (adL.add j) = some (.int .i64 (p : Nat)) ∧ W.cell? (adL.add q) = some (.int .i64 (r : Nat))) (ds := []) (bt 16 0) (by kernel_rfl) rfl (by kernel_rfl) (⟨bc (below_drew1 (Below.refl _ _)) cj, bc (below_drew1 (Below.refl _ _)) cq⟩) (fun hHeld => ?_)
      refine pure_ (i := 0) (N := some 22) (bt 16 1) rfl rfl (any_of F8tab7 (by kernel_rfl)) (fun _ _ _ h => h) (Or.inl ⟨by rfl, by intro w'; go_simp; with_reducible rfl⟩) (by simp only [Act.put, pset]; rfl) ?_
      refine pure_ (i := 1) (N := some 23) (bt 16 3) rfl rfl (any_of F8tab7 (by kernel_rfl)) (fun _ _ _ h => h) (Or.inl ⟨by rfl, by intro w'; go_simp; with_reducible rfl⟩) (by simp only [Act.put, pset]; rfl) ?_
      refine pure_ (i := 2) (N := some 24) (bt 16 7) rfl rfl (any_of F8tab7 (by kernel_rfl)) (fun _ _ _ h => h) (Or.inl ⟨by rfl, by intro w'; go_simp; with_reducible rfl⟩) (by simp only [Act.put, pset]; rfl) ?_
      refine pure_ (i := 3) (N := some 25) (bt 16 15) rfl rfl (any_of F8tab7 (by kernel_rfl)) (fun _ _ _ h => h) (Or.inl ⟨by rfl, by intro w'; go_simp; with_reducible rfl⟩) (by simp only [Act.put, pset]; rfl) ?_
      refine pure_ (i := 4) (N := some 26) (bt 16 31) rfl rfl (any_of F8tab7 (by kernel_rfl)) (fun _ _ _ h => h) (Or.inl ⟨by rfl, by intro w'; go_simp; with_reducible rfl⟩) (by simp only [Act.put, pset]; rfl) ?_
      refine pure_ (i := 5) (N := some 27) (bt 16 63) rfl rfl (any_of F8tab7 (by kernel_rfl)) (fun _ _ _ h => h) (Or.inl ⟨by rfl, by intro w'; go_simp; with_reducible rfl⟩) (by simp only [Act.put, pset]; rfl) ?_
      refine take_ (i := 6) (N := some 28) (bt 16 127) rfl rfl (take_of F8tab7 (by kernel_rfl)) (fun _ _ _ h => h) (Or.inl ⟨by rfl, by rintro w' ⟨s0, s1⟩; go_simp; with_reducible rfl⟩) hHeld (by simp only [Act.put, pset]; rfl) ?_
      refine pure_ (i := 7) (N := some 29) (bt 16 255) rfl rfl (any_of F8tab7 (by kernel_rfl)) (fun _ _ _ h => h) (Or.inl ⟨by rfl, by intro w'; go_simp; with_reducible rfl⟩) (by simp only [Act.put, pset]; rfl) ?_
      refine pure_ (i := 8) (N := some 30) (bt 16 511) rfl rfl (any_of F8tab7 (by kernel_rfl)) (fun _ _ _ h => h) (Or.inl ⟨by rfl, by intro w'; go_simp; with_reducible rfl⟩) (by simp only [Act.put, pset]; rfl) ?_
      refine pure_ (i := 9) (N := some 31) (bt 16 1023) rfl rfl (any_of F8tab7 (by kernel_rfl)) (fun _ _ _ h => h) (Or.inl ⟨by rfl, by intro w'; go_simp; with_reducible rfl⟩) (by simp only [Act.put, pset]; rfl) ?_
      refine take_ (i := 10) (N := some 32) (bt 16 2047) rfl rfl (take_of F8tab7 (by kernel_rfl)) (fun _ _ _ h => h) (Or.inl ⟨by rfl, by rintro w' ⟨s0, s1⟩; go_simp; with_reducible rfl⟩) hHeld (by simp only [Act.put, pset]; rfl) ?_
      refine pure_ (i := 11) (N := some 33) (bt 16 4095) rfl rfl (any_of F8tab7 (by kernel_rfl)) (fun _ _ _ h => h) (Or.inl ⟨by rfl, by intro w'; go_simp; with_reducible rfl⟩) (by simp only [Act.put, pset]; rfl) ?_
      refine pure_ (i := 12) (N := some 34) (bt 16 8191) rfl rfl (any_of F8tab7 (by kernel_rfl)) (fun _ _ _ h => h) (Or.inl ⟨by rfl, fun w' => run_sllh rfl rfl (hsl w')⟩) (by simp only [Act.put, pset]; rfl) ?_
      refine one_ (i := 13) (N := some 35) (bt 16 16383) rfl rfl (one_of F8tab7 (by kernel_rfl)) (by decide) (fun K hK => ?_)
      refine goes_ Tryz.func24 (by kernel_rfl) rfl #[.string (s.extract p e)] (by rfl) rfl rfl (by (try simp only [List.map_toArray, List.map_cons, List.map_nil]); first | done | rfl) ?_
      refine (width_asc HZE.out HAE.out _).mono ?_
      rintro e_ w701 ⟨rfl, hbb⟩
      refine ⟨_, rfl, ?_⟩
      have cj2 := bc hbb (bc (below_drew1 (Below.refl _ _)) cj)
      have cq2 := bc hbb (bc (below_drew1 (Below.refl _ _)) cq)
      have HC2 := Aside0.mk (Kd.C_below HC.out ((below_drew1 (Below.refl _ _)).trans hbb))
      have HB2 := Aside0.mk (HB.out.trans (((below_drew1 (Below.refl _ _)).trans hbb).mono HB.out.size))
      rw [HWE.out]
      clear hbb cj cq HB
      refine hK.out _ _ ⟨cj2, cq2⟩ (fun hHeld => ?_)
      clear hK K
      refine norm_ (show Act.put _ (some 35) _ = _ from (by simp only [Act.put, pset]; rfl)) ?_
      refine pure_ (i := 14) (N := some 36) (bt 16 32767) rfl rfl (any_of F8tab7 (by kernel_rfl)) (fun _ _ _ h => h) (Or.inl ⟨by rfl, fun w' => run_max rfl (p := (m : Int)) (q := (x : Int)) rfl e2⟩) (by simp only [Act.put, pset]; rfl) ?_
      refine pure_ (i := 15) (N := some 5) (bt 16 65535) rfl rfl (any_of F8tab7 (by kernel_rfl)) (fun _ _ _ h => h) (Or.inl ⟨by rfl, by intro w'; go_simp; with_reducible rfl⟩) (by simp only [Act.put, pset]; rfl) ?_
      refine done_ (done_of F8tab7 (by kernel_rfl)) ?_
      clear hHeld
      go_wp2_with (first | ((with_reducible refine gate_dst (N := 21) rfl ?_); refine val_event rfl (.int .i64 (q2 : Nat)) ?hr ?_; (case hr => first | (go_simp; done) | (go_simp; rw [i64_w]; assumption) | (go_simp; rfl))))
      go_roundg (gk - 1)
      case measure => have := HK.out; omega
      case rel => exact ⟨q2, m2, rfl, rfl, ⟨by have := HK.out; have := HQ2.out; omega⟩, ⟨by have := HQ2.out; omega⟩, ⟨by rw [← HQ2.out]; exact HST.out⟩, HB2, HC2⟩
    · go_wp2_with fail
      go_ret
      have h := HMX.out
      have hq : q = n := by have := HQ1.out.2; omega
      rw [hjq, List.drop_eq_getElem_cons (by rw [HNN.out]; omega), List.drop_of_length_le (by rw [HNN.out]; omega)] at h
      rw [show m = widL s.data.toList 0 0 from h]
      exact ⟨rfl, HB.out⟩
end Go.Proofs.YthipodffpkglfaaGreatDoor.PS
namespace Go.Proofs.YthipodffpkglfaaGreatDoor.PS
open Go.RowKit Go.Proofs.YthipodffpkglfaaGreatDoorW.PrintWords Go.Proofs.YthipodffpkglfaaGreatDoorW.PrintLast Go.Proofs.YthipodffpkglfaaGreatDoorW.PrintMore
set_option linter.unusedVariables false
set_option linter.unusedSimpArgs false
theorem add0 (ad : Addr) : ad.add (0 * 7) = ad := by
  rw [Nat.zero_mul]
  rfl
theorem info9i : (Tryz.prog.info? 9).map (fun i => (i.zero, i.size, i.bytes)) = some (some (.string (⟨#[]⟩ : ByteArray)), 1, 16) := by kernel_rfl
set_option maxHeartbeats 4000000 in
set_option maxRecDepth 100000 in
theorem names_calls {wD w : World} {s : ByteArray} {A : Option Addr} {c : Nat} (hs : s.data.toList = textB [7]) (hb : Below wD.heap.size wD w) (hy : Byt wD A c s) : Calls Tryz.prog 10 #[.slice A s.size c] w fun e w' => ∃ A1 c1, e = .returned (.tuple #[.slice A1 1 c1, .int .i64 0]) ∧ Kd.R Kd.string 9 w' w.heap.size (fun _ => True) (.slice A1 1 c1) [(⟨#[102]⟩ : ByteArray)] ∧ Below w.heap.size w w' := by
  have hu45 := Tryz.underlying45
  have hu33 := Tryz.underlying33
  have hu24 := Tryz.underlying24
  have hu9 := Tryz.underlying9
  have hu3 := Tryz.underlying3
  have HT := Aside0.mk (forms_text hs (fun f h => by rw [List.mem_singleton.1 h]; decide) (by decide) hb hy)
  obtain ⟨l, hl⟩ : ∃ l, formsN [7] = l := ⟨_, rfl⟩
  have hlen := formsN_len [7]
  rw [hl] at HT hlen
  rw [show l.length = 1 from hlen] at HT
  obtain ⟨y, hy0⟩ : ∃ y, (formN 7).n = y := ⟨_, rfl⟩
  have hly : l = [y] := by rw [← hl, ← hy0]; rfl
  have h28 : y.f0 = 28 := by rw [← hy0]; rfl
  obtain ⟨z, hz0, hz1⟩ : ∃ z, y.f2[0]? = some z ∧ z.f1 = (⟨#[102]⟩ : ByteArray) := by rw [← hy0]; exact ⟨_, rfl, rfl⟩
  have HZ0 := Aside0.mk hz0
  have HZ1 := Aside0.mk hz1
  have H28 := Aside0.mk h28
  have HLY := Aside0.mk hly
  have hyl : 0 < y.f2.length := (List.getElem?_eq_some_iff.1 hz0).1
  clear hs hb hy hl hlen hy0 hly h28 hz0 hz1
  go_enter Tryz.func10, Tryz.ntmps10
  go_wp2_with (first | ((with_reducible refine gate_dst (N := 11) rfl ?_); refine goesL_ (some 11) rfl rfl Tryz.func16 (by kernel_rfl) rfl #[.slice A s.size c] rfl (by (try simp only [List.map_toArray, List.map_cons, List.map_nil]); first | done | rfl) ?_; (refine (HT.out).mono ?_); (rintro e w111 ⟨A1, c1, rfl, hcc, hff, hbb⟩; refine ⟨_, rfl, ?_⟩; have HF := Aside0.mk hff; have B1 := Aside0.mk hbb; clear hcc hff hbb)))
  go_loopg [6, 8, 19] 1 (fun k' v6 v8 v19 wr => (v6 = .slice none 0 0 ∧ v19 = .int .i64 0 ∧ Aside0 (k' = 1) ∧ Aside0 (Below w111.heap.size w111 wr)) ∨ (∃ A1 c1, v6 = .slice A1 1 c1 ∧ v19 = .int .i64 1 ∧ Aside0 (Below w.heap.size w wr) ∧ Aside0 (Kd.R Kd.string 9 wr w.heap.size (fun _ => True) (.slice A1 1 c1) [(⟨#[102]⟩ : ByteArray)])))
  case atStart => exact Or.inl ⟨rfl, rfl, ⟨rfl⟩, ⟨Below.refl _ _⟩⟩
  case round =>
    rcases hrel with ⟨rfl, rfl, HK, HB⟩ | ⟨A1, c1, rfl, rfl, HB, HR⟩
    · have hFr := Kd.F_step (W1 := wr) (Kd.F_bound HF.out) (fun k hk hl => HB.out.block k hk.2)
      obtain ⟨ad, Y2, e2, Y5, e5, Y6, e6, rfl, hFy, q0, q1, q2, q3, q4, q5, q6⟩ := elem45 hFr 0 y (by rw [HLY.out]; rfl)
      rw [add0] at q0 q1 q2 q3 q4 q5 q6
      rw [H28.out] at q0
      have HFY := Aside0.mk hFy
      obtain ⟨B2, d2, _, _, _, _, eB, hd2, hkids⟩ := FK_kids hFy
      have hBY : B2 = Y2 := by simp only [List.cons.injEq, Value.slice.injEq] at eB; exact eB.2.2.1.1.symm
      rw [hBY] at hkids
      obtain ⟨ad2, Z2, g2, Z5, g5, Z6, g6, eZ, _, r0, r1, _⟩ := elem45 hkids 0 z HZ0.out
      rw [HZ1.out, add0] at r1
      have R1 := Aside0.mk r1
      subst eZ
      have HA := Aside0.mk (FK_one hFy)
      rw [H28.out] at HA
      clear hFr hFy hkids eB hBY hd2 r0 r1
      go_wp2_with (first | ((with_reducible refine gate_dst (N := 8) rfl ?_); refine box_event ?hg (N := 8) ?hd (cs := #[.int .i64 0, .string (⟨#[]⟩ : ByteArray), .slice none 0 0, .bool false, .bool false, .slice none 0 0, .slice none 0 0]) (t := 45) ?hr ?_; (case hd => rfl); (case hg => rfl); (case hr => first | (go_simp; done) | (go_simp; rfl)); intro g8 hg w308 hbox hb; have GG8 := Aside0.mk hg; have BX8 := Aside0.mk hbox; have B8 := Aside0.mk hb; clear hbox hb hg) | ((with_reducible refine gate_ (.store 45 (.tmp 8) (.tmp 22)) rfl ?_); refine st_agg rfl rfl rfl (cs' := #[.int .i64 28, .string y.f1, .slice (some ad2) y.f2.length e2, .bool y.f3, .bool y.f4, .slice Y5 y.f5.length e5, .slice Y6 y.f6.length e6]) rfl rfl BX8.out info45 rfl HA.out ?_; intro w608 p1 p2 p3; have BY := Aside0.mk p1; have HB2 := Aside0.mk (show Below w.heap.size w w608 from B1.out.trans (HB.out.mono B1.out.size |>.trans ((B8.out.mono (Nat.le_trans B1.out.size HB.out.size)).trans (p2.mono (by rw [GG8.out]; exact Nat.le_trans B1.out.size HB.out.size))))); have r1 := ((p3 _ (by rw [GG8.out]; exact Nat.ne_of_lt (World.block_lt_of_cell? _ _ R1.out)))); have q1c : w608.cell? ⟨ad2.block, ad2.off + 1, none⟩ = some (.string (⟨#[102]⟩ : ByteArray)) := (by have h := bc B8.out R1.out; simp only [World.cell?] at h ⊢; rw [r1]; exact h); clear p1 p2 p3 r1) | ((with_reducible refine gate_dst (N := 24) rfl ?_); refine ld_cell rfl (N := 24) (v := .int .i64 28) rfl rfl rfl BY.out rfl hu3 rfl ?_) | ((with_reducible refine gate_dst (N := 28) rfl ?_); refine ld_cell rfl (N := 28) (v := .slice (some ad2) y.f2.length e2) rfl rfl rfl BY.out rfl hu33 rfl ?_) | ((with_reducible refine gate_dst (N := 32) rfl ?_); refine Kd.R_lit Kd.string (w0 := w) w.heap.size 9 ?hg (N := 32) ?hd (xs := [(⟨#[102]⟩ : ByteArray)]) (inner := [.string (⟨#[102]⟩ : ByteArray)]) (ok := (fun k_ => w.heap.size ≤ k_)) (okp := fun _ => False) ?hr ?hp (fun _ hk => hk.elim) ?hfr HB2.out HB2.out.size (by simp) ?_; (case hd => rfl); (case hg => rfl); (case hr => first | (go_simp; done) | (go_simp; rfl)); (case hp => exact Reps.one (show Kd.M Kd.string _ _ _ (⟨#[102]⟩ : ByteArray) [.string (⟨#[102]⟩ : ByteArray)] from rfl) (Reps.none _ _)); (case hfr => exact HB2.out.size); intro v32 w132 hr_ hb_ hgr hat; have R32 := Aside0.mk hr_; obtain ⟨A32, c32, e32⟩ := Kd.R_slice hr_; subst e32; have HB3 := Aside0.mk hb_; clear hr_ hat hgr hb_) | ((with_reducible refine gate_dst (N := 33) rfl ?_); refine Kd.R_append_rows Kd.string (w0 := w) w.heap.size rfl (.tmp 26) (.tmp 32) 24 9 (.string (⟨#[]⟩ : ByteArray)) 16 rfl Tryz.underlying24 info9i rfl (by decide) (by omega) (.slice none 0 0) [] [(⟨#[102]⟩ : ByteArray)] A32 _ c32 (fun _ => True) (fun _ => False) rfl rfl (Kd.R_nil _ _ _ _ _) (Kd.R_reads' R32.out).2.2 (fun _ _ h => h) (fun _ h => h.elim) ?fr HB3.out HB3.out.size ?ln ?_; (case fr => exact fun _ _ => trivial); (case ln => simp); intro v33 w133 hr_ hb_ hgr hat; obtain ⟨A33, c33, e33⟩ := Kd.R_slice hr_; subst e33; have RL := Aside0.mk hr_; have HB4 := Aside0.mk hb_; clear hr_ hat hgr hb_))
      go_roundg (gk - 1)
      case measure => have := HK.out; omega
      case rel => exact Or.inr ⟨A33, c33, rfl, rfl, HB4, RL⟩
    · go_wp2_with fail
      go_ret2
      exact ⟨A1, c1, rfl, HR.out, HB.out⟩
end Go.Proofs.YthipodffpkglfaaGreatDoor.PS
namespace Go.Proofs.YthipodffpkglfaaGreatDoor.PS
open Go.RowKit Go.Proofs.YthipodffpkglfaaGreatDoorW.PrintWords Go.Proofs.YthipodffpkglfaaGreatDoorW.PrintLast Go.Proofs.YthipodffpkglfaaGreatDoorW.PrintMore
set_option linter.unusedVariables false
set_option linter.unusedSimpArgs false
open Go.Proofs.YthipodffpkglfaaGreatDoor.PQ
def numsOf (s : ByteArray) : List Int := s.data.toList.map fun b => ((b.toNat : Nat) : Int)
theorem nums_str (s : ByteArray) : strOfNums (numsOf s) = s := by
  apply PQ.ba_ext
  rw [strOfNums_data, numsOf, List.map_map]
  conv => rhs; rw [← List.map_id s.data.toList]
  apply List.map_congr_left
  intro b _
  show UInt8.ofNat ((b.toNat : Int)).toNat = b
  rw [Int.toNat_natCast]
  exact UInt8.ofNat_toNat
/-- A block of bytes that says a text. -/
theorem byt_blk {w : World} {g : Nat} {cs : Array Value} {t : TypeId} {fz : Nat × Nat} {s : ByteArray} {c : Nat} (hb : w.heap[g]? = some (.cells cs t fz)) (hc : ∀ i, i < s.size → cs[i]? = some (.int .u8 ((numsOf s).getD i 0))) : Byt w (some ⟨g, 0, none⟩) c s := by
  intro W hW
  have hg : g < w.heap.size := by
    rcases Nat.lt_or_ge g w.heap.size with h | h
    · exact h
    · rw [Array.getElem?_eq_none h] at hb; cases hb
  have h := run_convert_bytes_arg (P := Tryz.prog) (w := W) 28 5 Tryz.underlying28 Tryz.underlying5 g 0 s.size c (numsOf s) (by rw [numsOf, List.length_map, ← size_data]) (fun i hi => by
    have h1 := hc i hi
    have h2 : W.heap[g]? = some (.cells cs t fz) := (hW.block g hg).trans hb
    simp only [World.cell?, h2, Nat.zero_add]
    exact h1) 9 Tryz.underlying9
  rw [nums_str] at h
  exact h
theorem cv_event {ops : Array Oper} {rest : List Oper} {o : Oper} {a : Act} {Q : Exit → Act → World → Prop} {W : World} {x : Operand} {s : ByteArray} (hgd : o.guard = none) (ho : o.op = .convert 9 28 x) (hx : a.eval x = .string s)
    (h : ∀ A c w1, Byt w1 A c s → Below W.heap.size W w1 → wpList Tryz.prog ops Q rest (a.put o.dst (.slice A s.size c)) w1) : wpList Tryz.prog ops Q (o :: rest) a W := by
  have hr := Lib.run_convert_string_bytes (P := Tryz.prog) W 9 28 5 s Tryz.underlying9 Tryz.underlying28 Tryz.underlying5
  refine Kd.event_run (v := .slice (some ⟨W.heap.size, 0, none⟩) s.size (grownCap W s.size 0 5)) (w1 := Lib.bytesWorld W 5 s) hgd ?_ (h _ _ _ (byt_blk (Lib.bytesWorld_at_new W 5 s) (fun i hi => ?_)) (bytes_below (Below.refl _ _) (Nat.le_refl _) 5 s))
  · unfold execOp
    simp only [ho, hx, Sem.run_bind, Sem.run_pure, Result.andThen_ok, hr]
  · have h1 := Lib.bytesWorld_cell W 5 s i hi
    simp only [World.cell?, Lib.bytesWorld_at_new] at h1
    rw [if_neg (by decide)] at h1
    rw [h1, numsOf, List.getD_eq_getElem?_getD, List.getD_eq_getElem?_getD, List.getElem?_map]
    have hl : i < s.data.toList.length := by rw [← size_data]; exact hi
    rw [List.getElem?_eq_getElem hl]
    rfl
theorem cs_event {ops : Array Oper} {rest : List Oper} {o : Oper} {a : Act} {Q : Exit → Act → World → Prop} {W : World} {x : Operand} {g n c : Nat} {cs : Array Value} (hgd : o.guard = none) (ho : o.op = .convert 28 28 x) (hx : a.eval x = .slice (some ⟨g, 0, none⟩) n c) (hb : W.heap[g]? = some (.cells cs 5 (0, 0)))
    (h : ∀ w1 fz, w1.heap[g]? = some (.cells cs 5 fz) → Below g W w1 → wpList Tryz.prog ops Q rest (a.put o.dst (.slice (some ⟨g, 0, none⟩) n c)) w1) : wpList Tryz.prog ops Q (o :: rest) a W := by
  have hsh : W.shape? g = some (5, cs.size) := by
    unfold World.shape?
    rw [hb]
  have hr : (convert 28 28 (.slice (some ⟨g, 0, none⟩) n c)).run Tryz.prog W = .ok (.slice (some ⟨g, 0, none⟩) n c) (W.freeze ⟨g, cs.size, none⟩ 1) := by
    simp [convert, run_underlying Tryz.underlying28, run_underlying Tryz.underlying5, markStringish, hsh]
  refine Kd.event_run (v := .slice (some ⟨g, 0, none⟩) n c) (w1 := W.freeze ⟨g, cs.size, none⟩ 1) hgd ?_ (h _ (cs.size, cs.size + 1) ?_ ?_)
  · unfold execOp
    simp only [ho, hx, Sem.run_bind, Sem.run_pure, Result.andThen_ok, hr]
  · unfold World.freeze
    rw [if_neg (by decide)]
    show (W.heap.modify g _)[g]? = _
    rw [Array.getElem?_modify, if_pos rfl, hb]
    rfl
  · unfold World.freeze
    rw [if_neg (by decide)]
    refine ⟨rfl, rfl, rfl, ?_, fun k hk => ?_⟩
    · show W.heap.size ≤ (W.heap.modify g _).size
      rw [Array.size_modify]
      exact Nat.le_refl _
    · show (W.heap.modify g _)[k]? = _
      rw [Array.getElem?_modify, if_neg (by omega)]
def sT : ByteArray := ⟨#[102, 40, 41, 32, 45, 62, 32, 103, 40, 97, 44, 32, 97, 41, 46, 10]⟩
theorem sT_le : sT.size ≤ 65536 := by
  show 16 ≤ 65536
  omega
theorem sT_text : sT.data.toList = textB [7] := by kernel_rfl
theorem sT_byt {w : World} {g : Nat} {fz : Nat × Nat} (hb : w.heap[g]? = some (.cells #[.int .u8 102, .int .u8 40, .int .u8 41, .int .u8 32, .int .u8 45, .int .u8 62, .int .u8 32, .int .u8 103, .int .u8 40, .int .u8 97, .int .u8 44, .int .u8 32, .int .u8 97, .int .u8 41, .int .u8 46, .int .u8 10] 5 fz)) : Byt w (some ⟨g, 0, none⟩) 16 sT :=
  byt_blk hb (fun i hi => by
    have h16 : i < 16 := hi
    rcases i with _ | _ | _ | _ | _ | _ | _ | _ | _ | _ | _ | _ | _ | _ | _ | _ | i
    all_goals first | rfl | omega)
theorem told_k1 : (cK (walkKs (formsN [7])))[1]? = some (.int .i64 3) := by kernel_rfl
theorem told_k28 : (cK (walkKs (formsN [7])))[28]? = some (.int .i64 1) := by kernel_rfl
theorem told_n : (walkKs (formsN [7])).length = 9 := by kernel_rfl
theorem told_u : (refL (formsN [7]) []).length = 8 := by kernel_rfl
theorem told_w : widL sT.data.toList 0 0 = 15 := by kernel_rfl
theorem str_get {w : World} {A : Option Addr} {n : Nat} {l : List ByteArray} (h : Kd.C Kd.string w A n l) {i : Nat} {x : ByteArray} (hi : l[i]? = some x) : ∃ ad, A = some ad ∧ w.cell? (ad.add i) = some (.string x) := by
  obtain ⟨h1, _, h3⟩ := h
  obtain ⟨ad, e, h4⟩ := h3 (by have := (List.getElem?_eq_some_iff.1 hi).1; omega)
  obtain ⟨cs, h5, h6, h7⟩ := h4 i x hi
  obtain rfl : cs = [.string x] := h6
  exact ⟨ad, e, by simpa [Kd.string, Kd.scalar] using h7 0 _ rfl⟩
set_option maxHeartbeats 4000000 in
set_option maxRecDepth 100000 in
theorem told_calls (w : World) (hT : Tab w.heap.size w) : Calls Tryz.prog 5 #[] w fun e w' => e = .returned (.bool true) ∧ Below w.heap.size w w' := by
  have hu28 := Tryz.underlying28
  have hu24 := Tryz.underlying24
  have hu22 := Tryz.underlying22
  have hu9 := Tryz.underlying9
  have hu5 := Tryz.underlying5
  have hu4 := Tryz.underlying4
  have hu3 := Tryz.underlying3
  have HT := Aside0.mk hT
  clear hT
  go_enter Tryz.func5, Tryz.ntmps5
  go_wp2_with (first | ((with_reducible refine gate_dst (N := 9) rfl ?_); refine lit_event ?hg (N := 9) ?hd (m := 16) (cs := #[.int .u8 102, .int .u8 40, .int .u8 41, .int .u8 32, .int .u8 45, .int .u8 62, .int .u8 32, .int .u8 103, .int .u8 40, .int .u8 97, .int .u8 44, .int .u8 32, .int .u8 97, .int .u8 41, .int .u8 46, .int .u8 10]) (t := 5) ?hr ?_; (case hd => rfl); (case hg => rfl); (case hr => first | (go_simp; done) | (go_simp; rfl)); intro g9 hg w309 hbox hb; have BX := Aside0.mk hbox; have B0 := Aside0.mk hb; have G9 := Aside0.mk hg; clear hbox hb hg) | ((with_reducible refine gate_dst (N := 10) rfl ?_); refine cs_event rfl rfl rfl BX.out ?_; intro w310 fz hbox hb; have HY := Aside0.mk (sT_byt hbox); have B1 := Aside0.mk (B0.out.trans (hb.mono (Nat.le_of_eq G9.out.symm))); clear hbox hb BX B0 G9) | ((with_reducible refine gate_dst (N := 13) rfl ?_); refine goesL_ (some 13) rfl rfl Tryz.func6 (by kernel_rfl) rfl #[.slice (some ⟨g9, 0, none⟩) 16 16] rfl (by (try simp only [List.map_toArray, List.map_cons, List.map_nil]); first | done | rfl) ?_; (refine ((show Calls Tryz.prog 6 #[.slice (some ⟨g9, 0, none⟩) 16 16] _ _ from kinds_calls (s := sT) (fs := [7]) (c := 16) sT_text (fun f h => by rw [List.mem_singleton.1 h]; decide) (by decide) (Below.refl _ _) HY.out)).mono ?_); (rintro e w113 ⟨gk, rfl, hgk, hbk, hb⟩; refine ⟨_, rfl, ?_⟩; have c1 : w113.cell? ⟨gk, 1, none⟩ = some (.int .i64 3) := (blk_cell hbk 1).trans told_k1; have c28 : w113.cell? ⟨gk, 28, none⟩ = some (.int .i64 1) := (blk_cell hbk 28).trans told_k28; have L2 := Aside0.mk hb; have B2 := Aside0.mk (B1.out.trans (hb.mono B1.out.size)); clear hgk hbk hb)) | ((with_reducible refine gate_dst (N := 18) rfl ?_); refine goesL_ (some 18) rfl rfl Tryz.func10 (by kernel_rfl) rfl #[.slice (some ⟨g9, 0, none⟩) 16 16] rfl (by (try simp only [List.map_toArray, List.map_cons, List.map_nil]); first | done | rfl) ?_; (refine ((show Calls Tryz.prog 10 #[.slice (some ⟨g9, 0, none⟩) 16 16] _ _ from names_calls (s := sT) (c := 16) sT_text L2.out HY.out)).mono ?_); (rintro e w118 ⟨A1, cc1, rfl, hR, hb⟩; refine ⟨_, rfl, ?_⟩; have HC := Aside0.mk (Kd.R_reads' hR).2.2; have n1 := bc hb c1; have n2 := bc hb c28; clear c1 c28; have c1 := n1; have c28 := n2; clear n1 n2; have L3 := Aside0.mk (L2.out.trans (hb.mono L2.out.size)); have B3 := Aside0.mk (B2.out.trans (hb.mono B2.out.size)); clear hR hb)) | ((with_reducible refine gate_dst (N := 23) rfl ?_); refine goesL_ (some 23) rfl rfl Tryz.func7 (by kernel_rfl) rfl #[.slice (some ⟨g9, 0, none⟩) 16 16] rfl (by (try simp only [List.map_toArray, List.map_cons, List.map_nil]); first | done | rfl) ?_; (refine ((show Calls Tryz.prog 7 #[.slice (some ⟨g9, 0, none⟩) 16 16] _ _ from alike_calls (s := sT) (fs := [7]) (c := 16) ((HT.out.on B3.out).mono B3.out.size) sT_text (fun f h => by rw [List.mem_singleton.1 h]; decide) (by decide) L3.out HY.out)).mono ?_); (rintro e w123 ⟨rfl, hb⟩; refine ⟨_, rfl, ?_⟩; rw [told_n, told_u]; have n1 := bc hb c1; have n2 := bc hb c28; clear c1 c28; have c1 := n1; have c28 := n2; clear n1 n2; have n3 := Aside0.mk (Kd.C_below HC.out hb); clear HC; have HC := n3; have L4 := Aside0.mk (L3.out.trans (hb.mono L3.out.size)); have B4 := Aside0.mk (B3.out.trans (hb.mono B3.out.size)); (obtain ⟨ad, rfl, cs0⟩ := str_get HC.out (i := 0) rfl); have cs : w123.cell? ad = some (.string (⟨#[102]⟩ : ByteArray)) := cs0; clear cs0; clear hb n3 HC)) | ((with_reducible refine gate_dst (N := 75) rfl ?_); (refine gate_guard (by rfl) ?_; dsimp only); refine goesL_ (some 75) rfl rfl Tryz.func8 (by kernel_rfl) rfl #[.slice (some ⟨g9, 0, none⟩) 16 16] rfl (by (try simp only [List.map_toArray, List.map_cons, List.map_nil]); first | done | rfl) ?_; (refine ((show Calls Tryz.prog 8 #[.slice (some ⟨g9, 0, none⟩) 16 16] _ _ from widest_calls (s := sT) (c := 16) L4.out HY.out sT_le (asc_of sT_text))).mono ?_); (rintro e w175 ⟨rfl, hb⟩; refine ⟨_, rfl, ?_⟩; rw [told_w]; have B5 := Aside0.mk (B4.out.trans (hb.mono B4.out.size)); clear hb)))
  go_ret
  exact ⟨rfl, B5.out⟩
end Go.Proofs.YthipodffpkglfaaGreatDoor.PS
namespace Go.Proofs.YthipodffpkglfaaGreatDoor.PS
open Go.RowKit Go.Proofs.YthipodffpkglfaaGreatDoorW.PrintWords Go.Proofs.YthipodffpkglfaaGreatDoorW.PrintLast Go.Proofs.YthipodffpkglfaaGreatDoorW.PrintMore
set_option linter.unusedVariables false
set_option linter.unusedSimpArgs false
open Go.Proofs.YthipodffpkglfaaGreatDoor.PQ
/-- Which form a number tells. -/
def idx7 (x : Int) : Nat := (IntKind.u64.wrap x).toNat % 7
theorem u64_nat (x : Int) : ∃ u : Nat, IntKind.u64.wrap x = (u : Int) := by
  have h : 0 ≤ IntKind.u64.wrap x := by
    simp [IntKind.wrap, IntKind.bits, IntKind.signed]
    omega
  exact Int.eq_ofNat_of_zero_le h
theorem idx7_lt (x : Int) : idx7 x < 7 := Nat.mod_lt _ (by decide)
theorem tmod7 (u : Nat) : Int.tmod (u : Int) 7 = ((u % 7 : Nat) : Int) := rfl
/-- The texts of the forms. -/
def fS : Nat → ByteArray
  | 0 => ⟨#[102, 40, 41, 32, 45, 62, 32, 97, 46, 10]⟩
  | 1 => ⟨#[45, 109, 40, 120, 41, 46, 10]⟩
  | 2 => ⟨#[37, 37, 32, 99, 10]⟩
  | 3 => ⟨#[120, 32, 121, 46, 10]⟩
  | 4 => ⟨#[103, 40, 88, 41, 32, 45, 62, 32, 99, 97, 115, 101, 32, 88, 32, 111, 102, 32, 97, 32, 45, 62, 32, 98, 32, 101, 110, 100, 46, 10]⟩
  | 5 => ⟨#[104, 40, 41, 32, 45, 62, 32, 91, 88, 32, 124, 124, 32, 88, 32, 60, 45, 32, 108, 93, 46, 10]⟩
  | _ => ⟨#[45, 116, 32, 97, 32, 58, 58, 32, 98, 46, 10]⟩
theorem fS_text : ∀ f, f < 7 → (fS f).data.toList = formB f
  | 0, _ => by kernel_rfl
  | 1, _ => by kernel_rfl
  | 2, _ => by kernel_rfl
  | 3, _ => by kernel_rfl
  | 4, _ => by kernel_rfl
  | 5, _ => by kernel_rfl
  | 6, _ => by kernel_rfl
  | f + 7, h => absurd h (by omega)
def fCells : Array Value := #[.string (fS 0), .string (fS 1), .string (fS 2), .string (fS 3), .string (fS 4), .string (fS 5), .string (fS 6)]
theorem fCells_at : ∀ f, f < 7 → fCells[f]? = some (.string (fS f))
  | 0, _ => rfl
  | 1, _ => rfl
  | 2, _ => rfl
  | 3, _ => rfl
  | 4, _ => rfl
  | 5, _ => rfl
  | 6, _ => rfl
  | f + 7, h => absurd h (by omega)
theorem text_snoc {s : ByteArray} {fs : List Nat} {f : Nat} (hs : s.data.toList = textB fs) (hf : f < 7) : (s ++ fS f).data.toList = textB (fs ++ [f]) := by
  rw [PQ.data_append, hs, fS_text f hf, textB_app]
  show _ = textB fs ++ (formB f ++ [])
  rw [List.append_nil]
theorem text_size {s : ByteArray} {fs : List Nat} (hs : s.data.toList = textB fs) : s.size ≤ 32 * fs.length := by
  rw [size_data, hs]
  exact textB_len fs
theorem fS_size : ∀ f, f < 7 → (fS f).size ≤ 32
  | 0, _ => by show 10 ≤ 32; omega
  | 1, _ => by show 7 ≤ 32; omega
  | 2, _ => by show 5 ≤ 32; omega
  | 3, _ => by show 5 ≤ 32; omega
  | 4, _ => by show 30 ≤ 32; omega
  | 5, _ => by show 22 ≤ 32; omega
  | 6, _ => by show 11 ≤ 32; omega
  | f + 7, h => absurd h (by omega)
theorem formsN_app (a b : List Nat) : formsN (a ++ b) = formsN a ++ formsN b := by
  unfold formsN
  rw [List.map_append, List.map_append]
/-- Both's nodes. -/
theorem kinds_app (a b : List Nat) : walkKs (formsN (a ++ b)) = walkKs (formsN a) ++ walkKs (formsN b) := by rw [formsN_app, walkKs_app]
theorem countP_step : ∀ (ks : List Int) (i : Nat), (ks.countP fun k => decide (k < ((i + 1 : Nat) : Int))) = (ks.countP fun k => decide (k < (i : Int))) + ks.count (i : Int)
  | [], i => rfl
  | x :: ks, i => by
    rw [List.countP_cons, List.countP_cons, List.count_cons, countP_step ks i]
    simp only [decide_eq_true_eq, beq_iff_eq]
    have e : ((i + 1 : Nat) : Int) = (i : Int) + 1 := by omega
    rw [e]
    by_cases h1 : x < (i : Int)
    · rw [if_pos (show x < (i : Int) + 1 by omega), if_pos h1, if_neg (show ¬ x = (i : Int) by omega)]
      omega
    · by_cases h2 : x = (i : Int)
      · rw [if_pos (show x < (i : Int) + 1 by omega), if_neg h1, if_pos h2]
        omega
      · rw [if_neg (show ¬ x < (i : Int) + 1 by omega), if_neg h1, if_neg h2]
        omega
theorem countP_zero (ks : List Int) (h : ∀ k ∈ ks, 0 ≤ k ∧ k < 31) : (ks.countP fun k => decide (k < ((0 : Nat) : Int))) = 0 := by
  rw [List.countP_eq_zero]
  intro k hk
  have := (h k hk).1
  simp
  omega
theorem countP_all (ks : List Int) (h : ∀ k ∈ ks, 0 ≤ k ∧ k < 31) : (ks.countP fun k => decide (k < ((31 : Nat) : Int))) = ks.length := by
  rw [List.countP_eq_length]
  intro k hk
  have := (h k hk).2
  simp
  omega
theorem wid_max : ∀ (b : List UInt8) (c m x : Nat), widL b c (max x m) = max x (widL b c m)
  | [], c, m, x => by
    simp only [widL]
    omega
  | b :: r, c, m, x => by
    unfold widL
    split
    · rw [show max (max x m) c = max x (max m c) by omega, wid_max r]
    · rw [wid_max r]
theorem widL_cons (b : UInt8) (r : List UInt8) (c m : Nat) : widL (b :: r) c m = if b = 10 then widL r 0 (max m c) else widL r (c + 1) m := rfl
/-- A text that ends its line, and what is behind it. -/
theorem wid_line : ∀ (a b : List UInt8) (c m : Nat), a.getLast? = some 10 → widL (a ++ b) c m = widL b 0 (widL a c m)
  | [], b, c, m, h => by cases h
  | [x], b, c, m, h => by
    simp only [List.getLast?_singleton, Option.some.injEq] at h
    subst h
    simp [widL]
  | x :: y :: a, b, c, m, h => by
    have h2 : (y :: a).getLast? = some 10 := by rw [← h, List.getLast?_cons_cons]
    rw [List.cons_append, widL_cons, widL_cons]
    split
    · rw [wid_line (y :: a) b _ _ h2]
    · rw [wid_line (y :: a) b _ _ h2]
theorem form_last : ∀ f, f < 8 → (formB f).getLast? = some 10
  | 0, _ => by kernel_rfl
  | 1, _ => by kernel_rfl
  | 2, _ => by kernel_rfl
  | 3, _ => by kernel_rfl
  | 4, _ => by kernel_rfl
  | 5, _ => by kernel_rfl
  | 6, _ => by kernel_rfl
  | 7, _ => by kernel_rfl
  | f + 8, h => absurd h (by omega)
theorem text_last : ∀ fs : List Nat, (∀ f ∈ fs, f < 8) → fs ≠ [] → (textB fs).getLast? = some 10
  | [], _, h => absurd rfl h
  | [f], h, _ => by
    show (formB f ++ []).getLast? = some 10
    rw [List.append_nil]
    exact form_last f (h f List.mem_cons_self)
  | f :: g :: r, h, _ => by
    show (formB f ++ textB (g :: r)).getLast? = some 10
    rw [List.getLast?_append, text_last (g :: r) (fun x hx => h x (List.mem_cons_of_mem _ hx)) (by simp)]
    rfl
theorem wid_app (a b : List Nat) (ha : ∀ f ∈ a, f < 8) : widL (textB (a ++ b)) 0 0 = max (widL (textB a) 0 0) (widL (textB b) 0 0) := by
  cases a with
  | nil =>
    show widL (textB b) 0 0 = max (max 0 0) _
    omega
  | cons f r =>
    rw [textB_app, wid_line _ _ _ _ (text_last (f :: r) ha (by simp))]
    have h := wid_max (textB b) 0 0 (widL (textB (f :: r)) 0 0)
    rw [Nat.max_zero] at h
    exact h
/-- Counts that lie there. -/
structure Jn (w : World) (gs : List (Addr × List Int)) (w' : World) : Prop where
  b : Below w.heap.size w w'
  k : ∀ p ∈ gs, p.1.block < w'.heap.size ∧ ∀ x, x < 31 → w'.cell? (p.1.add x) = some (.int .i64 ((p.2.count (x : Int) : Nat) : Int))
theorem Jn.below {w w1 w2 : World} {gs : List (Addr × List Int)} (h : Jn w gs w1) (hb : Below w1.heap.size w1 w2) : Jn w gs w2 :=
  ⟨h.b.trans (hb.mono h.b.size), fun p hp => ⟨Nat.lt_of_lt_of_le (h.k p hp).1 hb.size, fun x hx => (hb.cell (by rw [add_block]; exact (h.k p hp).1)).trans ((h.k p hp).2 x hx)⟩⟩
theorem Jn.add {w w1 w2 : World} {gs : List (Addr × List Int)} (h : Jn w gs w1) {g : Nat} {ad : Addr} {ks : List Int} (hb : Below w1.heap.size w1 w2) (hg : w2.heap[g]? = some (.cells (cK ks) 49 (0, 0))) (ha : (⟨g, 0, none⟩ : Addr) = ad) : Jn w ((ad, ks) :: gs) w2 :=
  have H := h.below hb
  ⟨H.b, fun p hp => by
    rcases List.mem_cons.1 hp with rfl | hp
    · subst ha
      refine ⟨blk_lt hg, fun x hx => ?_⟩
      rw [add_plain]
      exact (blk_cell hg _).trans (cK_at ks hx)
    · exact H.k p hp⟩
end Go.Proofs.YthipodffpkglfaaGreatDoor.PS
namespace Go.Proofs.YthipodffpkglfaaGreatDoor.PS
open Go.RowKit Go.Proofs.YthipodffpkglfaaGreatDoorW.PrintWords Go.Proofs.YthipodffpkglfaaGreatDoorW.PrintLast Go.Proofs.YthipodffpkglfaaGreatDoorW.PrintMore
set_option linter.unusedVariables false
set_option linter.unusedSimpArgs false
open Go.Proofs.YthipodffpkglfaaGreatDoor.PQ
theorem F3tab25 : rtab .any (opsOf Tryz.f3 25) = (true, [([], []), ([], []), ([0, 1], [0, 1]), ([2], [2]), ([], []), ([], []), ([4, 5], [4, 5]), ([6], [6]), ([3, 7], [3, 7]), ([], []), ([], []), ([9, 10], [9, 10]), ([11], [11]), ([8, 12], [8, 12])]) := by kernel_rfl
set_option maxHeartbeats 4000000 in
set_option maxRecDepth 100000 in
theorem joins_walk {w : World} (hT : Tab w.heap.size w) (xs ys : List Int) (A B : Option Addr) (ca cb : Nat) (hx : Kd.C (Kd.int .i64) w A xs.length xs) (hy : Kd.C (Kd.int .i64) w B ys.length ys) : Calls Tryz.prog 3 #[.slice A xs.length ca, .slice B ys.length cb] w fun e w' => e = .returned (.bool true) ∧ Below w.heap.size w w' := by
  have hu28 := Tryz.underlying28
  have hu25 := Tryz.underlying25
  have hu24 := Tryz.underlying24
  have hu22 := Tryz.underlying22
  have hu9 := Tryz.underlying9
  have hu4 := Tryz.underlying4
  have hu3 := Tryz.underlying3
  have HT := Aside0.mk hT
  obtain ⟨n, hn⟩ : ∃ n, xs.length = n := ⟨_, rfl⟩
  obtain ⟨m, hm⟩ : ∃ m, ys.length = m := ⟨_, rfl⟩
  rw [hn] at hx ⊢
  rw [hm] at hy ⊢
  have HX := Aside0.mk hx
  have HY := Aside0.mk hy
  have HN := Aside0.mk hn
  have HM := Aside0.mk hm
  have hn63 : n ≤ 9223372036854775807 := hx.2.1
  have hm63 : m ≤ 9223372036854775807 := hy.2.1
  clear hT hx hy hn hm
  by_cases h8 : 8 < n ∨ 8 < m
  · have h9 : (decide ((8 : Int) < (n : Int)) || decide ((8 : Int) < (m : Int))) = true := by
      rw [Bool.or_eq_true, decide_eq_true_eq, decide_eq_true_eq]
      omega
    by_cases h10 : 8 < n
    · have h11 : decide ((8 : Int) < (n : Int)) = true := decide_eq_true (by omega)
      clear h8 h9
      go_enter Tryz.func3, Tryz.ntmps3
      go_wp2_with (first | ((with_reducible refine gate_dst (N := 35) rfl ?_); refine goesL_ (some 35) rfl rfl Tryz.func5 (by kernel_rfl) rfl #[] rfl (by (try simp only [List.map_toArray, List.map_cons, List.map_nil]); first | done | rfl) ?_; (refine (told_calls w HT.out).mono ?_); (rintro e w135 ⟨rfl, hb⟩; refine ⟨_, rfl, ?_⟩; have BT := Aside0.mk hb; clear hb)))
      go_ret
      exact ⟨rfl, BT.out⟩
    · have h11 : decide ((8 : Int) < (n : Int)) = false := decide_eq_false (by omega)
      have h12 : decide ((8 : Int) < (m : Int)) = true := decide_eq_true (by omega)
      clear h8 h9
      go_enter Tryz.func3, Tryz.ntmps3
      go_wp2_with (first | ((with_reducible refine gate_dst (N := 35) rfl ?_); refine goesL_ (some 35) rfl rfl Tryz.func5 (by kernel_rfl) rfl #[] rfl (by (try simp only [List.map_toArray, List.map_cons, List.map_nil]); first | done | rfl) ?_; (refine (told_calls w HT.out).mono ?_); (rintro e w135 ⟨rfl, hb⟩; refine ⟨_, rfl, ?_⟩; have BT := Aside0.mk hb; clear hb)))
      go_ret
      exact ⟨rfl, BT.out⟩
  have hn8 : n ≤ 8 := by omega
  have hm8 : m ≤ 8 := by omega
  have h11 : decide ((8 : Int) < (n : Int)) = false := decide_eq_false (by omega)
  have h12 : decide ((8 : Int) < (m : Int)) = false := decide_eq_false (by omega)
  clear h8
  go_enter Tryz.func3, Tryz.ntmps3
  go_wp2_with (first | ((with_reducible refine gate_dst (N := 36) rfl ?_); refine lit_event ?hg (N := 36) ?hd (m := 7) (cs := fCells) (t := 9) ?hr ?_; (case hd => rfl); (case hg => rfl); (case hr => first | (go_simp; done) | (go_simp; rfl)); intro g36 hg w336 hbox hb; have HB := Aside0.mk hb; have HX1 := Aside0.mk (Kd.C_below HX.out hb); have HY1 := Aside0.mk (Kd.C_below HY.out hb); (obtain ⟨adF, hA⟩ : ∃ q : Addr, (⟨g36, 0, none⟩ : Addr) = q := ⟨_, rfl⟩); have HFC := Aside0.mk (show ∀ f, f < 7 → w336.cell? (adF.add f) = some (.string (fS f)) from fun f hf => by rw [← hA, add_plain]; exact (blk_cell hbox _).trans (fCells_at f hf)); rw [hA]; clear hg hbox hb hA))
  go_loopg [6, 8] n (fun k' v6 v8 wr => ∃ (i : Nat) (s : ByteArray), v6 = .string s ∧ v8 = .int .i64 (i : Int) ∧ Aside0 (k' + i = n) ∧ Aside0 (s.data.toList = textB ((xs.take i).map idx7)) ∧ w336 = wr)
  case atStart => exact ⟨0, ⟨#[]⟩, rfl, rfl, ⟨rfl⟩, ⟨rfl⟩, rfl⟩
  case round =>
    obtain ⟨i, s, rfl, rfl, HK, HS, rfl⟩ := hrel
    by_cases hlt : i < n
    · obtain ⟨x, hx⟩ : ∃ x, xs[i]? = some x := ⟨_, List.getElem?_eq_getElem (by rw [HN.out]; exact hlt)⟩
      obtain ⟨adA, rfl, cx⟩ := int_get HX1.out hx
      obtain ⟨u, hu⟩ := u64_nat x
      obtain ⟨f, hf⟩ : ∃ f, u % 7 = f := ⟨_, rfl⟩
      have hfx : idx7 x = f := by rw [← hf]; unfold idx7; rw [hu, Int.toNat_natCast]
      have hf7 : f < 7 := by omega
      have cf := HFC.out f hf7
      have hsz : s.size + (fS f).size ≤ 9223372036854775807 := by
        have h1 := text_size HS.out
        have h2 := fS_size f hf7
        have h3 : ((xs.take i).map idx7).length ≤ 8 := by rw [List.length_map, List.length_take]; omega
        omega
      obtain ⟨s2, hs2⟩ : ∃ s2, s ++ fS f = s2 := ⟨_, rfl⟩
      have HS2 := Aside0.mk (show s2.data.toList = textB ((xs.take (i + 1)).map idx7) from by
        rw [← hs2, text_snoc HS.out hf7, List.take_add_one, hx, Option.toList_some, List.map_append]
        show _ = textB (_ ++ [idx7 x])
        rw [hfx])
      obtain ⟨q, hq⟩ : ∃ q, i + 1 = q := ⟨_, rfl⟩
      have e1 : wrap64 ((i : Int) + 1) = (q : Int) := by unfold wrap64; omega
      have e2 : (IntKind.i64).wrap (f : Int) = (f : Int) := by rw [i64_w]; unfold wrap64; omega
      have HQ := Aside0.mk hq
      have HSZ := Aside0.mk hsz
      have HS3 := Aside0.mk hs2
      have HU := Aside0.mk hu
      have HF := Aside0.mk hf
      rw [hq] at HS2
      clear hx hfx hs2 hq hsz hu hf
      go_wp2_with (first | ((with_reducible refine gate_dst (N := 49) rfl ?_); refine val_event rfl (.int .u64 (u : Nat)) ?hr ?_; (case hr => go_simp; exact HU.out)) | ((with_reducible refine gate_dst (N := 50) rfl ?_); refine val_event rfl (.int .u64 (f : Nat)) ?hr ?_; (case hr => go_simp; rw [tmod7, HF.out])) | ((with_reducible refine gate_dst (N := 51) rfl ?_); refine val_event rfl (.int .i64 (f : Nat)) ?hr ?_; (case hr => first | (go_simp; done) | (go_simp; exact e2))) | ((with_reducible refine gate_dst (N := 54) rfl ?_); refine val_event rfl (.string s2) ?hr ?_; (case hr => go_simp; rw [if_neg (by have := HSZ.out; omega), HS3.out]; try rfl)) | ((with_reducible refine gate_dst (N := 42) rfl ?_); refine val_event rfl (.int .i64 (q : Nat)) ?hr ?_; (case hr => first | (go_simp; done) | (go_simp; rw [i64_w]; assumption) | (go_simp; rfl))))
      go_roundg (gk - 1)
      case measure => have := HK.out; omega
      case rel => exact ⟨q, s2, rfl, rfl, ⟨by have := HK.out; have := HQ.out; omega⟩, HS2, rfl⟩
    · have hi : i = n := by have := HK.out; omega
      have HSA := Aside0.mk (show s.data.toList = textB (xs.map idx7) from by
        have h := HS.out
        rw [hi, ← HN.out, List.take_length] at h
        exact h)
      obtain ⟨s1, hs⟩ : ∃ s0, s = s0 := ⟨_, rfl⟩
      rw [hs] at HSA ⊢
      clear HS hs hi
      have HSA1 := HSA
      clear HSA HK
      go_wp2_with fail
      clear hlt
      go_loopg [7, 9] m (fun k' v6 v8 wr => ∃ (i : Nat) (s : ByteArray), v6 = .string s ∧ v8 = .int .i64 (i : Int) ∧ Aside0 (k' + i = m) ∧ Aside0 (s.data.toList = textB ((ys.take i).map idx7)) ∧ w336 = wr)
      case atStart => exact ⟨0, ⟨#[]⟩, rfl, rfl, ⟨rfl⟩, ⟨rfl⟩, rfl⟩
      case round =>
        obtain ⟨i, s, rfl, rfl, HK, HS, rfl⟩ := hrel
        by_cases hlt : i < m
        · obtain ⟨x, hx⟩ : ∃ x, ys[i]? = some x := ⟨_, List.getElem?_eq_getElem (by rw [HM.out]; exact hlt)⟩
          obtain ⟨adB, rfl, cx⟩ := int_get HY1.out hx
          obtain ⟨u, hu⟩ := u64_nat x
          obtain ⟨f, hf⟩ : ∃ f, u % 7 = f := ⟨_, rfl⟩
          have hfx : idx7 x = f := by rw [← hf]; unfold idx7; rw [hu, Int.toNat_natCast]
          have hf7 : f < 7 := by omega
          have cf := HFC.out f hf7
          have hsz : s.size + (fS f).size ≤ 9223372036854775807 := by
            have h1 := text_size HS.out
            have h2 := fS_size f hf7
            have h3 : ((ys.take i).map idx7).length ≤ 8 := by rw [List.length_map, List.length_take]; omega
            omega
          obtain ⟨s2, hs2⟩ : ∃ s2, s ++ fS f = s2 := ⟨_, rfl⟩
          have HS2 := Aside0.mk (show s2.data.toList = textB ((ys.take (i + 1)).map idx7) from by
            rw [← hs2, text_snoc HS.out hf7, List.take_add_one, hx, Option.toList_some, List.map_append]
            show _ = textB (_ ++ [idx7 x])
            rw [hfx])
          obtain ⟨q, hq⟩ : ∃ q, i + 1 = q := ⟨_, rfl⟩
          have e1 : wrap64 ((i : Int) + 1) = (q : Int) := by unfold wrap64; omega
          have e2 : (IntKind.i64).wrap (f : Int) = (f : Int) := by rw [i64_w]; unfold wrap64; omega
          have HQ := Aside0.mk hq
          have HSZ := Aside0.mk hsz
          have HS3 := Aside0.mk hs2
          have HU := Aside0.mk hu
          have HF := Aside0.mk hf
          rw [hq] at HS2
          clear hx hfx hs2 hq hsz hu hf
          go_wp2_with (first | ((with_reducible refine gate_dst (N := 67) rfl ?_); refine val_event rfl (.int .u64 (u : Nat)) ?hr ?_; (case hr => go_simp; exact HU.out)) | ((with_reducible refine gate_dst (N := 68) rfl ?_); refine val_event rfl (.int .u64 (f : Nat)) ?hr ?_; (case hr => go_simp; rw [tmod7, HF.out])) | ((with_reducible refine gate_dst (N := 69) rfl ?_); refine val_event rfl (.int .i64 (f : Nat)) ?hr ?_; (case hr => first | (go_simp; done) | (go_simp; exact e2))) | ((with_reducible refine gate_dst (N := 72) rfl ?_); refine val_event rfl (.string s2) ?hr ?_; (case hr => go_simp; rw [if_neg (by have := HSZ.out; omega), HS3.out]; try rfl)) | ((with_reducible refine gate_dst (N := 60) rfl ?_); refine val_event rfl (.int .i64 (q : Nat)) ?hr ?_; (case hr => first | (go_simp; done) | (go_simp; rw [i64_w]; assumption) | (go_simp; rfl))))
          go_roundg (gk - 1)
          case measure => have := HK.out; omega
          case rel => exact ⟨q, s2, rfl, rfl, ⟨by have := HK.out; have := HQ.out; omega⟩, HS2, rfl⟩
        · have hi : i = m := by have := HK.out; omega
          have HSA := Aside0.mk (show s.data.toList = textB (ys.map idx7) from by
            have h := HS.out
            rw [hi, ← HM.out, List.take_length] at h
            exact h)
          obtain ⟨t1, hs⟩ : ∃ s0, s = s0 := ⟨_, rfl⟩
          rw [hs] at HSA ⊢
          clear HS hs hi
          have HSB := HSA
          clear HSA HK HFC HX1 HY1 h11 h12
          obtain ⟨fa, hfa⟩ : ∃ fa, xs.map idx7 = fa := ⟨_, rfl⟩
          obtain ⟨fb, hfb⟩ : ∃ fb, ys.map idx7 = fb := ⟨_, rfl⟩
          have hfa8 : ∀ f ∈ fa, f < 8 := fun f h => by
            rw [← hfa] at h
            obtain ⟨x, _, rfl⟩ := List.mem_map.1 h
            exact Nat.lt_trans (idx7_lt x) (by decide)
          have hfb8 : ∀ f ∈ fb, f < 8 := fun f h => by
            rw [← hfb] at h
            obtain ⟨x, _, rfl⟩ := List.mem_map.1 h
            exact Nat.lt_trans (idx7_lt x) (by decide)
          have hla : fa.length ≤ 8 := by rw [← hfa, List.length_map, HN.out]; exact hn8
          have hlb : fb.length ≤ 8 := by rw [← hfb, List.length_map, HM.out]; exact hm8
          rw [hfa] at HSA1
          rw [hfb] at HSB
          have hza := text_size HSA1.out
          have hzb := text_size HSB.out
          have Hs1 := Aside0.mk (show s1.data.toList = textB fa ∧ (∀ f ∈ fa, f < 8) ∧ fa.length ≤ 1000 ∧ s1.size ≤ 65536 from ⟨HSA1.out, hfa8, Nat.le_trans hla (by decide), Nat.le_trans hza (Nat.le_trans (Nat.mul_le_mul_left 32 hla) (by decide))⟩)
          have Ht1 := Aside0.mk (show t1.data.toList = textB fb ∧ (∀ f ∈ fb, f < 8) ∧ fb.length ≤ 1000 ∧ t1.size ≤ 65536 from ⟨HSB.out, hfb8, Nat.le_trans hlb (by decide), Nat.le_trans hzb (Nat.le_trans (Nat.mul_le_mul_left 32 hlb) (by decide))⟩)
          have hz256 : s1.size + t1.size ≤ 512 := Nat.add_le_add (Nat.le_trans hza (Nat.mul_le_mul_left 32 hla)) (Nat.le_trans hzb (Nat.mul_le_mul_left 32 hlb))
          have HSZ := Aside0.mk (show s1.size + t1.size ≤ 9223372036854775807 from Nat.le_trans hz256 (by decide))
          obtain ⟨st, hst⟩ : ∃ st, s1 ++ t1 = st := ⟨_, rfl⟩
          have hsd : st.data.toList = textB (fa ++ fb) := by rw [← hst, PQ.data_append, HSA1.out, HSB.out, textB_app]
          have hsz : st.size ≤ 65536 := by rw [← hst, ByteArray.size_append]; exact Nat.le_trans hz256 (by decide)
          have Hst := Aside0.mk (show st.data.toList = textB (fa ++ fb) ∧ (∀ f ∈ fa ++ fb, f < 8) ∧ (fa ++ fb).length ≤ 1000 ∧ st.size ≤ 65536 from ⟨hsd, fun f h => (List.mem_append.1 h).elim (hfa8 f) (hfb8 f), by rw [List.length_append]; exact Nat.le_trans (Nat.add_le_add hla hlb) (by decide), hsz⟩)
          have HST := Aside0.mk hst
          have hka := kinds_all fa hfa8
          have hkb := kinds_all fb hfb8
          obtain ⟨ka, eka⟩ : ∃ ks, walkKs (formsN fa) = ks := ⟨_, rfl⟩
          obtain ⟨kb, ekb⟩ : ∃ ks, walkKs (formsN fb) = ks := ⟨_, rfl⟩
          have ekc : walkKs (formsN (fa ++ fb)) = ka ++ kb := by rw [kinds_app, eka, ekb]
          rw [eka] at hka
          rw [ekb] at hkb
          obtain ⟨la, hla2⟩ : ∃ l, ka.length = l := ⟨_, rfl⟩
          obtain ⟨lb, hlb2⟩ : ∃ l, kb.length = l := ⟨_, rfl⟩
          obtain ⟨lc, hlc⟩ : ∃ l, la + lb = l := ⟨_, rfl⟩
          obtain ⟨ua, hua⟩ : ∃ l, (refL (formsN fa) []).length = l := ⟨_, rfl⟩
          obtain ⟨ub, hub⟩ : ∃ l, (refL (formsN fb) []).length = l := ⟨_, rfl⟩
          obtain ⟨uc, huc⟩ : ∃ l, (refL (formsN (fa ++ fb)) []).length = l := ⟨_, rfl⟩
          have huc2 : uc ≤ lc := by
            have := refL_le (formsN (fa ++ fb))
            rw [ekc, List.length_append] at this
            omega
          obtain ⟨wa, hwa⟩ : ∃ l, widL s1.data.toList 0 0 = l := ⟨_, rfl⟩
          obtain ⟨wb, hwb⟩ : ∃ l, widL t1.data.toList 0 0 = l := ⟨_, rfl⟩
          obtain ⟨wc, hwc⟩ : ∃ l, widL st.data.toList 0 0 = l := ⟨_, rfl⟩
          have HWW := Aside0.mk (show max wa wb = wc from by
            rw [← hwa, ← hwb, ← hwc, hsd, HSA1.out, HSB.out, wid_app fa fb hfa8])
          have Ls1 := Aside0.mk (show (walkKs (formsN fa)).length = la from by rw [eka, hla2])
          have Lt1 := Aside0.mk (show (walkKs (formsN fb)).length = lb from by rw [ekb, hlb2])
          have Lst := Aside0.mk (show (walkKs (formsN (fa ++ fb))).length = lc from by rw [ekc, List.length_append, hla2, hlb2, hlc])
          have Us1 := Aside0.mk hua
          have Ut1 := Aside0.mk hub
          have Ust := Aside0.mk huc
          have Ws1 := Aside0.mk hwa
          have Wt1 := Aside0.mk hwb
          have Wst := Aside0.mk hwc
          have hl16 : lc ≤ 1024 := by have := hka.2; have := hkb.2; omega
          have e5 : wrap64 ((la : Int) + (lb : Int)) = (lc : Int) := by unfold wrap64; omega
          have f5 : ¬ lc < uc := Nat.not_lt.2 huc2
          have e6 : (if (wa : Int) < (wb : Int) then (wb : Int) else (wa : Int)) = (wc : Int) := by rw [← HWW.out]; split <;> omega
          have HKA := Aside0.mk (show ∀ k ∈ ka ++ kb, 0 ≤ k ∧ k < 31 from fun k h => (List.mem_append.1 h).elim (hka.1 k) (hkb.1 k))
          have HKL := Aside0.mk (show (ka ++ kb).length = lc from by rw [List.length_append, hla2, hlb2, hlc])
          have EKA := Aside0.mk eka
          have EKB := Aside0.mk ekb
          have EKC := Aside0.mk ekc
          have HL16 := Aside0.mk hl16
          have J := Aside0.mk (show Jn w [] w336 from ⟨HB.out, fun p h => by cases h⟩)
          clear HSA1 HSB hfa hfb hfa8 hfb8 hla hlb hza hzb hst hsd hsz hz256 hka hkb eka ekb ekc hla2 hlb2 hlc hua hub huc huc2 hwa hwb hwc hl16 HX HY HN HM hn8 hm8 hn63 hm63 HB
          go_wp2_with (first | ((with_reducible refine gate_dst (N := 75) rfl ?_); refine cv_event rfl rfl rfl ?_; intro A75 c75 w375 hy hb; have Y75 := Aside0.mk hy; have n0 := Aside0.mk (J.out.below hb); clear J hy hb; have J := n0; clear n0) | ((with_reducible refine gate_dst (N := 76) rfl ?_); refine goesL_ (some 76) rfl rfl Tryz.func6 (by kernel_rfl) rfl #[.slice A75 s1.size c75] rfl (by (try simp only [List.map_toArray, List.map_cons, List.map_nil]); first | done | rfl) ?_; (refine (kinds_calls Hs1.out.1 Hs1.out.2.1 Hs1.out.2.2.1 (Below.refl _ _) Y75.out).mono ?_); (rintro e w176 ⟨g, rfl, hg0, hg, hb⟩; refine ⟨_, rfl, ?_⟩; (obtain ⟨ad76, hA⟩ : ∃ q : Addr, (⟨g, 0, none⟩ : Addr) = q := ⟨_, rfl⟩); have n0 := Aside0.mk (J.out.add hb hg hA); rw [hA]; clear J hg0 hg hb hA; have J := n0; clear n0)) | ((with_reducible refine gate_dst (N := 81) rfl ?_); refine cv_event rfl rfl rfl ?_; intro A81 c81 w381 hy hb; have Y81 := Aside0.mk hy; have n0 := Aside0.mk (J.out.below hb); clear J hy hb; have J := n0; clear n0) | ((with_reducible refine gate_dst (N := 82) rfl ?_); refine goesL_ (some 82) rfl rfl Tryz.func6 (by kernel_rfl) rfl #[.slice A81 t1.size c81] rfl (by (try simp only [List.map_toArray, List.map_cons, List.map_nil]); first | done | rfl) ?_; (refine (kinds_calls Ht1.out.1 Ht1.out.2.1 Ht1.out.2.2.1 (Below.refl _ _) Y81.out).mono ?_); (rintro e w182 ⟨g, rfl, hg0, hg, hb⟩; refine ⟨_, rfl, ?_⟩; (obtain ⟨ad82, hA⟩ : ∃ q : Addr, (⟨g, 0, none⟩ : Addr) = q := ⟨_, rfl⟩); have n0 := Aside0.mk (J.out.add hb hg hA); rw [hA]; clear J hg0 hg hb hA; have J := n0; clear n0)) | ((with_reducible refine gate_dst (N := 88) rfl ?_); refine val_event rfl (.string st) ?hr ?_; (case hr => go_simp; rw [if_neg (by have := HSZ.out; omega), HST.out]; try rfl)) | ((with_reducible refine gate_dst (N := 89) rfl ?_); refine cv_event rfl rfl rfl ?_; intro A89 c89 w389 hy hb; have Y89 := Aside0.mk hy; have n0 := Aside0.mk (J.out.below hb); clear J hy hb; have J := n0; clear n0) | ((with_reducible refine gate_dst (N := 90) rfl ?_); refine goesL_ (some 90) rfl rfl Tryz.func6 (by kernel_rfl) rfl #[.slice A89 st.size c89] rfl (by (try simp only [List.map_toArray, List.map_cons, List.map_nil]); first | done | rfl) ?_; (refine (kinds_calls Hst.out.1 Hst.out.2.1 Hst.out.2.2.1 (Below.refl _ _) Y89.out).mono ?_); (rintro e w190 ⟨g, rfl, hg0, hg, hb⟩; refine ⟨_, rfl, ?_⟩; (obtain ⟨ad90, hA⟩ : ∃ q : Addr, (⟨g, 0, none⟩ : Addr) = q := ⟨_, rfl⟩); have n0 := Aside0.mk (J.out.add hb hg hA); rw [hA]; clear J hg0 hg hb hA; have J := n0; clear n0)) | ((with_reducible refine gate_dst (N := 95) rfl ?_); refine cv_event rfl rfl rfl ?_; intro A95 c95 w395 hy hb; have Y95 := Aside0.mk hy; have n0 := Aside0.mk (J.out.below hb); clear J hy hb; have J := n0; clear n0) | ((with_reducible refine gate_dst (N := 96) rfl ?_); refine goesL_ (some 96) rfl rfl Tryz.func7 (by kernel_rfl) rfl #[.slice A95 s1.size c95] rfl (by (try simp only [List.map_toArray, List.map_cons, List.map_nil]); first | done | rfl) ?_; (refine (alike_calls ((HT.out.on J.out.b).mono J.out.b.size) Hs1.out.1 Hs1.out.2.1 Hs1.out.2.2.1 (Below.refl _ _) Y95.out).mono ?_); (rintro e w196 ⟨rfl, hb⟩; refine ⟨_, rfl, ?_⟩; have n0 := Aside0.mk (J.out.below hb); clear J hb; have J := n0; clear n0; rw [Ls1.out, Us1.out])) | ((with_reducible refine gate_dst (N := 102) rfl ?_); refine cv_event rfl rfl rfl ?_; intro A102 c102 w402 hy hb; have Y102 := Aside0.mk hy; have n0 := Aside0.mk (J.out.below hb); clear J hy hb; have J := n0; clear n0) | ((with_reducible refine gate_dst (N := 103) rfl ?_); refine goesL_ (some 103) rfl rfl Tryz.func7 (by kernel_rfl) rfl #[.slice A102 t1.size c102] rfl (by (try simp only [List.map_toArray, List.map_cons, List.map_nil]); first | done | rfl) ?_; (refine (alike_calls ((HT.out.on J.out.b).mono J.out.b.size) Ht1.out.1 Ht1.out.2.1 Ht1.out.2.2.1 (Below.refl _ _) Y102.out).mono ?_); (rintro e w203 ⟨rfl, hb⟩; refine ⟨_, rfl, ?_⟩; have n0 := Aside0.mk (J.out.below hb); clear J hb; have J := n0; clear n0; rw [Lt1.out, Ut1.out])) | ((with_reducible refine gate_dst (N := 110) rfl ?_); refine val_event rfl (.string st) ?hr ?_; (case hr => go_simp; rw [if_neg (by have := HSZ.out; omega), HST.out]; try rfl)) | ((with_reducible refine gate_dst (N := 111) rfl ?_); refine cv_event rfl rfl rfl ?_; intro A111 c111 w411 hy hb; have Y111 := Aside0.mk hy; have n0 := Aside0.mk (J.out.below hb); clear J hy hb; have J := n0; clear n0) | ((with_reducible refine gate_dst (N := 112) rfl ?_); refine goesL_ (some 112) rfl rfl Tryz.func7 (by kernel_rfl) rfl #[.slice A111 st.size c111] rfl (by (try simp only [List.map_toArray, List.map_cons, List.map_nil]); first | done | rfl) ?_; (refine (alike_calls ((HT.out.on J.out.b).mono J.out.b.size) Hst.out.1 Hst.out.2.1 Hst.out.2.2.1 (Below.refl _ _) Y111.out).mono ?_); (rintro e w212 ⟨rfl, hb⟩; refine ⟨_, rfl, ?_⟩; have n0 := Aside0.mk (J.out.below hb); clear J hb; have J := n0; clear n0; rw [Lst.out, Ust.out])) | ((with_reducible refine gate_dst (N := 156) rfl ?_); (refine gate_guard (by rfl) ?_; dsimp only); refine val_event rfl (.int .i64 (lc : Nat)) ?hr ?_; (case hr => first | (go_simp; done) | (go_simp; rw [i64_w]; assumption) | (go_simp; rfl))))
          go_loopg [25, 26] 31 (fun k' v25 v26 wr => ∃ (i a : Nat), v25 = .int .i64 (a : Int) ∧ v26 = .int .i64 (i : Int) ∧ Aside0 (k' + i = 31) ∧ Aside0 ((ka ++ kb).countP (fun k => decide (k < (i : Int))) = a) ∧ Aside0 (Jn w [(ad90, walkKs (formsN (fa ++ fb))), (ad82, walkKs (formsN fb)), (ad76, walkKs (formsN fa))] wr))
          case atStart => exact ⟨0, 0, rfl, rfl, ⟨rfl⟩, ⟨countP_zero _ HKA.out⟩, J⟩
          case round =>
            clear J
            obtain ⟨i, a, rfl, rfl, HK, HA, J⟩ := hrel
            by_cases hlt : i < 31
            · obtain ⟨pa, hpa⟩ : ∃ p, ka.count (i : Int) = p := ⟨_, rfl⟩
              obtain ⟨pb, hpb⟩ : ∃ p, kb.count (i : Int) = p := ⟨_, rfl⟩
              obtain ⟨pc, hpc⟩ : ∃ p, (ka ++ kb).count (i : Int) = p := ⟨_, rfl⟩
              have hpp : pa + pb = pc := by rw [← hpa, ← hpb, ← hpc, List.count_append]
              have ci1 := (J.out.k (ad76, walkKs (formsN fa)) (List.mem_cons_of_mem _ (List.mem_cons_of_mem _ List.mem_cons_self))).2 i hlt
              have ci2 := (J.out.k (ad82, walkKs (formsN fb)) (List.mem_cons_of_mem _ List.mem_cons_self)).2 i hlt
              have ci3 := (J.out.k (ad90, walkKs (formsN (fa ++ fb))) List.mem_cons_self).2 i hlt
              simp only [EKA.out, EKB.out, EKC.out, hpa, hpb, hpc] at ci1 ci2 ci3
              have hstep := countP_step (ka ++ kb) i
              rw [HA.out, hpc] at hstep
              obtain ⟨a2, ha2⟩ : ∃ a2, a + pc = a2 := ⟨_, rfl⟩
              have hle : a2 ≤ lc := by
                rw [← ha2, ← hstep, ← HKL.out]
                exact List.countP_le_length
              obtain ⟨q, hq⟩ : ∃ q, i + 1 = q := ⟨_, rfl⟩
              rw [ha2, hq] at hstep
              have hlc := HL16.out
              have e1 : wrap64 ((i : Int) + 1) = (q : Int) := by unfold wrap64; omega
              have e2 : wrap64 ((pa : Int) + (pb : Int)) = (pc : Int) := by unfold wrap64; omega
              have e3 : wrap64 ((a : Int) + (pc : Int)) = (a2 : Int) := by unfold wrap64; omega
              have HQ := Aside0.mk hq
              have HST2 := Aside0.mk hstep
              clear hpa hpb hpc hpp hstep ha2 hle hq
              go_upto_region 25 with fail
              refine start_ (n := 14) (S := fun W => W.cell? (ad76.add i) = some (.int .i64 (pa : Nat)) ∧ W.cell? (ad82.add i) = some (.int .i64 (pb : Nat)) ∧ W.cell? (ad90.add i) = some (.int .i64 (pc : Nat))) (ds := []) (bt 14 0) (by kernel_rfl) rfl (by kernel_rfl) (⟨bc (below_drew1 (Below.refl _ _)) ci1, bc (below_drew1 (Below.refl _ _)) ci2, bc (below_drew1 (Below.refl _ _)) ci3⟩) (fun hHeld => ?_)
              have n0 := Aside0.mk (J.out.below (below_drew1 (Below.refl _ _)))
              have ci4 := bc (below_drew1 (Below.refl _ _)) ci3
              clear J ci1 ci2 ci3
              have J := n0; clear n0
              refine pure_ (i := 0) (N := some 169) (bt 14 1) rfl rfl (any_of F3tab25 (by kernel_rfl)) (fun _ _ _ h => h) (Or.inl ⟨by rfl, by intro w'; go_simp; with_reducible rfl⟩) (by simp only [Act.put, pset]; rfl) ?_
              refine pure_ (i := 1) (N := some 170) (bt 14 3) rfl rfl (any_of F3tab25 (by kernel_rfl)) (fun _ _ _ h => h) (Or.inl ⟨by rfl, by intro w'; go_simp; with_reducible rfl⟩) (by simp only [Act.put, pset]; rfl) ?_
              refine pure_ (i := 2) (N := some 171) (bt 14 7) rfl rfl (any_of F3tab25 (by kernel_rfl)) (fun _ _ _ h => h) (Or.inl ⟨by rfl, by intro w'; go_simp; with_reducible rfl⟩) (by simp only [Act.put, pset]; rfl) ?_
              refine take_ (i := 3) (N := some 172) (bt 14 15) rfl rfl (take_of F3tab25 (by kernel_rfl)) (fun _ _ _ h => h) (Or.inl ⟨by rfl, by rintro w' ⟨s0, s1, s2⟩; go_simp; with_reducible rfl⟩) hHeld (by simp only [Act.put, pset]; rfl) ?_
              refine pure_ (i := 4) (N := some 173) (bt 14 31) rfl rfl (any_of F3tab25 (by kernel_rfl)) (fun _ _ _ h => h) (Or.inl ⟨by rfl, by intro w'; go_simp; with_reducible rfl⟩) (by simp only [Act.put, pset]; rfl) ?_
              refine pure_ (i := 5) (N := some 174) (bt 14 63) rfl rfl (any_of F3tab25 (by kernel_rfl)) (fun _ _ _ h => h) (Or.inl ⟨by rfl, by intro w'; go_simp; with_reducible rfl⟩) (by simp only [Act.put, pset]; rfl) ?_
              refine pure_ (i := 6) (N := some 175) (bt 14 127) rfl rfl (any_of F3tab25 (by kernel_rfl)) (fun _ _ _ h => h) (Or.inl ⟨by rfl, by intro w'; go_simp; with_reducible rfl⟩) (by simp only [Act.put, pset]; rfl) ?_
              refine take_ (i := 7) (N := some 176) (bt 14 255) rfl rfl (take_of F3tab25 (by kernel_rfl)) (fun _ _ _ h => h) (Or.inl ⟨by rfl, by rintro w' ⟨s0, s1, s2⟩; go_simp; with_reducible rfl⟩) hHeld (by simp only [Act.put, pset]; rfl) ?_
              refine pure_ (i := 8) (N := some 177) (bt 14 511) rfl rfl (any_of F3tab25 (by kernel_rfl)) (fun _ _ _ h => h) (Or.inl ⟨by rfl, by intro w'; go_simp; with_reducible rfl⟩) (by simp only [Act.put, pset]; rfl) ?_
              refine pure_ (i := 9) (N := some 178) (bt 14 1023) rfl rfl (any_of F3tab25 (by kernel_rfl)) (fun _ _ _ h => h) (Or.inl ⟨by rfl, by intro w'; go_simp; with_reducible rfl⟩) (by simp only [Act.put, pset]; rfl) ?_
              refine pure_ (i := 10) (N := some 179) (bt 14 2047) rfl rfl (any_of F3tab25 (by kernel_rfl)) (fun _ _ _ h => h) (Or.inl ⟨by rfl, by intro w'; go_simp; with_reducible rfl⟩) (by simp only [Act.put, pset]; rfl) ?_
              refine pure_ (i := 11) (N := some 180) (bt 14 4095) rfl rfl (any_of F3tab25 (by kernel_rfl)) (fun _ _ _ h => h) (Or.inl ⟨by rfl, by intro w'; go_simp; with_reducible rfl⟩) (by simp only [Act.put, pset]; rfl) ?_
              refine take_ (i := 12) (N := some 181) (bt 14 8191) rfl rfl (take_of F3tab25 (by kernel_rfl)) (fun _ _ _ h => h) (Or.inl ⟨by rfl, by rintro w' ⟨s0, s1, s2⟩; go_simp; with_reducible rfl⟩) hHeld (by simp only [Act.put, pset]; rfl) ?_
              refine pure_ (i := 13) (N := some 182) (bt 14 16383) rfl rfl (any_of F3tab25 (by kernel_rfl)) (fun _ _ _ h => h) (Or.inl ⟨by rfl, by intro w'; go_simp; with_reducible rfl⟩) (by simp only [Act.put, pset]; rfl) ?_
              refine done_ (done_of F3tab25 (by kernel_rfl)) ?_
              clear hHeld
              go_wp2_with (first | ((with_reducible refine gate_dst (N := 188) rfl ?_); refine val_event rfl (.int .i64 (a2 : Nat)) ?hr ?_; (case hr => first | (go_simp; done) | (go_simp; rw [i64_w]; assumption) | (go_simp; rfl))) | ((with_reducible refine gate_dst (N := 168) rfl ?_); refine val_event rfl (.int .i64 (q : Nat)) ?hr ?_; (case hr => first | (go_simp; done) | (go_simp; rw [i64_w]; assumption) | (go_simp; rfl))))
              go_roundg (gk - 1)
              case measure => have := HK.out; omega
              case rel => exact ⟨q, a2, rfl, rfl, ⟨by have := HK.out; have := HQ.out; omega⟩, HST2, J⟩
            · have hi : i = 31 := by have := HK.out; omega
              have ha : a = lc := by
                have h := HA.out
                rw [hi] at h
                rw [← h, countP_all _ HKA.out, HKL.out]
              subst hi ha
              go_wp2_with (first | ((with_reducible refine gate_dst (N := 189) rfl ?_); refine goesL_ (some 189) rfl rfl Tryz.func5 (by kernel_rfl) rfl #[] rfl (by (try simp only [List.map_toArray, List.map_cons, List.map_nil]); first | done | rfl) ?_; (refine (told_calls _ ((HT.out.on J.out.b).mono J.out.b.size)).mono ?_); (rintro e w289 ⟨rfl, hb⟩; refine ⟨_, rfl, ?_⟩; have n0 := Aside0.mk (J.out.below hb); clear J hb; have J := n0; clear n0)) | ((with_reducible refine gate_dst (N := 198) rfl ?_); (refine gate_guard (by rfl) ?_; dsimp only); refine val_event rfl (.string st) ?hr ?_; (case hr => go_simp; rw [if_neg (by have := HSZ.out; omega), HST.out]; try rfl)) | ((with_reducible refine gate_dst (N := 199) rfl ?_); (refine gate_guard (by rfl) ?_; dsimp only); refine cv_event rfl rfl rfl ?_; intro A199 c199 w499 hy hb; have Y199 := Aside0.mk hy; have n0 := Aside0.mk (J.out.below hb); clear J hy hb; have J := n0; clear n0) | ((with_reducible refine gate_dst (N := 200) rfl ?_); (refine gate_guard (by rfl) ?_; dsimp only); refine goesL_ (some 200) rfl rfl Tryz.func8 (by kernel_rfl) rfl #[.slice A199 st.size c199] rfl (by (try simp only [List.map_toArray, List.map_cons, List.map_nil]); first | done | rfl) ?_; (refine (widest_calls (Below.refl _ _) Y199.out Hst.out.2.2.2 (asc_of Hst.out.1)).mono ?_); (rintro e w300 ⟨rfl, hb⟩; refine ⟨_, rfl, ?_⟩; have n0 := Aside0.mk (J.out.below hb); clear J hb; have J := n0; clear n0; rw [Wst.out])) | ((with_reducible refine gate_dst (N := 202) rfl ?_); (refine gate_guard (by rfl) ?_; dsimp only); refine cv_event rfl rfl rfl ?_; intro A202 c202 w502 hy hb; have Y202 := Aside0.mk hy; have n0 := Aside0.mk (J.out.below hb); clear J hy hb; have J := n0; clear n0) | ((with_reducible refine gate_dst (N := 203) rfl ?_); (refine gate_guard (by rfl) ?_; dsimp only); refine goesL_ (some 203) rfl rfl Tryz.func8 (by kernel_rfl) rfl #[.slice A202 s1.size c202] rfl (by (try simp only [List.map_toArray, List.map_cons, List.map_nil]); first | done | rfl) ?_; (refine (widest_calls (Below.refl _ _) Y202.out Hs1.out.2.2.2 (asc_of Hs1.out.1)).mono ?_); (rintro e w303 ⟨rfl, hb⟩; refine ⟨_, rfl, ?_⟩; have n0 := Aside0.mk (J.out.below hb); clear J hb; have J := n0; clear n0; rw [Ws1.out])) | ((with_reducible refine gate_dst (N := 205) rfl ?_); (refine gate_guard (by rfl) ?_; dsimp only); refine cv_event rfl rfl rfl ?_; intro A205 c205 w505 hy hb; have Y205 := Aside0.mk hy; have n0 := Aside0.mk (J.out.below hb); clear J hy hb; have J := n0; clear n0) | ((with_reducible refine gate_dst (N := 206) rfl ?_); (refine gate_guard (by rfl) ?_; dsimp only); refine goesL_ (some 206) rfl rfl Tryz.func8 (by kernel_rfl) rfl #[.slice A205 t1.size c205] rfl (by (try simp only [List.map_toArray, List.map_cons, List.map_nil]); first | done | rfl) ?_; (refine (widest_calls (Below.refl _ _) Y205.out Ht1.out.2.2.2 (asc_of Ht1.out.1)).mono ?_); (rintro e w306 ⟨rfl, hb⟩; refine ⟨_, rfl, ?_⟩; have n0 := Aside0.mk (J.out.below hb); clear J hb; have J := n0; clear n0; have ci3 := (J.out.k (ad90, walkKs (formsN (fa ++ fb))) List.mem_cons_self).2 29 (by decide); have ci5 : w306.cell? ⟨ad90.block, ad90.off + 29, none⟩ = some (.int .i64 ((((walkKs (formsN (fa ++ fb))).count ((29 : Nat) : Int) : Nat)) : Int)) := (by rw [← show ad90.add 29 = ⟨ad90.block, ad90.off + 29, none⟩ from add_field ad90 0 29 (by omega)]; exact ci3); (obtain ⟨pn, hpn⟩ : ∃ p, (walkKs (formsN (fa ++ fb))).count ((29 : Nat) : Int) = p := ⟨_, rfl⟩); rw [hpn] at ci5; clear ci3 hpn; rw [Wt1.out])) | ((with_reducible refine gate_dst (N := 207) rfl ?_); (refine gate_guard (by rfl) ?_; dsimp only); refine val_event rfl (.int .i64 (wc : Nat)) (run_max rfl (p := (wa : Int)) (q := (wb : Int)) rfl e6) ?_))
              go_ret
              exact ⟨rfl, J.out.b⟩
end Go.Proofs.YthipodffpkglfaaGreatDoor.PS
namespace Go.Proofs.YthipodffpkglfaaGreatDoor.PS
open Go.RowKit Go.Proofs.YthipodffpkglfaaGreatDoorW.PrintWords Go.Proofs.YthipodffpkglfaaGreatDoorW.PrintLast Go.Proofs.YthipodffpkglfaaGreatDoorW.PrintMore
set_option linter.unusedVariables false
set_option linter.unusedSimpArgs false
theorem list_of {α : Type} {p : Nat → α → Prop} : ∀ n, (∀ i, i < n → ∃ x, p i x) → ∃ xs : List α, xs.length = n ∧ ∀ i x, xs[i]? = some x → p i x
  | 0, _ => ⟨[], rfl, fun i x h => by simp at h⟩
  | n + 1, h => by
    obtain ⟨xs, hl, hp⟩ := list_of n (fun i hi => h i (by omega))
    obtain ⟨y, hy⟩ := h n (by omega)
    refine ⟨xs ++ [y], by simp [hl], fun i x hx => ?_⟩
    rcases Nat.lt_or_ge i xs.length with hi | hi
    · rw [List.getElem?_append_left hi] at hx
      exact hp i x hx
    · rw [List.getElem?_append_right hi] at hx
      have h0 : i - xs.length = 0 := by
        rcases Nat.eq_zero_or_pos (i - xs.length) with h | h
        · exact h
        · rw [List.getElem?_eq_none (by simp; omega)] at hx; cases hx
      rw [h0] at hx
      have : y = x := by simpa using hx
      subst this
      have : i = n := by omega
      subst this
      exact hy
section
variable {H : Type} {enc : TypeId × Value → H} {W : World} {base : Nat} {sp : Nat → Bool} {hd : Bool}
theorem read_slice {α : Type} (d : Kd α) {t e : TypeId} (ht : Tryz.prog.underlying t = some (.slice e)) (hsz : Tryz.prog.cellsOf e = d.sz) {fuel : Nat} {cs : List Value} {x : DataW H × List MemPlace}
    (ih : ∀ n cs y, n < fuel → DataW.trod enc Tryz.prog W base sp hd n e cs = some y → ∃ z, d.K W z cs) (h : DataW.trod enc Tryz.prog W base sp hd fuel t cs = some x) :
    ∃ (xs : List α) (A : Option Addr) (cap : Nat), cs = [.slice A xs.length cap] ∧ xs.length ≤ cap ∧ d.C W A xs.length xs := by
  rcases DataW.trod_slice ht h with ⟨rfl, _⟩ | ⟨a, len, cap, elems, rest, n, hn, rfl, _, hb, hl, hm, hlen, hel, _, _⟩
  · exact ⟨[], none, 0, rfl, Nat.le_refl _, rfl, by simp, fun h => absurd h (Nat.lt_irrefl 0)⟩
  · obtain ⟨xs, hx, hp⟩ := list_of (α := α) (p := fun i z => ∃ cs', W.cells? base (a.add (i * Tryz.prog.cellsOf e)) (Tryz.prog.cellsOf e) = some cs' ∧ d.K W z cs') len (fun i hi => by
      have h1 := hel i hi
      rw [List.getElem?_eq_getElem (by omega)] at h1
      obtain ⟨cs', h2, h3⟩ := Option.bind_eq_some_iff.1 h1
      obtain ⟨z, hz⟩ := ih n cs' _ (by omega) h3
      exact ⟨z, cs', h2, hz⟩)
    subst hx
    refine ⟨xs, some a, cap, rfl, hl, rfl, by unfold maxLen at hm; omega, fun _ => ⟨a, rfl, fun j p hj => ?_⟩⟩
    obtain ⟨cs', h2, h3⟩ := hp j p hj
    obtain ⟨_, h4, h5⟩ := World.cells?_some h2
    refine ⟨cs', by rw [h4, hsz], h3, fun i u hu => ?_⟩
    have hi : i < cs'.length := (List.getElem?_eq_some_iff.1 hu).1
    have h6 := h5 i (by omega)
    rw [hu] at h6
    have h7 : (a.add (j * Tryz.prog.cellsOf e)).add i = a.add (j * d.sz + i) := by rw [hsz]; unfold Addr.add; by_cases h1 : j * d.sz = 0 <;> by_cases h2 : i = 0 <;> simp [h1, h2, Nat.add_assoc]
    rw [h7] at h6
    exact h6
variable {H : Type} {enc : TypeId × Value → H} {W : World} {base : Nat} {sp : Nat → Bool} {hd : Bool} {v : Value} {d : DataW H} {ps : List MemPlace}
theorem read_arg_sl {α : Type} (k : Kd α) {t e : TypeId} (ht : Tryz.prog.underlying t = some (.slice e)) (hsz : Tryz.prog.cellsOf e = k.sz) (ih : ∀ n cs y, DataW.trod enc Tryz.prog W base sp hd n e cs = some y → ∃ z, k.K W z cs)
    {A : Option Addr} {n c : Nat} (h : DataW.Trod enc Tryz.prog W base sp hd t (.slice A n c) d ps) : ∃ l : List α, n = l.length ∧ l.length ≤ c ∧ k.C W A l.length l := by
  obtain ⟨fuel, hf⟩ := h
  obtain ⟨l, A', c', hcs, q, g⟩ := read_slice k ht hsz (fun n cs y _ h => ih n cs y h) hf
  have h1 : [Value.slice A n c] = [Value.slice A' l.length c'] := hcs
  injection h1 with h1 _
  injection h1 with h1 h2 h3
  subst h1 h2 h3
  exact ⟨l, rfl, q, g⟩
theorem read_int {n : Nat} {cs : List Value} {y : DataW H × List MemPlace} (h : DataW.trod enc Tryz.prog W base sp hd n 3 cs = some y) : ∃ z, (Kd.int .i64).K W z cs := by
  obtain ⟨s, rfl, _, _⟩ := DataW.trod_int Tryz.underlying3 h
  exact ⟨s, rfl⟩
theorem read_arg_si {A : Option Addr} {n c t : Nat} (ht : Tryz.prog.underlying t = some (.slice 3)) (h : DataW.Trod enc Tryz.prog W base sp hd t (.slice A n c) d ps) : ∃ l : List Int, n = l.length ∧ l.length ≤ c ∧ Kd.C (Kd.int .i64) W A l.length l :=
  read_arg_sl (Kd.int .i64) ht (by kernel_rfl) (fun n cs y h => read_int h) h
end
end Go.Proofs.YthipodffpkglfaaGreatDoor.PS
