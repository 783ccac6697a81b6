/- RenderLines: the walk. -/
import Derived.Test.YtigihiggpfjbjaaHPl
namespace Go.Proofs.Ytigihiggpfjbjaa.PR
open Go.RowKit Go.Proofs.YtigihiggpfjbjaaW.PrintWords Go.Proofs.YtigihiggpfjbjaaW.PrintLast Go.Proofs.YtigihiggpfjbjaaW.PrintMore
set_option linter.unusedVariables false
set_option linter.unusedSimpArgs false
theorem lin_world {w : World} {B n N C : Nat} {ok : Nat → Prop} {V : Option Addr} {s : ByteArray} {r : List (Int × ByteArray)} (h : k24.R 24 w B ok (.slice V N C) (T1 s :: rowD r)) :
    Below w.heap.size w ((w.alloc (.cells #[.int .i64 6, .int .i64 (n : Int), .string (⟨#[]⟩ : ByteArray), .slice V N C] 24)).alloc (.cells #[.int .i64 7, .int .i64 0, .string (⟨#[]⟩ : ByteArray), .slice (some ⟨w.heap.size, 0, none⟩) 1 1] 24)) ∧ IvD ((w.alloc (.cells #[.int .i64 6, .int .i64 (n : Int), .string (⟨#[]⟩ : ByteArray), .slice V N C] 24)).alloc (.cells #[.int .i64 7, .int .i64 0, .string (⟨#[]⟩ : ByteArray), .slice (some ⟨w.heap.size, 0, none⟩) 1 1] 24)) ((w.alloc (.cells #[.int .i64 6, .int .i64 (n : Int), .string (⟨#[]⟩ : ByteArray), .slice V N C] 24)).alloc (.cells #[.int .i64 7, .int .i64 0, .string (⟨#[]⟩ : ByteArray), .slice (some ⟨w.heap.size, 0, none⟩) 1 1] 24)) (w.heap.size + 1) (linD n s r) (some ⟨w.heap.size, 0, none⟩) 1 := by
  obtain ⟨A, c, e, hc, hC⟩ := Kd.R_reads h
  injection e with e1 e2 e3
  subst e1 e2 e3
  have hb1 : Below w.heap.size w (w.alloc (.cells #[.int .i64 6, .int .i64 (n : Int), .string (⟨#[]⟩ : ByteArray), .slice V (T1 s :: rowD r).length C] 24)) := below_alloc (Below.refl _ _) _
  have hl := blk_new w (.cells #[.int .i64 6, .int .i64 (n : Int), .string (⟨#[]⟩ : ByteArray), .slice V (T1 s :: rowD r).length C] 24)
  have hz := alloc_size w (.cells #[.int .i64 6, .int .i64 (n : Int), .string (⟨#[]⟩ : ByteArray), .slice V (T1 s :: rowD r).length C] 24)
  have hC1 := Kd.C_below hC hb1
  generalize w.alloc (.cells #[.int .i64 6, .int .i64 (n : Int), .string (⟨#[]⟩ : ByteArray), .slice V (T1 s :: rowD r).length C] 24) = w1 at hb1 hl hC1 hz ⊢
  have hb2 : Below w1.heap.size w1 (w1.alloc (.cells #[.int .i64 7, .int .i64 0, .string (⟨#[]⟩ : ByteArray), .slice (some ⟨w.heap.size, 0, none⟩) 1 1] 24)) := below_alloc (Below.refl _ _) _
  have h4 := blk_new w1 (.cells #[.int .i64 7, .int .i64 0, .string (⟨#[]⟩ : ByteArray), .slice (some ⟨w.heap.size, 0, none⟩) 1 1] 24)
  rw [hz] at h4
  refine ⟨below_step hb1 hb2, Below.refl _ _, h4, ?_⟩
  exact ⟨C24_one (x := ⟨6, (n : Int), (⟨#[]⟩ : ByteArray), T1 s :: rowD r⟩) (A3 := V) (c3 := C) (blk_below hl hb2) ⟨Kd.C_below hC1 hb2, hc⟩, Nat.le_refl _⟩
/-- What came in: texts, numbers. -/
structure InL (w : World) (A : Option Addr) (c : Nat) (l : List ByteArray) (B : Option Addr) (d : Nat) (ks : List Int) : Prop where
  hl : Kd.C Kd.string w A l.length l
  hlc : l.length ≤ c
  hk : Kd.C (Kd.int .i64) w B ks.length ks
  hkc : ks.length ≤ d
theorem InL.text {w w' : World} {A B : Option Addr} {c d : Nat} {l : List ByteArray} {ks : List Int} (h : InL w A c l B d ks) (hb : Below w.heap.size w w') (i : Nat) (hi : i < l.length) : ∃ ad, A = some ad ∧ w'.cell? (ad.add i) = some (.string l[i]) := by
  obtain ⟨ad, e, q⟩ := text_at h.hl i hi
  exact ⟨ad, e, bc hb q⟩
theorem InL.kind {w w' : World} {A B : Option Addr} {c d : Nat} {l : List ByteArray} {ks : List Int} (h : InL w A c l B d ks) (hb : Below w.heap.size w w') (i : Nat) (hi : i < ks.length) : ∃ ad, B = some ad ∧ w'.cell? (ad.add i) = some (.int .i64 ks[i]) := by
  obtain ⟨ad, e, q⟩ := int_at h.hk i hi
  exact ⟨ad, e, bc hb q⟩
theorem leaf_row_ok {w : World} {g : Nat} {y : S24} (h : ReadsRow (fun (x : S24) (cs : List Value) => x = y ∧ cs = [.int .i64 y.f0, .int .i64 y.f1, .string y.f2, .slice none 0 0]) 4 w (some ⟨g, 0, none⟩) 1 [y]) : ReadsRow (fun (x : S24) (cs : List Value) => x = y ∧ cs = [.int .i64 y.f0, .int .i64 y.f1, .string y.f2, .slice none 0 0]) k24.sz w (some ⟨g, 0, none⟩) 1 [y] := h
theorem lines_of (T : ByteArray) {P : List Int} (h : Ev (fun k => galleyref1_Lines.f k T) (0 :: P)) (w : World) : Calls Try.prog 20 #[.string T] w fun e w' => ∃ v, e = .returned v ∧ Kd.R (Kd.int .i64) 3 w' w.heap.size (fun _ => True) v (0 :: P) ∧ Below w.heap.size w w' := by
  obtain ⟨k, hk⟩ := h.rounds
  exact galleyref1_Lines.calls k T _ w hk
theorem lines_row {w : World} {B np : Nat} {v : Value} {P : List Int} (h : Kd.R (Kd.int .i64) 3 w B (fun _ => True) v (0 :: P)) (hn : P.length = np) : ∃ A c, v = .slice A (np + 1) c ∧ np + 1 ≤ c ∧ ReadsInt w .i64 A (np + 1) (0 :: P) := by
  have ho := Kd.own_of_R h
  obtain ⟨A, c, e, hr⟩ := own_reads (k := .i64) (xs := 0 :: P) ho
  subst e
  have hl : (0 :: P).length = np + 1 := by rw [List.length_cons, hn]
  rw [hl] at ho hr
  exact ⟨A, c, by rw [hl], own_le ho, hr⟩
theorem cut_one (A : Option Addr) (c np : Nat) : ∃ A' : Option Addr, (∀ W : World, (Instr.slice 43 (.slice A (np + 1) c) (some (.int .i64 1)) none none).run Try.prog W = .ok (.slice A' np (c - 1)) W) ∧ ∀ (w : World) (xs : List Int), np + 1 ≤ c → ReadsInt w .i64 A (np + 1) (0 :: xs) → ReadsInt w .i64 A' np xs := by
  obtain ⟨i, hi, hs⟩ := Option.map_eq_some_iff.1 (show (Try.prog.info? 3).map (·.size) = some 1 by kernel_rfl)
  obtain ⟨A', h1, h2⟩ := print_cut (P := Try.prog) 43 3 .i64 Try.underlying43 hi hs A (np + 1) c 1 (by omega)
  exact ⟨A', h1, fun w xs hc hr => h2 w .i64 (0 :: xs) hc hr⟩
/-- What stands ahead of the text i. -/
def kndV (ks : List Int) (i : Nat) : Int := 2 + wrap64 ((IntKind.u64.wrap (ks.getD i 0)).tmod 3)
theorem kndV_ok (ks : List Int) (i : Nat) : kndV ks i = 2 ∨ kndV ks i = 3 ∨ kndV ks i = 4 := by
  obtain ⟨m, h1, h2⟩ := remU 3 (by decide) (by decide) (ks.getD i 0)
  have h2 : wrap64 ((IntKind.u64.wrap (ks.getD i 0)).tmod 3) = (m : Int) := h2
  unfold kndV
  rw [h2]
  omega
def txtV (l : List ByteArray) (i : Nat) : ByteArray := l.getD i ⟨#[]⟩
def okS (s : ByteArray) : Prop := ink (bytesOf s) ∧ s.size ≤ 20
section
variable {w : World} {A B : Option Addr} {c d : Nat} {l : List ByteArray} {ks : List Int} {nn wd : Int}
def LinesAt (w : World) (A : Option Addr) (c : Nat) (l : List ByteArray) (B : Option Addr) (d : Nat) (ks : List Int) (nn wd : Int) : Prop := Calls Try.prog 6 #[.slice A l.length c, .slice B ks.length d, .int .i64 nn, .int .i64 wd] w fun e w' => e = .returned (.bool true) ∧ Below w.heap.size w w'
set_option maxHeartbeats 8000000 in
set_option maxRecDepth 100000 in
theorem lines_no1 (hin : InL w A c l B d ks) (h : l.length < 1) : LinesAt w A c l B d ks nn wd := by
  have hu24 := Try.underlying24
  have hu22 := Try.underlying22
  have hu42 := Try.underlying42
  have hu43 := Try.underlying43
  have HIN := Aside0.mk hin
  have HB := Aside0.mk (Below.refl w.heap.size w)
  clear hin
  have b1 : decide ((l.length : Int) < 1) = true := decide_eq_true (by omega)
  clear h
  unfold LinesAt
  go_enter Try.func6, Try.ntmps6
  go_wp2_with (first | ((with_reducible refine gate_dst (N := 34) rfl ?_); refine goesL_ (some 34) rfl rfl Try.func10 (by kernel_rfl) rfl #[] rfl (by (try simp only [List.map_toArray, List.map_cons, List.map_nil]); first | done | rfl) ?_; (refine (told_calls _).mono ?_); (rintro e w134 ⟨rfl, hb⟩; refine ⟨_, rfl, ?_⟩; have n_ := Aside0.mk (below_step HB.out hb); clear HB hb; have HB := n_; clear n_)))
  go_ret
  exact ⟨rfl, HB.out⟩
set_option maxHeartbeats 8000000 in
set_option maxRecDepth 100000 in
theorem lines_no2 (hin : InL w A c l B d ks) (h : 12 < l.length) : LinesAt w A c l B d ks nn wd := by
  have hu24 := Try.underlying24
  have hu22 := Try.underlying22
  have hu42 := Try.underlying42
  have hu43 := Try.underlying43
  have HIN := Aside0.mk hin
  have HB := Aside0.mk (Below.refl w.heap.size w)
  clear hin
  have b1 : decide ((l.length : Int) < 1) = false := decide_eq_false (by omega)
  have b2 : decide ((12 : Int) < (l.length : Int)) = true := decide_eq_true (by omega)
  clear h
  unfold LinesAt
  go_enter Try.func6, Try.ntmps6
  go_wp2_with (first | ((with_reducible refine gate_dst (N := 34) rfl ?_); refine goesL_ (some 34) rfl rfl Try.func10 (by kernel_rfl) rfl #[] rfl (by (try simp only [List.map_toArray, List.map_cons, List.map_nil]); first | done | rfl) ?_; (refine (told_calls _).mono ?_); (rintro e w134 ⟨rfl, hb⟩; refine ⟨_, rfl, ?_⟩; have n_ := Aside0.mk (below_step HB.out hb); clear HB hb; have HB := n_; clear n_)))
  go_ret
  exact ⟨rfl, HB.out⟩
set_option maxHeartbeats 8000000 in
set_option maxRecDepth 100000 in
theorem lines_no3 (hin : InL w A c l B d ks) (h1 : 1 ≤ l.length) (h2 : l.length ≤ 12) (h : ks.length < l.length) : LinesAt w A c l B d ks nn wd := by
  have hu24 := Try.underlying24
  have hu22 := Try.underlying22
  have hu42 := Try.underlying42
  have hu43 := Try.underlying43
  have HIN := Aside0.mk hin
  have HB := Aside0.mk (Below.refl w.heap.size w)
  clear hin
  have b1 : decide ((l.length : Int) < 1) = false := decide_eq_false (by omega)
  have b2 : decide ((12 : Int) < (l.length : Int)) = false := decide_eq_false (by omega)
  have b3 : decide ((ks.length : Int) < (l.length : Int)) = true := decide_eq_true (by omega)
  clear h1 h2
  unfold LinesAt
  go_enter Try.func6, Try.ntmps6
  go_wp2_with (first | ((with_reducible refine gate_dst (N := 34) rfl ?_); refine goesL_ (some 34) rfl rfl Try.func10 (by kernel_rfl) rfl #[] rfl (by (try simp only [List.map_toArray, List.map_cons, List.map_nil]); first | done | rfl) ?_; (refine (told_calls _).mono ?_); (rintro e w134 ⟨rfl, hb⟩; refine ⟨_, rfl, ?_⟩; have n_ := Aside0.mk (below_step HB.out hb); clear HB hb; have HB := n_; clear n_)))
  go_ret
  exact ⟨rfl, HB.out⟩
set_option maxHeartbeats 8000000 in
set_option maxRecDepth 100000 in
theorem lines_main (hin : InL w A c l B d ks) (h1 : 1 ≤ l.length) (h2 : l.length ≤ 12) (h3 : l.length ≤ ks.length) : LinesAt w A c l B d ks nn wd := by
  have hu24 := Try.underlying24
  have hu22 := Try.underlying22
  have hu42 := Try.underlying42
  have hu43 := Try.underlying43
  have HIN := Aside0.mk hin
  have HB := Aside0.mk (Below.refl w.heap.size w)
  clear hin
  have b1 : decide ((l.length : Int) < 1) = false := decide_eq_false (by omega)
  have b2 : decide ((12 : Int) < (l.length : Int)) = false := decide_eq_false (by omega)
  have b3 : decide ((ks.length : Int) < (l.length : Int)) = false := decide_eq_false (by omega)
  have b3n : ¬ ks.length < l.length := by omega
  obtain ⟨n, hn21, hnv⟩ := remU 21 (by decide) (by decide) nn
  have hnv : (wrap64 ((IntKind.u64.wrap nn).tmod 21)) = (n : Int) := hnv
  have HNV := Aside0.mk hnv
  have hnI : (n : Int) < 21 := by omega
  clear hnv
  unfold LinesAt
  go_enter Try.func6, Try.ntmps6
  go_wp2_with (first | ((with_reducible refine gate_dst (N := 39) rfl ?_); refine lit_event ?hg (N := 39) ?hd (m := 0) (cs := #[]) (t := 24) ?hr ?_; (case hd => rfl); (case hg => rfl); (case hr => first | (go_simp; done) | (go_simp; rfl)); intro g0 hg w1 hbox hb; have HR := Aside0.mk (row_start (B := w.heap.size) (ok := (fun k => w.heap.size ≤ k)) hbox (hg ▸ Nat.le_refl _) (hg ▸ Nat.le_refl _)); have n_ := Aside0.mk (below_step HB.out hb); clear HB; have HB := n_; clear n_; clear hbox hb hg))
  rw [HNV.out]
  go_loopg [10, 11] l.length (fun k' v10 v11 wr => ∃ (i : Nat) (V : Option Addr) (N C : Nat), v11 = .int .i64 (i : Int) ∧ v10 = .slice V N C ∧ i ≤ l.length ∧ Aside0 (k' + i = l.length) ∧ Aside0 (k24.R 24 wr w.heap.size (fun k => w.heap.size ≤ k) (.slice V N C) (docsV (txtV l) (kndV ks) i)) ∧ Aside0 (∀ j, j < i → okS (txtV l j)) ∧ Aside0 (Below w.heap.size w wr))
  case atStart => exact ⟨0, _, 0, 0, rfl, rfl, Nat.zero_le _, ⟨rfl⟩, HR, ⟨fun j hj => absurd hj (Nat.not_lt_zero _)⟩, HB⟩
  case round =>
    clear HR HB
    obtain ⟨i, V, N, C, rfl, rfl, hi, HK, HR, HOK, HB⟩ := hrel
    by_cases hlt : i < l.length
    · obtain ⟨ad, e0, q0⟩ := HIN.out.text HB.out i hlt
      subst e0
      have HTX := Aside0.mk (show txtV l i = l[i] from by unfold txtV; simp [List.getD_eq_getElem?_getD, hlt])
      obtain ⟨s, hs⟩ : ∃ s, l[i] = s := ⟨_, rfl⟩
      rw [hs] at q0 HTX
      have HS := Aside0.mk hs
      clear hs
      by_cases hs20 : 20 < s.size
      · have bs : decide ((20 : Int) < (s.size : Int)) = true := decide_eq_true (by omega)
        go_wp2_with (first | ((with_reducible refine gate_dst (N := 59) rfl ?_); refine goesL_ (some 59) rfl rfl Try.func10 (by kernel_rfl) rfl #[] rfl (by (try simp only [List.map_toArray, List.map_cons, List.map_nil]); first | done | rfl) ?_; (refine (told_calls _).mono ?_); (rintro e w159 ⟨rfl, hb⟩; refine ⟨_, rfl, ?_⟩; have n_ := Aside0.mk (below_step HB.out hb); clear HB hb; have HB := n_; clear n_)))
        go_ret
        exact ⟨rfl, HB.out⟩
      have bs : decide ((20 : Int) < (s.size : Int)) = false := decide_eq_false (by omega)
      have hs20' : s.size ≤ 20 := by omega
      by_cases he0 : s.toList.isEmpty = true
      · go_wp2_with (first | ((with_reducible refine gate_dst (N := 59) rfl ?_); refine goesL_ (some 59) rfl rfl Try.func10 (by kernel_rfl) rfl #[] rfl (by (try simp only [List.map_toArray, List.map_cons, List.map_nil]); first | done | rfl) ?_; (refine (told_calls _).mono ?_); (rintro e w159 ⟨rfl, hb⟩; refine ⟨_, rfl, ?_⟩; have n_ := Aside0.mk (below_step HB.out hb); clear HB hb; have HB := n_; clear n_)))
        go_ret
        exact ⟨rfl, HB.out⟩
      have he : s.toList.isEmpty = false := by simpa using he0
      have HE := Aside0.mk he
      clear he0
      go_wp2_with fail
      go_loopg [12] s.size (fun k2 v12 w2 => ∃ (j : Nat), v12 = .int .i64 (j : Int) ∧ j ≤ s.size ∧ Aside0 (k2 + j = s.size) ∧ Aside0 (∀ t : Nat, t < j → 32 < bt s (t : Int) ∧ bt s (t : Int) ≤ 126) ∧ Aside0 (k24.R 24 w2 w.heap.size (fun k => w.heap.size ≤ k) (.slice V N C) (docsV (txtV l) (kndV ks) i)) ∧ Aside0 (Below w.heap.size w w2))
      case atStart => exact ⟨0, rfl, Nat.zero_le _, ⟨rfl⟩, ⟨fun t ht => absurd ht (Nat.not_lt_zero _)⟩, HR, HB⟩
      case round =>
        clear HR HB q0
        obtain ⟨j, rfl, hj, HK2, HIK, HR, HB⟩ := hrel
        obtain ⟨ad_, e0, q0⟩ := HIN.out.text HB.out i hlt
        cases e0
        rw [HS.out] at q0
        by_cases hlt2 : j < s.size
        · have hx6 : ∀ h : j < s.size, ((s[j]'h).toNat : Int) = bt s (j : Int) := bt_at s (j : Int)
          by_cases c1 : bt s (j : Int) ≤ 32
          · have c1b : decide (bt s (j : Int) ≤ 32) = true := decide_eq_true c1
            go_wp2_with (first | ((with_reducible refine gate_dst (N := 85) rfl ?_); refine goesL_ (some 85) rfl rfl Try.func10 (by kernel_rfl) rfl #[] rfl (by (try simp only [List.map_toArray, List.map_cons, List.map_nil]); first | done | rfl) ?_; (refine (told_calls _).mono ?_); (rintro e w185 ⟨rfl, hb⟩; refine ⟨_, rfl, ?_⟩; have n_ := Aside0.mk (below_step HB.out hb); clear HB hb; have HB := n_; clear n_)))
            go_ret
            exact ⟨rfl, HB.out⟩
          · have c1b : decide (bt s (j : Int) ≤ 32) = false := decide_eq_false c1
            by_cases c2 : 126 < bt s (j : Int)
            · have c2b : decide (126 < bt s (j : Int)) = true := decide_eq_true c2
              go_wp2_with (first | ((with_reducible refine gate_dst (N := 85) rfl ?_); refine goesL_ (some 85) rfl rfl Try.func10 (by kernel_rfl) rfl #[] rfl (by (try simp only [List.map_toArray, List.map_cons, List.map_nil]); first | done | rfl) ?_; (refine (told_calls _).mono ?_); (rintro e w185 ⟨rfl, hb⟩; refine ⟨_, rfl, ?_⟩; have n_ := Aside0.mk (below_step HB.out hb); clear HB hb; have HB := n_; clear n_)))
              go_ret
              exact ⟨rfl, HB.out⟩
            · have c2b : decide (126 < bt s (j : Int)) = false := decide_eq_false c2
              go_wp2_with fail
              go_roundg (s.size - (j + 1))
              case measure => have := HK2.out; omega
              case rel => exact ⟨j + 1, by go_num, by omega, ⟨by omega⟩, ⟨fun t ht => by
                rcases Nat.lt_or_ge t j with h | h
                · exact HIK.out t h
                · obtain rfl : t = j := by omega
                  exact ⟨by omega, by omega⟩⟩, HR, HB⟩
        · obtain rfl : j = s.size := by omega
          have HNS := Aside0.mk (show okS (txtV l i) from by
            rw [HTX.out]
            refine ⟨ink_of s ?_ HIK.out, hs20'⟩
            rcases Nat.eq_zero_or_pos s.size with h | h
            · have h9 := HE.out
              have h8 : s = (⟨#[]⟩ : ByteArray) := by
                obtain ⟨⟨ls⟩⟩ := s
                cases ls with
                | nil => rfl
                | cons a r => simp [ByteArray.size] at h
              rw [h8, emp_toList] at h9
              cases h9
            · exact h)
          have HOK2 := Aside0.mk (show ∀ j, j < i + 1 → okS (txtV l j) from fun j hj => by
            rcases Nat.lt_or_ge j i with h | h
            · exact HOK.out j h
            · obtain rfl : j = i := by omega
              exact HNS.out)
          have HDL := Aside0.mk (docsV_len (txtV l) (kndV ks) i)
          clear HIK HK2 HNS HOK
          have hi12 : i < 12 := by omega
          by_cases hi0 : i = 0
          · have bi0 : decide ((0 : Int) < (i : Int)) = false := decide_eq_false (by omega)
            have bi1 : (0 < i) = False := eq_false (by omega)
            have HI0 := Aside0.mk hi0
            clear hi0
            go_wp2_with (first | ((with_reducible refine gate_dst (N := 108) rfl ?_); refine lit_event ?hg (N := 108) ?hd (m := 1) (cs := #[.int .i64 1, .int .i64 0, .string s, .slice none 0 0]) (t := 24) ?hr ?_; (case hd => rfl); (case hg => rfl); (case hr => first | (go_simp; done) | (go_simp; rfl)); intro gl108 hg w108 hbox hb; have HL := Aside0.mk (leaf_row (y := (T1 s)) hbox); have m1 := Aside0.mk (Kd.R_below HR.out hb); have m2 := Aside0.mk (below_step HB.out hb); have q2 := bc hb q0; clear q0; have q0 := q2; clear q2; clear HR HB; have HR := m1; have HB := m2; clear m1 m2; clear hbox hb hg) | ((with_reducible refine gate_dst (N := 109) rfl ?_); refine Kd.R_append_rows k24 (w0 := w) w.heap.size rfl (.tmp 102) (.tmp 108) 22 24 (.agg #[.int .i64 0, .int .i64 0, .string (⟨#[]⟩ : ByteArray), .slice none 0 0]) 56 rfl Try.underlying22 info24 rfl (by decide) (by decide) (.slice V N C) (docsV (txtV l) (kndV ks) i) [(T1 s)] (some ⟨gl108, 0, none⟩) 1 1 (fun k => w.heap.size ≤ k) (fun _ => False) rfl rfl HR.out (leaf_row_ok HL.out) (leaf_M rfl) (fun _ h => h.elim) (fun k hk => Nat.le_trans HB.out.size hk) HB.out HB.out.size (by have := HDL.out; (try simp only [List.length_append, List.length_cons, List.length_nil]); omega) ?_; intro v_ w109 hR_ hB_ hg_ hat_; obtain ⟨A9, c9, ev_⟩ := Kd.R_slice hR_; obtain ⟨n9, hn_⟩ : ∃ n, (docsV (txtV l) (kndV ks) i ++ [(T1 s)]).length = n := ⟨_, rfl⟩; rw [hn_] at ev_; subst ev_; have HR9 := Aside0.mk hR_; clear HB HR HL hR_ hg_ hat_ hn_; have HB := Aside0.mk hB_; clear hB_))
            go_roundg (l.length - (i + 1))
            case measure => have := HK.out; omega
            case rel => exact ⟨i + 1, A9, n9, c9, by go_num, rfl, by omega, ⟨by omega⟩, ⟨by rw [docsV, if_pos HI0.out, HTX.out]; exact HR9.out⟩, HOK2, HB⟩
          · have hi00 : 0 < i := by omega
            have bi0 : decide ((0 : Int) < (i : Int)) = true := decide_eq_true (by omega)
            obtain ⟨bd, e1, q1⟩ := HIN.out.kind HB.out i (by omega)
            subst e1
            obtain ⟨kk, hkk⟩ : ∃ k, ks[i]'(by omega) = k := ⟨_, rfl⟩
            rw [hkk] at q1
            have HKV := Aside0.mk (show kndV ks i = 2 + wrap64 ((IntKind.u64.wrap kk).tmod 3) from by unfold kndV; rw [List.getD_eq_getElem?_getD, List.getElem?_eq_getElem (by omega), hkk]; rfl)
            clear hkk
            have hik : i < ks.length := by omega
            obtain ⟨m, hm3, hmv⟩ := remU 3 (by decide) (by decide) kk
            have hmv : wrap64 ((IntKind.u64.wrap kk).tmod 3) = (m : Int) := hmv
            have hm4 : m = 0 ∨ m = 1 ∨ m = 2 := by omega
            clear hm3
            rcases hm4 with rfl | rfl | rfl
            · go_wp2_with (first | ((with_reducible refine gate_dst (N := 89) rfl ?_); refine lit_event ?hg (N := 89) ?hd (m := 3) (cs := #[.int .i64 2, .int .i64 3, .int .i64 4]) (t := 3) ?hr ?_; (case hd => rfl); (case hg => rfl); (case hr => first | (go_simp; done) | (go_simp; rfl)); intro g89 hg w89 hbox hb; have m1 := Aside0.mk (Kd.R_below HR.out hb); have m2 := Aside0.mk (below_step HB.out hb); have q2 := bc hb q0; have q3 := bc hb q1; clear HR HB q0 q1; have HR := m1; have HB := m2; have q0 := q2; have q1 := q3; clear m1 m2 q2 q3; have z89 : w89.cell? ⟨g89, 0, none⟩ = some (.int .i64 2) := (blk_cell hbox 0).trans rfl; clear hbox hb hg) | ((with_reducible refine gate_dst (N := 100) rfl ?_); refine lit_event ?hg (N := 100) ?hd (m := 1) (cs := #[.int .i64 2, .int .i64 0, .string (⟨#[]⟩ : ByteArray), .slice none 0 0]) (t := 24) ?hr ?_; (case hd => rfl); (case hg => rfl); (case hr => first | (go_simp; done) | (go_simp; rfl)); intro gl100 hg w100 hbox hb; have HL := Aside0.mk (leaf_row (y := (K1 2)) hbox); have m1 := Aside0.mk (Kd.R_below HR.out hb); have m2 := Aside0.mk (below_step HB.out hb); have q2 := bc hb q0; clear q0 q1 z89; have q0 := q2; clear q2; clear HR HB; have HR := m1; have HB := m2; clear m1 m2; clear hbox hb hg) | ((with_reducible refine gate_dst (N := 101) rfl ?_); refine Kd.R_append_rows k24 (w0 := w) w.heap.size rfl (.tmp 88) (.tmp 100) 22 24 (.agg #[.int .i64 0, .int .i64 0, .string (⟨#[]⟩ : ByteArray), .slice none 0 0]) 56 rfl Try.underlying22 info24 rfl (by decide) (by decide) (.slice V N C) (docsV (txtV l) (kndV ks) i) [(K1 2)] (some ⟨gl100, 0, none⟩) 1 1 (fun k => w.heap.size ≤ k) (fun _ => False) rfl rfl HR.out (leaf_row_ok HL.out) (leaf_M rfl) (fun _ h => h.elim) (fun k hk => Nat.le_trans HB.out.size hk) HB.out HB.out.size (by have := HDL.out; (try simp only [List.length_append, List.length_cons, List.length_nil]); omega) ?_; intro v_ w101 hR_ hB_ hg_ hat_; obtain ⟨A8, c8, ev_⟩ := Kd.R_slice hR_; obtain ⟨n8, hn_⟩ : ∃ n, (docsV (txtV l) (kndV ks) i ++ [(K1 2)]).length = n := ⟨_, rfl⟩; rw [hn_] at ev_; subst ev_; have HR8 := Aside0.mk hR_; obtain ⟨ad_, e9, q9⟩ := HIN.out.text hB_ i hlt; cases e9; rw [HS.out] at q9; clear q0; have q0 := q9; clear q9; clear HB HR HL hR_ hg_ hat_ hn_; have HB := Aside0.mk hB_; clear hB_) | ((with_reducible refine gate_dst (N := 108) rfl ?_); refine lit_event ?hg (N := 108) ?hd (m := 1) (cs := #[.int .i64 1, .int .i64 0, .string s, .slice none 0 0]) (t := 24) ?hr ?_; (case hd => rfl); (case hg => rfl); (case hr => first | (go_simp; done) | (go_simp; rfl)); intro gl108 hg w108 hbox hb; have HL := Aside0.mk (leaf_row (y := (T1 s)) hbox); have m1 := Aside0.mk (Kd.R_below HR8.out hb); have m2 := Aside0.mk (below_step HB.out hb); have q2 := bc hb q0; clear q0; have q0 := q2; clear q2; clear HR8 HB; have HR8 := m1; have HB := m2; clear m1 m2; clear hbox hb hg) | ((with_reducible refine gate_dst (N := 109) rfl ?_); refine Kd.R_append_rows k24 (w0 := w) w.heap.size rfl (.tmp 102) (.tmp 108) 22 24 (.agg #[.int .i64 0, .int .i64 0, .string (⟨#[]⟩ : ByteArray), .slice none 0 0]) 56 rfl Try.underlying22 info24 rfl (by decide) (by decide) (.slice A8 n8 c8) (docsV (txtV l) (kndV ks) i ++ [K1 2]) [(T1 s)] (some ⟨gl108, 0, none⟩) 1 1 (fun k => w.heap.size ≤ k) (fun _ => False) rfl rfl HR8.out (leaf_row_ok HL.out) (leaf_M rfl) (fun _ h => h.elim) (fun k hk => Nat.le_trans HB.out.size hk) HB.out HB.out.size (by have := HDL.out; (try simp only [List.length_append, List.length_cons, List.length_nil]); omega) ?_; intro v_ w109 hR_ hB_ hg_ hat_; obtain ⟨A9, c9, ev_⟩ := Kd.R_slice hR_; obtain ⟨n9, hn_⟩ : ∃ n, (docsV (txtV l) (kndV ks) i ++ [K1 2] ++ [(T1 s)]).length = n := ⟨_, rfl⟩; rw [hn_] at ev_; subst ev_; have HR9 := Aside0.mk hR_; clear HB HR8 HL hR_ hg_ hat_ hn_; have HB := Aside0.mk hB_; clear hB_))
              go_roundg (l.length - (i + 1))
              case measure => have := HK.out; omega
              case rel => exact ⟨i + 1, A9, n9, c9, by go_num, rfl, by omega, ⟨by omega⟩, ⟨by
                have ek : kndV ks i = 2 := by rw [HKV.out, hmv]; rfl
                rw [docsV, if_neg (by omega), HTX.out, ek]
                have h9 := HR9.out
                rw [List.append_assoc] at h9
                exact h9⟩, HOK2, HB⟩
            · go_wp2_with (first | ((with_reducible refine gate_dst (N := 89) rfl ?_); refine lit_event ?hg (N := 89) ?hd (m := 3) (cs := #[.int .i64 2, .int .i64 3, .int .i64 4]) (t := 3) ?hr ?_; (case hd => rfl); (case hg => rfl); (case hr => first | (go_simp; done) | (go_simp; rfl)); intro g89 hg w89 hbox hb; have m1 := Aside0.mk (Kd.R_below HR.out hb); have m2 := Aside0.mk (below_step HB.out hb); have q2 := bc hb q0; have q3 := bc hb q1; clear HR HB q0 q1; have HR := m1; have HB := m2; have q0 := q2; have q1 := q3; clear m1 m2 q2 q3; have z89 : w89.cell? ⟨g89, 1, none⟩ = some (.int .i64 3) := (blk_cell hbox 1).trans rfl; clear hbox hb hg) | ((with_reducible refine gate_dst (N := 100) rfl ?_); refine lit_event ?hg (N := 100) ?hd (m := 1) (cs := #[.int .i64 3, .int .i64 0, .string (⟨#[]⟩ : ByteArray), .slice none 0 0]) (t := 24) ?hr ?_; (case hd => rfl); (case hg => rfl); (case hr => first | (go_simp; done) | (go_simp; rfl)); intro gl100 hg w100 hbox hb; have HL := Aside0.mk (leaf_row (y := (K1 3)) hbox); have m1 := Aside0.mk (Kd.R_below HR.out hb); have m2 := Aside0.mk (below_step HB.out hb); have q2 := bc hb q0; clear q0 q1 z89; have q0 := q2; clear q2; clear HR HB; have HR := m1; have HB := m2; clear m1 m2; clear hbox hb hg) | ((with_reducible refine gate_dst (N := 101) rfl ?_); refine Kd.R_append_rows k24 (w0 := w) w.heap.size rfl (.tmp 88) (.tmp 100) 22 24 (.agg #[.int .i64 0, .int .i64 0, .string (⟨#[]⟩ : ByteArray), .slice none 0 0]) 56 rfl Try.underlying22 info24 rfl (by decide) (by decide) (.slice V N C) (docsV (txtV l) (kndV ks) i) [(K1 3)] (some ⟨gl100, 0, none⟩) 1 1 (fun k => w.heap.size ≤ k) (fun _ => False) rfl rfl HR.out (leaf_row_ok HL.out) (leaf_M rfl) (fun _ h => h.elim) (fun k hk => Nat.le_trans HB.out.size hk) HB.out HB.out.size (by have := HDL.out; (try simp only [List.length_append, List.length_cons, List.length_nil]); omega) ?_; intro v_ w101 hR_ hB_ hg_ hat_; obtain ⟨A8, c8, ev_⟩ := Kd.R_slice hR_; obtain ⟨n8, hn_⟩ : ∃ n, (docsV (txtV l) (kndV ks) i ++ [(K1 3)]).length = n := ⟨_, rfl⟩; rw [hn_] at ev_; subst ev_; have HR8 := Aside0.mk hR_; obtain ⟨ad_, e9, q9⟩ := HIN.out.text hB_ i hlt; cases e9; rw [HS.out] at q9; clear q0; have q0 := q9; clear q9; clear HB HR HL hR_ hg_ hat_ hn_; have HB := Aside0.mk hB_; clear hB_) | ((with_reducible refine gate_dst (N := 108) rfl ?_); refine lit_event ?hg (N := 108) ?hd (m := 1) (cs := #[.int .i64 1, .int .i64 0, .string s, .slice none 0 0]) (t := 24) ?hr ?_; (case hd => rfl); (case hg => rfl); (case hr => first | (go_simp; done) | (go_simp; rfl)); intro gl108 hg w108 hbox hb; have HL := Aside0.mk (leaf_row (y := (T1 s)) hbox); have m1 := Aside0.mk (Kd.R_below HR8.out hb); have m2 := Aside0.mk (below_step HB.out hb); have q2 := bc hb q0; clear q0; have q0 := q2; clear q2; clear HR8 HB; have HR8 := m1; have HB := m2; clear m1 m2; clear hbox hb hg) | ((with_reducible refine gate_dst (N := 109) rfl ?_); refine Kd.R_append_rows k24 (w0 := w) w.heap.size rfl (.tmp 102) (.tmp 108) 22 24 (.agg #[.int .i64 0, .int .i64 0, .string (⟨#[]⟩ : ByteArray), .slice none 0 0]) 56 rfl Try.underlying22 info24 rfl (by decide) (by decide) (.slice A8 n8 c8) (docsV (txtV l) (kndV ks) i ++ [K1 3]) [(T1 s)] (some ⟨gl108, 0, none⟩) 1 1 (fun k => w.heap.size ≤ k) (fun _ => False) rfl rfl HR8.out (leaf_row_ok HL.out) (leaf_M rfl) (fun _ h => h.elim) (fun k hk => Nat.le_trans HB.out.size hk) HB.out HB.out.size (by have := HDL.out; (try simp only [List.length_append, List.length_cons, List.length_nil]); omega) ?_; intro v_ w109 hR_ hB_ hg_ hat_; obtain ⟨A9, c9, ev_⟩ := Kd.R_slice hR_; obtain ⟨n9, hn_⟩ : ∃ n, (docsV (txtV l) (kndV ks) i ++ [K1 3] ++ [(T1 s)]).length = n := ⟨_, rfl⟩; rw [hn_] at ev_; subst ev_; have HR9 := Aside0.mk hR_; clear HB HR8 HL hR_ hg_ hat_ hn_; have HB := Aside0.mk hB_; clear hB_))
              go_roundg (l.length - (i + 1))
              case measure => have := HK.out; omega
              case rel => exact ⟨i + 1, A9, n9, c9, by go_num, rfl, by omega, ⟨by omega⟩, ⟨by
                have ek : kndV ks i = 3 := by rw [HKV.out, hmv]; rfl
                rw [docsV, if_neg (by omega), HTX.out, ek]
                have h9 := HR9.out
                rw [List.append_assoc] at h9
                exact h9⟩, HOK2, HB⟩
            · go_wp2_with (first | ((with_reducible refine gate_dst (N := 89) rfl ?_); refine lit_event ?hg (N := 89) ?hd (m := 3) (cs := #[.int .i64 2, .int .i64 3, .int .i64 4]) (t := 3) ?hr ?_; (case hd => rfl); (case hg => rfl); (case hr => first | (go_simp; done) | (go_simp; rfl)); intro g89 hg w89 hbox hb; have m1 := Aside0.mk (Kd.R_below HR.out hb); have m2 := Aside0.mk (below_step HB.out hb); have q2 := bc hb q0; have q3 := bc hb q1; clear HR HB q0 q1; have HR := m1; have HB := m2; have q0 := q2; have q1 := q3; clear m1 m2 q2 q3; have z89 : w89.cell? ⟨g89, 2, none⟩ = some (.int .i64 4) := (blk_cell hbox 2).trans rfl; clear hbox hb hg) | ((with_reducible refine gate_dst (N := 100) rfl ?_); refine lit_event ?hg (N := 100) ?hd (m := 1) (cs := #[.int .i64 4, .int .i64 0, .string (⟨#[]⟩ : ByteArray), .slice none 0 0]) (t := 24) ?hr ?_; (case hd => rfl); (case hg => rfl); (case hr => first | (go_simp; done) | (go_simp; rfl)); intro gl100 hg w100 hbox hb; have HL := Aside0.mk (leaf_row (y := (K1 4)) hbox); have m1 := Aside0.mk (Kd.R_below HR.out hb); have m2 := Aside0.mk (below_step HB.out hb); have q2 := bc hb q0; clear q0 q1 z89; have q0 := q2; clear q2; clear HR HB; have HR := m1; have HB := m2; clear m1 m2; clear hbox hb hg) | ((with_reducible refine gate_dst (N := 101) rfl ?_); refine Kd.R_append_rows k24 (w0 := w) w.heap.size rfl (.tmp 88) (.tmp 100) 22 24 (.agg #[.int .i64 0, .int .i64 0, .string (⟨#[]⟩ : ByteArray), .slice none 0 0]) 56 rfl Try.underlying22 info24 rfl (by decide) (by decide) (.slice V N C) (docsV (txtV l) (kndV ks) i) [(K1 4)] (some ⟨gl100, 0, none⟩) 1 1 (fun k => w.heap.size ≤ k) (fun _ => False) rfl rfl HR.out (leaf_row_ok HL.out) (leaf_M rfl) (fun _ h => h.elim) (fun k hk => Nat.le_trans HB.out.size hk) HB.out HB.out.size (by have := HDL.out; (try simp only [List.length_append, List.length_cons, List.length_nil]); omega) ?_; intro v_ w101 hR_ hB_ hg_ hat_; obtain ⟨A8, c8, ev_⟩ := Kd.R_slice hR_; obtain ⟨n8, hn_⟩ : ∃ n, (docsV (txtV l) (kndV ks) i ++ [(K1 4)]).length = n := ⟨_, rfl⟩; rw [hn_] at ev_; subst ev_; have HR8 := Aside0.mk hR_; obtain ⟨ad_, e9, q9⟩ := HIN.out.text hB_ i hlt; cases e9; rw [HS.out] at q9; clear q0; have q0 := q9; clear q9; clear HB HR HL hR_ hg_ hat_ hn_; have HB := Aside0.mk hB_; clear hB_) | ((with_reducible refine gate_dst (N := 108) rfl ?_); refine lit_event ?hg (N := 108) ?hd (m := 1) (cs := #[.int .i64 1, .int .i64 0, .string s, .slice none 0 0]) (t := 24) ?hr ?_; (case hd => rfl); (case hg => rfl); (case hr => first | (go_simp; done) | (go_simp; rfl)); intro gl108 hg w108 hbox hb; have HL := Aside0.mk (leaf_row (y := (T1 s)) hbox); have m1 := Aside0.mk (Kd.R_below HR8.out hb); have m2 := Aside0.mk (below_step HB.out hb); have q2 := bc hb q0; clear q0; have q0 := q2; clear q2; clear HR8 HB; have HR8 := m1; have HB := m2; clear m1 m2; clear hbox hb hg) | ((with_reducible refine gate_dst (N := 109) rfl ?_); refine Kd.R_append_rows k24 (w0 := w) w.heap.size rfl (.tmp 102) (.tmp 108) 22 24 (.agg #[.int .i64 0, .int .i64 0, .string (⟨#[]⟩ : ByteArray), .slice none 0 0]) 56 rfl Try.underlying22 info24 rfl (by decide) (by decide) (.slice A8 n8 c8) (docsV (txtV l) (kndV ks) i ++ [K1 4]) [(T1 s)] (some ⟨gl108, 0, none⟩) 1 1 (fun k => w.heap.size ≤ k) (fun _ => False) rfl rfl HR8.out (leaf_row_ok HL.out) (leaf_M rfl) (fun _ h => h.elim) (fun k hk => Nat.le_trans HB.out.size hk) HB.out HB.out.size (by have := HDL.out; (try simp only [List.length_append, List.length_cons, List.length_nil]); omega) ?_; intro v_ w109 hR_ hB_ hg_ hat_; obtain ⟨A9, c9, ev_⟩ := Kd.R_slice hR_; obtain ⟨n9, hn_⟩ : ∃ n, (docsV (txtV l) (kndV ks) i ++ [K1 4] ++ [(T1 s)]).length = n := ⟨_, rfl⟩; rw [hn_] at ev_; subst ev_; have HR9 := Aside0.mk hR_; clear HB HR8 HL hR_ hg_ hat_ hn_; have HB := Aside0.mk hB_; clear hB_))
              go_roundg (l.length - (i + 1))
              case measure => have := HK.out; omega
              case rel => exact ⟨i + 1, A9, n9, c9, by go_num, rfl, by omega, ⟨by omega⟩, ⟨by
                have ek : kndV ks i = 4 := by rw [HKV.out, hmv]; rfl
                rw [docsV, if_neg (by omega), HTX.out, ek]
                have h9 := HR9.out
                rw [List.append_assoc] at h9
                exact h9⟩, HOK2, HB⟩
    · obtain rfl : i = l.length := by omega
      obtain ⟨p, hp⟩ : ∃ p, l.length = p + 1 := ⟨l.length - 1, by omega⟩
      have HP := Aside0.mk hp
      have IT := Aside0.mk (itemsV_ok (sF := txtV l) (kF := kndV ks) (n := l.length) HOK.out (kndV_ok ks) p (by omega))
      have H0 := Aside0.mk (HOK.out 0 (by omega))
      obtain ⟨r, hr⟩ : ∃ r, itemsV (txtV l) (kndV ks) p = r := ⟨_, rfl⟩
      have HRD := Aside0.mk (show docsV (txtV l) (kndV ks) l.length = T1 (txtV l 0) :: rowD r from by rw [hp, docsV_items, hr])
      rw [hr] at IT
      obtain ⟨s0, hs0⟩ : ∃ s, txtV l 0 = s := ⟨_, rfl⟩
      rw [hs0] at H0 HRD
      rw [HRD.out] at HR
      have HPN := Aside0.mk (show p ≤ 12 by omega)
      clear HOK hp hr hs0 HRD hlt hi
      obtain ⟨hw1, hw2⟩ : 1 ≤ (wrap64 (1 + wrap64 ((IntKind.u64.wrap wd).tmod 60))) ∧ (wrap64 (1 + wrap64 ((IntKind.u64.wrap wd).tmod 60))) ≤ 60 := wdU_range 60 (by decide) (by decide) wd
      obtain ⟨m1, m2, m3⟩ := lin_may n s0 r (by omega) (by have := IT.out.2; have := HPN.out; omega) H0.out.1 H0.out.2 IT.out.1
      have HJ0 := Aside0.mk (lin_J (wrap64 (1 + wrap64 ((IntKind.u64.wrap wd).tmod 60))) n s0 r H0.out.1 IT.out.1)
      obtain ⟨T, hT⟩ : ∃ T, renT (linD n s0 r) (wrap64 (1 + wrap64 ((IntKind.u64.wrap wd).tmod 60))) = T := ⟨_, rfl⟩
      have hok := (okR_iff (linD n s0 r) (wrap64 (1 + wrap64 ((IntKind.u64.wrap wd).tmod 60)))).2 ⟨hw1, by omega, m1⟩
      have HJ := Aside0.mk (show J n (bytesOf T) from by
        rw [← hT, renT, if_pos hok, bytesOf_strOf (renS_isB _ _)]
        exact HJ0.out)
      have HT := Aside0.mk (show renT (linD n s0 r) (wrap64 (1 + wrap64 ((IntKind.u64.wrap wd).tmod 60))) = T ∧ renE (linD n s0 r) (wrap64 (1 + wrap64 ((IntKind.u64.wrap wd).tmod 60))) = 0 from ⟨hT, renE_ok hw1 (by omega) m1⟩)
      have HTS := Aside0.mk (show T.size ≤ 2000000000 from hT ▸ renT_size _ m2 (by omega))
      have HFC := Aside0.mk (And.intro m2 (show cnt (linD n s0 r) ≤ 1100 by omega))
      have HLN := Aside0.mk (linesR T (by have := HTS.out; omega))
      clear hw1 hw2 m1 m2 m3 hT hok HJ0
      go_upto_region 19 with (fail)
      have F := lin_world (n := n) (s := s0) (r := r) HR.out
      generalize World.alloc (World.alloc wr _) _ = w5 at F ⊢
      have HB5 := Aside0.mk (below_step HB.out F.1)
      generalize wr.heap.size + 1 = gg at F ⊢
      generalize wr.heap.size = gl at F ⊢
      have IG := Aside0.mk F.2
      clear F HB HR
      have HB := HB5
      clear HB5
      have hg0 : w5.cell? ⟨gg, 0, none⟩ = some (.int .i64 7) := IG.out.c0
      have hg1 : w5.cell? ⟨gg, 1, none⟩ = some (.int .i64 0) := IG.out.c1
      have hg2 : w5.cell? ⟨gg, 2, none⟩ = some (.string (⟨#[]⟩ : ByteArray)) := IG.out.c2
      have hg3 : w5.cell? ⟨gg, 3, none⟩ = some (.slice (some ⟨gl, 0, none⟩) 1 1) := IG.out.c3
      have hsz : T.size ≤ 2000000000 := HTS.out
      obtain ⟨lc, hlc1, hlc2⟩ := HJ.out.last
      have hne : 0 < T.size := by
        rcases Nat.eq_zero_or_pos T.size with h | h
        · have h9 : bytesOf T = [] := List.eq_nil_of_length_eq_zero (by rw [bytesOf_length]; exact h)
          rw [h9] at hlc1
          cases hlc1
        · exact h
      rw [List.getLast?_eq_getElem?, bytesOf_length] at hlc1
      have hl1 := bt_get T _ _ hlc1
      have hxl : ∀ h : T.size - 1 < T.size, ((T[T.size - 1]'h).toNat : Int) = lc := fun h => by
        have e := bt_at T ((T.size - 1 : Nat) : Int) h
        rw [hl1.2] at e
        exact e
      have hlast : (lc == 32) = false := beq_eq_false_iff_ne.mpr hlc2
      obtain ⟨P, hP⟩ : ∃ P, posL (bytesOf T) 0 = P := ⟨_, rfl⟩
      rw [hP] at HLN
      have HPM := Aside0.mk (fun (x : Int) (hx : x ∈ P) => posL_mem (bytesOf T) 0 x (by rw [hP]; exact hx))
      have hPl : P.length ≤ 2000000000 := by
        have h := posL_len (bytesOf T) 0
        rw [hP, bytesOf_length] at h
        omega
      obtain ⟨np, hnp⟩ : ∃ n, P.length = n := ⟨_, rfl⟩
      have HNP := Aside0.mk hnp
      rw [hnp] at hPl
      clear hP hnp
      have hte : T.toList.isEmpty = false := by
        cases h : T.toList.isEmpty
        · rfl
        · rw [emp_of_isEmpty h] at hne
          exact absurd hne (Nat.lt_irrefl 0)
      clear hlc1 hlc2 hl1
      go_wp2_with (first | ((with_reducible refine gate_dst (N := 122) rfl ?_); refine goesL_ (some 122) rfl rfl Try.func11 (by kernel_rfl) rfl #[.agg #[.int .i64 7, .int .i64 0, .string (⟨#[]⟩ : ByteArray), .slice (some ⟨gl, 0, none⟩) 1 1], .int .i64 (wrap64 (1 + wrap64 ((IntKind.u64.wrap wd).tmod 60)))] rfl (by (try simp only [List.map_toArray, List.map_cons, List.map_nil]); first | done | rfl) ?_; (refine (rend_of (linD n s0 r) (some ⟨gl, 0, none⟩) 1 (wrap64 (1 + wrap64 ((IntKind.u64.wrap wd).tmod 60))) T 0 _ IG.out.dx HFC.out.1 HFC.out.2 HT.out.1 HT.out.2).mono ?_); (rintro e w222 ⟨rfl, hb⟩; refine ⟨_, rfl, ?_⟩; have m1 := Aside0.mk (below_step HB.out hb); clear HB IG hg0 hg1 hg2 hg3 hb; have HB := m1; clear m1)) | ((with_reducible refine gate_dst (N := 140) rfl ?_); refine goesL_ (some 140) rfl rfl Try.func20 (by kernel_rfl) rfl #[.string T] rfl (by (try simp only [List.map_toArray, List.map_cons, List.map_nil]); first | done | rfl) ?_; (refine (lines_of T HLN.out _).mono ?_); (rintro e w240 ⟨v, rfl, hR, hb⟩; refine ⟨_, rfl, ?_⟩; obtain ⟨A7, c7, ev7, hle7, hri7⟩ := lines_row hR HNP.out; subst ev7; obtain ⟨A1, hcut, hA1⟩ := cut_one A7 c7 np; have HRI := Aside0.mk (hA1 _ P hle7 hri7); have m1 := Aside0.mk (below_step HB.out hb); clear HB hR hb hle7 hri7 hA1; have HB := m1; clear m1)))
      go_loopg [17, 18, 143] np (fun k' v17 v18 v143 wr => ∃ (q : Nat), v143 = .int .i64 (q : Int) ∧ q ≤ np ∧ Aside0 (k' + q = np) ∧ Aside0 (ReadsInt wr .i64 A1 np P) ∧ Aside0 (Below w.heap.size w wr))
      case atStart => exact ⟨0, rfl, Nat.zero_le _, ⟨rfl⟩, HRI, HB⟩
      case round =>
        clear HRI HB
        obtain ⟨q, rfl, hq, HKQ, HRI, HB⟩ := hrel
        by_cases hql : q < np
        · obtain ⟨ad1, e1, hcell⟩ := HRI.out.2.2 (by omega)
          subst e1
          have hqP : q < P.length := by have := HNP.out; omega
          obtain ⟨p1, ep, hp10⟩ := HPM.out (P[q]) (List.getElem_mem hqP)
          have q0 : wr.cell? (ad1.add q) = some (.int .i64 ((p1 + 1 : Nat) : Int)) := by
            rw [hcell q hql, List.getD_eq_getElem?_getD, List.getElem?_eq_getElem hqP, Option.getD_some, ep, Nat.zero_add]
          obtain ⟨⟨q9, c9, e9, hc9, hn9⟩, hj9, d9, hd9, hn10⟩ := HJ.out.ok p1 hp10
          obtain ⟨a, ha⟩ : ∃ a, p1 + 1 = a := ⟨_, rfl⟩
          rw [ha] at q0 hj9 hd9
          have hd8 := bt_get T _ _ hd9
          have hc8 := bt_get T _ _ hc9
          have ha2 : 2 ≤ a := by omega
          have hq9 : q9 = a - 2 := by omega
          rw [hq9] at hc8
          have han : a + n < T.size := hd8.1
          have hx2 : ∀ h : a - 2 < T.size, ((T[a - 2]'h).toNat : Int) = c9 := fun h => by
            have e := bt_at T ((a - 2 : Nat) : Int) h
            rw [hc8.2] at e
            exact e
          have hc32 : (c9 == 32) = false := beq_eq_false_iff_ne.mpr hn9
          have HJ9 := Aside0.mk hj9
          have hxd : ∀ h : a + n < T.size, ((T[a + n]'h).toNat : Int) = d9 := fun h => by
            have e := bt_at T ((a + n : Nat) : Int) h
            rw [hd8.2] at e
            exact e
          have hd32 : (d9 == 32) = false := beq_eq_false_iff_ne.mpr hn10
          have HXD := Aside0.mk (And.intro hxd hd32)
          have HX2 := Aside0.mk (And.intro hx2 hc32)
          clear hcell ep hp10 e9 hc9 hn9 hj9 hd9 hn10 ha hd8 hc8 hq9 hqP hx2 hc32 hxd hd32
          go_wp2_with fail
          go_loopg [18] n (fun k2 v18 w2 => ∃ (j : Nat), v18 = .int .i64 (j : Int) ∧ j ≤ n ∧ Aside0 (k2 + j = n) ∧ Aside0 (ReadsInt w2 .i64 (some ad1) np P) ∧ Aside0 (Below w.heap.size w w2))
          case atStart => exact ⟨0, rfl, Nat.zero_le _, ⟨rfl⟩, HRI, HB⟩
          case round =>
            clear HRI HB q0
            obtain ⟨j, rfl, hj, HK2, HRI, HB⟩ := hrel
            by_cases hjn : j < n
            · have hj8 := bt_get T _ _ (HJ9.out j hjn)
              have haj : a + j < T.size := hj8.1
              have hxj : ∀ h : a + j < T.size, ((T[a + j]'h).toNat : Int) = 32 := fun h => by
                have e := bt_at T ((a + j : Nat) : Int) h
                rw [hj8.2] at e
                exact e
              clear hj8
              go_wp2_with fail
              go_roundg (n - (j + 1))
              case measure => have := HK2.out; omega
              case rel => exact ⟨j + 1, by go_num, by omega, ⟨by omega⟩, HRI, HB⟩
            · have hjn2 : j = n := by omega
              obtain ⟨hxd, hd32⟩ := HXD.out
              obtain ⟨hx2, hc32⟩ := HX2.out
              have hnj : (j : Int) = (n : Int) := by omega
              clear hjn hjn2
              go_wp2_with fail
              go_roundg (np - (q + 1))
              case measure => have := HKQ.out; omega
              case rel => exact ⟨q + 1, by go_num, by omega, ⟨by omega⟩, HRI, HB⟩
        · obtain rfl : q = np := by omega
          go_wp2_with (first | ((with_reducible refine gate_dst (N := 178) rfl ?_); refine goesL_ (some 178) rfl rfl Try.func10 (by kernel_rfl) rfl #[] rfl (by (try simp only [List.map_toArray, List.map_cons, List.map_nil]); first | done | rfl) ?_; (refine (told_calls _).mono ?_); (rintro e w278 ⟨rfl, hb⟩; refine ⟨_, rfl, ?_⟩; have n_ := Aside0.mk (below_step HB.out hb); clear HB hb; have HB := n_; clear n_)))
          go_ret
          exact ⟨rfl, HB.out⟩
theorem RenderLines_walk {w : World} (l : List ByteArray) (A : Option Addr) (c : Nat) (hlc : l.length ≤ c) (hl : Kd.C Kd.string w A l.length l) (ks : List Int) (B : Option Addr) (d : Nat) (hkc : ks.length ≤ d) (hk : Kd.C (Kd.int .i64) w B ks.length ks) (nn : Int) (hn : (Lit.int .i64 nn).wf = true) (wd : Int) (hw : (Lit.int .i64 wd).wf = true) : Calls Try.prog 6 #[.slice A l.length c, .slice B ks.length d, .int .i64 nn, .int .i64 wd] w fun e w' => e = .returned (.bool true) ∧ Below w.heap.size w w' := by
  show LinesAt w A c l B d ks nn wd
  have hin : InL w A c l B d ks := ⟨hl, hlc, hk, hkc⟩
  by_cases h1 : l.length < 1
  · exact lines_no1 hin h1
  by_cases h2 : 12 < l.length
  · exact lines_no2 hin h2
  by_cases h3 : ks.length < l.length
  · exact lines_no3 hin (by omega) (by omega) h3
  exact lines_main hin (by omega) (by omega) (by omega)
end
end Go.Proofs.Ytigihiggpfjbjaa.PR
