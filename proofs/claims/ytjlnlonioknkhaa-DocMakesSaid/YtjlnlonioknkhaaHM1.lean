/- DocMakes: each maker's document is the one that is written out. -/
import Derived.Test.YtjlnlonioknkhaaHF1
import Derived.Test.YtjlnlonioknkhaaPAx21
import Derived.Test.YtjlnlonioknkhaaPAx26
namespace Go.Proofs.Ytjlnlonioknkhaa.PA
open Go.RowKit Go.Proofs.YtjlnlonioknkhaaW.PrintWords Go.Proofs.YtjlnlonioknkhaaW.PrintLast Go.Proofs.YtjlnlonioknkhaaW.PrintMore
set_option linter.unusedVariables false
set_option linter.unusedSimpArgs false

theorem sameR (n : Nat) : ∀ x : S40, cnt x ≤ n → x.f3.length ≤ 500 → finDL x.f3 → Ev (fun k => galleyref15_Same.f k x.f0 x.f1 x.f2 x.f3 x.f0 x.f1 x.f2 x.f3) true := by
  induction n using Nat.strongRecOn with
  | _ n ih =>
  intro x hn hm hx
  have loop : ∀ d i : Nat, x.f3.length - i = d → i ≤ x.f3.length → Ev (fun k => galleyref15_Same.l0 k (i : Int) x.f0 x.f1 x.f2 x.f3 x.f0 x.f1 x.f2 x.f3) true := by
    intro d
    induction d with
    | zero =>
      intro i hd hi
      exact Ev.step (f := fun _ => some true) (fun k => by simp only [galleyref15_Same.l0]; rw [if_neg (by omega)]) (Ev.now _)
    | succ d ihd =>
      intro i hd hi
      have hil : i < x.f3.length := by omega
      refine Ev.step (f := fun k => (galleyref15_Same.f k x.f3[i].f0 x.f3[i].f1 x.f3[i].f2 x.f3[i].f3 x.f3[i].f0 x.f3[i].f1 x.f3[i].f2 x.f3[i].f3).bind fun t => if t = true then galleyref15_Same.l0 k ((i + 1 : Nat) : Int) x.f0 x.f1 x.f2 x.f3 x.f0 x.f1 x.f2 x.f3 else some false)
        (fun k => by simp only [galleyref15_Same.l0]; rw [if_pos (by omega), if_pos (by omega), if_pos (by omega), rd40 _ _ hil, wrap_next hil (by omega)]) ?_
      have hc := (finD_eq _).1 (finDL_get _ hx i hil)
      exact Ev.bind (ih (cnt x.f3[i]) (Nat.lt_of_lt_of_le (cnt_lt x i hil) hn) x.f3[i] (Nat.le_refl _) hc.2.1 hc.2.2) (Ev.yes rfl (ihd (i + 1) (by omega) (by omega)))
  refine Ev.step (f := fun k => galleyref15_Same.j0 k ((x.f3.length : Int) != (x.f3.length : Int)) x.f0 x.f1 x.f2 x.f3 x.f0 x.f1 x.f2 x.f3) (fun k => by simp only [galleyref15_Same.f, if_true]) ?_
  exact Ev.step (f := fun k => galleyref15_Same.l0 k ((0 : Nat) : Int) x.f0 x.f1 x.f2 x.f3 x.f0 x.f1 x.f2 x.f3) (fun k => by simp only [galleyref15_Same.j0]; rw [if_neg (by simp)]; rfl) (loop x.f3.length 0 (by omega) (by omega))
theorem same_of (x : S40) (A : Option Addr) (c : Nat) (w : World) (h : Dc w x A c) (hm : x.f3.length ≤ 500) (hf : finDL x.f3) : Calls Try.prog 35 #[.agg #[.int .i64 x.f0, .int .i64 x.f1, .string x.f2, .slice A x.f3.length c], .agg #[.int .i64 x.f0, .int .i64 x.f1, .string x.f2, .slice A x.f3.length c]] w fun e w' => e = .returned (.bool true) ∧ Below w.heap.size w w' := by
  obtain ⟨k, hk⟩ := (sameR _ x (Nat.le_refl _) hm hf).rounds
  exact galleyref15_Same.calls k _ _ _ _ _ _ _ _ _ _ _ _ _ w h.g3 h.l3 h.g3 h.l3 hk
theorem finDL_of : ∀ l : List S40, (∀ j (h : j < l.length), finD l[j]) → finDL l
  | [], _ => trivial
  | x :: r, h => ⟨h 0 (by simp), finDL_of r (fun j hj => h (j + 1) (by simp; omega))⟩
set_option maxHeartbeats 2000000 in
theorem makes_1 (l : List S40) (A : Option Addr) (c : Nat) (s : ByteArray) (n : Int) (w : World) (hl : Kd.C k40 w A l.length l) (hc : l.length ≤ c) (hs : s.size ≤ 140737488351232) (h6 : decide (6 < (l.length : Int)) = true) : Calls Try.prog 8 #[.slice A l.length c, .string s, .int .i64 n] w fun e w' => e = .returned (.bool true) ∧ Below w.heap.size w w' := by
  have hu40 := Try.underlying40
  have HL := Aside0.mk hl
  have HC := Aside0.mk hc
  have HB := Aside0.mk (Below.refl w.heap.size w)
  clear hl hc
  go_enter Try.func8, Try.ntmps8
  go_wp2_with (first | ((with_reducible refine gate_dst (N := 16) rfl ?_); refine goesL_ (some 16) rfl rfl Try.func28 (by kernel_rfl) rfl #[] rfl (by (try simp only [List.map_toArray, List.map_cons, List.map_nil]); first | done | rfl) ?_; (refine (galleylaw15_told.calls true _ rfl).mono ?_); (rintro e w101 ⟨rfl, hb⟩; refine ⟨_, rfl, ?_⟩; have n0 := Aside0.mk (below_step HB.out hb); clear HB hb; have HB := n0; clear n0)))
  go_ret
  exact ⟨rfl, HB.out⟩
set_option maxHeartbeats 2000000 in
theorem makes_2 (l : List S40) (A : Option Addr) (c : Nat) (s : ByteArray) (n : Int) (w : World) (hl : Kd.C k40 w A l.length l) (hc : l.length ≤ c) (hs : s.size ≤ 140737488351232) (h6 : decide (6 < (l.length : Int)) = false) (h7 : decide (100 < (s.size : Int)) = true) : Calls Try.prog 8 #[.slice A l.length c, .string s, .int .i64 n] w fun e w' => e = .returned (.bool true) ∧ Below w.heap.size w w' := by
  have hu40 := Try.underlying40
  have HL := Aside0.mk hl
  have HC := Aside0.mk hc
  have HB := Aside0.mk (Below.refl w.heap.size w)
  clear hl hc
  go_enter Try.func8, Try.ntmps8
  go_wp2_with (first | ((with_reducible refine gate_dst (N := 16) rfl ?_); refine goesL_ (some 16) rfl rfl Try.func28 (by kernel_rfl) rfl #[] rfl (by (try simp only [List.map_toArray, List.map_cons, List.map_nil]); first | done | rfl) ?_; (refine (galleylaw15_told.calls true _ rfl).mono ?_); (rintro e w102 ⟨rfl, hb⟩; refine ⟨_, rfl, ?_⟩; have n0 := Aside0.mk (below_step HB.out hb); clear HB hb; have HB := n0; clear n0)))
  go_ret
  exact ⟨rfl, HB.out⟩
set_option maxHeartbeats 8000000 in
theorem makes_3 (l : List S40) (A : Option Addr) (c : Nat) (s : ByteArray) (n : Int) (w : World) (hl : Kd.C k40 w A l.length l) (hc : l.length ≤ c) (hs : s.size ≤ 140737488351232) (h6 : decide (6 < (l.length : Int)) = false) (h7 : decide (100 < (s.size : Int)) = false) (hl6 : l.length ≤ 6) : Calls Try.prog 8 #[.slice A l.length c, .string s, .int .i64 n] w fun e w' => e = .returned (.bool true) ∧ Below w.heap.size w w' := by
  have hu40 := Try.underlying40
  have HL := Aside0.mk hl
  have HC := Aside0.mk hc
  have HB := Aside0.mk (Below.refl w.heap.size w)
  clear hl hc
  have H6 := Aside0.mk hl6
  clear hl6
  go_enter Try.func8, Try.ntmps8
  go_wp2_with fail
  go_loopg [7] l.length (fun k' v7 wr => ∃ i : Nat, v7 = .int .i64 i ∧ i ≤ l.length ∧ Aside0 (k' + i = l.length) ∧ Aside0 (∀ j (h : j < l.length), j < i → finD l[j]) ∧ Aside0 (Below w.heap.size w wr))
  case atStart => exact ⟨0, rfl, Nat.zero_le _, ⟨rfl⟩, ⟨fun j h h0 => absurd h0 (Nat.not_lt_zero j)⟩, HB⟩
  case round =>
    clear HB
    obtain ⟨i, rfl, hi, HK, HF, HB⟩ := hrel
    by_cases hlt : i < l.length
    · obtain ⟨ad, B, d, e0, ny, qy⟩ := Dc.at_ HL.out i hlt
      cases e0
      obtain ⟨q0, q1, q2, q3⟩ := qy _ HB.out
      have NY := Aside0.mk ny
      have HS := Aside0.mk (fewD_small l[i] 60)
      clear qy ny
      obtain ⟨y, hy⟩ : ∃ y, y = l[i] := ⟨_, rfl⟩
      have HY := Aside0.mk hy
      rw [← hy] at q0 q1 q2 q3 NY HS
      clear hy
      cases hf : decide (fewD y 60 ≤ 500)
      · go_wp2_with (first | ((with_reducible refine gate_dst (N := 27) rfl ?_); refine goesL_ (some 27) rfl rfl Try.func27 (by kernel_rfl) rfl #[.agg #[.int .i64 y.f0, .int .i64 y.f1, .string y.f2, .slice B y.f3.length d]] rfl (by (try simp only [List.map_toArray, List.map_cons, List.map_nil]); first | done | rfl) ?_; (refine (few_of y B d false _ (NY.out.below HB.out) hf).mono ?_); (rintro e w114 ⟨rfl, hb⟩; refine ⟨_, rfl, ?_⟩; have n0 := Aside0.mk (below_step HB.out hb); clear HB hb; have HB := n0; clear n0)) | ((with_reducible refine gate_dst (N := 29) rfl ?_); refine goesL_ (some 29) rfl rfl Try.func28 (by kernel_rfl) rfl #[] rfl (by (try simp only [List.map_toArray, List.map_cons, List.map_nil]); first | done | rfl) ?_; (refine (galleylaw15_told.calls true _ rfl).mono ?_); (rintro e w115 ⟨rfl, hb⟩; refine ⟨_, rfl, ?_⟩; have n0 := Aside0.mk (below_step HB.out hb); clear HB hb; have HB := n0; clear n0)))
        go_ret
        exact ⟨rfl, HB.out⟩
      · have hi0 : 0 ≤ (i : Int) := by omega
        have hi1 : (i : Int) ≤ 7 := by have := H6.out; omega
        go_wp2_with (first | ((with_reducible refine gate_dst (N := 27) rfl ?_); refine goesL_ (some 27) rfl rfl Try.func27 (by kernel_rfl) rfl #[.agg #[.int .i64 y.f0, .int .i64 y.f1, .string y.f2, .slice B y.f3.length d]] rfl (by (try simp only [List.map_toArray, List.map_cons, List.map_nil]); first | done | rfl) ?_; (refine (few_of y B d true _ (NY.out.below HB.out) hf).mono ?_); (rintro e w116 ⟨rfl, hb⟩; refine ⟨_, rfl, ?_⟩; have n0 := Aside0.mk (below_step HB.out hb); clear HB hb; have HB := n0; clear n0)))
        go_roundg (l.length - (i + 1))
        case measure => have := HK.out; omega
        case rel => exact ⟨i + 1, by simp, by omega, ⟨by have := HK.out; omega⟩, ⟨fun j h h1 => by
          rcases Nat.lt_or_ge j i with h2 | h2
          · exact HF.out j h h2
          · obtain rfl : j = i := by omega
            rw [← HY.out]
            exact (HS.out (by simpa using hf)).2.2⟩, HB⟩
    · obtain rfl : i = l.length := by omega
      have FL := Aside0.mk (finDL_of l (fun j h => HF.out j h h))
      clear HF
      go_wp2_with (first | ((with_reducible refine gate_dst (N := 30) rfl ?_); refine goesL_ (some 30) rfl rfl Try.func28 (by kernel_rfl) rfl #[] rfl (by (try simp only [List.map_toArray, List.map_cons, List.map_nil]); first | done | rfl) ?_; (refine (galleylaw15_told.calls true _ rfl).mono ?_); (rintro e w103 ⟨rfl, hb⟩; refine ⟨_, rfl, ?_⟩; have n0 := Aside0.mk (below_step HB.out hb); clear HB hb; have HB := n0; clear n0)) | ((with_reducible refine gate_dst (N := 33) rfl ?_); (refine gate_guard (by rfl) ?_; dsimp only); refine goesL_ (some 33) rfl rfl Try.func36 (by kernel_rfl) rfl #[.string s] rfl (by (try simp only [List.map_toArray, List.map_cons, List.map_nil]); first | done | rfl) ?_; (refine (mk36 s _).mono ?_); (rintro e w104 ⟨rfl, hb⟩; refine ⟨_, rfl, ?_⟩; have n0 := Aside0.mk (below_step HB.out hb); clear HB hb; have HB := n0; clear n0)) | ((with_reducible refine gate_dst (N := 36) rfl ?_); (refine gate_guard (by rfl) ?_; dsimp only); refine goesL_ (some 36) rfl rfl Try.func35 (by kernel_rfl) rfl #[.agg #[.int .i64 1, .int .i64 0, .string s, .slice none 0 0], .agg #[.int .i64 1, .int .i64 0, .string s, .slice none 0 0]] rfl (by (try simp only [List.map_toArray, List.map_cons, List.map_nil]); first | done | rfl) ?_; (refine (same_of ⟨1, 0, s, []⟩ none 0 _ (Dc_nil _ rfl) (by simp) trivial).mono ?_); (rintro e w105 ⟨rfl, hb⟩; refine ⟨_, rfl, ?_⟩; have n0 := Aside0.mk (below_step HB.out hb); clear HB hb; have HB := n0; clear n0)) | ((with_reducible refine gate_dst (N := 40) rfl ?_); (refine gate_guard (by rfl) ?_; dsimp only); refine goesL_ (some 40) rfl rfl Try.func37 (by kernel_rfl) rfl #[.slice A l.length c] rfl (by (try simp only [List.map_toArray, List.map_cons, List.map_nil]); first | done | rfl) ?_; (refine (mk37 A l.length c _).mono ?_); (rintro e w106 ⟨rfl, hb⟩; refine ⟨_, rfl, ?_⟩; have n0 := Aside0.mk (below_step HB.out hb); clear HB hb; have HB := n0; clear n0)) | ((with_reducible refine gate_dst (N := 43) rfl ?_); (refine gate_guard (by rfl) ?_; dsimp only); refine goesL_ (some 43) rfl rfl Try.func35 (by kernel_rfl) rfl #[.agg #[.int .i64 5, .int .i64 0, .string (⟨#[]⟩ : ByteArray), .slice A l.length c], .agg #[.int .i64 5, .int .i64 0, .string (⟨#[]⟩ : ByteArray), .slice A l.length c]] rfl (by (try simp only [List.map_toArray, List.map_cons, List.map_nil]); first | done | rfl) ?_; (refine (same_of ⟨5, 0, (⟨#[]⟩ : ByteArray), l⟩ A c _ ⟨Kd.C_below HL.out HB.out, HC.out⟩ (by have := H6.out; show l.length ≤ 500; omega) FL.out).mono ?_); (rintro e w107 ⟨rfl, hb⟩; refine ⟨_, rfl, ?_⟩; have n0 := Aside0.mk (below_step HB.out hb); clear HB hb; have HB := n0; clear n0)) | ((with_reducible refine gate_dst (N := 48) rfl ?_); (refine gate_guard (by rfl) ?_; dsimp only); refine goesL_ (some 48) rfl rfl Try.func38 (by kernel_rfl) rfl #[.int .i64 n, .slice A l.length c] rfl (by (try simp only [List.map_toArray, List.map_cons, List.map_nil]); first | done | rfl) ?_; (refine (mk38 n A l.length c _).mono ?_); (rintro e w108 ⟨rfl, hb⟩; refine ⟨_, rfl, ?_⟩; have n0 := Aside0.mk (below_step HB.out hb); clear HB hb; have HB := n0; clear n0)) | ((with_reducible refine gate_dst (N := 52) rfl ?_); (refine gate_guard (by rfl) ?_; dsimp only); refine goesL_ (some 52) rfl rfl Try.func35 (by kernel_rfl) rfl #[.agg #[.int .i64 6, .int .i64 n, .string (⟨#[]⟩ : ByteArray), .slice A l.length c], .agg #[.int .i64 6, .int .i64 n, .string (⟨#[]⟩ : ByteArray), .slice A l.length c]] rfl (by (try simp only [List.map_toArray, List.map_cons, List.map_nil]); first | done | rfl) ?_; (refine (same_of ⟨6, n, (⟨#[]⟩ : ByteArray), l⟩ A c _ ⟨Kd.C_below HL.out HB.out, HC.out⟩ (by have := H6.out; show l.length ≤ 500; omega) FL.out).mono ?_); (rintro e w109 ⟨rfl, hb⟩; refine ⟨_, rfl, ?_⟩; have n0 := Aside0.mk (below_step HB.out hb); clear HB hb; have HB := n0; clear n0)) | ((with_reducible refine gate_dst (N := 56) rfl ?_); (refine gate_guard (by rfl) ?_; dsimp only); refine goesL_ (some 56) rfl rfl Try.func39 (by kernel_rfl) rfl #[.slice A l.length c] rfl (by (try simp only [List.map_toArray, List.map_cons, List.map_nil]); first | done | rfl) ?_; (refine (mk39 A l.length c _).mono ?_); (rintro e w110 ⟨rfl, hb⟩; refine ⟨_, rfl, ?_⟩; have n0 := Aside0.mk (below_step HB.out hb); clear HB hb; have HB := n0; clear n0)) | ((with_reducible refine gate_dst (N := 59) rfl ?_); (refine gate_guard (by rfl) ?_; dsimp only); refine goesL_ (some 59) rfl rfl Try.func35 (by kernel_rfl) rfl #[.agg #[.int .i64 7, .int .i64 0, .string (⟨#[]⟩ : ByteArray), .slice A l.length c], .agg #[.int .i64 7, .int .i64 0, .string (⟨#[]⟩ : ByteArray), .slice A l.length c]] rfl (by (try simp only [List.map_toArray, List.map_cons, List.map_nil]); first | done | rfl) ?_; (refine (same_of ⟨7, 0, (⟨#[]⟩ : ByteArray), l⟩ A c _ ⟨Kd.C_below HL.out HB.out, HC.out⟩ (by have := H6.out; show l.length ≤ 500; omega) FL.out).mono ?_); (rintro e w111 ⟨rfl, hb⟩; refine ⟨_, rfl, ?_⟩; have n0 := Aside0.mk (below_step HB.out hb); clear HB hb; have HB := n0; clear n0)) | ((with_reducible refine gate_dst (N := 63) rfl ?_); (refine gate_guard (by rfl) ?_; dsimp only); refine goesL_ (some 63) rfl rfl Try.func40 (by kernel_rfl) rfl #[.slice A l.length c] rfl (by (try simp only [List.map_toArray, List.map_cons, List.map_nil]); first | done | rfl) ?_; (refine (mk40 A l.length c _).mono ?_); (rintro e w112 ⟨rfl, hb⟩; refine ⟨_, rfl, ?_⟩; have n0 := Aside0.mk (below_step HB.out hb); clear HB hb; have HB := n0; clear n0)) | ((with_reducible refine gate_dst (N := 66) rfl ?_); (refine gate_guard (by rfl) ?_; dsimp only); refine goesL_ (some 66) rfl rfl Try.func35 (by kernel_rfl) rfl #[.agg #[.int .i64 7, .int .i64 1, .string (⟨#[]⟩ : ByteArray), .slice A l.length c], .agg #[.int .i64 7, .int .i64 1, .string (⟨#[]⟩ : ByteArray), .slice A l.length c]] rfl (by (try simp only [List.map_toArray, List.map_cons, List.map_nil]); first | done | rfl) ?_; (refine (same_of ⟨7, 1, (⟨#[]⟩ : ByteArray), l⟩ A c _ ⟨Kd.C_below HL.out HB.out, HC.out⟩ (by have := H6.out; show l.length ≤ 500; omega) FL.out).mono ?_); (rintro e w113 ⟨rfl, hb⟩; refine ⟨_, rfl, ?_⟩; have n0 := Aside0.mk (below_step HB.out hb); clear HB hb; have HB := n0; clear n0)))
      go_ret
      exact ⟨rfl, HB.out⟩
theorem DocMakes_walk {w : World} (l : List S40) (A : Option Addr) (c : Nat) (hc : l.length ≤ c) (hl : Kd.C k40 w A l.length l) (s : ByteArray) (hs : s.size ≤ 140737488351232) (n : Int) (hn : (Lit.int .i64 n).wf = true) : Calls Try.prog 8 #[.slice A l.length c, .string s, .int .i64 n] w fun e w' => e = .returned (.bool true) ∧ Below w.heap.size w w' := by
  cases h6 : decide (6 < (l.length : Int))
  · cases h7 : decide (100 < (s.size : Int))
    · exact makes_3 l A c s n w hl hc hs h6 h7 (by have : ¬ (6 < (l.length : Int)) := of_decide_eq_false h6; omega)
    · exact makes_2 l A c s n w hl hc hs h6 h7
  · exact makes_1 l A c s n w hl hc hs h6
end Go.Proofs.Ytjlnlonioknkhaa.PA
