/- Words and walks that the law leans on: HS13, HS14, HS15. Conditions: none. -/
import Derived.Test.YthipodffpkglfaaGreatDoorJ7
import Derived.Test.YthipodffpkglfaaGreatDoorJ8
namespace Go.Proofs.YthipodffpkglfaaGreatDoor.PS
open Go.RowKit Go.Proofs.YthipodffpkglfaaGreatDoorW.PrintWords Go.Proofs.YthipodffpkglfaaGreatDoorW.PrintLast Go.Proofs.YthipodffpkglfaaGreatDoorW.PrintMore
set_option linter.unusedVariables false
set_option linter.unusedSimpArgs false
theorem ndc_one (k : Int) (t : ByteArray) (A : Option Addr) (n c : Nat) : (ndc k t A n c).all (·.oneCell') = true := by
  simp [ndc, Value.oneCell']
theorem tkc_one (x : Tk) : (tkc x).all (·.oneCell') = true := by
  simp [tkc, Value.oneCell']
section
variable {E : Env} {i j : Nat} {k : Int} {t : ByteArray} {l : List S45}
set_option maxHeartbeats 4000000 in
set_option maxRecDepth 100000 in
theorem at0_rd (h : Rd E 166 #[.pointer (some ⟨E.gp, 0, none⟩), .int .i64 0] i j k t l) : Rd E 200 #[.pointer (some ⟨E.gp, 0, none⟩)] i j k t l := by
  intro w hp
  have hu45 := Tryz.underlying45
  have hu33 := Tryz.underlying33
  have hu24 := Tryz.underlying24
  have hu86 := Tryz.underlying86
  have hu9 := Tryz.underlying9
  have hu3 := Tryz.underlying3
  have hu4 := Tryz.underlying4
  have F := Aside0.mk (Fr.init hp)
  clear hp
  go_enter Tryz.func200, Tryz.ntmps200
  go_wp2_with (first | ((with_reducible refine gate_dst (N := 2) rfl ?_); refine box_event ?hg (N := 2) ?hd (cs := #[.int .i64 0, .string (⟨#[]⟩ : ByteArray), .slice none 0 0, .bool false, .bool false, .slice none 0 0, .slice none 0 0]) (t := 45) ?hr ?_; (case hd => rfl); (case hg => rfl); (case hr => first | (go_simp; done) | (go_simp; rfl)); intro g2 hg w302 hbox hb; have n0 := Aside0.mk (show Fr E _ _ ((g2, 45, z7) :: _) _ _ _ _ from F.out.box hg hbox hb); clear F hbox hb hg; have F := n0) | ((with_reducible refine gate_dst (N := 4) rfl ?_); refine goesL_ (some 4) rfl rfl Tryz.func166 (by kernel_rfl) rfl #[.pointer (some ⟨E.gp, 0, none⟩), .int .i64 0] rfl (by (try simp only [List.map_toArray, List.map_cons, List.map_nil]); first | done | rfl) ?_; (refine (h _ F.out.p).mono ?_); (rintro e w104 ⟨A4, c4, rfl, hc, hf, hp, hk⟩; refine ⟨_, rfl, ?_⟩; have n0 := Aside0.mk (F.out.node hp hk hf); have C4 := Aside0.mk hc; clear F hc hf hp hk; have F := n0)) | ((with_reducible refine gate_ (.store 45 (.tmp 2) (.tmp 4)) rfl ?_); refine F.out.st0 rfl rfl rfl (ndc k t A4 l.length c4) rfl rfl info45 rfl (ndc_one _ _ _ _ _) ?_; intro w602 n1; have n0 := Aside0.mk n1; clear F n1; have F := n0))
  refine bodyPost_ret (results_single rfl (.cell g2 45 (ndc k t A4 l.length c4) (0, 0) _ rfl (F.out.at_ (n := 0) rfl) hu45 rfl info45 .nil)) rfl ?_
  exact ⟨A4, c4, rfl, C4.out, F.out.row (n := 0) rfl, F.out.p, F.out.keep⟩
theorem lit_calls {w : World} {k : Int} {b : Bool} (h : parse_literal.f k = some b) : Calls Tryz.prog 219 #[.int .i64 k] w fun e w' => e = .returned (.bool b) ∧ Below w.heap.size w w' := by
  refine (parse_literal.calls k b w h).mono ?_
  rintro e w' ⟨h, hd⟩
  obtain ⟨n, rfl⟩ := hd.out
  exact ⟨h, pw_below_drewN (Below.refl _ _) _⟩
theorem pre_calls {w : World} {s : ByteArray} {n : Int} (h : ops_Prefix.f s = some n) : Calls Tryz.prog 213 #[.string s] w fun e w' => e = .returned (.int .i64 n) ∧ Below w.heap.size w w' := by
  refine (ops_Prefix.calls s n w h).mono ?_
  rintro e w' ⟨h, hd⟩
  obtain ⟨n, rfl⟩ := hd.out
  exact ⟨h, pw_below_drewN (Below.refl _ _) _⟩
set_option maxHeartbeats 4000000 in
set_option maxRecDepth 100000 in
theorem prim_lit (hi : i < E.n) (hk : parse_literal.f (E.cur i).k = some true) : Rd2 E 214 #[.pointer (some ⟨E.gp, 0, none⟩)] i (i + 1) 1 (E.cur i).t [] (.bool false) := by
  intro w hp
  have hu45 := Tryz.underlying45
  have hu33 := Tryz.underlying33
  have hu24 := Tryz.underlying24
  have hu86 := Tryz.underlying86
  have hu9 := Tryz.underlying9
  have hu3 := Tryz.underlying3
  have hu4 := Tryz.underlying4
  have F := Aside0.mk (Fr.init hp)
  have HI := Aside0.mk hi
  have HK := Aside0.mk hk
  clear hp hi hk
  go_enter Tryz.func214, Tryz.ntmps214
  go_wp2_with (first | ((with_reducible refine gate_dst (N := 2) rfl ?_); refine box_event ?hg (N := 2) ?hd (cs := #[.int .i64 0, .string (⟨#[]⟩ : ByteArray), .slice none 0 0, .bool false, .bool false, .slice none 0 0, .slice none 0 0]) (t := 45) ?hr ?_; (case hd => rfl); (case hg => rfl); (case hr => first | (go_simp; done) | (go_simp; rfl)); intro g2 hg w302 hbox hb; have n0 := Aside0.mk (show Fr E _ _ ((g2, 45, z7) :: _) _ _ _ _ from F.out.box hg hbox hb); clear F hbox hb hg; have F := n0) | ((with_reducible refine gate_dst (N := 7) rfl ?_); refine goesL_ (some 7) rfl rfl Tryz.func174 (by kernel_rfl) rfl #[.pointer (some ⟨E.gp, 0, none⟩)] rfl (by (try simp only [List.map_toArray, List.map_cons, List.map_nil]); first | done | rfl) ?_; (refine (cur_calls F.out.p).mono ?_); (rintro e w107 ⟨rfl, hb⟩; refine ⟨_, rfl, ?_⟩; have n0 := Aside0.mk (F.out.below hb); clear F hb; have F := n0)) | ((with_reducible refine gate_dst (N := 4) rfl ?_); refine box_event ?hg (N := 4) ?hd (cs := #[.int .i64 0, .string (⟨#[]⟩ : ByteArray), .int .i64 0]) (t := 86) ?hr ?_; (case hd => rfl); (case hg => rfl); (case hr => first | (go_simp; done) | (go_simp; rfl)); intro g4 hg w304 hbox hb; have n0 := Aside0.mk (F.out.box hg hbox hb); clear F hbox hb hg; have F := n0) | ((with_reducible refine gate_ (.store 86 (.tmp 4) (.tmp 7)) rfl ?_); refine F.out.st0 rfl rfl rfl (tkc (E.cur i)) rfl rfl infoTk rfl (tkc_one _) ?_; intro w604 n1; have n0 := Aside0.mk n1; clear F n1; have F := n0) | ((with_reducible refine gate_dst (N := 9) rfl ?_); refine ld_cell rfl (N := 9) (v := .int .i64 (E.cur i).k) rfl rfl rfl (F.out.at_ (n := 0) rfl) rfl hu3 rfl ?_) | ((with_reducible refine gate_dst (N := 10) rfl ?_); refine goesL_ (some 10) rfl rfl Tryz.func219 (by kernel_rfl) rfl #[.int .i64 (E.cur i).k] rfl (by (try simp only [List.map_toArray, List.map_cons, List.map_nil]); first | done | rfl) ?_; (refine (lit_calls HK.out).mono ?_); (rintro e w110 ⟨rfl, hb⟩; refine ⟨_, rfl, ?_⟩; have n0 := Aside0.mk (F.out.below hb); clear F hb; have F := n0)) | ((with_reducible refine gate_dst (N := 12) rfl ?_); refine goesL_ (some 12) rfl rfl Tryz.func177 (by kernel_rfl) rfl #[.pointer (some ⟨E.gp, 0, none⟩)] rfl (by (try simp only [List.map_toArray, List.map_cons, List.map_nil]); first | done | rfl) ?_; (refine (next_calls F.out.p HI.out).mono ?_); (rintro e w112 ⟨rfl, hp, hk⟩; refine ⟨_, rfl, ?_⟩; have n0 := Aside0.mk (F.out.move hp hk); clear F hp hk; have F := n0)) | ((with_reducible refine gate_dst (N := 14) rfl ?_); refine ld_cell rfl (N := 14) (v := .string (E.cur i).t) rfl rfl rfl (F.out.at_ (n := 0) rfl) rfl hu9 rfl ?_) | ((with_reducible refine gate_ (.store 45 (.tmp 2) (.tmp 15)) rfl ?_); refine F.out.st1 rfl rfl rfl (ndc 1 (E.cur i).t none 0 0) rfl rfl info45 rfl (ndc_one _ _ _ _ _) ?_; intro w602 n1; have n0 := Aside0.mk n1; clear F n1; have F := n0))
  refine bodyPost_ret (results_ct rfl _ _ g2 45 (ndc 1 (E.cur i).t none 0 0) (0, 0) _ rfl (F.out.at_ (n := 1) rfl) hu45 rfl info45) rfl ?_
  exact ⟨none, 0, rfl, Nat.le_refl _, Kd.F_nil k45 _ _, F.out.p, F.out.keep⟩
set_option maxHeartbeats 4000000 in
set_option maxRecDepth 100000 in
theorem prim_list (hk : parse_literal.f (E.cur i).k = some false) (h1 : isT (E.cur i) (⟨#[40]⟩ : ByteArray) = false) (h2 : isT (E.cur i) (⟨#[123]⟩ : ByteArray) = false) (h3 : isT (E.cur i) (⟨#[91]⟩ : ByteArray) = true) (h4 : Rd E 221 #[.pointer (some ⟨E.gp, 0, none⟩)] (i + 1) j k t l) : Rd2 E 214 #[.pointer (some ⟨E.gp, 0, none⟩)] i j k t l (.bool false) := by
  intro w hp
  have hu45 := Tryz.underlying45
  have hu33 := Tryz.underlying33
  have hu24 := Tryz.underlying24
  have hu86 := Tryz.underlying86
  have hu9 := Tryz.underlying9
  have hu3 := Tryz.underlying3
  have hu4 := Tryz.underlying4
  have F := Aside0.mk (Fr.init hp)
  have HK := Aside0.mk hk
  have H1 := Aside0.mk h1
  have H2 := Aside0.mk h2
  have H3 := Aside0.mk h3
  have H4 := Aside0.mk h4
  clear hp hk h1 h2 h3 h4
  go_enter Tryz.func214, Tryz.ntmps214
  go_wp2_with (first | ((with_reducible refine gate_dst (N := 2) rfl ?_); refine box_event ?hg (N := 2) ?hd (cs := #[.int .i64 0, .string (⟨#[]⟩ : ByteArray), .slice none 0 0, .bool false, .bool false, .slice none 0 0, .slice none 0 0]) (t := 45) ?hr ?_; (case hd => rfl); (case hg => rfl); (case hr => first | (go_simp; done) | (go_simp; rfl)); intro g2 hg w302 hbox hb; have n0 := Aside0.mk (show Fr E _ _ ((g2, 45, z7) :: _) _ _ _ _ from F.out.box hg hbox hb); clear F hbox hb hg; have F := n0) | ((with_reducible refine gate_dst (N := 7) rfl ?_); refine goesL_ (some 7) rfl rfl Tryz.func174 (by kernel_rfl) rfl #[.pointer (some ⟨E.gp, 0, none⟩)] rfl (by (try simp only [List.map_toArray, List.map_cons, List.map_nil]); first | done | rfl) ?_; (refine (cur_calls F.out.p).mono ?_); (rintro e w107 ⟨rfl, hb⟩; refine ⟨_, rfl, ?_⟩; have n0 := Aside0.mk (F.out.below hb); clear F hb; have F := n0)) | ((with_reducible refine gate_dst (N := 4) rfl ?_); refine box_event ?hg (N := 4) ?hd (cs := #[.int .i64 0, .string (⟨#[]⟩ : ByteArray), .int .i64 0]) (t := 86) ?hr ?_; (case hd => rfl); (case hg => rfl); (case hr => first | (go_simp; done) | (go_simp; rfl)); intro g4 hg w304 hbox hb; have n0 := Aside0.mk (F.out.box hg hbox hb); clear F hbox hb hg; have F := n0) | ((with_reducible refine gate_ (.store 86 (.tmp 4) (.tmp 7)) rfl ?_); refine F.out.st0 rfl rfl rfl (tkc (E.cur i)) rfl rfl infoTk rfl (tkc_one _) ?_; intro w604 n1; have n0 := Aside0.mk n1; clear F n1; have F := n0) | ((with_reducible refine gate_dst (N := 9) rfl ?_); refine ld_cell rfl (N := 9) (v := .int .i64 (E.cur i).k) rfl rfl rfl (F.out.at_ (n := 0) rfl) rfl hu3 rfl ?_) | ((with_reducible refine gate_dst (N := 10) rfl ?_); refine goesL_ (some 10) rfl rfl Tryz.func219 (by kernel_rfl) rfl #[.int .i64 (E.cur i).k] rfl (by (try simp only [List.map_toArray, List.map_cons, List.map_nil]); first | done | rfl) ?_; (refine (lit_calls HK.out).mono ?_); (rintro e w110 ⟨rfl, hb⟩; refine ⟨_, rfl, ?_⟩; have n0 := Aside0.mk (F.out.below hb); clear F hb; have F := n0)) | ((with_reducible refine gate_dst (N := 18) rfl ?_); refine goesL_ (some 18) rfl rfl Tryz.func170 (by kernel_rfl) rfl #[.pointer (some ⟨E.gp, 0, none⟩), .string (⟨#[40]⟩ : ByteArray)] rfl (by (try simp only [List.map_toArray, List.map_cons, List.map_nil]); first | done | rfl) ?_; (refine (take_no F.out.p (⟨#[40]⟩ : ByteArray) H1.out).mono ?_); (rintro e w118 ⟨rfl, hb⟩; refine ⟨_, rfl, ?_⟩; have n0 := Aside0.mk (F.out.below hb); clear F hb; have F := n0)) | ((with_reducible refine gate_dst (N := 23) rfl ?_); refine goesL_ (some 23) rfl rfl Tryz.func170 (by kernel_rfl) rfl #[.pointer (some ⟨E.gp, 0, none⟩), .string (⟨#[123]⟩ : ByteArray)] rfl (by (try simp only [List.map_toArray, List.map_cons, List.map_nil]); first | done | rfl) ?_; (refine (take_no F.out.p (⟨#[123]⟩ : ByteArray) H2.out).mono ?_); (rintro e w123 ⟨rfl, hb⟩; refine ⟨_, rfl, ?_⟩; have n0 := Aside0.mk (F.out.below hb); clear F hb; have F := n0)) | ((with_reducible refine gate_dst (N := 31) rfl ?_); refine goesL_ (some 31) rfl rfl Tryz.func170 (by kernel_rfl) rfl #[.pointer (some ⟨E.gp, 0, none⟩), .string (⟨#[91]⟩ : ByteArray)] rfl (by (try simp only [List.map_toArray, List.map_cons, List.map_nil]); first | done | rfl) ?_; (refine (take_yes F.out.p (⟨#[91]⟩ : ByteArray) H3.out).mono ?_); (rintro e w131 ⟨rfl, hp, hk⟩; refine ⟨_, rfl, ?_⟩; have n0 := Aside0.mk (F.out.move hp hk); clear F hp hk; have F := n0)) | ((with_reducible refine gate_dst (N := 33) rfl ?_); refine goesL_ (some 33) rfl rfl Tryz.func221 (by kernel_rfl) rfl #[.pointer (some ⟨E.gp, 0, none⟩)] rfl (by (try simp only [List.map_toArray, List.map_cons, List.map_nil]); first | done | rfl) ?_; (refine (H4.out _ F.out.p).mono ?_); (rintro e w133 ⟨A33, c33, rfl, hc, hf, hp, hk⟩; refine ⟨_, rfl, ?_⟩; have n0 := Aside0.mk (F.out.node hp hk hf); have C33 := Aside0.mk hc; clear F hc hf hp hk; have F := n0)) | ((with_reducible refine gate_ (.store 45 (.tmp 2) (.tmp 33)) rfl ?_); refine F.out.st1 rfl rfl rfl (ndc k t A33 l.length c33) rfl rfl info45 rfl (ndc_one _ _ _ _ _) ?_; intro w602 n1; have n0 := Aside0.mk n1; clear F n1; have F := n0))
  refine bodyPost_ret (results_ct rfl _ _ g2 45 (ndc k t A33 l.length c33) (0, 0) _ rfl (F.out.at_ (n := 1) rfl) hu45 rfl info45) rfl ?_
  exact ⟨A33, c33, rfl, C33.out, F.out.row (n := 0) rfl, F.out.p, F.out.keep⟩
set_option maxHeartbeats 4000000 in
set_option maxRecDepth 100000 in
theorem prim_word (hk : parse_literal.f (E.cur i).k = some false) (h1 : isT (E.cur i) (⟨#[40]⟩ : ByteArray) = false) (h2 : isT (E.cur i) (⟨#[123]⟩ : ByteArray) = false) (h3 : isT (E.cur i) (⟨#[91]⟩ : ByteArray) = false) (h4 : isT (E.cur i) (⟨#[60, 60]⟩ : ByteArray) = false) (h5 : isT (E.cur i) (⟨#[35]⟩ : ByteArray) = false) (h6 : Rd E 225 #[.pointer (some ⟨E.gp, 0, none⟩)] i j k t l) : Rd2 E 214 #[.pointer (some ⟨E.gp, 0, none⟩)] i j k t l (.bool false) := by
  intro w hp
  have hu45 := Tryz.underlying45
  have hu33 := Tryz.underlying33
  have hu24 := Tryz.underlying24
  have hu86 := Tryz.underlying86
  have hu9 := Tryz.underlying9
  have hu3 := Tryz.underlying3
  have hu4 := Tryz.underlying4
  have F := Aside0.mk (Fr.init hp)
  have HK := Aside0.mk hk
  have H1 := Aside0.mk h1
  have H2 := Aside0.mk h2
  have H3 := Aside0.mk h3
  have H4 := Aside0.mk h4
  have H5 := Aside0.mk h5
  have H6 := Aside0.mk h6
  clear hp hk h1 h2 h3 h4 h5 h6
  go_enter Tryz.func214, Tryz.ntmps214
  go_wp2_with (first | ((with_reducible refine gate_dst (N := 2) rfl ?_); refine box_event ?hg (N := 2) ?hd (cs := #[.int .i64 0, .string (⟨#[]⟩ : ByteArray), .slice none 0 0, .bool false, .bool false, .slice none 0 0, .slice none 0 0]) (t := 45) ?hr ?_; (case hd => rfl); (case hg => rfl); (case hr => first | (go_simp; done) | (go_simp; rfl)); intro g2 hg w302 hbox hb; have n0 := Aside0.mk (show Fr E _ _ ((g2, 45, z7) :: _) _ _ _ _ from F.out.box hg hbox hb); clear F hbox hb hg; have F := n0) | ((with_reducible refine gate_dst (N := 7) rfl ?_); refine goesL_ (some 7) rfl rfl Tryz.func174 (by kernel_rfl) rfl #[.pointer (some ⟨E.gp, 0, none⟩)] rfl (by (try simp only [List.map_toArray, List.map_cons, List.map_nil]); first | done | rfl) ?_; (refine (cur_calls F.out.p).mono ?_); (rintro e w107 ⟨rfl, hb⟩; refine ⟨_, rfl, ?_⟩; have n0 := Aside0.mk (F.out.below hb); clear F hb; have F := n0)) | ((with_reducible refine gate_dst (N := 4) rfl ?_); refine box_event ?hg (N := 4) ?hd (cs := #[.int .i64 0, .string (⟨#[]⟩ : ByteArray), .int .i64 0]) (t := 86) ?hr ?_; (case hd => rfl); (case hg => rfl); (case hr => first | (go_simp; done) | (go_simp; rfl)); intro g4 hg w304 hbox hb; have n0 := Aside0.mk (F.out.box hg hbox hb); clear F hbox hb hg; have F := n0) | ((with_reducible refine gate_ (.store 86 (.tmp 4) (.tmp 7)) rfl ?_); refine F.out.st0 rfl rfl rfl (tkc (E.cur i)) rfl rfl infoTk rfl (tkc_one _) ?_; intro w604 n1; have n0 := Aside0.mk n1; clear F n1; have F := n0) | ((with_reducible refine gate_dst (N := 9) rfl ?_); refine ld_cell rfl (N := 9) (v := .int .i64 (E.cur i).k) rfl rfl rfl (F.out.at_ (n := 0) rfl) rfl hu3 rfl ?_) | ((with_reducible refine gate_dst (N := 10) rfl ?_); refine goesL_ (some 10) rfl rfl Tryz.func219 (by kernel_rfl) rfl #[.int .i64 (E.cur i).k] rfl (by (try simp only [List.map_toArray, List.map_cons, List.map_nil]); first | done | rfl) ?_; (refine (lit_calls HK.out).mono ?_); (rintro e w110 ⟨rfl, hb⟩; refine ⟨_, rfl, ?_⟩; have n0 := Aside0.mk (F.out.below hb); clear F hb; have F := n0)) | ((with_reducible refine gate_dst (N := 18) rfl ?_); refine goesL_ (some 18) rfl rfl Tryz.func170 (by kernel_rfl) rfl #[.pointer (some ⟨E.gp, 0, none⟩), .string (⟨#[40]⟩ : ByteArray)] rfl (by (try simp only [List.map_toArray, List.map_cons, List.map_nil]); first | done | rfl) ?_; (refine (take_no F.out.p (⟨#[40]⟩ : ByteArray) H1.out).mono ?_); (rintro e w118 ⟨rfl, hb⟩; refine ⟨_, rfl, ?_⟩; have n0 := Aside0.mk (F.out.below hb); clear F hb; have F := n0)) | ((with_reducible refine gate_dst (N := 23) rfl ?_); refine goesL_ (some 23) rfl rfl Tryz.func170 (by kernel_rfl) rfl #[.pointer (some ⟨E.gp, 0, none⟩), .string (⟨#[123]⟩ : ByteArray)] rfl (by (try simp only [List.map_toArray, List.map_cons, List.map_nil]); first | done | rfl) ?_; (refine (take_no F.out.p (⟨#[123]⟩ : ByteArray) H2.out).mono ?_); (rintro e w123 ⟨rfl, hb⟩; refine ⟨_, rfl, ?_⟩; have n0 := Aside0.mk (F.out.below hb); clear F hb; have F := n0)) | ((with_reducible refine gate_dst (N := 31) rfl ?_); refine goesL_ (some 31) rfl rfl Tryz.func170 (by kernel_rfl) rfl #[.pointer (some ⟨E.gp, 0, none⟩), .string (⟨#[91]⟩ : ByteArray)] rfl (by (try simp only [List.map_toArray, List.map_cons, List.map_nil]); first | done | rfl) ?_; (refine (take_no F.out.p (⟨#[91]⟩ : ByteArray) H3.out).mono ?_); (rintro e w131 ⟨rfl, hb⟩; refine ⟨_, rfl, ?_⟩; have n0 := Aside0.mk (F.out.below hb); clear F hb; have F := n0)) | ((with_reducible refine gate_dst (N := 36) rfl ?_); refine goesL_ (some 36) rfl rfl Tryz.func170 (by kernel_rfl) rfl #[.pointer (some ⟨E.gp, 0, none⟩), .string (⟨#[60, 60]⟩ : ByteArray)] rfl (by (try simp only [List.map_toArray, List.map_cons, List.map_nil]); first | done | rfl) ?_; (refine (take_no F.out.p (⟨#[60, 60]⟩ : ByteArray) H4.out).mono ?_); (rintro e w136 ⟨rfl, hb⟩; refine ⟨_, rfl, ?_⟩; have n0 := Aside0.mk (F.out.below hb); clear F hb; have F := n0)) | ((with_reducible refine gate_dst (N := 44) rfl ?_); refine goesL_ (some 44) rfl rfl Tryz.func170 (by kernel_rfl) rfl #[.pointer (some ⟨E.gp, 0, none⟩), .string (⟨#[35]⟩ : ByteArray)] rfl (by (try simp only [List.map_toArray, List.map_cons, List.map_nil]); first | done | rfl) ?_; (refine (take_no F.out.p (⟨#[35]⟩ : ByteArray) H5.out).mono ?_); (rintro e w144 ⟨rfl, hb⟩; refine ⟨_, rfl, ?_⟩; have n0 := Aside0.mk (F.out.below hb); clear F hb; have F := n0)) | ((with_reducible refine gate_dst (N := 63) rfl ?_); refine goesL_ (some 63) rfl rfl Tryz.func225 (by kernel_rfl) rfl #[.pointer (some ⟨E.gp, 0, none⟩)] rfl (by (try simp only [List.map_toArray, List.map_cons, List.map_nil]); first | done | rfl) ?_; (refine (H6.out _ F.out.p).mono ?_); (rintro e w163 ⟨A63, c63, rfl, hc, hf, hp, hk⟩; refine ⟨_, rfl, ?_⟩; have n0 := Aside0.mk (F.out.node hp hk hf); have C63 := Aside0.mk hc; clear F hc hf hp hk; have F := n0)) | ((with_reducible refine gate_ (.store 45 (.tmp 2) (.tmp 63)) rfl ?_); refine F.out.st1 rfl rfl rfl (ndc k t A63 l.length c63) rfl rfl info45 rfl (ndc_one _ _ _ _ _) ?_; intro w602 n1; have n0 := Aside0.mk n1; clear F n1; have F := n0))
  refine bodyPost_ret (results_ct rfl _ _ g2 45 (ndc k t A63 l.length c63) (0, 0) _ rfl (F.out.at_ (n := 1) rfl) hu45 rfl info45) rfl ?_
  exact ⟨A63, c63, rfl, C63.out, F.out.row (n := 0) rfl, F.out.p, F.out.keep⟩
end
end Go.Proofs.YthipodffpkglfaaGreatDoor.PS
namespace Go.Proofs.YthipodffpkglfaaGreatDoor.PS
open Go.RowKit Go.Proofs.YthipodffpkglfaaGreatDoorW.PrintWords Go.Proofs.YthipodffpkglfaaGreatDoorW.PrintLast Go.Proofs.YthipodffpkglfaaGreatDoorW.PrintMore
set_option linter.unusedVariables false
set_option linter.unusedSimpArgs false
theorem Code.wp.imp {P : Program} {c : Code} {Q Q' : Exit → Act → World → Prop} {a : Act} {w : World} (h : c.wp P Q a w) (hi : ∀ e a w, Q e a w → Q' e a w) : c.wp P Q' a w := fun b k cs => by
  obtain ⟨e, a', w', hq, ha⟩ := h b k cs
  exact ⟨e, a', w', hi _ _ _ hq, ha⟩
/-- A scope in which the run jumps back once, or not. -/
theorem wp_scope_once {P : Program} {Q : Exit → Act → World → Prop} {a : Act} {w : World} {c rest : Code} (l : Nat) (hf : findLabel c l = some rest) (first : c.wp P (Exit.jump l (fun a w => rest.wp P (Exit.noGoto Q) a w) Q) a w) : (Code.scope c).wp P Q a w :=
  wp_scope_jumps l (fun a w => rest.wp P (Exit.noGoto Q) a w) (fun _ _ => 0) hf first (fun a w h => Code.wp.imp h (fun e a w hq => by cases e <;> first | exact hq | exact hq.elim))
theorem jump_ret (l : Nat) (J : Act → World → Prop) (Q : Exit → Act → World → Prop) (a : Act) (w : World) : Exit.jump l J Q .ret a w = Q .ret a w := rfl
theorem jump_goto (l : Nat) (J : Act → World → Prop) (Q : Exit → Act → World → Prop) (a : Act) (w : World) : Exit.jump l J Q (.goto l) a w = (l = l ∧ J a w) := rfl
theorem infoZ : (Tryz.prog.info? 45).map (fun i => (i.zero, i.size, i.bytes)) = some (some (.agg #[.int .i64 0, .string (⟨#[]⟩ : ByteArray), .slice none 0 0, .bool false, .bool false, .slice none 0 0, .slice none 0 0]), 7, 104) := by kernel_rfl
theorem info24s : (Tryz.prog.info? 24).map (·.size) = some 1 := by kernel_rfl
theorem info4s : (Tryz.prog.info? 4).map (·.size) = some 1 := by kernel_rfl
theorem info33s : (Tryz.prog.info? 33).map (·.size) = some 1 := by kernel_rfl
section
variable {E : Env} {lo : Nat} {w0 w w' : World} {bs : List (Nat × Nat × Array Value)} {ns : List (Option Addr × List S45)} {os : List (Value × List S45)} {i j : Nat}
variable {ops : Array Oper} {rest : List Oper} {o : Oper} {a : Act} {Q : Exit → Act → World → Prop}
theorem Fr.initN (h : PSt E w i) (hl : lo ≤ w.heap.size) (hg : E.gp < lo) {v : Value} {xs : List S45} (hN : Kd.N k45 45 w lo (fun q => lo ≤ q) v xs) : Fr E lo w [] [] [(v, xs)] w i :=
  ⟨h, hg, hl, Nat.le_refl _, fun _ _ _ => rfl, fun _ h => (by cases h), .nil, fun _ h => (by cases h), fun o h => by
    rw [List.mem_singleton.1 h]
    exact Kd.N_mono hN (fun k hk => ⟨hk, fun _ h => (by cases h)⟩)⟩
/-- The row of one's own grows. -/
theorem Fr.grown {v v1 : Value} {xs zs : List S45} (F : Fr E lo w0 bs ns [(v, xs)] w i) (hb : Below lo w w') (hg : w.grownBy w' v.ownBlock) (hat : v1.ownBlock = v.ownBlock ∨ ∃ b, v1.ownBlock = some b ∧ w.heap.size ≤ b) (hN : Kd.N k45 45 w' lo (fun k => lo ≤ k ∧ ∀ b ∈ bs, k ≠ b.1) v1 zs) : Fr E lo w0 bs ns [(v1, zs)] w' i := by
  have hv := (F.own _ (List.mem_singleton.2 rfl)).1
  have hD : E.wD.heap.size ≤ lo := Nat.le_trans F.p.gB (Nat.le_of_lt F.gl)
  refine ⟨⟨F.p.hb.trans (hb.mono hD), F.p.gB, (hb.block _ F.gl).trans F.p.blk, F.p.le, F.p.tl, F.p.tk, F.p.nc, F.p.sz, F.p.s2, F.p.nb, F.p.fg⟩, F.gl, F.ll, Nat.le_trans F.sz hb.size, fun k h1 h2 => (hb.block k h1).trans (F.kb k h1 h2), fun b m => ⟨(hg.block _ (F.lt b m) (fun he => (hv _ he.symm).2 b m rfl)).trans (F.bx b m).1, (F.bx b m).2⟩, F.ne, fun r hr => ?_, fun o m => by rw [List.mem_singleton.1 m]; exact hN⟩
  refine Kd.F_mono (Kd.F_step (Kd.F_bound (F.nf r hr)) (fun k hk hl => hg.block k hl (hk.1.2.2 _ (List.mem_singleton.2 rfl)))) (fun k hk => ⟨hk.1.1, hk.1.2.1, fun o m => ?_⟩)
  rw [List.mem_singleton.1 m]
  intro he
  rcases hat with hat | ⟨b, h1, h2⟩
  · exact hk.1.2.2 _ (List.mem_singleton.2 rfl) (he.trans hat)
  · have h3 : some k = some b := he.trans h1
    injection h3 with h3
    have := hk.2
    omega
theorem Fr.app {A0 A : Option Addr} {c0 c : Nat} {xs ys : List S45} (F : Fr E lo w0 bs ns [(.slice A0 xs.length c0, xs)] w i) (hgd : o.guard = none) {s x : Operand} (ho : o.op = .call { callee := .builtin .append, args := #[s, x], argTypes := #[33, 33] }) (hs : a.eval s = .slice A0 xs.length c0) (hx : a.eval x = .slice A ys.length c) (m : Nat) (hn : ns[m]? = some (A, ys)) (hl : xs.length + ys.length ≤ 1000)
    (h : ∀ A1 c1 w1, Fr E lo w0 bs ns [(.slice A1 (xs ++ ys).length c1, xs ++ ys)] w1 i → (xs ++ ys).length ≤ c1 → wpList Tryz.prog ops Q rest (a.put o.dst (.slice A1 (xs ++ ys).length c1)) w1) : wpList Tryz.prog ops Q (o :: rest) a w := by
  have hlw : lo ≤ w.heap.size := Nat.le_trans F.ll F.sz
  refine Kd.N_append_rows k45 (w0 := w) lo hgd s x 33 45 _ 104 ho Tryz.underlying33 infoZ rfl (by decide) (by decide) _ xs ys A ys.length c (fun k => lo ≤ k ∧ ∀ b ∈ bs, k ≠ b.1) _ hs hx (F.own _ (List.mem_singleton.2 rfl)) (F.rowF hn) (fun k hk => ⟨⟨hk.1, hk.2.1⟩, hk.2.2 _ (List.mem_singleton.2 rfl)⟩) (fun k hk => ⟨by omega, fun b m => by have := F.lt b m; omega⟩) (Below.refl _ _) hlw (by omega) ?_
  intro v1 w1 hN hb hg hat
  obtain ⟨A1, c1, rfl⟩ := Kd.N_slice hN
  exact h A1 c1 w1 (F.grown hb hg hat hN) (Kd.N_reads' hN).2.1
theorem Fr.drop0 {b : Nat × Nat × Array Value} (F : Fr E lo w0 (b :: bs) ns os w i) : Fr E lo w0 bs ns os w i :=
  ⟨F.p, F.gl, F.ll, F.sz, F.kb, fun b m => F.bx b (List.mem_cons_of_mem _ m), (List.pairwise_cons.1 F.ne).2, fun r m => Kd.F_mono (F.nf r m) (fun k hk => ⟨hk.1, fun b m => hk.2.1 b (List.mem_cons_of_mem _ m), hk.2.2⟩), fun o m => Kd.N_mono (F.own o m) (fun k hk => ⟨hk.1, fun b m => hk.2 b (List.mem_cons_of_mem _ m)⟩)⟩
theorem Fr.lit1 (F : Fr E lo w0 bs ns os w i) (m : Nat) {A : Option Addr} {l : List S45} (hn : ns[m]? = some (A, l)) {c : Nat} (hc : l.length ≤ c) {k : Int} {t : ByteArray} {g : Nat} (hg : g = w.heap.size) (hb : w'.heap[g]? = some (.cells (ndc k t A l.length c) 45 (0, 0))) (h : Below w.heap.size w w') : Fr E lo w0 bs ((some ⟨g, 0, none⟩, [nd k t l]) :: ns) os w' i :=
  F.lit hg hb h (by simp) (reps1 (FK_nd (F.rowF hn) hc))
end
theorem goesV_ {P : Program} {ops : Array Oper} {Q : Exit → Act → World → Prop} {rest : List Oper} {oi : Oper} {a : Act} {w : World} (N : Option Tmp) (hd : oi.dst = N) (hg : oi.guard = none) {f : FuncId} {fn : Func} {x : Tmp} {xs : Array Operand} {ts : Array TypeId} (hf : P.funcs[f]? = some fn) (hname : (fn.name == "runtime.NumGoroutine") = false) (hb : fn.body.isSome = true) (args : Array Value) {fs cs : Array Value}
    (hop : oi.op = .call { callee := .value (.tmp x), args := xs, argTypes := ts }) (hx : a.eval (.tmp x) = .func (.func f) fs cs) (hargs : fs ++ xs.map a.eval ++ cs = args)
    (h : Calls P f args w fun e w' => ∃ v, e = .returned v ∧ wpList P ops Q rest (a.put N v) w') : wpList P ops Q (oi :: rest) a w := by
  refine wpList_plain hg fun K hK => ?_
  have he := enters_ hf hname hb args w
  have hrun : (execOp a.eval oi).run P w = .ok (.enter f args) w := by
    unfold execOp
    simp only [hop, hx, resolve, Deferred.ofValue, invoke, Sem.run_bind, Sem.run_pure, Result.andThen_ok, hargs, he]
  unfold Oper.wp
  rw [hrun, Oper.upon_enter]
  refine h.mono fun e w'' hh => ?_
  obtain ⟨v, rfl, hk⟩ := hh
  subst hd
  exact hK _ _ hk
/-- The closure that reads an item. -/
def AT0 (E : Env) : Value := .func (.func 200) #[.pointer (some ⟨E.gp, 0, none⟩)] #[]
def ItP (E : Env) (w : World) (lo j : Nat) (k : Int) (t : ByteArray) (l : List S45) (e : Ending) (w' : World) : Prop := ∃ A c, e = .returned (.agg (ndc k t A l.length c)) ∧ l.length ≤ c ∧ Kd.F k45 w' (fun k => lo ≤ k) A l.length l ∧ PSt E w' j ∧ w.heap.size ≤ w'.heap.size ∧ ∀ q, q < lo → q ≠ E.gp → w'.heap[q]? = w.heap[q]?
/-- Items up to what closes them are read. -/
def RdI (E : Env) (en : ByteArray) (i j : Nat) (ys : List S45) : Prop := ∀ (w : World) (lo : Nat) (k : Int) (t : ByteArray) (A : Option Addr) (c : Nat) (xs : List S45), PSt E w i → lo ≤ w.heap.size → E.gp < lo → xs.length ≤ 500 → Kd.N k45 45 w lo (fun q => lo ≤ q) (.slice A xs.length c) xs → Calls Tryz.prog 199 #[.pointer (some ⟨E.gp, 0, none⟩), .agg (ndc k t A xs.length c), .string en, AT0 E] w (ItP E w lo j k t (xs ++ ys))
section
variable {E : Env} {i j j' : Nat} {en : ByteArray} {k1 k2 : Int} {t1 t2 : ByteArray} {l1 l2 : List S45}
set_option maxHeartbeats 4000000 in
set_option maxRecDepth 100000 in
theorem items_nil (hr : E.fr < i) (h1 : isT (E.cur i) en = true) : RdI E en i (i + 1) [] := by
  have hi := isT_lt h1
  intro w lo k t A c xs hp hlo hgl hx hN
  rw [List.append_nil]
  have HC := Aside0.mk (Kd.N_reads' hN).2.1
  have hu45 := Tryz.underlying45
  have hu33 := Tryz.underlying33
  have hu24 := Tryz.underlying24
  have hu86 := Tryz.underlying86
  have hu9 := Tryz.underlying9
  have hu3 := Tryz.underlying3
  have hu4 := Tryz.underlying4
  have F := Aside0.mk (Fr.initN hp hlo hgl hN)
  have HI := Aside0.mk hi
  have HR := Aside0.mk hr
  have HX := Aside0.mk hx
  have H1 := Aside0.mk h1
  clear hp hlo hgl hN hi hr hx h1
  unfold AT0
  go_enter Tryz.func199, Tryz.ntmps199
  go_wp2_with (first | ((with_reducible refine gate_dst (N := 5) rfl ?_); refine box_event ?hg (N := 5) ?hd (cs := (ndc k t A xs.length c)) (t := 45) ?hr ?_; (case hd => rfl); (case hg => rfl); (case hr => first | (go_simp; done) | (go_simp; rfl)); intro g5 hg w305 hbox hb; have n0 := Aside0.mk (show Fr E _ _ ((g5, 45, (ndc k t A xs.length c)) :: _) _ _ _ _ from F.out.box hg hbox hb); clear F hbox hb hg; have F := n0) | ((with_reducible refine gate_dst (N := 8) rfl ?_); refine box_event ?hg (N := 8) ?hd (cs := #[.int .i64 0, .string (⟨#[]⟩ : ByteArray), .slice none 0 0, .bool false, .bool false, .slice none 0 0, .slice none 0 0]) (t := 45) ?hr ?_; (case hd => rfl); (case hg => rfl); (case hr => first | (go_simp; done) | (go_simp; rfl)); intro g8 hg w308 hbox hb; have n0 := Aside0.mk (show Fr E _ _ ((g8, 45, z7) :: _) _ _ _ _ from F.out.box hg hbox hb); clear F hbox hb hg; have F := n0))
  refine wp_scope_straight ?_
  go_wp2_with (first | ((with_reducible refine gate_dst (N := 12) rfl ?_); refine goesL_ (some 12) rfl rfl Tryz.func165 (by kernel_rfl) rfl #[.pointer (some ⟨E.gp, 0, none⟩)] rfl (by (try simp only [List.map_toArray, List.map_cons, List.map_nil]); first | done | rfl) ?_; (refine (broken_calls F.out.p HR.out HI.out).mono ?_); (rintro e w112 ⟨rfl, hb⟩; refine ⟨_, rfl, ?_⟩; have n0 := Aside0.mk (F.out.below hb); clear F hb; have F := n0)) | ((with_reducible refine gate_ (.store 4 (.tmp 13) (.tmp 12)) rfl ?_); refine F.out.sf1 rfl rfl rfl (ndc k t A xs.length c) (v := (.bool false)) rfl rfl (by show _ < 7; decide) info4s rfl rfl rfl ?_; intro w613 n1; have n0 := Aside0.mk n1; clear F n1; have F := n0) | ((with_reducible refine gate_dst (N := 15) rfl ?_); refine goesL_ (some 15) rfl rfl Tryz.func171 (by kernel_rfl) rfl #[.pointer (some ⟨E.gp, 0, none⟩)] rfl (by (try simp only [List.map_toArray, List.map_cons, List.map_nil]); first | done | rfl) ?_; (refine (notes_calls F.out.p).mono ?_); (rintro e w115 ⟨rfl, hb⟩; refine ⟨_, rfl, ?_⟩; have n0 := Aside0.mk (F.out.below hb); clear F hb; have F := n0)) | ((with_reducible refine gate_dst (N := 18) rfl ?_); refine goesL_ (some 18) rfl rfl Tryz.func170 (by kernel_rfl) rfl #[.pointer (some ⟨E.gp, 0, none⟩), .string en] rfl (by (try simp only [List.map_toArray, List.map_cons, List.map_nil]); first | done | rfl) ?_; (refine (take_yes F.out.p en H1.out).mono ?_); (rintro e w118 ⟨rfl, hp, hk⟩; refine ⟨_, rfl, ?_⟩; have n0 := Aside0.mk (F.out.move hp hk); clear F hp hk; have F := n0)) | ((with_reducible refine gate_ (.store 24 (.tmp 20) (.tmp 19)) rfl ?_); refine F.out.sf1 rfl rfl rfl (ndc k t A xs.length c) (v := (.slice none 0 0)) rfl rfl (by show _ < 7; decide) info24s rfl rfl rfl ?_; intro w620 n1; have n0 := Aside0.mk n1; clear F n1; have F := n0) | ((with_reducible refine gate_dst (N := 21) rfl ?_); refine ld_agg rfl (N := 21) rfl rfl rfl (F.out.at_ (n := 1) rfl) hu45 rfl info45 ?_) | ((with_reducible refine gate_ (.store 45 (.tmp 8) (.tmp 21)) rfl ?_); refine F.out.st0 rfl rfl rfl (ndc k t A xs.length c) rfl rfl info45 rfl (ndc_one _ _ _ _ _) ?_; intro w608 n1; have n0 := Aside0.mk n1; clear F n1; have F := n0))
  refine bodyPost_ret (results_single rfl (.cell g8 45 (ndc k t A xs.length c) (0, 0) _ rfl (F.out.at_ (n := 0) rfl) hu45 rfl info45 .nil)) rfl ?_
  exact ⟨A, c, rfl, HC.out, Kd.F_mono (Kd.N_F (F.out.rowN (n := 0) rfl)) (fun _ h => h.1), F.out.p, F.out.sz, F.out.kb⟩
set_option maxHeartbeats 4000000 in
set_option maxRecDepth 100000 in
theorem items_one (hr : E.fr < i) (hi : i < E.n) (h1 : isT (E.cur i) en = false) (h2 : Rd E 200 #[.pointer (some ⟨E.gp, 0, none⟩)] i j k1 t1 l1) (h3 : isT (E.cur j) en = true) : RdI E en i (j + 1) [nd k1 t1 l1] := by
  intro w lo k t A c xs hp hlo hgl hx hN
  have hu45 := Tryz.underlying45
  have hu33 := Tryz.underlying33
  have hu24 := Tryz.underlying24
  have hu86 := Tryz.underlying86
  have hu9 := Tryz.underlying9
  have hu3 := Tryz.underlying3
  have hu4 := Tryz.underlying4
  have F := Aside0.mk (Fr.initN hp hlo hgl hN)
  have HI := Aside0.mk hi
  have HR := Aside0.mk hr
  have HX := Aside0.mk hx
  have H1 := Aside0.mk h1
  have H2 := Aside0.mk h2
  have H3 := Aside0.mk h3
  clear hp hlo hgl hN hi hr hx h1 h2 h3
  unfold AT0
  go_enter Tryz.func199, Tryz.ntmps199
  go_wp2_with (first | ((with_reducible refine gate_dst (N := 5) rfl ?_); refine box_event ?hg (N := 5) ?hd (cs := (ndc k t A xs.length c)) (t := 45) ?hr ?_; (case hd => rfl); (case hg => rfl); (case hr => first | (go_simp; done) | (go_simp; rfl)); intro g5 hg w305 hbox hb; have n0 := Aside0.mk (show Fr E _ _ ((g5, 45, (ndc k t A xs.length c)) :: _) _ _ _ _ from F.out.box hg hbox hb); clear F hbox hb hg; have F := n0) | ((with_reducible refine gate_dst (N := 8) rfl ?_); refine box_event ?hg (N := 8) ?hd (cs := #[.int .i64 0, .string (⟨#[]⟩ : ByteArray), .slice none 0 0, .bool false, .bool false, .slice none 0 0, .slice none 0 0]) (t := 45) ?hr ?_; (case hd => rfl); (case hg => rfl); (case hr => first | (go_simp; done) | (go_simp; rfl)); intro g8 hg w308 hbox hb; have n0 := Aside0.mk (show Fr E _ _ ((g8, 45, z7) :: _) _ _ _ _ from F.out.box hg hbox hb); clear F hbox hb hg; have F := n0))
  refine wp_scope_straight ?_
  go_wp2_with (first | ((with_reducible refine gate_dst (N := 12) rfl ?_); refine goesL_ (some 12) rfl rfl Tryz.func165 (by kernel_rfl) rfl #[.pointer (some ⟨E.gp, 0, none⟩)] rfl (by (try simp only [List.map_toArray, List.map_cons, List.map_nil]); first | done | rfl) ?_; (refine (broken_calls F.out.p HR.out HI.out).mono ?_); (rintro e w112 ⟨rfl, hb⟩; refine ⟨_, rfl, ?_⟩; have n0 := Aside0.mk (F.out.below hb); clear F hb; have F := n0)) | ((with_reducible refine gate_ (.store 4 (.tmp 13) (.tmp 12)) rfl ?_); refine F.out.sf1 rfl rfl rfl (ndc k t A xs.length c) (v := (.bool false)) rfl rfl (by show _ < 7; decide) info4s rfl rfl rfl ?_; intro w613 n1; have n0 := Aside0.mk n1; clear F n1; have F := n0) | ((with_reducible refine gate_dst (N := 15) rfl ?_); refine goesL_ (some 15) rfl rfl Tryz.func171 (by kernel_rfl) rfl #[.pointer (some ⟨E.gp, 0, none⟩)] rfl (by (try simp only [List.map_toArray, List.map_cons, List.map_nil]); first | done | rfl) ?_; (refine (notes_calls F.out.p).mono ?_); (rintro e w115 ⟨rfl, hb⟩; refine ⟨_, rfl, ?_⟩; have n0 := Aside0.mk (F.out.below hb); clear F hb; have F := n0)) | ((with_reducible refine gate_dst (N := 18) rfl ?_); refine goesL_ (some 18) rfl rfl Tryz.func170 (by kernel_rfl) rfl #[.pointer (some ⟨E.gp, 0, none⟩), .string en] rfl (by (try simp only [List.map_toArray, List.map_cons, List.map_nil]); first | done | rfl) ?_; (refine (take_no F.out.p en H1.out).mono ?_); (rintro e w118 ⟨rfl, hb⟩; refine ⟨_, rfl, ?_⟩; have n0 := Aside0.mk (F.out.below hb); clear F hb; have F := n0)))
  refine wp_label ?_
  go_wp2_with (first | ((with_reducible refine gate_dst (N := 23) rfl ?_); refine goesV_ (some 23) rfl rfl Tryz.func200 (by kernel_rfl) rfl #[.pointer (some ⟨E.gp, 0, none⟩)] rfl rfl (by simp) ?_; (refine (H2.out _ F.out.p).mono ?_); (rintro e w123 ⟨A23, c23, rfl, hc, hf, hp, hk⟩; refine ⟨_, rfl, ?_⟩; have n0 := Aside0.mk (F.out.node hp hk hf); have C23 := Aside0.mk hc; clear F hc hf hp hk; have F := n0)) | ((with_reducible refine gate_dst (N := 10) rfl ?_); refine box_event ?hg (N := 10) ?hd (cs := #[.int .i64 0, .string (⟨#[]⟩ : ByteArray), .slice none 0 0, .bool false, .bool false, .slice none 0 0, .slice none 0 0]) (t := 45) ?hr ?_; (case hd => rfl); (case hg => rfl); (case hr => first | (go_simp; done) | (go_simp; rfl)); intro g10 hg w310 hbox hb; have n0 := Aside0.mk (show Fr E _ _ ((g10, 45, z7) :: _) _ _ _ _ from F.out.box hg hbox hb); clear F hbox hb hg; have F := n0) | ((with_reducible refine gate_ (.store 45 (.tmp 10) (.tmp 23)) rfl ?_); refine F.out.st0 rfl rfl rfl (ndc k1 t1 A23 l1.length c23) rfl rfl info45 rfl (ndc_one _ _ _ _ _) ?_; intro w610 n1; have n0 := Aside0.mk n1; clear F n1; have F := n0) | ((with_reducible refine gate_ (.store 24 (.tmp 25) (.tmp 24)) rfl ?_); refine F.out.sf0 rfl rfl rfl (ndc k1 t1 A23 l1.length c23) (v := (.slice none 0 0)) rfl rfl (by show _ < 7; decide) info24s rfl rfl rfl ?_; intro w625 n1; have n0 := Aside0.mk n1; clear F n1; have F := n0) | ((with_reducible refine gate_dst (N := 27) rfl ?_); refine ld_cell rfl (N := 27) (v := (.slice A xs.length c)) rfl rfl rfl (F.out.at_ (n := 2) rfl) rfl hu33 rfl ?_) | ((with_reducible refine gate_dst (N := 28) rfl ?_); refine ld_agg rfl (N := 28) rfl rfl rfl (F.out.at_ (n := 0) rfl) hu45 rfl info45 ?_) | ((with_reducible refine gate_dst (N := 29) rfl ?_); refine lit_event ?hg (N := 29) ?hd (m := 1) (cs := (ndc k1 t1 A23 l1.length c23)) (t := 45) ?hr ?_; (case hd => rfl); (case hg => rfl); (case hr => simp only [ndc]; first | (go_simp; done) | (go_simp; rfl)); intro g29 hg w329 hbox hb; have n0 := Aside0.mk (F.out.lit1 0 rfl C23.out hg hbox hb); clear F hbox hb hg; have F := n0) | ((with_reducible refine gate_dst (N := 30) rfl ?_); refine F.out.app (A := (some ⟨g29, 0, none⟩)) (ys := [nd k1 t1 l1]) rfl rfl rfl rfl 0 rfl (by have := HX.out; simp; try omega) ?_; intro A30 c30 w130 n1 hc; (obtain ⟨z1, hz⟩ : ∃ zs, xs ++ [nd k1 t1 l1] = zs := ⟨_, rfl⟩); rw [hz] at n1 hc ⊢; have Zz1 := Aside0.mk hz; clear hz; have n0 := Aside0.mk n1; have C30 := Aside0.mk hc; clear F n1 hc; have F := n0) | ((with_reducible refine gate_ (.store 33 (.tmp 31) (.tmp 30)) rfl ?_); refine F.out.sf2 rfl rfl rfl (ndc k t A30 z1.length c30) (v := (.slice A30 z1.length c30)) rfl rfl (by show _ < 7; decide) info33s rfl rfl rfl ?_; intro w631 n1; have n0 := Aside0.mk n1; clear F n1; have F := n0) | ((with_reducible refine gate_dst (N := 33) rfl ?_); refine goesL_ (some 33) rfl rfl Tryz.func171 (by kernel_rfl) rfl #[.pointer (some ⟨E.gp, 0, none⟩)] rfl (by (try simp only [List.map_toArray, List.map_cons, List.map_nil]); first | done | rfl) ?_; (refine (notes_calls F.out.p).mono ?_); (rintro e w133 ⟨rfl, hb⟩; refine ⟨_, rfl, ?_⟩; have n0 := Aside0.mk (F.out.below hb); clear F hb; have F := n0)) | ((with_reducible refine gate_dst (N := 36) rfl ?_); refine goesL_ (some 36) rfl rfl Tryz.func170 (by kernel_rfl) rfl #[.pointer (some ⟨E.gp, 0, none⟩), .string en] rfl (by (try simp only [List.map_toArray, List.map_cons, List.map_nil]); first | done | rfl) ?_; (refine (take_yes F.out.p en H3.out).mono ?_); (rintro e w136 ⟨rfl, hp, hk⟩; refine ⟨_, rfl, ?_⟩; have n0 := Aside0.mk (F.out.move hp hk); clear F hp hk; have F := n0)) | ((with_reducible refine gate_ (.store 24 (.tmp 38) (.tmp 37)) rfl ?_); refine F.out.sf2 rfl rfl rfl (ndc k t A30 z1.length c30) (v := (.slice none 0 0)) rfl rfl (by show _ < 7; decide) info24s rfl rfl rfl ?_; intro w638 n1; have n0 := Aside0.mk n1; clear F n1; have F := n0) | ((with_reducible refine gate_dst (N := 39) rfl ?_); refine ld_agg rfl (N := 39) rfl rfl rfl (F.out.at_ (n := 2) rfl) hu45 rfl info45 ?_) | ((with_reducible refine gate_ (.store 45 (.tmp 8) (.tmp 39)) rfl ?_); refine F.out.st1 rfl rfl rfl (ndc k t A30 z1.length c30) rfl rfl info45 rfl (ndc_one _ _ _ _ _) ?_; intro w608 n1; have n0 := Aside0.mk n1; clear F n1; have F := n0))
  refine bodyPost_ret (results_single rfl (.cell g8 45 (ndc k t A30 z1.length c30) (0, 0) _ rfl (F.out.at_ (n := 1) rfl) hu45 rfl info45 .nil)) rfl ?_
  rw [Zz1.out]
  refine ⟨A30, c30, rfl, C30.out, Kd.F_mono (Kd.N_F (F.out.rowN (n := 0) rfl)) (fun _ h => h.1), F.out.p, F.out.sz, F.out.kb⟩
set_option maxHeartbeats 4000000 in
set_option maxRecDepth 100000 in
theorem items_two (hr : E.fr < i) (hi : i < E.n) (h1 : isT (E.cur i) en = false) (h2 : Rd E 200 #[.pointer (some ⟨E.gp, 0, none⟩)] i j k1 t1 l1) (h3 : isT (E.cur j) en = false) (h4 : isT (E.cur j) (⟨#[44]⟩ : ByteArray) = true) (h5 : Rd E 200 #[.pointer (some ⟨E.gp, 0, none⟩)] (j + 1) j' k2 t2 l2) (h6 : isT (E.cur j') en = true) : RdI E en i (j' + 1) [nd k1 t1 l1, nd k2 t2 l2] := by
  intro w lo k t A c xs hp hlo hgl hx hN
  have hu45 := Tryz.underlying45
  have hu33 := Tryz.underlying33
  have hu24 := Tryz.underlying24
  have hu86 := Tryz.underlying86
  have hu9 := Tryz.underlying9
  have hu3 := Tryz.underlying3
  have hu4 := Tryz.underlying4
  have F := Aside0.mk (Fr.initN hp hlo hgl hN)
  have HI := Aside0.mk hi
  have HR := Aside0.mk hr
  have HX := Aside0.mk hx
  have H1 := Aside0.mk h1
  have H2 := Aside0.mk h2
  have H3 := Aside0.mk h3
  have H4 := Aside0.mk h4
  have H5 := Aside0.mk h5
  have H6 := Aside0.mk h6
  clear hp hlo hgl hN hi hr hx h1 h2 h3 h4 h5 h6
  unfold AT0
  go_enter Tryz.func199, Tryz.ntmps199
  go_wp2_with (first | ((with_reducible refine gate_dst (N := 5) rfl ?_); refine box_event ?hg (N := 5) ?hd (cs := (ndc k t A xs.length c)) (t := 45) ?hr ?_; (case hd => rfl); (case hg => rfl); (case hr => first | (go_simp; done) | (go_simp; rfl)); intro g5 hg w305 hbox hb; have n0 := Aside0.mk (show Fr E _ _ ((g5, 45, (ndc k t A xs.length c)) :: _) _ _ _ _ from F.out.box hg hbox hb); clear F hbox hb hg; have F := n0) | ((with_reducible refine gate_dst (N := 8) rfl ?_); refine box_event ?hg (N := 8) ?hd (cs := #[.int .i64 0, .string (⟨#[]⟩ : ByteArray), .slice none 0 0, .bool false, .bool false, .slice none 0 0, .slice none 0 0]) (t := 45) ?hr ?_; (case hd => rfl); (case hg => rfl); (case hr => first | (go_simp; done) | (go_simp; rfl)); intro g8 hg w308 hbox hb; have n0 := Aside0.mk (show Fr E _ _ ((g8, 45, z7) :: _) _ _ _ _ from F.out.box hg hbox hb); clear F hbox hb hg; have F := n0))
  refine wp_scope_once 0 rfl ?_
  go_wp2_with (first | ((with_reducible refine gate_dst (N := 12) rfl ?_); refine goesL_ (some 12) rfl rfl Tryz.func165 (by kernel_rfl) rfl #[.pointer (some ⟨E.gp, 0, none⟩)] rfl (by (try simp only [List.map_toArray, List.map_cons, List.map_nil]); first | done | rfl) ?_; (refine (broken_calls F.out.p HR.out HI.out).mono ?_); (rintro e w112 ⟨rfl, hb⟩; refine ⟨_, rfl, ?_⟩; have n0 := Aside0.mk (F.out.below hb); clear F hb; have F := n0)) | ((with_reducible refine gate_ (.store 4 (.tmp 13) (.tmp 12)) rfl ?_); refine F.out.sf1 rfl rfl rfl (ndc k t A xs.length c) (v := (.bool false)) rfl rfl (by show _ < 7; decide) info4s rfl rfl rfl ?_; intro w613 n1; have n0 := Aside0.mk n1; clear F n1; have F := n0) | ((with_reducible refine gate_dst (N := 15) rfl ?_); refine goesL_ (some 15) rfl rfl Tryz.func171 (by kernel_rfl) rfl #[.pointer (some ⟨E.gp, 0, none⟩)] rfl (by (try simp only [List.map_toArray, List.map_cons, List.map_nil]); first | done | rfl) ?_; (refine (notes_calls F.out.p).mono ?_); (rintro e w115 ⟨rfl, hb⟩; refine ⟨_, rfl, ?_⟩; have n0 := Aside0.mk (F.out.below hb); clear F hb; have F := n0)) | ((with_reducible refine gate_dst (N := 18) rfl ?_); refine goesL_ (some 18) rfl rfl Tryz.func170 (by kernel_rfl) rfl #[.pointer (some ⟨E.gp, 0, none⟩), .string en] rfl (by (try simp only [List.map_toArray, List.map_cons, List.map_nil]); first | done | rfl) ?_; (refine (take_no F.out.p en H1.out).mono ?_); (rintro e w118 ⟨rfl, hb⟩; refine ⟨_, rfl, ?_⟩; have n0 := Aside0.mk (F.out.below hb); clear F hb; have F := n0)))
  refine wp_label ?_
  go_wp2_with (first | ((with_reducible refine gate_dst (N := 23) rfl ?_); refine goesV_ (some 23) rfl rfl Tryz.func200 (by kernel_rfl) rfl #[.pointer (some ⟨E.gp, 0, none⟩)] rfl rfl (by simp) ?_; (refine (H2.out _ F.out.p).mono ?_); (rintro e w123 ⟨A23, c23, rfl, hc, hf, hp, hk⟩; refine ⟨_, rfl, ?_⟩; have n0 := Aside0.mk (F.out.node hp hk hf); have C23 := Aside0.mk hc; clear F hc hf hp hk; have F := n0)) | ((with_reducible refine gate_dst (N := 10) rfl ?_); refine box_event ?hg (N := 10) ?hd (cs := #[.int .i64 0, .string (⟨#[]⟩ : ByteArray), .slice none 0 0, .bool false, .bool false, .slice none 0 0, .slice none 0 0]) (t := 45) ?hr ?_; (case hd => rfl); (case hg => rfl); (case hr => first | (go_simp; done) | (go_simp; rfl)); intro g10 hg w310 hbox hb; have n0 := Aside0.mk (show Fr E _ _ ((g10, 45, z7) :: _) _ _ _ _ from F.out.box hg hbox hb); clear F hbox hb hg; have F := n0) | ((with_reducible refine gate_ (.store 45 (.tmp 10) (.tmp 23)) rfl ?_); refine F.out.st0 rfl rfl rfl (ndc k1 t1 A23 l1.length c23) rfl rfl info45 rfl (ndc_one _ _ _ _ _) ?_; intro w610 n1; have n0 := Aside0.mk n1; clear F n1; have F := n0) | ((with_reducible refine gate_ (.store 24 (.tmp 25) (.tmp 24)) rfl ?_); refine F.out.sf0 rfl rfl rfl (ndc k1 t1 A23 l1.length c23) (v := (.slice none 0 0)) rfl rfl (by show _ < 7; decide) info24s rfl rfl rfl ?_; intro w625 n1; have n0 := Aside0.mk n1; clear F n1; have F := n0) | ((with_reducible refine gate_dst (N := 27) rfl ?_); refine ld_cell rfl (N := 27) (v := (.slice A xs.length c)) rfl rfl rfl (F.out.at_ (n := 2) rfl) rfl hu33 rfl ?_) | ((with_reducible refine gate_dst (N := 28) rfl ?_); refine ld_agg rfl (N := 28) rfl rfl rfl (F.out.at_ (n := 0) rfl) hu45 rfl info45 ?_) | ((with_reducible refine gate_dst (N := 29) rfl ?_); refine lit_event ?hg (N := 29) ?hd (m := 1) (cs := (ndc k1 t1 A23 l1.length c23)) (t := 45) ?hr ?_; (case hd => rfl); (case hg => rfl); (case hr => simp only [ndc]; first | (go_simp; done) | (go_simp; rfl)); intro g29 hg w329 hbox hb; have n0 := Aside0.mk (F.out.lit1 0 rfl C23.out hg hbox hb); clear F hbox hb hg; have F := n0) | ((with_reducible refine gate_dst (N := 30) rfl ?_); refine F.out.app (A := (some ⟨g29, 0, none⟩)) (ys := [nd k1 t1 l1]) rfl rfl rfl rfl 0 rfl (by have := HX.out; simp; try omega) ?_; intro A30 c30 w130 n1 hc; (obtain ⟨z1, hz⟩ : ∃ zs, xs ++ [nd k1 t1 l1] = zs := ⟨_, rfl⟩); rw [hz] at n1 hc ⊢; have Zz1 := Aside0.mk hz; clear hz; have n0 := Aside0.mk n1; have C30 := Aside0.mk hc; clear F n1 hc; have F := n0) | ((with_reducible refine gate_ (.store 33 (.tmp 31) (.tmp 30)) rfl ?_); refine F.out.sf2 rfl rfl rfl (ndc k t A30 z1.length c30) (v := (.slice A30 z1.length c30)) rfl rfl (by show _ < 7; decide) info33s rfl rfl rfl ?_; intro w631 n1; have n0 := Aside0.mk n1; clear F n1; have F := n0) | ((with_reducible refine gate_dst (N := 33) rfl ?_); refine goesL_ (some 33) rfl rfl Tryz.func171 (by kernel_rfl) rfl #[.pointer (some ⟨E.gp, 0, none⟩)] rfl (by (try simp only [List.map_toArray, List.map_cons, List.map_nil]); first | done | rfl) ?_; (refine (notes_calls F.out.p).mono ?_); (rintro e w133 ⟨rfl, hb⟩; refine ⟨_, rfl, ?_⟩; have n0 := Aside0.mk (F.out.below hb); clear F hb; have F := n0)) | ((with_reducible refine gate_dst (N := 36) rfl ?_); refine goesL_ (some 36) rfl rfl Tryz.func170 (by kernel_rfl) rfl #[.pointer (some ⟨E.gp, 0, none⟩), .string en] rfl (by (try simp only [List.map_toArray, List.map_cons, List.map_nil]); first | done | rfl) ?_; (refine (take_no F.out.p en H3.out).mono ?_); (rintro e w136 ⟨rfl, hb⟩; refine ⟨_, rfl, ?_⟩; have n0 := Aside0.mk (F.out.below hb); clear F hb; have F := n0)) | ((with_reducible refine gate_dst (N := 43) rfl ?_); refine goesL_ (some 43) rfl rfl Tryz.func175 (by kernel_rfl) rfl #[.bool true] rfl (by (try simp only [List.map_toArray, List.map_cons, List.map_nil]); first | done | rfl) ?_; (refine (must_true).mono ?_); (rintro e w143 ⟨rfl, rfl⟩; refine ⟨_, rfl, ?_⟩; skip)) | ((with_reducible refine gate_dst (N := 45) rfl ?_); refine goesL_ (some 45) rfl rfl Tryz.func164 (by kernel_rfl) rfl #[.pointer (some ⟨E.gp, 0, none⟩), .string (⟨#[44]⟩ : ByteArray)] rfl (by (try simp only [List.map_toArray, List.map_cons, List.map_nil]); first | done | rfl) ?_; (refine (need_yes F.out.p (⟨#[44]⟩ : ByteArray) H4.out).mono ?_); (rintro e w145 ⟨rfl, hp, hk⟩; refine ⟨_, rfl, ?_⟩; have n0 := Aside0.mk (F.out.move hp hk); clear F hp hk; have F := n0)) | ((with_reducible refine gate_dst (N := 47) rfl ?_); refine goesL_ (some 47) rfl rfl Tryz.func171 (by kernel_rfl) rfl #[.pointer (some ⟨E.gp, 0, none⟩)] rfl (by (try simp only [List.map_toArray, List.map_cons, List.map_nil]); first | done | rfl) ?_; (refine (notes_calls F.out.p).mono ?_); (rintro e w147 ⟨rfl, hb⟩; refine ⟨_, rfl, ?_⟩; have n0 := Aside0.mk (F.out.below hb); clear F hb; have F := n0)))
  refine wp_goto ?_
  go_wp2_with fail
  rw [jump_goto]
  refine ⟨rfl, ?_⟩
  have n0 := Aside0.mk F.out.drop0
  clear F
  have F := n0
  go_wp2_with (first | ((with_reducible refine gate_dst (N := 23) rfl ?_); refine goesV_ (some 23) rfl rfl Tryz.func200 (by kernel_rfl) rfl #[.pointer (some ⟨E.gp, 0, none⟩)] rfl rfl (by simp) ?_; (refine (H5.out _ F.out.p).mono ?_); (rintro e w123 ⟨A23, c23, rfl, hc, hf, hp, hk⟩; refine ⟨_, rfl, ?_⟩; have n0 := Aside0.mk (F.out.node hp hk hf); have C23 := Aside0.mk hc; clear F hc hf hp hk; have F := n0)) | ((with_reducible refine gate_dst (N := 10) rfl ?_); refine box_event ?hg (N := 10) ?hd (cs := #[.int .i64 0, .string (⟨#[]⟩ : ByteArray), .slice none 0 0, .bool false, .bool false, .slice none 0 0, .slice none 0 0]) (t := 45) ?hr ?_; (case hd => rfl); (case hg => rfl); (case hr => first | (go_simp; done) | (go_simp; rfl)); intro g10 hg w310 hbox hb; have n0 := Aside0.mk (show Fr E _ _ ((g10, 45, z7) :: _) _ _ _ _ from F.out.box hg hbox hb); clear F hbox hb hg; have F := n0) | ((with_reducible refine gate_ (.store 45 (.tmp 10) (.tmp 23)) rfl ?_); refine F.out.st0 rfl rfl rfl (ndc k2 t2 A23 l2.length c23) rfl rfl info45 rfl (ndc_one _ _ _ _ _) ?_; intro w610 n1; have n0 := Aside0.mk n1; clear F n1; have F := n0) | ((with_reducible refine gate_ (.store 24 (.tmp 25) (.tmp 24)) rfl ?_); refine F.out.sf0 rfl rfl rfl (ndc k2 t2 A23 l2.length c23) (v := (.slice none 0 0)) rfl rfl (by show _ < 7; decide) info24s rfl rfl rfl ?_; intro w625 n1; have n0 := Aside0.mk n1; clear F n1; have F := n0) | ((with_reducible refine gate_dst (N := 27) rfl ?_); refine ld_cell rfl (N := 27) (v := (.slice A30 z1.length c30)) rfl rfl rfl (F.out.at_ (n := 2) rfl) rfl hu33 rfl ?_) | ((with_reducible refine gate_dst (N := 28) rfl ?_); refine ld_agg rfl (N := 28) rfl rfl rfl (F.out.at_ (n := 0) rfl) hu45 rfl info45 ?_) | ((with_reducible refine gate_dst (N := 29) rfl ?_); refine lit_event ?hg (N := 29) ?hd (m := 1) (cs := (ndc k2 t2 A23 l2.length c23)) (t := 45) ?hr ?_; (case hd => rfl); (case hg => rfl); (case hr => simp only [ndc]; first | (go_simp; done) | (go_simp; rfl)); intro g29 hg w329 hbox hb; have n0 := Aside0.mk (F.out.lit1 0 rfl C23.out hg hbox hb); clear F hbox hb hg; have F := n0) | ((with_reducible refine gate_dst (N := 30) rfl ?_); refine F.out.app (A := (some ⟨g29, 0, none⟩)) (ys := [nd k2 t2 l2]) rfl rfl rfl rfl 0 rfl (by have := HX.out; have h2 := congrArg List.length Zz1.out; simp at h2 ⊢; omega) ?_; intro A30 c30 w130 n1 hc; (obtain ⟨z2, hz⟩ : ∃ zs, z1 ++ [nd k2 t2 l2] = zs := ⟨_, rfl⟩); rw [hz] at n1 hc ⊢; have Zz2 := Aside0.mk hz; clear hz; have n0 := Aside0.mk n1; have C30 := Aside0.mk hc; clear F n1 hc; have F := n0) | ((with_reducible refine gate_ (.store 33 (.tmp 31) (.tmp 30)) rfl ?_); refine F.out.sf2 rfl rfl rfl (ndc k t A30 z2.length c30) (v := (.slice A30 z2.length c30)) rfl rfl (by show _ < 7; decide) info33s rfl rfl rfl ?_; intro w631 n1; have n0 := Aside0.mk n1; clear F n1; have F := n0) | ((with_reducible refine gate_dst (N := 33) rfl ?_); refine goesL_ (some 33) rfl rfl Tryz.func171 (by kernel_rfl) rfl #[.pointer (some ⟨E.gp, 0, none⟩)] rfl (by (try simp only [List.map_toArray, List.map_cons, List.map_nil]); first | done | rfl) ?_; (refine (notes_calls F.out.p).mono ?_); (rintro e w133 ⟨rfl, hb⟩; refine ⟨_, rfl, ?_⟩; have n0 := Aside0.mk (F.out.below hb); clear F hb; have F := n0)) | ((with_reducible refine gate_dst (N := 36) rfl ?_); refine goesL_ (some 36) rfl rfl Tryz.func170 (by kernel_rfl) rfl #[.pointer (some ⟨E.gp, 0, none⟩), .string en] rfl (by (try simp only [List.map_toArray, List.map_cons, List.map_nil]); first | done | rfl) ?_; (refine (take_yes F.out.p en H6.out).mono ?_); (rintro e w136 ⟨rfl, hp, hk⟩; refine ⟨_, rfl, ?_⟩; have n0 := Aside0.mk (F.out.move hp hk); clear F hp hk; have F := n0)) | ((with_reducible refine gate_ (.store 24 (.tmp 38) (.tmp 37)) rfl ?_); refine F.out.sf2 rfl rfl rfl (ndc k t A30 z2.length c30) (v := (.slice none 0 0)) rfl rfl (by show _ < 7; decide) info24s rfl rfl rfl ?_; intro w638 n1; have n0 := Aside0.mk n1; clear F n1; have F := n0) | ((with_reducible refine gate_dst (N := 39) rfl ?_); refine ld_agg rfl (N := 39) rfl rfl rfl (F.out.at_ (n := 2) rfl) hu45 rfl info45 ?_) | ((with_reducible refine gate_ (.store 45 (.tmp 8) (.tmp 39)) rfl ?_); refine F.out.st1 rfl rfl rfl (ndc k t A30 z2.length c30) rfl rfl info45 rfl (ndc_one _ _ _ _ _) ?_; intro w608 n1; have n0 := Aside0.mk n1; clear F n1; have F := n0))
  refine bodyPost_ret (results_single rfl (.cell g8 45 (ndc k t A30 z2.length c30) (0, 0) _ rfl (F.out.at_ (n := 1) rfl) hu45 rfl info45 .nil)) rfl ?_
  rw [show xs ++ [nd k1 t1 l1, nd k2 t2 l2] = z2 by rw [← Zz2.out, ← Zz1.out]; simp]
  refine ⟨A30, c30, rfl, C30.out, Kd.F_mono (Kd.N_F (F.out.rowN (n := 0) rfl)) (fun _ h => h.1), F.out.p, F.out.sz, F.out.kb⟩
end
end Go.Proofs.YthipodffpkglfaaGreatDoor.PS
namespace Go.Proofs.YthipodffpkglfaaGreatDoor.PS
open Go.RowKit Go.Proofs.YthipodffpkglfaaGreatDoorW.PrintWords Go.Proofs.YthipodffpkglfaaGreatDoorW.PrintLast Go.Proofs.YthipodffpkglfaaGreatDoorW.PrintMore
set_option linter.unusedVariables false
set_option linter.unusedSimpArgs false
theorem F_nilA (w : World) (ok : Nat → Prop) (A : Option Addr) : Kd.F k45 w ok A ([] : List S45).length [] := fun w' _ => ⟨rfl, Nat.zero_le _, fun h => absurd h (Nat.lt_irrefl _)⟩
section
variable {E : Env} {w : World} {i j j' : Nat} {k : Int} {t : ByteArray} {l : List S45} {A : Option Addr} {n c : Nat}
set_option maxHeartbeats 4000000 in
set_option maxRecDepth 100000 in
theorem bare_call : Calls Tryz.prog 226 #[.agg (ndc 2 t A n c)] w fun e w' => e = .returned (.bool true) ∧ Below w.heap.size w w' := by
  have hu45 := Tryz.underlying45
  have hu33 := Tryz.underlying33
  have hu24 := Tryz.underlying24
  have hu86 := Tryz.underlying86
  have hu9 := Tryz.underlying9
  have hu3 := Tryz.underlying3
  have hu4 := Tryz.underlying4
  go_enter Tryz.func226, Tryz.ntmps226
  go_wp2_with (first | ((with_reducible refine gate_dst (N := 1) rfl ?_); refine box_event ?hg (N := 1) ?hd (cs := (ndc 2 t A n c)) (t := 45) ?hr ?_; (case hd => rfl); (case hg => rfl); (case hr => first | (go_simp; done) | (go_simp; rfl)); intro g1 hg w1 hbox hb; have BX := Aside0.mk (show w1.heap[g1]? = some (.cells (ndc 2 t A n c) 45 (0, 0)) from hbox); have HB := Aside0.mk hb; clear hbox hb hg) | ((with_reducible refine gate_dst (N := 5) rfl ?_); refine ld_cell rfl (N := 5) (v := (.int .i64 2)) rfl rfl rfl BX.out rfl hu3 rfl ?_) | ((with_reducible refine gate_dst (N := 9) rfl ?_); refine ld_cell rfl (N := 9) (v := (.string t)) rfl rfl rfl BX.out rfl hu9 rfl ?_))
  go_ret
  exact ⟨rfl, HB.out⟩
set_option maxHeartbeats 4000000 in
set_option maxRecDepth 100000 in
theorem bare_comp : Calls Tryz.prog 226 #[.agg (ndc 15 t A n c)] w fun e w' => e = .returned (.bool false) ∧ Below w.heap.size w w' := by
  have hu45 := Tryz.underlying45
  have hu33 := Tryz.underlying33
  have hu24 := Tryz.underlying24
  have hu86 := Tryz.underlying86
  have hu9 := Tryz.underlying9
  have hu3 := Tryz.underlying3
  have hu4 := Tryz.underlying4
  go_enter Tryz.func226, Tryz.ntmps226
  go_wp2_with (first | ((with_reducible refine gate_dst (N := 1) rfl ?_); refine box_event ?hg (N := 1) ?hd (cs := (ndc 15 t A n c)) (t := 45) ?hr ?_; (case hd => rfl); (case hg => rfl); (case hr => first | (go_simp; done) | (go_simp; rfl)); intro g1 hg w1 hbox hb; have BX := Aside0.mk (show w1.heap[g1]? = some (.cells (ndc 15 t A n c) 45 (0, 0)) from hbox); have HB := Aside0.mk hb; clear hbox hb hg) | ((with_reducible refine gate_dst (N := 5) rfl ?_); refine ld_cell rfl (N := 5) (v := (.int .i64 15)) rfl rfl rfl BX.out rfl hu3 rfl ?_) | ((with_reducible refine gate_dst (N := 9) rfl ?_); refine ld_cell rfl (N := 9) (v := (.string t)) rfl rfl rfl BX.out rfl hu9 rfl ?_))
  go_ret
  exact ⟨rfl, HB.out⟩
set_option maxHeartbeats 4000000 in
set_option maxRecDepth 100000 in
theorem bare_case : Calls Tryz.prog 226 #[.agg (ndc 18 t A n c)] w fun e w' => e = .returned (.bool false) ∧ Below w.heap.size w w' := by
  have hu45 := Tryz.underlying45
  have hu33 := Tryz.underlying33
  have hu24 := Tryz.underlying24
  have hu86 := Tryz.underlying86
  have hu9 := Tryz.underlying9
  have hu3 := Tryz.underlying3
  have hu4 := Tryz.underlying4
  go_enter Tryz.func226, Tryz.ntmps226
  go_wp2_with (first | ((with_reducible refine gate_dst (N := 1) rfl ?_); refine box_event ?hg (N := 1) ?hd (cs := (ndc 18 t A n c)) (t := 45) ?hr ?_; (case hd => rfl); (case hg => rfl); (case hr => first | (go_simp; done) | (go_simp; rfl)); intro g1 hg w1 hbox hb; have BX := Aside0.mk (show w1.heap[g1]? = some (.cells (ndc 18 t A n c) 45 (0, 0)) from hbox); have HB := Aside0.mk hb; clear hbox hb hg) | ((with_reducible refine gate_dst (N := 5) rfl ?_); refine ld_cell rfl (N := 5) (v := (.int .i64 18)) rfl rfl rfl BX.out rfl hu3 rfl ?_) | ((with_reducible refine gate_dst (N := 9) rfl ?_); refine ld_cell rfl (N := 9) (v := (.string t)) rfl rfl rfl BX.out rfl hu9 rfl ?_))
  go_ret
  exact ⟨rfl, HB.out⟩
set_option maxHeartbeats 4000000 in
set_option maxRecDepth 100000 in
theorem bare_lit (b : Int) (h0 : 0 < t.size) (h1 : ∀ h : 0 < t.size, ((t[0]'h).toNat : Int) = b) (h2 : b ≠ 36) (h3 : b ≠ 34) (h4 : (57 < b)) : Calls Tryz.prog 226 #[.agg (ndc 1 t A n c)] w fun e w' => e = .returned (.bool true) ∧ Below w.heap.size w w' := by
  have hu45 := Tryz.underlying45
  have hu33 := Tryz.underlying33
  have hu24 := Tryz.underlying24
  have hu86 := Tryz.underlying86
  have hu9 := Tryz.underlying9
  have hu3 := Tryz.underlying3
  have hu4 := Tryz.underlying4
  have q2 : (b != 36) = true := bne_iff_ne.2 h2
  have q3 : (b != 34) = true := bne_iff_ne.2 h3
  clear h2 h3
  go_enter Tryz.func226, Tryz.ntmps226
  go_wp2_with (first | ((with_reducible refine gate_dst (N := 1) rfl ?_); refine box_event ?hg (N := 1) ?hd (cs := (ndc 1 t A n c)) (t := 45) ?hr ?_; (case hd => rfl); (case hg => rfl); (case hr => first | (go_simp; done) | (go_simp; rfl)); intro g1 hg w1 hbox hb; have BX := Aside0.mk (show w1.heap[g1]? = some (.cells (ndc 1 t A n c) 45 (0, 0)) from hbox); have HB := Aside0.mk hb; clear hbox hb hg) | ((with_reducible refine gate_dst (N := 5) rfl ?_); refine ld_cell rfl (N := 5) (v := (.int .i64 1)) rfl rfl rfl BX.out rfl hu3 rfl ?_) | ((with_reducible refine gate_dst (N := 9) rfl ?_); refine ld_cell rfl (N := 9) (v := (.string t)) rfl rfl rfl BX.out rfl hu9 rfl ?_))
  go_ret
  exact ⟨rfl, HB.out⟩
/-- What stands behind a primary that stands for itself: nothing. -/
def BhP (E : Env) (w : World) (i : Nat) (k : Int) (t : ByteArray) (A : Option Addr) (n c : Nat) (e : Ending) (w' : World) : Prop := e = .returned (.agg (ndc k t A n c)) ∧ PSt E w' i ∧ KeepBut w w' E.gp none
set_option maxHeartbeats 4000000 in
set_option maxRecDepth 100000 in
theorem behind_comp (hp : PSt E w i) : Calls Tryz.prog 215 #[.pointer (some ⟨E.gp, 0, none⟩), .agg (ndc 15 t A n c), .bool false] w (BhP E w i 15 t A n c) := by
  have hu45 := Tryz.underlying45
  have hu33 := Tryz.underlying33
  have hu24 := Tryz.underlying24
  have hu86 := Tryz.underlying86
  have hu9 := Tryz.underlying9
  have hu3 := Tryz.underlying3
  have hu4 := Tryz.underlying4
  have F := Aside0.mk (Fr.init hp)
  clear hp
  go_enter Tryz.func215, Tryz.ntmps215
  go_wp2_with (first | ((with_reducible refine gate_dst (N := 4) rfl ?_); refine box_event ?hg (N := 4) ?hd (cs := (ndc 15 t A n c)) (t := 45) ?hr ?_; (case hd => rfl); (case hg => rfl); (case hr => first | (go_simp; done) | (go_simp; rfl)); intro g4 hg w304 hbox hb; have n0 := Aside0.mk (show Fr E _ _ ((g4, 45, (ndc 15 t A n c)) :: _) _ _ _ _ from F.out.box hg hbox hb); clear F hbox hb hg; have F := n0) | ((with_reducible refine gate_dst (N := 6) rfl ?_); refine box_event ?hg (N := 6) ?hd (cs := #[.int .i64 0, .string (⟨#[]⟩ : ByteArray), .slice none 0 0, .bool false, .bool false, .slice none 0 0, .slice none 0 0]) (t := 45) ?hr ?_; (case hd => rfl); (case hg => rfl); (case hr => first | (go_simp; done) | (go_simp; rfl)); intro g6 hg w306 hbox hb; have n0 := Aside0.mk (show Fr E _ _ ((g6, 45, z7) :: _) _ _ _ _ from F.out.box hg hbox hb); clear F hbox hb hg; have F := n0))
  refine wp_scope_straight ?_
  go_wp2_with fail
  refine wp_label ?_
  go_wp2_with (first | ((with_reducible refine gate_dst (N := 10) rfl ?_); (refine gate_guard (by rfl) ?_; dsimp only); refine ld_agg rfl (N := 10) rfl rfl rfl (F.out.at_ (n := 1) rfl) hu45 rfl info45 ?_) | ((with_reducible refine gate_dst (N := 11) rfl ?_); (refine gate_guard (by rfl) ?_; dsimp only); refine goesL_ (some 11) rfl rfl Tryz.func226 (by kernel_rfl) rfl #[.agg (ndc 15 t A n c)] rfl (by (try simp only [List.map_toArray, List.map_cons, List.map_nil]); first | done | rfl) ?_; (refine (bare_comp).mono ?_); (rintro e w111 ⟨rfl, hb⟩; refine ⟨_, rfl, ?_⟩; have n0 := Aside0.mk (F.out.below hb); clear F hb; have F := n0)) | ((with_reducible refine gate_dst (N := 14) rfl ?_); refine ld_agg rfl (N := 14) rfl rfl rfl (F.out.at_ (n := 1) rfl) hu45 rfl info45 ?_) | ((with_reducible refine gate_ (.store 45 (.tmp 6) (.tmp 14)) rfl ?_); refine F.out.st0 rfl rfl rfl (ndc 15 t A n c) rfl rfl info45 rfl (ndc_one _ _ _ _ _) ?_; intro w606 n1; have n0 := Aside0.mk n1; clear F n1; have F := n0))
  refine bodyPost_ret (results_single rfl (.cell g6 45 (ndc 15 t A n c) (0, 0) _ rfl (F.out.at_ (n := 0) rfl) hu45 rfl info45 .nil)) rfl ?_
  exact ⟨rfl, F.out.p, F.out.keep⟩
set_option maxHeartbeats 4000000 in
set_option maxRecDepth 100000 in
theorem behind_case (hp : PSt E w i) : Calls Tryz.prog 215 #[.pointer (some ⟨E.gp, 0, none⟩), .agg (ndc 18 t A n c), .bool false] w (BhP E w i 18 t A n c) := by
  have hu45 := Tryz.underlying45
  have hu33 := Tryz.underlying33
  have hu24 := Tryz.underlying24
  have hu86 := Tryz.underlying86
  have hu9 := Tryz.underlying9
  have hu3 := Tryz.underlying3
  have hu4 := Tryz.underlying4
  have F := Aside0.mk (Fr.init hp)
  clear hp
  go_enter Tryz.func215, Tryz.ntmps215
  go_wp2_with (first | ((with_reducible refine gate_dst (N := 4) rfl ?_); refine box_event ?hg (N := 4) ?hd (cs := (ndc 18 t A n c)) (t := 45) ?hr ?_; (case hd => rfl); (case hg => rfl); (case hr => first | (go_simp; done) | (go_simp; rfl)); intro g4 hg w304 hbox hb; have n0 := Aside0.mk (show Fr E _ _ ((g4, 45, (ndc 18 t A n c)) :: _) _ _ _ _ from F.out.box hg hbox hb); clear F hbox hb hg; have F := n0) | ((with_reducible refine gate_dst (N := 6) rfl ?_); refine box_event ?hg (N := 6) ?hd (cs := #[.int .i64 0, .string (⟨#[]⟩ : ByteArray), .slice none 0 0, .bool false, .bool false, .slice none 0 0, .slice none 0 0]) (t := 45) ?hr ?_; (case hd => rfl); (case hg => rfl); (case hr => first | (go_simp; done) | (go_simp; rfl)); intro g6 hg w306 hbox hb; have n0 := Aside0.mk (show Fr E _ _ ((g6, 45, z7) :: _) _ _ _ _ from F.out.box hg hbox hb); clear F hbox hb hg; have F := n0))
  refine wp_scope_straight ?_
  go_wp2_with fail
  refine wp_label ?_
  go_wp2_with (first | ((with_reducible refine gate_dst (N := 10) rfl ?_); (refine gate_guard (by rfl) ?_; dsimp only); refine ld_agg rfl (N := 10) rfl rfl rfl (F.out.at_ (n := 1) rfl) hu45 rfl info45 ?_) | ((with_reducible refine gate_dst (N := 11) rfl ?_); (refine gate_guard (by rfl) ?_; dsimp only); refine goesL_ (some 11) rfl rfl Tryz.func226 (by kernel_rfl) rfl #[.agg (ndc 18 t A n c)] rfl (by (try simp only [List.map_toArray, List.map_cons, List.map_nil]); first | done | rfl) ?_; (refine (bare_case).mono ?_); (rintro e w111 ⟨rfl, hb⟩; refine ⟨_, rfl, ?_⟩; have n0 := Aside0.mk (F.out.below hb); clear F hb; have F := n0)) | ((with_reducible refine gate_dst (N := 14) rfl ?_); refine ld_agg rfl (N := 14) rfl rfl rfl (F.out.at_ (n := 1) rfl) hu45 rfl info45 ?_) | ((with_reducible refine gate_ (.store 45 (.tmp 6) (.tmp 14)) rfl ?_); refine F.out.st0 rfl rfl rfl (ndc 18 t A n c) rfl rfl info45 rfl (ndc_one _ _ _ _ _) ?_; intro w606 n1; have n0 := Aside0.mk n1; clear F n1; have F := n0))
  refine bodyPost_ret (results_single rfl (.cell g6 45 (ndc 18 t A n c) (0, 0) _ rfl (F.out.at_ (n := 0) rfl) hu45 rfl info45 .nil)) rfl ?_
  exact ⟨rfl, F.out.p, F.out.keep⟩
set_option maxHeartbeats 4000000 in
set_option maxRecDepth 100000 in
theorem behind_lit (hp : PSt E w i) (b : Int) (h1 : 0 < t.size ∧ (∀ h : 0 < t.size, ((t[0]'h).toNat : Int) = b) ∧ b ≠ 36 ∧ b ≠ 34 ∧ 57 < b) (h2 : isT (E.cur i) (⟨#[40]⟩ : ByteArray) = false) (h3 : isT (E.cur i) (⟨#[58]⟩ : ByteArray) = false) (h4 : isT (E.cur i) (⟨#[35]⟩ : ByteArray) = false) : Calls Tryz.prog 215 #[.pointer (some ⟨E.gp, 0, none⟩), .agg (ndc 1 t A n c), .bool false] w (BhP E w i 1 t A n c) := by
  have hu45 := Tryz.underlying45
  have hu33 := Tryz.underlying33
  have hu24 := Tryz.underlying24
  have hu86 := Tryz.underlying86
  have hu9 := Tryz.underlying9
  have hu3 := Tryz.underlying3
  have hu4 := Tryz.underlying4
  have F := Aside0.mk (Fr.init hp)
  clear hp
  have H1 := Aside0.mk h1
  have H2 := Aside0.mk h2
  have H3 := Aside0.mk h3
  have H4 := Aside0.mk h4
  clear h1 h2 h3 h4
  go_enter Tryz.func215, Tryz.ntmps215
  go_wp2_with (first | ((with_reducible refine gate_dst (N := 4) rfl ?_); refine box_event ?hg (N := 4) ?hd (cs := (ndc 1 t A n c)) (t := 45) ?hr ?_; (case hd => rfl); (case hg => rfl); (case hr => first | (go_simp; done) | (go_simp; rfl)); intro g4 hg w304 hbox hb; have n0 := Aside0.mk (show Fr E _ _ ((g4, 45, (ndc 1 t A n c)) :: _) _ _ _ _ from F.out.box hg hbox hb); clear F hbox hb hg; have F := n0) | ((with_reducible refine gate_dst (N := 6) rfl ?_); refine box_event ?hg (N := 6) ?hd (cs := #[.int .i64 0, .string (⟨#[]⟩ : ByteArray), .slice none 0 0, .bool false, .bool false, .slice none 0 0, .slice none 0 0]) (t := 45) ?hr ?_; (case hd => rfl); (case hg => rfl); (case hr => first | (go_simp; done) | (go_simp; rfl)); intro g6 hg w306 hbox hb; have n0 := Aside0.mk (show Fr E _ _ ((g6, 45, z7) :: _) _ _ _ _ from F.out.box hg hbox hb); clear F hbox hb hg; have F := n0))
  refine wp_scope_straight ?_
  go_wp2_with fail
  refine wp_label ?_
  go_wp2_with (first | ((with_reducible refine gate_dst (N := 10) rfl ?_); (refine gate_guard (by rfl) ?_; dsimp only); refine ld_agg rfl (N := 10) rfl rfl rfl (F.out.at_ (n := 1) rfl) hu45 rfl info45 ?_) | ((with_reducible refine gate_dst (N := 11) rfl ?_); (refine gate_guard (by rfl) ?_; dsimp only); refine goesL_ (some 11) rfl rfl Tryz.func226 (by kernel_rfl) rfl #[.agg (ndc 1 t A n c)] rfl (by (try simp only [List.map_toArray, List.map_cons, List.map_nil]); first | done | rfl) ?_; (refine (bare_lit b H1.out.1 H1.out.2.1 H1.out.2.2.1 H1.out.2.2.2.1 H1.out.2.2.2.2).mono ?_); (rintro e w111 ⟨rfl, hb⟩; refine ⟨_, rfl, ?_⟩; have n0 := Aside0.mk (F.out.below hb); clear F hb; have F := n0)) | ((with_reducible refine gate_dst (N := 18) rfl ?_); refine goesL_ (some 18) rfl rfl Tryz.func170 (by kernel_rfl) rfl #[.pointer (some ⟨E.gp, 0, none⟩), .string (⟨#[40]⟩ : ByteArray)] rfl (by (try simp only [List.map_toArray, List.map_cons, List.map_nil]); first | done | rfl) ?_; (refine (take_no F.out.p (⟨#[40]⟩ : ByteArray) H2.out).mono ?_); (rintro e w118 ⟨rfl, hb⟩; refine ⟨_, rfl, ?_⟩; have n0 := Aside0.mk (F.out.below hb); clear F hb; have F := n0)) | ((with_reducible refine gate_dst (N := 28) rfl ?_); refine ld_cell rfl (N := 28) (v := (.int .i64 1)) rfl rfl rfl (F.out.at_ (n := 1) rfl) rfl hu3 rfl ?_) | ((with_reducible refine gate_dst (N := 34) rfl ?_); (refine gate_guard (by rfl) ?_; dsimp only); refine ld_cell rfl (N := 34) (v := (.int .i64 1)) rfl rfl rfl (F.out.at_ (n := 1) rfl) rfl hu3 rfl ?_) | ((with_reducible refine gate_dst (N := 40) rfl ?_); (refine gate_guard (by rfl) ?_; dsimp only); refine goesL_ (some 40) rfl rfl Tryz.func170 (by kernel_rfl) rfl #[.pointer (some ⟨E.gp, 0, none⟩), .string (⟨#[58]⟩ : ByteArray)] rfl (by (try simp only [List.map_toArray, List.map_cons, List.map_nil]); first | done | rfl) ?_; (refine (take_no F.out.p (⟨#[58]⟩ : ByteArray) H3.out).mono ?_); (rintro e w140 ⟨rfl, hb⟩; refine ⟨_, rfl, ?_⟩; have n0 := Aside0.mk (F.out.below hb); clear F hb; have F := n0)) | ((with_reducible refine gate_dst (N := 49) rfl ?_); refine goesL_ (some 49) rfl rfl Tryz.func170 (by kernel_rfl) rfl #[.pointer (some ⟨E.gp, 0, none⟩), .string (⟨#[35]⟩ : ByteArray)] rfl (by (try simp only [List.map_toArray, List.map_cons, List.map_nil]); first | done | rfl) ?_; (refine (take_no F.out.p (⟨#[35]⟩ : ByteArray) H4.out).mono ?_); (rintro e w149 ⟨rfl, hb⟩; refine ⟨_, rfl, ?_⟩; have n0 := Aside0.mk (F.out.below hb); clear F hb; have F := n0)) | ((with_reducible refine gate_dst (N := 15) rfl ?_); refine ld_agg rfl (N := 15) rfl rfl rfl (F.out.at_ (n := 1) rfl) hu45 rfl info45 ?_) | ((with_reducible refine gate_ (.store 45 (.tmp 6) (.tmp 15)) rfl ?_); refine F.out.st0 rfl rfl rfl (ndc 1 t A n c) rfl rfl info45 rfl (ndc_one _ _ _ _ _) ?_; intro w606 n1; have n0 := Aside0.mk n1; clear F n1; have F := n0))
  refine bodyPost_ret (results_single rfl (.cell g6 45 (ndc 1 t A n c) (0, 0) _ rfl (F.out.at_ (n := 0) rfl) hu45 rfl info45 .nil)) rfl ?_
  exact ⟨rfl, F.out.p, F.out.keep⟩
variable {ys : List S45}
set_option maxHeartbeats 4000000 in
set_option maxRecDepth 100000 in
theorem behind_call (hp : PSt E w i) (b : Int) (h1 : 0 < t.size ∧ (∀ h : 0 < t.size, ((t[0]'h).toNat : Int) = b) ∧ b ≠ 36 ∧ b ≠ 34 ∧ 57 < b) (h2 : isT (E.cur i) (⟨#[40]⟩ : ByteArray) = true) (h3 : isT (E.cur j) (⟨#[40]⟩ : ByteArray) = false) (h4 : isT (E.cur j) (⟨#[35]⟩ : ByteArray) = false) (h5 : RdI E (⟨#[41]⟩ : ByteArray) (i + 1) j ys) : Calls Tryz.prog 215 #[.pointer (some ⟨E.gp, 0, none⟩), .agg (ndc 1 t A 0 c), .bool false] w (RdP E w j 2 (⟨#[]⟩ : ByteArray) ([nd 1 t []] ++ ys)) := by
  have hu45 := Tryz.underlying45
  have hu33 := Tryz.underlying33
  have hu24 := Tryz.underlying24
  have hu86 := Tryz.underlying86
  have hu9 := Tryz.underlying9
  have hu3 := Tryz.underlying3
  have hu4 := Tryz.underlying4
  have F := Aside0.mk (Fr.init hp)
  clear hp
  have H1 := Aside0.mk h1
  have H2 := Aside0.mk h2
  have H3 := Aside0.mk h3
  have H4 := Aside0.mk h4
  have H5 := Aside0.mk h5
  clear h1 h2 h3 h4 h5
  go_enter Tryz.func215, Tryz.ntmps215
  go_wp2_with (first | ((with_reducible refine gate_dst (N := 4) rfl ?_); refine box_event ?hg (N := 4) ?hd (cs := (ndc 1 t A 0 c)) (t := 45) ?hr ?_; (case hd => rfl); (case hg => rfl); (case hr => first | (go_simp; done) | (go_simp; rfl)); intro g4 hg w304 hbox hb; have n0 := Aside0.mk (show Fr E _ _ ((g4, 45, (ndc 1 t A 0 c)) :: _) _ _ _ _ from F.out.box hg hbox hb); clear F hbox hb hg; have F := n0) | ((with_reducible refine gate_dst (N := 6) rfl ?_); refine box_event ?hg (N := 6) ?hd (cs := #[.int .i64 0, .string (⟨#[]⟩ : ByteArray), .slice none 0 0, .bool false, .bool false, .slice none 0 0, .slice none 0 0]) (t := 45) ?hr ?_; (case hd => rfl); (case hg => rfl); (case hr => first | (go_simp; done) | (go_simp; rfl)); intro g6 hg w306 hbox hb; have n0 := Aside0.mk (show Fr E _ _ ((g6, 45, z7) :: _) _ _ _ _ from F.out.box hg hbox hb); clear F hbox hb hg; have F := n0))
  refine wp_scope_once 0 rfl ?_
  go_wp2_with fail
  refine wp_label ?_
  go_wp2_with (first | ((with_reducible refine gate_dst (N := 10) rfl ?_); (refine gate_guard (by rfl) ?_; dsimp only); refine ld_agg rfl (N := 10) rfl rfl rfl (F.out.at_ (n := 1) rfl) hu45 rfl info45 ?_) | ((with_reducible refine gate_dst (N := 11) rfl ?_); (refine gate_guard (by rfl) ?_; dsimp only); refine goesL_ (some 11) rfl rfl Tryz.func226 (by kernel_rfl) rfl #[.agg (ndc 1 t A 0 c)] rfl (by (try simp only [List.map_toArray, List.map_cons, List.map_nil]); first | done | rfl) ?_; (refine (bare_lit b H1.out.1 H1.out.2.1 H1.out.2.2.1 H1.out.2.2.2.1 H1.out.2.2.2.2).mono ?_); (rintro e w111 ⟨rfl, hb⟩; refine ⟨_, rfl, ?_⟩; have n0 := Aside0.mk (F.out.below hb); clear F hb; have F := n0)) | ((with_reducible refine gate_dst (N := 18) rfl ?_); refine goesL_ (some 18) rfl rfl Tryz.func170 (by kernel_rfl) rfl #[.pointer (some ⟨E.gp, 0, none⟩), .string (⟨#[40]⟩ : ByteArray)] rfl (by (try simp only [List.map_toArray, List.map_cons, List.map_nil]); first | done | rfl) ?_; (refine (take_yes F.out.p (⟨#[40]⟩ : ByteArray) H2.out).mono ?_); (rintro e w118 ⟨rfl, hp, hk⟩; refine ⟨_, rfl, ?_⟩; have n0 := Aside0.mk (F.out.move hp hk); clear F hp hk; have F := n0)) | ((with_reducible refine gate_dst (N := 20) rfl ?_); refine ld_agg rfl (N := 20) rfl rfl rfl (F.out.at_ (n := 1) rfl) hu45 rfl info45 ?_) | ((with_reducible refine gate_dst (N := 21) rfl ?_); refine Kd.N_lit k45 (w0 := w118) w118.heap.size 45 ?hg (N' := 21) ?hd (xs := [nd 1 t []]) (inner := (ndc 1 t A ([] : List S45).length c).toList) (ok := fun q => w118.heap.size ≤ q) (okp := fun q => w118.heap.size ≤ q) ?hr (reps1 (FK_nd (F_nilA w118 _ A) (Nat.zero_le _))) (fun _ hk => hk) (Nat.le_refl _) (Below.refl _ _) (Nat.le_refl _) (by simp) ?_; (case hd => rfl); (case hg => rfl); (case hr => simp only [ndc]; first | (go_simp; done) | (go_simp; rfl)); intro v1 w121 hN hb hgr hat; (obtain ⟨A1, c1, rfl⟩ := Kd.N_slice hN); have HN := Aside0.mk hN; have HL := Aside0.mk hb; clear hN hb hgr hat) | ((with_reducible refine gate_dst (N := 25) rfl ?_); refine goesL_ (some 25) rfl rfl Tryz.func199 (by kernel_rfl) rfl #[.pointer (some ⟨E.gp, 0, none⟩), .agg (ndc 2 (⟨#[]⟩ : ByteArray) A1 1 c1), .string (⟨#[41]⟩ : ByteArray), AT0 E] rfl (by (try simp only [List.map_toArray, List.map_cons, List.map_nil]); first | done | rfl) ?_; (refine (H5.out w121 w118.heap.size 2 (⟨#[]⟩ : ByteArray) A1 c1 [nd 1 t []] (F.out.p.below HL.out) HL.out.size F.out.p.lt (by simp) HN.out).mono ?_); (rintro e w125 ⟨A25, c25, rfl, hc, hf, hp, hs, hk⟩; refine ⟨_, rfl, ?_⟩; (obtain ⟨zs, hz⟩ : ∃ zs, [nd 1 t []] ++ ys = zs := ⟨_, rfl⟩); rw [hz] at hc hf ⊢; have HZ := Aside0.mk hz; have n0 := Aside0.mk (F.out.node hp (show KeepBut w118 w125 E.gp none from ⟨Nat.le_trans HL.out.size hs, fun q h1 h2 _ => (hk q h1 h2).trans (HL.out.block q h1)⟩) hf); have C25 := Aside0.mk hc; clear hz hc hf hp hs hk; clear F; have F := n0)) | ((with_reducible refine gate_ (.store 45 (.tmp 4) (.tmp 25)) rfl ?_); refine F.out.st1 rfl rfl rfl (ndc 2 (⟨#[]⟩ : ByteArray) A25 zs.length c25) rfl rfl info45 rfl (ndc_one _ _ _ _ _) ?_; intro w604 n1; have n0 := Aside0.mk n1; clear F n1; have F := n0))
  refine wp_goto ?_
  go_wp2_with fail
  rw [jump_goto]
  refine ⟨rfl, ?_⟩
  go_wp2_with (first | ((with_reducible refine gate_dst (N := 10) rfl ?_); (refine gate_guard (by rfl) ?_; dsimp only); refine ld_agg rfl (N := 10) rfl rfl rfl (F.out.at_ (n := 1) rfl) hu45 rfl info45 ?_) | ((with_reducible refine gate_dst (N := 11) rfl ?_); (refine gate_guard (by rfl) ?_; dsimp only); refine goesL_ (some 11) rfl rfl Tryz.func226 (by kernel_rfl) rfl #[.agg (ndc 2 (⟨#[]⟩ : ByteArray) A25 zs.length c25)] rfl (by (try simp only [List.map_toArray, List.map_cons, List.map_nil]); first | done | rfl) ?_; (refine (bare_call).mono ?_); (rintro e w111 ⟨rfl, hb⟩; refine ⟨_, rfl, ?_⟩; have n0 := Aside0.mk (F.out.below hb); clear F hb; have F := n0)) | ((with_reducible refine gate_dst (N := 18) rfl ?_); refine goesL_ (some 18) rfl rfl Tryz.func170 (by kernel_rfl) rfl #[.pointer (some ⟨E.gp, 0, none⟩), .string (⟨#[40]⟩ : ByteArray)] rfl (by (try simp only [List.map_toArray, List.map_cons, List.map_nil]); first | done | rfl) ?_; (refine (take_no F.out.p (⟨#[40]⟩ : ByteArray) H3.out).mono ?_); (rintro e w118 ⟨rfl, hb⟩; refine ⟨_, rfl, ?_⟩; have n0 := Aside0.mk (F.out.below hb); clear F hb; have F := n0)) | ((with_reducible refine gate_dst (N := 28) rfl ?_); refine ld_cell rfl (N := 28) (v := (.int .i64 2)) rfl rfl rfl (F.out.at_ (n := 1) rfl) rfl hu3 rfl ?_) | ((with_reducible refine gate_dst (N := 34) rfl ?_); (refine gate_guard (by rfl) ?_; dsimp only); refine ld_cell rfl (N := 34) (v := (.int .i64 2)) rfl rfl rfl (F.out.at_ (n := 1) rfl) rfl hu3 rfl ?_) | ((with_reducible refine gate_dst (N := 49) rfl ?_); refine goesL_ (some 49) rfl rfl Tryz.func170 (by kernel_rfl) rfl #[.pointer (some ⟨E.gp, 0, none⟩), .string (⟨#[35]⟩ : ByteArray)] rfl (by (try simp only [List.map_toArray, List.map_cons, List.map_nil]); first | done | rfl) ?_; (refine (take_no F.out.p (⟨#[35]⟩ : ByteArray) H4.out).mono ?_); (rintro e w149 ⟨rfl, hb⟩; refine ⟨_, rfl, ?_⟩; have n0 := Aside0.mk (F.out.below hb); clear F hb; have F := n0)) | ((with_reducible refine gate_dst (N := 15) rfl ?_); refine ld_agg rfl (N := 15) rfl rfl rfl (F.out.at_ (n := 1) rfl) hu45 rfl info45 ?_) | ((with_reducible refine gate_ (.store 45 (.tmp 6) (.tmp 15)) rfl ?_); refine F.out.st0 rfl rfl rfl (ndc 2 (⟨#[]⟩ : ByteArray) A25 zs.length c25) rfl rfl info45 rfl (ndc_one _ _ _ _ _) ?_; intro w606 n1; have n0 := Aside0.mk n1; clear F n1; have F := n0))
  refine bodyPost_ret (results_single rfl (.cell g6 45 (ndc 2 (⟨#[]⟩ : ByteArray) A25 zs.length c25) (0, 0) _ rfl (F.out.at_ (n := 0) rfl) hu45 rfl info45 .nil)) rfl ?_
  show RdP E w j 2 _ ([nd 1 t []] ++ ys) _ _
  rw [HZ.out]
  exact ⟨A25, c25, rfl, C25.out, F.out.row (n := 0) rfl, F.out.p, F.out.keep⟩
set_option maxHeartbeats 4000000 in
set_option maxRecDepth 100000 in
theorem operand_lit (h1 : isT (E.cur i) (E.cur i).t = false) (h2 : True) (h0 : Rd2 E 214 #[.pointer (some ⟨E.gp, 0, none⟩)] i j k t l (.bool false)) (h3 : ∀ w A c, PSt E w j → Calls Tryz.prog 215 #[.pointer (some ⟨E.gp, 0, none⟩), .agg (ndc k t A l.length c), .bool false] w (BhP E w j k t A l.length c)) : Rd2 E 202 #[.pointer (some ⟨E.gp, 0, none⟩)] i j k t l (.int .i64 11) := by
  intro w hp
  have hu45 := Tryz.underlying45
  have hu33 := Tryz.underlying33
  have hu24 := Tryz.underlying24
  have hu86 := Tryz.underlying86
  have hu9 := Tryz.underlying9
  have hu3 := Tryz.underlying3
  have hu4 := Tryz.underlying4
  have F := Aside0.mk (Fr.init hp)
  have H0 := Aside0.mk h0
  clear hp h0
  have H1 := Aside0.mk h1
  have H2 := Aside0.mk h2
  have H3 := Aside0.mk h3
  clear h1 h2 h3
  go_enter Tryz.func202, Tryz.ntmps202
  go_wp2_with (first | ((with_reducible refine gate_dst (N := 2) rfl ?_); refine box_event ?hg (N := 2) ?hd (cs := #[.int .i64 0, .string (⟨#[]⟩ : ByteArray), .slice none 0 0, .bool false, .bool false, .slice none 0 0, .slice none 0 0]) (t := 45) ?hr ?_; (case hd => rfl); (case hg => rfl); (case hr => first | (go_simp; done) | (go_simp; rfl)); intro g2 hg w302 hbox hb; have n0 := Aside0.mk (show Fr E _ _ ((g2, 45, z7) :: _) _ _ _ _ from F.out.box hg hbox hb); clear F hbox hb hg; have F := n0) | ((with_reducible refine gate_dst (N := 10) rfl ?_); refine goesL_ (some 10) rfl rfl Tryz.func174 (by kernel_rfl) rfl #[.pointer (some ⟨E.gp, 0, none⟩)] rfl (by (try simp only [List.map_toArray, List.map_cons, List.map_nil]); first | done | rfl) ?_; (refine (cur_calls F.out.p).mono ?_); (rintro e w110 ⟨rfl, hb⟩; refine ⟨_, rfl, ?_⟩; have n0 := Aside0.mk (F.out.below hb); clear F hb; have F := n0)) | ((with_reducible refine gate_dst (N := 4) rfl ?_); refine box_event ?hg (N := 4) ?hd (cs := #[.int .i64 0, .string (⟨#[]⟩ : ByteArray), .int .i64 0]) (t := 86) ?hr ?_; (case hd => rfl); (case hg => rfl); (case hr => first | (go_simp; done) | (go_simp; rfl)); intro g4 hg w304 hbox hb; have n0 := Aside0.mk (F.out.box hg hbox hb); clear F hbox hb hg; have F := n0) | ((with_reducible refine gate_ (.store 86 (.tmp 4) (.tmp 10)) rfl ?_); refine F.out.st0 rfl rfl rfl (tkc (E.cur i)) rfl rfl infoTk rfl (tkc_one _) ?_; intro w604 n1; have n0 := Aside0.mk n1; clear F n1; have F := n0) | ((with_reducible refine gate_dst (N := 13) rfl ?_); refine ld_cell rfl (N := 13) (v := .string (E.cur i).t) rfl rfl rfl (F.out.at_ (n := 0) rfl) rfl hu9 rfl ?_) | ((with_reducible refine gate_dst (N := 14) rfl ?_); refine goesL_ (some 14) rfl rfl Tryz.func168 (by kernel_rfl) rfl #[.pointer (some ⟨E.gp, 0, none⟩), .string (E.cur i).t] rfl (by (try simp only [List.map_toArray, List.map_cons, List.map_nil]); first | done | rfl) ?_; (refine (is_calls F.out.p _ _ H1.out).mono ?_); (rintro e w114 ⟨rfl, hb⟩; refine ⟨_, rfl, ?_⟩; have n0 := Aside0.mk (F.out.below hb); clear F hb; have F := n0)) | ((with_reducible refine gate_dst (N := 38) rfl ?_); refine goesL_ (some 38) rfl rfl Tryz.func214 (by kernel_rfl) rfl #[.pointer (some ⟨E.gp, 0, none⟩)] rfl (by (try simp only [List.map_toArray, List.map_cons, List.map_nil]); first | done | rfl) ?_; (refine (H0.out _ F.out.p).mono ?_); (rintro e w138 ⟨A38, c38, rfl, hc, hf, hp, hk⟩; refine ⟨_, rfl, ?_⟩; have n0 := Aside0.mk (F.out.node hp hk hf); have C38 := Aside0.mk hc; clear F hc hf hp hk; have F := n0)) | ((with_reducible refine gate_dst (N := 7) rfl ?_); refine box_event ?hg (N := 7) ?hd (cs := #[.int .i64 0, .string (⟨#[]⟩ : ByteArray), .slice none 0 0, .bool false, .bool false, .slice none 0 0, .slice none 0 0]) (t := 45) ?hr ?_; (case hd => rfl); (case hg => rfl); (case hr => first | (go_simp; done) | (go_simp; rfl)); intro g7 hg w307 hbox hb; have n0 := Aside0.mk (show Fr E _ _ ((g7, 45, z7) :: _) _ _ _ _ from F.out.box hg hbox hb); clear F hbox hb hg; have F := n0) | ((with_reducible refine gate_ (.store 45 (.tmp 7) (.tmp 39)) rfl ?_); refine F.out.st0 rfl rfl rfl (ndc k t A38 l.length c38) rfl rfl info45 rfl (ndc_one _ _ _ _ _) ?_; intro w607 n1; have n0 := Aside0.mk n1; clear F n1; have F := n0) | ((with_reducible refine gate_dst (N := 42) rfl ?_); refine ld_agg rfl (N := 42) rfl rfl rfl (F.out.at_ (n := 0) rfl) hu45 rfl info45 ?_) | ((with_reducible refine gate_dst (N := 44) rfl ?_); refine goesL_ (some 44) rfl rfl Tryz.func215 (by kernel_rfl) rfl #[.pointer (some ⟨E.gp, 0, none⟩), .agg (ndc k t A38 l.length c38), .bool false] rfl (by (try simp only [List.map_toArray, List.map_cons, List.map_nil]); first | done | rfl) ?_; (refine (H3.out _ A38 c38 F.out.p).mono ?_); (rintro e w144 ⟨rfl, hp, hk⟩; refine ⟨_, rfl, ?_⟩; have n0 := Aside0.mk (F.out.move hp hk); clear F hp hk; have F := n0)) | ((with_reducible refine gate_ (.store 45 (.tmp 2) (.tmp 44)) rfl ?_); refine F.out.st2 rfl rfl rfl (ndc k t A38 l.length c38) rfl rfl info45 rfl (ndc_one _ _ _ _ _) ?_; intro w602 n1; have n0 := Aside0.mk n1; clear F n1; have F := n0))
  refine bodyPost_ret (results_ct rfl _ _ g2 45 (ndc k t A38 l.length c38) (0, 0) _ rfl (F.out.at_ (n := 2) rfl) hu45 rfl info45) rfl ?_
  exact ⟨A38, c38, rfl, C38.out, F.out.row (n := 0) rfl, F.out.p, F.out.keep⟩
set_option maxHeartbeats 4000000 in
set_option maxRecDepth 100000 in
theorem operand_sgn (h1 : isT (E.cur i) (E.cur i).t = true) (h2 : ops_Prefix.f (E.cur i).t = some 0) (h0 : Rd2 E 214 #[.pointer (some ⟨E.gp, 0, none⟩)] i j k t l (.bool false)) (h3 : ∀ w A c, PSt E w j → Calls Tryz.prog 215 #[.pointer (some ⟨E.gp, 0, none⟩), .agg (ndc k t A l.length c), .bool false] w (BhP E w j k t A l.length c)) : Rd2 E 202 #[.pointer (some ⟨E.gp, 0, none⟩)] i j k t l (.int .i64 11) := by
  intro w hp
  have hu45 := Tryz.underlying45
  have hu33 := Tryz.underlying33
  have hu24 := Tryz.underlying24
  have hu86 := Tryz.underlying86
  have hu9 := Tryz.underlying9
  have hu3 := Tryz.underlying3
  have hu4 := Tryz.underlying4
  have F := Aside0.mk (Fr.init hp)
  have H0 := Aside0.mk h0
  clear hp h0
  have H1 := Aside0.mk h1
  have H2 := Aside0.mk h2
  have H3 := Aside0.mk h3
  clear h1 h2 h3
  go_enter Tryz.func202, Tryz.ntmps202
  go_wp2_with (first | ((with_reducible refine gate_dst (N := 2) rfl ?_); refine box_event ?hg (N := 2) ?hd (cs := #[.int .i64 0, .string (⟨#[]⟩ : ByteArray), .slice none 0 0, .bool false, .bool false, .slice none 0 0, .slice none 0 0]) (t := 45) ?hr ?_; (case hd => rfl); (case hg => rfl); (case hr => first | (go_simp; done) | (go_simp; rfl)); intro g2 hg w302 hbox hb; have n0 := Aside0.mk (show Fr E _ _ ((g2, 45, z7) :: _) _ _ _ _ from F.out.box hg hbox hb); clear F hbox hb hg; have F := n0) | ((with_reducible refine gate_dst (N := 10) rfl ?_); refine goesL_ (some 10) rfl rfl Tryz.func174 (by kernel_rfl) rfl #[.pointer (some ⟨E.gp, 0, none⟩)] rfl (by (try simp only [List.map_toArray, List.map_cons, List.map_nil]); first | done | rfl) ?_; (refine (cur_calls F.out.p).mono ?_); (rintro e w110 ⟨rfl, hb⟩; refine ⟨_, rfl, ?_⟩; have n0 := Aside0.mk (F.out.below hb); clear F hb; have F := n0)) | ((with_reducible refine gate_dst (N := 4) rfl ?_); refine box_event ?hg (N := 4) ?hd (cs := #[.int .i64 0, .string (⟨#[]⟩ : ByteArray), .int .i64 0]) (t := 86) ?hr ?_; (case hd => rfl); (case hg => rfl); (case hr => first | (go_simp; done) | (go_simp; rfl)); intro g4 hg w304 hbox hb; have n0 := Aside0.mk (F.out.box hg hbox hb); clear F hbox hb hg; have F := n0) | ((with_reducible refine gate_ (.store 86 (.tmp 4) (.tmp 10)) rfl ?_); refine F.out.st0 rfl rfl rfl (tkc (E.cur i)) rfl rfl infoTk rfl (tkc_one _) ?_; intro w604 n1; have n0 := Aside0.mk n1; clear F n1; have F := n0) | ((with_reducible refine gate_dst (N := 13) rfl ?_); refine ld_cell rfl (N := 13) (v := .string (E.cur i).t) rfl rfl rfl (F.out.at_ (n := 0) rfl) rfl hu9 rfl ?_) | ((with_reducible refine gate_dst (N := 14) rfl ?_); refine goesL_ (some 14) rfl rfl Tryz.func168 (by kernel_rfl) rfl #[.pointer (some ⟨E.gp, 0, none⟩), .string (E.cur i).t] rfl (by (try simp only [List.map_toArray, List.map_cons, List.map_nil]); first | done | rfl) ?_; (refine (is_calls F.out.p _ _ H1.out).mono ?_); (rintro e w114 ⟨rfl, hb⟩; refine ⟨_, rfl, ?_⟩; have n0 := Aside0.mk (F.out.below hb); clear F hb; have F := n0)) | ((with_reducible refine gate_dst (N := 17) rfl ?_); (refine gate_guard (by rfl) ?_; dsimp only); refine ld_cell rfl (N := 17) (v := .string (E.cur i).t) rfl rfl rfl (F.out.at_ (n := 0) rfl) rfl hu9 rfl ?_) | ((with_reducible refine gate_dst (N := 18) rfl ?_); (refine gate_guard (by rfl) ?_; dsimp only); refine goesL_ (some 18) rfl rfl Tryz.func213 (by kernel_rfl) rfl #[.string (E.cur i).t] rfl (by (try simp only [List.map_toArray, List.map_cons, List.map_nil]); first | done | rfl) ?_; (refine (pre_calls H2.out).mono ?_); (rintro e w118 ⟨rfl, hb⟩; refine ⟨_, rfl, ?_⟩; have n0 := Aside0.mk (F.out.below hb); clear F hb; have F := n0)) | ((with_reducible refine gate_dst (N := 38) rfl ?_); refine goesL_ (some 38) rfl rfl Tryz.func214 (by kernel_rfl) rfl #[.pointer (some ⟨E.gp, 0, none⟩)] rfl (by (try simp only [List.map_toArray, List.map_cons, List.map_nil]); first | done | rfl) ?_; (refine (H0.out _ F.out.p).mono ?_); (rintro e w138 ⟨A38, c38, rfl, hc, hf, hp, hk⟩; refine ⟨_, rfl, ?_⟩; have n0 := Aside0.mk (F.out.node hp hk hf); have C38 := Aside0.mk hc; clear F hc hf hp hk; have F := n0)) | ((with_reducible refine gate_dst (N := 7) rfl ?_); refine box_event ?hg (N := 7) ?hd (cs := #[.int .i64 0, .string (⟨#[]⟩ : ByteArray), .slice none 0 0, .bool false, .bool false, .slice none 0 0, .slice none 0 0]) (t := 45) ?hr ?_; (case hd => rfl); (case hg => rfl); (case hr => first | (go_simp; done) | (go_simp; rfl)); intro g7 hg w307 hbox hb; have n0 := Aside0.mk (show Fr E _ _ ((g7, 45, z7) :: _) _ _ _ _ from F.out.box hg hbox hb); clear F hbox hb hg; have F := n0) | ((with_reducible refine gate_ (.store 45 (.tmp 7) (.tmp 39)) rfl ?_); refine F.out.st0 rfl rfl rfl (ndc k t A38 l.length c38) rfl rfl info45 rfl (ndc_one _ _ _ _ _) ?_; intro w607 n1; have n0 := Aside0.mk n1; clear F n1; have F := n0) | ((with_reducible refine gate_dst (N := 42) rfl ?_); refine ld_agg rfl (N := 42) rfl rfl rfl (F.out.at_ (n := 0) rfl) hu45 rfl info45 ?_) | ((with_reducible refine gate_dst (N := 44) rfl ?_); refine goesL_ (some 44) rfl rfl Tryz.func215 (by kernel_rfl) rfl #[.pointer (some ⟨E.gp, 0, none⟩), .agg (ndc k t A38 l.length c38), .bool false] rfl (by (try simp only [List.map_toArray, List.map_cons, List.map_nil]); first | done | rfl) ?_; (refine (H3.out _ A38 c38 F.out.p).mono ?_); (rintro e w144 ⟨rfl, hp, hk⟩; refine ⟨_, rfl, ?_⟩; have n0 := Aside0.mk (F.out.move hp hk); clear F hp hk; have F := n0)) | ((with_reducible refine gate_ (.store 45 (.tmp 2) (.tmp 44)) rfl ?_); refine F.out.st2 rfl rfl rfl (ndc k t A38 l.length c38) rfl rfl info45 rfl (ndc_one _ _ _ _ _) ?_; intro w602 n1; have n0 := Aside0.mk n1; clear F n1; have F := n0))
  refine bodyPost_ret (results_ct rfl _ _ g2 45 (ndc k t A38 l.length c38) (0, 0) _ rfl (F.out.at_ (n := 2) rfl) hu45 rfl info45) rfl ?_
  exact ⟨A38, c38, rfl, C38.out, F.out.row (n := 0) rfl, F.out.p, F.out.keep⟩
variable {k2 : Int} {t2 : ByteArray} {l2 : List S45}
set_option maxHeartbeats 4000000 in
set_option maxRecDepth 100000 in
theorem operand_call (h1 : isT (E.cur i) (E.cur i).t = false) (h2 : True) (h0 : Rd2 E 214 #[.pointer (some ⟨E.gp, 0, none⟩)] i j k t l (.bool false)) (h3 : ∀ w A c, PSt E w j → Calls Tryz.prog 215 #[.pointer (some ⟨E.gp, 0, none⟩), .agg (ndc k t A l.length c), .bool false] w (RdP E w j' k2 t2 l2)) : Rd2 E 202 #[.pointer (some ⟨E.gp, 0, none⟩)] i j' k2 t2 l2 (.int .i64 11) := by
  intro w hp
  have hu45 := Tryz.underlying45
  have hu33 := Tryz.underlying33
  have hu24 := Tryz.underlying24
  have hu86 := Tryz.underlying86
  have hu9 := Tryz.underlying9
  have hu3 := Tryz.underlying3
  have hu4 := Tryz.underlying4
  have F := Aside0.mk (Fr.init hp)
  have H0 := Aside0.mk h0
  clear hp h0
  have H1 := Aside0.mk h1
  have H2 := Aside0.mk h2
  have H3 := Aside0.mk h3
  clear h1 h2 h3
  go_enter Tryz.func202, Tryz.ntmps202
  go_wp2_with (first | ((with_reducible refine gate_dst (N := 2) rfl ?_); refine box_event ?hg (N := 2) ?hd (cs := #[.int .i64 0, .string (⟨#[]⟩ : ByteArray), .slice none 0 0, .bool false, .bool false, .slice none 0 0, .slice none 0 0]) (t := 45) ?hr ?_; (case hd => rfl); (case hg => rfl); (case hr => first | (go_simp; done) | (go_simp; rfl)); intro g2 hg w302 hbox hb; have n0 := Aside0.mk (show Fr E _ _ ((g2, 45, z7) :: _) _ _ _ _ from F.out.box hg hbox hb); clear F hbox hb hg; have F := n0) | ((with_reducible refine gate_dst (N := 10) rfl ?_); refine goesL_ (some 10) rfl rfl Tryz.func174 (by kernel_rfl) rfl #[.pointer (some ⟨E.gp, 0, none⟩)] rfl (by (try simp only [List.map_toArray, List.map_cons, List.map_nil]); first | done | rfl) ?_; (refine (cur_calls F.out.p).mono ?_); (rintro e w110 ⟨rfl, hb⟩; refine ⟨_, rfl, ?_⟩; have n0 := Aside0.mk (F.out.below hb); clear F hb; have F := n0)) | ((with_reducible refine gate_dst (N := 4) rfl ?_); refine box_event ?hg (N := 4) ?hd (cs := #[.int .i64 0, .string (⟨#[]⟩ : ByteArray), .int .i64 0]) (t := 86) ?hr ?_; (case hd => rfl); (case hg => rfl); (case hr => first | (go_simp; done) | (go_simp; rfl)); intro g4 hg w304 hbox hb; have n0 := Aside0.mk (F.out.box hg hbox hb); clear F hbox hb hg; have F := n0) | ((with_reducible refine gate_ (.store 86 (.tmp 4) (.tmp 10)) rfl ?_); refine F.out.st0 rfl rfl rfl (tkc (E.cur i)) rfl rfl infoTk rfl (tkc_one _) ?_; intro w604 n1; have n0 := Aside0.mk n1; clear F n1; have F := n0) | ((with_reducible refine gate_dst (N := 13) rfl ?_); refine ld_cell rfl (N := 13) (v := .string (E.cur i).t) rfl rfl rfl (F.out.at_ (n := 0) rfl) rfl hu9 rfl ?_) | ((with_reducible refine gate_dst (N := 14) rfl ?_); refine goesL_ (some 14) rfl rfl Tryz.func168 (by kernel_rfl) rfl #[.pointer (some ⟨E.gp, 0, none⟩), .string (E.cur i).t] rfl (by (try simp only [List.map_toArray, List.map_cons, List.map_nil]); first | done | rfl) ?_; (refine (is_calls F.out.p _ _ H1.out).mono ?_); (rintro e w114 ⟨rfl, hb⟩; refine ⟨_, rfl, ?_⟩; have n0 := Aside0.mk (F.out.below hb); clear F hb; have F := n0)) | ((with_reducible refine gate_dst (N := 38) rfl ?_); refine goesL_ (some 38) rfl rfl Tryz.func214 (by kernel_rfl) rfl #[.pointer (some ⟨E.gp, 0, none⟩)] rfl (by (try simp only [List.map_toArray, List.map_cons, List.map_nil]); first | done | rfl) ?_; (refine (H0.out _ F.out.p).mono ?_); (rintro e w138 ⟨A38, c38, rfl, hc, hf, hp, hk⟩; refine ⟨_, rfl, ?_⟩; have n0 := Aside0.mk (F.out.node hp hk hf); have C38 := Aside0.mk hc; clear F hc hf hp hk; have F := n0)) | ((with_reducible refine gate_dst (N := 7) rfl ?_); refine box_event ?hg (N := 7) ?hd (cs := #[.int .i64 0, .string (⟨#[]⟩ : ByteArray), .slice none 0 0, .bool false, .bool false, .slice none 0 0, .slice none 0 0]) (t := 45) ?hr ?_; (case hd => rfl); (case hg => rfl); (case hr => first | (go_simp; done) | (go_simp; rfl)); intro g7 hg w307 hbox hb; have n0 := Aside0.mk (show Fr E _ _ ((g7, 45, z7) :: _) _ _ _ _ from F.out.box hg hbox hb); clear F hbox hb hg; have F := n0) | ((with_reducible refine gate_ (.store 45 (.tmp 7) (.tmp 39)) rfl ?_); refine F.out.st0 rfl rfl rfl (ndc k t A38 l.length c38) rfl rfl info45 rfl (ndc_one _ _ _ _ _) ?_; intro w607 n1; have n0 := Aside0.mk n1; clear F n1; have F := n0) | ((with_reducible refine gate_dst (N := 42) rfl ?_); refine ld_agg rfl (N := 42) rfl rfl rfl (F.out.at_ (n := 0) rfl) hu45 rfl info45 ?_) | ((with_reducible refine gate_dst (N := 44) rfl ?_); refine goesL_ (some 44) rfl rfl Tryz.func215 (by kernel_rfl) rfl #[.pointer (some ⟨E.gp, 0, none⟩), .agg (ndc k t A38 l.length c38), .bool false] rfl (by (try simp only [List.map_toArray, List.map_cons, List.map_nil]); first | done | rfl) ?_; (refine (H3.out _ A38 c38 F.out.p).mono ?_); (rintro e w144 ⟨A44, c44, rfl, hc, hf, hp, hk⟩; refine ⟨_, rfl, ?_⟩; have n0 := Aside0.mk (F.out.node hp hk hf); have C44 := Aside0.mk hc; clear F hc hf hp hk; have F := n0)) | ((with_reducible refine gate_ (.store 45 (.tmp 2) (.tmp 44)) rfl ?_); refine F.out.st2 rfl rfl rfl (ndc k2 t2 A44 l2.length c44) rfl rfl info45 rfl (ndc_one _ _ _ _ _) ?_; intro w602 n1; have n0 := Aside0.mk n1; clear F n1; have F := n0))
  refine bodyPost_ret (results_ct rfl _ _ g2 45 (ndc k2 t2 A44 l2.length c44) (0, 0) _ rfl (F.out.at_ (n := 2) rfl) hu45 rfl info45) rfl ?_
  exact ⟨A44, c44, rfl, C44.out, F.out.row (n := 0) rfl, F.out.p, F.out.keep⟩
end
end Go.Proofs.YthipodffpkglfaaGreatDoor.PS
