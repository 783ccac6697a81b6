/- The makers of package doc make what they say. -/
import Derived.Test.YtjlnlonioknkhaaPAx0
namespace Go.Proofs.Ytjlnlonioknkhaa.PA
open Go.RowKit Go.Proofs.YtjlnlonioknkhaaW.PrintWords Go.Proofs.YtjlnlonioknkhaaW.PrintLast Go.Proofs.YtjlnlonioknkhaaW.PrintMore
set_option linter.unusedVariables false
set_option linter.unusedSimpArgs false

set_option maxHeartbeats 2000000 in
theorem mk36 (s : ByteArray) (w : World) :
    Calls Try.prog 36 #[.string s] w fun e w' => e = .returned (.agg #[.int .i64 1, .int .i64 0, .string s, .slice none 0 0]) ∧ Below w.heap.size w w' := by
  have hu40 := Try.underlying40
  go_enter Try.func36, Try.ntmps36
  go_wp2_with (first | ((with_reducible refine gate_dst (N := 2) rfl ?_); (try (refine gate_guard (by rfl) ?_; dsimp only)); refine box_event ?hg (N := 2) ?hd (cs := #[.int .i64 0, .int .i64 0, .string (⟨#[]⟩ : ByteArray), .slice none 0 0]) (t := 40) ?hr ?_; (case hd => rfl); (case hg => rfl); (case hr => first | (go_simp; done) | (go_simp; rfl)); intro gb hg w2 hbox hb; have HB := Aside0.mk hb; have HG := Aside0.mk hg; have BK := Aside0.mk hbox; have hc0 : w2.cell? ⟨gb, 0, none⟩ = some (.int .i64 0) := (blk_cell BK.out 0).trans rfl; have hc1 : w2.cell? ⟨gb, 1, none⟩ = some (.int .i64 0) := (blk_cell BK.out 1).trans rfl; have hc2 : w2.cell? ⟨gb, 2, none⟩ = some (.string (⟨#[]⟩ : ByteArray)) := (blk_cell BK.out 2).trans rfl; have hc3 : w2.cell? ⟨gb, 3, none⟩ = some (.slice none 0 0) := (blk_cell BK.out 3).trans rfl; have hf0 := blk_frozen BK.out 0; have hf1 := blk_frozen BK.out 1; have hf2 := blk_frozen BK.out 2; have hf3 := blk_frozen BK.out 3; clear hb hbox hg))
  refine bodyPost_ret (results_cell_row rfl _ _ gb 40 #[.int .i64 1, .int .i64 0, .string s, .slice none 0 0] (0, 0) _ rfl (by
    refine blk_put (cs := #[.int .i64 1, .int .i64 0, .string s, .slice none 0 0]) ?_ 3 _ rfl
    refine blk_put (cs := #[.int .i64 1, .int .i64 0, .string (⟨#[]⟩ : ByteArray), .slice none 0 0]) ?_ 2 _ rfl
    refine blk_put (cs := #[.int .i64 1, .int .i64 0, .string (⟨#[]⟩ : ByteArray), .slice none 0 0]) ?_ 1 _ rfl
    refine blk_put (cs := #[.int .i64 0, .int .i64 0, .string (⟨#[]⟩ : ByteArray), .slice none 0 0]) ?_ 0 _ rfl
    exact BK.out) Try.underlying40 rfl (by kernel_rfl)) rfl ?_
  have hg := HG.out
  exact ⟨rfl, (((HB.out.setCell (by rw [hg]; exact Nat.le_refl _) _).setCell (by rw [hg]; exact Nat.le_refl _) _).setCell (by rw [hg]; exact Nat.le_refl _) _).setCell (by rw [hg]; exact Nat.le_refl _) _⟩

set_option maxHeartbeats 2000000 in
theorem mk37 (A : Option Addr) (n c : Nat) (w : World) :
    Calls Try.prog 37 #[.slice A n c] w fun e w' => e = .returned (.agg #[.int .i64 5, .int .i64 0, .string (⟨#[]⟩ : ByteArray), .slice A n c]) ∧ Below w.heap.size w w' := by
  have hu40 := Try.underlying40
  go_enter Try.func37, Try.ntmps37
  go_wp2_with (first | ((with_reducible refine gate_dst (N := 2) rfl ?_); (try (refine gate_guard (by rfl) ?_; dsimp only)); refine box_event ?hg (N := 2) ?hd (cs := #[.int .i64 0, .int .i64 0, .string (⟨#[]⟩ : ByteArray), .slice none 0 0]) (t := 40) ?hr ?_; (case hd => rfl); (case hg => rfl); (case hr => first | (go_simp; done) | (go_simp; rfl)); intro gb hg w2 hbox hb; have HB := Aside0.mk hb; have HG := Aside0.mk hg; have BK := Aside0.mk hbox; have hc0 : w2.cell? ⟨gb, 0, none⟩ = some (.int .i64 0) := (blk_cell BK.out 0).trans rfl; have hc1 : w2.cell? ⟨gb, 1, none⟩ = some (.int .i64 0) := (blk_cell BK.out 1).trans rfl; have hc2 : w2.cell? ⟨gb, 2, none⟩ = some (.string (⟨#[]⟩ : ByteArray)) := (blk_cell BK.out 2).trans rfl; have hc3 : w2.cell? ⟨gb, 3, none⟩ = some (.slice none 0 0) := (blk_cell BK.out 3).trans rfl; have hf0 := blk_frozen BK.out 0; have hf1 := blk_frozen BK.out 1; have hf2 := blk_frozen BK.out 2; have hf3 := blk_frozen BK.out 3; clear hb hbox hg))
  refine bodyPost_ret (results_cell_row rfl _ _ gb 40 #[.int .i64 5, .int .i64 0, .string (⟨#[]⟩ : ByteArray), .slice A n c] (0, 0) _ rfl (by
    refine blk_put (cs := #[.int .i64 5, .int .i64 0, .string (⟨#[]⟩ : ByteArray), .slice none 0 0]) ?_ 3 _ rfl
    refine blk_put (cs := #[.int .i64 5, .int .i64 0, .string (⟨#[]⟩ : ByteArray), .slice none 0 0]) ?_ 2 _ rfl
    refine blk_put (cs := #[.int .i64 5, .int .i64 0, .string (⟨#[]⟩ : ByteArray), .slice none 0 0]) ?_ 1 _ rfl
    refine blk_put (cs := #[.int .i64 0, .int .i64 0, .string (⟨#[]⟩ : ByteArray), .slice none 0 0]) ?_ 0 _ rfl
    exact BK.out) Try.underlying40 rfl (by kernel_rfl)) rfl ?_
  have hg := HG.out
  exact ⟨rfl, (((HB.out.setCell (by rw [hg]; exact Nat.le_refl _) _).setCell (by rw [hg]; exact Nat.le_refl _) _).setCell (by rw [hg]; exact Nat.le_refl _) _).setCell (by rw [hg]; exact Nat.le_refl _) _⟩

set_option maxHeartbeats 2000000 in
theorem mk38 (k : Int) (A : Option Addr) (n c : Nat) (w : World) :
    Calls Try.prog 38 #[.int .i64 k, .slice A n c] w fun e w' => e = .returned (.agg #[.int .i64 6, .int .i64 k, .string (⟨#[]⟩ : ByteArray), .slice A n c]) ∧ Below w.heap.size w w' := by
  have hu40 := Try.underlying40
  go_enter Try.func38, Try.ntmps38
  go_wp2_with (first | ((with_reducible refine gate_dst (N := 4) rfl ?_); (try (refine gate_guard (by rfl) ?_; dsimp only)); refine box_event ?hg (N := 4) ?hd (cs := #[.int .i64 0, .int .i64 0, .string (⟨#[]⟩ : ByteArray), .slice none 0 0]) (t := 40) ?hr ?_; (case hd => rfl); (case hg => rfl); (case hr => first | (go_simp; done) | (go_simp; rfl)); intro gb hg w2 hbox hb; have HB := Aside0.mk hb; have HG := Aside0.mk hg; have BK := Aside0.mk hbox; have hc0 : w2.cell? ⟨gb, 0, none⟩ = some (.int .i64 0) := (blk_cell BK.out 0).trans rfl; have hc1 : w2.cell? ⟨gb, 1, none⟩ = some (.int .i64 0) := (blk_cell BK.out 1).trans rfl; have hc2 : w2.cell? ⟨gb, 2, none⟩ = some (.string (⟨#[]⟩ : ByteArray)) := (blk_cell BK.out 2).trans rfl; have hc3 : w2.cell? ⟨gb, 3, none⟩ = some (.slice none 0 0) := (blk_cell BK.out 3).trans rfl; have hf0 := blk_frozen BK.out 0; have hf1 := blk_frozen BK.out 1; have hf2 := blk_frozen BK.out 2; have hf3 := blk_frozen BK.out 3; clear hb hbox hg))
  refine bodyPost_ret (results_cell_row rfl _ _ gb 40 #[.int .i64 6, .int .i64 k, .string (⟨#[]⟩ : ByteArray), .slice A n c] (0, 0) _ rfl (by
    refine blk_put (cs := #[.int .i64 6, .int .i64 k, .string (⟨#[]⟩ : ByteArray), .slice none 0 0]) ?_ 3 _ rfl
    refine blk_put (cs := #[.int .i64 6, .int .i64 k, .string (⟨#[]⟩ : ByteArray), .slice none 0 0]) ?_ 2 _ rfl
    refine blk_put (cs := #[.int .i64 6, .int .i64 0, .string (⟨#[]⟩ : ByteArray), .slice none 0 0]) ?_ 1 _ rfl
    refine blk_put (cs := #[.int .i64 0, .int .i64 0, .string (⟨#[]⟩ : ByteArray), .slice none 0 0]) ?_ 0 _ rfl
    exact BK.out) Try.underlying40 rfl (by kernel_rfl)) rfl ?_
  have hg := HG.out
  exact ⟨rfl, (((HB.out.setCell (by rw [hg]; exact Nat.le_refl _) _).setCell (by rw [hg]; exact Nat.le_refl _) _).setCell (by rw [hg]; exact Nat.le_refl _) _).setCell (by rw [hg]; exact Nat.le_refl _) _⟩

set_option maxHeartbeats 2000000 in
theorem mk39 (A : Option Addr) (n c : Nat) (w : World) :
    Calls Try.prog 39 #[.slice A n c] w fun e w' => e = .returned (.agg #[.int .i64 7, .int .i64 0, .string (⟨#[]⟩ : ByteArray), .slice A n c]) ∧ Below w.heap.size w w' := by
  have hu40 := Try.underlying40
  go_enter Try.func39, Try.ntmps39
  go_wp2_with (first | ((with_reducible refine gate_dst (N := 2) rfl ?_); (try (refine gate_guard (by rfl) ?_; dsimp only)); refine box_event ?hg (N := 2) ?hd (cs := #[.int .i64 0, .int .i64 0, .string (⟨#[]⟩ : ByteArray), .slice none 0 0]) (t := 40) ?hr ?_; (case hd => rfl); (case hg => rfl); (case hr => first | (go_simp; done) | (go_simp; rfl)); intro gb hg w2 hbox hb; have HB := Aside0.mk hb; have HG := Aside0.mk hg; have BK := Aside0.mk hbox; have hc0 : w2.cell? ⟨gb, 0, none⟩ = some (.int .i64 0) := (blk_cell BK.out 0).trans rfl; have hc1 : w2.cell? ⟨gb, 1, none⟩ = some (.int .i64 0) := (blk_cell BK.out 1).trans rfl; have hc2 : w2.cell? ⟨gb, 2, none⟩ = some (.string (⟨#[]⟩ : ByteArray)) := (blk_cell BK.out 2).trans rfl; have hc3 : w2.cell? ⟨gb, 3, none⟩ = some (.slice none 0 0) := (blk_cell BK.out 3).trans rfl; have hf0 := blk_frozen BK.out 0; have hf1 := blk_frozen BK.out 1; have hf2 := blk_frozen BK.out 2; have hf3 := blk_frozen BK.out 3; clear hb hbox hg))
  refine bodyPost_ret (results_cell_row rfl _ _ gb 40 #[.int .i64 7, .int .i64 0, .string (⟨#[]⟩ : ByteArray), .slice A n c] (0, 0) _ rfl (by
    refine blk_put (cs := #[.int .i64 7, .int .i64 0, .string (⟨#[]⟩ : ByteArray), .slice none 0 0]) ?_ 3 _ rfl
    refine blk_put (cs := #[.int .i64 7, .int .i64 0, .string (⟨#[]⟩ : ByteArray), .slice none 0 0]) ?_ 2 _ rfl
    refine blk_put (cs := #[.int .i64 7, .int .i64 0, .string (⟨#[]⟩ : ByteArray), .slice none 0 0]) ?_ 1 _ rfl
    refine blk_put (cs := #[.int .i64 0, .int .i64 0, .string (⟨#[]⟩ : ByteArray), .slice none 0 0]) ?_ 0 _ rfl
    exact BK.out) Try.underlying40 rfl (by kernel_rfl)) rfl ?_
  have hg := HG.out
  exact ⟨rfl, (((HB.out.setCell (by rw [hg]; exact Nat.le_refl _) _).setCell (by rw [hg]; exact Nat.le_refl _) _).setCell (by rw [hg]; exact Nat.le_refl _) _).setCell (by rw [hg]; exact Nat.le_refl _) _⟩

set_option maxHeartbeats 2000000 in
theorem mk40 (A : Option Addr) (n c : Nat) (w : World) :
    Calls Try.prog 40 #[.slice A n c] w fun e w' => e = .returned (.agg #[.int .i64 7, .int .i64 1, .string (⟨#[]⟩ : ByteArray), .slice A n c]) ∧ Below w.heap.size w w' := by
  have hu40 := Try.underlying40
  go_enter Try.func40, Try.ntmps40
  go_wp2_with (first | ((with_reducible refine gate_dst (N := 2) rfl ?_); (try (refine gate_guard (by rfl) ?_; dsimp only)); refine box_event ?hg (N := 2) ?hd (cs := #[.int .i64 0, .int .i64 0, .string (⟨#[]⟩ : ByteArray), .slice none 0 0]) (t := 40) ?hr ?_; (case hd => rfl); (case hg => rfl); (case hr => first | (go_simp; done) | (go_simp; rfl)); intro gb hg w2 hbox hb; have HB := Aside0.mk hb; have HG := Aside0.mk hg; have BK := Aside0.mk hbox; have hc0 : w2.cell? ⟨gb, 0, none⟩ = some (.int .i64 0) := (blk_cell BK.out 0).trans rfl; have hc1 : w2.cell? ⟨gb, 1, none⟩ = some (.int .i64 0) := (blk_cell BK.out 1).trans rfl; have hc2 : w2.cell? ⟨gb, 2, none⟩ = some (.string (⟨#[]⟩ : ByteArray)) := (blk_cell BK.out 2).trans rfl; have hc3 : w2.cell? ⟨gb, 3, none⟩ = some (.slice none 0 0) := (blk_cell BK.out 3).trans rfl; have hf0 := blk_frozen BK.out 0; have hf1 := blk_frozen BK.out 1; have hf2 := blk_frozen BK.out 2; have hf3 := blk_frozen BK.out 3; clear hb hbox hg))
  refine bodyPost_ret (results_cell_row rfl _ _ gb 40 #[.int .i64 7, .int .i64 1, .string (⟨#[]⟩ : ByteArray), .slice A n c] (0, 0) _ rfl (by
    refine blk_put (cs := #[.int .i64 7, .int .i64 1, .string (⟨#[]⟩ : ByteArray), .slice none 0 0]) ?_ 3 _ rfl
    refine blk_put (cs := #[.int .i64 7, .int .i64 1, .string (⟨#[]⟩ : ByteArray), .slice none 0 0]) ?_ 2 _ rfl
    refine blk_put (cs := #[.int .i64 7, .int .i64 0, .string (⟨#[]⟩ : ByteArray), .slice none 0 0]) ?_ 1 _ rfl
    refine blk_put (cs := #[.int .i64 0, .int .i64 0, .string (⟨#[]⟩ : ByteArray), .slice none 0 0]) ?_ 0 _ rfl
    exact BK.out) Try.underlying40 rfl (by kernel_rfl)) rfl ?_
  have hg := HG.out
  exact ⟨rfl, (((HB.out.setCell (by rw [hg]; exact Nat.le_refl _) _).setCell (by rw [hg]; exact Nat.le_refl _) _).setCell (by rw [hg]; exact Nat.le_refl _) _).setCell (by rw [hg]; exact Nat.le_refl _) _⟩
end Go.Proofs.Ytjlnlonioknkhaa.PA
