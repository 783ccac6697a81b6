/- A group of what came in, just made; what Modes told, read. -/
import Derived.Test.YtigihiggpfjbjaaHPf
namespace Go.Proofs.Ytigihiggpfjbjaa.PR
open Go.RowKit Go.Proofs.YtigihiggpfjbjaaW.PrintWords Go.Proofs.YtigihiggpfjbjaaW.PrintLast Go.Proofs.YtigihiggpfjbjaaW.PrintMore
set_option linter.unusedVariables false
set_option linter.unusedSimpArgs false
theorem alloc_size (w : World) (o : Obj) : (w.alloc o).heap.size = w.heap.size + 1 := by simp
/-- The group of one lies so. -/
theorem grp_world {w : World} {x : S24} {A : Option Addr} {c : Nat} (hx : Dc w x A c) :
    Below w.heap.size w ((w.alloc (.cells #[.int .i64 x.f0, .int .i64 x.f1, .string x.f2, .slice A x.f3.length c] 24)).alloc (.cells #[.int .i64 7, .int .i64 0, .string (⟨#[]⟩ : ByteArray), .slice (some ⟨w.heap.size, 0, none⟩) 1 1] 24)) ∧
    IvD ((w.alloc (.cells #[.int .i64 x.f0, .int .i64 x.f1, .string x.f2, .slice A x.f3.length c] 24)).alloc (.cells #[.int .i64 7, .int .i64 0, .string (⟨#[]⟩ : ByteArray), .slice (some ⟨w.heap.size, 0, none⟩) 1 1] 24)) ((w.alloc (.cells #[.int .i64 x.f0, .int .i64 x.f1, .string x.f2, .slice A x.f3.length c] 24)).alloc (.cells #[.int .i64 7, .int .i64 0, .string (⟨#[]⟩ : ByteArray), .slice (some ⟨w.heap.size, 0, none⟩) 1 1] 24)) (w.heap.size + 1) (grp x) (some ⟨w.heap.size, 0, none⟩) 1 := by
  have hb1 : Below w.heap.size w (w.alloc (.cells #[.int .i64 x.f0, .int .i64 x.f1, .string x.f2, .slice A x.f3.length c] 24)) := below_alloc (Below.refl _ _) _
  have hl := blk_new w (.cells #[.int .i64 x.f0, .int .i64 x.f1, .string x.f2, .slice A x.f3.length c] 24)
  have hx1 := hx.below hb1
  have hz := alloc_size w (.cells #[.int .i64 x.f0, .int .i64 x.f1, .string x.f2, .slice A x.f3.length c] 24)
  generalize w.alloc (.cells #[.int .i64 x.f0, .int .i64 x.f1, .string x.f2, .slice A x.f3.length c] 24) = w1 at hb1 hl hx1 hz ⊢
  have hb2 : Below w1.heap.size w1 (w1.alloc (.cells #[.int .i64 7, .int .i64 0, .string (⟨#[]⟩ : ByteArray), .slice (some ⟨w.heap.size, 0, none⟩) 1 1] 24)) := below_alloc (Below.refl _ _) _
  have hg := blk_new w1 (.cells #[.int .i64 7, .int .i64 0, .string (⟨#[]⟩ : ByteArray), .slice (some ⟨w.heap.size, 0, none⟩) 1 1] 24)
  rw [hz] at hg
  refine ⟨below_step hb1 hb2, Below.refl _ _, hg, ?_⟩
  exact ⟨C24_one (blk_below hl hb2) (hx1.below hb2), Nat.le_refl _⟩
/-- A row of bools that begins with one. -/
theorem own_head {w : World} {B : Nat} {v : Value} {b : Bool} {m : List Bool} {n : Nat} (h : w.ownsRow B 4 1 v ((b :: m).map Value.bool).length ((b :: m).map Value.bool)) (hn : m.length + 1 = n) : ∃ g c, v = .slice (some ⟨g, 0, none⟩) n c ∧ w.cell? ⟨g, 0, none⟩ = some (.bool b) := by
  have hl : ((b :: m).map Value.bool).length = n := by simp [hn]
  rcases h.2 with ⟨_, e⟩ | ⟨g, cap, cur, hv, _⟩
  · simp at e
  · subst hv
    refine ⟨g, cap, by rw [hl], ?_⟩
    have := h.cellAt 0 (by rw [hl]; omega)
    simpa using this
theorem ren_of {x : S24} {wd : Int} {s : ByteArray} {m : List Bool} (h1 : 1 ≤ wd) (h2 : wd ≤ 10000) (hm : mayB x = true) (hs : strOf (renS x wd).out = s) (ht : (renS x wd).modes = m) : renT x wd = s ∧ renE x wd = 0 ∧ renM x wd = m := by
  have ho := (okR_iff x wd).2 ⟨h1, h2, hm⟩
  unfold renT renE renM
  rw [if_pos ho, if_pos ho, if_pos ho]
  exact ⟨hs, rfl, ht⟩
end Go.Proofs.Ytigihiggpfjbjaa.PR
