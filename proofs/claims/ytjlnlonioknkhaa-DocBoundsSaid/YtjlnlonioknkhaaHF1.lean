/- DocForces: the contracts and what its walk keeps. -/
import Derived.Test.YtjlnlonioknkhaaHQ1
import Derived.Test.YtjlnlonioknkhaaHLit
namespace Go.Proofs.Ytjlnlonioknkhaa.PA
open Go.RowKit Go.Proofs.YtjlnlonioknkhaaW.PrintWords Go.Proofs.YtjlnlonioknkhaaW.PrintLast Go.Proofs.YtjlnlonioknkhaaW.PrintMore
set_option linter.unusedVariables false
set_option linter.unusedSimpArgs false

theorem few_of (x : S40) (A : Option Addr) (c : Nat) (b : Bool) (w : World) (h : Dc w x A c) (e : decide (fewD x 60 ≤ 500) = b) : Calls Try.prog 27 #[.agg #[.int .i64 x.f0, .int .i64 x.f1, .string x.f2, .slice A x.f3.length c]] w fun e w' => e = .returned (.bool b) ∧ Below w.heap.size w w' := by
  subst e
  obtain ⟨k, hk⟩ := (Few15 x).rounds
  exact galleylaw15_Few.calls k _ _ _ _ _ _ _ w h.g3 h.l3 hk
theorem frc_of (x : S40) (A : Option Addr) (c : Nat) (b : Bool) (w : World) (h : Dc w x A c) (hf : finD x) (e : frcB x = b) : Calls Try.prog 31 #[.agg #[.int .i64 x.f0, .int .i64 x.f1, .string x.f2, .slice A x.f3.length c]] w fun e w' => e = .returned (.bool b) ∧ Below w.heap.size w w' := by
  subst e
  obtain ⟨k, hk⟩ := (frc15 _ x (Nat.le_refl _) hf).rounds
  exact doc_Forced.calls k _ _ _ _ _ _ _ w h.g3 h.l3 hk
theorem cnt_of (x : S40) (A : Option Addr) (c : Nat) (n : Int) (w : World) (h : Dc w x A c) (hf : finD x) (e : wrap64 (cnt x) = n) : Calls Try.prog 33 #[.agg #[.int .i64 x.f0, .int .i64 x.f1, .string x.f2, .slice A x.f3.length c]] w fun e w' => e = .returned (.int .i64 n) ∧ Below w.heap.size w w' := by
  subst e
  obtain ⟨k, hk⟩ := (cnt15 _ x (Nat.le_refl _) hf).rounds
  exact doc_Count.calls k _ _ _ _ _ _ _ w h.g3 h.l3 hk

/-! ### the boxes of x and y -/
structure IvF (w0 w : World) (ga gb : Nat) (x y : S40) (A : Option Addr) (c : Nat) (B : Option Addr) (d : Nat) : Prop where
  hb : Below w0.heap.size w0 w
  bx : w.heap[ga]? = some (.cells #[.int .i64 x.f0, .int .i64 x.f1, .string x.f2, .slice A x.f3.length c] 40 (0, 0))
  by_ : w.heap[gb]? = some (.cells #[.int .i64 y.f0, .int .i64 y.f1, .string y.f2, .slice B y.f3.length d] 40 (0, 0))
  ox : Dc w0 x A c
  oy : Dc w0 y B d
section
variable {w0 w w' : World} {ga gb g9 : Nat} {x y z : S40} {A B Z : Option Addr} {c d e : Nat}
theorem IvF.step (h : IvF w0 w ga gb x y A c B d) (k : Below w.heap.size w w') : IvF w0 w' ga gb x y A c B d := ⟨below_step h.hb k, blk_below h.bx k, blk_below h.by_ k, h.ox, h.oy⟩
theorem IvF.dx (h : IvF w0 w ga gb x y A c B d) : Dc w x A c := h.ox.below h.hb
theorem IvF.dy (h : IvF w0 w ga gb x y A c B d) : Dc w y B d := h.oy.below h.hb
theorem IvF.set (h : IvF w0 w ga gb x y A c B d) (na : ga ≠ g9) (nb : gb ≠ g9) (n9 : w0.heap.size ≤ g9) (j : Nat) (v : Value) : IvF w0 (w.setCell ⟨g9, j, none⟩ v) ga gb x y A c B d := ⟨below_set h.hb n9, blk_far h.bx na v, blk_far h.by_ nb v, h.ox, h.oy⟩
def SF (ga gb : Nat) (x y : S40) (A : Option Addr) (c : Nat) (B : Option Addr) (d : Nat) (w : World) : Prop :=
  w.cell? ⟨ga, 0, none⟩ = some (.int .i64 x.f0) ∧ w.cell? ⟨ga, 1, none⟩ = some (.int .i64 x.f1) ∧ w.cell? ⟨ga, 2, none⟩ = some (.string x.f2) ∧ w.cell? ⟨ga, 3, none⟩ = some (.slice A x.f3.length c) ∧
  w.cell? ⟨gb, 0, none⟩ = some (.int .i64 y.f0) ∧ w.cell? ⟨gb, 1, none⟩ = some (.int .i64 y.f1) ∧ w.cell? ⟨gb, 2, none⟩ = some (.string y.f2) ∧ w.cell? ⟨gb, 3, none⟩ = some (.slice B y.f3.length d)
theorem IvF.S (h : IvF w0 w ga gb x y A c B d) : SF ga gb x y A c B d w :=
  ⟨(blk_cell h.bx 0).trans rfl, (blk_cell h.bx 1).trans rfl, (blk_cell h.bx 2).trans rfl, (blk_cell h.bx 3).trans rfl, (blk_cell h.by_ 0).trans rfl, (blk_cell h.by_ 1).trans rfl, (blk_cell h.by_ 2).trans rfl, (blk_cell h.by_ 3).trans rfl⟩
/-- A row of two, or of one, in a document. -/
theorem Dc_two {g : Nat} (a b : Int) (s : ByteArray) (hb : w.heap[g]? = some (.cells #[.int .i64 x.f0, .int .i64 x.f1, .string x.f2, .slice A x.f3.length c, .int .i64 y.f0, .int .i64 y.f1, .string y.f2, .slice B y.f3.length d] 40 (0, 0))) (h : Dc w x A c) (h' : Dc w y B d) : Dc w ⟨a, b, s, [x, y]⟩ (some ⟨g, 0, none⟩) 2 := ⟨C40_two hb h h', Nat.le_refl _⟩
theorem Dc_one {g : Nat} (a b : Int) (s : ByteArray) (hb : w.heap[g]? = some (.cells #[.int .i64 x.f0, .int .i64 x.f1, .string x.f2, .slice A x.f3.length c] 40 (0, 0))) (h : Dc w x A c) : Dc w ⟨a, b, s, [x]⟩ (some ⟨g, 0, none⟩) 1 := ⟨C40_one hb h, Nat.le_refl _⟩
theorem fin_two (a b : Int) (s : ByteArray) (hs : s.size ≤ 100) (hx : finD x) (hy : finD y) : finD ⟨a, b, s, [x, y]⟩ := ⟨hs, by simp, hx, hy, trivial⟩
theorem fin_one (a b : Int) (s : ByteArray) (hs : s.size ≤ 100) (hx : finD x) : finD ⟨a, b, s, [x]⟩ := ⟨hs, by simp, hx, trivial⟩
theorem frc_cat2 : frcB ⟨5, 0, (⟨#[]⟩ : ByteArray), [x, y]⟩ = (frcB x || frcB y) := by simp [frcB, frcL]
theorem frc_grp2 : frcB ⟨7, 0, (⟨#[]⟩ : ByteArray), [x, y]⟩ = (frcB x || frcB y) := by simp [frcB, frcL]
theorem frc_nest1 : frcB ⟨6, 4, (⟨#[]⟩ : ByteArray), [x]⟩ = frcB x := by simp [frcB, frcL]
theorem frc_brk1 : frcB ⟨7, 1, (⟨#[]⟩ : ByteArray), [x]⟩ = true := by simp [frcB]
theorem cnt_cat2 : cnt ⟨5, 0, (⟨#[]⟩ : ByteArray), [x, y]⟩ = 1 + (cnt x + cnt y) := by simp [cnt, cntL]
/-! ### the groups round a hard -/
def dT : S40 := ⟨1, 0, ⟨#[116]⟩, []⟩
def dI : Nat → S40
  | 0 => ⟨4, 0, (⟨#[]⟩ : ByteArray), []⟩
  | n + 1 => ⟨7, 0, (⟨#[]⟩ : ByteArray), [dT, dI n]⟩
theorem dI_frc : ∀ n, frcB (dI n) = true
  | 0 => by simp [dI, frcB]
  | n + 1 => by simp [dI, frcB, frcL, dI_frc n]
theorem dI_fin : ∀ n, finD (dI n)
  | 0 => ⟨by decide, by simp, trivial⟩
  | n + 1 => ⟨by decide, by simp, ⟨by decide, by simp, trivial⟩, dI_fin n, trivial⟩
/-- It is a document whatever stands in block g9. -/
def D9 (g9 : Nat) (w : World) (z : S40) (Z : Option Addr) (e : Nat) : Prop := ∀ w', (∀ g o, g ≠ g9 → w.heap[g]? = some o → w'.heap[g]? = some o) → Dc w' z Z e
theorem D9.own (h : D9 g9 w z Z e) : Dc w z Z e := h w (fun _ _ _ h => h)
theorem D9.step (h : D9 g9 w z Z e) (k : Below w.heap.size w w') : D9 g9 w' z Z e := fun w2 h2 => h w2 (fun g o hg ho => h2 g o hg (blk_below ho k))
theorem D9.set (h : D9 g9 w z Z e) (j : Nat) (v : Value) : D9 g9 (w.setCell ⟨g9, j, none⟩ v) z Z e := fun w2 h2 => h w2 (fun g o hg ho => h2 g o hg ((Below.heap_setCell w ⟨g9, j, none⟩ v g hg).trans ho))
theorem D9_dI (n : Nat) {gs : Nat} (hne : gs ≠ g9) (hb : w.heap[gs]? = some (.cells #[.int .i64 1, .int .i64 0, .string (⟨#[116]⟩ : ByteArray), .slice none 0 0, .int .i64 (dI n).f0, .int .i64 (dI n).f1, .string (dI n).f2, .slice Z (dI n).f3.length e] 40 (0, 0))) (h : D9 g9 w (dI n) Z e) :
    D9 g9 w (dI (n + 1)) (some ⟨gs, 0, none⟩) 2 := fun w2 h2 => Dc_two (x := dT) (y := dI n) (A := none) (c := 0) 7 0 (⟨#[]⟩ : ByteArray) (h2 gs _ hne hb) (Dc_nil dT rfl) (h w2 h2)
theorem wrap_small (n : Nat) (h : n ≤ 10000) : wrap64 (n : Int) = (n : Int) := by unfold wrap64; omega
theorem rem31_nat (n : Int) : ∃ m : Nat, m < 31 ∧ wrap64 (Int.tmod (IntKind.u64.wrap n) 31) = (m : Int) := by
  have h0 : 0 ≤ IntKind.u64.wrap n := by simp [IntKind.wrap, IntKind.signed]; omega
  obtain ⟨k, hk⟩ := Int.eq_ofNat_of_zero_le h0
  refine ⟨k % 31, by omega, ?_⟩
  rw [hk]
  have : Int.tmod (k : Int) 31 = ((k % 31 : Nat) : Int) := rfl
  rw [this]
  unfold wrap64
  omega
theorem D9_zero (w : World) : D9 g9 w (dI 0) none 0 := fun w2 _ => Dc_nil _ rfl
structure IvG (w0 w : World) (ga gb : Nat) (x y : S40) (A : Option Addr) (c : Nat) (B : Option Addr) (d : Nat) (g9 : Nat) (z : S40) (Z : Option Addr) (e : Nat) : Prop where
  f : IvF w0 w ga gb x y A c B d
  bz : w.heap[g9]? = some (.cells #[.int .i64 z.f0, .int .i64 z.f1, .string z.f2, .slice Z z.f3.length e] 40 (0, 0))
  dz : D9 g9 w z Z e
  na : ga ≠ g9
  nb : gb ≠ g9
  n9 : w0.heap.size ≤ g9
theorem IvG.step (h : IvG w0 w ga gb x y A c B d g9 z Z e) (k : Below w.heap.size w w') : IvG w0 w' ga gb x y A c B d g9 z Z e := ⟨h.f.step k, blk_below h.bz k, h.dz.step k, h.na, h.nb, h.n9⟩
def SZ (g9 : Nat) (z : S40) (Z : Option Addr) (e : Nat) (w : World) : Prop :=
  w.cell? ⟨g9, 0, none⟩ = some (.int .i64 z.f0) ∧ w.cell? ⟨g9, 1, none⟩ = some (.int .i64 z.f1) ∧ w.cell? ⟨g9, 2, none⟩ = some (.string z.f2) ∧ w.cell? ⟨g9, 3, none⟩ = some (.slice Z z.f3.length e)
def SG (ga gb : Nat) (x y : S40) (A : Option Addr) (c : Nat) (B : Option Addr) (d : Nat) (g9 : Nat) (z : S40) (Z : Option Addr) (e : Nat) (w : World) : Prop :=
  w.cell? ⟨ga, 0, none⟩ = some (.int .i64 x.f0) ∧ w.cell? ⟨ga, 1, none⟩ = some (.int .i64 x.f1) ∧ w.cell? ⟨ga, 2, none⟩ = some (.string x.f2) ∧ w.cell? ⟨ga, 3, none⟩ = some (.slice A x.f3.length c) ∧
  w.cell? ⟨gb, 0, none⟩ = some (.int .i64 y.f0) ∧ w.cell? ⟨gb, 1, none⟩ = some (.int .i64 y.f1) ∧ w.cell? ⟨gb, 2, none⟩ = some (.string y.f2) ∧ w.cell? ⟨gb, 3, none⟩ = some (.slice B y.f3.length d) ∧
  w.cell? ⟨g9, 0, none⟩ = some (.int .i64 z.f0) ∧ w.cell? ⟨g9, 1, none⟩ = some (.int .i64 z.f1) ∧ w.cell? ⟨g9, 2, none⟩ = some (.string z.f2) ∧ w.cell? ⟨g9, 3, none⟩ = some (.slice Z z.f3.length e)
theorem IvG.SS (h : IvG w0 w ga gb x y A c B d g9 z Z e) : SG ga gb x y A c B d g9 z Z e w := ⟨(blk_cell h.f.bx 0).trans rfl, (blk_cell h.f.bx 1).trans rfl, (blk_cell h.f.bx 2).trans rfl, (blk_cell h.f.bx 3).trans rfl, (blk_cell h.f.by_ 0).trans rfl, (blk_cell h.f.by_ 1).trans rfl, (blk_cell h.f.by_ 2).trans rfl, (blk_cell h.f.by_ 3).trans rfl, (blk_cell h.bz 0).trans rfl, (blk_cell h.bz 1).trans rfl, (blk_cell h.bz 2).trans rfl, (blk_cell h.bz 3).trans rfl⟩
theorem IvG.S (h : IvG w0 w ga gb x y A c B d g9 z Z e) : SZ g9 z Z e w := ⟨(blk_cell h.bz 0).trans rfl, (blk_cell h.bz 1).trans rfl, (blk_cell h.bz 2).trans rfl, (blk_cell h.bz 3).trans rfl⟩
end
end Go.Proofs.Ytjlnlonioknkhaa.PA
