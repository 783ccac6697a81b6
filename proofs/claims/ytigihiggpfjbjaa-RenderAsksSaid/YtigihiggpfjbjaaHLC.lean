/- Plain: words, flat, widths, fronts of the document's. -/
import Derived.Test.YtigihiggpfjbjaaHC4
import Derived.Test.YtigihiggpfjbjaaHW8
import Derived.Test.YtigihiggpfjbjaaHM4
namespace Go.Proofs.Ytigihiggpfjbjaa.PR
open Go.RowKit Go.Proofs.YtigihiggpfjbjaaW.PrintWords Go.Proofs.YtigihiggpfjbjaaW.PrintLast Go.Proofs.YtigihiggpfjbjaaW.PrintMore
set_option linter.unusedVariables false
set_option linter.unusedSimpArgs false
theorem bytesOf_append (a b : ByteArray) : bytesOf (a ++ b) = bytesOf a ++ bytesOf b := by simp [bytesOf]
theorem bytesOf_nil : bytesOf (⟨#[]⟩ : ByteArray) = [] := rfl
theorem ba_nil_append (a : ByteArray) : (⟨#[]⟩ : ByteArray) ++ a = a := by
  apply ByteArray.ext
  simp
theorem ba_append_nil (a : ByteArray) : a ++ (⟨#[]⟩ : ByteArray) = a := by
  apply ByteArray.ext
  simp
theorem ba_assoc (a b c : ByteArray) : a ++ b ++ c = a ++ (b ++ c) := by
  apply ByteArray.ext
  simp
theorem ba_size (a b : ByteArray) : (a ++ b).size = a.size + b.size := by simp
end Go.Proofs.Ytigihiggpfjbjaa.PR

/- Plain: a run stays within bounds; what is written but blanks and newlines are the texts. -/
namespace Go.Proofs.Ytigihiggpfjbjaa.PR
open Go.RowKit Go.Proofs.YtigihiggpfjbjaaW.PrintWords Go.Proofs.YtigihiggpfjbjaaW.PrintLast Go.Proofs.YtigihiggpfjbjaaW.PrintMore
set_option linter.unusedVariables false
set_option linter.unusedSimpArgs false
def mkK (l : List S24) (n : Int) (f : Bool) : List It := l.map fun y => ⟨0, y, n, f⟩
theorem mkK_x (l : List S24) (n : Int) (f : Bool) : (mkK l n f).map It.x = l := by
  unfold mkK
  rw [List.map_map]
  exact List.map_id'' (fun _ => rfl) l
theorem mkK_nf (l : List S24) (n : Int) (f : Bool) : ∀ k ∈ mkK l n f, k.n = n ∧ k.f = f := fun k hk => by
  unfold mkK at hk
  obtain ⟨y, _, rfl⟩ := List.mem_map.1 hk
  exact ⟨rfl, rfl⟩
/-- A run comes to its end within bounds. -/
theorem run_good (wd : Int) (n : Nat) : ∀ (its : List It) (S : St) (d : Nat), cntI its ≤ n → Good d its S → ∃ d', Good d' [] (runIt wd its.reverse S) := by
  induction n using Nat.strongRecOn with
  | _ n ih =>
  intro its S d hn hg
  rcases List.eq_nil_or_concat its with rfl | ⟨its0, it, rfl⟩
  · exact ⟨d, hg⟩
  · rw [List.concat_eq_append] at hn hg ⊢
    have hK1 := mkK_x (takeP wd it.x it.n it.f (frV its0.reverse) S).2.1 (takeP wd it.x it.n it.f (frV its0.reverse) S).2.2.1 (takeP wd it.x it.n it.f (frV its0.reverse) S).2.2.2
    have hK2 := mkK_nf (takeP wd it.x it.n it.f (frV its0.reverse) S).2.1 (takeP wd it.x it.n it.f (frV its0.reverse) S).2.2.1 (takeP wd it.x it.n it.f (frV its0.reverse) S).2.2.2
    generalize mkK _ _ _ = K at hK1 hK2
    have hg2 := good_take hg hK1 hK2
    have hr := runIt_take wd it its0.reverse K S hK1 hK2
    have hc := take_cnt wd it.x it.n it.f (frV its0.reverse) S
    have hc2 : cntI (its0 ++ K.reverse) < cntI (its0 ++ [it]) := by
      rw [cntI_append, cntI_append, cntI_reverse, cntI_map K, hK1]
      simp only [cntI]
      omega
    obtain ⟨d', hd'⟩ := ih _ (Nat.lt_of_lt_of_le hc2 hn) (its0 ++ K.reverse) _ (d + 1) (Nat.le_refl _) hg2
    refine ⟨d', ?_⟩
    rw [List.reverse_append, List.reverse_reverse, hr] at hd'
    rw [List.reverse_append]
    exact hd'
theorem start_good {x : S24} (hf : finD x) (hc : cnt x ≤ 1100) (ho : allOwn x = true) : Good 0 [⟨0, x, 0, false⟩] S00 :=
  ⟨fun it hi => by rw [List.mem_singleton.1 hi]; exact ⟨hf, ho, Int.le_refl _, by show (0 : Int) ≤ 1000 * ((0 : Nat) : Int); decide⟩, by simp only [cntI]; omega, by decide, by decide, by decide, by decide, by decide⟩
theorem renS_good {x : S24} (wd : Int) (hf : finD x) (hc : cnt x ≤ 1100) (ho : allOwn x = true) : (renS x wd).out.length ≤ 2000000000 ∧ (renS x wd).modes.length ≤ 1100 := by
  obtain ⟨d, h⟩ := run_good wd _ _ _ 0 (Nat.le_refl _) (start_good hf hc ho)
  have h1 := h.sum
  have h2 := h.out
  have h3 := h.modes
  have e : runIt wd [⟨0, x, 0, false⟩].reverse S00 = renS x wd := rfl
  rw [e] at h2 h3
  simp only [cntI] at h1
  omega
theorem mayB_own {x : S24} (h : mayB x = true) : allOwn x = true := by
  unfold mayB at h
  rw [Bool.and_eq_true, Bool.and_eq_true] at h
  exact h.1.1
theorem strOf_size (l : List Int) : (strOf l).size = l.length := by
  show (strOf l).data.size = _
  rw [strOf_data]
  simp
theorem renT_size {x : S24} (wd : Int) (hf : finD x) (hc : cnt x ≤ 1100) : (renT x wd).size ≤ 2000000000 := by
  unfold renT
  split
  · rename_i h
    rw [strOf_size]
    exact (renS_good wd hf hc (mayB_own ((okR_iff x wd).1 h).2.2)).1
  · show 0 ≤ 2000000000
    omega
theorem renM_len {x : S24} (wd : Int) (hf : finD x) (hc : cnt x ≤ 1100) : (renM x wd).length ≤ 1100 := by
  unfold renM
  split
  · rename_i h
    exact (renS_good wd hf hc (mayB_own ((okR_iff x wd).1 h).2.2)).2
  · exact Nat.zero_le _
theorem bytesOf_strOf {l : List Int} (h : isB l) : bytesOf (strOf l) = l := by
  unfold bytesOf
  rw [strOf_data]
  simp only [List.map_map]
  have e : ∀ l : List Int, isB l → List.map ((fun b : UInt8 => (b.toNat : Int)) ∘ fun n : Int => UInt8.ofNat n.toNat) l = l := fun l => by
    induction l with
    | nil => intro _; rfl
    | cons a r ih =>
      intro h
      rw [List.map_cons, ih (fun b hb => h b (List.mem_cons_of_mem _ hb))]
      have ha := h a List.mem_cons_self
      congr 1
      simp only [Function.comp, UInt8.toNat_ofNat']
      omega
  exact e l h
theorem strOf_bytesOf (s : ByteArray) : strOf (bytesOf s) = s := by
  apply ByteArray.ext
  rw [strOf_data]
  unfold bytesOf
  rw [List.map_map]
  have e : ∀ l : List UInt8, List.map ((fun n : Int => UInt8.ofNat n.toNat) ∘ fun b : UInt8 => (b.toNat : Int)) l = l := fun l => by
    induction l with
    | nil => rfl
    | cons a r ih =>
      rw [List.map_cons, ih]
      congr 1
      simp [Function.comp]
  rw [e]
end Go.Proofs.Ytigihiggpfjbjaa.PR

/- Rows of documents, just made; told. -/
namespace Go.Proofs.Ytigihiggpfjbjaa.PR
open Go.RowKit Go.Proofs.YtigihiggpfjbjaaW.PrintWords Go.Proofs.YtigihiggpfjbjaaW.PrintLast Go.Proofs.YtigihiggpfjbjaaW.PrintMore
set_option linter.unusedVariables false
set_option linter.unusedSimpArgs false
theorem C_of_block {α : Type} {d : Kd α} {w : World} {g : Nat} {xs : List α} {inner : List Value} {t : TypeId} (hb : w.heap[g]? = some (.cells inner.toArray t (0, 0))) (hr : Reps (d.K w) d.sz xs inner) (hm : xs.length ≤ 9223372036854775807) : d.C w (some ⟨g, 0, none⟩) xs.length xs := by
  refine ⟨rfl, hm, fun hn => ⟨⟨g, 0, none⟩, rfl, fun j p hj => ⟨_, ?_, hr.2 j p hj, fun i u hu => ?_⟩⟩⟩
  · have h1 := hr.1
    have hj' := (List.getElem?_eq_some_iff.1 hj).1
    have : (j + 1) * d.sz ≤ xs.length * d.sz := Nat.mul_le_mul_right _ hj'
    rw [Nat.add_mul] at this
    simp only [List.length_take, List.length_drop, h1]
    omega
  · rw [add_plain, blk_cell hb]
    have hi : i < ((inner.drop (j * d.sz)).take d.sz).length := (List.getElem?_eq_some_iff.1 hu).1
    have hi' : i < d.sz := by simp only [List.length_take] at hi; omega
    rw [List.getElem?_take_of_lt hi', List.getElem?_drop] at hu
    simpa using hu
theorem K24_of {w : World} (x : S24) {A3 : Option Addr} {c3 : Nat} (h : Dc w x A3 c3) : k24.K w x [.int .i64 x.f0, .int .i64 x.f1, .string x.f2, .slice A3 x.f3.length c3] := k24_mk w x h.l3 h.g3
theorem C_nil24 (w : World) : Kd.C k24 w none 0 [] := ⟨rfl, by omega, fun h => absurd h (Nat.lt_irrefl 0)⟩
/-- A row of one document. -/
theorem C24_one {w : World} {g : Nat} {x : S24} {A3 : Option Addr} {c3 : Nat} (hb : w.heap[g]? = some (.cells #[.int .i64 x.f0, .int .i64 x.f1, .string x.f2, .slice A3 x.f3.length c3] 24 (0, 0))) (h : Dc w x A3 c3) : Kd.C k24 w (some ⟨g, 0, none⟩) 1 [x] :=
  C_of_block (xs := [x]) (inner := [.int .i64 x.f0, .int .i64 x.f1, .string x.f2, .slice A3 x.f3.length c3]) hb ⟨rfl, fun j p hj => by
    cases j with
    | zero => have : x = p := by simpa using hj
              subst this; exact K24_of x h
    | succ j => simp at hj⟩ (by simp)
theorem C24_three {w : World} {g : Nat} {x y z : S24} {A3 B3 D3 : Option Addr} {c3 d3 e3 : Nat} (hb : w.heap[g]? = some (.cells #[.int .i64 x.f0, .int .i64 x.f1, .string x.f2, .slice A3 x.f3.length c3, .int .i64 y.f0, .int .i64 y.f1, .string y.f2, .slice B3 y.f3.length d3, .int .i64 z.f0, .int .i64 z.f1, .string z.f2, .slice D3 z.f3.length e3] 24 (0, 0)))
    (h : Dc w x A3 c3) (h' : Dc w y B3 d3) (h'' : Dc w z D3 e3) : Kd.C k24 w (some ⟨g, 0, none⟩) 3 [x, y, z] :=
  C_of_block (xs := [x, y, z]) (inner := [.int .i64 x.f0, .int .i64 x.f1, .string x.f2, .slice A3 x.f3.length c3, .int .i64 y.f0, .int .i64 y.f1, .string y.f2, .slice B3 y.f3.length d3, .int .i64 z.f0, .int .i64 z.f1, .string z.f2, .slice D3 z.f3.length e3]) hb ⟨rfl, fun j p hj => by
    match j with
    | 0 => have : x = p := by simpa using hj
           subst this; exact K24_of x h
    | 1 => have : y = p := by simpa using hj
           subst this; exact K24_of y h'
    | 2 => have : z = p := by simpa using hj
           subst this; exact K24_of z h''
    | j + 3 => simp at hj⟩ (by simp)
theorem C24_two {w : World} {g : Nat} {x y : S24} {A3 B3 : Option Addr} {c3 d3 : Nat} (hb : w.heap[g]? = some (.cells #[.int .i64 x.f0, .int .i64 x.f1, .string x.f2, .slice A3 x.f3.length c3, .int .i64 y.f0, .int .i64 y.f1, .string y.f2, .slice B3 y.f3.length d3] 24 (0, 0)))
    (h : Dc w x A3 c3) (h' : Dc w y B3 d3) : Kd.C k24 w (some ⟨g, 0, none⟩) 2 [x, y] :=
  C_of_block (xs := [x, y]) (inner := [.int .i64 x.f0, .int .i64 x.f1, .string x.f2, .slice A3 x.f3.length c3, .int .i64 y.f0, .int .i64 y.f1, .string y.f2, .slice B3 y.f3.length d3]) hb ⟨rfl, fun j p hj => by
    match j with
    | 0 => have : x = p := by simpa using hj
           subst this; exact K24_of x h
    | 1 => have : y = p := by simpa using hj
           subst this; exact K24_of y h'
    | j + 2 => simp at hj⟩ (by simp)
theorem Dc_nil {w : World} (x : S24) (h : x.f3 = []) : Dc w x none 0 := ⟨by rw [h]; exact C_nil24 w, by rw [h]; exact Nat.le_refl _⟩
def tA : S24 := ⟨1, 0, ⟨#[97]⟩, []⟩
def tB : S24 := ⟨1, 0, ⟨#[98]⟩, []⟩
def tL : S24 := ⟨2, 0, ⟨#[]⟩, []⟩
def tG : S24 := ⟨7, 0, ⟨#[]⟩, [tA, tL, tB]⟩
theorem tG_t3 : renT tG 3 = ⟨#[97, 32, 98]⟩ := by decide +kernel
theorem tG_t2 : renT tG 2 = ⟨#[97, 10, 98]⟩ := by decide +kernel
theorem tG_e : renE tG 3 = 0 ∧ renE tG 2 = 0 ∧ renE tG 0 = 1 := by decide +kernel
theorem tG_m : renM tG 3 = [true] := by decide +kernel
theorem tG_fin : finD tG := ⟨by decide, by decide, ⟨by decide, by decide, trivial⟩, ⟨by decide, by decide, trivial⟩, ⟨by decide, by decide, trivial⟩, trivial⟩
theorem tG_cnt : cnt tG ≤ 1100 := by decide +kernel
def tLit : Array Value := #[.int .i64 1, .int .i64 0, .string (⟨#[97]⟩ : ByteArray), .slice none 0 0, .int .i64 2, .int .i64 0, .string (⟨#[]⟩ : ByteArray), .slice none 0 0, .int .i64 1, .int .i64 0, .string (⟨#[98]⟩ : ByteArray), .slice none 0 0]
theorem tG_dc {w : World} {g : Nat} (h : w.heap[g]? = some (.cells tLit 24 (0, 0))) : Dc w tG (some ⟨g, 0, none⟩) 3 :=
  ⟨C24_three (x := tA) (y := tL) (z := tB) (A3 := none) (c3 := 0) (B3 := none) (d3 := 0) (D3 := none) (e3 := 0) h (Dc_nil tA rfl) (Dc_nil tL rfl) (Dc_nil tB rfl), Nat.le_refl _⟩
theorem told_facts (w : World) : Below w.heap.size w (((((w.alloc (.cells #[.int .i64 1, .int .i64 0, .string (⟨#[97]⟩ : ByteArray), .slice none 0 0] 24)).alloc (.cells #[.int .i64 1, .int .i64 0, .string (⟨#[98]⟩ : ByteArray), .slice none 0 0] 24)).alloc (.cells #[.int .i64 2, .int .i64 0, .string (⟨#[]⟩ : ByteArray), .slice none 0 0] 24)).alloc (.cells #[.int .i64 1, .int .i64 0, .string (⟨#[97]⟩ : ByteArray), .slice none 0 0, .int .i64 2, .int .i64 0, .string (⟨#[]⟩ : ByteArray), .slice none 0 0, .int .i64 1, .int .i64 0, .string (⟨#[98]⟩ : ByteArray), .slice none 0 0] 24)).alloc (.cells #[.int .i64 7, .int .i64 0, .string (⟨#[]⟩ : ByteArray), .slice (some ⟨w.heap.size + 1 + 1 + 1, 0, none⟩) 3 3] 24)) ∧ (((((w.alloc (.cells #[.int .i64 1, .int .i64 0, .string (⟨#[97]⟩ : ByteArray), .slice none 0 0] 24)).alloc (.cells #[.int .i64 1, .int .i64 0, .string (⟨#[98]⟩ : ByteArray), .slice none 0 0] 24)).alloc (.cells #[.int .i64 2, .int .i64 0, .string (⟨#[]⟩ : ByteArray), .slice none 0 0] 24)).alloc (.cells #[.int .i64 1, .int .i64 0, .string (⟨#[97]⟩ : ByteArray), .slice none 0 0, .int .i64 2, .int .i64 0, .string (⟨#[]⟩ : ByteArray), .slice none 0 0, .int .i64 1, .int .i64 0, .string (⟨#[98]⟩ : ByteArray), .slice none 0 0] 24)).alloc (.cells #[.int .i64 7, .int .i64 0, .string (⟨#[]⟩ : ByteArray), .slice (some ⟨w.heap.size + 1 + 1 + 1, 0, none⟩) 3 3] 24)).heap[w.heap.size + 1 + 1 + 1]? = some (.cells tLit 24 (0, 0)) ∧ (((((w.alloc (.cells #[.int .i64 1, .int .i64 0, .string (⟨#[97]⟩ : ByteArray), .slice none 0 0] 24)).alloc (.cells #[.int .i64 1, .int .i64 0, .string (⟨#[98]⟩ : ByteArray), .slice none 0 0] 24)).alloc (.cells #[.int .i64 2, .int .i64 0, .string (⟨#[]⟩ : ByteArray), .slice none 0 0] 24)).alloc (.cells #[.int .i64 1, .int .i64 0, .string (⟨#[97]⟩ : ByteArray), .slice none 0 0, .int .i64 2, .int .i64 0, .string (⟨#[]⟩ : ByteArray), .slice none 0 0, .int .i64 1, .int .i64 0, .string (⟨#[98]⟩ : ByteArray), .slice none 0 0] 24)).alloc (.cells #[.int .i64 7, .int .i64 0, .string (⟨#[]⟩ : ByteArray), .slice (some ⟨w.heap.size + 1 + 1 + 1, 0, none⟩) 3 3] 24)).heap[w.heap.size + 1 + 1 + 1 + 1]? = some (.cells #[.int .i64 7, .int .i64 0, .string (⟨#[]⟩ : ByteArray), .slice (some ⟨w.heap.size + 1 + 1 + 1, 0, none⟩) 3 3] 24 (0, 0)) := by
  have e : ∀ (w : World) (o : Obj), (w.alloc o).heap.size = w.heap.size + 1 := fun w o => by simp
  refine ⟨below_alloc (below_alloc (below_alloc (below_alloc (below_alloc (Below.refl _ _) _) _) _) _) _, blk_alloc ?_ _, ?_⟩
  · have h := blk_new (((w.alloc (.cells #[.int .i64 1, .int .i64 0, .string (⟨#[97]⟩ : ByteArray), .slice none 0 0] 24)).alloc (.cells #[.int .i64 1, .int .i64 0, .string (⟨#[98]⟩ : ByteArray), .slice none 0 0] 24)).alloc (.cells #[.int .i64 2, .int .i64 0, .string (⟨#[]⟩ : ByteArray), .slice none 0 0] 24)) (.cells #[.int .i64 1, .int .i64 0, .string (⟨#[97]⟩ : ByteArray), .slice none 0 0, .int .i64 2, .int .i64 0, .string (⟨#[]⟩ : ByteArray), .slice none 0 0, .int .i64 1, .int .i64 0, .string (⟨#[98]⟩ : ByteArray), .slice none 0 0] 24)
    rw [e, e, e] at h
    exact h
  · have h := blk_new ((((w.alloc (.cells #[.int .i64 1, .int .i64 0, .string (⟨#[97]⟩ : ByteArray), .slice none 0 0] 24)).alloc (.cells #[.int .i64 1, .int .i64 0, .string (⟨#[98]⟩ : ByteArray), .slice none 0 0] 24)).alloc (.cells #[.int .i64 2, .int .i64 0, .string (⟨#[]⟩ : ByteArray), .slice none 0 0] 24)).alloc (.cells #[.int .i64 1, .int .i64 0, .string (⟨#[97]⟩ : ByteArray), .slice none 0 0, .int .i64 2, .int .i64 0, .string (⟨#[]⟩ : ByteArray), .slice none 0 0, .int .i64 1, .int .i64 0, .string (⟨#[98]⟩ : ByteArray), .slice none 0 0] 24)) (.cells #[.int .i64 7, .int .i64 0, .string (⟨#[]⟩ : ByteArray), .slice (some ⟨w.heap.size + 1 + 1 + 1, 0, none⟩) 3 3] 24)
    rw [e, e, e, e] at h
    exact h
theorem own_one {w : World} {B : Nat} {v : Value} {b : Bool} (h : w.ownsRow B 4 1 v (([b] : List Bool).map Value.bool).length (([b] : List Bool).map Value.bool)) : ∃ g c, v = .slice (some ⟨g, 0, none⟩) 1 c ∧ w.cell? ⟨g, 0, none⟩ = some (.bool b) := by
  rcases h.2 with ⟨_, e⟩ | ⟨g, cap, cur, hv, _⟩
  · simp at e
  · subst hv
    exact ⟨g, cap, rfl, h.cellAt 0 (by simp)⟩
theorem eq_ab : ((⟨#[97, 32, 98]⟩ : ByteArray).toList == (⟨#[97, 32, 98]⟩ : ByteArray).toList) = true := beq_self_eq_true _
set_option maxHeartbeats 4000000 in
set_option maxRecDepth 100000 in
theorem told_calls (w : World) : Calls Try.prog 10 #[] w fun e w' => e = .returned (.bool true) ∧ Below w.heap.size w w' := by
  have hu24 := Try.underlying24
  have hu22 := Try.underlying22
  have hu28 := Try.underlying28
  have hu30 := Try.underlying30
  go_enter Try.func10, Try.ntmps10
  go_upto_region 3 with (fail)
  have F := told_facts w
  generalize World.alloc (World.alloc (World.alloc (World.alloc (World.alloc w _) _) _) _) _ = w5 at F ⊢
  generalize w.heap.size + 1 + 1 + 1 + 1 = g4 at F ⊢
  generalize w.heap.size + 1 + 1 + 1 = gl at F ⊢
  have HB := Aside0.mk F.1
  have BL := Aside0.mk F.2.1
  have BG := Aside0.mk F.2.2
  clear F
  have z0 : w5.cell? ⟨g4, 0, none⟩ = some (.int .i64 7) := (blk_cell BG.out 0).trans rfl
  have z1 : w5.cell? ⟨g4, 1, none⟩ = some (.int .i64 0) := (blk_cell BG.out 1).trans rfl
  have z2 : w5.cell? ⟨g4, 2, none⟩ = some (.string (⟨#[]⟩ : ByteArray)) := (blk_cell BG.out 2).trans rfl
  have z3 : w5.cell? ⟨g4, 3, none⟩ = some (.slice (some ⟨gl, 0, none⟩) 3 3) := (blk_cell BG.out 3).trans rfl
  go_wp2_with (first | ((with_reducible refine gate_dst (N := 22) rfl ?_); refine goesL_ (some 22) rfl rfl Try.func11 (by kernel_rfl) rfl #[.agg #[.int .i64 7, .int .i64 0, .string (⟨#[]⟩ : ByteArray), .slice (some ⟨gl, 0, none⟩) 3 3], .int .i64 3] rfl (by (try simp only [List.map_toArray, List.map_cons, List.map_nil]); first | done | rfl) ?_; (refine (Render_calls (x := tG) (wd := 3) (tG_dc BL.out) tG_fin tG_cnt).mono ?_); (rintro e w122 ⟨rfl, hb⟩; refine ⟨_, rfl, ?_⟩; rw [tG_t3, tG_e.1]; have m0 := Aside0.mk (below_step HB.out hb); have m1 := Aside0.mk (blk_below BL.out hb); have m2 := Aside0.mk (blk_below BG.out hb); clear HB BL BG z0 z1 z2 z3 hb; have HB := m0; have BL := m1; have BG := m2; clear m0 m1 m2; have z0 : w122.cell? ⟨g4, 0, none⟩ = some (.int .i64 7) := (blk_cell BG.out 0).trans rfl; have z1 : w122.cell? ⟨g4, 1, none⟩ = some (.int .i64 0) := (blk_cell BG.out 1).trans rfl; have z2 : w122.cell? ⟨g4, 2, none⟩ = some (.string (⟨#[]⟩ : ByteArray)) := (blk_cell BG.out 2).trans rfl; have z3 : w122.cell? ⟨g4, 3, none⟩ = some (.slice (some ⟨gl, 0, none⟩) 3 3) := (blk_cell BG.out 3).trans rfl)) | ((with_reducible refine gate_dst (N := 27) rfl ?_); refine goesL_ (some 27) rfl rfl Try.func11 (by kernel_rfl) rfl #[.agg #[.int .i64 7, .int .i64 0, .string (⟨#[]⟩ : ByteArray), .slice (some ⟨gl, 0, none⟩) 3 3], .int .i64 2] rfl (by (try simp only [List.map_toArray, List.map_cons, List.map_nil]); first | done | rfl) ?_; (refine (Render_calls (x := tG) (wd := 2) (tG_dc BL.out) tG_fin tG_cnt).mono ?_); (rintro e w127 ⟨rfl, hb⟩; refine ⟨_, rfl, ?_⟩; rw [tG_t2, tG_e.2.1]; have m0 := Aside0.mk (below_step HB.out hb); have m1 := Aside0.mk (blk_below BL.out hb); have m2 := Aside0.mk (blk_below BG.out hb); clear HB BL BG z0 z1 z2 z3 hb; have HB := m0; have BL := m1; have BG := m2; clear m0 m1 m2; have z0 : w127.cell? ⟨g4, 0, none⟩ = some (.int .i64 7) := (blk_cell BG.out 0).trans rfl; have z1 : w127.cell? ⟨g4, 1, none⟩ = some (.int .i64 0) := (blk_cell BG.out 1).trans rfl; have z2 : w127.cell? ⟨g4, 2, none⟩ = some (.string (⟨#[]⟩ : ByteArray)) := (blk_cell BG.out 2).trans rfl; have z3 : w127.cell? ⟨g4, 3, none⟩ = some (.slice (some ⟨gl, 0, none⟩) 3 3) := (blk_cell BG.out 3).trans rfl)) | ((with_reducible refine gate_dst (N := 32) rfl ?_); refine goesL_ (some 32) rfl rfl Try.func11 (by kernel_rfl) rfl #[.agg #[.int .i64 7, .int .i64 0, .string (⟨#[]⟩ : ByteArray), .slice (some ⟨gl, 0, none⟩) 3 3], .int .i64 0] rfl (by (try simp only [List.map_toArray, List.map_cons, List.map_nil]); first | done | rfl) ?_; (refine (Render_calls (x := tG) (wd := 0) (tG_dc BL.out) tG_fin tG_cnt).mono ?_); (rintro e w132 ⟨rfl, hb⟩; refine ⟨_, rfl, ?_⟩; rw [tG_e.2.2]; have m0 := Aside0.mk (below_step HB.out hb); have m1 := Aside0.mk (blk_below BL.out hb); have m2 := Aside0.mk (blk_below BG.out hb); clear HB BL BG z0 z1 z2 z3 hb; have HB := m0; have BL := m1; have BG := m2; clear m0 m1 m2; have z0 : w132.cell? ⟨g4, 0, none⟩ = some (.int .i64 7) := (blk_cell BG.out 0).trans rfl; have z1 : w132.cell? ⟨g4, 1, none⟩ = some (.int .i64 0) := (blk_cell BG.out 1).trans rfl; have z2 : w132.cell? ⟨g4, 2, none⟩ = some (.string (⟨#[]⟩ : ByteArray)) := (blk_cell BG.out 2).trans rfl; have z3 : w132.cell? ⟨g4, 3, none⟩ = some (.slice (some ⟨gl, 0, none⟩) 3 3) := (blk_cell BG.out 3).trans rfl)) | ((with_reducible refine gate_dst (N := 36) rfl ?_); refine goesL_ (some 36) rfl rfl Try.func13 (by kernel_rfl) rfl #[.agg #[.int .i64 7, .int .i64 0, .string (⟨#[]⟩ : ByteArray), .slice (some ⟨gl, 0, none⟩) 3 3], .int .i64 3] rfl (by (try simp only [List.map_toArray, List.map_cons, List.map_nil]); first | done | rfl) ?_; (refine (Modes_calls (x := tG) (wd := 3) (tG_dc BL.out) tG_fin tG_cnt).mono ?_); (rintro e w136 ⟨v, rfl, hown, hb⟩; refine ⟨_, rfl, ?_⟩; rw [tG_m] at hown; obtain ⟨gm, cm, rfl, hcm⟩ := own_one hown; have m0 := Aside0.mk (below_step HB.out hb); have m1 := Aside0.mk (blk_below BL.out hb); have m2 := Aside0.mk (blk_below BG.out hb); clear HB BL BG z0 z1 z2 z3 hb; have HB := m0; have BL := m1; have BG := m2; clear m0 m1 m2; have z0 : w136.cell? ⟨g4, 0, none⟩ = some (.int .i64 7) := (blk_cell BG.out 0).trans rfl; have z1 : w136.cell? ⟨g4, 1, none⟩ = some (.int .i64 0) := (blk_cell BG.out 1).trans rfl; have z2 : w136.cell? ⟨g4, 2, none⟩ = some (.string (⟨#[]⟩ : ByteArray)) := (blk_cell BG.out 2).trans rfl; have z3 : w136.cell? ⟨g4, 3, none⟩ = some (.slice (some ⟨gl, 0, none⟩) 3 3) := (blk_cell BG.out 3).trans rfl)))
  go_ret
  exact ⟨rfl, HB.out⟩
end Go.Proofs.Ytigihiggpfjbjaa.PR

/- What the walks of the laws keep: a document in a box; the contracts of what they call. -/
namespace Go.Proofs.Ytigihiggpfjbjaa.PR
open Go.RowKit Go.Proofs.YtigihiggpfjbjaaW.PrintWords Go.Proofs.YtigihiggpfjbjaaW.PrintLast Go.Proofs.YtigihiggpfjbjaaW.PrintMore
set_option linter.unusedVariables false
set_option linter.unusedSimpArgs false
/-- A document that came in, and its box. -/
structure IvD (w0 w : World) (ga : Nat) (x : S24) (A : Option Addr) (c : Nat) : Prop where
  hb : Below w0.heap.size w0 w
  bx : w.heap[ga]? = some (.cells (dcs x A c) 24 (0, 0))
  ox : Dc w0 x A c
section
variable {w0 w w' : World} {ga : Nat} {x : S24} {A : Option Addr} {c : Nat}
theorem IvD.step (h : IvD w0 w ga x A c) (k : Below w.heap.size w w') : IvD w0 w' ga x A c := ⟨below_step h.hb k, blk_below h.bx k, h.ox⟩
theorem IvD.dx (h : IvD w0 w ga x A c) : Dc w x A c := h.ox.below h.hb
theorem IvD.c0 (h : IvD w0 w ga x A c) : w.cell? ⟨ga, 0, none⟩ = some (.int .i64 x.f0) := (blk_cell h.bx 0).trans rfl
theorem IvD.c1 (h : IvD w0 w ga x A c) : w.cell? ⟨ga, 1, none⟩ = some (.int .i64 x.f1) := (blk_cell h.bx 1).trans rfl
theorem IvD.c2 (h : IvD w0 w ga x A c) : w.cell? ⟨ga, 2, none⟩ = some (.string x.f2) := (blk_cell h.bx 2).trans rfl
theorem IvD.c3 (h : IvD w0 w ga x A c) : w.cell? ⟨ga, 3, none⟩ = some (.slice A x.f3.length c) := (blk_cell h.bx 3).trans rfl
end
/-- A document that is few. -/
theorem few_small {x : S24} (h : decide (fewD x 60 ≤ 500) = true) : cnt x ≤ 500 ∧ dep x ≤ 60 ∧ finD x := by
  have h := of_decide_eq_true h
  have h1 := fewD_small x 60 h
  exact ⟨by omega, h1.2.1, h1.2.2⟩
theorem remU (k : Nat) (hk : 0 < k) (hk2 : k ≤ 1000000) (n : Int) : ∃ m : Nat, m < k ∧ wrap64 (Int.tmod (IntKind.u64.wrap n) k) = (m : Int) := by
  have h0 : 0 ≤ IntKind.u64.wrap n := by simp [IntKind.wrap, IntKind.signed]; omega
  obtain ⟨j, hj⟩ := Int.eq_ofNat_of_zero_le h0
  have hlt : j % k < k := Nat.mod_lt _ hk
  refine ⟨j % k, hlt, ?_⟩
  rw [hj]
  have : Int.tmod (j : Int) (k : Int) = ((j % k : Nat) : Int) := rfl
  rw [this]
  unfold wrap64
  omega
theorem wdU_range (k : Nat) (hk : 0 < k) (hk2 : k ≤ 1000000) (n : Int) : 1 ≤ wrap64 (1 + wrap64 (Int.tmod (IntKind.u64.wrap n) k)) ∧ wrap64 (1 + wrap64 (Int.tmod (IntKind.u64.wrap n) k)) ≤ k := by
  obtain ⟨m, h1, h2⟩ := remU k hk hk2 n
  rw [h2]
  unfold wrap64
  omega
theorem rend_of (x : S24) (A : Option Addr) (c : Nat) (wd : Int) (s : ByteArray) (n : Int) (w : World) (h : Dc w x A c) (hx : finD x) (hc : cnt x ≤ 1100) (es : renT x wd = s) (en : renE x wd = n) : Calls Try.prog 11 #[.agg #[.int .i64 x.f0, .int .i64 x.f1, .string x.f2, .slice A x.f3.length c], .int .i64 wd] w fun e w' => e = .returned (.tuple #[.string s, .int .i64 n]) ∧ Below w.heap.size w w' := by
  subst es
  subst en
  exact Render_calls h hx hc
theorem modes_of (x : S24) (A : Option Addr) (c : Nat) (wd : Int) (m : List Bool) (w : World) (h : Dc w x A c) (hx : finD x) (hc : cnt x ≤ 1100) (em : renM x wd = m) : Calls Try.prog 13 #[.agg #[.int .i64 x.f0, .int .i64 x.f1, .string x.f2, .slice A x.f3.length c], .int .i64 wd] w fun e w' => ∃ v, e = .returned v ∧ w'.ownsRow w.heap.size 4 1 v (m.map Value.bool).length (m.map Value.bool) ∧ Below w.heap.size w w' := by
  subst em
  exact Modes_calls h hx hc
theorem renE_ok {x : S24} {wd : Int} (h1 : 1 ≤ wd) (h2 : wd ≤ 10000) (hm : mayB x = true) : renE x wd = 0 := by
  unfold renE
  rw [if_pos ((okR_iff x wd).2 ⟨h1, h2, hm⟩)]
theorem strOf_append (a b : List Int) : strOf (a ++ b) = strOf a ++ strOf b := by
  apply ByteArray.ext
  rw [strOf_data]
  simp [strOf_data]
end Go.Proofs.Ytigihiggpfjbjaa.PR
