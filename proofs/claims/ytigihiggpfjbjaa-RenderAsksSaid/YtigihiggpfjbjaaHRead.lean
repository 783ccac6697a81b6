/- What came in, read: a tree, a document, a slice of them, a slice of texts is a value of the plain kinds. -/
import Derived.Test.YtigihiggpfjbjaaHQ1
import Derived.ChangeArms
namespace Go.Proofs.Ytigihiggpfjbjaa.PR
open Go.RowKit Go.Proofs.YtigihiggpfjbjaaW.PrintWords Go.Proofs.YtigihiggpfjbjaaW.PrintLast Go.Proofs.YtigihiggpfjbjaaW.PrintMore
set_option linter.unusedVariables false
set_option linter.unusedSimpArgs false

theorem list_of {α : Type} {p : Nat → α → Prop} : ∀ n, (∀ i, i < n → ∃ x, p i x) → ∃ xs : List α, xs.length = n ∧ ∀ i x, xs[i]? = some x → p i x
  | 0, _ => ⟨[], rfl, fun i x h => by simp at h⟩
  | n + 1, h => by
    obtain ⟨xs, hl, hp⟩ := list_of n (fun i hi => h i (by omega))
    obtain ⟨y, hy⟩ := h n (by omega)
    refine ⟨xs ++ [y], by simp [hl], fun i x hx => ?_⟩
    rcases Nat.lt_or_ge i xs.length with hi | hi
    · rw [List.getElem?_append_left hi] at hx
      exact hp i x hx
    · rw [List.getElem?_append_right hi] at hx
      have h0 : i - xs.length = 0 := by
        rcases Nat.eq_zero_or_pos (i - xs.length) with h | h
        · exact h
        · rw [List.getElem?_eq_none (by simp; omega)] at hx; cases hx
      rw [h0] at hx
      have : y = x := by simpa using hx
      subst this
      have : i = n := by omega
      subst this
      exact hy

section
variable {H : Type} {enc : TypeId × Value → H} {W : World} {base : Nat} {sp : Nat → Bool} {hd : Bool}
theorem read_slice {α : Type} (d : Kd α) {t e : TypeId} (ht : Try.prog.underlying t = some (.slice e)) (hsz : Try.prog.cellsOf e = d.sz) {fuel : Nat} {cs : List Value} {x : DataW H × List MemPlace}
    (ih : ∀ n cs y, n < fuel → DataW.trod enc Try.prog W base sp hd n e cs = some y → ∃ z, d.K W z cs) (h : DataW.trod enc Try.prog W base sp hd fuel t cs = some x) :
    ∃ (xs : List α) (A : Option Addr) (cap : Nat), cs = [.slice A xs.length cap] ∧ xs.length ≤ cap ∧ d.C W A xs.length xs := by
  rcases DataW.trod_slice ht h with ⟨rfl, _⟩ | ⟨a, len, cap, elems, rest, n, hn, rfl, _, hb, hl, hm, hlen, hel, _, _⟩
  · exact ⟨[], none, 0, rfl, Nat.le_refl _, rfl, by simp, fun h => absurd h (Nat.lt_irrefl 0)⟩
  · obtain ⟨xs, hx, hp⟩ := list_of (α := α) (p := fun i z => ∃ cs', W.cells? base (a.add (i * Try.prog.cellsOf e)) (Try.prog.cellsOf e) = some cs' ∧ d.K W z cs') len (fun i hi => by
      have h1 := hel i hi
      rw [List.getElem?_eq_getElem (by omega)] at h1
      obtain ⟨cs', h2, h3⟩ := Option.bind_eq_some_iff.1 h1
      obtain ⟨z, hz⟩ := ih n cs' _ (by omega) h3
      exact ⟨z, cs', h2, hz⟩)
    subst hx
    refine ⟨xs, some a, cap, rfl, hl, rfl, by unfold maxLen at hm; omega, fun _ => ⟨a, rfl, fun j p hj => ?_⟩⟩
    obtain ⟨cs', h2, h3⟩ := hp j p hj
    obtain ⟨_, h4, h5⟩ := World.cells?_some h2
    refine ⟨cs', by rw [h4, hsz], h3, fun i u hu => ?_⟩
    have hi : i < cs'.length := (List.getElem?_eq_some_iff.1 hu).1
    have h6 := h5 i (by omega)
    rw [hu] at h6
    have h7 : (a.add (j * Try.prog.cellsOf e)).add i = a.add (j * d.sz + i) := by rw [hsz]; unfold Addr.add; by_cases h1 : j * d.sz = 0 <;> by_cases h2 : i = 0 <;> simp [h1, h2, Nat.add_assoc]
    rw [h7] at h6
    exact h6
theorem read_text {n : Nat} {cs : List Value} {y : DataW H × List MemPlace} (h : DataW.trod enc Try.prog W base sp hd n 9 cs = some y) : ∃ z, Kd.string.K W z cs := by
  obtain ⟨s, rfl, _, _⟩ := DataW.trod_string Try.underlying9 h
  exact ⟨s, rfl⟩
theorem read_doc (fuel : Nat) : ∀ (cs : List Value) (y : DataW H × List MemPlace), DataW.trod enc Try.prog W base sp hd fuel 24 cs = some y → ∃ z, k24.K W z cs := by
  induction fuel using Nat.strongRecOn with
  | _ fuel ih =>
  intro cs y h
  obtain ⟨xs, n, rfl, _, hl, hxs, hf⟩ := DataW.trod_struct Try.underlying24 h
  have hl4 : cs.length = 4 := by rw [hl]; kernel_rfl
  match cs, hl4 with
  | [v0, v1, v2, v3], _ =>
    have f0 := hf 0 _ rfl
    have f1 := hf 1 _ rfl
    have f2 := hf 2 _ rfl
    have f3 := hf 3 _ rfl
    have s4 : xs.length = 4 := hxs
    rw [List.getElem?_eq_getElem (by omega)] at f0 f1 f2 f3
    have c1 : ∀ t, t = 3 ∨ t = 9 ∨ t = 22 → Try.prog.cellsOf t = 1 := by
      rintro t (rfl | rfl | rfl) <;> kernel_rfl
    rw [c1 _ (by decide)] at f0 f1 f2 f3
    obtain ⟨a0, e0, _, _⟩ := DataW.trod_int Try.underlying3 f0
    obtain ⟨a1, e1, _, _⟩ := DataW.trod_int Try.underlying3 f1
    obtain ⟨a2, e2, _, _⟩ := DataW.trod_string Try.underlying9 f2
    obtain ⟨l3, A3, c3, e3, q3, g3⟩ := read_slice k24 Try.underlying22 (by kernel_rfl) (fun m cs' y' hm h' => ih m (by omega) cs' y' h') f3
    have z0 : [v0] = [.int .i64 a0] := e0
    have z1 : [v1] = [.int .i64 a1] := e1
    have z2 : [v2] = [.string a2] := e2
    have z3 : [v3] = [.slice A3 l3.length c3] := e3
    injection z0 with z0; injection z1 with z1; injection z2 with z2; injection z3 with z3
    subst z0 z1 z2 z3
    exact ⟨⟨a0, a1, a2, l3⟩, k24_mk W ⟨a0, a1, a2, l3⟩ q3 g3⟩
end

theorem agg_of {v : Value} {cs : List Value} (h : v.cells.toList = cs) (hl : cs.length ≠ 1) : v = .agg cs.toArray := by
  subst h
  cases v with
  | agg a => simp [Value.cells]
  | _ => exact absurd rfl hl
section
variable {H : Type} {enc : TypeId × Value → H} {W : World} {base : Nat} {sp : Nat → Bool} {hd : Bool} {v : Value} {d : DataW H} {ps : List MemPlace}
theorem read_arg24 (h : DataW.Trod enc Try.prog W base sp hd 24 v d ps) : ∃ (x : S24) (A3 : Option Addr) (c3 : Nat), v = .agg #[.int .i64 x.f0, .int .i64 x.f1, .string x.f2, .slice A3 x.f3.length c3] ∧ Dc W x A3 c3 := by
  obtain ⟨fuel, hf⟩ := h
  obtain ⟨x, hx⟩ := read_doc fuel _ _ hf
  obtain ⟨A3, c3, hcs, l3, g3⟩ := k24_open hx
  exact ⟨x, A3, c3, agg_of hcs (by simp), ⟨g3, l3⟩⟩
theorem read_arg_sl {α : Type} (k : Kd α) {t e : TypeId} (ht : Try.prog.underlying t = some (.slice e)) (hsz : Try.prog.cellsOf e = k.sz) (ih : ∀ n cs y, DataW.trod enc Try.prog W base sp hd n e cs = some y → ∃ z, k.K W z cs)
    {A : Option Addr} {n c : Nat} (h : DataW.Trod enc Try.prog W base sp hd t (.slice A n c) d ps) : ∃ l : List α, n = l.length ∧ l.length ≤ c ∧ k.C W A l.length l := by
  obtain ⟨fuel, hf⟩ := h
  obtain ⟨l, A', c', hcs, q, g⟩ := read_slice k ht hsz (fun n cs y _ h => ih n cs y h) hf
  have h1 : [Value.slice A n c] = [Value.slice A' l.length c'] := hcs
  injection h1 with h1 _
  injection h1 with h1 h2 h3
  subst h1 h2 h3
  exact ⟨l, rfl, q, g⟩
theorem read_arg_sd {A : Option Addr} {n c : Nat} (h : DataW.Trod enc Try.prog W base sp hd 22 (.slice A n c) d ps) : ∃ l : List S24, n = l.length ∧ l.length ≤ c ∧ Kd.C k24 W A l.length l :=
  read_arg_sl k24 Try.underlying22 (by kernel_rfl) (fun n cs y h => read_doc n cs y h) h
theorem read_arg_ss {A : Option Addr} {n c t : Nat} (ht : Try.prog.underlying t = some (.slice 9)) (h : DataW.Trod enc Try.prog W base sp hd t (.slice A n c) d ps) : ∃ l : List ByteArray, n = l.length ∧ l.length ≤ c ∧ Kd.C Kd.string W A l.length l :=
  read_arg_sl Kd.string ht (by kernel_rfl) (fun n cs y h => read_text h) h
theorem read_int {n : Nat} {cs : List Value} {y : DataW H × List MemPlace} (h : DataW.trod enc Try.prog W base sp hd n 3 cs = some y) : ∃ z, (Kd.int .i64).K W z cs := by
  obtain ⟨s, rfl, _, _⟩ := DataW.trod_int Try.underlying3 h
  exact ⟨s, rfl⟩
theorem read_arg_si {A : Option Addr} {n c t : Nat} (ht : Try.prog.underlying t = some (.slice 3)) (h : DataW.Trod enc Try.prog W base sp hd t (.slice A n c) d ps) : ∃ l : List Int, n = l.length ∧ l.length ≤ c ∧ Kd.C (Kd.int .i64) W A l.length l :=
  read_arg_sl (Kd.int .i64) ht (by kernel_rfl) (fun n cs y h => read_int h) h
end
end Go.Proofs.Ytigihiggpfjbjaa.PR
