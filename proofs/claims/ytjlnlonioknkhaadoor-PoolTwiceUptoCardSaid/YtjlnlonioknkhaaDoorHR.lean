/- What came in, read: a tree, a slice of trees is a value of the plain kinds; how long its texts are. -/
import Derived.Test.YtjlnlonioknkhaaDoorHD4
import Derived.ChangeArms
import Derived.SizedLaws
namespace Go.Proofs.YtjlnlonioknkhaaDoor.PL
open Go.RowKit Go.Proofs.YtjlnlonioknkhaaDoorW.PrintWords Go.Proofs.YtjlnlonioknkhaaDoorW.PrintLast Go.Proofs.YtjlnlonioknkhaaDoorW.PrintMore
set_option linter.unusedVariables false
set_option linter.unusedSimpArgs false
theorem list_of {α : Type} {p : Nat → α → Prop} : ∀ n, (∀ i, i < n → ∃ x, p i x) → ∃ xs : List α, xs.length = n ∧ ∀ i x, xs[i]? = some x → p i x
  | 0, _ => ⟨[], rfl, fun i x h => by simp at h⟩
  | n + 1, h => by
    obtain ⟨xs, hl, hp⟩ := list_of n (fun i hi => h i (by omega))
    obtain ⟨y, hy⟩ := h n (by omega)
    refine ⟨xs ++ [y], by simp [hl], fun i x hx => ?_⟩
    rcases Nat.lt_or_ge i xs.length with hi | hi
    · rw [List.getElem?_append_left hi] at hx
      exact hp i x hx
    · rw [List.getElem?_append_right hi] at hx
      have h0 : i - xs.length = 0 := by
        rcases Nat.eq_zero_or_pos (i - xs.length) with h | h
        · exact h
        · rw [List.getElem?_eq_none (by simp; omega)] at hx; cases hx
      rw [h0] at hx
      have : y = x := by simpa using hx
      subst this
      have : i = n := by omega
      subst this
      exact hy
/-- How much a text, a row, a tree, a row of trees holds. -/
def tbS : List ByteArray → Nat
  | [] => 0
  | s :: r => s.size + 1 + tbS r
mutual
def tb : S32 → Nat
  | ⟨_, s, l, _, _, a, b⟩ => s.size + tbL l + tbS a + tbS b + 1
def tbL : List S32 → Nat
  | [] => 0
  | x :: r => tb x + tbL r
end
theorem tsz_tbS (l : List ByteArray) : tsz l ≤ 22 * tbS l := by
  induction l with
  | nil => simp [tsz]
  | cons s r ih => simp only [tsz, tbS]; omega
mutual
theorem tb_pre : ∀ (x : S32), ∀ y ∈ pre x, tb y ≤ tb x
  | ⟨_, s, l, _, _, a, b⟩, y, h => by
    rw [pre_eq] at h
    rcases List.mem_cons.1 h with rfl | h
    · exact Nat.le_refl _
    · have h1 := tbL_pre l y h
      simp only [tb]
      omega
theorem tbL_pre : ∀ (l : List S32), ∀ y ∈ preL l, tb y ≤ tbL l
  | [], y, h => by simp [preL] at h
  | x :: r, y, h => by
    simp only [preL, List.mem_append] at h
    simp only [tbL]
    rcases h with h | h
    · have := tb_pre x y h; omega
    · have := tbL_pre r y h; omega
end
theorem tb_mem {l : List S32} {x : S32} (h : x ∈ l) : tb x ≤ tbL l := by
  induction l with
  | nil => cases h
  | cons y r ih =>
    simp only [tbL]
    rcases List.mem_cons.1 h with rfl | h
    · omega
    · have := ih h; omega
theorem okT_of_tb {x : S32} (h : tb x ≤ 1048576) : okT x := fun y hy => by
  have h1 := tb_pre x y hy
  obtain ⟨a0, a1, a2, a3, a4, a5, a6⟩ := y
  have h2 := tsz_tbS a5
  have h3 := tsz_tbS a6
  simp only [tb] at h1
  simp only
  omega
/-- Every row's texts are within the machine's reach. -/
def szT (x : S32) : Prop := ∀ y ∈ pre x, (∀ s ∈ y.f5, s.size ≤ 140737488351232) ∧ ∀ s ∈ y.f6, s.size ≤ 140737488351232
theorem tsz_few : ∀ (l : List ByteArray), (∀ s ∈ l, s.size ≤ 140737488351232) → tsz l ≤ l.length * 140737488351254
  | [], _ => by simp [tsz]
  | s :: r, h => by
    have h1 := tsz_few r (fun t ht => h t (List.mem_cons_of_mem _ ht))
    have h2 := h s List.mem_cons_self
    simp only [tsz, List.length_cons]
    omega
theorem okT_of_few {x : S32} (h : szT x) (hf : fewV x 40 ≤ 400) : okT x := fun y hy => by
  obtain ⟨_, h5, h6⟩ := (few_small x 40 hf).2 y hy
  have a5 := tsz_few y.f5 (h y hy).1
  have a6 := tsz_few y.f6 (h y hy).2
  omega
section
variable {H : Type}
theorem weights_all {e : TypeId} {d : DataW H} : ∀ {l : List (DataW H)}, d ∈ l → ∀ n ∈ d.weights Tryd.prog e, n ∈ DataW.weightsAll Tryd.prog e l
  | [], h, _, _ => by cases h
  | x :: r, h, n, hn => by
    simp only [DataW.weightsAll, List.mem_append]
    rcases List.mem_cons.1 h with rfl | h
    · exact Or.inl hn
    · exact Or.inr (weights_all h n hn)
/-- Within reach. -/
def wOK (t : TypeId) (d : DataW H) : Prop := ∀ n ∈ d.weights Tryd.prog t, n ≤ reachBytes
theorem wOK_elem {t e : TypeId} (ht : Tryd.prog.underlying t = some (.slice e)) {es sp : List (DataW H)} (h : wOK t (.slice es sp)) {d : DataW H} (hd : d ∈ es) : wOK e d := fun n hn =>
  h n (by simp only [DataW.weights, ht, List.mem_cons, List.mem_append]; exact Or.inr (Or.inl (weights_all hd n hn)))
theorem wOK_part {t : TypeId} {fs : Array Field} (ht : Tryd.prog.underlying t = some (.struct fs)) {ps : List (DataW H)} (h : wOK t (.agg ps)) {i : Nat} {f : Field} {d : DataW H} (hf : fs[i]? = some f) (hd : ps[i]? = some d) : wOK f.type d := fun n hn =>
  h n (by
    simp only [DataW.weights, ht]
    exact DataW.weights_mem_each (j := i) (by simp [List.getElem?_map, Array.getElem?_toList, hf]) hd n hn)
end
section
variable {H : Type} {enc : TypeId × Value → H} {W : World} {base : Nat} {sp : Nat → Bool} {hd : Bool}
theorem ub_str (b : List UInt8) : Rows.uptoBulk (.lit (.string b) : DataW H) = b.length + 1 := rfl
theorem ub_slice (es sp : List (DataW H)) : Rows.uptoBulk (.slice es sp) = Rows.uptoBulkAll es + Rows.uptoBulkAll sp + 1 := rfl
theorem ub_agg7 (x0 x1 x2 x3 x4 x5 x6 : DataW H × List MemPlace) : Rows.uptoBulk (.agg ([x0, x1, x2, x3, x4, x5, x6].map (·.1))) = Rows.uptoBulk x0.1 + (Rows.uptoBulk x1.1 + (Rows.uptoBulk x2.1 + (Rows.uptoBulk x3.1 + (Rows.uptoBulk x4.1 + (Rows.uptoBulk x5.1 + (Rows.uptoBulk x6.1 + 0)))))) + 1 := rfl
/-- What a row's elements hold, as one. -/
def sumB {α : Type} (m : α → Nat) : List α → Nat
  | [] => 0
  | x :: r => m x + sumB m r
theorem sumB_le {α : Type} (m : α → Nat) (xs : List α) (es : List (DataW H)) (hl : xs.length = es.length) (h : ∀ (i : Nat) (x : α) (d : DataW H), xs[i]? = some x → es[i]? = some d → m x ≤ Rows.uptoBulk d) : sumB m xs ≤ Rows.uptoBulkAll es := by
  induction xs generalizing es with
  | nil => cases es <;> simp_all [sumB, Rows.uptoBulkAll]
  | cons x r ih =>
    cases es with
    | nil => simp at hl
    | cons d s =>
      have h1 := h 0 x d rfl rfl
      have h2 := ih s (by simpa using hl) (fun i x d hx hd => h (i + 1) x d (by simpa using hx) (by simpa using hd))
      simp only [sumB, Rows.uptoBulkAll]
      omega
theorem sumB_S (l : List ByteArray) : sumB (fun s : ByteArray => s.size + 1) l = tbS l := by induction l with | nil => rfl | cons s r ih => simp [sumB, tbS, ih]
theorem sumB_T (l : List S32) : sumB tb l = tbL l := by induction l with | nil => simp [sumB, tbL] | cons s r ih => simp [sumB, tbL, ih]
theorem read_slice {α : Type} (d : Kd α) (Q : α → Prop) (m : α → Nat) {t e : TypeId} (ht : Tryd.prog.underlying t = some (.slice e)) (hsz : Tryd.prog.cellsOf e = d.sz) {fuel : Nat} {cs : List Value} {x : DataW H × List MemPlace}
    (ih : ∀ n cs y, n < fuel → DataW.trod enc Tryd.prog W base sp hd n e cs = some y → ∃ z, d.K W z cs ∧ (wOK e y.1 → Q z) ∧ m z ≤ Rows.uptoBulk y.1) (h : DataW.trod enc Tryd.prog W base sp hd fuel t cs = some x) :
    ∃ (xs : List α) (A : Option Addr) (cap : Nat), cs = [.slice A xs.length cap] ∧ xs.length ≤ cap ∧ d.C W A xs.length xs ∧ (wOK t x.1 → ∀ z ∈ xs, Q z) ∧ sumB m xs + 1 ≤ Rows.uptoBulk x.1 := by
  rcases DataW.trod_slice ht h with ⟨rfl, rfl⟩ | ⟨a, len, cap, elems, rest, n, hn, rfl, rfl, hb, hl, hm, hlen, hel, _, _⟩
  · exact ⟨[], none, 0, rfl, Nat.le_refl _, (Kd.C_nil _ _), (fun _ z hz => by cases hz), Nat.le_refl 1⟩
  · obtain ⟨xs, hx, hp⟩ := list_of (α := α) (p := fun i z => ∃ cs' y, elems[i]? = some y ∧ W.cells? base (a.add (i * Tryd.prog.cellsOf e)) (Tryd.prog.cellsOf e) = some cs' ∧ d.K W z cs' ∧ (wOK e y.1 → Q z) ∧ m z ≤ Rows.uptoBulk y.1) len (fun i hi => by
      have h1 := hel i hi
      have hi' : i < elems.length := by omega
      rw [List.getElem?_eq_getElem hi'] at h1
      obtain ⟨cs', h2, h3⟩ := Option.bind_eq_some_iff.1 h1
      obtain ⟨z, hz, hq, hb⟩ := ih n cs' _ (by omega) h3
      exact ⟨z, cs', _, List.getElem?_eq_getElem hi', h2, hz, hq, hb⟩)
    subst hx
    refine ⟨xs, some a, cap, rfl, hl, (⟨rfl, by unfold maxLen at hm; omega, fun _ => ⟨a, rfl, fun j p hj => ?_⟩⟩), fun hw z hz => ?_, ?_⟩
    · obtain ⟨cs', y, _, h2, h3, _⟩ := hp j p hj
      obtain ⟨_, h4, h5⟩ := World.cells?_some h2
      refine ⟨cs', by rw [h4, hsz], h3, fun i u hu => ?_⟩
      have hi : i < cs'.length := (List.getElem?_eq_some_iff.1 hu).1
      have h6 := h5 i (by omega)
      rw [hu] at h6
      have h7 : (a.add (j * Tryd.prog.cellsOf e)).add i = a.add (j * d.sz + i) := by rw [hsz]; unfold Addr.add; by_cases h1 : j * d.sz = 0 <;> by_cases h2 : i = 0 <;> simp [h1, h2, Nat.add_assoc]
      rw [h7] at h6
      exact h6
    · obtain ⟨i, hi, rfl⟩ := List.getElem_of_mem hz
      obtain ⟨cs', y, hy, _, _, hq, _⟩ := hp i _ (List.getElem?_eq_getElem hi)
      exact hq (wOK_elem ht hw (List.mem_map.2 ⟨y, List.mem_of_getElem? hy, rfl⟩))
    · have := sumB_le (H := H) m xs (elems.map (·.1)) (by simp [hlen]) (fun i x d hx hd => by
        obtain ⟨cs', y, hy, _, _, _, hb⟩ := hp i x hx
        rw [List.getElem?_map, hy] at hd
        obtain rfl : y.1 = d := by simpa using hd
        exact hb)
      rw [ub_slice]
      omega
theorem read_text {n : Nat} {cs : List Value} {y : DataW H × List MemPlace} (h : DataW.trod enc Tryd.prog W base sp hd n 9 cs = some y) : ∃ z, Kd.string.K W z cs ∧ (wOK 9 y.1 → z.size ≤ 140737488351232) ∧ z.size + 1 ≤ Rows.uptoBulk y.1 := by
  obtain ⟨s, rfl, rfl, _⟩ := DataW.trod_string Tryd.underlying9 h
  have e : s.data.toList.length = s.size := Array.length_toList
  refine ⟨s, rfl, fun hw => ?_, ?_⟩
  · have := hw s.data.toList.length List.mem_cons_self
    rw [e] at this
    exact this
  · rw [ub_str]
    omega
theorem read_texts {n : Nat} {cs : List Value} {y : DataW H × List MemPlace} (h : DataW.trod enc Tryd.prog W base sp hd n 30 cs = some y) :
    ∃ (xs : List ByteArray) (A : Option Addr) (cap : Nat), cs = [.slice A xs.length cap] ∧ xs.length ≤ cap ∧ Kd.C Kd.string W A xs.length xs ∧ (wOK 30 y.1 → ∀ z ∈ xs, z.size ≤ 140737488351232) ∧ tbS xs + 1 ≤ Rows.uptoBulk y.1 := by
  obtain ⟨xs, A, cap, h1, h2, h3, h4, h5⟩ := read_slice Kd.string (fun s => s.size ≤ 140737488351232) (fun s => s.size + 1) Tryd.underlying30 (by kernel_rfl) (fun _ _ _ _ h => read_text h) h
  rw [sumB_S] at h5
  exact ⟨xs, A, cap, h1, h2, h3, h4, h5⟩
theorem szT_mk {a0 : Int} {a1 : ByteArray} {l2 : List S32} {a3 a4 : Bool} {l5 l6 : List ByteArray} (h5 : ∀ s ∈ l5, s.size ≤ 140737488351232) (h6 : ∀ s ∈ l6, s.size ≤ 140737488351232) (h2 : ∀ z ∈ l2, szT z) : szT ⟨a0, a1, l2, a3, a4, l5, l6⟩ := fun y hy => by
  rw [pre_eq] at hy
  rcases List.mem_cons.1 hy with rfl | hy
  · exact ⟨h5, h6⟩
  · have : ∀ (l : List S32), (∀ z ∈ l, szT z) → ∀ y ∈ preL l, (∀ s ∈ y.f5, s.size ≤ 140737488351232) ∧ ∀ s ∈ y.f6, s.size ≤ 140737488351232 := by
      intro l
      induction l with
      | nil => intro _ y hy; simp [preL] at hy
      | cons x r ih =>
        intro h y hy
        simp only [preL, List.mem_append] at hy
        rcases hy with hy | hy
        · exact h x List.mem_cons_self y hy
        · exact ih (fun z hz => h z (List.mem_cons_of_mem _ hz)) y hy
    exact this l2 h2 y hy
theorem read_node (fuel : Nat) : ∀ (cs : List Value) (y : DataW H × List MemPlace), DataW.trod enc Tryd.prog W base sp hd fuel 32 cs = some y → ∃ z, k32.K W z cs ∧ (wOK 32 y.1 → szT z) ∧ tb z ≤ Rows.uptoBulk y.1 := by
  induction fuel using Nat.strongRecOn with
  | _ fuel ih =>
  intro cs y h
  obtain ⟨xs, n, rfl, rfl, hl, hxs, hf⟩ := DataW.trod_struct Tryd.underlying32 h
  have hl7 : cs.length = 7 := by rw [hl]; kernel_rfl
  match cs, hl7 with
  | [v0, v1, v2, v3, v4, v5, v6], _ =>
    have f0 := hf 0 _ rfl
    have f1 := hf 1 _ rfl
    have f2 := hf 2 _ rfl
    have f3 := hf 3 _ rfl
    have f4 := hf 4 _ rfl
    have f5 := hf 5 _ rfl
    have f6 := hf 6 _ rfl
    have s7 : xs.length = 7 := hxs
    match xs, s7 with
    | [x0, x1, x2, x3, x4, x5, x6], _ =>
    have c1 : ∀ t, t = 3 ∨ t = 9 ∨ t = 22 ∨ t = 4 ∨ t = 30 → Tryd.prog.cellsOf t = 1 := by
      rintro t (rfl | rfl | rfl | rfl | rfl) <;> kernel_rfl
    rw [c1 _ (by decide)] at f0 f1 f2 f3 f4 f5 f6
    obtain ⟨a0, e0, _, _⟩ := DataW.trod_int Tryd.underlying3 f0
    obtain ⟨a1, e1, b1, _⟩ := DataW.trod_string Tryd.underlying9 f1
    obtain ⟨l2, A2, c2, e2, q2, g2, w2, u2⟩ := read_slice k32 szT tb Tryd.underlying22 (by kernel_rfl) (fun m cs' y' hm h' => ih m (by omega) cs' y' h') f2
    obtain ⟨a3, e3, _⟩ := DataW.trod_bool Tryd.underlying4 f3
    obtain ⟨a4, e4, _⟩ := DataW.trod_bool Tryd.underlying4 f4
    obtain ⟨l5, A5, c5, e5, q5, g5, w5, u5⟩ := read_texts f5
    obtain ⟨l6, A6, c6, e6, q6, g6, w6, u6⟩ := read_texts f6
    have z0 : [v0] = [.int .i64 a0] := e0
    have z1 : [v1] = [.string a1] := e1
    have z2 : [v2] = [.slice A2 l2.length c2] := e2
    have z3 : [v3] = [.bool a3] := e3
    have z4 : [v4] = [.bool a4] := e4
    have z5 : [v5] = [.slice A5 l5.length c5] := e5
    have z6 : [v6] = [.slice A6 l6.length c6] := e6
    injection z0 with z0; injection z1 with z1; injection z2 with z2; injection z3 with z3; injection z4 with z4; injection z5 with z5; injection z6 with z6
    subst z0 z1 z2 z3 z4 z5 z6
    refine ⟨⟨a0, a1, l2, a3, a4, l5, l6⟩, k32_mk W ⟨a0, a1, l2, a3, a4, l5, l6⟩ q2 g2 q5 g5 q6 g6, fun hw => ?_, ?_⟩
    · exact szT_mk (w5 (wOK_part Tryd.underlying32 hw (i := 5) rfl rfl)) (w6 (wOK_part Tryd.underlying32 hw (i := 6) rfl rfl)) (w2 (wOK_part Tryd.underlying32 hw (i := 2) rfl rfl))
    · rw [sumB_T] at u2
      have u1 : a1.size + 1 ≤ Rows.uptoBulk x1.1 := by
        rw [b1]
        have e : a1.data.toList.length = a1.size := Array.length_toList
        rw [ub_str]
        omega
      rw [ub_agg7]
      simp only [tb]
      omega
end
theorem agg_of {v : Value} {cs : List Value} (h : v.cells.toList = cs) (hl : cs.length ≠ 1) : v = .agg cs.toArray := by
  subst h
  cases v with
  | agg a => simp [Value.cells]
  | _ => exact absurd rfl hl
section
variable {H : Type} {enc : TypeId × Value → H} {W : World} {base : Nat} {sp : Nat → Bool} {hd : Bool} {v : Value} {d : DataW H} {ps : List MemPlace}
theorem read_arg32 (h : DataW.Trod enc Tryd.prog W base sp hd 32 v d ps) : ∃ (x : S32) (A2 : Option Addr) (c2 : Nat) (A5 : Option Addr) (c5 : Nat) (A6 : Option Addr) (c6 : Nat), v = .agg #[.int .i64 x.f0, .string x.f1, .slice A2 x.f2.length c2, .bool x.f3, .bool x.f4, .slice A5 x.f5.length c5, .slice A6 x.f6.length c6] ∧ Nd W x A2 c2 A5 c5 A6 c6 ∧ (wOK 32 d → szT x) ∧ tb x ≤ Rows.uptoBulk d := by
  obtain ⟨fuel, hf⟩ := h
  obtain ⟨x, hx, hq, hb⟩ := read_node fuel _ _ hf
  obtain ⟨A2, c2, A5, c5, A6, c6, hcs, l2, g2, l5, g5, l6, g6⟩ := k32_open hx
  exact ⟨x, A2, c2, A5, c5, A6, c6, agg_of hcs (by simp), ⟨g2, l2, g5, l5, g6, l6⟩, hq, hb⟩
theorem read_arg_sn {A : Option Addr} {n c : Nat} (h : DataW.Trod enc Tryd.prog W base sp hd 22 (.slice A n c) d ps) : ∃ l : List S32, n = l.length ∧ l.length ≤ c ∧ Kd.C k32 W A l.length l ∧ (wOK 22 d → ∀ x ∈ l, szT x) ∧ tbL l ≤ Rows.uptoBulk d := by
  obtain ⟨fuel, hf⟩ := h
  obtain ⟨l, A', c', hcs, q, g, hq, hb⟩ := read_slice k32 szT tb Tryd.underlying22 (by kernel_rfl) (fun n cs y _ h => read_node n cs y h) hf
  have h1 : [Value.slice A n c] = [Value.slice A' l.length c'] := hcs
  injection h1 with h1 _
  injection h1 with h1 h2 h3
  subst h1 h2 h3
  rw [sumB_T] at hb
  exact ⟨l, rfl, q, g, hq, Nat.le_of_succ_le hb⟩
end
end Go.Proofs.YtjlnlonioknkhaaDoor.PL
