/- A pool's keys and its map: what a look-up and a store of a new key come to. -/
import Derived.Test.YtjlnlonioknkhaaDoorPLx0
import Derived.Laws.StructEq
import Derived.ChangeMaps4
namespace Go.Proofs.YtjlnlonioknkhaaDoor.PL
open Go.RowKit Go.Proofs.YtjlnlonioknkhaaDoorW.PrintWords Go.Proofs.YtjlnlonioknkhaaDoorW.PrintLast Go.Proofs.YtjlnlonioknkhaaDoorW.PrintMore
set_option linter.unusedVariables false
set_option linter.unusedSimpArgs false

/-- A key. -/
structure K5 where
  kind : Int
  blank : Bool
  text : ByteArray
  list : ByteArray
  notes : ByteArray
abbrev K5.cs (k : K5) : Array Value := #[.int .i64 k.kind, .bool k.blank, .string k.text, .string k.list, .string k.notes]
abbrev K5.v (k : K5) : Value := .agg k.cs
/-- Are two keys one? -/
def K5.same (a b : K5) : Bool := decide (a.kind = b.kind) && (decide (a.blank = b.blank) && (decide (a.text.toList = b.text.toList) && (decide (a.list.toList = b.list.toList) && decide (a.notes.toList = b.notes.toList))))
theorem toList_inj {a b : ByteArray} (h : a.toList = b.toList) : a = b := by
  rw [ByteArray.toList_eq, ByteArray.toList_eq] at h
  obtain ⟨⟨x⟩⟩ := a
  obtain ⟨⟨y⟩⟩ := b
  simp only at h
  rw [h]
theorem K5.same_iff (a b : K5) : a.same b = true ↔ a = b := by
  obtain ⟨a1, a2, a3, a4, a5⟩ := a
  obtain ⟨b1, b2, b3, b4, b5⟩ := b
  simp only [K5.same, Bool.and_eq_true, decide_eq_true_eq, K5.mk.injEq]
  constructor
  · rintro ⟨h1, h2, h3, h4, h5⟩
    exact ⟨h1, h2, toList_inj h3, toList_inj h4, toList_inj h5⟩
  · rintro ⟨rfl, rfl, rfl, rfl, rfl⟩
    exact ⟨rfl, rfl, rfl, rfl, rfl⟩
theorem fields45 : Tryd.prog.underlying 45 = some (.struct (Tryd.prog.fieldsOf 45)) := by
  simp only [Program.fieldsOf, Tryd.underlying45]
theorem stood45 : Tryd.prog.stoodInHeld 45 = false := by kernel_rfl
theorem key_eq (a b : K5) (w : World) : (Op.equal 45 a.v b.v).run Tryd.prog w = .ok (a.same b) w := by
  show (Op.equalIn (9999 + 1) 45 (.agg a.cs) (.agg b.cs)).run Tryd.prog w = _
  rw [run_equalIn_struct w 9999 45 a.cs b.cs fields45 stood45]
  simp only [Program.fieldsOf, Tryd.underlying45]
  obtain ⟨a1, a2, a3, a4, a5⟩ := a
  obtain ⟨b1, b2, b3, b4, b5⟩ := b
  go_simp
  simp only [K5.same]
  by_cases h1 : a1 = b1 <;> by_cases h2 : a2 = b2 <;> by_cases h3 : a3.toList = b3.toList <;> by_cases h4 : a4.toList = b4.toList <;> by_cases h5 : a5.toList = b5.toList <;> simp [h1, h2, h3, h4, h5]
theorem key_check (e : Bool) (k : K5) (w : World) : (Instr.checkKey e 10000 45 k.v).run Tryd.prog w = .ok () w := by
  rfl
/-- The first key that is this one. -/
def idxOf (k : K5) : List K5 → Nat → Option Nat
  | [], _ => none
  | x :: r, i => if k.same x then some i else idxOf k r (i + 1)
/-- What a pool's map holds: key i has the number i + 1. -/
def Ent (es : List MapEntry) (ks : List K5) (i : Nat) : Prop := es.length = ks.length ∧ ∀ (j : Nat) (e : MapEntry), es[j]? = some e → ∃ k, ks[j]? = some k ∧ e.key = k.v ∧ e.val = .int .i64 ((i + j + 1 : Nat) : Int)
theorem Ent.nil (i : Nat) : Ent [] [] i := ⟨rfl, fun j e h => by simp at h⟩
theorem Ent.cons {e : MapEntry} {es : List MapEntry} {x : K5} {ks : List K5} {i : Nat} (h : Ent (e :: es) (x :: ks) i) : e.key = x.v ∧ e.val = .int .i64 ((i + 1 : Nat) : Int) ∧ Ent es ks (i + 1) := by
  obtain ⟨k, hk, h1, h2⟩ := h.2 0 e rfl
  obtain rfl : x = k := by simpa using hk
  refine ⟨h1, h2, by simpa using h.1, fun j e hj => ?_⟩
  obtain ⟨k, hk, h3, h4⟩ := h.2 (j + 1) e (by simpa using hj)
  exact ⟨k, by simpa using hk, h3, by rw [h4]; congr 2; omega⟩
theorem Ent.push {es : Array MapEntry} {ks : List K5} (h : Ent es.toList ks 0) (k : K5) (c : Nat) : Ent (es.push { key := k.v, val := .int .i64 ((ks.length + 1 : Nat) : Int), born := c }).toList (ks ++ [k]) 0 := by
  refine ⟨by simp [← h.1], fun j e hj => ?_⟩
  rw [Array.toList_push] at hj
  by_cases hlt : j < es.toList.length
  · rw [List.getElem?_append_left hlt] at hj
    obtain ⟨k', hk, h3, h4⟩ := h.2 j e hj
    exact ⟨k', by rw [List.getElem?_append_left (by rw [← h.1]; exact hlt)]; exact hk, h3, h4⟩
  · rw [List.getElem?_append_right (by omega)] at hj
    have hj0 : j - es.toList.length = 0 := by
      have := (List.getElem?_eq_some_iff.1 hj).1
      simp at this ⊢
      omega
    rw [hj0] at hj
    have hjl : j = ks.length := by have := h.1; omega
    subst hjl
    obtain rfl : _ = e := by simpa using hj
    exact ⟨k, by simp, rfl, by simp⟩
theorem find_asks (k : K5) (w : World) : ∀ (es : List MapEntry) (ks : List K5) (i : Nat), Ent es ks i → (Instr.findAsking 45 k.v es i).run Tryd.prog w = .ok ((idxOf k ks i).map fun j => (j, .int .i64 ((j + 1 : Nat) : Int))) w
  | [], [], i, _ => rfl
  | [], _ :: _, i, h => by have := h.1; simp at this
  | _ :: _, [], i, h => by have := h.1; simp at this
  | e :: es, x :: ks, i, h => by
    obtain ⟨h1, h2, h3⟩ := h.cons
    unfold Instr.findAsking idxOf
    simp only [Sem.run_bind, h1, key_eq, Result.andThen_ok]
    cases hs : k.same x
    · simp only [Bool.false_eq_true, if_false]
      exact find_asks k w es ks (i + 1) h3
    · simp only [if_true]
      rw [h2]
      rfl
theorem find_key (k : K5) (w : World) (es : List MapEntry) (ks : List K5) (h : Ent es ks 0) : (Instr.findKey 45 k.v es).run Tryd.prog w = .ok ((idxOf k ks 0).map fun j => (j, .int .i64 ((j + 1 : Nat) : Int))) w := by
  unfold Instr.findKey
  simp only [Sem.run_bind, run_underlying fields45, Result.andThen_ok]
  cases es with
  | nil =>
    have : ks = [] := List.eq_nil_of_length_eq_zero (by have := h.1; simp at this; omega)
    subst this
    rfl
  | cons e es =>
    simp only [Instr.findNow, Instr.sameNow]
    exact find_asks k w _ ks 0 h
/-- A pool's map. -/
def MapAt (w : World) (g : Nat) (ks : List K5) : Prop := ∃ es c, w.heap[g]? = some (.map es c) ∧ Ent es.toList ks 0
/-- What 'id, ok := m[k]' gives. -/
def lookV (k : K5) (ks : List K5) : Value := match idxOf k ks 0 with | some j => .tuple #[.int .i64 ((j + 1 : Nat) : Int), .bool true] | none => .tuple #[.int .i64 0, .bool false]
theorem run_look {w : World} {g : Nat} {ks : List K5} (h : MapAt w g ks) (k : K5) : (Instr.lookup 38 (.map (some g)) k.v true).run Tryd.prog w = .ok (lookV k ks) w := by
  obtain ⟨es, c, hg, he⟩ := h
  have ho : (getObj g).run Tryd.prog w = .ok (.map es c) w := MapKept.run_getObj_map hg
  unfold Instr.lookup
  simp only [Sem.run_bind, run_underlying Tryd.underlying38, Result.andThen_ok, ho, Sem.run_pure, key_check, find_key k w _ _ he]
  unfold lookV
  cases idxOf k ks 0 with
  | none => 
    simp only [Option.map_none]
    have hz : (zeroValue 3).run Tryd.prog w = .ok (.int .i64 0) w := by kernel_rfl
    simp only [Sem.run_bind, hz, Result.andThen_ok, Sem.run_pure, if_true]
  | some j => rfl
theorem run_put {w : World} {g : Nat} {ks : List K5} (h : MapAt w g ks) (k : K5) (hn : idxOf k ks 0 = none) : ∃ o, (Instr.mapUpdate 38 (.map (some g)) k.v (.int .i64 ((ks.length + 1 : Nat) : Int))).run Tryd.prog w = .ok () (ChangeMaps.setBlock w g o) ∧ MapAt (ChangeMaps.setBlock w g o) g (ks ++ [k]) := by
  obtain ⟨es, c, hg, he⟩ := h
  have ho : (getObj g).run Tryd.prog w = .ok (.map es c) w := MapKept.run_getObj_map hg
  refine ⟨.map (es.push { key := k.v, val := .int .i64 ((ks.length + 1 : Nat) : Int), born := c }) (c + 1), ?_, ⟨es.push { key := k.v, val := .int .i64 ((ks.length + 1 : Nat) : Int), born := c }, c + 1, ?_, he.push k c⟩⟩
  · simp [Instr.mapUpdate, run_underlying Tryd.underlying38, Result.andThen, ho, key_check, find_key k w _ _ he, hn, MapKept.run_setObj_map _ hg, ChangeMaps.setBlock]
  · have := (Array.getElem?_eq_some_iff.1 hg).1
    simp [ChangeMaps.setBlock, this]
end Go.Proofs.YtjlnlonioknkhaaDoor.PL
