/- Words and walks that the law leans on: HP1, HP2, HPs, HP3, HP4. Conditions: none. -/
import Derived.Test.YthipodffpkglfaaGreatDoorJ3
import Derived.Laws.StructEq
import Derived.ChangeMaps4
import Derived.Shelf.LaysM
import Derived.Shelf.Strconv.Itoa3
import Derived.Test.YthipodffpkglfaaGreatDoorRows
import Derived.Lib.ItoaLen
namespace Go.Proofs.YthipodffpkglfaaGreatDoor.PQ
open Go.RowKit Go.Proofs.YthipodffpkglfaaGreatDoorW.PrintWords Go.Proofs.YthipodffpkglfaaGreatDoorW.PrintLast Go.Proofs.YthipodffpkglfaaGreatDoorW.PrintMore Go.Proofs.YthipodffpkglfaaGreatDoor.PS
set_option linter.unusedVariables false
set_option linter.unusedSimpArgs false
/-- A key. -/
structure K5 where
  kind : Int
  blank : Bool
  text : ByteArray
  list : ByteArray
  notes : ByteArray
abbrev K5.cs (k : K5) : Array Value := #[.int .i64 k.kind, .bool k.blank, .string k.text, .string k.list, .string k.notes]
abbrev K5.v (k : K5) : Value := .agg k.cs
/-- Are two keys one? -/
def K5.same (a b : K5) : Bool := decide (a.kind = b.kind) && (decide (a.blank = b.blank) && (decide (a.text.toList = b.text.toList) && (decide (a.list.toList = b.list.toList) && decide (a.notes.toList = b.notes.toList))))
theorem toList_inj {a b : ByteArray} (h : a.toList = b.toList) : a = b := by
  rw [ByteArray.toList_eq, ByteArray.toList_eq] at h
  obtain ⟨⟨x⟩⟩ := a
  obtain ⟨⟨y⟩⟩ := b
  simp only at h
  rw [h]
theorem K5.same_iff (a b : K5) : a.same b = true ↔ a = b := by
  obtain ⟨a1, a2, a3, a4, a5⟩ := a
  obtain ⟨b1, b2, b3, b4, b5⟩ := b
  simp only [K5.same, Bool.and_eq_true, decide_eq_true_eq, K5.mk.injEq]
  constructor
  · rintro ⟨h1, h2, h3, h4, h5⟩
    exact ⟨h1, h2, toList_inj h3, toList_inj h4, toList_inj h5⟩
  · rintro ⟨rfl, rfl, rfl, rfl, rfl⟩
    exact ⟨rfl, rfl, rfl, rfl, rfl⟩
theorem fields70 : Tryz.prog.underlying 70 = some (.struct (Tryz.prog.fieldsOf 70)) := by
  simp only [Program.fieldsOf, Tryz.underlying70]
theorem stood70 : Tryz.prog.stoodInHeld 70 = false := by kernel_rfl
theorem key_eq (a b : K5) (w : World) : (Op.equal 70 a.v b.v).run Tryz.prog w = .ok (a.same b) w := by
  show (Op.equalIn (9999 + 1) 70 (.agg a.cs) (.agg b.cs)).run Tryz.prog w = _
  rw [run_equalIn_struct w 9999 70 a.cs b.cs fields70 stood70]
  simp only [Program.fieldsOf, Tryz.underlying70]
  obtain ⟨a1, a2, a3, a4, a5⟩ := a
  obtain ⟨b1, b2, b3, b4, b5⟩ := b
  go_simp
  simp only [K5.same]
  by_cases h1 : a1 = b1 <;> by_cases h2 : a2 = b2 <;> by_cases h3 : a3.toList = b3.toList <;> by_cases h4 : a4.toList = b4.toList <;> by_cases h5 : a5.toList = b5.toList <;> simp [h1, h2, h3, h4, h5]
set_option maxRecDepth 100000 in
theorem key_check (e : Bool) (k : K5) (w : World) : (Instr.checkKey e 10000 70 k.v).run Tryz.prog w = .ok () w := by
  rfl
/-- The first key that is this one. -/
def idxOf (k : K5) : List K5 → Nat → Option Nat
  | [], _ => none
  | x :: r, i => if k.same x then some i else idxOf k r (i + 1)
/-- What a pool's map holds: key i has the number i + 1. -/
def Ent (es : List MapEntry) (ks : List K5) (i : Nat) : Prop := es.length = ks.length ∧ ∀ (j : Nat) (e : MapEntry), es[j]? = some e → ∃ k, ks[j]? = some k ∧ e.key = k.v ∧ e.val = .int .i64 ((i + j + 1 : Nat) : Int)
theorem Ent.nil (i : Nat) : Ent [] [] i := ⟨rfl, fun j e h => by simp at h⟩
theorem Ent.cons {e : MapEntry} {es : List MapEntry} {x : K5} {ks : List K5} {i : Nat} (h : Ent (e :: es) (x :: ks) i) : e.key = x.v ∧ e.val = .int .i64 ((i + 1 : Nat) : Int) ∧ Ent es ks (i + 1) := by
  obtain ⟨k, hk, h1, h2⟩ := h.2 0 e rfl
  obtain rfl : x = k := by simpa using hk
  refine ⟨h1, h2, by simpa using h.1, fun j e hj => ?_⟩
  obtain ⟨k, hk, h3, h4⟩ := h.2 (j + 1) e (by simpa using hj)
  exact ⟨k, by simpa using hk, h3, by rw [h4]; congr 2; omega⟩
theorem Ent.push {es : Array MapEntry} {ks : List K5} (h : Ent es.toList ks 0) (k : K5) (c : Nat) : Ent (es.push { key := k.v, val := .int .i64 ((ks.length + 1 : Nat) : Int), born := c }).toList (ks ++ [k]) 0 := by
  refine ⟨by simp [← h.1], fun j e hj => ?_⟩
  rw [Array.toList_push] at hj
  by_cases hlt : j < es.toList.length
  · rw [List.getElem?_append_left hlt] at hj
    obtain ⟨k', hk, h3, h4⟩ := h.2 j e hj
    exact ⟨k', by rw [List.getElem?_append_left (by rw [← h.1]; exact hlt)]; exact hk, h3, h4⟩
  · rw [List.getElem?_append_right (by omega)] at hj
    have hj0 : j - es.toList.length = 0 := by
      have := (List.getElem?_eq_some_iff.1 hj).1
      simp at this ⊢
      omega
    rw [hj0] at hj
    have hjl : j = ks.length := by have := h.1; omega
    subst hjl
    obtain rfl : _ = e := by simpa using hj
    exact ⟨k, by simp, rfl, by simp⟩
theorem find_asks (k : K5) (w : World) : ∀ (es : List MapEntry) (ks : List K5) (i : Nat), Ent es ks i → (Instr.findAsking 70 k.v es i).run Tryz.prog w = .ok ((idxOf k ks i).map fun j => (j, .int .i64 ((j + 1 : Nat) : Int))) w
  | [], [], i, _ => rfl
  | [], _ :: _, i, h => by have := h.1; simp at this
  | _ :: _, [], i, h => by have := h.1; simp at this
  | e :: es, x :: ks, i, h => by
    obtain ⟨h1, h2, h3⟩ := h.cons
    unfold Instr.findAsking idxOf
    simp only [Sem.run_bind, h1, key_eq, Result.andThen_ok]
    cases hs : k.same x
    · simp only [Bool.false_eq_true, if_false]
      exact find_asks k w es ks (i + 1) h3
    · simp only [if_true]
      rw [h2]
      rfl
theorem find_key (k : K5) (w : World) (es : List MapEntry) (ks : List K5) (h : Ent es ks 0) : (Instr.findKey 70 k.v es).run Tryz.prog w = .ok ((idxOf k ks 0).map fun j => (j, .int .i64 ((j + 1 : Nat) : Int))) w := by
  unfold Instr.findKey
  simp only [Sem.run_bind, run_underlying fields70, Result.andThen_ok]
  cases es with
  | nil =>
    have : ks = [] := List.eq_nil_of_length_eq_zero (by have := h.1; simp at this; omega)
    subst this
    rfl
  | cons e es =>
    simp only [Instr.findNow, Instr.sameNow]
    exact find_asks k w _ ks 0 h
/-- A pool's map. -/
def MapAt (w : World) (g : Nat) (ks : List K5) : Prop := ∃ es c, w.heap[g]? = some (.map es c) ∧ Ent es.toList ks 0
/-- What 'id, ok := m[k]' gives. -/
def lookV (k : K5) (ks : List K5) : Value := match idxOf k ks 0 with | some j => .tuple #[.int .i64 ((j + 1 : Nat) : Int), .bool true] | none => .tuple #[.int .i64 0, .bool false]
theorem run_look {w : World} {g : Nat} {ks : List K5} (h : MapAt w g ks) (k : K5) : (Instr.lookup 65 (.map (some g)) k.v true).run Tryz.prog w = .ok (lookV k ks) w := by
  obtain ⟨es, c, hg, he⟩ := h
  have ho : (getObj g).run Tryz.prog w = .ok (.map es c) w := MapKept.run_getObj_map hg
  unfold Instr.lookup
  simp only [Sem.run_bind, run_underlying Tryz.underlying65, Result.andThen_ok, ho, Sem.run_pure, key_check, find_key k w _ _ he]
  unfold lookV
  cases idxOf k ks 0 with
  | none => 
    simp only [Option.map_none]
    have hz : (zeroValue 3).run Tryz.prog w = .ok (.int .i64 0) w := by kernel_rfl
    simp only [Sem.run_bind, hz, Result.andThen_ok, Sem.run_pure, if_true]
  | some j => rfl
theorem run_put {w : World} {g : Nat} {ks : List K5} (h : MapAt w g ks) (k : K5) (hn : idxOf k ks 0 = none) : ∃ o, (Instr.mapUpdate 65 (.map (some g)) k.v (.int .i64 ((ks.length + 1 : Nat) : Int))).run Tryz.prog w = .ok () (ChangeMaps.setBlock w g o) ∧ MapAt (ChangeMaps.setBlock w g o) g (ks ++ [k]) := by
  obtain ⟨es, c, hg, he⟩ := h
  have ho : (getObj g).run Tryz.prog w = .ok (.map es c) w := MapKept.run_getObj_map hg
  refine ⟨.map (es.push { key := k.v, val := .int .i64 ((ks.length + 1 : Nat) : Int), born := c }) (c + 1), ?_, ⟨es.push { key := k.v, val := .int .i64 ((ks.length + 1 : Nat) : Int), born := c }, c + 1, ?_, he.push k c⟩⟩
  · simp [Instr.mapUpdate, run_underlying Tryz.underlying65, Result.andThen, ho, key_check, find_key k w _ _ he, hn, MapKept.run_setObj_map _ hg, ChangeMaps.setBlock]
  · have := (Array.getElem?_eq_some_iff.1 hg).1
    simp [ChangeMaps.setBlock, this]
end Go.Proofs.YthipodffpkglfaaGreatDoor.PQ
namespace Go.Proofs.YthipodffpkglfaaGreatDoor.PQ
open Go.RowKit Go.Proofs.YthipodffpkglfaaGreatDoorW.PrintWords Go.Proofs.YthipodffpkglfaaGreatDoorW.PrintLast Go.Proofs.YthipodffpkglfaaGreatDoorW.PrintMore Go.Proofs.YthipodffpkglfaaGreatDoor.PS
set_option linter.unusedVariables false
set_option linter.unusedSimpArgs false
theorem k45_openF {W : World} {ok : Nat → Prop} {x : S45} {cs : List Value} (h : Kd.FK k45 W ok x cs) : ∃ A2 c2 A5 c5 A6 c6, cs = [.int .i64 x.f0, .string x.f1, .slice A2 x.f2.length c2, .bool x.f3, .bool x.f4, .slice A5 x.f5.length c5, .slice A6 x.f6.length c6] ∧ x.f2.length ≤ c2 ∧ Kd.F k45 W ok A2 x.f2.length x.f2 ∧ x.f5.length ≤ c5 ∧ Kd.F Kd.string W ok A5 x.f5.length x.f5 ∧ x.f6.length ≤ c6 ∧ Kd.F Kd.string W ok A6 x.f6.length x.f6 := by
  obtain ⟨A2, c2, A5, c5, A6, c6, rfl, l2, _, l5, _, l6, _⟩ := k45_open (Kd.FK_now h)
  exact ⟨A2, c2, A5, c5, A6, c6, rfl, l2, (fun W' hW => by obtain ⟨A2_, c2_, A5_, c5_, A6_, c6_, he, l2_, g2_, l5_, g5_, l6_, g6_⟩ := k45_open (h W' hW); injection (Option.some.inj (show some (Value.slice A2 x.f2.length c2) = some (Value.slice A2_ x.f2.length c2_) from congrArg (fun l => l[2]?) he)) with ha_ _ _; rw [ha_]; exact g2_), l5, (fun W' hW => by obtain ⟨A2_, c2_, A5_, c5_, A6_, c6_, he, l2_, g2_, l5_, g5_, l6_, g6_⟩ := k45_open (h W' hW); injection (Option.some.inj (show some (Value.slice A5 x.f5.length c5) = some (Value.slice A5_ x.f5.length c5_) from congrArg (fun l => l[5]?) he)) with ha_ _ _; rw [ha_]; exact g5_), l6, (fun W' hW => by obtain ⟨A2_, c2_, A5_, c5_, A6_, c6_, he, l2_, g2_, l5_, g5_, l6_, g6_⟩ := k45_open (h W' hW); injection (Option.some.inj (show some (Value.slice A6 x.f6.length c6) = some (Value.slice A6_ x.f6.length c6_) from congrArg (fun l => l[6]?) he)) with ha_ _ _; rw [ha_]; exact g6_)⟩
mutual
def pre : S45 → List S45
  | ⟨a, b, l, c, d, e, f⟩ => ⟨a, b, l, c, d, e, f⟩ :: preL l
def preL : List S45 → List S45
  | [] => []
  | x :: r => pre x ++ preL r
end
theorem pre_eq (x : S45) : pre x = x :: preL x.f2 := by cases x; simp [pre]
theorem preL_append (a b : List S45) : preL (a ++ b) = preL a ++ preL b := by
  induction a with
  | nil => simp [preL]
  | cons x r ih => simp [preL, ih, List.append_assoc]
theorem preL_take (l : List S45) (k : Nat) (h : k < l.length) : preL (l.take (k + 1)) = preL (l.take k) ++ pre l[k] := by
  rw [List.take_succ_eq_append_getElem h, preL_append]; simp [preL]
theorem pre_lt (x : S45) (k : Nat) (h : k < x.f2.length) : (pre x.f2[k]).length < (pre x).length := by
  rw [pre_eq x]
  have h1 := preL_take x.f2 k h
  have h2 : (preL (x.f2.take (k + 1))).length ≤ (preL x.f2).length := by
    have : preL x.f2 = preL (x.f2.take (k + 1)) ++ preL (x.f2.drop (k + 1)) := by rw [← preL_append, List.take_append_drop]
    rw [this, List.length_append]; omega
  rw [h1, List.length_append] at h2
  simp only [List.length_cons]; omega
def sEq : List ByteArray → List ByteArray → Bool
  | [], [] => true
  | a :: r, b :: s => (a.toList == b.toList) && sEq r s
  | _, _ => false
mutual
def likeB (br : Bool) : S45 → S45 → Bool
  | ⟨a0, a1, a2, a3, a4, a5, a6⟩, y => (a0 == y.f0) && (a1.toList == y.f1.toList) && (a4 == y.f4) && (!br || a3 == y.f3) && sEq a5 y.f5 && sEq a6 y.f6 && likeL br a2 y.f2
def likeL (br : Bool) : List S45 → List S45 → Bool
  | [], [] => true
  | x :: r, y :: s => likeB br x y && likeL br r s
  | _, _ => false
end
theorem likeB_eq (br : Bool) (x y : S45) : likeB br x y = ((x.f0 == y.f0) && (x.f1.toList == y.f1.toList) && (x.f4 == y.f4) && (!br || x.f3 == y.f3) && sEq x.f5 y.f5 && sEq x.f6 y.f6 && likeL br x.f2 y.f2) := by cases x; rfl
theorem mem_self (x : S45) : x ∈ pre x := by rw [pre_eq]; simp
theorem mem_preL (l : List S45) (i : Nat) (h : i < l.length) (y : S45) (hy : y ∈ pre l[i]) : y ∈ preL l := by
  have h1 : preL l = preL (l.take (i + 1)) ++ preL (l.drop (i + 1)) := by rw [← preL_append, List.take_append_drop]
  rw [h1, preL_take l i h]
  simp [hy]
theorem sEq_refl : ∀ l : List ByteArray, sEq l l = true
  | [] => rfl
  | a :: r => by simp [sEq, sEq_refl r]
mutual
theorem likeB_refl (b : Bool) : ∀ x : S45, likeB b x x = true
  | ⟨a, s, l, c, d, e, f⟩ => by
    rw [likeB_eq]
    simp [sEq_refl, likeL_refl b l]
theorem likeL_refl (b : Bool) : ∀ l : List S45, likeL b l l = true
  | [] => by simp [likeL]
  | x :: r => by simp [likeL, likeB_refl b x, likeL_refl b r]
end
structure NF (w : World) (ok : Nat → Prop) (x : S45) (A2 : Option Addr) (c2 : Nat) (A5 : Option Addr) (c5 : Nat) (A6 : Option Addr) (c6 : Nat) : Prop where
  g2 : Kd.F k45 w ok A2 x.f2.length x.f2
  l2 : x.f2.length ≤ c2
  g5 : Kd.F Kd.string w ok A5 x.f5.length x.f5
  l5 : x.f5.length ≤ c5
  g6 : Kd.F Kd.string w ok A6 x.f6.length x.f6
  l6 : x.f6.length ≤ c6
theorem NF.below {w w' : World} {ok : Nat → Prop} {x : S45} {A2 : Option Addr} {c2 : Nat} {A5 : Option Addr} {c5 : Nat} {A6 : Option Addr} {c6 : Nat} (h : NF w ok x A2 c2 A5 c5 A6 c6) (hb : Below w.heap.size w w') : NF w' ok x A2 c2 A5 c5 A6 c6 := ⟨Kd.F_below h.g2 hb, h.l2, Kd.F_below h.g5 hb, h.l5, Kd.F_below h.g6 hb, h.l6⟩
theorem NF.step {w w' : World} {ok : Nat → Prop} {x : S45} {A2 : Option Addr} {c2 : Nat} {A5 : Option Addr} {c5 : Nat} {A6 : Option Addr} {c6 : Nat} (h : NF w ok x A2 c2 A5 c5 A6 c6) (hk : ∀ k, ok k → w'.heap[k]? = w.heap[k]?) : NF w' ok x A2 c2 A5 c5 A6 c6 := ⟨Kd.F_step h.g2 (fun k h _ => hk k h), h.l2, Kd.F_step h.g5 (fun k h _ => hk k h), h.l5, Kd.F_step h.g6 (fun k h _ => hk k h), h.l6⟩
theorem mem_parts {x y q : S45} (hy : y ∈ x.f2) (hq : q ∈ pre y) : q ∈ pre x := by
  obtain ⟨i, hi, rfl⟩ := List.mem_iff_getElem.1 hy
  rw [pre_eq]
  exact List.mem_cons_of_mem _ (mem_preL _ i hi q hq)
theorem parts_lt {x y : S45} (hy : y ∈ x.f2) : (pre y).length < (pre x).length := by
  obtain ⟨i, hi, rfl⟩ := List.mem_iff_getElem.1 hy
  exact pre_lt x i hi
end Go.Proofs.YthipodffpkglfaaGreatDoor.PQ
namespace Go.Proofs
open Go.Shelf
def Tryz.laysM171_ren : Go.Shelf.Ren := ⟨fun | 171 => 32 | 243 => 45 | 246 => 73 | 283 => 104 | 284 => 105 | 285 => 106 | 286 => 107 | 129 => 141 | 317 => 140 | 318 => 142 | 319 => 143 | 320 => 144 | 337 => 178 | 338 => 179 | n => n, fun | 3 => 3 | 9 => 9 | 2 => 2 | 4 => 4 | 171 => 119 | 0 => 0 | 53 => 120 | 37 => 28 | 5 => 5 | 173 => 123 | 212 => 139 | 51 => 140 | 20 => 20 | 213 => 141 | 46 => 25 | 232 => 169 | 233 => 170 | n => n, fun | 17 => 0 | 18 => 1 | 19 => 2 | n => n⟩
theorem Tryz.laysM171 : Go.Proofs.LaysM.n171 Tryz.prog Tryz.laysM171_ren := {
  mixed := by kernel_rfl
  f129 := Tryz.func141.trans (congrArg some (by kernel_rfl))
  f171 := Tryz.func32.trans (congrArg some (by kernel_rfl))
  f243 := Tryz.func45.trans (congrArg some (by kernel_rfl))
  f246 := Tryz.func73.trans (congrArg some (by kernel_rfl))
  f283 := Tryz.func104.trans (congrArg some (by kernel_rfl))
  f284 := Tryz.func105.trans (congrArg some (by kernel_rfl))
  f285 := Tryz.func106.trans (congrArg some (by kernel_rfl))
  f286 := Tryz.func107.trans (congrArg some (by kernel_rfl))
  f317 := Tryz.func140.trans (congrArg some (by kernel_rfl))
  f318 := Tryz.func142.trans (congrArg some (by kernel_rfl))
  f319 := Tryz.func143.trans (congrArg some (by kernel_rfl))
  f320 := Tryz.func144.trans (congrArg some (by kernel_rfl))
  f337 := Tryz.func178.trans (congrArg some (by kernel_rfl))
  f338 := Tryz.func179.trans (congrArg some (by kernel_rfl))
  t0 := Tryz.underlying0
  a0 := Tryz.isAgg0
  z0 := Tryz.sizeOf0
  v0 := Tryz.zeroValue0
  t2 := Tryz.underlying2
  a2 := Tryz.isAgg2
  z2 := Tryz.sizeOf2
  v2 := Tryz.zeroValue2
  t3 := Tryz.underlying3
  a3 := Tryz.isAgg3
  z3 := Tryz.sizeOf3
  v3 := Tryz.zeroValue3
  t4 := Tryz.underlying4
  a4 := Tryz.isAgg4
  z4 := Tryz.sizeOf4
  v4 := Tryz.zeroValue4
  t5 := Tryz.underlying5
  a5 := Tryz.isAgg5
  z5 := Tryz.sizeOf5
  v5 := Tryz.zeroValue5
  t9 := Tryz.underlying9
  a9 := Tryz.isAgg9
  z9 := Tryz.sizeOf9
  v9 := Tryz.zeroValue9
  t20 := Tryz.underlying20
  a20 := Tryz.isAgg20
  z20 := Tryz.sizeOf20
  v20 := Tryz.zeroValue20
  t37 := Tryz.underlying28
  a37 := Tryz.isAgg28
  z37 := Tryz.sizeOf28
  v37 := Tryz.zeroValue28
  t46 := Tryz.underlying25
  a46 := Tryz.isAgg25
  z46 := Tryz.sizeOf25
  v46 := Tryz.zeroValue25
  t51 := Tryz.underlying140
  a51 := Tryz.isAgg140
  z51 := Tryz.sizeOf140
  v51 := Tryz.zeroValue140
  t53 := Tryz.underlying120
  a53 := Tryz.isAgg120
  z53 := Tryz.sizeOf120
  v53 := Tryz.zeroValue120
  t171 := Tryz.underlying119
  a171 := Tryz.isAgg119
  z171 := Tryz.sizeOf119
  v171 := Tryz.zeroValue119
  t173 := Tryz.underlying123
  a173 := Tryz.isAgg123
  z173 := Tryz.sizeOf123
  v173 := Tryz.zeroValue123
  t212 := Tryz.underlying139
  a212 := Tryz.isAgg139
  z212 := Tryz.sizeOf139
  v212 := Tryz.zeroValue139
  t213 := Tryz.underlying141
  a213 := Tryz.isAgg141
  z213 := Tryz.sizeOf141
  t232 := Tryz.underlying169
  a232 := Tryz.isAgg169
  z232 := Tryz.sizeOf169
  v232 := Tryz.zeroValue169
  t233 := Tryz.underlying170
  a233 := Tryz.isAgg170
  z233 := Tryz.sizeOf170
  v233 := Tryz.zeroValue170
  g17 := by kernel_rfl
  g18 := by kernel_rfl
  g19 := by kernel_rfl
  i0 := by kernel_rfl
  i2 := by kernel_rfl
  i3 := by kernel_rfl
  i4 := by kernel_rfl
  i5 := by kernel_rfl
  i9 := by kernel_rfl
  i20 := by kernel_rfl
  i37 := by kernel_rfl
  i46 := by kernel_rfl
  i51 := by kernel_rfl
  i53 := by kernel_rfl
  i171 := by kernel_rfl
  i173 := by kernel_rfl
  i212 := by kernel_rfl
  i232 := by kernel_rfl
  i233 := by kernel_rfl
  m17 := by kernel_rfl
  m18 := by kernel_rfl
  m19 := by kernel_rfl }
end Go.Proofs
namespace Go.Proofs.YthipodffpkglfaaGreatDoor.PQ
open Go.RowKit Go.Proofs.YthipodffpkglfaaGreatDoorW.PrintWords Go.Proofs.YthipodffpkglfaaGreatDoorW.PrintLast Go.Proofs.YthipodffpkglfaaGreatDoorW.PrintMore Go.Proofs.YthipodffpkglfaaGreatDoor.PS
set_option linter.unusedVariables false
/-- The numeral of a number. -/
def itoaB (n : Int) : ByteArray := ⟨(Lib.itoa n).toArray⟩
/-- The name of the table of tens, as the row lists it. -/
def tabName : String := (Rows.statsJoinsRow.laid.map Prod.fst).getD 2 ""
/-- strconv.Itoa comes to the numeral. -/
def ItoaAt (w : World) : Prop := ∀ n : Int, -9223372036854775808 ≤ n → n ≤ 9223372036854775807 → Calls Tryz.prog 32 #[.int .i64 n] w fun e w' => e = .returned (.string (itoaB n)) ∧ Below w.heap.size w w'
theorem below_grow (w : World) (k : Nat) (os : Array Obj) : Below w.heap.size w (Sort.grow (w.drewN k) os) := by
  refine ⟨rfl, rfl, rfl, by simp [Sort.grow], fun i hi => ?_⟩
  show (w.heap ++ os)[i]? = w.heap[i]?
  rw [Array.getElem?_append_left hi]
theorem itoa_of {w : World} (h : Lib.TabIs Tryz.prog w tabName .u64 Lib.pow10Tab) : ItoaAt w := fun n h0 h1 =>
  (Any.strconv_Itoa Tryz.laysM171 n h0 h1 w h).mono fun e w' ⟨he, k, os, hw⟩ => ⟨he, by rw [hw]; exact below_grow w k os⟩
end Go.Proofs.YthipodffpkglfaaGreatDoor.PQ
namespace Go.Proofs.YthipodffpkglfaaGreatDoor.PQ
open Go.RowKit Go.Proofs.YthipodffpkglfaaGreatDoorW.PrintWords Go.Proofs.YthipodffpkglfaaGreatDoorW.PrintLast Go.Proofs.YthipodffpkglfaaGreatDoorW.PrintMore Go.Proofs.YthipodffpkglfaaGreatDoor.PS
set_option linter.unusedVariables false
set_option linter.unusedSimpArgs false
/-- A pool as it lies. -/
structure PoolAt (w : World) (base ga gm : Nat) (v : Value) (ks : List K5) (zs : List Int) : Prop where
  pa : w.heap[ga]? = some (.cells #[.map (some gm), v] 67 (0, 0))
  pm : MapAt w gm ks
  pz : Kd.R (Kd.int .i64) 3 w base (fun k => base ≤ k) v zs
  hl : ks.length = zs.length
  ba : base ≤ ga
  bm : base ≤ gm
theorem MapAt.below {w w' : World} {g : Nat} {ks : List K5} (h : MapAt w g ks) (hb : w'.heap[g]? = w.heap[g]?) : MapAt w' g ks := by
  obtain ⟨es, c, hg, he⟩ := h
  exact ⟨es, c, hb.trans hg, he⟩
theorem MapAt.lt {w : World} {g : Nat} {ks : List K5} (h : MapAt w g ks) : g < w.heap.size := by
  obtain ⟨es, c, hg, he⟩ := h
  exact (Array.getElem?_eq_some_iff.1 hg).1
section
variable {w w' W : World} {base ga gm : Nat} {v : Value} {ks : List K5} {zs : List Int}
theorem PoolAt.below (h : PoolAt w base ga gm v ks zs) (hb : Below w.heap.size w w') : PoolAt w' base ga gm v ks zs :=
  ⟨blk_below h.pa hb, h.pm.below (hb.block gm h.pm.lt), Kd.R_below h.pz hb, h.hl, h.ba, h.bm⟩
theorem PoolAt.base_le (h : PoolAt w base ga gm v ks zs) : base ≤ w.heap.size := Nat.le_trans h.ba (Nat.le_of_lt (blk_lt h.pa))
end
/-- What a call that turns a pool leaves as it was. -/
structure Turned (w w' : World) (S : Nat → Prop) : Prop where
  os : w'.os = w.os
  tape : w'.tape = w.tape
  output : w'.output = w.output
  size : w.heap.size ≤ w'.heap.size
  block : ∀ k, k < w.heap.size → ¬ S k → w'.heap[k]? = w.heap[k]?
theorem Turned.of_below {w w' : World} {S : Nat → Prop} (h : Below w.heap.size w w') : Turned w w' S := ⟨h.os, h.tape, h.output, h.size, fun k hk _ => h.block k hk⟩
theorem Turned.below {w w' : World} {S : Nat → Prop} {B : Nat} (h : Turned w w' S) (hB : B ≤ w.heap.size) (hS : ∀ k, S k → B ≤ k) : Below B w w' := ⟨h.os, h.tape, h.output, h.size, fun k hk => h.block k (by omega) (fun hs => by have := hS k hs; omega)⟩
theorem Turned.trans {a b c : World} {S S' : Nat → Prop} (h : Turned a b S) (k : Turned b c S') (hS : ∀ i, i < a.heap.size → S' i → S i) : Turned a c S :=
  ⟨k.os.trans h.os, k.tape.trans h.tape, k.output.trans h.output, Nat.le_trans h.size k.size, fun i hi hn => (k.block i (Nat.lt_of_lt_of_le hi h.size) (fun hs => hn (hS i hi hs))).trans (h.block i hi hn)⟩
def PoolS (ga gm : Nat) (v : Value) (k : Nat) : Prop := k = ga ∨ k = gm ∨ some k = v.ownBlock
theorem PoolAt.S_base {w : World} {base ga gm : Nat} {v : Value} {ks : List K5} {zs : List Int} (h : PoolAt w base ga gm v ks zs) : ∀ k, PoolS ga gm v k → base ≤ k := by
  rintro k (rfl | rfl | hk)
  · exact h.ba
  · exact h.bm
  · exact Kd.R_base h.pz k hk.symm
/-- A block of cells of another type is none of the pool's. -/
theorem PoolAt.away {w : World} {base ga gm : Nat} {v : Value} {ks : List K5} {zs : List Int} (h : PoolAt w base ga gm v ks zs) {g : Nat} {cs : Array Value} {t : TypeId} (hb : w.heap[g]? = some (.cells cs t (0, 0))) (h1 : t ≠ 67) (h2 : t ≠ 3) : ¬ PoolS ga gm v g := by
  rintro (rfl | rfl | hk)
  · exact blk_ne hb h.pa h1 rfl
  · obtain ⟨es, c, hg, he⟩ := h.pm
    rw [hg] at hb
    cases hb
  · obtain ⟨cells, hc⟩ := Kd.R_typed h.pz g hk.symm
    exact blk_ne hb hc h2 rfl
/-- Texts as one, each behind its length. -/
def textsF : List ByteArray → ByteArray → ByteArray
  | [], o => o
  | s :: r, o => textsF r (((o ++ itoaB s.size) ++ (⟨#[58]⟩ : ByteArray)) ++ s)
theorem textsF_append (a b : List ByteArray) : ∀ o, textsF (a ++ b) o = textsF b (textsF a o) := by
  induction a with
  | nil => intro o; rfl
  | cons s r ih => intro o; simp [textsF, ih]
theorem textsF_take (l : List ByteArray) (i : Nat) (h : i < l.length) (o : ByteArray) : textsF (l.take (i + 1)) o = ((textsF (l.take i) o ++ itoaB l[i].size) ++ (⟨#[58]⟩ : ByteArray)) ++ l[i] := by
  rw [List.take_succ_eq_append_getElem h, textsF_append]; rfl
/-- How long texts are as one, at most. -/
def tsz : List ByteArray → Nat
  | [] => 0
  | s :: r => s.size + 22 + tsz r
theorem itoa_size (n : Int) (h0 : -9223372036854775808 ≤ n) (h1 : n ≤ 9223372036854775807) : (itoaB n).size ≤ 21 := by
  have := Lib.itoa_length_le n h0 h1
  show (Lib.itoa n).toArray.size ≤ 21
  rw [List.size_toArray]
  exact this
theorem textsF_size : ∀ (l : List ByteArray) (o : ByteArray), (∀ s ∈ l, s.size ≤ 9223372036854775807) → (textsF l o).size ≤ o.size + tsz l
  | [], o, _ => by simp [textsF, tsz]
  | s :: r, o, h => by
    have h1 := textsF_size r (((o ++ itoaB s.size) ++ (⟨#[58]⟩ : ByteArray)) ++ s) (fun t ht => h t (List.mem_cons_of_mem _ ht))
    have h2 := itoa_size s.size (by omega) (by have := h s List.mem_cons_self; omega)
    have h3 : (⟨#[58]⟩ : ByteArray).size = 1 := rfl
    simp only [ByteArray.size_append, h3] at h1
    unfold textsF tsz
    omega
theorem tsz_append (a b : List ByteArray) : tsz (a ++ b) = tsz a + tsz b := by
  induction a with
  | nil => simp [tsz]
  | cons s r ih => simp [tsz, ih]; omega
theorem tsz_at (l : List ByteArray) (i : Nat) (h : i < l.length) : tsz (l.take i) + l[i].size + 22 ≤ tsz l := by
  have e : l = l.take i ++ l[i] :: l.drop (i + 1) := by rw [← List.drop_eq_getElem_cons h, List.take_append_drop]
  have h2 := congrArg tsz e
  rw [tsz_append] at h2
  simp only [tsz] at h2
  omega
theorem mem_tsz (l : List ByteArray) (s : ByteArray) (h : s ∈ l) : s.size ≤ tsz l := by
  induction l with
  | nil => simp at h
  | cons a r ih =>
    rcases List.mem_cons.1 h with rfl | h
    · simp only [tsz]; omega
    · have := ih h; simp only [tsz]; omega
/-- Itoa comes to the numeral, whatever is done from block B on. -/
def Tab (B : Nat) (w : World) : Prop := ∀ w', Below B w w' → ItoaAt w'
theorem Tab.here {B : Nat} {w : World} (h : Tab B w) : ItoaAt w := h w (Below.refl _ _)
theorem Tab.on {B : Nat} {w w1 : World} (h : Tab B w) (hb : Below B w w1) : Tab B w1 := fun w' h' => h w' (hb.trans h')
theorem text_at {w : World} {A : Option Addr} {l : List ByteArray} (h : Kd.C Kd.string w A l.length l) (i : Nat) (hi : i < l.length) : ∃ ad, A = some ad ∧ w.cell? (ad.add i) = some (.string l[i]) := by
  obtain ⟨_, _, h3⟩ := h
  obtain ⟨ad, e, h4⟩ := h3 (by omega)
  obtain ⟨cs, h5, h6, h7⟩ := h4 i l[i] (by simp [hi])
  obtain rfl : cs = [.string l[i]] := h6
  exact ⟨ad, e, by simpa [Kd.string, Kd.scalar] using h7 0 _ rfl⟩
theorem int_at {w : World} {A : Option Addr} {l : List Int} (h : Kd.C (Kd.int .i64) w A l.length l) (i : Nat) (hi : i < l.length) : ∃ ad, A = some ad ∧ w.cell? (ad.add i) = some (.int .i64 l[i]) := by
  obtain ⟨_, _, h3⟩ := h
  obtain ⟨ad, e, h4⟩ := h3 (by omega)
  obtain ⟨cs, h5, h6, h7⟩ := h4 i l[i] (by simp [hi])
  obtain rfl : cs = [.int .i64 l[i]] := h6
  exact ⟨ad, e, by simpa [Kd.int, Kd.scalar] using h7 0 _ rfl⟩
theorem len_tsz (l : List ByteArray) : 22 * l.length ≤ tsz l := by
  induction l with
  | nil => simp [tsz]
  | cons s r ih => simp only [tsz, List.length_cons]; omega
set_option maxHeartbeats 1000000 in
theorem texts_calls (B : Nat) (l : List ByteArray) (A : Option Addr) (c : Nat) (w : World) (hl : Kd.C Kd.string w A l.length l) (hB : B ≤ w.heap.size) (hT : Tab B w) (hs : tsz l ≤ 1152921504606846976) :
    Calls Tryz.prog 31 #[.slice A l.length c] w fun e w' => e = .returned (.string (textsF l ⟨#[]⟩)) ∧ Below w.heap.size w w' := by
  have HL := Aside0.mk hl
  have HBB := Aside0.mk hB
  have HT := Aside0.mk hT
  have HS := Aside0.mk hs
  have HB := Aside0.mk (Below.refl w.heap.size w)
  have hlb : (l.length : Int) ≤ 1152921504606846976 := by have := len_tsz l; omega
  clear hl hB hT hs
  go_enter Tryz.func31, Tryz.ntmps31
  go_wp2
  go_loopg [3, 8] l.length (fun k' v3 v8 wr => ∃ (i : Nat) (t : ByteArray), v3 = .string t ∧ v8 = .int .i64 i ∧ i ≤ l.length ∧ Aside0 (k' + i = l.length) ∧ Aside0 (t = textsF (l.take i) ⟨#[]⟩) ∧ Aside0 (Below w.heap.size w wr))
  case atStart => exact ⟨0, _, rfl, rfl, Nat.zero_le _, ⟨rfl⟩, ⟨rfl⟩, HB⟩
  case round =>
    clear HB
    obtain ⟨i, t, rfl, rfl, hi, HK, ET, HB⟩ := hrel
    by_cases hlt : i < l.length
    · obtain ⟨ad, e0, tx⟩ := text_at HL.out i hlt
      subst e0
      have q1 := (HB.out.cell (World.block_lt_of_cell? w _ tx)).trans tx
      have EN := Aside0.mk (textsF_take l i hlt ⟨#[]⟩)
      have hz := tsz_at l i hlt
      have hz2 := textsF_size (l.take i) ⟨#[]⟩ (fun s hs => by have := mem_tsz l s (List.mem_of_mem_take hs); have := HS.out; omega)
      obtain ⟨s, hse⟩ : ∃ s, s = l[i] := ⟨_, rfl⟩
      rw [← hse] at q1 EN hz
      clear tx hse
      have hts : t.size ≤ tsz (l.take i) := by rw [ET.out]; have h0 : (⟨#[]⟩ : ByteArray).size = 0 := rfl; omega
      have hsz := HS.out
      have hn1 : (s.size : Int) ≤ 9223372036854775807 := by omega
      have hit := itoa_size s.size (by omega) hn1
      obtain ⟨u, hu⟩ : ∃ u, u = itoaB s.size := ⟨_, rfl⟩
      have HU := Aside0.mk hu
      rw [← hu] at hit EN
      have a1 : ¬ (9223372036854775807 < t.size + u.size) := by omega
      have a2 : ¬ (9223372036854775807 < t.size + u.size + 1) := by omega
      have a3 : ¬ (9223372036854775807 < t.size + u.size + 1 + s.size) := by omega
      have HN1 := Aside0.mk hn1
      clear hz hz2 hts hsz hit hu hn1
      go_wp2_with (first | ((with_reducible refine gate_dst (N := 15) rfl ?_); refine goesL_ (some 15) rfl rfl Tryz.func32 (by kernel_rfl) rfl #[.int .i64 s.size] rfl (by (try simp only [List.map_toArray, List.map_cons, List.map_nil]); first | done | rfl) ?_; (refine (HT.out _ (HB.out.mono HBB.out) s.size (by omega) HN1.out).mono ?_); (rintro e w3 ⟨rfl, hb⟩; refine ⟨_, rfl, ?_⟩; rw [← HU.out]; have n0 := Aside0.mk (below_step HB.out hb); clear HB hb; have HB := n0; clear n0; )))
      go_roundg (l.length - (i + 1))
      case measure => have := HK.out; omega
      case rel => exact ⟨i + 1, ((t ++ u) ++ (⟨#[58]⟩ : ByteArray)) ++ s, rfl, by simp, by omega, ⟨by have := HK.out; omega⟩, ⟨by rw [EN.out, ET.out]⟩, HB⟩
    · obtain rfl : i = l.length := by omega
      go_wp2
      go_ret
      exact ⟨by rw [ET.out, List.take_length]; rfl, HB.out⟩
theorem new_calls (B : Nat) (w : World) (hB : B ≤ w.heap.size) :
    Calls Tryz.prog 19 #[] w fun e w' => ∃ ga gm, e = .returned (.pointer (some ⟨ga, 0, none⟩)) ∧ PoolAt w' B ga gm (.slice none 0 0) [] [] ∧ Below w.heap.size w w' := by
  have HBB := Aside0.mk hB
  clear hB
  have hmm := @run_makeMap Tryz.prog
  go_enter Tryz.func19, Tryz.ntmps19
  go_wp2
  go_ret
  refine ⟨w.heap.size + 1, w.heap.size, rfl, ⟨?_, ⟨#[], 0, ?_, Ent.nil 0⟩, Kd.R_nil _ _ _ _ _, rfl, by have := HBB.out; omega, HBB.out⟩, ?_⟩
  · have := blk_new (w.alloc (.map #[] 0)) (.cells #[.map (some w.heap.size), .slice none 0 0] 67 (0, 0))
    simpa using this
  · exact (Below.heap_alloc (w.alloc (.map #[] 0)) _ w.heap.size (by simp)).trans (blk_new w _)
  · exact below_alloc (below_alloc (Below.refl _ _) _) _
theorem len_calls {w : World} {base ga gm : Nat} {v : Value} {ks : List K5} {zs : List Int} (n : Int) (h : PoolAt w base ga gm v ks zs) (hn : (zs.length : Int) = n) :
    Calls Tryz.prog 22 #[.pointer (some ⟨ga, 0, none⟩)] w fun e w' => e = .returned (.int .i64 n) ∧ w = w' := by
  subst hn
  obtain ⟨A, c, hv⟩ := Kd.R_slice h.pz
  have hp := h.pa
  rw [hv] at hp
  have q1 : w.cell? ⟨ga, 1, none⟩ = some (.slice A zs.length c) := (blk_cell hp 1).trans rfl
  clear h hv hp
  go_enter Tryz.func22, Tryz.ntmps22
  go_wp2
  go_ret
  exact ⟨rfl, rfl⟩
/-- The size that a number has. -/
def sizeOfId (zs : List Int) (id : Int) : Int := if 1 ≤ id ∧ id ≤ zs.length then zs.getD (id.toNat - 1) 0 else 0
theorem size_calls {w : World} {base ga gm : Nat} {v : Value} {ks : List K5} {zs : List Int} (id n : Int) (h : PoolAt w base ga gm v ks zs) (hb : zs.length ≤ 1000000000) (hn : sizeOfId zs id = n) :
    Calls Tryz.prog 20 #[.pointer (some ⟨ga, 0, none⟩), .int .i64 id] w fun e w' => e = .returned (.int .i64 n) ∧ w = w' := by
  subst hn
  obtain ⟨A, c, hv⟩ := Kd.R_slice h.pz
  have hp := h.pa
  have hz := h.pz
  rw [hv] at hp hz
  have hC := (Kd.R_reads' hz).2.2
  have q1 : w.cell? ⟨ga, 1, none⟩ = some (.slice A zs.length c) := (blk_cell hp 1).trans rfl
  clear h hv hp hz
  by_cases c1 : id < 1
  · have c1a : decide (id < 1) = true := decide_eq_true c1
    have e0 := Aside0.mk (show sizeOfId zs id = 0 from if_neg (by omega))
    clear hC c1
    go_enter Tryz.func20, Tryz.ntmps20
    go_wp2
    go_ret
    exact ⟨by rw [e0.out]; rfl, rfl⟩
  · by_cases c2 : (zs.length : Int) < id
    · have c1a : decide (id < 1) = false := decide_eq_false c1
      have c2a : decide ((zs.length : Int) < id) = true := decide_eq_true c2
      have e0 := Aside0.mk (show sizeOfId zs id = 0 from if_neg (by omega))
      clear hC c1 c2
      go_enter Tryz.func20, Tryz.ntmps20
      go_wp2
      go_ret
      exact ⟨by rw [e0.out]; rfl, rfl⟩
    · have c1a : decide (id < 1) = false := decide_eq_false c1
      have c2a : decide ((zs.length : Int) < id) = false := decide_eq_false c2
      obtain ⟨i, hi⟩ : ∃ i : Nat, id = (i : Int) + 1 := ⟨(id - 1).toNat, by omega⟩
      have hil : i < zs.length := by omega
      obtain ⟨ad, e, hc⟩ := int_at hC i hil
      subst e
      have e0 := Aside0.mk (show sizeOfId zs id = zs[i] by
        have h1 : id.toNat - 1 = i := by omega
        rw [sizeOfId, if_pos (by omega), h1, List.getD_eq_getElem?_getD, List.getElem?_eq_getElem hil]; rfl)
      have hw : wrap64 (id - 1) = (i : Int) := by unfold wrap64; omega
      obtain ⟨y, hy⟩ : ∃ y, y = zs[i]'hil := ⟨_, rfl⟩
      rw [← hy] at hc e0
      clear hC c1 c2 hi hy hb
      go_enter Tryz.func20, Tryz.ntmps20
      go_wp2
      go_ret
      exact ⟨by rw [e0.out]; rfl, rfl⟩
end Go.Proofs.YthipodffpkglfaaGreatDoor.PQ
namespace Go.Proofs.YthipodffpkglfaaGreatDoor.PQ
open Go.RowKit Go.Proofs.YthipodffpkglfaaGreatDoorW.PrintWords Go.Proofs.YthipodffpkglfaaGreatDoorW.PrintLast Go.Proofs.YthipodffpkglfaaGreatDoorW.PrintMore Go.Proofs.YthipodffpkglfaaGreatDoor.PS
set_option linter.unusedVariables false
set_option linter.unusedSimpArgs false
abbrev E0 : ByteArray := ⟨#[]⟩
/-- The key of a node, its parts' numbers one behind the other. -/
def keyV (x : S45) (lst : ByteArray) : K5 := ⟨x.f0, x.f4, x.f1, lst, (textsF x.f5 E0 ++ (⟨#[59]⟩ : ByteArray)) ++ textsF x.f6 E0⟩
/-- What a pool holds, while a node's parts are put: the numbers so far, the size so far, the keys, the sizes. -/
structure PS where
  o : ByteArray
  s : Int
  ks : List K5
  zs : List Int
def szAt (zs : List Int) (id : Int) : Int := zs.getD (id - 1).toNat 0
/-- The end of Put: the key is there, or it is new. -/
def putEnd (x : S45) (q : PS) : Int × List K5 × List Int :=
  match idxOf (keyV x q.o) q.ks 0 with
  | some j => (((j + 1 : Nat) : Int), q.ks, q.zs)
  | none => (((q.ks.length + 1 : Nat) : Int), q.ks ++ [keyV x q.o], q.zs ++ [q.s])
mutual
def putV : S45 → List K5 → List Int → Int × List K5 × List Int
  | ⟨a, b, l, c, d, e, f⟩, ks, zs => putEnd ⟨a, b, l, c, d, e, f⟩ (putL l ⟨E0, 1, ks, zs⟩)
def putL : List S45 → PS → PS
  | [], q => q
  | x :: r, q => putL r ⟨(q.o ++ itoaB (putV x q.ks q.zs).1) ++ (⟨#[44]⟩ : ByteArray), wrap64 (q.s + szAt (putV x q.ks q.zs).2.2 (putV x q.ks q.zs).1), (putV x q.ks q.zs).2.1, (putV x q.ks q.zs).2.2⟩
end
theorem putV_eq (x : S45) (ks : List K5) (zs : List Int) : putV x ks zs = putEnd x (putL x.f2 ⟨E0, 1, ks, zs⟩) := by cases x; rfl
/-- One part more. -/
def putS (x : S45) (q : PS) : PS := ⟨(q.o ++ itoaB (putV x q.ks q.zs).1) ++ (⟨#[44]⟩ : ByteArray), wrap64 (q.s + szAt (putV x q.ks q.zs).2.2 (putV x q.ks q.zs).1), (putV x q.ks q.zs).2.1, (putV x q.ks q.zs).2.2⟩
theorem putL_cons (x : S45) (r : List S45) (q : PS) : putL (x :: r) q = putL r (putS x q) := by rw [putL]; rfl
theorem putL_append (a b : List S45) : ∀ q, putL (a ++ b) q = putL b (putL a q) := by
  induction a with
  | nil => intro q; rfl
  | cons x r ih => intro q; rw [List.cons_append, putL_cons, putL_cons, ih]
theorem putL_take (l : List S45) (i : Nat) (h : i < l.length) (q : PS) : putL (l.take (i + 1)) q = putS l[i] (putL (l.take i) q) := by
  rw [List.take_succ_eq_append_getElem h, putL_append, putL_cons]; rfl
theorem idxOf_lt (k : K5) : ∀ (ks : List K5) (i j : Nat), idxOf k ks i = some j → i ≤ j ∧ j < i + ks.length
  | [], i, j, h => by simp [idxOf] at h
  | x :: r, i, j, h => by
    unfold idxOf at h
    cases hs : k.same x
    · rw [hs] at h
      have := idxOf_lt k r (i + 1) j (by simpa using h)
      simp only [List.length_cons]; omega
    · rw [hs] at h
      obtain rfl : i = j := by simpa using h
      simp only [List.length_cons]; omega
theorem putEnd_good (x : S45) (q : PS) (h : q.ks.length = q.zs.length) : (putEnd x q).2.1.length = (putEnd x q).2.2.length ∧ q.ks.length ≤ (putEnd x q).2.1.length ∧ (putEnd x q).2.1.length ≤ q.ks.length + 1 ∧ 1 ≤ (putEnd x q).1 ∧ (putEnd x q).1 ≤ (putEnd x q).2.1.length := by
  unfold putEnd
  cases hi : idxOf (keyV x q.o) q.ks 0 with
  | none => simp only [List.length_append, List.length_cons, List.length_nil]; omega
  | some j =>
    have := idxOf_lt _ _ _ _ hi
    simp only
    omega
mutual
theorem putV_good : ∀ (x : S45) (ks : List K5) (zs : List Int), ks.length = zs.length → (putV x ks zs).2.1.length = (putV x ks zs).2.2.length ∧ ks.length ≤ (putV x ks zs).2.1.length ∧ (putV x ks zs).2.1.length ≤ ks.length + (pre x).length ∧ 1 ≤ (putV x ks zs).1 ∧ (putV x ks zs).1 ≤ (putV x ks zs).2.1.length
  | ⟨a, b, l, c, d, e, f⟩, ks, zs, h => by
    have h1 := putL_good l ⟨E0, 1, ks, zs⟩ h
    rw [putV_eq, pre_eq, List.length_cons]
    have h2 := putEnd_good ⟨a, b, l, c, d, e, f⟩ (putL l ⟨E0, 1, ks, zs⟩) h1.1
    have h3 := h1.2
    simp only at h3 ⊢
    omega
theorem putL_good : ∀ (l : List S45) (q : PS), q.ks.length = q.zs.length → (putL l q).ks.length = (putL l q).zs.length ∧ q.ks.length ≤ (putL l q).ks.length ∧ (putL l q).ks.length ≤ q.ks.length + (preL l).length
  | [], q, h => ⟨h, Nat.le_refl _, Nat.le_add_right _ _⟩
  | x :: r, q, h => by
    have h1 := putV_good x q.ks q.zs h
    have h2 := putL_good r (putS x q) h1.1
    rw [putL_cons]
    simp only [preL, List.length_append]
    have h3 : (putS x q).ks.length = (putV x q.ks q.zs).2.1.length := rfl
    omega
end
theorem putL_o : ∀ (l : List S45) (q : PS), q.ks.length = q.zs.length → q.ks.length + (preL l).length ≤ 1000000 → (putL l q).o.size ≤ q.o.size + 22 * l.length
  | [], q, h, hb => Nat.le_add_right _ _
  | x :: r, q, h, hb => by
    have h1 := putV_good x q.ks q.zs h
    simp only [preL, List.length_append] at hb
    have h3 : (putS x q).ks.length = (putV x q.ks q.zs).2.1.length := rfl
    have h2 := putL_o r (putS x q) h1.1 (by omega)
    rw [putL_cons]
    have h4 := itoa_size (putV x q.ks q.zs).1 (by omega) (by omega)
    have h5 : (putS x q).o.size = q.o.size + (itoaB (putV x q.ks q.zs).1).size + 1 := by
      show ((q.o ++ itoaB (putV x q.ks q.zs).1) ++ (⟨#[44]⟩ : ByteArray)).size = _
      rw [ByteArray.size_append, ByteArray.size_append]; rfl
    simp only [List.length_cons]
    omega
structure PI (w wr : World) (base ga gm : Nat) (v0 v : Value) (ks : List K5) (zs : List Int) : Prop where
  hp : PoolAt wr base ga gm v ks zs
  ht : Turned w wr (PoolS ga gm v0)
  ho : v.ownBlock = v0.ownBlock ∨ ∃ b, v.ownBlock = some b ∧ w.heap.size ≤ b
section
variable {w wr wr' : World} {base ga gm : Nat} {v0 v v' : Value} {ks ks' : List K5} {zs zs' : List Int}
theorem PI.start (h : PoolAt w base ga gm v0 ks zs) : PI w w base ga gm v0 v0 ks zs := ⟨h, Turned.of_below (Below.refl _ _), Or.inl rfl⟩
theorem PI.below (h : PI w wr base ga gm v0 v ks zs) (hb : Below wr.heap.size wr wr') : PI w wr' base ga gm v0 v ks zs :=
  ⟨h.hp.below hb, h.ht.trans (S' := fun _ => False) (Turned.of_below hb) (fun _ _ h => h.elim), h.ho⟩
theorem PI.call (h : PI w wr base ga gm v0 v ks zs) (hp : PoolAt wr' base ga gm v' ks' zs') (ht : Turned wr wr' (PoolS ga gm v)) (ho : v'.ownBlock = v.ownBlock ∨ ∃ b, v'.ownBlock = some b ∧ wr.heap.size ≤ b) : PI w wr' base ga gm v0 v' ks' zs' := by
  refine ⟨hp, h.ht.trans ht (fun i hi hs => ?_), ?_⟩
  · rcases hs with rfl | rfl | hs
    · exact Or.inl rfl
    · exact Or.inr (Or.inl rfl)
    · rcases h.ho with e | ⟨b, e, hb⟩
      · rw [e] at hs; exact Or.inr (Or.inr hs)
      · rw [e] at hs; injection hs with hs; omega
  · rcases ho with e | ⟨b, e, hb⟩
    · rw [e]; exact h.ho
    · exact Or.inr ⟨b, e, Nat.le_trans h.ht.size hb⟩
theorem PI.base_below (h : PI w wr base ga gm v0 v ks zs) (h0 : PoolAt w base ga gm v0 ks' zs') : Below base w wr := h.ht.below h0.base_le h0.S_base
theorem NF.turn {ok S : Nat → Prop} {x : S45} {A2 : Option Addr} {c2 : Nat} {A5 : Option Addr} {c5 : Nat} {A6 : Option Addr} {c6 : Nat} (h : NF w ok x A2 c2 A5 c5 A6 c6) (ht : Turned w wr S) (hs : ∀ k, ok k → k < w.heap.size ∧ ¬ S k) : NF wr ok x A2 c2 A5 c5 A6 c6 := h.step (fun k hk => ht.block k (hs k hk).1 (hs k hk).2)
theorem PI.okS {ok : Nat → Prop} (h : PI w wr base ga gm v0 v ks zs) (hs : ∀ k, ok k → k < w.heap.size ∧ ¬ PoolS ga gm v0 k) : ∀ k, ok k → k < wr.heap.size ∧ ¬ PoolS ga gm v k := fun k hk => by
  obtain ⟨h1, h2⟩ := hs k hk
  refine ⟨Nat.lt_of_lt_of_le h1 h.ht.size, fun h3 => h2 ?_⟩
  rcases h3 with rfl | rfl | h3
  · exact Or.inl rfl
  · exact Or.inr (Or.inl rfl)
  · rcases h.ho with e | ⟨b, e, hb⟩
    · rw [e] at h3; exact Or.inr (Or.inr h3)
    · rw [e] at h3; injection h3 with h3; omega
theorem turned_blk {g : Nat} {cs : Array Value} {t : TypeId} (hb : wr.heap[g]? = some (.cells cs t (0, 0))) (hp : PoolAt wr base ga gm v ks zs) (ht : Turned wr wr' (PoolS ga gm v)) (h1 : t ≠ 67) (h2 : t ≠ 3) : wr'.heap[g]? = some (.cells cs t (0, 0)) :=
  (ht.block g (blk_lt hb) (hp.away hb h1 h2)).trans hb
end
/-- What a call of Put comes to. -/
def PutAt (x : S45) (A2 : Option Addr) (c2 : Nat) (A5 : Option Addr) (c5 : Nat) (A6 : Option Addr) (c6 : Nat) (base ga gm : Nat) (v : Value) (ks : List K5) (zs : List Int) (w : World) : Prop :=
  Calls Tryz.prog 21 #[.pointer (some ⟨ga, 0, none⟩), .agg #[.int .i64 x.f0, .string x.f1, .slice A2 x.f2.length c2, .bool x.f3, .bool x.f4, .slice A5 x.f5.length c5, .slice A6 x.f6.length c6]] w fun e w' => ∃ v', e = .returned (.int .i64 (putV x ks zs).1) ∧
    PoolAt w' base ga gm v' (putV x ks zs).2.1 (putV x ks zs).2.2 ∧ Turned w w' (PoolS ga gm v) ∧ (v'.ownBlock = v.ownBlock ∨ ∃ b, v'.ownBlock = some b ∧ w.heap.size ≤ b)
/-- A node's texts and rows are no longer than a text may be. -/
def okT (x : S45) : Prop := ∀ y ∈ pre x, tsz y.f5 ≤ 1152921504606846976 ∧ tsz y.f6 ≤ 1152921504606846976
end Go.Proofs.YthipodffpkglfaaGreatDoor.PQ
