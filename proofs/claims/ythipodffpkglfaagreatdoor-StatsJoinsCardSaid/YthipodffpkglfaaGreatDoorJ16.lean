/- Words and walks that the law leans on: HS30, HS31, HS32, HS33, HS34, HS35, HS36. Conditions: none. -/
import Derived.Test.YthipodffpkglfaaGreatDoorJ14
import Derived.Test.YthipodffpkglfaaGreatDoorJ15
import Derived.Test.YthipodffpkglfaaGreatDoorJ5
import Derived.Test.YthipodffpkglfaaGreatDoorJ8
import Derived.ScopeJumps
namespace Go.Proofs.YthipodffpkglfaaGreatDoor.PS
open Go.RowKit Go.Proofs.YthipodffpkglfaaGreatDoorW.PrintWords Go.Proofs.YthipodffpkglfaaGreatDoorW.PrintLast Go.Proofs.YthipodffpkglfaaGreatDoorW.PrintMore
set_option linter.unusedVariables false
set_option linter.unusedSimpArgs false
theorem at_data (s : ByteArray) (k : Nat) : s[k]? = s.data.toList[k]? := by
  by_cases h : k < s.size
  · have h' : k < s.data.toList.length := by rw [← size_data]; exact h
    rw [getElem?_pos s k h, List.getElem?_eq_getElem h']
    rfl
  · have h' : ¬ k < s.data.toList.length := by rw [← size_data]; exact h
    rw [getElem?_neg s k h, List.getElem?_eq_none (by omega)]
section
variable {o : Oper} {a : Act} {W : World}
theorem run_ix {x i : Operand} (ho : o.op = .index 9 x i) {s : ByteArray} (hx : a.eval x = .string s) {k : Nat} (hi : a.eval i = .int .i64 k) {b : UInt8} (hb : s.data.toList[k]? = some b) {c : Int} (hc : (b.toNat : Int) = c) : (execOp a.eval o).run Tryz.prog W = .ok (.value (.int .u8 c)) W := by
  unfold execOp
  have h0 : (0 : Int) ≤ (k : Int) := by omega
  simp only [ho, hx, hi, Instr.index, asIntOf, Sem.run_bind, Sem.run_pure, Result.andThen_ok, run_underlying Tryz.underlying9, if_pos h0, Int.toNat_natCast, at_data, hb, hc]
end
theorem ext_run (s : ByteArray) (n : Nat) (hn : n ≤ s.size) (W : World) : (Instr.sliceAt 9 (.string s) none (some (.int .i64 n)) none).run Tryz.prog W = .ok (.string (s.extract 0 n)) W := by
  rw [run_sliceAt_string W 9 _ _ _ _ Tryz.underlying9, run_slice_string_h (P := Tryz.prog) (w := W) 9 s Tryz.underlying9 .i64 n (by omega) (by omega)]
  rfl
section
variable {o : Oper} {a : Act} {W : World}
theorem run_slh {t : TypeId} {x : Operand} {hi : Operand} {X : Value} {v : Value} {L : Value} (ho : o.op = .slice t x none (some hi) none) (hx : (a.eval x, a.eval hi) = (X, L)) (h : (Instr.sliceAt t X none (some L) none).run Tryz.prog W = .ok v W) : (execOp a.eval o).run Tryz.prog W = .ok (.value v) W := by
  obtain ⟨h1, h2⟩ := Prod.mk.inj hx
  unfold execOp
  simp only [ho, h1, h2, Option.map_none, Option.map_some, Sem.run_bind, Sem.run_pure, Result.andThen_ok, h]
end
section
variable {s : ByteArray} {b : UInt8} {w : World}
set_option maxHeartbeats 4000000 in
set_option maxRecDepth 100000 in
theorem one_note {k : Nat} {n : Int} (h0 : s.data.toList[0]? = some 37) (h : scan_note.f k s = some n) : Calls Tryz.prog 98 #[.string s] w fun e w' => e = .returned (.tuple #[.int .i64 n, .int .i64 11]) ∧ Below w.heap.size w w' := by
  have hu9 := Tryz.underlying9
  have hu5 := Tryz.underlying5
  have B := Aside0.mk (Below.refl w.heap.size w)
  go_enter Tryz.func98, Tryz.ntmps98
  go_wp2_with (first | ((with_reducible refine gate_dst (N := 8) rfl ?_); refine val_event rfl (.int .u8 37) (run_ix (k := 0) rfl rfl rfl h0 rfl) ?_) | ((with_reducible refine gate_dst (N := 13) rfl ?_); refine goesL_ (some 13) rfl rfl Tryz.func120 (by kernel_rfl) rfl #[.string s] rfl (by (try simp only [List.map_toArray, List.map_cons, List.map_nil]); first | done | rfl) ?_; (refine (scan_note.calls k s n _ h).mono ?_); (rintro e w113 ⟨rfl, hd⟩; refine ⟨_, rfl, ?_⟩; have n0 := Aside0.mk (B.out.trans (hd.below.mono B.out.size)); clear B; have B := n0; clear hd)))
  go_ret2
  exact ⟨rfl, B.out⟩
set_option maxHeartbeats 4000000 in
set_option maxRecDepth 100000 in
theorem one_dot (h0 : s.data.toList[0]? = some 46) (h1 : s.data.toList[1]? = some 10) : Calls Tryz.prog 98 #[.string s] w fun e w' => e = .returned (.tuple #[.int .i64 1, .int .i64 10]) ∧ Below w.heap.size w w' := by
  have hu9 := Tryz.underlying9
  have hu5 := Tryz.underlying5
  have B := Aside0.mk (Below.refl w.heap.size w)
  have hsz : ((s.size : Int) == 1) = false := beq_eq_false_iff_ne.2 (by have := (List.getElem?_eq_some_iff.1 h1).1; rw [← size_data] at this; omega)
  go_enter Tryz.func98, Tryz.ntmps98
  go_wp2_with (first | ((with_reducible refine gate_dst (N := 8) rfl ?_); refine val_event rfl (.int .u8 46) (run_ix (k := 0) rfl rfl rfl h0 rfl) ?_) | ((with_reducible refine gate_dst (N := 23) rfl ?_); (refine gate_guard (by rfl) ?_; dsimp only); refine val_event rfl (.int .u8 10) (run_ix (k := 1) rfl rfl rfl h1 rfl) ?_) | ((with_reducible refine gate_dst (N := 24) rfl ?_); (refine gate_guard (by rfl) ?_; dsimp only); refine goesL_ (some 24) rfl rfl Tryz.func97 (by kernel_rfl) rfl #[.int .u8 10] rfl (by (try simp only [List.map_toArray, List.map_cons, List.map_nil]); first | done | rfl) ?_; (refine (scan_blank.calls 10 true _ (by rfl)).mono ?_); (rintro e w124 ⟨rfl, hd⟩; refine ⟨_, rfl, ?_⟩; have n0 := Aside0.mk (B.out.trans (hd.below.mono B.out.size)); clear B; have B := n0; clear hd)))
  go_ret2
  exact ⟨rfl, B.out⟩
set_option maxHeartbeats 4000000 in
set_option maxRecDepth 100000 in
theorem one_word_a {k k2 n : Nat} (h0 : s.data.toList[0]? = some b) (hc6 : (b.toNat == 37 || b.toNat == 46 || b.toNat == 39 || b.toNat == 34 || b.toNat == 36 || b.toNat == 63) = false) (hb : word_Begins.f k b.toNat = some 1) (hn : scan_inner.f k2 s = some (n : Int)) (hn0 : n ≤ s.size) (hr : word_Reserved.f (s.extract 0 n) = some false) : Calls Tryz.prog 98 #[.string s] w fun e w' => e = .returned (.tuple #[.int .i64 (n : Nat), .int .i64 1]) ∧ Below w.heap.size w w' := by
  have hu9 := Tryz.underlying9
  have hu5 := Tryz.underlying5
  have B := Aside0.mk (Below.refl w.heap.size w)
  obtain ⟨c, hc⟩ : ∃ c : Int, (b.toNat : Int) = c := ⟨_, rfl⟩
  rw [hc] at hb
  have h6 : ∀ q : Nat, (q == 37 || q == 46 || q == 39 || q == 34 || q == 36 || q == 63) = true → ¬ b.toNat = q := by intro q hq he; rw [he] at hc6; rw [hq] at hc6; cases hc6
  have c37 : (c == 37) = false := beq_eq_false_iff_ne.2 (by have := h6 37 rfl; omega)
  have c46 : (c == 46) = false := beq_eq_false_iff_ne.2 (by have := h6 46 rfl; omega)
  have c39 : (c == 39) = false := beq_eq_false_iff_ne.2 (by have := h6 39 rfl; omega)
  have c34 : (c == 34) = false := beq_eq_false_iff_ne.2 (by have := h6 34 rfl; omega)
  have c36 : (c == 36) = false := beq_eq_false_iff_ne.2 (by have := h6 36 rfl; omega)
  have c63 : (c == 63) = false := beq_eq_false_iff_ne.2 (by have := h6 63 rfl; omega)
  clear h6 hc6
  go_enter Tryz.func98, Tryz.ntmps98
  go_wp2_with (first | ((with_reducible refine gate_dst (N := 8) rfl ?_); refine val_event rfl (.int .u8 c) (run_ix (k := 0) rfl rfl rfl h0 hc) ?_) | ((with_reducible refine gate_dst (N := 53) rfl ?_); refine goesL_ (some 53) rfl rfl Tryz.func124 (by kernel_rfl) rfl #[.int .u8 c] rfl (by (try simp only [List.map_toArray, List.map_cons, List.map_nil]); first | done | rfl) ?_; (refine (word_Begins.calls k c 1 _ hb).mono ?_); (rintro e w153 ⟨rfl, hd⟩; refine ⟨_, rfl, ?_⟩; have n0 := Aside0.mk (B.out.trans (hd.below.mono B.out.size)); clear B; have B := n0; clear hd)) | ((with_reducible refine gate_dst (N := 65) rfl ?_); refine goesL_ (some 65) rfl rfl Tryz.func126 (by kernel_rfl) rfl #[.string s] rfl (by (try simp only [List.map_toArray, List.map_cons, List.map_nil]); first | done | rfl) ?_; (refine (scan_inner.calls k2 s n _ hn).mono ?_); (rintro e w165 ⟨rfl, hd⟩; refine ⟨_, rfl, ?_⟩; have n0 := Aside0.mk (B.out.trans (hd.below.mono B.out.size)); clear B; have B := n0; clear hd)) | ((with_reducible refine gate_dst (N := 69) rfl ?_); refine goesL_ (some 69) rfl rfl Tryz.func127 (by kernel_rfl) rfl #[.string (s.extract 0 n)] rfl (by (try simp only [List.map_toArray, List.map_cons, List.map_nil]); first | done | rfl) ?_; (refine (word_Reserved.calls _ false _ hr).mono ?_); (rintro e w169 ⟨rfl, hd⟩; refine ⟨_, rfl, ?_⟩; have n0 := Aside0.mk (B.out.trans (hd.below.mono B.out.size)); clear B; have B := n0; clear hd)) | ((with_reducible refine gate_dst (N := 68) rfl ?_); refine val_event rfl (.string (s.extract 0 n)) (run_slh (X := .string s) (L := .int .i64 (n : Nat)) rfl rfl (ext_run s n hn0 _)) ?_))
  go_ret2
  exact ⟨rfl, B.out⟩
set_option maxHeartbeats 4000000 in
set_option maxRecDepth 100000 in
theorem one_word_v {k k2 n : Nat} (h0 : s.data.toList[0]? = some b) (hc6 : (b.toNat == 37 || b.toNat == 46 || b.toNat == 39 || b.toNat == 34 || b.toNat == 36 || b.toNat == 63) = false) (hb : word_Begins.f k b.toNat = some 2) (hn : scan_inner.f k2 s = some (n : Int)) (hn0 : n ≤ s.size) (hr : word_Reserved.f (s.extract 0 n) = some false) : Calls Tryz.prog 98 #[.string s] w fun e w' => e = .returned (.tuple #[.int .i64 (n : Nat), .int .i64 2]) ∧ Below w.heap.size w w' := by
  have hu9 := Tryz.underlying9
  have hu5 := Tryz.underlying5
  have B := Aside0.mk (Below.refl w.heap.size w)
  obtain ⟨c, hc⟩ : ∃ c : Int, (b.toNat : Int) = c := ⟨_, rfl⟩
  rw [hc] at hb
  have h6 : ∀ q : Nat, (q == 37 || q == 46 || q == 39 || q == 34 || q == 36 || q == 63) = true → ¬ b.toNat = q := by intro q hq he; rw [he] at hc6; rw [hq] at hc6; cases hc6
  have c37 : (c == 37) = false := beq_eq_false_iff_ne.2 (by have := h6 37 rfl; omega)
  have c46 : (c == 46) = false := beq_eq_false_iff_ne.2 (by have := h6 46 rfl; omega)
  have c39 : (c == 39) = false := beq_eq_false_iff_ne.2 (by have := h6 39 rfl; omega)
  have c34 : (c == 34) = false := beq_eq_false_iff_ne.2 (by have := h6 34 rfl; omega)
  have c36 : (c == 36) = false := beq_eq_false_iff_ne.2 (by have := h6 36 rfl; omega)
  have c63 : (c == 63) = false := beq_eq_false_iff_ne.2 (by have := h6 63 rfl; omega)
  clear h6 hc6
  go_enter Tryz.func98, Tryz.ntmps98
  go_wp2_with (first | ((with_reducible refine gate_dst (N := 8) rfl ?_); refine val_event rfl (.int .u8 c) (run_ix (k := 0) rfl rfl rfl h0 hc) ?_) | ((with_reducible refine gate_dst (N := 53) rfl ?_); refine goesL_ (some 53) rfl rfl Tryz.func124 (by kernel_rfl) rfl #[.int .u8 c] rfl (by (try simp only [List.map_toArray, List.map_cons, List.map_nil]); first | done | rfl) ?_; (refine (word_Begins.calls k c 2 _ hb).mono ?_); (rintro e w153 ⟨rfl, hd⟩; refine ⟨_, rfl, ?_⟩; have n0 := Aside0.mk (B.out.trans (hd.below.mono B.out.size)); clear B; have B := n0; clear hd)) | ((with_reducible refine gate_dst (N := 65) rfl ?_); refine goesL_ (some 65) rfl rfl Tryz.func126 (by kernel_rfl) rfl #[.string s] rfl (by (try simp only [List.map_toArray, List.map_cons, List.map_nil]); first | done | rfl) ?_; (refine (scan_inner.calls k2 s n _ hn).mono ?_); (rintro e w165 ⟨rfl, hd⟩; refine ⟨_, rfl, ?_⟩; have n0 := Aside0.mk (B.out.trans (hd.below.mono B.out.size)); clear B; have B := n0; clear hd)) | ((with_reducible refine gate_dst (N := 69) rfl ?_); refine goesL_ (some 69) rfl rfl Tryz.func127 (by kernel_rfl) rfl #[.string (s.extract 0 n)] rfl (by (try simp only [List.map_toArray, List.map_cons, List.map_nil]); first | done | rfl) ?_; (refine (word_Reserved.calls _ false _ hr).mono ?_); (rintro e w169 ⟨rfl, hd⟩; refine ⟨_, rfl, ?_⟩; have n0 := Aside0.mk (B.out.trans (hd.below.mono B.out.size)); clear B; have B := n0; clear hd)) | ((with_reducible refine gate_dst (N := 68) rfl ?_); refine val_event rfl (.string (s.extract 0 n)) (run_slh (X := .string s) (L := .int .i64 (n : Nat)) rfl rfl (ext_run s n hn0 _)) ?_))
  go_ret2
  exact ⟨rfl, B.out⟩
set_option maxHeartbeats 4000000 in
set_option maxRecDepth 100000 in
theorem one_word_r {k k2 n : Nat} (h0 : s.data.toList[0]? = some b) (hc6 : (b.toNat == 37 || b.toNat == 46 || b.toNat == 39 || b.toNat == 34 || b.toNat == 36 || b.toNat == 63) = false) (hb : word_Begins.f k b.toNat = some 1) (hn : scan_inner.f k2 s = some (n : Int)) (hn0 : n ≤ s.size) (hr : word_Reserved.f (s.extract 0 n) = some true) : Calls Tryz.prog 98 #[.string s] w fun e w' => e = .returned (.tuple #[.int .i64 (n : Nat), .int .i64 8]) ∧ Below w.heap.size w w' := by
  have hu9 := Tryz.underlying9
  have hu5 := Tryz.underlying5
  have B := Aside0.mk (Below.refl w.heap.size w)
  obtain ⟨c, hc⟩ : ∃ c : Int, (b.toNat : Int) = c := ⟨_, rfl⟩
  rw [hc] at hb
  have h6 : ∀ q : Nat, (q == 37 || q == 46 || q == 39 || q == 34 || q == 36 || q == 63) = true → ¬ b.toNat = q := by intro q hq he; rw [he] at hc6; rw [hq] at hc6; cases hc6
  have c37 : (c == 37) = false := beq_eq_false_iff_ne.2 (by have := h6 37 rfl; omega)
  have c46 : (c == 46) = false := beq_eq_false_iff_ne.2 (by have := h6 46 rfl; omega)
  have c39 : (c == 39) = false := beq_eq_false_iff_ne.2 (by have := h6 39 rfl; omega)
  have c34 : (c == 34) = false := beq_eq_false_iff_ne.2 (by have := h6 34 rfl; omega)
  have c36 : (c == 36) = false := beq_eq_false_iff_ne.2 (by have := h6 36 rfl; omega)
  have c63 : (c == 63) = false := beq_eq_false_iff_ne.2 (by have := h6 63 rfl; omega)
  clear h6 hc6
  go_enter Tryz.func98, Tryz.ntmps98
  go_wp2_with (first | ((with_reducible refine gate_dst (N := 8) rfl ?_); refine val_event rfl (.int .u8 c) (run_ix (k := 0) rfl rfl rfl h0 hc) ?_) | ((with_reducible refine gate_dst (N := 53) rfl ?_); refine goesL_ (some 53) rfl rfl Tryz.func124 (by kernel_rfl) rfl #[.int .u8 c] rfl (by (try simp only [List.map_toArray, List.map_cons, List.map_nil]); first | done | rfl) ?_; (refine (word_Begins.calls k c 1 _ hb).mono ?_); (rintro e w153 ⟨rfl, hd⟩; refine ⟨_, rfl, ?_⟩; have n0 := Aside0.mk (B.out.trans (hd.below.mono B.out.size)); clear B; have B := n0; clear hd)) | ((with_reducible refine gate_dst (N := 65) rfl ?_); refine goesL_ (some 65) rfl rfl Tryz.func126 (by kernel_rfl) rfl #[.string s] rfl (by (try simp only [List.map_toArray, List.map_cons, List.map_nil]); first | done | rfl) ?_; (refine (scan_inner.calls k2 s n _ hn).mono ?_); (rintro e w165 ⟨rfl, hd⟩; refine ⟨_, rfl, ?_⟩; have n0 := Aside0.mk (B.out.trans (hd.below.mono B.out.size)); clear B; have B := n0; clear hd)) | ((with_reducible refine gate_dst (N := 69) rfl ?_); refine goesL_ (some 69) rfl rfl Tryz.func127 (by kernel_rfl) rfl #[.string (s.extract 0 n)] rfl (by (try simp only [List.map_toArray, List.map_cons, List.map_nil]); first | done | rfl) ?_; (refine (word_Reserved.calls _ true _ hr).mono ?_); (rintro e w169 ⟨rfl, hd⟩; refine ⟨_, rfl, ?_⟩; have n0 := Aside0.mk (B.out.trans (hd.below.mono B.out.size)); clear B; have B := n0; clear hd)) | ((with_reducible refine gate_dst (N := 68) rfl ?_); refine val_event rfl (.string (s.extract 0 n)) (run_slh (X := .string s) (L := .int .i64 (n : Nat)) rfl rfl (ext_run s n hn0 _)) ?_))
  go_ret2
  exact ⟨rfl, B.out⟩
set_option maxHeartbeats 4000000 in
set_option maxRecDepth 100000 in
theorem one_sign {k : Nat} {n : Int} (h0 : s.data.toList[0]? = some b) (hc6 : (b.toNat == 37 || b.toNat == 46 || b.toNat == 39 || b.toNat == 34 || b.toNat == 36 || b.toNat == 63) = false) (hb : word_Begins.f k b.toNat = some 0) (hl : ∀ w, Calls Tryz.prog 128 #[.string s, .int .i64 0] w fun e w' => e = .returned (.int .i64 n) ∧ Below w.heap.size w w') : Calls Tryz.prog 98 #[.string s] w fun e w' => e = .returned (.tuple #[.int .i64 n, .int .i64 9]) ∧ Below w.heap.size w w' := by
  have hu9 := Tryz.underlying9
  have hu5 := Tryz.underlying5
  have B := Aside0.mk (Below.refl w.heap.size w)
  obtain ⟨c, hc⟩ : ∃ c : Int, (b.toNat : Int) = c := ⟨_, rfl⟩
  rw [hc] at hb
  have h6 : ∀ q : Nat, (q == 37 || q == 46 || q == 39 || q == 34 || q == 36 || q == 63) = true → ¬ b.toNat = q := by intro q hq he; rw [he] at hc6; rw [hq] at hc6; cases hc6
  have c37 : (c == 37) = false := beq_eq_false_iff_ne.2 (by have := h6 37 rfl; omega)
  have c46 : (c == 46) = false := beq_eq_false_iff_ne.2 (by have := h6 46 rfl; omega)
  have c39 : (c == 39) = false := beq_eq_false_iff_ne.2 (by have := h6 39 rfl; omega)
  have c34 : (c == 34) = false := beq_eq_false_iff_ne.2 (by have := h6 34 rfl; omega)
  have c36 : (c == 36) = false := beq_eq_false_iff_ne.2 (by have := h6 36 rfl; omega)
  have c63 : (c == 63) = false := beq_eq_false_iff_ne.2 (by have := h6 63 rfl; omega)
  clear h6 hc6
  have HL := Aside0.mk hl
  clear hl
  go_enter Tryz.func98, Tryz.ntmps98
  go_wp2_with (first | ((with_reducible refine gate_dst (N := 8) rfl ?_); refine val_event rfl (.int .u8 c) (run_ix (k := 0) rfl rfl rfl h0 hc) ?_) | ((with_reducible refine gate_dst (N := 53) rfl ?_); refine goesL_ (some 53) rfl rfl Tryz.func124 (by kernel_rfl) rfl #[.int .u8 c] rfl (by (try simp only [List.map_toArray, List.map_cons, List.map_nil]); first | done | rfl) ?_; (refine (word_Begins.calls k c 0 _ hb).mono ?_); (rintro e w153 ⟨rfl, hd⟩; refine ⟨_, rfl, ?_⟩; have n0 := Aside0.mk (B.out.trans (hd.below.mono B.out.size)); clear B; have B := n0; clear hd)) | ((with_reducible refine gate_dst (N := 73) rfl ?_); refine goesL_ (some 73) rfl rfl Tryz.func128 (by kernel_rfl) rfl #[.string s, .int .i64 0] rfl (by (try simp only [List.map_toArray, List.map_cons, List.map_nil]); first | done | rfl) ?_; (refine (HL.out _).mono ?_); (rintro e w173 ⟨rfl, hb1⟩; refine ⟨_, rfl, ?_⟩; have n0 := Aside0.mk (B.out.trans (hb1.mono B.out.size)); clear B; have B := n0; clear hb1)))
  go_ret2
  exact ⟨rfl, B.out⟩
end
end Go.Proofs.YthipodffpkglfaaGreatDoor.PS
namespace Go.Proofs.YthipodffpkglfaaGreatDoor.PS
open Go.RowKit Go.Proofs.YthipodffpkglfaaGreatDoorW.PrintWords Go.Proofs.YthipodffpkglfaaGreatDoorW.PrintLast Go.Proofs.YthipodffpkglfaaGreatDoorW.PrintMore
set_option linter.unusedVariables false
set_option linter.unusedSimpArgs false
set_option maxHeartbeats 4000000 in
set_option maxRecDepth 100000 in
theorem least1_calls (w : World) : Calls Tryz.prog 75 #[.int .i64 1] w fun e w' => e = .returned (.int .i64 0) ∧ Below w.heap.size w w' := by
  have hu125 := Tryz.underlying125
  have hu3 := Tryz.underlying3
  have B := Aside0.mk (Below.refl w.heap.size w)
  go_enter Tryz.func75, Tryz.ntmps75
  go_wp2_with (first | ((with_reducible refine gate_dst (N := 5) rfl ?_); refine val_event rfl (.int .i64 0) ?hr ?_; (case hr => first | rfl | (go_simp; done) | (go_simp; rfl))))
  go_ret
  exact ⟨rfl, B.out⟩
set_option maxHeartbeats 4000000 in
set_option maxRecDepth 100000 in
theorem is_asc_calls {c : Int} (h0 : 0 ≤ c) (h1 : c < 128) (w : World) : Calls Tryz.prog 76 #[.int .i64 c] w fun e w' => e = .returned (.bool true) ∧ Below w.heap.size w w' := by
  have hu3 := Tryz.underlying3
  have B := Aside0.mk (Below.refl w.heap.size w)
  have c1 : decide (c ≥ 0) = true := decide_eq_true h0
  have c2 : decide (c ≤ 1114111) = true := decide_eq_true (by omega)
  have c3 : c / 2048 = 0 := by omega
  go_enter Tryz.func76, Tryz.ntmps76
  go_wp2_with fail
  go_ret
  exact ⟨rfl, B.out⟩
set_option maxHeartbeats 4000000 in
set_option maxRecDepth 100000 in
theorem next_asc {s : ByteArray} {k : Nat} {b : UInt8} (hs : s.size ≤ 65536) (hk : s.data.toList[k]? = some b) (ha : b.toNat < 128) (w : World) : Calls Tryz.prog 46 #[.string s, .int .i64 k] w fun e w' => e = .returned (.tuple #[.int .i64 b.toNat, .int .i64 1]) ∧ Below w.heap.size w w' := by
  have hu9 := Tryz.underlying9
  have hu3 := Tryz.underlying3
  have B := Aside0.mk (Below.refl w.heap.size w)
  have hlt : k < s.size := by rw [size_data]; exact (List.getElem?_eq_some_iff.1 hk).1
  obtain ⟨c, hc⟩ : ∃ c : Int, (b.toNat : Int) = c := ⟨_, rfl⟩
  rw [hc]
  have h0 : 0 ≤ c := by omega
  have h1 : c < 128 := by omega
  have hl : utf_lead.f c = some (1, c) := by unfold utf_lead.f; rw [if_pos h1]; congr 2; unfold wrap64; omega
  have c1 : decide ((k : Int) < 0) = false := decide_eq_false (by omega)
  have c2 : decide ((k : Int) ≥ (s.size : Int)) = false := decide_eq_false (by omega)
  have c3 : decide (s.size ≤ k) = false := decide_eq_false (by omega)
  have c4 : decide (wrap64 ((s.size : Int) - (k : Int)) < 1) = false := decide_eq_false (by unfold wrap64; omega)
  have c5 : decide (c < 0) = false := decide_eq_false (by omega)
  have HC := Aside0.mk hc
  have HL := Aside0.mk hlt
  have HH := Aside0.mk (show 0 ≤ c ∧ c < 128 from ⟨h0, h1⟩)
  clear h0 h1 hlt hs
  go_enter Tryz.func46, Tryz.ntmps46
  go_wp2_with (first | ((with_reducible refine gate_dst (N := 21) rfl ?_); refine val_event rfl (.int .u8 c) (run_ix (k := k) rfl rfl rfl hk hc) ?_) | ((with_reducible refine gate_dst (N := 22) rfl ?_); refine goesL_ (some 22) rfl rfl Tryz.func74 (by kernel_rfl) rfl #[.int .u8 c] rfl (by (try simp only [List.map_toArray, List.map_cons, List.map_nil]); first | done | rfl) ?_; (refine (utf_lead.calls c 1 c _ hl).mono ?_); (rintro e w122 ⟨rfl, hd⟩; refine ⟨_, rfl, ?_⟩; have n0 := Aside0.mk (B.out.trans (hd.below.mono B.out.size)); clear B; have B := n0; clear hd)))
  go_loopg [7, 8, 9] 1 (fun k' v7 v8 v9 wr => v7 = .int .i64 c ∧ v8 = .int .i64 1 ∧ Aside0 (Below w.heap.size w wr))
  case atStart => exact ⟨rfl, rfl, B⟩
  case round =>
    clear B
    obtain ⟨rfl, rfl, B⟩ := hrel
    go_wp2_with (first | ((with_reducible refine gate_dst (N := 56) rfl ?_); refine goesL_ (some 56) rfl rfl Tryz.func75 (by kernel_rfl) rfl #[.int .i64 1] rfl (by (try simp only [List.map_toArray, List.map_cons, List.map_nil]); first | done | rfl) ?_; (refine (least1_calls _).mono ?_); (rintro e w156 ⟨rfl, hb1⟩; refine ⟨_, rfl, ?_⟩; have n0 := Aside0.mk (B.out.trans (hb1.mono B.out.size)); clear B; have B := n0; clear hb1)) | ((with_reducible refine gate_dst (N := 60) rfl ?_); (refine gate_guard (by rfl) ?_; dsimp only); refine goesL_ (some 60) rfl rfl Tryz.func76 (by kernel_rfl) rfl #[.int .i64 c] rfl (by (try simp only [List.map_toArray, List.map_cons, List.map_nil]); first | done | rfl) ?_; (refine (is_asc_calls HH.out.1 HH.out.2 _).mono ?_); (rintro e w160 ⟨rfl, hb1⟩; refine ⟨_, rfl, ?_⟩; have n0 := Aside0.mk (B.out.trans (hb1.mono B.out.size)); clear B; have B := n0; clear hb1)))
    go_ret2
    exact ⟨rfl, B.out⟩
/-- Bytes below 128. -/
def Asc (s : ByteArray) : Prop := ∀ (k : Nat) (b : UInt8), s.data.toList[k]? = some b → b.toNat < 128
set_option maxHeartbeats 4000000 in
set_option maxRecDepth 100000 in
theorem valid_asc {s : ByteArray} (hs : s.size ≤ 65536) (ha : Asc s) (w : World) : Calls Tryz.prog 63 #[.string s] w fun e w' => e = .returned (.bool true) ∧ Below w.heap.size w w' := by
  have hu9 := Tryz.underlying9
  have hu3 := Tryz.underlying3
  have B := Aside0.mk (Below.refl w.heap.size w)
  have HS := Aside0.mk hs
  have HA := Aside0.mk ha
  clear hs ha
  go_enter Tryz.func63, Tryz.ntmps63
  go_wp2_with fail
  go_loopg [3, 4, 5] s.size (fun k' v3 v4 v5 wr => ∃ j : Nat, v3 = .int .i64 (j : Nat) ∧ Aside0 (j ≤ s.size ∧ k' + j = s.size) ∧ Aside0 (Below w.heap.size w wr))
  case atStart => exact ⟨0, rfl, ⟨by omega⟩, B⟩
  case round =>
    clear B
    obtain ⟨j, rfl, HJ, B⟩ := hrel
    have hj := HJ.out
    by_cases hl : j < s.size
    · have hlt : j < s.data.toList.length := by rw [← size_data]; exact hl
      have hk : s.data.toList[j]? = some (s.data.toList[j]'hlt) := List.getElem?_eq_getElem hlt
      obtain ⟨b, hb⟩ : ∃ b, s.data.toList[j]'hlt = b := ⟨_, rfl⟩
      rw [hb] at hk
      have hq := HA.out j b hk
      obtain ⟨c, hc⟩ : ∃ c : Int, (b.toNat : Int) = c := ⟨_, rfl⟩
      have HN := fun w => next_asc HS.out hk hq w
      rw [hc] at HN
      have HN' := Aside0.mk HN
      have c1 : decide (j < s.size) = true := decide_eq_true hl
      have c2 : decide (c < 0) = false := decide_eq_false (by omega)
      obtain ⟨q1, hq1⟩ : ∃ q1, j + 1 = q1 := ⟨_, rfl⟩
      have e1 : wrap64 ((j : Int) + 1) = (q1 : Int) := by have := HS.out; unfold wrap64; omega
      have Q := Aside0.mk (show j + 1 = q1 ∧ j < s.size from ⟨hq1, hl⟩)
      clear HN hk hb hlt hq hc hj hl hq1
      go_wp2_with (first | ((with_reducible refine gate_dst (N := 13) rfl ?_); refine goesL_ (some 13) rfl rfl Tryz.func46 (by kernel_rfl) rfl #[.string s, .int .i64 (j : Nat)] rfl (by (try simp only [List.map_toArray, List.map_cons, List.map_nil]); first | done | rfl) ?_; (refine (HN'.out _).mono ?_); (rintro e w113 ⟨rfl, hb1⟩; refine ⟨_, rfl, ?_⟩; have n0 := Aside0.mk (B.out.trans (hb1.mono B.out.size)); clear B; have B := n0; clear hb1)) | ((with_reducible refine gate_dst (N := 20) rfl ?_); refine val_event rfl (.int .i64 (q1 : Nat)) ?hr ?_; (case hr => first | (go_simp; done) | (go_simp; rw [i64_w]; assumption) | (go_simp; rfl))))
      go_roundg (gk - 1)
      case measure => have := HJ.out; have := Q.out; omega
      case rel => exact ⟨q1, rfl, ⟨by have := HJ.out; have := Q.out; omega⟩, B⟩
    · have c1 : decide (j < s.size) = false := decide_eq_false hl
      have hj2 : j = s.size := by omega
      clear hj hl
      go_wp2_with fail
      go_ret
      exact ⟨rfl, B.out⟩
set_option maxHeartbeats 4000000 in
set_option maxRecDepth 100000 in
theorem count_asc {s : ByteArray} (hs : s.size ≤ 65536) (ha : Asc s) (w : World) : Calls Tryz.prog 33 #[.string s] w fun e w' => e = .returned (.int .i64 (s.size : Nat)) ∧ Below w.heap.size w w' := by
  have hu9 := Tryz.underlying9
  have hu3 := Tryz.underlying3
  have B := Aside0.mk (Below.refl w.heap.size w)
  have HS := Aside0.mk hs
  have HA := Aside0.mk ha
  clear hs ha
  go_enter Tryz.func33, Tryz.ntmps33
  go_wp2_with fail
  go_loopg [3, 4, 5, 6] s.size (fun k' v3 v4 v5 v6 wr => ∃ j : Nat, v3 = .int .i64 (j : Nat) ∧ v4 = .int .i64 (j : Nat) ∧ Aside0 (j ≤ s.size ∧ k' + j = s.size) ∧ Aside0 (Below w.heap.size w wr))
  case atStart => exact ⟨0, rfl, rfl, ⟨by omega⟩, B⟩
  case round =>
    clear B
    obtain ⟨j, rfl, rfl, HJ, B⟩ := hrel
    have hj := HJ.out
    by_cases hl : j < s.size
    · have hlt : j < s.data.toList.length := by rw [← size_data]; exact hl
      have hk : s.data.toList[j]? = some (s.data.toList[j]'hlt) := List.getElem?_eq_getElem hlt
      obtain ⟨b, hb⟩ : ∃ b, s.data.toList[j]'hlt = b := ⟨_, rfl⟩
      rw [hb] at hk
      have hq := HA.out j b hk
      obtain ⟨c, hc⟩ : ∃ c : Int, (b.toNat : Int) = c := ⟨_, rfl⟩
      have HN := fun w => next_asc HS.out hk hq w
      rw [hc] at HN
      have HN' := Aside0.mk HN
      have c1 : decide (j < s.size) = true := decide_eq_true hl
      have c2 : decide (c < 0) = false := decide_eq_false (by omega)
      obtain ⟨q1, hq1⟩ : ∃ q1, j + 1 = q1 := ⟨_, rfl⟩
      have e1 : wrap64 ((j : Int) + 1) = (q1 : Int) := by have := HS.out; unfold wrap64; omega
      have Q := Aside0.mk (show j + 1 = q1 ∧ j < s.size from ⟨hq1, hl⟩)
      clear HN hk hb hlt hq hc hj hl hq1
      go_wp2_with (first | ((with_reducible refine gate_dst (N := 16) rfl ?_); refine goesL_ (some 16) rfl rfl Tryz.func46 (by kernel_rfl) rfl #[.string s, .int .i64 (j : Nat)] rfl (by (try simp only [List.map_toArray, List.map_cons, List.map_nil]); first | done | rfl) ?_; (refine (HN'.out _).mono ?_); (rintro e w116 ⟨rfl, hb1⟩; refine ⟨_, rfl, ?_⟩; have n0 := Aside0.mk (B.out.trans (hb1.mono B.out.size)); clear B; have B := n0; clear hb1)) | ((with_reducible refine gate_dst (N := 21) rfl ?_); refine val_event rfl (.int .i64 (q1 : Nat)) ?hr ?_; (case hr => first | (go_simp; done) | (go_simp; rw [i64_w]; assumption) | (go_simp; rfl))) | ((with_reducible refine gate_dst (N := 12) rfl ?_); refine val_event rfl (.int .i64 (q1 : Nat)) ?hr ?_; (case hr => first | (go_simp; done) | (go_simp; rw [i64_w]; assumption) | (go_simp; rfl))))
      go_roundg (gk - 1)
      case measure => have := HJ.out; have := Q.out; omega
      case rel => exact ⟨q1, rfl, rfl, ⟨by have := HJ.out; have := Q.out; omega⟩, B⟩
    · have c1 : decide (j < s.size) = false := decide_eq_false hl
      have hj2 : j = s.size := by omega
      clear hj hl
      go_wp2_with fail
      go_ret
      exact ⟨by rw [hj2]; rfl, B.out⟩
end Go.Proofs.YthipodffpkglfaaGreatDoor.PS
namespace Go.Proofs.YthipodffpkglfaaGreatDoor.PS
open Go.RowKit Go.Proofs.YthipodffpkglfaaGreatDoorW.PrintWords Go.Proofs.YthipodffpkglfaaGreatDoorW.PrintLast Go.Proofs.YthipodffpkglfaaGreatDoorW.PrintMore
set_option linter.unusedVariables false
set_option linter.unusedSimpArgs false
theorem slice_l (s : ByteArray) (k : Nat) (hk : k ≤ s.size) (W : World) : (Instr.sliceAt 9 (.string s) (some (.int .i64 k)) none none).run Tryz.prog W = .ok (.string (s.extract k s.size)) W := by
  rw [run_sliceAt_string W 9 _ _ _ _ Tryz.underlying9, run_slice_string_l (P := Tryz.prog) (w := W) 9 s Tryz.underlying9 .i64 k (by omega) (by omega)]
  rfl
set_option maxRecDepth 100000 in
theorem slice_lh (s : ByteArray) (a z : Nat) (h1 : a ≤ z) (h2 : z ≤ s.size) (W : World) : (Instr.sliceAt 9 (.string s) (some (.int .i64 a)) (some (.int .i64 z)) none).run Tryz.prog W = .ok (.string (s.extract a z)) W := by
  have hu9 := Tryz.underlying9
  rw [run_sliceAt_string W 9 _ _ _ _ hu9, run_slice_string (P := Tryz.prog) (w := W) 9 s .i64 .i64 (a : Int) (z : Int) hu9 (by omega) (by omega) (by omega)]
  rfl
section
variable {o : Oper} {a : Act} {W : World}
theorem run_sllh {t : TypeId} {x lo hi : Operand} {X L H v : Value} (ho : o.op = .slice t x (some lo) (some hi) none) (hx : (a.eval x, a.eval lo, a.eval hi) = (X, L, H)) (h : (Instr.sliceAt t X (some L) (some H) none).run Tryz.prog W = .ok v W) : (execOp a.eval o).run Tryz.prog W = .ok (.value v) W := by
  obtain ⟨h1, h23⟩ := Prod.mk.inj hx
  obtain ⟨h2, h3⟩ := Prod.mk.inj h23
  unfold execOp
  simp only [ho, h1, h2, h3, Option.map_none, Option.map_some, Sem.run_bind, Sem.run_pure, Result.andThen_ok, h]
end
set_option maxHeartbeats 4000000 in
set_option maxRecDepth 100000 in
theorem scanOne_calls {s : ByteArray} {k n : Nat} {kd : Int} (hs : s.size ≤ 65536) (hn : 1 ≤ n) (hk : k + n ≤ s.size) (ho : ∀ w, Calls Tryz.prog 98 #[.string (s.extract k s.size)] w fun e w' => e = .returned (.tuple #[.int .i64 (n : Nat), .int .i64 kd]) ∧ Below w.heap.size w w') (w : World) : Calls Tryz.prog 65 #[.string s, .int .i64 (k : Nat)] w fun e w' => e = .returned (.tuple #[.agg (tkc ⟨kd, s.extract k (k + n), k⟩), .int .i64 0]) ∧ Below w.heap.size w w' := by
  have hu86 := Tryz.underlying86
  have hu9 := Tryz.underlying9
  have hu3 := Tryz.underlying3
  have F := Aside0.mk (Fg.init (Below.refl w.heap.size w))
  have HO := Aside0.mk ho
  have HK := Aside0.mk (show k ≤ s.size ∧ k ≤ k + n ∧ k + n ≤ s.size from ⟨by omega, by omega, hk⟩)
  have c1 : decide ((k : Int) < 0) = false := decide_eq_false (by omega)
  have c2 : decide (s.size ≤ k) = false := decide_eq_false (by omega)
  have c3 : ((n : Int) == 0) = false := beq_eq_false_iff_ne.2 (by omega)
  have c4 : (n == 0) = false := beq_eq_false_iff_ne.2 (by omega)
  have c5 : ¬ n = 0 := by omega
  obtain ⟨q1, hq1⟩ : ∃ q1, k + n = q1 := ⟨_, rfl⟩
  have e1 : wrap64 ((k : Int) + (n : Int)) = (q1 : Int) := by unfold wrap64; omega
  rw [hq1] at HK ⊢
  clear ho hs hn hk hq1
  go_enter Tryz.func65, Tryz.ntmps65
  go_wp2_with (first | ((with_reducible refine gate_dst (N := 4) rfl ?_); refine box_event ?hg (N := 4) ?hd (cs := #[.int .i64 0, .string (⟨#[]⟩ : ByteArray), .int .i64 0]) (t := 86) ?hr ?_; (case hd => rfl); (case hg => rfl); (case hr => first | (go_simp; done) | (go_simp; rfl)); intro g4 hg w304 hbox hb; have n0 := Aside0.mk (F.out.box hg hbox hb); clear F hbox hb hg; have F := n0) | ((with_reducible refine gate_dst (N := 20) rfl ?_); refine val_event rfl (.string (s.extract k s.size)) (run_sl (X := .string s) (L := some (.int .i64 (k : Nat))) rfl rfl (slice_l s k HK.out.1 _)) ?_) | ((with_reducible refine gate_dst (N := 33) rfl ?_); refine val_event rfl (.string (s.extract k q1)) (run_sllh (X := .string s) (L := .int .i64 (k : Nat)) (H := .int .i64 (q1 : Nat)) rfl rfl (slice_lh s k q1 HK.out.2.1 HK.out.2.2 _)) ?_) | ((with_reducible refine gate_dst (N := 32) rfl ?_); refine val_event rfl (.int .i64 (q1 : Nat)) ?hr ?_; (case hr => first | (go_simp; done) | (go_simp; rw [i64_w]; assumption) | (go_simp; rfl))) | ((with_reducible refine gate_dst (N := 21) rfl ?_); refine goesL_ (some 21) rfl rfl Tryz.func98 (by kernel_rfl) rfl #[.string (s.extract k s.size)] rfl (by (try simp only [List.map_toArray, List.map_cons, List.map_nil]); first | done | rfl) ?_; (refine (HO.out _).mono ?_); (rintro e w121 ⟨rfl, hb1⟩; refine ⟨_, rfl, ?_⟩; have n0 := Aside0.mk (F.out.below hb1); clear F hb1; have F := n0)) | ((with_reducible refine gate_ (.store 86 (.tmp 4) (.tmp 35)) rfl ?_); refine F.out.st 0 rfl rfl rfl rfl (tkc ⟨kd, s.extract k q1, k⟩) rfl rfl infoTk rfl (tkc_one _) ?_; intro w604 n1; have n0 : Aside0 (Fg _ _ [(g4, 86, (tkc ⟨kd, s.extract k q1, k⟩))] _ _) := ⟨n1⟩; clear F n1; have F := n0))
  refine bodyPost_ret (results_ct rfl _ _ g4 86 (tkc ⟨kd, s.extract k q1, k⟩) (0, 0) _ rfl (F.out.at_ (n := 0) rfl) hu86 rfl infoTk) rfl ?_
  exact ⟨rfl, F.out.hb⟩
end Go.Proofs.YthipodffpkglfaaGreatDoor.PS
namespace Go.Proofs.YthipodffpkglfaaGreatDoor.PS
open Go.RowKit Go.Proofs.YthipodffpkglfaaGreatDoorW.PrintWords Go.Proofs.YthipodffpkglfaaGreatDoorW.PrintLast Go.Proofs.YthipodffpkglfaaGreatDoorW.PrintMore
set_option linter.unusedVariables false
set_option linter.unusedSimpArgs false
theorem bt_eq {s : ByteArray} {k : Nat} {b : UInt8} (h : s.data.toList[k]? = some b) : Go.Proofs.YthipodffpkglfaaGreatDoorW.PrintWords.bt s (k : Int) = (b.toNat : Int) := by
  have hl : k < s.size := by rw [size_data]; exact (List.getElem?_eq_some_iff.1 h).1
  rw [← bt_at s (k : Int) (by rw [Int.toNat_natCast]; exact hl)]
  have := at_data s k
  rw [h, getElem?_pos s k hl] at this
  simp only [Int.toNat_natCast]
  rw [Option.some.inj this]
theorem ext_eq {s : ByteArray} {p : Nat} {u r : List UInt8} (h : s.data.toList.drop p = u ++ r) : s.extract p (p + u.length) = (⟨u.toArray⟩ : ByteArray) := by
  apply ByteArray.ext
  apply Array.toList_inj.1
  rw [ByteArray.data_extract, Array.toList_extract]
  simp only [List.extract_eq_drop_take']
  rw [List.drop_take, h]
  simp
def OneL (l : List UInt8) (n : Nat) (kd : Int) : Prop := ∀ s : ByteArray, s.data.toList = l → s.size ≤ 65536 → ∀ w, Calls Tryz.prog 98 #[.string s] w fun e w' => e = .returned (.tuple #[.int .i64 (n : Nat), .int .i64 kd]) ∧ Below w.heap.size w w'
section
variable {s : ByteArray} {r : List UInt8}
theorem note_skip {K p : Nat} {b : UInt8} {v : Int} (hb : s.data.toList[p]? = some b) (hs : s.size ≤ 65536) (hn : ¬ (b.toNat : Int) = 10) (h : scan_note.l0 K s ((p + 1 : Nat) : Int) = some v) : scan_note.l0 (K + 1) s (p : Int) = some v := by
  have hl : p < s.size := by rw [size_data]; exact (List.getElem?_eq_some_iff.1 hb).1
  have hl' : (p : Int) < s.size := by omega
  have hw : wrap64 ((p : Int) + 1) = ((p + 1 : Nat) : Int) := by unfold wrap64; omega
  simp only [scan_note.l0, bt_eq hb, hl', if_true, hw, if_neg hn]
  rw [if_pos (by omega)]
  exact h
theorem note_nl {K p : Nat} {b : UInt8} {b0 : UInt8} (hb : s.data.toList[p + 1]? = some b) (hs : s.size ≤ 65536) (hn : (b.toNat : Int) = 10) (hb0 : s.data.toList[p]? = some b0) (hf : scan_blank.f b0.toNat = some false) : scan_note.l0 (K + 3) s ((p + 1 : Nat) : Int) = some ((p + 1 : Nat) : Int) := by
  have hl : p + 1 < s.size := by rw [size_data]; exact (List.getElem?_eq_some_iff.1 hb).1
  have hl' : ((p + 1 : Nat) : Int) < s.size := by omega
  have hp : (p : Int) < s.size := by omega
  have hw : wrap64 (((p + 1 : Nat) : Int) - 1) = (p : Int) := by unfold wrap64; omega
  simp only [scan_note.l0, scan_note.j1, scan_note.l1, bt_eq hb, hl', if_true, hw, if_pos hn, bt_eq hb0, hf, hp, Option.bind_some]
  rw [if_pos (by omega), if_pos (by omega)]
  rfl
theorem note_f (hs : s.data.toList = 37 :: 37 :: 32 :: 99 :: 10 :: r) (hz : s.size ≤ 65536) : scan_note.f 7 s = some 4 :=
  note_skip (p := 0) (b := 37) (by rw [hs]; rfl) hz (by decide) (note_skip (p := 1) (b := 37) (by rw [hs]; rfl) hz (by decide) (note_skip (p := 2) (b := 32) (by rw [hs]; rfl) hz (by decide) (note_skip (p := 3) (b := 99) (by rw [hs]; rfl) hz (by decide) (note_nl (K := 0) (p := 3) (b := 10) (b0 := 99) (by rw [hs]; rfl) hz (by decide) (by rw [hs]; rfl) rfl))))
theorem inner_end {K : Nat} {p : Nat} {b : UInt8} (hb : s.data.toList[p]? = some b) (hi : word_Inner.f K b.toNat = some false) : scan_inner.l0 (K + 1) s (p : Int) = some (p : Int) := by
  have hl : p < s.size := by rw [size_data]; exact (List.getElem?_eq_some_iff.1 hb).1
  have hl' : (p : Int) < s.size := by omega
  simp [scan_inner.l0, bt_eq hb, hi, hl']
theorem inner_step {K p : Nat} {b : UInt8} {v : Int} (hb : s.data.toList[p]? = some b) (hs : s.size ≤ 65536) (hi : word_Inner.f K b.toNat = some true) (h : scan_inner.l0 K s ((p + 1 : Nat) : Int) = some v) : scan_inner.l0 (K + 1) s (p : Int) = some v := by
  have hl : p < s.size := by rw [size_data]; exact (List.getElem?_eq_some_iff.1 hb).1
  have hl' : (p : Int) < s.size := by omega
  have hw : wrap64 ((p : Int) + 1) = ((p + 1 : Nat) : Int) := by unfold wrap64; omega
  simp only [scan_inner.l0, bt_eq hb, hi, hl', if_true, Option.bind_some, hw]
  rw [if_pos (by omega)]
  exact h
theorem one_note_l : OneL (37 :: 37 :: 32 :: 99 :: 10 :: r) 4 11 := fun s hs hz w => one_note (by rw [hs]; rfl) (note_f hs hz)
theorem one_dot_l : OneL (46 :: 10 :: r) 1 10 := fun s hs _ w => one_dot (by rw [hs]; rfl) (by rw [hs]; rfl)
theorem res_w_102_40 : word_Reserved.f (⟨([102] : List UInt8).toArray⟩ : ByteArray) = some false := by kernel_rfl
theorem one_w_102_40 : OneL (102 :: 40 :: r) 1 1 := fun s hs hz w => one_word_a (k := 9) (k2 := 11) (n := 1) (b := 102) (by rw [hs]; rfl) rfl rfl (inner_step (p := 0) (b := 102) (by rw [hs]; rfl) hz (by rfl) (inner_end (p := 1) (K := 9) (b := 40) (by rw [hs]; rfl) (by rfl))) (by rw [size_data, hs]; simp) (by
  have h := ext_eq (s := s) (p := 0) (u := ([102] : List UInt8)) (r := 40 :: r) (by rw [hs]; rfl)
  rw [show (0 + ([102] : List UInt8).length) = 1 from rfl] at h
  exact (congrArg word_Reserved.f h).trans res_w_102_40)
theorem one_s_40_41_32 : OneL (40 :: 41 :: 32 :: r) 1 9 := fun s hs _ w => one_sign (k := 9) (b := 40) (by rw [hs]; rfl) rfl rfl (fun w => longest_open hs)
theorem one_s_41_32_45 : OneL (41 :: 32 :: 45 :: r) 1 9 := fun s hs _ w => one_sign (k := 9) (b := 41) (by rw [hs]; rfl) rfl rfl (fun w => longest_close hs)
theorem one_s_45_62_32 : OneL (45 :: 62 :: 32 :: r) 2 9 := fun s hs _ w => one_sign (k := 9) (b := 45) (by rw [hs]; rfl) rfl rfl (fun w => longest_to hs)
theorem res_w_97_46 : word_Reserved.f (⟨([97] : List UInt8).toArray⟩ : ByteArray) = some false := by kernel_rfl
theorem one_w_97_46 : OneL (97 :: 46 :: r) 1 1 := fun s hs hz w => one_word_a (k := 9) (k2 := 11) (n := 1) (b := 97) (by rw [hs]; rfl) rfl rfl (inner_step (p := 0) (b := 97) (by rw [hs]; rfl) hz (by rfl) (inner_end (p := 1) (K := 9) (b := 46) (by rw [hs]; rfl) (by rfl))) (by rw [size_data, hs]; simp) (by
  have h := ext_eq (s := s) (p := 0) (u := ([97] : List UInt8)) (r := 46 :: r) (by rw [hs]; rfl)
  rw [show (0 + ([97] : List UInt8).length) = 1 from rfl] at h
  exact (congrArg word_Reserved.f h).trans res_w_97_46)
theorem one_s_45_109_40 : OneL (45 :: 109 :: 40 :: r) 1 9 := fun s hs _ w => one_sign (k := 9) (b := 45) (by rw [hs]; rfl) rfl rfl (fun w => longest_minus (by decide) (by decide) hs)
theorem res_w_109_40 : word_Reserved.f (⟨([109] : List UInt8).toArray⟩ : ByteArray) = some false := by kernel_rfl
theorem one_w_109_40 : OneL (109 :: 40 :: r) 1 1 := fun s hs hz w => one_word_a (k := 9) (k2 := 11) (n := 1) (b := 109) (by rw [hs]; rfl) rfl rfl (inner_step (p := 0) (b := 109) (by rw [hs]; rfl) hz (by rfl) (inner_end (p := 1) (K := 9) (b := 40) (by rw [hs]; rfl) (by rfl))) (by rw [size_data, hs]; simp) (by
  have h := ext_eq (s := s) (p := 0) (u := ([109] : List UInt8)) (r := 40 :: r) (by rw [hs]; rfl)
  rw [show (0 + ([109] : List UInt8).length) = 1 from rfl] at h
  exact (congrArg word_Reserved.f h).trans res_w_109_40)
theorem one_s_40_120_41 : OneL (40 :: 120 :: 41 :: r) 1 9 := fun s hs _ w => one_sign (k := 9) (b := 40) (by rw [hs]; rfl) rfl rfl (fun w => longest_open hs)
theorem res_w_120_41 : word_Reserved.f (⟨([120] : List UInt8).toArray⟩ : ByteArray) = some false := by kernel_rfl
theorem one_w_120_41 : OneL (120 :: 41 :: r) 1 1 := fun s hs hz w => one_word_a (k := 9) (k2 := 11) (n := 1) (b := 120) (by rw [hs]; rfl) rfl rfl (inner_step (p := 0) (b := 120) (by rw [hs]; rfl) hz (by rfl) (inner_end (p := 1) (K := 9) (b := 41) (by rw [hs]; rfl) (by rfl))) (by rw [size_data, hs]; simp) (by
  have h := ext_eq (s := s) (p := 0) (u := ([120] : List UInt8)) (r := 41 :: r) (by rw [hs]; rfl)
  rw [show (0 + ([120] : List UInt8).length) = 1 from rfl] at h
  exact (congrArg word_Reserved.f h).trans res_w_120_41)
theorem one_s_41_46_10 : OneL (41 :: 46 :: 10 :: r) 1 9 := fun s hs _ w => one_sign (k := 9) (b := 41) (by rw [hs]; rfl) rfl rfl (fun w => longest_close hs)
theorem res_w_120_32 : word_Reserved.f (⟨([120] : List UInt8).toArray⟩ : ByteArray) = some false := by kernel_rfl
theorem one_w_120_32 : OneL (120 :: 32 :: r) 1 1 := fun s hs hz w => one_word_a (k := 9) (k2 := 11) (n := 1) (b := 120) (by rw [hs]; rfl) rfl rfl (inner_step (p := 0) (b := 120) (by rw [hs]; rfl) hz (by rfl) (inner_end (p := 1) (K := 9) (b := 32) (by rw [hs]; rfl) (by rfl))) (by rw [size_data, hs]; simp) (by
  have h := ext_eq (s := s) (p := 0) (u := ([120] : List UInt8)) (r := 32 :: r) (by rw [hs]; rfl)
  rw [show (0 + ([120] : List UInt8).length) = 1 from rfl] at h
  exact (congrArg word_Reserved.f h).trans res_w_120_32)
theorem res_w_121_46 : word_Reserved.f (⟨([121] : List UInt8).toArray⟩ : ByteArray) = some false := by kernel_rfl
theorem one_w_121_46 : OneL (121 :: 46 :: r) 1 1 := fun s hs hz w => one_word_a (k := 9) (k2 := 11) (n := 1) (b := 121) (by rw [hs]; rfl) rfl rfl (inner_step (p := 0) (b := 121) (by rw [hs]; rfl) hz (by rfl) (inner_end (p := 1) (K := 9) (b := 46) (by rw [hs]; rfl) (by rfl))) (by rw [size_data, hs]; simp) (by
  have h := ext_eq (s := s) (p := 0) (u := ([121] : List UInt8)) (r := 46 :: r) (by rw [hs]; rfl)
  rw [show (0 + ([121] : List UInt8).length) = 1 from rfl] at h
  exact (congrArg word_Reserved.f h).trans res_w_121_46)
theorem res_w_103_40 : word_Reserved.f (⟨([103] : List UInt8).toArray⟩ : ByteArray) = some false := by kernel_rfl
theorem one_w_103_40 : OneL (103 :: 40 :: r) 1 1 := fun s hs hz w => one_word_a (k := 9) (k2 := 11) (n := 1) (b := 103) (by rw [hs]; rfl) rfl rfl (inner_step (p := 0) (b := 103) (by rw [hs]; rfl) hz (by rfl) (inner_end (p := 1) (K := 9) (b := 40) (by rw [hs]; rfl) (by rfl))) (by rw [size_data, hs]; simp) (by
  have h := ext_eq (s := s) (p := 0) (u := ([103] : List UInt8)) (r := 40 :: r) (by rw [hs]; rfl)
  rw [show (0 + ([103] : List UInt8).length) = 1 from rfl] at h
  exact (congrArg word_Reserved.f h).trans res_w_103_40)
theorem one_s_40_88_41 : OneL (40 :: 88 :: 41 :: r) 1 9 := fun s hs _ w => one_sign (k := 9) (b := 40) (by rw [hs]; rfl) rfl rfl (fun w => longest_open hs)
theorem res_w_88_41 : word_Reserved.f (⟨([88] : List UInt8).toArray⟩ : ByteArray) = some false := by kernel_rfl
theorem one_w_88_41 : OneL (88 :: 41 :: r) 1 2 := fun s hs hz w => one_word_v (k := 9) (k2 := 11) (n := 1) (b := 88) (by rw [hs]; rfl) rfl rfl (inner_step (p := 0) (b := 88) (by rw [hs]; rfl) hz (by rfl) (inner_end (p := 1) (K := 9) (b := 41) (by rw [hs]; rfl) (by rfl))) (by rw [size_data, hs]; simp) (by
  have h := ext_eq (s := s) (p := 0) (u := ([88] : List UInt8)) (r := 41 :: r) (by rw [hs]; rfl)
  rw [show (0 + ([88] : List UInt8).length) = 1 from rfl] at h
  exact (congrArg word_Reserved.f h).trans res_w_88_41)
theorem res_w_99_97_115_101_32 : word_Reserved.f (⟨([99, 97, 115, 101] : List UInt8).toArray⟩ : ByteArray) = some true := by kernel_rfl
theorem one_w_99_97_115_101_32 : OneL (99 :: 97 :: 115 :: 101 :: 32 :: r) 4 8 := fun s hs hz w => one_word_r (k := 9) (k2 := 14) (n := 4) (b := 99) (by rw [hs]; rfl) rfl rfl (inner_step (p := 0) (b := 99) (by rw [hs]; rfl) hz (by rfl) (inner_step (p := 1) (b := 97) (by rw [hs]; rfl) hz (by rfl) (inner_step (p := 2) (b := 115) (by rw [hs]; rfl) hz (by rfl) (inner_step (p := 3) (b := 101) (by rw [hs]; rfl) hz (by rfl) (inner_end (p := 4) (K := 9) (b := 32) (by rw [hs]; rfl) (by rfl)))))) (by rw [size_data, hs]; simp) (by
  have h := ext_eq (s := s) (p := 0) (u := ([99, 97, 115, 101] : List UInt8)) (r := 32 :: r) (by rw [hs]; rfl)
  rw [show (0 + ([99, 97, 115, 101] : List UInt8).length) = 4 from rfl] at h
  exact (congrArg word_Reserved.f h).trans res_w_99_97_115_101_32)
theorem res_w_88_32 : word_Reserved.f (⟨([88] : List UInt8).toArray⟩ : ByteArray) = some false := by kernel_rfl
theorem one_w_88_32 : OneL (88 :: 32 :: r) 1 2 := fun s hs hz w => one_word_v (k := 9) (k2 := 11) (n := 1) (b := 88) (by rw [hs]; rfl) rfl rfl (inner_step (p := 0) (b := 88) (by rw [hs]; rfl) hz (by rfl) (inner_end (p := 1) (K := 9) (b := 32) (by rw [hs]; rfl) (by rfl))) (by rw [size_data, hs]; simp) (by
  have h := ext_eq (s := s) (p := 0) (u := ([88] : List UInt8)) (r := 32 :: r) (by rw [hs]; rfl)
  rw [show (0 + ([88] : List UInt8).length) = 1 from rfl] at h
  exact (congrArg word_Reserved.f h).trans res_w_88_32)
theorem res_w_111_102_32 : word_Reserved.f (⟨([111, 102] : List UInt8).toArray⟩ : ByteArray) = some true := by kernel_rfl
theorem one_w_111_102_32 : OneL (111 :: 102 :: 32 :: r) 2 8 := fun s hs hz w => one_word_r (k := 9) (k2 := 12) (n := 2) (b := 111) (by rw [hs]; rfl) rfl rfl (inner_step (p := 0) (b := 111) (by rw [hs]; rfl) hz (by rfl) (inner_step (p := 1) (b := 102) (by rw [hs]; rfl) hz (by rfl) (inner_end (p := 2) (K := 9) (b := 32) (by rw [hs]; rfl) (by rfl)))) (by rw [size_data, hs]; simp) (by
  have h := ext_eq (s := s) (p := 0) (u := ([111, 102] : List UInt8)) (r := 32 :: r) (by rw [hs]; rfl)
  rw [show (0 + ([111, 102] : List UInt8).length) = 2 from rfl] at h
  exact (congrArg word_Reserved.f h).trans res_w_111_102_32)
theorem res_w_97_32 : word_Reserved.f (⟨([97] : List UInt8).toArray⟩ : ByteArray) = some false := by kernel_rfl
theorem one_w_97_32 : OneL (97 :: 32 :: r) 1 1 := fun s hs hz w => one_word_a (k := 9) (k2 := 11) (n := 1) (b := 97) (by rw [hs]; rfl) rfl rfl (inner_step (p := 0) (b := 97) (by rw [hs]; rfl) hz (by rfl) (inner_end (p := 1) (K := 9) (b := 32) (by rw [hs]; rfl) (by rfl))) (by rw [size_data, hs]; simp) (by
  have h := ext_eq (s := s) (p := 0) (u := ([97] : List UInt8)) (r := 32 :: r) (by rw [hs]; rfl)
  rw [show (0 + ([97] : List UInt8).length) = 1 from rfl] at h
  exact (congrArg word_Reserved.f h).trans res_w_97_32)
theorem res_w_98_32 : word_Reserved.f (⟨([98] : List UInt8).toArray⟩ : ByteArray) = some false := by kernel_rfl
theorem one_w_98_32 : OneL (98 :: 32 :: r) 1 1 := fun s hs hz w => one_word_a (k := 9) (k2 := 11) (n := 1) (b := 98) (by rw [hs]; rfl) rfl rfl (inner_step (p := 0) (b := 98) (by rw [hs]; rfl) hz (by rfl) (inner_end (p := 1) (K := 9) (b := 32) (by rw [hs]; rfl) (by rfl))) (by rw [size_data, hs]; simp) (by
  have h := ext_eq (s := s) (p := 0) (u := ([98] : List UInt8)) (r := 32 :: r) (by rw [hs]; rfl)
  rw [show (0 + ([98] : List UInt8).length) = 1 from rfl] at h
  exact (congrArg word_Reserved.f h).trans res_w_98_32)
theorem res_w_101_110_100_46 : word_Reserved.f (⟨([101, 110, 100] : List UInt8).toArray⟩ : ByteArray) = some true := by kernel_rfl
theorem one_w_101_110_100_46 : OneL (101 :: 110 :: 100 :: 46 :: r) 3 8 := fun s hs hz w => one_word_r (k := 9) (k2 := 13) (n := 3) (b := 101) (by rw [hs]; rfl) rfl rfl (inner_step (p := 0) (b := 101) (by rw [hs]; rfl) hz (by rfl) (inner_step (p := 1) (b := 110) (by rw [hs]; rfl) hz (by rfl) (inner_step (p := 2) (b := 100) (by rw [hs]; rfl) hz (by rfl) (inner_end (p := 3) (K := 9) (b := 46) (by rw [hs]; rfl) (by rfl))))) (by rw [size_data, hs]; simp) (by
  have h := ext_eq (s := s) (p := 0) (u := ([101, 110, 100] : List UInt8)) (r := 46 :: r) (by rw [hs]; rfl)
  rw [show (0 + ([101, 110, 100] : List UInt8).length) = 3 from rfl] at h
  exact (congrArg word_Reserved.f h).trans res_w_101_110_100_46)
theorem res_w_104_40 : word_Reserved.f (⟨([104] : List UInt8).toArray⟩ : ByteArray) = some false := by kernel_rfl
theorem one_w_104_40 : OneL (104 :: 40 :: r) 1 1 := fun s hs hz w => one_word_a (k := 9) (k2 := 11) (n := 1) (b := 104) (by rw [hs]; rfl) rfl rfl (inner_step (p := 0) (b := 104) (by rw [hs]; rfl) hz (by rfl) (inner_end (p := 1) (K := 9) (b := 40) (by rw [hs]; rfl) (by rfl))) (by rw [size_data, hs]; simp) (by
  have h := ext_eq (s := s) (p := 0) (u := ([104] : List UInt8)) (r := 40 :: r) (by rw [hs]; rfl)
  rw [show (0 + ([104] : List UInt8).length) = 1 from rfl] at h
  exact (congrArg word_Reserved.f h).trans res_w_104_40)
theorem one_s_91_88_32 : OneL (91 :: 88 :: 32 :: r) 1 9 := fun s hs _ w => one_sign (k := 9) (b := 91) (by rw [hs]; rfl) rfl rfl (fun w => longest_brack hs)
theorem one_s_124_124_32 : OneL (124 :: 124 :: 32 :: r) 2 9 := fun s hs _ w => one_sign (k := 9) (b := 124) (by rw [hs]; rfl) rfl rfl (fun w => longest_bars hs)
theorem one_s_60_45_32 : OneL (60 :: 45 :: 32 :: r) 2 9 := fun s hs _ w => one_sign (k := 9) (b := 60) (by rw [hs]; rfl) rfl rfl (fun w => longest_from hs)
theorem res_w_108_93 : word_Reserved.f (⟨([108] : List UInt8).toArray⟩ : ByteArray) = some false := by kernel_rfl
theorem one_w_108_93 : OneL (108 :: 93 :: r) 1 1 := fun s hs hz w => one_word_a (k := 9) (k2 := 11) (n := 1) (b := 108) (by rw [hs]; rfl) rfl rfl (inner_step (p := 0) (b := 108) (by rw [hs]; rfl) hz (by rfl) (inner_end (p := 1) (K := 9) (b := 93) (by rw [hs]; rfl) (by rfl))) (by rw [size_data, hs]; simp) (by
  have h := ext_eq (s := s) (p := 0) (u := ([108] : List UInt8)) (r := 93 :: r) (by rw [hs]; rfl)
  rw [show (0 + ([108] : List UInt8).length) = 1 from rfl] at h
  exact (congrArg word_Reserved.f h).trans res_w_108_93)
theorem one_s_93_46_10 : OneL (93 :: 46 :: 10 :: r) 1 9 := fun s hs _ w => one_sign (k := 9) (b := 93) (by rw [hs]; rfl) rfl rfl (fun w => longest_kcarb hs)
theorem one_s_45_116_32 : OneL (45 :: 116 :: 32 :: r) 1 9 := fun s hs _ w => one_sign (k := 9) (b := 45) (by rw [hs]; rfl) rfl rfl (fun w => longest_minus (by decide) (by decide) hs)
theorem res_w_116_32 : word_Reserved.f (⟨([116] : List UInt8).toArray⟩ : ByteArray) = some false := by kernel_rfl
theorem one_w_116_32 : OneL (116 :: 32 :: r) 1 1 := fun s hs hz w => one_word_a (k := 9) (k2 := 11) (n := 1) (b := 116) (by rw [hs]; rfl) rfl rfl (inner_step (p := 0) (b := 116) (by rw [hs]; rfl) hz (by rfl) (inner_end (p := 1) (K := 9) (b := 32) (by rw [hs]; rfl) (by rfl))) (by rw [size_data, hs]; simp) (by
  have h := ext_eq (s := s) (p := 0) (u := ([116] : List UInt8)) (r := 32 :: r) (by rw [hs]; rfl)
  rw [show (0 + ([116] : List UInt8).length) = 1 from rfl] at h
  exact (congrArg word_Reserved.f h).trans res_w_116_32)
theorem one_s_58_58_32 : OneL (58 :: 58 :: 32 :: r) 2 9 := fun s hs _ w => one_sign (k := 9) (b := 58) (by rw [hs]; rfl) rfl rfl (fun w => longest_cons hs)
theorem res_w_98_46 : word_Reserved.f (⟨([98] : List UInt8).toArray⟩ : ByteArray) = some false := by kernel_rfl
theorem one_w_98_46 : OneL (98 :: 46 :: r) 1 1 := fun s hs hz w => one_word_a (k := 9) (k2 := 11) (n := 1) (b := 98) (by rw [hs]; rfl) rfl rfl (inner_step (p := 0) (b := 98) (by rw [hs]; rfl) hz (by rfl) (inner_end (p := 1) (K := 9) (b := 46) (by rw [hs]; rfl) (by rfl))) (by rw [size_data, hs]; simp) (by
  have h := ext_eq (s := s) (p := 0) (u := ([98] : List UInt8)) (r := 46 :: r) (by rw [hs]; rfl)
  rw [show (0 + ([98] : List UInt8).length) = 1 from rfl] at h
  exact (congrArg word_Reserved.f h).trans res_w_98_46)
theorem one_s_40_97_44 : OneL (40 :: 97 :: 44 :: r) 1 9 := fun s hs _ w => one_sign (k := 9) (b := 40) (by rw [hs]; rfl) rfl rfl (fun w => longest_open hs)
theorem res_w_97_44 : word_Reserved.f (⟨([97] : List UInt8).toArray⟩ : ByteArray) = some false := by kernel_rfl
theorem one_w_97_44 : OneL (97 :: 44 :: r) 1 1 := fun s hs hz w => one_word_a (k := 9) (k2 := 11) (n := 1) (b := 97) (by rw [hs]; rfl) rfl rfl (inner_step (p := 0) (b := 97) (by rw [hs]; rfl) hz (by rfl) (inner_end (p := 1) (K := 9) (b := 44) (by rw [hs]; rfl) (by rfl))) (by rw [size_data, hs]; simp) (by
  have h := ext_eq (s := s) (p := 0) (u := ([97] : List UInt8)) (r := 44 :: r) (by rw [hs]; rfl)
  rw [show (0 + ([97] : List UInt8).length) = 1 from rfl] at h
  exact (congrArg word_Reserved.f h).trans res_w_97_44)
theorem one_s_44_32_97 : OneL (44 :: 32 :: 97 :: r) 1 9 := fun s hs _ w => one_sign (k := 9) (b := 44) (by rw [hs]; rfl) rfl rfl (fun w => longest_comma hs)
theorem res_w_97_41 : word_Reserved.f (⟨([97] : List UInt8).toArray⟩ : ByteArray) = some false := by kernel_rfl
theorem one_w_97_41 : OneL (97 :: 41 :: r) 1 1 := fun s hs hz w => one_word_a (k := 9) (k2 := 11) (n := 1) (b := 97) (by rw [hs]; rfl) rfl rfl (inner_step (p := 0) (b := 97) (by rw [hs]; rfl) hz (by rfl) (inner_end (p := 1) (K := 9) (b := 41) (by rw [hs]; rfl) (by rfl))) (by rw [size_data, hs]; simp) (by
  have h := ext_eq (s := s) (p := 0) (u := ([97] : List UInt8)) (r := 41 :: r) (by rw [hs]; rfl)
  rw [show (0 + ([97] : List UInt8).length) = 1 from rfl] at h
  exact (congrArg word_Reserved.f h).trans res_w_97_41)
end
end Go.Proofs.YthipodffpkglfaaGreatDoor.PS
namespace Go.Proofs.YthipodffpkglfaaGreatDoor.PS
open Go.RowKit Go.Proofs.YthipodffpkglfaaGreatDoorW.PrintWords Go.Proofs.YthipodffpkglfaaGreatDoorW.PrintLast Go.Proofs.YthipodffpkglfaaGreatDoorW.PrintMore
set_option linter.unusedVariables false
set_option linter.unusedSimpArgs false
def blankB (b : UInt8) : Bool := b == 32 || b == 9 || b == 10 || b == 13
def skip : List UInt8 → Nat
  | [] => 0
  | b :: r => if blankB b then skip r + 1 else 0
theorem blank_b (b : UInt8) : scan_blank.f (b.toNat : Int) = some (blankB b) := by
  have h : ∀ n : Fin 256, scan_blank.f (n.val : Int) = some (blankB (UInt8.ofNat n.val)) := by decide +kernel
  have := h ⟨b.toNat, b.toNat_lt⟩
  simpa using this
theorem blank_l0 {s : ByteArray} (hz : s.size ≤ 65536) : ∀ (n p : Nat), p + n = s.size → ∃ K, scan_Blank.l0 K s (p : Int) = some ((p + skip (s.data.toList.drop p) : Nat) : Int)
  | 0, p, h => by
    refine ⟨1, ?_⟩
    have e : s.data.toList.drop p = [] := List.drop_eq_nil_iff.2 (by rw [← size_data]; omega)
    have h1 : ¬ (p : Int) < s.size := by omega
    rw [e]
    simp only [scan_Blank.l0, if_neg h1, skip, Nat.add_zero]
    unfold mn
    rw [if_neg (by omega)]
  | n + 1, p, h => by
    have hp : p < s.data.toList.length := by rw [← size_data]; omega
    have e : s.data.toList.drop p = s.data.toList[p] :: s.data.toList.drop (p + 1) := List.drop_eq_getElem_cons hp
    have hb : s.data.toList[p]? = some s.data.toList[p] := List.getElem?_eq_getElem hp
    have h1 : (p : Int) < s.size := by omega
    have hw : wrap64 ((p : Int) + 1) = ((p + 1 : Nat) : Int) := by unfold wrap64; omega
    rw [e]
    cases hbl : blankB s.data.toList[p]
    · refine ⟨1, ?_⟩
      simp only [scan_Blank.l0, if_pos h1, bt_eq hb, blank_b, hbl, Option.bind_some, skip, if_false, Bool.false_eq_true, Nat.add_zero]
      rw [if_pos (by omega)]
      unfold mn
      rw [if_neg (by omega)]
    · obtain ⟨K, hK⟩ := blank_l0 hz n (p + 1) (by omega)
      refine ⟨K + 1, ?_⟩
      simp only [scan_Blank.l0, if_pos h1, bt_eq hb, blank_b, hbl, Option.bind_some, skip, if_true, hw]
      rw [if_pos (by omega), hK]
      congr 2
      omega
theorem blank_skip {s : ByteArray} (hz : s.size ≤ 65536) {p : Nat} (h : p ≤ s.size) : ∃ K, scan_Blank.f K s (p : Int) = some ((p + skip (s.data.toList.drop p) : Nat) : Int) := by
  obtain ⟨K, hK⟩ := blank_l0 hz (s.size - p) p (by omega)
  refine ⟨K, ?_⟩
  unfold scan_Blank.f mx
  rw [if_neg (by omega)]
  exact hK
/-- The tokens of what is left of a text. -/
def LexL : Nat → List UInt8 → List Tk → Prop
  | _, l, [] => skip l = l.length
  | p, l, x :: r => ∃ (u rest : List UInt8) (kd : Int), l.drop (skip l) = u ++ rest ∧ u ≠ [] ∧ OneL (u ++ rest) u.length kd ∧ x = ⟨kd, ⟨u.toArray⟩, ((p + skip l : Nat) : Int)⟩ ∧ LexL (p + skip l + u.length) rest r
theorem LexL.next {p b : Nat} {l u rest : List UInt8} {kd : Int} {r : List Tk} {t : ByteArray} {a : Int} (hb : skip l = b) (hu : l.drop b = u ++ rest) (hn : u ≠ []) (h1 : OneL (u ++ rest) u.length kd) (ht : (⟨u.toArray⟩ : ByteArray) = t) (ha : ((p + b : Nat) : Int) = a) (h : LexL (p + b + u.length) rest r) : LexL p l (⟨kd, t, a⟩ :: r) := by
  subst hb ht ha
  exact ⟨u, rest, kd, hu, hn, h1, rfl, h⟩
def formB : Nat → List UInt8
  | 0 => [102, 40, 41, 32, 45, 62, 32, 97, 46, 10]
  | 1 => [45, 109, 40, 120, 41, 46, 10]
  | 2 => [37, 37, 32, 99, 10]
  | 3 => [120, 32, 121, 46, 10]
  | 4 => [103, 40, 88, 41, 32, 45, 62, 32, 99, 97, 115, 101, 32, 88, 32, 111, 102, 32, 97, 32, 45, 62, 32, 98, 32, 101, 110, 100, 46, 10]
  | 5 => [104, 40, 41, 32, 45, 62, 32, 91, 88, 32, 124, 124, 32, 88, 32, 60, 45, 32, 108, 93, 46, 10]
  | 6 => [45, 116, 32, 97, 32, 58, 58, 32, 98, 46, 10]
  | _ => [102, 40, 41, 32, 45, 62, 32, 103, 40, 97, 44, 32, 97, 41, 46, 10]
/-- A form's tokens: kind, text, place. -/
def formT : Nat → List (Int × ByteArray × Nat)
  | 0 => [(1, (⟨#[102]⟩ : ByteArray), 0), (9, (⟨#[40]⟩ : ByteArray), 1), (9, (⟨#[41]⟩ : ByteArray), 2), (9, (⟨#[45, 62]⟩ : ByteArray), 4), (1, (⟨#[97]⟩ : ByteArray), 7), (10, (⟨#[46]⟩ : ByteArray), 8)]
  | 1 => [(9, (⟨#[45]⟩ : ByteArray), 0), (1, (⟨#[109]⟩ : ByteArray), 1), (9, (⟨#[40]⟩ : ByteArray), 2), (1, (⟨#[120]⟩ : ByteArray), 3), (9, (⟨#[41]⟩ : ByteArray), 4), (10, (⟨#[46]⟩ : ByteArray), 5)]
  | 2 => [(11, (⟨#[37, 37, 32, 99]⟩ : ByteArray), 0)]
  | 3 => [(1, (⟨#[120]⟩ : ByteArray), 0), (1, (⟨#[121]⟩ : ByteArray), 2), (10, (⟨#[46]⟩ : ByteArray), 3)]
  | 4 => [(1, (⟨#[103]⟩ : ByteArray), 0), (9, (⟨#[40]⟩ : ByteArray), 1), (2, (⟨#[88]⟩ : ByteArray), 2), (9, (⟨#[41]⟩ : ByteArray), 3), (9, (⟨#[45, 62]⟩ : ByteArray), 5), (8, (⟨#[99, 97, 115, 101]⟩ : ByteArray), 8), (2, (⟨#[88]⟩ : ByteArray), 13), (8, (⟨#[111, 102]⟩ : ByteArray), 15), (1, (⟨#[97]⟩ : ByteArray), 18), (9, (⟨#[45, 62]⟩ : ByteArray), 20), (1, (⟨#[98]⟩ : ByteArray), 23), (8, (⟨#[101, 110, 100]⟩ : ByteArray), 25), (10, (⟨#[46]⟩ : ByteArray), 28)]
  | 5 => [(1, (⟨#[104]⟩ : ByteArray), 0), (9, (⟨#[40]⟩ : ByteArray), 1), (9, (⟨#[41]⟩ : ByteArray), 2), (9, (⟨#[45, 62]⟩ : ByteArray), 4), (9, (⟨#[91]⟩ : ByteArray), 7), (2, (⟨#[88]⟩ : ByteArray), 8), (9, (⟨#[124, 124]⟩ : ByteArray), 10), (2, (⟨#[88]⟩ : ByteArray), 13), (9, (⟨#[60, 45]⟩ : ByteArray), 15), (1, (⟨#[108]⟩ : ByteArray), 18), (9, (⟨#[93]⟩ : ByteArray), 19), (10, (⟨#[46]⟩ : ByteArray), 20)]
  | 6 => [(9, (⟨#[45]⟩ : ByteArray), 0), (1, (⟨#[116]⟩ : ByteArray), 1), (1, (⟨#[97]⟩ : ByteArray), 3), (9, (⟨#[58, 58]⟩ : ByteArray), 5), (1, (⟨#[98]⟩ : ByteArray), 8), (10, (⟨#[46]⟩ : ByteArray), 9)]
  | _ => [(1, (⟨#[102]⟩ : ByteArray), 0), (9, (⟨#[40]⟩ : ByteArray), 1), (9, (⟨#[41]⟩ : ByteArray), 2), (9, (⟨#[45, 62]⟩ : ByteArray), 4), (1, (⟨#[103]⟩ : ByteArray), 7), (9, (⟨#[40]⟩ : ByteArray), 8), (1, (⟨#[97]⟩ : ByteArray), 9), (9, (⟨#[44]⟩ : ByteArray), 10), (1, (⟨#[97]⟩ : ByteArray), 12), (9, (⟨#[41]⟩ : ByteArray), 13), (10, (⟨#[46]⟩ : ByteArray), 14)]
def formK (p f : Nat) : List Tk := (formT f).map fun x => ⟨x.1, x.2.1, ((p + x.2.2 : Nat) : Int)⟩
def textB : List Nat → List UInt8
  | [] => []
  | f :: r => formB f ++ textB r
def textK : Nat → List Nat → List Tk
  | _, [] => []
  | p, f :: r => formK p f ++ textK (p + (formB f).length) r
section
variable {p : Nat} {R : List UInt8} {r : List Tk}
theorem lex0a (h : LexL (p + 9) (10 :: R) r) : LexL p (([102, 40, 41, 32, 45, 62, 32, 97, 46, 10] ++ R)) (formK (p + 0) 0 ++ r) := by
  refine LexL.next (b := 0) (u := [102]) (rest := 40 :: 41 :: 32 :: 45 :: 62 :: 32 :: 97 :: 46 :: 10 :: R) (kd := 1) (by rfl) rfl (by simp) one_w_102_40 rfl (by first | rfl | (show ((_ : Nat) : Int) = ((_ : Nat) : Int); congr 1)) ?_
  refine LexL.next (b := 0) (u := [40]) (rest := 41 :: 32 :: 45 :: 62 :: 32 :: 97 :: 46 :: 10 :: R) (kd := 9) (by rfl) rfl (by simp) one_s_40_41_32 rfl (by first | rfl | (show ((_ : Nat) : Int) = ((_ : Nat) : Int); congr 1)) ?_
  refine LexL.next (b := 0) (u := [41]) (rest := 32 :: 45 :: 62 :: 32 :: 97 :: 46 :: 10 :: R) (kd := 9) (by rfl) rfl (by simp) one_s_41_32_45 rfl (by first | rfl | (show ((_ : Nat) : Int) = ((_ : Nat) : Int); congr 1)) ?_
  refine LexL.next (b := 1) (u := [45, 62]) (rest := 32 :: 97 :: 46 :: 10 :: R) (kd := 9) (by rfl) rfl (by simp) one_s_45_62_32 rfl (by first | rfl | (show ((_ : Nat) : Int) = ((_ : Nat) : Int); congr 1)) ?_
  refine LexL.next (b := 1) (u := [97]) (rest := 46 :: 10 :: R) (kd := 1) (by rfl) rfl (by simp) one_w_97_46 rfl (by first | rfl | (show ((_ : Nat) : Int) = ((_ : Nat) : Int); congr 1)) ?_
  refine LexL.next (b := 0) (u := [46]) (rest := 10 :: R) (kd := 10) (by rfl) rfl (by simp) one_dot_l rfl (by first | rfl | (show ((_ : Nat) : Int) = ((_ : Nat) : Int); congr 1)) ?_
  exact h
theorem lex0b (h : LexL (p + 10) (10 :: R) r) : LexL p (10 :: ([102, 40, 41, 32, 45, 62, 32, 97, 46, 10] ++ R)) (formK (p + 1) 0 ++ r) := by
  refine LexL.next (b := 1) (u := [102]) (rest := 40 :: 41 :: 32 :: 45 :: 62 :: 32 :: 97 :: 46 :: 10 :: R) (kd := 1) (by rfl) rfl (by simp) one_w_102_40 rfl (by first | rfl | (show ((_ : Nat) : Int) = ((_ : Nat) : Int); congr 1)) ?_
  refine LexL.next (b := 0) (u := [40]) (rest := 41 :: 32 :: 45 :: 62 :: 32 :: 97 :: 46 :: 10 :: R) (kd := 9) (by rfl) rfl (by simp) one_s_40_41_32 rfl (by first | rfl | (show ((_ : Nat) : Int) = ((_ : Nat) : Int); congr 1)) ?_
  refine LexL.next (b := 0) (u := [41]) (rest := 32 :: 45 :: 62 :: 32 :: 97 :: 46 :: 10 :: R) (kd := 9) (by rfl) rfl (by simp) one_s_41_32_45 rfl (by first | rfl | (show ((_ : Nat) : Int) = ((_ : Nat) : Int); congr 1)) ?_
  refine LexL.next (b := 1) (u := [45, 62]) (rest := 32 :: 97 :: 46 :: 10 :: R) (kd := 9) (by rfl) rfl (by simp) one_s_45_62_32 rfl (by first | rfl | (show ((_ : Nat) : Int) = ((_ : Nat) : Int); congr 1)) ?_
  refine LexL.next (b := 1) (u := [97]) (rest := 46 :: 10 :: R) (kd := 1) (by rfl) rfl (by simp) one_w_97_46 rfl (by first | rfl | (show ((_ : Nat) : Int) = ((_ : Nat) : Int); congr 1)) ?_
  refine LexL.next (b := 0) (u := [46]) (rest := 10 :: R) (kd := 10) (by rfl) rfl (by simp) one_dot_l rfl (by first | rfl | (show ((_ : Nat) : Int) = ((_ : Nat) : Int); congr 1)) ?_
  exact h
theorem lex1a (h : LexL (p + 6) (10 :: R) r) : LexL p (([45, 109, 40, 120, 41, 46, 10] ++ R)) (formK (p + 0) 1 ++ r) := by
  refine LexL.next (b := 0) (u := [45]) (rest := 109 :: 40 :: 120 :: 41 :: 46 :: 10 :: R) (kd := 9) (by rfl) rfl (by simp) one_s_45_109_40 rfl (by first | rfl | (show ((_ : Nat) : Int) = ((_ : Nat) : Int); congr 1)) ?_
  refine LexL.next (b := 0) (u := [109]) (rest := 40 :: 120 :: 41 :: 46 :: 10 :: R) (kd := 1) (by rfl) rfl (by simp) one_w_109_40 rfl (by first | rfl | (show ((_ : Nat) : Int) = ((_ : Nat) : Int); congr 1)) ?_
  refine LexL.next (b := 0) (u := [40]) (rest := 120 :: 41 :: 46 :: 10 :: R) (kd := 9) (by rfl) rfl (by simp) one_s_40_120_41 rfl (by first | rfl | (show ((_ : Nat) : Int) = ((_ : Nat) : Int); congr 1)) ?_
  refine LexL.next (b := 0) (u := [120]) (rest := 41 :: 46 :: 10 :: R) (kd := 1) (by rfl) rfl (by simp) one_w_120_41 rfl (by first | rfl | (show ((_ : Nat) : Int) = ((_ : Nat) : Int); congr 1)) ?_
  refine LexL.next (b := 0) (u := [41]) (rest := 46 :: 10 :: R) (kd := 9) (by rfl) rfl (by simp) one_s_41_46_10 rfl (by first | rfl | (show ((_ : Nat) : Int) = ((_ : Nat) : Int); congr 1)) ?_
  refine LexL.next (b := 0) (u := [46]) (rest := 10 :: R) (kd := 10) (by rfl) rfl (by simp) one_dot_l rfl (by first | rfl | (show ((_ : Nat) : Int) = ((_ : Nat) : Int); congr 1)) ?_
  exact h
theorem lex1b (h : LexL (p + 7) (10 :: R) r) : LexL p (10 :: ([45, 109, 40, 120, 41, 46, 10] ++ R)) (formK (p + 1) 1 ++ r) := by
  refine LexL.next (b := 1) (u := [45]) (rest := 109 :: 40 :: 120 :: 41 :: 46 :: 10 :: R) (kd := 9) (by rfl) rfl (by simp) one_s_45_109_40 rfl (by first | rfl | (show ((_ : Nat) : Int) = ((_ : Nat) : Int); congr 1)) ?_
  refine LexL.next (b := 0) (u := [109]) (rest := 40 :: 120 :: 41 :: 46 :: 10 :: R) (kd := 1) (by rfl) rfl (by simp) one_w_109_40 rfl (by first | rfl | (show ((_ : Nat) : Int) = ((_ : Nat) : Int); congr 1)) ?_
  refine LexL.next (b := 0) (u := [40]) (rest := 120 :: 41 :: 46 :: 10 :: R) (kd := 9) (by rfl) rfl (by simp) one_s_40_120_41 rfl (by first | rfl | (show ((_ : Nat) : Int) = ((_ : Nat) : Int); congr 1)) ?_
  refine LexL.next (b := 0) (u := [120]) (rest := 41 :: 46 :: 10 :: R) (kd := 1) (by rfl) rfl (by simp) one_w_120_41 rfl (by first | rfl | (show ((_ : Nat) : Int) = ((_ : Nat) : Int); congr 1)) ?_
  refine LexL.next (b := 0) (u := [41]) (rest := 46 :: 10 :: R) (kd := 9) (by rfl) rfl (by simp) one_s_41_46_10 rfl (by first | rfl | (show ((_ : Nat) : Int) = ((_ : Nat) : Int); congr 1)) ?_
  refine LexL.next (b := 0) (u := [46]) (rest := 10 :: R) (kd := 10) (by rfl) rfl (by simp) one_dot_l rfl (by first | rfl | (show ((_ : Nat) : Int) = ((_ : Nat) : Int); congr 1)) ?_
  exact h
theorem lex2a (h : LexL (p + 4) (10 :: R) r) : LexL p (([37, 37, 32, 99, 10] ++ R)) (formK (p + 0) 2 ++ r) := by
  refine LexL.next (b := 0) (u := [37, 37, 32, 99]) (rest := 10 :: R) (kd := 11) (by rfl) rfl (by simp) one_note_l rfl (by first | rfl | (show ((_ : Nat) : Int) = ((_ : Nat) : Int); congr 1)) ?_
  exact h
theorem lex2b (h : LexL (p + 5) (10 :: R) r) : LexL p (10 :: ([37, 37, 32, 99, 10] ++ R)) (formK (p + 1) 2 ++ r) := by
  refine LexL.next (b := 1) (u := [37, 37, 32, 99]) (rest := 10 :: R) (kd := 11) (by rfl) rfl (by simp) one_note_l rfl (by first | rfl | (show ((_ : Nat) : Int) = ((_ : Nat) : Int); congr 1)) ?_
  exact h
theorem lex3a (h : LexL (p + 4) (10 :: R) r) : LexL p (([120, 32, 121, 46, 10] ++ R)) (formK (p + 0) 3 ++ r) := by
  refine LexL.next (b := 0) (u := [120]) (rest := 32 :: 121 :: 46 :: 10 :: R) (kd := 1) (by rfl) rfl (by simp) one_w_120_32 rfl (by first | rfl | (show ((_ : Nat) : Int) = ((_ : Nat) : Int); congr 1)) ?_
  refine LexL.next (b := 1) (u := [121]) (rest := 46 :: 10 :: R) (kd := 1) (by rfl) rfl (by simp) one_w_121_46 rfl (by first | rfl | (show ((_ : Nat) : Int) = ((_ : Nat) : Int); congr 1)) ?_
  refine LexL.next (b := 0) (u := [46]) (rest := 10 :: R) (kd := 10) (by rfl) rfl (by simp) one_dot_l rfl (by first | rfl | (show ((_ : Nat) : Int) = ((_ : Nat) : Int); congr 1)) ?_
  exact h
theorem lex3b (h : LexL (p + 5) (10 :: R) r) : LexL p (10 :: ([120, 32, 121, 46, 10] ++ R)) (formK (p + 1) 3 ++ r) := by
  refine LexL.next (b := 1) (u := [120]) (rest := 32 :: 121 :: 46 :: 10 :: R) (kd := 1) (by rfl) rfl (by simp) one_w_120_32 rfl (by first | rfl | (show ((_ : Nat) : Int) = ((_ : Nat) : Int); congr 1)) ?_
  refine LexL.next (b := 1) (u := [121]) (rest := 46 :: 10 :: R) (kd := 1) (by rfl) rfl (by simp) one_w_121_46 rfl (by first | rfl | (show ((_ : Nat) : Int) = ((_ : Nat) : Int); congr 1)) ?_
  refine LexL.next (b := 0) (u := [46]) (rest := 10 :: R) (kd := 10) (by rfl) rfl (by simp) one_dot_l rfl (by first | rfl | (show ((_ : Nat) : Int) = ((_ : Nat) : Int); congr 1)) ?_
  exact h
theorem lex4a (h : LexL (p + 29) (10 :: R) r) : LexL p (([103, 40, 88, 41, 32, 45, 62, 32, 99, 97, 115, 101, 32, 88, 32, 111, 102, 32, 97, 32, 45, 62, 32, 98, 32, 101, 110, 100, 46, 10] ++ R)) (formK (p + 0) 4 ++ r) := by
  refine LexL.next (b := 0) (u := [103]) (rest := 40 :: 88 :: 41 :: 32 :: 45 :: 62 :: 32 :: 99 :: 97 :: 115 :: 101 :: 32 :: 88 :: 32 :: 111 :: 102 :: 32 :: 97 :: 32 :: 45 :: 62 :: 32 :: 98 :: 32 :: 101 :: 110 :: 100 :: 46 :: 10 :: R) (kd := 1) (by rfl) rfl (by simp) one_w_103_40 rfl (by first | rfl | (show ((_ : Nat) : Int) = ((_ : Nat) : Int); congr 1)) ?_
  refine LexL.next (b := 0) (u := [40]) (rest := 88 :: 41 :: 32 :: 45 :: 62 :: 32 :: 99 :: 97 :: 115 :: 101 :: 32 :: 88 :: 32 :: 111 :: 102 :: 32 :: 97 :: 32 :: 45 :: 62 :: 32 :: 98 :: 32 :: 101 :: 110 :: 100 :: 46 :: 10 :: R) (kd := 9) (by rfl) rfl (by simp) one_s_40_88_41 rfl (by first | rfl | (show ((_ : Nat) : Int) = ((_ : Nat) : Int); congr 1)) ?_
  refine LexL.next (b := 0) (u := [88]) (rest := 41 :: 32 :: 45 :: 62 :: 32 :: 99 :: 97 :: 115 :: 101 :: 32 :: 88 :: 32 :: 111 :: 102 :: 32 :: 97 :: 32 :: 45 :: 62 :: 32 :: 98 :: 32 :: 101 :: 110 :: 100 :: 46 :: 10 :: R) (kd := 2) (by rfl) rfl (by simp) one_w_88_41 rfl (by first | rfl | (show ((_ : Nat) : Int) = ((_ : Nat) : Int); congr 1)) ?_
  refine LexL.next (b := 0) (u := [41]) (rest := 32 :: 45 :: 62 :: 32 :: 99 :: 97 :: 115 :: 101 :: 32 :: 88 :: 32 :: 111 :: 102 :: 32 :: 97 :: 32 :: 45 :: 62 :: 32 :: 98 :: 32 :: 101 :: 110 :: 100 :: 46 :: 10 :: R) (kd := 9) (by rfl) rfl (by simp) one_s_41_32_45 rfl (by first | rfl | (show ((_ : Nat) : Int) = ((_ : Nat) : Int); congr 1)) ?_
  refine LexL.next (b := 1) (u := [45, 62]) (rest := 32 :: 99 :: 97 :: 115 :: 101 :: 32 :: 88 :: 32 :: 111 :: 102 :: 32 :: 97 :: 32 :: 45 :: 62 :: 32 :: 98 :: 32 :: 101 :: 110 :: 100 :: 46 :: 10 :: R) (kd := 9) (by rfl) rfl (by simp) one_s_45_62_32 rfl (by first | rfl | (show ((_ : Nat) : Int) = ((_ : Nat) : Int); congr 1)) ?_
  refine LexL.next (b := 1) (u := [99, 97, 115, 101]) (rest := 32 :: 88 :: 32 :: 111 :: 102 :: 32 :: 97 :: 32 :: 45 :: 62 :: 32 :: 98 :: 32 :: 101 :: 110 :: 100 :: 46 :: 10 :: R) (kd := 8) (by rfl) rfl (by simp) one_w_99_97_115_101_32 rfl (by first | rfl | (show ((_ : Nat) : Int) = ((_ : Nat) : Int); congr 1)) ?_
  refine LexL.next (b := 1) (u := [88]) (rest := 32 :: 111 :: 102 :: 32 :: 97 :: 32 :: 45 :: 62 :: 32 :: 98 :: 32 :: 101 :: 110 :: 100 :: 46 :: 10 :: R) (kd := 2) (by rfl) rfl (by simp) one_w_88_32 rfl (by first | rfl | (show ((_ : Nat) : Int) = ((_ : Nat) : Int); congr 1)) ?_
  refine LexL.next (b := 1) (u := [111, 102]) (rest := 32 :: 97 :: 32 :: 45 :: 62 :: 32 :: 98 :: 32 :: 101 :: 110 :: 100 :: 46 :: 10 :: R) (kd := 8) (by rfl) rfl (by simp) one_w_111_102_32 rfl (by first | rfl | (show ((_ : Nat) : Int) = ((_ : Nat) : Int); congr 1)) ?_
  refine LexL.next (b := 1) (u := [97]) (rest := 32 :: 45 :: 62 :: 32 :: 98 :: 32 :: 101 :: 110 :: 100 :: 46 :: 10 :: R) (kd := 1) (by rfl) rfl (by simp) one_w_97_32 rfl (by first | rfl | (show ((_ : Nat) : Int) = ((_ : Nat) : Int); congr 1)) ?_
  refine LexL.next (b := 1) (u := [45, 62]) (rest := 32 :: 98 :: 32 :: 101 :: 110 :: 100 :: 46 :: 10 :: R) (kd := 9) (by rfl) rfl (by simp) one_s_45_62_32 rfl (by first | rfl | (show ((_ : Nat) : Int) = ((_ : Nat) : Int); congr 1)) ?_
  refine LexL.next (b := 1) (u := [98]) (rest := 32 :: 101 :: 110 :: 100 :: 46 :: 10 :: R) (kd := 1) (by rfl) rfl (by simp) one_w_98_32 rfl (by first | rfl | (show ((_ : Nat) : Int) = ((_ : Nat) : Int); congr 1)) ?_
  refine LexL.next (b := 1) (u := [101, 110, 100]) (rest := 46 :: 10 :: R) (kd := 8) (by rfl) rfl (by simp) one_w_101_110_100_46 rfl (by first | rfl | (show ((_ : Nat) : Int) = ((_ : Nat) : Int); congr 1)) ?_
  refine LexL.next (b := 0) (u := [46]) (rest := 10 :: R) (kd := 10) (by rfl) rfl (by simp) one_dot_l rfl (by first | rfl | (show ((_ : Nat) : Int) = ((_ : Nat) : Int); congr 1)) ?_
  exact h
theorem lex4b (h : LexL (p + 30) (10 :: R) r) : LexL p (10 :: ([103, 40, 88, 41, 32, 45, 62, 32, 99, 97, 115, 101, 32, 88, 32, 111, 102, 32, 97, 32, 45, 62, 32, 98, 32, 101, 110, 100, 46, 10] ++ R)) (formK (p + 1) 4 ++ r) := by
  refine LexL.next (b := 1) (u := [103]) (rest := 40 :: 88 :: 41 :: 32 :: 45 :: 62 :: 32 :: 99 :: 97 :: 115 :: 101 :: 32 :: 88 :: 32 :: 111 :: 102 :: 32 :: 97 :: 32 :: 45 :: 62 :: 32 :: 98 :: 32 :: 101 :: 110 :: 100 :: 46 :: 10 :: R) (kd := 1) (by rfl) rfl (by simp) one_w_103_40 rfl (by first | rfl | (show ((_ : Nat) : Int) = ((_ : Nat) : Int); congr 1)) ?_
  refine LexL.next (b := 0) (u := [40]) (rest := 88 :: 41 :: 32 :: 45 :: 62 :: 32 :: 99 :: 97 :: 115 :: 101 :: 32 :: 88 :: 32 :: 111 :: 102 :: 32 :: 97 :: 32 :: 45 :: 62 :: 32 :: 98 :: 32 :: 101 :: 110 :: 100 :: 46 :: 10 :: R) (kd := 9) (by rfl) rfl (by simp) one_s_40_88_41 rfl (by first | rfl | (show ((_ : Nat) : Int) = ((_ : Nat) : Int); congr 1)) ?_
  refine LexL.next (b := 0) (u := [88]) (rest := 41 :: 32 :: 45 :: 62 :: 32 :: 99 :: 97 :: 115 :: 101 :: 32 :: 88 :: 32 :: 111 :: 102 :: 32 :: 97 :: 32 :: 45 :: 62 :: 32 :: 98 :: 32 :: 101 :: 110 :: 100 :: 46 :: 10 :: R) (kd := 2) (by rfl) rfl (by simp) one_w_88_41 rfl (by first | rfl | (show ((_ : Nat) : Int) = ((_ : Nat) : Int); congr 1)) ?_
  refine LexL.next (b := 0) (u := [41]) (rest := 32 :: 45 :: 62 :: 32 :: 99 :: 97 :: 115 :: 101 :: 32 :: 88 :: 32 :: 111 :: 102 :: 32 :: 97 :: 32 :: 45 :: 62 :: 32 :: 98 :: 32 :: 101 :: 110 :: 100 :: 46 :: 10 :: R) (kd := 9) (by rfl) rfl (by simp) one_s_41_32_45 rfl (by first | rfl | (show ((_ : Nat) : Int) = ((_ : Nat) : Int); congr 1)) ?_
  refine LexL.next (b := 1) (u := [45, 62]) (rest := 32 :: 99 :: 97 :: 115 :: 101 :: 32 :: 88 :: 32 :: 111 :: 102 :: 32 :: 97 :: 32 :: 45 :: 62 :: 32 :: 98 :: 32 :: 101 :: 110 :: 100 :: 46 :: 10 :: R) (kd := 9) (by rfl) rfl (by simp) one_s_45_62_32 rfl (by first | rfl | (show ((_ : Nat) : Int) = ((_ : Nat) : Int); congr 1)) ?_
  refine LexL.next (b := 1) (u := [99, 97, 115, 101]) (rest := 32 :: 88 :: 32 :: 111 :: 102 :: 32 :: 97 :: 32 :: 45 :: 62 :: 32 :: 98 :: 32 :: 101 :: 110 :: 100 :: 46 :: 10 :: R) (kd := 8) (by rfl) rfl (by simp) one_w_99_97_115_101_32 rfl (by first | rfl | (show ((_ : Nat) : Int) = ((_ : Nat) : Int); congr 1)) ?_
  refine LexL.next (b := 1) (u := [88]) (rest := 32 :: 111 :: 102 :: 32 :: 97 :: 32 :: 45 :: 62 :: 32 :: 98 :: 32 :: 101 :: 110 :: 100 :: 46 :: 10 :: R) (kd := 2) (by rfl) rfl (by simp) one_w_88_32 rfl (by first | rfl | (show ((_ : Nat) : Int) = ((_ : Nat) : Int); congr 1)) ?_
  refine LexL.next (b := 1) (u := [111, 102]) (rest := 32 :: 97 :: 32 :: 45 :: 62 :: 32 :: 98 :: 32 :: 101 :: 110 :: 100 :: 46 :: 10 :: R) (kd := 8) (by rfl) rfl (by simp) one_w_111_102_32 rfl (by first | rfl | (show ((_ : Nat) : Int) = ((_ : Nat) : Int); congr 1)) ?_
  refine LexL.next (b := 1) (u := [97]) (rest := 32 :: 45 :: 62 :: 32 :: 98 :: 32 :: 101 :: 110 :: 100 :: 46 :: 10 :: R) (kd := 1) (by rfl) rfl (by simp) one_w_97_32 rfl (by first | rfl | (show ((_ : Nat) : Int) = ((_ : Nat) : Int); congr 1)) ?_
  refine LexL.next (b := 1) (u := [45, 62]) (rest := 32 :: 98 :: 32 :: 101 :: 110 :: 100 :: 46 :: 10 :: R) (kd := 9) (by rfl) rfl (by simp) one_s_45_62_32 rfl (by first | rfl | (show ((_ : Nat) : Int) = ((_ : Nat) : Int); congr 1)) ?_
  refine LexL.next (b := 1) (u := [98]) (rest := 32 :: 101 :: 110 :: 100 :: 46 :: 10 :: R) (kd := 1) (by rfl) rfl (by simp) one_w_98_32 rfl (by first | rfl | (show ((_ : Nat) : Int) = ((_ : Nat) : Int); congr 1)) ?_
  refine LexL.next (b := 1) (u := [101, 110, 100]) (rest := 46 :: 10 :: R) (kd := 8) (by rfl) rfl (by simp) one_w_101_110_100_46 rfl (by first | rfl | (show ((_ : Nat) : Int) = ((_ : Nat) : Int); congr 1)) ?_
  refine LexL.next (b := 0) (u := [46]) (rest := 10 :: R) (kd := 10) (by rfl) rfl (by simp) one_dot_l rfl (by first | rfl | (show ((_ : Nat) : Int) = ((_ : Nat) : Int); congr 1)) ?_
  exact h
theorem lex5a (h : LexL (p + 21) (10 :: R) r) : LexL p (([104, 40, 41, 32, 45, 62, 32, 91, 88, 32, 124, 124, 32, 88, 32, 60, 45, 32, 108, 93, 46, 10] ++ R)) (formK (p + 0) 5 ++ r) := by
  refine LexL.next (b := 0) (u := [104]) (rest := 40 :: 41 :: 32 :: 45 :: 62 :: 32 :: 91 :: 88 :: 32 :: 124 :: 124 :: 32 :: 88 :: 32 :: 60 :: 45 :: 32 :: 108 :: 93 :: 46 :: 10 :: R) (kd := 1) (by rfl) rfl (by simp) one_w_104_40 rfl (by first | rfl | (show ((_ : Nat) : Int) = ((_ : Nat) : Int); congr 1)) ?_
  refine LexL.next (b := 0) (u := [40]) (rest := 41 :: 32 :: 45 :: 62 :: 32 :: 91 :: 88 :: 32 :: 124 :: 124 :: 32 :: 88 :: 32 :: 60 :: 45 :: 32 :: 108 :: 93 :: 46 :: 10 :: R) (kd := 9) (by rfl) rfl (by simp) one_s_40_41_32 rfl (by first | rfl | (show ((_ : Nat) : Int) = ((_ : Nat) : Int); congr 1)) ?_
  refine LexL.next (b := 0) (u := [41]) (rest := 32 :: 45 :: 62 :: 32 :: 91 :: 88 :: 32 :: 124 :: 124 :: 32 :: 88 :: 32 :: 60 :: 45 :: 32 :: 108 :: 93 :: 46 :: 10 :: R) (kd := 9) (by rfl) rfl (by simp) one_s_41_32_45 rfl (by first | rfl | (show ((_ : Nat) : Int) = ((_ : Nat) : Int); congr 1)) ?_
  refine LexL.next (b := 1) (u := [45, 62]) (rest := 32 :: 91 :: 88 :: 32 :: 124 :: 124 :: 32 :: 88 :: 32 :: 60 :: 45 :: 32 :: 108 :: 93 :: 46 :: 10 :: R) (kd := 9) (by rfl) rfl (by simp) one_s_45_62_32 rfl (by first | rfl | (show ((_ : Nat) : Int) = ((_ : Nat) : Int); congr 1)) ?_
  refine LexL.next (b := 1) (u := [91]) (rest := 88 :: 32 :: 124 :: 124 :: 32 :: 88 :: 32 :: 60 :: 45 :: 32 :: 108 :: 93 :: 46 :: 10 :: R) (kd := 9) (by rfl) rfl (by simp) one_s_91_88_32 rfl (by first | rfl | (show ((_ : Nat) : Int) = ((_ : Nat) : Int); congr 1)) ?_
  refine LexL.next (b := 0) (u := [88]) (rest := 32 :: 124 :: 124 :: 32 :: 88 :: 32 :: 60 :: 45 :: 32 :: 108 :: 93 :: 46 :: 10 :: R) (kd := 2) (by rfl) rfl (by simp) one_w_88_32 rfl (by first | rfl | (show ((_ : Nat) : Int) = ((_ : Nat) : Int); congr 1)) ?_
  refine LexL.next (b := 1) (u := [124, 124]) (rest := 32 :: 88 :: 32 :: 60 :: 45 :: 32 :: 108 :: 93 :: 46 :: 10 :: R) (kd := 9) (by rfl) rfl (by simp) one_s_124_124_32 rfl (by first | rfl | (show ((_ : Nat) : Int) = ((_ : Nat) : Int); congr 1)) ?_
  refine LexL.next (b := 1) (u := [88]) (rest := 32 :: 60 :: 45 :: 32 :: 108 :: 93 :: 46 :: 10 :: R) (kd := 2) (by rfl) rfl (by simp) one_w_88_32 rfl (by first | rfl | (show ((_ : Nat) : Int) = ((_ : Nat) : Int); congr 1)) ?_
  refine LexL.next (b := 1) (u := [60, 45]) (rest := 32 :: 108 :: 93 :: 46 :: 10 :: R) (kd := 9) (by rfl) rfl (by simp) one_s_60_45_32 rfl (by first | rfl | (show ((_ : Nat) : Int) = ((_ : Nat) : Int); congr 1)) ?_
  refine LexL.next (b := 1) (u := [108]) (rest := 93 :: 46 :: 10 :: R) (kd := 1) (by rfl) rfl (by simp) one_w_108_93 rfl (by first | rfl | (show ((_ : Nat) : Int) = ((_ : Nat) : Int); congr 1)) ?_
  refine LexL.next (b := 0) (u := [93]) (rest := 46 :: 10 :: R) (kd := 9) (by rfl) rfl (by simp) one_s_93_46_10 rfl (by first | rfl | (show ((_ : Nat) : Int) = ((_ : Nat) : Int); congr 1)) ?_
  refine LexL.next (b := 0) (u := [46]) (rest := 10 :: R) (kd := 10) (by rfl) rfl (by simp) one_dot_l rfl (by first | rfl | (show ((_ : Nat) : Int) = ((_ : Nat) : Int); congr 1)) ?_
  exact h
theorem lex5b (h : LexL (p + 22) (10 :: R) r) : LexL p (10 :: ([104, 40, 41, 32, 45, 62, 32, 91, 88, 32, 124, 124, 32, 88, 32, 60, 45, 32, 108, 93, 46, 10] ++ R)) (formK (p + 1) 5 ++ r) := by
  refine LexL.next (b := 1) (u := [104]) (rest := 40 :: 41 :: 32 :: 45 :: 62 :: 32 :: 91 :: 88 :: 32 :: 124 :: 124 :: 32 :: 88 :: 32 :: 60 :: 45 :: 32 :: 108 :: 93 :: 46 :: 10 :: R) (kd := 1) (by rfl) rfl (by simp) one_w_104_40 rfl (by first | rfl | (show ((_ : Nat) : Int) = ((_ : Nat) : Int); congr 1)) ?_
  refine LexL.next (b := 0) (u := [40]) (rest := 41 :: 32 :: 45 :: 62 :: 32 :: 91 :: 88 :: 32 :: 124 :: 124 :: 32 :: 88 :: 32 :: 60 :: 45 :: 32 :: 108 :: 93 :: 46 :: 10 :: R) (kd := 9) (by rfl) rfl (by simp) one_s_40_41_32 rfl (by first | rfl | (show ((_ : Nat) : Int) = ((_ : Nat) : Int); congr 1)) ?_
  refine LexL.next (b := 0) (u := [41]) (rest := 32 :: 45 :: 62 :: 32 :: 91 :: 88 :: 32 :: 124 :: 124 :: 32 :: 88 :: 32 :: 60 :: 45 :: 32 :: 108 :: 93 :: 46 :: 10 :: R) (kd := 9) (by rfl) rfl (by simp) one_s_41_32_45 rfl (by first | rfl | (show ((_ : Nat) : Int) = ((_ : Nat) : Int); congr 1)) ?_
  refine LexL.next (b := 1) (u := [45, 62]) (rest := 32 :: 91 :: 88 :: 32 :: 124 :: 124 :: 32 :: 88 :: 32 :: 60 :: 45 :: 32 :: 108 :: 93 :: 46 :: 10 :: R) (kd := 9) (by rfl) rfl (by simp) one_s_45_62_32 rfl (by first | rfl | (show ((_ : Nat) : Int) = ((_ : Nat) : Int); congr 1)) ?_
  refine LexL.next (b := 1) (u := [91]) (rest := 88 :: 32 :: 124 :: 124 :: 32 :: 88 :: 32 :: 60 :: 45 :: 32 :: 108 :: 93 :: 46 :: 10 :: R) (kd := 9) (by rfl) rfl (by simp) one_s_91_88_32 rfl (by first | rfl | (show ((_ : Nat) : Int) = ((_ : Nat) : Int); congr 1)) ?_
  refine LexL.next (b := 0) (u := [88]) (rest := 32 :: 124 :: 124 :: 32 :: 88 :: 32 :: 60 :: 45 :: 32 :: 108 :: 93 :: 46 :: 10 :: R) (kd := 2) (by rfl) rfl (by simp) one_w_88_32 rfl (by first | rfl | (show ((_ : Nat) : Int) = ((_ : Nat) : Int); congr 1)) ?_
  refine LexL.next (b := 1) (u := [124, 124]) (rest := 32 :: 88 :: 32 :: 60 :: 45 :: 32 :: 108 :: 93 :: 46 :: 10 :: R) (kd := 9) (by rfl) rfl (by simp) one_s_124_124_32 rfl (by first | rfl | (show ((_ : Nat) : Int) = ((_ : Nat) : Int); congr 1)) ?_
  refine LexL.next (b := 1) (u := [88]) (rest := 32 :: 60 :: 45 :: 32 :: 108 :: 93 :: 46 :: 10 :: R) (kd := 2) (by rfl) rfl (by simp) one_w_88_32 rfl (by first | rfl | (show ((_ : Nat) : Int) = ((_ : Nat) : Int); congr 1)) ?_
  refine LexL.next (b := 1) (u := [60, 45]) (rest := 32 :: 108 :: 93 :: 46 :: 10 :: R) (kd := 9) (by rfl) rfl (by simp) one_s_60_45_32 rfl (by first | rfl | (show ((_ : Nat) : Int) = ((_ : Nat) : Int); congr 1)) ?_
  refine LexL.next (b := 1) (u := [108]) (rest := 93 :: 46 :: 10 :: R) (kd := 1) (by rfl) rfl (by simp) one_w_108_93 rfl (by first | rfl | (show ((_ : Nat) : Int) = ((_ : Nat) : Int); congr 1)) ?_
  refine LexL.next (b := 0) (u := [93]) (rest := 46 :: 10 :: R) (kd := 9) (by rfl) rfl (by simp) one_s_93_46_10 rfl (by first | rfl | (show ((_ : Nat) : Int) = ((_ : Nat) : Int); congr 1)) ?_
  refine LexL.next (b := 0) (u := [46]) (rest := 10 :: R) (kd := 10) (by rfl) rfl (by simp) one_dot_l rfl (by first | rfl | (show ((_ : Nat) : Int) = ((_ : Nat) : Int); congr 1)) ?_
  exact h
theorem lex6a (h : LexL (p + 10) (10 :: R) r) : LexL p (([45, 116, 32, 97, 32, 58, 58, 32, 98, 46, 10] ++ R)) (formK (p + 0) 6 ++ r) := by
  refine LexL.next (b := 0) (u := [45]) (rest := 116 :: 32 :: 97 :: 32 :: 58 :: 58 :: 32 :: 98 :: 46 :: 10 :: R) (kd := 9) (by rfl) rfl (by simp) one_s_45_116_32 rfl (by first | rfl | (show ((_ : Nat) : Int) = ((_ : Nat) : Int); congr 1)) ?_
  refine LexL.next (b := 0) (u := [116]) (rest := 32 :: 97 :: 32 :: 58 :: 58 :: 32 :: 98 :: 46 :: 10 :: R) (kd := 1) (by rfl) rfl (by simp) one_w_116_32 rfl (by first | rfl | (show ((_ : Nat) : Int) = ((_ : Nat) : Int); congr 1)) ?_
  refine LexL.next (b := 1) (u := [97]) (rest := 32 :: 58 :: 58 :: 32 :: 98 :: 46 :: 10 :: R) (kd := 1) (by rfl) rfl (by simp) one_w_97_32 rfl (by first | rfl | (show ((_ : Nat) : Int) = ((_ : Nat) : Int); congr 1)) ?_
  refine LexL.next (b := 1) (u := [58, 58]) (rest := 32 :: 98 :: 46 :: 10 :: R) (kd := 9) (by rfl) rfl (by simp) one_s_58_58_32 rfl (by first | rfl | (show ((_ : Nat) : Int) = ((_ : Nat) : Int); congr 1)) ?_
  refine LexL.next (b := 1) (u := [98]) (rest := 46 :: 10 :: R) (kd := 1) (by rfl) rfl (by simp) one_w_98_46 rfl (by first | rfl | (show ((_ : Nat) : Int) = ((_ : Nat) : Int); congr 1)) ?_
  refine LexL.next (b := 0) (u := [46]) (rest := 10 :: R) (kd := 10) (by rfl) rfl (by simp) one_dot_l rfl (by first | rfl | (show ((_ : Nat) : Int) = ((_ : Nat) : Int); congr 1)) ?_
  exact h
theorem lex6b (h : LexL (p + 11) (10 :: R) r) : LexL p (10 :: ([45, 116, 32, 97, 32, 58, 58, 32, 98, 46, 10] ++ R)) (formK (p + 1) 6 ++ r) := by
  refine LexL.next (b := 1) (u := [45]) (rest := 116 :: 32 :: 97 :: 32 :: 58 :: 58 :: 32 :: 98 :: 46 :: 10 :: R) (kd := 9) (by rfl) rfl (by simp) one_s_45_116_32 rfl (by first | rfl | (show ((_ : Nat) : Int) = ((_ : Nat) : Int); congr 1)) ?_
  refine LexL.next (b := 0) (u := [116]) (rest := 32 :: 97 :: 32 :: 58 :: 58 :: 32 :: 98 :: 46 :: 10 :: R) (kd := 1) (by rfl) rfl (by simp) one_w_116_32 rfl (by first | rfl | (show ((_ : Nat) : Int) = ((_ : Nat) : Int); congr 1)) ?_
  refine LexL.next (b := 1) (u := [97]) (rest := 32 :: 58 :: 58 :: 32 :: 98 :: 46 :: 10 :: R) (kd := 1) (by rfl) rfl (by simp) one_w_97_32 rfl (by first | rfl | (show ((_ : Nat) : Int) = ((_ : Nat) : Int); congr 1)) ?_
  refine LexL.next (b := 1) (u := [58, 58]) (rest := 32 :: 98 :: 46 :: 10 :: R) (kd := 9) (by rfl) rfl (by simp) one_s_58_58_32 rfl (by first | rfl | (show ((_ : Nat) : Int) = ((_ : Nat) : Int); congr 1)) ?_
  refine LexL.next (b := 1) (u := [98]) (rest := 46 :: 10 :: R) (kd := 1) (by rfl) rfl (by simp) one_w_98_46 rfl (by first | rfl | (show ((_ : Nat) : Int) = ((_ : Nat) : Int); congr 1)) ?_
  refine LexL.next (b := 0) (u := [46]) (rest := 10 :: R) (kd := 10) (by rfl) rfl (by simp) one_dot_l rfl (by first | rfl | (show ((_ : Nat) : Int) = ((_ : Nat) : Int); congr 1)) ?_
  exact h
theorem lex7a (h : LexL (p + 15) (10 :: R) r) : LexL p (([102, 40, 41, 32, 45, 62, 32, 103, 40, 97, 44, 32, 97, 41, 46, 10] ++ R)) (formK (p + 0) 7 ++ r) := by
  refine LexL.next (b := 0) (u := [102]) (rest := 40 :: 41 :: 32 :: 45 :: 62 :: 32 :: 103 :: 40 :: 97 :: 44 :: 32 :: 97 :: 41 :: 46 :: 10 :: R) (kd := 1) (by rfl) rfl (by simp) one_w_102_40 rfl (by first | rfl | (show ((_ : Nat) : Int) = ((_ : Nat) : Int); congr 1)) ?_
  refine LexL.next (b := 0) (u := [40]) (rest := 41 :: 32 :: 45 :: 62 :: 32 :: 103 :: 40 :: 97 :: 44 :: 32 :: 97 :: 41 :: 46 :: 10 :: R) (kd := 9) (by rfl) rfl (by simp) one_s_40_41_32 rfl (by first | rfl | (show ((_ : Nat) : Int) = ((_ : Nat) : Int); congr 1)) ?_
  refine LexL.next (b := 0) (u := [41]) (rest := 32 :: 45 :: 62 :: 32 :: 103 :: 40 :: 97 :: 44 :: 32 :: 97 :: 41 :: 46 :: 10 :: R) (kd := 9) (by rfl) rfl (by simp) one_s_41_32_45 rfl (by first | rfl | (show ((_ : Nat) : Int) = ((_ : Nat) : Int); congr 1)) ?_
  refine LexL.next (b := 1) (u := [45, 62]) (rest := 32 :: 103 :: 40 :: 97 :: 44 :: 32 :: 97 :: 41 :: 46 :: 10 :: R) (kd := 9) (by rfl) rfl (by simp) one_s_45_62_32 rfl (by first | rfl | (show ((_ : Nat) : Int) = ((_ : Nat) : Int); congr 1)) ?_
  refine LexL.next (b := 1) (u := [103]) (rest := 40 :: 97 :: 44 :: 32 :: 97 :: 41 :: 46 :: 10 :: R) (kd := 1) (by rfl) rfl (by simp) one_w_103_40 rfl (by first | rfl | (show ((_ : Nat) : Int) = ((_ : Nat) : Int); congr 1)) ?_
  refine LexL.next (b := 0) (u := [40]) (rest := 97 :: 44 :: 32 :: 97 :: 41 :: 46 :: 10 :: R) (kd := 9) (by rfl) rfl (by simp) one_s_40_97_44 rfl (by first | rfl | (show ((_ : Nat) : Int) = ((_ : Nat) : Int); congr 1)) ?_
  refine LexL.next (b := 0) (u := [97]) (rest := 44 :: 32 :: 97 :: 41 :: 46 :: 10 :: R) (kd := 1) (by rfl) rfl (by simp) one_w_97_44 rfl (by first | rfl | (show ((_ : Nat) : Int) = ((_ : Nat) : Int); congr 1)) ?_
  refine LexL.next (b := 0) (u := [44]) (rest := 32 :: 97 :: 41 :: 46 :: 10 :: R) (kd := 9) (by rfl) rfl (by simp) one_s_44_32_97 rfl (by first | rfl | (show ((_ : Nat) : Int) = ((_ : Nat) : Int); congr 1)) ?_
  refine LexL.next (b := 1) (u := [97]) (rest := 41 :: 46 :: 10 :: R) (kd := 1) (by rfl) rfl (by simp) one_w_97_41 rfl (by first | rfl | (show ((_ : Nat) : Int) = ((_ : Nat) : Int); congr 1)) ?_
  refine LexL.next (b := 0) (u := [41]) (rest := 46 :: 10 :: R) (kd := 9) (by rfl) rfl (by simp) one_s_41_46_10 rfl (by first | rfl | (show ((_ : Nat) : Int) = ((_ : Nat) : Int); congr 1)) ?_
  refine LexL.next (b := 0) (u := [46]) (rest := 10 :: R) (kd := 10) (by rfl) rfl (by simp) one_dot_l rfl (by first | rfl | (show ((_ : Nat) : Int) = ((_ : Nat) : Int); congr 1)) ?_
  exact h
theorem lex7b (h : LexL (p + 16) (10 :: R) r) : LexL p (10 :: ([102, 40, 41, 32, 45, 62, 32, 103, 40, 97, 44, 32, 97, 41, 46, 10] ++ R)) (formK (p + 1) 7 ++ r) := by
  refine LexL.next (b := 1) (u := [102]) (rest := 40 :: 41 :: 32 :: 45 :: 62 :: 32 :: 103 :: 40 :: 97 :: 44 :: 32 :: 97 :: 41 :: 46 :: 10 :: R) (kd := 1) (by rfl) rfl (by simp) one_w_102_40 rfl (by first | rfl | (show ((_ : Nat) : Int) = ((_ : Nat) : Int); congr 1)) ?_
  refine LexL.next (b := 0) (u := [40]) (rest := 41 :: 32 :: 45 :: 62 :: 32 :: 103 :: 40 :: 97 :: 44 :: 32 :: 97 :: 41 :: 46 :: 10 :: R) (kd := 9) (by rfl) rfl (by simp) one_s_40_41_32 rfl (by first | rfl | (show ((_ : Nat) : Int) = ((_ : Nat) : Int); congr 1)) ?_
  refine LexL.next (b := 0) (u := [41]) (rest := 32 :: 45 :: 62 :: 32 :: 103 :: 40 :: 97 :: 44 :: 32 :: 97 :: 41 :: 46 :: 10 :: R) (kd := 9) (by rfl) rfl (by simp) one_s_41_32_45 rfl (by first | rfl | (show ((_ : Nat) : Int) = ((_ : Nat) : Int); congr 1)) ?_
  refine LexL.next (b := 1) (u := [45, 62]) (rest := 32 :: 103 :: 40 :: 97 :: 44 :: 32 :: 97 :: 41 :: 46 :: 10 :: R) (kd := 9) (by rfl) rfl (by simp) one_s_45_62_32 rfl (by first | rfl | (show ((_ : Nat) : Int) = ((_ : Nat) : Int); congr 1)) ?_
  refine LexL.next (b := 1) (u := [103]) (rest := 40 :: 97 :: 44 :: 32 :: 97 :: 41 :: 46 :: 10 :: R) (kd := 1) (by rfl) rfl (by simp) one_w_103_40 rfl (by first | rfl | (show ((_ : Nat) : Int) = ((_ : Nat) : Int); congr 1)) ?_
  refine LexL.next (b := 0) (u := [40]) (rest := 97 :: 44 :: 32 :: 97 :: 41 :: 46 :: 10 :: R) (kd := 9) (by rfl) rfl (by simp) one_s_40_97_44 rfl (by first | rfl | (show ((_ : Nat) : Int) = ((_ : Nat) : Int); congr 1)) ?_
  refine LexL.next (b := 0) (u := [97]) (rest := 44 :: 32 :: 97 :: 41 :: 46 :: 10 :: R) (kd := 1) (by rfl) rfl (by simp) one_w_97_44 rfl (by first | rfl | (show ((_ : Nat) : Int) = ((_ : Nat) : Int); congr 1)) ?_
  refine LexL.next (b := 0) (u := [44]) (rest := 32 :: 97 :: 41 :: 46 :: 10 :: R) (kd := 9) (by rfl) rfl (by simp) one_s_44_32_97 rfl (by first | rfl | (show ((_ : Nat) : Int) = ((_ : Nat) : Int); congr 1)) ?_
  refine LexL.next (b := 1) (u := [97]) (rest := 41 :: 46 :: 10 :: R) (kd := 1) (by rfl) rfl (by simp) one_w_97_41 rfl (by first | rfl | (show ((_ : Nat) : Int) = ((_ : Nat) : Int); congr 1)) ?_
  refine LexL.next (b := 0) (u := [41]) (rest := 46 :: 10 :: R) (kd := 9) (by rfl) rfl (by simp) one_s_41_46_10 rfl (by first | rfl | (show ((_ : Nat) : Int) = ((_ : Nat) : Int); congr 1)) ?_
  refine LexL.next (b := 0) (u := [46]) (rest := 10 :: R) (kd := 10) (by rfl) rfl (by simp) one_dot_l rfl (by first | rfl | (show ((_ : Nat) : Int) = ((_ : Nat) : Int); congr 1)) ?_
  exact h
theorem lex_b : ∀ (f : Nat), LexL (p + (formB f).length) (10 :: R) r → LexL p (10 :: (formB f ++ R)) (formK (p + 1) f ++ r)
  | 0, h => lex0b h
  | 1, h => lex1b h
  | 2, h => lex2b h
  | 3, h => lex3b h
  | 4, h => lex4b h
  | 5, h => lex5b h
  | 6, h => lex6b h
  | _ + 7, h => lex7b h
theorem lex_a : ∀ (f : Nat), LexL (p + ((formB f).length - 1)) (10 :: R) r → LexL p (formB f ++ R) (formK (p + 0) f ++ r)
  | 0, h => lex0a h
  | 1, h => lex1a h
  | 2, h => lex2a h
  | 3, h => lex3a h
  | 4, h => lex4a h
  | 5, h => lex5a h
  | 6, h => lex6a h
  | _ + 7, h => lex7a h
end
theorem formB_pos : ∀ f, 1 ≤ (formB f).length
  | 0 => by show 1 ≤ 10; omega
  | 1 => by show 1 ≤ 7; omega
  | 2 => by show 1 ≤ 5; omega
  | 3 => by show 1 ≤ 5; omega
  | 4 => by show 1 ≤ 30; omega
  | 5 => by show 1 ≤ 22; omega
  | 6 => by show 1 ≤ 11; omega
  | _ + 7 => by show 1 ≤ 16; omega
theorem lex_tail : ∀ (fs : List Nat) (p : Nat), LexL p (10 :: textB fs) (textK (p + 1) fs)
  | [], p => by
    show skip [10] = 1
    rfl
  | f :: r, p => by
    have h := lex_tail r (p + (formB f).length)
    rw [show p + (formB f).length + 1 = p + 1 + (formB f).length by omega] at h
    exact lex_b f h
theorem lex_text : ∀ fs : List Nat, LexL 0 (textB fs) (textK 0 fs)
  | [] => by
    show skip [] = 0
    rfl
  | f :: r => by
    have h := lex_tail r (0 + ((formB f).length - 1))
    rw [show 0 + ((formB f).length - 1) + 1 = 0 + (formB f).length by have := formB_pos f; omega] at h
    exact lex_a f h
end Go.Proofs.YthipodffpkglfaaGreatDoor.PS
namespace Go.Proofs.YthipodffpkglfaaGreatDoor.PS
open Go.RowKit Go.Proofs.YthipodffpkglfaaGreatDoorW.PrintWords Go.Proofs.YthipodffpkglfaaGreatDoorW.PrintLast Go.Proofs.YthipodffpkglfaaGreatDoorW.PrintMore
set_option linter.unusedVariables false
set_option linter.unusedSimpArgs false
theorem F41tab13 : rtab .any (opsOf Tryz.f41 13) = (true, [([], []), ([], []), ([1], [1]), ([0, 2], [0, 2]), ([], []), ([], []), ([5], [5]), ([6], [6]), ([4, 7], [4, 7]), ([3, 3, 0, 1, 2, 3], [0, 3]), ([8, 9, 0, 1, 2, 3, 4, 5, 6, 7, 8, 9], [4, 8])]) := by kernel_rfl
def k86 : Kd Tk := Kd.iso (Kd.pair (Kd.int .i64) (Kd.pair Kd.string (Kd.int .i64))) (fun x => (x.k, x.t, x.a))
theorem k86_mk (w : World) (x : Tk) : k86.K w x (tkc x).toList := ⟨[.int .i64 x.k], [.string x.t, .int .i64 x.a], rfl, rfl, [.string x.t], [.int .i64 x.a], rfl, rfl, rfl⟩
theorem k86_open {w : World} {x : Tk} {cs : List Value} (h : k86.K w x cs) : cs = (tkc x).toList := by
  obtain ⟨_, _, rfl, rfl, _, _, rfl, rfl, rfl⟩ := h
  rfl
theorem info86z : (Tryz.prog.info? 86).map (fun i => (i.zero, i.size, i.bytes)) = some (some (.agg #[.int .i64 0, .string (⟨#[]⟩ : ByteArray), .int .i64 0]), 3, 32) := by kernel_rfl
theorem F_lit86 {w : World} {ok : Nat → Prop} {g : Nat} {x : Tk} (hb : w.heap[g]? = some (.cells (tkc x) 86 (0, 0))) (hg : ok g) : Kd.F k86 w ok (some ⟨g, 0, none⟩) [x].length [x] := by
  intro W hW
  have hbW := (hW g hg (blk_lt hb)).trans hb
  refine ⟨rfl, by show 1 ≤ _; omega, fun _ => ⟨⟨g, 0, none⟩, rfl, fun q y hq => ?_⟩⟩
  rcases q with _ | q
  · simp only [List.getElem?_cons_zero, Option.some.injEq] at hq
    subst hq
    refine ⟨_, rfl, k86_mk W x, fun u v hu => ?_⟩
    rw [add_plain, blk_cell hbW]
    simpa using hu
  · simp at hq
theorem TokAt_of {w : World} {ok : Nat → Prop} {A : Option Addr} {l : List Tk} (h : Kd.F k86 w ok A l.length l) : TokAt w A l := by
  intro j x hj
  have hl := (List.getElem?_eq_some_iff.1 hj).1
  obtain ⟨ad, e, _⟩ := (Kd.F_now h).2.2 (by omega)
  refine ⟨ad, e, fun w' hb => ?_⟩
  obtain ⟨ad', e', hc⟩ := (h w' (fun k _ hk => hb.block k hk)).2.2 (by omega)
  rw [e] at e'
  obtain rfl := Option.some.inj e'
  obtain ⟨c, _, hK, hcell⟩ := hc j x hj
  have hcc := k86_open hK
  subst hcc
  exact ⟨hcell 0 _ rfl, by rw [← add_field _ _ 1 (by omega)]; exact hcell 1 _ rfl, by rw [← add_field _ _ 2 (by omega)]; exact hcell 2 _ rfl⟩
theorem wp_jumps {P : Program} {Q : Exit → Act → World → Prop} {a : Act} {w : World} {c X : Code} (l : Nat) (J : Act → World → Prop) (μ : Act → World → Nat) (hf : findLabel c l = some (.seq .skip X)) (pass : ∀ a w, J a w → X.wp P (Exit.jump l (fun a' w' => J a' w' ∧ μ a' w' < μ a w) Q) a w) (first : (∀ a w, J a w → X.wp P (Exit.jump l J Q) a w) → c.wp P (Exit.jump l J Q) a w) : (Code.scope c).wp P Q a w :=
  wp_scope_jumps l J μ hf (first fun a w h => Code.wp.imp (pass a w h) (fun e a w hq => by cases e <;> first | exact hq | exact ⟨hq.1, hq.2.1⟩)) (fun a w h => wp_seq (wp_skip (pass a w h)))
/-- Where Scan stands at its label. -/
def ScJ (s : ByteArray) (all : List Tk) (w0 : World) (a : Act) (W : World) : Prop := ∃ (u1 u2 u3 u6 u7 u8 u9 u10 u11 u12 u13 u14 u15 u16 u17 u18 u19 u20 u21 u22 u23 u24 u25 u26 u27 u28 u29 u30 u31 u32 u33 u34 u35 u36 u37 u38 u39 u40 u41 : Value) (p : Nat) (A : Option Addr) (c : Nat) (xs rem : List Tk) (v4 : Value), a = ⟨#[.string s, u1, u2, u3, v4, .int .i64 (p : Nat), u6, u7, u8, u9, u10, u11, u12, u13, u14, u15, u16, u17, u18, u19, u20, u21, u22, u23, u24, u25, u26, u27, u28, u29, u30, u31, u32, u33, u34, u35, u36, u37, u38, u39, u40, u41], []⟩ ∧ v4 = .slice A xs.length c ∧ Aside0 (p ≤ s.size ∧ LexL p (s.data.toList.drop p) rem ∧ xs ++ rem = all ∧ xs.length ≤ p) ∧ Aside0 (Below w0.heap.size w0 W) ∧ Aside0 (Kd.N k86 86 W w0.heap.size (fun k => w0.heap.size ≤ k) v4 xs)
def scM (s : ByteArray) (a : Act) (_ : World) : Nat := match a.tmps[5]? with | some (Value.int _ v) => (s.size + 1 - v).toNat | _ => 0
theorem lex_step {s : ByteArray} {p : Nat} {x : Tk} {rem : List Tk} (hz : s.size ≤ 65536) (hp : p ≤ s.size) (hl : LexL p (s.data.toList.drop p) (x :: rem)) : ∃ q0 q K, scan_Blank.f K s p = some ((q0 : Nat) : Int) ∧ p ≤ q0 ∧ q0 < q ∧ q ≤ s.size ∧ q0 + x.t.size = q ∧ LexL q (s.data.toList.drop q) rem ∧ ∀ w, Calls Tryz.prog 65 #[.string s, .int .i64 (q0 : Nat)] w fun e w' => e = .returned (.tuple #[.agg (tkc x), .int .i64 0]) ∧ Below w.heap.size w w' := by
  obtain ⟨K, hK⟩ := blank_skip hz hp
  obtain ⟨u, rest, kd, hd, hu, h1, hxe, hrest⟩ := hl
  rw [List.drop_drop] at hd
  obtain ⟨b, hb⟩ : ∃ b, skip (s.data.toList.drop p) = b := ⟨_, rfl⟩
  rw [hb] at hK hd hxe hrest
  have hn : 1 ≤ u.length := by cases u with | nil => exact absurd rfl hu | cons _ _ => simp
  have hlen := congrArg List.length hd
  rw [List.length_drop, ← size_data, List.length_append] at hlen
  have he := ext_eq hd
  have hx2 : x = ⟨kd, s.extract (p + b) (p + b + u.length), ((p + b : Nat) : Int)⟩ := by rw [he]; exact hxe
  have hxs : x.t.size = u.length := by rw [hxe]; exact List.size_toArray
  have hdr : s.data.toList.drop (p + b + u.length) = rest := by rw [← List.drop_drop, hd, List.drop_left]
  have e3 : (s.extract (p + b) s.size).data.toList = u ++ rest := by
    rw [ByteArray.data_extract, Array.toList_extract]
    simp only [List.extract_eq_drop_take']
    rw [List.take_of_length_le (Nat.le_of_eq (size_data s).symm)]
    exact hd
  have ho := h1 _ e3 (by rw [ByteArray.size_extract]; omega)
  have HO := fun w => scanOne_calls (kd := kd) (k := p + b) (n := u.length) hz hn (by omega) ho w
  rw [← hx2] at HO
  exact ⟨p + b, p + b + u.length, K, hK, by omega, by omega, by omega, by rw [hxs], by rw [hdr]; exact hrest, HO⟩
set_option maxHeartbeats 4000000 in
set_option maxRecDepth 100000 in
theorem scan_calls {s : ByteArray} {toks : List Tk} {w0 : World} (hz : s.size ≤ 65536) (hl : LexL 0 s.data.toList toks) (ha : Asc s) : Calls Tryz.prog 41 #[.string s] w0 fun e w' => ∃ A c, e = .returned (.tuple #[.slice A toks.length c, .int .i64 0]) ∧ Kd.F k86 w' (fun k => w0.heap.size ≤ k) A toks.length toks ∧ Below w0.heap.size w0 w' := by
  have hu86 := Tryz.underlying86
  have hu56 := Tryz.underlying56
  have hu9 := Tryz.underlying9
  have hu3 := Tryz.underlying3
  have HZ := Aside0.mk hz
  have HL0 := Aside0.mk hl
  have HA := Aside0.mk ha
  have B := Aside0.mk (Below.refl w0.heap.size w0)
  have c1 : decide (65536 < s.size) = false := decide_eq_false (by omega)
  have c2 : decide ((s.size : Int) > 65536) = false := decide_eq_false (by omega)
  clear hz hl ha
  go_enter Tryz.func41, Tryz.ntmps41
  go_wp2_with fail
  refine wp_jumps 0 (ScJ s toks w0) (scM s) rfl ?pass ?first
  case first =>
    intro hX
    go_wp2_with (first | ((with_reducible refine gate_dst (N := 14) rfl ?_); refine goesL_ (some 14) rfl rfl Tryz.func63 (by kernel_rfl) rfl #[.string s] rfl (by (try simp only [List.map_toArray, List.map_cons, List.map_nil]); first | done | rfl) ?_; (refine (valid_asc HZ.out HA.out _).mono ?_); (rintro e w114 ⟨rfl, hb1⟩; refine ⟨_, rfl, ?_⟩; have n0 := Aside0.mk (B.out.trans (hb1.mono B.out.size)); clear B; have B := n0; clear hb1)))
    refine wp_label ?_
    simp only [Exit.then]
    apply_assumption
    refine hX _ _ ?_
    exact ⟨_, _, _, _, _, _, _, _, _, _, _, _, _, _, _, _, _, _, _, _, _, _, _, _, _, _, _, _, _, _, _, _, _, _, _, _, _, _, _, 0, none, 0, [], toks, _, rfl, rfl, ⟨Nat.zero_le _, HL0.out, rfl, Nat.zero_le _⟩, B, ⟨Kd.N_nil k86 86 _ _ _⟩⟩
  case pass =>
    clear B c1 c2
    intro a w hJ
    obtain ⟨u1, u2, u3, u6, u7, u8, u9, u10, u11, u12, u13, u14, u15, u16, u17, u18, u19, u20, u21, u22, u23, u24, u25, u26, u27, u28, u29, u30, u31, u32, u33, u34, u35, u36, u37, u38, u39, u40, u41, p, A, c, xs, rem, v4, rfl, rfl, HP, B, HN⟩ := hJ
    obtain ⟨hp, hl, hx, hxl⟩ := HP.out
    have F := Aside0.mk (Fg.init (Below.refl w.heap.size w))
    have SZ := Aside0.mk B.out.size
    cases rem with
    | nil =>
      obtain ⟨K, hK⟩ := blank_skip HZ.out hp
      have hq : p + skip (s.data.toList.drop p) = s.size := by
        have h1 : skip (s.data.toList.drop p) = (s.data.toList.drop p).length := hl
        rw [h1, List.length_drop, ← size_data]; omega
      rw [hq] at hK
      have HKB := Aside0.mk hK
      rw [List.append_nil] at hx
      have HX := Aside0.mk hx
      clear HP hp hl hx hxl hK hq
      go_wp2_with (first | ((with_reducible refine gate_dst (N := 18) rfl ?_); refine goesL_ (some 18) rfl rfl Tryz.func64 (by kernel_rfl) rfl #[.string s, .int .i64 (p : Nat)] rfl (by (try simp only [List.map_toArray, List.map_cons, List.map_nil]); first | done | rfl) ?_; (refine (scan_Blank.calls K s p s.size _ HKB.out).mono ?_); (rintro e w118 ⟨rfl, hb1⟩; refine ⟨_, rfl, ?_⟩; have n0 := Aside0.mk (F.out.below hb1); clear F hb1; have F := n0)))
      rw [jump_ret]
      go_ret2
      rw [← HX.out]
      exact ⟨A, c, rfl, Kd.N_F (Kd.N_below HN.out F.out.hb), B.out.trans (F.out.hb.mono SZ.out)⟩
    | cons x rem =>
      obtain ⟨q0, q, K, h1, h2, h3, h4, h5, h6, h7⟩ := lex_step HZ.out hp hl
      have c3 : ((q0 : Int) == (s.size : Int)) = false := beq_eq_false_iff_ne.2 (by omega)
      have c4 : (q0 == s.size) = false := beq_eq_false_iff_ne.2 (by omega)
      have e1 : wrap64 ((q0 : Int) + (x.t.size : Int)) = (q : Int) := by have := HZ.out; unfold wrap64; omega
      have HKB := Aside0.mk h1
      have HO := Aside0.mk h7
      have HX := Aside0.mk (show xs.length ≤ 65536 from Nat.le_trans hxl (Nat.le_trans hp HZ.out))
      have HR := Aside0.mk (show q ≤ s.size ∧ LexL q (s.data.toList.drop q) rem ∧ (xs ++ [x]) ++ rem = toks ∧ (xs ++ [x]).length ≤ q ∧ p < q from ⟨h4, h6, by rw [← hx]; simp, by rw [List.length_append]; exact Nat.le_trans (Nat.add_le_add_right hxl 1) (Nat.lt_of_le_of_lt h2 h3), Nat.lt_of_le_of_lt h2 h3⟩)
      clear HP hp hl hx hxl h1 h2 h3 h4 h5 h6 h7
      go_wp2_with (first | ((with_reducible refine gate_dst (N := 18) rfl ?_); refine goesL_ (some 18) rfl rfl Tryz.func64 (by kernel_rfl) rfl #[.string s, .int .i64 (p : Nat)] rfl (by (try simp only [List.map_toArray, List.map_cons, List.map_nil]); first | done | rfl) ?_; (refine (scan_Blank.calls K s p q0 _ HKB.out).mono ?_); (rintro e w118 ⟨rfl, hb1⟩; refine ⟨_, rfl, ?_⟩; have n0 := Aside0.mk (F.out.below hb1); clear F hb1; have F := n0)) | ((with_reducible refine gate_dst (N := 27) rfl ?_); refine goesL_ (some 27) rfl rfl Tryz.func65 (by kernel_rfl) rfl #[.string s, .int .i64 (q0 : Nat)] rfl (by (try simp only [List.map_toArray, List.map_cons, List.map_nil]); first | done | rfl) ?_; (refine (HO.out _).mono ?_); (rintro e w127 ⟨rfl, hb1⟩; refine ⟨_, rfl, ?_⟩; have n0 := Aside0.mk (F.out.below hb1); clear F hb1; have F := n0)) | ((with_reducible refine gate_dst (N := 6) rfl ?_); refine box_event ?hg (N := 6) ?hd (cs := #[.int .i64 0, .string (⟨#[]⟩ : ByteArray), .int .i64 0]) (t := 86) ?hr ?_; (case hd => rfl); (case hg => rfl); (case hr => first | (go_simp; done) | (go_simp; rfl)); intro g6 hg w306 hbox hb; have n0 := Aside0.mk (F.out.box hg hbox hb); clear F hbox hb hg; have F := n0) | ((with_reducible refine gate_ (.store 86 (.tmp 6) (.tmp 28)) rfl ?_); refine F.out.st 0 rfl rfl rfl rfl (tkc x) rfl rfl infoTk rfl (tkc_one _) ?_; intro w606 n1; have n0 : Aside0 (Fg _ _ [(g6, 86, (tkc x))] _ _) := ⟨n1⟩; clear F n1; have F := n0))
      refine start_ (n := 11) (S := Bx [(g6, 86, (tkc x))]) (ds := []) (bt 11 0) (by kernel_rfl) rfl (by kernel_rfl) (F.out.below (below_drew1 (Below.refl _ _))).bxs (fun hHeld => ?_)
      have n0 := Aside0.mk (F.out.below (below_drew1 (Below.refl _ _)))
      clear F
      have F := n0
      generalize World.drew _ = w500 at F hHeld ⊢
      refine pure_ (i := 0) (N := some 33) (bt 11 1) rfl rfl (any_of F41tab13 (by kernel_rfl)) (fun _ _ _ h => h) (Or.inl ⟨by rfl, by intro w'; go_simp; with_reducible rfl⟩) (by simp only [Act.put, pset]; rfl) ?_
      refine take_ (i := 1) (N := some 34) (bt 11 3) rfl rfl (take_of F41tab13 (by kernel_rfl)) (fun _ _ _ h => h) (Or.inl ⟨by rfl, fun w' s_ => run_lda rfl rfl (Bx.at_ s_ (n := 0) rfl) hu86 rfl infoTk⟩) hHeld (by simp only [Act.put, pset]; rfl) ?_
      refine pure_ (i := 4) (N := some 37) (bt 11 19) rfl rfl (any_of F41tab13 (by kernel_rfl)) (fun _ _ _ h => h) (Or.inl ⟨by rfl, by intro w'; go_simp; with_reducible rfl⟩) (by simp only [Act.put, pset]; rfl) ?_
      refine pure_ (i := 5) (N := some 38) (bt 11 51) rfl rfl (any_of F41tab13 (by kernel_rfl)) (fun _ _ _ h => h) (Or.inl ⟨by rfl, by intro w'; go_simp; with_reducible rfl⟩) (by simp only [Act.put, pset]; rfl) ?_
      refine take_ (i := 6) (N := some 39) (bt 11 115) rfl rfl (take_of F41tab13 (by kernel_rfl)) (fun _ _ _ h => h) (Or.inl ⟨by rfl, fun w' s_ => run_ldc (v := (.string x.t)) rfl rfl (Bx.at_ s_ (n := 0) rfl) rfl hu9 rfl⟩) hHeld (by simp only [Act.put, pset]; rfl) ?_
      refine pure_ (i := 7) (N := some 40) (bt 11 243) rfl rfl (any_of F41tab13 (by kernel_rfl)) (fun _ _ _ h => h) (Or.inl ⟨by rfl, by intro w'; go_simp; with_reducible rfl⟩) (by simp only [Act.put, pset]; rfl) ?_
      refine pure_ (i := 8) (N := some 41) (v := .int .i64 (q : Nat)) (bt 11 499) rfl rfl (any_of F41tab13 (by kernel_rfl)) (fun _ _ _ h => h) (Or.inl ⟨by rfl, by intro w'; go_simp; rw [i64_w]; exact e1⟩) (by simp only [Act.put, pset]; rfl) ?_
      refine one_ (i := 2) (N := some 35) (bt 11 503) rfl rfl (one_of F41tab13 (by kernel_rfl)) (by decide) (fun K hK => ?_)
      refine lit_step (m := 1) (cs := (tkc x)) (t := 86) (by rfl) ?hrun ?_
      case hrun => first | (go_simp; done) | (go_simp; rfl)
      intro g35 hg w501 hbox hb
      have HL := Aside0.mk (F_lit86 (x := x) (ok := fun k => w0.heap.size ≤ k ∧ some k ≠ (Value.slice A xs.length c).ownBlock) hbox ⟨by rw [hg]; exact Nat.le_trans SZ.out F.out.sz, fun he => by have := Kd.N_lt HN.out g35 he.symm; have := F.out.sz; omega⟩)
      have n0 := Aside0.mk (F.out.below hb); clear F hbox hb hg; have F := n0
      refine hK.out _ _ F.out.bxs (fun hHeld => ?_)
      clear hK K
      refine norm_ (show Act.put _ (some 35) _ = _ from (by simp only [Act.put, pset]; rfl)) ?_
      refine one_ (i := 3) (N := some 36) (bt 11 511) rfl rfl (one_of F41tab13 (by kernel_rfl)) (by decide) (fun K hK => ?_)
      refine Kd.N_append_rows_step k86 (w0 := w501) w0.heap.size (by rfl) _ _ 56 86 _ 32 rfl Tryz.underlying56 info86z rfl (by decide) (by decide) _ xs [x] (some ⟨g35, 0, none⟩) 1 1 (fun k => w0.heap.size ≤ k) _ rfl rfl (Kd.N_below HN.out F.out.hb) HL.out (fun k hk => hk) (fun k hk => Nat.le_trans (Nat.le_trans SZ.out F.out.sz) hk) (Below.refl _ _) (Nat.le_trans SZ.out F.out.sz) (by have := HX.out; simp; omega) ?_
      intro v1 w502 hN1 hb1 hg1 hat1
      (obtain ⟨A2, c2, rfl⟩ := Kd.N_slice hN1)
      (obtain ⟨zs, hzs⟩ : ∃ zs, xs ++ [x] = zs := ⟨_, rfl⟩)
      rw [hzs] at hN1 ⊢
      have HR1 := Aside0.mk (show q ≤ s.size ∧ LexL q (s.data.toList.drop q) rem ∧ zs ++ rem = toks ∧ zs.length ≤ q ∧ p < q from hzs ▸ HR.out)
      clear hzs HR
      have SB := Aside0.mk (show Bx [(g6, 86, (tkc x))] w502 from fun b m => by
        obtain rfl := List.mem_singleton.1 m
        exact (hg1.block _ (F.out.lt _ (List.mem_singleton.2 rfl)) (fun he => by have h1 := Kd.N_lt HN.out g6 he.symm; have h2 := (F.out.bx _ (List.mem_singleton.2 rfl)).2; simp only at h2; omega)).trans (F.out.at_ (n := 0) rfl))
      have B1 := Aside0.mk (B.out.trans ((F.out.hb.mono SZ.out).trans hb1))
      have HN1 := Aside0.mk hN1
      clear HN F hN1 hb1 hg1 hat1 B
      refine hK.out _ _ SB.out (fun hHeld => ?_)
      clear hK K
      refine norm_ (show Act.put _ (some 36) _ = _ from (by simp only [Act.put, pset]; rfl)) ?_
      refine pure_ (i := 9) (N := some 4) (bt 11 1023) rfl rfl (any_of F41tab13 (by kernel_rfl)) (fun _ _ _ h => h) (Or.inl ⟨by rfl, by intro w'; go_simp; with_reducible rfl⟩) (by simp only [Act.put, pset]; rfl) ?_
      refine pure_ (i := 10) (N := some 5) (bt 11 2047) rfl rfl (any_of F41tab13 (by kernel_rfl)) (fun _ _ _ h => h) (Or.inl ⟨by rfl, by intro w'; go_simp; with_reducible rfl⟩) (by simp only [Act.put, pset]; rfl) ?_
      refine done_ (done_of F41tab13 (by kernel_rfl)) ?_
      clear hHeld
      go_wp2_with fail
      refine wp_goto ?_
      go_wp2_with fail
      rw [jump_goto]
      refine ⟨rfl, ⟨_, _, _, _, _, _, _, _, _, _, _, _, _, _, _, _, _, _, _, _, _, _, _, _, _, _, _, _, _, _, _, _, _, _, _, _, _, _, _, q, A2, c2, zs, rem, _, rfl, rfl, ⟨HR1.out.1, HR1.out.2.1, HR1.out.2.2.1, HR1.out.2.2.2.1⟩, B1, HN1⟩, ?_⟩
      show ((s.size : Int) + 1 - (q : Int)).toNat < ((s.size : Int) + 1 - (p : Int)).toNat
      have := HR1.out
      omega
end Go.Proofs.YthipodffpkglfaaGreatDoor.PS
namespace Go.Proofs.YthipodffpkglfaaGreatDoor.PS
open Go.RowKit Go.Proofs.YthipodffpkglfaaGreatDoorW.PrintWords Go.Proofs.YthipodffpkglfaaGreatDoorW.PrintLast Go.Proofs.YthipodffpkglfaaGreatDoorW.PrintMore
set_option linter.unusedVariables false
set_option linter.unusedSimpArgs false
def pairS (t : ByteArray) : ByteArray := if t.toList == [40] then ⟨#[41]⟩ else if t.toList == [123] then ⟨#[125]⟩ else if t.toList == [91] then ⟨#[93]⟩ else if t.toList == [60, 60] then ⟨#[62, 62]⟩ else ⟨#[]⟩
set_option maxHeartbeats 4000000 in
set_option maxRecDepth 100000 in
theorem pair_calls (t : ByteArray) (w : World) : Calls Tryz.prog 99 #[.string t] w fun e w' => e = .returned (.string (pairS t)) ∧ Drawn0 w w' := by
  have hu9 := Tryz.underlying9
  unfold pairS
  cases h0 : (t.toList == [40])
  case true =>
    go_enter Tryz.func99, Tryz.ntmps99
    go_wp2_with fail
    go_ret
    exact ⟨rfl, Drawn0.refl _⟩
  case false =>
    cases h1 : (t.toList == [123])
    case true =>
      go_enter Tryz.func99, Tryz.ntmps99
      go_wp2_with fail
      go_ret
      exact ⟨rfl, Drawn0.refl _⟩
    case false =>
      cases h2 : (t.toList == [91])
      case true =>
        go_enter Tryz.func99, Tryz.ntmps99
        go_wp2_with fail
        go_ret
        exact ⟨rfl, Drawn0.refl _⟩
      case false =>
        cases h3 : (t.toList == [60, 60])
        case true =>
          go_enter Tryz.func99, Tryz.ntmps99
          go_wp2_with fail
          go_ret
          exact ⟨rfl, Drawn0.refl _⟩
        case false =>
          go_enter Tryz.func99, Tryz.ntmps99
          go_wp2_with fail
          go_ret
          exact ⟨rfl, Drawn0.refl _⟩
def opK (t : ByteArray) : Bool := t.toList == [98, 101, 103, 105, 110] || (t.toList == [99, 97, 115, 101] || (t.toList == [105, 102] || t.toList == [114, 101, 99, 101, 105, 118, 101]))
def opB (x : Tk) : Bool := if x.k == 9 then (pairS x.t).toList != [] else if x.k == 8 then opK x.t else false
def Op67 (x : Tk) (w : World) (b : Bool) : Prop := Calls Tryz.prog 67 #[.agg (tkc x)] w fun e w' => e = .returned (.bool b) ∧ Below w.heap.size w w'
set_option maxHeartbeats 4000000 in
set_option maxRecDepth 100000 in
theorem opens9 (x : Tk) (w : World) (hk : (x.k == 9) = true) : Op67 x w ((pairS x.t).toList != []) := by
  have hu86 := Tryz.underlying86
  have hu9 := Tryz.underlying9
  have hu3 := Tryz.underlying3
  have F := Aside0.mk (Fg.init (Below.refl w.heap.size w))
  unfold Op67
  go_enter Tryz.func67, Tryz.ntmps67
  go_wp2_with (first | ((with_reducible refine gate_dst (N := 1) rfl ?_); refine box_event ?hg (N := 1) ?hd (cs := (tkc x)) (t := 86) ?hr ?_; (case hd => rfl); (case hg => rfl); (case hr => first | (go_simp; done) | (go_simp; rfl)); intro g1 hg w301 hbox hb; have n0 := Aside0.mk (F.out.box hg hbox hb); clear F hbox hb hg; have F := n0) | ((with_reducible refine gate_dst (N := 5) rfl ?_); refine ld_cell rfl (N := 5) (v := .int .i64 x.k) rfl rfl rfl (F.out.at_ (n := 0) rfl) rfl hu3 rfl ?_) | ((with_reducible refine gate_dst (N := 13) rfl ?_); refine ld_cell rfl (N := 13) (v := .int .i64 x.k) rfl rfl rfl (F.out.at_ (n := 0) rfl) rfl hu3 rfl ?_) | ((with_reducible refine gate_dst (N := 8) rfl ?_); refine ld_cell rfl (N := 8) (v := .string x.t) rfl rfl rfl (F.out.at_ (n := 0) rfl) rfl hu9 rfl ?_) | ((with_reducible refine gate_dst (N := 16) rfl ?_); refine ld_cell rfl (N := 16) (v := .string x.t) rfl rfl rfl (F.out.at_ (n := 0) rfl) rfl hu9 rfl ?_) | ((with_reducible refine gate_dst (N := 20) rfl ?_); (refine gate_guard (by rfl) ?_; dsimp only); refine ld_cell rfl (N := 20) (v := .string x.t) rfl rfl rfl (F.out.at_ (n := 0) rfl) rfl hu9 rfl ?_) | ((with_reducible refine gate_dst (N := 25) rfl ?_); (refine gate_guard (by rfl) ?_; dsimp only); refine ld_cell rfl (N := 25) (v := .string x.t) rfl rfl rfl (F.out.at_ (n := 0) rfl) rfl hu9 rfl ?_) | ((with_reducible refine gate_dst (N := 30) rfl ?_); (refine gate_guard (by rfl) ?_; dsimp only); refine ld_cell rfl (N := 30) (v := .string x.t) rfl rfl rfl (F.out.at_ (n := 0) rfl) rfl hu9 rfl ?_) | ((with_reducible refine gate_dst (N := 9) rfl ?_); refine goesL_ (some 9) rfl rfl Tryz.func99 (by kernel_rfl) rfl #[.string x.t] rfl (by (try simp only [List.map_toArray, List.map_cons, List.map_nil]); first | done | rfl) ?_; (refine (pair_calls x.t _).mono ?_); (rintro e w109 ⟨rfl, hd⟩; refine ⟨_, rfl, ?_⟩; have n0 := Aside0.mk (F.out.below hd.below); clear F hd; have F := n0)))
  go_ret
  exact ⟨by first | rfl | (simp [*]; done) | (cases (pairS x.t).toList <;> rfl), F.out.hb⟩
set_option maxHeartbeats 4000000 in
set_option maxRecDepth 100000 in
theorem opens8 (x : Tk) (w : World) (hk : (x.k == 9) = false) (hk8 : (x.k == 8) = true) : Op67 x w (opK x.t) := by
  unfold opK
  cases h1 : (x.t.toList == [98, 101, 103, 105, 110]) <;> cases h2 : (x.t.toList == [99, 97, 115, 101]) <;> cases h3 : (x.t.toList == [105, 102]) <;> cases h4 : (x.t.toList == [114, 101, 99, 101, 105, 118, 101])
  all_goals
    have hu86 := Tryz.underlying86
    have hu9 := Tryz.underlying9
    have hu3 := Tryz.underlying3
    have F := Aside0.mk (Fg.init (Below.refl w.heap.size w))
    unfold Op67
    go_enter Tryz.func67, Tryz.ntmps67
    go_wp2_with (first | ((with_reducible refine gate_dst (N := 1) rfl ?_); refine box_event ?hg (N := 1) ?hd (cs := (tkc x)) (t := 86) ?hr ?_; (case hd => rfl); (case hg => rfl); (case hr => first | (go_simp; done) | (go_simp; rfl)); intro g1 hg w301 hbox hb; have n0 := Aside0.mk (F.out.box hg hbox hb); clear F hbox hb hg; have F := n0) | ((with_reducible refine gate_dst (N := 5) rfl ?_); refine ld_cell rfl (N := 5) (v := .int .i64 x.k) rfl rfl rfl (F.out.at_ (n := 0) rfl) rfl hu3 rfl ?_) | ((with_reducible refine gate_dst (N := 13) rfl ?_); refine ld_cell rfl (N := 13) (v := .int .i64 x.k) rfl rfl rfl (F.out.at_ (n := 0) rfl) rfl hu3 rfl ?_) | ((with_reducible refine gate_dst (N := 8) rfl ?_); refine ld_cell rfl (N := 8) (v := .string x.t) rfl rfl rfl (F.out.at_ (n := 0) rfl) rfl hu9 rfl ?_) | ((with_reducible refine gate_dst (N := 16) rfl ?_); refine ld_cell rfl (N := 16) (v := .string x.t) rfl rfl rfl (F.out.at_ (n := 0) rfl) rfl hu9 rfl ?_) | ((with_reducible refine gate_dst (N := 20) rfl ?_); (refine gate_guard (by rfl) ?_; dsimp only); refine ld_cell rfl (N := 20) (v := .string x.t) rfl rfl rfl (F.out.at_ (n := 0) rfl) rfl hu9 rfl ?_) | ((with_reducible refine gate_dst (N := 25) rfl ?_); (refine gate_guard (by rfl) ?_; dsimp only); refine ld_cell rfl (N := 25) (v := .string x.t) rfl rfl rfl (F.out.at_ (n := 0) rfl) rfl hu9 rfl ?_) | ((with_reducible refine gate_dst (N := 30) rfl ?_); (refine gate_guard (by rfl) ?_; dsimp only); refine ld_cell rfl (N := 30) (v := .string x.t) rfl rfl rfl (F.out.at_ (n := 0) rfl) rfl hu9 rfl ?_) | ((with_reducible refine gate_dst (N := 9) rfl ?_); refine goesL_ (some 9) rfl rfl Tryz.func99 (by kernel_rfl) rfl #[.string x.t] rfl (by (try simp only [List.map_toArray, List.map_cons, List.map_nil]); first | done | rfl) ?_; (refine (pair_calls x.t _).mono ?_); (rintro e w109 ⟨rfl, hd⟩; refine ⟨_, rfl, ?_⟩; have n0 := Aside0.mk (F.out.below hd.below); clear F hd; have F := n0)))
    go_ret
    exact ⟨by first | rfl | (simp [*]; done) | (cases (pairS x.t).toList <;> rfl), F.out.hb⟩
set_option maxHeartbeats 4000000 in
set_option maxRecDepth 100000 in
theorem opens0 (x : Tk) (w : World) (hk : (x.k == 9) = false) (hk8 : (x.k == 8) = false) : Op67 x w false := by
  have hu86 := Tryz.underlying86
  have hu9 := Tryz.underlying9
  have hu3 := Tryz.underlying3
  have F := Aside0.mk (Fg.init (Below.refl w.heap.size w))
  unfold Op67
  go_enter Tryz.func67, Tryz.ntmps67
  go_wp2_with (first | ((with_reducible refine gate_dst (N := 1) rfl ?_); refine box_event ?hg (N := 1) ?hd (cs := (tkc x)) (t := 86) ?hr ?_; (case hd => rfl); (case hg => rfl); (case hr => first | (go_simp; done) | (go_simp; rfl)); intro g1 hg w301 hbox hb; have n0 := Aside0.mk (F.out.box hg hbox hb); clear F hbox hb hg; have F := n0) | ((with_reducible refine gate_dst (N := 5) rfl ?_); refine ld_cell rfl (N := 5) (v := .int .i64 x.k) rfl rfl rfl (F.out.at_ (n := 0) rfl) rfl hu3 rfl ?_) | ((with_reducible refine gate_dst (N := 13) rfl ?_); refine ld_cell rfl (N := 13) (v := .int .i64 x.k) rfl rfl rfl (F.out.at_ (n := 0) rfl) rfl hu3 rfl ?_) | ((with_reducible refine gate_dst (N := 8) rfl ?_); refine ld_cell rfl (N := 8) (v := .string x.t) rfl rfl rfl (F.out.at_ (n := 0) rfl) rfl hu9 rfl ?_) | ((with_reducible refine gate_dst (N := 16) rfl ?_); refine ld_cell rfl (N := 16) (v := .string x.t) rfl rfl rfl (F.out.at_ (n := 0) rfl) rfl hu9 rfl ?_) | ((with_reducible refine gate_dst (N := 20) rfl ?_); (refine gate_guard (by rfl) ?_; dsimp only); refine ld_cell rfl (N := 20) (v := .string x.t) rfl rfl rfl (F.out.at_ (n := 0) rfl) rfl hu9 rfl ?_) | ((with_reducible refine gate_dst (N := 25) rfl ?_); (refine gate_guard (by rfl) ?_; dsimp only); refine ld_cell rfl (N := 25) (v := .string x.t) rfl rfl rfl (F.out.at_ (n := 0) rfl) rfl hu9 rfl ?_) | ((with_reducible refine gate_dst (N := 30) rfl ?_); (refine gate_guard (by rfl) ?_; dsimp only); refine ld_cell rfl (N := 30) (v := .string x.t) rfl rfl rfl (F.out.at_ (n := 0) rfl) rfl hu9 rfl ?_) | ((with_reducible refine gate_dst (N := 9) rfl ?_); refine goesL_ (some 9) rfl rfl Tryz.func99 (by kernel_rfl) rfl #[.string x.t] rfl (by (try simp only [List.map_toArray, List.map_cons, List.map_nil]); first | done | rfl) ?_; (refine (pair_calls x.t _).mono ?_); (rintro e w109 ⟨rfl, hd⟩; refine ⟨_, rfl, ?_⟩; have n0 := Aside0.mk (F.out.below hd.below); clear F hd; have F := n0)))
  go_ret
  exact ⟨by first | rfl | (simp [*]; done) | (cases (pairS x.t).toList <;> rfl), F.out.hb⟩
theorem opens_calls (x : Tk) (w : World) : Op67 x w (opB x) := by
  unfold opB
  cases h : (x.k == 9)
  · cases h8 : (x.k == 8)
    · exact opens0 x w h h8
    · exact opens8 x w h h8
  · exact opens9 x w h
end Go.Proofs.YthipodffpkglfaaGreatDoor.PS
