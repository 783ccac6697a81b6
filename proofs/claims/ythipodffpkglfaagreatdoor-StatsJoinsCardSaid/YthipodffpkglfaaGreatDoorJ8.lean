/- Words and walks that the law leans on: PSx3. Conditions: none. -/
import Derived.Test.YthipodffpkglfaaGreatDoorJ3
namespace Go.Proofs.YthipodffpkglfaaGreatDoor.PS
open Go.RowKit Go.Proofs.YthipodffpkglfaaGreatDoorW.PrintWords Go.Proofs.YthipodffpkglfaaGreatDoorW.PrintLast Go.Proofs.YthipodffpkglfaaGreatDoorW.PrintMore
attribute [local go_sem] max2_int min2_int max_two min_two
set_option linter.unusedVariables false
set_option linter.unusedSimpArgs false
def ops_Prefix.f (a0 : ByteArray) : Option (Int) := if a0.toList = ([43] : List UInt8) then (some 10) else (if a0.toList = ([45] : List UInt8) then (some 10) else (if a0.toList = ([110, 111, 116] : List UInt8) then (some 10) else (if a0.toList = ([98, 110, 111, 116] : List UInt8) then (some 10) else (some 0))))
set_option maxHeartbeats 8000000 in
set_option maxRecDepth 100000 in
theorem ops_Prefix.calls (a0 : ByteArray) (r : Int) (w : World) (h : ops_Prefix.f a0 = some r) :
    Calls Tryz.prog 213 #[.string a0] w fun e w' => e = .returned (.int .i64 r) ∧ Drawn0 w w' := by
  have H : (if a0.toList = ([43] : List UInt8) then (some 10) else (if a0.toList = ([45] : List UInt8) then (some 10) else (if a0.toList = ([110, 111, 116] : List UInt8) then (some 10) else (if a0.toList = ([98, 110, 111, 116] : List UInt8) then (some 10) else (some 0))))) = some r := h
  clear h
  by_cases c2 : a0.toList = ([43] : List UInt8)
  · rw [if_pos c2] at H
    have c2b0 : (a0.toList == ([43] : List UInt8)) = true := beq_iff_eq.mpr c2
    have c2b1 : (a0.toList != ([43] : List UInt8)) = false := bne_eq_false_iff_eq.mpr c2
    clear c2
    obtain rfl := Option.some.inj H
    go_enter Tryz.func213, Tryz.ntmps213
    go_wp2
    go_ret
    exact ⟨by first | rfl | (simp; done) | (simp [*]; done), by repeat (first | exact Drawn0.refl _ | apply Drawn0.step)⟩
  · rw [if_neg c2] at H
    have c2b0 : (a0.toList == ([43] : List UInt8)) = false := beq_eq_false_iff_ne.mpr c2
    have c2b1 : (a0.toList != ([43] : List UInt8)) = true := bne_iff_ne.mpr c2
    by_cases c3 : a0.toList = ([45] : List UInt8)
    · rw [if_pos c3] at H
      have c3b0 : (a0.toList == ([45] : List UInt8)) = true := beq_iff_eq.mpr c3
      have c3b1 : (a0.toList != ([45] : List UInt8)) = false := bne_eq_false_iff_eq.mpr c3
      clear c3
      obtain rfl := Option.some.inj H
      go_enter Tryz.func213, Tryz.ntmps213
      go_wp2
      go_ret
      exact ⟨by first | rfl | (simp; done) | (simp [*]; done), by repeat (first | exact Drawn0.refl _ | apply Drawn0.step)⟩
    · rw [if_neg c3] at H
      have c3b0 : (a0.toList == ([45] : List UInt8)) = false := beq_eq_false_iff_ne.mpr c3
      have c3b1 : (a0.toList != ([45] : List UInt8)) = true := bne_iff_ne.mpr c3
      by_cases c4 : a0.toList = ([110, 111, 116] : List UInt8)
      · rw [if_pos c4] at H
        have c4b0 : (a0.toList == ([110, 111, 116] : List UInt8)) = true := beq_iff_eq.mpr c4
        have c4b1 : (a0.toList != ([110, 111, 116] : List UInt8)) = false := bne_eq_false_iff_eq.mpr c4
        clear c4
        obtain rfl := Option.some.inj H
        go_enter Tryz.func213, Tryz.ntmps213
        go_wp2
        go_ret
        exact ⟨by first | rfl | (simp; done) | (simp [*]; done), by repeat (first | exact Drawn0.refl _ | apply Drawn0.step)⟩
      · rw [if_neg c4] at H
        have c4b0 : (a0.toList == ([110, 111, 116] : List UInt8)) = false := beq_eq_false_iff_ne.mpr c4
        have c4b1 : (a0.toList != ([110, 111, 116] : List UInt8)) = true := bne_iff_ne.mpr c4
        by_cases c5 : a0.toList = ([98, 110, 111, 116] : List UInt8)
        · rw [if_pos c5] at H
          have c5b0 : (a0.toList == ([98, 110, 111, 116] : List UInt8)) = true := beq_iff_eq.mpr c5
          have c5b1 : (a0.toList != ([98, 110, 111, 116] : List UInt8)) = false := bne_eq_false_iff_eq.mpr c5
          clear c5
          obtain rfl := Option.some.inj H
          go_enter Tryz.func213, Tryz.ntmps213
          go_wp2
          go_ret
          exact ⟨by first | rfl | (simp; done) | (simp [*]; done), by repeat (first | exact Drawn0.refl _ | apply Drawn0.step)⟩
        · rw [if_neg c5] at H
          have c5b0 : (a0.toList == ([98, 110, 111, 116] : List UInt8)) = false := beq_eq_false_iff_ne.mpr c5
          have c5b1 : (a0.toList != ([98, 110, 111, 116] : List UInt8)) = true := bne_iff_ne.mpr c5
          obtain rfl := Option.some.inj H
          go_enter Tryz.func213, Tryz.ntmps213
          go_wp2
          go_ret
          exact ⟨by first | rfl | (simp; done) | (simp [*]; done), by repeat (first | exact Drawn0.refl _ | apply Drawn0.step)⟩
def parse_literal.f (a0 : Int) : Option (Bool) := if a0 ≥ 1 then (some (decide (a0 ≤ 7))) else (some false)
set_option maxHeartbeats 8000000 in
set_option maxRecDepth 100000 in
theorem parse_literal.calls (a0 : Int) (r : Bool) (w : World) (h : parse_literal.f a0 = some r) :
    Calls Tryz.prog 219 #[.int .i64 a0] w fun e w' => e = .returned (.bool r) ∧ Drawn0 w w' := by
  have H : (if a0 ≥ 1 then (some (decide (a0 ≤ 7))) else (some false)) = some r := h
  clear h
  by_cases c2 : a0 ≥ 1
  · rw [if_pos c2] at H
    have c2b0 : decide (1 ≤ a0) = true := decide_eq_true c2
    clear c2
    obtain rfl := Option.some.inj H
    go_enter Tryz.func219, Tryz.ntmps219
    go_wp2
    go_ret
    exact ⟨by first | rfl | (simp; done) | (simp [*]; done), by repeat (first | exact Drawn0.refl _ | apply Drawn0.step)⟩
  · rw [if_neg c2] at H
    have c2b0 : decide (1 ≤ a0) = false := decide_eq_false c2
    clear c2
    obtain rfl := Option.some.inj H
    go_enter Tryz.func219, Tryz.ntmps219
    go_wp2
    go_ret
    exact ⟨by first | rfl | (simp; done) | (simp [*]; done), by repeat (first | exact Drawn0.refl _ | apply Drawn0.step)⟩
def utf_lead.f (a0 : Int) : Option (Int × Int) := if a0 < 128 then (some (1, wrap64 (a0))) else (if (a0 / 32) = 6 then (some (2, wrap64 (Go.bits .and .u8 a0 31))) else (if (a0 / 16) = 14 then (some (3, wrap64 (Go.bits .and .u8 a0 15))) else (if (a0 / 8) = 30 then (some (4, wrap64 (Go.bits .and .u8 a0 7))) else (some (0, 0)))))
set_option maxHeartbeats 8000000 in
set_option maxRecDepth 100000 in
theorem utf_lead.calls (a0 : Int) (r1 : Int) (r2 : Int) (w : World) (h : utf_lead.f a0 = some (r1, r2)) :
    Calls Tryz.prog 74 #[.int .u8 a0] w fun e w' => e = .returned (.tuple #[.int .i64 r1, .int .i64 r2]) ∧ Drawn0 w w' := by
  have H : (if a0 < 128 then (some (1, wrap64 (a0))) else (if (a0 / 32) = 6 then (some (2, wrap64 (Go.bits .and .u8 a0 31))) else (if (a0 / 16) = 14 then (some (3, wrap64 (Go.bits .and .u8 a0 15))) else (if (a0 / 8) = 30 then (some (4, wrap64 (Go.bits .and .u8 a0 7))) else (some (0, 0)))))) = some (r1, r2) := h
  clear h
  by_cases c2 : a0 < 128
  · rw [if_pos c2] at H
    have c2b0 : decide (a0 < 128) = true := decide_eq_true c2
    clear c2
    simp only [Option.some.injEq, Prod.mk.injEq] at H
    obtain ⟨rfl, rfl⟩ := H
    go_enter Tryz.func74, Tryz.ntmps74
    go_wp2
    go_ret2
    exact ⟨by first | rfl | (simp; done) | (simp [*]; done), by repeat (first | exact Drawn0.refl _ | apply Drawn0.step)⟩
  · rw [if_neg c2] at H
    have c2b0 : decide (a0 < 128) = false := decide_eq_false c2
    clear c2
    by_cases c3 : (a0 / 32) = 6
    · rw [if_pos c3] at H
      have c3b0 : ((a0 / 32) == 6) = true := beq_iff_eq.mpr c3
      have c3b1 : ((a0 / 32) != 6) = false := bne_eq_false_iff_eq.mpr c3
      clear c3
      simp only [Option.some.injEq, Prod.mk.injEq] at H
      obtain ⟨rfl, rfl⟩ := H
      go_enter Tryz.func74, Tryz.ntmps74
      go_wp2
      go_ret2
      exact ⟨by first | rfl | (simp; done) | (simp [*]; done), by repeat (first | exact Drawn0.refl _ | apply Drawn0.step)⟩
    · rw [if_neg c3] at H
      have c3b0 : ((a0 / 32) == 6) = false := beq_eq_false_iff_ne.mpr c3
      have c3b1 : ((a0 / 32) != 6) = true := bne_iff_ne.mpr c3
      by_cases c4 : (a0 / 16) = 14
      · rw [if_pos c4] at H
        have c4b0 : ((a0 / 16) == 14) = true := beq_iff_eq.mpr c4
        have c4b1 : ((a0 / 16) != 14) = false := bne_eq_false_iff_eq.mpr c4
        clear c4
        simp only [Option.some.injEq, Prod.mk.injEq] at H
        obtain ⟨rfl, rfl⟩ := H
        go_enter Tryz.func74, Tryz.ntmps74
        go_wp2
        go_ret2
        exact ⟨by first | rfl | (simp; done) | (simp [*]; done), by repeat (first | exact Drawn0.refl _ | apply Drawn0.step)⟩
      · rw [if_neg c4] at H
        have c4b0 : ((a0 / 16) == 14) = false := beq_eq_false_iff_ne.mpr c4
        have c4b1 : ((a0 / 16) != 14) = true := bne_iff_ne.mpr c4
        by_cases c5 : (a0 / 8) = 30
        · rw [if_pos c5] at H
          have c5b0 : ((a0 / 8) == 30) = true := beq_iff_eq.mpr c5
          have c5b1 : ((a0 / 8) != 30) = false := bne_eq_false_iff_eq.mpr c5
          clear c5
          simp only [Option.some.injEq, Prod.mk.injEq] at H
          obtain ⟨rfl, rfl⟩ := H
          go_enter Tryz.func74, Tryz.ntmps74
          go_wp2
          go_ret2
          exact ⟨by first | rfl | (simp; done) | (simp [*]; done), by repeat (first | exact Drawn0.refl _ | apply Drawn0.step)⟩
        · rw [if_neg c5] at H
          have c5b0 : ((a0 / 8) == 30) = false := beq_eq_false_iff_ne.mpr c5
          have c5b1 : ((a0 / 8) != 30) = true := bne_iff_ne.mpr c5
          simp only [Option.some.injEq, Prod.mk.injEq] at H
          obtain ⟨rfl, rfl⟩ := H
          go_enter Tryz.func74, Tryz.ntmps74
          go_wp2
          go_ret2
          exact ⟨by first | rfl | (simp; done) | (simp [*]; done), by repeat (first | exact Drawn0.refl _ | apply Drawn0.step)⟩
end Go.Proofs.YthipodffpkglfaaGreatDoor.PS
