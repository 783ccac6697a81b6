/- Words and walks that the law leans on: HS22, HS23, HS24, HS25. Conditions: none. -/
import Derived.Test.YthipodffpkglfaaGreatDoorJ11
namespace Go.Proofs.YthipodffpkglfaaGreatDoor.PS
open Go.RowKit Go.Proofs.YthipodffpkglfaaGreatDoorW.PrintWords Go.Proofs.YthipodffpkglfaaGreatDoorW.PrintLast Go.Proofs.YthipodffpkglfaaGreatDoorW.PrintMore
set_option linter.unusedVariables false
set_option linter.unusedSimpArgs false
/-- Tokens that stand from a place on, up to where the parser reads. -/
def Has (E : Env) (b : Nat) (F : List (Int × ByteArray)) : Prop := ∀ (m : Nat) (k : Int) (t : ByteArray), F[m]? = some (k, t) → b + m < E.n ∧ (E.cur (b + m)).k = k ∧ (E.cur (b + m)).t = t
section
variable {E : Env} {b : Nat} {F : List (Int × ByteArray)}
theorem isT_of {x : Tk} {k : Int} {t : ByteArray} (hk : x.k = k) (ht : x.t = t) (s : ByteArray) : isT x s = isT ⟨k, t, 0⟩ s := by
  unfold isT
  rw [hk, ht]
theorem Has.lt (H : Has E b F) (m : Nat) (k : Int) (t : ByteArray) (hm : F[m]? = some (k, t)) : b + m < E.n := (H m k t hm).1
theorem Has.isT (H : Has E b F) (m : Nat) (k : Int) (t : ByteArray) (hm : F[m]? = some (k, t)) (s : ByteArray) (r : Bool) (hr : PS.isT ⟨k, t, 0⟩ s = r) : PS.isT (E.cur (b + m)) s = r := (isT_of (H m k t hm).2.1 (H m k t hm).2.2 s).trans hr
theorem Has.self (H : Has E b F) (m : Nat) (k : Int) (t : ByteArray) (hm : F[m]? = some (k, t)) (r : Bool) (hr : PS.isT ⟨k, t, 0⟩ t = r) : PS.isT (E.cur (b + m)) (E.cur (b + m)).t = r := by
  rw [(H m k t hm).2.2]
  exact H.isT m k t hm t r hr
theorem Has.bin (H : Has E b F) (m : Nat) (k : Int) (t : ByteArray) (hm : F[m]? = some (k, t)) (r : Int) (hr : binL t = r) : binL (E.cur (b + m)).t = r := by rw [(H m k t hm).2.2]; exact hr
theorem Has.left (H : Has E b F) (m : Nat) (k : Int) (t : ByteArray) (hm : F[m]? = some (k, t)) (r : Int) (hr : leftV t = r) : leftV (E.cur (b + m)).t = r := by rw [(H m k t hm).2.2]; exact hr
theorem Has.right (H : Has E b F) (m : Nat) (k : Int) (t : ByteArray) (hm : F[m]? = some (k, t)) (r : Int) (hr : rightV t = r) : rightV (E.cur (b + m)).t = r := by rw [(H m k t hm).2.2]; exact hr
theorem Has.pre (H : Has E b F) (m : Nat) (k : Int) (t : ByteArray) (hm : F[m]? = some (k, t)) (hr : ops_Prefix.f t = some 0) : ops_Prefix.f (E.cur (b + m)).t = some 0 := by rw [(H m k t hm).2.2]; exact hr
theorem Has.lit (H : Has E b F) (m : Nat) (k : Int) (t : ByteArray) (hm : F[m]? = some (k, t)) {r : Bool} (hr : parse_literal.f k = some r) : parse_literal.f (E.cur (b + m)).k = some r := by rw [(H m k t hm).2.1]; exact hr
theorem Has.prim (H : Has E b F) (m : Nat) (k : Int) (t : ByteArray) (hm : F[m]? = some (k, t)) (hr : parse_literal.f k = some true) : Rd2 E 214 #[.pointer (some ⟨E.gp, 0, none⟩)] (b + m) (b + m + 1) 1 t [] (.bool false) := by
  have h := prim_lit (H m k t hm).1 (H.lit m k t hm hr)
  rw [(H m k t hm).2.2] at h
  exact h
theorem Has.optxt (H : Has E b F) (m : Nat) (k : Int) (t : ByteArray) (hm : F[m]? = some (k, t)) {args : Array Value} {i j : Nat} {l : List S45} (h : Rd E 166 args i j 14 (E.cur (b + m)).t l) : Rd E 166 args i j 14 t l := by
  rw [(H m k t hm).2.2] at h
  exact h
theorem Env.cur_end {q : Nat} (h : E.n = q) : E.cur q = tkz := by
  unfold Env.cur
  rw [if_neg (by omega)]
theorem isT_end {q : Nat} (h : E.n = q) (s : ByteArray) : isT (E.cur q) s = false := by rw [Env.cur_end h]; rfl
theorem self_end {q : Nat} (h : E.n = q) : isT (E.cur q) (E.cur q).t = false := isT_end h _
theorem bin_end {q : Nat} (h : E.n = q) : binL (E.cur q).t = 0 := by rw [Env.cur_end h]; kernel_rfl
theorem Has.f135 (H : Has E b F) (k : Int) (t : ByteArray) (hm : F[0]? = some (k, t)) (hk : k = 1) {j : Nat} {l : List S45} (h1 : Rd E 138 #[.pointer (some ⟨E.gp, 0, none⟩), .string t] (b + 1) j 22 t l) (h2 : PS.isT (E.cur j) (⟨#[59]⟩ : ByteArray) = false) {w : World} {gO : Nat} {v0 : Value} (hp : PSt E w b) (hO : w.heap[gO]? = some (.cells #[v0] 33 (0, 0))) (hg : gO ≠ E.gp) (hD : E.wD.heap.size ≤ gO) : Calls Tryz.prog 135 #[.pointer (some ⟨E.gp, 0, none⟩), .pointer (some ⟨gO, 0, none⟩)] w (DoP E gO w j [nd 22 t l]) := by
  have e := (H 0 k t hm).2
  have h3 : Rd E 138 #[.pointer (some ⟨E.gp, 0, none⟩), .string (E.cur b).t] (b + 1) j 22 t l := by
    rw [show (E.cur b).t = t from e.2]
    exact h1
  exact f135_ok (H 0 k t hm).1 (e.1.trans hk) h3 h2 hO hg hD hp
def T0 : List (Int × ByteArray) := [(1, (⟨#[102]⟩ : ByteArray)), (9, (⟨#[40]⟩ : ByteArray)), (9, (⟨#[41]⟩ : ByteArray)), (9, (⟨#[45, 62]⟩ : ByteArray)), (1, (⟨#[97]⟩ : ByteArray))]
set_option maxHeartbeats 4000000 in
set_option maxRecDepth 100000 in
theorem rd0 (H : Has E b T0) (HE : E.n = b + 5) (HF : E.fr ≤ b) {w : World} {gO : Nat} {v0 : Value} (hp : PSt E w b) (hO : w.heap[gO]? = some (.cells #[v0] 33 (0, 0))) (hg : gO ≠ E.gp) (hD : E.wD.heap.size ≤ gO) : Calls Tryz.prog 135 #[.pointer (some ⟨E.gp, 0, none⟩), .pointer (some ⟨gO, 0, none⟩)] w (DoP E gO w (b + 5) [(nd 22 (⟨#[102]⟩ : ByteArray) [(nd 23 (⟨#[]⟩ : ByteArray) []), (nd 24 (⟨#[]⟩ : ByteArray) []), (nd 25 (⟨#[]⟩ : ByteArray) [(nd 1 (⟨#[97]⟩ : ByteArray) [])])])]) := by
  have h1 : RdI E (⟨#[41]⟩ : ByteArray) (b + 2) (b + 3) [] := items_nil (Nat.lt_of_le_of_lt HF (by omega : b < b + 2)) (H.isT 2 9 (⟨#[41]⟩ : ByteArray) rfl (⟨#[41]⟩ : ByteArray) true (by kernel_rfl))
  have h2 : Rd E 163 #[.pointer (some ⟨E.gp, 0, none⟩)] (b + 1) (b + 3) 23 (⟨#[]⟩ : ByteArray) [] := args_rd (H.isT 1 9 (⟨#[40]⟩ : ByteArray) rfl (⟨#[40]⟩ : ByteArray) true (by kernel_rfl)) h1
  have h3 : Rd2 E 214 #[.pointer (some ⟨E.gp, 0, none⟩)] (b + 4) (b + 5) 1 (⟨#[97]⟩ : ByteArray) [] (.bool false) := H.prim 4 1 (⟨#[97]⟩ : ByteArray) rfl (by kernel_rfl)
  have h4 : Rd2 E 202 #[.pointer (some ⟨E.gp, 0, none⟩)] (b + 4) (b + 5) 1 (⟨#[97]⟩ : ByteArray) [] (.int .i64 11) := operand_lit (H.self 4 1 (⟨#[97]⟩ : ByteArray) rfl false (by kernel_rfl)) trivial h3 (fun w A c hp => behind_lit hp 97 ⟨by decide, fun _ => by rfl, by decide, by decide, by decide⟩ (isT_end HE (⟨#[40]⟩ : ByteArray)) (isT_end HE (⟨#[58]⟩ : ByteArray)) (isT_end HE (⟨#[35]⟩ : ByteArray)))
  have h5 : Rd E 166 #[.pointer (some ⟨E.gp, 0, none⟩), .int .i64 0] (b + 4) (b + 5) 1 (⟨#[97]⟩ : ByteArray) [] := expr_stop0n (H.isT 4 1 (⟨#[97]⟩ : ByteArray) rfl (⟨#[99, 97, 116, 99, 104]⟩ : ByteArray) false (by kernel_rfl)) h4 (self_end HE) (bin_end HE)
  have h6 : Rd E 207 #[.pointer (some ⟨E.gp, 0, none⟩)] (b + 4) (b + 5) 25 (⟨#[]⟩ : ByteArray) [(nd 1 (⟨#[97]⟩ : ByteArray) [])] := body_rd h5 (isT_end HE (⟨#[44]⟩ : ByteArray))
  have h7 : RdC E (b + 3) (b + 5) 25 (⟨#[]⟩ : ByteArray) [(nd 1 (⟨#[97]⟩ : ByteArray) [])] := clause_rd (H.isT 3 9 (⟨#[45, 62]⟩ : ByteArray) rfl (⟨#[45, 62]⟩ : ByteArray) true (by kernel_rfl)) h6 (Nat.lt_of_le_of_lt HF (by omega : b < b + 4)) (H.lt 4 1 (⟨#[97]⟩ : ByteArray) rfl)
  have h8 : Rd E 138 #[.pointer (some ⟨E.gp, 0, none⟩), .string (⟨#[102]⟩ : ByteArray)] (b + 1) (b + 5) 22 (⟨#[102]⟩ : ByteArray) [(nd 23 (⟨#[]⟩ : ByteArray) []), (nd 24 (⟨#[]⟩ : ByteArray) []), (nd 25 (⟨#[]⟩ : ByteArray) [(nd 1 (⟨#[97]⟩ : ByteArray) [])])] := called_rd h2 (H.isT 3 9 (⟨#[45, 62]⟩ : ByteArray) rfl (⟨#[119, 104, 101, 110]⟩ : ByteArray) false (by kernel_rfl)) h7
  exact H.f135 1 (⟨#[102]⟩ : ByteArray) rfl rfl h8 (isT_end HE _) hp hO hg hD
def T1 : List (Int × ByteArray) := [(9, (⟨#[45]⟩ : ByteArray)), (1, (⟨#[109]⟩ : ByteArray)), (9, (⟨#[40]⟩ : ByteArray)), (1, (⟨#[120]⟩ : ByteArray)), (9, (⟨#[41]⟩ : ByteArray))]
set_option maxHeartbeats 4000000 in
set_option maxRecDepth 100000 in
theorem rd1 (H : Has E b T1) (HE : E.n = b + 5) (HF : E.fr ≤ b) {w : World} {gO : Nat} {v0 : Value} (hp : PSt E w (b + 2)) (hO : w.heap[gO]? = some (.cells #[v0] 33 (0, 0))) (hg : gO ≠ E.gp) (hD : E.wD.heap.size ≤ gO) : Calls Tryz.prog 167 #[.pointer (some ⟨E.gp, 0, none⟩), .pointer (some ⟨gO, 0, none⟩)] w (DoP E gO w (b + 5) [(nd 23 (⟨#[]⟩ : ByteArray) [(nd 1 (⟨#[120]⟩ : ByteArray) [])])]) := by
  have h1 : Rd2 E 214 #[.pointer (some ⟨E.gp, 0, none⟩)] (b + 3) (b + 4) 1 (⟨#[120]⟩ : ByteArray) [] (.bool false) := H.prim 3 1 (⟨#[120]⟩ : ByteArray) rfl (by kernel_rfl)
  have h2 : Rd2 E 202 #[.pointer (some ⟨E.gp, 0, none⟩)] (b + 3) (b + 4) 1 (⟨#[120]⟩ : ByteArray) [] (.int .i64 11) := operand_lit (H.self 3 1 (⟨#[120]⟩ : ByteArray) rfl false (by kernel_rfl)) trivial h1 (fun w A c hp => behind_lit hp 120 ⟨by decide, fun _ => by rfl, by decide, by decide, by decide⟩ (H.isT 4 9 (⟨#[41]⟩ : ByteArray) rfl (⟨#[40]⟩ : ByteArray) false (by kernel_rfl)) (H.isT 4 9 (⟨#[41]⟩ : ByteArray) rfl (⟨#[58]⟩ : ByteArray) false (by kernel_rfl)) (H.isT 4 9 (⟨#[41]⟩ : ByteArray) rfl (⟨#[35]⟩ : ByteArray) false (by kernel_rfl)))
  have h3 : Rd E 166 #[.pointer (some ⟨E.gp, 0, none⟩), .int .i64 0] (b + 3) (b + 4) 1 (⟨#[120]⟩ : ByteArray) [] := expr_stop0s (H.isT 3 1 (⟨#[120]⟩ : ByteArray) rfl (⟨#[99, 97, 116, 99, 104]⟩ : ByteArray) false (by kernel_rfl)) h2 (H.self 4 9 (⟨#[41]⟩ : ByteArray) rfl true (by kernel_rfl)) (H.bin 4 9 (⟨#[41]⟩ : ByteArray) rfl 0 (by kernel_rfl))
  have h4 : RdI E (⟨#[41]⟩ : ByteArray) (b + 3) (b + 5) [(nd 1 (⟨#[120]⟩ : ByteArray) [])] := items_one (Nat.lt_of_le_of_lt HF (by omega : b < b + 3)) (H.lt 3 1 (⟨#[120]⟩ : ByteArray) rfl) (H.isT 3 1 (⟨#[120]⟩ : ByteArray) rfl (⟨#[41]⟩ : ByteArray) false (by kernel_rfl)) (at0_rd h3) (H.isT 4 9 (⟨#[41]⟩ : ByteArray) rfl (⟨#[41]⟩ : ByteArray) true (by kernel_rfl))
  have h5 : Rd E 163 #[.pointer (some ⟨E.gp, 0, none⟩)] (b + 2) (b + 5) 23 (⟨#[]⟩ : ByteArray) [(nd 1 (⟨#[120]⟩ : ByteArray) [])] := args_rd (H.isT 2 9 (⟨#[40]⟩ : ByteArray) rfl (⟨#[40]⟩ : ByteArray) true (by kernel_rfl)) h4
  exact f167_args (by rw [HE]; omega) (H.isT 2 9 (⟨#[40]⟩ : ByteArray) rfl (⟨#[40]⟩ : ByteArray) true (by kernel_rfl)) h5 hO hg hD hp
def T3 : List (Int × ByteArray) := [(1, (⟨#[120]⟩ : ByteArray)), (1, (⟨#[121]⟩ : ByteArray))]
def T4 : List (Int × ByteArray) := [(1, (⟨#[103]⟩ : ByteArray)), (9, (⟨#[40]⟩ : ByteArray)), (2, (⟨#[88]⟩ : ByteArray)), (9, (⟨#[41]⟩ : ByteArray)), (9, (⟨#[45, 62]⟩ : ByteArray)), (8, (⟨#[99, 97, 115, 101]⟩ : ByteArray)), (2, (⟨#[88]⟩ : ByteArray)), (8, (⟨#[111, 102]⟩ : ByteArray)), (1, (⟨#[97]⟩ : ByteArray)), (9, (⟨#[45, 62]⟩ : ByteArray)), (1, (⟨#[98]⟩ : ByteArray)), (8, (⟨#[101, 110, 100]⟩ : ByteArray))]
set_option maxHeartbeats 4000000 in
set_option maxRecDepth 100000 in
theorem rd4 (H : Has E b T4) (HE : E.n = b + 12) (HF : E.fr ≤ b) {w : World} {gO : Nat} {v0 : Value} (hp : PSt E w b) (hO : w.heap[gO]? = some (.cells #[v0] 33 (0, 0))) (hg : gO ≠ E.gp) (hD : E.wD.heap.size ≤ gO) : Calls Tryz.prog 135 #[.pointer (some ⟨E.gp, 0, none⟩), .pointer (some ⟨gO, 0, none⟩)] w (DoP E gO w (b + 12) [(nd 22 (⟨#[103]⟩ : ByteArray) [(nd 23 (⟨#[]⟩ : ByteArray) [(nd 1 (⟨#[88]⟩ : ByteArray) [])]), (nd 24 (⟨#[]⟩ : ByteArray) []), (nd 25 (⟨#[]⟩ : ByteArray) [(nd 18 (⟨#[]⟩ : ByteArray) [(nd 1 (⟨#[88]⟩ : ByteArray) []), (nd 22 (⟨#[]⟩ : ByteArray) [(nd 23 (⟨#[]⟩ : ByteArray) [(nd 1 (⟨#[97]⟩ : ByteArray) [])]), (nd 24 (⟨#[]⟩ : ByteArray) []), (nd 25 (⟨#[]⟩ : ByteArray) [(nd 1 (⟨#[98]⟩ : ByteArray) [])])])])])])]) := by
  have h1 : Rd2 E 214 #[.pointer (some ⟨E.gp, 0, none⟩)] (b + 2) (b + 3) 1 (⟨#[88]⟩ : ByteArray) [] (.bool false) := H.prim 2 2 (⟨#[88]⟩ : ByteArray) rfl (by kernel_rfl)
  have h2 : Rd2 E 202 #[.pointer (some ⟨E.gp, 0, none⟩)] (b + 2) (b + 3) 1 (⟨#[88]⟩ : ByteArray) [] (.int .i64 11) := operand_lit (H.self 2 2 (⟨#[88]⟩ : ByteArray) rfl false (by kernel_rfl)) trivial h1 (fun w A c hp => behind_lit hp 88 ⟨by decide, fun _ => by rfl, by decide, by decide, by decide⟩ (H.isT 3 9 (⟨#[41]⟩ : ByteArray) rfl (⟨#[40]⟩ : ByteArray) false (by kernel_rfl)) (H.isT 3 9 (⟨#[41]⟩ : ByteArray) rfl (⟨#[58]⟩ : ByteArray) false (by kernel_rfl)) (H.isT 3 9 (⟨#[41]⟩ : ByteArray) rfl (⟨#[35]⟩ : ByteArray) false (by kernel_rfl)))
  have h3 : Rd E 166 #[.pointer (some ⟨E.gp, 0, none⟩), .int .i64 0] (b + 2) (b + 3) 1 (⟨#[88]⟩ : ByteArray) [] := expr_stop0s (H.isT 2 2 (⟨#[88]⟩ : ByteArray) rfl (⟨#[99, 97, 116, 99, 104]⟩ : ByteArray) false (by kernel_rfl)) h2 (H.self 3 9 (⟨#[41]⟩ : ByteArray) rfl true (by kernel_rfl)) (H.bin 3 9 (⟨#[41]⟩ : ByteArray) rfl 0 (by kernel_rfl))
  have h4 : RdI E (⟨#[41]⟩ : ByteArray) (b + 2) (b + 4) [(nd 1 (⟨#[88]⟩ : ByteArray) [])] := items_one (Nat.lt_of_le_of_lt HF (by omega : b < b + 2)) (H.lt 2 2 (⟨#[88]⟩ : ByteArray) rfl) (H.isT 2 2 (⟨#[88]⟩ : ByteArray) rfl (⟨#[41]⟩ : ByteArray) false (by kernel_rfl)) (at0_rd h3) (H.isT 3 9 (⟨#[41]⟩ : ByteArray) rfl (⟨#[41]⟩ : ByteArray) true (by kernel_rfl))
  have h5 : Rd E 163 #[.pointer (some ⟨E.gp, 0, none⟩)] (b + 1) (b + 4) 23 (⟨#[]⟩ : ByteArray) [(nd 1 (⟨#[88]⟩ : ByteArray) [])] := args_rd (H.isT 1 9 (⟨#[40]⟩ : ByteArray) rfl (⟨#[40]⟩ : ByteArray) true (by kernel_rfl)) h4
  have h6 : Rd2 E 214 #[.pointer (some ⟨E.gp, 0, none⟩)] (b + 6) (b + 7) 1 (⟨#[88]⟩ : ByteArray) [] (.bool false) := H.prim 6 2 (⟨#[88]⟩ : ByteArray) rfl (by kernel_rfl)
  have h7 : Rd2 E 202 #[.pointer (some ⟨E.gp, 0, none⟩)] (b + 6) (b + 7) 1 (⟨#[88]⟩ : ByteArray) [] (.int .i64 11) := operand_lit (H.self 6 2 (⟨#[88]⟩ : ByteArray) rfl false (by kernel_rfl)) trivial h6 (fun w A c hp => behind_lit hp 88 ⟨by decide, fun _ => by rfl, by decide, by decide, by decide⟩ (H.isT 7 8 (⟨#[111, 102]⟩ : ByteArray) rfl (⟨#[40]⟩ : ByteArray) false (by kernel_rfl)) (H.isT 7 8 (⟨#[111, 102]⟩ : ByteArray) rfl (⟨#[58]⟩ : ByteArray) false (by kernel_rfl)) (H.isT 7 8 (⟨#[111, 102]⟩ : ByteArray) rfl (⟨#[35]⟩ : ByteArray) false (by kernel_rfl)))
  have h8 : Rd E 166 #[.pointer (some ⟨E.gp, 0, none⟩), .int .i64 0] (b + 6) (b + 7) 1 (⟨#[88]⟩ : ByteArray) [] := expr_stop0s (H.isT 6 2 (⟨#[88]⟩ : ByteArray) rfl (⟨#[99, 97, 116, 99, 104]⟩ : ByteArray) false (by kernel_rfl)) h7 (H.self 7 8 (⟨#[111, 102]⟩ : ByteArray) rfl true (by kernel_rfl)) (H.bin 7 8 (⟨#[111, 102]⟩ : ByteArray) rfl 0 (by kernel_rfl))
  have h9 : Rd2 E 214 #[.pointer (some ⟨E.gp, 0, none⟩)] (b + 8) (b + 9) 1 (⟨#[97]⟩ : ByteArray) [] (.bool false) := H.prim 8 1 (⟨#[97]⟩ : ByteArray) rfl (by kernel_rfl)
  have h10 : Rd2 E 202 #[.pointer (some ⟨E.gp, 0, none⟩)] (b + 8) (b + 9) 1 (⟨#[97]⟩ : ByteArray) [] (.int .i64 11) := operand_lit (H.self 8 1 (⟨#[97]⟩ : ByteArray) rfl false (by kernel_rfl)) trivial h9 (fun w A c hp => behind_lit hp 97 ⟨by decide, fun _ => by rfl, by decide, by decide, by decide⟩ (H.isT 9 9 (⟨#[45, 62]⟩ : ByteArray) rfl (⟨#[40]⟩ : ByteArray) false (by kernel_rfl)) (H.isT 9 9 (⟨#[45, 62]⟩ : ByteArray) rfl (⟨#[58]⟩ : ByteArray) false (by kernel_rfl)) (H.isT 9 9 (⟨#[45, 62]⟩ : ByteArray) rfl (⟨#[35]⟩ : ByteArray) false (by kernel_rfl)))
  have h11 : Rd E 166 #[.pointer (some ⟨E.gp, 0, none⟩), .int .i64 1] (b + 8) (b + 9) 1 (⟨#[97]⟩ : ByteArray) [] := expr_stop1s trivial h10 (H.self 9 9 (⟨#[45, 62]⟩ : ByteArray) rfl true (by kernel_rfl)) (H.bin 9 9 (⟨#[45, 62]⟩ : ByteArray) rfl 0 (by kernel_rfl))
  have h12 : Rd2 E 214 #[.pointer (some ⟨E.gp, 0, none⟩)] (b + 10) (b + 11) 1 (⟨#[98]⟩ : ByteArray) [] (.bool false) := H.prim 10 1 (⟨#[98]⟩ : ByteArray) rfl (by kernel_rfl)
  have h13 : Rd2 E 202 #[.pointer (some ⟨E.gp, 0, none⟩)] (b + 10) (b + 11) 1 (⟨#[98]⟩ : ByteArray) [] (.int .i64 11) := operand_lit (H.self 10 1 (⟨#[98]⟩ : ByteArray) rfl false (by kernel_rfl)) trivial h12 (fun w A c hp => behind_lit hp 98 ⟨by decide, fun _ => by rfl, by decide, by decide, by decide⟩ (H.isT 11 8 (⟨#[101, 110, 100]⟩ : ByteArray) rfl (⟨#[40]⟩ : ByteArray) false (by kernel_rfl)) (H.isT 11 8 (⟨#[101, 110, 100]⟩ : ByteArray) rfl (⟨#[58]⟩ : ByteArray) false (by kernel_rfl)) (H.isT 11 8 (⟨#[101, 110, 100]⟩ : ByteArray) rfl (⟨#[35]⟩ : ByteArray) false (by kernel_rfl)))
  have h14 : Rd E 166 #[.pointer (some ⟨E.gp, 0, none⟩), .int .i64 0] (b + 10) (b + 11) 1 (⟨#[98]⟩ : ByteArray) [] := expr_stop0s (H.isT 10 1 (⟨#[98]⟩ : ByteArray) rfl (⟨#[99, 97, 116, 99, 104]⟩ : ByteArray) false (by kernel_rfl)) h13 (H.self 11 8 (⟨#[101, 110, 100]⟩ : ByteArray) rfl true (by kernel_rfl)) (H.bin 11 8 (⟨#[101, 110, 100]⟩ : ByteArray) rfl 0 (by kernel_rfl))
  have h15 : Rd E 207 #[.pointer (some ⟨E.gp, 0, none⟩)] (b + 10) (b + 11) 25 (⟨#[]⟩ : ByteArray) [(nd 1 (⟨#[98]⟩ : ByteArray) [])] := body_rd h14 (H.isT 11 8 (⟨#[101, 110, 100]⟩ : ByteArray) rfl (⟨#[44]⟩ : ByteArray) false (by kernel_rfl))
  have h16 : RdC E (b + 9) (b + 11) 25 (⟨#[]⟩ : ByteArray) [(nd 1 (⟨#[98]⟩ : ByteArray) [])] := clause_rd (H.isT 9 9 (⟨#[45, 62]⟩ : ByteArray) rfl (⟨#[45, 62]⟩ : ByteArray) true (by kernel_rfl)) h15 (Nat.lt_of_le_of_lt HF (by omega : b < b + 10)) (H.lt 10 1 (⟨#[98]⟩ : ByteArray) rfl)
  have h17 : Rd E 234 #[.pointer (some ⟨E.gp, 0, none⟩)] (b + 8) (b + 11) 22 (⟨#[]⟩ : ByteArray) [(nd 23 (⟨#[]⟩ : ByteArray) [(nd 1 (⟨#[97]⟩ : ByteArray) [])]), (nd 24 (⟨#[]⟩ : ByteArray) []), (nd 25 (⟨#[]⟩ : ByteArray) [(nd 1 (⟨#[98]⟩ : ByteArray) [])])] := pattern_rd h11 (H.isT 9 9 (⟨#[45, 62]⟩ : ByteArray) rfl (⟨#[119, 104, 101, 110]⟩ : ByteArray) false (by kernel_rfl)) h16
  have h18 : RdL E 136 #[.pointer (some ⟨E.gp, 0, none⟩), .slice none 0 0, .func (.func 234) #[.pointer (some ⟨E.gp, 0, none⟩)] #[]] (b + 8) (b + 11) [(nd 22 (⟨#[]⟩ : ByteArray) [(nd 23 (⟨#[]⟩ : ByteArray) [(nd 1 (⟨#[97]⟩ : ByteArray) [])]), (nd 24 (⟨#[]⟩ : ByteArray) []), (nd 25 (⟨#[]⟩ : ByteArray) [(nd 1 (⟨#[98]⟩ : ByteArray) [])])])] := fun w hp => more_rd (f := 234) (fs := #[.pointer (some ⟨E.gp, 0, none⟩)]) (cs := #[]) (args := #[.pointer (some ⟨E.gp, 0, none⟩)]) Tryz.func234 (by kernel_rfl) rfl (by simp) (fun _ => True) (fun _ _ _ _ => trivial) (fun w hp _ => h17 w hp) (H.isT 11 8 (⟨#[101, 110, 100]⟩ : ByteArray) rfl (⟨#[59]⟩ : ByteArray) false (by kernel_rfl)) w hp trivial
  have h19 : RdE E (.func (.func 234) #[.pointer (some ⟨E.gp, 0, none⟩)] #[]) (b + 8) (b + 12) [(nd 22 (⟨#[]⟩ : ByteArray) [(nd 23 (⟨#[]⟩ : ByteArray) [(nd 1 (⟨#[97]⟩ : ByteArray) [])]), (nd 24 (⟨#[]⟩ : ByteArray) []), (nd 25 (⟨#[]⟩ : ByteArray) [(nd 1 (⟨#[98]⟩ : ByteArray) [])])])] := ended_rd h18 (H.isT 11 8 (⟨#[101, 110, 100]⟩ : ByteArray) rfl (⟨#[101, 110, 100]⟩ : ByteArray) true (by kernel_rfl))
  have h20 : Rd E 225 #[.pointer (some ⟨E.gp, 0, none⟩)] (b + 5) (b + 12) 18 (⟨#[]⟩ : ByteArray) [(nd 1 (⟨#[88]⟩ : ByteArray) []), (nd 22 (⟨#[]⟩ : ByteArray) [(nd 23 (⟨#[]⟩ : ByteArray) [(nd 1 (⟨#[97]⟩ : ByteArray) [])]), (nd 24 (⟨#[]⟩ : ByteArray) []), (nd 25 (⟨#[]⟩ : ByteArray) [(nd 1 (⟨#[98]⟩ : ByteArray) [])])])] := case_rd (H.isT 5 8 (⟨#[99, 97, 115, 101]⟩ : ByteArray) rfl (⟨#[102, 117, 110]⟩ : ByteArray) false (by kernel_rfl)) (H.isT 5 8 (⟨#[99, 97, 115, 101]⟩ : ByteArray) rfl (⟨#[99, 97, 115, 101]⟩ : ByteArray) true (by kernel_rfl)) h8 (H.isT 7 8 (⟨#[111, 102]⟩ : ByteArray) rfl (⟨#[111, 102]⟩ : ByteArray) true (by kernel_rfl)) h19 (by simp)
  have h21 : Rd2 E 214 #[.pointer (some ⟨E.gp, 0, none⟩)] (b + 5) (b + 12) 18 (⟨#[]⟩ : ByteArray) [(nd 1 (⟨#[88]⟩ : ByteArray) []), (nd 22 (⟨#[]⟩ : ByteArray) [(nd 23 (⟨#[]⟩ : ByteArray) [(nd 1 (⟨#[97]⟩ : ByteArray) [])]), (nd 24 (⟨#[]⟩ : ByteArray) []), (nd 25 (⟨#[]⟩ : ByteArray) [(nd 1 (⟨#[98]⟩ : ByteArray) [])])])] (.bool false) := prim_word (H.lit 5 8 (⟨#[99, 97, 115, 101]⟩ : ByteArray) rfl (by kernel_rfl)) (H.isT 5 8 (⟨#[99, 97, 115, 101]⟩ : ByteArray) rfl (⟨#[40]⟩ : ByteArray) false (by kernel_rfl)) (H.isT 5 8 (⟨#[99, 97, 115, 101]⟩ : ByteArray) rfl (⟨#[123]⟩ : ByteArray) false (by kernel_rfl)) (H.isT 5 8 (⟨#[99, 97, 115, 101]⟩ : ByteArray) rfl (⟨#[91]⟩ : ByteArray) false (by kernel_rfl)) (H.isT 5 8 (⟨#[99, 97, 115, 101]⟩ : ByteArray) rfl (⟨#[60, 60]⟩ : ByteArray) false (by kernel_rfl)) (H.isT 5 8 (⟨#[99, 97, 115, 101]⟩ : ByteArray) rfl (⟨#[35]⟩ : ByteArray) false (by kernel_rfl)) h20
  have h22 : Rd2 E 202 #[.pointer (some ⟨E.gp, 0, none⟩)] (b + 5) (b + 12) 18 (⟨#[]⟩ : ByteArray) [(nd 1 (⟨#[88]⟩ : ByteArray) []), (nd 22 (⟨#[]⟩ : ByteArray) [(nd 23 (⟨#[]⟩ : ByteArray) [(nd 1 (⟨#[97]⟩ : ByteArray) [])]), (nd 24 (⟨#[]⟩ : ByteArray) []), (nd 25 (⟨#[]⟩ : ByteArray) [(nd 1 (⟨#[98]⟩ : ByteArray) [])])])] (.int .i64 11) := operand_sgn (H.self 5 8 (⟨#[99, 97, 115, 101]⟩ : ByteArray) rfl true (by kernel_rfl)) (H.pre 5 8 (⟨#[99, 97, 115, 101]⟩ : ByteArray) rfl (by kernel_rfl)) h21 (fun w A c hp => behind_case hp)
  have h23 : Rd E 166 #[.pointer (some ⟨E.gp, 0, none⟩), .int .i64 0] (b + 5) (b + 12) 18 (⟨#[]⟩ : ByteArray) [(nd 1 (⟨#[88]⟩ : ByteArray) []), (nd 22 (⟨#[]⟩ : ByteArray) [(nd 23 (⟨#[]⟩ : ByteArray) [(nd 1 (⟨#[97]⟩ : ByteArray) [])]), (nd 24 (⟨#[]⟩ : ByteArray) []), (nd 25 (⟨#[]⟩ : ByteArray) [(nd 1 (⟨#[98]⟩ : ByteArray) [])])])] := expr_stop0n (H.isT 5 8 (⟨#[99, 97, 115, 101]⟩ : ByteArray) rfl (⟨#[99, 97, 116, 99, 104]⟩ : ByteArray) false (by kernel_rfl)) h22 (self_end HE) (bin_end HE)
  have h24 : Rd E 207 #[.pointer (some ⟨E.gp, 0, none⟩)] (b + 5) (b + 12) 25 (⟨#[]⟩ : ByteArray) [(nd 18 (⟨#[]⟩ : ByteArray) [(nd 1 (⟨#[88]⟩ : ByteArray) []), (nd 22 (⟨#[]⟩ : ByteArray) [(nd 23 (⟨#[]⟩ : ByteArray) [(nd 1 (⟨#[97]⟩ : ByteArray) [])]), (nd 24 (⟨#[]⟩ : ByteArray) []), (nd 25 (⟨#[]⟩ : ByteArray) [(nd 1 (⟨#[98]⟩ : ByteArray) [])])])])] := body_rd h23 (isT_end HE (⟨#[44]⟩ : ByteArray))
  have h25 : RdC E (b + 4) (b + 12) 25 (⟨#[]⟩ : ByteArray) [(nd 18 (⟨#[]⟩ : ByteArray) [(nd 1 (⟨#[88]⟩ : ByteArray) []), (nd 22 (⟨#[]⟩ : ByteArray) [(nd 23 (⟨#[]⟩ : ByteArray) [(nd 1 (⟨#[97]⟩ : ByteArray) [])]), (nd 24 (⟨#[]⟩ : ByteArray) []), (nd 25 (⟨#[]⟩ : ByteArray) [(nd 1 (⟨#[98]⟩ : ByteArray) [])])])])] := clause_rd (H.isT 4 9 (⟨#[45, 62]⟩ : ByteArray) rfl (⟨#[45, 62]⟩ : ByteArray) true (by kernel_rfl)) h24 (Nat.lt_of_le_of_lt HF (by omega : b < b + 5)) (H.lt 5 8 (⟨#[99, 97, 115, 101]⟩ : ByteArray) rfl)
  have h26 : Rd E 138 #[.pointer (some ⟨E.gp, 0, none⟩), .string (⟨#[103]⟩ : ByteArray)] (b + 1) (b + 12) 22 (⟨#[103]⟩ : ByteArray) [(nd 23 (⟨#[]⟩ : ByteArray) [(nd 1 (⟨#[88]⟩ : ByteArray) [])]), (nd 24 (⟨#[]⟩ : ByteArray) []), (nd 25 (⟨#[]⟩ : ByteArray) [(nd 18 (⟨#[]⟩ : ByteArray) [(nd 1 (⟨#[88]⟩ : ByteArray) []), (nd 22 (⟨#[]⟩ : ByteArray) [(nd 23 (⟨#[]⟩ : ByteArray) [(nd 1 (⟨#[97]⟩ : ByteArray) [])]), (nd 24 (⟨#[]⟩ : ByteArray) []), (nd 25 (⟨#[]⟩ : ByteArray) [(nd 1 (⟨#[98]⟩ : ByteArray) [])])])])])] := called_rd h5 (H.isT 4 9 (⟨#[45, 62]⟩ : ByteArray) rfl (⟨#[119, 104, 101, 110]⟩ : ByteArray) false (by kernel_rfl)) h25
  exact H.f135 1 (⟨#[103]⟩ : ByteArray) rfl rfl h26 (isT_end HE _) hp hO hg hD
def T5 : List (Int × ByteArray) := [(1, (⟨#[104]⟩ : ByteArray)), (9, (⟨#[40]⟩ : ByteArray)), (9, (⟨#[41]⟩ : ByteArray)), (9, (⟨#[45, 62]⟩ : ByteArray)), (9, (⟨#[91]⟩ : ByteArray)), (2, (⟨#[88]⟩ : ByteArray)), (9, (⟨#[124, 124]⟩ : ByteArray)), (2, (⟨#[88]⟩ : ByteArray)), (9, (⟨#[60, 45]⟩ : ByteArray)), (1, (⟨#[108]⟩ : ByteArray)), (9, (⟨#[93]⟩ : ByteArray))]
set_option maxHeartbeats 4000000 in
set_option maxRecDepth 100000 in
theorem rd5 (H : Has E b T5) (HE : E.n = b + 11) (HF : E.fr ≤ b) {w : World} {gO : Nat} {v0 : Value} (hp : PSt E w b) (hO : w.heap[gO]? = some (.cells #[v0] 33 (0, 0))) (hg : gO ≠ E.gp) (hD : E.wD.heap.size ≤ gO) : Calls Tryz.prog 135 #[.pointer (some ⟨E.gp, 0, none⟩), .pointer (some ⟨gO, 0, none⟩)] w (DoP E gO w (b + 11) [(nd 22 (⟨#[104]⟩ : ByteArray) [(nd 23 (⟨#[]⟩ : ByteArray) []), (nd 24 (⟨#[]⟩ : ByteArray) []), (nd 25 (⟨#[]⟩ : ByteArray) [(nd 15 (⟨#[]⟩ : ByteArray) [(nd 1 (⟨#[88]⟩ : ByteArray) []), (nd 14 (⟨#[60, 45]⟩ : ByteArray) [(nd 1 (⟨#[88]⟩ : ByteArray) []), (nd 1 (⟨#[108]⟩ : ByteArray) [])])])])])]) := by
  have h1 : RdI E (⟨#[41]⟩ : ByteArray) (b + 2) (b + 3) [] := items_nil (Nat.lt_of_le_of_lt HF (by omega : b < b + 2)) (H.isT 2 9 (⟨#[41]⟩ : ByteArray) rfl (⟨#[41]⟩ : ByteArray) true (by kernel_rfl))
  have h2 : Rd E 163 #[.pointer (some ⟨E.gp, 0, none⟩)] (b + 1) (b + 3) 23 (⟨#[]⟩ : ByteArray) [] := args_rd (H.isT 1 9 (⟨#[40]⟩ : ByteArray) rfl (⟨#[40]⟩ : ByteArray) true (by kernel_rfl)) h1
  have h3 : Rd2 E 214 #[.pointer (some ⟨E.gp, 0, none⟩)] (b + 5) (b + 6) 1 (⟨#[88]⟩ : ByteArray) [] (.bool false) := H.prim 5 2 (⟨#[88]⟩ : ByteArray) rfl (by kernel_rfl)
  have h4 : Rd2 E 202 #[.pointer (some ⟨E.gp, 0, none⟩)] (b + 5) (b + 6) 1 (⟨#[88]⟩ : ByteArray) [] (.int .i64 11) := operand_lit (H.self 5 2 (⟨#[88]⟩ : ByteArray) rfl false (by kernel_rfl)) trivial h3 (fun w A c hp => behind_lit hp 88 ⟨by decide, fun _ => by rfl, by decide, by decide, by decide⟩ (H.isT 6 9 (⟨#[124, 124]⟩ : ByteArray) rfl (⟨#[40]⟩ : ByteArray) false (by kernel_rfl)) (H.isT 6 9 (⟨#[124, 124]⟩ : ByteArray) rfl (⟨#[58]⟩ : ByteArray) false (by kernel_rfl)) (H.isT 6 9 (⟨#[124, 124]⟩ : ByteArray) rfl (⟨#[35]⟩ : ByteArray) false (by kernel_rfl)))
  have h5 : Rd E 166 #[.pointer (some ⟨E.gp, 0, none⟩), .int .i64 3] (b + 5) (b + 6) 1 (⟨#[88]⟩ : ByteArray) [] := expr_stop3s trivial h4 (H.self 6 9 (⟨#[124, 124]⟩ : ByteArray) rfl true (by kernel_rfl)) (H.bin 6 9 (⟨#[124, 124]⟩ : ByteArray) rfl 0 (by kernel_rfl))
  have h6 : Rd2 E 214 #[.pointer (some ⟨E.gp, 0, none⟩)] (b + 7) (b + 8) 1 (⟨#[88]⟩ : ByteArray) [] (.bool false) := H.prim 7 2 (⟨#[88]⟩ : ByteArray) rfl (by kernel_rfl)
  have h7 : Rd2 E 202 #[.pointer (some ⟨E.gp, 0, none⟩)] (b + 7) (b + 8) 1 (⟨#[88]⟩ : ByteArray) [] (.int .i64 11) := operand_lit (H.self 7 2 (⟨#[88]⟩ : ByteArray) rfl false (by kernel_rfl)) trivial h6 (fun w A c hp => behind_lit hp 88 ⟨by decide, fun _ => by rfl, by decide, by decide, by decide⟩ (H.isT 8 9 (⟨#[60, 45]⟩ : ByteArray) rfl (⟨#[40]⟩ : ByteArray) false (by kernel_rfl)) (H.isT 8 9 (⟨#[60, 45]⟩ : ByteArray) rfl (⟨#[58]⟩ : ByteArray) false (by kernel_rfl)) (H.isT 8 9 (⟨#[60, 45]⟩ : ByteArray) rfl (⟨#[35]⟩ : ByteArray) false (by kernel_rfl)))
  have h8 : Rd E 166 #[.pointer (some ⟨E.gp, 0, none⟩), .int .i64 3] (b + 7) (b + 8) 1 (⟨#[88]⟩ : ByteArray) [] := expr_stop3s trivial h7 (H.self 8 9 (⟨#[60, 45]⟩ : ByteArray) rfl true (by kernel_rfl)) (H.bin 8 9 (⟨#[60, 45]⟩ : ByteArray) rfl 0 (by kernel_rfl))
  have h9 : Rd2 E 214 #[.pointer (some ⟨E.gp, 0, none⟩)] (b + 9) (b + 10) 1 (⟨#[108]⟩ : ByteArray) [] (.bool false) := H.prim 9 1 (⟨#[108]⟩ : ByteArray) rfl (by kernel_rfl)
  have h10 : Rd2 E 202 #[.pointer (some ⟨E.gp, 0, none⟩)] (b + 9) (b + 10) 1 (⟨#[108]⟩ : ByteArray) [] (.int .i64 11) := operand_lit (H.self 9 1 (⟨#[108]⟩ : ByteArray) rfl false (by kernel_rfl)) trivial h9 (fun w A c hp => behind_lit hp 108 ⟨by decide, fun _ => by rfl, by decide, by decide, by decide⟩ (H.isT 10 9 (⟨#[93]⟩ : ByteArray) rfl (⟨#[40]⟩ : ByteArray) false (by kernel_rfl)) (H.isT 10 9 (⟨#[93]⟩ : ByteArray) rfl (⟨#[58]⟩ : ByteArray) false (by kernel_rfl)) (H.isT 10 9 (⟨#[93]⟩ : ByteArray) rfl (⟨#[35]⟩ : ByteArray) false (by kernel_rfl)))
  have h11 : Rd E 166 #[.pointer (some ⟨E.gp, 0, none⟩), .int .i64 3] (b + 9) (b + 10) 1 (⟨#[108]⟩ : ByteArray) [] := expr_stop3s trivial h10 (H.self 10 9 (⟨#[93]⟩ : ByteArray) rfl true (by kernel_rfl)) (H.bin 10 9 (⟨#[93]⟩ : ByteArray) rfl 0 (by kernel_rfl))
  have h12 : RdQ E (b + 7) (b + 11) [(nd 14 (⟨#[60, 45]⟩ : ByteArray) [(nd 1 (⟨#[88]⟩ : ByteArray) []), (nd 1 (⟨#[108]⟩ : ByteArray) [])])] := qual_rd h8 (H.isT 8 9 (⟨#[60, 45]⟩ : ByteArray) rfl (⟨#[60, 45]⟩ : ByteArray) true (by kernel_rfl)) h11 (H.isT 10 9 (⟨#[93]⟩ : ByteArray) rfl (⟨#[93]⟩ : ByteArray) true (by kernel_rfl))
  have h13 : Rd E 221 #[.pointer (some ⟨E.gp, 0, none⟩)] (b + 5) (b + 11) 15 (⟨#[]⟩ : ByteArray) [(nd 1 (⟨#[88]⟩ : ByteArray) []), (nd 14 (⟨#[60, 45]⟩ : ByteArray) [(nd 1 (⟨#[88]⟩ : ByteArray) []), (nd 1 (⟨#[108]⟩ : ByteArray) [])])] := list_rd ⟨(Nat.lt_of_le_of_lt HF (by omega : b < b + 5)), (H.lt 5 2 (⟨#[88]⟩ : ByteArray) rfl)⟩ (H.isT 5 2 (⟨#[88]⟩ : ByteArray) rfl (⟨#[93]⟩ : ByteArray) false (by kernel_rfl)) h5 (H.isT 6 9 (⟨#[124, 124]⟩ : ByteArray) rfl (⟨#[124, 124]⟩ : ByteArray) true (by kernel_rfl)) h12 (by simp)
  have h14 : Rd2 E 214 #[.pointer (some ⟨E.gp, 0, none⟩)] (b + 4) (b + 11) 15 (⟨#[]⟩ : ByteArray) [(nd 1 (⟨#[88]⟩ : ByteArray) []), (nd 14 (⟨#[60, 45]⟩ : ByteArray) [(nd 1 (⟨#[88]⟩ : ByteArray) []), (nd 1 (⟨#[108]⟩ : ByteArray) [])])] (.bool false) := prim_list (H.lit 4 9 (⟨#[91]⟩ : ByteArray) rfl (by kernel_rfl)) (H.isT 4 9 (⟨#[91]⟩ : ByteArray) rfl (⟨#[40]⟩ : ByteArray) false (by kernel_rfl)) (H.isT 4 9 (⟨#[91]⟩ : ByteArray) rfl (⟨#[123]⟩ : ByteArray) false (by kernel_rfl)) (H.isT 4 9 (⟨#[91]⟩ : ByteArray) rfl (⟨#[91]⟩ : ByteArray) true (by kernel_rfl)) h13
  have h15 : Rd2 E 202 #[.pointer (some ⟨E.gp, 0, none⟩)] (b + 4) (b + 11) 15 (⟨#[]⟩ : ByteArray) [(nd 1 (⟨#[88]⟩ : ByteArray) []), (nd 14 (⟨#[60, 45]⟩ : ByteArray) [(nd 1 (⟨#[88]⟩ : ByteArray) []), (nd 1 (⟨#[108]⟩ : ByteArray) [])])] (.int .i64 11) := operand_sgn (H.self 4 9 (⟨#[91]⟩ : ByteArray) rfl true (by kernel_rfl)) (H.pre 4 9 (⟨#[91]⟩ : ByteArray) rfl (by kernel_rfl)) h14 (fun w A c hp => behind_comp hp)
  have h16 : Rd E 166 #[.pointer (some ⟨E.gp, 0, none⟩), .int .i64 0] (b + 4) (b + 11) 15 (⟨#[]⟩ : ByteArray) [(nd 1 (⟨#[88]⟩ : ByteArray) []), (nd 14 (⟨#[60, 45]⟩ : ByteArray) [(nd 1 (⟨#[88]⟩ : ByteArray) []), (nd 1 (⟨#[108]⟩ : ByteArray) [])])] := expr_stop0n (H.isT 4 9 (⟨#[91]⟩ : ByteArray) rfl (⟨#[99, 97, 116, 99, 104]⟩ : ByteArray) false (by kernel_rfl)) h15 (self_end HE) (bin_end HE)
  have h17 : Rd E 207 #[.pointer (some ⟨E.gp, 0, none⟩)] (b + 4) (b + 11) 25 (⟨#[]⟩ : ByteArray) [(nd 15 (⟨#[]⟩ : ByteArray) [(nd 1 (⟨#[88]⟩ : ByteArray) []), (nd 14 (⟨#[60, 45]⟩ : ByteArray) [(nd 1 (⟨#[88]⟩ : ByteArray) []), (nd 1 (⟨#[108]⟩ : ByteArray) [])])])] := body_rd h16 (isT_end HE (⟨#[44]⟩ : ByteArray))
  have h18 : RdC E (b + 3) (b + 11) 25 (⟨#[]⟩ : ByteArray) [(nd 15 (⟨#[]⟩ : ByteArray) [(nd 1 (⟨#[88]⟩ : ByteArray) []), (nd 14 (⟨#[60, 45]⟩ : ByteArray) [(nd 1 (⟨#[88]⟩ : ByteArray) []), (nd 1 (⟨#[108]⟩ : ByteArray) [])])])] := clause_rd (H.isT 3 9 (⟨#[45, 62]⟩ : ByteArray) rfl (⟨#[45, 62]⟩ : ByteArray) true (by kernel_rfl)) h17 (Nat.lt_of_le_of_lt HF (by omega : b < b + 4)) (H.lt 4 9 (⟨#[91]⟩ : ByteArray) rfl)
  have h19 : Rd E 138 #[.pointer (some ⟨E.gp, 0, none⟩), .string (⟨#[104]⟩ : ByteArray)] (b + 1) (b + 11) 22 (⟨#[104]⟩ : ByteArray) [(nd 23 (⟨#[]⟩ : ByteArray) []), (nd 24 (⟨#[]⟩ : ByteArray) []), (nd 25 (⟨#[]⟩ : ByteArray) [(nd 15 (⟨#[]⟩ : ByteArray) [(nd 1 (⟨#[88]⟩ : ByteArray) []), (nd 14 (⟨#[60, 45]⟩ : ByteArray) [(nd 1 (⟨#[88]⟩ : ByteArray) []), (nd 1 (⟨#[108]⟩ : ByteArray) [])])])])] := called_rd h2 (H.isT 3 9 (⟨#[45, 62]⟩ : ByteArray) rfl (⟨#[119, 104, 101, 110]⟩ : ByteArray) false (by kernel_rfl)) h18
  exact H.f135 1 (⟨#[104]⟩ : ByteArray) rfl rfl h19 (isT_end HE _) hp hO hg hD
def T6 : List (Int × ByteArray) := [(9, (⟨#[45]⟩ : ByteArray)), (1, (⟨#[116]⟩ : ByteArray)), (1, (⟨#[97]⟩ : ByteArray)), (9, (⟨#[58, 58]⟩ : ByteArray)), (1, (⟨#[98]⟩ : ByteArray))]
set_option maxHeartbeats 4000000 in
set_option maxRecDepth 100000 in
theorem rd6 (H : Has E b T6) (HE : E.n = b + 5) (HF : E.fr ≤ b) {w : World} {gO : Nat} {v0 : Value} (hp : PSt E w (b + 2)) (hO : w.heap[gO]? = some (.cells #[v0] 33 (0, 0))) (hg : gO ≠ E.gp) (hD : E.wD.heap.size ≤ gO) : Calls Tryz.prog 167 #[.pointer (some ⟨E.gp, 0, none⟩), .pointer (some ⟨gO, 0, none⟩)] w (DoP E gO w (b + 5) [(nd 14 (⟨#[58, 58]⟩ : ByteArray) [(nd 1 (⟨#[97]⟩ : ByteArray) []), (nd 1 (⟨#[98]⟩ : ByteArray) [])])]) := by
  have h1 : Rd2 E 214 #[.pointer (some ⟨E.gp, 0, none⟩)] (b + 2) (b + 3) 1 (⟨#[97]⟩ : ByteArray) [] (.bool false) := H.prim 2 1 (⟨#[97]⟩ : ByteArray) rfl (by kernel_rfl)
  have h2 : Rd2 E 202 #[.pointer (some ⟨E.gp, 0, none⟩)] (b + 2) (b + 3) 1 (⟨#[97]⟩ : ByteArray) [] (.int .i64 11) := operand_lit (H.self 2 1 (⟨#[97]⟩ : ByteArray) rfl false (by kernel_rfl)) trivial h1 (fun w A c hp => behind_lit hp 97 ⟨by decide, fun _ => by rfl, by decide, by decide, by decide⟩ (H.isT 3 9 (⟨#[58, 58]⟩ : ByteArray) rfl (⟨#[40]⟩ : ByteArray) false (by kernel_rfl)) (H.isT 3 9 (⟨#[58, 58]⟩ : ByteArray) rfl (⟨#[58]⟩ : ByteArray) false (by kernel_rfl)) (H.isT 3 9 (⟨#[58, 58]⟩ : ByteArray) rfl (⟨#[35]⟩ : ByteArray) false (by kernel_rfl)))
  have h3 : Rd2 E 214 #[.pointer (some ⟨E.gp, 0, none⟩)] (b + 4) (b + 5) 1 (⟨#[98]⟩ : ByteArray) [] (.bool false) := H.prim 4 1 (⟨#[98]⟩ : ByteArray) rfl (by kernel_rfl)
  have h4 : Rd2 E 202 #[.pointer (some ⟨E.gp, 0, none⟩)] (b + 4) (b + 5) 1 (⟨#[98]⟩ : ByteArray) [] (.int .i64 11) := operand_lit (H.self 4 1 (⟨#[98]⟩ : ByteArray) rfl false (by kernel_rfl)) trivial h3 (fun w A c hp => behind_lit hp 98 ⟨by decide, fun _ => by rfl, by decide, by decide, by decide⟩ (isT_end HE (⟨#[40]⟩ : ByteArray)) (isT_end HE (⟨#[58]⟩ : ByteArray)) (isT_end HE (⟨#[35]⟩ : ByteArray)))
  have h5 : Rd E 166 #[.pointer (some ⟨E.gp, 0, none⟩), .int .i64 1] (b + 4) (b + 5) 1 (⟨#[98]⟩ : ByteArray) [] := expr_stop1n trivial h4 (self_end HE) (bin_end HE)
  have h6 : Rd E 166 #[.pointer (some ⟨E.gp, 0, none⟩), .int .i64 1] (b + 2) (b + 5) 14 (⟨#[58, 58]⟩ : ByteArray) [(nd 1 (⟨#[97]⟩ : ByteArray) []), (nd 1 (⟨#[98]⟩ : ByteArray) [])] := H.optxt 3 9 (⟨#[58, 58]⟩ : ByteArray) rfl (expr_op1n h2 (H.self 3 9 (⟨#[58, 58]⟩ : ByteArray) rfl true (by kernel_rfl)) (H.bin 3 9 (⟨#[58, 58]⟩ : ByteArray) rfl 1 (by kernel_rfl)) (H.left 3 9 (⟨#[58, 58]⟩ : ByteArray) rfl 2 (by kernel_rfl)) (H.right 3 9 (⟨#[58, 58]⟩ : ByteArray) rfl 1 (by kernel_rfl)) h5 (self_end HE) (bin_end HE))
  exact f167_expr (by rw [HE]; omega) (H.isT 2 1 (⟨#[97]⟩ : ByteArray) rfl (⟨#[40]⟩ : ByteArray) false (by kernel_rfl)) h6 hO hg hD hp
def T7 : List (Int × ByteArray) := [(1, (⟨#[102]⟩ : ByteArray)), (9, (⟨#[40]⟩ : ByteArray)), (9, (⟨#[41]⟩ : ByteArray)), (9, (⟨#[45, 62]⟩ : ByteArray)), (1, (⟨#[103]⟩ : ByteArray)), (9, (⟨#[40]⟩ : ByteArray)), (1, (⟨#[97]⟩ : ByteArray)), (9, (⟨#[44]⟩ : ByteArray)), (1, (⟨#[97]⟩ : ByteArray)), (9, (⟨#[41]⟩ : ByteArray))]
set_option maxHeartbeats 4000000 in
set_option maxRecDepth 100000 in
theorem rd7 (H : Has E b T7) (HE : E.n = b + 10) (HF : E.fr ≤ b) {w : World} {gO : Nat} {v0 : Value} (hp : PSt E w b) (hO : w.heap[gO]? = some (.cells #[v0] 33 (0, 0))) (hg : gO ≠ E.gp) (hD : E.wD.heap.size ≤ gO) : Calls Tryz.prog 135 #[.pointer (some ⟨E.gp, 0, none⟩), .pointer (some ⟨gO, 0, none⟩)] w (DoP E gO w (b + 10) [(nd 22 (⟨#[102]⟩ : ByteArray) [(nd 23 (⟨#[]⟩ : ByteArray) []), (nd 24 (⟨#[]⟩ : ByteArray) []), (nd 25 (⟨#[]⟩ : ByteArray) [(nd 2 (⟨#[]⟩ : ByteArray) [(nd 1 (⟨#[103]⟩ : ByteArray) []), (nd 1 (⟨#[97]⟩ : ByteArray) []), (nd 1 (⟨#[97]⟩ : ByteArray) [])])])])]) := by
  have h1 : RdI E (⟨#[41]⟩ : ByteArray) (b + 2) (b + 3) [] := items_nil (Nat.lt_of_le_of_lt HF (by omega : b < b + 2)) (H.isT 2 9 (⟨#[41]⟩ : ByteArray) rfl (⟨#[41]⟩ : ByteArray) true (by kernel_rfl))
  have h2 : Rd E 163 #[.pointer (some ⟨E.gp, 0, none⟩)] (b + 1) (b + 3) 23 (⟨#[]⟩ : ByteArray) [] := args_rd (H.isT 1 9 (⟨#[40]⟩ : ByteArray) rfl (⟨#[40]⟩ : ByteArray) true (by kernel_rfl)) h1
  have h3 : Rd2 E 214 #[.pointer (some ⟨E.gp, 0, none⟩)] (b + 4) (b + 5) 1 (⟨#[103]⟩ : ByteArray) [] (.bool false) := H.prim 4 1 (⟨#[103]⟩ : ByteArray) rfl (by kernel_rfl)
  have h4 : Rd2 E 214 #[.pointer (some ⟨E.gp, 0, none⟩)] (b + 6) (b + 7) 1 (⟨#[97]⟩ : ByteArray) [] (.bool false) := H.prim 6 1 (⟨#[97]⟩ : ByteArray) rfl (by kernel_rfl)
  have h5 : Rd2 E 202 #[.pointer (some ⟨E.gp, 0, none⟩)] (b + 6) (b + 7) 1 (⟨#[97]⟩ : ByteArray) [] (.int .i64 11) := operand_lit (H.self 6 1 (⟨#[97]⟩ : ByteArray) rfl false (by kernel_rfl)) trivial h4 (fun w A c hp => behind_lit hp 97 ⟨by decide, fun _ => by rfl, by decide, by decide, by decide⟩ (H.isT 7 9 (⟨#[44]⟩ : ByteArray) rfl (⟨#[40]⟩ : ByteArray) false (by kernel_rfl)) (H.isT 7 9 (⟨#[44]⟩ : ByteArray) rfl (⟨#[58]⟩ : ByteArray) false (by kernel_rfl)) (H.isT 7 9 (⟨#[44]⟩ : ByteArray) rfl (⟨#[35]⟩ : ByteArray) false (by kernel_rfl)))
  have h6 : Rd E 166 #[.pointer (some ⟨E.gp, 0, none⟩), .int .i64 0] (b + 6) (b + 7) 1 (⟨#[97]⟩ : ByteArray) [] := expr_stop0s (H.isT 6 1 (⟨#[97]⟩ : ByteArray) rfl (⟨#[99, 97, 116, 99, 104]⟩ : ByteArray) false (by kernel_rfl)) h5 (H.self 7 9 (⟨#[44]⟩ : ByteArray) rfl true (by kernel_rfl)) (H.bin 7 9 (⟨#[44]⟩ : ByteArray) rfl 0 (by kernel_rfl))
  have h7 : Rd2 E 214 #[.pointer (some ⟨E.gp, 0, none⟩)] (b + 8) (b + 9) 1 (⟨#[97]⟩ : ByteArray) [] (.bool false) := H.prim 8 1 (⟨#[97]⟩ : ByteArray) rfl (by kernel_rfl)
  have h8 : Rd2 E 202 #[.pointer (some ⟨E.gp, 0, none⟩)] (b + 8) (b + 9) 1 (⟨#[97]⟩ : ByteArray) [] (.int .i64 11) := operand_lit (H.self 8 1 (⟨#[97]⟩ : ByteArray) rfl false (by kernel_rfl)) trivial h7 (fun w A c hp => behind_lit hp 97 ⟨by decide, fun _ => by rfl, by decide, by decide, by decide⟩ (H.isT 9 9 (⟨#[41]⟩ : ByteArray) rfl (⟨#[40]⟩ : ByteArray) false (by kernel_rfl)) (H.isT 9 9 (⟨#[41]⟩ : ByteArray) rfl (⟨#[58]⟩ : ByteArray) false (by kernel_rfl)) (H.isT 9 9 (⟨#[41]⟩ : ByteArray) rfl (⟨#[35]⟩ : ByteArray) false (by kernel_rfl)))
  have h9 : Rd E 166 #[.pointer (some ⟨E.gp, 0, none⟩), .int .i64 0] (b + 8) (b + 9) 1 (⟨#[97]⟩ : ByteArray) [] := expr_stop0s (H.isT 8 1 (⟨#[97]⟩ : ByteArray) rfl (⟨#[99, 97, 116, 99, 104]⟩ : ByteArray) false (by kernel_rfl)) h8 (H.self 9 9 (⟨#[41]⟩ : ByteArray) rfl true (by kernel_rfl)) (H.bin 9 9 (⟨#[41]⟩ : ByteArray) rfl 0 (by kernel_rfl))
  have h10 : RdI E (⟨#[41]⟩ : ByteArray) (b + 6) (b + 10) [(nd 1 (⟨#[97]⟩ : ByteArray) []), (nd 1 (⟨#[97]⟩ : ByteArray) [])] := items_two (Nat.lt_of_le_of_lt HF (by omega : b < b + 6)) (H.lt 6 1 (⟨#[97]⟩ : ByteArray) rfl) (H.isT 6 1 (⟨#[97]⟩ : ByteArray) rfl (⟨#[41]⟩ : ByteArray) false (by kernel_rfl)) (at0_rd h6) (H.isT 7 9 (⟨#[44]⟩ : ByteArray) rfl (⟨#[41]⟩ : ByteArray) false (by kernel_rfl)) (H.isT 7 9 (⟨#[44]⟩ : ByteArray) rfl (⟨#[44]⟩ : ByteArray) true (by kernel_rfl)) (at0_rd h9) (H.isT 9 9 (⟨#[41]⟩ : ByteArray) rfl (⟨#[41]⟩ : ByteArray) true (by kernel_rfl))
  have h11 : Rd2 E 202 #[.pointer (some ⟨E.gp, 0, none⟩)] (b + 4) (b + 10) 2 (⟨#[]⟩ : ByteArray) [(nd 1 (⟨#[103]⟩ : ByteArray) []), (nd 1 (⟨#[97]⟩ : ByteArray) []), (nd 1 (⟨#[97]⟩ : ByteArray) [])] (.int .i64 11) := operand_call (H.self 4 1 (⟨#[103]⟩ : ByteArray) rfl false (by kernel_rfl)) trivial h3 (fun w A c hp => behind_call hp 103 ⟨by decide, fun _ => by rfl, by decide, by decide, by decide⟩ (H.isT 5 9 (⟨#[40]⟩ : ByteArray) rfl (⟨#[40]⟩ : ByteArray) true (by kernel_rfl)) (isT_end HE (⟨#[40]⟩ : ByteArray)) (isT_end HE (⟨#[35]⟩ : ByteArray)) h10)
  have h12 : Rd E 166 #[.pointer (some ⟨E.gp, 0, none⟩), .int .i64 0] (b + 4) (b + 10) 2 (⟨#[]⟩ : ByteArray) [(nd 1 (⟨#[103]⟩ : ByteArray) []), (nd 1 (⟨#[97]⟩ : ByteArray) []), (nd 1 (⟨#[97]⟩ : ByteArray) [])] := expr_stop0n (H.isT 4 1 (⟨#[103]⟩ : ByteArray) rfl (⟨#[99, 97, 116, 99, 104]⟩ : ByteArray) false (by kernel_rfl)) h11 (self_end HE) (bin_end HE)
  have h13 : Rd E 207 #[.pointer (some ⟨E.gp, 0, none⟩)] (b + 4) (b + 10) 25 (⟨#[]⟩ : ByteArray) [(nd 2 (⟨#[]⟩ : ByteArray) [(nd 1 (⟨#[103]⟩ : ByteArray) []), (nd 1 (⟨#[97]⟩ : ByteArray) []), (nd 1 (⟨#[97]⟩ : ByteArray) [])])] := body_rd h12 (isT_end HE (⟨#[44]⟩ : ByteArray))
  have h14 : RdC E (b + 3) (b + 10) 25 (⟨#[]⟩ : ByteArray) [(nd 2 (⟨#[]⟩ : ByteArray) [(nd 1 (⟨#[103]⟩ : ByteArray) []), (nd 1 (⟨#[97]⟩ : ByteArray) []), (nd 1 (⟨#[97]⟩ : ByteArray) [])])] := clause_rd (H.isT 3 9 (⟨#[45, 62]⟩ : ByteArray) rfl (⟨#[45, 62]⟩ : ByteArray) true (by kernel_rfl)) h13 (Nat.lt_of_le_of_lt HF (by omega : b < b + 4)) (H.lt 4 1 (⟨#[103]⟩ : ByteArray) rfl)
  have h15 : Rd E 138 #[.pointer (some ⟨E.gp, 0, none⟩), .string (⟨#[102]⟩ : ByteArray)] (b + 1) (b + 10) 22 (⟨#[102]⟩ : ByteArray) [(nd 23 (⟨#[]⟩ : ByteArray) []), (nd 24 (⟨#[]⟩ : ByteArray) []), (nd 25 (⟨#[]⟩ : ByteArray) [(nd 2 (⟨#[]⟩ : ByteArray) [(nd 1 (⟨#[103]⟩ : ByteArray) []), (nd 1 (⟨#[97]⟩ : ByteArray) []), (nd 1 (⟨#[97]⟩ : ByteArray) [])])])] := called_rd h2 (H.isT 3 9 (⟨#[45, 62]⟩ : ByteArray) rfl (⟨#[119, 104, 101, 110]⟩ : ByteArray) false (by kernel_rfl)) h14
  exact H.f135 1 (⟨#[102]⟩ : ByteArray) rfl rfl h15 (isT_end HE _) hp hO hg hD
end
end Go.Proofs.YthipodffpkglfaaGreatDoor.PS
namespace Go.Proofs.YthipodffpkglfaaGreatDoor.PS
open Go.RowKit Go.Proofs.YthipodffpkglfaaGreatDoorW.PrintWords Go.Proofs.YthipodffpkglfaaGreatDoorW.PrintLast Go.Proofs.YthipodffpkglfaaGreatDoorW.PrintMore
set_option linter.unusedVariables false
set_option linter.unusedSimpArgs false
/-- What a function's frame holds: nothing of what there was is turned; boxes; rows of nodes. -/
structure Fg (wD w0 : World) (bs : List (Nat × Nat × Array Value)) (ns : List (Option Addr × List S45)) (w : World) : Prop where
  hb : Below wD.heap.size wD w
  dl : wD.heap.size ≤ w0.heap.size
  sz : w0.heap.size ≤ w.heap.size
  kb : ∀ k, k < w0.heap.size → w.heap[k]? = w0.heap[k]?
  bx : ∀ b ∈ bs, w.heap[b.1]? = some (.cells b.2.2 b.2.1 (0, 0)) ∧ w0.heap.size ≤ b.1
  ne : bs.Pairwise (fun a b => a.1 ≠ b.1)
  nf : ∀ r ∈ ns, Kd.F k45 w (fun k => w0.heap.size ≤ k ∧ ∀ b ∈ bs, k ≠ b.1) r.1 r.2.length r.2
section
variable {wD w0 w w' : World} {bs : List (Nat × Nat × Array Value)} {ns : List (Option Addr × List S45)}
theorem Fg.init (h : Below wD.heap.size wD w) : Fg wD w [] [] w := ⟨h, h.size, Nat.le_refl _, fun _ _ => rfl, fun _ h => (by cases h), .nil, fun _ h => (by cases h)⟩
theorem Fg.lt (F : Fg wD w0 bs ns w) : ∀ b ∈ bs, b.1 < w.heap.size := fun b hb => blk_lt (F.bx b hb).1
theorem Fg.at_ (F : Fg wD w0 bs ns w) {n g t : Nat} {cs : Array Value} (hn : bs[n]? = some (g, t, cs)) : w.heap[g]? = some (.cells cs t (0, 0)) := (F.bx _ (List.mem_of_getElem? hn)).1
/-- A call that turns nothing of what there is. -/
theorem Fg.keep (F : Fg wD w0 bs ns w) (hb : Below wD.heap.size wD w') (hk : KeepBut w w' w.heap.size none) : Fg wD w0 bs ns w' :=
  have hw : ∀ k, k < w.heap.size → w'.heap[k]? = w.heap[k]? := fun k h => hk.2 k h (by omega) (by simp)
  ⟨hb, F.dl, Nat.le_trans F.sz hk.1, fun k h => (hw k (Nat.lt_of_lt_of_le h F.sz)).trans (F.kb k h), fun b h => ⟨(hw _ (F.lt b h)).trans (F.bx b h).1, (F.bx b h).2⟩, F.ne, fun r hr => Kd.F_step (F.nf r hr) (fun k _ hl => hw k hl)⟩
theorem Fg.below (F : Fg wD w0 bs ns w) (hb : Below w.heap.size w w') : Fg wD w0 bs ns w' :=
  F.keep (F.hb.trans (hb.mono (Nat.le_trans F.dl F.sz))) (KeepBut.of_below hb _ _)
theorem Fg.node (F : Fg wD w0 bs ns w) (hb : Below wD.heap.size wD w') (hk : KeepBut w w' w.heap.size none) {A : Option Addr} {l : List S45} (hf : Kd.F k45 w' (fun k => w.heap.size ≤ k) A l.length l) : Fg wD w0 bs ((A, l) :: ns) w' :=
  have G := F.keep hb hk
  ⟨G.hb, G.dl, G.sz, G.kb, G.bx, G.ne, fun r hr => by
    rcases List.mem_cons.1 hr with rfl | hr
    · exact Kd.F_mono hf (fun k hk => ⟨Nat.le_trans F.sz hk, fun b hb => by have := F.lt b hb; omega⟩)
    · exact G.nf r hr⟩
theorem Fg.box (F : Fg wD w0 bs ns w) {g t : Nat} {cs : Array Value} (hg : g = w.heap.size) (hb : w'.heap[g]? = some (.cells cs t (0, 0))) (h : Below w.heap.size w w') : Fg wD w0 ((g, t, cs) :: bs) ns w' :=
  have G := F.below h
  ⟨G.hb, G.dl, G.sz, G.kb, fun b m => by
    rcases List.mem_cons.1 m with rfl | m
    · exact ⟨hb, by rw [hg]; exact F.sz⟩
    · exact G.bx b m, .cons (fun b m => by have := F.lt b m; rw [hg]; omega) G.ne,
   fun r hr => Kd.F_mono (Kd.F_below (Kd.F_bound (F.nf r hr)) h) (fun k hk => ⟨hk.1.1, fun b m => by
    rcases List.mem_cons.1 m with rfl | m
    · have := hk.2; rw [hg]; omega
    · exact hk.1.2 b m⟩)⟩
theorem Fg.put (F : Fg wD w0 bs ns w) {n g t : Nat} {cs cs' : Array Value} (hn : bs[n]? = some (g, t, cs)) (hb : w'.heap[g]? = some (.cells cs' t (0, 0))) (h : Below g w w') (ho : ∀ k, k ≠ g → w'.heap[k]? = w.heap[k]?) : Fg wD w0 (bs.set n (g, t, cs')) ns w' := by
  have hm : (g, t, cs) ∈ bs := List.mem_of_getElem? hn
  have hgb := (F.bx _ hm).2
  have hfst : ∀ b ∈ bs.set n (g, t, cs'), ∃ b' ∈ bs, b'.1 = b.1 := fun b hb => by
    rcases List.mem_or_eq_of_mem_set hb with m | rfl
    · exact ⟨b, m, rfl⟩
    · exact ⟨_, hm, rfl⟩
  have hmono : ∀ k, (∀ b ∈ bs, k ≠ b.1) → ∀ b ∈ bs.set n (g, t, cs'), k ≠ b.1 := fun k hk b hb => by
    obtain ⟨b', m, e⟩ := hfst b hb
    rw [← e]; exact hk b' m
  refine ⟨F.hb.trans (h.mono (Nat.le_trans F.dl hgb)), F.dl, Nat.le_trans F.sz h.size, fun k h1 => (ho k (by omega)).trans (F.kb k h1), fun b m => ?_, ?_, fun r hr => Kd.F_mono (Kd.F_step (F.nf r hr) (fun k hk _ => ho k (hk.2 _ hm))) (fun k hk => ⟨hk.1, hmono k hk.2⟩)⟩
  · obtain ⟨k, hk⟩ := List.mem_iff_getElem?.1 m
    by_cases e : k = n
    · subst e
      rw [List.getElem?_set_self (List.getElem?_eq_some_iff.1 hn).1] at hk
      injection hk with hk
      subst hk
      exact ⟨hb, hgb⟩
    · rw [List.getElem?_set_ne (Ne.symm e)] at hk
      have mk : b ∈ bs := List.mem_iff_getElem?.2 ⟨k, hk⟩
      have hne : b.1 ≠ g := by
        have hp := List.pairwise_iff_getElem.1 F.ne
        obtain ⟨h1, e1⟩ := List.getElem?_eq_some_iff.1 hk
        obtain ⟨h2, e2⟩ := List.getElem?_eq_some_iff.1 hn
        rcases Nat.lt_or_gt_of_ne e with q | q
        · have := hp k n h1 h2 q
          rw [e1, e2] at this
          exact this
        · have := hp n k h2 h1 q
          rw [e1, e2] at this
          exact this.symm
      exact ⟨(ho _ hne).trans (F.bx b mk).1, (F.bx b mk).2⟩
  · have hmap : (bs.set n (g, t, cs')).map (·.1) = bs.map (·.1) := by
      rw [List.map_set]
      apply List.ext_getElem?
      intro k
      by_cases e : k = n
      · subst e
        have hl := (List.getElem?_eq_some_iff.1 hn).1
        rw [List.getElem?_set_self (by rw [List.length_map]; exact hl), List.getElem?_map, hn]
        rfl
      · rw [List.getElem?_set_ne (Ne.symm e)]
    have hp : (bs.map (·.1)).Pairwise (· ≠ ·) := List.pairwise_map.2 F.ne
    rw [← hmap] at hp
    exact List.pairwise_map.1 hp
theorem Fg.row (F : Fg wD w0 bs ns w) {n : Nat} {A : Option Addr} {l : List S45} (hn : ns[n]? = some (A, l)) : Kd.F k45 w (fun k => w0.heap.size ≤ k) A l.length l := Kd.F_mono (F.nf _ (List.mem_of_getElem? hn)) (fun _ h => h.1)
theorem Fg.kept (F : Fg wD w0 bs ns w) : KeepBut w0 w w0.heap.size none := ⟨F.sz, fun k h1 _ _ => F.kb k h1⟩
theorem Fg.drop0 {b : Nat × Nat × Array Value} (F : Fg wD w0 (b :: bs) ns w) : Fg wD w0 bs ns w :=
  ⟨F.hb, F.dl, F.sz, F.kb, fun b m => F.bx b (List.mem_cons_of_mem _ m), (List.pairwise_cons.1 F.ne).2, fun r m => Kd.F_mono (F.nf r m) (fun k hk => ⟨hk.1, fun b m => hk.2 b (List.mem_cons_of_mem _ m)⟩)⟩
variable {P : Program} {ops : Array Oper} {rest : List Oper} {o : Oper} {a : Act} {Q : Exit → Act → World → Prop}
theorem Fg.st (F : Fg wD w0 bs ns w) (n : Nat) {g t : Nat} {cs : Array Value} (hn : bs[n]? = some (g, t, cs)) {T : TypeId} {p : Tmp} {x : Operand} (hgd : o.guard = none) (hN : o.dst = none) (ho : o.op = .store T (.tmp p) x) (cs' : Array Value) (hp : a.eval (.tmp p) = .pointer (some ⟨g, 0, none⟩)) (hx : a.eval x = .agg cs') (hi : (P.info? T).map (·.size) = some cs'.size) (hs : cs.size = cs'.size) (h1 : cs'.all (·.oneCell') = true)
    (h : ∀ w1, Fg wD w0 (bs.set n (g, t, cs')) ns w1 → wpList P ops Q rest a w1) : wpList P ops Q (o :: rest) a w :=
  st_agg hgd hN ho hp hx (F.at_ hn) hi hs h1 (fun w1 q1 q2 q3 => h w1 (F.put hn q1 q2 q3))
theorem Fg.sf (F : Fg wD w0 bs ns w) (n : Nat) {g t : Nat} {cs : Array Value} (hn : bs[n]? = some (g, t, cs)) {T : TypeId} {p : Tmp} {x : Operand} {k : Nat} {v : Value} (hgd : o.guard = none) (hN : o.dst = none) (ho : o.op = .store T (.tmp p) x) (cs' : Array Value) (hp : a.eval (.tmp p) = .pointer (some ⟨g, k, none⟩)) (hx : a.eval x = v) (hk : k < cs.size) (hi : (P.info? T).map (·.size) = some 1) (hv : v.cells.toList = [v]) (h1 : v.oneCell' = true) (hc : cs.setIfInBounds k v = cs')
    (h : ∀ w1, Fg wD w0 (bs.set n (g, t, cs')) ns w1 → wpList P ops Q rest a w1) : wpList P ops Q (o :: rest) a w :=
  st_cell hgd hN ho hp hx (F.at_ hn) hk hi hv h1 (fun w1 q1 q2 q3 => h w1 (F.put hn (by rw [← hc]; exact q1) q2 q3))
end
theorem val_event {P : Program} {ops : Array Oper} {rest : List Oper} {o : Oper} {a : Act} {Q : Exit → Act → World → Prop} {W : World} (hgd : o.guard = none) (v : Value) (hrun : (execOp a.eval o).run P W = .ok (.value v) W) (h : wpList P ops Q rest (a.put o.dst v) W) : wpList P ops Q (o :: rest) a W := Kd.event_run hgd hrun h
/-- A token that lies there. -/
theorem tok_at {wD w : World} {A : Option Addr} {toks : List Tk} (T : TokAt wD A toks) (hb : Below wD.heap.size wD w) {i : Nat} {x : Tk} (h : toks[i]? = some x) : ∃ ad, A = some ad ∧ w.cell? (ad.add (i * 3)) = some (.int .i64 x.k) ∧ w.cell? ⟨(ad.add (i * 3)).block, (ad.add (i * 3)).off + 1, none⟩ = some (.string x.t) ∧ w.cell? ⟨(ad.add (i * 3)).block, (ad.add (i * 3)).off + 2, none⟩ = some (.int .i64 x.a) := by
  obtain ⟨ad, e, h⟩ := T i x h
  exact ⟨ad, e, h w hb⟩
theorem minus_calls {w : World} {x : Tk} {b : Bool} (h : shape_minus.f x.k x.t x.a = some b) : Calls Tryz.prog 131 #[.agg (tkc x)] w fun e w' => e = .returned (.bool b) ∧ Below w.heap.size w w' := by
  refine (shape_minus.calls x.k x.t x.a b w h).mono ?_
  rintro e w' ⟨h, hd⟩
  exact ⟨h, hd⟩
theorem end_calls {w : World} {x : Tk} {n : Int} (h : gap_End.f x.k x.t x.a = some n) : Calls Tryz.prog 101 #[.agg (tkc x)] w fun e w' => e = .returned (.int .i64 n) ∧ Below w.heap.size w w' := by
  refine (gap_End.calls x.k x.t x.a n w h).mono ?_
  rintro e w' ⟨h, hd⟩
  exact ⟨h, hd⟩
end Go.Proofs.YthipodffpkglfaaGreatDoor.PS
namespace Go.Proofs.YthipodffpkglfaaGreatDoor.PS
open Go.RowKit Go.Proofs.YthipodffpkglfaaGreatDoorW.PrintWords Go.Proofs.YthipodffpkglfaaGreatDoorW.PrintLast Go.Proofs.YthipodffpkglfaaGreatDoorW.PrintMore
set_option linter.unusedVariables false
set_option linter.unusedSimpArgs false
def DeP (wD w : World) (k : Int) (t : ByteArray) (l : List S45) (r : Bool) (e : Ending) (w' : World) : Prop := ∃ A c, e = .returned (.tuple #[.agg (ndc k t A l.length c), .bool r]) ∧ l.length ≤ c ∧ Kd.F k45 w' (fun k => w.heap.size ≤ k) A l.length l ∧ KeepBut w w' w.heap.size none ∧ Below wD.heap.size wD w'
section
variable {wD w : World} {s : ByteArray} {A : Option Addr} {c : Nat} {toks : List Tk} {b n p : Nat} {l : List S45} {x0 x1 xd : Tk} {k : Int} {t : ByteArray}
set_option maxHeartbeats 4000000 in
set_option maxRecDepth 100000 in
theorem attr_no (hb : Below wD.heap.size wD w) (tk : TokAt wD A toks) (h0 : toks[b]? = some x0) (hk : shape_minus.f x0.k x0.t x0.a = some false) (hn : b + 2 ≤ n ∧ n ≤ 1000000) : Calls Tryz.prog 102 #[.string s, .slice A toks.length c, .int .i64 b, .int .i64 n] w (DeP wD w 0 (⟨#[]⟩ : ByteArray) [] false) := by
  have hu45 := Tryz.underlying45
  have hu33 := Tryz.underlying33
  have hu24 := Tryz.underlying24
  have hu86 := Tryz.underlying86
  have hu9 := Tryz.underlying9
  have hu3 := Tryz.underlying3
  have hu4 := Tryz.underlying4
  have hu56 := Tryz.underlying56
  have F := Aside0.mk (Fg.init hb)
  obtain ⟨m, hm⟩ : ∃ m, toks.length = m := ⟨_, rfl⟩
  have hbm : b < m := by rw [← hm]; exact (List.getElem?_eq_some_iff.1 h0).1
  have HT := Aside0.mk tk
  have H0 := Aside0.mk h0
  have HK := Aside0.mk hk
  have e1 : decide (wrap64 ((n : Int) - (b : Int)) < 2) = false := decide_eq_false (by unfold wrap64; omega)
  rw [hm]
  clear hb tk h0 hk hm hn
  go_enter Tryz.func102, Tryz.ntmps102
  go_upto_region 1 with (first | ((with_reducible refine gate_dst (N := 8) rfl ?_); refine box_event ?hg (N := 8) ?hd (cs := #[.int .i64 0, .string (⟨#[]⟩ : ByteArray), .slice none 0 0, .bool false, .bool false, .slice none 0 0, .slice none 0 0]) (t := 45) ?hr ?_; (case hd => rfl); (case hg => rfl); (case hr => first | (go_simp; done) | (go_simp; rfl)); intro g8 hg w308 hbox hb; have n0 := Aside0.mk (show Fg _ _ ((g8, 45, z7) :: _) _ _ from F.out.box hg hbox hb); clear F hbox hb hg; have F := n0))
  obtain ⟨ad, rfl, t0, t1, t2⟩ := tok_at HT.out F.out.hb H0.out
  go_wp2_with (first | ((with_reducible refine gate_dst (N := 24) rfl ?_); (refine gate_guard (by rfl) ?_; dsimp only); refine goesL_ (some 24) rfl rfl Tryz.func131 (by kernel_rfl) rfl #[.agg (tkc x0)] rfl (by (try simp only [List.map_toArray, List.map_cons, List.map_nil]); first | done | rfl) ?_; (refine (minus_calls HK.out).mono ?_); (rintro e w124 ⟨rfl, hb⟩; refine ⟨_, rfl, ?_⟩; have n0 := Aside0.mk (F.out.below hb); clear F hb t0 t1 t2; have F := n0)) | ((with_reducible refine gate_ (.store 45 (.tmp 8) (.tmp 27)) rfl ?_); refine F.out.st 0 rfl rfl rfl rfl z7 rfl rfl info45 rfl (ndc_one _ _ _ _ _) ?_; intro w608 n1; have n0 : Aside0 (Fg _ _ [(g8, 45, z7)] _ _) := ⟨n1⟩; clear F n1; have F := n0))
  refine bodyPost_ret (results_ct rfl _ _ g8 45 z7 (0, 0) _ rfl (F.out.at_ (n := 0) rfl) hu45 rfl info45) rfl ?_
  exact ⟨none, 0, rfl, Nat.le_refl _, Kd.F_nil k45 _ _, F.out.kept, F.out.hb⟩
set_option maxHeartbeats 4000000 in
set_option maxRecDepth 100000 in
theorem attr_yes (hb : Below wD.heap.size wD w) (tk : TokAt wD A toks) (h0 : toks[b]? = some x0) (hk : shape_minus.f x0.k x0.t x0.a = some true) (hn : b + 2 ≤ n ∧ n ≤ 1000000) (h1 : toks[b + 1]? = some x1) (hk1 : x1.k = 1) (ht1 : (x1.t.toList == ([115, 112, 101, 99] : List UInt8)) = false) (ht2 : (x1.t.toList == ([99, 97, 108, 108, 98, 97, 99, 107] : List UInt8)) = false) (hA : ∀ w, Below wD.heap.size wD w → Calls Tryz.prog 133 #[.string s, .slice A toks.length c, .int .i64 (b + 2 : Nat), .int .i64 n] w (FnP wD w l)) : Calls Tryz.prog 102 #[.string s, .slice A toks.length c, .int .i64 b, .int .i64 n] w (DeP wD w 26 x1.t l true) := by
  have hu45 := Tryz.underlying45
  have hu33 := Tryz.underlying33
  have hu24 := Tryz.underlying24
  have hu86 := Tryz.underlying86
  have hu9 := Tryz.underlying9
  have hu3 := Tryz.underlying3
  have hu4 := Tryz.underlying4
  have hu56 := Tryz.underlying56
  have F := Aside0.mk (Fg.init hb)
  obtain ⟨m, hm⟩ : ∃ m, toks.length = m := ⟨_, rfl⟩
  obtain ⟨q, hq⟩ : ∃ q, b + 1 = q := ⟨_, rfl⟩
  obtain ⟨r, hr⟩ : ∃ r, b + 2 = r := ⟨_, rfl⟩
  rw [hq] at h1
  rw [hr, hm] at hA
  have hbm : b < m := by rw [← hm]; exact (List.getElem?_eq_some_iff.1 h0).1
  have hqm : q < m := by rw [← hm]; exact (List.getElem?_eq_some_iff.1 h1).1
  have HT := Aside0.mk tk
  have H0 := Aside0.mk h0
  have H1 := Aside0.mk h1
  have HK := Aside0.mk hk
  have HAA := Aside0.mk hA
  have kk : (x1.k != 1) = false := by rw [hk1]; rfl
  have e1 : decide (wrap64 ((n : Int) - (b : Int)) < 2) = false := decide_eq_false (by unfold wrap64; omega)
  have e2 : wrap64 ((b : Int) + 1) = (q : Int) := by unfold wrap64; omega
  have e3 : wrap64 ((b : Int) + 2) = (r : Int) := by unfold wrap64; omega
  rw [hm]
  clear hb tk h0 hk hm hn h1 hk1 hq hr hA
  go_enter Tryz.func102, Tryz.ntmps102
  go_upto_region 1 with (first | ((with_reducible refine gate_dst (N := 8) rfl ?_); refine box_event ?hg (N := 8) ?hd (cs := #[.int .i64 0, .string (⟨#[]⟩ : ByteArray), .slice none 0 0, .bool false, .bool false, .slice none 0 0, .slice none 0 0]) (t := 45) ?hr ?_; (case hd => rfl); (case hg => rfl); (case hr => first | (go_simp; done) | (go_simp; rfl)); intro g8 hg w308 hbox hb; have n0 := Aside0.mk (show Fg _ _ ((g8, 45, z7) :: _) _ _ from F.out.box hg hbox hb); clear F hbox hb hg; have F := n0))
  obtain ⟨ad, rfl, t0, t1, t2⟩ := tok_at HT.out F.out.hb H0.out
  go_upto_region 3 with (first | ((with_reducible refine gate_dst (N := 24) rfl ?_); (refine gate_guard (by rfl) ?_; dsimp only); refine goesL_ (some 24) rfl rfl Tryz.func131 (by kernel_rfl) rfl #[.agg (tkc x0)] rfl (by (try simp only [List.map_toArray, List.map_cons, List.map_nil]); first | done | rfl) ?_; (refine (minus_calls HK.out).mono ?_); (rintro e w124 ⟨rfl, hb⟩; refine ⟨_, rfl, ?_⟩; have n0 := Aside0.mk (F.out.below hb); clear F hb t0 t1 t2; have F := n0)))
  obtain ⟨ad1, ea1, v0, v1, v2⟩ := tok_at HT.out F.out.hb H1.out
  injection ea1 with ea1
  subst ea1
  go_wp2_with (first | ((with_reducible refine gate_dst (N := 75) rfl ?_); refine val_event rfl (.int .i64 (r : Nat)) ?hr ?_; (case hr => first | (go_simp; done) | (go_simp; rw [i64_w]; assumption) | (go_simp; rfl))) | ((with_reducible refine gate_dst (N := 10) rfl ?_); refine box_event ?hg (N := 10) ?hd (cs := #[.int .i64 0, .string (⟨#[]⟩ : ByteArray), .int .i64 0]) (t := 86) ?hr ?_; (case hd => rfl); (case hg => rfl); (case hr => first | (go_simp; done) | (go_simp; rfl)); intro g10 hg w310 hbox hb; have n0 := Aside0.mk (F.out.box hg hbox hb); clear F hbox hb hg; have F := n0) | ((with_reducible refine gate_ (.store 86 (.tmp 10) (.tmp 32)) rfl ?_); refine F.out.st 0 rfl rfl rfl rfl (tkc x1) rfl rfl infoTk rfl (tkc_one _) ?_; intro w610 n1; have n0 : Aside0 (Fg _ _ [(g10, 86, tkc x1), (g8, 45, z7)] _ _) := ⟨n1⟩; clear F n1; have F := n0) | ((with_reducible refine gate_dst (N := 34) rfl ?_); refine ld_cell rfl (N := 34) (v := .int .i64 x1.k) rfl rfl rfl (F.out.at_ (n := 0) rfl) rfl hu3 rfl ?_) | ((with_reducible refine gate_dst (N := 48) rfl ?_); refine ld_cell rfl (N := 48) (v := .string x1.t) rfl rfl rfl (F.out.at_ (n := 0) rfl) rfl hu9 rfl ?_) | ((with_reducible refine gate_dst (N := 52) rfl ?_); (refine gate_guard (by rfl) ?_; dsimp only); refine ld_cell rfl (N := 52) (v := .string x1.t) rfl rfl rfl (F.out.at_ (n := 0) rfl) rfl hu9 rfl ?_) | ((with_reducible refine gate_dst (N := 77) rfl ?_); refine goesL_ (some 77) rfl rfl Tryz.func133 (by kernel_rfl) rfl #[.string s, .slice (some ad) m c, .int .i64 r, .int .i64 n] rfl (by (try simp only [List.map_toArray, List.map_cons, List.map_nil]); first | done | rfl) ?_; (refine (HAA.out _ F.out.hb).mono ?_); (rintro e w177 ⟨A77, c77, rfl, hc, hf, hk, hb⟩; refine ⟨_, rfl, ?_⟩; have n0 := Aside0.mk (F.out.node hb hk hf); have C77 := Aside0.mk hc; clear F hc hf hk hb; have F := n0)) | ((with_reducible refine gate_dst (N := 81) rfl ?_); refine ld_cell rfl (N := 81) (v := .string x1.t) rfl rfl rfl (F.out.at_ (n := 0) rfl) rfl hu9 rfl ?_) | ((with_reducible refine gate_ (.store 45 (.tmp 8) (.tmp 83)) rfl ?_); refine F.out.st 1 rfl rfl rfl rfl (ndc 26 x1.t A77 l.length c77) rfl rfl info45 rfl (ndc_one _ _ _ _ _) ?_; intro w608 n1; have n0 : Aside0 (Fg _ _ [(g10, 86, tkc x1), (g8, 45, (ndc 26 x1.t A77 l.length c77))] _ _) := ⟨n1⟩; clear F n1; have F := n0))
  refine bodyPost_ret (results_ct rfl _ _ g8 45 (ndc 26 x1.t A77 l.length c77) (0, 0) _ rfl (F.out.at_ (n := 1) rfl) hu45 rfl info45) rfl ?_
  exact ⟨A77, c77, rfl, C77.out, F.out.row (n := 0) rfl, F.out.kept, F.out.hb⟩
set_option maxHeartbeats 4000000 in
set_option maxRecDepth 100000 in
theorem der_attr (hb : Below wD.heap.size wD w) (tk : TokAt wD A toks) (hn : b + 2 ≤ n ∧ n ≤ 1000000) (hd : toks[n]? = some xd) (hkd : xd.k = 10) (h1 : ∀ w, Below wD.heap.size wD w → Calls Tryz.prog 102 #[.string s, .slice A toks.length c, .int .i64 b, .int .i64 n] w (DeP wD w k t l true)) : Calls Tryz.prog 72 #[.string s, .slice A toks.length c, .int .i64 b, .int .i64 (n + 1 : Nat)] w (DeP wD w k t l true) := by
  have hu45 := Tryz.underlying45
  have hu33 := Tryz.underlying33
  have hu24 := Tryz.underlying24
  have hu86 := Tryz.underlying86
  have hu9 := Tryz.underlying9
  have hu3 := Tryz.underlying3
  have hu4 := Tryz.underlying4
  have hu56 := Tryz.underlying56
  have F := Aside0.mk (Fg.init hb)
  obtain ⟨m, hm⟩ : ∃ m, toks.length = m := ⟨_, rfl⟩
  obtain ⟨p, hp⟩ : ∃ p, n + 1 = p := ⟨_, rfl⟩
  have hnm : n < m := by rw [← hm]; exact (List.getElem?_eq_some_iff.1 hd).1
  obtain ⟨ad, rfl, t0, t1, t2⟩ := tok_at tk hb hd
  have TC := Aside0.mk (show ∀ w', Below w.heap.size w w' → w'.cell? (ad.add (n * 3)) = some (.int .i64 xd.k) from fun w' h => bc h t0)
  clear t0 t1 t2
  have kk : (xd.k != 10) = false := by rw [hkd]; rfl
  have e1 : decide (p ≤ b) = false := decide_eq_false (by omega)
  have e2 : wrap64 ((p : Int) - 1) = (n : Int) := by unfold wrap64; omega
  have H1 := Aside0.mk h1
  clear h1
  rw [hm, hp]
  rw [hm] at *
  clear hb tk hn hd hkd hm hp
  go_enter Tryz.func72, Tryz.ntmps72
  go_upto_region 1 with (first | ((with_reducible refine gate_dst (N := 8) rfl ?_); refine box_event ?hg (N := 8) ?hd (cs := #[.int .i64 0, .string (⟨#[]⟩ : ByteArray), .slice none 0 0, .bool false, .bool false, .slice none 0 0, .slice none 0 0]) (t := 45) ?hr ?_; (case hd => rfl); (case hg => rfl); (case hr => first | (go_simp; done) | (go_simp; rfl)); intro g8 hg w308 hbox hb; have H8 := Aside0.mk hb; have n0 := Aside0.mk (show Fg _ _ ((g8, 45, z7) :: _) _ _ from F.out.box hg hbox hb); clear F hbox hb hg; have F := n0))
  have t0 := TC.out _ (show Below w.heap.size w w308 from H8.out)
  go_wp2_with (first | ((with_reducible refine gate_dst (N := 32) rfl ?_); refine val_event rfl (.int .i64 (n : Nat)) ?hr ?_; (case hr => first | (go_simp; done) | (go_simp; rw [i64_w]; assumption) | (go_simp; rfl))) | ((with_reducible refine gate_dst (N := 43) rfl ?_); refine val_event rfl (.int .i64 (n : Nat)) ?hr ?_; (case hr => first | (go_simp; done) | (go_simp; rw [i64_w]; assumption) | (go_simp; rfl))) | ((with_reducible refine gate_dst (N := 33) rfl ?_); refine goesL_ (some 33) rfl rfl Tryz.func102 (by kernel_rfl) rfl #[.string s, .slice (some ad) m c, .int .i64 b, .int .i64 n] rfl (by (try simp only [List.map_toArray, List.map_cons, List.map_nil]); first | done | rfl) ?_; (refine (H1.out _ F.out.hb).mono ?_); (rintro e w133 ⟨A33, c33, rfl, hc, hf, hk, hb⟩; refine ⟨_, rfl, ?_⟩; have n0 := Aside0.mk (F.out.node hb hk hf); have C33 := Aside0.mk hc; clear F hc hf hk hb; have F := n0)) | ((with_reducible refine gate_dst (N := 10) rfl ?_); refine box_event ?hg (N := 10) ?hd (cs := #[.int .i64 0, .string (⟨#[]⟩ : ByteArray), .slice none 0 0, .bool false, .bool false, .slice none 0 0, .slice none 0 0]) (t := 45) ?hr ?_; (case hd => rfl); (case hg => rfl); (case hr => first | (go_simp; done) | (go_simp; rfl)); intro g10 hg w310 hbox hb; have n0 := Aside0.mk (show Fg _ _ ((g10, 45, z7) :: _) _ _ from F.out.box hg hbox hb); clear F hbox hb hg; have F := n0) | ((with_reducible refine gate_ (.store 45 (.tmp 10) (.tmp 34)) rfl ?_); refine F.out.st 0 rfl rfl rfl rfl (ndc k t A33 l.length c33) rfl rfl info45 rfl (ndc_one _ _ _ _ _) ?_; intro w610 n1; have n0 : Aside0 (Fg _ _ [(g10, 45, (ndc k t A33 l.length c33)), (g8, 45, z7)] _ _) := ⟨n1⟩; clear F n1; have F := n0) | ((with_reducible refine gate_dst (N := 37) rfl ?_); refine ld_agg rfl (N := 37) rfl rfl rfl (F.out.at_ (n := 0) rfl) hu45 rfl info45 ?_) | ((with_reducible refine gate_ (.store 45 (.tmp 8) (.tmp 37)) rfl ?_); refine F.out.st 1 rfl rfl rfl rfl (ndc k t A33 l.length c33) rfl rfl info45 rfl (ndc_one _ _ _ _ _) ?_; intro w608 n1; have n0 : Aside0 (Fg _ _ [(g10, 45, (ndc k t A33 l.length c33)), (g8, 45, (ndc k t A33 l.length c33))] _ _) := ⟨n1⟩; clear F n1; have F := n0))
  refine bodyPost_ret (results_ct rfl _ _ g8 45 (ndc k t A33 l.length c33) (0, 0) _ rfl (F.out.at_ (n := 1) rfl) hu45 rfl info45) rfl ?_
  exact ⟨A33, c33, rfl, C33.out, F.out.row (n := 0) rfl, F.out.kept, F.out.hb⟩
set_option maxHeartbeats 4000000 in
set_option maxRecDepth 100000 in
theorem der_func (hb : Below wD.heap.size wD w) (tk : TokAt wD A toks) (hn : b + 2 ≤ n ∧ n ≤ 1000000) (hd : toks[n]? = some xd) (hkd : xd.k = 10) (h1 : ∀ w, Below wD.heap.size wD w → Calls Tryz.prog 102 #[.string s, .slice A toks.length c, .int .i64 b, .int .i64 n] w (DeP wD w 0 (⟨#[]⟩ : ByteArray) [] false)) (h2 : ∀ w, Below wD.heap.size wD w → Calls Tryz.prog 103 #[.string s, .slice A toks.length c, .int .i64 b, .int .i64 n] w (FnP wD w l)) : Calls Tryz.prog 72 #[.string s, .slice A toks.length c, .int .i64 b, .int .i64 (n + 1 : Nat)] w (DeP wD w 28 (⟨#[]⟩ : ByteArray) l true) := by
  have hu45 := Tryz.underlying45
  have hu33 := Tryz.underlying33
  have hu24 := Tryz.underlying24
  have hu86 := Tryz.underlying86
  have hu9 := Tryz.underlying9
  have hu3 := Tryz.underlying3
  have hu4 := Tryz.underlying4
  have hu56 := Tryz.underlying56
  have F := Aside0.mk (Fg.init hb)
  obtain ⟨m, hm⟩ : ∃ m, toks.length = m := ⟨_, rfl⟩
  obtain ⟨p, hp⟩ : ∃ p, n + 1 = p := ⟨_, rfl⟩
  have hnm : n < m := by rw [← hm]; exact (List.getElem?_eq_some_iff.1 hd).1
  obtain ⟨ad, rfl, t0, t1, t2⟩ := tok_at tk hb hd
  have TC := Aside0.mk (show ∀ w', Below w.heap.size w w' → w'.cell? (ad.add (n * 3)) = some (.int .i64 xd.k) from fun w' h => bc h t0)
  clear t0 t1 t2
  have kk : (xd.k != 10) = false := by rw [hkd]; rfl
  have e1 : decide (p ≤ b) = false := decide_eq_false (by omega)
  have e2 : wrap64 ((p : Int) - 1) = (n : Int) := by unfold wrap64; omega
  have H1 := Aside0.mk h1
  clear h1
  have H2 := Aside0.mk h2
  clear h2
  rw [hm, hp]
  rw [hm] at *
  clear hb tk hn hd hkd hm hp
  go_enter Tryz.func72, Tryz.ntmps72
  go_upto_region 1 with (first | ((with_reducible refine gate_dst (N := 8) rfl ?_); refine box_event ?hg (N := 8) ?hd (cs := #[.int .i64 0, .string (⟨#[]⟩ : ByteArray), .slice none 0 0, .bool false, .bool false, .slice none 0 0, .slice none 0 0]) (t := 45) ?hr ?_; (case hd => rfl); (case hg => rfl); (case hr => first | (go_simp; done) | (go_simp; rfl)); intro g8 hg w308 hbox hb; have H8 := Aside0.mk hb; have n0 := Aside0.mk (show Fg _ _ ((g8, 45, z7) :: _) _ _ from F.out.box hg hbox hb); clear F hbox hb hg; have F := n0))
  have t0 := TC.out _ (show Below w.heap.size w w308 from H8.out)
  go_wp2_with (first | ((with_reducible refine gate_dst (N := 32) rfl ?_); refine val_event rfl (.int .i64 (n : Nat)) ?hr ?_; (case hr => first | (go_simp; done) | (go_simp; rw [i64_w]; assumption) | (go_simp; rfl))) | ((with_reducible refine gate_dst (N := 43) rfl ?_); refine val_event rfl (.int .i64 (n : Nat)) ?hr ?_; (case hr => first | (go_simp; done) | (go_simp; rw [i64_w]; assumption) | (go_simp; rfl))) | ((with_reducible refine gate_dst (N := 33) rfl ?_); refine goesL_ (some 33) rfl rfl Tryz.func102 (by kernel_rfl) rfl #[.string s, .slice (some ad) m c, .int .i64 b, .int .i64 n] rfl (by (try simp only [List.map_toArray, List.map_cons, List.map_nil]); first | done | rfl) ?_; (refine (H1.out _ F.out.hb).mono ?_); (rintro e w133 ⟨A33, c33, rfl, hc, hf, hk, hb⟩; refine ⟨_, rfl, ?_⟩; have n0 := Aside0.mk (F.out.node hb hk hf); have C33 := Aside0.mk hc; clear F hc hf hk hb; have F := n0)) | ((with_reducible refine gate_dst (N := 10) rfl ?_); refine box_event ?hg (N := 10) ?hd (cs := #[.int .i64 0, .string (⟨#[]⟩ : ByteArray), .slice none 0 0, .bool false, .bool false, .slice none 0 0, .slice none 0 0]) (t := 45) ?hr ?_; (case hd => rfl); (case hg => rfl); (case hr => first | (go_simp; done) | (go_simp; rfl)); intro g10 hg w310 hbox hb; have n0 := Aside0.mk (show Fg _ _ ((g10, 45, z7) :: _) _ _ from F.out.box hg hbox hb); clear F hbox hb hg; have F := n0) | ((with_reducible refine gate_ (.store 45 (.tmp 10) (.tmp 34)) rfl ?_); refine F.out.st 0 rfl rfl rfl rfl (ndc 0 (⟨#[]⟩ : ByteArray) A33 ([] : List S45).length c33) rfl rfl info45 rfl (ndc_one _ _ _ _ _) ?_; intro w610 n1; have n0 : Aside0 (Fg _ _ [(g10, 45, (ndc 0 (⟨#[]⟩ : ByteArray) A33 ([] : List S45).length c33)), (g8, 45, z7)] _ _) := ⟨n1⟩; clear F n1; have F := n0) | ((with_reducible refine gate_dst (N := 44) rfl ?_); refine goesL_ (some 44) rfl rfl Tryz.func103 (by kernel_rfl) rfl #[.string s, .slice (some ad) m c, .int .i64 b, .int .i64 n] rfl (by (try simp only [List.map_toArray, List.map_cons, List.map_nil]); first | done | rfl) ?_; (refine (H2.out _ F.out.hb).mono ?_); (rintro e w144 ⟨A44, c44, rfl, hc, hf, hk, hb⟩; refine ⟨_, rfl, ?_⟩; have n0 := Aside0.mk (F.out.node hb hk hf); have C44 := Aside0.mk hc; clear F hc hf hk hb; have F := n0)) | ((with_reducible refine gate_ (.store 45 (.tmp 8) (.tmp 48)) rfl ?_); refine F.out.st 1 rfl rfl rfl rfl (ndc 28 (⟨#[]⟩ : ByteArray) A44 l.length c44) rfl rfl info45 rfl (ndc_one _ _ _ _ _) ?_; intro w608 n1; have n0 : Aside0 (Fg _ _ [(g10, 45, (ndc 0 (⟨#[]⟩ : ByteArray) A33 ([] : List S45).length c33)), (g8, 45, (ndc 28 (⟨#[]⟩ : ByteArray) A44 l.length c44))] _ _) := ⟨n1⟩; clear F n1; have F := n0))
  refine bodyPost_ret (results_ct rfl _ _ g8 45 (ndc 28 (⟨#[]⟩ : ByteArray) A44 l.length c44) (0, 0) _ rfl (F.out.at_ (n := 1) rfl) hu45 rfl info45) rfl ?_
  exact ⟨A44, c44, rfl, C44.out, F.out.row (n := 0) rfl, F.out.kept, F.out.hb⟩
set_option maxHeartbeats 4000000 in
set_option maxRecDepth 100000 in
theorem der_raw (hb : Below wD.heap.size wD w) (tk : TokAt wD A toks) (hn : b + 2 ≤ n ∧ n ≤ 1000000) (hd : toks[n]? = some xd) (hkd : xd.k = 10) (h1 : ∀ w, Below wD.heap.size wD w → Calls Tryz.prog 102 #[.string s, .slice A toks.length c, .int .i64 b, .int .i64 n] w (DeP wD w 0 (⟨#[]⟩ : ByteArray) [] false)) (h2 : ∀ w, Below wD.heap.size wD w → Calls Tryz.prog 103 #[.string s, .slice A toks.length c, .int .i64 b, .int .i64 n] w (FnX wD w)) : Calls Tryz.prog 72 #[.string s, .slice A toks.length c, .int .i64 b, .int .i64 (n + 1 : Nat)] w (DeP wD w 28 (⟨#[]⟩ : ByteArray) [] false) := by
  have hu45 := Tryz.underlying45
  have hu33 := Tryz.underlying33
  have hu24 := Tryz.underlying24
  have hu86 := Tryz.underlying86
  have hu9 := Tryz.underlying9
  have hu3 := Tryz.underlying3
  have hu4 := Tryz.underlying4
  have hu56 := Tryz.underlying56
  have F := Aside0.mk (Fg.init hb)
  obtain ⟨m, hm⟩ : ∃ m, toks.length = m := ⟨_, rfl⟩
  obtain ⟨p, hp⟩ : ∃ p, n + 1 = p := ⟨_, rfl⟩
  have hnm : n < m := by rw [← hm]; exact (List.getElem?_eq_some_iff.1 hd).1
  obtain ⟨ad, rfl, t0, t1, t2⟩ := tok_at tk hb hd
  have TC := Aside0.mk (show ∀ w', Below w.heap.size w w' → w'.cell? (ad.add (n * 3)) = some (.int .i64 xd.k) from fun w' h => bc h t0)
  clear t0 t1 t2
  have kk : (xd.k != 10) = false := by rw [hkd]; rfl
  have e1 : decide (p ≤ b) = false := decide_eq_false (by omega)
  have e2 : wrap64 ((p : Int) - 1) = (n : Int) := by unfold wrap64; omega
  have H1 := Aside0.mk h1
  clear h1
  have H2 := Aside0.mk h2
  clear h2
  rw [hm, hp]
  rw [hm] at *
  clear hb tk hn hd hkd hm hp
  go_enter Tryz.func72, Tryz.ntmps72
  go_upto_region 1 with (first | ((with_reducible refine gate_dst (N := 8) rfl ?_); refine box_event ?hg (N := 8) ?hd (cs := #[.int .i64 0, .string (⟨#[]⟩ : ByteArray), .slice none 0 0, .bool false, .bool false, .slice none 0 0, .slice none 0 0]) (t := 45) ?hr ?_; (case hd => rfl); (case hg => rfl); (case hr => first | (go_simp; done) | (go_simp; rfl)); intro g8 hg w308 hbox hb; have H8 := Aside0.mk hb; have n0 := Aside0.mk (show Fg _ _ ((g8, 45, z7) :: _) _ _ from F.out.box hg hbox hb); clear F hbox hb hg; have F := n0))
  have t0 := TC.out _ (show Below w.heap.size w w308 from H8.out)
  go_wp2_with (first | ((with_reducible refine gate_dst (N := 32) rfl ?_); refine val_event rfl (.int .i64 (n : Nat)) ?hr ?_; (case hr => first | (go_simp; done) | (go_simp; rw [i64_w]; assumption) | (go_simp; rfl))) | ((with_reducible refine gate_dst (N := 43) rfl ?_); refine val_event rfl (.int .i64 (n : Nat)) ?hr ?_; (case hr => first | (go_simp; done) | (go_simp; rw [i64_w]; assumption) | (go_simp; rfl))) | ((with_reducible refine gate_dst (N := 33) rfl ?_); refine goesL_ (some 33) rfl rfl Tryz.func102 (by kernel_rfl) rfl #[.string s, .slice (some ad) m c, .int .i64 b, .int .i64 n] rfl (by (try simp only [List.map_toArray, List.map_cons, List.map_nil]); first | done | rfl) ?_; (refine (H1.out _ F.out.hb).mono ?_); (rintro e w133 ⟨A33, c33, rfl, hc, hf, hk, hb⟩; refine ⟨_, rfl, ?_⟩; have n0 := Aside0.mk (F.out.node hb hk hf); have C33 := Aside0.mk hc; clear F hc hf hk hb; have F := n0)) | ((with_reducible refine gate_dst (N := 10) rfl ?_); refine box_event ?hg (N := 10) ?hd (cs := #[.int .i64 0, .string (⟨#[]⟩ : ByteArray), .slice none 0 0, .bool false, .bool false, .slice none 0 0, .slice none 0 0]) (t := 45) ?hr ?_; (case hd => rfl); (case hg => rfl); (case hr => first | (go_simp; done) | (go_simp; rfl)); intro g10 hg w310 hbox hb; have n0 := Aside0.mk (show Fg _ _ ((g10, 45, z7) :: _) _ _ from F.out.box hg hbox hb); clear F hbox hb hg; have F := n0) | ((with_reducible refine gate_ (.store 45 (.tmp 10) (.tmp 34)) rfl ?_); refine F.out.st 0 rfl rfl rfl rfl (ndc 0 (⟨#[]⟩ : ByteArray) A33 ([] : List S45).length c33) rfl rfl info45 rfl (ndc_one _ _ _ _ _) ?_; intro w610 n1; have n0 : Aside0 (Fg _ _ [(g10, 45, (ndc 0 (⟨#[]⟩ : ByteArray) A33 ([] : List S45).length c33)), (g8, 45, z7)] _ _) := ⟨n1⟩; clear F n1; have F := n0) | ((with_reducible refine gate_dst (N := 44) rfl ?_); refine goesL_ (some 44) rfl rfl Tryz.func103 (by kernel_rfl) rfl #[.string s, .slice (some ad) m c, .int .i64 b, .int .i64 n] rfl (by (try simp only [List.map_toArray, List.map_cons, List.map_nil]); first | done | rfl) ?_; (refine (H2.out _ F.out.hb).mono ?_); (rintro e w144 ⟨rfl, hk, hb⟩; refine ⟨_, rfl, ?_⟩; have n0 := Aside0.mk (F.out.keep hb hk); clear F hk hb; have F := n0)) | ((with_reducible refine gate_ (.store 45 (.tmp 8) (.tmp 48)) rfl ?_); refine F.out.st 1 rfl rfl rfl rfl (ndc 28 (⟨#[]⟩ : ByteArray) none 0 0) rfl rfl info45 rfl (ndc_one _ _ _ _ _) ?_; intro w608 n1; have n0 : Aside0 (Fg _ _ [(g10, 45, (ndc 0 (⟨#[]⟩ : ByteArray) A33 ([] : List S45).length c33)), (g8, 45, (ndc 28 (⟨#[]⟩ : ByteArray) none 0 0))] _ _) := ⟨n1⟩; clear F n1; have F := n0))
  refine bodyPost_ret (results_ct rfl _ _ g8 45 (ndc 28 (⟨#[]⟩ : ByteArray) none 0 0) (0, 0) _ rfl (F.out.at_ (n := 1) rfl) hu45 rfl info45) rfl ?_
  exact ⟨none, 0, rfl, Nat.le_refl _, Kd.F_nil k45 _ _, F.out.kept, F.out.hb⟩
end
end Go.Proofs.YthipodffpkglfaaGreatDoor.PS
namespace Go.Proofs.YthipodffpkglfaaGreatDoor.PS
open Go.RowKit Go.Proofs.YthipodffpkglfaaGreatDoorW.PrintWords Go.Proofs.YthipodffpkglfaaGreatDoorW.PrintLast Go.Proofs.YthipodffpkglfaaGreatDoorW.PrintMore
set_option linter.unusedVariables false
set_option linter.unusedSimpArgs false
theorem F71tab3 : rtab .any (opsOf Tryz.f71 3) = (true, [([], []), ([], []), ([1], [1]), ([0, 2], [0, 2]), ([3], [3]), ([4], [4]), ([], []), ([], []), ([7], [7]), ([8], [8]), ([6, 9], [6, 9]), ([10], [10]), ([11], [11]), ([5, 12, 0, 1, 2, 3, 4, 5], [5]), ([12, 13, 0, 1, 2, 3, 4, 5, 6, 7, 8, 9, 10, 11, 12, 13], [12])]) := by kernel_rfl
def itc (b p : Nat) (note : Bool) : Array Value := #[.int .i64 b, .int .i64 p, .bool note, .bool false]
def bytS (g5 : Nat) (ad : Addr) (b p n : Nat) (xb xd : Tk) (w' : World) : Prop := w'.cell? ⟨g5, 0, none⟩ = some (.int .i64 b) ∧ w'.cell? ⟨g5, 1, none⟩ = some (.int .i64 p) ∧ w'.cell? ⟨(ad.add (b * 3)).block, (ad.add (b * 3)).off + 2, none⟩ = some (.int .i64 xb.a) ∧ w'.cell? (ad.add (n * 3)) = some (.int .i64 xd.k) ∧ w'.cell? ⟨(ad.add (n * 3)).block, (ad.add (n * 3)).off + 1, none⟩ = some (.string xd.t) ∧ w'.cell? ⟨(ad.add (n * 3)).block, (ad.add (n * 3)).off + 2, none⟩ = some (.int .i64 xd.a) ∧ True
theorem info78 : (Tryz.prog.info? 78).map (·.size) = some 4 := by kernel_rfl
section
variable {wD w : World} {s : ByteArray} {A : Option Addr} {c : Nat} {toks : List Tk} {b n : Nat} {l : List S45} {xb xd : Tk} {k : Int} {t : ByteArray} {note : Bool} {ea ez : Nat}
set_option maxHeartbeats 4000000 in
set_option maxRecDepth 100000 in
theorem bytes_calls (hb : Below wD.heap.size wD w) (tk : TokAt wD A toks) (h0 : toks[b]? = some xb) (hd : toks[n]? = some xd) (hbn : b ≤ n ∧ n ≤ 1000000) (e0 : xb.a = ea) (e1 : xd.a + (xd.t.size : Int) = ez) (hz : ea ≤ ez ∧ ez ≤ s.size ∧ s.size ≤ 1000000) : Calls Tryz.prog 71 #[.string s, .slice A toks.length c, .agg (itc b (n + 1) note)] w fun e w' => e = .returned (.string (s.extract ea ez)) ∧ Below w.heap.size w w' := by
  have hu45 := Tryz.underlying45
  have hu33 := Tryz.underlying33
  have hu24 := Tryz.underlying24
  have hu86 := Tryz.underlying86
  have hu9 := Tryz.underlying9
  have hu3 := Tryz.underlying3
  have hu4 := Tryz.underlying4
  have hu56 := Tryz.underlying56
  have hu78 := Tryz.underlying78
  obtain ⟨m, hm⟩ : ∃ m, toks.length = m := ⟨_, rfl⟩
  obtain ⟨p, hp⟩ : ∃ p, n + 1 = p := ⟨_, rfl⟩
  obtain ⟨ad, rfl, t0, t1, t2⟩ := tok_at tk hb h0
  obtain ⟨ad1, ea1, v0, v1, v2⟩ := tok_at tk hb hd
  injection ea1 with ea1
  subst ea1
  have hbm : b < m := by rw [← hm]; exact (List.getElem?_eq_some_iff.1 h0).1
  have hnm : n < m := by rw [← hm]; exact (List.getElem?_eq_some_iff.1 hd).1
  have HE := Aside0.mk (show gap_End.f xd.k xd.t xd.a = some (ez : Int) from by
    show some (wrap64 (xd.a + (xd.t.size : Int))) = _
    rw [e1]
    congr 1
    unfold wrap64
    omega)
  have f1 : decide (m < p) = false := decide_eq_false (by omega)
  have f2 : decide (p ≤ b) = false := decide_eq_false (by omega)
  have f3 : wrap64 ((p : Int) - 1) = (n : Int) := by unfold wrap64; omega
  have f4 : decide (s.size < ez) = false := decide_eq_false (by omega)
  have f5 : decide (ez < ea) = false := decide_eq_false (by omega)
  have f6 : (IntKind.i64).wrap ((p : Int) - 1) = (n : Int) := by rw [i64_w]; exact f3
  rw [e0] at t2
  have hsl : ∀ W, (Instr.sliceAt 9 (.string s) (some (.int .i64 ea)) (some (.int .i64 ez)) none).run Tryz.prog W = .ok (.string (s.extract ea ez)) W := fun W => by
    rw [run_sliceAt_string W 9 _ _ _ _ hu9, run_slice_string (P := Tryz.prog) (w := W) 9 s .i64 .i64 (ea : Int) (ez : Int) hu9 (by omega) (by omega) (by omega)]
    rfl
  unfold itc
  have T := Aside0.mk (show ∀ (g5 : Nat) (W : World), Below w.heap.size w W → W.cell? ⟨g5, 0, none⟩ = some (.int .i64 b) → W.cell? ⟨g5, 1, none⟩ = some (.int .i64 p) → bytS g5 ad b p n ⟨0, ⟨#[]⟩, (ea : Nat)⟩ xd W from fun g5 W h c0 c1 => ⟨c0, c1, bc h t2, bc h v0, bc h v1, bc h v2, trivial⟩)
  rw [hm, hp]
  clear hb tk h0 hd hbn e0 e1 hz hm hp t0 t1 t2 v0 v1 v2
  go_enter Tryz.func71, Tryz.ntmps71
  go_upto_region 3 with (first | ((with_reducible refine gate_dst (N := 5) rfl ?_); refine box_event ?hg (N := 5) ?hd (cs := #[.int .i64 b, .int .i64 p, .bool note, .bool false]) (t := 78) ?hr ?_; (case hd => rfl); (case hg => rfl); (case hr => first | (go_simp; done) | (go_simp; rfl)); intro g5 hg w305 hbox hb; have HB0 := Aside0.mk hb; have c0 : w305.cell? ⟨g5, 0, none⟩ = some (.int .i64 (b : Nat)) := (blk_cell hbox 0).trans rfl; have c1 : w305.cell? ⟨g5, 1, none⟩ = some (.int .i64 (p : Nat)) := (blk_cell hbox 1).trans rfl; clear hbox hb hg))
  have hs_ := T.out g5 _ (show Below w.heap.size w w305.drew from below_drew1 HB0.out) (bc (below_drew1 (Below.refl _ _)) c0) (bc (below_drew1 (Below.refl _ _)) c1)
  have HB := Aside0.mk (show Below w.heap.size w w305.drew from below_drew1 HB0.out)
  refine start_ (n := 15) (S := bytS g5 ad b p n ⟨0, ⟨#[]⟩, (ea : Nat)⟩ xd) (ds := []) (bt 15 0) (by kernel_rfl) rfl (by kernel_rfl) (hs_) (fun hHeld => ?_)
  clear hs_
  refine pure_ (i := 0) (N := some 26) (bt 15 1) rfl rfl (any_of F71tab3 (by kernel_rfl)) (fun _ _ _ h => h) (Or.inl ⟨by rfl, by intro w'; go_simp; with_reducible rfl⟩) (by simp only [Act.put, pset]; rfl) ?_
  refine pure_ (i := 1) (N := some 27) (bt 15 3) rfl rfl (any_of F71tab3 (by kernel_rfl)) (fun _ _ _ h => h) (Or.inl ⟨by rfl, by intro w'; go_simp; with_reducible rfl⟩) (by simp only [Act.put, pset]; rfl) ?_
  refine take_ (i := 2) (N := some 28) (bt 15 7) rfl rfl (take_of F71tab3 (by kernel_rfl)) (fun _ _ _ h => h) (Or.inl ⟨by rfl, by rintro w' ⟨s0, s1, s2, s3, s4, s5, s6⟩; go_simp; with_reducible rfl⟩) hHeld (by simp only [Act.put, pset]; rfl) ?_
  refine pure_ (i := 3) (N := some 29) (bt 15 15) rfl rfl (any_of F71tab3 (by kernel_rfl)) (fun _ _ _ h => h) (Or.inl ⟨by rfl, by intro w'; go_simp; with_reducible rfl⟩) (by simp only [Act.put, pset]; rfl) ?_
  refine pure_ (i := 4) (N := some 30) (bt 15 31) rfl rfl (any_of F71tab3 (by kernel_rfl)) (fun _ _ _ h => h) (Or.inl ⟨by rfl, by intro w'; go_simp; with_reducible rfl⟩) (by simp only [Act.put, pset]; rfl) ?_
  refine take_ (i := 5) (N := some 31) (bt 15 63) rfl rfl (take_of F71tab3 (by kernel_rfl)) (fun _ _ _ h => h) (Or.inl ⟨by rfl, by rintro w' ⟨s0, s1, s2, s3, s4, s5, s6⟩; go_simp; with_reducible rfl⟩) hHeld (by simp only [Act.put, pset]; rfl) ?_
  refine pure_ (i := 6) (N := some 32) (bt 15 127) rfl rfl (any_of F71tab3 (by kernel_rfl)) (fun _ _ _ h => h) (Or.inl ⟨by rfl, by intro w'; go_simp; with_reducible rfl⟩) (by simp only [Act.put, pset]; rfl) ?_
  refine pure_ (i := 7) (N := some 33) (bt 15 255) rfl rfl (any_of F71tab3 (by kernel_rfl)) (fun _ _ _ h => h) (Or.inl ⟨by rfl, by intro w'; go_simp; with_reducible rfl⟩) (by simp only [Act.put, pset]; rfl) ?_
  refine take_ (i := 8) (N := some 34) (bt 15 511) rfl rfl (take_of F71tab3 (by kernel_rfl)) (fun _ _ _ h => h) (Or.inl ⟨by rfl, by rintro w' ⟨s0, s1, s2, s3, s4, s5, s6⟩; go_simp; with_reducible rfl⟩) hHeld (by simp only [Act.put, pset]; rfl) ?_
  refine pure_ (i := 9) (N := some 35) (bt 15 1023) rfl rfl (any_of F71tab3 (by kernel_rfl)) (fun _ _ _ h => h) (Or.inl ⟨by rfl, by intro w'; go_simp; rfl⟩) (by simp only [Act.put, pset]; rfl) ?_
  refine pure_ (i := 10) (N := some 36) (bt 15 2047) rfl rfl (any_of F71tab3 (by kernel_rfl)) (fun _ _ _ h => h) (Or.inl ⟨by rfl, by intro w'; go_simp; with_reducible rfl⟩) (by simp only [Act.put, pset]; rfl) ?_
  refine take_ (i := 11) (N := some 37) (bt 15 4095) rfl rfl (take_of F71tab3 (by kernel_rfl)) (fun _ _ _ h => h) (Or.inl ⟨by rfl, by rintro w' ⟨s0, s1, s2, s3, s4, s5, s6⟩; go_simp; with_reducible rfl⟩) hHeld (by simp only [Act.put, pset]; rfl) ?_
  refine one_ (i := 12) (N := some 38) (bt 15 8191) rfl rfl (one_of F71tab3 (by kernel_rfl)) (by decide) (fun K hK => ?_)
  refine goes_ Tryz.func101 (by kernel_rfl) rfl #[.agg (tkc xd)] (by rfl) rfl rfl (by (try simp only [List.map_toArray, List.map_cons, List.map_nil]); first | done | rfl) ?_
  refine (end_calls HE.out).mono ?_
  rintro e w501 ⟨rfl, hb⟩
  refine ⟨_, rfl, ?_⟩
  have HB2 := Aside0.mk (below_step HB.out hb)
  refine hK.out _ _ (⟨bc hb hHeld.1, bc hb hHeld.2.1, bc hb hHeld.2.2.1, bc hb hHeld.2.2.2.1, bc hb hHeld.2.2.2.2.1, bc hb hHeld.2.2.2.2.2.1, trivial⟩) (fun hHeld => ?_)
  clear hK K hb
  refine norm_ (show Act.put _ (some 38) _ = _ from (by simp only [Act.put, pset]; rfl)) ?_
  refine pure_ (i := 13) (N := some 7) (bt 15 16383) rfl rfl (any_of F71tab3 (by kernel_rfl)) (fun _ _ _ h => h) (Or.inl ⟨by rfl, by intro w'; go_simp; with_reducible rfl⟩) (by simp only [Act.put, pset]; rfl) ?_
  refine pure_ (i := 14) (N := some 8) (bt 15 32767) rfl rfl (any_of F71tab3 (by kernel_rfl)) (fun _ _ _ h => h) (Or.inl ⟨by rfl, by intro w'; go_simp; with_reducible rfl⟩) (by simp only [Act.put, pset]; rfl) ?_
  refine done_ (done_of F71tab3 (by kernel_rfl)) ?_
  clear hHeld c0 c1
  go_wp2_with fail
  go_ret
  exact ⟨rfl, HB2.out⟩
def RfP (wD w : World) (k : Int) (t : ByteArray) (l : List S45) (e : Ending) (w' : World) : Prop := ∃ A c, e = .returned (.agg (ndc k t A l.length c)) ∧ l.length ≤ c ∧ Kd.F k45 w' (fun k => w.heap.size ≤ k) A l.length l ∧ KeepBut w w' w.heap.size none ∧ Below wD.heap.size wD w'
set_option maxHeartbeats 4000000 in
set_option maxRecDepth 100000 in
theorem form_note (hb : Below wD.heap.size wD w) (tk : TokAt wD A toks) (h0 : toks[b]? = some xb) (hn : b ≤ n ∧ n < toks.length) {u : ByteArray} (hby : ∀ w, Below wD.heap.size wD w → Calls Tryz.prog 71 #[.string s, .slice A toks.length c, .agg (itc b (n + 1) true)] w fun e w' => e = .returned (.string u) ∧ Below w.heap.size w w')  : Calls Tryz.prog 44 #[.string s, .slice A toks.length c, .agg (itc b (n + 1) true)] w (RfP wD w 30 xb.t []) := by
  have hu45 := Tryz.underlying45
  have hu33 := Tryz.underlying33
  have hu24 := Tryz.underlying24
  have hu86 := Tryz.underlying86
  have hu9 := Tryz.underlying9
  have hu3 := Tryz.underlying3
  have hu4 := Tryz.underlying4
  have hu56 := Tryz.underlying56
  have hu78 := Tryz.underlying78
  have F := Aside0.mk (Fg.init hb)
  obtain ⟨m, hm⟩ : ∃ m, toks.length = m := ⟨_, rfl⟩
  obtain ⟨p, hp⟩ : ∃ p, n + 1 = p := ⟨_, rfl⟩
  have hbm : b < m := by rw [← hm]; exact (List.getElem?_eq_some_iff.1 h0).1
  have f1 : decide (p ≤ m) = true := decide_eq_true (by omega)
  have f2 : decide (b < p) = true := decide_eq_true (by omega)
  rw [hm, hp] at hby ⊢
  have HBY := Aside0.mk hby
  have HT := Aside0.mk tk
  have H0 := Aside0.mk h0
  clear hb tk h0 hn hby hm hp
  go_enter Tryz.func44, Tryz.ntmps44
  go_upto_region 4 with (first | ((with_reducible refine gate_dst (N := 5) rfl ?_); refine box_event ?hg (N := 5) ?hd (cs := (itc b p true)) (t := 78) ?hr ?_; (case hd => rfl); (case hg => rfl); (case hr => first | (go_simp; done) | (go_simp; rfl)); intro g5 hg w305 hbox hb; have n0 := Aside0.mk (show Fg _ _ ((g5, 78, (itc b p true)) :: _) _ _ from F.out.box hg hbox hb); clear F hbox hb hg; have F := n0) | ((with_reducible refine gate_dst (N := 6) rfl ?_); refine box_event ?hg (N := 6) ?hd (cs := #[.int .i64 0, .string (⟨#[]⟩ : ByteArray), .slice none 0 0, .bool false, .bool false, .slice none 0 0, .slice none 0 0]) (t := 45) ?hr ?_; (case hd => rfl); (case hg => rfl); (case hr => first | (go_simp; done) | (go_simp; rfl)); intro g6 hg w306 hbox hb; have n0 := Aside0.mk (show Fg _ _ ((g6, 45, z7) :: _) _ _ from F.out.box hg hbox hb); clear F hbox hb hg; have F := n0) | ((with_reducible refine gate_dst (N := 12) rfl ?_); refine ld_agg rfl (N := 12) rfl rfl rfl (F.out.at_ (n := 1) rfl) hu78 rfl info78 ?_) | ((with_reducible refine gate_dst (N := 13) rfl ?_); refine goesL_ (some 13) rfl rfl Tryz.func71 (by kernel_rfl) rfl #[.string s, .slice A m c, .agg (itc b p true)] rfl (by (try simp only [List.map_toArray, List.map_cons, List.map_nil]); first | done | rfl) ?_; (refine (HBY.out _ F.out.hb).mono ?_); (rintro e w113 ⟨rfl, hb⟩; refine ⟨_, rfl, ?_⟩; have n0 := Aside0.mk (F.out.below hb); clear F hb; have F := n0)) | ((with_reducible refine gate_dst (N := 7) rfl ?_); refine box_event ?hg (N := 7) ?hd (cs := #[.int .i64 0, .string (⟨#[]⟩ : ByteArray), .slice none 0 0, .bool false, .bool false, .slice none 0 0, .slice none 0 0]) (t := 45) ?hr ?_; (case hd => rfl); (case hg => rfl); (case hr => first | (go_simp; done) | (go_simp; rfl)); intro g7 hg w307 hbox hb; have n0 := Aside0.mk (show Fg _ _ ((g7, 45, z7) :: _) _ _ from F.out.box hg hbox hb); clear F hbox hb hg; have F := n0) | ((with_reducible refine gate_ (.store 45 (.tmp 7) (.tmp 14)) rfl ?_); refine F.out.st 0 rfl rfl rfl rfl (ndc 29 u none 0 0) rfl rfl info45 rfl (ndc_one _ _ _ _ _) ?_; intro w607 n1; have n0 : Aside0 (Fg _ _ [(g7, 45, (ndc 29 u none 0 0)), (g6, 45, z7), (g5, 78, (itc b p true))] _ _) := ⟨n1⟩; clear F n1; have F := n0) | ((with_reducible refine gate_dst (N := 16) rfl ?_); refine ld_cell rfl (N := 16) (v := .int .i64 b) rfl rfl rfl (F.out.at_ (n := 2) rfl) rfl hu3 rfl ?_) | ((with_reducible refine gate_dst (N := 20) rfl ?_); (refine gate_guard (by rfl) ?_; dsimp only); refine ld_cell rfl (N := 20) (v := .int .i64 p) rfl rfl rfl (F.out.at_ (n := 2) rfl) rfl hu3 rfl ?_) | ((with_reducible refine gate_dst (N := 27) rfl ?_); (refine gate_guard (by rfl) ?_; dsimp only); refine ld_cell rfl (N := 27) (v := .int .i64 b) rfl rfl rfl (F.out.at_ (n := 2) rfl) rfl hu3 rfl ?_) | ((with_reducible refine gate_dst (N := 29) rfl ?_); (refine gate_guard (by rfl) ?_; dsimp only); refine ld_cell rfl (N := 29) (v := .int .i64 p) rfl rfl rfl (F.out.at_ (n := 2) rfl) rfl hu3 rfl ?_) | ((with_reducible refine gate_dst (N := 33) rfl ?_); refine ld_cell rfl (N := 33) (v := .bool true) rfl rfl rfl (F.out.at_ (n := 2) rfl) rfl hu4 rfl ?_))
  obtain ⟨ad, rfl, t0, t1, t2⟩ := tok_at HT.out F.out.hb H0.out
  go_wp2_with (first | ((with_reducible refine gate_dst (N := 36) rfl ?_); refine ld_cell rfl (N := 36) (v := .int .i64 b) rfl rfl rfl (F.out.at_ (n := 2) rfl) rfl hu3 rfl ?_) | ((with_reducible refine gate_ (.store 45 (.tmp 7) (.tmp 40)) rfl ?_); refine F.out.st 0 rfl rfl rfl rfl (ndc 30 xb.t none 0 0) rfl rfl info45 rfl (ndc_one _ _ _ _ _) ?_; intro w607 n1; have n0 : Aside0 (Fg _ _ [(g7, 45, (ndc 30 xb.t none 0 0)), (g6, 45, z7), (g5, 78, (itc b p true))] _ _) := ⟨n1⟩; clear F n1; have F := n0) | ((with_reducible refine gate_dst (N := 54) rfl ?_); refine ld_cell rfl (N := 54) (v := .bool false) rfl rfl rfl (F.out.at_ (n := 2) rfl) rfl hu4 rfl ?_) | ((with_reducible refine gate_ (.store 4 (.tmp 55) (.tmp 54)) rfl ?_); refine F.out.sf 0 rfl rfl rfl rfl (ndc 30 xb.t none 0 0) (v := (.bool false)) rfl rfl (by show _ < 7; decide) info4s rfl rfl rfl ?_; intro w655 n1; have n0 : Aside0 (Fg _ _ [(g7, 45, (ndc 30 xb.t none 0 0)), (g6, 45, z7), (g5, 78, (itc b p true))] _ _) := ⟨n1⟩; clear F n1; have F := n0) | ((with_reducible refine gate_dst (N := 56) rfl ?_); refine ld_agg rfl (N := 56) rfl rfl rfl (F.out.at_ (n := 0) rfl) hu45 rfl info45 ?_) | ((with_reducible refine gate_ (.store 45 (.tmp 6) (.tmp 56)) rfl ?_); refine F.out.st 1 rfl rfl rfl rfl (ndc 30 xb.t none 0 0) rfl rfl info45 rfl (ndc_one _ _ _ _ _) ?_; intro w606 n1; have n0 : Aside0 (Fg _ _ [(g7, 45, (ndc 30 xb.t none 0 0)), (g6, 45, (ndc 30 xb.t none 0 0)), (g5, 78, (itc b p true))] _ _) := ⟨n1⟩; clear F n1; have F := n0))
  refine bodyPost_ret (results_single rfl (.cell g6 45 (ndc 30 xb.t none 0 0) (0, 0) _ rfl (F.out.at_ (n := 1) rfl) hu45 rfl info45 .nil)) rfl ?_
  exact ⟨none, 0, rfl, Nat.le_refl _, Kd.F_nil k45 _ _, F.out.kept, F.out.hb⟩
set_option maxHeartbeats 4000000 in
set_option maxRecDepth 100000 in
theorem form_der (hb : Below wD.heap.size wD w) (tk : TokAt wD A toks) (h0 : toks[b]? = some xb) (hn : b ≤ n ∧ n < toks.length) {u : ByteArray} (hby : ∀ w, Below wD.heap.size wD w → Calls Tryz.prog 71 #[.string s, .slice A toks.length c, .agg (itc b (n + 1) false)] w fun e w' => e = .returned (.string u) ∧ Below w.heap.size w w') (h1 : ∀ w, Below wD.heap.size wD w → Calls Tryz.prog 72 #[.string s, .slice A toks.length c, .int .i64 b, .int .i64 (n + 1 : Nat)] w (DeP wD w k t l true)) : Calls Tryz.prog 44 #[.string s, .slice A toks.length c, .agg (itc b (n + 1) false)] w (RfP wD w k t l) := by
  have hu45 := Tryz.underlying45
  have hu33 := Tryz.underlying33
  have hu24 := Tryz.underlying24
  have hu86 := Tryz.underlying86
  have hu9 := Tryz.underlying9
  have hu3 := Tryz.underlying3
  have hu4 := Tryz.underlying4
  have hu56 := Tryz.underlying56
  have hu78 := Tryz.underlying78
  have F := Aside0.mk (Fg.init hb)
  obtain ⟨m, hm⟩ : ∃ m, toks.length = m := ⟨_, rfl⟩
  obtain ⟨p, hp⟩ : ∃ p, n + 1 = p := ⟨_, rfl⟩
  have hbm : b < m := by rw [← hm]; exact (List.getElem?_eq_some_iff.1 h0).1
  have f1 : decide (p ≤ m) = true := decide_eq_true (by omega)
  have f2 : decide (b < p) = true := decide_eq_true (by omega)
  rw [hm, hp] at h1
  rw [hm, hp] at hby ⊢
  have HBY := Aside0.mk hby
  have HT := Aside0.mk tk
  have H0 := Aside0.mk h0
  clear hb tk h0 hn hby hm hp
  have H1 := Aside0.mk h1
  clear h1
  go_enter Tryz.func44, Tryz.ntmps44
  go_wp2_with (first | ((with_reducible refine gate_dst (N := 5) rfl ?_); refine box_event ?hg (N := 5) ?hd (cs := (itc b p false)) (t := 78) ?hr ?_; (case hd => rfl); (case hg => rfl); (case hr => first | (go_simp; done) | (go_simp; rfl)); intro g5 hg w305 hbox hb; have n0 := Aside0.mk (show Fg _ _ ((g5, 78, (itc b p false)) :: _) _ _ from F.out.box hg hbox hb); clear F hbox hb hg; have F := n0) | ((with_reducible refine gate_dst (N := 6) rfl ?_); refine box_event ?hg (N := 6) ?hd (cs := #[.int .i64 0, .string (⟨#[]⟩ : ByteArray), .slice none 0 0, .bool false, .bool false, .slice none 0 0, .slice none 0 0]) (t := 45) ?hr ?_; (case hd => rfl); (case hg => rfl); (case hr => first | (go_simp; done) | (go_simp; rfl)); intro g6 hg w306 hbox hb; have n0 := Aside0.mk (show Fg _ _ ((g6, 45, z7) :: _) _ _ from F.out.box hg hbox hb); clear F hbox hb hg; have F := n0) | ((with_reducible refine gate_dst (N := 12) rfl ?_); refine ld_agg rfl (N := 12) rfl rfl rfl (F.out.at_ (n := 1) rfl) hu78 rfl info78 ?_) | ((with_reducible refine gate_dst (N := 13) rfl ?_); refine goesL_ (some 13) rfl rfl Tryz.func71 (by kernel_rfl) rfl #[.string s, .slice A m c, .agg (itc b p false)] rfl (by (try simp only [List.map_toArray, List.map_cons, List.map_nil]); first | done | rfl) ?_; (refine (HBY.out _ F.out.hb).mono ?_); (rintro e w113 ⟨rfl, hb⟩; refine ⟨_, rfl, ?_⟩; have n0 := Aside0.mk (F.out.below hb); clear F hb; have F := n0)) | ((with_reducible refine gate_dst (N := 7) rfl ?_); refine box_event ?hg (N := 7) ?hd (cs := #[.int .i64 0, .string (⟨#[]⟩ : ByteArray), .slice none 0 0, .bool false, .bool false, .slice none 0 0, .slice none 0 0]) (t := 45) ?hr ?_; (case hd => rfl); (case hg => rfl); (case hr => first | (go_simp; done) | (go_simp; rfl)); intro g7 hg w307 hbox hb; have n0 := Aside0.mk (show Fg _ _ ((g7, 45, z7) :: _) _ _ from F.out.box hg hbox hb); clear F hbox hb hg; have F := n0) | ((with_reducible refine gate_ (.store 45 (.tmp 7) (.tmp 14)) rfl ?_); refine F.out.st 0 rfl rfl rfl rfl (ndc 29 u none 0 0) rfl rfl info45 rfl (ndc_one _ _ _ _ _) ?_; intro w607 n1; have n0 : Aside0 (Fg _ _ [(g7, 45, (ndc 29 u none 0 0)), (g6, 45, z7), (g5, 78, (itc b p false))] _ _) := ⟨n1⟩; clear F n1; have F := n0) | ((with_reducible refine gate_dst (N := 16) rfl ?_); refine ld_cell rfl (N := 16) (v := .int .i64 b) rfl rfl rfl (F.out.at_ (n := 2) rfl) rfl hu3 rfl ?_) | ((with_reducible refine gate_dst (N := 20) rfl ?_); (refine gate_guard (by rfl) ?_; dsimp only); refine ld_cell rfl (N := 20) (v := .int .i64 p) rfl rfl rfl (F.out.at_ (n := 2) rfl) rfl hu3 rfl ?_) | ((with_reducible refine gate_dst (N := 27) rfl ?_); (refine gate_guard (by rfl) ?_; dsimp only); refine ld_cell rfl (N := 27) (v := .int .i64 b) rfl rfl rfl (F.out.at_ (n := 2) rfl) rfl hu3 rfl ?_) | ((with_reducible refine gate_dst (N := 29) rfl ?_); (refine gate_guard (by rfl) ?_; dsimp only); refine ld_cell rfl (N := 29) (v := .int .i64 p) rfl rfl rfl (F.out.at_ (n := 2) rfl) rfl hu3 rfl ?_) | ((with_reducible refine gate_dst (N := 33) rfl ?_); refine ld_cell rfl (N := 33) (v := .bool false) rfl rfl rfl (F.out.at_ (n := 2) rfl) rfl hu4 rfl ?_) | ((with_reducible refine gate_dst (N := 45) rfl ?_); refine ld_cell rfl (N := 45) (v := .int .i64 b) rfl rfl rfl (F.out.at_ (n := 2) rfl) rfl hu3 rfl ?_) | ((with_reducible refine gate_dst (N := 47) rfl ?_); refine ld_cell rfl (N := 47) (v := .int .i64 p) rfl rfl rfl (F.out.at_ (n := 2) rfl) rfl hu3 rfl ?_) | ((with_reducible refine gate_dst (N := 48) rfl ?_); refine goesL_ (some 48) rfl rfl Tryz.func72 (by kernel_rfl) rfl #[.string s, .slice A m c, .int .i64 b, .int .i64 p] rfl (by (try simp only [List.map_toArray, List.map_cons, List.map_nil]); first | done | rfl) ?_; (refine (H1.out _ F.out.hb).mono ?_); (rintro e w148 ⟨A48, c48, rfl, hc, hf, hk, hb⟩; refine ⟨_, rfl, ?_⟩; have n0 := Aside0.mk (F.out.node hb hk hf); have C48 := Aside0.mk hc; clear F hc hf hk hb; have F := n0)) | ((with_reducible refine gate_dst (N := 8) rfl ?_); refine box_event ?hg (N := 8) ?hd (cs := #[.int .i64 0, .string (⟨#[]⟩ : ByteArray), .slice none 0 0, .bool false, .bool false, .slice none 0 0, .slice none 0 0]) (t := 45) ?hr ?_; (case hd => rfl); (case hg => rfl); (case hr => first | (go_simp; done) | (go_simp; rfl)); intro g8 hg w308 hbox hb; have n0 := Aside0.mk (show Fg _ _ ((g8, 45, z7) :: _) _ _ from F.out.box hg hbox hb); clear F hbox hb hg; have F := n0) | ((with_reducible refine gate_ (.store 45 (.tmp 8) (.tmp 49)) rfl ?_); refine F.out.st 0 rfl rfl rfl rfl (ndc k t A48 l.length c48) rfl rfl info45 rfl (ndc_one _ _ _ _ _) ?_; intro w608 n1; have n0 : Aside0 (Fg _ _ [(g8, 45, (ndc k t A48 l.length c48)), (g7, 45, (ndc 29 u none 0 0)), (g6, 45, z7), (g5, 78, (itc b p false))] _ _) := ⟨n1⟩; clear F n1; have F := n0) | ((with_reducible refine gate_dst (N := 52) rfl ?_); refine ld_agg rfl (N := 52) rfl rfl rfl (F.out.at_ (n := 0) rfl) hu45 rfl info45 ?_) | ((with_reducible refine gate_ (.store 45 (.tmp 7) (.tmp 52)) rfl ?_); refine F.out.st 1 rfl rfl rfl rfl (ndc k t A48 l.length c48) rfl rfl info45 rfl (ndc_one _ _ _ _ _) ?_; intro w607 n1; have n0 : Aside0 (Fg _ _ [(g8, 45, (ndc k t A48 l.length c48)), (g7, 45, (ndc k t A48 l.length c48)), (g6, 45, z7), (g5, 78, (itc b p false))] _ _) := ⟨n1⟩; clear F n1; have F := n0) | ((with_reducible refine gate_dst (N := 54) rfl ?_); refine ld_cell rfl (N := 54) (v := .bool false) rfl rfl rfl (F.out.at_ (n := 3) rfl) rfl hu4 rfl ?_) | ((with_reducible refine gate_ (.store 4 (.tmp 55) (.tmp 54)) rfl ?_); refine F.out.sf 1 rfl rfl rfl rfl (ndc k t A48 l.length c48) (v := (.bool false)) rfl rfl (by show _ < 7; decide) info4s rfl rfl rfl ?_; intro w655 n1; have n0 : Aside0 (Fg _ _ [(g8, 45, (ndc k t A48 l.length c48)), (g7, 45, (ndc k t A48 l.length c48)), (g6, 45, z7), (g5, 78, (itc b p false))] _ _) := ⟨n1⟩; clear F n1; have F := n0) | ((with_reducible refine gate_dst (N := 56) rfl ?_); refine ld_agg rfl (N := 56) rfl rfl rfl (F.out.at_ (n := 1) rfl) hu45 rfl info45 ?_) | ((with_reducible refine gate_ (.store 45 (.tmp 6) (.tmp 56)) rfl ?_); refine F.out.st 2 rfl rfl rfl rfl (ndc k t A48 l.length c48) rfl rfl info45 rfl (ndc_one _ _ _ _ _) ?_; intro w606 n1; have n0 : Aside0 (Fg _ _ [(g8, 45, (ndc k t A48 l.length c48)), (g7, 45, (ndc k t A48 l.length c48)), (g6, 45, (ndc k t A48 l.length c48)), (g5, 78, (itc b p false))] _ _) := ⟨n1⟩; clear F n1; have F := n0))
  refine bodyPost_ret (results_single rfl (.cell g6 45 (ndc k t A48 l.length c48) (0, 0) _ rfl (F.out.at_ (n := 2) rfl) hu45 rfl info45 .nil)) rfl ?_
  exact ⟨A48, c48, rfl, C48.out, F.out.row (n := 0) rfl, F.out.kept, F.out.hb⟩
set_option maxHeartbeats 4000000 in
set_option maxRecDepth 100000 in
theorem form_raw (hb : Below wD.heap.size wD w) (tk : TokAt wD A toks) (h0 : toks[b]? = some xb) (hn : b ≤ n ∧ n < toks.length) {u : ByteArray} (hby : ∀ w, Below wD.heap.size wD w → Calls Tryz.prog 71 #[.string s, .slice A toks.length c, .agg (itc b (n + 1) false)] w fun e w' => e = .returned (.string u) ∧ Below w.heap.size w w') (h1 : ∀ w, Below wD.heap.size wD w → Calls Tryz.prog 72 #[.string s, .slice A toks.length c, .int .i64 b, .int .i64 (n + 1 : Nat)] w (DeP wD w k t l false)) : Calls Tryz.prog 44 #[.string s, .slice A toks.length c, .agg (itc b (n + 1) false)] w (RfP wD w 29 u []) := by
  have hu45 := Tryz.underlying45
  have hu33 := Tryz.underlying33
  have hu24 := Tryz.underlying24
  have hu86 := Tryz.underlying86
  have hu9 := Tryz.underlying9
  have hu3 := Tryz.underlying3
  have hu4 := Tryz.underlying4
  have hu56 := Tryz.underlying56
  have hu78 := Tryz.underlying78
  have F := Aside0.mk (Fg.init hb)
  obtain ⟨m, hm⟩ : ∃ m, toks.length = m := ⟨_, rfl⟩
  obtain ⟨p, hp⟩ : ∃ p, n + 1 = p := ⟨_, rfl⟩
  have hbm : b < m := by rw [← hm]; exact (List.getElem?_eq_some_iff.1 h0).1
  have f1 : decide (p ≤ m) = true := decide_eq_true (by omega)
  have f2 : decide (b < p) = true := decide_eq_true (by omega)
  rw [hm, hp] at h1
  rw [hm, hp] at hby ⊢
  have HBY := Aside0.mk hby
  have HT := Aside0.mk tk
  have H0 := Aside0.mk h0
  clear hb tk h0 hn hby hm hp
  have H1 := Aside0.mk h1
  clear h1
  go_enter Tryz.func44, Tryz.ntmps44
  go_wp2_with (first | ((with_reducible refine gate_dst (N := 5) rfl ?_); refine box_event ?hg (N := 5) ?hd (cs := (itc b p false)) (t := 78) ?hr ?_; (case hd => rfl); (case hg => rfl); (case hr => first | (go_simp; done) | (go_simp; rfl)); intro g5 hg w305 hbox hb; have n0 := Aside0.mk (show Fg _ _ ((g5, 78, (itc b p false)) :: _) _ _ from F.out.box hg hbox hb); clear F hbox hb hg; have F := n0) | ((with_reducible refine gate_dst (N := 6) rfl ?_); refine box_event ?hg (N := 6) ?hd (cs := #[.int .i64 0, .string (⟨#[]⟩ : ByteArray), .slice none 0 0, .bool false, .bool false, .slice none 0 0, .slice none 0 0]) (t := 45) ?hr ?_; (case hd => rfl); (case hg => rfl); (case hr => first | (go_simp; done) | (go_simp; rfl)); intro g6 hg w306 hbox hb; have n0 := Aside0.mk (show Fg _ _ ((g6, 45, z7) :: _) _ _ from F.out.box hg hbox hb); clear F hbox hb hg; have F := n0) | ((with_reducible refine gate_dst (N := 12) rfl ?_); refine ld_agg rfl (N := 12) rfl rfl rfl (F.out.at_ (n := 1) rfl) hu78 rfl info78 ?_) | ((with_reducible refine gate_dst (N := 13) rfl ?_); refine goesL_ (some 13) rfl rfl Tryz.func71 (by kernel_rfl) rfl #[.string s, .slice A m c, .agg (itc b p false)] rfl (by (try simp only [List.map_toArray, List.map_cons, List.map_nil]); first | done | rfl) ?_; (refine (HBY.out _ F.out.hb).mono ?_); (rintro e w113 ⟨rfl, hb⟩; refine ⟨_, rfl, ?_⟩; have n0 := Aside0.mk (F.out.below hb); clear F hb; have F := n0)) | ((with_reducible refine gate_dst (N := 7) rfl ?_); refine box_event ?hg (N := 7) ?hd (cs := #[.int .i64 0, .string (⟨#[]⟩ : ByteArray), .slice none 0 0, .bool false, .bool false, .slice none 0 0, .slice none 0 0]) (t := 45) ?hr ?_; (case hd => rfl); (case hg => rfl); (case hr => first | (go_simp; done) | (go_simp; rfl)); intro g7 hg w307 hbox hb; have n0 := Aside0.mk (show Fg _ _ ((g7, 45, z7) :: _) _ _ from F.out.box hg hbox hb); clear F hbox hb hg; have F := n0) | ((with_reducible refine gate_ (.store 45 (.tmp 7) (.tmp 14)) rfl ?_); refine F.out.st 0 rfl rfl rfl rfl (ndc 29 u none 0 0) rfl rfl info45 rfl (ndc_one _ _ _ _ _) ?_; intro w607 n1; have n0 : Aside0 (Fg _ _ [(g7, 45, (ndc 29 u none 0 0)), (g6, 45, z7), (g5, 78, (itc b p false))] _ _) := ⟨n1⟩; clear F n1; have F := n0) | ((with_reducible refine gate_dst (N := 16) rfl ?_); refine ld_cell rfl (N := 16) (v := .int .i64 b) rfl rfl rfl (F.out.at_ (n := 2) rfl) rfl hu3 rfl ?_) | ((with_reducible refine gate_dst (N := 20) rfl ?_); (refine gate_guard (by rfl) ?_; dsimp only); refine ld_cell rfl (N := 20) (v := .int .i64 p) rfl rfl rfl (F.out.at_ (n := 2) rfl) rfl hu3 rfl ?_) | ((with_reducible refine gate_dst (N := 27) rfl ?_); (refine gate_guard (by rfl) ?_; dsimp only); refine ld_cell rfl (N := 27) (v := .int .i64 b) rfl rfl rfl (F.out.at_ (n := 2) rfl) rfl hu3 rfl ?_) | ((with_reducible refine gate_dst (N := 29) rfl ?_); (refine gate_guard (by rfl) ?_; dsimp only); refine ld_cell rfl (N := 29) (v := .int .i64 p) rfl rfl rfl (F.out.at_ (n := 2) rfl) rfl hu3 rfl ?_) | ((with_reducible refine gate_dst (N := 33) rfl ?_); refine ld_cell rfl (N := 33) (v := .bool false) rfl rfl rfl (F.out.at_ (n := 2) rfl) rfl hu4 rfl ?_) | ((with_reducible refine gate_dst (N := 45) rfl ?_); refine ld_cell rfl (N := 45) (v := .int .i64 b) rfl rfl rfl (F.out.at_ (n := 2) rfl) rfl hu3 rfl ?_) | ((with_reducible refine gate_dst (N := 47) rfl ?_); refine ld_cell rfl (N := 47) (v := .int .i64 p) rfl rfl rfl (F.out.at_ (n := 2) rfl) rfl hu3 rfl ?_) | ((with_reducible refine gate_dst (N := 48) rfl ?_); refine goesL_ (some 48) rfl rfl Tryz.func72 (by kernel_rfl) rfl #[.string s, .slice A m c, .int .i64 b, .int .i64 p] rfl (by (try simp only [List.map_toArray, List.map_cons, List.map_nil]); first | done | rfl) ?_; (refine (H1.out _ F.out.hb).mono ?_); (rintro e w148 ⟨A48, c48, rfl, hc, hf, hk, hb⟩; refine ⟨_, rfl, ?_⟩; have n0 := Aside0.mk (F.out.node hb hk hf); have C48 := Aside0.mk hc; clear F hc hf hk hb; have F := n0)) | ((with_reducible refine gate_dst (N := 8) rfl ?_); refine box_event ?hg (N := 8) ?hd (cs := #[.int .i64 0, .string (⟨#[]⟩ : ByteArray), .slice none 0 0, .bool false, .bool false, .slice none 0 0, .slice none 0 0]) (t := 45) ?hr ?_; (case hd => rfl); (case hg => rfl); (case hr => first | (go_simp; done) | (go_simp; rfl)); intro g8 hg w308 hbox hb; have n0 := Aside0.mk (show Fg _ _ ((g8, 45, z7) :: _) _ _ from F.out.box hg hbox hb); clear F hbox hb hg; have F := n0) | ((with_reducible refine gate_ (.store 45 (.tmp 8) (.tmp 49)) rfl ?_); refine F.out.st 0 rfl rfl rfl rfl (ndc k t A48 l.length c48) rfl rfl info45 rfl (ndc_one _ _ _ _ _) ?_; intro w608 n1; have n0 : Aside0 (Fg _ _ [(g8, 45, (ndc k t A48 l.length c48)), (g7, 45, (ndc 29 u none 0 0)), (g6, 45, z7), (g5, 78, (itc b p false))] _ _) := ⟨n1⟩; clear F n1; have F := n0) | ((with_reducible refine gate_dst (N := 54) rfl ?_); refine ld_cell rfl (N := 54) (v := .bool false) rfl rfl rfl (F.out.at_ (n := 3) rfl) rfl hu4 rfl ?_) | ((with_reducible refine gate_ (.store 4 (.tmp 55) (.tmp 54)) rfl ?_); refine F.out.sf 1 rfl rfl rfl rfl (ndc 29 u none 0 0) (v := (.bool false)) rfl rfl (by show _ < 7; decide) info4s rfl rfl rfl ?_; intro w655 n1; have n0 : Aside0 (Fg _ _ [(g8, 45, (ndc k t A48 l.length c48)), (g7, 45, (ndc 29 u none 0 0)), (g6, 45, z7), (g5, 78, (itc b p false))] _ _) := ⟨n1⟩; clear F n1; have F := n0) | ((with_reducible refine gate_dst (N := 56) rfl ?_); refine ld_agg rfl (N := 56) rfl rfl rfl (F.out.at_ (n := 1) rfl) hu45 rfl info45 ?_) | ((with_reducible refine gate_ (.store 45 (.tmp 6) (.tmp 56)) rfl ?_); refine F.out.st 2 rfl rfl rfl rfl (ndc 29 u none 0 0) rfl rfl info45 rfl (ndc_one _ _ _ _ _) ?_; intro w606 n1; have n0 : Aside0 (Fg _ _ [(g8, 45, (ndc k t A48 l.length c48)), (g7, 45, (ndc 29 u none 0 0)), (g6, 45, (ndc 29 u none 0 0)), (g5, 78, (itc b p false))] _ _) := ⟨n1⟩; clear F n1; have F := n0))
  refine bodyPost_ret (results_single rfl (.cell g6 45 (ndc 29 u none 0 0) (0, 0) _ rfl (F.out.at_ (n := 2) rfl) hu45 rfl info45 .nil)) rfl ?_
  exact ⟨none, 0, rfl, Nat.le_refl _, Kd.F_nil k45 _ _, F.out.kept, F.out.hb⟩
end
end Go.Proofs.YthipodffpkglfaaGreatDoor.PS
