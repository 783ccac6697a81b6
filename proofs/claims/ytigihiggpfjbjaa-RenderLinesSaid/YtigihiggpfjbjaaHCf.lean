/- Plain: flat. -/
import Derived.Test.YtigihiggpfjbjaaHLC
import Derived.Test.YtigihiggpfjbjaaPRxa
namespace Go.Proofs.Ytigihiggpfjbjaa.PR
open Go.RowKit Go.Proofs.YtigihiggpfjbjaaW.PrintWords Go.Proofs.YtigihiggpfjbjaaW.PrintLast Go.Proofs.YtigihiggpfjbjaaW.PrintMore
set_option linter.unusedVariables false
set_option linter.unusedSimpArgs false
/-! ### flat -/
mutual
def flatV : S24 → ByteArray
  | ⟨k, _, s, l⟩ => if k = 1 then s else if k = 2 then ⟨#[32]⟩ else flatL l
def flatL : List S24 → ByteArray
  | [] => ⟨#[]⟩
  | x :: r => flatV x ++ flatL r
end
theorem flatV_eq (x : S24) : flatV x = if x.f0 = 1 then x.f2 else if x.f0 = 2 then ⟨#[32]⟩ else flatL x.f3 := by cases x; rfl
theorem flatL_drop (l : List S24) (i : Nat) (h : i < l.length) : flatL (l.drop i) = flatV l[i] ++ flatL (l.drop (i + 1)) := by rw [List.drop_eq_getElem_cons h]; rfl
mutual
theorem flatV_size : ∀ (x : S24), finD x → (flatV x).size ≤ 100 * cnt x
  | ⟨k, n, s, l⟩, h => by
    have h1 := flatL_size l h.2.2
    have h3 : s.size ≤ 100 := h.1
    have h4 : (⟨#[32]⟩ : ByteArray).size = 1 := rfl
    simp only [flatV, cnt]
    repeat' split
    all_goals omega
theorem flatL_size : ∀ (l : List S24), finDL l → (flatL l).size ≤ 100 * cntL l
  | [], _ => by simp [flatL, cntL]; rfl
  | x :: r, h => by
    have h1 := flatV_size x h.1
    have h2 := flatL_size r h.2
    simp only [flatL, cntL, ba_size]
    omega
end
theorem flatR (n : Nat) : ∀ x : S24, cnt x ≤ n → cnt x ≤ 500 → finD x → Ev (fun k => galleyref15_flat.f k x.f0 x.f1 x.f2 x.f3) (flatV x) := by
  induction n using Nat.strongRecOn with
  | _ n ih =>
  intro x hn h500 hx
  obtain ⟨hs, hm, hl⟩ := (finD_eq x).1 hx
  have hcx := cnt_eq x
  have loop : ∀ d i : Nat, ∀ a : ByteArray, x.f3.length - i = d → i ≤ x.f3.length → a.size + 100 * cntL (x.f3.drop i) ≤ 1000000 → Ev (fun k => galleyref15_flat.l0 k a (i : Int) x.f0 x.f1 x.f2 x.f3) (a ++ flatL (x.f3.drop i)) := by
    intro d
    induction d with
    | zero =>
      intro i a hd hi ha
      rw [List.drop_eq_nil_of_le (by omega), flatL, ba_append_nil]
      exact Ev.step (f := fun _ => some a) (fun k => by simp only [galleyref15_flat.l0]; rw [if_neg (by omega)]) (Ev.now _)
    | succ d ihd =>
      intro i a hd hi ha
      have hil : i < x.f3.length := by omega
      have hw := flatV_size _ (finD_child hx i hil)
      rw [cntL_drop x.f3 i hil] at ha
      have hci := cnt_lt x i hil
      refine Ev.step (f := fun k => (galleyref15_flat.f k x.f3[i].f0 x.f3[i].f1 x.f3[i].f2 x.f3[i].f3).bind fun t => if a.size + t.size ≤ 9223372036854775807 then galleyref15_flat.l0 k (a ++ t) ((i + 1 : Nat) : Int) x.f0 x.f1 x.f2 x.f3 else none)
        (fun k => by simp only [galleyref15_flat.l0]; rw [if_pos (by omega), if_pos (by omega), rd24 _ _ hil, wrap_next hil (by omega)]) ?_
      refine Ev.bind (ih (cnt x.f3[i]) (Nat.lt_of_lt_of_le (cnt_lt x i hil) hn) x.f3[i] (Nat.le_refl _) (by omega) (finD_child hx i hil)) ?_
      refine Ev.yes (by omega) ?_
      rw [flatL_drop x.f3 i hil, ← ba_assoc]
      exact ihd (i + 1) (a ++ flatV x.f3[i]) (by omega) (by omega) (by rw [ba_size]; omega)
  rw [flatV_eq]
  by_cases c1 : x.f0 = 1
  · rw [if_pos c1]; exact Ev.step (fun k => by simp only [galleyref15_flat.f]; rw [if_pos c1]) (Ev.now _)
  by_cases c2 : x.f0 = 2
  · rw [if_neg c1, if_pos c2]; exact Ev.step (fun k => by simp only [galleyref15_flat.f]; rw [if_neg c1, if_pos c2]) (Ev.now _)
  rw [if_neg c1, if_neg c2]
  have h := loop x.f3.length 0 (⟨#[]⟩ : ByteArray) (by omega) (by omega) (by rw [List.drop_zero]; show 0 + _ ≤ _; omega)
  rw [List.drop_zero, ba_nil_append] at h
  exact Ev.step (f := fun k => galleyref15_flat.l0 k (⟨#[]⟩ : ByteArray) ((0 : Nat) : Int) x.f0 x.f1 x.f2 x.f3) (fun k => by simp only [galleyref15_flat.f]; rw [if_neg c1, if_neg c2]; rfl) h
theorem FlatR (x : S24) (h500 : cnt x ≤ 500) (hx : finD x) : Ev (fun k => galleyref15_Flat.f k x.f0 x.f1 x.f2 x.f3) (if frcB x = true then ((⟨#[]⟩ : ByteArray), false) else (flatV x, true)) := by
  refine Ev.bind (frcR _ x (Nat.le_refl _) hx) ?_
  cases frcB x
  · exact Ev.no (by decide) (Ev.bind (flatR _ x (Nat.le_refl _) h500 hx) (Ev.now _))
  · exact Ev.yes rfl (Ev.now _)
theorem flat_of (x : S24) (A : Option Addr) (c : Nat) (s : ByteArray) (b : Bool) (w : World) (h : Dc w x A c) (hx : finD x) (hc : cnt x ≤ 500) (e : (if frcB x = true then ((⟨#[]⟩ : ByteArray), false) else (flatV x, true)) = (s, b)) : Calls Try.prog 18 #[.agg #[.int .i64 x.f0, .int .i64 x.f1, .string x.f2, .slice A x.f3.length c]] w fun e w' => e = .returned (.tuple #[.string s, .bool b]) ∧ Below w.heap.size w w' := by
  have hr := FlatR x hc hx
  rw [e] at hr
  obtain ⟨k, hk⟩ := hr.rounds
  exact galleyref15_Flat.calls k _ _ _ _ _ _ _ _ w h.g3 h.l3 hk
end Go.Proofs.Ytigihiggpfjbjaa.PR
