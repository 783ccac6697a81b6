/- Measure, of all documents that may be; take, of all parts; what is to come stays within bounds. -/
import Derived.Test.YtigihiggpfjbjaaHM1
import Derived.Test.YtigihiggpfjbjaaHW8
namespace Go.Proofs.Ytigihiggpfjbjaa.PR
open Go.RowKit Go.Proofs.YtigihiggpfjbjaaW.PrintWords Go.Proofs.YtigihiggpfjbjaaW.PrintLast Go.Proofs.YtigihiggpfjbjaaW.PrintMore
set_option linter.unusedVariables false
set_option linter.unusedSimpArgs false
theorem allOwnL_get : ∀ (l : List S24), allOwnL l = true → ∀ x ∈ l, allOwn x = true
  | [], _, x, h => by cases h
  | y :: r, h, x, hx => by
    rw [allOwnL, Bool.and_eq_true] at h
    rcases List.mem_cons.1 hx with rfl | hx
    · exact h.1
    · exact allOwnL_get r h.2 x hx
theorem own_kinds {x : S24} (h : ownB x = true) : x.f0 = 1 ∨ x.f0 = 2 ∨ x.f0 = 3 ∨ x.f0 = 4 ∨ x.f0 = 5 ∨ x.f0 = 6 ∨ x.f0 = 7 := by
  unfold ownB at h
  by_cases h1 : x.f0 = 1
  · omega
  by_cases h2 : x.f0 = 2 ∨ x.f0 = 3 ∨ x.f0 = 4
  · omega
  by_cases h5 : x.f0 = 5
  · omega
  by_cases h6 : x.f0 = 6
  · omega
  by_cases h7 : x.f0 = 7
  · omega
  rw [if_neg h1, if_neg h2, if_neg h5, if_neg h6, if_neg h7] at h
  exact absurd h (by decide)
theorem allOwn_own {x : S24} (h : allOwn x = true) : ownB x = true ∧ allOwnL x.f3 = true := by
  rw [allOwn_eq, Bool.and_eq_true] at h
  exact h
theorem own_leaf {x : S24} (h : ownB x = true) (hk : x.f0 = 1 ∨ x.f0 = 2 ∨ x.f0 = 3 ∨ x.f0 = 4) : x.f3 = [] ∧ x.f1 = 0 := by
  unfold ownB at h
  by_cases h1 : x.f0 = 1
  · rw [if_pos h1] at h
    simp only [Bool.and_eq_true, decide_eq_true_eq, List.isEmpty_iff] at h
    exact ⟨h.1.2, h.1.1⟩
  · rw [if_neg h1, if_pos (by omega)] at h
    simp only [Bool.and_eq_true, decide_eq_true_eq, List.isEmpty_iff] at h
    exact ⟨h.2, h.1.2⟩
theorem own_nest {x : S24} (h : ownB x = true) (hk : x.f0 = 5 ∨ x.f0 = 6) : 0 ≤ x.f1 ∧ x.f1 ≤ 1000 := by
  unfold ownB at h
  rcases hk with hk | hk
  · rw [if_neg (by omega), if_neg (by omega), if_pos hk] at h
    simp only [Bool.and_eq_true, decide_eq_true_eq] at h
    omega
  · rw [if_neg (by omega), if_neg (by omega), if_neg (by omega), if_pos hk] at h
    simp only [Bool.and_eq_true, decide_eq_true_eq] at h
    omega
theorem meas_calls (n : Nat) : ∀ (x : S24), cnt x ≤ n → cnt x ≤ 1100 → finD x → allOwn x = true → ∀ (A3 : Option Addr) (c3 : Nat) (w : World), Dc w x A3 c3 → MeasAt x A3 c3 w := by
  induction n using Nat.strongRecOn with
  | _ n ih =>
  intro x hn hc hf ho A3 c3 w hx
  have hi : ∀ (i : Nat) (h : i < x.f3.length) (B3 : Option Addr) (d3 : Nat) (w' : World), Dc w' x.f3[i] B3 d3 → MeasAt x.f3[i] B3 d3 w' := fun i h B3 d3 w' hd =>
    ih (cnt x.f3[i]) (Nat.lt_of_lt_of_le (cnt_lt x i h) hn) x.f3[i] (Nat.le_refl _) (Nat.le_trans (Nat.le_of_lt (cnt_lt x i h)) hc) (finD_child hf i h) (allOwnL_get _ (allOwn_own ho).2 _ (List.getElem_mem h)) B3 d3 w' hd
  rcases own_kinds (allOwn_own ho).1 with hk | hk | hk | hk | hk | hk | hk
  · exact meas_1 hx hf hc hi hk
  · exact meas_2 hx hf hc hi hk
  · exact meas_3 hx hf hc hi hk
  · exact meas_4 hx hf hc hi hk
  · exact meas_5 hx hf hc hi hk
  · exact meas_6 hx hf hc hi hk
  · exact meas_7 hx hf hc hi hk
def cntI : List It → Nat
  | [] => 0
  | it :: r => cnt it.x + cntI r
theorem cntI_append (a b : List It) : cntI (a ++ b) = cntI a + cntI b := by
  induction a with
  | nil => simp [cntI]
  | cons x r ih => simp only [List.cons_append, cntI, ih]; omega
theorem cntI_reverse : ∀ a : List It, cntI a.reverse = cntI a
  | [] => rfl
  | x :: r => by rw [List.reverse_cons, cntI_append, cntI_reverse r]; simp only [cntI]; omega
theorem cntI_map : ∀ K : List It, cntI K = cntL (K.map It.x)
  | [] => rfl
  | x :: r => by rw [cntI, List.map_cons, cntL, cntI_map r]
theorem cntI_len : ∀ K : List It, K.length ≤ cntI K
  | [] => Nat.le_refl _
  | x :: r => by
    have h1 := cntI_len r
    have h2 := cnt_pos x.x
    simp only [List.length_cons, cntI]; omega
theorem len_cntL : ∀ l : List S24, l.length ≤ cntL l
  | [] => Nat.le_refl _
  | x :: r => by
    have h1 := len_cntL r
    have h2 := cnt_pos x
    simp only [List.length_cons, cntL]; omega
structure GoodI (d : Nat) (it : It) : Prop where
  fin : finD it.x
  own : allOwn it.x = true
  n0 : 0 ≤ it.n
  n1 : it.n ≤ 1000 * (d : Int)
/-- What is to come, and what is written, is within bounds; d: how many have been taken. -/
structure Good (d : Nat) (its : List It) (S : St) : Prop where
  it : ∀ it ∈ its, GoodI d it
  sum : d + cntI its ≤ 1100
  modes : S.modes.length ≤ d
  pen : S.pen ≤ 1000 * d
  out : S.out.length ≤ 1200000 * d
  col0 : 0 ≤ S.col
  col1 : S.col ≤ 2000 * (d : Int)
theorem finDL_mem : ∀ (l : List S24), finDL l → ∀ x ∈ l, finD x
  | [], _, x, h => by cases h
  | y :: r, h, x, hx => by
    rcases List.mem_cons.1 hx with rfl | hx
    · exact h.1
    · exact finDL_mem r h.2 x hx
theorem bytesOf_len (s : ByteArray) : (bytesOf s).length = s.size := by
  simp [bytesOf]
theorem textP_good (s : ByteArray) (n : Int) (d : Nat) (S : St) (hs : s.size ≤ 100) (hn : 0 ≤ n ∧ n ≤ 100) (hd : d ≤ 1100) (h1 : S.modes.length ≤ d) (h2 : S.pen ≤ 1000 * d) (h3 : S.out.length ≤ 1200000 * d) (h4 : 0 ≤ S.col) (h5 : S.col ≤ 2000 * (d : Int)) :
    (textP s n S).modes.length ≤ d + 1 ∧ (textP s n S).pen ≤ 1000 * (d + 1) ∧ (textP s n S).out.length ≤ 1200000 * (d + 1) ∧ 0 ≤ (textP s n S).col ∧ (textP s n S).col ≤ 2000 * ((d + 1 : Nat) : Int) := by
  unfold textP
  split
  · omega
  · refine ⟨by simp only; omega, by simp only; omega, ?_, by simp only; omega, by simp only; omega⟩
    simp only [List.length_append, List.length_replicate, bytesOf_len]
    omega
theorem lineP_good (nest : Int) (d : Nat) (S : St) (h0 : 0 ≤ nest) (hn : nest ≤ 1000 * (d : Int)) (h1 : S.modes.length ≤ d) (h2 : S.pen ≤ 1000 * d) (h3 : S.out.length ≤ 1200000 * d) :
    (lineP nest S).modes.length ≤ d + 1 ∧ (lineP nest S).pen ≤ 1000 * (d + 1) ∧ (lineP nest S).out.length ≤ 1200000 * (d + 1) ∧ 0 ≤ (lineP nest S).col ∧ (lineP nest S).col ≤ 2000 * ((d + 1 : Nat) : Int) := by
  unfold lineP
  refine ⟨by simp only; omega, by simp only; omega, ?_, by simp only; omega, by simp only; omega⟩
  simp only [List.length_append, List.length_cons, List.length_nil]
  omega
theorem wd_leaf {x : S24} (hf : finD x) (h : x.f3 = []) : 0 ≤ wdV x ∧ wdV x ≤ 100 := by
  rw [wdV_eq, h]
  have := own1_le x.f0 x.f2 ((finD_eq x).1 hf).1
  simp only [wdL]
  omega
theorem good_take {d : Nat} {its K : List It} {it : It} {S : St} {wd fr : Int} (h : Good d (its ++ [it]) S) (hl : K.map It.x = (takeP wd it.x it.n it.f fr S).2.1) (hK : ∀ k ∈ K, k.n = (takeP wd it.x it.n it.f fr S).2.2.1 ∧ k.f = (takeP wd it.x it.n it.f fr S).2.2.2) :
    Good (d + 1) (its ++ K.reverse) (takeP wd it.x it.n it.f fr S).1 := by
  have hi := h.it it (by simp)
  have hsum := h.sum
  rw [cntI_append] at hsum
  simp only [cntI, Nat.add_zero] at hsum
  have ho := allOwn_own hi.own
  have hd : d ≤ 1100 := by omega
  have hcx := cnt_eq it.x
  have old : ∀ k ∈ its, GoodI (d + 1) k := fun k hk => by
    have := h.it k (by simp [hk])
    exact ⟨this.fin, this.own, this.n0, by have := this.n1; omega⟩
  have mk : ∀ (n : Int) (T : St), K.map It.x = it.x.f3 → (∀ k ∈ K, k.n = n) → 0 ≤ n → n ≤ 1000 * ((d + 1 : Nat) : Int) → (T.modes.length ≤ d + 1 ∧ T.pen ≤ 1000 * (d + 1) ∧ T.out.length ≤ 1200000 * (d + 1) ∧ 0 ≤ T.col ∧ T.col ≤ 2000 * ((d + 1 : Nat) : Int)) → Good (d + 1) (its ++ K.reverse) T := fun n T e1 e2 e3 e4 e5 => by
    refine ⟨fun k hk => ?_, ?_, e5.1, e5.2.1, e5.2.2.1, e5.2.2.2.1, e5.2.2.2.2⟩
    · rcases List.mem_append.1 hk with hk | hk
      · exact old k hk
      · have hk := List.mem_reverse.1 hk
        have hx : k.x ∈ it.x.f3 := by rw [← e1]; exact List.mem_map_of_mem hk
        exact ⟨finDL_mem _ ((finD_eq _).1 hi.fin).2.2 _ hx, allOwnL_get _ ho.2 _ hx, by rw [e2 k hk]; exact e3, by rw [e2 k hk]; exact e4⟩
    · rw [cntI_append, cntI_reverse, cntI_map K, e1]
      omega
  have h1 := h.modes
  have h2 := h.pen
  have h3 := h.out
  have h4 := h.col0
  have h5 := h.col1
  have n0 := hi.n0
  have n1 := hi.n1
  have hs := ((finD_eq _).1 hi.fin).1
  by_cases k1 : it.x.f0 = 1
  · have e : takeP wd it.x it.n it.f fr S = (textP it.x.f2 (wdV it.x) S, [], 0, false) := by rw [takeP, if_pos k1]
    rw [e] at hl hK ⊢
    have hlf := own_leaf ho.1 (Or.inl k1)
    exact mk 0 _ (by rw [hl, hlf.1]) (fun k hk => (hK k hk).1) (by omega) (by omega) (textP_good _ _ d S hs (wd_leaf hi.fin hlf.1) hd h1 h2 h3 h4 h5)
  by_cases k2 : it.x.f0 = 2 ∨ it.x.f0 = 3 ∨ it.x.f0 = 4
  · have hlf := own_leaf ho.1 (Or.inr k2)
    have e : takeP wd it.x it.n it.f fr S = (if it.f = false ∨ it.x.f0 = 4 then lineP it.n S else if it.x.f0 = 2 then textP (⟨#[32]⟩ : ByteArray) 1 S else S, [], 0, false) := by rw [takeP, if_neg k1, if_pos k2]
    rw [e] at hl hK ⊢
    refine mk 0 _ (by rw [hl, hlf.1]) (fun k hk => (hK k hk).1) (by omega) (by omega) ?_
    simp only
    split
    · exact lineP_good _ d S n0 n1 h1 h2 h3
    · split
      · exact textP_good _ _ d S (by decide) (by omega) hd h1 h2 h3 h4 h5
      · omega
  by_cases k7 : it.x.f0 = 7
  · have e : takeP wd it.x it.n it.f fr S = ({ S with modes := S.modes ++ [it.f || fitB it.x wd S.col fr] }, it.x.f3, it.n, it.f || fitB it.x wd S.col fr) := by rw [takeP, if_neg k1, if_neg k2, if_pos k7]
    rw [e] at hl hK ⊢
    refine mk it.n _ hl (fun k hk => (hK k hk).1) n0 (by omega) ?_
    simp only [List.length_append, List.length_cons, List.length_nil]
    omega
  · have e : takeP wd it.x it.n it.f fr S = (S, it.x.f3, it.n + it.x.f1, it.f) := by rw [takeP, if_neg k1, if_neg k2, if_neg k7]
    rw [e] at hl hK ⊢
    have hk := own_kinds ho.1
    have hn := own_nest ho.1 (by omega)
    exact mk (it.n + it.x.f1) _ hl (fun k hk => (hK k hk).1) (by omega) (by omega) (by simp only; omega)
theorem emp_of_isEmpty {s : ByteArray} (h : s.toList.isEmpty = true) : s = (⟨#[]⟩ : ByteArray) := by
  rw [ByteArray.toList_eq] at h
  obtain ⟨⟨l⟩⟩ := s
  cases l with
  | nil => rfl
  | cons a r => simp at h
section
variable {w : World} {B gw g d : Nat} {wd : Int} {S : St} {its : List It} {it : It}
theorem take_calls (h : WrS w B gw wd S its) (hg : Good d (its ++ [it]) S) (hp : ∀ k ∈ its ++ [it], PartAt w (fun k => k < B) k.x k.g) (hwd : 0 ≤ wd) : TakeAt w B gw it.g wd it.n it.f S its it.x := by
  have hpx := hp it (by simp)
  have hgi := hg.it it (by simp)
  have hpi : ∀ k ∈ its, PartAt w (fun k => k < B) k.x k.g := fun k hk => hp k (by simp [hk])
  obtain ⟨hgB, A, c, gs, hb, hgs, hrow, hps⟩ := (PartAt_eq _ _ _ _).1 hpx
  have hsum := hg.sum
  rw [cntI_append] at hsum
  simp only [cntI, Nat.add_zero] at hsum
  have ho := allOwn_own hgi.own
  have hs := ((finD_eq _).1 hgi.fin).1
  have hcx := cnt_eq it.x
  have hl1 := cntI_len its
  have hl2 := len_cntL it.x.f3
  have h1 := hg.modes
  have h2 := hg.pen
  have h3 := hg.out
  have h4 := hg.col0
  have h5 := hg.col1
  have n0 := hgi.n0
  have n1 := hgi.n1
  have hw := wdV_le _ hgi.fin
  have hbd : ∀ k ∈ its, 0 ≤ (ldV k.x).1 ∧ (ldV k.x).1 ≤ 100000000 := fun k hk => by
    have h6 := ldV_le _ (hg.it k (by simp [hk])).fin
    have h7 : cnt k.x ≤ cntI its := by
      obtain ⟨a, b, e⟩ := List.append_of_mem hk
      rw [e, cntI_append, cntI]
      omega
    omega
  have hfl : it.f = false ∨ it.f = true := by cases it.f <;> simp
  rcases own_kinds ho.1 with hk | hk | hk | hk | hk | hk | hk
  · cases he : it.x.f2.toList.isEmpty
    · exact take_text_some (gs := gs) h hb hgB hk he (by omega) (by omega) (by omega)
    · exact take_text_nil (gs := gs) h hb hgB hk (emp_of_isEmpty he) (by omega) (by omega) (by omega)
  · rcases hfl with hf | hf <;> rw [hf]
    · exact take_2_false (gs := gs) h hb hgB hk (by omega) (by omega) (by omega) n0
    · exact take_2_true (gs := gs) h hb hgB hk (by omega) (by omega) (by omega) n0
  · rcases hfl with hf | hf <;> rw [hf]
    · exact take_3_false (gs := gs) h hb hgB hk (by omega) (by omega) (by omega) n0
    · exact take_3_true (gs := gs) h hb hgB hk (by omega) (by omega) (by omega) n0
  · rcases hfl with hf | hf <;> rw [hf]
    · exact take_4_false (gs := gs) h hb hgB hk (by omega) (by omega) (by omega) n0
    · exact take_4_true (gs := gs) h hb hgB hk (by omega) (by omega) (by omega) n0
  · have hn := own_nest ho.1 (Or.inl hk)
    exact take_5 h hb hgB hgs hrow hps (by omega) hk (by omega)
  · have hn := own_nest ho.1 (Or.inr hk)
    exact take_6 h hb hgB hgs hrow hps (by omega) hk (by omega)
  · rcases hfl with hf | hf <;> rw [hf]
    · exact take_7_false h hb hgB hgs hrow hps (by omega) hk hpi hpx hbd hwd (by omega) (by omega)
    · exact take_7_true h hb hgB hgs hrow hps (by omega) hk hpi hpx hbd hwd (by omega) (by omega)
end
/-- A row of one, just made. -/
theorem R_one {w : World} {g B : Nat} {cs : List Value} (hb : w.heap[g]? = some (.cells cs.toArray 68 (0, 0))) (hl : cs.length = 3) (h1 : ∀ u ∈ cs, u.oneCell' = true) (hB : B ≤ g) : (Kd.raw 3).R 68 w B (fun k => B ≤ k) (.slice (some ⟨g, 0, none⟩) 1 1) [cs] := by
  refine ⟨fun k hk => by cases hk; exact hB, cs, ⟨by simp [hl, Kd.raw], Or.inr ⟨g, 1, cs.toArray, rfl, hB, hb, Nat.le_refl _, by decide, by simp [hl, Kd.raw], ?_⟩⟩, by simp [hl, Kd.raw], fun j p hj => ?_⟩
  · show cs.take (1 * 3) = cs
    rw [List.take_of_length_le (by omega)]
  · have hj0 : j = 0 := by have := (List.getElem?_eq_some_iff.1 hj).1; simp at this; exact this
    subst hj0
    obtain rfl : cs = p := by simpa using hj
    have e : (cs.drop (0 * 3)).take 3 = cs := by simp [hl, List.take_of_length_le]
    show (Kd.raw 3).M w B _ cs ((cs.drop (0 * 3)).take 3)
    rw [e]
    exact ⟨rfl, hl, h1⟩
end Go.Proofs.Ytigihiggpfjbjaa.PR

/- A document is written. -/
namespace Go.Proofs.Ytigihiggpfjbjaa.PR
open Go.RowKit Go.Proofs.YtigihiggpfjbjaaW.PrintWords Go.Proofs.YtigihiggpfjbjaaW.PrintLast Go.Proofs.YtigihiggpfjbjaaW.PrintMore
set_option linter.unusedVariables false
set_option linter.unusedSimpArgs false
theorem F23tab5 : rtab .any (opsOf Try.f23 5) = (true, [([], []), ([0], [0]), ([1], [1]), ([2], [2]), ([], []), ([4], [4]), ([5], [5]), ([6], [6]), ([7], [7]), ([8], [8]), ([3, 9], [3, 9]), ([10], [10]), ([], []), ([12, 11, 0, 1, 2, 3, 4, 5, 6, 7, 8, 9, 10, 11, 12], [11, 12])]) := by kernel_rfl
theorem F23tab6 : rtab .any (opsOf Try.f23 6) = (true, [([], []), ([], []), ([1], [1]), ([2], [2]), ([3], [3]), ([], []), ([5], [5]), ([6], [6]), ([7], [7]), ([8], [8]), ([9], [9]), ([4, 10], [4, 10]), ([0, 0, 1, 2, 3, 4, 5, 6, 7, 8, 9, 10, 11], [0]), ([12, 0, 1, 2, 3, 4, 5, 6, 7, 8, 9, 10, 11], [12]), ([13, 11, 0, 1, 2, 3, 4, 5, 6, 7, 8, 9, 10, 11], [11, 13])]) := by kernel_rfl
theorem lit_event {P : Program} {ops : Array Oper} {rest : List Oper} {o : Oper} {a : Act} {Q : Exit → Act → World → Prop} {W : World} (hgd : o.guard = none) {N : Tmp} (_hd : o.dst = some N) {m : Nat} {cs : Array Value} {t : TypeId}
    (hrun : (execOp a.eval o).run P W = .ok (.value (.slice (some ⟨W.heap.size, 0, none⟩) m m)) (W.alloc (.cells cs t (0, 0))))
    (h : ∀ g, g = W.heap.size → ∀ w1, w1.heap[g]? = some (.cells cs t (0, 0)) → Below W.heap.size W w1 → wpList P ops Q rest (a.put o.dst (.slice (some ⟨g, 0, none⟩) m m)) w1) : wpList P ops Q (o :: rest) a W :=
  Kd.event_run hgd hrun (h _ rfl _ (blk_new W _) (below_alloc (Below.refl _ _) _))
theorem take_cnt (wd : Int) (x : S24) (n : Int) (f : Bool) (fr : Int) (S : St) : cntL (takeP wd x n f fr S).2.1 < cnt x := by
  have h := cnt_eq x
  unfold takeP
  repeat' split
  all_goals simp only [cntL]
  all_goals omega
def S00 : St := ⟨[], 0, 0, []⟩
/-- What a call of write comes to. -/
def WriteAt (x : S24) (A3 : Option Addr) (c3 : Nat) (wd : Int) (w : World) : Prop :=
  Calls Try.prog 23 #[DA x A3 c3, .int .i64 wd] w fun e w' => ∃ gw B, e = .returned (.tuple #[.pointer (some ⟨gw, 0, none⟩), .int .i64 0]) ∧ WrS w' B gw wd (rend wd x 0 false 0 S00) [] ∧ w.heap.size ≤ B ∧ Below w.heap.size w w'
def WriteNo (x : S24) (A3 : Option Addr) (c3 : Nat) (wd : Int) (w : World) : Prop :=
  Calls Try.prog 23 #[DA x A3 c3, .int .i64 wd] w fun e w' => e = .returned (.tuple #[.pointer none, .int .i64 1]) ∧ Below w.heap.size w w'
def wS (gw g j len c : Nat) (it : It) (w' : World) : Prop := w'.cell? ⟨gw, 5, none⟩ = some (.slice (some ⟨g, 0, none⟩) len c) ∧ w'.cell? ⟨g, j * 3, none⟩ = some (.pointer (some ⟨it.g, 0, none⟩)) ∧ w'.cell? ⟨g, j * 3 + 1, none⟩ = some (.int .i64 it.n) ∧ w'.cell? ⟨g, j * 3 + 2, none⟩ = some (.bool it.f) ∧ True
def wS2 (gw g len c : Nat) (w' : World) : Prop := w'.cell? ⟨gw, 5, none⟩ = some (.slice (some ⟨g, 0, none⟩) len c) ∧ True
def set3at (w : World) (g : Nat) (v0 v1 v2 : Value) : World := ((w.setCell ⟨g, 0, none⟩ v0).setCell ⟨g, 1, none⟩ v1).setCell ⟨g, 2, none⟩ v2
theorem set3at_blk {w : World} {g : Nat} {a b c v0 v1 v2 : Value} {t : TypeId} (h : w.heap[g]? = some (.cells #[a, b, c] t (0, 0))) : (set3at w g v0 v1 v2).heap[g]? = some (.cells #[v0, v1, v2] t (0, 0)) :=
  blk_put (blk_put (blk_put h 0 v0 rfl) 1 v1 rfl) 2 v2 rfl
theorem set3at_below {w : World} {g B : Nat} (h : B ≤ g) (v0 v1 v2 : Value) : Below B w (set3at w g v0 v1 v2) := (((Below.refl B w).setCell h v0).setCell h v1).setCell h v2
section
variable {w w' : World} {B gw g gx : Nat} {wd col pen : Int} {out : List Int} {rows : List (List Value)} {modes : List Bool}
theorem Wr.lt (h : Wr w B gw wd col pen out rows modes) : gw < w.heap.size := by
  obtain ⟨a, vb, vr, vm, h0, ha⟩ := h
  exact blk_lt h0.wa
theorem Wr.cap {A : Option Addr} {n c : Nat} (h : Wr w B gw wd col pen out rows modes) (h5 : w.cell? ⟨gw, 5, none⟩ = some (.slice A n c)) : n ≤ c := by
  obtain ⟨a, vb, vr, vm, h0, ha⟩ := h
  have e5 : w.cell? ⟨gw, 5, none⟩ = some vr := (blk_cell h0.wa 5).trans rfl
  rw [e5] at h5
  obtain rfl := Option.some.inj h5
  obtain ⟨_, inner, hown, _⟩ := h0.hr
  exact own_le hown
theorem Wr0.move {cs : Array Value} {vb vr vm : Value} (h : Wr0 w B gw cs vb vr vm out rows modes) (hk : ∀ k, k = gw ∨ vb.ownBlock = some k ∨ vr.ownBlock = some k ∨ vm.ownBlock = some k → w'.heap[k]? = w.heap[k]?) : Wr0 w' B gw cs vb vr vm out rows modes :=
  ⟨(hk gw (Or.inl rfl)).trans h.wa, own_move h.hb (fun k e => hk k (Or.inr (Or.inl e))), raw_keep h.hr (fun k e => hk k (Or.inr (Or.inr (Or.inl e)))), own_move h.hm (fun k e => hk k (Or.inr (Or.inr (Or.inr e)))), h.bw⟩
/-- The top is taken off. -/
theorem Wr.pop {it : It} {its : List It} {n c : Nat} {g0 : Nat} (h : Wr w B gw wd col pen out ((its ++ [it]).map itc) modes) (h5 : w.cell? ⟨gw, 5, none⟩ = some (.slice (some ⟨g0, 0, none⟩) n c)) (hn : n = its.length + 1) : Wr (w.setCell ⟨gw, 5, none⟩ (.slice (some ⟨g0, 0, none⟩) its.length c)) B gw wd col pen out (its.map itc) modes := by
  obtain ⟨a, vb, vr, vm, h0, ha⟩ := h
  have e5 : w.cell? ⟨gw, 5, none⟩ = some vr := (blk_cell h0.wa 5).trans rfl
  rw [e5] at h5
  obtain rfl := Option.some.inj h5
  have hr := h0.hr
  rw [List.map_append] at hr
  have hp := R_pop hr
  subst hn
  refine ⟨a, vb, .slice (some ⟨g0, 0, none⟩) its.length c, vm, ?_, ha⟩
  have h1 : Wr0 w B gw (wcs a vb (.slice (some ⟨g0, 0, none⟩) (its.length + 1) c) vm wd col pen) vb (.slice (some ⟨g0, 0, none⟩) its.length c) vm out (its.map itc) modes := ⟨h0.wa, h0.hb, hp, h0.hm, h0.bw⟩
  exact h1.set 5 _ rfl
end
section
variable {w : World} {x : S24} {A3 : Option Addr} {c3 : Nat} {wd : Int}
set_option maxHeartbeats 4000000 in
set_option maxRecDepth 100000 in
theorem write_low (hx : Dc w x A3 c3) (h1 : wd < 1) : WriteNo x A3 c3 wd w := by
  have hu24 := Try.underlying24
  have hu57 := Try.underlying57
  have hu55 := Try.underlying55
  have hu68 := Try.underlying68
  have hu80 := Try.underlying80
  have HX := Aside0.mk hx
  clear hx
  have h1b : decide (wd < 1) = true := decide_eq_true h1
  clear h1
  unfold WriteNo DA
  go_enter Try.func23, Try.ntmps23
  go_wp2_with (first | ((with_reducible refine gate_dst (N := 2) rfl ?_); (try (refine gate_guard (by rfl) ?_; dsimp only)); refine box_event ?hg (N := 2) ?hd (cs := #[.int .i64 x.f0, .int .i64 x.f1, .string x.f2, .slice A3 x.f3.length c3]) (t := 24) ?hr ?_; (case hd => rfl); (case hg => rfl); (case hr => first | (go_simp; done) | (go_simp; rfl)); intro gb hg w1 hbox hb; have HB := Aside0.mk hb; have BX := Aside0.mk hbox; have HX1 := Aside0.mk (HX.out.below hb); have z0 : w1.cell? ⟨gb, 0, none⟩ = some (.int .i64 x.f0) := (blk_cell BX.out 0).trans rfl; have z1 : w1.cell? ⟨gb, 1, none⟩ = some (.int .i64 x.f1) := (blk_cell BX.out 1).trans rfl; have z2 : w1.cell? ⟨gb, 2, none⟩ = some (.string x.f2) := (blk_cell BX.out 2).trans rfl; have z3 : w1.cell? ⟨gb, 3, none⟩ = some (.slice A3 x.f3.length c3) := (blk_cell BX.out 3).trans rfl; clear hb hbox hg))
  go_ret2
  exact ⟨rfl, HB.out⟩
set_option maxHeartbeats 4000000 in
set_option maxRecDepth 100000 in
theorem write_high (hx : Dc w x A3 c3) (h1 : 10000 < wd) : WriteNo x A3 c3 wd w := by
  have hu24 := Try.underlying24
  have hu57 := Try.underlying57
  have hu55 := Try.underlying55
  have hu68 := Try.underlying68
  have hu80 := Try.underlying80
  have HX := Aside0.mk hx
  clear hx
  have h1b : decide (wd < 1) = false := decide_eq_false (by omega)
  have h2b : decide (10000 < wd) = true := decide_eq_true h1
  clear h1
  unfold WriteNo DA
  go_enter Try.func23, Try.ntmps23
  go_wp2_with (first | ((with_reducible refine gate_dst (N := 2) rfl ?_); (try (refine gate_guard (by rfl) ?_; dsimp only)); refine box_event ?hg (N := 2) ?hd (cs := #[.int .i64 x.f0, .int .i64 x.f1, .string x.f2, .slice A3 x.f3.length c3]) (t := 24) ?hr ?_; (case hd => rfl); (case hg => rfl); (case hr => first | (go_simp; done) | (go_simp; rfl)); intro gb hg w1 hbox hb; have HB := Aside0.mk hb; have BX := Aside0.mk hbox; have HX1 := Aside0.mk (HX.out.below hb); have z0 : w1.cell? ⟨gb, 0, none⟩ = some (.int .i64 x.f0) := (blk_cell BX.out 0).trans rfl; have z1 : w1.cell? ⟨gb, 1, none⟩ = some (.int .i64 x.f1) := (blk_cell BX.out 1).trans rfl; have z2 : w1.cell? ⟨gb, 2, none⟩ = some (.string x.f2) := (blk_cell BX.out 2).trans rfl; have z3 : w1.cell? ⟨gb, 3, none⟩ = some (.slice A3 x.f3.length c3) := (blk_cell BX.out 3).trans rfl; clear hb hbox hg))
  go_ret2
  exact ⟨rfl, HB.out⟩
set_option maxHeartbeats 4000000 in
set_option maxRecDepth 100000 in
theorem write_bad (hx : Dc w x A3 c3) (h1 : 1 ≤ wd ∧ wd ≤ 10000) (hm : mayB x = false) : WriteNo x A3 c3 wd w := by
  have hu24 := Try.underlying24
  have hu57 := Try.underlying57
  have hu55 := Try.underlying55
  have hu68 := Try.underlying68
  have hu80 := Try.underlying80
  have HX := Aside0.mk hx
  clear hx
  have h1b : decide (wd < 1) = false := decide_eq_false (by omega)
  have h2b : decide (10000 < wd) = false := decide_eq_false (by omega)
  have HM := Aside0.mk hm
  clear h1 hm
  unfold WriteNo DA
  go_enter Try.func23, Try.ntmps23
  go_wp2_with (first | ((with_reducible refine gate_dst (N := 2) rfl ?_); (try (refine gate_guard (by rfl) ?_; dsimp only)); refine box_event ?hg (N := 2) ?hd (cs := #[.int .i64 x.f0, .int .i64 x.f1, .string x.f2, .slice A3 x.f3.length c3]) (t := 24) ?hr ?_; (case hd => rfl); (case hg => rfl); (case hr => first | (go_simp; done) | (go_simp; rfl)); intro gb hg w1 hbox hb; have HB := Aside0.mk hb; have BX := Aside0.mk hbox; have HX1 := Aside0.mk (HX.out.below hb); have z0 : w1.cell? ⟨gb, 0, none⟩ = some (.int .i64 x.f0) := (blk_cell BX.out 0).trans rfl; have z1 : w1.cell? ⟨gb, 1, none⟩ = some (.int .i64 x.f1) := (blk_cell BX.out 1).trans rfl; have z2 : w1.cell? ⟨gb, 2, none⟩ = some (.string x.f2) := (blk_cell BX.out 2).trans rfl; have z3 : w1.cell? ⟨gb, 3, none⟩ = some (.slice A3 x.f3.length c3) := (blk_cell BX.out 3).trans rfl; clear hb hbox hg) | ((with_reducible refine gate_dst (N := 16) rfl ?_); (refine gate_guard (by rfl) ?_; dsimp only); refine goesL_ (some 16) rfl rfl Try.func32 (by kernel_rfl) rfl #[.agg #[.int .i64 x.f0, .int .i64 x.f1, .string x.f2, .slice A3 x.f3.length c3]] rfl (by (try simp only [List.map_toArray, List.map_cons, List.map_nil]); first | done | rfl) ?_; (refine (May_calls x A3 c3 _ HX1.out).mono ?_); (rintro e w116 ⟨rfl, hb⟩; refine ⟨_, rfl, ?_⟩; rw [HM.out]; have n0 := Aside0.mk (below_step HB.out hb); have n1 := Aside0.mk (blk_below BX.out hb); have n2 := Aside0.mk (HX1.out.below hb); clear HB BX HX1 z0 z1 z2 z3 hb; have HB := n0; have BX := n1; have HX1 := n2; clear n0 n1 n2; have z0 : w116.cell? ⟨gb, 0, none⟩ = some (.int .i64 x.f0) := (blk_cell BX.out 0).trans rfl; have z1 : w116.cell? ⟨gb, 1, none⟩ = some (.int .i64 x.f1) := (blk_cell BX.out 1).trans rfl; have z2 : w116.cell? ⟨gb, 2, none⟩ = some (.string x.f2) := (blk_cell BX.out 2).trans rfl; have z3 : w116.cell? ⟨gb, 3, none⟩ = some (.slice A3 x.f3.length c3) := (blk_cell BX.out 3).trans rfl)))
  go_ret2
  exact ⟨rfl, HB.out⟩
set_option maxHeartbeats 4000000 in
set_option maxRecDepth 100000 in
theorem write_good (hx : Dc w x A3 c3) (h1 : 1 ≤ wd ∧ wd ≤ 10000) (hf : finD x) (hc : cnt x ≤ 1100) (hm : mayB x = true) : WriteAt x A3 c3 wd w := by
  have hu24 := Try.underlying24
  have hu57 := Try.underlying57
  have hu55 := Try.underlying55
  have hu68 := Try.underlying68
  have hu80 := Try.underlying80
  have HX := Aside0.mk hx
  clear hx
  have h1b : decide (wd < 1) = false := decide_eq_false (by omega)
  have h2b : decide (10000 < wd) = false := decide_eq_false (by omega)
  have hwd : 0 ≤ wd := by omega
  have HO : Aside0 (allOwn x = true) := ⟨by unfold mayB at hm; rw [Bool.and_eq_true, Bool.and_eq_true] at hm; exact hm.1.1⟩
  have HM := Aside0.mk hm
  have HF := Aside0.mk hf
  have HC := Aside0.mk hc
  have HWD := Aside0.mk hwd
  clear h1 hm hf hc hwd
  unfold WriteAt DA
  go_enter Try.func23, Try.ntmps23
  go_wp2_with (first | ((with_reducible refine gate_dst (N := 2) rfl ?_); (try (refine gate_guard (by rfl) ?_; dsimp only)); refine box_event ?hg (N := 2) ?hd (cs := #[.int .i64 x.f0, .int .i64 x.f1, .string x.f2, .slice A3 x.f3.length c3]) (t := 24) ?hr ?_; (case hd => rfl); (case hg => rfl); (case hr => first | (go_simp; done) | (go_simp; rfl)); intro gb hg w1 hbox hb; have HB := Aside0.mk hb; have BX := Aside0.mk hbox; have HX1 := Aside0.mk (HX.out.below hb); have z0 : w1.cell? ⟨gb, 0, none⟩ = some (.int .i64 x.f0) := (blk_cell BX.out 0).trans rfl; have z1 : w1.cell? ⟨gb, 1, none⟩ = some (.int .i64 x.f1) := (blk_cell BX.out 1).trans rfl; have z2 : w1.cell? ⟨gb, 2, none⟩ = some (.string x.f2) := (blk_cell BX.out 2).trans rfl; have z3 : w1.cell? ⟨gb, 3, none⟩ = some (.slice A3 x.f3.length c3) := (blk_cell BX.out 3).trans rfl; clear hb hbox hg) | ((with_reducible refine gate_dst (N := 16) rfl ?_); (refine gate_guard (by rfl) ?_; dsimp only); refine goesL_ (some 16) rfl rfl Try.func32 (by kernel_rfl) rfl #[.agg #[.int .i64 x.f0, .int .i64 x.f1, .string x.f2, .slice A3 x.f3.length c3]] rfl (by (try simp only [List.map_toArray, List.map_cons, List.map_nil]); first | done | rfl) ?_; (refine (May_calls x A3 c3 _ HX1.out).mono ?_); (rintro e w116 ⟨rfl, hb⟩; refine ⟨_, rfl, ?_⟩; rw [HM.out]; have n0 := Aside0.mk (below_step HB.out hb); have n1 := Aside0.mk (blk_below BX.out hb); have n2 := Aside0.mk (HX1.out.below hb); clear HB BX HX1 z0 z1 z2 z3 hb; have HB := n0; have BX := n1; have HX1 := n2; clear n0 n1 n2; have z0 : w116.cell? ⟨gb, 0, none⟩ = some (.int .i64 x.f0) := (blk_cell BX.out 0).trans rfl; have z1 : w116.cell? ⟨gb, 1, none⟩ = some (.int .i64 x.f1) := (blk_cell BX.out 1).trans rfl; have z2 : w116.cell? ⟨gb, 2, none⟩ = some (.string x.f2) := (blk_cell BX.out 2).trans rfl; have z3 : w116.cell? ⟨gb, 3, none⟩ = some (.slice A3 x.f3.length c3) := (blk_cell BX.out 3).trans rfl)) | ((with_reducible refine gate_dst (N := 21) rfl ?_); refine goesL_ (some 21) rfl rfl Try.func33 (by kernel_rfl) rfl #[.agg #[.int .i64 x.f0, .int .i64 x.f1, .string x.f2, .slice A3 x.f3.length c3]] rfl (by (try simp only [List.map_toArray, List.map_cons, List.map_nil]); first | done | rfl) ?_; (refine (show Calls Try.prog 33 #[.agg #[.int .i64 x.f0, .int .i64 x.f1, .string x.f2, .slice A3 x.f3.length c3]] w116 _ from (meas_calls _ x (Nat.le_refl _) HC.out HF.out HO.out A3 c3 w116 HX1.out)).mono ?_); (rintro e w121 ⟨gp, rfl, hp, hb⟩; refine ⟨_, rfl, ?_⟩; have n0 := Aside0.mk (below_step HB.out hb); have BB := Aside0.mk (Nat.le_refl w121.heap.size); obtain ⟨B, hB⟩ : ∃ B, w121.heap.size = B := ⟨_, rfl⟩; have HP := Aside0.mk (PartAt.keep (w' := w121) (ok' := fun k => k < B) (fun k hk hl => ⟨rfl, hB ▸ hl, hl⟩) _ _ hp); have HBS := Aside0.mk (hB ▸ Nat.le_trans HB.out.size hb.size); have HEQ := Aside0.mk hB; clear HB BX HX1 z0 z1 z2 z3 hb hp hB BB; have HB := n0; clear n0)) | ((with_reducible refine gate_dst (N := 23) rfl ?_); refine lit_event ?hg (N := 23) ?hd (m := 1) (cs := #[.pointer (some ⟨gp, 0, none⟩), .int .i64 0, .bool false]) (t := 68) ?hr ?_; (case hd => rfl); (case hg => rfl); (case hr => first | (go_simp; done) | (go_simp; rfl)); intro gl hg w2 hbox hb; have HL := Aside0.mk (R_one (B := B) (cs := [.pointer (some ⟨gp, 0, none⟩), .int .i64 0, .bool false]) hbox rfl (by simp [Value.oneCell']) (by rw [hg]; exact Nat.le_of_eq HEQ.out.symm)); have n0 := Aside0.mk (below_step HB.out hb); have n1 := Aside0.mk (part_below HP.out (HEQ.out ▸ hb)); have HEQ2 := Aside0.mk (Nat.le_trans (Nat.le_of_eq HEQ.out.symm) hb.size); clear HB HP HEQ hbox hb hg; have HB := n0; have HP := n1; clear n0 n1) | ((with_reducible refine gate_dst (N := 25) rfl ?_); (try (refine gate_guard (by rfl) ?_; dsimp only)); refine box_event ?hg (N := 25) ?hd (cs := #[.pointer none, .slice none 0 0, .int .i64 wd, .int .i64 0, .int .i64 0, .slice (some ⟨gl, 0, none⟩) 1 1, .slice none 0 0]) (t := 57) ?hr ?_; (case hd => rfl); (case hg => rfl); (case hr => first | (go_simp; done) | (go_simp; rfl)); intro gw hg w3 hbox hb; have HW := Aside0.mk (show WrS w3 B gw wd S00 [⟨gp, x, 0, false⟩] from ⟨.pointer none, .slice none 0 0, .slice (some ⟨gl, 0, none⟩) 1 1, .slice none 0 0, ⟨⟨hbox, own_nil _ _ _ _, Kd.R_below HL.out hb, own_nil _ _ _ _, by rw [hg]; exact HEQ2.out⟩, Or.inl rfl⟩⟩); have n0 := Aside0.mk (below_step HB.out hb); have n1 := Aside0.mk (part_below HP.out (hb.mono HEQ2.out)); clear HB HP HL HEQ2 hbox hb hg; have HB := n0; have HP := n1; clear n0 n1))
  go_loopg [7] (cnt x) (fun k' v7 wr => ∃ (its : List It) (S : St) (d : Nat), Aside0 (k' = cntI its) ∧ Aside0 (WrS wr B gw wd S its) ∧ Aside0 (Good d its S) ∧ Aside0 (∀ it ∈ its, PartAt wr (fun k => k < B) it.x it.g) ∧ Aside0 (runIt wd its.reverse S = rend wd x 0 false 0 S00) ∧ Aside0 (Below w.heap.size w wr))
  case atStart => exact ⟨[⟨gp, x, 0, false⟩], S00, 0, ⟨by simp [cntI]⟩, HW, ⟨⟨fun it hi => by rw [List.mem_singleton.1 hi]; exact ⟨HF.out, HO.out, Int.le_refl _, by show (0 : Int) ≤ 1000 * ((0 : Nat) : Int); decide⟩, by simp only [cntI]; have := HC.out; omega, by decide, by decide, by decide, by decide, by decide⟩⟩, ⟨fun it hi => by rw [List.mem_singleton.1 hi]; exact HP.out⟩, ⟨rfl⟩, HB⟩
  case round =>
    clear HB HW HP
    obtain ⟨its, S, d, HKK, HW, HG, HP, HR, HB⟩ := hrel
    rcases List.eq_nil_or_concat its with rfl | ⟨its0, it, rfl⟩
    · obtain ⟨A5, k5, q5⟩ := (show Wr wr B gw wd S.col (S.pen : Int) S.out (([] : List It).map itc) S.modes from HW.out).len
      go_wp2_with fail
      go_ret2
      exact ⟨gw, B, rfl, (show rend wd x 0 false 0 S00 = S from HR.out.symm) ▸ HW.out, HBS.out, HB.out⟩
    · rw [List.concat_eq_append] at HKK HW HG HP HR
      have HL := Aside0.mk (show (its0 ++ [it]).length = its0.length + 1 by simp)
      have hlen : its0.length < 1100 := by have h1 := HG.out.sum; have h2 := cntI_len (its0 ++ [it]); have := HL.out; omega
      obtain ⟨g, cap, q5, r0, r1, r2⟩ := (show Wr wr B gw wd S.col (S.pen : Int) S.out ((its0 ++ [it]).map itc) S.modes from HW.out).item its0.length it (by simp)
      rw [HL.out] at q5
      have HCAP : Aside0 (its0.length + 1 ≤ cap) := ⟨Wr.cap HW.out q5⟩
      obtain ⟨n0, hn0⟩ : ∃ n, its0.length = n := ⟨_, rfl⟩
      rw [hn0] at q5 r0 r1 r2 HCAP hlen
      have HN := Aside0.mk hn0
      have hw0 : IntKind.i64.wrap (n0 : Int) = (n0 : Int) := by clear hn0; rw [i64_w]; unfold wrap64; omega
      clear hn0
      go_upto_region 5 with (fail)
      have hs_ : wS gw g n0 (n0 + 1) cap it wr.drew := ⟨bc (below_drew1 (Below.refl _ _)) q5, bc (below_drew1 (Below.refl _ _)) r0, bc (below_drew1 (Below.refl _ _)) r1, bc (below_drew1 (Below.refl _ _)) r2, trivial⟩
      have m0 := Aside0.mk (show WrS wr.drew B gw wd S (its0 ++ [it]) from Wr.below HW.out (below_drew1 (Below.refl _ _)))
      have m1 := Aside0.mk (HB.out.trans ((below_drew1 (Below.refl _ _)).mono HB.out.size))
      have m2 := Aside0.mk (fun k hk => part_below (HP.out k hk) ((below_drew1 (Below.refl _ _)).mono (Wr.base_le HW.out)))
      clear HW HB HP
      have HW := m0
      have HB := m1
      have HP := m2
      clear m0 m1 m2
      clear q5 r0 r1 r2
      refine start_ (n := 14) (S := wS gw g n0 (n0 + 1) cap it) (ds := [13]) #[false, false, false, false, false, false, false, false, false, false, false, false, false, false] (by kernel_rfl) rfl rfl (hs_) (fun hHeld => ?_)
      clear hs_
      generalize World.drew _ = w5 at HW HB HP hHeld ⊢
      refine pure_ (i := 0) (N := some 32) (bt 14 1) rfl rfl (any_of F23tab5 (by kernel_rfl)) (fun _ _ _ h => h) (Or.inl ⟨by rfl, by intro w'; go_simp; with_reducible rfl⟩) (by simp only [Act.put, pset]; rfl) ?_
      refine pure_ (i := 1) (N := some 33) (bt 14 3) rfl rfl (any_of F23tab5 (by kernel_rfl)) (fun _ _ _ h => h) (Or.inl ⟨by rfl, by intro w'; go_simp; with_reducible rfl⟩) (by simp only [Act.put, pset]; rfl) ?_
      refine pure_ (i := 2) (N := some 34) (bt 14 7) rfl rfl (any_of F23tab5 (by kernel_rfl)) (fun _ _ _ h => h) (Or.inl ⟨by rfl, by intro w'; go_simp; with_reducible rfl⟩) (by simp only [Act.put, pset]; rfl) ?_
      refine take_ (i := 3) (N := some 35) (bt 14 15) rfl rfl (take_of F23tab5 (by kernel_rfl)) (fun _ _ _ h => h) (Or.inl ⟨by rfl, by rintro w' ⟨s0, s1, s2, s3, s4⟩; go_simp; with_reducible rfl⟩) hHeld (by simp only [Act.put, pset]; rfl) ?_
      refine pure_ (i := 4) (N := some 36) (bt 14 31) rfl rfl (any_of F23tab5 (by kernel_rfl)) (fun _ _ _ h => h) (Or.inl ⟨by rfl, by intro w'; go_simp; with_reducible rfl⟩) (by simp only [Act.put, pset]; rfl) ?_
      refine pure_ (i := 5) (N := some 37) (bt 14 63) rfl rfl (any_of F23tab5 (by kernel_rfl)) (fun _ _ _ h => h) (Or.inl ⟨by rfl, by intro w'; go_simp; with_reducible rfl⟩) (by simp only [Act.put, pset]; rfl) ?_
      refine pure_ (i := 6) (N := some 38) (bt 14 127) rfl rfl (any_of F23tab5 (by kernel_rfl)) (fun _ _ _ h => h) (Or.inl ⟨by rfl, by intro w'; go_simp; with_reducible rfl⟩) (by simp only [Act.put, pset]; rfl) ?_
      refine take_ (i := 7) (N := some 39) (bt 14 255) rfl rfl (take_of F23tab5 (by kernel_rfl)) (fun _ _ _ h => h) (Or.inl ⟨by rfl, by rintro w' ⟨s0, s1, s2, s3, s4⟩; go_simp; with_reducible rfl⟩) hHeld (by simp only [Act.put, pset]; rfl) ?_
      refine pure_ (i := 8) (N := some 40) (bt 14 511) rfl rfl (any_of F23tab5 (by kernel_rfl)) (fun _ _ _ h => h) (Or.inl ⟨by rfl, by intro w'; go_simp; with_reducible rfl⟩) (by simp only [Act.put, pset]; rfl) ?_
      refine pure_ (i := 9) (N := some 41) (bt 14 1023) rfl rfl (any_of F23tab5 (by kernel_rfl)) (fun _ _ _ h => h) (Or.inl ⟨by rfl, by intro w'; go_simp; with_reducible rfl⟩) (by simp only [Act.put, pset]; rfl) ?_
      refine pure_ (i := 10) (N := some 42) (bt 14 2047) rfl rfl (any_of F23tab5 (by kernel_rfl)) (fun _ _ _ h => h) (Or.inl ⟨by rfl, by intro w'; go_simp; rw [if_pos (by omega)]⟩) (by simp only [Act.put, pset]; rfl) ?_
      refine take_ (i := 11) (N := some 43) (bt 14 4095) rfl rfl (take_of F23tab5 (by kernel_rfl)) (fun _ _ _ h => h) (Or.inl ⟨by rfl, by rintro w' ⟨s0, s1, s2, s3, s4⟩; go_simp; with_reducible rfl⟩) hHeld (by simp only [Act.put, pset]; rfl) ?_
      refine one_ (i := 12) (N := some 7) (bt 14 8191) rfl rfl (one_of F23tab5 (by kernel_rfl)) (by decide) (fun K hK => ?_)
      refine box_step (by rfl) (N := 7) rfl (cs := #[.pointer none, .int .i64 0, .bool false]) (t := 68) ?hrun ?_
      case hrun => first | (go_simp; done) | (go_simp; rfl)
      intro gx hg w501 hbox hb
      have BX := Aside0.mk hbox; have HGX := Aside0.mk (show w5.heap.size ≤ gx from hg ▸ Nat.le_refl _); have HBX := Aside0.mk hb
      clear hbox hg
      refine hK.out _ _ (⟨bc hb hHeld.1, bc hb hHeld.2.1, bc hb hHeld.2.2.1, bc hb hHeld.2.2.2.1, trivial⟩) (fun hHeld => ?_)
      clear hK K
      refine norm_ (show Act.put _ (some 7) _ = _ from (by simp only [Act.put, pset]; rfl)) ?_
      clear hb
      have z0 : w501.cell? ⟨gx, 0, none⟩ = some (.pointer none) := (blk_cell BX.out 0).trans rfl
      have z1 : w501.cell? ⟨gx, 1, none⟩ = some (.int .i64 0) := (blk_cell BX.out 1).trans rfl
      have z2 : w501.cell? ⟨gx, 2, none⟩ = some (.bool false) := (blk_cell BX.out 2).trans rfl
      have y0 := blk_frozen BX.out 0
      have y1 := blk_frozen BX.out 1
      have y2 := blk_frozen BX.out 2
      refine last_ (i := 13) (N := none) (bt 14 16383) rfl rfl (one_of F23tab5 (by kernel_rfl)) (by decide) (fun K hK => ?_)
      refine skip_ (w1 := set3at w501 gx (.pointer (some ⟨it.g, 0, none⟩)) (.int .i64 it.n) (.bool it.f)) rfl rfl ?hrun ?_
      case hrun => first | (go_simp; done) | (go_simp; rfl)
      refine hK.out _ _ (done_ (done_of F23tab5 (by kernel_rfl)) ?_)
      clear hHeld hK K z0 z1 z2 y0 y1 y2
      have hb6 := HBX.out.trans (set3at_below HGX.out (.pointer (some ⟨it.g, 0, none⟩)) (.int .i64 it.n) (.bool it.f))
      have BX6 := Aside0.mk (set3at_blk (v0 := .pointer (some ⟨it.g, 0, none⟩)) (v1 := .int .i64 it.n) (v2 := .bool it.f) BX.out)
      have NE := Aside0.mk (show gx ≠ gw from by have h1 := Wr.lt HW.out; have h2 := HGX.out; omega)
      have m0 := Aside0.mk (show WrS (set3at w501 gx (.pointer (some ⟨it.g, 0, none⟩)) (.int .i64 it.n) (.bool it.f)) B gw wd S (its0 ++ [it]) from Wr.below HW.out hb6)
      have m1 := Aside0.mk (HB.out.trans (hb6.mono HB.out.size))
      have m2 := Aside0.mk (fun k hk => part_below (HP.out k hk) (hb6.mono (Wr.base_le HW.out)))
      clear HW HB HP
      have HW := m0
      have HB := m1
      have HP := m2
      clear m0 m1 m2
      clear BX HGX HBX hb6
      generalize set3at w501 gx _ _ _ = w6 at HW HB HP BX6 ⊢
      obtain ⟨g6, cap6, q6, _, _, _⟩ := (show Wr w6 B gw wd S.col (S.pen : Int) S.out ((its0 ++ [it]).map itc) S.modes from HW.out).item its0.length it (by simp)
      rw [HL.out, HN.out] at q6
      have HC6 : Aside0 (n0 + 1 ≤ cap6) := ⟨Wr.cap HW.out q6⟩
      go_upto_region 6 with (fail)
      have hs_ : wS2 gw g6 (n0 + 1) cap6 w6.drew := ⟨bc (below_drew1 (Below.refl _ _)) q6, trivial⟩
      have m3 := Aside0.mk (blk_below BX6.out (below_drew1 (Below.refl _ _)))
      clear BX6
      have BX6 := m3
      clear m3
      have m0 := Aside0.mk (show WrS w6.drew B gw wd S (its0 ++ [it]) from Wr.below HW.out (below_drew1 (Below.refl _ _)))
      have m1 := Aside0.mk (HB.out.trans ((below_drew1 (Below.refl _ _)).mono HB.out.size))
      have m2 := Aside0.mk (fun k hk => part_below (HP.out k hk) ((below_drew1 (Below.refl _ _)).mono (Wr.base_le HW.out)))
      clear HW HB HP
      have HW := m0
      have HB := m1
      have HP := m2
      clear m0 m1 m2
      clear q6
      refine start_ (n := 15) (S := wS2 gw g6 (n0 + 1) cap6) (ds := [14]) #[false, false, false, false, false, false, false, false, false, false, false, false, false, false, false] (by kernel_rfl) rfl rfl (hs_) (fun hHeld => ?_)
      generalize World.drew _ = w7 at HW HB HP BX6 hHeld hs_ ⊢
      have q6 := hs_.1
      clear hs_
      have f6 := Wr.frozen HW.out 5
      have hcap : n0 ≤ cap6 := by have := HC6.out; omega
      refine pure_ (i := 0) (N := some 44) (bt 15 1) rfl rfl (any_of F23tab6 (by kernel_rfl)) (fun _ _ _ h => h) (Or.inl ⟨by rfl, by intro w'; go_simp; with_reducible rfl⟩) (by simp only [Act.put, pset]; rfl) ?_
      refine pure_ (i := 1) (N := some 45) (bt 15 3) rfl rfl (any_of F23tab6 (by kernel_rfl)) (fun _ _ _ h => h) (Or.inl ⟨by rfl, by intro w'; go_simp; with_reducible rfl⟩) (by simp only [Act.put, pset]; rfl) ?_
      refine pure_ (i := 2) (N := some 46) (bt 15 7) rfl rfl (any_of F23tab6 (by kernel_rfl)) (fun _ _ _ h => h) (Or.inl ⟨by rfl, by intro w'; go_simp; with_reducible rfl⟩) (by simp only [Act.put, pset]; rfl) ?_
      refine pure_ (i := 3) (N := some 47) (bt 15 15) rfl rfl (any_of F23tab6 (by kernel_rfl)) (fun _ _ _ h => h) (Or.inl ⟨by rfl, by intro w'; go_simp; with_reducible rfl⟩) (by simp only [Act.put, pset]; rfl) ?_
      refine take_ (i := 4) (N := some 48) (bt 15 31) rfl rfl (take_of F23tab6 (by kernel_rfl)) (fun _ _ _ h => h) (Or.inl ⟨by rfl, by rintro w' ⟨s0, s1⟩; go_simp; with_reducible rfl⟩) hHeld (by simp only [Act.put, pset]; rfl) ?_
      refine pure_ (i := 5) (N := some 49) (bt 15 63) rfl rfl (any_of F23tab6 (by kernel_rfl)) (fun _ _ _ h => h) (Or.inl ⟨by rfl, by intro w'; go_simp; with_reducible rfl⟩) (by simp only [Act.put, pset]; rfl) ?_
      refine pure_ (i := 6) (N := some 50) (bt 15 127) rfl rfl (any_of F23tab6 (by kernel_rfl)) (fun _ _ _ h => h) (Or.inl ⟨by rfl, by intro w'; go_simp; with_reducible rfl⟩) (by simp only [Act.put, pset]; rfl) ?_
      refine pure_ (i := 7) (N := some 51) (bt 15 255) rfl rfl (any_of F23tab6 (by kernel_rfl)) (fun _ _ _ h => h) (Or.inl ⟨by rfl, by intro w'; go_simp; with_reducible rfl⟩) (by simp only [Act.put, pset]; rfl) ?_
      refine take_ (i := 8) (N := some 52) (bt 15 511) rfl rfl (take_of F23tab6 (by kernel_rfl)) (fun _ _ _ h => h) (Or.inl ⟨by rfl, by rintro w' ⟨s0, s1⟩; go_simp; with_reducible rfl⟩) hHeld (by simp only [Act.put, pset]; rfl) ?_
      refine pure_ (i := 9) (N := some 53) (bt 15 1023) rfl rfl (any_of F23tab6 (by kernel_rfl)) (fun _ _ _ h => h) (Or.inl ⟨by rfl, by intro w'; go_simp; with_reducible rfl⟩) (by simp only [Act.put, pset]; rfl) ?_
      refine pure_ (i := 10) (N := some 54) (bt 15 2047) rfl rfl (any_of F23tab6 (by kernel_rfl)) (fun _ _ _ h => h) (Or.inl ⟨by rfl, by intro w'; go_simp; with_reducible rfl⟩) (by simp only [Act.put, pset]; rfl) ?_
      refine pure_ (i := 11) (N := some 55) (bt 15 4095) rfl rfl (any_of F23tab6 (by kernel_rfl)) (fun _ _ _ h => h) (Or.inl ⟨by rfl, by intro w'; go_simp; with_reducible rfl⟩) (by simp only [Act.put, pset]; rfl) ?_
      refine pure_ (i := 12) (N := some 56) (bt 15 8191) rfl rfl (any_of F23tab6 (by kernel_rfl)) (fun _ _ _ h => h) (Or.inl ⟨by rfl, by intro w'; go_simp; with_reducible rfl⟩) (by simp only [Act.put, pset]; rfl) ?_
      refine pure_ (i := 13) (N := some 57) (bt 15 16383) rfl rfl (any_of F23tab6 (by kernel_rfl)) (fun _ _ _ h => h) (Or.inl ⟨by rfl, by intro w'; go_simp; with_reducible rfl⟩) (by simp only [Act.put, pset]; rfl) ?_
      refine last_ (i := 14) (N := none) (bt 15 32767) rfl rfl (one_of F23tab6 (by kernel_rfl)) (by decide) (fun K hK => ?_)
      refine skip_ (w1 := w7.setCell ⟨gw, 5, none⟩ (.slice (some ⟨g6, 0, none⟩) n0 cap6)) rfl rfl ?hrun ?_
      case hrun => first | (go_simp; done) | (go_simp; rfl)
      refine hK.out _ _ (done_ (done_of F23tab6 (by kernel_rfl)) ?_)
      clear hHeld hK K f6
      have m0 := Aside0.mk (show WrS (w7.setCell ⟨gw, 5, none⟩ (.slice (some ⟨g6, 0, none⟩) n0 cap6)) B gw wd S its0 from HN.out ▸ Wr.pop HW.out q6 (by rw [HN.out]))
      have m1 := Aside0.mk (HB.out.trans ((Wr.set_below HW.out 5 (.slice (some ⟨g6, 0, none⟩) n0 cap6)).mono HBS.out))
      have m2 := Aside0.mk (fun k hk => part_below (HP.out k hk) (Wr.set_below HW.out 5 (.slice (some ⟨g6, 0, none⟩) n0 cap6)))
      have m3 := Aside0.mk (blk_far BX6.out (p := ⟨gw, 5, none⟩) NE.out (.slice (some ⟨g6, 0, none⟩) n0 cap6))
      clear HW HB HP BX6 q6
      have HW := m0
      have HB := m1
      have HP := m2
      have BX6 := m3
      clear m0 m1 m2 m3
      generalize World.setCell _ _ _ = w8 at HW HB HP BX6 ⊢
      have z0 : w8.cell? ⟨gx, 0, none⟩ = some (.pointer (some ⟨it.g, 0, none⟩)) := (blk_cell BX6.out 0).trans rfl
      have z1 : w8.cell? ⟨gx, 1, none⟩ = some (.int .i64 it.n) := (blk_cell BX6.out 1).trans rfl
      have z2 : w8.cell? ⟨gx, 2, none⟩ = some (.bool it.f) := (blk_cell BX6.out 2).trans rfl
      go_wp2_with (first | ((with_reducible refine gate_dst (N := 60) rfl ?_); refine goesL_ (some 60) rfl rfl Try.func34 (by kernel_rfl) rfl #[.pointer (some ⟨gw, 0, none⟩), .agg #[.pointer (some ⟨it.g, 0, none⟩), .int .i64 it.n, .bool it.f]] rfl (by (try simp only [List.map_toArray, List.map_cons, List.map_nil]); first | done | rfl) ?_; (refine (show Calls Try.prog 34 #[.pointer (some ⟨gw, 0, none⟩), .agg #[.pointer (some ⟨it.g, 0, none⟩), .int .i64 it.n, .bool it.f]] w8 _ from (take_calls HW.out HG.out HP.out HWD.out)).mono ?_); (rintro e w160 ⟨rfl, ⟨Kd_, hcome, hw⟩, hb⟩; refine ⟨_, rfl, ?_⟩; have HCM := Aside0.mk hcome; have HW9 := Aside0.mk hw; have m1 := Aside0.mk (HB.out.trans (hb.mono HBS.out)); have m2 := Aside0.mk (fun k hk => part_below (HP.out k hk) hb); clear HW HB HP BX6 z0 z1 z2 hb hw hcome; have HB := m1; have HP := m2; clear m1 m2)))
      have HMC := Aside0.mk (cntI_map Kd_)
      go_roundg (cntI (its0 ++ Kd_.reverse))
      case measure => have h1 := HKK.out; have h2 := take_cnt wd it.x it.n it.f (frV its0.reverse) S; have h3 := HCM.out.1; rw [h1, cntI_append, cntI_append, cntI_reverse, HMC.out, h3]; simp only [cntI]; omega
      case rel => exact ⟨its0 ++ Kd_.reverse, _, d + 1, ⟨rfl⟩, HW9, ⟨good_take HG.out HCM.out.1 (fun k hk => ⟨(HCM.out.2 k hk).1, (HCM.out.2 k hk).2.1⟩)⟩, ⟨fun k hk => (List.mem_append.1 hk).elim (fun h => HP.out k (List.mem_append.2 (Or.inl h))) (fun h => (HCM.out.2 k (List.mem_reverse.1 h)).2.2)⟩, ⟨by rw [List.reverse_append, List.reverse_reverse, runIt_take wd it its0.reverse Kd_ S HCM.out.1 (fun k hk => ⟨(HCM.out.2 k hk).1, (HCM.out.2 k hk).2.1⟩), ← HR.out]; simp⟩, HB⟩
theorem write_calls (hx : Dc w x A3 c3) (hf : finD x) (hc : cnt x ≤ 1100) : (1 ≤ wd ∧ wd ≤ 10000 ∧ mayB x = true → WriteAt x A3 c3 wd w) ∧ (¬ (1 ≤ wd ∧ wd ≤ 10000 ∧ mayB x = true) → WriteNo x A3 c3 wd w) := by
  refine ⟨fun h => write_good hx ⟨h.1, h.2.1⟩ hf hc h.2.2, fun h => ?_⟩
  by_cases h1 : wd < 1
  · exact write_low hx h1
  by_cases h2 : 10000 < wd
  · exact write_high hx h2
  cases hm : mayB x
  · exact write_bad hx (by omega) hm
  · exact absurd ⟨by omega, by omega, hm⟩ h
end
end Go.Proofs.Ytigihiggpfjbjaa.PR
