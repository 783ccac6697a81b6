/- Words and walks that the law leans on: HS11, HS12. Conditions: none. -/
import Derived.Test.YthipodffpkglfaaGreatDoorJ6
import Derived.ScopeJumps
namespace Go.Proofs.YthipodffpkglfaaGreatDoor.PS
open Go.RowKit Go.Proofs.YthipodffpkglfaaGreatDoorW.PrintWords Go.Proofs.YthipodffpkglfaaGreatDoorW.PrintLast Go.Proofs.YthipodffpkglfaaGreatDoorW.PrintMore
set_option linter.unusedVariables false
set_option linter.unusedSimpArgs false
def nd (k : Int) (t : ByteArray) (l : List S45) : S45 := ⟨k, t, l, false, false, [], []⟩
def ndc (k : Int) (t : ByteArray) (A : Option Addr) (n c : Nat) : Array Value := #[.int .i64 k, .string t, .slice A n c, .bool false, .bool false, .slice none 0 0, .slice none 0 0]
theorem FK_nd {w : World} {ok : Nat → Prop} {k : Int} {t : ByteArray} {l : List S45} {A : Option Addr} {c : Nat} (h : Kd.F k45 w ok A l.length l) (hc : l.length ≤ c) : Kd.FK k45 w ok (nd k t l) (ndc k t A l.length c).toList :=
  fun w2 hw => k45_mk w2 (nd k t l) hc (h w2 hw) (Nat.le_refl _) (Kd.C_nil Kd.string w2) (Nat.le_refl _) (Kd.C_nil Kd.string w2)
theorem reps1 {ok : Nat → Prop} {w : World} {x : S45} {cs : List Value} (h : Kd.FK k45 w ok x cs) : Reps (Kd.FK k45 w ok) k45.sz [x] cs := by
  refine ⟨by rw [k45.K_len (Kd.FK_now h)]; rfl, fun j p hj => ?_⟩
  rcases j with _ | j
  · simp only [List.getElem?_cons_zero, Option.some.injEq] at hj
    subst hj
    rw [Nat.zero_mul, List.drop_zero, List.take_of_length_le (Nat.le_of_eq (k45.K_len (Kd.FK_now h)))]
    exact h
  · simp at hj
/-- What a function's frame holds: the parser at a place; nothing below lo is turned but the parser's block; boxes; rows of nodes; a row of its own. -/
structure Fr (E : Env) (lo : Nat) (w0 : World) (bs : List (Nat × Nat × Array Value)) (ns : List (Option Addr × List S45)) (os : List (Value × List S45)) (w : World) (i : Nat) : Prop where
  p : PSt E w i
  gl : E.gp < lo
  ll : lo ≤ w0.heap.size
  sz : w0.heap.size ≤ w.heap.size
  kb : ∀ k, k < lo → k ≠ E.gp → w.heap[k]? = w0.heap[k]?
  bx : ∀ b ∈ bs, w.heap[b.1]? = some (.cells b.2.2 b.2.1 (0, 0)) ∧ w0.heap.size ≤ b.1
  ne : bs.Pairwise (fun a b => a.1 ≠ b.1)
  nf : ∀ r ∈ ns, Kd.F k45 w (fun k => lo ≤ k ∧ (∀ b ∈ bs, k ≠ b.1) ∧ ∀ o ∈ os, some k ≠ o.1.ownBlock) r.1 r.2.length r.2
  own : ∀ o ∈ os, Kd.N k45 45 w lo (fun k => lo ≤ k ∧ ∀ b ∈ bs, k ≠ b.1) o.1 o.2
section
variable {E : Env} {lo : Nat} {w0 w w' : World} {bs : List (Nat × Nat × Array Value)} {ns : List (Option Addr × List S45)} {os : List (Value × List S45)} {i j : Nat}
theorem Fr.init (h : PSt E w i) : Fr E w.heap.size w [] [] [] w i :=
  ⟨h, h.lt, Nat.le_refl _, Nat.le_refl _, fun _ _ _ => rfl, fun _ h => (by cases h), .nil, fun _ h => (by cases h), fun _ h => (by cases h)⟩
theorem Fr.lt (F : Fr E lo w0 bs ns os w i) : ∀ b ∈ bs, b.1 < w.heap.size := fun b hb => blk_lt (F.bx b hb).1
theorem Fr.below (F : Fr E lo w0 bs ns os w i) (hb : Below w.heap.size w w') : Fr E lo w0 bs ns os w' i :=
  ⟨F.p.below hb, F.gl, F.ll, Nat.le_trans F.sz hb.size, fun k hk hn => (hb.block k (Nat.lt_of_lt_of_le hk (Nat.le_trans F.ll F.sz))).trans (F.kb k hk hn), fun b h => ⟨blk_below (F.bx b h).1 hb, (F.bx b h).2⟩, F.ne, fun r hr => Kd.F_below (F.nf r hr) hb, fun o ho => Kd.N_below (F.own o ho) hb⟩
theorem Fr.drew (F : Fr E lo w0 bs ns os w i) : Fr E lo w0 bs ns os w.drew i := F.below (below_drew1 (Below.refl _ _))
/-- A call that moves the parser. -/
theorem Fr.move (F : Fr E lo w0 bs ns os w i) (hp : PSt E w' j) (hk : KeepBut w w' E.gp none) : Fr E lo w0 bs ns os w' j :=
  have hw : ∀ k, lo ≤ k → k < w.heap.size → w'.heap[k]? = w.heap[k]? := fun k h1 h2 => hk.2 k h2 (by have := F.gl; omega) (by simp)
  ⟨hp, F.gl, F.ll, Nat.le_trans F.sz hk.1, fun k h1 h2 => (hk.2 k (Nat.lt_of_lt_of_le h1 (Nat.le_trans F.ll F.sz)) h2 (by simp)).trans (F.kb k h1 h2),
   fun b h => ⟨(hw b.1 (Nat.le_trans F.ll (F.bx b h).2) (F.lt b h)).trans (F.bx b h).1, (F.bx b h).2⟩, F.ne, fun r hr => Kd.F_step (F.nf r hr) (fun k ho hl => hw k ho.1 hl), fun o ho => Kd.N_step (F.own o ho) (fun k h hl => hw k h.1 hl)⟩
theorem own_lt' (F : Fr E lo w0 bs ns os w i) : ∀ o ∈ os, ∀ k, o.1.ownBlock = some k → k < w.heap.size := fun o ho => Kd.N_lt (F.own o ho)
/-- What a call made and hands back. -/
theorem Fr.node (F : Fr E lo w0 bs ns os w i) (hp : PSt E w' j) (hk : KeepBut w w' E.gp none) {A : Option Addr} {l : List S45} (hf : Kd.F k45 w' (fun k => w.heap.size ≤ k) A l.length l) : Fr E lo w0 bs ((A, l) :: ns) os w' j :=
  have G := F.move hp hk
  ⟨G.p, G.gl, G.ll, G.sz, G.kb, G.bx, G.ne, fun r hr => by
    rcases List.mem_cons.1 hr with rfl | hr
    · exact Kd.F_mono hf (fun k hk => ⟨Nat.le_trans F.ll (Nat.le_trans F.sz hk), fun b hb => by have := F.lt b hb; omega, fun o ho he => by have := own_lt' F o ho k he.symm; omega⟩)
    · exact G.nf r hr, G.own⟩
theorem Fr.box (F : Fr E lo w0 bs ns os w i) {g t : Nat} {cs : Array Value} (hg : g = w.heap.size) (hb : w'.heap[g]? = some (.cells cs t (0, 0))) (h : Below w.heap.size w w') : Fr E lo w0 ((g, t, cs) :: bs) ns os w' i :=
  have G := F.below h
  ⟨G.p, G.gl, G.ll, G.sz, G.kb, fun b m => by
    rcases List.mem_cons.1 m with rfl | m
    · exact ⟨hb, by rw [hg]; exact F.sz⟩
    · exact G.bx b m, .cons (fun b m => by have := F.lt b m; rw [hg]; omega) G.ne,
   fun r hr => Kd.F_mono (Kd.F_below (Kd.F_bound (F.nf r hr)) h) (fun k hk => ⟨hk.1.1, fun b m => by
    rcases List.mem_cons.1 m with rfl | m
    · have := hk.2; rw [hg]; omega
    · exact hk.1.2.1 b m, hk.1.2.2⟩),
   fun o ho => Kd.N_mono (Kd.N_below (Kd.N_bound (F.own o ho)) h) (fun k hk => ⟨hk.1.1, fun b m => by
    rcases List.mem_cons.1 m with rfl | m
    · have := hk.2; rw [hg]; omega
    · exact hk.1.2 b m⟩)⟩
/-- A box is written. -/
theorem Fr.put (F : Fr E lo w0 bs ns os w i) {n g t : Nat} {cs cs' : Array Value} (hn : bs[n]? = some (g, t, cs)) (hb : w'.heap[g]? = some (.cells cs' t (0, 0))) (h : Below g w w') (ho : ∀ k, k ≠ g → w'.heap[k]? = w.heap[k]?) : Fr E lo w0 (bs.set n (g, t, cs')) ns os w' i := by
  have hm : (g, t, cs) ∈ bs := List.mem_of_getElem? hn
  have hgb := (F.bx _ hm).2
  have hlg : lo ≤ g := Nat.le_trans F.ll hgb
  have hfst : ∀ b ∈ bs.set n (g, t, cs'), ∃ b' ∈ bs, b'.1 = b.1 := fun b hb => by
    rcases List.mem_or_eq_of_mem_set hb with m | rfl
    · exact ⟨b, m, rfl⟩
    · exact ⟨_, hm, rfl⟩
  have hfst' : ∀ b ∈ bs, ∃ b' ∈ bs.set n (g, t, cs'), b'.1 = b.1 := fun b hb => by
    obtain ⟨k, hk⟩ := List.mem_iff_getElem?.1 hb
    by_cases e : k = n
    · subst e
      rw [hk] at hn
      injection hn with hn
      exact ⟨(g, t, cs'), List.mem_iff_getElem?.2 ⟨k, by rw [List.getElem?_set_self (List.getElem?_eq_some_iff.1 hk).1]⟩, by rw [hn]⟩
    · exact ⟨b, List.mem_iff_getElem?.2 ⟨k, by rw [List.getElem?_set_ne (Ne.symm e)]; exact hk⟩, rfl⟩
  have hmono : ∀ k, (∀ b ∈ bs, k ≠ b.1) → ∀ b ∈ bs.set n (g, t, cs'), k ≠ b.1 := fun k hk b hb => by
    obtain ⟨b', m, e⟩ := hfst b hb
    rw [← e]; exact hk b' m
  refine ⟨⟨F.p.hb.trans (h.mono (Nat.le_trans (Nat.le_of_lt (Nat.lt_of_le_of_lt F.p.gB F.gl)) hlg)), F.p.gB, (ho _ (by have := F.gl; omega)).trans F.p.blk, F.p.le, F.p.tl, F.p.tk, F.p.nc, F.p.sz, F.p.s2, F.p.nb, F.p.fg⟩, F.gl, F.ll, Nat.le_trans F.sz h.size, fun k h1 h2 => (ho k (by omega)).trans (F.kb k h1 h2), fun b m => ?_, ?_, fun r hr => Kd.F_mono (Kd.F_step (F.nf r hr) (fun k hk _ => ho k (hk.2.1 _ hm))) (fun k hk => ⟨hk.1, hmono k hk.2.1, hk.2.2⟩), fun o hh => Kd.N_mono (Kd.N_step (F.own o hh) (fun k hk _ => ho k (hk.2 _ hm))) (fun k hk => ⟨hk.1, hmono k hk.2⟩)⟩
  · obtain ⟨k, hk⟩ := List.mem_iff_getElem?.1 m
    by_cases e : k = n
    · subst e
      rw [List.getElem?_set_self (List.getElem?_eq_some_iff.1 hn).1] at hk
      injection hk with hk
      subst hk
      exact ⟨hb, hgb⟩
    · rw [List.getElem?_set_ne (Ne.symm e)] at hk
      have mk : b ∈ bs := List.mem_iff_getElem?.2 ⟨k, hk⟩
      have hne : b.1 ≠ g := by
        have hp := List.pairwise_iff_getElem.1 F.ne
        obtain ⟨h1, e1⟩ := List.getElem?_eq_some_iff.1 hk
        obtain ⟨h2, e2⟩ := List.getElem?_eq_some_iff.1 hn
        rcases Nat.lt_or_gt_of_ne e with q | q
        · have := hp k n h1 h2 q
          rw [e1, e2] at this
          exact this
        · have := hp n k h2 h1 q
          rw [e1, e2] at this
          exact this.symm
      exact ⟨(ho _ hne).trans (F.bx b mk).1, (F.bx b mk).2⟩
  · have hmap : (bs.set n (g, t, cs')).map (·.1) = bs.map (·.1) := by
      rw [List.map_set]
      apply List.ext_getElem?
      intro k
      by_cases e : k = n
      · subst e
        have hl := (List.getElem?_eq_some_iff.1 hn).1
        rw [List.getElem?_set_self (by rw [List.length_map]; exact hl), List.getElem?_map, hn]
        rfl
      · rw [List.getElem?_set_ne (Ne.symm e)]
    have hp : (bs.map (·.1)).Pairwise (· ≠ ·) := List.pairwise_map.2 F.ne
    rw [← hmap] at hp
    exact List.pairwise_map.1 hp
/-- A literal row of nodes. -/
theorem Fr.lit (F : Fr E lo w0 bs ns os w i) {g : Nat} {cs : Array Value} {l : List S45} (hg : g = w.heap.size) (hb : w'.heap[g]? = some (.cells cs 45 (0, 0))) (h : Below w.heap.size w w') (hm : l.length ≤ 1000) (hr : Reps (Kd.FK k45 w (fun k => lo ≤ k ∧ (∀ b ∈ bs, k ≠ b.1) ∧ ∀ o ∈ os, some k ≠ o.1.ownBlock)) k45.sz l cs.toList) : Fr E lo w0 bs ((some ⟨g, 0, none⟩, l) :: ns) os w' i := by
  have G := F.below h
  refine ⟨G.p, G.gl, G.ll, G.sz, G.kb, G.bx, G.ne, fun r m => ?_, G.own⟩
  rcases List.mem_cons.1 m with rfl | m
  · intro W hW
    have hgo : lo ≤ g ∧ (∀ b ∈ bs, g ≠ b.1) ∧ ∀ o ∈ os, some g ≠ o.1.ownBlock := ⟨by rw [hg]; exact Nat.le_trans F.ll F.sz, fun b m => by have := F.lt b m; omega, fun o m he => by have := own_lt' F o m g he.symm; omega⟩
    have hbW : W.heap[g]? = some (.cells cs 45 (0, 0)) := (hW g hgo (blk_lt hb)).trans hb
    refine ⟨rfl, by show l.length ≤ _; omega, fun _ => ⟨⟨g, 0, none⟩, rfl, fun q x hq => ?_⟩⟩
    have hk := hr.2 q x hq W (fun k hk hl => (hW k hk (Nat.lt_of_lt_of_le hl h.size)).trans (h.block k hl))
    refine ⟨_, k45.K_len hk, hk, fun u v hu => ?_⟩
    rw [add_plain, blk_cell hbW]
    rw [List.getElem?_take] at hu
    split at hu
    · rw [List.getElem?_drop] at hu
      simpa using hu
    · cases hu
  · exact G.nf r m
end
end Go.Proofs.YthipodffpkglfaaGreatDoor.PS
namespace Go.Proofs.YthipodffpkglfaaGreatDoor.PS
open Go.RowKit Go.Proofs.YthipodffpkglfaaGreatDoorW.PrintWords Go.Proofs.YthipodffpkglfaaGreatDoorW.PrintLast Go.Proofs.YthipodffpkglfaaGreatDoorW.PrintMore
set_option linter.unusedVariables false
set_option linter.unusedSimpArgs false
theorem info45 : (Tryz.prog.info? 45).map (·.size) = some 7 := by kernel_rfl
def z7 : Array Value := ndc 0 ⟨#[]⟩ none 0 0
section
variable {P : Program} {ops : Array Oper} {rest : List Oper} {o : Oper} {a : Act} {Q : Exit → Act → World → Prop} {W : World}
theorem below_row (W : World) (g : Nat) (cs : Array Value) : Below g W (W.setRow g cs) := ⟨setRow_os _ _ _, setRow_tape _ _ _, setRow_output _ _ _, Nat.le_of_eq (setRow_size _ _ _).symm, fun k hk => setRow_other _ _ _ _ (Nat.ne_of_lt hk)⟩
theorem st_agg (hgd : o.guard = none) (hN : o.dst = none) {T : TypeId} {p : Tmp} {x : Operand} (ho : o.op = .store T (.tmp p) x) {g t : Nat} {cs cs' : Array Value} (hp : a.eval (.tmp p) = .pointer (some ⟨g, 0, none⟩)) (hx : a.eval x = .agg cs') (hb : W.heap[g]? = some (.cells cs t (0, 0))) (hi : (P.info? T).map (·.size) = some cs'.size) (hs : cs.size = cs'.size) (h1 : cs'.all (·.oneCell') = true)
    (h : ∀ w1, w1.heap[g]? = some (.cells cs' t (0, 0)) → Below g W w1 → (∀ k, k ≠ g → w1.heap[k]? = W.heap[k]?) → wpList P ops Q rest a w1) : wpList P ops Q (o :: rest) a W := by
  refine wpList_plain hgd fun K hK => ?_
  refine wp_store_row T _ _ ho g cs' hp hx t cs hb hi hs h1 ?_
  rw [hN]
  exact hK _ _ (h _ (setRow_heap _ _ _ _ _ _ hb) (below_row W g cs') (fun k hk => setRow_other _ _ _ _ hk))
theorem st_cell (hgd : o.guard = none) (hN : o.dst = none) {T : TypeId} {p : Tmp} {x : Operand} (ho : o.op = .store T (.tmp p) x) {g t k : Nat} {cs : Array Value} {v : Value} (hp : a.eval (.tmp p) = .pointer (some ⟨g, k, none⟩)) (hx : a.eval x = v) (hb : W.heap[g]? = some (.cells cs t (0, 0))) (hk : k < cs.size) (hi : (P.info? T).map (·.size) = some 1) (hv : v.cells.toList = [v]) (h1 : v.oneCell' = true)
    (h : ∀ w1, w1.heap[g]? = some (.cells (cs.setIfInBounds k v) t (0, 0)) → Below g W w1 → (∀ k, k ≠ g → w1.heap[k]? = W.heap[k]?) → wpList P ops Q rest a w1) : wpList P ops Q (o :: rest) a W := by
  refine wpList_plain hgd fun K hK => ?_
  unfold Oper.wp execOp
  simp only [ho, hp, hx, Sem.run_bind, Sem.run_pure, Result.andThen_ok, run_store_run T v [v] hb hv hi (show k + [v].length ≤ cs.size from hk) (by intro q hq; rw [List.mem_singleton.1 hq]; exact h1)]
  show K (a.put o.dst undef) _
  rw [hN]
  exact hK _ _ (h _ (blk_set hb k v) ((Below.refl _ _).setCell (Nat.le_refl g) v) (fun q hq => Below.heap_setCell W ⟨g, k, none⟩ v q hq))
theorem ld_agg (hgd : o.guard = none) {N : Tmp} (hd : o.dst = some N) {T : TypeId} {p : Tmp} (ho : o.op = .load T (.tmp p)) {g t : Nat} {cs : Array Value} {d : TypeDesc} (hp : a.eval (.tmp p) = .pointer (some ⟨g, 0, none⟩)) (hb : W.heap[g]? = some (.cells cs t (0, 0))) (hu : P.underlying T = some d) (hdd : (match d with | .struct _ | .array _ _ => true | _ => false) = true) (hi : (P.info? T).map (·.size) = some cs.size)
    (h : wpList P ops Q rest (a.put o.dst (.agg cs)) W) : wpList P ops Q (o :: rest) a W := by
  refine Kd.event_run hgd ?_ h
  unfold execOp
  simp only [ho, hp, Instr.loadAt, Instr.sureAddr, Sem.run_bind, Sem.run_pure, Result.andThen_ok, run_loadVar_row W g t T cs (0, 0) d hb hu hdd hi]
theorem ld_cell (hgd : o.guard = none) {N : Tmp} (hd : o.dst = some N) {T : TypeId} {p : Tmp} (ho : o.op = .load T (.tmp p)) {g t k : Nat} {cs : Array Value} {v : Value} {d : TypeDesc} (hp : a.eval (.tmp p) = .pointer (some ⟨g, k, none⟩)) (hb : W.heap[g]? = some (.cells cs t (0, 0))) (hk : cs[k]? = some v) (hu : P.underlying T = some d) (hdd : (match d with | .struct _ | .array _ _ => true | _ => false) = false)
    (h : wpList P ops Q rest (a.put o.dst v) W) : wpList P ops Q (o :: rest) a W := by
  refine Kd.event_run hgd ?_ h
  have hc : W.cell? ⟨g, k, none⟩ = some v := (blk_cell hb k).trans hk
  have hg : (isAgg T).run P W = .ok false W := by
    unfold isAgg
    rw [Sem.run_bind, run_underlying hu W]
    cases d <;> simp_all
  unfold execOp
  simp only [ho, hp, Instr.loadAt, Instr.sureAddr, loadVar, Sem.run_bind, Sem.run_pure, Result.andThen_ok, hg]
  simp [go_sem, hc]
end
section
variable {E : Env} {lo : Nat} {w0 w w' : World} {bs : List (Nat × Nat × Array Value)} {ns : List (Option Addr × List S45)} {os : List (Value × List S45)} {i j : Nat}
variable {P : Program} {ops : Array Oper} {rest : List Oper} {o : Oper} {a : Act} {Q : Exit → Act → World → Prop}
theorem Fr.at_ (F : Fr E lo w0 bs ns os w i) {n g t : Nat} {cs : Array Value} (hn : bs[n]? = some (g, t, cs)) : w.heap[g]? = some (.cells cs t (0, 0)) := (F.bx _ (List.mem_of_getElem? hn)).1
theorem Fr.keep (F : Fr E w0.heap.size w0 bs ns os w i) : KeepBut w0 w E.gp none := ⟨F.sz, fun k h1 h2 _ => F.kb k h1 h2⟩
theorem Fr.row (F : Fr E lo w0 bs ns os w i) {n : Nat} {A : Option Addr} {l : List S45} (hn : ns[n]? = some (A, l)) : Kd.F k45 w (fun k => lo ≤ k) A l.length l := Kd.F_mono (F.nf _ (List.mem_of_getElem? hn)) (fun _ h => h.1)
theorem Fr.rowF (F : Fr E lo w0 bs ns os w i) {n : Nat} {A : Option Addr} {l : List S45} (hn : ns[n]? = some (A, l)) : Kd.F k45 w (fun k => lo ≤ k ∧ (∀ b ∈ bs, k ≠ b.1) ∧ ∀ o ∈ os, some k ≠ o.1.ownBlock) A l.length l := F.nf _ (List.mem_of_getElem? hn)
theorem Fr.rowN (F : Fr E lo w0 bs ns os w i) {n : Nat} {v : Value} {l : List S45} (hn : os[n]? = some (v, l)) : Kd.N k45 45 w lo (fun k => lo ≤ k ∧ ∀ b ∈ bs, k ≠ b.1) v l := F.own _ (List.mem_of_getElem? hn)
/-- A whole struct is stored in the newest box; the second; the third. -/
theorem Fr.st0 {b : Nat × Nat × Array Value} (F : Fr E lo w0 (b :: bs) ns os w i) {T : TypeId} {p : Tmp} {x : Operand} (hgd : o.guard = none) (hN : o.dst = none) (ho : o.op = .store T (.tmp p) x) (cs' : Array Value) (hp : a.eval (.tmp p) = .pointer (some ⟨b.1, 0, none⟩)) (hx : a.eval x = .agg cs') (hi : (P.info? T).map (·.size) = some cs'.size) (hs : b.2.2.size = cs'.size) (h1 : cs'.all (·.oneCell') = true)
    (h : ∀ w1, Fr E lo w0 ((b.1, b.2.1, cs') :: bs) ns os w1 i → wpList P ops Q rest a w1) : wpList P ops Q (o :: rest) a w :=
  st_agg hgd hN ho hp hx (F.at_ (n := 0) rfl) hi hs h1 (fun w1 q1 q2 q3 => h w1 (F.put (n := 0) rfl q1 q2 q3))
theorem Fr.st1 {b b1 : Nat × Nat × Array Value} (F : Fr E lo w0 (b1 :: b :: bs) ns os w i) {T : TypeId} {p : Tmp} {x : Operand} (hgd : o.guard = none) (hN : o.dst = none) (ho : o.op = .store T (.tmp p) x) (cs' : Array Value) (hp : a.eval (.tmp p) = .pointer (some ⟨b.1, 0, none⟩)) (hx : a.eval x = .agg cs') (hi : (P.info? T).map (·.size) = some cs'.size) (hs : b.2.2.size = cs'.size) (h1 : cs'.all (·.oneCell') = true)
    (h : ∀ w1, Fr E lo w0 (b1 :: (b.1, b.2.1, cs') :: bs) ns os w1 i → wpList P ops Q rest a w1) : wpList P ops Q (o :: rest) a w :=
  st_agg hgd hN ho hp hx (F.at_ (n := 1) rfl) hi hs h1 (fun w1 q1 q2 q3 => h w1 (F.put (n := 1) rfl q1 q2 q3))
theorem Fr.st2 {b b1 b2 : Nat × Nat × Array Value} (F : Fr E lo w0 (b2 :: b1 :: b :: bs) ns os w i) {T : TypeId} {p : Tmp} {x : Operand} (hgd : o.guard = none) (hN : o.dst = none) (ho : o.op = .store T (.tmp p) x) (cs' : Array Value) (hp : a.eval (.tmp p) = .pointer (some ⟨b.1, 0, none⟩)) (hx : a.eval x = .agg cs') (hi : (P.info? T).map (·.size) = some cs'.size) (hs : b.2.2.size = cs'.size) (h1 : cs'.all (·.oneCell') = true)
    (h : ∀ w1, Fr E lo w0 (b2 :: b1 :: (b.1, b.2.1, cs') :: bs) ns os w1 i → wpList P ops Q rest a w1) : wpList P ops Q (o :: rest) a w :=
  st_agg hgd hN ho hp hx (F.at_ (n := 2) rfl) hi hs h1 (fun w1 q1 q2 q3 => h w1 (F.put (n := 2) rfl q1 q2 q3))
/-- A field is stored. -/
theorem Fr.sf0 {b : Nat × Nat × Array Value} (F : Fr E lo w0 (b :: bs) ns os w i) {T : TypeId} {p : Tmp} {x : Operand} {k : Nat} {v : Value} (hgd : o.guard = none) (hN : o.dst = none) (ho : o.op = .store T (.tmp p) x) (cs' : Array Value) (hp : a.eval (.tmp p) = .pointer (some ⟨b.1, k, none⟩)) (hx : a.eval x = v) (hk : k < b.2.2.size) (hi : (P.info? T).map (·.size) = some 1) (hv : v.cells.toList = [v]) (h1 : v.oneCell' = true) (hc : b.2.2.setIfInBounds k v = cs')
    (h : ∀ w1, Fr E lo w0 ((b.1, b.2.1, cs') :: bs) ns os w1 i → wpList P ops Q rest a w1) : wpList P ops Q (o :: rest) a w :=
  st_cell hgd hN ho hp hx (F.at_ (n := 0) rfl) hk hi hv h1 (fun w1 q1 q2 q3 => h w1 (F.put (n := 0) rfl (by rw [← hc]; exact q1) q2 q3))
theorem Fr.sf1 {b b1 : Nat × Nat × Array Value} (F : Fr E lo w0 (b1 :: b :: bs) ns os w i) {T : TypeId} {p : Tmp} {x : Operand} {k : Nat} {v : Value} (hgd : o.guard = none) (hN : o.dst = none) (ho : o.op = .store T (.tmp p) x) (cs' : Array Value) (hp : a.eval (.tmp p) = .pointer (some ⟨b.1, k, none⟩)) (hx : a.eval x = v) (hk : k < b.2.2.size) (hi : (P.info? T).map (·.size) = some 1) (hv : v.cells.toList = [v]) (h1 : v.oneCell' = true) (hc : b.2.2.setIfInBounds k v = cs')
    (h : ∀ w1, Fr E lo w0 (b1 :: (b.1, b.2.1, cs') :: bs) ns os w1 i → wpList P ops Q rest a w1) : wpList P ops Q (o :: rest) a w :=
  st_cell hgd hN ho hp hx (F.at_ (n := 1) rfl) hk hi hv h1 (fun w1 q1 q2 q3 => h w1 (F.put (n := 1) rfl (by rw [← hc]; exact q1) q2 q3))
theorem Fr.sf2 {b b1 b2 : Nat × Nat × Array Value} (F : Fr E lo w0 (b2 :: b1 :: b :: bs) ns os w i) {T : TypeId} {p : Tmp} {x : Operand} {k : Nat} {v : Value} (hgd : o.guard = none) (hN : o.dst = none) (ho : o.op = .store T (.tmp p) x) (cs' : Array Value) (hp : a.eval (.tmp p) = .pointer (some ⟨b.1, k, none⟩)) (hx : a.eval x = v) (hk : k < b.2.2.size) (hi : (P.info? T).map (·.size) = some 1) (hv : v.cells.toList = [v]) (h1 : v.oneCell' = true) (hc : b.2.2.setIfInBounds k v = cs')
    (h : ∀ w1, Fr E lo w0 (b2 :: b1 :: (b.1, b.2.1, cs') :: bs) ns os w1 i → wpList P ops Q rest a w1) : wpList P ops Q (o :: rest) a w :=
  st_cell hgd hN ho hp hx (F.at_ (n := 2) rfl) hk hi hv h1 (fun w1 q1 q2 q3 => h w1 (F.put (n := 2) rfl (by rw [← hc]; exact q1) q2 q3))
end
/-- A call reads a node. -/
def RdP (E : Env) (w : World) (j : Nat) (k : Int) (t : ByteArray) (l : List S45) (e : Ending) (w' : World) : Prop := ∃ A c, e = .returned (.agg (ndc k t A l.length c)) ∧ l.length ≤ c ∧ Kd.F k45 w' (fun k => w.heap.size ≤ k) A l.length l ∧ PSt E w' j ∧ KeepBut w w' E.gp none
def Rd (E : Env) (f : Nat) (args : Array Value) (i j : Nat) (k : Int) (t : ByteArray) (l : List S45) : Prop := ∀ w, PSt E w i → Calls Tryz.prog f args w (RdP E w j k t l)
/-- A node, and something besides. -/
def Rd2P (E : Env) (w : World) (j : Nat) (k : Int) (t : ByteArray) (l : List S45) (v : Value) (e : Ending) (w' : World) : Prop := ∃ A c, e = .returned (.tuple #[.agg (ndc k t A l.length c), v]) ∧ l.length ≤ c ∧ Kd.F k45 w' (fun k => w.heap.size ≤ k) A l.length l ∧ PSt E w' j ∧ KeepBut w w' E.gp none
def Rd2 (E : Env) (f : Nat) (args : Array Value) (i j : Nat) (k : Int) (t : ByteArray) (l : List S45) (v : Value) : Prop := ∀ w, PSt E w i → Calls Tryz.prog f args w (Rd2P E w j k t l v)
/-- Rows of nodes. -/
def RdLP (E : Env) (w : World) (j : Nat) (l : List S45) (e : Ending) (w' : World) : Prop := ∃ A c, e = .returned (.slice A l.length c) ∧ l.length ≤ c ∧ Kd.F k45 w' (fun k => w.heap.size ≤ k) A l.length l ∧ PSt E w' j ∧ KeepBut w w' E.gp none
def RdL (E : Env) (f : Nat) (args : Array Value) (i j : Nat) (l : List S45) : Prop := ∀ w, PSt E w i → Calls Tryz.prog f args w (RdLP E w j l)
end Go.Proofs.YthipodffpkglfaaGreatDoor.PS
