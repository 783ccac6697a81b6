/- Put: what it comes to, as it is written; what its walk keeps. -/
import Derived.Test.YtjlnlonioknkhaaDoorHD3
namespace Go.Proofs.YtjlnlonioknkhaaDoor.PL
open Go.RowKit Go.Proofs.YtjlnlonioknkhaaDoorW.PrintWords Go.Proofs.YtjlnlonioknkhaaDoorW.PrintLast Go.Proofs.YtjlnlonioknkhaaDoorW.PrintMore
set_option linter.unusedVariables false
set_option linter.unusedSimpArgs false

abbrev E0 : ByteArray := ⟨#[]⟩
/-- The key of a node, its parts' numbers one behind the other. -/
def keyV (x : S32) (lst : ByteArray) : K5 := ⟨x.f0, x.f4, x.f1, lst, (textsF x.f5 E0 ++ (⟨#[59]⟩ : ByteArray)) ++ textsF x.f6 E0⟩
/-- What a pool holds, while a node's parts are put: the numbers so far, the size so far, the keys, the sizes. -/
structure PS where
  o : ByteArray
  s : Int
  ks : List K5
  zs : List Int
def szAt (zs : List Int) (id : Int) : Int := zs.getD (id - 1).toNat 0
/-- The end of Put: the key is there, or it is new. -/
def putEnd (x : S32) (q : PS) : Int × List K5 × List Int :=
  match idxOf (keyV x q.o) q.ks 0 with
  | some j => (((j + 1 : Nat) : Int), q.ks, q.zs)
  | none => (((q.ks.length + 1 : Nat) : Int), q.ks ++ [keyV x q.o], q.zs ++ [q.s])
mutual
def putV : S32 → List K5 → List Int → Int × List K5 × List Int
  | ⟨a, b, l, c, d, e, f⟩, ks, zs => putEnd ⟨a, b, l, c, d, e, f⟩ (putL l ⟨E0, 1, ks, zs⟩)
def putL : List S32 → PS → PS
  | [], q => q
  | x :: r, q => putL r ⟨(q.o ++ itoaB (putV x q.ks q.zs).1) ++ (⟨#[44]⟩ : ByteArray), wrap64 (q.s + szAt (putV x q.ks q.zs).2.2 (putV x q.ks q.zs).1), (putV x q.ks q.zs).2.1, (putV x q.ks q.zs).2.2⟩
end
theorem putV_eq (x : S32) (ks : List K5) (zs : List Int) : putV x ks zs = putEnd x (putL x.f2 ⟨E0, 1, ks, zs⟩) := by cases x; rfl
/-- One part more. -/
def putS (x : S32) (q : PS) : PS := ⟨(q.o ++ itoaB (putV x q.ks q.zs).1) ++ (⟨#[44]⟩ : ByteArray), wrap64 (q.s + szAt (putV x q.ks q.zs).2.2 (putV x q.ks q.zs).1), (putV x q.ks q.zs).2.1, (putV x q.ks q.zs).2.2⟩
theorem putL_cons (x : S32) (r : List S32) (q : PS) : putL (x :: r) q = putL r (putS x q) := by rw [putL]; rfl
theorem putL_append (a b : List S32) : ∀ q, putL (a ++ b) q = putL b (putL a q) := by
  induction a with
  | nil => intro q; rfl
  | cons x r ih => intro q; rw [List.cons_append, putL_cons, putL_cons, ih]
theorem putL_take (l : List S32) (i : Nat) (h : i < l.length) (q : PS) : putL (l.take (i + 1)) q = putS l[i] (putL (l.take i) q) := by
  rw [List.take_succ_eq_append_getElem h, putL_append, putL_cons]; rfl
theorem idxOf_lt (k : K5) : ∀ (ks : List K5) (i j : Nat), idxOf k ks i = some j → i ≤ j ∧ j < i + ks.length
  | [], i, j, h => by simp [idxOf] at h
  | x :: r, i, j, h => by
    unfold idxOf at h
    cases hs : k.same x
    · rw [hs] at h
      have := idxOf_lt k r (i + 1) j (by simpa using h)
      simp only [List.length_cons]; omega
    · rw [hs] at h
      obtain rfl : i = j := by simpa using h
      simp only [List.length_cons]; omega
/-- Numbers lie within, keys and sizes are as many. -/
def Good (id : Int) (ks zs : Nat) (ks' : List K5) (zs' : List Int) (n : Nat) : Prop := ks'.length = zs'.length ∧ ks ≤ ks'.length ∧ ks'.length ≤ ks + n ∧ 1 ≤ id ∧ id ≤ ks'.length
theorem putEnd_good (x : S32) (q : PS) (h : q.ks.length = q.zs.length) : (putEnd x q).2.1.length = (putEnd x q).2.2.length ∧ q.ks.length ≤ (putEnd x q).2.1.length ∧ (putEnd x q).2.1.length ≤ q.ks.length + 1 ∧ 1 ≤ (putEnd x q).1 ∧ (putEnd x q).1 ≤ (putEnd x q).2.1.length := by
  unfold putEnd
  cases hi : idxOf (keyV x q.o) q.ks 0 with
  | none => simp only [List.length_append, List.length_cons, List.length_nil]; omega
  | some j =>
    have := idxOf_lt _ _ _ _ hi
    simp only
    omega
mutual
theorem putV_good : ∀ (x : S32) (ks : List K5) (zs : List Int), ks.length = zs.length → (putV x ks zs).2.1.length = (putV x ks zs).2.2.length ∧ ks.length ≤ (putV x ks zs).2.1.length ∧ (putV x ks zs).2.1.length ≤ ks.length + (pre x).length ∧ 1 ≤ (putV x ks zs).1 ∧ (putV x ks zs).1 ≤ (putV x ks zs).2.1.length
  | ⟨a, b, l, c, d, e, f⟩, ks, zs, h => by
    have h1 := putL_good l ⟨E0, 1, ks, zs⟩ h
    rw [putV_eq, pre_eq, List.length_cons]
    have h2 := putEnd_good ⟨a, b, l, c, d, e, f⟩ (putL l ⟨E0, 1, ks, zs⟩) h1.1
    have h3 := h1.2
    simp only at h3 ⊢
    omega
theorem putL_good : ∀ (l : List S32) (q : PS), q.ks.length = q.zs.length → (putL l q).ks.length = (putL l q).zs.length ∧ q.ks.length ≤ (putL l q).ks.length ∧ (putL l q).ks.length ≤ q.ks.length + (preL l).length
  | [], q, h => ⟨h, Nat.le_refl _, Nat.le_add_right _ _⟩
  | x :: r, q, h => by
    have h1 := putV_good x q.ks q.zs h
    have h2 := putL_good r (putS x q) h1.1
    rw [putL_cons]
    simp only [preL, List.length_append]
    have h3 : (putS x q).ks.length = (putV x q.ks q.zs).2.1.length := rfl
    omega
end
theorem putL_o : ∀ (l : List S32) (q : PS), q.ks.length = q.zs.length → q.ks.length + (preL l).length ≤ 1000000 → (putL l q).o.size ≤ q.o.size + 22 * l.length
  | [], q, h, hb => Nat.le_add_right _ _
  | x :: r, q, h, hb => by
    have h1 := putV_good x q.ks q.zs h
    simp only [preL, List.length_append] at hb
    have h3 : (putS x q).ks.length = (putV x q.ks q.zs).2.1.length := rfl
    have h2 := putL_o r (putS x q) h1.1 (by omega)
    rw [putL_cons]
    have h4 := itoa_size (putV x q.ks q.zs).1 (by omega) (by omega)
    have h5 : (putS x q).o.size = q.o.size + (itoaB (putV x q.ks q.zs).1).size + 1 := by
      show ((q.o ++ itoaB (putV x q.ks q.zs).1) ++ (⟨#[44]⟩ : ByteArray)).size = _
      rw [ByteArray.size_append, ByteArray.size_append]; rfl
    simp only [List.length_cons]
    omega
/-! ### what the walk keeps -/
structure PI (w wr : World) (base ga gm : Nat) (v0 v : Value) (ks : List K5) (zs : List Int) : Prop where
  hp : PoolAt wr base ga gm v ks zs
  ht : Turned w wr (PoolS ga gm v0)
  ho : v.ownBlock = v0.ownBlock ∨ ∃ b, v.ownBlock = some b ∧ w.heap.size ≤ b
section
variable {w wr wr' : World} {base ga gm : Nat} {v0 v v' : Value} {ks ks' : List K5} {zs zs' : List Int}
theorem PI.start (h : PoolAt w base ga gm v0 ks zs) : PI w w base ga gm v0 v0 ks zs := ⟨h, Turned.of_below (Below.refl _ _), Or.inl rfl⟩
theorem PI.below (h : PI w wr base ga gm v0 v ks zs) (hb : Below wr.heap.size wr wr') : PI w wr' base ga gm v0 v ks zs :=
  ⟨h.hp.below hb, h.ht.trans (S' := fun _ => False) (Turned.of_below hb) (fun _ _ h => h.elim), h.ho⟩
theorem PI.call (h : PI w wr base ga gm v0 v ks zs) (hp : PoolAt wr' base ga gm v' ks' zs') (ht : Turned wr wr' (PoolS ga gm v)) (ho : v'.ownBlock = v.ownBlock ∨ ∃ b, v'.ownBlock = some b ∧ wr.heap.size ≤ b) : PI w wr' base ga gm v0 v' ks' zs' := by
  refine ⟨hp, h.ht.trans ht (fun i hi hs => ?_), ?_⟩
  · rcases hs with rfl | rfl | hs
    · exact Or.inl rfl
    · exact Or.inr (Or.inl rfl)
    · rcases h.ho with e | ⟨b, e, hb⟩
      · rw [e] at hs; exact Or.inr (Or.inr hs)
      · rw [e] at hs; injection hs with hs; omega
  · rcases ho with e | ⟨b, e, hb⟩
    · rw [e]; exact h.ho
    · exact Or.inr ⟨b, e, Nat.le_trans h.ht.size hb⟩
theorem PI.base_below (h : PI w wr base ga gm v0 v ks zs) (h0 : PoolAt w base ga gm v0 ks' zs') : Below base w wr := h.ht.below h0.base_le h0.S_base
theorem NF.old {x : S32} {A2 : Option Addr} {c2 : Nat} {A5 : Option Addr} {c5 : Nat} {A6 : Option Addr} {c6 : Nat} (h : NF w (fun k => k < base) x A2 c2 A5 c5 A6 c6) (hb : Below base w wr) : NF wr (fun k => k < base) x A2 c2 A5 c5 A6 c6 := h.step (fun k hk => hb.block k hk)
theorem NF.turn {ok S : Nat → Prop} {x : S32} {A2 : Option Addr} {c2 : Nat} {A5 : Option Addr} {c5 : Nat} {A6 : Option Addr} {c6 : Nat} (h : NF w ok x A2 c2 A5 c5 A6 c6) (ht : Turned w wr S) (hs : ∀ k, ok k → k < w.heap.size ∧ ¬ S k) : NF wr ok x A2 c2 A5 c5 A6 c6 := h.step (fun k hk => ht.block k (hs k hk).1 (hs k hk).2)
theorem PI.okS {ok : Nat → Prop} (h : PI w wr base ga gm v0 v ks zs) (hs : ∀ k, ok k → k < w.heap.size ∧ ¬ PoolS ga gm v0 k) : ∀ k, ok k → k < wr.heap.size ∧ ¬ PoolS ga gm v k := fun k hk => by
  obtain ⟨h1, h2⟩ := hs k hk
  refine ⟨Nat.lt_of_lt_of_le h1 h.ht.size, fun h3 => h2 ?_⟩
  rcases h3 with rfl | rfl | h3
  · exact Or.inl rfl
  · exact Or.inr (Or.inl rfl)
  · rcases h.ho with e | ⟨b, e, hb⟩
    · rw [e] at h3; exact Or.inr (Or.inr h3)
    · rw [e] at h3; injection h3 with h3; omega
theorem turned_blk {g : Nat} {cs : Array Value} {t : TypeId} (hb : wr.heap[g]? = some (.cells cs t (0, 0))) (hp : PoolAt wr base ga gm v ks zs) (ht : Turned wr wr' (PoolS ga gm v)) (h1 : t ≠ 41) (h2 : t ≠ 3) : wr'.heap[g]? = some (.cells cs t (0, 0)) :=
  (ht.block g (blk_lt hb) (hp.away hb h1 h2)).trans hb
end
/-- What a call of Put comes to. -/
def PutAt (x : S32) (A2 : Option Addr) (c2 : Nat) (A5 : Option Addr) (c5 : Nat) (A6 : Option Addr) (c6 : Nat) (base ga gm : Nat) (v : Value) (ks : List K5) (zs : List Int) (w : World) : Prop :=
  Calls Tryd.prog 10 #[.pointer (some ⟨ga, 0, none⟩), .agg #[.int .i64 x.f0, .string x.f1, .slice A2 x.f2.length c2, .bool x.f3, .bool x.f4, .slice A5 x.f5.length c5, .slice A6 x.f6.length c6]] w fun e w' => ∃ v', e = .returned (.int .i64 (putV x ks zs).1) ∧
    PoolAt w' base ga gm v' (putV x ks zs).2.1 (putV x ks zs).2.2 ∧ Turned w w' (PoolS ga gm v) ∧ (v'.ownBlock = v.ownBlock ∨ ∃ b, v'.ownBlock = some b ∧ w.heap.size ≤ b)
/-- A node's texts and rows are no longer than a text may be. -/
def okT (x : S32) : Prop := ∀ y ∈ pre x, tsz y.f5 ≤ 1152921504606846976 ∧ tsz y.f6 ≤ 1152921504606846976
end Go.Proofs.YtjlnlonioknkhaaDoor.PL
