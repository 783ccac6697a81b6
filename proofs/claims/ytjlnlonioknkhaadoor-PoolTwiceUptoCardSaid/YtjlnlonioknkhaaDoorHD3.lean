/- pool.New, texts, Len, Size: their walks. -/
import Derived.Test.YtjlnlonioknkhaaDoorHD2
import Derived.Test.YtjlnlonioknkhaaDoorHShelf
import Derived.Lib.ItoaLen
namespace Go.Proofs.YtjlnlonioknkhaaDoor.PL
open Go.RowKit Go.Proofs.YtjlnlonioknkhaaDoorW.PrintWords Go.Proofs.YtjlnlonioknkhaaDoorW.PrintLast Go.Proofs.YtjlnlonioknkhaaDoorW.PrintMore
set_option linter.unusedVariables false
set_option linter.unusedSimpArgs false

/-- A pool as it lies. -/
structure PoolAt (w : World) (base ga gm : Nat) (v : Value) (ks : List K5) (zs : List Int) : Prop where
  pa : w.heap[ga]? = some (.cells #[.map (some gm), v] 41 (0, 0))
  pm : MapAt w gm ks
  pz : Kd.R (Kd.int .i64) 3 w base (fun k => base ≤ k) v zs
  hl : ks.length = zs.length
  ba : base ≤ ga
  bm : base ≤ gm
theorem MapAt.below {w w' : World} {g : Nat} {ks : List K5} (h : MapAt w g ks) (hb : w'.heap[g]? = w.heap[g]?) : MapAt w' g ks := by
  obtain ⟨es, c, hg, he⟩ := h
  exact ⟨es, c, hb.trans hg, he⟩
theorem MapAt.lt {w : World} {g : Nat} {ks : List K5} (h : MapAt w g ks) : g < w.heap.size := by
  obtain ⟨es, c, hg, he⟩ := h
  exact (Array.getElem?_eq_some_iff.1 hg).1
section
variable {w w' W : World} {base ga gm : Nat} {v : Value} {ks : List K5} {zs : List Int}
theorem PoolAt.below (h : PoolAt w base ga gm v ks zs) (hb : Below w.heap.size w w') : PoolAt w' base ga gm v ks zs :=
  ⟨blk_below h.pa hb, h.pm.below (hb.block gm h.pm.lt), Kd.R_below h.pz hb, h.hl, h.ba, h.bm⟩
theorem PoolAt.base_le (h : PoolAt w base ga gm v ks zs) : base ≤ w.heap.size := Nat.le_trans h.ba (Nat.le_of_lt (blk_lt h.pa))
theorem PoolAt.ne (h : PoolAt w base ga gm v ks zs) : ga ≠ gm := by
  intro e
  obtain ⟨es, c, hg, he⟩ := h.pm
  rw [← e, h.pa] at hg
  cases hg
end
/-- What a call that turns a pool leaves as it was. -/
structure Turned (w w' : World) (S : Nat → Prop) : Prop where
  os : w'.os = w.os
  tape : w'.tape = w.tape
  output : w'.output = w.output
  size : w.heap.size ≤ w'.heap.size
  block : ∀ k, k < w.heap.size → ¬ S k → w'.heap[k]? = w.heap[k]?
theorem Turned.of_below {w w' : World} {S : Nat → Prop} (h : Below w.heap.size w w') : Turned w w' S := ⟨h.os, h.tape, h.output, h.size, fun k hk _ => h.block k hk⟩
theorem Turned.below {w w' : World} {S : Nat → Prop} {B : Nat} (h : Turned w w' S) (hB : B ≤ w.heap.size) (hS : ∀ k, S k → B ≤ k) : Below B w w' := ⟨h.os, h.tape, h.output, h.size, fun k hk => h.block k (by omega) (fun hs => by have := hS k hs; omega)⟩
theorem Turned.trans {a b c : World} {S S' : Nat → Prop} (h : Turned a b S) (k : Turned b c S') (hS : ∀ i, i < a.heap.size → S' i → S i) : Turned a c S :=
  ⟨k.os.trans h.os, k.tape.trans h.tape, k.output.trans h.output, Nat.le_trans h.size k.size, fun i hi hn => (k.block i (Nat.lt_of_lt_of_le hi h.size) (fun hs => hn (hS i hi hs))).trans (h.block i hi hn)⟩
def PoolS (ga gm : Nat) (v : Value) (k : Nat) : Prop := k = ga ∨ k = gm ∨ some k = v.ownBlock
theorem PoolAt.S_base {w : World} {base ga gm : Nat} {v : Value} {ks : List K5} {zs : List Int} (h : PoolAt w base ga gm v ks zs) : ∀ k, PoolS ga gm v k → base ≤ k := by
  rintro k (rfl | rfl | hk)
  · exact h.ba
  · exact h.bm
  · exact Kd.R_base h.pz k hk.symm
/-- A block of cells of another type is none of the pool's. -/
theorem PoolAt.away {w : World} {base ga gm : Nat} {v : Value} {ks : List K5} {zs : List Int} (h : PoolAt w base ga gm v ks zs) {g : Nat} {cs : Array Value} {t : TypeId} (hb : w.heap[g]? = some (.cells cs t (0, 0))) (h1 : t ≠ 41) (h2 : t ≠ 3) : ¬ PoolS ga gm v g := by
  rintro (rfl | rfl | hk)
  · exact blk_ne hb h.pa h1 rfl
  · obtain ⟨es, c, hg, he⟩ := h.pm
    rw [hg] at hb
    cases hb
  · obtain ⟨cells, hc⟩ := Kd.R_typed h.pz g hk.symm
    exact blk_ne hb hc h2 rfl
/-- Texts as one, each behind its length. -/
def textsF : List ByteArray → ByteArray → ByteArray
  | [], o => o
  | s :: r, o => textsF r (((o ++ itoaB s.size) ++ (⟨#[58]⟩ : ByteArray)) ++ s)
theorem textsF_append (a b : List ByteArray) : ∀ o, textsF (a ++ b) o = textsF b (textsF a o) := by
  induction a with
  | nil => intro o; rfl
  | cons s r ih => intro o; simp [textsF, ih]
theorem textsF_take (l : List ByteArray) (i : Nat) (h : i < l.length) (o : ByteArray) : textsF (l.take (i + 1)) o = ((textsF (l.take i) o ++ itoaB l[i].size) ++ (⟨#[58]⟩ : ByteArray)) ++ l[i] := by
  rw [List.take_succ_eq_append_getElem h, textsF_append]; rfl
/-- How long texts are as one, at most. -/
def tsz : List ByteArray → Nat
  | [] => 0
  | s :: r => s.size + 22 + tsz r
theorem itoa_size (n : Int) (h0 : -9223372036854775808 ≤ n) (h1 : n ≤ 9223372036854775807) : (itoaB n).size ≤ 21 := by
  have := Lib.itoa_length_le n h0 h1
  show (Lib.itoa n).toArray.size ≤ 21
  rw [List.size_toArray]
  exact this
theorem textsF_size : ∀ (l : List ByteArray) (o : ByteArray), (∀ s ∈ l, s.size ≤ 9223372036854775807) → (textsF l o).size ≤ o.size + tsz l
  | [], o, _ => by simp [textsF, tsz]
  | s :: r, o, h => by
    have h1 := textsF_size r (((o ++ itoaB s.size) ++ (⟨#[58]⟩ : ByteArray)) ++ s) (fun t ht => h t (List.mem_cons_of_mem _ ht))
    have h2 := itoa_size s.size (by omega) (by have := h s List.mem_cons_self; omega)
    have h3 : (⟨#[58]⟩ : ByteArray).size = 1 := rfl
    simp only [ByteArray.size_append, h3] at h1
    unfold textsF tsz
    omega
theorem tsz_append (a b : List ByteArray) : tsz (a ++ b) = tsz a + tsz b := by
  induction a with
  | nil => simp [tsz]
  | cons s r ih => simp [tsz, ih]; omega
theorem tsz_at (l : List ByteArray) (i : Nat) (h : i < l.length) : tsz (l.take i) + l[i].size + 22 ≤ tsz l := by
  have e : l = l.take i ++ l[i] :: l.drop (i + 1) := by rw [← List.drop_eq_getElem_cons h, List.take_append_drop]
  have h2 := congrArg tsz e
  rw [tsz_append] at h2
  simp only [tsz] at h2
  omega
theorem mem_tsz (l : List ByteArray) (s : ByteArray) (h : s ∈ l) : s.size ≤ tsz l := by
  induction l with
  | nil => simp at h
  | cons a r ih =>
    rcases List.mem_cons.1 h with rfl | h
    · simp only [tsz]; omega
    · have := ih h; simp only [tsz]; omega
/-- Itoa comes to the numeral, whatever is done from block B on. -/
def Tab (B : Nat) (w : World) : Prop := ∀ w', Below B w w' → ItoaAt w'
theorem Tab.here {B : Nat} {w : World} (h : Tab B w) : ItoaAt w := h w (Below.refl _ _)
theorem Tab.on {B : Nat} {w w1 : World} (h : Tab B w) (hb : Below B w w1) : Tab B w1 := fun w' h' => h w' (hb.trans h')
theorem text_at {w : World} {A : Option Addr} {l : List ByteArray} (h : Kd.C Kd.string w A l.length l) (i : Nat) (hi : i < l.length) : ∃ ad, A = some ad ∧ w.cell? (ad.add i) = some (.string l[i]) := by
  obtain ⟨_, _, h3⟩ := h
  obtain ⟨ad, e, h4⟩ := h3 (by omega)
  obtain ⟨cs, h5, h6, h7⟩ := h4 i l[i] (by simp [hi])
  obtain rfl : cs = [.string l[i]] := h6
  exact ⟨ad, e, by simpa [Kd.string, Kd.scalar] using h7 0 _ rfl⟩
theorem int_at {w : World} {A : Option Addr} {l : List Int} (h : Kd.C (Kd.int .i64) w A l.length l) (i : Nat) (hi : i < l.length) : ∃ ad, A = some ad ∧ w.cell? (ad.add i) = some (.int .i64 l[i]) := by
  obtain ⟨_, _, h3⟩ := h
  obtain ⟨ad, e, h4⟩ := h3 (by omega)
  obtain ⟨cs, h5, h6, h7⟩ := h4 i l[i] (by simp [hi])
  obtain rfl : cs = [.int .i64 l[i]] := h6
  exact ⟨ad, e, by simpa [Kd.int, Kd.scalar] using h7 0 _ rfl⟩
theorem len_tsz (l : List ByteArray) : 22 * l.length ≤ tsz l := by
  induction l with
  | nil => simp [tsz]
  | cons s r ih => simp only [tsz, List.length_cons]; omega
set_option maxHeartbeats 1000000 in
theorem texts_calls (B : Nat) (l : List ByteArray) (A : Option Addr) (c : Nat) (w : World) (hl : Kd.C Kd.string w A l.length l) (hB : B ≤ w.heap.size) (hT : Tab B w) (hs : tsz l ≤ 1152921504606846976) :
    Calls Tryd.prog 16 #[.slice A l.length c] w fun e w' => e = .returned (.string (textsF l ⟨#[]⟩)) ∧ Below w.heap.size w w' := by
  have HL := Aside0.mk hl
  have HBB := Aside0.mk hB
  have HT := Aside0.mk hT
  have HS := Aside0.mk hs
  have HB := Aside0.mk (Below.refl w.heap.size w)
  have hlb : (l.length : Int) ≤ 1152921504606846976 := by have := len_tsz l; omega
  clear hl hB hT hs
  go_enter Tryd.func16, Tryd.ntmps16
  go_wp2
  go_loopg [3, 8] l.length (fun k' v3 v8 wr => ∃ (i : Nat) (t : ByteArray), v3 = .string t ∧ v8 = .int .i64 i ∧ i ≤ l.length ∧ Aside0 (k' + i = l.length) ∧ Aside0 (t = textsF (l.take i) ⟨#[]⟩) ∧ Aside0 (Below w.heap.size w wr))
  case atStart => exact ⟨0, _, rfl, rfl, Nat.zero_le _, ⟨rfl⟩, ⟨rfl⟩, HB⟩
  case round =>
    clear HB
    obtain ⟨i, t, rfl, rfl, hi, HK, ET, HB⟩ := hrel
    by_cases hlt : i < l.length
    · obtain ⟨ad, e0, tx⟩ := text_at HL.out i hlt
      subst e0
      have q1 := (HB.out.cell (World.block_lt_of_cell? w _ tx)).trans tx
      have EN := Aside0.mk (textsF_take l i hlt ⟨#[]⟩)
      have hz := tsz_at l i hlt
      have hz2 := textsF_size (l.take i) ⟨#[]⟩ (fun s hs => by have := mem_tsz l s (List.mem_of_mem_take hs); have := HS.out; omega)
      obtain ⟨s, hse⟩ : ∃ s, s = l[i] := ⟨_, rfl⟩
      rw [← hse] at q1 EN hz
      clear tx hse
      have hts : t.size ≤ tsz (l.take i) := by rw [ET.out]; have h0 : (⟨#[]⟩ : ByteArray).size = 0 := rfl; omega
      have hsz := HS.out
      have hn1 : (s.size : Int) ≤ 9223372036854775807 := by omega
      have hit := itoa_size s.size (by omega) hn1
      obtain ⟨u, hu⟩ : ∃ u, u = itoaB s.size := ⟨_, rfl⟩
      have HU := Aside0.mk hu
      rw [← hu] at hit EN
      have a1 : ¬ (9223372036854775807 < t.size + u.size) := by omega
      have a2 : ¬ (9223372036854775807 < t.size + u.size + 1) := by omega
      have a3 : ¬ (9223372036854775807 < t.size + u.size + 1 + s.size) := by omega
      have HN1 := Aside0.mk hn1
      clear hz hz2 hts hsz hit hu hn1
      go_wp2_with (first | ((with_reducible refine gate_dst (N := 15) rfl ?_); refine goesL_ (some 15) rfl rfl Tryd.func17 (by kernel_rfl) rfl #[.int .i64 s.size] rfl (by (try simp only [List.map_toArray, List.map_cons, List.map_nil]); first | done | rfl) ?_; (refine (HT.out _ (HB.out.mono HBB.out) s.size (by omega) HN1.out).mono ?_); (rintro e w3 ⟨rfl, hb⟩; refine ⟨_, rfl, ?_⟩; rw [← HU.out]; have n0 := Aside0.mk (below_step HB.out hb); clear HB hb; have HB := n0; clear n0; )))
      go_roundg (l.length - (i + 1))
      case measure => have := HK.out; omega
      case rel => exact ⟨i + 1, ((t ++ u) ++ (⟨#[58]⟩ : ByteArray)) ++ s, rfl, by simp, by omega, ⟨by have := HK.out; omega⟩, ⟨by rw [EN.out, ET.out]⟩, HB⟩
    · obtain rfl : i = l.length := by omega
      go_wp2
      go_ret
      exact ⟨by rw [ET.out, List.take_length]; rfl, HB.out⟩
theorem new_calls (B : Nat) (w : World) (hB : B ≤ w.heap.size) :
    Calls Tryd.prog 6 #[] w fun e w' => ∃ ga gm, e = .returned (.pointer (some ⟨ga, 0, none⟩)) ∧ PoolAt w' B ga gm (.slice none 0 0) [] [] ∧ Below w.heap.size w w' := by
  have HBB := Aside0.mk hB
  clear hB
  have hmm := @run_makeMap Tryd.prog
  go_enter Tryd.func6, Tryd.ntmps6
  go_wp2
  go_ret
  refine ⟨w.heap.size + 1, w.heap.size, rfl, ⟨?_, ⟨#[], 0, ?_, Ent.nil 0⟩, Kd.R_nil _ _ _ _ _, rfl, by have := HBB.out; omega, HBB.out⟩, ?_⟩
  · have := blk_new (w.alloc (.map #[] 0)) (.cells #[.map (some w.heap.size), .slice none 0 0] 41 (0, 0))
    simpa using this
  · exact (Below.heap_alloc (w.alloc (.map #[] 0)) _ w.heap.size (by simp)).trans (blk_new w _)
  · exact below_alloc (below_alloc (Below.refl _ _) _) _
theorem len_calls {w : World} {base ga gm : Nat} {v : Value} {ks : List K5} {zs : List Int} (n : Int) (h : PoolAt w base ga gm v ks zs) (hn : (zs.length : Int) = n) :
    Calls Tryd.prog 12 #[.pointer (some ⟨ga, 0, none⟩)] w fun e w' => e = .returned (.int .i64 n) ∧ w = w' := by
  subst hn
  obtain ⟨A, c, hv⟩ := Kd.R_slice h.pz
  have hp := h.pa
  rw [hv] at hp
  have q1 : w.cell? ⟨ga, 1, none⟩ = some (.slice A zs.length c) := (blk_cell hp 1).trans rfl
  clear h hv hp
  go_enter Tryd.func12, Tryd.ntmps12
  go_wp2
  go_ret
  exact ⟨rfl, rfl⟩
theorem len_nil (w : World) : Calls Tryd.prog 12 #[.pointer none] w fun e w' => e = .returned (.int .i64 0) ∧ w = w' := by
  go_enter Tryd.func12, Tryd.ntmps12
  go_wp2
  go_ret
  exact ⟨rfl, rfl⟩
theorem size_nil (n : Int) (w : World) : Calls Tryd.prog 13 #[.pointer none, .int .i64 n] w fun e w' => e = .returned (.int .i64 0) ∧ w = w' := by
  go_enter Tryd.func13, Tryd.ntmps13
  go_wp2
  go_ret
  exact ⟨rfl, rfl⟩
/-- The size that a number has. -/
def sizeOfId (zs : List Int) (id : Int) : Int := if 1 ≤ id ∧ id ≤ zs.length then zs.getD (id.toNat - 1) 0 else 0
theorem size_calls {w : World} {base ga gm : Nat} {v : Value} {ks : List K5} {zs : List Int} (id n : Int) (h : PoolAt w base ga gm v ks zs) (hb : zs.length ≤ 1000000000) (hn : sizeOfId zs id = n) :
    Calls Tryd.prog 13 #[.pointer (some ⟨ga, 0, none⟩), .int .i64 id] w fun e w' => e = .returned (.int .i64 n) ∧ w = w' := by
  subst hn
  obtain ⟨A, c, hv⟩ := Kd.R_slice h.pz
  have hp := h.pa
  have hz := h.pz
  rw [hv] at hp hz
  have hC := (Kd.R_reads' hz).2.2
  have q1 : w.cell? ⟨ga, 1, none⟩ = some (.slice A zs.length c) := (blk_cell hp 1).trans rfl
  clear h hv hp hz
  by_cases c1 : id < 1
  · have c1a : decide (id < 1) = true := decide_eq_true c1
    have e0 := Aside0.mk (show sizeOfId zs id = 0 from if_neg (by omega))
    clear hC c1
    go_enter Tryd.func13, Tryd.ntmps13
    go_wp2
    go_ret
    exact ⟨by rw [e0.out]; rfl, rfl⟩
  · by_cases c2 : (zs.length : Int) < id
    · have c1a : decide (id < 1) = false := decide_eq_false c1
      have c2a : decide ((zs.length : Int) < id) = true := decide_eq_true c2
      have e0 := Aside0.mk (show sizeOfId zs id = 0 from if_neg (by omega))
      clear hC c1 c2
      go_enter Tryd.func13, Tryd.ntmps13
      go_wp2
      go_ret
      exact ⟨by rw [e0.out]; rfl, rfl⟩
    · have c1a : decide (id < 1) = false := decide_eq_false c1
      have c2a : decide ((zs.length : Int) < id) = false := decide_eq_false c2
      obtain ⟨i, hi⟩ : ∃ i : Nat, id = (i : Int) + 1 := ⟨(id - 1).toNat, by omega⟩
      have hil : i < zs.length := by omega
      obtain ⟨ad, e, hc⟩ := int_at hC i hil
      subst e
      have e0 := Aside0.mk (show sizeOfId zs id = zs[i] by
        have h1 : id.toNat - 1 = i := by omega
        rw [sizeOfId, if_pos (by omega), h1, List.getD_eq_getElem?_getD, List.getElem?_eq_getElem hil]; rfl)
      have hw : wrap64 (id - 1) = (i : Int) := by unfold wrap64; omega
      obtain ⟨y, hy⟩ : ∃ y, y = zs[i]'hil := ⟨_, rfl⟩
      rw [← hy] at hc e0
      clear hC c1 c2 hi hy hb
      go_enter Tryd.func13, Tryd.ntmps13
      go_wp2
      go_ret
      exact ⟨by rw [e0.out]; rfl, rfl⟩
end Go.Proofs.YtjlnlonioknkhaaDoor.PL
