/- PoolLikes: the walk, as the row asks for it. -/
import Derived.Test.YtjlnlonioknkhaaDoorHR
import Derived.Test.YtjlnlonioknkhaaDoorHD10
import Derived.Test.YtjlnlonioknkhaaDoorHShelf
namespace Go.Proofs.YtjlnlonioknkhaaDoor.PL
open Go.RowKit Go.Proofs.YtjlnlonioknkhaaDoorW.PrintWords Go.Proofs.YtjlnlonioknkhaaDoorW.PrintLast Go.Proofs.YtjlnlonioknkhaaDoorW.PrintMore
theorem PoolLikes_walk {w : World} (hT : Tab w.heap.size w) (x : S32) (A2 : Option Addr) (c2 : Nat) (A5 : Option Addr) (c5 : Nat) (A6 : Option Addr) (c6 : Nat) (hx : Nd w x A2 c2 A5 c5 A6 c6) (ox : szT x) (y : S32) (Y2 : Option Addr) (e2 : Nat) (Y5 : Option Addr) (e5 : Nat) (Y6 : Option Addr) (e6 : Nat) (hy : Nd w y Y2 e2 Y5 e5 Y6 e6) (oy : szT y) : Calls Tryd.prog 4 #[.agg #[.int .i64 x.f0, .string x.f1, .slice A2 x.f2.length c2, .bool x.f3, .bool x.f4, .slice A5 x.f5.length c5, .slice A6 x.f6.length c6], .agg #[.int .i64 y.f0, .string y.f1, .slice Y2 y.f2.length e2, .bool y.f3, .bool y.f4, .slice Y5 y.f5.length e5, .slice Y6 y.f6.length e6]] w fun e w' => e = .returned (.bool true) ∧ Below w.heap.size w w' := by
  have gx : NF w (fun k => k < w.heap.size) x A2 c2 A5 c5 A6 c6 := ⟨F_all k32_heap hx.g2, hx.l2, F_all Kd.heap_string hx.g5, hx.l5, F_all Kd.heap_string hx.g6, hx.l6⟩
  have gy : NF w (fun k => k < w.heap.size) y Y2 e2 Y5 e5 Y6 e6 := ⟨F_all k32_heap hy.g2, hy.l2, F_all Kd.heap_string hy.g5, hy.l5, F_all Kd.heap_string hy.g6, hy.l6⟩
  by_cases fx : fewV x 40 ≤ 400
  · by_cases fy : fewV y 40 ≤ 400
    · exact likes_3 x _ _ _ _ _ _ y _ _ _ _ _ _ w gx gy hT fx fy (okT_of_few ox fx) (okT_of_few oy fy)
    · exact likes_2 x _ _ _ _ _ _ y _ _ _ _ _ _ w gx gy hT (decide_eq_true fx) (decide_eq_false fy)
  · exact likes_1 x _ _ _ _ _ _ y _ _ _ _ _ _ w gx gy hT (decide_eq_false fx)
end Go.Proofs.YtjlnlonioknkhaaDoor.PL
