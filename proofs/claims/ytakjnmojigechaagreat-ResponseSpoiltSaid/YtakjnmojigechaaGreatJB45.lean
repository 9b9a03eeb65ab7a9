/- A part of the proof. No condition. -/
import Derived.Test.YtakjnmojigechaaGreatProg
import Derived.Test.YtakjnmojigechaaGreatJB34
import Derived.Test.YtakjnmojigechaaGreatJB44

namespace Go.Proofs.YtakjnmojigechaaGreat
open Go.RowKit
set_option maxRecDepth 100000 in
set_option maxHeartbeats 1000000 in
theorem kX (L:ZO) (pu rho al be:Nat) (vars i:Int) (A B1 B2 B3 F:Option Addr) (R c m1 d1 m2 d2 m3 d3 n d:Nat) (rows:List Ya) (a b q v:List Nat) (w:World)
  (hL:ZU L) (hF:Xm L pu vars rows) (hr:RSl 3 Xb w [.slice A R c] rows) (hV:VE vars rows)
  (ha:RWd w [.slice B1 m1 d1] a) (hb:RWd w [.slice B2 m2 d2] b) (hq:RWd w [.slice B3 m3 d3] q) (hv:RWd w [.slice F n d] v) (h1:m1≤5000000000) (h2:m2≤5000000000) (h3:m3≤5000000000) (h4:n≤5000000000) :
  Calls Tryz.prog 21 #[.agg (Zz L),Yr L.p (pu:Int) vars (.slice A R c), .agg #[.int .u64 (al:Int), .int .u64 (rho:Int), .int .u64 (be:Int)], .agg #[.slice B1 m1 d1, .slice B2 m2 d2, .slice B3 m3 d3], .int .i64 i, .slice F n d] w fun e w'=>e= .returned (.bool (Vo L (Z9 L pu rho rows) al be a b q i v))∧Below w.heap.size w w':=by
 have HOf:=Lib.hid (fun w=>U8 L w)
 have HCh:=Lib.hid (fun w=>Kg al rho be w)
 have HO1:=Lib.hid (fun w' (h:Below w.heap.size w w')=>XU B1 m1 d1 a w' (Zc _ _ _ _ h ha) h1)
 have HO2:=Lib.hid (fun w' (h:Below w.heap.size w w')=>XU B2 m2 d2 b w' (Zc _ _ _ _ h hb) h2)
 have HO3:=Lib.hid (fun w' (h:Below w.heap.size w w')=>XU B3 m3 d3 q w' (Zc _ _ _ _ h hq) h3)
 have HO4:=Lib.hid (fun w' (h:Below w.heap.size w w')=>XU F n d v w' (Zc _ _ _ _ h hv) h4)
 have l1:=Lib.hid (J3 ha)
 have l2:=Lib.hid (J3 hb)
 have l3:=Lib.hid (J3 hq)
 have l4:=Lib.hid (J3 hv)
 have HC:=Lib.hid (fun B1 B2 B3 F d1 d2 d3 d w' (h:Below w.heap.size w w') ha hb hq hv=>zU L pu rho al be vars i A B1 B2 B3 F R c m1 d1 m2 d2 m3 d3 n d rows a b q v w' hL hF (ZA ZB _ _ _ _ h hr) hV ha hb hq hv)
 clear ha hb hq hv hr hL hF hV h1 h2 h3 h4
 generalize Vo L (Z9 L pu rho rows) al be a b q i v=res at *
 unfold Zz Yr at *
 obtain ⟨kl,kt,kx,ka,hb0,-⟩:=J5 w 39 25 32 46 #[.int .u64 (L.p:Int), .int .i64 (L.block:Int), .int .i64 (L.queries:Int), .int .i64 (L.k:Int), .int .i64 (L.n:Int), .int .i64 (L.secret:Int), .int .i64 (L.rows:Int), .int .i64 (L.a:Int), .int .i64 (L.b:Int), .int .i64 (L.b:Int), .int .i64 (L.b:Int)] #[.int .u64 (L.p:Int), .int .i64 (pu:Int), .int .i64 vars, .slice A R c] #[.int .u64 (al:Int), .int .u64 (rho:Int), .int .u64 (be:Int)] #[.slice B1 m1 d1, .slice B2 m2 d2, .slice B3 m3 d3]
 go_enter Tryz.func21,Tryz.ntmps21
 go_upto_region 1 with fail
 generalize (((w.alloc _).alloc _).alloc _).alloc _=w1 at kl kt kx ka hb0 ⊢
 have cl:=kl.cell
 have ll:=kl.lt
 have ct:=kt.cell
 have lt:=kt.lt
 have cx:=kx.cell
 have lx:=kx.lt
 have ca:=ka.cell
 have la:=ka.lt
 refine Zq (ZK) [1,4,7,10,13,16,17] [0,2,3,5,6,8,9,11,12,14,15,1,4,7,10,13,16,17,18] (by kernel_rfl) (by kernel_rfl) ?_
 refine Zp (later_moves) ?_
 intro Wc HWc hacc
 have hbW:Below w1.heap.size w1 Wc:=by rw [HWc.out];exact (Below.refl _ _).drew
 replace hb0:=Za hb0 hbW
 clear hbW
 repeat (first | (refine Zf (later_moves) rfl rfl (fun _ _ _ h=>h) ?_;simp only [Act.put,zLa,zLb,zLc]) | (refine Ze (v:=?_) (later_moves) rfl rfl (fun _ _ _ h=>h) ?_ ?_;rotate_left;(· (intro w' hR;(first | have hcells:=Zb ((later_moves).trans _ _ _ hacc hR) | skip);go_simp;try with_reducible rfl));simp only [Act.put,zLa,zLb,zLc]))
 refine Zk (later_moves) rfl rfl rfl (fun _=>by go_simp <;> rfl) ((HOf.out _).mono ?_)
 rintro e w2 ⟨rfl,hbx⟩
 refine ⟨_,rfl,hbx,?_⟩
 replace hacc:=(later_moves).trans _ _ _ hacc (hbx)
 simp only [Act.put,zLa,zLb,zLc]
 replace hb0:=Za hb0 hbx
 clear hbx
 repeat (first | (refine Zf (later_moves) rfl rfl (fun _ _ _ h=>h) ?_;simp only [Act.put,zLa,zLb,zLc]) | (refine Ze (v:=?_) (later_moves) rfl rfl (fun _ _ _ h=>h) ?_ ?_;rotate_left;(· (intro w' hR;(first | have hcells:=Zb ((later_moves).trans _ _ _ hacc hR) | skip);go_simp;try with_reducible rfl));simp only [Act.put,zLa,zLb,zLc]))
 refine Zk (later_moves) rfl rfl rfl (fun _=>by go_simp <;> rfl) ((HCh.out _).mono ?_)
 rintro e w3 ⟨rfl,hbx⟩
 refine ⟨_,rfl,hbx,?_⟩
 replace hacc:=(later_moves).trans _ _ _ hacc (hbx)
 simp only [Act.put,zLa,zLb,zLc]
 replace hb0:=Za hb0 hbx
 clear hbx
 repeat (first | (refine Zf (later_moves) rfl rfl (fun _ _ _ h=>h) ?_;simp only [Act.put,zLa,zLb,zLc]) | (refine Ze (v:=?_) (later_moves) rfl rfl (fun _ _ _ h=>h) ?_ ?_;rotate_left;(· (intro w' hR;(first | have hcells:=Zb ((later_moves).trans _ _ _ hacc hR) | skip);go_simp;try with_reducible rfl));simp only [Act.put,zLa,zLb,zLc]))
 refine Zk (later_moves) rfl rfl rfl (fun _=>by go_simp <;> rfl) ((HO1.out _ hb0).mono ?_)
 rintro e w4 ⟨v1,rfl,o1,hbx⟩
 refine ⟨_,rfl,hbx,?_⟩
 replace hacc:=(later_moves).trans _ _ _ hacc (hbx)
 simp only [Act.put,zLa,zLb,zLc]
 replace hb0:=Za hb0 hbx
 clear hbx
 obtain ⟨P1,p1,rfl,g1⟩:=YZ o1 l1.out
 clear o1
 repeat (first | (refine Zf (later_moves) rfl rfl (fun _ _ _ h=>h) ?_;simp only [Act.put,zLa,zLb,zLc]) | (refine Ze (v:=?_) (later_moves) rfl rfl (fun _ _ _ h=>h) ?_ ?_;rotate_left;(· (intro w' hR;(first | have hcells:=Zb ((later_moves).trans _ _ _ hacc hR) | skip);go_simp;try with_reducible rfl));simp only [Act.put,zLa,zLb,zLc]))
 refine Zk (later_moves) rfl rfl rfl (fun _=>by go_simp <;> rfl) ((HO2.out _ hb0).mono ?_)
 rintro e w5 ⟨v2,rfl,o2,hbx⟩
 refine ⟨_,rfl,hbx,?_⟩
 replace hacc:=(later_moves).trans _ _ _ hacc (hbx)
 simp only [Act.put,zLa,zLb,zLc]
 replace hb0:=Za hb0 hbx
 replace g1:=Zc _ _ _ _ hbx g1
 clear hbx
 obtain ⟨P2,p2,rfl,g2⟩:=YZ o2 l2.out
 clear o2
 repeat (first | (refine Zf (later_moves) rfl rfl (fun _ _ _ h=>h) ?_;simp only [Act.put,zLa,zLb,zLc]) | (refine Ze (v:=?_) (later_moves) rfl rfl (fun _ _ _ h=>h) ?_ ?_;rotate_left;(· (intro w' hR;(first | have hcells:=Zb ((later_moves).trans _ _ _ hacc hR) | skip);go_simp;try with_reducible rfl));simp only [Act.put,zLa,zLb,zLc]))
 refine Zk (later_moves) rfl rfl rfl (fun _=>by go_simp <;> rfl) ((HO3.out _ hb0).mono ?_)
 rintro e w6 ⟨v3,rfl,o3,hbx⟩
 refine ⟨_,rfl,hbx,?_⟩
 replace hacc:=(later_moves).trans _ _ _ hacc (hbx)
 simp only [Act.put,zLa,zLb,zLc]
 replace hb0:=Za hb0 hbx
 replace g1:=Zc _ _ _ _ hbx g1
 replace g2:=Zc _ _ _ _ hbx g2
 clear hbx
 obtain ⟨P3,p3,rfl,g3⟩:=YZ o3 l3.out
 clear o3
 repeat (first | (refine Zf (later_moves) rfl rfl (fun _ _ _ h=>h) ?_;simp only [Act.put,zLa,zLb,zLc]) | (refine Ze (v:=?_) (later_moves) rfl rfl (fun _ _ _ h=>h) ?_ ?_;rotate_left;(· (intro w' hR;(first | have hcells:=Zb ((later_moves).trans _ _ _ hacc hR) | skip);go_simp;try with_reducible rfl));simp only [Act.put,zLa,zLb,zLc]))
 refine Zk (later_moves) rfl rfl rfl (fun _=>by go_simp <;> rfl) ((HO4.out _ hb0).mono ?_)
 rintro e w7 ⟨v4,rfl,o4,hbx⟩
 refine ⟨_,rfl,hbx,?_⟩
 replace hacc:=(later_moves).trans _ _ _ hacc (hbx)
 simp only [Act.put,zLa,zLb,zLc]
 replace hb0:=Za hb0 hbx
 replace g1:=Zc _ _ _ _ hbx g1
 replace g2:=Zc _ _ _ _ hbx g2
 replace g3:=Zc _ _ _ _ hbx g3
 clear hbx
 obtain ⟨P4,p4,rfl,g4⟩:=YZ o4 l4.out
 clear o4
 repeat (first | (refine Zf (later_moves) rfl rfl (fun _ _ _ h=>h) ?_;simp only [Act.put,zLa,zLb,zLc]) | (refine Ze (v:=?_) (later_moves) rfl rfl (fun _ _ _ h=>h) ?_ ?_;rotate_left;(· (intro w' hR;(first | have hcells:=Zb ((later_moves).trans _ _ _ hacc hR) | skip);go_simp;try with_reducible rfl));simp only [Act.put,zLa,zLb,zLc]))
 refine Zk (later_moves) rfl rfl rfl (fun _=>by go_simp <;> rfl) ((HC.out _ _ _ _ _ _ _ _ _ hb0 g1 g2 g3 g4).mono ?_)
 rintro e w8 ⟨rfl,hbx⟩
 refine ⟨_,rfl,hbx,?_⟩
 replace hacc:=(later_moves).trans _ _ _ hacc (hbx)
 simp only [Act.put,zLa,zLb,zLc]
 replace hb0:=Za hb0 hbx
 clear hbx
 repeat (first | (refine Zf (later_moves) rfl rfl (fun _ _ _ h=>h) ?_;simp only [Act.put,zLa,zLb,zLc]) | (refine Ze (v:=?_) (later_moves) rfl rfl (fun _ _ _ h=>h) ?_ ?_;rotate_left;(· (intro w' hR;(first | have hcells:=Zb ((later_moves).trans _ _ _ hacc hR) | skip);go_simp;try with_reducible rfl));simp only [Act.put,zLa,zLb,zLc]))
 refine Zt ?_
 clear hacc
 go_wp2_with fail
 go_ret
 exact ⟨rfl,hb0⟩
theorem zF {L:ZO} {cs:List (List Nat)} {al be i:Nat} {a b q v l:List Nat} (hf:Vc L a b q=true) (hi:i<L.n) (hv:v.length=L.a+L.b+L.b+L.b) (hlv:∀ x∈v,x<L.p) (hl:l.length=3) (hll:∀ x∈l,x<L.p) :
  Vo L cs al be a b q (i:Int) (v++l)=decide (UN L cs al be a b q (Xv L.p (ZJ L.p).1 L.n i) v=l):=by
 have e1:Va (v++l) (L.a+L.b+L.b+L.b+3) L.p=true:=by
  unfold Va
  rw [Bool.and_eq_true,decide_eq_true_eq,List.all_eq_true]
  refine ⟨by rw [List.length_append];omega,fun x hx=>?_⟩
  rw [decide_eq_true_eq]
  rcases List.mem_append.1 hx with h | h
  ·exact hlv x h
  ·exact hll x h
 have e2:decide ((0:Int)≤(i:Int))=true:=decide_eq_true (by omega)
 have e3:decide ((i:Int)<(L.n:Int))=true:=decide_eq_true (by omega)
 unfold Vo
 rw [hf,e1,e2,e3,List.take_left' hv,List.drop_left' hv,Int.toNat_natCast]
 rfl
theorem Jz {r:Bool} (L:ZO) (pu rho al be:Nat) (vars i:Int) (A B1 B2 B3 F:Option Addr) (R c m1 d1 m2 d2 m3 d3 n d:Nat) (rows:List Ya) (a b q v:List Nat) (w:World)
  (hL:ZU L) (hF:Xm L pu vars rows) (hr:RSl 3 Xb w [.slice A R c] rows) (hV:VE vars rows)
  (ha:RWd w [.slice B1 m1 d1] a) (hb:RWd w [.slice B2 m2 d2] b) (hq:RWd w [.slice B3 m3 d3] q) (hv:RWd w [.slice F n d] v) (h1:m1≤5000000000) (h2:m2≤5000000000) (h3:m3≤5000000000) (h4:n≤5000000000) (hc:Vo L (Z9 L pu rho rows) al be a b q i v=r) :
  Calls Tryz.prog 21 #[.agg (Zz L),Yr L.p (pu:Int) vars (.slice A R c), .agg #[.int .u64 (al:Int), .int .u64 (rho:Int), .int .u64 (be:Int)], .agg #[.slice B1 m1 d1, .slice B2 m2 d2, .slice B3 m3 d3], .int .i64 i, .slice F n d] w fun e w'=>e= .returned (.bool r)∧Below w.heap.size w w' :=
 hc ▸ kX L pu rho al be vars i A B1 B2 B3 F R c m1 d1 m2 d2 m3 d3 n d rows a b q v w hL hF hr hV ha hb hq hv h1 h2 h3 h4
end Go.Proofs.YtakjnmojigechaaGreat
