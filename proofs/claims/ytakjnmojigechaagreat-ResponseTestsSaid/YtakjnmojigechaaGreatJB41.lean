/- A part of the proof. No condition. -/
import Derived.Test.YtakjnmojigechaaGreatProg
import Derived.Test.YtakjnmojigechaaGreatJB23
import Derived.Test.YtakjnmojigechaaGreatJB35

namespace Go.Proofs.YtakjnmojigechaaGreat
open Go.RowKit
set_option maxRecDepth 100000 in
set_option maxHeartbeats 2000000 in
theorem UW (L:ZO) (pu rho al be:Nat) (vars:Int) (A AM D0 D1 D2 D3 D4:Option Addr) (R c T cM n0 n1 n2 n3 n4 k0 k1 k2 k3 k4:Nat) (rows:List Ya) (m r:List (List Nat)) (co li qu sa:List Nat) (w:World)
  (hL:ZU L) (hF:Xm L pu vars rows) (hr:RSl 3 Xb w [.slice A R c] rows) (hV:VE vars rows)
  (hm:YN w [.slice AM T cM] m) (h0:YN w [.slice D0 n0 k0] r) (h1:RWd w [.slice D1 n1 k1] co) (h2:RWd w [.slice D2 n2 k2] li) (h3:RWd w [.slice D3 n3 k3] qu) (h4:RWd w [.slice D4 n4 k4] sa)
  (hco:Uy L r co li qu sa=true) (hmT:m.length=L.a+L.b+L.b+L.b) (hml:∀ x∈m,x.length=L.block) :
  Calls Tryz.prog 12 #[.agg (Zz L),Yr L.p (pu:Int) vars (.slice A R c), .slice AM T cM, .agg #[.slice D0 n0 k0, .slice D1 n1 k1, .slice D2 n2 k2, .slice D3 n3 k3, .slice D4 n4 k4], .agg #[.int .u64 (al:Int), .int .u64 (rho:Int), .int .u64 (be:Int)]] w fun e w'=>∃ v1 v2 v3,e= .returned (.agg #[v1,v2,v3]) ∧
   w'.ownsRow w.heap.size 22 1 v1 (XW L m r co al).length (U64 (XW L m r co al))∧w'.ownsRow w.heap.size 22 1 v2 (XV L (Z9 L pu rho rows) m r li).length (U64 (XV L (Z9 L pu rho rows) m r li))∧w'.ownsRow w.heap.size 22 1 v3 (XN L m r qu be).length (U64 (XN L m r qu be))∧Below w.heap.size w w':=by
 obtain ⟨f1,f2,f3,f4,f5⟩:=Y4 hco
 have hok:VG L m r:=⟨hmT,by omega,hml,fun x hx=>(f2 x hx).1⟩
 have hp:=Zr hL.p
 have hla:=hL.a
 have hlb:=hL.b
 have hb2:=hL.b2
 have hTm:=(Yi hm).1
 have HOf:=Lib.hid (fun w=>U8 L w)
 have HCh:=Lib.hid (fun w=>Kg al rho be w)
 have HCp:=Lib.hid (fun w' (hb:Below w.heap.size w w')=>Kd AM T cM m w' (ZA Zc _ _ _ _ hb hm) (by omega) (fun x hx=>by have:=hml x hx;omega))
 have e1:=j5 hL hok f3.1 f3.2 al
 have e2:=zBi hL hok (cs:=Z9 L pu rho rows) YU (by rw [Xy,hmT]) f4.1 f4.2
 have e3:=jv hL hok f5.1 be
 have HAn:=Lib.hid (show ∀ (AM:Option Addr) (cM:Nat) (w':World),Below w.heap.size w w'→YN w' [.slice AM T cM] m→Calls Tryz.prog 34 #[.agg (Zz L),Yr L.p (pu:Int) vars (.slice A R c), .slice AM T cM, .agg #[.slice D0 n0 k0, .slice D1 n1 k1, .slice D2 n2 k2, .slice D3 n3 k3, .slice D4 n4 k4], .agg #[.int .u64 (al:Int), .int .u64 (rho:Int), .int .u64 (be:Int)]] w' fun e w2=>∃ v1 v2 v3,e= .returned (.tuple #[v1,v2,v3]) ∧
   w2.ownsRow w'.heap.size 22 1 v1 (XW L m r co al).length (U64 (XW L m r co al))∧w2.ownsRow w'.heap.size 22 1 v2 (XV L (Z9 L pu rho rows) m r li).length (U64 (XV L (Z9 L pu rho rows) m r li))∧w2.ownsRow w'.heap.size 22 1 v3 (XN L m r qu be).length (U64 (XN L m r qu be))∧Below w'.heap.size w' w2 from fun AM cM w' hb hm'=>by
  refine (zL L pu rho al be vars A AM D0 D1 D2 D3 D4 R c T cM n0 n1 n2 n3 n4 k0 k1 k2 k3 k4 rows m r co li qu sa w' hL hF (ZA ZB _ _ _ _ hb hr) hV hm' (ZA Zc _ _ _ _ hb h0) (Zc _ _ _ _ hb h1) (Zc _ _ _ _ hb h2) (Zc _ _ _ _ hb h3) (Zc _ _ _ _ hb h4) hco hmT hml).mono ?_
  rintro e w2 ⟨v1,v2,v3,rfl,o1,o2,o3,hb'⟩
  rw [ju (by omega)] at o2
  have l1:(XW L m r co al).length=L.k:=by rw [←e1];simp
  have l2:(XV L (Z9 L pu rho rows) m r li).length=L.k+L.block-1:=by rw [←e2];simp
  have l3:(XN L m r qu be).length=2*L.k-1:=by rw [←e3];simp
  rw [e1] at o1
  rw [e2] at o2
  rw [e3] at o3
  exact ⟨v1,v2,v3,rfl,by rw [l1];exact o1,by rw [l2];exact o2,by rw [l3];exact o3,hb'⟩)
 have HTM:=Lib.hid hTm
 generalize XW L m r co al=N1 at *
 generalize XV L (Z9 L pu rho rows) m r li=N2 at *
 generalize XN L m r qu be=N3 at *
 clear f1 f2 f3 f4 f5 hok hp hla hlb hb2 hTm e1 e2 e3 hL hF hr hV hm h0 h1 h2 h3 h4 hco hmT hml
 unfold Zz Yr at *
 obtain ⟨kl,kt,kc,kx,ka,hb0,-⟩:=zHm w 39 25 42 32 46 #[.int .u64 (L.p:Int), .int .i64 (L.block:Int), .int .i64 (L.queries:Int), .int .i64 (L.k:Int), .int .i64 (L.n:Int), .int .i64 (L.secret:Int), .int .i64 (L.rows:Int), .int .i64 (L.a:Int), .int .i64 (L.b:Int), .int .i64 (L.b:Int), .int .i64 (L.b:Int)] #[.int .u64 (L.p:Int), .int .i64 (pu:Int), .int .i64 vars, .slice A R c] #[.slice D0 n0 k0, .slice D1 n1 k1, .slice D2 n2 k2, .slice D3 n3 k3, .slice D4 n4 k4] #[.int .u64 (al:Int), .int .u64 (rho:Int), .int .u64 (be:Int)] #[.slice none 0 0, .slice none 0 0, .slice none 0 0]
 go_enter Tryz.func12,Tryz.ntmps12
 go_upto_region 1 with fail
 generalize ((((w.alloc _).alloc _).alloc _).alloc _).alloc _=w1 at kl kt kc kx ka hb0 ⊢
 have cl:=kl.cell
 have ll:=kl.lt
 have ct:=kt.cell
 have lt:=kt.lt
 have cc:=kc.cell
 have lc:=kc.lt
 have cx:=kx.cell
 have lx:=kx.lt
 refine Zq (ZK) [1,4,7,8] [0,2,3,5,6,1,4,7,8,9,10,11,12,13,14,15] (by kernel_rfl) (by kernel_rfl) ?_
 refine Zp (later_moves) ?_
 intro Wc HWc hacc
 have hbW:Below w1.heap.size w1 Wc:=by rw [HWc.out];exact (Below.refl _ _).drew
 replace ka:=ka.below hbW ka.lt
 replace hb0:=Za hb0 hbW
 clear hbW
 repeat (first | (refine Zf (later_moves) rfl rfl (fun _ _ _ h=>h) ?_;simp only [Act.put,zLa,zLb,zLc]) | (refine Ze (v:=?_) (later_moves) rfl rfl (fun _ _ _ h=>h) ?_ ?_;rotate_left;(· (intro w' hR;(first | have hcells:=Zb ((later_moves).trans _ _ _ hacc hR) | skip);go_simp;try with_reducible rfl));simp only [Act.put,zLa,zLb,zLc]))
 refine Zk (later_moves) rfl rfl rfl (fun _=>by go_simp <;> rfl) ((HOf.out _).mono ?_)
 rintro e w2 ⟨rfl,hb2⟩
 refine ⟨_,rfl,hb2,?_⟩
 replace hacc:=(later_moves).trans _ _ _ hacc (hb2)
 simp only [Act.put,zLa,zLb,zLc]
 replace ka:=ka.below hb2 ka.lt
 replace hb0:=Za hb0 hb2
 clear hb2
 repeat (first | (refine Zf (later_moves) rfl rfl (fun _ _ _ h=>h) ?_;simp only [Act.put,zLa,zLb,zLc]) | (refine Ze (v:=?_) (later_moves) rfl rfl (fun _ _ _ h=>h) ?_ ?_;rotate_left;(· (intro w' hR;(first | have hcells:=Zb ((later_moves).trans _ _ _ hacc hR) | skip);go_simp;try with_reducible rfl));simp only [Act.put,zLa,zLb,zLc]))
 refine Zk (later_moves) rfl rfl rfl (fun _=>by go_simp <;> rfl) ((HCp.out _ hb0).mono ?_)
 rintro e w3 ⟨v3,rfl,h3,hb3⟩
 refine ⟨_,rfl,hb3,?_⟩
 replace hacc:=(later_moves).trans _ _ _ hacc (hb3)
 simp only [Act.put,zLa,zLb,zLc]
 replace ka:=ka.below hb3 ka.lt
 replace hb0:=Za hb0 hb3
 clear hb3
 obtain ⟨A3,n3',c3,rfl⟩:=RSl.slc h3
 have hn3:n3'=T:=by rw [←(Yi h3).1];exact HTM.out
 subst hn3
 repeat (first | (refine Zf (later_moves) rfl rfl (fun _ _ _ h=>h) ?_;simp only [Act.put,zLa,zLb,zLc]) | (refine Ze (v:=?_) (later_moves) rfl rfl (fun _ _ _ h=>h) ?_ ?_;rotate_left;(· (intro w' hR;(first | have hcells:=Zb ((later_moves).trans _ _ _ hacc hR) | skip);go_simp;try with_reducible rfl));simp only [Act.put,zLa,zLb,zLc]))
 refine Zk (later_moves) rfl rfl rfl (fun _=>by go_simp <;> rfl) ((HCh.out _).mono ?_)
 rintro e w4 ⟨rfl,hb4⟩
 refine ⟨_,rfl,hb4,?_⟩
 replace hacc:=(later_moves).trans _ _ _ hacc (hb4)
 simp only [Act.put,zLa,zLb,zLc]
 replace ka:=ka.below hb4 ka.lt
 replace hb0:=Za hb0 hb4
 replace h3:=Zx _ _ _ _ hb4 h3
 clear hb4
 repeat (first | (refine Zf (later_moves) rfl rfl (fun _ _ _ h=>h) ?_;simp only [Act.put,zLa,zLb,zLc]) | (refine Ze (v:=?_) (later_moves) rfl rfl (fun _ _ _ h=>h) ?_ ?_;rotate_left;(· (intro w' hR;(first | have hcells:=Zb ((later_moves).trans _ _ _ hacc hR) | skip);go_simp;try with_reducible rfl));simp only [Act.put,zLa,zLb,zLc]))
 have la:=ka.lt
 refine Zk (later_moves) rfl rfl rfl (fun _=>by go_simp <;> rfl) ((HAn.out _ _ _ hb0 h3).mono ?_)
 rintro e w5 ⟨v1,v2,v3,rfl,o1,o2,o3,hb5⟩
 refine ⟨_,rfl,hb5,?_⟩
 replace hacc:=(later_moves).trans _ _ _ hacc (hb5)
 simp only [Act.put,zLa,zLb,zLc]
 have hs5:w.heap.size≤w4.heap.size:=hb0.size
 replace ka:=ka.below hb5 ka.lt
 replace hb0:=Za hb0 hb5
 clear hb5 h3
 obtain ⟨A1,c1,rfl,-⟩:=Zo o1
 obtain ⟨A2,c2,rfl,-⟩:=Zo o2
 obtain ⟨A4,c4,rfl,-⟩:=Zo o3
 repeat (first | (refine Zf (later_moves) rfl rfl (fun _ _ _ h=>h) ?_;simp only [Act.put,zLa,zLb,zLc]) | (refine Ze (v:=?_) (later_moves) rfl rfl (fun _ _ _ h=>h) ?_ ?_;rotate_left;(· (intro w' hR;(first | have hcells:=Zb ((later_moves).trans _ _ _ hacc hR) | skip);go_simp;try with_reducible rfl));simp only [Act.put,zLa,zLb,zLc]))
 refine Zt ?_
 clear hacc HWc cl ll ct lt cc lc cx lx
 obtain ⟨ca,fa⟩:=ka.cells'
 go_wp2_with fail
 have hsg:=ZX (w:=w5) (g:=w.heap.size+1+1+1+1) (.slice A1 N1.length c1) (.slice A2 N2.length c2) (.slice A4 N3.length c4)
 have k3:=Ye ka (.slice A1 N1.length c1) (.slice A2 N2.length c2) (.slice A4 N3.length c4)
 replace o1:=ZQ (ZP o1 hsg (by omega)) hs5
 replace o2:=ZQ (ZP o2 hsg (by omega)) hs5
 replace o3:=ZQ (ZP o3 hsg (by omega)) hs5
 replace hb0:=hb0.trans (Zg hsg hb0.size (by omega))
 clear hsg ca fa ka
 generalize ((World.setCell _ _ _).setCell _ _).setCell _ _=wf at k3 o1 o2 o3 hb0 ⊢
 have c4':=k3.cell
 exact bodyPost_ret (v:=.agg #[.slice A1 N1.length c1, .slice A2 N2.length c2, .slice A4 N3.length c4]) (by simp [results,Tryz.results12,go_sem,c4']) rfl ⟨_,_,_,rfl,o1,o2,o3,hb0⟩
end Go.Proofs.YtakjnmojigechaaGreat
