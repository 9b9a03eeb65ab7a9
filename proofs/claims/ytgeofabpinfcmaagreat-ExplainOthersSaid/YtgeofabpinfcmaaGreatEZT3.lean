/-
  ExplainOthers, for every input: the law returns true and leaves its arguments as they were. No condition.
-/
import Derived.Test.YtgeofabpinfcmaaGreatProg
import Derived.Test.YtgeofabpinfcmaaGreatEZ35
import Derived.Test.YtgeofabpinfcmaaGreatEZ32
import Derived.Test.YtgeofabpinfcmaaGreatEZ45
import Derived.Test.YtgeofabpinfcmaaGreatRows

set_option maxRecDepth 100000
set_option maxHeartbeats 8000000
set_option linter.unusedVariables false
set_option linter.unusedSimpArgs false
namespace Go.Proofs.YtgeofabpinfcmaaGreat
open Go.RowKit
section
variable {L:Ja} {pu:Nat} {vars:Int} {rows:List Cb} {ws vs:List Nat} {pos:List Int} {r:List (List Nat)} {co li qu sa:List Nat} {al rho be:Nat}
theorem pY {s:List (List Nat)} {co' li' qu' dD:List Nat} (h:ExOk L pu vars rows ws vs pos) (rho al be:Nat) (Xb:Ze L r co li qu sa=true) (tH:Ze L s co' li' qu' dD=true) :
  (decide (zd L (Ia L rows ws pu) r (Ia L rows vs pu) co li qu pos=zd L (Ia L rows ws pu) s (Ia L rows vs pu) co' li' qu' pos)&&(decide (Zf L (Ia L rows ws pu) r (Ia L rows vs pu) co li qu pos al=Zf L (Ia L rows ws pu) s (Ia L rows vs pu) co' li' qu' pos al)&&(decide (Tf L (Tc L pu rho rows) (Ia L rows ws pu) r (Ia L rows vs pu) co li qu pos=Tf L (Tc L pu rho rows) (Ia L rows ws pu) s (Ia L rows vs pu) co' li' qu' pos)&&(decide (Uf L (Ia L rows ws pu) r (Ia L rows vs pu) co li qu pos be=Uf L (Ia L rows ws pu) s (Ia L rows vs pu) co' li' qu' pos be)&&decide (sa=dD)))))=(decide (r=s)&&(decide (co=co')&&(decide (li=li')&&(decide (qu=qu')&&decide (sa=dD))))):=by
 have hc:=h.case rho al be Xb;have Gl:=h.case rho al be tH;obtain ⟨b1,b2,b3,b4⟩:=hc.back (h.ans rho al be Xb);obtain ⟨a1,a2,a3,a4⟩:=Gl.back (h.ans rho al be tH);rw [Bool.eq_iff_iff];simp only [Bool.and_eq_true,decide_eq_true_eq];constructor
 ·rintro ⟨e1,e2,e3,e4,e5⟩
  rw [e1,e2,e3,e4] at b1 b2 b3 b4;exact ⟨b1.symm.trans a1,b2.symm.trans a2,b3.symm.trans a3,b4.symm.trans a4,e5⟩
 ·rintro ⟨rfl,rfl,rfl,rfl,rfl⟩
  exact ⟨rfl,rfl,rfl,rfl,rfl⟩
end
theorem oY {L:Ja} {pu:Nat} {vars:Int} {rows:List Cb} {ws vs:List Nat} {pos:List Int} {r s:List (List Nat)} {co li qu sa co' li' qu' dD:List Nat} (h:ExOk L pu vars rows ws vs pos) (rho al be:Nat) (Xb:Ze L r co li qu sa=true) (tH:Ze L s co' li' qu' dD=true) (A0 A1 A2 A3 A4 B0 B1 B2 B3 B4:Option Addr) (n0 n1 n2 n3 n4 c0 c1 c2 c3 c4 m0 m1 m2 m3 m4 d0 d1 d2 d3 d4:Nat) (w:World)
  (h0:Sb w [.slice A0 n0 c0] (zd L (Ia L rows ws pu) r (Ia L rows vs pu) co li qu pos)) (h1:RWd w [.slice A1 n1 c1] (Zf L (Ia L rows ws pu) r (Ia L rows vs pu) co li qu pos al)) (h2:RWd w [.slice A2 n2 c2] (Tf L (Tc L pu rho rows) (Ia L rows ws pu) r (Ia L rows vs pu) co li qu pos)) (h3:RWd w [.slice A3 n3 c3] (Uf L (Ia L rows ws pu) r (Ia L rows vs pu) co li qu pos be)) (h4:RWd w [.slice A4 n4 c4] sa)
  (k0:Sb w [.slice B0 m0 d0] (zd L (Ia L rows ws pu) s (Ia L rows vs pu) co' li' qu' pos)) (k1:RWd w [.slice B1 m1 d1] (Zf L (Ia L rows ws pu) s (Ia L rows vs pu) co' li' qu' pos al)) (k2:RWd w [.slice B2 m2 d2] (Tf L (Tc L pu rho rows) (Ia L rows ws pu) s (Ia L rows vs pu) co' li' qu' pos)) (k3:RWd w [.slice B3 m3 d3] (Uf L (Ia L rows ws pu) s (Ia L rows vs pu) co' li' qu' pos be)) (k4:RWd w [.slice B4 m4 d4] dD) :
  Calls Tryz.prog 18 #[.agg #[.slice A0 n0 c0, .slice A1 n1 c1, .slice A2 n2 c2, .slice A3 n3 c3, .slice A4 n4 c4], .agg #[.slice B0 m0 d0, .slice B1 m1 d1, .slice B2 m2 d2, .slice B3 m3 d3, .slice B4 m4 d4]] w fun e w'=>e= .returned (.bool (decide (r=s)&&(decide (co=co')&&(decide (li=li')&&(decide (qu=qu')&&decide (sa=dD)))))) /\ Below w.heap.size w w':=by
 have:=qI A0 A1 A2 A3 A4 B0 B1 B2 B3 B4 n0 c0 n1 c1 n2 c2 n3 c3 n4 c4 m0 d0 m1 d1 m2 d2 m3 d3 m4 d4 _ _ _ _ _ _ _ _ _ _ w h0 h1 h2 h3 h4 k0 k1 k2 k3 k4;rw [pY h rho al be Xb tH] at this;exact this
theorem iW (W:World) (ze:Array Value) (f0:Fits Tryz.prog W 35 (Value.agg ze).cells.toList) (n1:Int) (f1:(Lit.int .u64 n1).wf=true) :
  Calls Tryz.prog 5 #[.agg ze, .int .u64 n1] W fun e W'=>e= .returned (.bool true) /\ Below W.heap.size W W':=by
 obtain ⟨p,pub,vars,A,B,B2,P,n,c,m,d,m2,d2,np,cp,rows,ws,vs,bl,bw,qs,seed,al,rho,be,pos,rfl,Ub⟩:=TH f0;clear f0;obtain ⟨fD,rfl,hsd2⟩:=CN f1;have HSD:=zH hsd2;clear f1 hsd2;have Xm:=zH (fun w' (hb:Below W.heap.size W w')=>xI p pub vars A B B2 P n c m d m2 d2 np cp rows ws vs bl bw qs seed al rho be pos w' Ub.p Ub.seed (Kc Gc _ _ _ _ hb Ub.rows) (ta hb Ub.ws) (ta hb Ub.vs) (pf _ _ _ _ hb Ub.pos))
 have rj:=zH (fun w=>UG w)
 have Vj:=zH Ub;clear Ub;unfold Lk at *;have kb:=Blk.new W 35 #[.int .u64 p, .int .i64 pub, .int .i64 vars, .slice A n c, .int .i64 bl, .int .i64 bw, .int .i64 qs, .slice B m d, .slice B2 m2 d2, .int .u64 seed, .int .u64 al, .int .u64 rho, .int .u64 be, .slice P np cp];have da:Below W.heap.size W (W.alloc (.cells #[.int .u64 p, .int .i64 pub, .int .i64 vars, .slice A n c, .int .i64 bl, .int .i64 bw, .int .i64 qs, .slice B m d, .slice B2 m2 d2, .int .u64 seed, .int .u64 al, .int .u64 rho, .int .u64 be, .slice P np cp] 35)):=(Below.refl _ W).alloc zR _;go_enter Tryz.func5,Tryz.ntmps5
 go_upto_region 1 with fail
 generalize W.alloc _=w0 at da kb |-;go_wp2_with fail
 refine (rj.out _).mono ?_;rintro e w1 ⟨rfl,Ga⟩;replace kb:=ia kb Ga;replace da:=oa da Ga;clear Ga rj;have IA:=kb.cell;go_wp2_with fail
 refine (Xm.out _ da).mono ?_;rintro e w2 ⟨Jj,Ka⟩;unfold mu at Jj;obtain ⟨y0,y1,y2,y3,y4,y5,y6,y7,y8,y9,Wd,b,A0,A1,A2,A3,A4,n0,n1,n2,n3,n4,c0,c1,c2,c3,c4,rfl,hT⟩:=Jj;have HT:=zH hT;replace kb:=ia kb Ka;replace da:=oa da Ka;clear Ka Xm IA hT;obtain ⟨kl,kc,ea,-⟩:=Ue w2 39 42 #[.int .u64 y0, .int .i64 y1, .int .i64 y2, .int .i64 y3, .int .i64 y4, .int .i64 y5, .int .i64 y6, .int .i64 y7, .int .i64 y8, .int .i64 y9, .int .i64 Wd] #[.slice A0 n0 c0, .slice A1 n1 c1, .slice A2 n2 c2, .slice A3 n3 c3, .slice A4 n4 c4];go_upto_region 4 with fail
 generalize (w2.alloc _).alloc _=w3 at kl kc ea |-;replace kb:=ia kb ea;replace da:=oa da ea;generalize w2.heap.size+1=gc at kc |-;obtain ⟨gl,xk⟩:=zEX (w2.heap.size);rw [<- xk] at kl |-;clear xk;cases b
 ·clear HT kl kc kb ea Vj
  go_wp2;go_ret
  exact ⟨rfl,da⟩
 obtain ⟨L,pu,rfl,qe,k⟩:=HT.out rfl;clear HT;rw [<- qe] at kl;clear qe;replace k:=vI ea k;obtain rfl:p=L.p:=k.pe.symm;have Ta:=k.ok;have gg:=k.lf;have df:=k.lv;have Ed:=Va Ta.hL.p;have Xb:=MA L seed (by omega)
 have Fo:=k.err;have r0:=k.r;have r1:=k.co;have r2:=k.li;have r3:=k.qu;have r4:=k.sa;have Ub:=Vj.out;have ig:=Kc Gc _ _ _ _ da Ub.rows;have Bk:=ta da Ub.ws;have ph:=ta da Ub.vs;have ah:=pf _ _ _ _ da Ub.pos;have Gm:=Ub.seed;clear Ub Vj k ea;have IK:=MA L fD (by omega)
 have Zk:=zH (fun w=>dS L fD w Ta.hL HSD.out)
 generalize Dk L seed (L.a+L.b+L.b+L.b)=Y0 at *;generalize Gd L.p seed [1] L.k=Y1 at *;generalize Gd L.p seed [2] (L.k+L.block-2)=Y2 at *;generalize Gd L.p seed [3] (L.block+2*L.queries-1)=Y3 at *;generalize Gd Kd seed [4] L.n=Y4 at *;generalize Dk L fD (L.a+L.b+L.b+L.b)=Z0 at *;generalize Gd L.p fD [1] L.k=Z1 at *;generalize Gd L.p fD [2] (L.k+L.block-2)=Z2 at *;generalize Gd L.p fD [3] (L.block+2*L.queries-1)=Z3 at *;generalize Gd Kd fD [4] L.n=Z4 at *;have yc:=zH (fun (D0 D1 D2 D3 D4:Option Addr) n0 n1 n2 n3 n4 k0 k1 k2 k3 k4 w' (hb:Below w3.heap.size w3 w') h0 h1 h2 h3 h4=>SD Ta gg Fo Xb df seed A B B2 P D0 D1 D2 D3 D4 n c m d m2 d2 np cp n0 n1 n2 n3 n4 k0 k1 k2 k3 k4 w' (Kc Gc _ _ _ _ hb ig) (ta hb Bk) (ta hb ph) (pf _ _ _ _ hb ah) h0 h1 h2 h3 h4)
 have Uj:=zH (fun (D0 D1 D2 D3 D4:Option Addr) n0 n1 n2 n3 n4 k0 k1 k2 k3 k4 w' (hb:Below w3.heap.size w3 w') h0 h1 h2 h3 h4=>SD Ta gg Fo IK df seed A B B2 P D0 D1 D2 D3 D4 n c m d m2 d2 np cp n0 n1 n2 n3 n4 k0 k1 k2 k3 k4 w' (Kc Gc _ _ _ _ hb ig) (ta hb Bk) (ta hb ph) (pf _ _ _ _ hb ah) h0 h1 h2 h3 h4)
 have HSA:=zH (fun A0 A1 A2 A3 A4 B0 B1 B2 B3 B4 n0 n1 n2 n3 n4 c0 c1 c2 c3 c4 m0 m1 m2 m3 m4 d0 d1 d2 d3 d4 w h0 h1 h2 h3 h4 k0 k1 k2 k3 k4=>oY Ta rho al be Xb IK A0 A1 A2 A3 A4 B0 B1 B2 B3 B4 n0 n1 n2 n3 n4 c0 c1 c2 c3 c4 m0 m1 m2 m3 m4 d0 d1 d2 d3 d4 w h0 h1 h2 h3 h4 k0 k1 k2 k3 k4)
 have HSB:=zH (fun A0 A1 A2 A3 A4 B0 B1 B2 B3 B4 n0 n1 n2 n3 n4 c0 c1 c2 c3 c4 m0 m1 m2 m3 m4 d0 d1 d2 d3 d4 w h0 h1 h2 h3 h4 k0 k1 k2 k3 k4=>qI A0 A1 A2 A3 A4 B0 B1 B2 B3 B4 n0 c0 n1 c1 n2 c2 n3 c3 n4 c4 m0 d0 m1 d1 m2 d2 m3 d3 m4 d4 Y0 Z0 Y1 Y2 Y3 Y4 Z1 Z2 Z3 Z4 w h0 h1 h2 h3 h4 k0 k1 k2 k3 k4)
 generalize (decide (Y0=Z0)&&(decide (Y1=Z1)&&(decide (Y2=Z2)&&(decide (Y3=Z3)&&decide (Y4=Z4)))))=bb at HSA HSB;clear Ta gg df Ed Xb IK Fo ig Bk ph ah Gm HSD;generalize zd L (Ia L rows ws pu) Y0 (Ia L rows vs pu) Y1 Y2 Y3 pos=XR at *;generalize Zf L (Ia L rows ws pu) Y0 (Ia L rows vs pu) Y1 Y2 Y3 pos al=XC at *;generalize Tf L (Tc L pu rho rows) (Ia L rows ws pu) Y0 (Ia L rows vs pu) Y1 Y2 Y3 pos=XL at *;generalize Uf L (Ia L rows ws pu) Y0 (Ia L rows vs pu) Y1 Y2 Y3 pos be=XQ at *;generalize zd L (Ia L rows ws pu) Z0 (Ia L rows vs pu) Z1 Z2 Z3 pos=TR at *;generalize Zf L (Ia L rows ws pu) Z0 (Ia L rows vs pu) Z1 Z2 Z3 pos al=TC at *;generalize Tf L (Tc L pu rho rows) (Ia L rows ws pu) Z0 (Ia L rows vs pu) Z1 Z2 Z3 pos=TL at *;generalize Uf L (Ia L rows ws pu) Z0 (Ia L rows vs pu) Z1 Z2 Z3 pos be=TQ at *;unfold Lk Ya at *;have dc:=Below.refl w3.heap.size w3;have cl:=kl.cell;go_wp2_with fail
 refine (Zk.out _).mono ?_;rintro e w4 ⟨v0,v1,v2,v3,v4,rfl,q0,q1,q2,q3,q4,ea⟩;replace kb:=ia kb ea;replace kl:=ia kl ea;replace kc:=ia kc ea;replace da:=oa da ea;replace dc:=oa dc ea;replace r0:=Gb ea r0;replace r1:=ta ea r1;replace r2:=ta ea r2;replace r3:=ta ea r3;replace r4:=ta ea r4;clear ea Zk cl;obtain ⟨O0,o0,g0,e0,-⟩:=id q0;obtain ⟨O1,o1,g1,e1,-⟩:=id q1;obtain ⟨O2,o2,g2,e2,-⟩:=id q2;obtain ⟨O3,o3,g3,e3,-⟩:=id q3;obtain ⟨O4,o4,g4,e4,-⟩:=id q4;simp only [List.cons.injEq,and_true] at e0 e1 e2 e3 e4;subst e0 e1 e2 e3 e4;go_upto_region 7 with fail
 have ko:=Blk.new w4 42 #[.slice O0 o0 g0, .slice O1 o1 g1, .slice O2 o2 g2, .slice O3 o3 g3, .slice O4 o4 g4];have ma:=(Below.refl w4.heap.size w4).alloc zR (.cells #[.slice O0 o0 g0, .slice O1 o1 g1, .slice O2 o2 g2, .slice O3 o3 g3, .slice O4 o4 g4] 42);replace kb:=ia kb ma;replace kl:=ia kl ma;replace kc:=ia kc ma;replace da:=oa da ma;replace dc:=oa dc ma;replace r0:=Gb ma r0;replace r1:=ta ma r1;replace r2:=ta ma r2;replace r3:=ta ma r3;replace r4:=ta ma r4;replace q0:=Gb ma q0;replace q1:=ta ma q1;replace q2:=ta ma q2;replace q3:=ta ma q3;replace q4:=ta ma q4;clear ma;generalize w4.alloc _=w5 at kb kl kc ko da dc r0 r1 r2 r3 r4 q0 q1 q2 q3 q4 |-;generalize w4.heap.size=go at ko |-;have cb:=kb.cell;have cc:=kc.cell;go_wp2_with fail
 refine (yc.out _ _ _ _ _ _ _ _ _ _ _ _ _ _ _ _ dc r0 r1 r2 r3 r4).mono ?_;rintro e w6 ⟨⟨F0,F1,F2,F3,F4,m0,m1,zr,m3,m4,u0,u1,u2,u3,u4,rfl,s0,s1,s2,s3,s4⟩,ea⟩;replace kb:=ia kb ea;replace kl:=ia kl ea;replace kc:=ia kc ea;replace ko:=ia ko ea;replace da:=oa da ea;replace dc:=oa dc ea;replace r0:=Gb ea r0;replace r1:=ta ea r1;replace r2:=ta ea r2;replace r3:=ta ea r3;replace r4:=ta ea r4;replace q0:=Gb ea q0;replace q1:=ta ea q1;replace q2:=ta ea q2;replace q3:=ta ea q3;replace q4:=ta ea q4;clear ea yc cb cc;go_upto_region 8 with fail
 have kd:=Blk.new w6 42 #[.slice F0 m0 u0, .slice F1 m1 u1, .slice F2 zr u2, .slice F3 m3 u3, .slice F4 m4 u4];have ma:=(Below.refl w6.heap.size w6).alloc zR (.cells #[.slice F0 m0 u0, .slice F1 m1 u1, .slice F2 zr u2, .slice F3 m3 u3, .slice F4 m4 u4] 42);replace kb:=ia kb ma;replace kl:=ia kl ma;replace kc:=ia kc ma;replace ko:=ia ko ma;replace da:=oa da ma;replace dc:=oa dc ma;replace r0:=Gb ma r0;replace r1:=ta ma r1;replace r2:=ta ma r2;replace r3:=ta ma r3;replace r4:=ta ma r4;replace q0:=Gb ma q0;replace q1:=ta ma q1;replace q2:=ta ma q2;replace q3:=ta ma q3;replace q4:=ta ma q4;replace s0:=Gb ma s0;replace s1:=ta ma s1;replace s2:=ta ma s2;replace s3:=ta ma s3;replace s4:=ta ma s4;clear ma;generalize w6.alloc _=w7 at kb kl kc ko kd da dc r0 r1 r2 r3 r4 q0 q1 q2 q3 q4 s0 s1 s2 s3 s4 |-;generalize w6.heap.size=gd at kd |-;have cb:=kb.cell;have co:=ko.cell;go_wp2_with fail
 refine (Uj.out _ _ _ _ _ _ _ _ _ _ _ _ _ _ _ _ dc q0 q1 q2 q3 q4).mono ?_;rintro e w8 ⟨⟨G0,G1,G2,G3,G4,l0,l1,l2,l3,l4,i0,i1,i2,i3,i4,rfl,t0,t1,t2,t3,t4⟩,ea⟩;replace kb:=ia kb ea;replace kl:=ia kl ea;replace kc:=ia kc ea;replace ko:=ia ko ea;replace kd:=ia kd ea;replace da:=oa da ea;replace dc:=oa dc ea;replace r0:=Gb ea r0;replace r1:=ta ea r1;replace r2:=ta ea r2;replace r3:=ta ea r3;replace r4:=ta ea r4;replace q0:=Gb ea q0;replace q1:=ta ea q1;replace q2:=ta ea q2;replace q3:=ta ea q3;replace q4:=ta ea q4;replace s0:=Gb ea s0;replace s1:=ta ea s1;replace s2:=ta ea s2;replace s3:=ta ea s3;replace s4:=ta ea s4;clear ea Uj cb co;go_upto_region 9 with fail
 have kf:=Blk.new w8 42 #[.slice G0 l0 i0, .slice G1 l1 i1, .slice G2 l2 i2, .slice G3 l3 i3, .slice G4 l4 i4];have ma:=(Below.refl w8.heap.size w8).alloc zR (.cells #[.slice G0 l0 i0, .slice G1 l1 i1, .slice G2 l2 i2, .slice G3 l3 i3, .slice G4 l4 i4] 42);replace kb:=ia kb ma;replace kl:=ia kl ma;replace kc:=ia kc ma;replace ko:=ia ko ma;replace kd:=ia kd ma;replace da:=oa da ma;replace dc:=oa dc ma;replace r0:=Gb ma r0;replace r1:=ta ma r1;replace r2:=ta ma r2;replace r3:=ta ma r3;replace r4:=ta ma r4;replace q0:=Gb ma q0;replace q1:=ta ma q1;replace q2:=ta ma q2;replace q3:=ta ma q3;replace q4:=ta ma q4;replace s0:=Gb ma s0;replace s1:=ta ma s1;replace s2:=ta ma s2;replace s3:=ta ma s3;replace s4:=ta ma s4;replace t0:=Gb ma t0;replace t1:=ta ma t1;replace t2:=ta ma t2;replace t3:=ta ma t3;replace t4:=ta ma t4;clear ma;generalize w8.alloc _=w9 at kb kl kc ko kd kf da dc r0 r1 r2 r3 r4 q0 q1 q2 q3 q4 s0 s1 s2 s3 s4 t0 t1 t2 t3 t4 |-;generalize w8.heap.size=gf at kf |-;have cc:=kc.cell;have lc:=kc.lt;have co:=ko.cell;have lo:=ko.lt;have cd:=kd.cell;have ld:=kd.lt;have cf:=kf.cell;have lf:=kf.lt;refine Rc (Ib) [9,12] [0,1,2,3,4,5,6,7,8,10,11,9,12,13,14,15] (by kernel_rfl) (by kernel_rfl) ?_
 refine vd (xa) ?_;intro Wc Na ja;have ya:=Cc Na;replace da:=oa da ya;replace r0:=Gb ya r0;replace r1:=ta ya r1;replace r2:=ta ya r2;replace r3:=ta ya r3;replace r4:=ta ya r4;replace q0:=Gb ya q0;replace q1:=ta ya q1;replace q2:=ta ya q2;replace q3:=ta ya q3;replace q4:=ta ya q4;replace s0:=Gb ya s0;replace s1:=ta ya s1;replace s2:=ta ya s2;replace s3:=ta ya s3;replace s4:=ta ya s4;replace t0:=Gb ya t0;replace t1:=ta ya t1;replace t2:=ta ya t2;replace t3:=ta ya t3;replace t4:=ta ya t4;clear ya;refine pb ?_;refine Mb (xa) rfl rfl rfl (fun _=>by go_simp <;> rfl) ((HSA.out _ _ _ _ _ _ _ _ _ _ _ _ _ _ _ _ _ _ _ _ _ _ _ _ _ _ _ _ _ _ _ s0 s1 s2 s3 s4 t0 t1 t2 t3 t4).mono ?_)
 rintro e Mr ⟨rfl,ea⟩;refine ⟨_,rfl,ea,?_⟩;replace ja:=(xa).trans _ _ _ ja (ea);simp only [Act.put,zLa,zLb,zLc];replace da:=oa da ea;replace r0:=Gb ea r0;replace r1:=ta ea r1;replace r2:=ta ea r2;replace r3:=ta ea r3;replace r4:=ta ea r4;replace q0:=Gb ea q0;replace q1:=ta ea q1;replace q2:=ta ea q2;replace q3:=ta ea q3;replace q4:=ta ea q4;clear ea;refine pb ?_;refine Mb (xa) rfl rfl rfl (fun _=>by go_simp <;> rfl) ((HSB.out _ _ _ _ _ _ _ _ _ _ _ _ _ _ _ _ _ _ _ _ _ _ _ _ _ _ _ _ _ _ _ r0 r1 r2 r3 r4 q0 q1 q2 q3 q4).mono ?_)
 rintro e w13 ⟨rfl,ea⟩;refine ⟨_,rfl,ea,?_⟩;replace ja:=(xa).trans _ _ _ ja (ea);simp only [Act.put,zLa,zLb,zLc];replace da:=oa da ea;clear ea;refine pb ?_;refine Fc ?_;clear ja;go_wp2;go_ret
 refine ⟨?_,da⟩;simp
end Go.Proofs.YtgeofabpinfcmaaGreat
namespace Go.Proofs.YtgeofabpinfcmaaGreat.explainOthers
open Go.ChangeShapes Go.WideShapes Go.ChangeAt Go.RowKit
open Go.ChangeMaps (open_string shut_string)

theorem own:ownKnob Tryz.prog.godebug=none:=by kernel_rfl
theorem laidOut:laidOutB Tryz.prog=true:=by kernel_rfl
theorem lifted (os:Os) (started:os.Started) (H:Type) (enc:TypeId × Value -> H) :
  ReturnsInHanded {} Tryz.checked os 5 .any (Rows.explainOthersSpec.pre6 enc Tryz.prog Tryz.f5 Rows.explainOthersRow.domain false) (Rows.explainOthersSpec.post enc Tryz.prog Tryz.f5 false true false false):=by
 refine returnsInHanded_of_change (C:=Tryz.checked) own started (by kernel_rfl) Tryz.func5
  (ChangeSpec.witness6 (enc:=enc) (C:=Tryz.checked) false ⟨#[],#[.agg #[.int .u64 0, .int .i64 0, .int .i64 0, .slice none 0 0, .int .i64 0, .int .i64 0, .int .i64 0, .slice none 0 0, .slice none 0 0, .int .u64 0, .int .u64 0, .int .u64 0, .int .u64 0, .slice none 0 0], .int .u64 0],[]⟩ 12 (by kernel_rfl) (by kernel_rfl) (by kernel_rfl) (by kernel_rfl)) ?_
 intro W base args ds gs before wt hW hcnd _;have Lj:∀ (j:Nat) t v,Tryz.f5.params[j]?=some t -> args[j]?=some v -> Value.okWide Tryz.prog W .any base t v:=wt;have DB:=hW;obtain ⟨p,q,Ps,hV,rfl,hfz,hnd⟩:=hW;have hA:DataW.TrodAll enc Tryz.prog W 0 (fun _=>true) true Tryz.f5.params.toList args.toList ds p:=Ps
 rw [Tryz.params5] at hA Lj;obtain ⟨v0,vs0,d0,ds0,p0,q0,BK,rfl,rfl,h0,r0⟩:=trodAll_cons hA;obtain ⟨v1,vs1,d1,ds1,p1,q1,rfl,rfl,rfl,h1,r1⟩:=trodAll_cons r0;obtain ⟨rfl,rfl,rfl⟩:=trodAll_nil r1;obtain rfl:args=#[v0,v1]:=by cases args;simp_all
 obtain ⟨rfl,rfl⟩:=trodVars_none hV;have GC:∀ x∈p0,x.block<W.heap.size:=by obtain ⟨m,hm⟩:=h0;exact DataW.trod_lt m _ _ _ hm
 have k0:=h0;have lt1:∀ x∈p1,x.block<W.heap.size:=by obtain ⟨m,hm⟩:=h1;exact DataW.trod_lt m _ _ _ hm
 have k1:=h1;obtain ⟨ze,rfl,z0⟩:=okWide_struct Tryz.underlying35 (Lj 0 35 v0 rfl rfl);obtain ⟨a1,rfl,rfl,rfl,w1⟩:=open_int Tryz.underlying22 (Lj 1 22 _ rfl rfl) h1;clear Ps wt;refine (iW W ze (Fits.of_trod k0) a1 w1).mono fun e W' ⟨he,so⟩=>?_
 subst he;exact ⟨_,rfl,_,_,_,[],_,[],DB,trodAll_mk1 (shut_bool Tryz.underlying4 _),(trodAll_cons_mk (Below.trod laidOut (by kernel_rfl) (of_decide_eq_true (by kernel_rfl)) k0 so GC) (trodAll_cons_mk (Below.trod laidOut (by kernel_rfl) (of_decide_eq_true (by kernel_rfl)) k1 so lt1) trodAll_mk0)),rfl,so.frame _,fun h=>by cases h⟩
theorem j1:(Rows.explainOthersRow.wf (OpenSpec.ofChange Rows.explainOthersSpec))=true:=by kernel_rfl
theorem j2:(laidOutB Tryz.pinned.checked.prog)=true:=by kernel_rfl
theorem j3:(mapsRowed Tryz.pinned.checked.prog)=true:=by kernel_rfl
theorem j4:(Tryz.f5.params.all (Tryz.pinned.checked.prog.readableRec ·))=true:=by kernel_rfl
theorem j5:(namedTie Tryz.pinned.checked.prog Rows.explainOthersRow.named Rows.explainOthersSpec.vars)=true:=by kernel_rfl
theorem j6:((Rows.explainOthersRow.stops == []))=true:=by kernel_rfl
theorem j7:((Tryz.pinned.checked.prog.stops == []))=true:=by kernel_rfl
theorem j8:((Rows.explainOthersRow.knobs == []))=true:=by kernel_rfl
theorem j9:((Tryz.pinned.checked.prog.stopKnobs == []))=true:=by kernel_rfl
theorem j10:((Rows.explainOthersRow.inPlace == Tryz.pinned.checked.prog.inPlace 5))=true:=by kernel_rfl
theorem j11:((Rows.explainOthersRow.unfollowed == Tryz.pinned.checked.prog.unfollowed 5))=true:=by kernel_rfl
theorem j12:((Rows.explainOthersRow.recurses == Tryz.pinned.checked.prog.recurses 5))=true:=by kernel_rfl
theorem j13:((Rows.explainOthersRow.named == Tryz.pinned.checked.prog.varsNamed 5))=true:=by kernel_rfl
theorem j14:((Rows.explainOthersRow.maps == (Tryz.f5.params.toList++Rows.explainOthersSpec.plain.varTypes Tryz.pinned.checked.prog).any (Tryz.pinned.checked.prog.mapsRec ·)))=true:=by kernel_rfl
theorem j15:((Rows.explainOthersRow.ifaces == (Tryz.f5.params.toList++Rows.explainOthersSpec.plain.varTypes Tryz.pinned.checked.prog).any (Tryz.pinned.checked.prog.ifacesRec ·)))=true:=by kernel_rfl
theorem j16:((Rows.explainOthersRow.mapsOut == Tryz.pinned.checked.prog.mapsAmong Tryz.f5.resultTypes.toList))=true:=by kernel_rfl
theorem j17:((Rows.explainOthersRow.loops == (Tryz.f5.params.toList++Rows.explainOthersSpec.plain.varTypes Tryz.pinned.checked.prog).any (Tryz.pinned.checked.prog.loopsFrom ·)))=true:=by kernel_rfl
theorem j18:((Rows.explainOthersRow.wideKeys == (Tryz.f5.params.toList++Rows.explainOthersSpec.plain.varTypes Tryz.pinned.checked.prog++Tryz.f5.resultTypes.toList).any (Tryz.pinned.checked.prog.wideKeysFrom ·)))=true:=by kernel_rfl
theorem j19:(Rows.explainOthersSpec.vars.all (Tryz.pinned.checked.prog.varReadable ·))=true:=by kernel_rfl
theorem j20:(Tryz.f5.resultTypes.all (fun t=>Tryz.pinned.checked.prog.readableRec t&&decide (t<Tryz.pinned.checked.prog.types.size)))=true:=by kernel_rfl
theorem j21:((Rows.explainOthersRow.ifacesOut == Tryz.f5.resultTypes.toList.any (Tryz.pinned.checked.prog.ifacesRec ·)))=true:=by kernel_rfl
theorem j22:((Rows.explainOthersRow.loopsOut == Tryz.f5.resultTypes.toList.any (Tryz.pinned.checked.prog.loopsFrom ·)))=true:=by kernel_rfl
theorem j23:((Rows.explainOthersRow.plainKeys == Tryz.pinned.checked.prog.plainKeys))=true:=by kernel_rfl
theorem j24:(Rows.explainOthersRow.shortTexts.isNone)=true:=by kernel_rfl
theorem j25:(Tryz.pinned.checked.prog.stopsHeard)=true:=by kernel_rfl
theorem j26:(Tryz.pinned.checked.prog.mayEnter)=true:=by kernel_rfl
theorem j27:((Rows.explainOthersRow.lifted == Tryz.pinned.checked.prog.liftsFinal))=true:=by kernel_rfl
theorem j28:((Tryz.pinned.checked.prog.make == some Rows.explainOthersRow.make))=true:=by kernel_rfl
theorem j29:((Rows.explainOthersRow.kinds == (if Rows.explainOthersRow.domain.isEmpty then [] else Tryz.f5.params.toList.map fun t=>match Tryz.pinned.checked.prog.underlying t with | some (.int k)=>some k | _=>none)))=true:=by kernel_rfl
theorem j30:((Rows.explainOthersRow.pinned == Rows.explainOthersRow.pinnedBy))=true:=by kernel_rfl
theorem j31:((Rows.explainOthersRow.veiled == (Tryz.f5.params.toList++Rows.explainOthersSpec.plain.varTypes Tryz.pinned.checked.prog++Tryz.f5.resultTypes.toList).any (Tryz.pinned.checked.prog.veiledRec ·)))=true:=by kernel_rfl
theorem j32:(Rows.explainOthersRow.veiledFits Tryz.pinned.checked.prog Tryz.f5.params.toList (Tryz.f5.params.toList++Rows.explainOthersSpec.plain.varTypes Tryz.pinned.checked.prog++Tryz.f5.resultTypes.toList))=true:=by kernel_rfl
theorem over:Rows.explainOthersRow.holds Tryz.pinned (OpenSpec.ofChange Rows.explainOthersSpec) :=
 OpenClaim.holds_of_wide 5 Tryz.f5 rfl rfl rfl rfl rfl rfl rfl ⟨rfl,rfl,rfl,rfl,rfl⟩ rfl rfl rfl rfl rfl (by kernel_rfl) Tryz.func5 (GH j1 j2 j3 j4 j5 j6 j7 j8 j9 j10 j11 j12 j13 j14 j15 j16 j17 j18 j19 j20 j21 j22 j23 j24 j25 j26 j27 j28 j29 j30 j31 j32)
  (of_decide_eq_true (by kernel_rfl)) (by unfold Func.isWrapper;first | (rw [if_pos (by decide +kernel)];kernel_rfl) | (rw [if_neg (by decide +kernel)];exact ⟨rfl,rfl⟩))
  (fun os started H enc _=>lifted os started H enc)
theorem proved:Rows.ExplainOthersSaid:=over
#print axioms proved
end Go.Proofs.YtgeofabpinfcmaaGreat.explainOthers
