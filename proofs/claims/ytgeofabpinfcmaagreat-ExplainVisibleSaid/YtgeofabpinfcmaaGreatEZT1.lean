/-
  ExplainVisible, for every input: the law returns true and leaves its arguments as they were. No condition.
-/
import Derived.Test.YtgeofabpinfcmaaGreatProg
import Derived.Test.YtgeofabpinfcmaaGreatEZ45
import Derived.Test.YtgeofabpinfcmaaGreatRows
import Derived.Test.YtgeofabpinfcmaaGreatEZ32

set_option maxRecDepth 100000
set_option maxHeartbeats 8000000
set_option linter.unusedVariables false
set_option linter.unusedSimpArgs false
namespace Go.Proofs.YtgeofabpinfcmaaGreat
open Go.RowKit
section
variable {L:Ja} {pu:Nat} {vars:Int} {rows:List Cb} {ws vs:List Nat} {pos:List Int} {r:List (List Nat)} {co li qu sa:List Nat} {al rho be:Nat}
theorem fZ (h:ExOk L pu vars rows ws vs pos) (Xb:Ze L r co li qu sa=true) (D0 D1 D2 D3 D4:Option Addr) (n0 n1 n2 n3 n4 k0 k1 k2 k3 k4:Nat) (w:World)
  (h0:Sb w [.slice D0 n0 k0] r) (h1:RWd w [.slice D1 n1 k1] co) (h2:RWd w [.slice D2 n2 k2] li) (h3:RWd w [.slice D3 n3 k3] qu) (h4:RWd w [.slice D4 n4 k4] sa) :
  Calls Tryz.prog 13 #[.agg (Ya L), .agg #[.slice D0 n0 k0, .slice D1 n1 k1, .slice D2 n2 k2, .slice D3 n3 k3, .slice D4 n4 k4]] w fun e w'=>e= .returned (.bool true) /\ Below w.heap.size w w':=by
 have:=CL L D0 D1 D2 D3 D4 n0 k0 n1 k1 n2 k2 n3 k3 n4 k4 _ _ _ _ _ w h.hL h0 h1 h2 h3 h4;rw [Xb] at this;exact this
theorem J3 (h:ExOk L pu vars rows ws vs pos) (Xb:Ze L r co li qu sa=true) (D0 D1 D2 D3 D4:Option Addr) (n0 n1 n2 n3 n4 k0 k1 k2 k3 k4:Nat) (w:World)
  (h0:Sb w [.slice D0 n0 k0] r) (h1:RWd w [.slice D1 n1 k1] co) (h2:RWd w [.slice D2 n2 k2] li) (h3:RWd w [.slice D3 n3 k3] qu) (h4:RWd w [.slice D4 n4 k4] sa) :
  Calls Tryz.prog 14 #[.agg (Ya L), .agg #[.slice D0 n0 k0, .slice D1 n1 k1, .slice D2 n2 k2, .slice D3 n3 k3, .slice D4 n4 k4]] w fun e w'=>e= .returned (.bool true) /\ Below w.heap.size w w':=by
 have:=DM L D0 D1 D2 D3 D4 n0 k0 n1 k1 n2 k2 n3 k3 n4 k4 _ _ _ _ _ w h.hL h0 h1 h2 h3 h4;rw [Xb] at this;exact this
end
theorem I4 (A0 A1 A2 A3 B0 B1 B2 B3:Option Addr) (n0 n1 n2 n3 c0 c1 c2 c3 m0 m1 m2 m3 d0 d1 d2 d3:Nat) (x0 x1 x2:List Nat) (r:List (List Nat)) (w:World)
  (h0:RWd w [.slice A0 n0 c0] x0) (h1:RWd w [.slice A1 n1 c1] x1) (h2:RWd w [.slice A2 n2 c2] x2) (h3:Sb w [.slice A3 n3 c3] r)
  (k0:RWd w [.slice B0 m0 d0] x0) (k1:RWd w [.slice B1 m1 d1] x1) (k2:RWd w [.slice B2 m2 d2] x2) (k3:Sb w [.slice B3 m3 d3] r) :
  Calls Tryz.prog 16 #[.agg #[.slice A0 n0 c0, .slice A1 n1 c1, .slice A2 n2 c2, .slice A3 n3 c3], .agg #[.slice B0 m0 d0, .slice B1 m1 d1, .slice B2 m2 d2, .slice B3 m3 d3]] w fun e w'=>e= .returned (.bool true) /\ Below w.heap.size w w':=by
 have:=uS A0 A1 A2 A3 B0 B1 B2 B3 n0 c0 n1 c1 n2 c2 n3 c3 m0 d0 m1 d1 m2 d2 m3 d3 _ _ _ _ _ _ _ _ w h0 h1 h2 h3 k0 k1 k2 k3;simp only [decide_true,Bool.and_true] at this;exact this
theorem C4 (A1 A2:Option Addr) (n1 c1 n2 c2:Nat) (l:List Nat) (w:World) (h1:RWd w [.slice A1 n1 c1] l) (h2:RWd w [.slice A2 n2 c2] l) :
  Calls Tryz.prog 15 #[.slice A1 n1 c1, .slice A2 n2 c2] w fun e w'=>e= .returned (.bool true) /\ Below w.heap.size w w':=by
 have:=Fx A1 A2 n1 c1 n2 c2 _ _ w h1 h2;simp only [decide_true] at this;exact this
theorem lW (W:World) (ze:Array Value) (f0:Fits Tryz.prog W 35 (Value.agg ze).cells.toList) :
  Calls Tryz.prog 3 #[.agg ze] W fun e W'=>e= .returned (.bool true) /\ Below W.heap.size W W':=by
 obtain ⟨p,pub,vars,A,B,B2,P,n,c,m,d,m2,d2,np,cp,rows,ws,vs,bl,bw,qs,seed,al,rho,be,pos,rfl,Ub⟩:=TH f0;clear f0;have Xm:=zH (fun w' (hb:Below W.heap.size W w')=>xI p pub vars A B B2 P n c m d m2 d2 np cp rows ws vs bl bw qs seed al rho be pos w' Ub.p Ub.seed (Kc Gc _ _ _ _ hb Ub.rows) (ta hb Ub.ws) (ta hb Ub.vs) (pf _ _ _ _ hb Ub.pos))
 have rj:=zH (fun w=>UG w)
 have Vj:=zH Ub;clear Ub;unfold Lk at *;have kb:=Blk.new W 35 #[.int .u64 p, .int .i64 pub, .int .i64 vars, .slice A n c, .int .i64 bl, .int .i64 bw, .int .i64 qs, .slice B m d, .slice B2 m2 d2, .int .u64 seed, .int .u64 al, .int .u64 rho, .int .u64 be, .slice P np cp];have da:Below W.heap.size W (W.alloc (.cells #[.int .u64 p, .int .i64 pub, .int .i64 vars, .slice A n c, .int .i64 bl, .int .i64 bw, .int .i64 qs, .slice B m d, .slice B2 m2 d2, .int .u64 seed, .int .u64 al, .int .u64 rho, .int .u64 be, .slice P np cp] 35)):=(Below.refl _ W).alloc zR _;go_enter Tryz.func3,Tryz.ntmps3
 go_upto_region 1 with fail
 generalize W.alloc _=w0 at da kb |-;go_wp2_with fail
 refine (rj.out _).mono ?_;rintro e w1 ⟨rfl,Ga⟩;replace kb:=ia kb Ga;replace da:=oa da Ga;clear Ga rj;have IA:=kb.cell;go_wp2_with fail
 refine (Xm.out _ da).mono ?_;rintro e w2 ⟨Jj,Ka⟩;unfold mu at Jj;obtain ⟨y0,y1,y2,y3,y4,y5,y6,y7,y8,y9,Wd,b,A0,A1,A2,A3,A4,n0,n1,n2,n3,n4,c0,c1,c2,c3,c4,rfl,hT⟩:=Jj;have HT:=zH hT;replace kb:=ia kb Ka;replace da:=oa da Ka;clear Ka Xm IA hT;obtain ⟨kl,kc,ea,-⟩:=Ue w2 39 42 #[.int .u64 y0, .int .i64 y1, .int .i64 y2, .int .i64 y3, .int .i64 y4, .int .i64 y5, .int .i64 y6, .int .i64 y7, .int .i64 y8, .int .i64 y9, .int .i64 Wd] #[.slice A0 n0 c0, .slice A1 n1 c1, .slice A2 n2 c2, .slice A3 n3 c3, .slice A4 n4 c4];go_upto_region 4 with fail
 generalize (w2.alloc _).alloc _=w3 at kl kc ea |-;replace kb:=ia kb ea;replace da:=oa da ea;generalize w2.heap.size+1=gc at kc |-;obtain ⟨gl,xk⟩:=zEX (w2.heap.size);rw [<- xk] at kl |-;clear xk;cases b
 ·clear HT kl kc kb ea Vj
  go_wp2;go_ret
  exact ⟨rfl,da⟩
 obtain ⟨L,pu,rfl,qe,k⟩:=HT.out rfl;clear HT;rw [<- qe] at kl;clear qe;replace k:=vI ea k;obtain rfl:p=L.p:=k.pe.symm;have Ta:=k.ok;have gg:=k.lf;have df:=k.lv;have Ed:=Va Ta.hL.p;have Xb:=MA L seed (by omega)
 have Fo:=k.err;have r0:=k.r;have r1:=k.co;have r2:=k.li;have r3:=k.qu;have r4:=k.sa;have Ub:=Vj.out;have ig:=Kc Gc _ _ _ _ da Ub.rows;have Bk:=ta da Ub.ws;have ph:=ta da Ub.vs;have ah:=pf _ _ _ _ da Ub.pos;have Gm:=Ub.seed;clear Ub Vj k ea;have Ju:=(Ta.case rho al be Xb).new;generalize Dk L seed (L.a+L.b+L.b+L.b)=Y0 at *;generalize Gd L.p seed [1] L.k=Y1 at *;generalize Gd L.p seed [2] (L.k+L.block-2)=Y2 at *;generalize Gd L.p seed [3] (L.block+2*L.queries-1)=Y3 at *;generalize Gd Kd seed [4] L.n=Y4 at *;have im:=zH (fun (D0 D1 D2 D3 D4:Option Addr) n0 n1 n2 n3 n4 k0 k1 k2 k3 k4 w' (hb:Below w3.heap.size w3 w') h0 h1 h2 h3 h4=>SD Ta gg Fo Xb df seed A B B2 P D0 D1 D2 D3 D4 n c m d m2 d2 np cp n0 n1 n2 n3 n4 k0 k1 k2 k3 k4 w' (Kc Gc _ _ _ _ hb ig) (ta hb Bk) (ta hb ph) (pf _ _ _ _ hb ah) h0 h1 h2 h3 h4)
 have HPv:=zH (fun (D0 D1 D2 D3 D4:Option Addr) n0 n1 n2 n3 n4 k0 k1 k2 k3 k4 w' h0 h1 h2 h3 h4=>fZ Ta Ju D0 D1 D2 D3 D4 n0 n1 n2 n3 n4 k0 k1 k2 k3 k4 w' h0 h1 h2 h3 h4)
 have HRv:=zH (fun (D0 D1 D2 D3 D4:Option Addr) n0 n1 n2 n3 n4 k0 k1 k2 k3 k4 w' h0 h1 h2 h3 h4=>J3 Ta Ju D0 D1 D2 D3 D4 n0 n1 n2 n3 n4 k0 k1 k2 k3 k4 w' h0 h1 h2 h3 h4)
 have Ef:=zH (fun (D0 D1 D2 D3 D4:Option Addr) n0 n1 n2 n3 n4 k0 k1 k2 k3 k4 w' (hb:Below w3.heap.size w3 w') h0 h1 h2 h3=>RM Ta rho al be Xb A B P D0 D1 D2 D3 D4 n c m d np cp n0 n1 n2 n3 n4 k0 k1 k2 k3 k4 w' (Kc Gc _ _ _ _ hb ig) (ta hb Bk) h0 h1 h2 h3 (pf _ _ _ _ hb ah))
 have Th:=zH (fun (D0 D1 D2 D3 D4:Option Addr) n0 n1 n2 n3 n4 k0 k1 k2 k3 k4 w' (hb:Below w3.heap.size w3 w') h0 h1 h2 h3=>dT Ta rho al be Xb A B2 P D0 D1 D2 D3 D4 n c m2 d2 np cp n0 n1 n2 n3 n4 k0 k1 k2 k3 k4 w' (Kc Gc _ _ _ _ hb ig) (ta hb ph) h0 h1 h2 h3 (pf _ _ _ _ hb ah))
 have gy:=zH (fun (A0 A1 A2 A3 B0 B1 B2 B3:Option Addr) n0 n1 n2 n3 c0 c1 c2 c3 m0 m1 m2 m3 d0 d1 d2 d3 x0 x1 x2 r w' h0 h1 h2 h3 k0 k1 k2 k3=>I4 A0 A1 A2 A3 B0 B1 B2 B3 n0 n1 n2 n3 c0 c1 c2 c3 m0 m1 m2 m3 d0 d1 d2 d3 x0 x1 x2 r w' h0 h1 h2 h3 k0 k1 k2 k3)
 have qo:=zH (fun A1 A2 n1 c1 n2 c2 l w h1 h2=>C4 A1 A2 n1 c1 n2 c2 l w h1 h2)
 clear Ta gg df Ed Xb Fo ig Bk ph ah Gm Ju;generalize zd L (Ia L rows ws pu) Y0 (Ia L rows vs pu) Y1 Y2 Y3 pos=XR at *;generalize Zf L (Ia L rows ws pu) Y0 (Ia L rows vs pu) Y1 Y2 Y3 pos al=XC at *;generalize Tf L (Tc L pu rho rows) (Ia L rows ws pu) Y0 (Ia L rows vs pu) Y1 Y2 Y3 pos=XL at *;generalize Uf L (Ia L rows ws pu) Y0 (Ia L rows vs pu) Y1 Y2 Y3 pos be=XQ at *;generalize Pd L _ _ _ _=N1 at *;generalize Nc L _ _ _ _=N2 at *;generalize pd L _ _ _ _=N3 at *;generalize Ie L _ _ _ _ _ _=N4 at *;unfold Lk Ya pc at *;have dc:=Below.refl w3.heap.size w3;have cb:=kb.cell;have cc:=kc.cell;go_wp2_with fail
 refine (im.out _ _ _ _ _ _ _ _ _ _ _ _ _ _ _ _ dc r0 r1 r2 r3 r4).mono ?_;rintro e w7 ⟨⟨F0,F1,F2,F3,F4,m0,m1,zr,m3,m4,u0,u1,u2,u3,u4,rfl,s0,s1,s2,s3,s4⟩,ea⟩;replace kb:=ia kb ea;replace kl:=ia kl ea;replace kc:=ia kc ea;replace da:=oa da ea;replace dc:=oa dc ea;replace r0:=Gb ea r0;replace r1:=ta ea r1;replace r2:=ta ea r2;replace r3:=ta ea r3;replace r4:=ta ea r4;clear ea im cb cc;go_upto_region 7 with fail
 have kd:=Blk.new w7 42 #[.slice F0 m0 u0, .slice F1 m1 u1, .slice F2 zr u2, .slice F3 m3 u3, .slice F4 m4 u4];have ma:=(Below.refl w7.heap.size w7).alloc zR (.cells #[.slice F0 m0 u0, .slice F1 m1 u1, .slice F2 zr u2, .slice F3 m3 u3, .slice F4 m4 u4] 42);replace kb:=ia kb ma;replace kl:=ia kl ma;replace kc:=ia kc ma;replace da:=oa da ma;replace dc:=oa dc ma;replace r0:=Gb ma r0;replace r1:=ta ma r1;replace r2:=ta ma r2;replace r3:=ta ma r3;replace r4:=ta ma r4;replace s0:=Gb ma s0;replace s1:=ta ma s1;replace s2:=ta ma s2;replace s3:=ta ma s3;replace s4:=ta ma s4;clear ma;generalize w7.alloc _=w8 at kb kl kc kd da dc r0 r1 r2 r3 r4 s0 s1 s2 s3 s4 |-;generalize w7.heap.size=gd at kd |-;have cl:=kl.cell;have cd:=kd.cell;go_wp2_with fail
 refine (HPv.out _ _ _ _ _ _ _ _ _ _ _ _ _ _ _ _ s0 s1 s2 s3 s4).mono ?_;rintro e w9 ⟨rfl,ea⟩;replace kb:=ia kb ea;replace kl:=ia kl ea;replace kc:=ia kc ea;replace kd:=ia kd ea;replace da:=oa da ea;replace dc:=oa dc ea;replace r0:=Gb ea r0;replace r1:=ta ea r1;replace r2:=ta ea r2;replace r3:=ta ea r3;replace r4:=ta ea r4;replace s0:=Gb ea s0;replace s1:=ta ea s1;replace s2:=ta ea s2;replace s3:=ta ea s3;replace s4:=ta ea s4;clear ea HPv cl cd;have cl:=kl.cell;have cd:=kd.cell;go_wp2_with fail
 refine (HRv.out _ _ _ _ _ _ _ _ _ _ _ _ _ _ _ _ s0 s1 s2 s3 s4).mono ?_;rintro e Sm ⟨rfl,ea⟩;replace kb:=ia kb ea;replace kl:=ia kl ea;replace kc:=ia kc ea;replace kd:=ia kd ea;replace da:=oa da ea;replace dc:=oa dc ea;replace r0:=Gb ea r0;replace r1:=ta ea r1;replace r2:=ta ea r2;replace r3:=ta ea r3;replace r4:=ta ea r4;replace s0:=Gb ea s0;replace s1:=ta ea s1;replace s2:=ta ea s2;replace s3:=ta ea s3;replace s4:=ta ea s4;clear ea HRv cl cd;have cc:=kc.cell;have cd:=kd.cell;go_wp2_with fail
 refine (qo.out _ _ _ _ _ _ _ _ s4 r4).mono ?_;rintro e Lx ⟨rfl,ea⟩;replace kb:=ia kb ea;replace kl:=ia kl ea;replace kc:=ia kc ea;replace kd:=ia kd ea;replace da:=oa da ea;replace dc:=oa dc ea;replace r0:=Gb ea r0;replace r1:=ta ea r1;replace r2:=ta ea r2;replace r3:=ta ea r3;replace r4:=ta ea r4;replace s0:=Gb ea s0;replace s1:=ta ea s1;replace s2:=ta ea s2;replace s3:=ta ea s3;replace s4:=ta ea s4;clear ea qo cc cd;have cb:=kb.cell;have lb:=kb.lt;have cl:=kl.cell;have ll:=kl.lt;have cc:=kc.cell;have lc:=kc.lt;have cd:=kd.cell;have ld:=kd.lt;go_upto_region 9 with fail
 refine Rc (Ib) [12,24,25] [0,1,2,3,4,5,6,7,8,9,10,11,13,14,15,16,17,18,19,20,21,22,23,12,24,25,26] (by kernel_rfl) (by kernel_rfl) ?_
 refine vd (xa) ?_;intro Wc Na ja;have ya:=Cc Na;replace da:=oa da ya;replace dc:=oa dc ya;replace r0:=Gb ya r0;replace r1:=ta ya r1;replace r2:=ta ya r2;replace r3:=ta ya r3;replace r4:=ta ya r4;replace s0:=Gb ya s0;replace s1:=ta ya s1;replace s2:=ta ya s2;replace s3:=ta ya s3;replace s4:=ta ya s4;clear ya;refine pb ?_;refine Mb (xa) rfl rfl rfl (fun _=>by go_simp <;> rfl) ((Ef.out _ _ _ _ A4 _ _ _ _ n4 _ _ _ _ c4 _ dc r0 r1 r2 r3).mono ?_)
 rintro e Mr ⟨⟨G0,G1,G2,G3,j0,j1,j2,j3,i0,i1,i2,i3,rfl,t0,t1,t2,t3⟩,ea⟩;refine ⟨_,rfl,ea,?_⟩;replace ja:=(xa).trans _ _ _ ja (ea);simp only [Act.put,zLa,zLb,zLc];replace da:=oa da ea;replace dc:=oa dc ea;replace s0:=Gb ea s0;replace s1:=ta ea s1;replace s2:=ta ea s2;replace s3:=ta ea s3;replace s4:=ta ea s4;clear ea;refine pb ?_;refine Mb (xa) rfl rfl rfl (fun _=>by go_simp <;> rfl) ((Th.out _ _ _ _ F4 _ _ _ _ m4 _ _ _ _ u4 _ dc s0 s1 s2 s3).mono ?_)
 rintro e w13 ⟨⟨H0,H1,H2,H3,l0,l1,l2,l3,o0,o1,o2,o3,rfl,z0,z1,z2,z3⟩,ea⟩;refine ⟨_,rfl,ea,?_⟩;replace ja:=(xa).trans _ _ _ ja (ea);simp only [Act.put,zLa,zLb,zLc];replace da:=oa da ea;replace t0:=ta ea t0;replace t1:=ta ea t1;replace t2:=ta ea t2;replace t3:=Gb ea t3;clear ea;refine pb ?_;refine Mb (xa) rfl rfl rfl (fun _=>by go_simp <;> rfl) ((gy.out _ _ _ _ _ _ _ _ _ _ _ _ _ _ _ _ _ _ _ _ _ _ _ _ _ _ _ _ _ t0 t1 t2 t3 z0 z1 z2 z3).mono ?_)
 rintro e w14 ⟨rfl,ea⟩;refine ⟨_,rfl,ea,?_⟩;replace ja:=(xa).trans _ _ _ ja (ea);simp only [Act.put,zLa,zLb,zLc];replace da:=oa da ea;clear ea;refine pb ?_;refine Fc ?_;clear ja;go_wp2;go_ret
 exact ⟨rfl,da⟩
end Go.Proofs.YtgeofabpinfcmaaGreat
namespace Go.Proofs.YtgeofabpinfcmaaGreat.explainVisible
open Go.ChangeShapes Go.WideShapes Go.ChangeAt Go.RowKit
open Go.ChangeMaps (open_string shut_string)

theorem own:ownKnob Tryz.prog.godebug=none:=by kernel_rfl
theorem laidOut:laidOutB Tryz.prog=true:=by kernel_rfl
theorem lifted (os:Os) (started:os.Started) (H:Type) (enc:TypeId × Value -> H) :
  ReturnsInHanded {} Tryz.checked os 3 .any (Rows.explainVisibleSpec.pre6 enc Tryz.prog Tryz.f3 Rows.explainVisibleRow.domain false) (Rows.explainVisibleSpec.post enc Tryz.prog Tryz.f3 false true false false):=by
 refine returnsInHanded_of_change (C:=Tryz.checked) own started (by kernel_rfl) Tryz.func3
  (ChangeSpec.witness6 (enc:=enc) (C:=Tryz.checked) false ⟨#[],#[.agg #[.int .u64 0, .int .i64 0, .int .i64 0, .slice none 0 0, .int .i64 0, .int .i64 0, .int .i64 0, .slice none 0 0, .slice none 0 0, .int .u64 0, .int .u64 0, .int .u64 0, .int .u64 0, .slice none 0 0]],[]⟩ 12 (by kernel_rfl) (by kernel_rfl) (by kernel_rfl) (by kernel_rfl)) ?_
 intro W base args ds gs before wt hW hcnd _;have Lj:∀ (j:Nat) t v,Tryz.f3.params[j]?=some t -> args[j]?=some v -> Value.okWide Tryz.prog W .any base t v:=wt;have DB:=hW;obtain ⟨p,q,Ps,hV,rfl,hfz,hnd⟩:=hW;have hA:DataW.TrodAll enc Tryz.prog W 0 (fun _=>true) true Tryz.f3.params.toList args.toList ds p:=Ps
 rw [Tryz.params3] at hA Lj;obtain ⟨v0,vs0,d0,ds0,p0,q0,BK,rfl,rfl,h0,r0⟩:=trodAll_cons hA;obtain ⟨rfl,rfl,rfl⟩:=trodAll_nil r0;obtain rfl:args=#[v0]:=by cases args;simp_all
 obtain ⟨rfl,rfl⟩:=trodVars_none hV;have GC:∀ x∈p0,x.block<W.heap.size:=by obtain ⟨m,hm⟩:=h0;exact DataW.trod_lt m _ _ _ hm
 have k0:=h0;obtain ⟨ze,rfl,z0⟩:=okWide_struct Tryz.underlying35 (Lj 0 35 v0 rfl rfl);clear Ps wt;refine (lW W ze (Fits.of_trod k0)).mono fun e W' ⟨he,so⟩=>?_
 subst he;exact ⟨_,rfl,_,_,_,[],_,[],DB,trodAll_mk1 (shut_bool Tryz.underlying4 _),(trodAll_cons_mk (Below.trod laidOut (by kernel_rfl) (of_decide_eq_true (by kernel_rfl)) k0 so GC) trodAll_mk0),rfl,so.frame _,fun h=>by cases h⟩
theorem j1:(Rows.explainVisibleRow.wf (OpenSpec.ofChange Rows.explainVisibleSpec))=true:=by kernel_rfl
theorem j2:(laidOutB Tryz.pinned.checked.prog)=true:=by kernel_rfl
theorem j3:(mapsRowed Tryz.pinned.checked.prog)=true:=by kernel_rfl
theorem j4:(Tryz.f3.params.all (Tryz.pinned.checked.prog.readableRec ·))=true:=by kernel_rfl
theorem j5:(namedTie Tryz.pinned.checked.prog Rows.explainVisibleRow.named Rows.explainVisibleSpec.vars)=true:=by kernel_rfl
theorem j6:((Rows.explainVisibleRow.stops == []))=true:=by kernel_rfl
theorem j7:((Tryz.pinned.checked.prog.stops == []))=true:=by kernel_rfl
theorem j8:((Rows.explainVisibleRow.knobs == []))=true:=by kernel_rfl
theorem j9:((Tryz.pinned.checked.prog.stopKnobs == []))=true:=by kernel_rfl
theorem j10:((Rows.explainVisibleRow.inPlace == Tryz.pinned.checked.prog.inPlace 3))=true:=by kernel_rfl
theorem j11:((Rows.explainVisibleRow.unfollowed == Tryz.pinned.checked.prog.unfollowed 3))=true:=by kernel_rfl
theorem j12:((Rows.explainVisibleRow.recurses == Tryz.pinned.checked.prog.recurses 3))=true:=by kernel_rfl
theorem j13:((Rows.explainVisibleRow.named == Tryz.pinned.checked.prog.varsNamed 3))=true:=by kernel_rfl
theorem j14:((Rows.explainVisibleRow.maps == (Tryz.f3.params.toList++Rows.explainVisibleSpec.plain.varTypes Tryz.pinned.checked.prog).any (Tryz.pinned.checked.prog.mapsRec ·)))=true:=by kernel_rfl
theorem j15:((Rows.explainVisibleRow.ifaces == (Tryz.f3.params.toList++Rows.explainVisibleSpec.plain.varTypes Tryz.pinned.checked.prog).any (Tryz.pinned.checked.prog.ifacesRec ·)))=true:=by kernel_rfl
theorem j16:((Rows.explainVisibleRow.mapsOut == Tryz.pinned.checked.prog.mapsAmong Tryz.f3.resultTypes.toList))=true:=by kernel_rfl
theorem j17:((Rows.explainVisibleRow.loops == (Tryz.f3.params.toList++Rows.explainVisibleSpec.plain.varTypes Tryz.pinned.checked.prog).any (Tryz.pinned.checked.prog.loopsFrom ·)))=true:=by kernel_rfl
theorem j18:((Rows.explainVisibleRow.wideKeys == (Tryz.f3.params.toList++Rows.explainVisibleSpec.plain.varTypes Tryz.pinned.checked.prog++Tryz.f3.resultTypes.toList).any (Tryz.pinned.checked.prog.wideKeysFrom ·)))=true:=by kernel_rfl
theorem j19:(Rows.explainVisibleSpec.vars.all (Tryz.pinned.checked.prog.varReadable ·))=true:=by kernel_rfl
theorem j20:(Tryz.f3.resultTypes.all (fun t=>Tryz.pinned.checked.prog.readableRec t&&decide (t<Tryz.pinned.checked.prog.types.size)))=true:=by kernel_rfl
theorem j21:((Rows.explainVisibleRow.ifacesOut == Tryz.f3.resultTypes.toList.any (Tryz.pinned.checked.prog.ifacesRec ·)))=true:=by kernel_rfl
theorem j22:((Rows.explainVisibleRow.loopsOut == Tryz.f3.resultTypes.toList.any (Tryz.pinned.checked.prog.loopsFrom ·)))=true:=by kernel_rfl
theorem j23:((Rows.explainVisibleRow.plainKeys == Tryz.pinned.checked.prog.plainKeys))=true:=by kernel_rfl
theorem j24:(Rows.explainVisibleRow.shortTexts.isNone)=true:=by kernel_rfl
theorem j25:(Tryz.pinned.checked.prog.stopsHeard)=true:=by kernel_rfl
theorem j26:(Tryz.pinned.checked.prog.mayEnter)=true:=by kernel_rfl
theorem j27:((Rows.explainVisibleRow.lifted == Tryz.pinned.checked.prog.liftsFinal))=true:=by kernel_rfl
theorem j28:((Tryz.pinned.checked.prog.make == some Rows.explainVisibleRow.make))=true:=by kernel_rfl
theorem j29:((Rows.explainVisibleRow.kinds == (if Rows.explainVisibleRow.domain.isEmpty then [] else Tryz.f3.params.toList.map fun t=>match Tryz.pinned.checked.prog.underlying t with | some (.int k)=>some k | _=>none)))=true:=by kernel_rfl
theorem j30:((Rows.explainVisibleRow.pinned == Rows.explainVisibleRow.pinnedBy))=true:=by kernel_rfl
theorem j31:((Rows.explainVisibleRow.veiled == (Tryz.f3.params.toList++Rows.explainVisibleSpec.plain.varTypes Tryz.pinned.checked.prog++Tryz.f3.resultTypes.toList).any (Tryz.pinned.checked.prog.veiledRec ·)))=true:=by kernel_rfl
theorem j32:(Rows.explainVisibleRow.veiledFits Tryz.pinned.checked.prog Tryz.f3.params.toList (Tryz.f3.params.toList++Rows.explainVisibleSpec.plain.varTypes Tryz.pinned.checked.prog++Tryz.f3.resultTypes.toList))=true:=by kernel_rfl
theorem over:Rows.explainVisibleRow.holds Tryz.pinned (OpenSpec.ofChange Rows.explainVisibleSpec) :=
 OpenClaim.holds_of_wide 3 Tryz.f3 rfl rfl rfl rfl rfl rfl rfl ⟨rfl,rfl,rfl,rfl,rfl⟩ rfl rfl rfl rfl rfl (by kernel_rfl) Tryz.func3 (GH j1 j2 j3 j4 j5 j6 j7 j8 j9 j10 j11 j12 j13 j14 j15 j16 j17 j18 j19 j20 j21 j22 j23 j24 j25 j26 j27 j28 j29 j30 j31 j32)
  (of_decide_eq_true (by kernel_rfl)) (by unfold Func.isWrapper;first | (rw [if_pos (by decide +kernel)];kernel_rfl) | (rw [if_neg (by decide +kernel)];exact ⟨rfl,rfl⟩))
  (fun os started H enc _=>lifted os started H enc)
theorem proved:Rows.ExplainVisibleSaid:=over
#print axioms proved
end Go.Proofs.YtgeofabpinfcmaaGreat.explainVisible
