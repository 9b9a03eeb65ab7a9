/- A part of the proof. No condition. -/
import Derived.Test.YteoghgbnielkpaaGreatPP17

set_option maxRecDepth 100000
set_option maxHeartbeats 8000000
set_option linter.unusedVariables false
set_option linter.unusedSimpArgs false
namespace Go.Proofs.YteoghgbnielkpaaGreat
open Go.RowKit Go.Maps
open Tryz
open Go renaming World->vu, Value->vw, Addr->vx, Calls->vA
open Go.Value renaming int->vd, slice->ve, agg->vf
open Go.IntKind renaming u64->vo, i64->vq
open Go.Ending renaming returned->vn
open Go.RowKit renaming Below->vz
open Go.World renaming setCell->vE
open Go.Act renaming put->vF
open Option renaming none->vB, some->vD
theorem zFL (L:Tb) (pu Mb al be:Nat) (vars:Int) (A AM D0 D1 D2 D3 D4:Option vx) (R c T cM n0 n1 n2 n3 n4 k0 k1 k2 k3 k4:Nat) (rows:List sc) (m r:List (List Nat)) (co li qu sa:List Nat) (w:vu)
  (hL:Ad L) (hF:GC L pu vars rows) (hr:RSl 3 yg w [ve A R c] rows) (hV:VG vars rows)
  (hm:Kd w [ve AM T cM] m) (h0:Kd w [ve D0 n0 k0] r) (h1:RWd w [ve D1 n1 k1] co) (h2:RWd w [ve D2 n2 k2] li) (h3:RWd w [ve D3 n3 k3] qu) (h4:RWd w [ve D4 n4 k4] sa)
  (pq:RA L r co li qu sa=true) (hmT:m.length=L.a+L.b+L.b+L.b) (mf:∀ x∈m,x.length=L.block) :
  vA prog 65 #[vf (Ub L),Xc L.p (pu:Int) vars (ve A R c),ve AM T cM,vf #[ve D0 n0 k0,ve D1 n1 k1,ve D2 n2 k2,ve D3 n3 k3,ve D4 n4 k4],vf #[vd vo al,vd vo Mb,vd vo be]] w fun e w'=>∃ v1 v2 v3,e=vn (.tuple #[v1,v2,v3]) /\
   w'.ownsRow w.1.size 22 1 v1 L.k (Qa ((List.range L.k).map (DD L.p L.k al (fun k=>co.getD k 0) (JE L m r) m.length))) /\
   w'.ownsRow w.1.size 22 1 v2 (L.k+L.block-1) (Qa ((List.range (L.k+L.block-1)).map (ED L.p (L.k+L.block-1) (fun k=>(Qh L li).getD k 0) (IE L (QA L pu Mb rows) m r) m.length))) /\
   w'.ownsRow w.1.size 22 1 v3 (2*L.k-1) (Qa ((List.range (2*L.k-1)).map (MB L.p L.k (2*L.k-1) be (Ek L.p L.block qu qu.length) (NA L m r) (aH L m r) L.b))) /\ vz w.1.size w w':=by
 obtain ⟨Sd,Vb⟩:=Cc hL.p;have tk:=hL.b1;have Pk:=hL.b2;have qi:=hL.q1;have mo:=hL.q2;have hk:=hL.k;have du:=hL.a;have Jr:=hL.b;have gI:=hL.nk;obtain ⟨hlen,j0,hj0⟩:=EL hL;have bu:L.block=2^L.block.log2:=by rw [hj0,Nat.log2_two_pow]
 obtain ⟨Gv,Q4,Vy,Vs,rq⟩:=FO pq;have dF:=(Ig hm).1;have hTr:=(Ig h0).1;have jn:=(Ig hm).2.2.2;have Na:=(Ig h0).2.2.2;have e1:=(Pb h1).1;have e2:=(Pb h2).1;have e3:=(Pb h3).1;have Qy:T=L.a+L.b+L.b+L.b:=by omega
 have Ue:n1=L.k:=by omega
 have gu:T=n0:=by omega
 subst Ue gu;obtain ⟨len,Me⟩:=zEX (L.k+L.block-1);obtain ⟨Bk,pW⟩:=zEX (2*L.k-1);have Ce:n2+1=len:=by omega
 have mn:L.block+n3=Bk:=by omega
 have Ul:2 <= len:=by omega
 have nW:2 <= Bk:=by omega
 obtain ⟨lK,-⟩:=QS hL Ul zO;obtain ⟨hM3,-⟩:=QS hL nW zO;obtain ⟨xx,NH,OH⟩:=XO Ul;obtain ⟨Nh,Xn,yh⟩:=XO nW;have sl:=fun A n c=>(⟨A,n,c,rfl⟩:slc (ve A n c))
 have tA:=zH (fun w=>by have:=bT L.p L.block L.queries L.k L.n L.secret L.rows L.a L.b L.b L.b w hL.a hL.b hL.b hL.b;rw [<- Qy] at this;exact this)
 have HVa:=zH (fun w' (hb:vz w.1.size w w')=>by have:=Z6 L D0 D1 D2 D3 D4 T k0 L.k k1 n2 k2 n3 k3 n4 k4 r co li qu sa w' hL (Qg rD _ _ _ _ hb h0) (Wa hb h1) (Wa hb h2) (Wa hb h3) (Wa hb h4);rw [pq] at this;exact this)
 have fy:=zH (fun w' (hb:vz w.1.size w w')=>S6 L (ve D0 T k0) (ve D2 n2 k2) (ve D3 n3 k3) (ve D4 n4 k4) D1 L.k k1 co w' (sl _ _ _) (sl _ _ _) (sl _ _ _) (sl _ _ _) (Wa hb h1) zO)
 have Gs:=zH (fun w' (hb:vz w.1.size w w')=>by have:=V6 L (ve D0 T k0) (ve D1 L.k k1) (ve D3 n3 k3) (ve D4 n4 k4) D2 n2 k2 li w' hL (sl _ _ _) (sl _ _ _) (sl _ _ _) (sl _ _ _) (Wa hb h2) zO;rw [Ce] at this;exact this)
 have EG:=zH (fun w' (hb:vz w.1.size w w')=>by have:=X6 L (ve D0 T k0) (ve D1 L.k k1) (ve D2 n2 k2) (ve D4 n4 k4) D3 n3 k3 qu w' hL (sl _ _ _) (sl _ _ _) (sl _ _ _) (sl _ _ _) (Wa hb h3) zO;rw [mn] at this;exact this)
 have HCf:=zH (fun w' (hb:vz w.1.size w w')=>zFO L pu Mb vars A R c rows w' hL hF (Qg Bh _ _ _ _ hb hr) hV)
 have HMl:=zH (fun a b w=>UC L.p a b w hL.p)
 have HNg:=zH (fun a w=>E1 L.p a w hL.p)
 have pE:=zH (fun A c B d msg Xe w hl hk'=>by have:=Y6 L A B L.block c L.queries d msg Xe w hL hl hk' rfl zO;rw [<- hk] at this;exact this)
 have HInv:=zH (fun A c l w hl=>sY L.p A L.block c L.block.log2 l w hL.p hl hlen bu)
 have HMu1:=zH (fun A c B d a b w ha hb=>zA1 L.p A B L.block c L.k d ((len-1).log2+1) (Dr len) len a b w hL.p ha hb zO zO zO zO lK xx zO NH OH)
 have HMu3:=zH (fun A c B d a b w ha hb=>zA1 L.p A B L.k c L.k d ((Bk-1).log2+1) (Dr Bk) Bk a b w hL.p ha hb zO zO zO zO hM3 Nh zO Xn yh)
 have QQ:=zH (fun s g base gb na ca nb cb mb t F G w ka kb hg hb ht hm=>zBI L.p s g base gb na ca nb cb mb t F G w hL.p ka kb hg hb ht hm)
 have HSp:=zH (show ∀ (g:Nat) (w:vu),vA prog 146 #[vf (Ub L),ve (vD ⟨g,0,vB⟩) T T] w fun e w'=>(∃ X1 X2 X3 c1 c2 c3,e=vn (.tuple #[ve (vD ⟨g,0,vB⟩) L.a T,ve X1 L.b c1,ve X2 L.b c2,ve X3 L.b c3]) /\ (0<L.b -> X1=vD ⟨g,L.a,vB⟩ /\ X2=vD ⟨g,L.a+L.b,vB⟩ /\ X3=vD ⟨g,L.a+L.b+L.b,vB⟩)) /\ vz w.1.size w w' from fun g w=>by
  have hs:=zHY L (vD ⟨g,0,vB⟩) T T L.a (L.a+L.b) (L.a+L.b+L.b) w hL rfl rfl rfl zO zR (by simp [maxLen];omega)
  have a1:L.a+L.b-L.a=L.b:=by omega
  have a2:L.a+L.b+L.b-(L.a+L.b)=L.b:=by omega
  have a3:T-(L.a+L.b+L.b)=L.b:=by omega
  unfold JO at hs;rw [a1,a2,a3] at hs;refine hs.mono ?_;rintro e w' ⟨rfl,hb⟩;refine ⟨⟨_,_,_,_,_,_,rfl,fun h=>⟨?_,?_,?_⟩⟩,hb⟩
  ·rw [Gb zO]
   show vD ((⟨g,0,vB⟩:vx).add L.a)=_
   rw [jv,Re]
  ·rw [Gb zO]
   show vD ((⟨g,0,vB⟩:vx).add (L.a+L.b))=_
   rw [jv,Re]
  ·rw [Gb zO]
   show vD ((⟨g,0,vB⟩:vx).add (L.a+L.b+L.b))=_
   rw [jv,Re])
 obtain ⟨N1,Uo⟩:=zEX (Dr len);obtain ⟨N3,XA⟩:=zEX (Dr Bk);have Lf:=zH (show len <= N1 /\ Bk <= N3 by rw [Uo,XA];exact ⟨NH,Xn⟩)
 rw [<- Uo] at HMu1;rw [<- XA] at HMu3;obtain ⟨fj,eD⟩:=zEX (QA L pu Mb rows);have ey:=zH (show fj.length=T by
  rw [eD];unfold QA ar;rw [Jy,Jy,Jy,Jy];simp only [Yp,ye,List.range_zero,List.flatMap_nil,List.length_nil];simp
  omega)
 have Sz:=zH (show ∀ x∈fj,x.length=L.block by
  rw [eD];intro x hx;unfold QA at hx;obtain ⟨i,k,-,-,rfl⟩:=dV hx;simp [QC])
 rw [<- eD] at HCf;obtain ⟨Rw,aD⟩:=zEX (JE L m r);obtain ⟨Rl,hRl⟩:∃ Rl:Nat -> List Nat,Rl=fun i=>(List.range L.k).map (Rw i):=⟨_,rfl⟩
 obtain ⟨Dv,hDv⟩:=zEX (IE L fj m r);obtain ⟨XY,Wt⟩:=zEX (NA L m r);obtain ⟨fC,hfC⟩:=zEX (DD L.p L.k al (fun k=>co.getD k 0) Rw)
 obtain ⟨fL,hfL⟩:=zEX (ED L.p len (fun k=>(Qh L li).getD k 0) Dv)
 obtain ⟨fQ,hfQ⟩:=zEX (MB L.p L.k Bk be (Ek L.p L.block qu n3) XY (fun j=>Rw (L.a+L.b+L.b+j)))
 obtain ⟨P,hP⟩:=zEX (Cl L.p al);obtain ⟨P2,hP2⟩:=zEX (Cl L.p be);have oy:=zH (show ∀ i (h1:i<m.length) (h2:i<r.length),Qx L m[i] r[i]=Rw i from fun i h1 h2=>by
  rw [aD];unfold JE;rw [Hc,Hc,Ec h1,Ec h2]
  rfl)
 have Vf:=zH (show ∀ i,(List.range L.k).map (Rw i)=Rl i from fun i=>by rw [hRl])
 have sJ:=zH (show ∀ i k,Rw i k<18446744073709551616 from fun i k=>by rw [aD];exact Je (I7 zO _ _ _) Vb)
 have HIX:=zH (show ∀ l k,uu L.p L.block L.block.log2 l k<18446744073709551616 from fun l k=>Je (Sc _ zO) Vb)
 have aC:=zH (show ∀ i (h1:i<fj.length),tD L.p N1 ((len-1).log2+1) ((List.range L.block).map (uu L.p L.block L.block.log2 fj[i])) (Rl i)=Dv i from fun i h1=>by
  rw [hDv,Uo,Me,hRl,aD];unfold IE Hy;rw [Hc,Ec h1]
  rfl)
 have Js:=zH (show ∀ j,tD L.p N3 ((Bk-1).log2+1) (Rl (L.a+j)) (Rl (L.a+L.b+j))=XY j from fun j=>by
  rw [Wt,XA,pW,hRl,aD]
  rfl)
 have HC0:=zH (show Qa co=Qa ((List.range L.k).map (fC 0)) by rw [hfC];show _=Qa ((List.range L.k).map fun k=>co.getD k 0);rw [zAj co L.k Vy.1])
 have Gj:=zH (show ∀ i,fC (i+1)=Vp L.p (P (i+1)) (fC i) (Rw i) L.k from fun i=>by rw [hfC,hP];rfl)
 have Cw:=zH (show Qa (Qh L li)=Qa ((List.range len).map (fL 0)) by rw [hfL];show _=Qa ((List.range len).map fun k=>(Qh L li).getD k 0);rw [zAj (Qh L li) len (by simp [Qh];omega)])
 have dj:=zH (show ∀ i,fL (i+1)=Vp L.p 1 (fL i) (Dv i) len from fun i=>by rw [hfL];rfl)
 have Ft:=zH (show Ek L.p L.block qu n3=fQ 0 by rw [hfQ];rfl)
 have Nq:=zH (show ∀ j,fQ (j+1)=Vp L.p (qg L.p (P2 (j+1))) (Vp L.p (P2 (j+1)) (fQ j) (XY j) Bk) (Rw (L.a+L.b+L.b+j)) L.k from fun j=>by rw [hfQ,hP2];rfl)
 have Io:=zH (show P 0=1 by rw [hP];rfl)
 have jE:=zH (show ∀ i,P (i+1)=P i*al%L.p from fun i=>by rw [hP];rfl)
 have oE:=zH (show P2 0=1 by rw [hP2];rfl)
 have Oq:=zH (show ∀ i,P2 (i+1)=P2 i*be%L.p from fun i=>by rw [hP2];rfl)
 have HCX:=zH (show ∀ k,fC T k<18446744073709551616 from fun k=>by
  rw [hfC];exact Je (wX zO (fun k=>aK zO Vy.2 k) _ _) Vb)
 have Lg:=zH (show ∀ k,fL T k<18446744073709551616 from fun k=>by
  rw [hfL];refine Je (yX zO (fun k=>?_) _ _) Vb
  cases k with
  | zero=>exact rN zO _ _
  | succ k=>exact aK zO Vs.2 k)
 have HQX:=zH (show ∀ k,fQ L.b k<18446744073709551616 from fun k=>by
  rw [hfQ];exact Je (mT zO (fun k=>OI zO _ _ _) _ _) Vb)
 rw [<- Me,<- pW];have gy:=zH (show DD L.p L.k al (fun k=>co.getD k 0) (JE L m r) m.length=fC T by rw [hfC,aD,dF])
 have bE:=zH (show ED L.p len (fun k=>(Qh L li).getD k 0) (IE L (QA L pu Mb rows) m r) m.length=fL T by rw [hfL,hDv,eD,dF])
 have sG:=zH (show MB L.p L.k Bk be (Ek L.p L.block qu qu.length) (NA L m r) (aH L m r) L.b=fQ L.b by rw [hfQ,Wt,aD,<- e3];rfl)
 rw [gy.out,bE.out,sG.out];have Np:=zH mf;have HCW:=zH Q4;have HTM:=zH dF;have HTR:=zH hTr;have gk:4 <= L.k /\ L.k <= 320 \/ 3 <= L.k /\ L.k <= 320:=by omega
 have gk1:3 <= L.k:=by omega
 have gk2:L.k <= 320:=by omega
 have gl1:len <= 600:=by omega
 have gl0:2 <= len:=Ul;have gl3:Bk <= 700:=by omega
 have HT4:=zH Qy;have gkl:L.k <= Bk:=by omega
 have gT:T <= 400000:=by omega
 have mk:=F7 T zO;have gTi:(T:Int) <= 400000:=by omega
 have gT0:(0:Int)<=T:=by omega
 have d0:((T:Int)!=T)=false:=by simp
 have gb1:2 <= L.block:=tk;have gb2:L.block <= 256:=Pk;have glb:(L.b:Int) <= 100000:=by omega
 clear Sd Vb tk Pk qi mo hk du Jr gI hlen hj0 bu Gv Q4 Vy Vs rq dF hTr e1 e2 e3 Qy Ce mn Ul nW lK hM3 xx NH OH Nh Xn yh hL hF hr hV hm h0 h1 h2 h3 h4 pq hmT mf Uo XA eD aD hRl hDv Wt hfC hfL hfQ hP hP2 gk gy bE sG Me pW sl;unfold Ub Xc fv at *;obtain ⟨kl,kt,kc,kx,da,Db⟩:=fH w 101 25 41 136 #[vd vo L.p,vd vq L.block,vd vq L.queries,vd vq L.k,vd vq L.n,vd vq L.secret,vd vq L.rows,vd vq L.a,vd vq L.b,vd vq L.b,vd vq L.b] #[vd vo L.p,vd vq pu,vd vq vars,ve A R c] #[ve D0 T k0,ve D1 L.k k1,ve D2 n2 k2,ve D3 n3 k3,ve D4 n4 k4] #[vd vo al,vd vo Mb,vd vo be];go_enter func65,ntmps65
 go_upto_region 1 with fail
 generalize (((w.alloc _).alloc _).alloc _).alloc _=w1 at kl kt kc kx da Db |-;have hN:w.1.size+4 <= w1.1.size:=by omega
 clear Db;have cl:=kl.cell;go_wp2_with fail
 refine (tA.out _).mono ?_;rintro e w2 ⟨rfl,Ca⟩;replace kl:=pa kl Ca;replace kt:=pa kt Ca;replace kc:=pa kc Ca;replace kx:=pa kx Ca;replace da:=ta da Ca;replace hN:=jb hN Ca.size;clear Ca cl;have cl:=kl.cell;have cc:=kc.cell;go_wp2_with fail
 refine (HVa.out _ da).mono ?_;rintro e w3 ⟨rfl,Ca⟩;replace kl:=pa kl Ca;replace kt:=pa kt Ca;replace kc:=pa kc Ca;replace kx:=pa kx Ca;replace da:=ta da Ca;replace hN:=jb hN Ca.size;clear Ca cl cc tA HVa;have cl:=kl.cell;go_upto_region 4 with fail
 obtain ⟨kf,ma⟩:=zN w3 224 #[vd vo L.p];replace kl:=pa kl ma;replace kt:=pa kt ma;replace kc:=pa kc ma;replace kx:=pa kx ma;replace da:=ta da ma;generalize w3.alloc _=w4 at kl kt kc kx kf da |-;obtain ⟨gf,QK⟩:=zEX (w3.1.size);rw [<- QK] at kf hN |-;have hgf4:=kf.lt;clear ma cl QK;have cl:=kl.cell;have ll:=kl.lt;have cc:=kc.cell;have lc:=kc.lt;refine Pd (Rc) [2,5,8] [0,1,3,4,6,7,2,5,8,9,10,11] zK zK ?_;refine oe (Da) ?_;intro Wc Ga ja;have Pa:=Uf Ga;replace kl:=pa kl Pa;replace kt:=pa kt Pa;replace kc:=pa kc Pa;replace kx:=pa kx Pa;replace kf:=pa kf Pa;replace da:=ta da Pa;have hgfW:gf<Wc.1.size:=kf.lt;refine Mc ?_;refine ud Da rfl rfl rfl ((fy.out _ da).mono ?_);rintro e w5 ⟨v1,rfl,o1,Bb⟩;refine ⟨_,rfl,Bb,?_⟩;replace ja:=zM Da ja (Bb);refine zPU ?_;obtain ⟨g1,ca1,rfl,Nh,hg1'⟩:=World.ownsRow.form o1 zO;replace o1:=Hg o1 da.size;replace kl:=pa kl Bb;replace kt:=pa kt Bb;replace kc:=pa kc Bb;replace kx:=pa kx Bb;replace kf:=pa kf Bb;replace da:=ta da Bb;refine Mc ?_;refine ud Da rfl rfl rfl ((Gs.out _ da).mono ?_);rintro e w6 ⟨v2,rfl,o2,Lc⟩;refine ⟨_,rfl,Lc,?_⟩;replace ja:=zM Da ja (Lc);refine zPU ?_;obtain ⟨g2,ca2,rfl,Xn,hg2'⟩:=World.ownsRow.form o2 zO;replace o2:=Hg o2 da.size;replace kl:=pa kl Lc;replace kt:=pa kt Lc;replace kc:=pa kc Lc;replace kx:=pa kx Lc;replace kf:=pa kf Lc;replace da:=ta da Lc;replace o1:=Za o1 Lc zR;refine Mc ?_;refine ud Da rfl rfl rfl ((EG.out _ da).mono ?_);rintro e w7 ⟨g3,rfl,yh,k3,Zb⟩;refine ⟨_,rfl,Zb,?_⟩;replace ja:=zM Da ja (Zb);refine zPU ?_;replace kl:=pa kl Zb;replace kt:=pa kt Zb;replace kc:=pa kc Zb;replace kx:=pa kx Zb;replace kf:=pa kf Zb;replace da:=ta da Zb;replace o1:=Za o1 Zb zR;replace o2:=Za o2 Zb zR;have fW:=k3.lt;refine Mc ?_;refine Vc ?_;rw [HC0.out] at o1;rw [Cw.out] at o2;rw [Ft.out] at k3;clear Pa Bb Lc Zb ja Ga cl ll cc lc fy Gs EG HC0 Cw Ft;have x1:gf<g1:=by omega
 have x2:g1<g2:=by omega
 have x3:g2<g3:=by omega
 have x0:w.1.size+4 <= gf:=hN;clear hgf4 hgfW Nh hg1' Xn hg2' yh hN;go_upto_region 7 with fail
 have kr:=Blk.new w7 28 (Ki T fun _=>ve vB 0 0)
 have ma:=zA w7 (.cells (Ki T fun _=>ve vB 0 0) 28)
 replace kl:=pa kl ma;replace kt:=pa kt ma;replace kc:=pa kc ma;replace kx:=pa kx ma;replace kf:=pa kf ma;replace da:=ta da ma;replace o1:=Za o1 ma zR;replace o2:=Za o2 ma zR;replace k3:=pa k3 ma;generalize w7.alloc _=w8 at kl kt kc kx kf kr da o1 o2 k3 |-;obtain ⟨gr,Ta⟩:=zEX (w7.1.size);rw [<- Ta] at kr fW |-;have x4:g3<gr:=fW;have NK:=kr.lt;clear ma Ta fW mk;have cl:=kl.cell;have ct:=kt.cell;have cx:=kx.cell;go_wp2_with fail
 refine (HCf.out _ da).mono ?_;rintro e w9 ⟨vC,rfl,hC,Ca⟩;replace kl:=pa kl Ca;replace kc:=pa kc Ca;replace kx:=pa kx Ca;replace kf:=pa kf Ca;replace da:=ta da Ca;replace o1:=Za o1 Ca zR;replace o2:=Za o2 Ca zR;replace k3:=pa k3 Ca;replace kr:=pa kr Ca;obtain ⟨N,hNe⟩:=zEX (w8.1.size);rw [<- hNe] at hC NK;have hN9:N <= w9.1.size:=by have:=Ca.size;omega
 have x5:gr<N:=NK;clear Ca cl ct cx kt HCf hNe NK;obtain ⟨AC,nC,cC,rfl⟩:=RSl.slc hC.here;have hCn:=(Ig hC.here).1;have hnC:nC=T:=by rw [<- hCn];exact ey.out
 subst hnC;clear hCn;have H1:=zH (show (1:Int)=((P 0:Nat):Int) by rw [Io.out];rfl)
 have H12:=zH (show (1:Int)=((P2 0:Nat):Int) by rw [oE.out];rfl)
 go_wp2_with fail
 go_loopw [15,61] (fun b y wr=>∃ (i:Nat) (CS:Array vw),i <= nC /\ y=vd vq i /\ b=vd vo (P i:Int) /\ CS.size=nC /\ wr.ownsRow w.1.size 22 1 (ve (vD ⟨g1,0,vB⟩) L.k ca1) L.k (Qa ((List.range L.k).map (fC i))) /\ wr.ownsRow w.1.size 22 1 (ve (vD ⟨g2,0,vB⟩) len ca2) len (Qa ((List.range len).map (fL i))) /\ Blk wr gr 28 CS /\ ZN N L.k wr CS i Rw /\ Pz g1 g2 gr w9 wr) (fun _ y _=>nC-(intOf y).toNat)
 case atStart=>exact ⟨0,_,Qb _,rfl,by rw [<- H1.out],by simp [Ki],o1,o2,kr,fun k h=>zO,zC1 _ _ _ _⟩
 case round =>
  clear o1 o2 kr;obtain ⟨i,CS,hi,rfl,rfl,hCS,o1,o2,kr,jj,hx⟩:=hrel;have Sr:=UO kl hx zO zO zO;have Rg:=UO kf hx zO zO zO;have Xl:=UO kx hx zO zO zO;have kc1:=UO kc hx zO zO zO;have Oa:=ex3_to da hx da.size zO zO zO;by_cases ya:i<nC
  ·have q1:(i:Int)<nC:=by omega
   have q2:(0:Int)<=i:=by omega
   have hic:i<fj.length:=by rw [ey.out];exact ya
   have uF:i<m.length:=by rw [HTM.out];exact ya
   have zx:i<r.length:=by rw [HTR.out];exact ya
   obtain ⟨bc,qc,Ac,lc0,cc0,rfl,hbcN,hbc,Vy,iL⟩:=VX hC hic;have z1:lc0=L.block:=by rw [(Pb (iL w9 fun _ _ _=>rfl)).1];exact Sz.out _ (Qe hic)
   subst z1;obtain ⟨bm,qm,Am,lm,cm,rfl,hbm,ox,rp⟩:=Dl jn uF;have z2:lm=L.block:=by rw [(Pb rp).1];exact Np.out _ (Qe uF)
   subst z2;obtain ⟨bk,qk,Ak,lk,ck,rfl,hbk,hck,hrk⟩:=Dl Na zx;have z3:lk=L.queries:=by rw [(Pb hrk).1];exact (HCW.out _ (Qe zx)).1
   subst z3;have HRDi:=zH (oy.out i uF zx);have HDDi:=zH (aC.out i hic);have pA:Hid (∀ w':vu,vz w.1.size w w' -> vA prog 126 #[vf #[vd vo L.p,vd vq L.block,vd vq L.queries,vd vq L.k,vd vq L.n,vd vq L.secret,vd vq L.rows,vd vq L.a,vd vq L.b,vd vq L.b,vd vq L.b],ve Am L.block cm,ve Ak L.queries ck] w' fun e w2=>∃ g,e=vn (ve (vD ⟨g,0,vB⟩) L.k L.k) /\ w'.1.size <= g /\ Blk w2 g 22 (Ya L.k (Rw i)) /\ vz w'.1.size w' w2):=zH (fun w' hb=>by rw [<- HRDi.out];exact pE.out Am cm Ak ck m[i] r[i] w' (Wa hb rp) (Wa hb hrk))
   obtain ⟨ci,lF⟩:=zEX (fj[i]);rw [<- lF] at iL HDDi;have HRC:=zH iL;obtain ⟨y0,po⟩:=zEX (P i);obtain ⟨y1,qf⟩:=zEX (P (i+1));have HP1i:=zH (jE.out i);have HC1i:=zH (Gj.out i);have HL1i:=zH (dj.out i);rw [<- po,<- qf] at HP1i;rw [<- qf] at HC1i;rw [<- po];have BJ:=zH qf;have Kf:Hid (∀ w:vu,vA prog 142 #[vf #[vd vo L.p],vd vo y0,vd vo al] w fun e w'=>e=vn (vd vo y1) /\ vz w.1.size w w'):=zH (fun w=>by rw [HP1i.out];exact HMl.out y0 al w)
   have cci:=(ov (hx.2 bc hbc zO zO zO)).trans Vy;have cmi:=(Oa.cell (p:=⟨bm,qm+i,vB⟩) hbm).trans ox;have cki:=(Oa.cell (p:=⟨bk,qk+i,vB⟩) hbk).trans hck;have lbm:bm<wr.1.size:=We hbm Oa.size;have lbk:bk<wr.1.size:=We hbk Oa.size;have Uo:N <= wr.1.size:=jb hN9 hx.1.size;clear po qf lF Vy ox hck rp hrk iL;have cl:=Sr.cell;have ll:=Sr.lt;have cc:=kc1.cell;have lc:=kc1.lt;go_upto_region 10 with fail
   clear cci;refine Jz (Rc) [12,14] [14] [0,1,2,3,4,5,6,7,8,9,10,11,12,13,14] zK zK ?_;refine Lz (Da) ?_;intro Wc Ga ja;have Pa:=Uf Ga;replace Rg:=pa Rg Pa;replace Xl:=pa Xl Pa;replace kr:=pa kr Pa;replace o1:=Za o1 Pa zR;replace o2:=Za o2 Pa zR;replace Oa:=ta Oa Pa;replace hx:=SC hx (UJ Pa);replace jj:=Iy jj (bH Pa);replace Uo:=jb Uo Pa.size;refine Jq ?_;refine tn (Da) rfl rfl rfl (fun _=>by go_simp <;> rfl) ((pA.out _ Oa).mono ?_)
   rintro e wA ⟨gA,rfl,fD,kA,bB⟩;refine ⟨_,rfl,fun _=>bB,?_⟩
   replace ja:=zM Da ja (bB);refine zPU ?_;replace Rg:=pa Rg bB;replace Xl:=pa Xl bB;replace kr:=pa kr bB;replace o1:=Za o1 bB zR;replace o2:=Za o2 bB zR;replace Oa:=ta Oa bB;replace hx:=SC hx (UJ bB);replace jj:=Iy jj (bH bB);clear ja Pa bB Ga cl ll cc lc cmi cki lbm lbk Sr kc1;have ja:=(Da).refl wA;have jH:=kr.cell i;rw [Array.getElem?_eq_getElem zO] at jH;have fkr:=kr.frozen;refine Jq ?_;refine fh (Da) rfl rfl rfl ?_;go_simp;refine ⟨fun h=>Bool.noConfusion h,?_⟩
   have Ob:=Hh (w:=wA) gr i (ve (vD ⟨gA,0,vB⟩) L.k L.k);replace kr:=kr.set_ i (ve (vD ⟨gA,0,vB⟩) L.k L.k);have kA0:=kA;replace kA:=kA.grown Ob (fun e=>by have:=Nb e;omega)
   replace Rg:=Rg.grown Ob (fun e=>by have:=Nb e;omega)
   replace Xl:=Xl.grown Ob (fun e=>by have:=Nb e;omega)
   replace jj:=Iy jj (uR Ob x5);replace o1:=WM o1 (SE (g1:=gr) (g2:=gr) (g3:=gr) Ob (.inl rfl)) zO zO zO;replace o2:=WM o2 (SE (g1:=gr) (g2:=gr) (g3:=gr) Ob (.inl rfl)) zO zO zO;replace hx:=SC hx (SE Ob (.inr (.inr rfl)));clear kA0 Ob jH fkr ja Oa;generalize wA.setCell _ _=wB at kr kA Rg Xl jj o1 o2 hx |-;have ja:=(Da).refl wB;refine Jq ?_;refine Kz ?_;replace jj:=zB7 jj zO (by omega:N <= gA) kA
   have hCS2:(CS.setIfInBounds i (ve (vD ⟨gA,0,vB⟩) L.k L.k)).size=nC:=by simp [hCS]
   have hCi:(CS.setIfInBounds i (ve (vD ⟨gA,0,vB⟩) L.k L.k))[i]?=vD (ve (vD ⟨gA,0,vB⟩) L.k L.k):=by simp [show i<CS.size by omega]
   generalize CS.setIfInBounds i _=CS2 at kr jj hCS2 hCi;have x6:N <= gA:=by omega
   clear ja hCS fD Uo;have cf:=Rg.cell;have cx:=Xl.cell;go_wp2_with fail
   refine (Kf.out _).mono ?_;rintro e wC ⟨rfl,Ca⟩;replace Rg:=pa Rg Ca;replace Xl:=pa Xl Ca;replace kr:=pa kr Ca;replace kA:=pa kA Ca;replace o1:=Za o1 Ca zR;replace o2:=Za o2 Ca zR;replace jj:=Iy jj (bH Ca);replace hx:=SC hx (UJ Ca);clear Ca cf cx;have cf:=Rg.cell;have lf:=Rg.lt;have jH:=kr.cell i;rw [hCi] at jH;have lr:=kr.lt;have x7:gf≠g1:=by omega
   have x8:gr≠g1:=by omega
   go_upto_region 12 with fail
   refine Pd (Ji g1) [7] [0,1,2,3,4,5,6,7] zK zK ?_;refine oe (de g1) ?_;intro Wc Ga ja;have Pa:=Uf Ga;replace Rg:=pa Rg Pa;replace Xl:=pa Xl Pa;replace kr:=pa kr Pa;replace kA:=pa kA Pa;replace o1:=Za o1 Pa zR;replace o2:=Za o2 Pa zR;replace jj:=Iy jj (bH Pa);replace hx:=SC hx (UJ Pa);refine Hk ?_;refine ud (de g1) rfl rfl rfl ((QQ.out y1 g1 w.1.size gA L.k ca1 L.k L.k L.k L.k (fC i) (Rw i) _ o1 kA zO zR (Nat.min_self _).symm zO).mono ?_);rintro e wD ⟨rfl,Vv,gD⟩;refine ⟨_,rfl,gD,?_⟩;replace ja:=zM (de g1) ja (gD);refine zPU ?_;refine Hk ?_;refine Vc ?_;rw [<- HC1i.out] at Vv;replace kA:=kA.grown gD (fun e=>by have:=Nb e;omega)
   replace Rg:=Rg.grown gD (fun e=>by have:=Nb e;omega)
   replace Xl:=Xl.grown gD (fun e=>by have:=Nb e;omega)
   replace kr:=kr.grown gD (fun e=>by have:=Nb e;omega)
   replace jj:=Iy jj (uR gD zO);replace o2:=WM o2 (SE (g1:=g1) (g2:=g1) (g3:=g1) gD (.inl rfl)) zO zO zO;replace hx:=SC hx (SE gD (.inl rfl));clear ja Pa Ga cf lf jH lr gD o1;have Xt:=zB1 (N:=N) hx zO zO zO;have iL:=HRC.out wD (fun b b1 b2=>Xt.2 b b1 b2)
   have cf:=Rg.cell;go_wp2_with fail
   refine (HInv.out Ac cc0 ci _ iL).mono ?_;rintro e wE ⟨gE,rfl,hgE,kE,Ca⟩;replace Rg:=pa Rg Ca;replace Xl:=pa Xl Ca;replace kr:=pa kr Ca;replace kA:=pa kA Ca;replace Vv:=Za Vv Ca zR;replace o2:=Za o2 Ca zR;replace jj:=Iy jj (bH Ca);replace hx:=SC hx (UJ Ca);clear Ca cf Xt iL;have hE:=UE kE (fun k _=>HIX.out ci k) (by simp [maxLen];omega)
   have hA:=UE kA (fun k _=>sJ.out i k) (by simp [maxLen];omega)
   rw [Vf.out] at hA;have cf:=Rg.cell;have lf:=Rg.lt;have jH:=kr.cell i;rw [hCi] at jH;have lr:=kr.lt;go_upto_region 14 with fail
   refine Pd (Rc) [6] [0,1,2,3,4,5,6,7,8,9,10,11] zK zK ?_;refine oe (Da) ?_;intro Wc Ga ja;have Pa:=Uf Ga;replace Rg:=pa Rg Pa;replace Xl:=pa Xl Pa;replace kr:=pa kr Pa;replace Vv:=Za Vv Pa zR;replace o2:=Za o2 Pa zR;replace hE:=Wa Pa hE;replace hA:=Wa Pa hA;replace jj:=Iy jj (bH Pa);replace hx:=SC hx (UJ Pa);have hW2:g2<Wc.1.size:=(o2.lt g2 rfl).2;refine Mc ?_;refine ud Da rfl rfl rfl ((HMu1.out _ _ _ _ _ _ _ hE hA).mono ?_);rintro e wF ⟨gF,rfl,hgF,kF,Xo⟩;refine ⟨_,rfl,Xo,?_⟩;replace ja:=zM Da ja (Xo);refine zPU ?_;replace Rg:=pa Rg Xo;replace Xl:=pa Xl Xo;replace kr:=pa kr Xo;replace Vv:=Za Vv Xo zR;replace o2:=Za o2 Xo zR;replace jj:=Iy jj (bH Xo);replace hx:=SC hx (UJ Xo);rw [HDDi.out] at kF;refine Mc ?_;refine Vc ?_;clear ja Pa Ga cf lf jH lr Xo hE hA kE kA;have x9:g2≠gF:=by omega
   have cf:=Rg.cell;go_wp2_with fail
   refine (QQ.out 1 g2 w.1.size gF len ca2 len N1 N1 len (fL i) (Dv i) _ o2 kF x9 Lf.out.1 (Nat.min_self _).symm zO).mono ?_;rintro e wG ⟨rfl,xz,oB⟩;rw [<- HL1i.out] at xz;replace kr:=kr.grown oB (fun e=>by have:=Nb e;omega)
   replace jj:=Iy jj (uR oB zO);replace Vv:=WM Vv (SE (g1:=g2) (g2:=g2) (g3:=g2) oB (.inl rfl)) zO zO zO;replace hx:=SC hx (SE oB (.inr (.inl rfl)));clear oB cf kF o2;go_wp2_with fail
   go_roundw
   case rel=>exact ⟨i+1,CS2,zO,by go_num,by rw [BJ.out],hCS2,Vv,xz,kr,jj,hx⟩
   case measure=>simp [intOf];omega
  ·obtain rfl:i=nC:=by omega
   have q1:¬((i:Int)<i):=by omega
   have Uo:N <= wr.1.size:=jb hN9 hx.1.size;have k3r:=UO k3 hx zO zO zO;obtain ⟨wo,xB⟩:=zEX (wr);subst xB;have cl:=Sr.cell;go_wp2_with fail
   refine (HSp.out gr _).mono ?_;rintro e wS ⟨⟨X1,X2,X3,c1,c2,c3,rfl,hX⟩,Ca⟩;replace Rg:=pa Rg Ca;replace Xl:=pa Xl Ca;replace kr:=pa kr Ca;replace k3r:=pa k3r Ca;replace o1:=Za o1 Ca zR;replace o2:=Za o2 Ca zR;replace Oa:=ta Oa Ca;replace jj:=Iy jj (bH Ca);have HX:=zH hX;clear Ca cl hX Sr kc1 kl kf kx kc k3 hx;go_wp2_with fail
   go_loopw [15,124] (fun b y wr=>∃ j:Nat,j <= L.b /\ y=vd vq j /\ b=vd vo (P2 j:Int) /\ wr.ownsRow w.1.size 22 1 (ve (vD ⟨g3,0,vB⟩) Bk Bk) Bk (Qa ((List.range Bk).map (fQ j))) /\ wS.grownBy wr (vD g3)) (fun _ y _=>L.b-(intOf y).toNat)
   case atStart=>exact ⟨0,Qb _,rfl,by rw [<- H12.out],zFB k3r zO (by simp [maxLen];omega),mg _ _⟩
   case round =>
    clear k3r;obtain ⟨j,hj,rfl,rfl,o3,hg⟩:=hrel;by_cases hltj:j<L.b
    ·obtain ⟨rfl,rfl,rfl⟩:=HX.out zO
     have q2:(j:Int)<L.b:=by omega
     have q3:(0:Int)<=j:=by omega
     have zq:=Rg.grown hg (fun e=>by have:=Nb e;omega)
     have Pv:=Xl.grown hg (fun e=>by have:=Nb e;omega)
     have Rf:=kr.grown hg (fun e=>by have:=Nb e;omega)
     have Bm:=Iy jj (uR hg zO);obtain ⟨ga,hca,hga,ka⟩:=Bm (L.a+j) (zQ HT4.out);obtain ⟨gb,hcb,Cm,kb⟩:=Bm (L.a+L.b+j) (zQ HT4.out);obtain ⟨gz,CK,hgz,kz⟩:=Bm (L.a+L.b+L.b+j) (zQ HT4.out);have ha:=UE ka (fun k _=>sJ.out _ k) (by simp [maxLen];omega)
     have hb:=UE kb (fun k _=>sJ.out _ k) (by simp [maxLen];omega)
     rw [Vf.out] at ha hb;obtain ⟨y0,po⟩:=zEX (P2 j);obtain ⟨y1,qf⟩:=zEX (P2 (j+1));obtain ⟨nz,hnz⟩:=zEX (qg L.p y1);have HR1j:=zH (Oq.out j);have HQ1j:=zH (Nq.out j);have HXXj:=zH (Js.out j);rw [<- po,<- qf] at HR1j;rw [<- qf,<- hnz] at HQ1j;rw [<- po];have BJ:=zH qf;have Kf:Hid (∀ w:vu,vA prog 142 #[vf #[vd vo L.p],vd vo y0,vd vo be] w fun e w'=>e=vn (vd vo y1) /\ vz w.1.size w w'):=zH (fun w=>by rw [HR1j.out];exact HMl.out y0 be w)
     have Pp:Hid (∀ w:vu,vA prog 147 #[vf #[vd vo L.p],vd vo y1] w fun e w'=>e=vn (vd vo nz) /\ vz w.1.size w w'):=zH (fun w=>by rw [hnz];exact HNg.out y1 w)
     clear po qf hnz ka kb;have cf:=zq.cell;have cx:=Pv.cell;go_wp2_with fail
     refine (Kf.out _).mono ?_;rintro e wC ⟨rfl,Ca⟩;replace zq:=pa zq Ca;replace Rf:=pa Rf Ca;replace kz:=pa kz Ca;replace ha:=Wa Ca ha;replace hb:=Wa Ca hb;replace o3:=Za o3 Ca zR;replace hg:=Gr hg Ca hg.size;clear Ca cf cx Pv Bm;have cf:=zq.cell;have lf:=zq.lt;have cra:=Rf.cell (L.a+j);have crb:=Rf.cell (L.a+L.b+j);rw [hca] at cra;rw [hcb] at crb;have lr:=Rf.lt;go_upto_region 23 with fail
     refine Pd (Rc) [9] [0,1,2,3,4,5,6,7,8,9,10,11,12,13,14] zK zK ?_;refine oe (Da) ?_;intro Wc Ga ja;have Pa:=Uf Ga;replace zq:=pa zq Pa;replace Rf:=pa Rf Pa;replace kz:=pa kz Pa;replace ha:=Wa Pa ha;replace hb:=Wa Pa hb;replace o3:=Za o3 Pa zR;replace hg:=Gr hg Pa hg.size;have hW3:g3<Wc.1.size:=(o3.lt g3 rfl).2;refine Mc ?_;refine ud Da rfl rfl rfl ((HMu3.out _ _ _ _ _ _ _ ha hb).mono ?_);rintro e wF ⟨gF,rfl,hgF,kF,Xo⟩;refine ⟨_,rfl,Xo,?_⟩;replace ja:=zM Da ja (Xo);refine zPU ?_;replace zq:=pa zq Xo;replace Rf:=pa Rf Xo;replace kz:=pa kz Xo;replace o3:=Za o3 Xo zR;replace hg:=Gr hg Xo hg.size;rw [HXXj.out] at kF;refine Mc ?_;refine Vc ?_;clear ja Pa Ga cf lf cra crb lr Xo ha hb;have x9:g3≠gF:=by omega
     have cf:=zq.cell;go_wp2_with fail
     refine (QQ.out y1 g3 w.1.size gF Bk Bk Bk N3 N3 Bk (fQ j) (XY j) _ o3 kF x9 Lf.out.2 (Nat.min_self _).symm zO).mono ?_;rintro e wG ⟨rfl,yD,oB⟩;replace hg:=XE hg oB (fun _ e=>.inl e)
     replace zq:=zq.grown oB (fun e=>by have:=Nb e;omega)
     replace Rf:=Rf.grown oB (fun e=>by have:=Nb e;omega)
     replace kz:=kz.grown oB (fun e=>by have:=Nb e;omega)
     clear oB cf kF o3;have cf:=zq.cell;have lf:=zq.lt;have crz:=Rf.cell (L.a+L.b+L.b+j);rw [CK] at crz;have lr:=Rf.lt;have Xx:gf≠g3:=by omega
     have x11:gr≠g3:=by omega
     go_upto_region 25 with fail
     refine Pd (Ji g3) [8,9] [0,1,2,3,4,5,6,7,8,9] zK zK ?_;refine oe (de g3) ?_;intro Wc Ga ja;have Pa:=Uf Ga;replace kz:=pa kz Pa;replace yD:=Za yD Pa zR;replace hg:=Gr hg Pa hg.size;refine Hk ?_;refine ud (de g3) rfl rfl rfl ((Pp.out _).mono ?_);rintro e wH ⟨rfl,hbH⟩;refine ⟨_,rfl,F8 hbH,?_⟩;replace ja:=zM (de g3) ja (F8 hbH);refine zPU ?_;replace kz:=pa kz hbH;replace yD:=Za yD hbH zR;replace hg:=Gr hg hbH hg.size;refine Hk ?_;refine ud (de g3) rfl rfl rfl ((QQ.out nz g3 w.1.size gz Bk Bk L.k L.k L.k L.k (Vp L.p y1 (fQ j) (XY j) Bk) (Rw (L.a+L.b+L.b+j)) _ yD kz zO zR zO zO).mono ?_);rintro e wI ⟨rfl,o3'',hgI⟩;refine ⟨_,rfl,hgI,?_⟩;replace ja:=zM (de g3) ja (hgI);refine zPU ?_;refine Hk ?_;refine Vc ?_;rw [<- HQ1j.out] at o3'';replace hg:=XE hg hgI (fun _ e=>.inl e)
     clear ja Pa Ga cf lf crz lr hbH hgI yD kz zq Rf;go_wp2_with fail
     go_roundw
     case rel=>exact ⟨j+1,zO,by go_num,by rw [BJ.out],o3'',hg⟩
     case measure=>simp [intOf];omega
    ·obtain rfl:j=L.b:=by omega
     have q2:¬((L.b:Int)<L.b):=by omega
     replace o1:=WM o1 (SE (g1:=g3) (g2:=g3) (g3:=g3) hg (.inl rfl)) zO zO zO;replace o2:=WM o2 (SE (g1:=g3) (g2:=g3) (g3:=g3) hg (.inl rfl)) zO zO zO;have hE:=Ee Oa hg;clear hg;go_wp2;exact Uc (v:=.tuple #[ve (vD ⟨g1,0,vB⟩) L.k ca1,ve (vD ⟨g2,0,vB⟩) len ca2,ve (vD ⟨g3,0,vB⟩) Bk Bk]) (by simp [results,results65,go_sem]) rfl ⟨_,_,_,rfl,o1,o2,o3,hE⟩
def FC (N:Nat) (w:vu) (xs:Nat -> vw) (n:Nat -> Nat) (vals:Nat -> List Nat):Prop :=
 (∀ j,j<3 -> w.ownsRow N 22 1 (xs j) (n j) (Qa ((vals j).take (n j)))) /\
 ∀ j i,j<3 -> i<3 -> j≠i -> ∀ q,(xs j).ownBlock=vD q -> (xs i).ownBlock=vD q -> False
theorem tT {N:Nat} {w w':vu} {xs:Nat -> vw} {n:Nat -> Nat} {vals:Nat -> List Nat} (h:FC N w xs n vals) (hb:vz w.1.size w w'):FC N w' xs n vals :=
 ⟨fun j hj=>Za (h.1 j hj) hb zR,h.2⟩
theorem r3_set {N B:Nat} {w w':vu} {xs:Nat -> vw} {n:Nat -> Nat} {vals:Nat -> List Nat} (h:FC N w xs n vals) (hg:w.grownBy w' (vD B)) (hB:B<N):FC N w' xs n vals :=
 ⟨fun j hj=>ui (h.1 j hj) hg hB,h.2⟩
theorem r3_app {N k:Nat} {w w':vu} {xs:Nat -> vw} {n:Nat -> Nat} {vals:Nat -> List Nat} {x:vw} (h:FC N w xs n vals) (hk:k<3) (ho:w'.ownsRow N 22 1 x (n k+1) (Qa ((vals k).take (n k+1)))) (hg:w.grownBy w' (xs k).ownBlock) (hb:x.ownBlock=(xs k).ownBlock \/ x.ownBlock=vD w.1.size):FC N w' (me xs k x) (fun j=>if j=k then n k+1 else n j) vals:=by
 refine ⟨fun j hj=>?_,fun j i hj hi db q h1 h2=>?_⟩
 ·by_cases e:j=k
  ·subst e;simp only [me,if_true];exact ho
  ·simp only [me,Gb e]
   exact P8 (h.1 j hj) hg fun q h1 h2=>h.2 j k hj hk e q h1 h2
 ·by_cases e:j=k
  ·subst e
   have e2:¬i=j:=fun e2=>db e2.symm
   rw [me,Lb rfl] at h1;rw [me,Gb e2] at h2;exact xR (h.1 i hi) (h.2 j i hj hi db) hb q h1 h2
  ·rw [me,Gb e] at h1
   by_cases e2:i=k
   ·subst e2
    rw [me,Lb rfl] at h2;exact xR (h.1 j hj) (h.2 i j hi hj (fun e=>db e.symm)) hb q h2 h1
   ·rw [me,Gb e2] at h2
    exact h.2 j i hj hi db q h1 h2
theorem zFS (L:Tb) (pu:Nat) (vars:Int) (A B:Option vx) (n c m d:Nat) (rows:List sc) (ws:List Nat) (w:vu) (hL:Ad L) (hF:GC L pu vars rows) (hr:RSl 3 yg w [ve A n c] rows) (hw:RWd w [ve B m d] ws) (oD:(ws.length:Int)=vars) :
  vA prog 59 #[vf (Ub L),Xc L.p (pu:Int) vars (ve A n c),ve B m d] w fun e w'=>∃ v,e=vn v /\ RRx w.1.size w' v (tz L rows ws pu) /\ vz w.1.size w w':=by
 obtain ⟨mf,jn,hdx,ya,tp⟩:=Pb hw;subst mf;have gm:=ti jn hdx;have Jx:=hF.sec;have Gm:=hL.r;have kD:=hF.nr;obtain ⟨s,hs⟩:=zEX (1+pu);have e1:(1:Int)+pu=(s:Int):=by omega
 have e2:=Xd s;have e3:(s:Int)<=ws.length:=by omega
 have e4:s <= ws.length:=by omega
 have e5:(0:Int)<=s:=by omega
 have dv:((ws.length:Int) != vars)=false:=by rw [oD];simp
 rw [show tz L rows ws pu=ar L.block (ye (ws.drop s) (Ri L.p rows ws 0) (Ri L.p rows ws 1) (Ri L.p rows ws 2)) (ye L.a L.b L.b L.b) by rw [hs];rfl]
 have sB:L.a=((ws.drop s).length+L.block-1) / L.block:=by
  rw [DC,show ws.length-s=L.secret by omega];exact hL.ae
 have qi:∀ k,L.b=((Ri L.p rows ws k).length+L.block-1) / L.block:=fun k=>by
  rw [show (Ri L.p rows ws k).length=L.rows by simp [Ri,kD]];exact hL.be
 have oz:RWd w [ve (if d=s then B else Option.map (fun x=>x.add s) B) (ws.length-s) (d-s)] (ws.drop s):=by
  have hc:=tp.cut (k:=s) e4 jn;rw [Ns] at hc;refine ⟨_,_,_,rfl,zO,zO,?_,fun x hx=>ya x (List.mem_of_mem_drop hx)⟩
  have e:Qa (ws.drop s)=(Qa ws).drop s:=by simp [Qa]
  rw [e];exact hc
 have Mv:rows.length=n:=by
  obtain ⟨_,_,_,he,hn,-⟩:=hr;simp at he
  omega
 have YD:=zH (fun w=>uZ L pu vars A n c rows w hL hF Mv)
 have HVl:=zH (fun A len c l w' (hb:vz w.1.size w w') hl=>zA2 L.p A B len c ws.length d l ws w' hl (Wa hb hw) hL.p)
 have bO:=zH (fun v0 v1 v2 v3 l0 l1 l2 l3 w h hq=>R8 L v0 v1 v2 v3 l0 l1 l2 l3 w hL h hq)
 obtain ⟨A',n',c',he,Lr,Nd,ki,Na⟩:=hr;simp at he
 obtain ⟨rfl,rfl,rfl⟩:=he;subst Mv;have gr:(rows.length:Int) <= 65536:=by omega
 have Qq:=zH (show ∀ k i (h:i<rows.length),(Ri L.p rows ws k).take i++[Gg L.p (Od rows[i] k) ws]=(Ri L.p rows ws k).take (i+1) from fun k i h=>by
  rw [Cy (by simpa [Ri] using h)]
  simp [Ri])
 have Is:=zH (show ∀ k,(Ri L.p rows ws k).take rows.length=Ri L.p rows ws k from fun k=>EC (by simp [Ri]))
 have wJ:=zH (show ∀ k,∀ x∈Ri L.p rows ws k,x<18446744073709551616 from fun k x hx=>by
  obtain ⟨r,-,rfl⟩:=ee.1 hx;exact Je (Q6 (zQ (Cc hL.p)) _ _) (Cc hL.p).2)
 obtain ⟨vals,RP⟩:=zEX (Ri L.p rows ws);rw [<- RP] at Qq Is wJ qi |-;have HQ:=zH (And.intro sB qi);obtain ⟨B0,cK⟩:=zEX ((if d=s then B else Option.map (fun x=>x.add s) B))
 have UI:=zH cK;rw [<- cK] at oz;obtain ⟨TC,aF⟩:∃ TC:Array vw,TC=#[vd vo L.p,vd vq pu,vd vq vars,ve A rows.length c]:=⟨_,rfl⟩;have HTC:=zH aF;have pC:=zH (show TC[0]?=vD (vd vo L.p) by rw [aF];rfl)
 have HT3:=zH (show TC[3]?=vD (ve A rows.length c) by rw [aF];rfl)
 unfold Ub Xc at *;obtain ⟨kl,kt,da,-⟩:=Xf w 101 25 #[vd vo L.p,vd vq L.block,vd vq L.queries,vd vq L.k,vd vq L.n,vd vq L.secret,vd vq L.rows,vd vq L.a,vd vq L.b,vd vq L.b,vd vq L.b] #[vd vo L.p,vd vq pu,vd vq vars,ve A rows.length c];clear hs RP tp ya hw cK aF sB qi Jx Gm kD oD hF hL;go_enter func59,ntmps59
 go_upto_region 1 with fail
 generalize (w.alloc _).alloc _=w1 at kl kt da |-;have cl:=kl.cell;have ct:=kt.cell;go_wp2_with fail
 refine (YD.out _).mono ?_;rintro e w2 ⟨rfl,Ca⟩;replace kl:=pa kl Ca;replace kt:=pa kt Ca;replace da:=ta da Ca;clear Ca cl ct YD;have ct:=kt.cell;go_upto_region 4 with fail
 rw [<- UI.out];clear e1 e2 e3 e4 e5 UI ct dv;obtain ⟨kv,ma⟩:=zN w2 219 #[ve B0 (ws.length-s) (d-s),ve vB 0 0,ve vB 0 0,ve vB 0 0];have n1:=kt.lt;have n2:=kl.lt;replace kl:=pa kl ma;replace kt:=pa kt ma;replace da:=ta da ma;clear ma;have tf:w2.1.size+1 <= (w2.alloc (.cells #[ve B0 (ws.length-s) (d-s),ve vB 0 0,ve vB 0 0,ve vB 0 0] 219)).1.size:=kv.lt;have rF:w.1.size <= w2.1.size:=by omega
 generalize ws.length-s=n0 at *;generalize d-s=d0 at *;generalize w2.alloc _=w3 at kl kt kv da tf |-;generalize w2.1.size=gv at kv n1 n2 tf rF |-;obtain ⟨V0,jq⟩:∃ V0:vw,V0=ve B0 n0 d0:=⟨_,rfl⟩;have uA:=zH jq;rw [<- jq] at kv oz;clear jq;rw [<- HTC.out] at kt;have n3:w.1.size≠gv:=by omega
 have n4:w.1.size+1≠gv:=by omega
 obtain ⟨N,hN⟩:=zEX (gv+1);rw [<- hN] at tf;have nv:gv<N:=by omega
 have nv2:gv≠N:=by omega
 have n5:w.1.size<N:=by omega
 have n6:w.1.size+1<N:=by omega
 have n7:w.1.size <= gv:=by omega
 have n8:w.1.size≠N:=by omega
 clear hN;have ct:=kt.cell 3;rw [HT3.out] at ct;go_wp2_with fail
 clear ct;go_loopw [32] (fun y wr=>∃ (i:Nat) (xs:Nat -> vw),i <= rows.length /\ y=vd vq i /\ Blk wr w.1.size 101 #[vd vo L.p,vd vq L.block,vd vq L.queries,vd vq L.k,vd vq L.n,vd vq L.secret,vd vq L.rows,vd vq L.a,vd vq L.b,vd vq L.b,vd vq L.b] /\ Blk wr (w.1.size+1) 25 TC /\ Blk wr gv 219 #[V0,xs 0,xs 1,xs 2] /\ FC N wr xs (fun _=>i) vals /\ vz w.1.size w wr /\ N <= wr.1.size) (fun y _=>rows.length-(intOf y).toNat)
 case atStart=>exact ⟨0,fun _=>ve vB 0 0,zO,rfl,kl,kt,kv,⟨fun j _=>⟨rfl, .inl ⟨rfl,rfl⟩⟩,fun j i _ _ _ q h=>by cases h⟩,da,tf⟩
 case round =>
  clear kl kt kv da tf;obtain ⟨i,xs,hi,rfl,kl,kt,kv,h3,da,tf⟩:=hrel;by_cases Ys:i<rows.length
  ·have q1:(i:Int)<rows.length:=by omega
   have q2:(0:Int)<=i:=by omega
   obtain ⟨b,q,rfl⟩:=Na.base zO zO;obtain ⟨cs,-,hc,u0,u1,u2,rfl,jz,mz,jt⟩:=Na.get Ys;have r0:w.cell? ⟨b,q+i*3,vB⟩=vD u0:=hc 0 zO;have r1:w.cell? ⟨b,q+i*3+1,vB⟩=vD u1:=hc 1 zO;have r2:w.cell? ⟨b,q+i*3+2,vB⟩=vD u2:=hc 2 zO;have lb:=Bg _ _ r0;replace r0:=(da.cell (p:=⟨b,q+i*3,vB⟩) lb).trans r0;replace r1:=(da.cell (p:=⟨b,q+i*3+1,vB⟩) lb).trans r1;replace r2:=(da.cell (p:=⟨b,q+i*3+2,vB⟩) lb).trans r2;obtain ⟨P0,m0,k0,rfl⟩:=RSl.slc jz;obtain ⟨P1,m1,Oh,rfl⟩:=RSl.slc mz;obtain ⟨P2,m2,k2,rfl⟩:=RSl.slc jt;have oO:=zH (show ∀ k,(vals k).take i++[Gg L.p (Od (rows[i]'Ys) k) ws]=(vals k).take (i+1) from fun k=>Qq.out k i Ys)
   obtain ⟨ri,hri⟩:=zEX (rows[i]'Ys);rw [<- hri] at jz mz jt oO;clear hri;have HHI:=zH hi;obtain ⟨i1,Zn⟩:=zEX (i+1);have Mq:=zH Zn;have tc:=zH Ys;clear hc hi Zn;go_upto_region 7 with fail
   obtain ⟨kr,ma⟩:=zN wr 211 #[ve P0 m0 k0,ve P1 m1 Oh,ve P2 m2 k2];replace h3:=tT h3 ma;replace kl:=pa kl ma;replace kt:=pa kt ma;replace kv:=pa kv ma;replace da:=ta da ma;replace tf:=jb tf ma.size;clear ma r0 r1 r2;generalize wr.alloc _=wo at kr kl kt kv h3 da tf |-;generalize wr.1.size=gr at kr |-;have cr:=kr.cell;go_wp2_with fail
   clear cr kr;have HU0:=zH (fun w' (hb:vz w.1.size w w')=>Ph _ _ _ _ hb jz)
   have HU1:=zH (fun w' (hb:vz w.1.size w w')=>Ph _ _ _ _ hb mz)
   have HU2:=zH (fun w' (hb:vz w.1.size w w')=>Ph _ _ _ _ hb jt)
   clear jz mz jt;go_loopw [43] (fun y wr=>∃ (k:Nat) (xs:Nat -> vw),k <= 3 /\ y=vd vq k /\ Blk wr gv 219 #[V0,xs 0,xs 1,xs 2] /\ FC N wr xs (fun j=>if j<k then i+1 else i) vals /\ Ik gv N wo wr /\ N <= wr.1.size) (fun y _=>3-(intOf y).toNat)
   case atStart=>exact ⟨0,xs,zO,rfl,kv,h3,(yb _ _).refl _,tf⟩
   case round =>
    clear kv h3;obtain ⟨k,xs,hk,rfl,kv,h3,Va,Uo⟩:=hrel;have y1:w.1.size<gv+1:=by omega
    have y2:w.1.size+1<gv+1:=by omega
    have zL:=BR kl Va n5 n3;have Vj:=BR kt Va n6 n4;have tb:vz w.1.size w wr:=da.trans ⟨Va.1,Va.2.1,Va.2.2.1,Va.2.2.2.1,fun b hb=>Va.2.2.2.2 b zO zO⟩
    by_cases ya:k<3
    ·have g1:(k:Int)<3:=by omega
     have g2:(0:Int)<=k:=by omega
     obtain ⟨k1,og⟩:=zEX (k+1);have ek:(1:Int)+k=(k1:Int):=by omega
     have TJ:=Xd k1;have Vi:=zH og;have qk:k1<4:=by omega
     have qk2:(k1:Int)<4:=by omega
     have qk3:(0:Int)<=k1:=by omega
     clear og;have oa:wr.ownsRow N 22 1 (xs k) i (Qa ((vals k).take i)):=by have:=h3.1 k ya;simpa using this
     obtain ⟨Ax,cx,Uj,-⟩:=Yb oa;have ix:=fun (w:vu)=>SP (w:=w) (x:=ve P0 m0 k0) (y:=ve P1 m1 Oh) (z:=ve P2 m2 k2) ya
     obtain ⟨II,Ve⟩:=zEX ((if k=0 then ve P0 m0 k0 else if k=1 then ve P1 m1 Oh else ve P2 m2 k2))
     have yj:RLin wr [II] (Od ri k):=by
      rw [Ve];unfold Od;have hfb:vz wo.1.size wo wr \/ True:=.inr trivial;rcases (show k=0 \/ k=1 \/ k=2 by omega) with h | h | h <;> subst h
      ·exact HU0.out _ tb
      ·exact HU1.out _ tb
      ·exact HU2.out _ tb
     rw [<- Ve] at ix;obtain ⟨As,ns,Qc,rfl⟩:=RSl.slc yj;have YY:=zH (oO.out k);have cv:wr.cell? ⟨gv,k1,vB⟩=vD (ve Ax i cx):=by
      rw [kv.cell,Vi.out,OM ya,Uj]
     obtain ⟨z,hz⟩:=zEX (Gg L.p (Od ri k) ws);have xA:=zH (fun w' (hb:vz w.1.size w w') (UK:RLin w' [ve As ns Qc] (Od ri k))=>by have:=HVl.out As ns Qc (Od ri k) w' hb UK;rw [<- hz] at this;exact this)
     rw [<- hz] at YY;have Xg:=zH Uj;have cl:=zL.cell;have ll:=zL.lt;have lv:=kv.lt;clear Ve hz Uj;generalize Od ri k=lside at *;go_upto_region 10 with fail
     refine Jz (Ik N N) [10,11,12,14] [14] [0,1,2,3,4,5,6,7,8,9,10,11,12,13,14] zK zK ?_;refine Lz (yb N N) ?_;intro Wc Ga ja;have Pa:=Uf Ga;have Gc:N <= Wc.1.size:=by have:=Pa.size;omega
     replace kv:=pa kv Pa;replace oa:=Za oa Pa zR;replace tb:=ta tb Pa;replace h3:=tT h3 Pa;replace yj:=Ph _ _ _ _ Pa yj;replace Va:=zM (yb gv N) Va (Td Pa Uo);clear Ga Pa;refine ig ?_;refine tn (yb N N) rfl rfl rfl (fun _=>by go_simp <;> rfl) ((xA.out _ tb yj).mono ?_)
     rintro e w6 ⟨rfl,Lc⟩;refine ⟨_,rfl,fun _=>Td Lc Gc,?_⟩
     replace ja:=zM (yb N N) ja (Td Lc Gc);refine zPU ?_;have Ml:N <= w6.1.size:=by have:=Lc.size;omega
     replace kv:=pa kv Lc;replace oa:=Za oa Lc zR;replace tb:=ta tb Lc;replace h3:=tT h3 Lc;replace Va:=zM (yb gv N) Va (Td Lc Gc);clear Lc yj;refine ig ?_;refine fh (yb N N) rfl rfl rfl ?_;go_simp;have ma:=zA w6 (.cells #[vd vo z] 22);have td:=gg w6 (vd vo z) 22;refine ⟨fun _=>Td ma Ml,?_⟩
     replace kv:=pa kv ma;replace oa:=Za oa ma zR;replace tb:=ta tb ma;replace h3:=tT h3 ma;replace Va:=zM (yb gv N) Va (Td ma Ml);have ed:=jb Ml ma.size
     refine zPU ?_
     generalize w6.alloc _=w7 at kv oa h3 Va td tb ed |-;generalize w6.1.size=g6 at td |-;clear ma Ml ja cl cv;have ja:=(yb N N).refl w7;refine ig ?_;refine fh (yb N N) rfl rfl rfl ?_;refine Cs _ _ rfl jg rfl (by rw [Xg.out] at oa;exact oa) rfl td (De [z]) zO ed ?_
     intro v' wn Ua Ma Cb;have uc:∀ q,(ve Ax i cx).ownBlock=vD q -> N <= q:=fun q e=>by rw [<- Xg.out] at e;exact (oa.lt q e).1
     refine ⟨fun _=>Sn Ma ed uc,?_⟩
     replace kv:=kv.grown Ma (fun e=>by first | (have:=uc _ e;omega) | (have:=uc _ e.symm;omega))
     replace Va:=zM (yb gv N) Va (Sn Ma ed uc);replace Ua:wn.ownsRow N 22 1 v' (i+1) (Qa ((vals k).take (i+1))):=Qi (b:=[z]) Ua YY.out;have h4:=r3_app (x:=v') h3 ya (by simpa using Ua) (by rw [Xg.out];exact Ma) (by rw [Xg.out];exact Cb)
     obtain ⟨Aw,cw,rfl,-⟩:=Yb Ua;have Ud:=jb ed Ma.size;clear oa Ma Cb uc ed td ja h3 Ua;have ja:=(yb N N).refl wn;have cv:wn.cell? ⟨gv,k1,vB⟩=vD (ve Ax i cx):=by
      rw [kv.cell,Vi.out,OM ya,Xg.out]
     have fv2:=kv.frozen
     refine zPU ?_
     refine ig ?_;refine fh (yb N N) rfl rfl rfl ?_;go_simp;refine ⟨fun h=>Bool.noConfusion h,?_⟩
     have Ob:=Hh (w:=wn) gv k1 (ve Aw (i+1) cw);replace kv:=kv.set_ k1 (ve Aw (i+1) cw);rw [Vi.out,UU ya,<- Vi.out] at kv;have h4:=r3_set h4 Ob nv;replace Va:=zM (yb gv N) Va (XC Ob Ud);replace Ud:=jb Ud Ob.size;clear Ob cv fv2 ja;generalize wn.setCell _ _=wz at kv h4 Va Ud |-;have ja:=(yb N N).refl wz;refine ig ?_;refine Kz ?_;have h5:FC N wz (me xs k (ve Aw (i+1) cw)) (fun j=>if j<k1 then i+1 else i) vals:=by
      have e:(fun j=>if j=k then (fun j=>if j<k then i+1 else i) k+1 else (fun j=>if j<k then i+1 else i) j)=(fun j=>if j<k1 then i+1 else i):=by
       funext j
       rw [Vi.out];by_cases e1:j=k
       ·subst e1;simp
       ·by_cases e2:j<k
        ·simp [e1,e2,show j<k+1 by omega]
        ·simp [e1,e2,show ¬j<k+1 by omega]
      rw [e] at h4;exact h4
     clear h4;have HKL:=zH (show k1 <= 3 by omega)
     go_wp2
     go_roundw
     case rel=>exact ⟨k1,me xs k (ve Aw (i+1) cw),HKL.out,by rw [Vi.out];go_num,kv,h5,Va,Ud⟩
     case measure=>simp [intOf];omega
    ·obtain rfl:k=3:=by omega
     have bK:FC N wr xs (fun _=>i1) vals:=by
      refine ⟨fun j hj=>?_,h3.2⟩
      have:=h3.1 j hj;simp only [Lb hj] at this;rw [Mq.out];exact this
     clear h3;have HEE:=zH (show i1 <= rows.length by have:=tc.out;have:=Mq.out;omega)
     go_wp2_with fail
     go_roundw
     case rel=>exact ⟨i1,xs,HEE.out,by rw [Mq.out];go_num,zL,Vj,kv,bK,tb,Uo⟩
     case measure=>have:=tc.out;simp [intOf];omega
  ·obtain rfl:i=rows.length:=by omega
   have q2:¬((rows.length:Int)<rows.length):=by omega
   have h0:=h3.1 0 zO;have h1:=h3.1 1 zO;have h2:=h3.1 2 zO;rw [Is.out] at h0 h1 h2;obtain ⟨A1,c1,e1,h0⟩:=YX h0 (wJ.out 0);obtain ⟨A2,c2,e2,h1⟩:=YX h1 (wJ.out 1);obtain ⟨A3,c3,e3,h2⟩:=YX h2 (wJ.out 2);have hv:=Wa da oz;have HH:=zH (fun (w':vu) (hb:vz wr.1.size wr w')=>bO.out V0 (xs 0) (xs 1) (xs 2) (ws.drop s) (vals 0) (vals 1) (vals 2) w' (fun i hi=>by
    rw [e1,e2,e3];rcases (show i=0 \/ i=1 \/ i=2 \/ i=3 by omega) with rfl | rfl | rfl | rfl
    ·exact Wa hb hv
    ·exact Wa hb h0
    ·exact Wa hb h1
    ·exact Wa hb h2) (fun i hi=>by
    rcases (show i=0 \/ i=1 \/ i=2 \/ i=3 by omega) with rfl | rfl | rfl | rfl
    ·exact HQ.out.1
    ·exact HQ.out.2 0
    ·exact HQ.out.2 1
    ·exact HQ.out.2 2))
   rw [e1,e2,e3,uA.out] at kv HH;have cl:=kl.cell;have cv:=kv.cell;have ll:=kl.lt;have lv:=kv.lt;clear h3 h0 h1 h2 hv e1 e2 e3;go_wp2_with fail
   refine (HH.out _ (Kb _ _)).mono ?_;rintro e w9 ⟨v,rfl,hov,Ca⟩;go_wp2;go_ret
   exact ⟨_,rfl,hov.mono da.size,ta da Ca⟩
theorem aV {L:Tb} {r:List (List Nat)} {co li qu sa:List Nat} (h:RA L r co li qu sa=true):sa.length=L.n /\ fe sa=true:=by
 unfold RA wm at h;simp only [pe,My] at h;exact ⟨h.2.2.2.2.2.1,h.2.2.2.2.2.2⟩
theorem zFe {p:Nat} {pub vars:Int} {rows:List sc} {bl bw qs:Int} {L:Tb} (ht:Jd p pub vars rows=true) (hf:yy L ⟨p,pub,vars,rows.length,bl,bw,qs⟩):UF p pub vars rows bl bw qs=0:=by
 unfold UF;rw [Lb ht];exact hf.err
theorem zBO {K KB:Nat -> Prop} {w wb u:vu} (hb:vz w.1.size w wb) (a:Yd KB wb u) (hK:∀ b,K b -> b<w.1.size -> KB b):Yd K w u :=
 ⟨a.os.trans hb.os,a.tape.trans hb.tape,a.output.trans hb.output,jb hb.size a.size,fun b hk hl=>(a.block b (hK b hk hl) (We hl hb.size)).trans (hb.block b hl)⟩
theorem hd_rrx {B:Nat} {w:vu} {v:vw} {l:List (List Nat)} (h:RRx B w v l):Hd (fun b=>B <= b /\ b<w.1.size) w fun u=>Kd u [v] l:=fun _ a=>h.2 _ fun b h1 h2=>a.block b ⟨h1,h2⟩ h2
theorem zF2 {w:vu} {g:Nat} {O:Jb} {F K:Nat -> Prop} (h:OrcAt w g O F) (x:PvIn) (vars:Int) (A B A0 A1 A2 A3 A4:Option vx) (n c m d n0 c0 n1 c1 n2 c2 n3 c3 n4 c4:Nat) (bl bw qs:Int)
  (hL:Ad x.L) (uq:yy x.L ⟨x.L.p,(x.pub:Int),vars,x.rows.length,bl,bw,qs⟩) (hn:x.L.n=2^x.dd) (EK:x.dd <= 10) (Fb:Jd x.L.p (x.pub:Int) vars x.rows=true) (hT:GC x.L x.pub vars x.rows) (bx:VG vars x.rows) (hD:VD x.L.p (x.pub:Int) vars x.rows) (qx:x.dg=ur x.L.p (x.pub:Int) vars x.rows) (yB:x.m=tz x.L x.rows x.ws x.pub)
  (AR:vu -> Prop) (hA:Hd K w AR) (hK:∀ b,K b -> b<w.1.size /\ ¬F b)
  (hr:∀ u,AR u -> RSl 3 yg u [ve A n c] x.rows) (hw:∀ u,AR u -> RWd u [ve B m d] x.ws) (h0:∀ u,AR u -> Kd u [ve A0 n0 c0] x.crs) (h1:∀ u,AR u -> RWd u [ve A1 n1 c1] x.l1) (h2:∀ u,AR u -> RWd u [ve A2 n2 c2] x.l2) (h3:∀ u,AR u -> RWd u [ve A3 n3 c3] x.l3) (h4:∀ u,AR u -> RWd u [ve A4 n4 c4] x.l4)
  (oD:(x.ws.length:Int)=vars) (ru:x.ws.getD 0 0=1) (hwp:(x.ws.all fun y=>decide (y<x.L.p))=true) (hsat:RB x.L.p x.rows x.ws=true) (pq:RA x.L x.crs x.l1 x.l2 x.l3 x.l4=true) (hO:Nf O 1000) (Be:x.L.a+x.L.b+x.L.b+x.L.b <= 1000) :
  vA prog 17 #[.pointer (vD ⟨g,0,vB⟩),Xc x.L.p (x.pub:Int) vars (ve A n c),vf #[vd vq bl,vd vq bw,vd vq qs],ve B m d,vf #[ve A0 n0 c0,ve A1 n1 c1,ve A2 n2 c2,ve A3 n3 c3,ve A4 n4 c4]] w fun e w' =>
   ∃ (S:PS) (F':Nat -> Prop),e=vn (.tuple #[vf (Im (x.pr O) S),vd vq 0]) /\ OrcAt w' g (x.oF O) F' /\ Moved F F' w w' /\ Hd (fun b=>w.1.size <= b /\ b<w'.1.size /\ ¬F' b) w' (fun u=>Mt u (x.pr O) S):=by
 obtain ⟨kt,kx,kc,kr,da,Db⟩:=fH w 25 27 41 46 #[vd vo x.L.p,vd vq x.pub,vd vq vars,ve A n c] #[vd vq bl,vd vq bw,vd vq qs] #[ve A0 n0 c0,ve A1 n1 c1,ve A2 n2 c2,ve A3 n3 c3,ve A4 n4 c4] #[vd vo 0,ve vB 0 0,ve vB 0 0,ve vB 0 0,ve vB 0 0,ve vB 0 0,ve vB 0 0];have a0:=Tl hA;have Nu:=zH (fun w' (hb:vz w.1.size w w')=>MH hA (yc hb))
 have hz:=zFe Fb uq;have HN:=zH (fun w' (hb:vz w.1.size w w')=>(zFU x.L.p (x.pub:Int) vars A n c x.rows bl bw qs w' (hr w' (Nu.out w' hb))).mono (R':=fun e Vk=>e=vn (.tuple #[vf (Ub x.L),vd vq 0]) /\ vz w'.1.size w' Vk) (by
  rintro e Vk ⟨⟨lcs,rfl,hp⟩,Fa⟩;rw [hz] at hp;rcases hp with ⟨db,-⟩ | ⟨-,-,L',-,hf',rfl⟩
  ·exact absurd rfl db
  ·rw [hz,show L'=x.L from hf'.eq.trans uq.eq.symm]
   exact ⟨rfl,Fa⟩))
 have HV:=zH (fun w' (hb:vz w.1.size w w')=>by have a:=Nu.out w' hb;have:=Z6 x.L A0 A1 A2 A3 A4 n0 c0 n1 c1 n2 c2 n3 c3 n4 c4 x.crs x.l1 x.l2 x.l3 x.l4 w' hL (h0 w' a) (h1 w' a) (h2 w' a) (h3 w' a) (h4 w' a);rw [pq] at this;exact this)
 have HBl:=zH (fun w' (hb:vz w.1.size w w')=>by have:=zB3 B m d x.ws x.L.p w' (hw w' (Nu.out w' hb));rw [hwp] at this;exact this)
 have hasg:Qj x.L.p vars x.ws=true:=by
  unfold Qj;have:=uq.vars;have:=uq.pub;simp only at *;rw [ru,hwp,oD,show (vars == 0)=false by rw [Ke];omega]
  simp
 have HS:=zH (fun w' (hb:vz w.1.size w w')=>by have:=zF4 x.L.p (x.pub:Int) vars A B n c m d x.rows x.ws w' (hr w' (Nu.out w' hb)) (hw w' (Nu.out w' hb));rw [Fb,hasg,hsat] at this;exact this)
 have HM:=zH (fun w' (hb:vz w.1.size w w')=>(zFS x.L x.pub vars A B n c m d x.rows x.ws w' hL hT (hr w' (Nu.out w' hb)) (hw w' (Nu.out w' hb)) oD).mono (R':=fun e Vk=>∃ v,e=vn v /\ RRx w'.1.size Vk v x.m /\ vz w'.1.size w' Vk) fun _ _ h=>by rw [yB];exact h)
 obtain ⟨Gv,rq,kd,ef,sj⟩:=FO pq;have kL:=aV pq;have hmT:x.m.length=x.L.a+x.L.b+x.L.b+x.L.b:=by rw [yB];exact bQ _ _ _ _
 have mf:∀ r∈x.m,r.length=x.L.block:=fun r hr=>J7 (yB ▸ hr)
 have b1:=hL.b2;have b2:=hL.n2;have b3:=hL.q2;have b4:=hL.k;have b5:=hL.a;have b6:=hL.b;have HC:=zH (fun AM nM cM w' (hb:vz w.1.size w w') (hm:Kd w' [ve AM nM cM] x.m)=>by
  have a:=Nu.out w' hb;exact (zEN x.L A0 A1 A2 A3 A4 AM n0 n1 n2 n3 n4 nM c0 c1 c2 c3 c4 cM x.m x.crs x.l1 x.l2 x.l3 w' hL hm (h0 w' a) (h1 w' a) (h2 w' a) (h3 w' a) (by rw [hmT,Gv]) mf (fun r hr=>by have:=(rq r hr).1;omega) zO (zQ kd.1) (zQ ef.1) (zQ sj.1)).mono (R':=fun e Vk=>∃ v,e=vn v /\ RRx w'.1.size Vk v x.cols /\ vz w'.1.size w' Vk) fun _ _ h=>h)
 have HCE:=zH (x.cols_els hL.p);have ey:=zH (show ∀ l∈x.cols,l.length <= 100000 from fun l hl=>by rw [x.cols_row l hl,hmT];omega)
 have ly:=zH h;have HAA:=zH hA;have HK:=zH hK;have Hj:=zH hL;have HFo:=zH uq;have HOK:=zH (And.intro Fb (And.intro hT (And.intro bx hD)));have aC:=zH (And.intro hn EK);have HDG:=zH qx;have HRr:=zH hr;have HRw:=zH hw;have oE:=zH h0;have Oq:=zH h1;have HR2:=zH h2;have FG:=zH h3;have HR4:=zH h4;have HCO:=zH pq;have Gw:=zH kL;have HMT:=zH hmT;have Np:=zH mf;have Ru:=zH hO;have nF:∀ b,w.1.size <= b -> ¬F b:=fun b hb e=>by have:=h.lt b e;omega
 have NF:=zH nF;obtain ⟨uB,hwd,hwx,-,hwr⟩:=Pb (hw _ a0);have PG:=zH (fun w' (hb:vz w.1.size w w')=>(Pb (hw w' (Nu.out w' hb))).2.2.2.2)
 have oz:(x.pub:Int)<vars:=uq.vars;have g1:(0:Int)<m:=by omega
 have d1:((m:Int) != vars)=false:=by rw [<- oD,uB];simp
 have dv:=ti hwd hwx;have yJ:=zH uB;have jA:=zH (show x.pub<m by omega)
 have HPU:=zH (show x.pub<65536 by unfold Jd at Fb;simp only [pe,Mm,Ly] at Fb;omega)
 have HW0:=zH ru;clear h hA hK hL uq hn EK Fb hT bx hD qx yB hr hw h0 h1 h2 h3 h4 oD ru hwp hsat pq hO Gv rq kd ef sj kL hmT mf b1 b2 b3 b4 b5 b6 hz hasg a0 uB hwr hwx oz nF Db;unfold Xc Uv Ub at *;go_enter func17,ntmps17
 go_upto_region 1 with fail
 generalize (((w.alloc _).alloc _).alloc _).alloc _=w1 at kt kx kc kr da |-;have ct:=kt.cell;have cx:=kx.cell;go_wp2_with fail
 refine (HN.out w1 da).mono ?_;rintro e w2 ⟨rfl,Fa⟩;replace kt:=pa kt Fa;replace kx:=pa kx Fa;replace kc:=pa kc Fa;replace kr:=pa kr Fa;replace da:=ta da Fa;clear ct cx Fa HN;obtain ⟨L,kK⟩:=zEX (x.L);have Lg:=zH kK;rw [<- kK] at kt HV HBl HS HM HC Hj HFo HOK aC Gw HDG HCO Np HMT |-;clear kK;obtain ⟨kl,ma⟩:=zN w2 101 #[vd vo L.p,vd vq L.block,vd vq L.queries,vd vq L.k,vd vq L.n,vd vq L.secret,vd vq L.rows,vd vq L.a,vd vq L.b,vd vq L.b,vd vq L.b];have iD:w.1.size+3<w2.1.size:=kr.lt;replace kt:=pa kt ma;replace kx:=pa kx ma;replace kc:=pa kc ma;replace kr:=pa kr ma;replace da:=ta da ma;clear ma kx;go_upto_region 2 with fail
 generalize w2.alloc _=w3 at kl kt kc kr da |-;generalize w2.1.size=gl at kl iD |-;have ct:=kt.cell;have Na:=PG.out w3 da;rw [yJ.out] at Na;obtain ⟨b,q,rfl,dc,hc⟩:=Hf Na (show 0<x.ws.length by have:=yJ.out;omega)
 have Sl:w3.cell? ⟨b,q,vB⟩=vD (vd vo ((x.ws.getD 0 0:Nat):Int)):=hc;rw [HW0.out] at Sl;clear hc Na;go_wp2_with fail
 refine (HBl.out w3 da).mono ?_;rintro e _ ⟨rfl,rfl⟩;have cl:=kl.cell;have cc:=kc.cell;clear Sl;go_wp2_with fail
 refine (HV.out w3 da).mono ?_;rintro e w4 ⟨rfl,Ib⟩;replace kl:=pa kl Ib;replace kt:=pa kt Ib;replace kc:=pa kc Ib;replace kr:=pa kr Ib;replace da:=ta da Ib;clear cl cc ct Ib;have ct:=kt.cell;go_wp2_with fail
 refine (HS.out w4 da).mono ?_;rintro e w5 ⟨rfl,Bb⟩;replace kl:=pa kl Bb;replace kt:=pa kt Bb;replace kc:=pa kc Bb;replace kr:=pa kr Bb;replace da:=ta da Bb;clear ct Bb HV HBl HS d1;have ct:=kt.cell;have cl:=kl.cell;go_wp2_with fail
 have hw5:=da.size;refine (HM.out w5 da).mono ?_;rintro e w6 ⟨vm,rfl,hm6,Lc⟩;replace kl:=pa kl Lc;replace kt:=pa kt Lc;replace kc:=pa kc Lc;replace kr:=pa kr Lc;replace da:=ta da Lc;have h36:=kr.lt;clear ct cl HM;have hms5:=Lc.size;obtain ⟨AM,nM,cM,rfl⟩:=RSl.slc hm6.here;have cc:=kc.cell;have cl:=kl.cell;go_wp2_with fail
 refine (HC.out AM nM cM w6 da hm6.here).mono ?_;rintro e w7 ⟨vc,rfl,gS,Zb⟩;obtain ⟨AC,nC,cC,rfl⟩:=RSl.slc gS.here;replace kl:=pa kl Zb;replace kt:=pa kt Zb;replace kc:=pa kc Zb;replace kr:=pa kr Zb;replace da:=ta da Zb;obtain ⟨KB,hKB⟩:∃ KB:Nat -> Prop,KB=fun b=>b<w7.1.size /\ ¬F b:=⟨_,rfl⟩
 have dP:∀ b,b<w7.1.size -> ¬F b -> KB b:=fun b h1 h2=>by rw [hKB];exact ⟨h1,h2⟩
 have YB:=zH (show Hd KB w7 (fun u=>AR u /\ Blk u w.1.size _ _ /\ Blk u (w.1.size+2) _ _ /\ Blk u gl _ _ /\ Blk u (w.1.size+3) _ _ /\ Kd u [ve AM nM cM] x.m /\ Kd u [ve AC nC cC] x.cols) from fun u a =>
  have bk:∀ {g t cs},Blk w7 g t cs -> w.1.size <= g -> Blk u g t cs:=fun k hg=>(a.block _ (dP _ k.lt (NF.out _ hg)) k.lt).trans k
  ⟨MH HAA.out (zBO da a fun b h1 h2=>dP b (We h2 da.size) (HK.out b h1).2),bk kt zR,bk kc zO,bk kl zO,bk kr zO,
   hm6.2 u fun b h1 h2=>(a.block b (dP b (We h2 Zb.size) (NF.out _ zO)) (We h2 Zb.size)).trans (Zb.block b h2),
   gS.2 u fun b h1 h2=>a.block b (dP b h2 (NF.out _ zO)) h2⟩)
 have Dt:=zH (show ∀ b,KB b -> b<w7.1.size /\ ¬F b by rw [hKB];exact fun b h=>h)
 have HCX:=zH gS;have hw6:w.1.size <= w6.1.size:=by omega
 have hw67:w6.1.size <= w7.1.size:=Zb.size;clear hm6 gS Lc Zb hKB dP cc cl HC PG yJ HW0;obtain ⟨s1,Gd⟩:=zEX (x.t1 O);obtain ⟨e0,he0⟩:=zEX (1+x.pub);have jo:=jA.out;have e1:(1:Int)+x.pub=(e0:Int):=by omega
 have e2:=Xd e0;have e3:(1:Int)<=e0:=by omega
 have e4:(e0:Int)<=d:=by omega
 have e5:e0-1=x.pub:=by omega
 have HPB:=zH (fun u (a:AR u)=>DT (k:=x.pub) (xQ (HRw.out u a) (t:=1) zO) zO)
 obtain ⟨BP,dK⟩:∃ BP,(if d=1 then vD (⟨b,q,vB⟩:vx) else vD ⟨b,q+1,vB⟩)=BP:=⟨_,rfl⟩
 rw [show (if d=1 then vD (⟨b,q,vB⟩:vx) else Option.map (fun y:vx=>y.add 1) (vD ⟨b,q,vB⟩))=BP from dK] at HPB
 have HBP:=zH dK;have zi:=zH Gd;have YD:=zH (fun w1 (hb:vz w.1.size w w1)=>by
  have a:=Nu.out w1 hb;have:=zFN (ly.out.below hb) L Hj.out L.p (x.pub:Int) vars A BP n c x.pub (d-1) x.rows x.pu (HRr.out w1 a) HOK.out.2.2.2 HOK.out.1 (HPB.out w1 a) (Bl Ru.out zD) (by unfold PvIn.pu;rw [List.length_take];have:=HPU.out;omega)
  rw [<- HDG.out,show WC O L x.dg x.pu=s1 by rw [Gd,Lg.out];rfl] at this
  unfold Ub Xc at this;exact this)
 have hs1l:=zH (show s1.st<18446744073709551616 by rw [Gd];exact rm (iF ly.out.ok.ans 18 _))
 have CW:=zH (show Nf s1.O 1001 by rw [Gd];exact yz Ru.out 18 _)
 have BW:=zH (show qw s1.O by rw [Gd];exact QV ly.out.ok.ans 18 _)
 obtain ⟨NQ,Dd⟩:=zEX (w7.1.size);have l0:w.1.size<NQ:=by rw [Dd];exact kt.lt
 have lgl:gl<NQ:=by rw [Dd];exact kl.lt
 have n0:=NF.out w.1.size zR;have ngl:=NF.out gl zO;have ct:=kt.cell;have cl:=kl.cell;have se:=zH Dd;have HB:=zH da;clear Dd kl kt kc kr da Gd he0 dK jo dc;go_upto_region 10 with fail
 refine fw (F) (F) (NQ) [8,10] [0,1,2,3,4,5,6,7,8] [(9,129,#[vd vo 0,vd vo 0])] [10] zK (Mw.2 ⟨⟨_,rfl,rfl,fun a w=>by go_simp <;> rfl⟩,Ht _⟩) zK ?_
 refine jw ?_;intro Wc Ga ja;have oc:=zH (show vz w.1.size w Wc by rw [Ga.out];exact HB.out.drew)
 have La:Hid (Ui F NQ F Wc):=zH (by rw [Ga.out,se.out];exact ⟨zR,(ly.out.below HB.out).lt,fun _ _ h=>h⟩)
 have M8:=zH (show Moved F F w7 Wc by rw [Ga.out];exact SF (Af (Kb _ _)))
 clear Ga;refine yi ?_;rw [HBP.out];refine Nz (f:=?_) (vals:=?_) rfl rfl rfl La ?_ (fun wF Xa=>?_)
 rotate_left 3
 replace oc:=zH (ta oc.out Xa);replace M8:=zH (M8.out.trans (Af Xa));replace ja:=zM (mc F NQ) ja (ze Xa La.out.size);replace La:=zH (Te La.out Xa);refine (YD.out wF oc.out).mono ?_
 rotate_left
 ·intro w_;go_simp <;> rfl
 rintro e wA ⟨rfl,F1,h1,m1⟩;clear Xa;refine ⟨_,F1,rfl,m1,h1.lt,?_⟩;replace ja:=zM (mc F NQ) ja (jk La.out (m1));replace La:=zH (Kl La.out (m1) (h1.lt));refine zPU ?_;have H8:=zH h1;replace M8:=zH (M8.out.trans m1);clear h1 m1 oc;refine yi ?_;refine iw [(vD 16,9)] rfl La (fun Ym wE Wb Ng=>?_)
 have WJ:=Ng.blk _ (.head _) rfl;clear Ng;unfold Jm Zl;simp only [List.foldl];dsimp only at WJ
 generalize Ym 9=g9 at WJ  |-;obtain ⟨k9,RH,rL⟩:=WJ;replace H8:=zH (H8.out.below Wb);replace M8:=zH (M8.out.trans (Af Wb));replace ja:=zM (mc F NQ) ja (ze Wb La.out.size);replace La:=zH (Te La.out Wb)
 refine zPU ?_
 have lg9:w7.1.size <= g9:=by rw [<- se.out];exact RH
 have c9:=k9.cell;have f9:=k9.frozen;refine Ip ?_;refine ke (mc F NQ) rfl rfl rfl ?_;go_simp;refine ⟨ze ((ZM _ _ RH).trans (ZM _ _ RH)) zR,?_⟩
 refine zPU ?_
 refine Vc ?_;have k9z:=eH k9 0 1 (vd vo s1.st) (vd vo 0);have h10:=(H8.out.set rL (vd vo s1.st) (i:=0)).set rL (vd vo 0) (i:=1);have QF:=Tk (Tk M8.out lg9 0 (vd vo s1.st)) lg9 1 (vd vo 0);generalize vE (vE wE _ _) _ _=wZ at k9z h10 QF |-;have k9y:Blk wZ g9 129 #[vd vo s1.st,vd vo 0]:=by simpa using k9z
 have K9:=zH k9y;have H10:=zH h10;have M10:=zH QF;have N9:=zH (show ¬F1 g9 from rL)
 have G9:=zH (show w.1.size+3<g9 by have:=HB.out.size;omega)
 clear c9 f9 ja k9 k9z k9y h10 QF La H8 M8 Wb ct cl l0 lgl n0 ngl rL RH se YD;have AZ:=zH (sb YB.out (MA M10.out fun b h=>(Dt.out b h).2))
 have hkz:∀ b,KB b -> b<wZ.1.size /\ ¬F1 b:=fun b hb=>⟨We (Dt.out b hb).1 M10.out.size,Yl M10.out (Dt.out b hb).1 (Dt.out b hb).2⟩
 have ox:=zCs H10.out AC A4 nC cC n4 c4 x.cols x.l4 x.dd (zEt (bW AZ.out fun u h=>h.2.2.2.2.2.2)) (Y5 (bW AZ.out fun u h=>HR4.out u h.1)) hkz aC.out.2 (by rw [x.cols_len,<- Lg.out,aC.out.1]) (by rw [x.cols_len,<- Lg.out];exact Gw.out.1) Gw.out.2 HCE.out ey.out (Bl CW.out zD)
 have HCm:=zH ox;obtain ⟨-,-,kc,-,-,-,-⟩:=Tl AZ.out;have cc:=kc.cell;clear ox hkz;go_wp2_with fail
 refine HCm.out.mono ?_;rintro _ w8 ⟨tv,F2,T,rfl,h8,m8,kt8,hT8⟩;obtain ⟨o2,BF⟩:=zEX (x.o2 O);obtain ⟨tr,oo⟩:=zEX (x.tree O);have h8':OrcAt w8 g o2 F2:=by rw [BF];rw [zi.out] at h8;exact h8
 have aX:Ms T w8 tv tr:=by rw [oo];rw [zi.out] at kt8;exact kt8
 have HTO:=zH (show IA x.dd tr by rw [oo];exact zA9 _ aC.out.2 (by rw [rz,AI,x.cols_len,<- Lg.out,aC.out.1]))
 obtain ⟨AT,nT,cT,rfl⟩:=RSl.slc (a6 aX);have Rm:=zH BF;have HTR:=zH oo;obtain ⟨kT,ma⟩:=zN w8 132 #[ve AT nT cT];have nT2:¬F2 w8.1.size:=fun e=>by have:=h8'.lt _ e;omega
 have H9:=zH (h8'.below ma);have M9:=zH ((M10.out.trans m8).trans (Af (F:=F2) ma));have n92:¬F2 g9:=Yl m8 K9.out.lt N9.out;have k9b:=(K9.out.moved m8 N9.out).below ma (K9.out.moved m8 N9.out).lt;have lT9:g9<w8.1.size:=(K9.out.moved m8 N9.out).lt;have DE:=zH (hd_krr (YW aX ma));have tC:=zH (show ∀ b,T b -> w.1.size <= b /\ b<w8.1.size /\ ¬F2 b /\ g9<b from fun b hb=>⟨by have:=(hT8 b hb).1;have:=M10.out.size;have:=HB.out.size;omega,(hT8 b hb).2.1,(hT8 b hb).2.2,We K9.out.lt (hT8 b hb).1⟩)
 have h2lt:=zH (show ∀ b,F2 b -> b<w8.1.size from h8'.lt)
 clear BF oo h8 kt8 h8' aX m8 hT8 H10 M10 N9 K9 ma AZ HCm cc kc;go_upto_region 14 with fail
 generalize w8.alloc _=w9 at kT H9 M9 k9b DE |-;generalize w8.1.size=gT at kT nT2 lT9 tC h2lt |-;have K9:=zH k9b;have KT:=zH kT;have cT9:=kT.cell;clear k9b kT;obtain ⟨rt,Mi⟩:=zEX (PB tr);have pA:=zH (fun u (h:Kd u [ve AT nT cT] tr)=>by have:=zHr h HTO.out;rw [<- Mi] at this;exact this)
 have mC:=zH (show rt=x.root O by rw [Mi,HTR.out];rfl)
 clear Mi;go_wp2_with fail
 refine (pA.out w9 (Tl DE.out)).mono ?_;rintro e sn ⟨rfl,xh⟩;replace H9:=zH (H9.out.below xh);replace M9:=zH (M9.out.trans (Af xh));replace K9:=zH (K9.out.below xh K9.out.lt);replace KT:=zH (KT.out.below xh KT.out.lt);replace DE:=zH (sb DE.out (yc xh));clear xh cT9 pA;obtain ⟨kP,ma⟩:=zN sn 46 #[vd vo rt,ve vB 0 0,ve vB 0 0,ve vB 0 0,ve vB 0 0,ve vB 0 0,ve vB 0 0];have hgP:gT<sn.1.size:=KT.out.lt;have pS:w7.1.size <= sn.1.size:=M9.out.size;have nP2:¬F2 sn.1.size:=fun e=>by have:=h2lt.out _ e;omega
 replace H9:=zH (H9.out.below ma);replace M9:=zH (M9.out.trans (Af ma));replace K9:=zH (K9.out.below ma K9.out.lt);replace KT:=zH (KT.out.below ma KT.out.lt);replace DE:=zH (sb DE.out (yc ma));clear ma;go_upto_region 15 with fail
 generalize sn.alloc _=PI at kP H9 M9 K9 KT DE |-;generalize sn.1.size=gP at kP nP2 hgP pS |-;obtain ⟨-,-,-,kl,-,-,-⟩:=Tl (sb YB.out (MA M9.out fun b h=>(Dt.out b h).2))
 have cl:=kl.cell;have c9:=K9.out.cell;have cP:=kP.cell;have KP:=zH kP;have Og:=Cc Hj.out.p;have Vf:=zH (show rt<nc by rw [mC.out];exact zAr (x.tree_lt O (by rw [<- zi.out];exact BW.out)))
 have ox:=zFP H9.out s1.st 0 hs1l.out L zO Og.2 rt (rm Vf.out) (by
  rw [Rm.out];refine Bl (x.o2_le O (by rw [<- Lg.out];exact aC.out.1) (by rw [<- zi.out];exact CW.out)) ?_
  have:=Hj.out.n2;rw [<- Lg.out];omega)
 obtain ⟨ch,Fv⟩:=zEX (Tx ⟨o2,s1.st,0⟩ L.p rt);obtain ⟨s2,Fg⟩:=zEX (Fu ⟨o2,s1.st,0⟩ rt);rw [<- Fv,<- Fg] at ox;have fy:=zH ox;have HAO:=zH (show qw o2 from H9.out.ok.ans)
 have HS2L:=zH (show s2.st<18446744073709551616 by rw [Fg];exact rm (iF HAO.out 18 _))
 have HS2O:=zH (show Nf s2.O 800000 by
  rw [Fg];refine Bl (G8 (ct:=0) (k:=4000) ?_ s1.st rt) zO;rw [Rm.out];refine Bl (x.o2_le O (by rw [<- Lg.out];exact aC.out.1) (by rw [<- zi.out];exact CW.out)) ?_
  have:=Hj.out.n2;rw [<- Lg.out];omega)
 have Tu:=zH (show ∀ k j,(tr.getD k []).getD j 0<18446744073709551616 from fun k j=>rm (UX (by rw [HTR.out];exact x.tree_lt O (by rw [<- zi.out];exact BW.out)) k j))
 have HCH:=zH (show ch=x.ch O by rw [Fv,Rm.out,mC.out,Lg.out,zi.out];rfl)
 have Fw:=zH (show s2=x.t2 O by rw [Fg,Rm.out,mC.out,zi.out];rfl)
 unfold Ub at fy;clear kP kl ox Fv Fg Og;go_wp2_with fail
 refine fy.out.mono ?_;rintro _ Hu ⟨rfl,F3,h12,DB⟩;have k9c:=K9.out.moved DB n92;have n93:¬F3 g9:=Yl DB K9.out.lt n92;have c9':=k9c.cell;have f9':=k9c.frozen;have l9':=k9c.lt;have e9T:gT≠g9:=by omega
 have e9P:gP≠g9:=by omega
 have h13:=(h12.set n93 (vd vo s2.st) (i:=0)).set n93 (vd vo 3) (i:=1);have m13:=Tk (Tk (M9.out.trans DB) lg9 0 (vd vo s2.st)) lg9 1 (vd vo 3);have k9n:=eH k9c 0 1 (vd vo s2.st) (vd vo 3);have ktn:=((KT.out.moved DB nT2).far (p:=⟨g9,0,vB⟩) e9T (vd vo s2.st)).far (p:=⟨g9,1,vB⟩) e9T (vd vo 3);have kpn:=((KP.out.moved DB nP2).far (p:=⟨g9,0,vB⟩) e9P (vd vo s2.st)).far (p:=⟨g9,1,vB⟩) e9P (vd vo 3);have nTT:¬T g9:=fun e=>by have:=tC.out _ e;omega
 have trn:=sb (sb (sb DE.out (MA DB fun b hb=>(tC.out b hb).2.2.1)) (FE (i:=0) (c:=vd vo s2.st) nTT)) (FE (i:=1) (c:=vd vo 3) nTT)
 have nT3:¬F3 gT:=Yl DB KT.out.lt nT2;have nP3:¬F3 gP:=Yl DB KP.out.lt nP2;have nC3:¬F3 Hu.1.size:=fun e=>by have:=h12.lt _ e;omega
 have HF3C:=zH (show ∀ b,F3 b -> b<Hu.1.size from h12.lt)
 have hCP:gP<Hu.1.size:=(KP.out.moved DB nP2).lt;have HT3:=zH (show ∀ b,T b -> ¬F3 b from fun b hb=>Yl DB (by have:=(tC.out b hb).2.1;have:=KT.out.lt;omega) (tC.out b hb).2.2.1)
 obtain ⟨wS,hwS⟩:∃ wS,(Hu.setCell ⟨g9,0,vB⟩ (vd vo s2.st)).setCell ⟨g9,1,vB⟩ (vd vo 3)=wS:=⟨_,rfl⟩;have Db:wS.1.size=Hu.1.size:=by rw [<- hwS];simp [vE]
 rw [hwS] at h13 m13 k9n ktn kpn trn;obtain ⟨kC,ma⟩:=zN wS 136 #[vd vo ch.al,vd vo ch.rh,vd vo ch.be];rw [Db] at kC;have KC:=zH kC;have H13:=zH (h13.below ma);have M13:=zH (m13.trans (Af (F:=F3) ma));have K9n:=zH (pa k9n ma);have KTn:=zH (pa ktn ma);have KPn:=zH (pa kpn ma);have TRn:=zH (sb trn (yc ma));have HWS:=zH hwS;clear c9 cl cP k9c h12 DB ma h13 m13 k9n ktn kpn trn kC hwS Db H9 M9 K9 KT KP DE fy nTT n92;go_upto_region 16 with fail
 rw [HWS.out];generalize wS.alloc _=Iu at KC H13 M13 K9n KTn KPn TRn |-;generalize Hu.1.size=gC at KC nC3 hCP HF3C |-;clear c9' f9' l9' HWS;obtain ⟨aU,kt,kc,kl,-,hmU,-⟩:=Tl (sb YB.out (MA M13.out fun b h=>(Dt.out b h).2))
 have k9d:Blk Iu g9 129 #[vd vo s2.st,vd vo 3]:=by simpa using K9n.out
 have K9:=zH k9d;have cl:=kl.cell;have ct:=kt.cell;have cc:=kc.cell;have cC:=KC.out.cell;have Sy:=zFL L x.pub ch.rh ch.al ch.be vars A AM A0 A1 A2 A3 A4 n c nM cM n0 n1 n2 n3 n4 c0 c1 c2 c3 c4 x.rows x.m x.crs x.l1 x.l2 x.l3 x.l4 Iu Hj.out HOK.out.2.1 (HRr.out _ aU) HOK.out.2.2.1 hmU (oE.out _ aU) (Oq.out _ aU) (HR2.out _ aU) (FG.out _ aU) (HR4.out _ aU) HCO.out HMT.out Np.out;have TI:=zH Sy;unfold Ub Xc at TI;clear Sy K9n k9d kt kc kl hmU aU;go_wp2_with fail
 refine TI.out.mono ?_;rintro _ QD ⟨v1,v2,v3,rfl,o1,xz,o3,Fi⟩;obtain ⟨cd,Ev⟩:=zEX (x.code ch.al);obtain ⟨ln,Me⟩:=zEX (x.lin ch.rh);obtain ⟨qd,Gx⟩:=zEX (x.quad ch.be);have Vv:QD.ownsRow Iu.1.size 22 1 v1 L.k (Qa cd):=by rw [Ev];unfold PvIn.code;rw [<- Lg.out];exact o1
 have rX:QD.ownsRow Iu.1.size 22 1 v2 (L.k+L.block-1) (Qa ln):=by rw [Me];unfold PvIn.lin;rw [<- Lg.out];exact xz
 have yD:QD.ownsRow Iu.1.size 22 1 v3 (2*L.k-1) (Qa qd):=by rw [Gx];unfold PvIn.quad;rw [<- Lg.out];exact o3
 have HCF:=zH (FO HCO.out);have HPp:=zH (Cc Hj.out.p);have Gj:=zH (show ∀ y∈cd,y<18446744073709551616 from fun y hy=>Je (x.code_lt (by rw [<- Lg.out];have:=HPp.out;omega) (by rw [<- Lg.out];exact HCF.out.2.2.1.2) ch.al y (by rw [<- Ev];exact hy)) (by rw [<- Lg.out];exact HPp.out.2))
 have Co:=zH (show ∀ y∈ln,y<18446744073709551616 from fun y hy=>Je (x.lin_lt (by rw [<- Lg.out];have:=HPp.out;omega) (by rw [<- Lg.out];exact HCF.out.2.2.2.1.2) ch.rh y (by rw [<- Me];exact hy)) (by rw [<- Lg.out];exact HPp.out.2))
 have yw:=zH (show ∀ y∈qd,y<18446744073709551616 from fun y hy=>Je (x.quad_lt (by rw [<- Lg.out];have:=HPp.out;omega) ch.be y (by rw [<- Gx];exact hy)) (by rw [<- Lg.out];exact HPp.out.2))
 have HCL1:=zH (show cd.length=L.k by rw [Ev];simp [PvIn.code,Lg.out])
 have HCL2:=zH (show ln.length=L.k+L.block-1 by rw [Me];simp [PvIn.lin,Lg.out])
 have HCL3:=zH (show qd.length=2*L.k-1 by rw [Gx];simp [PvIn.quad,Lg.out])
 have dy:=zH (And.intro Ev (And.intro Me Gx));obtain ⟨P1,p1,rfl,-⟩:=Yb Vv;obtain ⟨P2,p2,rfl,-⟩:=Yb rX;obtain ⟨P3,p3,rfl,-⟩:=Yb yD;have uP:gP<Iu.1.size:=KPn.out.lt;have kp:=KPn.out.below Fi uP;have cP:=kp.cell;have fP:=kp.frozen;have e9P':g9≠gP:=fun e=>e9P e.symm
 have eTP:gT≠gP:=by omega
 have eCP:gC≠gP:=by omega
 have Ob:=zDK (w:=QD) (g:=gP) (ve P1 L.k p1) (ve P2 (L.k+L.block-1) p2) (ve P3 (2*L.k-1) p3);have h15:=(((H13.out.below Fi).set nP3 (ve P1 L.k p1) (i:=1)).set nP3 (ve P2 (L.k+L.block-1) p2) (i:=2)).set nP3 (ve P3 (2*L.k-1) p3) (i:=3);have m15:=Tk (Tk (Tk (M13.out.trans (Af (F:=F3) Fi)) pS 1 (ve P1 L.k p1)) pS 2 (ve P2 (L.k+L.block-1) p2)) pS 3 (ve P3 (2*L.k-1) p3);have XW:=((kp.set_ 1 (ve P1 L.k p1)).set_ 2 (ve P2 (L.k+L.block-1) p2)).set_ 3 (ve P3 (2*L.k-1) p3);simp only [Ha,Ja,Ia] at XW;have k9f:=(K9.out.below Fi K9.out.lt).grown Ob (fun e=>e9P' (Nb e))
 have ktf:=(KTn.out.below Fi KTn.out.lt).grown Ob (fun e=>eTP (Nb e))
 have TRf:=zH (sb (sb TRn.out (yc Fi)) (iZ Ob fun b e hT=>by have:=tC.out b hT;have:=Nb e;omega))
 have o1f:=ui Vv Ob uP;have o2f:=ui rX Ob uP;have o3f:=ui yD Ob uP;have HF3L:=zH (show ∀ b,F3 b -> b<Iu.1.size from fun b hb=>by have:=HF3C.out b hb;have:=KC.out.lt;omega)
 have H15:=zH h15;have M15:=zH m15;have eR:=zH ktf;have EU:=zH k9f;have KPq:=zH XW;clear Ob h15 m15 ktf k9f XW kp o1 xz o3 H13 M13 KTn K9 KPn TRn KC cl ct cc cC Fi TI Vv rX yD;go_upto_region 17 with fail
 generalize ((QD.setCell _ _).setCell _ _).setCell _ _=Hz at H15 M15 eR EU KPq TRf o1f o2f o3f |-;have q1:=Sf o1f Gj.out;have q2:=Sf o2f Co.out;have q3:=Sf o3f yw.out;have IP:∀ u:vu,RSl 1 RWd u [ve vB 0 0] []:=fun u=>⟨vB,0,0,rfl,rfl,zR,by simp [maxLen],fun i hi=>absurd hi zS⟩
 have Z4:∀ u:vu,RWd u [ve vB 0 0] []:=fun u=>⟨vB,0,0,rfl,zR,by simp [maxLen],⟨rfl,fun h=>absurd h zO⟩,fun x hx=>by cases hx⟩
 have eu:=Hj.out;have hpo:=zF0 H15.out s2.st 3 HS2L.out L eu ⟨rt,cd,ln,qd,[],[],[]⟩ ⟨P1,L.k,p1,P2,L.k+L.block-1,p2,P3,2*L.k-1,p3,vB,0,0,vB,0,0,vB,0,0⟩ ⟨rm Vf.out,q1,q2,q3,IP _,Z4 _,IP _⟩ HS2O.out (by
  show (cd++ln++qd).length <= 100000
  rw [qh,qh,HCL1.out,HCL2.out,HCL3.out];have:=eu.k;have:=eu.b2;have:=eu.q2;omega)
 obtain ⟨pos,ao⟩:=zEX (x.pos O);have ku:Wx ⟨s2.O,s2.st,3⟩ (cd++ln++qd) L.n L.queries=pos:=by
  rw [ao];show Wx s2 _ _ _=_
  unfold PvIn.pos PvIn.all;rw [<- Fw.out,<- Lg.out,<- HCH.out,<- dy.out.1,<- dy.out.2.1,<- dy.out.2.2]
 have hoe:UN ⟨s2.O,s2.st,3⟩ (cd++ln++qd) L.queries=x.oF O:=by
  show UN s2 _ _=_
  unfold PvIn.oF PvIn.all;rw [<- Fw.out,<- Lg.out,<- HCH.out,<- dy.out.1,<- dy.out.2.1,<- dy.out.2.2]
 have Lv:L.queries <= L.n:=by have:=eu.nk;have:=eu.k;omega
 have lh:=zH (show pos.length=L.queries by rw [<- ku];exact JS _ _ _ _ _ Lv)
 have pJ:=zH (show ∀ y∈pos,y<L.n by rw [<- ku];exact b9 _ _ _ _ _ Lv)
 have HPOS:=zH ao;dsimp only at hpo
 rw [ku,hoe] at hpo;have HPo:=zH hpo;unfold Ub Im at HPo;dsimp only at HPo
 obtain ⟨-,-,-,kl,-,-,-⟩:=Tl (sb YB.out (MA M15.out fun b h=>(Dt.out b h).2))
 have cl:=kl.cell;have c9:=EU.out.cell;have cP:=KPq.out.cell;clear hpo ku hoe ao q1 q2 q3 IP Z4 kl eu;go_wp2_with fail
 refine HPo.out.mono ?_;rintro _ w16 ⟨gr,dr,F4,rfl,h16,EB,aG,nr16⟩;clear cl c9 cP HPo;have UQ:=zH (show ∀ b,Iu.1.size <= b -> ¬F3 b from fun b hb e=>by have:=HF3L.out b e;omega)
 have kb:=KPq.out.moved EB nP3;have kT:=eR.out.moved EB nT3;have nP4:¬F4 gP:=Yl EB KPq.out.lt nP3;have MU:=zH (sb TRf.out (MA EB HT3.out));have O1:=zH (ZS o1f EB fun b hb=>UQ.out b (o1f.lt b hb).1)
 have O2:=zH (ZS o2f EB fun b hb=>UQ.out b (o2f.lt b hb).1)
 have O3:=zH (ZS o3f EB fun b hb=>UQ.out b (o3f.lt b hb).1)
 have N1:=zH (show ∀ b,Iu.1.size <= b -> b<Hz.1.size -> ¬F4 b from fun b h1 h2=>Yl EB h2 (UQ.out b h1))
 have L1:=zH (show (∀ b,(ve P1 L.k p1).ownBlock=vD b -> Iu.1.size <= b /\ b<Hz.1.size) /\ (∀ b,(ve P2 (L.k+L.block-1) p2).ownBlock=vD b -> Iu.1.size <= b /\ b<Hz.1.size) /\ ∀ b,(ve P3 (2*L.k-1) p3).ownBlock=vD b -> Iu.1.size <= b /\ b<Hz.1.size from ⟨o1f.lt,o2f.lt,o3f.lt⟩)
 have H16:=zH h16;have M16:=zH (M15.out.trans EB);have KT:=zH kT;have u5:=Q8 aG;have hP15:gP<Hz.1.size:=KPq.out.lt;have h15s:Hz.1.size <= w16.1.size:=EB.size;have h715:w7.1.size <= Hz.1.size:=M15.out.size;have hT15:gT<Hz.1.size:=eR.out.lt;have lgr:gr<w16.1.size:=(aG.lt gr rfl).2;have hgr15:Hz.1.size <= gr:=(aG.lt gr rfl).1;have pU:=zH u5;clear h16 EB aG u5 H15 M15 eR EU KPq TRf o1f o2f o3f nr16 kT;obtain ⟨N,hN⟩:=zEX (w16.1.size);have SH:gP<N:=by omega
 have pj:N <= w16.1.size:=by omega
 have Ml:w16.1.size <= N:=by omega
 have DM:=zH (show L.queries <= 64 from Hj.out.q2)
 clear hN;have HPa:=zH (fun (u:vu) (z:Nat) (h:Kd u [ve AT nT cT] tr) (hz:z<2^x.dd)=>zGa h HTO.out hz Tu.out)
 go_upto_region 18 with fail
 go_loopw [122] (fun y wr=>∃ (i:Nat) (xs:Nat -> vw) (nn:Nat -> Nat) (vs:Nat -> List vw),i <= L.queries /\ y=vd vq i /\ Blk wr gP 46 #[vd vo rt,ve P1 L.k p1,ve P2 (L.k+L.block-1) p2,ve P3 (2*L.k-1) p3,xs 0,xs 1,xs 2] /\ OwnF N wr (i+3) tyF xs nn vs /\ Hid (InvP pos x.cols x.l4 (fun z=>Bp tr z) x.dd w6.1.size w7 i xs nn vs) /\ Ik gP N w16 wr /\ N <= wr.1.size) (fun y _=>L.queries-(intOf y).toNat)
 case atStart =>
  refine ⟨0,fun _=>ve vB 0 0,fun _=>0,fun _=>[],Qb _,rfl,kb,⟨fun j _=>⟨rfl, .inl ⟨rfl,rfl⟩⟩,fun j i _ _ _ q h=>nomatch h⟩,zH ⟨rfl,rfl,rfl,rfl,z8 _ _,rfl,fun k hk=>absurd hk zO⟩,(yb _ _).refl _,pj⟩
 case round =>
  clear kb;obtain ⟨i,xs,nn,vs,hi,rfl,kb,Bc,HI,Va,tf⟩:=hrel;have AW:=zH (MH YB.out (IC (MA M16.out fun b h=>(Dt.out b h).2) (rR Va fun b h=>by have:=(Dt.out b h).1;omega)))
  by_cases ya:i<L.queries
  ·have g1:(0:Int)<=i:=by omega
   have g2:(i:Int)<L.queries:=by omega
   have tc:=zH ya;obtain ⟨z,hz⟩:∃ z:Nat,z=pos.getD i 0:=⟨_,rfl⟩;have Lx:z<L.n:=by rw [hz];exact pJ.out _ (qH 0 (by rw [lh.out];exact ya))
   obtain ⟨b0,q0,e0,lb0,Sl⟩:=gG pU.out zO;have a0:w16.cell? ⟨b0,q0+i,vB⟩=vD (vd vq z):=by rw [Sl i ya,hz];exact Q7 (by rw [lh.out];exact ya)
   have hb0e:gr=b0:=by injection e0 with e0;injection e0 with e1
   have sB:0=q0:=by injection e0 with e0;injection e0 with e1 e2
   subst hb0e sB;rw [Re] at a0;have c0x:wr.cell? ⟨gr,i,vB⟩=vD (vd vq z):=(ov (Va.2.2.2.2 gr zO zO)).trans a0;have lgr':gr<wr.1.size:=by omega
   obtain ⟨aR,-,kc,-,-,-,-⟩:=AW.out;have cc:=kc.cell;have lc:=kc.lt;obtain ⟨bC,qC,B1,XF,OE,eC,cD,dD,hcC,LP⟩:=VX HCX.out (show z<x.cols.length by rw [x.cols_len,<- Lg.out];exact Lx)
   have XV:wr.cell? ⟨bC,qC+z,vB⟩=vD (ve B1 XF OE):=(ov ((Va.2.2.2.2 bC zO zO).trans (M16.out.block bC dD (NF.out bC zO)))).trans hcC;have lbC:bC<wr.1.size:=by omega
   have hbC1:bC<N:=by omega
   have hbC2:bC≠N:=by omega
   have Rr:(z:Int)<nC:=by have:=(Ig HCX.out.here).1;rw [x.cols_len,<- Lg.out] at this;omega
   have Hi:(0:Int)<=z:=by omega
   obtain ⟨yP,-,-,-,cL⟩:=Pb (HR4.out _ aR);have dL:=cL;rw [yP] at dL;obtain ⟨bS,qS,eS,lbS,hcS⟩:=Hf dL (show z<x.l4.length by rw [Gw.out.1];exact Lx)
   obtain ⟨sz,lL⟩:∃ sz,sz=x.l4.getD z 0:=⟨_,rfl⟩;have oP:wr.cell? ⟨bS,qS+z,vB⟩=vD (vd vo sz):=by rw [lL];exact hcS
   have vL:(z:Int)<n4:=by have:=Gw.out.1;omega
   obtain ⟨b7,q7,e7,lb7,-⟩:=Hf (show Rd w7 1 A4 x.l4.length (Qa x.l4) from by have a7:=Pb (HR4.out _ (Tl YB.out).1);have h7:=a7.2.2.2.2;rw [a7.1] at h7;exact h7) (show z<x.l4.length by rw [Gw.out.1];exact Lx)
   have lbS7:bS<w7.1.size:=by rw [eS] at e7;injection e7 with e7;injection e7 with e8;omega
   have cU:=zH (show w16.cell? ⟨bS,qS+z,vB⟩=vD (vd vo sz) from (ov (Va.2.2.2.2 bS zO zO)).symm.trans oP)
   have bU:=zH (show ∀ j,w16.cell? ⟨w.1.size+1+1,j,vB⟩=_ from fun j=>(ov (Va.2.2.2.2 (w.1.size+1+1) zO zO)).symm.trans (cc j))
   have qU:=zH (show sh w6.1.size vB w7 (ve B1 XF OE) (x.cols.getD z []) from fun u hu=>by rw [Hc,Ec (show z<x.cols.length by rw [x.cols_len,<- Lg.out];exact Lx)];exact LP u fun b h1 h2=>hu b h1 h2 fun e=>by cases e)
   have HZ:=zH hz;have oC:=zH lL;have HZN:=zH Lx;have ZV:nn 0 <= 64 /\ nn 1 <= 64 /\ nn 2 <= 64:=by have h0:=HI.out.n0;have h1:=HI.out.n1;have h2:=HI.out.n2;have:=DM.out;omega
   obtain ⟨gn0,gn1,gn2⟩:=ZV;subst eC eS;clear oP e7 cc lc LP hcC hcS cL dL yP Sl e0 a0 aR hz lL ya kc Lx hi;have hgb1:gP≠N:=by omega
   have hgb2:w.1.size+1+1<N:=by omega
   have hgb3:w.1.size+1+1≠N:=by omega
   have hgb4:gT<N:=by omega
   have hgb5:gT≠N:=by omega
   have cb:=kb.cell;have lb:=kb.lt;obtain ⟨Ax,cx,Uj,-⟩:=Yb (Bc.own 0 zO);have Wl:xs 0=ve Ax (nn 0) cx:=Uj;rw [Wl] at kb;have Xg:=zH Wl;clear Uj Wl cb;have cb:=kb.cell;go_upto_region 20 with fail
   refine Jz (Ik N N) [6,7,9] [9] [0,1,2,3,4,5,6,7,8,9] zK zK ?_;refine Lz (yb N N) ?_;intro Wc Ga ja;have Pa:=Uf Ga;have Gc:N <= Wc.1.size:=by have:=Pa.size;omega
   replace kb:=pa kb Pa;replace Bc:=Bc.below Pa;replace Va:=zM (yb gP N) Va (Td Pa tf);clear Ga Pa;refine ig ?_;refine fh (yb N N) rfl rfl rfl ?_;go_simp;have ma:=zA Wc (.cells #[ve B1 XF OE] 28);have td:=gg Wc (ve B1 XF OE) 28;refine ⟨fun _=>Td ma Gc,?_⟩
   replace kb:=pa kb ma;replace Bc:=Bc.below ma;replace Va:=zM (yb gP N) Va (Td ma Gc);have ed:=jb Gc ma.size
   refine zPU ?_
   generalize Wc.alloc _=wa at kb Bc Va td ed |-;generalize Wc.1.size=g6 at td |-;clear ma Gc ja cb;have ja:=(yb N N).refl wa;have oa:wa.ownsRow N 28 1 (ve Ax (nn 0) cx) (nn 0) (vs 0):=by rw [<- Xg.out];exact Bc.own 0 zO
   refine ig ?_;refine fh (yb N N) rfl rfl rfl ?_;refine Cs _ _ rfl So rfl oa rfl td (by intro u hu;simp at hu;subst hu;rfl) zO ed ?_
   intro v' wn Ua Ma Cb;obtain ⟨sw,Uw,rfl,-⟩:=Yb Ua;have uc:∀ q,(ve Ax (nn 0) cx).ownBlock=vD q -> N <= q:=fun q e=>(oa.lt q e).1
   refine ⟨fun _=>Sn Ma ed uc,?_⟩
   replace kb:=kb.grown Ma (fun e=>by have:=uc _ e.symm;omega)
   replace Bc:=Bc.app (k:=0) zO Ua (show wa.grownBy wn (xs 0).ownBlock by rw [Xg.out];exact Ma) (show _=(xs 0).ownBlock \/ _ by rw [Xg.out];exact Cb)
   replace Va:=zM (yb gP N) Va (Sn Ma ed uc);have Ud:=jb ed Ma.size;clear oa Ma Cb uc ed td ja Ua Xg;have ja:=(yb N N).refl wn;have cb:=kb.cell;have fb:=kb.frozen;have lb:=kb.lt
   refine zPU ?_
   refine ig ?_;refine fh (yb N N) rfl rfl rfl ?_;go_simp;refine ⟨fun h=>Bool.noConfusion h,?_⟩
   have Ob:=Hh (w:=wn) gP 4 (ve sw (nn 0+1) Uw);replace kb:=kb.set_ 4 (ve sw (nn 0+1) Uw);simp only [Ha,Ja,Ia] at kb;replace Bc:=Bc.stay Ob SH;replace Va:=zM (yb gP N) Va (XC Ob Ud);replace Ud:=jb Ud Ob.size;clear Ob cb fb ja;generalize wn.setCell _ _=RD at kb Bc Va Ud |-;have ja:=(yb N N).refl RD;refine ig ?_;refine Kz ?_;clear ja;have tf:=Ud;clear Ud;have cb:=kb.cell;have lb:=kb.lt;clear XV c0x;have hold:∀ j e,j<N -> j≠gP -> RD.cell? ⟨j,e,vB⟩=w16.cell? ⟨j,e,vB⟩:=fun j e h1 h2=>ov (Va.2.2.2.2 j h1 h2)
   have ccz:=fun j=>(hold (w.1.size+1+1) j zO zO).trans (bU.out j)
   have csz:=(hold bS (qS+z) zO zO).trans cU.out;have hs1':bS<N:=by omega
   have hs2':bS≠N:=by omega
   have DW:bS<RD.1.size:=by omega
   have EW:w.1.size+1+1<RD.1.size:=by omega
   clear hold;obtain ⟨Ax,cx,Uj,-⟩:=Yb (Bc.own 1 zO);have Wl:xs 1=ve Ax (nn 1) cx:=Uj;rw [Wl] at kb;have Xg:=zH Wl;clear Uj Wl cb;have cb:=kb.cell;go_upto_region 21 with fail
   refine Jz (Ik N N) [7,8,10] [10] [0,1,2,3,4,5,6,7,8,9,10] zK zK ?_;refine Lz (yb N N) ?_;intro Wc Ga ja;have Pa:=Uf Ga;have Gc:N <= Wc.1.size:=by have:=Pa.size;omega
   replace kb:=pa kb Pa;replace Bc:=Bc.below Pa;replace Va:=zM (yb gP N) Va (Td Pa tf);clear Ga Pa;refine ig ?_;refine fh (yb N N) rfl rfl rfl ?_;go_simp;have ma:=zA Wc (.cells #[vd vo sz] 22);have td:=gg Wc (vd vo sz) 22;refine ⟨fun _=>Td ma Gc,?_⟩
   replace kb:=pa kb ma;replace Bc:=Bc.below ma;replace Va:=zM (yb gP N) Va (Td ma Gc);have ed:=jb Gc ma.size
   refine zPU ?_
   generalize Wc.alloc _=wa at kb Bc Va td ed |-;generalize Wc.1.size=g6 at td |-;clear ma Gc ja cb;have ja:=(yb N N).refl wa;have oa:wa.ownsRow N 22 1 (ve Ax (nn 1) cx) (nn 1) (vs 1):=by rw [<- Xg.out];exact Bc.own 1 zO
   refine ig ?_;refine fh (yb N N) rfl rfl rfl ?_;refine Cs _ _ rfl jg rfl oa rfl td (by intro u hu;simp at hu;subst hu;rfl) zO ed ?_
   intro v' wn Ua Ma Cb;obtain ⟨tw,Vw,rfl,-⟩:=Yb Ua;have uc:∀ q,(ve Ax (nn 1) cx).ownBlock=vD q -> N <= q:=fun q e=>(oa.lt q e).1
   refine ⟨fun _=>Sn Ma ed uc,?_⟩
   replace kb:=kb.grown Ma (fun e=>by have:=uc _ e.symm;omega)
   replace Bc:=Bc.app (k:=1) zO Ua (show wa.grownBy wn (xs 1).ownBlock by rw [Xg.out];exact Ma) (show _=(xs 1).ownBlock \/ _ by rw [Xg.out];exact Cb)
   replace Va:=zM (yb gP N) Va (Sn Ma ed uc);have Ud:=jb ed Ma.size;clear oa Ma Cb uc ed td ja Ua Xg;have ja:=(yb N N).refl wn;have cb:=kb.cell;have fb:=kb.frozen;have lb:=kb.lt
   refine zPU ?_
   refine ig ?_;refine fh (yb N N) rfl rfl rfl ?_;go_simp;refine ⟨fun h=>Bool.noConfusion h,?_⟩
   have Ob:=Hh (w:=wn) gP 5 (ve tw (nn 1+1) Vw);replace kb:=kb.set_ 5 (ve tw (nn 1+1) Vw);simp only [Ha,Ja,Ia] at kb;replace Bc:=Bc.stay Ob SH;replace Va:=zM (yb gP N) Va (XC Ob Ud);replace Ud:=jb Ud Ob.size;clear Ob cb fb ja;generalize wn.setCell _ _=uM at kb Bc Va Ud |-;have ja:=(yb N N).refl uM;refine ig ?_;refine Kz ?_;clear ja;have tf:=Ud;clear Ud;have cb:=kb.cell;have lb:=kb.lt;clear ccz csz DW EW;have hold:∀ j e,j<N -> j≠gP -> uM.cell? ⟨j,e,vB⟩=w16.cell? ⟨j,e,vB⟩:=fun j e h1 h2=>ov (Va.2.2.2.2 j h1 h2)
   have ctz:=fun j=>(hold gT j zO zO).trans (KT.out.cell j)
   have hs5':gT<uM.1.size:=by omega
   clear hold;obtain ⟨Ax,cx,Uj,-⟩:=Yb (Bc.own 2 zO);have Wl:xs 2=ve Ax (nn 2) cx:=Uj;rw [Wl] at kb;have Xg:=zH Wl;clear Uj Wl cb;have cb:=kb.cell;go_upto_region 22 with fail
   refine Jz (Ik N N) [4,5,6,8] [8] [0,1,2,3,4,5,6,7,8] zK zK ?_;refine Lz (yb N N) ?_;intro Wc Ga ja;have Pa:=Uf Ga;have Gc:N <= Wc.1.size:=by have:=Pa.size;omega
   replace kb:=pa kb Pa;replace Bc:=Bc.below Pa;replace Va:=zM (yb gP N) Va (Td Pa tf);clear Ga Pa;refine ig ?_;have oo:=MH MU.out (rR Va fun b h=>by have:=tC.out b h;omega)
   have XR:=Gc;refine tn (yb N N) rfl rfl rfl (fun _=>by go_simp <;> rfl) ((HPa.out _ z oo (by rw [<- aC.out.1];exact HZN.out)).mono ?_)
   rintro e wY ⟨vp,rfl,op,Ca⟩;refine ⟨_,rfl,fun _=>Td Ca Gc,?_⟩
   replace ja:=zM (yb N N) ja (Td Ca Gc);refine zPU ?_;replace kb:=pa kb Ca;replace Bc:=Bc.new (x:=vp) Ca op Gc;replace Va:=zM (yb gP N) Va (Td Ca Gc);replace Gc:=jb Gc Ca.size;obtain ⟨Ap,cp,rfl,-⟩:=Yb op;clear Ca op oo XR;refine ig ?_;refine fh (yb N N) rfl rfl rfl ?_;go_simp;have ma:=zA wY (.cells #[ve Ap x.dd cp] 28);have td:=gg wY (ve Ap x.dd cp) 28;refine ⟨fun _=>Td ma Gc,?_⟩
   replace kb:=pa kb ma;replace Bc:=Bc.below ma;replace Va:=zM (yb gP N) Va (Td ma Gc);have ed:=jb Gc ma.size
   refine zPU ?_
   generalize wY.alloc _=wa at kb Bc Va td ed |-;generalize wY.1.size=g6 at td |-;clear ma Gc ja cb;have ja:=(yb N N).refl wa;have oa:wa.ownsRow N 28 1 (ve Ax (nn 2) cx) (nn 2) (vs 2):=by rw [<- Xg.out];exact Bc.own 2 zO
   refine ig ?_;refine fh (yb N N) rfl rfl rfl ?_;refine Cs _ _ rfl So rfl oa rfl td (by intro u hu;simp at hu;subst hu;rfl) zO ed ?_
   intro v' wn Ua Ma Cb;obtain ⟨uw,Ww,rfl,-⟩:=Yb Ua;have uc:∀ q,(ve Ax (nn 2) cx).ownBlock=vD q -> N <= q:=fun q e=>(oa.lt q e).1
   refine ⟨fun _=>Sn Ma ed uc,?_⟩
   replace kb:=kb.grown Ma (fun e=>by have:=uc _ e.symm;omega)
   replace Bc:=Bc.app (k:=2) zO Ua (show wa.grownBy wn (xs 2).ownBlock by rw [Xg.out];exact Ma) (show _=(xs 2).ownBlock \/ _ by rw [Xg.out];exact Cb)
   replace Va:=zM (yb gP N) Va (Sn Ma ed uc);have Ud:=jb ed Ma.size;clear oa Ma Cb uc ed td ja Ua Xg;have ja:=(yb N N).refl wn;have cb:=kb.cell;have fb:=kb.frozen;have lb:=kb.lt
   refine zPU ?_
   refine ig ?_;refine fh (yb N N) rfl rfl rfl ?_;go_simp;refine ⟨fun h=>Bool.noConfusion h,?_⟩
   have Ob:=Hh (w:=wn) gP 6 (ve uw (nn 2+1) Ww);replace kb:=kb.set_ 6 (ve uw (nn 2+1) Ww);simp only [Ha,Ja,Ia] at kb;replace Bc:=Bc.stay Ob SH;replace Va:=zM (yb gP N) Va (XC Ob Ud);replace Ud:=jb Ud Ob.size;clear Ob cb fb ja;generalize wn.setCell _ _=wz3 at kb Bc Va Ud |-;have ja:=(yb N N).refl wz3;refine ig ?_;refine Kz ?_;clear ja;have tf:=Ud;clear Ud;have cb:=kb.cell;have lb:=kb.lt;clear ctz hs5' cb;have Fs:=zH (HI.out.step (by rw [lh.out];exact tc.out) HZ.out (a:=ve sw (nn 0+1) Uw) (b:=ve tw (nn 1+1) Vw) (c:=ve uw (nn 2+1) Ww) (p:=ve Ap x.dd cp) qU.out oC.out)
   have kbn:Blk wz3 gP 46 #[vd vo rt,ve P1 L.k p1,ve P2 (L.k+L.block-1) p2,ve P3 (2*L.k-1) p3,Bd (Bd (Bd (Bd xs 0 (ve sw (nn 0+1) Uw)) 1 (ve tw (nn 1+1) Vw)) (i+3) (ve Ap x.dd cp)) 2 (ve uw (nn 2+1) Ww) 0,Bd (Bd (Bd (Bd xs 0 (ve sw (nn 0+1) Uw)) 1 (ve tw (nn 1+1) Vw)) (i+3) (ve Ap x.dd cp)) 2 (ve uw (nn 2+1) Ww) 1,Bd (Bd (Bd (Bd xs 0 (ve sw (nn 0+1) Uw)) 1 (ve tw (nn 1+1) Vw)) (i+3) (ve Ap x.dd cp)) 2 (ve uw (nn 2+1) Ww) 2]:=by
    rw [Ej _ _ (show (0:Nat)≠2 by omega),Ej _ _ (show (0:Nat)≠i+3 by omega),Ej _ _ (show (0:Nat)≠1 by omega),yt,Ej _ _ (show (1:Nat)≠2 by omega),Ej _ _ (show (1:Nat)≠i+3 by omega),yt,yt]
    exact kb
   rw [show i+3+1=i+1+3 by omega] at Bc
   have DG:=zH Bc;have KBN:=zH kbn;have HWI:=zH (show wrap64 ((i:Int)+1)=((i+1:Nat):Int) by unfold wrap64;have:=DM.out;have:=tc.out;omega)
   clear Bc kbn kb;go_wp2
   go_roundw
   case rel=>exact ⟨i+1,_,_,_,tc.out,by rw [HWI.out],KBN.out,DG.out,Fs,Va,tf⟩
   case measure =>
    have h1:=tc.out;have e:=HWI.out
    try dsimp only
    rw [e];exact D7 h1
  ·obtain rfl:i=L.queries:=by omega
   obtain ⟨-,-,-,-,kr,-,-⟩:=AW.out;obtain ⟨Ac,ca,e0,-⟩:=Yb (Bc.own 0 zO);obtain ⟨As,cs,e1,-⟩:=Yb (Bc.own 1 zO);obtain ⟨Ap,cp,e2,-⟩:=Yb (Bc.own 2 zO);have f0:xs 0=ve Ac L.queries ca:=by rw [e0,HI.out.n0]
   have f1:xs 1=ve As L.queries cs:=by rw [e1,HI.out.n1]
   have f2:xs 2=ve Ap L.queries cp:=by rw [e2,HI.out.n2]
   rw [f0,f1,f2] at kb;have E0:=zH (And.intro f0 (And.intro f1 f2));clear e0 e1 e2 f0 f1 f2 ya hi;have KF:=zH (store7 kr (vd vo rt) (ve P1 L.k p1) (ve P2 (L.k+L.block-1) p2) (ve P3 (2*L.k-1) p3) (ve Ac L.queries ca) (ve As L.queries cs) (ve Ap L.queries cp));have DG:=zH Bc;have cJ:=zH Va;have HN0:=zH tf;have hB13:w.1.size+3<Iu.1.size:=by omega
   have PVR:=zH (fun u hU hV hW hus=>F9 (w7:=w7) (w16:=w16) (wr:=wr) (u:=u) (F4:=F4) (gP:=gP) (N:=N) (R:=w.1.size+3) (B0:=w.1.size) (B6:=w6.1.size) (B13:=Iu.1.size) (B15:=Hz.1.size) (x:=x) (O:=O) (tr:=tr) (pos:=pos) hU hV hW hus zO hB13 uP zO h36 hw67 zO N1.out O1.out O2.out O3.out L1.out Gj.out Co.out yw.out (by rw [<- HCH.out];exact dy.out.1) (by rw [<- HCH.out];exact dy.out.2.1) (by rw [<- HCH.out];exact dy.out.2.2) DG.out HI.out lh.out HPOS.out HTR.out E0.out.1 E0.out.2.1 E0.out.2.2 (by rw [<- mC.out];exact Vf.out) Gw.out.2 (x.tree_lt O (by rw [<- zi.out];exact BW.out)))
   have cr:=kr.cell;have fr:=kr.frozen;have cb:=kb.cell;clear kb kr Bc Va tf AW;go_wp2;obtain ⟨wf,Yc,kf,xx,NH,OH⟩:=KF.out;rw [Yc];clear Yc KF;clear cr fr cb;have cf:=kf.cell;have hfr:=zGt (R:=w.1.size+3) HB.out ly.out.lt M16.out pj Ml zO SH zO zO cJ.out HN0.out xx NH OH H16.out.lt nP4;have HFR:=zH hfr;clear hfr;refine Uc (by simp [results,results17,go_sem,cf];rfl) rfl ⟨⟨P1,L.k,p1,P2,L.k+L.block-1,p2,P3,2*L.k-1,p3,Ac,L.queries,ca,As,L.queries,cs,Ap,L.queries,cp⟩,F4,?_,?_,?_,?_⟩
   ·rw [mC.out];rfl
   ·exact H16.out.keep HFR.out.2.1 HFR.out.1
   ·exact HFR.out.2.2.1
   ·intro u a
    obtain ⟨hU,hV,hW,hus⟩:=HFR.out.2.2.2 u a;have Na:=PVR.out u hU hV hW hus;exact Na
end Go.Proofs.YteoghgbnielkpaaGreat
