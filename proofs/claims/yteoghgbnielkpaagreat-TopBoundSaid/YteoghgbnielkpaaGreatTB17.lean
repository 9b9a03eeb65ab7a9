/- A part of the proof. No condition. -/
import Derived.Test.YteoghgbnielkpaaGreatTB13

set_option maxRecDepth 100000
set_option maxHeartbeats 8000000
set_option linter.unusedVariables false
set_option linter.unusedSimpArgs false
namespace Go.Proofs.YteoghgbnielkpaaGreat
open Go.RowKit
open Tryz
open Go renaming World->vw, Addr->vy, Calls->vB
open Go.Value renaming int->vd, slice->ve, agg->vf
open Go.IntKind renaming u64->vn, i64->vq
open Go.Ending renaming returned->vl
open Go.RowKit renaming Below->vA
open Go.Act renaming put->vG
open Option renaming none->vD, some->vE
theorem zGK {w:vw} {base g:Nat} {l:List Nat} (k:Blk w g 22 (Oa l).toArray) (hb:base <= g) (hn:l.length <= maxLen):w.ownsRow base 22 1 (ve (vE ⟨g,0,vD⟩) l.length l.length) l.length (Oa l):=by
 have e:(Oa l).toArray=Qa l.length (fun k=>l.getD k 0):=by rw [Yv,BR l _ rfl]
 rw [e] at k;have:=n9 k hb hn;rw [BR l _ rfl] at this;exact this
theorem zGQ (L:Na) (pu La al be:Nat) (vars:Int) (A B1 B2 B3 F:Option vy) (R c m1 d1 m2 d2 m3 d3 i n d:Nat) (rows:List Ua) (a b q front:List Nat) (w:vw)
  (hL:Nb L) (hF:Gu L pu vars rows) (hr:RSl 3 je w [ve A R c] rows) (hV:Wx vars rows)
  (ha:RWd w [ve B1 m1 d1] a) (hb:RWd w [ve B2 m2 d2] b) (hq:RWd w [ve B3 m3 d3] q) (hf:RWd w [ve F n d] front) (hi:i<L.n) (hn:front.length=L.a+L.b+L.b+L.b) :
  vB prog 253 #[vf (ib L),Zb L.p (pu:Int) vars (ve A R c),vf #[vd vn al,vd vn La,vd vn be],ve B1 m1 d1,ve B2 m2 d2,ve B3 m3 d3,vd vq i,ve F n d] w fun e w'=>∃ v,e=vl v /\ w'.ownsRow w.1.size 22 1 v 3 (Oa (bA L (Mi L pu La rows) al be a b q (Th L.p (Mb L.p).1 L.n i) front)) /\ vA w.1.size w w':=by
 obtain ⟨zf,Kd⟩:=Rb hL.p;have VC:=hL.a;have Dw:=hL.b;have Xd:=hL.n2;have Ia:=hL.b1;have Ba:=hL.b2;obtain ⟨hlen,j0,hj0⟩:=Vy hL;have Di:L.block=2^L.block.log2:=by rw [hj0,Sz]
 obtain ⟨LF,hfc,sc,-,hrf⟩:=Ob hf;obtain ⟨x,hx⟩:=zEX (Th L.p (Mb L.p).1 L.n i);rw [<- hx];have dq:=zH (fun w=>by have:=GG L.p L.block L.queries L.k L.n L.secret L.rows L.a L.b L.b L.b w hL.a hL.b hL.b hL.b;rw [<- hn,<- LF] at this;exact this)
 have HPt:=zH (fun w=>T9 L w hL)
 have mH:=zH (fun w' (hb:vA w.1.size w w')=>I9 L pu La vars A R c rows w' hL hF (Pg Og _ _ _ _ hb hr) hV)
 have HEv:Hid (∀ (A:Option vy) (n c:Nat) (l:List Nat) (w:vw),RWd w [ve A n c] l -> vB prog 249 #[fv L.p,ve A n c,vd vn x] w fun e w'=>e=vl (vd vn ((Vc L.p l x:Nat):Int)) /\ vA w.1.size w w'):=zH (fun A n c l w hl=>by rw [<- I5 zO];exact Q9 L.p A n c x l w hL.p hl)
 have KE:=zH (fun w=>mU L.p x L.block w hL.p zO)
 have HIv:=zH (fun A c l w hl=>aS L.p A L.block c L.block.log2 l w hL.p hl hlen Di)
 have HM:=zH (fun a b w=>Kr L.p a b w hL.p)
 have HS:=zH (fun a b w=>NM L.p a b w hL.p)
 have HD:=zH (fun A B n c m d a b w ha hb hnm=>zD7 L.p A B n c m d a b w hL.p ha hb hnm)
 have HSp:=zH (show ∀ (w:vw),vB prog 295 #[vf (ib L),ve F n d] w fun e w'=>(∃ X1 X2 X3 c1 c2 c3,e=vl (.tuple #[ve F L.a d,ve X1 L.b c1,ve X2 L.b c2,ve X3 L.b c3]) /\ (0<L.b -> ∀ g o,F=vE ⟨g,o,vD⟩ -> X1=vE ⟨g,o+L.a,vD⟩ /\ X2=vE ⟨g,o+(L.a+L.b),vD⟩ /\ X3=vE ⟨g,o+(L.a+L.b+L.b),vD⟩)) /\ vA w.1.size w w' from fun w=>by
  have hs:=zI1 L F n d L.a (L.a+L.b) (L.a+L.b+L.b) w hL rfl rfl rfl zO hfc sc;have a1:L.a+L.b-L.a=L.b:=by omega
  have a2:L.a+L.b+L.b-(L.a+L.b)=L.b:=by omega
  have a3:n-(L.a+L.b+L.b)=L.b:=by omega
  unfold cA at hs;rw [a1,a2,a3] at hs;refine hs.mono ?_;rintro e w' ⟨rfl,hb⟩;refine ⟨⟨_,_,_,_,_,_,rfl,fun h g o e=>?_⟩,hb⟩
  subst e;refine ⟨?_,?_,?_⟩
  ·rw [ya zO]
   show vE ((⟨g,o,vD⟩:vy).add L.a)=_
   rw [zm]
  ·rw [ya zO]
   show vE ((⟨g,o,vD⟩:vy).add (L.a+L.b))=_
   rw [zm]
  ·rw [ya zO]
   show vE ((⟨g,o,vD⟩:vy).add (L.a+L.b+L.b))=_
   rw [zm])
 obtain ⟨Eh,NC⟩:=zEX (Uv L pu La rows);have qw:Eh=Mi L pu La rows:=by rw [NC];exact DZ zO pu La rows
 have Kg:Eh.length=n:=by rw [qw,CZ];omega
 have Fy:∀ r∈Eh,r.length=L.block:=by rw [qw];exact XO
 obtain ⟨f,hff⟩:∃ f:Nat -> Nat,f=fun k=>front.getD k 0:=⟨_,rfl⟩
 obtain ⟨W,hW⟩:=zEX (kK L x);obtain ⟨dv,rn⟩:∃ dv:Nat -> Nat,dv=fun j=>Pu L.p (Eh.getD j []) W L.block:=⟨_,rfl⟩
 obtain ⟨C0,hC0⟩:=zEX (fF L.p al f (Vc L.p a x));obtain ⟨C1,hC1⟩:=zEX (iF L.p dv f (Vc L.p b x));obtain ⟨C2,hC2⟩:=zEX (aA L.p L.a L.b be f (Vc L.p q x));have hE:=zDm hL Fy al be a b q x hn zO;rw [<- qw,<- hE,<- LF];have HE:=zH (show [fF L.p al (fun k=>front.getD k 0) (Vc L.p a x) n,iF L.p (fun j=>Pu L.p (Eh.getD j []) (kK L x) L.block) (fun k=>front.getD k 0) (Vc L.p b x) n,aA L.p L.a L.b be (fun k=>front.getD k 0) (Vc L.p q x) L.b]=[C0 n,C1 n,C2 L.b] by rw [hC0,hC1,hC2,rn,hW,hff])
 rw [HE.out];obtain ⟨P,hP⟩:=zEX (eh L.p al);obtain ⟨P2,CC⟩:=zEX (eh L.p be);have H00:=zH (show C0 0=Vc L.p a x by rw [hC0];rfl)
 have H10:=zH (show C1 0=Vc L.p b x by rw [hC1];rfl)
 have H20:=zH (show C2 0=Vc L.p q x by rw [hC2];rfl)
 have H0S:=zH (show ∀ j,C0 (j+1)=(C0 j+tg L.p (P (j+1)*f j%L.p))%L.p from fun j=>by rw [hC0,hP];rfl)
 have H1S:=zH (show ∀ j,C1 (j+1)=(C1 j+tg L.p (dv j*f j%L.p))%L.p from fun j=>by rw [hC1];rfl)
 have H2S:=zH (show ∀ j,C2 (j+1)=(C2 j+tg L.p (P2 (j+1)*((f (L.a+j)*f (L.a+L.b+j)%L.p+tg L.p (f (L.a+L.b+L.b+j)))%L.p)%L.p))%L.p from fun j=>by rw [hC2,CC];rfl)
 have Px:=zH (show P 0=1 by rw [hP];rfl)
 have Jv:=zH (show ∀ i,P (i+1)=P i*al%L.p from fun i=>by rw [hP];rfl)
 have Iz:=zH (show P2 0=1 by rw [CC];rfl)
 have cq:=zH (show ∀ i,P2 (i+1)=P2 i*be%L.p from fun i=>by rw [CC];rfl)
 have HDV:=zH (show ∀ j (h:j<Eh.length),dv j=Pu L.p Eh[j] W L.block from fun j h=>by rw [rn,<- zU h])
 have HWW:=zH (show (List.range L.block).map (Dn L.p L.block L.block.log2 ((List.range L.block).map fun i=>x^i%L.p))=W from hW.symm)
 have HFF:=zH (show ∀ k,f k=front.getD k 0 from fun k=>by rw [hff])
 have Ez:=zH Kg;have HCR:=zH Fy;have Xs:=zH (show ∀ i,x^i%L.p<18446744073709551616 from fun i=>Uk (mc _ zO) Kd)
 have HIX:=zH (show ∀ l k,Dn L.p L.block L.block.log2 l k<18446744073709551616 from fun l k=>Uk (mc _ zO) Kd)
 have HX:=zH hx;have HN4:=zH (show n=L.a+L.b+L.b+L.b by omega)
 have HFN:=zH LF;have p5:=NC;rw [<- p5] at mH;have gi0:(0:Int)<=i:=by omega
 have gi1:(i:Int)<L.n:=by omega
 have gi2:¬((i:Int)<0):=by omega
 have gi3:¬((L.n:Int)<=i):=by omega
 have gi4:decide ((i:Int)<0)=false:=db gi2;have gi5:decide ((L.n:Int)<=i)=false:=db gi3;have d0:((n:Int)!=n)=false:=by simp
 have gn:n <= 400000:=by omega
 have gB:L.block <= 256:=Ba;have gB1:2 <= L.block:=Ia;have gNN:(L.n:Int) <= 1024:=by omega
 have glb:L.b <= 100000:=Dw;have yu:=zH (by rw [LF] at hrf;exact hrf:Rd w 1 F front.length (Oa front))
 clear zf Kd VC Dw Xd Ia Ba hlen hj0 Di LF hfc sc hrf hx NC p5 qw Kg Fy hff hW rn hC0 hC1 hC2 hE hP CC hL hF hr hV hi hn HE;unfold ib Zb fv at *;obtain ⟨kl,kt,kx,da,-⟩:=oq w 101 25 136 #[vd vn L.p,vd vq L.block,vd vq L.queries,vd vq L.k,vd vq L.n,vd vq L.secret,vd vq L.rows,vd vq L.a,vd vq L.b,vd vq L.b,vd vq L.b] #[vd vn L.p,vd vq pu,vd vq vars,ve A R c] #[vd vn al,vd vn La,vd vn be];go_enter func253,ntmps253
 go_upto_region 1 with fail
 generalize ((w.alloc _).alloc _).alloc _=w1 at kl kt kx da |-;have cl:=kl.cell;go_upto_region 2 with fail
 obtain ⟨kf,ja⟩:=zN w1 224 #[vd vn L.p];replace kl:=ia kl ja;replace kt:=ia kt ja;replace kx:=ia kx ja;replace da:=ma da ja;generalize w1.alloc _=w2 at kl kt kx kf da |-;generalize w1.1.size=gf at kf |-;clear ja cl;have cl:=kl.cell;go_wp2_with fail
 refine (HPt.out _).mono ?_;rintro e w3 ⟨g1,g2,rfl,-,kp,-,-,xa⟩;replace kl:=ia kl xa;replace kt:=ia kt xa;replace kx:=ia kx xa;replace kf:=ia kf xa;replace da:=ma da xa;clear xa cl HPt;have cl:=kl.cell;have ct:=kt.cell;have cx:=kx.cell;go_wp2_with fail
 refine (mH.out _ da).mono ?_;rintro e w4 ⟨vC,rfl,hC,xa⟩;replace kl:=ia kl xa;replace kx:=ia kx xa;replace kf:=ia kf xa;replace kp:=ia kp xa;replace da:=ma da xa;clear xa cl ct cx kt mH;obtain ⟨AC,nC,cC,rfl⟩:=RSl.slc hC.here;have hnC:nC=n:=by rw [<- (Yj hC.here).1];exact Ez.out
 have hCd:=(Yj hC.here).2.2.2;clear hC;subst hnC;have cl:=kl.cell;go_wp2_with fail
 refine (dq.out _).mono ?_;rintro e w5 ⟨rfl,xa⟩;have Dm:=xa;replace kl:=ia kl xa;replace kx:=ia kx xa;replace kf:=ia kf xa;replace kp:=ia kp xa;replace da:=ma da xa;clear xa cl dq;have cpi:=kp.cell i;rw [Uf _ zO,<- HX.out] at cpi;go_upto_region 7 with fail
 clear cpi kp;have Dp:=Ab da ha;have Sl:=Ab da hb;have Jw:=Ab da hq;have cf:=kf.cell;have lf:=kf.lt;refine zd (Wb) [3,7,11,12] [0,1,2,4,5,6,8,9,10,3,7,11,12,13] zK zK ?_;refine Ue (oa) ?_;intro Wc Ja ea;have Ma:=jg Ja;replace kl:=ia kl Ma;replace kx:=ia kx Ma;replace kf:=ia kf Ma;replace da:=ma da Ma;replace Dp:=Ab Ma Dp;replace Sl:=Ab Ma Sl;replace Jw:=Ab Ma Jw;replace Dm:=ma Dm Ma;clear Ma;refine Pb ?_;refine Ic oa rfl rfl rfl ((HEv.out _ _ _ _ _ Dp).mono ?_);rintro e w6 ⟨rfl,tc⟩;refine ⟨_,rfl,tc,?_⟩;replace ea:=zM oa ea (tc);refine zPU ?_;replace kl:=ia kl tc;replace kx:=ia kx tc;replace kf:=ia kf tc;replace da:=ma da tc;replace Sl:=Ab tc Sl;replace Jw:=Ab tc Jw;replace Dm:=ma Dm tc;clear tc;refine Pb ?_;refine Ic oa rfl rfl rfl ((HEv.out _ _ _ _ _ Sl).mono ?_);rintro e w7 ⟨rfl,Cd⟩;refine ⟨_,rfl,Cd,?_⟩;replace ea:=zM oa ea (Cd);refine zPU ?_;replace kl:=ia kl Cd;replace kx:=ia kx Cd;replace kf:=ia kf Cd;replace da:=ma da Cd;replace Jw:=Ab Cd Jw;replace Dm:=ma Dm Cd;clear Cd;refine Pb ?_;refine Ic oa rfl rfl rfl ((HEv.out _ _ _ _ _ Jw).mono ?_);rintro e w8 ⟨rfl,xk⟩;refine ⟨_,rfl,xk,?_⟩;replace ea:=zM oa ea (xk);refine zPU ?_;replace kl:=ia kl xk;replace kx:=ia kx xk;replace kf:=ia kf xk;replace da:=ma da xk;replace Dm:=ma Dm xk;clear xk cf lf Dp Sl Jw;rw [<- H00.out,<- H10.out,<- H20.out];refine Pb ?_;refine Te (oa) rfl rfl rfl ?_;go_simp;obtain ⟨kg,ja⟩:=zN w8 22 #[vd vn (C0 0:Int),vd vn (C1 0:Int),vd vn (C2 0:Int)];refine ⟨ja,?_⟩;have lf8:=kf.lt;have lx8:=kx.lt;replace kl:=ia kl ja;replace kx:=ia kx ja;replace kf:=ia kf ja;replace da:=ma da ja;have h48:=Dm.size;replace Dm:=ma Dm ja
 refine zPU ?_
 generalize w8.alloc _=w9 at kl kx kf kg da Dm |-;obtain ⟨gl,xA⟩:=zEX (w8.1.size);rw [<- xA] at kg h48 lf8 lx8 |-;clear ja xA ea Ja;have ea:=(oa).refl w9;refine Pb ?_;refine Hc ?_;clear ea;have cf:=kf.cell;have lf:=kf.lt;have cl:=kl.cell;have ll:=kl.lt;go_upto_region 8 with fail
 refine zd (Wb) [5,6] [0,1,2,3,4,5,6,7,8,9,10,11] zK zK ?_;refine Ue (oa) ?_;intro Wc Ja ea;have Ma:=jg Ja;replace kl:=ia kl Ma;replace kx:=ia kx Ma;replace kf:=ia kf Ma;replace kg:=ia kg Ma;replace da:=ma da Ma;replace Dm:=ma Dm Ma;clear Ma;refine Pb ?_;refine Ic oa rfl rfl rfl ((KE.out _).mono ?_);rintro e eH ⟨gp,rfl,-,kp,uq⟩;refine ⟨_,rfl,uq,?_⟩;replace ea:=zM oa ea (uq);refine zPU ?_;replace kl:=ia kl uq;replace kx:=ia kx uq;replace kf:=ia kf uq;replace kg:=ia kg uq;replace da:=ma da uq;replace Dm:=ma Dm uq;have lg10:=kg.lt;clear uq;have hp:=tC kp (fun k _=>Xs.out k) (by simp [maxLen];omega)
 refine Pb ?_;refine Ic oa rfl rfl rfl ((HIv.out _ _ _ _ hp).mono ?_);rintro e w11 ⟨gw,rfl,zw,kw,IC⟩;refine ⟨_,rfl,IC,?_⟩;replace ea:=zM oa ea (IC);refine zPU ?_;replace kl:=ia kl IC;replace kx:=ia kx IC;replace kf:=ia kf IC;replace kg:=ia kg IC;replace da:=ma da IC;replace Dm:=ma Dm IC;have xw:gl<gw:=by omega
 clear IC hp kp zw lg10 KE HIv Xs;refine Pb ?_;refine Hc ?_;clear cf lf cl ll ea Ja;have H1:=zH (show (1:Int)=((P 0:Nat):Int) by rw [Px.out];rfl)
 have H12:=zH (show (1:Int)=((P2 0:Nat):Int) by rw [Iz.out];rfl)
 go_wp2_with fail
 go_loopw [25,97] (fun b y wr=>∃ j:Nat,j <= nC /\ y=vd vq j /\ b=vd vn (P j:Int) /\ Blk wr gl 22 #[vd vn (C0 j:Int),vd vn (C1 j:Int),vd vn (C2 0:Int)] /\ w11.grownBy wr (vE gl)) (fun _ y _=>nC-(intOf y).toNat)
 case atStart=>exact ⟨0,Kb _,rfl,by rw [<- H1.out],kg,Ce _ _⟩
 case round =>
  clear kg;obtain ⟨j,hj,rfl,rfl,kg,hg⟩:=hrel;have yc:=kf.grown hg (fun e=>by have:=Ya e;omega)
  have Nh:=kx.grown hg (fun e=>by have:=Ya e;omega)
  have yl:=kl.grown hg (fun e=>by have:=Ya e;omega)
  have WM:=Ef da hg;by_cases ta:j<nC
  ·have q1:(j:Int)<nC:=by omega
   have q2:(0:Int)<=j:=by omega
   have hjf:j<front.length:=by rw [<- HFN.out];exact ta
   have hjc:j<Eh.length:=by rw [Ez.out];exact ta
   obtain ⟨bf,qf,rfl,zk,hcf⟩:=Rg yu.out hjf;obtain ⟨bc,qc,A1,n1,c1,rfl,hbc,ow,Eo⟩:=zv hCd hjc;have z1:n1=L.block:=by rw [(Ob Eo).1];exact HCR.out _ (He hjc)
   subst z1;have xS:=zH (HDV.out j hjc);obtain ⟨rj,hrj⟩:=zEX (Eh[j]);rw [<- hrj] at Eo xS;obtain ⟨v,hv⟩:=zEX (f j);obtain ⟨p0,Mf⟩:=zEX (P j);obtain ⟨p1,zf⟩:=zEX (P (j+1));obtain ⟨s0,Mp⟩:=zEX (C0 j);obtain ⟨t0,oJ⟩:=zEX (C0 (j+1));obtain ⟨s1,Xc⟩:=zEX (C1 j);obtain ⟨t1,eG⟩:=zEX (C1 (j+1));obtain ⟨dj,hdj⟩:=zEX (dv j);obtain ⟨u0,gG⟩:=zEX (p1*v%L.p);obtain ⟨u1,iG⟩:=zEX (dj*v%L.p);have HP1j:=zH (Jv.out j);have H0j:=zH (H0S.out j);have H1j:=zH (H1S.out j);rw [<- Mf,<- zf] at HP1j;rw [<- Mp,<- oJ,<- zf,<- hv,<- gG] at H0j;rw [<- Xc,<- eG,<- hdj,<- hv,<- iG] at H1j;rw [<- hdj] at xS;rw [<- HFF.out,<- hv] at hcf;rw [<- Mp,<- Xc] at kg;rw [<- Mf];have HT:=zH (And.intro zf (And.intro oJ eG));have HMp:Hid (∀ w:vw,vB prog 142 #[vf #[vd vn L.p],vd vn p0,vd vn al] w fun e w'=>e=vl (vd vn p1) /\ vA w.1.size w w'):=zH (fun w=>by rw [HP1j.out];exact HM.out p0 al w)
   have HM0:Hid (∀ w:vw,vB prog 142 #[vf #[vd vn L.p],vd vn p1,vd vn v] w fun e w'=>e=vl (vd vn u0) /\ vA w.1.size w w'):=zH (fun w=>by rw [gG];exact HM.out p1 v w)
   have Of:Hid (∀ w:vw,vB prog 142 #[vf #[vd vn L.p],vd vn dj,vd vn v] w fun e w'=>e=vl (vd vn u1) /\ vA w.1.size w w'):=zH (fun w=>by rw [iG];exact HM.out dj v w)
   have xr:Hid (∀ w:vw,vB prog 219 #[vf #[vd vn L.p],vd vn s0,vd vn u0] w fun e w'=>e=vl (vd vn t0) /\ vA w.1.size w w'):=zH (fun w=>by rw [H0j.out];exact HS.out s0 u0 w)
   have Rh:Hid (∀ w:vw,vB prog 219 #[vf #[vd vn L.p],vd vn s1,vd vn u1] w fun e w'=>e=vl (vd vn t1) /\ vA w.1.size w w'):=zH (fun w=>by rw [H1j.out];exact HS.out s1 u1 w)
   have HDt:Hid (∀ (B:Option vy) (w':vw),RWd w' [ve A1 L.block c1] rj -> RWd w' [ve B L.block L.block] W -> vB prog 294 #[vf #[vd vn L.p],ve A1 L.block c1,ve B L.block L.block] w' fun e w2=>e=vl (vd vn dj) /\ vA w'.1.size w' w2):=zH (fun B w' h1 h2=>by rw [xS.out];exact HD.out A1 B L.block c1 L.block L.block rj W w' h1 h2 rfl)
   have cfr:=(WM.cell (p:=⟨bf,qf+j,vD⟩) zk).trans hcf;clear hrj hv Mf zf Mp oJ Xc eG hdj gG iG hcf;have cx:=Nh.cell;have cf:=yc.cell;go_wp2_with fail
   refine (HMp.out _).mono ?_;rintro e wA ⟨rfl,xa⟩;replace yc:=ia yc xa;replace kg:=ia kg xa;replace hg:=Vf hg xa hg.size;clear xa cx cf cfr Nh yl WM;have cf:=yc.cell;have lf:=yc.lt;have cg:=kg.cell;have lg:=kg.lt;go_upto_region 14 with fail
   refine yB (Wb) [8,9,11] [11] [0,1,2,3,4,5,6,7,8,9,10,11] zK zK ?_;refine AB (oa) ?_;intro Wc Ja ea;have Ma:=jg Ja;replace yc:=ia yc Ma;replace kg:=ia kg Ma;replace hg:=Vf hg Ma hg.size;refine Ro ?_;refine ku (oa) rfl rfl rfl (fun _=>by go_simp <;> rfl) ((HM0.out _).mono ?_)
   rintro e wB ⟨rfl,yk⟩;refine ⟨_,rfl,fun _=>yk,?_⟩
   replace ea:=zM oa ea (yk);refine zPU ?_;replace yc:=ia yc yk;replace kg:=ia kg yk;replace hg:=Vf hg yk hg.size;refine Ro ?_;refine ku (oa) rfl rfl rfl (fun _=>by go_simp <;> rfl) ((xr.out _).mono ?_)
   rintro e wC ⟨rfl,Sr⟩;refine ⟨_,rfl,fun _=>Sr,?_⟩
   replace ea:=zM oa ea (Sr);refine zPU ?_;replace yc:=ia yc Sr;replace kg:=ia kg Sr;replace hg:=Vf hg Sr hg.size;clear cf lf cg lg ea Ma yk Sr Ja;have ea:=(oa).refl wC;obtain ⟨aI,fg2⟩:=kg.cells';refine Ro ?_;refine ak (oa) rfl rfl rfl ?_;go_simp;refine ⟨fun h=>Bool.noConfusion h,?_⟩
   have Lb:=Zj (w:=wC) gl 0 (vd vn t0);replace kg:=kg.set_ 0 (vd vn t0);replace kg:Blk (wC.setCell ⟨gl,0,vD⟩ (vd vn t0)) gl 22 #[vd vn t0,vd vn s1,vd vn (C2 0:Int)]:=by simpa using kg
   replace yc:=yc.grown Lb (fun e=>by have:=Ya e;omega)
   replace hg:=Mr hg Lb (fun _ e=>.inl e)
   clear aI fg2 Lb ea;generalize wC.setCell _ _=wD at kg yc hg |-;have ea:=(oa).refl wD;refine Ro ?_;refine zB ?_;clear ea;have Db:=Ef Dm hg;have kw1:=kw.grown hg (fun e=>by have:=Ya e;omega)
   have hw:=tC kw1 (fun k _=>HIX.out _ k) (by simp [maxLen];omega)
   rw [HWW.out] at hw;have tl:=Ab Db Eo;have ccr:=(Db.cell (p:=⟨bc,qc+j,vD⟩) hbc).trans ow;have lbc:bc<wD.1.size:=pd hbc Db.size;have cf:=yc.cell;have lf:=yc.lt;have cg:=kg.cell;have lg:=kg.lt;clear Db kw1;go_upto_region 15 with fail
   refine yB (Wb) [12,14,15,17] [17] [0,1,2,3,4,5,6,7,8,9,10,11,13,12,14,15,16,17] zK zK ?_;refine AB (oa) ?_;intro Wc Ja ea;have Ma:=jg Ja;replace yc:=ia yc Ma;replace kg:=ia kg Ma;replace hw:=Ab Ma hw;replace tl:=Ab Ma tl;replace hg:=Vf hg Ma hg.size;refine Ro ?_;refine ku (oa) rfl rfl rfl (fun _=>by go_simp <;> rfl) ((HDt.out _ _ tl hw).mono ?_)
   rintro e wE ⟨rfl,Vu⟩;refine ⟨_,rfl,fun _=>Vu,?_⟩
   replace ea:=zM oa ea (Vu);refine zPU ?_;replace yc:=ia yc Vu;replace kg:=ia kg Vu;replace hg:=Vf hg Vu hg.size;refine Ro ?_;refine ku (oa) rfl rfl rfl (fun _=>by go_simp <;> rfl) ((Of.out _).mono ?_)
   rintro e wF ⟨rfl,Qi⟩;refine ⟨_,rfl,fun _=>Qi,?_⟩
   replace ea:=zM oa ea (Qi);refine zPU ?_;replace yc:=ia yc Qi;replace kg:=ia kg Qi;replace hg:=Vf hg Qi hg.size;refine Ro ?_;refine ku (oa) rfl rfl rfl (fun _=>by go_simp <;> rfl) ((Rh.out _).mono ?_)
   rintro e wG ⟨rfl,hbG⟩;refine ⟨_,rfl,fun _=>hbG,?_⟩
   replace ea:=zM oa ea (hbG);refine zPU ?_;replace yc:=ia yc hbG;replace kg:=ia kg hbG;replace hg:=Vf hg hbG hg.size;clear cf lf cg lg ea Ma Vu Qi hbG Ja hw tl ccr lbc;have ea:=(oa).refl wG;obtain ⟨aI,fg2⟩:=kg.cells';refine Ro ?_;refine ak (oa) rfl rfl rfl ?_;go_simp;refine ⟨fun h=>Bool.noConfusion h,?_⟩
   have Lb:=Zj (w:=wG) gl 1 (vd vn t1);replace kg:=kg.set_ 1 (vd vn t1);replace kg:Blk (wG.setCell ⟨gl,1,vD⟩ (vd vn t1)) gl 22 #[vd vn t0,vd vn t1,vd vn (C2 0:Int)]:=by simpa using kg
   replace hg:=Mr hg Lb (fun _ e=>.inl e)
   clear aI fg2 Lb ea yc;generalize wG.setCell _ _=wH at kg hg |-;have ea:=(oa).refl wH;refine Ro ?_;refine zB ?_;clear ea;go_wp2_with fail
   go_roundw
   case rel=>exact ⟨j+1,zO,by go_num,by rw [HT.out.1],by rw [<- HT.out.2.1,<- HT.out.2.2];exact kg,hg⟩
   case measure=>simp [intOf];omega
  ·obtain rfl:j=nC:=by omega
   have q1:¬((j:Int)<j):=by omega
   clear kf kx kl Dm hCd kw da;have cl:=yl.cell;go_wp2_with fail
   refine (HSp.out _).mono ?_;rintro e wS ⟨⟨X1,X2,X3,c1,c2,c3,rfl,hX⟩,xa⟩;replace yc:=ia yc xa;replace Nh:=ia Nh xa;replace kg:=ia kg xa;replace WM:=ma WM xa;have fo:=zH hX;clear xa cl hX yl hg;go_wp2_with fail
   go_loopw [25,146] (fun b y wr=>∃ t:Nat,t <= L.b /\ y=vd vq t /\ b=vd vn (P2 t:Int) /\ Blk wr gl 22 #[vd vn (C0 j:Int),vd vn (C1 j:Int),vd vn (C2 t:Int)] /\ wS.grownBy wr (vE gl)) (fun _ y _=>L.b-(intOf y).toNat)
   case atStart=>exact ⟨0,Kb _,rfl,by rw [<- H12.out],kg,Ce _ _⟩
   case round =>
    clear kg;obtain ⟨t,ht,rfl,rfl,kg,hg⟩:=hrel;have UK:=Ef WM hg;by_cases ta:t<L.b
    ·have q2:(t:Int)<L.b:=by omega
     have q3:(0:Int)<=t:=by omega
     have hN4:=HN4.out;have hFN:=HFN.out;obtain ⟨b1,Oq,rfl,zk,Ad⟩:=Rg yu.out (show L.a+t<front.length by omega)
     obtain ⟨b2,q2',hA,-,Xf⟩:=Rg yu.out (show L.a+L.b+t<front.length by omega)
     injection hA with hA;injection hA with hA1 hA2 hA3;subst hA1 hA2
     obtain ⟨b3,q3',hA,-,Bj⟩:=Rg yu.out (show L.a+L.b+L.b+t<front.length by omega)
     injection hA with hA;injection hA with hA1 hA2 hA3;subst hA1 hA2
     clear hN4 hFN;obtain ⟨rfl,rfl,rfl⟩:=fo.out zO b1 Oq rfl;have w1c:=(UK.cell (p:=⟨b1,Oq+(L.a+t),vD⟩) zk).trans Ad;have w2c:=(UK.cell (p:=⟨b1,Oq+(L.a+L.b+t),vD⟩) zk).trans Xf;have w3c:=(UK.cell (p:=⟨b1,Oq+(L.a+L.b+L.b+t),vD⟩) zk).trans Bj;rw [show Oq+(L.a+t)=Oq+L.a+t by omega] at w1c
     rw [show Oq+(L.a+L.b+t)=Oq+(L.a+L.b)+t by omega] at w2c
     rw [show Oq+(L.a+L.b+L.b+t)=Oq+(L.a+L.b+L.b)+t by omega] at w3c
     have lbf:b1<wr.1.size:=pd zk UK.size;rw [<- HFF.out] at w1c w2c w3c;obtain ⟨x1,td⟩:=zEX (f (L.a+t));obtain ⟨x2,Ej⟩:=zEX (f (L.a+L.b+t));obtain ⟨x3,pD⟩:=zEX (f (L.a+L.b+L.b+t));obtain ⟨p0,Mf⟩:=zEX (P2 t);obtain ⟨p1,zf⟩:=zEX (P2 (t+1));obtain ⟨s0,Mp⟩:=zEX (C2 t);obtain ⟨t0,oJ⟩:=zEX (C2 (t+1));obtain ⟨y1,Ie⟩:=zEX (x1*x2%L.p);obtain ⟨y2,sD⟩:=zEX ((y1+tg L.p x3)%L.p);obtain ⟨y3,hy3⟩:=zEX (p1*y2%L.p);have HR1t:=zH (cq.out t);have H2t:=zH (H2S.out t);rw [<- Mf,<- zf] at HR1t;rw [<- Mp,<- oJ,<- zf,<- td,<- Ej,<- pD,<- Ie,<- sD,<- hy3] at H2t;rw [<- td] at w1c;rw [<- Ej] at w2c;rw [<- pD] at w3c;rw [<- Mp] at kg;rw [<- Mf];have HT:=zH (And.intro zf oJ);have HMp:Hid (∀ w:vw,vB prog 142 #[vf #[vd vn L.p],vd vn p0,vd vn be] w fun e w'=>e=vl (vd vn p1) /\ vA w.1.size w w'):=zH (fun w=>by rw [HR1t.out];exact HM.out p0 be w)
     have Of:Hid (∀ w:vw,vB prog 142 #[vf #[vd vn L.p],vd vn x1,vd vn x2] w fun e w'=>e=vl (vd vn y1) /\ vA w.1.size w w'):=zH (fun w=>by rw [Ie];exact HM.out x1 x2 w)
     have Rh:Hid (∀ w:vw,vB prog 219 #[vf #[vd vn L.p],vd vn y1,vd vn x3] w fun e w'=>e=vl (vd vn y2) /\ vA w.1.size w w'):=zH (fun w=>by rw [sD];exact HS.out y1 x3 w)
     have HM2:Hid (∀ w:vw,vB prog 142 #[vf #[vd vn L.p],vd vn p1,vd vn y2] w fun e w'=>e=vl (vd vn y3) /\ vA w.1.size w w'):=zH (fun w=>by rw [hy3];exact HM.out p1 y2 w)
     have yr:Hid (∀ w:vw,vB prog 219 #[vf #[vd vn L.p],vd vn s0,vd vn y3] w fun e w'=>e=vl (vd vn t0) /\ vA w.1.size w w'):=zH (fun w=>by rw [H2t.out];exact HS.out s0 y3 w)
     clear td Ej pD Mf zf Mp oJ Ie sD hy3 Ad Xf Bj;have pg:=yc.grown hg (fun e=>by have:=Ya e;omega)
     have Kn:=Nh.grown hg (fun e=>by have:=Ya e;omega)
     have cx:=Kn.cell;have cf:=pg.cell;go_wp2_with fail
     refine (HMp.out _).mono ?_;rintro e wA ⟨rfl,xa⟩;replace w1c:=(xa.cell (p:=⟨b1,Oq+L.a+t,vD⟩) lbf).trans w1c;replace w2c:=(xa.cell (p:=⟨b1,Oq+(L.a+L.b)+t,vD⟩) lbf).trans w2c;replace w3c:=(xa.cell (p:=⟨b1,Oq+(L.a+L.b+L.b)+t,vD⟩) lbf).trans w3c;replace lbf:=pd lbf xa.size;replace pg:=ia pg xa;replace kg:=ia kg xa;replace hg:=Vf hg xa hg.size;clear xa cx cf Kn UK;have cf:=pg.cell;have lf:=pg.lt;have cg:=kg.cell;have lg:=kg.lt;go_upto_region 23 with fail
     refine yB (Wb) [17,22,23,24,26] [26] [0,1,2,3,4,5,6,7,8,9,10,11,12,13,14,15,16,18,19,20,21,17,22,23,24,25,26] zK zK ?_;refine AB (oa) ?_;intro Wc Ja ea;have Ma:=jg Ja;replace pg:=ia pg Ma;replace kg:=ia kg Ma;replace hg:=Vf hg Ma hg.size;refine Ro ?_;refine ku (oa) rfl rfl rfl (fun _=>by go_simp <;> rfl) ((Of.out _).mono ?_)
     rintro e wB ⟨rfl,yk⟩;refine ⟨_,rfl,fun _=>yk,?_⟩
     replace ea:=zM oa ea (yk);refine zPU ?_;replace pg:=ia pg yk;replace kg:=ia kg yk;replace hg:=Vf hg yk hg.size;refine Ro ?_;refine ku (oa) rfl rfl rfl (fun _=>by go_simp <;> rfl) ((Rh.out _).mono ?_)
     rintro e wC ⟨rfl,Sr⟩;refine ⟨_,rfl,fun _=>Sr,?_⟩
     replace ea:=zM oa ea (Sr);refine zPU ?_;replace pg:=ia pg Sr;replace kg:=ia kg Sr;replace hg:=Vf hg Sr hg.size;refine Ro ?_;refine ku (oa) rfl rfl rfl (fun _=>by go_simp <;> rfl) ((HM2.out _).mono ?_)
     rintro e wD ⟨rfl,hbD⟩;refine ⟨_,rfl,fun _=>hbD,?_⟩
     replace ea:=zM oa ea (hbD);refine zPU ?_;replace pg:=ia pg hbD;replace kg:=ia kg hbD;replace hg:=Vf hg hbD hg.size;refine Ro ?_;refine ku (oa) rfl rfl rfl (fun _=>by go_simp <;> rfl) ((yr.out _).mono ?_)
     rintro e wE ⟨rfl,Vu⟩;refine ⟨_,rfl,fun _=>Vu,?_⟩
     replace ea:=zM oa ea (Vu);refine zPU ?_;replace pg:=ia pg Vu;replace kg:=ia kg Vu;replace hg:=Vf hg Vu hg.size;clear cf lf cg lg ea Ma yk Sr hbD Vu Ja w1c w2c w3c lbf;have ea:=(oa).refl wE;obtain ⟨aI,fg2⟩:=kg.cells';refine Ro ?_;refine ak (oa) rfl rfl rfl ?_;go_simp;refine ⟨fun h=>Bool.noConfusion h,?_⟩
     have Lb:=Zj (w:=wE) gl 2 (vd vn t0);replace kg:=kg.set_ 2 (vd vn t0);replace kg:Blk (wE.setCell ⟨gl,2,vD⟩ (vd vn t0)) gl 22 #[vd vn (C0 j:Int),vd vn (C1 j:Int),vd vn t0]:=by simpa using kg
     replace hg:=Mr hg Lb (fun _ e=>.inl e)
     clear aI fg2 Lb ea pg;generalize wE.setCell _ _=wH at kg hg |-;have ea:=(oa).refl wH;refine Ro ?_;refine zB ?_;clear ea;go_wp2_with fail
     go_roundw
     case rel=>exact ⟨t+1,zO,by go_num,by rw [HT.out.1],by rw [<- HT.out.2];exact kg,hg⟩
     case measure=>simp [intOf];omega
    ·obtain rfl:t=L.b:=by omega
     have q2:¬((L.b:Int)<L.b):=by omega
     have ho:=zGK (l:=[C0 j,C1 j,C2 L.b]) kg (base:=w.1.size) zO (by simp [maxLen])
     go_wp2;go_ret
     exact ⟨_,rfl,ho,UK⟩
theorem zIB (A1 A2:Option vy) (n1 c1 n2 c2:Nat) (l1 l2:List Nat) (w:vw) (h1:RWd w [ve A1 n1 c1] l1) (h2:RWd w [ve A2 n2 c2] l2) :
  vB prog 252 #[ve A1 n1 c1,ve A2 n2 c2] w fun e w'=>e=vl (.bool (decide (l1=l2))) /\ vA w.1.size w w':=by
 obtain ⟨rfl,a1,a2,a3,r1⟩:=Ob h1;obtain ⟨rfl,b1,b2,b3,r2⟩:=Ob h2;have gm:=Mm a1 a2;have gm2:=Mm b1 b2;clear h1 h2 a1 a2 b1 b2 a3 b3;by_cases hn:l1.length=l2.length
 rotate_left
 ·have t1:((l1.length:Int)!=l2.length)=true:=by rw [ef];omega
  have t2:((l1.length:Int)==l2.length)=false:=by rw [Gd];omega
  have HF:=zH (show decide (l1=l2)=false from db fun h=>hn (by rw [h]))
  rw [HF.out];generalize l1.length=m1 at *;generalize l2.length=m2 at *;clear r1 r2 hn;go_enter func252,ntmps252
  go_wp2;go_ret
  exact ⟨rfl,tb _ _⟩
 have t1:((l1.length:Int)!=l2.length)=false:=by rw [Hr];omega
 have t2:((l1.length:Int)==l2.length)=true:=by rw [Dh];omega
 obtain ⟨n,Re⟩:∃ n,l1.length=n:=⟨_,rfl⟩;have Xd:l2.length=n:=by omega
 rw [Re] at r1;rw [Xd] at r2;rw [Re,Xd] at t1 t2;rw [Re] at gm;rw [Re,Xd];obtain ⟨ans,ha⟩:=zEX (decide (l1=l2));rw [<- ha];have HA:=zH ha;have H1:=zH Re;have H2:=zH Xd;clear hn Re Xd gm2 ha;go_enter func252,ntmps252
 go_wp2_with fail
 go_loopw [13] (fun y wr=>∃ i:Nat,i <= n /\ y=vd vq i /\ Hid (l1.take i=l2.take i) /\ vA w.1.size w wr) (fun y _=>n-(intOf y).toNat)
 case atStart=>exact ⟨0,Kb _,rfl,rfl,tb _ _⟩
 case round =>
  obtain ⟨i,hi,rfl,HT,yb⟩:=hrel;by_cases ta:i<n
  ·have g1:(0:Int)<=i:=by omega
   have g2:(i:Int)<n:=by omega
   have q1:=r1.below yb;have q2:=r2.below yb;rw [<- H1.out] at q1;rw [<- H2.out] at q2;obtain ⟨x1,y1,rfl,v1,d1⟩:=Rg q1 (j:=i) (by rw [H1.out];exact ta)
   obtain ⟨x2,y2,rfl,v2,d2⟩:=Rg q2 (j:=i) (by rw [H2.out];exact ta)
   clear q1 q2;by_cases he:l1.getD i 0=l2.getD i 0
   ·have PB:=zH (zIE HT.out (by rw [H1.out];exact ta) (by rw [H2.out];exact ta) he)
    rw [<- he] at d2;generalize l1.getD i 0=z at *;have u1:((z:Int)!=z)=false:=by rw [Hr]
    have u2:((z:Int)==z)=true:=by rw [Dh]
    clear he HT;go_wp2_with fail
    refine kh (Wb) (oa) [] [] [0,1,2,3,4,5,6,7,8] zK zK ?_;refine lh (oa) ?_;intro Wc ea;refine Me ?_;refine Qs rfl ?_;intro wd me;replace ea:=zM oa ea me;clear me;go_wp2;replace yb:=ma yb.drew ea
    go_roundw
    case rel=>exact ⟨i+1,zO,by go_num,PB.out,yb⟩
    case measure=>simp [intOf];omega
   ·have HF:=zH (HA.out.trans (zID he))
    generalize l1.getD i 0=z1 at *;generalize l2.getD i 0=z2 at *;have u1:((z1:Int)!=z2)=true:=by rw [ef];omega
    have u2:((z1:Int)==z2)=false:=by rw [Gd];omega
    clear he HT;go_wp2_with fail
    refine kh (Wb) (oa) [] [] [0,1,2,3,4,5,6,7,8] zK zK ?_;refine lh (oa) ?_;intro Wc ea;refine Me ?_;refine Qs rfl ?_;intro wd me;replace ea:=zM oa ea me;clear me;go_wp2;go_ret
    exact ⟨by rw [HF.out];rfl,ma yb.drew ea⟩
  ·obtain rfl:i=n:=by omega
   have HF:=zH (HA.out.trans (xb (by have:=HT.out;rwa [<- H1.out,qt,H1.out,<- H2.out,qt] at this)))
   go_wp2;go_ret
   exact ⟨by rw [HF.out];rfl,yb⟩
def jC (L:Na) (cs:List (List Nat)) (al be:Nat) (a b q:List Nat) (i:Int) (v:List Nat):Bool :=
 aw L a b q&&decide (0 <= i)&&decide (i<(L.n:Int))&&Rj v (L.a+L.b+L.b+L.b+3) L.p&&decide (bA L cs al be a b q (Th L.p (Mb L.p).1 L.n i.toNat) (v.take (L.a+L.b+L.b+L.b))=v.drop (L.a+L.b+L.b+L.b))
theorem zGP (L:Na) (pu La al be:Nat) (vars i:Int) (A B1 B2 B3 F:Option vy) (R c m1 d1 m2 d2 m3 d3 n d:Nat) (rows:List Ua) (a b q v:List Nat) (w:vw)
  (hL:Nb L) (hF:Gu L pu vars rows) (hr:RSl 3 je w [ve A R c] rows) (hV:Wx vars rows)
  (ha:RWd w [ve B1 m1 d1] a) (hb:RWd w [ve B2 m2 d2] b) (hq:RWd w [ve B3 m3 d3] q) (hv:RWd w [ve F n d] v) :
  vB prog 177 #[vf (ib L),Zb L.p (pu:Int) vars (ve A R c),vf #[vd vn al,vd vn La,vd vn be],ve B1 m1 d1,ve B2 m2 d2,ve B3 m3 d3,vd vq i,ve F n d] w fun e w'=>e=vl (.bool (jC L (Mi L pu La rows) al be a b q i v)) /\ vA w.1.size w w':=by
 have VC:=hL.a;have Dw:=hL.b;obtain ⟨T,hT⟩:=zEX (L.a+L.b+L.b+L.b);obtain ⟨hvn,hvd,oG,-,-⟩:=Ob hv;have gm:=Mm hvd oG;have dq:=zH (fun w=>by have:=GG L.p L.block L.queries L.k L.n L.secret L.rows L.a L.b L.b L.b w hL.a hL.b hL.b hL.b;rw [<- hT] at this;exact this)
 have HFi:=zH (fun w' (h:vA w.1.size w w')=>L3 L B1 B2 B3 m1 d1 m2 d2 m3 d3 a b q w' hL (Ab h ha) (Ab h hb) (Ab h hq) ⟨(Ob ha).1,(Ob hb).1,(Ob hq).1⟩)
 have To:=zH (fun w' (h:vA w.1.size w w')=>UO L F n d v w' (Ab h hv))
 have HC:=zH (fun (w':vw) (h:vA w.1.size w w') (j:Nat) (hj:j<L.n) (hTn:T <= n)=>zGQ L pu La al be vars A B1 B2 B3 F R c m1 d1 m2 d2 m3 d3 j T d rows a b q (v.take T) w' hL hF (Pg Og _ _ _ _ h hr) hV (Ab h ha) (Ab h hb) (Ab h hq) (dO (Ab h hv) hTn) hj (by rw [Br,<- hT];omega))
 obtain ⟨CD,hCD⟩:∃ CD:Nat -> List Nat,CD=fun j=>bA L (Mi L pu La rows) al be a b q (Th L.p (Mb L.p).1 L.n j) (v.take T):=⟨_,rfl⟩
 have Ix:=zH (show ∀ j,bA L (Mi L pu La rows) al be a b q (Th L.p (Mb L.p).1 L.n j) (v.take T)=CD j from fun j=>by rw [hCD])
 have HCX:=zH (show ∀ j,(∀ y∈CD j,y<18446744073709551616) /\ (CD j).length=3 from fun j=>by
  rw [hCD];refine ⟨fun y hy=>?_,rfl⟩
  have hp:=Rb hL.p;simp only [bA,Ah,List.not_mem_nil,or_false] at hy;rcases hy with h | h | h <;> rw [h] <;> exact Uk (UG zO _ _) hp.2)
 have HEq:=zH (fun (j:Nat) (A1:Option vy) (c1:Nat) (w':vw) (h:vA w.1.size w w') (hTn:T <= n) (h3:RWd w' [ve A1 3 c1] (CD j))=>zIB A1 (if d=T then F else Option.map (fun x=>x.add T) F) 3 c1 (n-T) (d-T) (CD j) (v.drop T) w' h3 (BL (Ab h hv) hTn))
 have HE:=zH (show jC L (Mi L pu La rows) al be a b q i v=(aw L a b q&&decide (0 <= i)&&decide (i<(L.n:Int))&&(decide (v.length=T+3)&&v.all fun x=>decide (x<L.p))&&decide (CD i.toNat=v.drop T)) by rw [hCD,hT];rfl)
 obtain ⟨ans,Ep⟩:=zEX (jC L (Mi L pu La rows) al be a b q i v);rw [<- Ep] at HE |-;obtain ⟨t,ht⟩:=zEX (T+3);have e1:(T:Int)+3=(t:Int):=by omega
 have e2:=Qc t;have HT:=zH ht;have HN:=zH hvn;generalize aw L a b q=b1 at *;generalize (v.all fun x=>decide (x<L.p))=b2 at *
 have gT:T <= 400000:=by omega
 have gd:n <= d:=hvd;clear VC Dw hT hvn hvd oG hCD Ep ht hL hF hr hV ha hb hq hv;unfold ib Zb at *;obtain ⟨kl,kt,kx,da,-⟩:=oq w 101 25 136 #[vd vn L.p,vd vq L.block,vd vq L.queries,vd vq L.k,vd vq L.n,vd vq L.secret,vd vq L.rows,vd vq L.a,vd vq L.b,vd vq L.b,vd vq L.b] #[vd vn L.p,vd vq pu,vd vq vars,ve A R c] #[vd vn al,vd vn La,vd vn be];go_enter func177,ntmps177
 go_upto_region 1 with fail
 generalize ((w.alloc _).alloc _).alloc _=w1 at kl kt kx da |-;have cl:=kl.cell;go_wp2_with fail
 refine (dq.out _).mono ?_;rintro e w2 ⟨rfl,xa⟩;replace kl:=ia kl xa;replace kt:=ia kt xa;replace kx:=ia kx xa;replace da:=ma da xa;clear xa cl;have cl:=kl.cell;go_wp2_with fail
 refine (HFi.out _ da).mono ?_;rintro e w3 ⟨rfl,xa⟩;replace kl:=ia kl xa;replace kt:=ia kt xa;replace kx:=ia kx xa;replace da:=ma da xa;clear xa cl;cases b1
 ·go_wp2
  go_ret
  exact ⟨by rw [HE.out];simp,da⟩
 by_cases hi0:i<0
 ·have x1:decide (i<0)=true:=xb hi0
  have HF:=zH (show ans=false by rw [HE.out,db (show ¬(0 <= i) by omega)];simp)
  clear HE;go_wp2;go_ret
  exact ⟨by rw [HF.out];rfl,da⟩
 have x1:decide (i<0)=false:=db hi0;have cl:=kl.cell;by_cases hiN:(L.n:Int) <= i
 ·have x2:decide ((L.n:Int) <= i)=true:=xb hiN
  have HF:=zH (show ans=false by rw [HE.out,db (show ¬(i<(L.n:Int)) by omega)];simp)
  clear HE;go_wp2;go_ret
  exact ⟨by rw [HF.out];rfl,da⟩
 have x2:decide ((L.n:Int) <= i)=false:=db hiN;by_cases hlen:n=t
 rotate_left
 ·have x3:((n:Int)!=t)=true:=by rw [ef];omega
  have HF:=zH (show ans=false by rw [HE.out,db (show ¬(v.length=T+3) by have:=HT.out;have:=HN.out;omega)];simp)
  clear HE hlen;go_wp2;go_ret
  exact ⟨by rw [HF.out];rfl,da⟩
 have x3:((n:Int)!=t)=false:=by rw [Hr];omega
 obtain ⟨j,rfl⟩:=dk (show 0 <= i by omega)
 have hjn:j<L.n:=by omega
 have Ii:=zH (show ans=(b2&&decide (CD j=v.drop T)) by rw [HE.out,xb (show 0 <= (j:Int) by omega),xb (show (j:Int)<L.n by omega),xb (show v.length=T+3 by have:=HT.out;have:=HN.out;omega)];simp)
 have hTn:T <= n:=by have:=HT.out;omega
 have y1:(0:Int)<=T:=by omega
 have y2:(T:Int)<=n:=by omega
 have y3:(T:Int)<=d:=by omega
 clear hi0 hiN hlen HE;go_wp2_with fail
 refine (To.out _ da).mono ?_;rintro e w4 ⟨rfl,xa⟩;replace kl:=ia kl xa;replace kt:=ia kt xa;replace kx:=ia kx xa;replace da:=ma da xa;clear xa cl;cases b2
 ·go_wp2
  go_ret
  exact ⟨by rw [Ii.out];rfl,da⟩
 have cl:=kl.cell;have ll:=kl.lt;have ct:=kt.cell;have lt:=kt.lt;have cx:=kx.cell;have lx:=kx.lt;go_upto_region 4 with fail
 refine zd (Wb) [10,14] [0,1,2,3,4,5,6,7,8,9,11,12,13,10,14,15] zK zK ?_;refine Ue (oa) ?_;intro Wc Ja ea;have Ma:=jg Ja;replace da:=ma da Ma;clear Ma;refine Pb ?_;refine Ic oa rfl rfl rfl ((HC.out _ da j hjn hTn).mono ?_);rintro e w5 ⟨v5,rfl,o5,Za⟩;refine ⟨_,rfl,Za,?_⟩;replace ea:=zM oa ea (Za);refine zPU ?_;rw [Ix.out] at o5;obtain ⟨A5,c5,rfl,-⟩:=Ud o5;have h5:=Hq o5 (HCX.out j).1;replace da:=ma da Za;clear Za o5;refine Pb ?_;refine Ic oa rfl rfl rfl ((HEq.out j _ _ _ da hTn h5).mono ?_);rintro e w6 ⟨rfl,tc⟩;refine ⟨_,rfl,tc,?_⟩;replace ea:=zM oa ea (tc);refine zPU ?_;replace da:=ma da tc;clear tc h5;refine Pb ?_;refine Hc ?_;generalize (if d=T then F else Option.map (fun x=>x.add T) F)=FX
 go_wp2;go_ret
 exact ⟨by rw [Ii.out];rfl,da⟩
theorem zDh {L:Na} {cs:List (List Nat)} {al be i:Nat} {a b q v l:List Nat} (hf:aw L a b q=true) (hi:i<L.n) (hv:v.length=L.a+L.b+L.b+L.b) (hlv:∀ x∈v,x<L.p) (hl:l.length=3) (Ew:∀ x∈l,x<L.p) :
  jC L cs al be a b q (i:Int) (v++l)=decide (bA L cs al be a b q (Th L.p (Mb L.p).1 L.n i) v=l):=by
 have e1:Rj (v++l) (L.a+L.b+L.b+L.b+3) L.p=true:=by
  unfold Rj;rw [Vb,yo,fe];refine ⟨by rw [jj];omega,fun x hx=>?_⟩
  rw [yo];rcases jq.1 hx with h | h
  ·exact hlv x h
  ·exact Ew x h
 have e2:decide ((0:Int)<=i)=true:=xb zO;have e3:decide ((i:Int)<L.n)=true:=xb zO;unfold jC;rw [hf,e1,e2,e3,List.take_left' hv,List.drop_left' hv,Rk]
 rfl
theorem Cg.less {p:Nat} {x y u v:Int} (h:Cg p x y) (h2:Cg p u v):Cg p (x-u) (y-v):=by
 rw [Int.sub_eq_add_neg,Int.sub_eq_add_neg];exact h.add h2.neg
theorem zCC {L:Na} (m r:List (List Nat)) (co:List Nat) (al:Nat) (x:Int):Cg L.p (Lc (Xz L m r co al) x) (Lc co x+Pa (fun j=>(eh L.p al (j+1):Int)*Lc ((ig L m r).getD j []) x) m.length):=by
 unfold Xz;rw [dU];exact (pF _ _ _).trans (Cg.rfl'.add (FT _ _ _ _))
theorem YY {L:Na} (cs m r:List (List Nat)) (li:List Nat) (x:Int):Cg L.p (Lc (Yx L cs m r li) x) (Lc (Fg L li) x+Pa (fun j=>Lc ((Vp L.p cs).getD j []) x*Lc ((ig L m r).getD j []) x) m.length):=by
 unfold Yx;rw [dU];exact (pF _ _ _).trans (Cg.rfl'.add (KV _ _ _ _))
theorem ZY {L:Na} (hp:1<L.p) (m r:List (List Nat)) (qu:List Nat) (be:Nat) (x:Int):Cg L.p (Lc (Zx L m r qu be) x) (Lc (qx L qu) x+Pa (fun j=>(eh L.p be (j+1):Int)*(Lc ((ig L m r).getD (L.a+j) []) x*Lc ((ig L m r).getD (L.a+L.b+j) []) x-Lc ((ig L m r).getD (L.a+L.b+L.b+j) []) x)) L.b):=by
 unfold Zx;rw [dU];exact (pF _ _ _).trans (Cg.rfl'.add (LW hp _ _ _ _ _ _))
theorem yX {p:Nat} (hp:0<p) {a c:List Nat} {s x:Nat} {S:Int} (h1:Cg p (Lc a x) (Lc c x+S)) (h2:Cg p (s:Int) S):oB p (Vc p a x) s=Vc p c x:=by
 refine Cg.eq (p:=p) ?_ (UG hp _ _) (Qu hp _ _);refine (TG hp _ _).trans ?_;refine Cg.trans ?_ (Jr c).symm;refine (Cg.less ((Jr a).trans h1) h2).trans (Cg.of_eq ?_);omega
theorem zDl {L:Na} (hL:Nb L) {cs:List (List Nat)} {a b c co ml qd:List Nat} {R:List (List Nat)} {al be x:Nat} {v:List Nat} (hv:v.length=L.a+L.b+L.b+L.b) (oG:∀ j,j<v.length -> v.getD j 0=Vc L.p (R.getD j []) x)
  (ha:Cg L.p (Lc a x) (Lc co x+Pa (fun j=>(eh L.p al (j+1):Int)*Lc (R.getD j []) x) v.length))
  (hb:Cg L.p (Lc b x) (Lc ml x+Pa (fun j=>Lc ((Vp L.p cs).getD j []) x*Lc (R.getD j []) x) v.length))
  (hc:Cg L.p (Lc c x) (Lc qd x+Pa (fun j=>(eh L.p be (j+1):Int)*(Lc (R.getD (L.a+j) []) x*Lc (R.getD (L.a+L.b+j) []) x-Lc (R.getD (L.a+L.b+L.b+j) []) x)) L.b)) :
  bA L cs al be a b c x v=[Vc L.p co x,Vc L.p ml x,Vc L.p qd x]:=by
 obtain ⟨hp,-⟩:=Rb hL.p;have Mf:0<L.p:=by omega
 have hf:∀ j,j<v.length -> Cg L.p ((v.getD j 0:Nat):Int) (Lc (R.getD j []) x):=fun j h=>by rw [oG j h];exact Jr _
 unfold bA;rw [yX Mf ha ((zZ _ al _).trans (Wi _ fun j hj=>Cg.rfl'.mul (hf j hj)))]
 rw [yX Mf hb ((z7 _ _ _).trans (Wi _ fun j hj=>(Jr _).mul (hf j hj)))]
 rw [yX Mf hc ((xR zO hv.symm _ be).trans (Wi _ fun j hj=>Cg.rfl'.mul (((hf _ zO).mul (hf _ zO)).less (hf _ zO))))]
theorem zHv {L:Na} (hL:Nb L) {m r:List (List Nat)} (h:Du L m r) (co li qu:List Nat) {j:Nat} (hj:j<m.length):(Wj L m r co li qu).getD j []=(ig L m r).getD j []:=by
 rw [XD hL h hj];have h1:(Wj L m r co li qu).getD j []=MG L m r j:=by
  unfold Wj;rw [Fb,SB (by simp [jz];exact hj)]
  simp [jz,hj]
 have h2:(r.getD j []).length=L.queries:=rF h.rr (by rw [h.rl];exact hj)
 rw [h1];unfold MG Dr ay;rw [h2,<- hL.k]
theorem zHu (L:Na) (m r:List (List Nat)) (co li qu:List Nat):(Wj L m r co li qu).getD m.length []=co /\ (Wj L m r co li qu).getD (m.length+1) []=Fg L li /\ (Wj L m r co li qu).getD (m.length+2) []=UN L qu:=by
 have hl:(jz L m r m.length).length=m.length:=by simp [jz]
 unfold Wj;simp only [Fb];refine ⟨?_,?_,?_⟩
 ·rw [jt zO,hl,Nat.sub_self];rfl
 ·rw [jt zO,hl,TB];rfl
 ·rw [jt zO,hl,TB];rfl
theorem zDj {L:Na} (hL:Nb L) {cs m r:List (List Nat)} (h:Du L m r) (Yf:∀ x∈cs,x.length=L.block) (Kg:cs.length=m.length) {co li qu:List Nat} (hc:co.length=L.k /\ ∀ y∈co,y<L.p) (hl:li.length=L.k+L.block-2 /\ ∀ y∈li,y<L.p) (hq:qu.length=L.block+2*L.queries-1) (al be:Nat) {i:Nat} (hi:i<L.n) :
  jC L cs al be (Xz L m r co al) (Yx L cs m r li) (Zx L m r qu be) (i:Int) ((List.range (m.length+3)).map (Ct L (Wj L m r co li qu) i))=true:=by
 obtain ⟨hp,-⟩:=Rb hL.p;have Mf:0<L.p:=by omega
 obtain ⟨Re,Xd⟩:=CQ hL;have tw:∀ j,Ct L (Wj L m r co li qu) i j=Vc L.p ((Wj L m r co li qu).getD j []) (Th L.p (Mb L.p).1 L.n i):=fun j=>by
  unfold Ct;exact eU hL.p Re Xd _ hi
 obtain ⟨F,hF⟩:=zEX ((List.range m.length).map (Ct L (Wj L m r co li qu) i));have hFl:F.length=m.length:=by rw [hF];simp
 have hsplit:(List.range (m.length+3)).map (Ct L (Wj L m r co li qu) i)=F++[Ct L (Wj L m r co li qu) i m.length,Ct L (Wj L m r co li qu) i (m.length+1),Ct L (Wj L m r co li qu) i (m.length+2)]:=by
  rw [hF,show m.length+3=m.length+1+1+1 by omega,List.range_succ,List.range_succ,List.range_succ]
  simp
 obtain ⟨p0,p1,p2⟩:=zHu L m r co li qu;rw [hsplit,tw m.length,tw (m.length+1),tw (m.length+2),p0,p1,p2];rw [zDh (aZ hL h Yf Kg hc hl hq al be) hi (by rw [hFl];exact h.ml) (fun x hx=>by
  rw [hF] at hx;obtain ⟨j,-,rfl⟩:=Od.1 hx;rw [tw];exact Qu Mf _ _) rfl (fun x hx=>by
  simp only [Ah,List.not_mem_nil,or_false] at hx;rcases hx with rfl | rfl | rfl <;> exact Qu Mf _ _)]
 refine xb ?_;refine zDl hL (R:=ig L m r) (by rw [hFl];exact h.ml) (fun j hj=>?_) ?_ ?_ ?_
 ·have yA:j<m.length:=by rw [<- hFl];exact hj
  rw [hF,Yl,Ka yA,tw,zHv hL h _ _ _ yA]
 ·rw [hFl];exact zCC _ _ _ _ _
 ·rw [hFl];exact YY _ _ _ _ _
 ·refine (ZY zO m r qu be _).trans ?_
  rw [wR hL hq];exact Cg.rfl'
def XG (L:Na) (t:Nat) (a b q:List Nat):Bool:=aw L a b q&&((List.range L.block).all fun k=>decide (Vc L.p q (Th L.p 1 L.block k)=0))&&decide (WG L.p (fun k=>Vc L.p b (Th L.p 1 L.block k)) L.block=t)
theorem zCw {n k:Nat} {f:Nat -> Bool} (hk:k<n) (h:f k=false):(List.range n).all f=false:=by
 rw [Bool.eq_false_iff];intro hh;rw [fe] at hh;rw [hh k (pj.2 hk)] at h;cases h
theorem OY {n:Nat} {f:Nat -> Bool} (h:∀ k,k<n -> f k=true):(List.range n).all f=true:=by
 rw [fe];exact fun k hk=>h k (pj.1 hk)
theorem P9 (p:Nat) (A:Option vy) (n c x:Nat) (l:List Nat) (w:vw) (hp:Jb p=true) (hl:RWd w [ve A n c] l) :
  vB prog 249 #[fv p,ve A n c,vd vn x] w fun e w'=>e=vl (vd vn ((Vc p l x:Nat):Int)) /\ vA w.1.size w w':=by
 rw [<- I5 (zQ (Rb hp))];exact Q9 p A n c x l w hp hl
theorem zG8 (L:Na) (pu La al be:Nat) (vars:Int) (A B B1 B2 B3:Option vy) (R c d m1 d1 m2 d2 m3 d3:Nat) (rows:List Ua) (pub a b q:List Nat) (w:vw)
  (hL:Nb L) (hF:Gu L pu vars rows) (hr:RSl 3 je w [ve A R c] rows) (Zr:RWd w [ve B pu d] pub)
  (ha:RWd w [ve B1 m1 d1] a) (hb:RWd w [ve B2 m2 d2] b) (hq:RWd w [ve B3 m3 d3] q) :
  vB prog 176 #[vf (ib L),Zb L.p (pu:Int) vars (ve A R c),ve B pu d,vf #[vd vn al,vd vn La,vd vn be],ve B1 m1 d1,ve B2 m2 d2,ve B3 m3 d3] w fun e w'=>e=vl (.bool (XG L (iu L.p rows.length La (1 :: pub) rows 3) a b q)) /\ vA w.1.size w w':=by
 have hp:=Rb hL.p;have HFi:=zH (fun w' (h:vA w.1.size w w')=>L3 L B1 B2 B3 m1 d1 m2 d2 m3 d3 a b q w' hL (Ab h ha) (Ab h hb) (Ab h hq) ⟨(Ob ha).1,(Ob hb).1,(Ob hq).1⟩)
 have HPt:=zH (fun w=>T9 L w hL)
 have HTg:=zH (fun w' (h:vA w.1.size w w')=>by have:=zG9 L pu La vars A B R c d rows pub w' hL hF (Pg Og _ _ _ _ h hr) (Ab h Zr);rw [zJo zO] at this;exact this)
 have HQ:=zH (fun x w' (h:vA w.1.size w w')=>P9 L.p B3 m3 d3 x q w' hL.p (Ab h hq))
 have HB:=zH (fun x w' (h:vA w.1.size w w')=>P9 L.p B2 m2 d2 x b w' hL.p (Ab h hb))
 have HA:=zH (fun a b w=>mn L.p a b w hL.p)
 have gB:=hL.b2;obtain ⟨t,ht⟩:=zEX (iu L.p rows.length La (1 :: pub) rows 3);rw [<- ht] at HTg |-;obtain ⟨D,hD⟩:=zEX (Th L.p 1 L.block);obtain ⟨Z,hZ⟩:∃ Z:Nat -> Nat,Z=fun k=>Vc L.p q (D k):=⟨_,rfl⟩
 obtain ⟨S,hS⟩:∃ S:Nat -> Nat,S=WG L.p (fun k=>Vc L.p b (D k)):=⟨_,rfl⟩
 obtain ⟨ans,Ep⟩:=zEX (XG L t a b q);have HE:=zH (show ans=(aw L a b q&&((List.range L.block).all fun k=>decide (Z k=0))&&decide (S L.block=t)) by rw [Ep,hS,hZ,hD];rfl)
 have HZ:=zH (show ∀ k,Vc L.p q (D k)=Z k from fun k=>by rw [hZ])
 have xr:=zH (show S 0=0 by rw [hS];rfl)
 have HS:=zH (show ∀ k,S (k+1)=(S k+Vc L.p b (D k))%L.p from fun k=>by rw [hS];rfl)
 rw [<- Ep];rw [<- hD] at HPt;generalize aw L a b q=b1 at *;clear hp ht hD hZ hS Ep hL hF hr Zr ha hb hq;unfold ib Zb fv at *;obtain ⟨kl,kt,kx,da,-⟩:=oq w 101 25 136 #[vd vn L.p,vd vq L.block,vd vq L.queries,vd vq L.k,vd vq L.n,vd vq L.secret,vd vq L.rows,vd vq L.a,vd vq L.b,vd vq L.b,vd vq L.b] #[vd vn L.p,vd vq pu,vd vq vars,ve A R c] #[vd vn al,vd vn La,vd vn be];go_enter func176,ntmps176
 go_upto_region 1 with fail
 generalize ((w.alloc _).alloc _).alloc _=w1 at kl kt kx da |-;have cl:=kl.cell;go_wp2_with fail
 refine (HFi.out _ da).mono ?_;rintro e w2 ⟨rfl,xa⟩;replace kl:=ia kl xa;replace kt:=ia kt xa;replace kx:=ia kx xa;replace da:=ma da xa;clear xa cl;cases b1
 ·have HF:=zH (show ans=false by rw [HE.out];simp)
  go_wp2;go_ret
  exact ⟨by rw [HF.out];rfl,da⟩
 have cl:=kl.cell;go_upto_region 4 with fail
 obtain ⟨kf,ja⟩:=zN w2 224 #[vd vn L.p];replace kl:=ia kl ja;replace kt:=ia kt ja;replace kx:=ia kx ja;replace da:=ma da ja;generalize w2.alloc _=w3 at kl kt kx kf da |-;generalize w2.1.size=gf at kf |-;clear ja cl;have cl:=kl.cell;go_wp2_with fail
 refine (HPt.out _).mono ?_;rintro e w4 ⟨g1,g2,rfl,kp,-,-,-,xa⟩;replace kl:=ia kl xa;replace kt:=ia kt xa;replace kx:=ia kx xa;replace kf:=ia kf xa;replace da:=ma da xa;clear xa cl HPt;go_wp2_with fail
 go_loopw [18,37] (fun y i wr=>∃ k:Nat,k <= L.block /\ i=vd vq k /\ y=vd vn (S k:Int) /\ Hid (∀ j,j<k -> Z j=0) /\ vA w4.1.size w4 wr) (fun _ i _=>L.block-(intOf i).toNat)
 case atStart=>exact ⟨0,Kb _,rfl,by rw [xr.out];rfl,zH fun j h=>absurd h (Nat.not_lt_zero _),tb _ _⟩
 case round =>
  obtain ⟨k,hk,rfl,rfl,HZs,hb⟩:=hrel;have Qp:=ia kf hb;have Vl:=ia kl hb;have kt':=ia kt hb;have kx':=ia kx hb;have kp':=ia kp hb;replace da:=ma da hb;have cf:=Qp.cell;have lf:=Qp.lt;by_cases ta:k<L.block
  ·have q1:(k:Int)<L.block:=by omega
   have q2:(0:Int)<=k:=by omega
   have cp:=kp'.cell k;rw [Uf _ ta] at cp;have lp:=kp'.lt;obtain ⟨x,hx⟩:=zEX (D k);obtain ⟨y,hy⟩:=zEX (Vc L.p b x);obtain ⟨z,hz⟩:=zEX (Z k);obtain ⟨s1,Xc⟩:=zEX (S (k+1));have xu:=zH (fun w' h=>by have:=HQ.out (D k) w' h;rw [HZ.out k,<- hz,<- hx] at this;exact this)
   have HB1:=zH (fun w' h=>by have:=HB.out x w' h;rw [<- hy] at this;exact this)
   have Pk:=zH (fun w=>by have:=HA.out (S k) y w;rw [hy,hx,<- HS.out k,<- hx,<- hy,<- Xc] at this;exact this)
   have HH:=zH (And.intro hz Xc);rw [<- hx] at cp;clear hx hy hz Xc;generalize S k=sk at *;go_wp2_with fail
   refine (xu.out _ da).mono ?_;rintro e w5 ⟨rfl,xa⟩;replace Qp:=Qp.below xa Qp.lt;replace da:=ma da xa;replace hb:=ma hb xa;clear xa cf lf cp lp;have cf:=Qp.cell;have lf:=Qp.lt;by_cases h0:z=0
   ·have q3:((z:Int) != 0)=false:=by rw [Hr];omega
    have FH:=zH (show ∀ j,j<k+1 -> Z j=0 from fun j hj=>by
     by_cases e:j=k
     ·rw [e,<- HH.out.1];exact h0
     ·exact HZs.out j zO)
    clear h0;go_upto_region 11 with fail
    refine zd (Wb) [5,6] [0,1,2,3,4,5,6,7] zK zK ?_;refine Ue (oa) ?_;intro Wc Ja ea;have Ma:=jg Ja;replace da:=ma da Ma;replace hb:=ma hb Ma;clear Ma;refine Pb ?_;refine Ic oa rfl rfl rfl ((HB1.out _ da).mono ?_);rintro e w6 ⟨rfl,xa⟩;refine ⟨_,rfl,xa,?_⟩;replace ea:=zM oa ea (xa);refine zPU ?_;replace da:=ma da xa;replace hb:=ma hb xa;clear xa;refine Pb ?_;refine Ic oa rfl rfl rfl ((Pk.out _).mono ?_);rintro e w7 ⟨rfl,xa⟩;refine ⟨_,rfl,xa,?_⟩;replace ea:=zM oa ea (xa);refine zPU ?_;replace da:=ma da xa;replace hb:=ma hb xa;clear xa;refine Pb ?_;refine Hc ?_;clear ea cf lf;go_wp2
    go_roundw
    case rel=>exact ⟨k+1,zO,by go_num,by rw [HH.out.2],FH,hb⟩
    case measure=>simp [intOf];omega
   ·have q3:((z:Int) != 0)=true:=by rw [ef];omega
    have HF:=zH (show ans=false by rw [HE.out,zCw ta (db (show ¬Z k=0 by rw [<- HH.out.1];exact h0))];simp)
    clear h0;go_wp2;go_ret
    exact ⟨by rw [HF.out];rfl,da⟩
  ·obtain rfl:k=L.block:=by omega
   have q1:¬((L.block:Int)<L.block):=by omega
   have Ii:=zH (show ans=decide (S L.block=t) by rw [HE.out,OY fun k hk=>xb (HZs.out k hk)];simp)
   have cl:=Vl.cell;have ct:=kt'.cell;have cx:=kx'.cell;generalize S L.block=s at *;go_wp2_with fail
   refine (HTg.out _ da).mono ?_;rintro e w5 ⟨rfl,xa⟩;replace da:=ma da xa;clear xa cl ct cx;by_cases hs:s=t
   ·have q3:((s:Int)==t)=true:=by rw [Dh];omega
    have HF:=zH (show ans=true by rw [Ii.out,xb hs])
    clear hs Ii;go_wp2;go_ret
    exact ⟨by rw [HF.out];rfl,da⟩
   ·have q3:((s:Int)==t)=false:=by rw [Gd];omega
    have HF:=zH (show ans=false by rw [Ii.out,db hs])
    clear hs Ii;go_wp2;go_ret
    exact ⟨by rw [HF.out];rfl,da⟩
def IG (L:Na) (t:Nat) (cs m:List (List Nat)) (be:Nat):Bool:=decide (LL L.p cs m m.length=t)&&(List.range L.block).all fun k=>decide (Vc L.p (Ko L.p L.a L.b (Ms (fun i=>(m.getD i []).getD k 0) m.length) be L.b) 0=0)
theorem zCx {n:Nat} {f g:Nat -> Bool} (h:∀ k,k<n -> f k=g k):(List.range n).all f=(List.range n).all g:=by
 rw [Bool.eq_iff_iff,fe,fe];exact ⟨fun h1 x hx=>by rw [<- h x (pj.1 hx)];exact h1 x hx,fun h1 x hx=>by rw [h x (pj.1 hx)];exact h1 x hx⟩
theorem MO {L:Na} (hL:Nb L) {m r:List (List Nat)} (h:Du L m r) (hm:∀ x∈m,∀ y∈x,y<L.p) {i k:Nat} (hi:i<m.length) (hk:k<L.block):Cg L.p (Lc ((ig L m r).getD i []) ((Th L.p 1 L.block k:Nat):Int)) (((m.getD i []).getD k 0:Nat):Int):=by
 obtain ⟨hp,-⟩:=Rb hL.p;rw [XD hL h hi];have h2:(r.getD i []).length=L.queries:=rF h.rr (by rw [h.rl];exact hi)
 have e:Dr L m r i=RA L (m.getD i []) (r.getD i []):=by unfold Dr ay RA;rw [h2,<- hL.k]
 rw [e];refine (Jr _).symm.trans (Cg.of_eq ?_);rw [zIt hL (fun j=>fw zO (rF (P:=fun x=>∀ y∈x,y<L.p) hm hi) j) hk]
theorem wt_at {L:Na} (hL:Nb L) {cs:List (List Nat)} (Yf:∀ x∈cs,x.length=L.block) {j k:Nat} (hj:j<cs.length) (hk:k<L.block):Cg L.p (Lc ((Vp L.p cs).getD j []) ((Th L.p 1 L.block k:Nat):Int)) (((cs.getD j []).getD k 0:Nat):Int):=by
 obtain ⟨hlen,t,ht⟩:=Vy hL;have Xu:L.block=2^L.block.log2:=by rw [ht,Sz]
 rw [nY hL Yf hj];unfold Lc Bt;rw [Zm,Yo,XT];exact (yp (fun i=>Cg.rfl') yM _).trans (sV _ hL.p hlen Xu hk)
theorem CX {p:Nat} (a b:List (List Nat)):∀ n,Cg p (LL p a b n:Int) (Pa (fun i=>Pa (fun k=>(((a.getD i []).getD k 0:Nat):Int)*(((b.getD i []).getD k 0:Nat):Int)) (a.getD i []).length) n)
 | 0=>Cg.of_eq rfl
 | n+1=>(Cg.mod _).trans ((Cg.of_eq (um _ _)).trans ((CX a b n).add (QT _ _ _)))
theorem zBd {p:Nat} (hp:0<p) (a b:List (List Nat)):∀ n,LL p a b n<p
 | 0=>hp
 | _+1=>mc _ hp
/-- The answers have the right sums E1 if the messages pass. -/
theorem zJn {L:Na} (hL:Nb L) {cs m r:List (List Nat)} (h:Du L m r) (hm:∀ x∈m,∀ y∈x,y<L.p) (Yf:∀ x∈cs,x.length=L.block) (Kg:cs.length=m.length) {co li qu:List Nat} (hc:co.length=L.k /\ ∀ y∈co,y<L.p) (hl:li.length=L.k+L.block-2 /\ ∀ y∈li,y<L.p) (hq:qu.length=L.block+2*L.queries-1) (al be t:Nat) :
  XG L t (Xz L m r co al) (Yx L cs m r li) (Zx L m r qu be)=IG L t cs m be:=by
 obtain ⟨hp,-⟩:=Rb hL.p;have Mf:0<L.p:=by omega
 have e1:∀ k,k<L.block -> Vc L.p (Zx L m r qu be) (Th L.p 1 L.block k)=Vc L.p (Ko L.p L.a L.b (Ms (fun i=>(m.getD i []).getD k 0) m.length) be L.b) 0:=fun k hk=>by
  refine Cg.eq (p:=L.p) ?_ (Qu Mf _ _) (Qu Mf _ _);refine (Jr _).trans ?_;refine (ZY zO m r qu be _).trans ?_;refine Cg.trans ?_ (xR zO h.ml.symm _ be).symm;have e0:Cg L.p (Lc (qx L qu) ((Th L.p 1 L.block k:Nat):Int)) 0:=by
   rw [wR hL hq];refine (Jr _).symm.trans (Cg.of_eq ?_);rw [zHW hL];rfl
  have Tj:=h.ml;refine (e0.add (Wi _ fun j hj=>Cg.rfl'.mul (((MO hL h hm (i:=L.a+j) zO hk).mul (MO hL h hm (i:=L.a+L.b+j) zO hk)).less (MO hL h hm (i:=L.a+L.b+L.b+j) zO hk)))).trans (Cg.of_eq ?_)
  rw [Int.zero_add]
 have e2:WG L.p (fun k=>Vc L.p (Yx L cs m r li) (Th L.p 1 L.block k)) L.block=LL L.p cs m m.length:=by
  refine Cg.eq (p:=L.p) ?_ (zBh Mf _ _) (zBd Mf _ _ _);refine (YR _ _).trans ?_;refine Cg.trans ?_ (CX _ _ _).symm;refine (Wi (g:=fun k=>(Vc L.p (Fg L li) (Th L.p 1 L.block k):Int)+Pa (fun j=>(((cs.getD j []).getD k 0:Nat):Int)*(((m.getD j []).getD k 0:Nat):Int)) m.length) _ fun k hk=>?_).trans ?_
  ·refine (Jr _).trans ((YY cs m r li _).trans ?_)
   exact (Jr _).symm.add (Wi _ fun j hj=>(wt_at hL Yf zO hk).mul (MO hL h hm hj hk))
  ·rw [ML]
   have e3:Cg L.p (Pa (fun k=>(Vc L.p (Fg L li) (Th L.p 1 L.block k):Int)) L.block) 0:=by
    refine (YR _ _).symm.trans (Cg.of_eq ?_);rw [zFv hL];rfl
   refine (e3.add Cg.rfl').trans ?_;rw [Int.zero_add,pB];refine Wi _ fun j hj=>Cg.of_eq ?_
   rw [rF Yf (show j<cs.length by omega)]
 unfold XG IG;rw [aZ hL h Yf Kg hc hl hq al be,e2,Bool.true_and,Bool.and_comm]
 congr 1
 exact zCx fun k hk=>by rw [e1 k hk]
end Go.Proofs.YteoghgbnielkpaaGreat
